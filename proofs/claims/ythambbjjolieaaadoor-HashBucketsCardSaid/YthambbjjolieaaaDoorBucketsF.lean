/- Part 6 of 7 of the proof: own texts joined by a program. -/
import Derived.Test.YthambbjjolieaaaDoorBucketsE
set_option linter.all false
section
namespace Go.Sh
set_option linter.unusedSimpArgs false
set_option linter.unusedVariables false
set_option maxRecDepth 10000

def rdX (p : api_Page) : A8 pointer_Pointer := ⟨dp (lo p.Data.a1), dp (hi p.Data.a1), dp (lo p.Data.a2), dp (hi p.Data.a2), dp (lo p.Data.a3), dp (hi p.Data.a3), dp (lo p.Data.a4), dp (hi p.Data.a4)⟩
def rdXB (p : api_Page) : Bool := okw (lo p.Data.a1) && okw (hi p.Data.a1) && okw (lo p.Data.a2) && okw (hi p.Data.a2) && okw (lo p.Data.a3) && okw (hi p.Data.a3) && okw (lo p.Data.a4) && okw (hi p.Data.a4)
def rdS (p : api_Page) : A8 pointer_Pointer × Int :=
  if p.Data.a0 % 256 = 3 ∧ rdXB p = true ∧ hi p.Data.a0 = 0 ∧ p.Data.a5 = 0 ∧ p.Data.a6 = 0 then (rdX p, 0) else (zero8, 14)
theorem isKind_eq {p : api_Page} (h : k_u64 p.Data.a0) (k : Int) : hashindex_isKind p k = some (p.Data.a0 % 256 == k) := by
  unfold k_u64 at h
  unfold hashindex_isKind pointer_UnpackTag
  rw [bind_s]
  simp only
  rw [and64_255 (x := p.Data.a0) (by omega), i64_in' (x := p.Data.a0 % 256) (by omega)]
theorem pk_dp {w : Int} (h : okw w = true) (h0 : 0 ≤ w ∧ w < 4294967296) : pkP (dp w) = w := by
  unfold okw at h
  rw [Bool.or_eq_true] at h
  unfold pkP pk dp
  rcases h with h | h
  · rw [beq_iff_eq] at h
    subst h
    rfl
  · simp only [h, if_true]
    omega
theorem two_lohi {w : Int} : two (lo w) (hi w) = w := by unfold two lo hi; omega
theorem rx0 (p : api_Page) (h : k_A7 k_u64 p.Data) (b x) : iter (hashindex_ReadSlots_L1 p) (x, b, 0) = iter (hashindex_ReadSlots_L1 p) ({ x with a0 := dp (lo p.Data.a1) }, b && okw (lo p.Data.a1), 1) := by
  obtain ⟨h0, h1, h2, h3, h4, _⟩ := h
  unfold k_u64 at h1 h2 h3 h4
  rw [iter_eq]
  simp (disch := omega) only [hashindex_ReadSlots_L1, i64_in', u64_in', Int.reduceTDiv, Int.reduceTMod, Int.reduceMul, Int.reduceAdd, A7.get, A8.set, Int.reduceEq, if_true, if_false, Int.reduceLT, Int.reduceLE, and_self, decide_true, shr_u64_0, shr_u64_32, u32_lo, u32_hi h1, u32_hi h2, u32_hi h3, u32_hi h4, unpack_eq lo_r, unpack_eq (hi_r h1), unpack_eq (hi_r h2), unpack_eq (hi_r h3), unpack_eq (hi_r h4), bind_s]
  cases b <;> simp [dp]
theorem ry0 (p : api_Page) (h : k_A7 k_u64 p.Data) (x) : iter (bodegaref23_ReadSlots_L1 p) (x, 0) = if okw (lo p.Data.a1) = true then iter (bodegaref23_ReadSlots_L1 p) ({ x with a0 := cP (dp (lo p.Data.a1)) }, 1) else some (c8 zero8, 14) := by
  obtain ⟨h0, h1, h2, h3, h4, _⟩ := h
  unfold k_u64 at h1 h2 h3 h4
  rw [iter_eq]
  have hh1 := hi_r h1
  have m1 : hi p.Data.a1 % 4294967296 = hi p.Data.a1 := by omega
  have e1 : p.Data.a1 / 4294967296 = hi p.Data.a1 := rfl
  have l1 : p.Data.a1 % 4294967296 = lo p.Data.a1 := rfl
  have hh2 := hi_r h2
  have m2 : hi p.Data.a2 % 4294967296 = hi p.Data.a2 := by omega
  have e2 : p.Data.a2 / 4294967296 = hi p.Data.a2 := rfl
  have l2 : p.Data.a2 % 4294967296 = lo p.Data.a2 := rfl
  have hh3 := hi_r h3
  have m3 : hi p.Data.a3 % 4294967296 = hi p.Data.a3 := by omega
  have e3 : p.Data.a3 / 4294967296 = hi p.Data.a3 := rfl
  have l3 : p.Data.a3 % 4294967296 = lo p.Data.a3 := rfl
  have hh4 := hi_r h4
  have m4 : hi p.Data.a4 % 4294967296 = hi p.Data.a4 := by omega
  have e4 : p.Data.a4 / 4294967296 = hi p.Data.a4 := rfl
  have l4 : p.Data.a4 % 4294967296 = lo p.Data.a4 := rfl
  simp (disch := omega) only [bodegaref23_ReadSlots_L1, i64_in', u64_in', Int.reduceTDiv, Int.reduceTMod, Int.reduceMod, Int.reduceMul, Int.reduceAdd, A7.get, A8.set, Int.reduceEq, if_true, if_false, Int.reduceLT, Int.reduceLE, and_self, decide_true, shr_u64_0, shr_u64_32, tmod_pos, e1, e2, e3, e4, m1, m2, m3, m4, l1, l2, l3, l4, pointer_eq lo_r, pointer_eq (hi_r h1), pointer_eq (hi_r h2), pointer_eq (hi_r h3), pointer_eq (hi_r h4), bind_s]
  rcases Bool.eq_false_or_eq_true (okw (lo p.Data.a1)) with hb | hb <;> simp only [hb, Bool.not_true, Bool.not_false, Bool.false_eq_true, if_true, if_false, Option.map_some, bind_s] <;> rfl
theorem rx1 (p : api_Page) (h : k_A7 k_u64 p.Data) (b x) : iter (hashindex_ReadSlots_L1 p) (x, b, 1) = iter (hashindex_ReadSlots_L1 p) ({ x with a1 := dp (hi p.Data.a1) }, b && okw (hi p.Data.a1), 2) := by
  obtain ⟨h0, h1, h2, h3, h4, _⟩ := h
  unfold k_u64 at h1 h2 h3 h4
  rw [iter_eq]
  simp (disch := omega) only [hashindex_ReadSlots_L1, i64_in', u64_in', Int.reduceTDiv, Int.reduceTMod, Int.reduceMul, Int.reduceAdd, A7.get, A8.set, Int.reduceEq, if_true, if_false, Int.reduceLT, Int.reduceLE, and_self, decide_true, shr_u64_0, shr_u64_32, u32_lo, u32_hi h1, u32_hi h2, u32_hi h3, u32_hi h4, unpack_eq lo_r, unpack_eq (hi_r h1), unpack_eq (hi_r h2), unpack_eq (hi_r h3), unpack_eq (hi_r h4), bind_s]
  cases b <;> simp [dp]
theorem ry1 (p : api_Page) (h : k_A7 k_u64 p.Data) (x) : iter (bodegaref23_ReadSlots_L1 p) (x, 1) = if okw (hi p.Data.a1) = true then iter (bodegaref23_ReadSlots_L1 p) ({ x with a1 := cP (dp (hi p.Data.a1)) }, 2) else some (c8 zero8, 14) := by
  obtain ⟨h0, h1, h2, h3, h4, _⟩ := h
  unfold k_u64 at h1 h2 h3 h4
  rw [iter_eq]
  have hh1 := hi_r h1
  have m1 : hi p.Data.a1 % 4294967296 = hi p.Data.a1 := by omega
  have e1 : p.Data.a1 / 4294967296 = hi p.Data.a1 := rfl
  have l1 : p.Data.a1 % 4294967296 = lo p.Data.a1 := rfl
  have hh2 := hi_r h2
  have m2 : hi p.Data.a2 % 4294967296 = hi p.Data.a2 := by omega
  have e2 : p.Data.a2 / 4294967296 = hi p.Data.a2 := rfl
  have l2 : p.Data.a2 % 4294967296 = lo p.Data.a2 := rfl
  have hh3 := hi_r h3
  have m3 : hi p.Data.a3 % 4294967296 = hi p.Data.a3 := by omega
  have e3 : p.Data.a3 / 4294967296 = hi p.Data.a3 := rfl
  have l3 : p.Data.a3 % 4294967296 = lo p.Data.a3 := rfl
  have hh4 := hi_r h4
  have m4 : hi p.Data.a4 % 4294967296 = hi p.Data.a4 := by omega
  have e4 : p.Data.a4 / 4294967296 = hi p.Data.a4 := rfl
  have l4 : p.Data.a4 % 4294967296 = lo p.Data.a4 := rfl
  simp (disch := omega) only [bodegaref23_ReadSlots_L1, i64_in', u64_in', Int.reduceTDiv, Int.reduceTMod, Int.reduceMod, Int.reduceMul, Int.reduceAdd, A7.get, A8.set, Int.reduceEq, if_true, if_false, Int.reduceLT, Int.reduceLE, and_self, decide_true, shr_u64_0, shr_u64_32, tmod_pos, e1, e2, e3, e4, m1, m2, m3, m4, l1, l2, l3, l4, pointer_eq lo_r, pointer_eq (hi_r h1), pointer_eq (hi_r h2), pointer_eq (hi_r h3), pointer_eq (hi_r h4), bind_s]
  rcases Bool.eq_false_or_eq_true (okw (hi p.Data.a1)) with hb | hb <;> simp only [hb, Bool.not_true, Bool.not_false, Bool.false_eq_true, if_true, if_false, Option.map_some, bind_s] <;> rfl
theorem rx2 (p : api_Page) (h : k_A7 k_u64 p.Data) (b x) : iter (hashindex_ReadSlots_L1 p) (x, b, 2) = iter (hashindex_ReadSlots_L1 p) ({ x with a2 := dp (lo p.Data.a2) }, b && okw (lo p.Data.a2), 3) := by
  obtain ⟨h0, h1, h2, h3, h4, _⟩ := h
  unfold k_u64 at h1 h2 h3 h4
  rw [iter_eq]
  simp (disch := omega) only [hashindex_ReadSlots_L1, i64_in', u64_in', Int.reduceTDiv, Int.reduceTMod, Int.reduceMul, Int.reduceAdd, A7.get, A8.set, Int.reduceEq, if_true, if_false, Int.reduceLT, Int.reduceLE, and_self, decide_true, shr_u64_0, shr_u64_32, u32_lo, u32_hi h1, u32_hi h2, u32_hi h3, u32_hi h4, unpack_eq lo_r, unpack_eq (hi_r h1), unpack_eq (hi_r h2), unpack_eq (hi_r h3), unpack_eq (hi_r h4), bind_s]
  cases b <;> simp [dp]
theorem ry2 (p : api_Page) (h : k_A7 k_u64 p.Data) (x) : iter (bodegaref23_ReadSlots_L1 p) (x, 2) = if okw (lo p.Data.a2) = true then iter (bodegaref23_ReadSlots_L1 p) ({ x with a2 := cP (dp (lo p.Data.a2)) }, 3) else some (c8 zero8, 14) := by
  obtain ⟨h0, h1, h2, h3, h4, _⟩ := h
  unfold k_u64 at h1 h2 h3 h4
  rw [iter_eq]
  have hh1 := hi_r h1
  have m1 : hi p.Data.a1 % 4294967296 = hi p.Data.a1 := by omega
  have e1 : p.Data.a1 / 4294967296 = hi p.Data.a1 := rfl
  have l1 : p.Data.a1 % 4294967296 = lo p.Data.a1 := rfl
  have hh2 := hi_r h2
  have m2 : hi p.Data.a2 % 4294967296 = hi p.Data.a2 := by omega
  have e2 : p.Data.a2 / 4294967296 = hi p.Data.a2 := rfl
  have l2 : p.Data.a2 % 4294967296 = lo p.Data.a2 := rfl
  have hh3 := hi_r h3
  have m3 : hi p.Data.a3 % 4294967296 = hi p.Data.a3 := by omega
  have e3 : p.Data.a3 / 4294967296 = hi p.Data.a3 := rfl
  have l3 : p.Data.a3 % 4294967296 = lo p.Data.a3 := rfl
  have hh4 := hi_r h4
  have m4 : hi p.Data.a4 % 4294967296 = hi p.Data.a4 := by omega
  have e4 : p.Data.a4 / 4294967296 = hi p.Data.a4 := rfl
  have l4 : p.Data.a4 % 4294967296 = lo p.Data.a4 := rfl
  simp (disch := omega) only [bodegaref23_ReadSlots_L1, i64_in', u64_in', Int.reduceTDiv, Int.reduceTMod, Int.reduceMod, Int.reduceMul, Int.reduceAdd, A7.get, A8.set, Int.reduceEq, if_true, if_false, Int.reduceLT, Int.reduceLE, and_self, decide_true, shr_u64_0, shr_u64_32, tmod_pos, e1, e2, e3, e4, m1, m2, m3, m4, l1, l2, l3, l4, pointer_eq lo_r, pointer_eq (hi_r h1), pointer_eq (hi_r h2), pointer_eq (hi_r h3), pointer_eq (hi_r h4), bind_s]
  rcases Bool.eq_false_or_eq_true (okw (lo p.Data.a2)) with hb | hb <;> simp only [hb, Bool.not_true, Bool.not_false, Bool.false_eq_true, if_true, if_false, Option.map_some, bind_s] <;> rfl
theorem rx3 (p : api_Page) (h : k_A7 k_u64 p.Data) (b x) : iter (hashindex_ReadSlots_L1 p) (x, b, 3) = iter (hashindex_ReadSlots_L1 p) ({ x with a3 := dp (hi p.Data.a2) }, b && okw (hi p.Data.a2), 4) := by
  obtain ⟨h0, h1, h2, h3, h4, _⟩ := h
  unfold k_u64 at h1 h2 h3 h4
  rw [iter_eq]
  simp (disch := omega) only [hashindex_ReadSlots_L1, i64_in', u64_in', Int.reduceTDiv, Int.reduceTMod, Int.reduceMul, Int.reduceAdd, A7.get, A8.set, Int.reduceEq, if_true, if_false, Int.reduceLT, Int.reduceLE, and_self, decide_true, shr_u64_0, shr_u64_32, u32_lo, u32_hi h1, u32_hi h2, u32_hi h3, u32_hi h4, unpack_eq lo_r, unpack_eq (hi_r h1), unpack_eq (hi_r h2), unpack_eq (hi_r h3), unpack_eq (hi_r h4), bind_s]
  cases b <;> simp [dp]
theorem ry3 (p : api_Page) (h : k_A7 k_u64 p.Data) (x) : iter (bodegaref23_ReadSlots_L1 p) (x, 3) = if okw (hi p.Data.a2) = true then iter (bodegaref23_ReadSlots_L1 p) ({ x with a3 := cP (dp (hi p.Data.a2)) }, 4) else some (c8 zero8, 14) := by
  obtain ⟨h0, h1, h2, h3, h4, _⟩ := h
  unfold k_u64 at h1 h2 h3 h4
  rw [iter_eq]
  have hh1 := hi_r h1
  have m1 : hi p.Data.a1 % 4294967296 = hi p.Data.a1 := by omega
  have e1 : p.Data.a1 / 4294967296 = hi p.Data.a1 := rfl
  have l1 : p.Data.a1 % 4294967296 = lo p.Data.a1 := rfl
  have hh2 := hi_r h2
  have m2 : hi p.Data.a2 % 4294967296 = hi p.Data.a2 := by omega
  have e2 : p.Data.a2 / 4294967296 = hi p.Data.a2 := rfl
  have l2 : p.Data.a2 % 4294967296 = lo p.Data.a2 := rfl
  have hh3 := hi_r h3
  have m3 : hi p.Data.a3 % 4294967296 = hi p.Data.a3 := by omega
  have e3 : p.Data.a3 / 4294967296 = hi p.Data.a3 := rfl
  have l3 : p.Data.a3 % 4294967296 = lo p.Data.a3 := rfl
  have hh4 := hi_r h4
  have m4 : hi p.Data.a4 % 4294967296 = hi p.Data.a4 := by omega
  have e4 : p.Data.a4 / 4294967296 = hi p.Data.a4 := rfl
  have l4 : p.Data.a4 % 4294967296 = lo p.Data.a4 := rfl
  simp (disch := omega) only [bodegaref23_ReadSlots_L1, i64_in', u64_in', Int.reduceTDiv, Int.reduceTMod, Int.reduceMod, Int.reduceMul, Int.reduceAdd, A7.get, A8.set, Int.reduceEq, if_true, if_false, Int.reduceLT, Int.reduceLE, and_self, decide_true, shr_u64_0, shr_u64_32, tmod_pos, e1, e2, e3, e4, m1, m2, m3, m4, l1, l2, l3, l4, pointer_eq lo_r, pointer_eq (hi_r h1), pointer_eq (hi_r h2), pointer_eq (hi_r h3), pointer_eq (hi_r h4), bind_s]
  rcases Bool.eq_false_or_eq_true (okw (hi p.Data.a2)) with hb | hb <;> simp only [hb, Bool.not_true, Bool.not_false, Bool.false_eq_true, if_true, if_false, Option.map_some, bind_s] <;> rfl
theorem rx4 (p : api_Page) (h : k_A7 k_u64 p.Data) (b x) : iter (hashindex_ReadSlots_L1 p) (x, b, 4) = iter (hashindex_ReadSlots_L1 p) ({ x with a4 := dp (lo p.Data.a3) }, b && okw (lo p.Data.a3), 5) := by
  obtain ⟨h0, h1, h2, h3, h4, _⟩ := h
  unfold k_u64 at h1 h2 h3 h4
  rw [iter_eq]
  simp (disch := omega) only [hashindex_ReadSlots_L1, i64_in', u64_in', Int.reduceTDiv, Int.reduceTMod, Int.reduceMul, Int.reduceAdd, A7.get, A8.set, Int.reduceEq, if_true, if_false, Int.reduceLT, Int.reduceLE, and_self, decide_true, shr_u64_0, shr_u64_32, u32_lo, u32_hi h1, u32_hi h2, u32_hi h3, u32_hi h4, unpack_eq lo_r, unpack_eq (hi_r h1), unpack_eq (hi_r h2), unpack_eq (hi_r h3), unpack_eq (hi_r h4), bind_s]
  cases b <;> simp [dp]
theorem ry4 (p : api_Page) (h : k_A7 k_u64 p.Data) (x) : iter (bodegaref23_ReadSlots_L1 p) (x, 4) = if okw (lo p.Data.a3) = true then iter (bodegaref23_ReadSlots_L1 p) ({ x with a4 := cP (dp (lo p.Data.a3)) }, 5) else some (c8 zero8, 14) := by
  obtain ⟨h0, h1, h2, h3, h4, _⟩ := h
  unfold k_u64 at h1 h2 h3 h4
  rw [iter_eq]
  have hh1 := hi_r h1
  have m1 : hi p.Data.a1 % 4294967296 = hi p.Data.a1 := by omega
  have e1 : p.Data.a1 / 4294967296 = hi p.Data.a1 := rfl
  have l1 : p.Data.a1 % 4294967296 = lo p.Data.a1 := rfl
  have hh2 := hi_r h2
  have m2 : hi p.Data.a2 % 4294967296 = hi p.Data.a2 := by omega
  have e2 : p.Data.a2 / 4294967296 = hi p.Data.a2 := rfl
  have l2 : p.Data.a2 % 4294967296 = lo p.Data.a2 := rfl
  have hh3 := hi_r h3
  have m3 : hi p.Data.a3 % 4294967296 = hi p.Data.a3 := by omega
  have e3 : p.Data.a3 / 4294967296 = hi p.Data.a3 := rfl
  have l3 : p.Data.a3 % 4294967296 = lo p.Data.a3 := rfl
  have hh4 := hi_r h4
  have m4 : hi p.Data.a4 % 4294967296 = hi p.Data.a4 := by omega
  have e4 : p.Data.a4 / 4294967296 = hi p.Data.a4 := rfl
  have l4 : p.Data.a4 % 4294967296 = lo p.Data.a4 := rfl
  simp (disch := omega) only [bodegaref23_ReadSlots_L1, i64_in', u64_in', Int.reduceTDiv, Int.reduceTMod, Int.reduceMod, Int.reduceMul, Int.reduceAdd, A7.get, A8.set, Int.reduceEq, if_true, if_false, Int.reduceLT, Int.reduceLE, and_self, decide_true, shr_u64_0, shr_u64_32, tmod_pos, e1, e2, e3, e4, m1, m2, m3, m4, l1, l2, l3, l4, pointer_eq lo_r, pointer_eq (hi_r h1), pointer_eq (hi_r h2), pointer_eq (hi_r h3), pointer_eq (hi_r h4), bind_s]
  rcases Bool.eq_false_or_eq_true (okw (lo p.Data.a3)) with hb | hb <;> simp only [hb, Bool.not_true, Bool.not_false, Bool.false_eq_true, if_true, if_false, Option.map_some, bind_s] <;> rfl
theorem rx5 (p : api_Page) (h : k_A7 k_u64 p.Data) (b x) : iter (hashindex_ReadSlots_L1 p) (x, b, 5) = iter (hashindex_ReadSlots_L1 p) ({ x with a5 := dp (hi p.Data.a3) }, b && okw (hi p.Data.a3), 6) := by
  obtain ⟨h0, h1, h2, h3, h4, _⟩ := h
  unfold k_u64 at h1 h2 h3 h4
  rw [iter_eq]
  simp (disch := omega) only [hashindex_ReadSlots_L1, i64_in', u64_in', Int.reduceTDiv, Int.reduceTMod, Int.reduceMul, Int.reduceAdd, A7.get, A8.set, Int.reduceEq, if_true, if_false, Int.reduceLT, Int.reduceLE, and_self, decide_true, shr_u64_0, shr_u64_32, u32_lo, u32_hi h1, u32_hi h2, u32_hi h3, u32_hi h4, unpack_eq lo_r, unpack_eq (hi_r h1), unpack_eq (hi_r h2), unpack_eq (hi_r h3), unpack_eq (hi_r h4), bind_s]
  cases b <;> simp [dp]
theorem ry5 (p : api_Page) (h : k_A7 k_u64 p.Data) (x) : iter (bodegaref23_ReadSlots_L1 p) (x, 5) = if okw (hi p.Data.a3) = true then iter (bodegaref23_ReadSlots_L1 p) ({ x with a5 := cP (dp (hi p.Data.a3)) }, 6) else some (c8 zero8, 14) := by
  obtain ⟨h0, h1, h2, h3, h4, _⟩ := h
  unfold k_u64 at h1 h2 h3 h4
  rw [iter_eq]
  have hh1 := hi_r h1
  have m1 : hi p.Data.a1 % 4294967296 = hi p.Data.a1 := by omega
  have e1 : p.Data.a1 / 4294967296 = hi p.Data.a1 := rfl
  have l1 : p.Data.a1 % 4294967296 = lo p.Data.a1 := rfl
  have hh2 := hi_r h2
  have m2 : hi p.Data.a2 % 4294967296 = hi p.Data.a2 := by omega
  have e2 : p.Data.a2 / 4294967296 = hi p.Data.a2 := rfl
  have l2 : p.Data.a2 % 4294967296 = lo p.Data.a2 := rfl
  have hh3 := hi_r h3
  have m3 : hi p.Data.a3 % 4294967296 = hi p.Data.a3 := by omega
  have e3 : p.Data.a3 / 4294967296 = hi p.Data.a3 := rfl
  have l3 : p.Data.a3 % 4294967296 = lo p.Data.a3 := rfl
  have hh4 := hi_r h4
  have m4 : hi p.Data.a4 % 4294967296 = hi p.Data.a4 := by omega
  have e4 : p.Data.a4 / 4294967296 = hi p.Data.a4 := rfl
  have l4 : p.Data.a4 % 4294967296 = lo p.Data.a4 := rfl
  simp (disch := omega) only [bodegaref23_ReadSlots_L1, i64_in', u64_in', Int.reduceTDiv, Int.reduceTMod, Int.reduceMod, Int.reduceMul, Int.reduceAdd, A7.get, A8.set, Int.reduceEq, if_true, if_false, Int.reduceLT, Int.reduceLE, and_self, decide_true, shr_u64_0, shr_u64_32, tmod_pos, e1, e2, e3, e4, m1, m2, m3, m4, l1, l2, l3, l4, pointer_eq lo_r, pointer_eq (hi_r h1), pointer_eq (hi_r h2), pointer_eq (hi_r h3), pointer_eq (hi_r h4), bind_s]
  rcases Bool.eq_false_or_eq_true (okw (hi p.Data.a3)) with hb | hb <;> simp only [hb, Bool.not_true, Bool.not_false, Bool.false_eq_true, if_true, if_false, Option.map_some, bind_s] <;> rfl
theorem rx6 (p : api_Page) (h : k_A7 k_u64 p.Data) (b x) : iter (hashindex_ReadSlots_L1 p) (x, b, 6) = iter (hashindex_ReadSlots_L1 p) ({ x with a6 := dp (lo p.Data.a4) }, b && okw (lo p.Data.a4), 7) := by
  obtain ⟨h0, h1, h2, h3, h4, _⟩ := h
  unfold k_u64 at h1 h2 h3 h4
  rw [iter_eq]
  simp (disch := omega) only [hashindex_ReadSlots_L1, i64_in', u64_in', Int.reduceTDiv, Int.reduceTMod, Int.reduceMul, Int.reduceAdd, A7.get, A8.set, Int.reduceEq, if_true, if_false, Int.reduceLT, Int.reduceLE, and_self, decide_true, shr_u64_0, shr_u64_32, u32_lo, u32_hi h1, u32_hi h2, u32_hi h3, u32_hi h4, unpack_eq lo_r, unpack_eq (hi_r h1), unpack_eq (hi_r h2), unpack_eq (hi_r h3), unpack_eq (hi_r h4), bind_s]
  cases b <;> simp [dp]
theorem ry6 (p : api_Page) (h : k_A7 k_u64 p.Data) (x) : iter (bodegaref23_ReadSlots_L1 p) (x, 6) = if okw (lo p.Data.a4) = true then iter (bodegaref23_ReadSlots_L1 p) ({ x with a6 := cP (dp (lo p.Data.a4)) }, 7) else some (c8 zero8, 14) := by
  obtain ⟨h0, h1, h2, h3, h4, _⟩ := h
  unfold k_u64 at h1 h2 h3 h4
  rw [iter_eq]
  have hh1 := hi_r h1
  have m1 : hi p.Data.a1 % 4294967296 = hi p.Data.a1 := by omega
  have e1 : p.Data.a1 / 4294967296 = hi p.Data.a1 := rfl
  have l1 : p.Data.a1 % 4294967296 = lo p.Data.a1 := rfl
  have hh2 := hi_r h2
  have m2 : hi p.Data.a2 % 4294967296 = hi p.Data.a2 := by omega
  have e2 : p.Data.a2 / 4294967296 = hi p.Data.a2 := rfl
  have l2 : p.Data.a2 % 4294967296 = lo p.Data.a2 := rfl
  have hh3 := hi_r h3
  have m3 : hi p.Data.a3 % 4294967296 = hi p.Data.a3 := by omega
  have e3 : p.Data.a3 / 4294967296 = hi p.Data.a3 := rfl
  have l3 : p.Data.a3 % 4294967296 = lo p.Data.a3 := rfl
  have hh4 := hi_r h4
  have m4 : hi p.Data.a4 % 4294967296 = hi p.Data.a4 := by omega
  have e4 : p.Data.a4 / 4294967296 = hi p.Data.a4 := rfl
  have l4 : p.Data.a4 % 4294967296 = lo p.Data.a4 := rfl
  simp (disch := omega) only [bodegaref23_ReadSlots_L1, i64_in', u64_in', Int.reduceTDiv, Int.reduceTMod, Int.reduceMod, Int.reduceMul, Int.reduceAdd, A7.get, A8.set, Int.reduceEq, if_true, if_false, Int.reduceLT, Int.reduceLE, and_self, decide_true, shr_u64_0, shr_u64_32, tmod_pos, e1, e2, e3, e4, m1, m2, m3, m4, l1, l2, l3, l4, pointer_eq lo_r, pointer_eq (hi_r h1), pointer_eq (hi_r h2), pointer_eq (hi_r h3), pointer_eq (hi_r h4), bind_s]
  rcases Bool.eq_false_or_eq_true (okw (lo p.Data.a4)) with hb | hb <;> simp only [hb, Bool.not_true, Bool.not_false, Bool.false_eq_true, if_true, if_false, Option.map_some, bind_s] <;> rfl
theorem rx7 (p : api_Page) (h : k_A7 k_u64 p.Data) (b x) : iter (hashindex_ReadSlots_L1 p) (x, b, 7) = iter (hashindex_ReadSlots_L1 p) ({ x with a7 := dp (hi p.Data.a4) }, b && okw (hi p.Data.a4), 8) := by
  obtain ⟨h0, h1, h2, h3, h4, _⟩ := h
  unfold k_u64 at h1 h2 h3 h4
  rw [iter_eq]
  simp (disch := omega) only [hashindex_ReadSlots_L1, i64_in', u64_in', Int.reduceTDiv, Int.reduceTMod, Int.reduceMul, Int.reduceAdd, A7.get, A8.set, Int.reduceEq, if_true, if_false, Int.reduceLT, Int.reduceLE, and_self, decide_true, shr_u64_0, shr_u64_32, u32_lo, u32_hi h1, u32_hi h2, u32_hi h3, u32_hi h4, unpack_eq lo_r, unpack_eq (hi_r h1), unpack_eq (hi_r h2), unpack_eq (hi_r h3), unpack_eq (hi_r h4), bind_s]
  cases b <;> simp [dp]
theorem ry7 (p : api_Page) (h : k_A7 k_u64 p.Data) (x) : iter (bodegaref23_ReadSlots_L1 p) (x, 7) = if okw (hi p.Data.a4) = true then iter (bodegaref23_ReadSlots_L1 p) ({ x with a7 := cP (dp (hi p.Data.a4)) }, 8) else some (c8 zero8, 14) := by
  obtain ⟨h0, h1, h2, h3, h4, _⟩ := h
  unfold k_u64 at h1 h2 h3 h4
  rw [iter_eq]
  have hh1 := hi_r h1
  have m1 : hi p.Data.a1 % 4294967296 = hi p.Data.a1 := by omega
  have e1 : p.Data.a1 / 4294967296 = hi p.Data.a1 := rfl
  have l1 : p.Data.a1 % 4294967296 = lo p.Data.a1 := rfl
  have hh2 := hi_r h2
  have m2 : hi p.Data.a2 % 4294967296 = hi p.Data.a2 := by omega
  have e2 : p.Data.a2 / 4294967296 = hi p.Data.a2 := rfl
  have l2 : p.Data.a2 % 4294967296 = lo p.Data.a2 := rfl
  have hh3 := hi_r h3
  have m3 : hi p.Data.a3 % 4294967296 = hi p.Data.a3 := by omega
  have e3 : p.Data.a3 / 4294967296 = hi p.Data.a3 := rfl
  have l3 : p.Data.a3 % 4294967296 = lo p.Data.a3 := rfl
  have hh4 := hi_r h4
  have m4 : hi p.Data.a4 % 4294967296 = hi p.Data.a4 := by omega
  have e4 : p.Data.a4 / 4294967296 = hi p.Data.a4 := rfl
  have l4 : p.Data.a4 % 4294967296 = lo p.Data.a4 := rfl
  simp (disch := omega) only [bodegaref23_ReadSlots_L1, i64_in', u64_in', Int.reduceTDiv, Int.reduceTMod, Int.reduceMod, Int.reduceMul, Int.reduceAdd, A7.get, A8.set, Int.reduceEq, if_true, if_false, Int.reduceLT, Int.reduceLE, and_self, decide_true, shr_u64_0, shr_u64_32, tmod_pos, e1, e2, e3, e4, m1, m2, m3, m4, l1, l2, l3, l4, pointer_eq lo_r, pointer_eq (hi_r h1), pointer_eq (hi_r h2), pointer_eq (hi_r h3), pointer_eq (hi_r h4), bind_s]
  rcases Bool.eq_false_or_eq_true (okw (hi p.Data.a4)) with hb | hb <;> simp only [hb, Bool.not_true, Bool.not_false, Bool.false_eq_true, if_true, if_false, Option.map_some, bind_s] <;> rfl

theorem ReadSlots_eq (p : api_Page) (h : k_A7 k_u64 p.Data) : hashindex_ReadSlots p = some (rdS p) := by
  have hh := h
  unfold hashindex_ReadSlots
  rw [isKind_eq h.1, bind_s, rx0 p h, rx1 p h, rx2 p h, rx3 p h, rx4 p h, rx5 p h, rx6 p h, rx7 p h, iter_eq]
  simp only [hashindex_ReadSlots_L1, Int.reduceLT, decide_false, Bool.false_eq_true, if_false, hashindex_ReadSlots_J1]
  rw [show (⟨dp (lo p.Data.a1), dp (hi p.Data.a1), dp (lo p.Data.a2), dp (hi p.Data.a2), dp (lo p.Data.a3), dp (hi p.Data.a3), dp (lo p.Data.a4), dp (hi p.Data.a4)⟩ : A8 pointer_Pointer) = rdX p from rfl]
  rw [show (p.Data.a0 % 256 == 3 && okw (lo p.Data.a1) && okw (hi p.Data.a1) && okw (lo p.Data.a2) && okw (hi p.Data.a2) && okw (lo p.Data.a3) && okw (hi p.Data.a3) && okw (lo p.Data.a4) && okw (hi p.Data.a4)) = (p.Data.a0 % 256 == 3 && rdXB p) from by unfold rdXB; simp only [Bool.and_assoc]]
  unfold rdS
  obtain ⟨h0, h1, h2, h3, h4, h5, h6⟩ := h
  unfold k_u64 at h0 h1 h2 h3 h4 h5 h6
  by_cases hk : p.Data.a0 % 256 = 3
  · rcases Bool.eq_false_or_eq_true (rdXB p) with hb | hb
    · have hb' := hb
      unfold rdXB at hb'
      simp only [Bool.and_eq_true] at hb'
      obtain ⟨⟨⟨⟨⟨⟨⟨b1, b2⟩, b3⟩, b4⟩, b5⟩, b6⟩, b7⟩, b8⟩ := hb'
      have hf : (fillP p (rdX p)).Data = ⟨lo p.Data.a0, p.Data.a1, p.Data.a2, p.Data.a3, p.Data.a4, 0, 0⟩ := by
        unfold fillP rdX
        simp only [pk_dp b1 lo_r, pk_dp b2 (hi_r h1), pk_dp b3 lo_r, pk_dp b4 (hi_r h2), pk_dp b5 lo_r, pk_dp b6 (hi_r h3), pk_dp b7 lo_r, pk_dp b8 (hi_r h4), two_lohi]
      simp only [hk, hb, beq_self_eq_true, Bool.and_self, Bool.not_true, Bool.false_eq_true, if_false, fillSlots_eq p (rdX p) hh.1, bind_s, hf, true_and]
      by_cases c0 : hi p.Data.a0 = 0 ∧ p.Data.a5 = 0 ∧ p.Data.a6 = 0
      · have e : lo p.Data.a0 = p.Data.a0 := by have := c0.1; unfold lo; unfold hi at this; omega
        simp [c0, e]
      · have e : ¬ (lo p.Data.a0 = p.Data.a0 ∧ 0 = p.Data.a5 ∧ 0 = p.Data.a6) := fun ⟨x1, x2, x3⟩ => c0 ⟨by unfold lo at x1; unfold hi; omega, x2.symm, x3.symm⟩
        have e' : (lo p.Data.a0 == p.Data.a0 && (true && (true && (true && (true && ((0 : Int) == p.Data.a5 && (0 : Int) == p.Data.a6)))))) = false := by
          rw [Bool.eq_false_iff]
          intro hc
          simp only [Bool.true_and, Bool.and_eq_true, beq_iff_eq] at hc
          exact e hc
        simp only [e', Bool.not_false, if_true, c0, if_false]
        rfl
    · simp [hk, hb, zero8]
  · simp [hk, zero8]
theorem ReadSlotsR_eq (p : api_Page) (h : k_A7 k_u64 p.Data) : bodegaref23_ReadSlots p = some (c8 (rdS p).1, (rdS p).2) := by
  have hh := h
  unfold bodegaref23_ReadSlots bodegaref19_Kind bodegaref19_Aux
  obtain ⟨h0, h1, h2, h3, h4, h5, h6⟩ := h
  unfold k_u64 at h0 h1 h2 h3 h4 h5 h6
  have e0 : p.Data.a0 / 4294967296 = hi p.Data.a0 := rfl
  have := hi_r h0
  rw [bind_s, tmod_pos h0.1, i64_in' (x := p.Data.a0 % 256) (by omega), bind_s, shr_u64_32, u32_hi h0, ry0 p hh, ry1 p hh, ry2 p hh, ry3 p hh, ry4 p hh, ry5 p hh, ry6 p hh, ry7 p hh, iter_eq]
  simp only [bodegaref23_ReadSlots_L1, Int.reduceLT, decide_false, Bool.false_eq_true, if_false, Option.map_some, bind_s]
  unfold rdS rdXB
  by_cases hk : p.Data.a0 % 256 = 3
  · by_cases ha : hi p.Data.a0 = 0
    · by_cases h5' : p.Data.a5 = 0
      · by_cases h6' : p.Data.a6 = 0
        · simp only [hk, ha, h5', h6', bne_self_eq_false, Bool.false_eq_true, if_false, true_and, and_true]
          rcases Bool.eq_false_or_eq_true (okw (lo p.Data.a1)) with b0 | b0
          rotate_left
          · simp only [b0, Bool.false_eq_true, if_false, Bool.and_false, Bool.false_and]
          simp only [b0, if_true, Bool.true_and, Bool.and_true]
          rcases Bool.eq_false_or_eq_true (okw (hi p.Data.a1)) with b1 | b1
          rotate_left
          · simp only [b1, Bool.false_eq_true, if_false, Bool.and_false, Bool.false_and]
          simp only [b1, if_true, Bool.true_and, Bool.and_true]
          rcases Bool.eq_false_or_eq_true (okw (lo p.Data.a2)) with b2 | b2
          rotate_left
          · simp only [b2, Bool.false_eq_true, if_false, Bool.and_false, Bool.false_and]
          simp only [b2, if_true, Bool.true_and, Bool.and_true]
          rcases Bool.eq_false_or_eq_true (okw (hi p.Data.a2)) with b3 | b3
          rotate_left
          · simp only [b3, Bool.false_eq_true, if_false, Bool.and_false, Bool.false_and]
          simp only [b3, if_true, Bool.true_and, Bool.and_true]
          rcases Bool.eq_false_or_eq_true (okw (lo p.Data.a3)) with b4 | b4
          rotate_left
          · simp only [b4, Bool.false_eq_true, if_false, Bool.and_false, Bool.false_and]
          simp only [b4, if_true, Bool.true_and, Bool.and_true]
          rcases Bool.eq_false_or_eq_true (okw (hi p.Data.a3)) with b5 | b5
          rotate_left
          · simp only [b5, Bool.false_eq_true, if_false, Bool.and_false, Bool.false_and]
          simp only [b5, if_true, Bool.true_and, Bool.and_true]
          rcases Bool.eq_false_or_eq_true (okw (lo p.Data.a4)) with b6 | b6
          rotate_left
          · simp only [b6, Bool.false_eq_true, if_false, Bool.and_false, Bool.false_and]
          simp only [b6, if_true, Bool.true_and, Bool.and_true]
          rcases Bool.eq_false_or_eq_true (okw (hi p.Data.a4)) with b7 | b7
          rotate_left
          · simp only [b7, Bool.false_eq_true, if_false, Bool.and_false, Bool.false_and]
          simp only [b7, if_true, Bool.true_and, Bool.and_true]
          rfl
        · simp [hk, ha, h5', h6', c8, zero8, cP]
      · simp [hk, ha, h5', c8, zero8, cP]
    · simp [hk, ha, c8, zero8, cP]
  · simp [hk, c8, zero8, cP]

def gd (p : pointer_Pointer) : Bool := good p.Line p.Gen
def gdX (x : A8 pointer_Pointer) : Bool := gd x.a0 && (gd x.a1 && (gd x.a2 && (gd x.a3 && (gd x.a4 && (gd x.a5 && (gd x.a6 && gd x.a7))))))
def wrS (p : api_Page) (x : A8 pointer_Pointer) : api_Page × Int := if p.Data.a0 % 256 = 3 ∧ gdX x = true then (fillP p x, 0) else (zeroPg, 1)
theorem isF_eq (p : pointer_Pointer) : hashindex_isField p = some (gd p) := isField_eq p
theorem goodC_eq (p : pointer_Pointer) : bodegaref23_good (cP p) = some (gd p) := good_eq _
theorem if_step (l : List pointer_Pointer) (i : Int) (p : pointer_Pointer) (h : idx l i = some p) (hs : i + 1 < 9223372036854775808) : iter (slices_IndexFunc_L1 l) i = if gd p = true then iter (slices_IndexFunc_L1 l) (i + 1) else some i := by
  obtain ⟨h0, h1, _⟩ := idx_some h
  rw [iter_eq]
  simp (disch := omega) only [slices_IndexFunc_L1, h1, decide_true, if_true, h, bind_s, hashindex_WriteSlots_c1, isF_eq, i64_in']
  cases gd p <;> simp
theorem Contains_eq (x : A8 pointer_Pointer) : slices_ContainsFunc [x.a0, x.a1, x.a2, x.a3, x.a4, x.a5, x.a6, x.a7] = some (!gdX x) := by
  unfold slices_ContainsFunc slices_IndexFunc
  rw [if_step _ 0 x.a0 rfl (by omega), if_step _ (0+1) x.a1 rfl (by omega), if_step _ (0+1+1) x.a2 rfl (by omega), if_step _ (0+1+1+1) x.a3 rfl (by omega), if_step _ (0+1+1+1+1) x.a4 rfl (by omega), if_step _ (0+1+1+1+1+1) x.a5 rfl (by omega), if_step _ (0+1+1+1+1+1+1) x.a6 rfl (by omega), if_step _ (0+1+1+1+1+1+1+1) x.a7 rfl (by omega), iter_eq]
  rw [show slices_IndexFunc_L1 [x.a0, x.a1, x.a2, x.a3, x.a4, x.a5, x.a6, x.a7] (0+1+1+1+1+1+1+1+1) = some (.inr (-1)) from rfl]
  simp only [bind_s]
  unfold gdX
  rcases Bool.eq_false_or_eq_true (gd x.a0) with b0 | b0
  rotate_left
  · simp only [b0, Bool.false_eq_true, if_false, Bool.and_false, Bool.false_and]; rfl
  simp only [b0, if_true, Bool.true_and, Bool.and_true]
  rcases Bool.eq_false_or_eq_true (gd x.a1) with b1 | b1
  rotate_left
  · simp only [b1, Bool.false_eq_true, if_false, Bool.and_false, Bool.false_and]; rfl
  simp only [b1, if_true, Bool.true_and, Bool.and_true]
  rcases Bool.eq_false_or_eq_true (gd x.a2) with b2 | b2
  rotate_left
  · simp only [b2, Bool.false_eq_true, if_false, Bool.and_false, Bool.false_and]; rfl
  simp only [b2, if_true, Bool.true_and, Bool.and_true]
  rcases Bool.eq_false_or_eq_true (gd x.a3) with b3 | b3
  rotate_left
  · simp only [b3, Bool.false_eq_true, if_false, Bool.and_false, Bool.false_and]; rfl
  simp only [b3, if_true, Bool.true_and, Bool.and_true]
  rcases Bool.eq_false_or_eq_true (gd x.a4) with b4 | b4
  rotate_left
  · simp only [b4, Bool.false_eq_true, if_false, Bool.and_false, Bool.false_and]; rfl
  simp only [b4, if_true, Bool.true_and, Bool.and_true]
  rcases Bool.eq_false_or_eq_true (gd x.a5) with b5 | b5
  rotate_left
  · simp only [b5, Bool.false_eq_true, if_false, Bool.and_false, Bool.false_and]; rfl
  simp only [b5, if_true, Bool.true_and, Bool.and_true]
  rcases Bool.eq_false_or_eq_true (gd x.a6) with b6 | b6
  rotate_left
  · simp only [b6, Bool.false_eq_true, if_false, Bool.and_false, Bool.false_and]; rfl
  simp only [b6, if_true, Bool.true_and, Bool.and_true]
  rcases Bool.eq_false_or_eq_true (gd x.a7) with b7 | b7
  rotate_left
  · simp only [b7, Bool.false_eq_true, if_false, Bool.and_false, Bool.false_and]; rfl
  simp only [b7, if_true, Bool.true_and, Bool.and_true]
  rfl
theorem WriteSlots_eq (p : api_Page) (x : A8 pointer_Pointer) (h : k_u64 p.Data.a0) : hashindex_WriteSlots p x = some (wrS p x) := by
  unfold hashindex_WriteSlots wrS
  rw [isKind_eq h, bind_s, Contains_eq, bind_s, fillSlots_eq p x h, bind_s]
  by_cases hk : p.Data.a0 % 256 = 3
  · rcases Bool.eq_false_or_eq_true (gdX x) with b | b <;> simp [hk, b, zeroPg]
  · simp [hk, zeroPg]
theorem add0 {a : Int} (h : 0 ≤ a ∧ a < 4294967296) : IntKind.u64.wrap (0 + shlV .u64 (IntKind.u64.wrap a) 0) = a := by
  rw [u64_in' (x := a) (by omega), shl_ 0]
  rw [show a * 2 ^ 0 = a by omega, u64_in' (x := a) (by omega), u64_in' (by omega)]; omega
theorem add1 {a b : Int} (h : 0 ≤ a ∧ a < 4294967296) (h' : 0 ≤ b ∧ b < 4294967296) : IntKind.u64.wrap (a + shlV .u64 (IntKind.u64.wrap b) 32) = two a b := by
  have := two_add h h'
  rwa [u64_in' (x := a) (by omega)] at this
theorem ws0 (p : api_Page) (x : A8 pointer_Pointer) (a : A7 Int) (ha : a.a1 = 0) : iter (bodegaref23_WriteSlots_L1 (c8 x) p) (a, 0) = if gd x.a0 = true then iter (bodegaref23_WriteSlots_L1 (c8 x) p) ({ a with a1 := pkP x.a0 }, 1) else some (zeroPg, 1) := by
  rw [iter_eq]
  simp (disch := omega) only [bodegaref23_WriteSlots_L1, c8, i64_in', u64_in', Int.reduceTDiv, Int.reduceTMod, Int.reduceMul, Int.reduceAdd, A8.get, A7.get, A7.set, Int.reduceEq, if_true, if_false, Int.reduceLT, Int.reduceLE, and_self, decide_true, PackC_eq, goodC_eq, bind_s, ha, add0 (pkP_r _)]
  rcases Bool.eq_false_or_eq_true (gd x.a0) with hb | hb <;> simp only [hb, Bool.not_true, Bool.not_false, Bool.false_eq_true, if_true, if_false, Option.map_some, bind_s] <;> rfl
theorem ws1 (p : api_Page) (x : A8 pointer_Pointer) (a : A7 Int) (ha : 0 ≤ a.a1 ∧ a.a1 < 4294967296) : iter (bodegaref23_WriteSlots_L1 (c8 x) p) (a, 1) = if gd x.a1 = true then iter (bodegaref23_WriteSlots_L1 (c8 x) p) ({ a with a1 := two a.a1 (pkP x.a1) }, 2) else some (zeroPg, 1) := by
  rw [iter_eq]
  simp (disch := omega) only [bodegaref23_WriteSlots_L1, c8, i64_in', u64_in', Int.reduceTDiv, Int.reduceTMod, Int.reduceMul, Int.reduceAdd, A8.get, A7.get, A7.set, Int.reduceEq, if_true, if_false, Int.reduceLT, Int.reduceLE, and_self, decide_true, PackC_eq, goodC_eq, bind_s, add1 ha (pkP_r _)]
  rcases Bool.eq_false_or_eq_true (gd x.a1) with hb | hb <;> simp only [hb, Bool.not_true, Bool.not_false, Bool.false_eq_true, if_true, if_false, Option.map_some, bind_s] <;> rfl
theorem ws2 (p : api_Page) (x : A8 pointer_Pointer) (a : A7 Int) (ha : a.a2 = 0) : iter (bodegaref23_WriteSlots_L1 (c8 x) p) (a, 2) = if gd x.a2 = true then iter (bodegaref23_WriteSlots_L1 (c8 x) p) ({ a with a2 := pkP x.a2 }, 3) else some (zeroPg, 1) := by
  rw [iter_eq]
  simp (disch := omega) only [bodegaref23_WriteSlots_L1, c8, i64_in', u64_in', Int.reduceTDiv, Int.reduceTMod, Int.reduceMul, Int.reduceAdd, A8.get, A7.get, A7.set, Int.reduceEq, if_true, if_false, Int.reduceLT, Int.reduceLE, and_self, decide_true, PackC_eq, goodC_eq, bind_s, ha, add0 (pkP_r _)]
  rcases Bool.eq_false_or_eq_true (gd x.a2) with hb | hb <;> simp only [hb, Bool.not_true, Bool.not_false, Bool.false_eq_true, if_true, if_false, Option.map_some, bind_s] <;> rfl
theorem ws3 (p : api_Page) (x : A8 pointer_Pointer) (a : A7 Int) (ha : 0 ≤ a.a2 ∧ a.a2 < 4294967296) : iter (bodegaref23_WriteSlots_L1 (c8 x) p) (a, 3) = if gd x.a3 = true then iter (bodegaref23_WriteSlots_L1 (c8 x) p) ({ a with a2 := two a.a2 (pkP x.a3) }, 4) else some (zeroPg, 1) := by
  rw [iter_eq]
  simp (disch := omega) only [bodegaref23_WriteSlots_L1, c8, i64_in', u64_in', Int.reduceTDiv, Int.reduceTMod, Int.reduceMul, Int.reduceAdd, A8.get, A7.get, A7.set, Int.reduceEq, if_true, if_false, Int.reduceLT, Int.reduceLE, and_self, decide_true, PackC_eq, goodC_eq, bind_s, add1 ha (pkP_r _)]
  rcases Bool.eq_false_or_eq_true (gd x.a3) with hb | hb <;> simp only [hb, Bool.not_true, Bool.not_false, Bool.false_eq_true, if_true, if_false, Option.map_some, bind_s] <;> rfl
theorem ws4 (p : api_Page) (x : A8 pointer_Pointer) (a : A7 Int) (ha : a.a3 = 0) : iter (bodegaref23_WriteSlots_L1 (c8 x) p) (a, 4) = if gd x.a4 = true then iter (bodegaref23_WriteSlots_L1 (c8 x) p) ({ a with a3 := pkP x.a4 }, 5) else some (zeroPg, 1) := by
  rw [iter_eq]
  simp (disch := omega) only [bodegaref23_WriteSlots_L1, c8, i64_in', u64_in', Int.reduceTDiv, Int.reduceTMod, Int.reduceMul, Int.reduceAdd, A8.get, A7.get, A7.set, Int.reduceEq, if_true, if_false, Int.reduceLT, Int.reduceLE, and_self, decide_true, PackC_eq, goodC_eq, bind_s, ha, add0 (pkP_r _)]
  rcases Bool.eq_false_or_eq_true (gd x.a4) with hb | hb <;> simp only [hb, Bool.not_true, Bool.not_false, Bool.false_eq_true, if_true, if_false, Option.map_some, bind_s] <;> rfl
theorem ws5 (p : api_Page) (x : A8 pointer_Pointer) (a : A7 Int) (ha : 0 ≤ a.a3 ∧ a.a3 < 4294967296) : iter (bodegaref23_WriteSlots_L1 (c8 x) p) (a, 5) = if gd x.a5 = true then iter (bodegaref23_WriteSlots_L1 (c8 x) p) ({ a with a3 := two a.a3 (pkP x.a5) }, 6) else some (zeroPg, 1) := by
  rw [iter_eq]
  simp (disch := omega) only [bodegaref23_WriteSlots_L1, c8, i64_in', u64_in', Int.reduceTDiv, Int.reduceTMod, Int.reduceMul, Int.reduceAdd, A8.get, A7.get, A7.set, Int.reduceEq, if_true, if_false, Int.reduceLT, Int.reduceLE, and_self, decide_true, PackC_eq, goodC_eq, bind_s, add1 ha (pkP_r _)]
  rcases Bool.eq_false_or_eq_true (gd x.a5) with hb | hb <;> simp only [hb, Bool.not_true, Bool.not_false, Bool.false_eq_true, if_true, if_false, Option.map_some, bind_s] <;> rfl
theorem ws6 (p : api_Page) (x : A8 pointer_Pointer) (a : A7 Int) (ha : a.a4 = 0) : iter (bodegaref23_WriteSlots_L1 (c8 x) p) (a, 6) = if gd x.a6 = true then iter (bodegaref23_WriteSlots_L1 (c8 x) p) ({ a with a4 := pkP x.a6 }, 7) else some (zeroPg, 1) := by
  rw [iter_eq]
  simp (disch := omega) only [bodegaref23_WriteSlots_L1, c8, i64_in', u64_in', Int.reduceTDiv, Int.reduceTMod, Int.reduceMul, Int.reduceAdd, A8.get, A7.get, A7.set, Int.reduceEq, if_true, if_false, Int.reduceLT, Int.reduceLE, and_self, decide_true, PackC_eq, goodC_eq, bind_s, ha, add0 (pkP_r _)]
  rcases Bool.eq_false_or_eq_true (gd x.a6) with hb | hb <;> simp only [hb, Bool.not_true, Bool.not_false, Bool.false_eq_true, if_true, if_false, Option.map_some, bind_s] <;> rfl
theorem ws7 (p : api_Page) (x : A8 pointer_Pointer) (a : A7 Int) (ha : 0 ≤ a.a4 ∧ a.a4 < 4294967296) : iter (bodegaref23_WriteSlots_L1 (c8 x) p) (a, 7) = if gd x.a7 = true then iter (bodegaref23_WriteSlots_L1 (c8 x) p) ({ a with a4 := two a.a4 (pkP x.a7) }, 8) else some (zeroPg, 1) := by
  rw [iter_eq]
  simp (disch := omega) only [bodegaref23_WriteSlots_L1, c8, i64_in', u64_in', Int.reduceTDiv, Int.reduceTMod, Int.reduceMul, Int.reduceAdd, A8.get, A7.get, A7.set, Int.reduceEq, if_true, if_false, Int.reduceLT, Int.reduceLE, and_self, decide_true, PackC_eq, goodC_eq, bind_s, add1 ha (pkP_r _)]
  rcases Bool.eq_false_or_eq_true (gd x.a7) with hb | hb <;> simp only [hb, Bool.not_true, Bool.not_false, Bool.false_eq_true, if_true, if_false, Option.map_some, bind_s] <;> rfl

theorem tagR {a : Int} (h : k_u64 a) (h3 : a % 256 = 3) : (bodegaref19_Tag 3 (IntKind.i64.wrap (Int.tmod (IntKind.u64.wrap (Int.tdiv a 256)) 16777216)) 0) = some (lo a) := by
  unfold k_u64 at h
  unfold bodegaref19_Tag
  rw [tdiv_pos h.1, u64_in' (x := a / 256) (by omega), tmod_pos (x := a / 256) (by omega), i64_in' (x := a / 256 % 16777216) (by omega), u64_in' (x := a / 256 % 16777216) (by omega), u64_in' (x := 3) (by omega), u64_in' (x := 0) (by omega), shl_u64_32, u64_in' (x := 0 * 4294967296) (by omega),
    tmod_pos (x := a / 256 % 16777216) (by omega), u64_in' (x := a / 256 % 16777216 % 16777216 * 256) (by omega), tmod_pos (x := 3) (by omega), u64_in' (x := 3 % 256 + a / 256 % 16777216 % 16777216 * 256) (by omega), u64_in' (by omega)]
  congr 1
  unfold lo
  omega
theorem WriteSlotsR_eq (p : api_Page) (x : A8 pointer_Pointer) (h : k_u64 p.Data.a0) : bodegaref23_WriteSlots p (c8 x) = some (wrS p x) := by
  have hh := h
  unfold k_u64 at h
  unfold bodegaref23_WriteSlots bodegaref19_Kind bodegaref19_Gen wrS
  rw [bind_s, bind_s, tmod_pos (x := p.Data.a0) h.1, i64_in' (x := p.Data.a0 % 256) (by omega)]
  by_cases hk : p.Data.a0 % 256 = 3
  · rw [tagR hh hk, bind_s]
    rw [ws0 p x _ rfl, ws1 p x _ (pkP_r _), ws2 p x _ rfl, ws3 p x _ (pkP_r _), ws4 p x _ rfl, ws5 p x _ (pkP_r _), ws6 p x _ rfl, ws7 p x _ (pkP_r _), iter_eq]
    simp only [bodegaref23_WriteSlots_L1, Int.reduceLT, decide_false, Bool.false_eq_true, if_false, Option.map_some, bind_s, hk, bne_self_eq_false, true_and]
    unfold gdX
    rcases Bool.eq_false_or_eq_true (gd x.a0) with b0 | b0
    rotate_left
    · simp only [b0, Bool.false_eq_true, if_false, Bool.and_false, Bool.false_and]
    simp only [b0, if_true, Bool.true_and, Bool.and_true]
    rcases Bool.eq_false_or_eq_true (gd x.a1) with b1 | b1
    rotate_left
    · simp only [b1, Bool.false_eq_true, if_false, Bool.and_false, Bool.false_and]
    simp only [b1, if_true, Bool.true_and, Bool.and_true]
    rcases Bool.eq_false_or_eq_true (gd x.a2) with b2 | b2
    rotate_left
    · simp only [b2, Bool.false_eq_true, if_false, Bool.and_false, Bool.false_and]
    simp only [b2, if_true, Bool.true_and, Bool.and_true]
    rcases Bool.eq_false_or_eq_true (gd x.a3) with b3 | b3
    rotate_left
    · simp only [b3, Bool.false_eq_true, if_false, Bool.and_false, Bool.false_and]
    simp only [b3, if_true, Bool.true_and, Bool.and_true]
    rcases Bool.eq_false_or_eq_true (gd x.a4) with b4 | b4
    rotate_left
    · simp only [b4, Bool.false_eq_true, if_false, Bool.and_false, Bool.false_and]
    simp only [b4, if_true, Bool.true_and, Bool.and_true]
    rcases Bool.eq_false_or_eq_true (gd x.a5) with b5 | b5
    rotate_left
    · simp only [b5, Bool.false_eq_true, if_false, Bool.and_false, Bool.false_and]
    simp only [b5, if_true, Bool.true_and, Bool.and_true]
    rcases Bool.eq_false_or_eq_true (gd x.a6) with b6 | b6
    rotate_left
    · simp only [b6, Bool.false_eq_true, if_false, Bool.and_false, Bool.false_and]
    simp only [b6, if_true, Bool.true_and, Bool.and_true]
    rcases Bool.eq_false_or_eq_true (gd x.a7) with b7 | b7
    rotate_left
    · simp only [b7, Bool.false_eq_true, if_false, Bool.and_false, Bool.false_and]
    simp only [b7, if_true, Bool.true_and, Bool.and_true]
    rfl
  · simp [hk, zeroPg]
theorem rdS_fill {p : api_Page} {x : A8 pointer_Pointer} (hk : p.Data.a0 % 256 = 3) (hg : gdX x = true) : rdS (fillP p x) = (x, 0) := by
  unfold gdX gd at hg
  simp only [Bool.and_eq_true] at hg
  obtain ⟨g0, g1, g2, g3, g4, g5, g6, g7⟩ := hg
  have h1 : rdX (fillP p x) = x := by
    unfold rdX fillP
    simp only [two_lo (pkP_r _), two_hi (pkP_r _), (dp_pk g0).1, (dp_pk g1).1, (dp_pk g2).1, (dp_pk g3).1, (dp_pk g4).1, (dp_pk g5).1, (dp_pk g6).1, (dp_pk g7).1]
  have h2 : rdXB (fillP p x) = true := by
    unfold rdXB fillP
    simp only [two_lo (pkP_r _), two_hi (pkP_r _), (dp_pk g0).2, (dp_pk g1).2, (dp_pk g2).2, (dp_pk g3).2, (dp_pk g4).2, (dp_pk g5).2, (dp_pk g6).2, (dp_pk g7).2, Bool.and_self]
  have h3 : (fillP p x).Data.a0 % 256 = 3 := by show lo p.Data.a0 % 256 = 3; unfold lo; omega
  have h4 : hi (fillP p x).Data.a0 = 0 := by show hi (lo p.Data.a0) = 0; unfold lo hi; omega
  unfold rdS
  rw [if_pos ⟨h3, h2, h4, rfl, rfl⟩, h1]
theorem fill_k {p : api_Page} {x : A8 pointer_Pointer} : k_A7 k_u64 (fillP p x).Data := by
  have h0 : k_u64 (0 : Int) := by unfold k_u64; omega
  exact ⟨by show k_u64 (lo p.Data.a0); have := @lo_r p.Data.a0; unfold k_u64; omega, two_k (pkP_r _) (pkP_r _), two_k (pkP_r _) (pkP_r _), two_k (pkP_r _) (pkP_r _), two_k (pkP_r _) (pkP_r _), h0, h0⟩

theorem SJ1_true (p : api_Page) (hp : k_api_Page p) (n d : Int) (hd : k_u64 d) (x : A8 pointer_Pointer) : bodegalaw23_HashSlots_J1 p n (d, x) = some true := by
  obtain ⟨_, _, hD⟩ := hp
  unfold bodegalaw23_HashSlots_J1
  simp only
  generalize hq : (⟨p.Line, p.Head, ⟨d, p.Data.a1, p.Data.a2, p.Data.a3, p.Data.a4, p.Data.a5, p.Data.a6⟩⟩ : api_Page) = q
  have hqk : k_A7 k_u64 q.Data := by rw [← hq]; exact ⟨hd, hD.2⟩
  simp only [ReadSlots_eq _ hqk, ReadSlotsR_eq _ hqk, WriteSlots_eq _ _ hqk.1, WriteSlotsR_eq _ _ hqk.1, slots_eq, awake_eq, bind_s, bodegalaw23_same]
  by_cases hw : q.Data.a0 % 256 = 3 ∧ gdX x = true
  · have e : wrS q x = (fillP q x, 0) := by unfold wrS; rw [if_pos hw]
    have hk := @fill_k q x
    obtain ⟨v, ev, hv0, hv1⟩ := Pick_eq (a := IntKind.i64.wrap (Int.tdiv n 54)) (n := 7) (by omega)
    obtain ⟨u, eu, hu0, hu1⟩ := Pick_eq (a := IntKind.i64.wrap (Int.tdiv n 378)) (n := 64) (by omega)
    rw [e]
    have hi : 0 ≤ v ∧ v < 7 := ⟨hv0, hv1⟩
    simp only [beq_self_eq_true, Bool.true_and, Bool.and_self, Bool.not_true, Bool.false_eq_true, if_false, bne_self_eq_false, ReadSlots_eq _ hk, rdS_fill hw.1 hw.2, bind_s, ev, eu, hi, and_self, if_true]
    generalize hg : (⟨(fillP q x).Line, (fillP q x).Head, A7.set (fillP q x).Data v (bits .xor .u64 (A7.get (fillP q x).Data v) (shlV .u64 1 (IntKind.u64.wrap u)))⟩ : api_Page) = z
    have hz : k_A7 k_u64 z.Data := by rw [← hg]; exact set7_k hk (xor_k _ _)
    simp only [ReadSlots_eq _ hz, ReadSlotsR_eq _ hz, slots_eq, bind_s, beq_self_eq_true, Bool.and_self]
  · have e : wrS q x = (zeroPg, 1) := by unfold wrS; rw [if_neg hw]
    rw [e]
    simp

theorem HashSlots_law (p : api_Page) (x : A8 pointer_Pointer) (n : Int) (k0 : k_api_Page p) (k1 : k_A8 k_pointer_Pointer x) (k2 : k_i64 n) : bodegalaw23_HashSlots p x n = some true := by
  unfold bodegalaw23_HashSlots
  obtain ⟨v, ev, _⟩ := Pick_eq (a := n) (n := 6) (by omega)
  obtain ⟨d, ed, hd⟩ := Pick_eq (a := IntKind.i64.wrap (Int.tdiv n 6)) (n := 9) (by omega)
  rw [ev, bind_s, ed, bind_s, SJ1_true p k0 n _ k0.2.2.1]
  split
  · have hJ : ∀ y, bodegalaw23_HashSlots_J1 p n (IntKind.u64.wrap (3 + IntKind.u64.wrap (IntKind.u64.wrap d * 256)), y) = some true := fun y =>
      SJ1_true p k0 n _ (by rw [u64_in' (x := d) (by omega), u64_in' (x := d * 256) (by omega), u64_in' (by omega)]; unfold k_u64; omega) y
    have hs : ∀ (y : A8 pointer_Pointer) (i : Int), 0 ≤ i ∧ i < 8 → ∃ z, iter (bodegalaw23_HashSlots_L1 p n d) (y, i) = iter (bodegalaw23_HashSlots_L1 p n d) (z, i + 1) := fun y i h => by
      rw [iter_eq]
      obtain ⟨q, eq⟩ := aim_eq (A8.get y i)
      have h8 : i < 8 := h.2
      simp only [bodegalaw23_HashSlots_L1, h8, h, and_self, decide_true, if_true, eq, bind_s, i64_in' (show -9223372036854775808 ≤ i + 1 ∧ i + 1 < 9223372036854775808 by omega)]
      exact ⟨_, rfl⟩
    obtain ⟨x1, e1⟩ := hs x 0 (by omega)
    obtain ⟨x2, e2⟩ := hs x1 (0+1) (by omega)
    obtain ⟨x3, e3⟩ := hs x2 (0+1+1) (by omega)
    obtain ⟨x4, e4⟩ := hs x3 (0+1+1+1) (by omega)
    obtain ⟨x5, e5⟩ := hs x4 (0+1+1+1+1) (by omega)
    obtain ⟨x6, e6⟩ := hs x5 (0+1+1+1+1+1) (by omega)
    obtain ⟨x7, e7⟩ := hs x6 (0+1+1+1+1+1+1) (by omega)
    obtain ⟨x8, e8⟩ := hs x7 (0+1+1+1+1+1+1+1) (by omega)
    rw [e1, e2, e3, e4, e5, e6, e7, e8, iter_eq]
    simp [bodegalaw23_HashSlots_L1, hJ]
  · rfl
end Go.Sh
end
section
namespace Go.Sh
open Go.Proofs
set_option linter.unusedVariables false
set_option linter.unusedSimpArgs false
set_option maxRecDepth 100000
set_option maxHeartbeats 4000000
noncomputable def bodegalaw23_bucket_L1 (a0 : hashindex_Bucket) (v1 : bodegaref19_Pointer) : (List bodegaref23_Entry × Int) → Option ((List bodegaref23_Entry × Int) ⊕ bodegaref23_Bucket)
  | (l17, x18) =>
    if (decide (x18 < (a0.Entries.length : Int))) = true then
      (idx a0.Entries x18).bind fun e21 =>
      (bodegalaw23_ref e21.To).bind fun v22 =>
      if (l17.length + 1) * 24 ≤ maxRows ∧ l17.length + 1 ≤ maxRows then
        some (.inl ((l17 ++ ([(⟨e21.Key, v22⟩ : bodegaref23_Entry)] : List bodegaref23_Entry)), (IntKind.i64.wrap (x18 + 1))))
      else none
    else
      Option.map Sum.inr (
        some (⟨a0.Depth, a0.Pattern, v1, l17⟩ : bodegaref23_Bucket))
noncomputable def bodegalaw23_bucket (a0 : hashindex_Bucket) : Option bodegaref23_Bucket :=
  (bodegalaw23_ref a0.Next).bind fun v1 =>
  iter (bodegalaw23_bucket_L1 a0 v1) (([] : List bodegaref23_Entry), 0)
theorem bodegalaw23_bucket_ok (G : Glob) (hG0 : G.glob 0 = some [(.int .i64 0), (.int .i64 0)]) (a0 : hashindex_Bucket) (res : bodegaref23_Bucket) (h : bodegalaw23_bucket a0 = some res) : Spec Tryd.prog G 25 [.agg [.p (.int .i64 a0.Depth), .p (.int .u32 a0.Pattern), .p (.int .i64 a0.Next.Line), .p (.int .i64 a0.Next.Gen), .p (.rows (a0.Entries.map r_hashindex_Entry))]] (fun r ios => r = .agg [.p (.int .i64 res.Depth), .p (.int .u32 res.Pattern), .p (.int .i64 res.Next.Line), .p (.int .i64 res.Next.Gen), .own 3 (res.Entries.map r_bodegaref23_Entry)] ∧ ios = []) := by
  rw [bodegalaw23_bucket] at h
  refine spec_of Tryd.mixed Tryd.func25 rfl rfl (by simp only [List.length]; decide +kernel) ?_
  refine swp_fresh (fun g => stL [(0, (.agg [(.p (.int .i64 a0.Depth)), (.p (.int .u32 a0.Pattern)), (.p (.int .i64 a0.Next.Line)), (.p (.int .i64 a0.Next.Gen)), (.p (.rows (a0.Entries.map r_hashindex_Entry)))]))] [] (g + 1)) ?_ (fun g => ?_)
  · refine ren_go (fun g S => []) (fun g S => []) ?_ ?_ ?_ ?_ ?_
    all_goals try simp -implicitDefEqProofs +decide only [go_sem, Nat.reduceAdd, Int.reduceToNat]
    all_goals first | done | trivial | omega | (simp [maps, go_sem]; done) | (simp [maps, go_sem] <;> omega)
  refine seq_reg rfl (fun K hK => ?_)
  simp -implicitDefEqProofs +decide only [go_sem, Nat.reduceAdd, Int.reduceToNat]
  refine hK _ ?_
  refine seq_drw rfl (fun K hK => ?_)
  refine bind_of h (fun v1 hv1 h => ?_)
  simp -implicitDefEqProofs +decide only [go_sem, Nat.reduceAdd, Int.reduceToNat]
  refine call_go [0] false (bodegalaw23_ref_ok ⟨G.glob, noCaps⟩ hG0 a0.Next _ hv1) (by simp -implicitDefEqProofs +decide only [go_sem, Nat.reduceAdd, Int.reduceToNat]; rfl) (by first | rfl | (simp [maps]; done)) ?_
  simp -implicitDefEqProofs +decide only [go_sem, Nat.reduceAdd, Int.reduceToNat]
  refine draw_go (by kernel_rfl) ?_
  refine hK _ ?_
  refine swp_seq ?_
  refine seq_reg rfl (fun K hK => ?_)
  simp -implicitDefEqProofs +decide only [go_sem, Nat.reduceAdd, Int.reduceToNat]
  refine hK _ ?_
  refine swp_block ?_
  refine swp_iter (fun g x => match x with | (l17, x18) => stL [(1, (.c (.ptr ⟨1024000001, g⟩ 0 0))), (2, (.c (.ptr ⟨1024000002, g⟩ 0 0))), (3, (.c (.ptr ⟨1024000003, g⟩ 0 0))), (4, (.c (.p (.int .i64 x18))))] [(⟨1024000001, g⟩, .box true [(.p (.int .i64 a0.Depth)), (.p (.int .u32 a0.Pattern)), (.p (.int .i64 a0.Next.Line)), (.p (.int .i64 a0.Next.Gen)), (.p (.rows (a0.Entries.map r_hashindex_Entry)))]), (⟨1024000002, g⟩, .box true [(.p (.int .i64 0)), (.p (.int .u32 0)), (.p (.int .i64 0)), (.p (.int .i64 0)), .nilS]), (⟨1024000003, g⟩, .box true [(.p (.int .i64 a0.Depth)), (.p (.int .u32 a0.Pattern)), (.p (.int .i64 v1.Line)), (.p (.int .i64 v1.Gen)), (.ref ⟨1024000004, g⟩ 0 l17.length)]), (⟨1024000004, g⟩, .arr true 3 (l17.map r_bodegaref23_Entry))] (g + 1)) h (enter_of ?_) ?_
  · refine ren_go (fun g S => [(⟨1024000001, g⟩, (keyT 0 (St.env S 1))), (⟨1024000002, g⟩, (keyT 0 (St.env S 2))), (⟨1024000003, g⟩, (keyT 0 (St.env S 3)))]) (fun g S => [(⟨1024000004, g⟩, 3)]) ?_ ?_ ?_ ?_ ?_
    all_goals try simp -implicitDefEqProofs +decide only [go_sem, Nat.reduceAdd, Int.reduceToNat]
    all_goals first | done | trivial | omega | (simp [maps, go_sem]; done) | (simp [maps, go_sem] <;> omega)
  rintro g ⟨l17, x18⟩ s1 h hd1
  rw [bodegalaw23_bucket_L1] at h
  try dsimp only
  refine swp_seq ?_
  refine seq_reg rfl (fun K hK => ?_)
  simp -implicitDefEqProofs +decide only [go_sem, Nat.reduceAdd, Int.reduceToNat]
  refine hK _ ?_
  refine bsplit h (fun hb20 h => ?_) (fun hb20 h => ?_)
  · refine cond_t (by simp -implicitDefEqProofs +decide only [go_sem, hb20]) ?_
    refine swp_skip ?_
    with_reducible repeat (first | refine nn ?_ | refine nb ?_ | refine nr ?_ | refine nc ?_ | refine ne ?_ | refine nq ?_ | refine nx rfl ?_)
    refine swp_seq ?_
    refine swp_block ?_
    refine swp_drw rfl (fun K hK => ?_)
    refine bind_of h (fun e21 he21 h => ?_)
    obtain ⟨he21_0, he21_1, he21_2⟩ := idx_some he21
    refine bind_of h (fun v22 hv22 h => ?_)
    simp -implicitDefEqProofs +decide only [go_sem, Nat.reduceAdd, Int.reduceToNat, he21_0, he21_1, he21_2, hb20]
    refine call_go [0] false (bodegalaw23_ref_ok ⟨G.glob, noCaps⟩ hG0 e21.To _ hv22) (by simp -implicitDefEqProofs +decide only [go_sem, Nat.reduceAdd, Int.reduceToNat, hb20]; rfl) (by first | rfl | (simp [maps, hb20]; done)) ?_
    refine psplit h (fun hp23 h => ?_)
    simp -implicitDefEqProofs +decide only [go_sem, Nat.reduceAdd, Int.reduceToNat, hp23, hb20]
    refine draw_go (by kernel_rfl) ?_
    refine hK _ ?_
    with_reducible repeat (first | refine nn ?_ | refine nb ?_ | refine nr ?_ | refine nc ?_ | refine ne ?_ | refine nq ?_ | refine nx rfl ?_)
    refine swp_fresh (fun g => stL [(1, (.c (.ptr ⟨1024000005, g⟩ 0 0))), (2, (.c (.ptr ⟨1024000006, g⟩ 0 0))), (3, (.c (.ptr ⟨1024000007, g⟩ 0 0))), (4, (.c (.p (.int .i64 x18))))] [(⟨1024000005, g⟩, .box true [(.p (.int .i64 a0.Depth)), (.p (.int .u32 a0.Pattern)), (.p (.int .i64 a0.Next.Line)), (.p (.int .i64 a0.Next.Gen)), (.p (.rows (a0.Entries.map r_hashindex_Entry)))]), (⟨1024000006, g⟩, .box true [(.p (.int .i64 0)), (.p (.int .u32 0)), (.p (.int .i64 0)), (.p (.int .i64 0)), .nilS]), (⟨1024000007, g⟩, .box true [(.p (.int .i64 a0.Depth)), (.p (.int .u32 a0.Pattern)), (.p (.int .i64 v1.Line)), (.p (.int .i64 v1.Gen)), (.ref ⟨1024000008, g⟩ 0 (l17 ++ ([(⟨e21.Key, v22⟩ : bodegaref23_Entry)] : List bodegaref23_Entry)).length)]), (⟨1024000008, g⟩, .arr true 3 ((l17 ++ ([(⟨e21.Key, v22⟩ : bodegaref23_Entry)] : List bodegaref23_Entry)).map r_bodegaref23_Entry))] (g + 1)) ?_ (fun g => ?_)
    · refine ren_go (fun g S => [(⟨1024000005, g⟩, (keyT 0 (St.env S 1))), (⟨1024000006, g⟩, (keyT 0 (St.env S 2))), (⟨1024000007, g⟩, (keyT 0 (St.env S 3))), (⟨1024000008, g⟩, (keyB 4 (St.heap S (keyT 0 (St.env S 3)))))]) (fun g S => []) ?_ ?_ ?_ ?_ ?_
      all_goals try simp -implicitDefEqProofs +decide only [go_sem, Nat.reduceAdd, Int.reduceToNat]
      all_goals first | done | trivial | omega | (simp [maps, go_sem]; done) | (simp [maps, go_sem] <;> omega)
    refine swp_reg rfl (fun K hK => ?_)
    simp -implicitDefEqProofs +decide only [go_sem, Nat.reduceAdd, Int.reduceToNat, hb20]
    refine hK _ ?_
    with_reducible repeat (first | refine nn ?_ | refine nb ?_ | refine nr ?_ | refine nc ?_ | refine ne ?_ | refine nq ?_ | refine nx rfl ?_)
    refine back_of h ?_
    refine ren_go (fun g S => [(⟨1024000001, g⟩, (keyT 0 (St.env S 1))), (⟨1024000002, g⟩, (keyT 0 (St.env S 2))), (⟨1024000003, g⟩, (keyT 0 (St.env S 3))), (⟨1024000004, g⟩, (keyB 4 (St.heap S (keyT 0 (St.env S 3)))))]) (fun g S => []) ?_ ?_ ?_ ?_ ?_
    all_goals try simp -implicitDefEqProofs +decide only [go_sem, Nat.reduceAdd, Int.reduceToNat, hb20]
    all_goals first | done | trivial | omega | (simp [maps, go_sem, hb20]; done) | (simp [maps, go_sem, hb20] <;> omega)
  · refine cond_f (by simp -implicitDefEqProofs +decide only [go_sem, hb20]) ?_
    refine swp_exit ?_
    with_reducible repeat (first | refine nn ?_ | refine nb ?_ | refine nr ?_ | refine nc ?_ | refine ne ?_ | refine nq ?_ | refine nx rfl ?_)
    obtain ⟨h, hs1⟩ := exit_of h hd1
    with_reducible repeat (first | refine nn ?_ | refine nb ?_ | refine nr ?_ | refine nc ?_ | refine ne ?_ | refine nq ?_ | refine nx rfl ?_)
    refine ⟨hs1, ?_⟩
    with_reducible repeat (first | refine nn ?_ | refine nb ?_ | refine nr ?_ | refine nc ?_ | refine ne ?_ | refine nq ?_ | refine nx rfl ?_)
    refine seq_reg rfl (fun K hK => ?_)
    simp -implicitDefEqProofs +decide only [go_sem, Nat.reduceAdd, Int.reduceToNat, hb20]
    refine hK _ ?_
    refine swp_ret ?_
    with_reducible repeat (first | refine nn ?_ | refine nb ?_ | refine nr ?_ | refine nc ?_ | refine ne ?_ | refine nq ?_ | refine nx rfl ?_)
    obtain rfl := some_eq h
    simp -implicitDefEqProofs +decide only [go_sem, Nat.reduceAdd, Int.reduceToNat]
    all_goals first | done | trivial | (simp [maps]; done)
end Go.Sh
end
section
namespace Go.Sh
open Go.Proofs
set_option linter.unusedVariables false
set_option linter.unusedSimpArgs false
set_option maxRecDepth 100000
set_option maxHeartbeats 4000000
noncomputable def bodegalaw23_sameBucket_L1 (a0 : bodegaref23_Bucket) (a1 : bodegaref23_Bucket) (x22 : Int) : Option (Int ⊕ Bool) :=
    if (decide (x22 < (a0.Entries.length : Int))) = true then
      (idx a0.Entries x22).bind fun e25 =>
      (idx a1.Entries x22).bind fun e26 =>
      if (!((e25.Key == e26.Key) && ((e25.To.Line == e26.To.Line) && (e25.To.Gen == e26.To.Gen)))) = true then
        Option.map Sum.inr (
          some false)
      else
        some (.inl (IntKind.i64.wrap (x22 + 1)))
    else
      Option.map Sum.inr (
        some true)
noncomputable def bodegalaw23_sameBucket (a0 : bodegaref23_Bucket) (a1 : bodegaref23_Bucket) : Option Bool :=
  if (a0.Depth != a1.Depth) = true then
    some false
  else
    if (a0.Pattern != a1.Pattern) = true then
      some false
    else
      if (!((a0.Next.Line == a1.Next.Line) && (a0.Next.Gen == a1.Next.Gen))) = true then
        some false
      else
        if ((a0.Entries.length : Int) != (a1.Entries.length : Int)) = true then
          some false
        else
          iter (bodegalaw23_sameBucket_L1 a0 a1) 0
theorem bodegalaw23_sameBucket_ok (G : Glob) (hG0 : G.glob 0 = some [(.int .i64 0), (.int .i64 0)]) (a0 : bodegaref23_Bucket) (a1 : bodegaref23_Bucket) (res : Bool) (h : bodegalaw23_sameBucket a0 a1 = some res) : Spec Tryd.prog G 26 [.agg [.p (.int .i64 a0.Depth), .p (.int .u32 a0.Pattern), .p (.int .i64 a0.Next.Line), .p (.int .i64 a0.Next.Gen), .p (.rows (a0.Entries.map r_bodegaref23_Entry))], .agg [.p (.int .i64 a1.Depth), .p (.int .u32 a1.Pattern), .p (.int .i64 a1.Next.Line), .p (.int .i64 a1.Next.Gen), .p (.rows (a1.Entries.map r_bodegaref23_Entry))]] (fun r ios => r = .cell (.p (.bool res)) ∧ ios = []) := by
  rw [bodegalaw23_sameBucket] at h
  refine spec_of Tryd.mixed Tryd.func26 rfl rfl (by simp only [List.length]; decide +kernel) ?_
  refine swp_fresh (fun g => stL [(0, (.agg [(.p (.int .i64 a0.Depth)), (.p (.int .u32 a0.Pattern)), (.p (.int .i64 a0.Next.Line)), (.p (.int .i64 a0.Next.Gen)), (.p (.rows (a0.Entries.map r_bodegaref23_Entry)))])), (1, (.agg [(.p (.int .i64 a1.Depth)), (.p (.int .u32 a1.Pattern)), (.p (.int .i64 a1.Next.Line)), (.p (.int .i64 a1.Next.Gen)), (.p (.rows (a1.Entries.map r_bodegaref23_Entry)))]))] [] (g + 1)) ?_ (fun g => ?_)
  · refine ren_go (fun g S => []) (fun g S => []) ?_ ?_ ?_ ?_ ?_
    all_goals try simp -implicitDefEqProofs +decide only [go_sem, Nat.reduceAdd, Int.reduceToNat]
    all_goals first | done | trivial | omega | (simp [maps, go_sem]; done) | (simp [maps, go_sem] <;> omega)
  refine seq_reg rfl (fun K hK => ?_)
  simp -implicitDefEqProofs +decide only [go_sem, Nat.reduceAdd, Int.reduceToNat]
  refine hK _ ?_
  refine swp_seq ?_
  refine seq_reg rfl (fun K hK => ?_)
  refine bsplit h (fun hb5 h => ?_) (fun hb5 h => ?_)
  · simp -implicitDefEqProofs +decide only [go_sem, Nat.reduceAdd, Int.reduceToNat, hb5]
    refine hK _ ?_
    refine cond_t (by simp -implicitDefEqProofs +decide only [go_sem, hb5]) ?_
    refine seq_reg rfl (fun K hK => ?_)
    simp -implicitDefEqProofs +decide only [go_sem, Nat.reduceAdd, Int.reduceToNat, hb5]
    refine hK _ ?_
    refine swp_ret ?_
    with_reducible repeat (first | refine nn ?_ | refine nb ?_ | refine nr ?_ | refine nc ?_ | refine ne ?_ | refine nq ?_ | refine nx rfl ?_)
    obtain rfl := some_eq h
    simp -implicitDefEqProofs +decide only [go_sem, Nat.reduceAdd, Int.reduceToNat]
    all_goals first | done | trivial | (simp [maps]; done)
  · refine bsplit h (fun hb6 h => ?_) (fun hb6 h => ?_)
    · simp -implicitDefEqProofs +decide only [go_sem, Nat.reduceAdd, Int.reduceToNat, hb5, hb6]
      refine hK _ ?_
      refine cond_t (by simp -implicitDefEqProofs +decide only [go_sem, hb5, hb6]) ?_
      refine seq_reg rfl (fun K hK => ?_)
      simp -implicitDefEqProofs +decide only [go_sem, Nat.reduceAdd, Int.reduceToNat, hb5, hb6]
      refine hK _ ?_
      refine swp_ret ?_
      with_reducible repeat (first | refine nn ?_ | refine nb ?_ | refine nr ?_ | refine nc ?_ | refine ne ?_ | refine nq ?_ | refine nx rfl ?_)
      obtain rfl := some_eq h
      simp -implicitDefEqProofs +decide only [go_sem, Nat.reduceAdd, Int.reduceToNat]
      all_goals first | done | trivial | (simp [maps]; done)
    · refine bsplit h (fun hb7 h => ?_) (fun hb7 h => ?_)
      · simp -implicitDefEqProofs +decide only [go_sem, Nat.reduceAdd, Int.reduceToNat, hb5, hb6, hb7]
        refine hK _ ?_
        refine cond_t (by simp -implicitDefEqProofs +decide only [go_sem, hb5, hb6, hb7]) ?_
        refine seq_reg rfl (fun K hK => ?_)
        simp -implicitDefEqProofs +decide only [go_sem, Nat.reduceAdd, Int.reduceToNat, hb5, hb6, hb7]
        refine hK _ ?_
        refine swp_ret ?_
        with_reducible repeat (first | refine nn ?_ | refine nb ?_ | refine nr ?_ | refine nc ?_ | refine ne ?_ | refine nq ?_ | refine nx rfl ?_)
        obtain rfl := some_eq h
        simp -implicitDefEqProofs +decide only [go_sem, Nat.reduceAdd, Int.reduceToNat]
        all_goals first | done | trivial | (simp [maps]; done)
      · simp -implicitDefEqProofs +decide only [go_sem, Nat.reduceAdd, Int.reduceToNat, hb5, hb6, hb7]
        refine hK _ ?_
        refine bsplit h (fun hb8 h => ?_) (fun hb8 h => ?_)
        · refine cond_t (by simp -implicitDefEqProofs +decide only [go_sem, hb5, hb6, hb7, hb8]) ?_
          refine seq_reg rfl (fun K hK => ?_)
          simp -implicitDefEqProofs +decide only [go_sem, Nat.reduceAdd, Int.reduceToNat, hb5, hb6, hb7, hb8]
          refine hK _ ?_
          refine swp_ret ?_
          with_reducible repeat (first | refine nn ?_ | refine nb ?_ | refine nr ?_ | refine nc ?_ | refine ne ?_ | refine nq ?_ | refine nx rfl ?_)
          obtain rfl := some_eq h
          simp -implicitDefEqProofs +decide only [go_sem, Nat.reduceAdd, Int.reduceToNat]
          all_goals first | done | trivial | (simp [maps]; done)
        · refine cond_f (by simp -implicitDefEqProofs +decide only [go_sem, hb5, hb6, hb7, hb8]) ?_
          refine swp_skip ?_
          with_reducible repeat (first | refine nn ?_ | refine nb ?_ | refine nr ?_ | refine nc ?_ | refine ne ?_ | refine nq ?_ | refine nx rfl ?_)
          refine swp_seq ?_
          refine seq_reg rfl (fun K hK => ?_)
          simp -implicitDefEqProofs +decide only [go_sem, Nat.reduceAdd, Int.reduceToNat, hb5, hb6, hb7, hb8]
          refine hK _ ?_
          refine swp_block ?_
          refine swp_iter (fun g x22 => stL [(2, (.c (.ptr ⟨1024000001, g⟩ 0 0))), (3, (.c (.ptr ⟨1024000002, g⟩ 0 0))), (5, (.c (.p (.int .i64 x22))))] [(⟨1024000001, g⟩, .box true [(.p (.int .i64 a0.Depth)), (.p (.int .u32 a0.Pattern)), (.p (.int .i64 a0.Next.Line)), (.p (.int .i64 a0.Next.Gen)), (.p (.rows (a0.Entries.map r_bodegaref23_Entry)))]), (⟨1024000002, g⟩, .box true [(.p (.int .i64 a1.Depth)), (.p (.int .u32 a1.Pattern)), (.p (.int .i64 a1.Next.Line)), (.p (.int .i64 a1.Next.Gen)), (.p (.rows (a1.Entries.map r_bodegaref23_Entry)))])] (g + 1)) h (enter_of ?_) ?_
          · refine ren_go (fun g S => [(⟨1024000001, g⟩, (keyT 0 (St.env S 2))), (⟨1024000002, g⟩, (keyT 0 (St.env S 3)))]) (fun g S => []) ?_ ?_ ?_ ?_ ?_
            all_goals try simp -implicitDefEqProofs +decide only [go_sem, Nat.reduceAdd, Int.reduceToNat, hb5, hb6, hb7, hb8]
            all_goals first | done | trivial | omega | (simp [maps, go_sem, hb5, hb6, hb7, hb8]; done) | (simp [maps, go_sem, hb5, hb6, hb7, hb8] <;> omega)
          rintro g x22 s1 h hd1
          rw [bodegalaw23_sameBucket_L1] at h
          try dsimp only
          refine swp_seq ?_
          refine seq_reg rfl (fun K hK => ?_)
          simp -implicitDefEqProofs +decide only [go_sem, Nat.reduceAdd, Int.reduceToNat]
          refine hK _ ?_
          refine bsplit h (fun hb24 h => ?_) (fun hb24 h => ?_)
          · refine cond_t (by simp -implicitDefEqProofs +decide only [go_sem, hb24]) ?_
            refine swp_skip ?_
            with_reducible repeat (first | refine nn ?_ | refine nb ?_ | refine nr ?_ | refine nc ?_ | refine ne ?_ | refine nq ?_ | refine nx rfl ?_)
            refine swp_seq ?_
            refine swp_block ?_
            refine seq_drw rfl (fun K hK => ?_)
            refine bind_of h (fun e25 he25 h => ?_)
            obtain ⟨he25_0, he25_1, he25_2⟩ := idx_some he25
            refine bind_of h (fun e26 he26 h => ?_)
            obtain ⟨he26_0, he26_1, he26_2⟩ := idx_some he26
            simp -implicitDefEqProofs +decide only [go_sem, Nat.reduceAdd, Int.reduceToNat, he25_0, he25_1, he25_2, he26_0, he26_1, he26_2, hb24]
            refine draw_go (by kernel_rfl) ?_
            refine hK _ ?_
            refine bsplit h (fun hb27 h => ?_) (fun hb27 h => ?_)
            · refine cond_t (by simp -implicitDefEqProofs +decide only [go_sem, hb24, hb27]) ?_
              refine seq_reg rfl (fun K hK => ?_)
              simp -implicitDefEqProofs +decide only [go_sem, Nat.reduceAdd, Int.reduceToNat, hb24, hb27]
              refine hK _ ?_
              refine swp_ret ?_
              with_reducible repeat (first | refine nn ?_ | refine nb ?_ | refine nr ?_ | refine nc ?_ | refine ne ?_ | refine nq ?_ | refine nx rfl ?_)
              obtain ⟨h, hs1⟩ := exit_of h hd1
              refine ⟨hs1, ?_⟩
              with_reducible repeat (first | refine nn ?_ | refine nb ?_ | refine nr ?_ | refine nc ?_ | refine ne ?_ | refine nq ?_ | refine nx rfl ?_)
              obtain rfl := some_eq h
              simp -implicitDefEqProofs +decide only [go_sem, Nat.reduceAdd, Int.reduceToNat]
              all_goals first | done | trivial | (simp [maps]; done)
            · refine cond_f (by simp -implicitDefEqProofs +decide only [go_sem, hb24, hb27]) ?_
              refine swp_skip ?_
              with_reducible repeat (first | refine nn ?_ | refine nb ?_ | refine nr ?_ | refine nc ?_ | refine ne ?_ | refine nq ?_ | refine nx rfl ?_)
              refine swp_reg rfl (fun K hK => ?_)
              simp -implicitDefEqProofs +decide only [go_sem, Nat.reduceAdd, Int.reduceToNat, hb24, hb27]
              refine hK _ ?_
              with_reducible repeat (first | refine nn ?_ | refine nb ?_ | refine nr ?_ | refine nc ?_ | refine ne ?_ | refine nq ?_ | refine nx rfl ?_)
              refine back_of h ?_
              refine ren_go (fun g S => [(⟨1024000001, g⟩, (keyT 0 (St.env S 2))), (⟨1024000002, g⟩, (keyT 0 (St.env S 3)))]) (fun g S => []) ?_ ?_ ?_ ?_ ?_
              all_goals try simp -implicitDefEqProofs +decide only [go_sem, Nat.reduceAdd, Int.reduceToNat, hb24, hb27]
              all_goals first | done | trivial | omega | (simp [maps, go_sem, hb24, hb27]; done) | (simp [maps, go_sem, hb24, hb27] <;> omega)
          · refine cond_f (by simp -implicitDefEqProofs +decide only [go_sem, hb24]) ?_
            refine swp_exit ?_
            with_reducible repeat (first | refine nn ?_ | refine nb ?_ | refine nr ?_ | refine nc ?_ | refine ne ?_ | refine nq ?_ | refine nx rfl ?_)
            obtain ⟨h, hs1⟩ := exit_of h hd1
            with_reducible repeat (first | refine nn ?_ | refine nb ?_ | refine nr ?_ | refine nc ?_ | refine ne ?_ | refine nq ?_ | refine nx rfl ?_)
            refine ⟨hs1, ?_⟩
            with_reducible repeat (first | refine nn ?_ | refine nb ?_ | refine nr ?_ | refine nc ?_ | refine ne ?_ | refine nq ?_ | refine nx rfl ?_)
            refine seq_reg rfl (fun K hK => ?_)
            simp -implicitDefEqProofs +decide only [go_sem, Nat.reduceAdd, Int.reduceToNat, hb24]
            refine hK _ ?_
            refine swp_ret ?_
            with_reducible repeat (first | refine nn ?_ | refine nb ?_ | refine nr ?_ | refine nc ?_ | refine ne ?_ | refine nq ?_ | refine nx rfl ?_)
            obtain rfl := some_eq h
            simp -implicitDefEqProofs +decide only [go_sem, Nat.reduceAdd, Int.reduceToNat]
            all_goals first | done | trivial | (simp [maps]; done)
end Go.Sh
end
section
namespace Go.Sh
open Go.Proofs
set_option linter.unusedVariables false
set_option linter.unusedSimpArgs false
set_option maxRecDepth 100000
set_option maxHeartbeats 4000000
noncomputable def bodegaref23_Hash (a0 : Int) : Option Int :=
  some (bits .xor .u32 (IntKind.u32.wrap (a0 * 2654435769)) (shrV .u32 (IntKind.u32.wrap (a0 * 2654435769)) 16))
theorem bodegaref23_Hash_ok (G : Glob) (hG0 : G.glob 0 = some [(.int .i64 0), (.int .i64 0)]) (a0 : Int) (res : Int) (h : bodegaref23_Hash a0 = some res) : Spec Tryd.prog G 59 [.cell (.p (.int .u32 a0))] (fun r ios => r = .cell (.p (.int .u32 res)) ∧ ios = []) := by
  rw [bodegaref23_Hash] at h
  refine spec_of Tryd.mixed Tryd.func59 rfl rfl (by simp only [List.length]; decide +kernel) ?_
  refine swp_fresh (fun g => stL [(0, (.c (.p (.int .u32 a0))))] [] (g + 1)) ?_ (fun g => ?_)
  · refine ren_go (fun g S => []) (fun g S => []) ?_ ?_ ?_ ?_ ?_
    all_goals try simp -implicitDefEqProofs +decide only [go_sem, Nat.reduceAdd, Int.reduceToNat]
    all_goals first | done | trivial | omega | (simp [maps, go_sem]; done) | (simp [maps, go_sem] <;> omega)
  refine seq_reg rfl (fun K hK => ?_)
  simp -implicitDefEqProofs +decide only [go_sem, Nat.reduceAdd, Int.reduceToNat]
  refine hK _ ?_
  refine seq_reg rfl (fun K hK => ?_)
  simp -implicitDefEqProofs +decide only [go_sem, Nat.reduceAdd, Int.reduceToNat]
  refine hK _ ?_
  refine seq_reg rfl (fun K hK => ?_)
  simp -implicitDefEqProofs +decide only [go_sem, Nat.reduceAdd, Int.reduceToNat]
  refine hK _ ?_
  refine swp_ret ?_
  with_reducible repeat (first | refine nn ?_ | refine nb ?_ | refine nr ?_ | refine nc ?_ | refine ne ?_ | refine nq ?_ | refine nx rfl ?_)
  obtain rfl := some_eq h
  simp -implicitDefEqProofs +decide only [go_sem, Nat.reduceAdd, Int.reduceToNat]
  all_goals first | done | trivial | (simp [maps]; done)
end Go.Sh
end
section
namespace Go.Sh
open Go.Proofs
set_option linter.unusedVariables false
set_option linter.unusedSimpArgs false
set_option maxRecDepth 100000
set_option maxHeartbeats 4000000
noncomputable def bodegaref23_low (a0 : Int) (a1 : Int) : Option Int :=
  if ¬ (shlV .u64 1 (IntKind.u64.wrap a1)) = 0 then
    some (IntKind.u32.wrap (Int.tmod (IntKind.u64.wrap a0) (shlV .u64 1 (IntKind.u64.wrap a1))))
  else none
theorem bodegaref23_low_ok (G : Glob) (hG0 : G.glob 0 = some [(.int .i64 0), (.int .i64 0)]) (a0 : Int) (a1 : Int) (res : Int) (h : bodegaref23_low a0 a1 = some res) : Spec Tryd.prog G 58 [.cell (.p (.int .u32 a0)), .cell (.p (.int .i64 a1))] (fun r ios => r = .cell (.p (.int .u32 res)) ∧ ios = []) := by
  rw [bodegaref23_low] at h
  refine spec_of Tryd.mixed Tryd.func58 rfl rfl (by simp only [List.length]; decide +kernel) ?_
  refine swp_fresh (fun g => stL [(0, (.c (.p (.int .u32 a0)))), (1, (.c (.p (.int .i64 a1))))] [] (g + 1)) ?_ (fun g => ?_)
  · refine ren_go (fun g S => []) (fun g S => []) ?_ ?_ ?_ ?_ ?_
    all_goals try simp -implicitDefEqProofs +decide only [go_sem, Nat.reduceAdd, Int.reduceToNat]
    all_goals first | done | trivial | omega | (simp [maps, go_sem]; done) | (simp [maps, go_sem] <;> omega)
  refine seq_reg rfl (fun K hK => ?_)
  simp -implicitDefEqProofs +decide only [go_sem, Nat.reduceAdd, Int.reduceToNat]
  refine hK _ ?_
  refine seq_reg rfl (fun K hK => ?_)
  refine psplit h (fun hp1 h => ?_)
  simp -implicitDefEqProofs +decide only [go_sem, Nat.reduceAdd, Int.reduceToNat, hp1]
  refine hK _ ?_
  refine swp_ret ?_
  with_reducible repeat (first | refine nn ?_ | refine nb ?_ | refine nr ?_ | refine nc ?_ | refine ne ?_ | refine nq ?_ | refine nx rfl ?_)
  obtain rfl := some_eq h
  simp -implicitDefEqProofs +decide only [go_sem, Nat.reduceAdd, Int.reduceToNat]
  all_goals first | done | trivial | (simp [maps]; done)
end Go.Sh
end
section
namespace Go.Sh
open Go.Proofs
set_option linter.unusedVariables false
set_option linter.unusedSimpArgs false
set_option maxRecDepth 100000
set_option maxHeartbeats 4000000
noncomputable def bodegaref23_ValidBucket_L1 (a0 : bodegaref23_Bucket) (x42 : Int) : Option (Int ⊕ Bool) :=
    if (decide (x42 < (a0.Entries.length : Int))) = true then
      (idx a0.Entries x42).bind fun e45 =>
      if (decide (e45.Key < 1)) = true then
        Option.map Sum.inr (
          some false)
      else
        if (decide (e45.Key > 4294967294)) = true then
          Option.map Sum.inr (
            some false)
        else
          (bodegaref19_ValidPointer e45.To).bind fun v48 =>
          if (!v48) = true then
            Option.map Sum.inr (
              some false)
          else
            (bodegaref23_Hash e45.Key).bind fun v50 =>
            (bodegaref23_low v50 a0.Depth).bind fun v51 =>
            if (v51 != a0.Pattern) = true then
              Option.map Sum.inr (
                some false)
            else
              if (decide (x42 > 0)) = true then
                (idx a0.Entries (IntKind.i64.wrap (x42 - 1))).bind fun e54 =>
                if (decide (e54.Key ≥ e45.Key)) = true then
                  Option.map Sum.inr (
                    some false)
                else
                  some (.inl (IntKind.i64.wrap (x42 + 1)))
              else
                some (.inl (IntKind.i64.wrap (x42 + 1)))
    else
      Option.map Sum.inr (
        some true)
noncomputable def bodegaref23_ValidBucket (a0 : bodegaref23_Bucket) : Option Bool :=
  if (decide (a0.Depth < 0)) = true then
    some false
  else
    if (decide (a0.Depth > 16)) = true then
      some false
    else
      if (decide ((IntKind.u64.wrap a0.Pattern) ≥ (shlV .u64 1 (IntKind.u64.wrap a0.Depth)))) = true then
        some false
      else
        (bodegaref23_good a0.Next).bind fun v10 =>
        if (!v10) = true then
          some false
        else
          if (decide ((a0.Entries.length : Int) > 5)) = true then
            some false
          else
            iter (bodegaref23_ValidBucket_L1 a0) 0
theorem bodegaref23_ValidBucket_ok (G : Glob) (hG0 : G.glob 0 = some [(.int .i64 0), (.int .i64 0)]) (a0 : bodegaref23_Bucket) (res : Bool) (h : bodegaref23_ValidBucket a0 = some res) : Spec Tryd.prog G 49 [.agg [.p (.int .i64 a0.Depth), .p (.int .u32 a0.Pattern), .p (.int .i64 a0.Next.Line), .p (.int .i64 a0.Next.Gen), .p (.rows (a0.Entries.map r_bodegaref23_Entry))]] (fun r ios => r = .cell (.p (.bool res)) ∧ ios = []) := by
  rw [bodegaref23_ValidBucket] at h
  refine spec_of Tryd.mixed Tryd.func49 rfl rfl (by simp only [List.length]; decide +kernel) ?_
  refine swp_fresh (fun g => stL [(0, (.agg [(.p (.int .i64 a0.Depth)), (.p (.int .u32 a0.Pattern)), (.p (.int .i64 a0.Next.Line)), (.p (.int .i64 a0.Next.Gen)), (.p (.rows (a0.Entries.map r_bodegaref23_Entry)))]))] [] (g + 1)) ?_ (fun g => ?_)
  · refine ren_go (fun g S => []) (fun g S => []) ?_ ?_ ?_ ?_ ?_
    all_goals try simp -implicitDefEqProofs +decide only [go_sem, Nat.reduceAdd, Int.reduceToNat]
    all_goals first | done | trivial | omega | (simp [maps, go_sem]; done) | (simp [maps, go_sem] <;> omega)
  refine seq_reg rfl (fun K hK => ?_)
  simp -implicitDefEqProofs +decide only [go_sem, Nat.reduceAdd, Int.reduceToNat]
  refine hK _ ?_
  refine swp_seq ?_
  refine seq_reg rfl (fun K hK => ?_)
  refine bsplit h (fun hb7 h => ?_) (fun hb7 h => ?_)
  · simp -implicitDefEqProofs +decide only [go_sem, Nat.reduceAdd, Int.reduceToNat, hb7]
    refine hK _ ?_
    refine cond_t (by simp -implicitDefEqProofs +decide only [go_sem, hb7]) ?_
    refine seq_reg rfl (fun K hK => ?_)
    simp -implicitDefEqProofs +decide only [go_sem, Nat.reduceAdd, Int.reduceToNat, hb7]
    refine hK _ ?_
    refine swp_ret ?_
    with_reducible repeat (first | refine nn ?_ | refine nb ?_ | refine nr ?_ | refine nc ?_ | refine ne ?_ | refine nq ?_ | refine nx rfl ?_)
    obtain rfl := some_eq h
    simp -implicitDefEqProofs +decide only [go_sem, Nat.reduceAdd, Int.reduceToNat]
    all_goals first | done | trivial | (simp [maps]; done)
  · refine bsplit h (fun hb8 h => ?_) (fun hb8 h => ?_)
    · simp -implicitDefEqProofs +decide only [go_sem, Nat.reduceAdd, Int.reduceToNat, hb7, hb8]
      refine hK _ ?_
      refine cond_t (by simp -implicitDefEqProofs +decide only [go_sem, hb7, hb8]) ?_
      refine seq_reg rfl (fun K hK => ?_)
      simp -implicitDefEqProofs +decide only [go_sem, Nat.reduceAdd, Int.reduceToNat, hb7, hb8]
      refine hK _ ?_
      refine swp_ret ?_
      with_reducible repeat (first | refine nn ?_ | refine nb ?_ | refine nr ?_ | refine nc ?_ | refine ne ?_ | refine nq ?_ | refine nx rfl ?_)
      obtain rfl := some_eq h
      simp -implicitDefEqProofs +decide only [go_sem, Nat.reduceAdd, Int.reduceToNat]
      all_goals first | done | trivial | (simp [maps]; done)
    · refine bsplit h (fun hb9 h => ?_) (fun hb9 h => ?_)
      · simp -implicitDefEqProofs +decide only [go_sem, Nat.reduceAdd, Int.reduceToNat, hb7, hb8, hb9]
        refine hK _ ?_
        refine cond_t (by simp -implicitDefEqProofs +decide only [go_sem, hb7, hb8, hb9]) ?_
        refine seq_reg rfl (fun K hK => ?_)
        simp -implicitDefEqProofs +decide only [go_sem, Nat.reduceAdd, Int.reduceToNat, hb7, hb8, hb9]
        refine hK _ ?_
        refine swp_ret ?_
        with_reducible repeat (first | refine nn ?_ | refine nb ?_ | refine nr ?_ | refine nc ?_ | refine ne ?_ | refine nq ?_ | refine nx rfl ?_)
        obtain rfl := some_eq h
        simp -implicitDefEqProofs +decide only [go_sem, Nat.reduceAdd, Int.reduceToNat]
        all_goals first | done | trivial | (simp [maps]; done)
      · refine bind_of h (fun v10 hv10 h => ?_)
        simp -implicitDefEqProofs +decide only [go_sem, Nat.reduceAdd, Int.reduceToNat, hb7, hb8, hb9]
        refine call_go [0] false (bodegaref23_good_ok ⟨G.glob, noCaps⟩ hG0 a0.Next _ hv10) (by simp -implicitDefEqProofs +decide only [go_sem, Nat.reduceAdd, Int.reduceToNat, hb7, hb8, hb9]; rfl) (by first | rfl | (simp [maps, hb7, hb8, hb9]; done)) ?_
        refine bsplit h (fun hb11 h => ?_) (fun hb11 h => ?_)
        · simp -implicitDefEqProofs +decide only [go_sem, Nat.reduceAdd, Int.reduceToNat, hb7, hb8, hb9, hb11]
          refine hK _ ?_
          refine cond_t (by simp -implicitDefEqProofs +decide only [go_sem, hb7, hb8, hb9, hb11]) ?_
          refine seq_reg rfl (fun K hK => ?_)
          simp -implicitDefEqProofs +decide only [go_sem, Nat.reduceAdd, Int.reduceToNat, hb7, hb8, hb9, hb11]
          refine hK _ ?_
          refine swp_ret ?_
          with_reducible repeat (first | refine nn ?_ | refine nb ?_ | refine nr ?_ | refine nc ?_ | refine ne ?_ | refine nq ?_ | refine nx rfl ?_)
          obtain rfl := some_eq h
          simp -implicitDefEqProofs +decide only [go_sem, Nat.reduceAdd, Int.reduceToNat]
          all_goals first | done | trivial | (simp [maps]; done)
        · simp -implicitDefEqProofs +decide only [go_sem, Nat.reduceAdd, Int.reduceToNat, hb7, hb8, hb9, hb11]
          refine hK _ ?_
          refine bsplit h (fun hb12 h => ?_) (fun hb12 h => ?_)
          · refine cond_t (by simp -implicitDefEqProofs +decide only [go_sem, hb7, hb8, hb9, hb11, hb12]) ?_
            refine seq_reg rfl (fun K hK => ?_)
            simp -implicitDefEqProofs +decide only [go_sem, Nat.reduceAdd, Int.reduceToNat, hb7, hb8, hb9, hb11, hb12]
            refine hK _ ?_
            refine swp_ret ?_
            with_reducible repeat (first | refine nn ?_ | refine nb ?_ | refine nr ?_ | refine nc ?_ | refine ne ?_ | refine nq ?_ | refine nx rfl ?_)
            obtain rfl := some_eq h
            simp -implicitDefEqProofs +decide only [go_sem, Nat.reduceAdd, Int.reduceToNat]
            all_goals first | done | trivial | (simp [maps]; done)
          · refine cond_f (by simp -implicitDefEqProofs +decide only [go_sem, hb7, hb8, hb9, hb11, hb12]) ?_
            refine swp_skip ?_
            with_reducible repeat (first | refine nn ?_ | refine nb ?_ | refine nr ?_ | refine nc ?_ | refine ne ?_ | refine nq ?_ | refine nx rfl ?_)
            refine swp_seq ?_
            refine seq_reg rfl (fun K hK => ?_)
            simp -implicitDefEqProofs +decide only [go_sem, Nat.reduceAdd, Int.reduceToNat, hb7, hb8, hb9, hb11, hb12]
            refine hK _ ?_
            refine swp_block ?_
            refine swp_iter (fun g x42 => stL [(1, (.c (.ptr ⟨1024000001, g⟩ 0 0))), (3, (.c (.p (.int .i64 x42))))] [(⟨1024000001, g⟩, .box true [(.p (.int .i64 a0.Depth)), (.p (.int .u32 a0.Pattern)), (.p (.int .i64 a0.Next.Line)), (.p (.int .i64 a0.Next.Gen)), (.p (.rows (a0.Entries.map r_bodegaref23_Entry)))])] (g + 1)) h (enter_of ?_) ?_
            · refine ren_go (fun g S => [(⟨1024000001, g⟩, (keyT 0 (St.env S 1)))]) (fun g S => []) ?_ ?_ ?_ ?_ ?_
              all_goals try simp -implicitDefEqProofs +decide only [go_sem, Nat.reduceAdd, Int.reduceToNat, hb7, hb8, hb9, hb11, hb12]
              all_goals first | done | trivial | omega | (simp [maps, go_sem, hb7, hb8, hb9, hb11, hb12]; done) | (simp [maps, go_sem, hb7, hb8, hb9, hb11, hb12] <;> omega)
            rintro g x42 s1 h hd1
            rw [bodegaref23_ValidBucket_L1] at h
            try dsimp only
            refine swp_seq ?_
            refine seq_reg rfl (fun K hK => ?_)
            simp -implicitDefEqProofs +decide only [go_sem, Nat.reduceAdd, Int.reduceToNat]
            refine hK _ ?_
            refine bsplit h (fun hb44 h => ?_) (fun hb44 h => ?_)
            · refine cond_t (by simp -implicitDefEqProofs +decide only [go_sem, hb44]) ?_
              refine swp_skip ?_
              with_reducible repeat (first | refine nn ?_ | refine nb ?_ | refine nr ?_ | refine nc ?_ | refine ne ?_ | refine nq ?_ | refine nx rfl ?_)
              refine swp_seq ?_
              refine swp_block ?_
              refine seq_reg rfl (fun K hK => ?_)
              refine bind_of h (fun e45 he45 h => ?_)
              obtain ⟨he45_0, he45_1, he45_2⟩ := idx_some he45
              simp -implicitDefEqProofs +decide only [go_sem, Nat.reduceAdd, Int.reduceToNat, he45_0, he45_1, he45_2, hb44]
              refine hK _ ?_
              refine seq_drw rfl (fun K hK => ?_)
              refine bsplit h (fun hb46 h => ?_) (fun hb46 h => ?_)
              · simp -implicitDefEqProofs +decide only [go_sem, Nat.reduceAdd, Int.reduceToNat, hb44, hb46]
                refine draw_go (by kernel_rfl) ?_
                refine hK _ ?_
                refine cond_t (by simp -implicitDefEqProofs +decide only [go_sem, hb44, hb46]) ?_
                refine seq_reg rfl (fun K hK => ?_)
                simp -implicitDefEqProofs +decide only [go_sem, Nat.reduceAdd, Int.reduceToNat, hb44, hb46]
                refine hK _ ?_
                refine swp_ret ?_
                with_reducible repeat (first | refine nn ?_ | refine nb ?_ | refine nr ?_ | refine nc ?_ | refine ne ?_ | refine nq ?_ | refine nx rfl ?_)
                obtain ⟨h, hs1⟩ := exit_of h hd1
                refine ⟨hs1, ?_⟩
                with_reducible repeat (first | refine nn ?_ | refine nb ?_ | refine nr ?_ | refine nc ?_ | refine ne ?_ | refine nq ?_ | refine nx rfl ?_)
                obtain rfl := some_eq h
                simp -implicitDefEqProofs +decide only [go_sem, Nat.reduceAdd, Int.reduceToNat]
                all_goals first | done | trivial | (simp [maps]; done)
              · refine bsplit h (fun hb47 h => ?_) (fun hb47 h => ?_)
                · simp -implicitDefEqProofs +decide only [go_sem, Nat.reduceAdd, Int.reduceToNat, hb44, hb46, hb47]
                  refine draw_go (by kernel_rfl) ?_
                  refine hK _ ?_
                  refine cond_t (by simp -implicitDefEqProofs +decide only [go_sem, hb44, hb46, hb47]) ?_
                  refine seq_reg rfl (fun K hK => ?_)
                  simp -implicitDefEqProofs +decide only [go_sem, Nat.reduceAdd, Int.reduceToNat, hb44, hb46, hb47]
                  refine hK _ ?_
                  refine swp_ret ?_
                  with_reducible repeat (first | refine nn ?_ | refine nb ?_ | refine nr ?_ | refine nc ?_ | refine ne ?_ | refine nq ?_ | refine nx rfl ?_)
                  obtain ⟨h, hs1⟩ := exit_of h hd1
                  refine ⟨hs1, ?_⟩
                  with_reducible repeat (first | refine nn ?_ | refine nb ?_ | refine nr ?_ | refine nc ?_ | refine ne ?_ | refine nq ?_ | refine nx rfl ?_)
                  obtain rfl := some_eq h
                  simp -implicitDefEqProofs +decide only [go_sem, Nat.reduceAdd, Int.reduceToNat]
                  all_goals first | done | trivial | (simp [maps]; done)
                · refine bind_of h (fun v48 hv48 h => ?_)
                  simp -implicitDefEqProofs +decide only [go_sem, Nat.reduceAdd, Int.reduceToNat, hb44, hb46, hb47]
                  refine call_go [0] false (bodegaref19_ValidPointer_ok ⟨G.glob, noCaps⟩ hG0 e45.To _ hv48) (by simp -implicitDefEqProofs +decide only [go_sem, Nat.reduceAdd, Int.reduceToNat, hb44, hb46, hb47]; rfl) (by first | rfl | (simp [maps, hb44, hb46, hb47]; done)) ?_
                  refine bsplit h (fun hb49 h => ?_) (fun hb49 h => ?_)
                  · simp -implicitDefEqProofs +decide only [go_sem, Nat.reduceAdd, Int.reduceToNat, hb44, hb46, hb47, hb49]
                    refine draw_go (by kernel_rfl) ?_
                    refine hK _ ?_
                    refine cond_t (by simp -implicitDefEqProofs +decide only [go_sem, hb44, hb46, hb47, hb49]) ?_
                    refine seq_reg rfl (fun K hK => ?_)
                    simp -implicitDefEqProofs +decide only [go_sem, Nat.reduceAdd, Int.reduceToNat, hb44, hb46, hb47, hb49]
                    refine hK _ ?_
                    refine swp_ret ?_
                    with_reducible repeat (first | refine nn ?_ | refine nb ?_ | refine nr ?_ | refine nc ?_ | refine ne ?_ | refine nq ?_ | refine nx rfl ?_)
                    obtain ⟨h, hs1⟩ := exit_of h hd1
                    refine ⟨hs1, ?_⟩
                    with_reducible repeat (first | refine nn ?_ | refine nb ?_ | refine nr ?_ | refine nc ?_ | refine ne ?_ | refine nq ?_ | refine nx rfl ?_)
                    obtain rfl := some_eq h
                    simp -implicitDefEqProofs +decide only [go_sem, Nat.reduceAdd, Int.reduceToNat]
                    all_goals first | done | trivial | (simp [maps]; done)
                  · refine bind_of h (fun v50 hv50 h => ?_)
                    simp -implicitDefEqProofs +decide only [go_sem, Nat.reduceAdd, Int.reduceToNat, hb44, hb46, hb47, hb49]
                    refine call_go [0] false (bodegaref23_Hash_ok ⟨G.glob, noCaps⟩ hG0 e45.Key _ hv50) (by simp -implicitDefEqProofs +decide only [go_sem, Nat.reduceAdd, Int.reduceToNat, hb44, hb46, hb47, hb49]; rfl) (by first | rfl | (simp [maps, hb44, hb46, hb47, hb49]; done)) ?_
                    refine bind_of h (fun v51 hv51 h => ?_)
                    simp -implicitDefEqProofs +decide only [go_sem, Nat.reduceAdd, Int.reduceToNat, hb44, hb46, hb47, hb49]
                    refine call_go [0, 0] false (bodegaref23_low_ok ⟨G.glob, noCaps⟩ hG0 v50 a0.Depth _ hv51) (by simp -implicitDefEqProofs +decide only [go_sem, Nat.reduceAdd, Int.reduceToNat, hb44, hb46, hb47, hb49]; rfl) (by first | rfl | (simp [maps, hb44, hb46, hb47, hb49]; done)) ?_
                    refine bsplit h (fun hb52 h => ?_) (fun hb52 h => ?_)
                    · simp -implicitDefEqProofs +decide only [go_sem, Nat.reduceAdd, Int.reduceToNat, hb44, hb46, hb47, hb49, hb52]
                      refine draw_go (by kernel_rfl) ?_
                      refine hK _ ?_
                      refine cond_t (by simp -implicitDefEqProofs +decide only [go_sem, hb44, hb46, hb47, hb49, hb52]) ?_
                      refine seq_reg rfl (fun K hK => ?_)
                      simp -implicitDefEqProofs +decide only [go_sem, Nat.reduceAdd, Int.reduceToNat, hb44, hb46, hb47, hb49, hb52]
                      refine hK _ ?_
                      refine swp_ret ?_
                      with_reducible repeat (first | refine nn ?_ | refine nb ?_ | refine nr ?_ | refine nc ?_ | refine ne ?_ | refine nq ?_ | refine nx rfl ?_)
                      obtain ⟨h, hs1⟩ := exit_of h hd1
                      refine ⟨hs1, ?_⟩
                      with_reducible repeat (first | refine nn ?_ | refine nb ?_ | refine nr ?_ | refine nc ?_ | refine ne ?_ | refine nq ?_ | refine nx rfl ?_)
                      obtain rfl := some_eq h
                      simp -implicitDefEqProofs +decide only [go_sem, Nat.reduceAdd, Int.reduceToNat]
                      all_goals first | done | trivial | (simp [maps]; done)
                    · refine bsplit h (fun hb53 h => ?_) (fun hb53 h => ?_)
                      · refine bind_of h (fun e54 he54 h => ?_)
                        obtain ⟨he54_0, he54_1, he54_2⟩ := idx_some he54
                        simp -implicitDefEqProofs +decide only [go_sem, Nat.reduceAdd, Int.reduceToNat, he54_0, he54_1, he54_2, hb44, hb46, hb47, hb49, hb52, hb53]
                        refine draw_go (by kernel_rfl) ?_
                        refine hK _ ?_
                        refine bsplit h (fun hb55 h => ?_) (fun hb55 h => ?_)
                        · refine cond_t (by simp -implicitDefEqProofs +decide only [go_sem, hb44, hb46, hb47, hb49, hb52, hb53, hb55]) ?_
                          refine seq_reg rfl (fun K hK => ?_)
                          simp -implicitDefEqProofs +decide only [go_sem, Nat.reduceAdd, Int.reduceToNat, hb44, hb46, hb47, hb49, hb52, hb53, hb55]
                          refine hK _ ?_
                          refine swp_ret ?_
                          with_reducible repeat (first | refine nn ?_ | refine nb ?_ | refine nr ?_ | refine nc ?_ | refine ne ?_ | refine nq ?_ | refine nx rfl ?_)
                          obtain ⟨h, hs1⟩ := exit_of h hd1
                          refine ⟨hs1, ?_⟩
                          with_reducible repeat (first | refine nn ?_ | refine nb ?_ | refine nr ?_ | refine nc ?_ | refine ne ?_ | refine nq ?_ | refine nx rfl ?_)
                          obtain rfl := some_eq h
                          simp -implicitDefEqProofs +decide only [go_sem, Nat.reduceAdd, Int.reduceToNat]
                          all_goals first | done | trivial | (simp [maps]; done)
                        · refine cond_f (by simp -implicitDefEqProofs +decide only [go_sem, hb44, hb46, hb47, hb49, hb52, hb53, hb55]) ?_
                          refine swp_skip ?_
                          with_reducible repeat (first | refine nn ?_ | refine nb ?_ | refine nr ?_ | refine nc ?_ | refine ne ?_ | refine nq ?_ | refine nx rfl ?_)
                          refine swp_reg rfl (fun K hK => ?_)
                          simp -implicitDefEqProofs +decide only [go_sem, Nat.reduceAdd, Int.reduceToNat, hb44, hb46, hb47, hb49, hb52, hb53, hb55]
                          refine hK _ ?_
                          with_reducible repeat (first | refine nn ?_ | refine nb ?_ | refine nr ?_ | refine nc ?_ | refine ne ?_ | refine nq ?_ | refine nx rfl ?_)
                          refine back_of h ?_
                          refine ren_go (fun g S => [(⟨1024000001, g⟩, (keyT 0 (St.env S 1)))]) (fun g S => []) ?_ ?_ ?_ ?_ ?_
                          all_goals try simp -implicitDefEqProofs +decide only [go_sem, Nat.reduceAdd, Int.reduceToNat, hb44, hb46, hb47, hb49, hb52, hb53, hb55]
                          all_goals first | done | trivial | omega | (simp [maps, go_sem, hb44, hb46, hb47, hb49, hb52, hb53, hb55]; done) | (simp [maps, go_sem, hb44, hb46, hb47, hb49, hb52, hb53, hb55] <;> omega)
                      · simp -implicitDefEqProofs +decide only [go_sem, Nat.reduceAdd, Int.reduceToNat, hb44, hb46, hb47, hb49, hb52, hb53]
                        refine draw_go (by kernel_rfl) ?_
                        refine hK _ ?_
                        refine cond_f (by simp -implicitDefEqProofs +decide only [go_sem, hb44, hb46, hb47, hb49, hb52, hb53]) ?_
                        refine swp_skip ?_
                        with_reducible repeat (first | refine nn ?_ | refine nb ?_ | refine nr ?_ | refine nc ?_ | refine ne ?_ | refine nq ?_ | refine nx rfl ?_)
                        refine swp_reg rfl (fun K hK => ?_)
                        simp -implicitDefEqProofs +decide only [go_sem, Nat.reduceAdd, Int.reduceToNat, hb44, hb46, hb47, hb49, hb52, hb53]
                        refine hK _ ?_
                        with_reducible repeat (first | refine nn ?_ | refine nb ?_ | refine nr ?_ | refine nc ?_ | refine ne ?_ | refine nq ?_ | refine nx rfl ?_)
                        refine back_of h ?_
                        refine ren_go (fun g S => [(⟨1024000001, g⟩, (keyT 0 (St.env S 1)))]) (fun g S => []) ?_ ?_ ?_ ?_ ?_
                        all_goals try simp -implicitDefEqProofs +decide only [go_sem, Nat.reduceAdd, Int.reduceToNat, hb44, hb46, hb47, hb49, hb52, hb53]
                        all_goals first | done | trivial | omega | (simp [maps, go_sem, hb44, hb46, hb47, hb49, hb52, hb53]; done) | (simp [maps, go_sem, hb44, hb46, hb47, hb49, hb52, hb53] <;> omega)
            · refine cond_f (by simp -implicitDefEqProofs +decide only [go_sem, hb44]) ?_
              refine swp_exit ?_
              with_reducible repeat (first | refine nn ?_ | refine nb ?_ | refine nr ?_ | refine nc ?_ | refine ne ?_ | refine nq ?_ | refine nx rfl ?_)
              obtain ⟨h, hs1⟩ := exit_of h hd1
              with_reducible repeat (first | refine nn ?_ | refine nb ?_ | refine nr ?_ | refine nc ?_ | refine ne ?_ | refine nq ?_ | refine nx rfl ?_)
              refine ⟨hs1, ?_⟩
              with_reducible repeat (first | refine nn ?_ | refine nb ?_ | refine nr ?_ | refine nc ?_ | refine ne ?_ | refine nq ?_ | refine nx rfl ?_)
              refine seq_reg rfl (fun K hK => ?_)
              simp -implicitDefEqProofs +decide only [go_sem, Nat.reduceAdd, Int.reduceToNat, hb44]
              refine hK _ ?_
              refine swp_ret ?_
              with_reducible repeat (first | refine nn ?_ | refine nb ?_ | refine nr ?_ | refine nc ?_ | refine ne ?_ | refine nq ?_ | refine nx rfl ?_)
              obtain rfl := some_eq h
              simp -implicitDefEqProofs +decide only [go_sem, Nat.reduceAdd, Int.reduceToNat]
              all_goals first | done | trivial | (simp [maps]; done)
end Go.Sh
end
section
namespace Go.Sh
open Go.Proofs
set_option linter.unusedVariables false
set_option linter.unusedSimpArgs false
set_option maxRecDepth 100000
set_option maxHeartbeats 4000000
noncomputable def bodegaref23_ReadBucket_J1 (v1 : Int) (v2 : (bodegaref19_Pointer × Bool)) (l49 : List bodegaref23_Entry) : Option (bodegaref23_Bucket × Int) :=
    (bodegaref23_ValidBucket (⟨(IntKind.i64.wrap (Int.tmod v1 256)), (shrV .u32 v1 16), v2.1, l49⟩ : bodegaref23_Bucket)).bind fun v50 =>
    if (!v50) = true then
      some ((⟨0, 0, (⟨0, 0⟩ : bodegaref19_Pointer), ([] : List bodegaref23_Entry)⟩ : bodegaref23_Bucket), 14)
    else
      some ((⟨(IntKind.i64.wrap (Int.tmod v1 256)), (shrV .u32 v1 16), v2.1, l49⟩ : bodegaref23_Bucket), 0)
noncomputable def bodegaref23_ReadBucket_L1 (v1 : Int) (a0 : api_Page) (v2 : (bodegaref19_Pointer × Bool)) : (List bodegaref23_Entry × Int) → Option ((List bodegaref23_Entry × Int) ⊕ (bodegaref23_Bucket × Int))
  | (l75, x76) =>
    if (decide (x76 < 5)) = true then
      if 0 ≤ (IntKind.i64.wrap (2 + x76)) ∧ (IntKind.i64.wrap (2 + x76)) < 7 then
        if (decide (x76 ≥ (IntKind.i64.wrap (Int.tmod (IntKind.u32.wrap (Int.tdiv v1 256)) 256)))) = true then
          if ((A7.get a0.Data (IntKind.i64.wrap (2 + x76))) != 0) = true then
            Option.map Sum.inr (
              some ((⟨0, 0, (⟨0, 0⟩ : bodegaref19_Pointer), ([] : List bodegaref23_Entry)⟩ : bodegaref23_Bucket), 14))
          else
            some (.inl (l75, (IntKind.i64.wrap (x76 + 1))))
        else
          (bodegaref19_Unpack (IntKind.u32.wrap (A7.get a0.Data (IntKind.i64.wrap (2 + x76))))).bind fun v89 =>
          if (l75.length + 1) * 24 ≤ maxRows ∧ l75.length + 1 ≤ maxRows then
            some (.inl ((l75 ++ ([(⟨(IntKind.u32.wrap (shrV .u64 (A7.get a0.Data (IntKind.i64.wrap (2 + x76))) 32)), v89⟩ : bodegaref23_Entry)] : List bodegaref23_Entry)), (IntKind.i64.wrap (x76 + 1))))
          else none
      else none
    else
      Option.map Sum.inr (
        bodegaref23_ReadBucket_J1 v1 v2 l75)
noncomputable def bodegaref23_ReadBucket (a0 : api_Page) : Option (bodegaref23_Bucket × Int) :=
  (bodegaref19_Aux a0).bind fun v1 =>
  (bodegaref23_pointer a0.Data.a1).bind fun v2 =>
  (bodegaref19_Kind a0).bind fun v9 =>
  if (v9 != 2) = true then
    some ((⟨0, 0, (⟨0, 0⟩ : bodegaref19_Pointer), ([] : List bodegaref23_Entry)⟩ : bodegaref23_Bucket), 14)
  else
    if (decide ((Int.tmod v1 256) > 16)) = true then
      some ((⟨0, 0, (⟨0, 0⟩ : bodegaref19_Pointer), ([] : List bodegaref23_Entry)⟩ : bodegaref23_Bucket), 14)
    else
      if (decide ((IntKind.i64.wrap (Int.tmod (IntKind.u32.wrap (Int.tdiv v1 256)) 256)) > 5)) = true then
        some ((⟨0, 0, (⟨0, 0⟩ : bodegaref19_Pointer), ([] : List bodegaref23_Entry)⟩ : bodegaref23_Bucket), 14)
      else
        if (!v2.2) = true then
          some ((⟨0, 0, (⟨0, 0⟩ : bodegaref19_Pointer), ([] : List bodegaref23_Entry)⟩ : bodegaref23_Bucket), 14)
        else
          if (decide (a0.Data.a1 ≥ 4294967296)) = true then
            some ((⟨0, 0, (⟨0, 0⟩ : bodegaref19_Pointer), ([] : List bodegaref23_Entry)⟩ : bodegaref23_Bucket), 14)
          else
            iter (bodegaref23_ReadBucket_L1 v1 a0 v2) (([] : List bodegaref23_Entry), 0)
theorem bodegaref23_ReadBucket_ok (G : Glob) (hG0 : G.glob 0 = some [(.int .i64 0), (.int .i64 0)]) (a0 : api_Page) (res : (bodegaref23_Bucket × Int)) (h : bodegaref23_ReadBucket a0 = some res) : Spec Tryd.prog G 22 [.agg [.p (.int .i64 a0.Line), .p (.int .u64 a0.Head), .p (.int .u64 a0.Data.a0), .p (.int .u64 a0.Data.a1), .p (.int .u64 a0.Data.a2), .p (.int .u64 a0.Data.a3), .p (.int .u64 a0.Data.a4), .p (.int .u64 a0.Data.a5), .p (.int .u64 a0.Data.a6)]] (fun r ios => r = .tup [.agg [.p (.int .i64 res.1.Depth), .p (.int .u32 res.1.Pattern), .p (.int .i64 res.1.Next.Line), .p (.int .i64 res.1.Next.Gen), .own 3 (res.1.Entries.map r_bodegaref23_Entry)], .cell (.p (.int .i64 res.2))] ∧ ios = []) := by
  rw [bodegaref23_ReadBucket] at h
  refine spec_of Tryd.mixed Tryd.func22 rfl rfl (by simp only [List.length]; decide +kernel) ?_
  refine swp_fresh (fun g => stL [(0, (.agg [(.p (.int .i64 a0.Line)), (.p (.int .u64 a0.Head)), (.p (.int .u64 a0.Data.a0)), (.p (.int .u64 a0.Data.a1)), (.p (.int .u64 a0.Data.a2)), (.p (.int .u64 a0.Data.a3)), (.p (.int .u64 a0.Data.a4)), (.p (.int .u64 a0.Data.a5)), (.p (.int .u64 a0.Data.a6))]))] [] (g + 1)) ?_ (fun g => ?_)
  · refine ren_go (fun g S => []) (fun g S => []) ?_ ?_ ?_ ?_ ?_
    all_goals try simp -implicitDefEqProofs +decide only [go_sem, Nat.reduceAdd, Int.reduceToNat]
    all_goals first | done | trivial | omega | (simp [maps, go_sem]; done) | (simp [maps, go_sem] <;> omega)
  refine seq_reg rfl (fun K hK => ?_)
  simp -implicitDefEqProofs +decide only [go_sem, Nat.reduceAdd, Int.reduceToNat]
  refine hK _ ?_
  refine seq_reg rfl (fun K hK => ?_)
  refine bind_of h (fun v1 hv1 h => ?_)
  simp -implicitDefEqProofs +decide only [go_sem, Nat.reduceAdd, Int.reduceToNat]
  refine call_go [0] false (bodegaref19_Aux_ok ⟨G.glob, noCaps⟩ hG0 a0 _ hv1) (by simp -implicitDefEqProofs +decide only [go_sem, Nat.reduceAdd, Int.reduceToNat]; rfl) (by first | rfl | (simp [maps]; done)) ?_
  simp -implicitDefEqProofs +decide only [go_sem, Nat.reduceAdd, Int.reduceToNat]
  refine hK _ ?_
  refine seq_reg rfl (fun K hK => ?_)
  simp -implicitDefEqProofs +decide only [go_sem, Nat.reduceAdd, Int.reduceToNat]
  refine hK _ ?_
  refine seq_reg rfl (fun K hK => ?_)
  refine bind_of h (fun v2 hv2 h => ?_)
  simp -implicitDefEqProofs +decide only [go_sem, Nat.reduceAdd, Int.reduceToNat]
  refine call_go [0] false (bodegaref23_pointer_ok ⟨G.glob, noCaps⟩ hG0 a0.Data.a1 _ hv2) (by simp -implicitDefEqProofs +decide only [go_sem, Nat.reduceAdd, Int.reduceToNat]; rfl) (by first | rfl | (simp [maps]; done)) ?_
  simp -implicitDefEqProofs +decide only [go_sem, Nat.reduceAdd, Int.reduceToNat]
  refine hK _ ?_
  refine swp_seq ?_
  refine seq_reg rfl (fun K hK => ?_)
  refine bind_of h (fun v9 hv9 h => ?_)
  simp -implicitDefEqProofs +decide only [go_sem, Nat.reduceAdd, Int.reduceToNat]
  refine call_go [0] false (bodegaref19_Kind_ok ⟨G.glob, noCaps⟩ hG0 a0 _ hv9) (by simp -implicitDefEqProofs +decide only [go_sem, Nat.reduceAdd, Int.reduceToNat]; rfl) (by first | rfl | (simp [maps]; done)) ?_
  refine bsplit h (fun hb10 h => ?_) (fun hb10 h => ?_)
  · simp -implicitDefEqProofs +decide only [go_sem, Nat.reduceAdd, Int.reduceToNat, hb10]
    refine hK _ ?_
    refine cond_t (by simp -implicitDefEqProofs +decide only [go_sem, hb10]) ?_
    refine seq_reg rfl (fun K hK => ?_)
    simp -implicitDefEqProofs +decide only [go_sem, Nat.reduceAdd, Int.reduceToNat, hb10]
    refine hK _ ?_
    refine swp_fresh (fun g => stL [(2, (.c (.ptr ⟨1024000001, g⟩ 0 0))), (3, (.c (.p (.int .i64 14))))] [(⟨1024000001, g⟩, .box true [(.p (.int .i64 0)), (.p (.int .u32 0)), (.p (.int .i64 0)), (.p (.int .i64 0)), (.ref ⟨1024000002, g⟩ 0 ([] : List bodegaref23_Entry).length)]), (⟨1024000002, g⟩, .arr true 3 (([] : List bodegaref23_Entry).map r_bodegaref23_Entry))] (g + 1)) ?_ (fun g => ?_)
    · refine ren_go (fun g S => [(⟨1024000001, g⟩, (keyT 0 (St.env S 2)))]) (fun g S => [(⟨1024000002, g⟩, 3)]) ?_ ?_ ?_ ?_ ?_
      all_goals try simp -implicitDefEqProofs +decide only [go_sem, Nat.reduceAdd, Int.reduceToNat]
      all_goals first | done | trivial | omega | (simp [maps, go_sem]; done) | (simp [maps, go_sem] <;> omega)
    refine swp_ret ?_
    with_reducible repeat (first | refine nn ?_ | refine nb ?_ | refine nr ?_ | refine nc ?_ | refine ne ?_ | refine nq ?_ | refine nx rfl ?_)
    obtain rfl := some_eq h
    simp -implicitDefEqProofs +decide only [go_sem, Nat.reduceAdd, Int.reduceToNat]
    all_goals first | done | trivial | (simp [maps]; done)
  · refine bsplit h (fun hb11 h => ?_) (fun hb11 h => ?_)
    · simp -implicitDefEqProofs +decide only [go_sem, Nat.reduceAdd, Int.reduceToNat, hb10, hb11]
      refine hK _ ?_
      refine cond_t (by simp -implicitDefEqProofs +decide only [go_sem, hb10, hb11]) ?_
      refine seq_reg rfl (fun K hK => ?_)
      simp -implicitDefEqProofs +decide only [go_sem, Nat.reduceAdd, Int.reduceToNat, hb10, hb11]
      refine hK _ ?_
      refine swp_fresh (fun g => stL [(2, (.c (.ptr ⟨1024000003, g⟩ 0 0))), (3, (.c (.p (.int .i64 14))))] [(⟨1024000003, g⟩, .box true [(.p (.int .i64 0)), (.p (.int .u32 0)), (.p (.int .i64 0)), (.p (.int .i64 0)), (.ref ⟨1024000004, g⟩ 0 ([] : List bodegaref23_Entry).length)]), (⟨1024000004, g⟩, .arr true 3 (([] : List bodegaref23_Entry).map r_bodegaref23_Entry))] (g + 1)) ?_ (fun g => ?_)
      · refine ren_go (fun g S => [(⟨1024000003, g⟩, (keyT 0 (St.env S 2)))]) (fun g S => [(⟨1024000004, g⟩, 3)]) ?_ ?_ ?_ ?_ ?_
        all_goals try simp -implicitDefEqProofs +decide only [go_sem, Nat.reduceAdd, Int.reduceToNat]
        all_goals first | done | trivial | omega | (simp [maps, go_sem]; done) | (simp [maps, go_sem] <;> omega)
      refine swp_ret ?_
      with_reducible repeat (first | refine nn ?_ | refine nb ?_ | refine nr ?_ | refine nc ?_ | refine ne ?_ | refine nq ?_ | refine nx rfl ?_)
      obtain rfl := some_eq h
      simp -implicitDefEqProofs +decide only [go_sem, Nat.reduceAdd, Int.reduceToNat]
      all_goals first | done | trivial | (simp [maps]; done)
    · refine bsplit h (fun hb12 h => ?_) (fun hb12 h => ?_)
      · simp -implicitDefEqProofs +decide only [go_sem, Nat.reduceAdd, Int.reduceToNat, hb10, hb11, hb12]
        refine hK _ ?_
        refine cond_t (by simp -implicitDefEqProofs +decide only [go_sem, hb10, hb11, hb12]) ?_
        refine seq_reg rfl (fun K hK => ?_)
        simp -implicitDefEqProofs +decide only [go_sem, Nat.reduceAdd, Int.reduceToNat, hb10, hb11, hb12]
        refine hK _ ?_
        refine swp_fresh (fun g => stL [(2, (.c (.ptr ⟨1024000005, g⟩ 0 0))), (3, (.c (.p (.int .i64 14))))] [(⟨1024000005, g⟩, .box true [(.p (.int .i64 0)), (.p (.int .u32 0)), (.p (.int .i64 0)), (.p (.int .i64 0)), (.ref ⟨1024000006, g⟩ 0 ([] : List bodegaref23_Entry).length)]), (⟨1024000006, g⟩, .arr true 3 (([] : List bodegaref23_Entry).map r_bodegaref23_Entry))] (g + 1)) ?_ (fun g => ?_)
        · refine ren_go (fun g S => [(⟨1024000005, g⟩, (keyT 0 (St.env S 2)))]) (fun g S => [(⟨1024000006, g⟩, 3)]) ?_ ?_ ?_ ?_ ?_
          all_goals try simp -implicitDefEqProofs +decide only [go_sem, Nat.reduceAdd, Int.reduceToNat]
          all_goals first | done | trivial | omega | (simp [maps, go_sem]; done) | (simp [maps, go_sem] <;> omega)
        refine swp_ret ?_
        with_reducible repeat (first | refine nn ?_ | refine nb ?_ | refine nr ?_ | refine nc ?_ | refine ne ?_ | refine nq ?_ | refine nx rfl ?_)
        obtain rfl := some_eq h
        simp -implicitDefEqProofs +decide only [go_sem, Nat.reduceAdd, Int.reduceToNat]
        all_goals first | done | trivial | (simp [maps]; done)
      · refine bsplit h (fun hb13 h => ?_) (fun hb13 h => ?_)
        · simp -implicitDefEqProofs +decide only [go_sem, Nat.reduceAdd, Int.reduceToNat, hb10, hb11, hb12, hb13]
          refine hK _ ?_
          refine cond_t (by simp -implicitDefEqProofs +decide only [go_sem, hb10, hb11, hb12, hb13]) ?_
          refine seq_reg rfl (fun K hK => ?_)
          simp -implicitDefEqProofs +decide only [go_sem, Nat.reduceAdd, Int.reduceToNat, hb10, hb11, hb12, hb13]
          refine hK _ ?_
          refine swp_fresh (fun g => stL [(2, (.c (.ptr ⟨1024000007, g⟩ 0 0))), (3, (.c (.p (.int .i64 14))))] [(⟨1024000007, g⟩, .box true [(.p (.int .i64 0)), (.p (.int .u32 0)), (.p (.int .i64 0)), (.p (.int .i64 0)), (.ref ⟨1024000008, g⟩ 0 ([] : List bodegaref23_Entry).length)]), (⟨1024000008, g⟩, .arr true 3 (([] : List bodegaref23_Entry).map r_bodegaref23_Entry))] (g + 1)) ?_ (fun g => ?_)
          · refine ren_go (fun g S => [(⟨1024000007, g⟩, (keyT 0 (St.env S 2)))]) (fun g S => [(⟨1024000008, g⟩, 3)]) ?_ ?_ ?_ ?_ ?_
            all_goals try simp -implicitDefEqProofs +decide only [go_sem, Nat.reduceAdd, Int.reduceToNat]
            all_goals first | done | trivial | omega | (simp [maps, go_sem]; done) | (simp [maps, go_sem] <;> omega)
          refine swp_ret ?_
          with_reducible repeat (first | refine nn ?_ | refine nb ?_ | refine nr ?_ | refine nc ?_ | refine ne ?_ | refine nq ?_ | refine nx rfl ?_)
          obtain rfl := some_eq h
          simp -implicitDefEqProofs +decide only [go_sem, Nat.reduceAdd, Int.reduceToNat]
          all_goals first | done | trivial | (simp [maps]; done)
        · simp -implicitDefEqProofs +decide only [go_sem, Nat.reduceAdd, Int.reduceToNat, hb10, hb11, hb12, hb13]
          refine hK _ ?_
          refine bsplit h (fun hb14 h => ?_) (fun hb14 h => ?_)
          · refine cond_t (by simp -implicitDefEqProofs +decide only [go_sem, hb10, hb11, hb12, hb13, hb14]) ?_
            refine seq_reg rfl (fun K hK => ?_)
            simp -implicitDefEqProofs +decide only [go_sem, Nat.reduceAdd, Int.reduceToNat, hb10, hb11, hb12, hb13, hb14]
            refine hK _ ?_
            refine swp_fresh (fun g => stL [(2, (.c (.ptr ⟨1024000009, g⟩ 0 0))), (3, (.c (.p (.int .i64 14))))] [(⟨1024000009, g⟩, .box true [(.p (.int .i64 0)), (.p (.int .u32 0)), (.p (.int .i64 0)), (.p (.int .i64 0)), (.ref ⟨1024000010, g⟩ 0 ([] : List bodegaref23_Entry).length)]), (⟨1024000010, g⟩, .arr true 3 (([] : List bodegaref23_Entry).map r_bodegaref23_Entry))] (g + 1)) ?_ (fun g => ?_)
            · refine ren_go (fun g S => [(⟨1024000009, g⟩, (keyT 0 (St.env S 2)))]) (fun g S => [(⟨1024000010, g⟩, 3)]) ?_ ?_ ?_ ?_ ?_
              all_goals try simp -implicitDefEqProofs +decide only [go_sem, Nat.reduceAdd, Int.reduceToNat]
              all_goals first | done | trivial | omega | (simp [maps, go_sem]; done) | (simp [maps, go_sem] <;> omega)
            refine swp_ret ?_
            with_reducible repeat (first | refine nn ?_ | refine nb ?_ | refine nr ?_ | refine nc ?_ | refine ne ?_ | refine nq ?_ | refine nx rfl ?_)
            obtain rfl := some_eq h
            simp -implicitDefEqProofs +decide only [go_sem, Nat.reduceAdd, Int.reduceToNat]
            all_goals first | done | trivial | (simp [maps]; done)
          · refine cond_f (by simp -implicitDefEqProofs +decide only [go_sem, hb10, hb11, hb12, hb13, hb14]) ?_
            refine swp_skip ?_
            with_reducible repeat (first | refine nn ?_ | refine nb ?_ | refine nr ?_ | refine nc ?_ | refine ne ?_ | refine nq ?_ | refine nx rfl ?_)
            refine seq_reg rfl (fun K hK => ?_)
            simp -implicitDefEqProofs +decide only [go_sem, Nat.reduceAdd, Int.reduceToNat, hb10, hb11, hb12, hb13, hb14]
            refine hK _ ?_
            refine cut1 (Joins (bodegaref23_ReadBucket_J1 v1 v2) (fun g l49 => stL [(2, (.c (.ptr ⟨1024000011, g⟩ 0 0))), (8, (.c (.ptr ⟨1024000012, g⟩ 0 0)))] [(⟨1024000011, g⟩, .box true [(.p (.int .i64 0)), (.p (.int .u32 0)), (.p (.int .i64 0)), (.p (.int .i64 0)), .nilS]), (⟨1024000012, g⟩, .box true [(.p (.int .i64 (IntKind.i64.wrap (Int.tmod v1 256)))), (.p (.int .u32 (shrV .u32 v1 16))), (.p (.int .i64 v2.1.Line)), (.p (.int .i64 v2.1.Gen)), (.ref ⟨1024000013, g⟩ 0 l49.length)]), (⟨1024000013, g⟩, .arr true 3 (l49.map r_bodegaref23_Entry))] (g + 1)) res) ?_ (fun hj1 => ?_)
            · refine join_of ?_
              rintro g l49 h
              rw [bodegaref23_ReadBucket_J1] at h
              try dsimp only
              refine swp_seq ?_
              refine seq_reg rfl (fun K hK => ?_)
              refine bind_of h (fun v50 hv50 h => ?_)
              simp -implicitDefEqProofs +decide only [go_sem, Nat.reduceAdd, Int.reduceToNat, hb10, hb11, hb12, hb13, hb14]
              refine call_go [0] false (bodegaref23_ValidBucket_ok ⟨G.glob, noCaps⟩ hG0 (⟨(IntKind.i64.wrap (Int.tmod v1 256)), (shrV .u32 v1 16), v2.1, l49⟩ : bodegaref23_Bucket) _ hv50) (by simp -implicitDefEqProofs +decide only [go_sem, Nat.reduceAdd, Int.reduceToNat, hb10, hb11, hb12, hb13, hb14]; rfl) (by first | rfl | (simp [maps, hb10, hb11, hb12, hb13, hb14]; done)) ?_
              simp -implicitDefEqProofs +decide only [go_sem, Nat.reduceAdd, Int.reduceToNat, hb10, hb11, hb12, hb13, hb14]
              refine hK _ ?_
              refine bsplit h (fun hb51 h => ?_) (fun hb51 h => ?_)
              · refine cond_t (by simp -implicitDefEqProofs +decide only [go_sem, hb10, hb11, hb12, hb13, hb14, hb51]) ?_
                refine seq_reg rfl (fun K hK => ?_)
                simp -implicitDefEqProofs +decide only [go_sem, Nat.reduceAdd, Int.reduceToNat, hb10, hb11, hb12, hb13, hb14, hb51]
                refine hK _ ?_
                refine swp_fresh (fun g => stL [(2, (.c (.ptr ⟨1024000014, g⟩ 0 0))), (3, (.c (.p (.int .i64 14))))] [(⟨1024000014, g⟩, .box true [(.p (.int .i64 0)), (.p (.int .u32 0)), (.p (.int .i64 0)), (.p (.int .i64 0)), (.ref ⟨1024000015, g⟩ 0 ([] : List bodegaref23_Entry).length)]), (⟨1024000015, g⟩, .arr true 3 (([] : List bodegaref23_Entry).map r_bodegaref23_Entry))] (g + 1)) ?_ (fun g => ?_)
                · refine ren_go (fun g S => [(⟨1024000014, g⟩, (keyT 0 (St.env S 2)))]) (fun g S => [(⟨1024000015, g⟩, 3)]) ?_ ?_ ?_ ?_ ?_
                  all_goals try simp -implicitDefEqProofs +decide only [go_sem, Nat.reduceAdd, Int.reduceToNat]
                  all_goals first | done | trivial | omega | (simp [maps, go_sem]; done) | (simp [maps, go_sem] <;> omega)
                refine swp_ret ?_
                with_reducible repeat (first | refine nn ?_ | refine nb ?_ | refine nr ?_ | refine nc ?_ | refine ne ?_ | refine nq ?_ | refine nx rfl ?_)
                obtain rfl := some_eq h
                simp -implicitDefEqProofs +decide only [go_sem, Nat.reduceAdd, Int.reduceToNat]
                all_goals first | done | trivial | (simp [maps]; done)
              · refine cond_f (by simp -implicitDefEqProofs +decide only [go_sem, hb10, hb11, hb12, hb13, hb14, hb51]) ?_
                refine swp_skip ?_
                with_reducible repeat (first | refine nn ?_ | refine nb ?_ | refine nr ?_ | refine nc ?_ | refine ne ?_ | refine nq ?_ | refine nx rfl ?_)
                refine seq_reg rfl (fun K hK => ?_)
                simp -implicitDefEqProofs +decide only [go_sem, Nat.reduceAdd, Int.reduceToNat, hb10, hb11, hb12, hb13, hb14, hb51]
                refine hK _ ?_
                refine swp_ret ?_
                with_reducible repeat (first | refine nn ?_ | refine nb ?_ | refine nr ?_ | refine nc ?_ | refine ne ?_ | refine nq ?_ | refine nx rfl ?_)
                obtain rfl := some_eq h
                simp -implicitDefEqProofs +decide only [go_sem, Nat.reduceAdd, Int.reduceToNat]
                all_goals first | done | trivial | (simp [maps]; done)
            refine swp_seq ?_
            refine seq_reg rfl (fun K hK => ?_)
            simp -implicitDefEqProofs +decide only [go_sem, Nat.reduceAdd, Int.reduceToNat, hb10, hb11, hb12, hb13, hb14]
            refine hK _ ?_
            refine swp_block ?_
            refine swp_iter (fun g x => match x with | (l75, x76) => stL [(1, (.c (.ptr ⟨1024000016, g⟩ 0 0))), (2, (.c (.ptr ⟨1024000017, g⟩ 0 0))), (5, (.c (.p (.int .i64 (IntKind.i64.wrap (Int.tmod (IntKind.u32.wrap (Int.tdiv v1 256)) 256)))))), (8, (.c (.ptr ⟨1024000018, g⟩ 0 0))), (9, (.c (.p (.int .i64 x76))))] [(⟨1024000016, g⟩, .box true [(.p (.int .i64 a0.Line)), (.p (.int .u64 a0.Head)), (.p (.int .u64 a0.Data.a0)), (.p (.int .u64 a0.Data.a1)), (.p (.int .u64 a0.Data.a2)), (.p (.int .u64 a0.Data.a3)), (.p (.int .u64 a0.Data.a4)), (.p (.int .u64 a0.Data.a5)), (.p (.int .u64 a0.Data.a6))]), (⟨1024000017, g⟩, .box true [(.p (.int .i64 0)), (.p (.int .u32 0)), (.p (.int .i64 0)), (.p (.int .i64 0)), .nilS]), (⟨1024000018, g⟩, .box true [(.p (.int .i64 (IntKind.i64.wrap (Int.tmod v1 256)))), (.p (.int .u32 (shrV .u32 v1 16))), (.p (.int .i64 v2.1.Line)), (.p (.int .i64 v2.1.Gen)), (.ref ⟨1024000019, g⟩ 0 l75.length)]), (⟨1024000019, g⟩, .arr true 3 (l75.map r_bodegaref23_Entry))] (g + 1)) h (enter_of ?_) ?_
            · refine ren_go (fun g S => [(⟨1024000016, g⟩, (keyT 0 (St.env S 1))), (⟨1024000017, g⟩, (keyT 0 (St.env S 2))), (⟨1024000018, g⟩, (keyT 0 (St.env S 8)))]) (fun g S => [(⟨1024000019, g⟩, 3)]) ?_ ?_ ?_ ?_ ?_
              all_goals try simp -implicitDefEqProofs +decide only [go_sem, Nat.reduceAdd, Int.reduceToNat, hb10, hb11, hb12, hb13, hb14]
              all_goals first | done | trivial | omega | (simp [maps, go_sem, hb10, hb11, hb12, hb13, hb14]; done) | (simp [maps, go_sem, hb10, hb11, hb12, hb13, hb14] <;> omega)
            rintro g ⟨l75, x76⟩ s1 h hd1
            rw [bodegaref23_ReadBucket_L1] at h
            try dsimp only
            refine swp_seq ?_
            refine seq_reg rfl (fun K hK => ?_)
            simp -implicitDefEqProofs +decide only [go_sem, Nat.reduceAdd, Int.reduceToNat]
            refine hK _ ?_
            refine bsplit h (fun hb79 h => ?_) (fun hb79 h => ?_)
            · refine cond_t (by simp -implicitDefEqProofs +decide only [go_sem, hb79]) ?_
              refine swp_skip ?_
              with_reducible repeat (first | refine nn ?_ | refine nb ?_ | refine nr ?_ | refine nc ?_ | refine ne ?_ | refine nq ?_ | refine nx rfl ?_)
              refine swp_seq ?_
              refine swp_block ?_
              refine seq_reg rfl (fun K hK => ?_)
              refine psplit h (fun hp80 h => ?_)
              simp -implicitDefEqProofs +decide only [go_sem, Nat.reduceAdd, Int.reduceToNat, hp80, hb79]
              first | refine opt_get (x := (.p (.int .u64 (A7.get a0.Data (IntKind.i64.wrap (2 + x76)))))) (by rcases cases7 hp80.1 hp80.2 with hc | hc | hc | hc | hc | hc | hc <;> simp [hc, A7.get]) ?_ | refine opt_get' (x := (.p (.int .u64 (A7.get a0.Data (IntKind.i64.wrap (2 + x76)))))) (by rcases cases7 hp80.1 hp80.2 with hc | hc | hc | hc | hc | hc | hc <;> simp [hc, A7.get]) ?_
              simp -implicitDefEqProofs +decide only [go_sem, Nat.reduceAdd, Int.reduceToNat, hb79]
              refine hK _ ?_
              refine swp_seq ?_
              refine seq_reg rfl (fun K hK => ?_)
              simp -implicitDefEqProofs +decide only [go_sem, Nat.reduceAdd, Int.reduceToNat, hb79]
              refine hK _ ?_
              refine bsplit h (fun hb85 h => ?_) (fun hb85 h => ?_)
              · refine cond_t (by simp -implicitDefEqProofs +decide only [go_sem, hb79, hb85]) ?_
                refine swp_seq ?_
                refine seq_reg rfl (fun K hK => ?_)
                simp -implicitDefEqProofs +decide only [go_sem, Nat.reduceAdd, Int.reduceToNat, hb79, hb85]
                refine hK _ ?_
                refine bsplit h (fun hb86 h => ?_) (fun hb86 h => ?_)
                · refine cond_t (by simp -implicitDefEqProofs +decide only [go_sem, hb79, hb85, hb86]) ?_
                  refine seq_reg rfl (fun K hK => ?_)
                  simp -implicitDefEqProofs +decide only [go_sem, Nat.reduceAdd, Int.reduceToNat, hb79, hb85, hb86]
                  refine hK _ ?_
                  refine swp_fresh (fun g => stL [(2, (.c (.ptr ⟨1024000020, g⟩ 0 0))), (3, (.c (.p (.int .i64 14))))] [(⟨1024000020, g⟩, .box true [(.p (.int .i64 0)), (.p (.int .u32 0)), (.p (.int .i64 0)), (.p (.int .i64 0)), (.ref ⟨1024000021, g⟩ 0 ([] : List bodegaref23_Entry).length)]), (⟨1024000021, g⟩, .arr true 3 (([] : List bodegaref23_Entry).map r_bodegaref23_Entry))] (g + 1)) ?_ (fun g => ?_)
                  · refine ren_go (fun g S => [(⟨1024000020, g⟩, (keyT 0 (St.env S 2)))]) (fun g S => [(⟨1024000021, g⟩, 3)]) ?_ ?_ ?_ ?_ ?_
                    all_goals try simp -implicitDefEqProofs +decide only [go_sem, Nat.reduceAdd, Int.reduceToNat]
                    all_goals first | done | trivial | omega | (simp [maps, go_sem]; done) | (simp [maps, go_sem] <;> omega)
                  refine swp_ret ?_
                  with_reducible repeat (first | refine nn ?_ | refine nb ?_ | refine nr ?_ | refine nc ?_ | refine ne ?_ | refine nq ?_ | refine nx rfl ?_)
                  obtain ⟨h, hs1⟩ := exit_of h hd1
                  refine ⟨hs1, ?_⟩
                  with_reducible repeat (first | refine nn ?_ | refine nb ?_ | refine nr ?_ | refine nc ?_ | refine ne ?_ | refine nq ?_ | refine nx rfl ?_)
                  obtain rfl := some_eq h
                  simp -implicitDefEqProofs +decide only [go_sem, Nat.reduceAdd, Int.reduceToNat]
                  all_goals first | done | trivial | (simp [maps]; done)
                · refine cond_f (by simp -implicitDefEqProofs +decide only [go_sem, hb79, hb85, hb86]) ?_
                  refine swp_skip ?_
                  with_reducible repeat (first | refine nn ?_ | refine nb ?_ | refine nr ?_ | refine nc ?_ | refine ne ?_ | refine nq ?_ | refine nx rfl ?_)
                  refine swp_exit ?_
                  with_reducible repeat (first | refine nn ?_ | refine nb ?_ | refine nr ?_ | refine nc ?_ | refine ne ?_ | refine nq ?_ | refine nx rfl ?_)
                  refine swp_reg rfl (fun K hK => ?_)
                  simp -implicitDefEqProofs +decide only [go_sem, Nat.reduceAdd, Int.reduceToNat, hb79, hb85, hb86]
                  refine hK _ ?_
                  with_reducible repeat (first | refine nn ?_ | refine nb ?_ | refine nr ?_ | refine nc ?_ | refine ne ?_ | refine nq ?_ | refine nx rfl ?_)
                  refine back_of h ?_
                  refine ren_go (fun g S => [(⟨1024000016, g⟩, (keyT 0 (St.env S 1))), (⟨1024000017, g⟩, (keyT 0 (St.env S 2))), (⟨1024000018, g⟩, (keyT 0 (St.env S 8))), (⟨1024000019, g⟩, (keyB 4 (St.heap S (keyT 0 (St.env S 8)))))]) (fun g S => []) ?_ ?_ ?_ ?_ ?_
                  all_goals try simp -implicitDefEqProofs +decide only [go_sem, Nat.reduceAdd, Int.reduceToNat, hb79, hb85, hb86]
                  all_goals first | done | trivial | omega | (simp [maps, go_sem, hb79, hb85, hb86]; done) | (simp [maps, go_sem, hb79, hb85, hb86] <;> omega)
              · refine cond_f (by simp -implicitDefEqProofs +decide only [go_sem, hb79, hb85]) ?_
                refine swp_skip ?_
                with_reducible repeat (first | refine nn ?_ | refine nb ?_ | refine nr ?_ | refine nc ?_ | refine ne ?_ | refine nq ?_ | refine nx rfl ?_)
                refine swp_drw rfl (fun K hK => ?_)
                refine bind_of h (fun v89 hv89 h => ?_)
                simp -implicitDefEqProofs +decide only [go_sem, Nat.reduceAdd, Int.reduceToNat, hb79, hb85]
                refine call_go [0] false (bodegaref19_Unpack_ok ⟨G.glob, noCaps⟩ hG0 (IntKind.u32.wrap (A7.get a0.Data (IntKind.i64.wrap (2 + x76)))) _ hv89) (by simp -implicitDefEqProofs +decide only [go_sem, Nat.reduceAdd, Int.reduceToNat, hb79, hb85]; rfl) (by first | rfl | (simp [maps, hb79, hb85]; done)) ?_
                refine psplit h (fun hp90 h => ?_)
                simp -implicitDefEqProofs +decide only [go_sem, Nat.reduceAdd, Int.reduceToNat, hp90, hb79, hb85]
                refine draw_go (by kernel_rfl) ?_
                refine hK _ ?_
                with_reducible repeat (first | refine nn ?_ | refine nb ?_ | refine nr ?_ | refine nc ?_ | refine ne ?_ | refine nq ?_ | refine nx rfl ?_)
                refine swp_fresh (fun g => stL [(1, (.c (.ptr ⟨1024000022, g⟩ 0 0))), (2, (.c (.ptr ⟨1024000023, g⟩ 0 0))), (5, (.c (.p (.int .i64 (IntKind.i64.wrap (Int.tmod (IntKind.u32.wrap (Int.tdiv v1 256)) 256)))))), (8, (.c (.ptr ⟨1024000024, g⟩ 0 0))), (9, (.c (.p (.int .i64 x76))))] [(⟨1024000022, g⟩, .box true [(.p (.int .i64 a0.Line)), (.p (.int .u64 a0.Head)), (.p (.int .u64 a0.Data.a0)), (.p (.int .u64 a0.Data.a1)), (.p (.int .u64 a0.Data.a2)), (.p (.int .u64 a0.Data.a3)), (.p (.int .u64 a0.Data.a4)), (.p (.int .u64 a0.Data.a5)), (.p (.int .u64 a0.Data.a6))]), (⟨1024000023, g⟩, .box true [(.p (.int .i64 0)), (.p (.int .u32 0)), (.p (.int .i64 0)), (.p (.int .i64 0)), .nilS]), (⟨1024000024, g⟩, .box true [(.p (.int .i64 (IntKind.i64.wrap (Int.tmod v1 256)))), (.p (.int .u32 (shrV .u32 v1 16))), (.p (.int .i64 v2.1.Line)), (.p (.int .i64 v2.1.Gen)), (.ref ⟨1024000025, g⟩ 0 (l75 ++ ([(⟨(IntKind.u32.wrap (shrV .u64 (A7.get a0.Data (IntKind.i64.wrap (2 + x76))) 32)), v89⟩ : bodegaref23_Entry)] : List bodegaref23_Entry)).length)]), (⟨1024000025, g⟩, .arr true 3 ((l75 ++ ([(⟨(IntKind.u32.wrap (shrV .u64 (A7.get a0.Data (IntKind.i64.wrap (2 + x76))) 32)), v89⟩ : bodegaref23_Entry)] : List bodegaref23_Entry)).map r_bodegaref23_Entry))] (g + 1)) ?_ (fun g => ?_)
                · refine ren_go (fun g S => [(⟨1024000022, g⟩, (keyT 0 (St.env S 1))), (⟨1024000023, g⟩, (keyT 0 (St.env S 2))), (⟨1024000024, g⟩, (keyT 0 (St.env S 8))), (⟨1024000025, g⟩, (keyB 4 (St.heap S (keyT 0 (St.env S 8)))))]) (fun g S => []) ?_ ?_ ?_ ?_ ?_
                  all_goals try simp -implicitDefEqProofs +decide only [go_sem, Nat.reduceAdd, Int.reduceToNat]
                  all_goals first | done | trivial | omega | (simp [maps, go_sem]; done) | (simp [maps, go_sem] <;> omega)
                refine swp_reg rfl (fun K hK => ?_)
                simp -implicitDefEqProofs +decide only [go_sem, Nat.reduceAdd, Int.reduceToNat, hb79, hb85]
                refine hK _ ?_
                with_reducible repeat (first | refine nn ?_ | refine nb ?_ | refine nr ?_ | refine nc ?_ | refine ne ?_ | refine nq ?_ | refine nx rfl ?_)
                refine back_of h ?_
                refine ren_go (fun g S => [(⟨1024000016, g⟩, (keyT 0 (St.env S 1))), (⟨1024000017, g⟩, (keyT 0 (St.env S 2))), (⟨1024000018, g⟩, (keyT 0 (St.env S 8))), (⟨1024000019, g⟩, (keyB 4 (St.heap S (keyT 0 (St.env S 8)))))]) (fun g S => []) ?_ ?_ ?_ ?_ ?_
                all_goals try simp -implicitDefEqProofs +decide only [go_sem, Nat.reduceAdd, Int.reduceToNat, hb79, hb85]
                all_goals first | done | trivial | omega | (simp [maps, go_sem, hb79, hb85]; done) | (simp [maps, go_sem, hb79, hb85] <;> omega)
            · refine cond_f (by simp -implicitDefEqProofs +decide only [go_sem, hb79]) ?_
              refine swp_exit ?_
              with_reducible repeat (first | refine nn ?_ | refine nb ?_ | refine nr ?_ | refine nc ?_ | refine ne ?_ | refine nq ?_ | refine nx rfl ?_)
              obtain ⟨h, hs1⟩ := exit_of h hd1
              with_reducible repeat (first | refine nn ?_ | refine nb ?_ | refine nr ?_ | refine nc ?_ | refine ne ?_ | refine nq ?_ | refine nx rfl ?_)
              refine ⟨hs1, ?_⟩
              with_reducible repeat (first | refine nn ?_ | refine nb ?_ | refine nr ?_ | refine nc ?_ | refine ne ?_ | refine nq ?_ | refine nx rfl ?_)
              refine jump_of hj1 h ?_
              refine ren_go (fun g S => [(⟨1024000011, g⟩, (keyT 0 (St.env S 2))), (⟨1024000012, g⟩, (keyT 0 (St.env S 8))), (⟨1024000013, g⟩, (keyB 4 (St.heap S (keyT 0 (St.env S 8)))))]) (fun g S => []) ?_ ?_ ?_ ?_ ?_
              all_goals try simp -implicitDefEqProofs +decide only [go_sem, Nat.reduceAdd, Int.reduceToNat, hb79]
              all_goals first | done | trivial | omega | (simp [maps, go_sem, hb79]; done) | (simp [maps, go_sem, hb79] <;> omega)
end Go.Sh
end
section
namespace Go.Sh
open Go.Proofs
set_option linter.unusedVariables false
set_option linter.unusedSimpArgs false
set_option maxRecDepth 100000
set_option maxHeartbeats 4000000
noncomputable def bodegaref23_WriteBucket_L1 (a1 : bodegaref23_Bucket) (a0 : api_Page) : ((A7 Int) × Int) → Option (((A7 Int) × Int) ⊕ (api_Page × Int))
  | (x28, x29) =>
    if (decide (x29 < (a1.Entries.length : Int))) = true then
      (idx a1.Entries x29).bind fun e32 =>
      (bodegaref19_Pack e32.To).bind fun v33 =>
      if 0 ≤ (IntKind.i64.wrap (2 + x29)) ∧ (IntKind.i64.wrap (2 + x29)) < 7 then
        some (.inl ((A7.set x28 (IntKind.i64.wrap (2 + x29)) (IntKind.u64.wrap ((shlV .u64 (IntKind.u64.wrap e32.Key) 32) + (IntKind.u64.wrap v33)))), (IntKind.i64.wrap (x29 + 1))))
      else none
    else
      Option.map Sum.inr (
        some ((⟨a0.Line, a0.Head, x28⟩ : api_Page), 0))
noncomputable def bodegaref23_WriteBucket (a0 : api_Page) (a1 : bodegaref23_Bucket) : Option (api_Page × Int) :=
  (bodegaref19_Kind a0).bind fun v5 =>
  if (v5 != 2) = true then
    some ((⟨0, 0, (⟨0, 0, 0, 0, 0, 0, 0⟩ : (A7 Int))⟩ : api_Page), 1)
  else
    (bodegaref23_ValidBucket a1).bind fun v7 =>
    if (!v7) = true then
      some ((⟨0, 0, (⟨0, 0, 0, 0, 0, 0, 0⟩ : (A7 Int))⟩ : api_Page), 1)
    else
      (bodegaref19_Gen a0).bind fun v9 =>
      (bodegaref19_Tag 2 v9 (IntKind.u32.wrap ((IntKind.u32.wrap ((IntKind.u32.wrap a1.Depth) + (IntKind.u32.wrap (256 * (IntKind.u32.wrap (a1.Entries.length : Int)))))) + (shlV .u32 a1.Pattern 16)))).bind fun v10 =>
      (bodegaref19_Pack a1.Next).bind fun v11 =>
      iter (bodegaref23_WriteBucket_L1 a1 a0) ((⟨v10, (IntKind.u64.wrap v11), 0, 0, 0, 0, 0⟩ : (A7 Int)), 0)
theorem bodegaref23_WriteBucket_ok (G : Glob) (hG0 : G.glob 0 = some [(.int .i64 0), (.int .i64 0)]) (a0 : api_Page) (a1 : bodegaref23_Bucket) (res : (api_Page × Int)) (h : bodegaref23_WriteBucket a0 a1 = some res) : Spec Tryd.prog G 24 [.agg [.p (.int .i64 a0.Line), .p (.int .u64 a0.Head), .p (.int .u64 a0.Data.a0), .p (.int .u64 a0.Data.a1), .p (.int .u64 a0.Data.a2), .p (.int .u64 a0.Data.a3), .p (.int .u64 a0.Data.a4), .p (.int .u64 a0.Data.a5), .p (.int .u64 a0.Data.a6)], .agg [.p (.int .i64 a1.Depth), .p (.int .u32 a1.Pattern), .p (.int .i64 a1.Next.Line), .p (.int .i64 a1.Next.Gen), .p (.rows (a1.Entries.map r_bodegaref23_Entry))]] (fun r ios => r = .tup [.agg [.p (.int .i64 res.1.Line), .p (.int .u64 res.1.Head), .p (.int .u64 res.1.Data.a0), .p (.int .u64 res.1.Data.a1), .p (.int .u64 res.1.Data.a2), .p (.int .u64 res.1.Data.a3), .p (.int .u64 res.1.Data.a4), .p (.int .u64 res.1.Data.a5), .p (.int .u64 res.1.Data.a6)], .cell (.p (.int .i64 res.2))] ∧ ios = []) := by
  rw [bodegaref23_WriteBucket] at h
  refine spec_of Tryd.mixed Tryd.func24 rfl rfl (by simp only [List.length]; decide +kernel) ?_
  refine swp_fresh (fun g => stL [(0, (.agg [(.p (.int .i64 a0.Line)), (.p (.int .u64 a0.Head)), (.p (.int .u64 a0.Data.a0)), (.p (.int .u64 a0.Data.a1)), (.p (.int .u64 a0.Data.a2)), (.p (.int .u64 a0.Data.a3)), (.p (.int .u64 a0.Data.a4)), (.p (.int .u64 a0.Data.a5)), (.p (.int .u64 a0.Data.a6))])), (1, (.agg [(.p (.int .i64 a1.Depth)), (.p (.int .u32 a1.Pattern)), (.p (.int .i64 a1.Next.Line)), (.p (.int .i64 a1.Next.Gen)), (.p (.rows (a1.Entries.map r_bodegaref23_Entry)))]))] [] (g + 1)) ?_ (fun g => ?_)
  · refine ren_go (fun g S => []) (fun g S => []) ?_ ?_ ?_ ?_ ?_
    all_goals try simp -implicitDefEqProofs +decide only [go_sem, Nat.reduceAdd, Int.reduceToNat]
    all_goals first | done | trivial | omega | (simp [maps, go_sem]; done) | (simp [maps, go_sem] <;> omega)
  refine seq_reg rfl (fun K hK => ?_)
  simp -implicitDefEqProofs +decide only [go_sem, Nat.reduceAdd, Int.reduceToNat]
  refine hK _ ?_
  refine swp_seq ?_
  refine seq_reg rfl (fun K hK => ?_)
  refine bind_of h (fun v5 hv5 h => ?_)
  simp -implicitDefEqProofs +decide only [go_sem, Nat.reduceAdd, Int.reduceToNat]
  refine call_go [0] false (bodegaref19_Kind_ok ⟨G.glob, noCaps⟩ hG0 a0 _ hv5) (by simp -implicitDefEqProofs +decide only [go_sem, Nat.reduceAdd, Int.reduceToNat]; rfl) (by first | rfl | (simp [maps]; done)) ?_
  refine bsplit h (fun hb6 h => ?_) (fun hb6 h => ?_)
  · simp -implicitDefEqProofs +decide only [go_sem, Nat.reduceAdd, Int.reduceToNat, hb6]
    refine hK _ ?_
    refine cond_t (by simp -implicitDefEqProofs +decide only [go_sem, hb6]) ?_
    refine seq_reg rfl (fun K hK => ?_)
    simp -implicitDefEqProofs +decide only [go_sem, Nat.reduceAdd, Int.reduceToNat, hb6]
    refine hK _ ?_
    refine swp_ret ?_
    with_reducible repeat (first | refine nn ?_ | refine nb ?_ | refine nr ?_ | refine nc ?_ | refine ne ?_ | refine nq ?_ | refine nx rfl ?_)
    obtain rfl := some_eq h
    simp -implicitDefEqProofs +decide only [go_sem, Nat.reduceAdd, Int.reduceToNat]
    all_goals first | done | trivial | (simp [maps]; done)
  · refine bind_of h (fun v7 hv7 h => ?_)
    simp -implicitDefEqProofs +decide only [go_sem, Nat.reduceAdd, Int.reduceToNat, hb6]
    refine call_go [0] false (bodegaref23_ValidBucket_ok ⟨G.glob, noCaps⟩ hG0 a1 _ hv7) (by simp -implicitDefEqProofs +decide only [go_sem, Nat.reduceAdd, Int.reduceToNat, hb6]; rfl) (by first | rfl | (simp [maps, hb6]; done)) ?_
    simp -implicitDefEqProofs +decide only [go_sem, Nat.reduceAdd, Int.reduceToNat, hb6]
    refine hK _ ?_
    refine bsplit h (fun hb8 h => ?_) (fun hb8 h => ?_)
    · refine cond_t (by simp -implicitDefEqProofs +decide only [go_sem, hb6, hb8]) ?_
      refine seq_reg rfl (fun K hK => ?_)
      simp -implicitDefEqProofs +decide only [go_sem, Nat.reduceAdd, Int.reduceToNat, hb6, hb8]
      refine hK _ ?_
      refine swp_ret ?_
      with_reducible repeat (first | refine nn ?_ | refine nb ?_ | refine nr ?_ | refine nc ?_ | refine ne ?_ | refine nq ?_ | refine nx rfl ?_)
      obtain rfl := some_eq h
      simp -implicitDefEqProofs +decide only [go_sem, Nat.reduceAdd, Int.reduceToNat]
      all_goals first | done | trivial | (simp [maps]; done)
    · refine cond_f (by simp -implicitDefEqProofs +decide only [go_sem, hb6, hb8]) ?_
      refine swp_skip ?_
      with_reducible repeat (first | refine nn ?_ | refine nb ?_ | refine nr ?_ | refine nc ?_ | refine ne ?_ | refine nq ?_ | refine nx rfl ?_)
      refine seq_reg rfl (fun K hK => ?_)
      simp -implicitDefEqProofs +decide only [go_sem, Nat.reduceAdd, Int.reduceToNat, hb6, hb8]
      refine hK _ ?_
      refine seq_drw rfl (fun K hK => ?_)
      refine bind_of h (fun v9 hv9 h => ?_)
      simp -implicitDefEqProofs +decide only [go_sem, Nat.reduceAdd, Int.reduceToNat, hb6, hb8]
      refine call_go [0] false (bodegaref19_Gen_ok ⟨G.glob, noCaps⟩ hG0 a0 _ hv9) (by simp -implicitDefEqProofs +decide only [go_sem, Nat.reduceAdd, Int.reduceToNat, hb6, hb8]; rfl) (by first | rfl | (simp [maps, hb6, hb8]; done)) ?_
      refine bind_of h (fun v10 hv10 h => ?_)
      simp -implicitDefEqProofs +decide only [go_sem, Nat.reduceAdd, Int.reduceToNat, hb6, hb8]
      refine call_go [0, 0, 0] false (bodegaref19_Tag_ok ⟨G.glob, noCaps⟩ hG0 2 v9 (IntKind.u32.wrap ((IntKind.u32.wrap ((IntKind.u32.wrap a1.Depth) + (IntKind.u32.wrap (256 * (IntKind.u32.wrap (a1.Entries.length : Int)))))) + (shlV .u32 a1.Pattern 16))) _ hv10) (by simp -implicitDefEqProofs +decide only [go_sem, Nat.reduceAdd, Int.reduceToNat, hb6, hb8]; rfl) (by first | rfl | (simp [maps, hb6, hb8]; done)) ?_
      simp -implicitDefEqProofs +decide only [go_sem, Nat.reduceAdd, Int.reduceToNat, hb6, hb8]
      refine draw_go (by kernel_rfl) ?_
      refine hK _ ?_
      refine seq_reg rfl (fun K hK => ?_)
      refine bind_of h (fun v11 hv11 h => ?_)
      simp -implicitDefEqProofs +decide only [go_sem, Nat.reduceAdd, Int.reduceToNat, hb6, hb8]
      refine call_go [0] false (bodegaref19_Pack_ok ⟨G.glob, noCaps⟩ hG0 a1.Next _ hv11) (by simp -implicitDefEqProofs +decide only [go_sem, Nat.reduceAdd, Int.reduceToNat, hb6, hb8]; rfl) (by first | rfl | (simp [maps, hb6, hb8]; done)) ?_
      simp -implicitDefEqProofs +decide only [go_sem, Nat.reduceAdd, Int.reduceToNat, hb6, hb8]
      refine hK _ ?_
      refine swp_seq ?_
      refine seq_reg rfl (fun K hK => ?_)
      simp -implicitDefEqProofs +decide only [go_sem, Nat.reduceAdd, Int.reduceToNat, hb6, hb8]
      refine hK _ ?_
      refine swp_block ?_
      refine swp_iter (fun g x => match x with | (x28, x29) => stL [(3, (.c (.ptr ⟨1024000001, g⟩ 0 0))), (4, (.c (.ptr ⟨1024000002, g⟩ 0 0))), (6, (.c (.ptr ⟨1024000003, g⟩ 0 0))), (7, (.c (.p (.int .i64 x29))))] [(⟨1024000001, g⟩, .box true [(.p (.int .i64 a1.Depth)), (.p (.int .u32 a1.Pattern)), (.p (.int .i64 a1.Next.Line)), (.p (.int .i64 a1.Next.Gen)), (.p (.rows (a1.Entries.map r_bodegaref23_Entry)))]), (⟨1024000002, g⟩, .box true [(.p (.int .i64 0)), (.p (.int .u64 0)), (.p (.int .u64 0)), (.p (.int .u64 0)), (.p (.int .u64 0)), (.p (.int .u64 0)), (.p (.int .u64 0)), (.p (.int .u64 0)), (.p (.int .u64 0))]), (⟨1024000003, g⟩, .box true [(.p (.int .i64 a0.Line)), (.p (.int .u64 a0.Head)), (.p (.int .u64 x28.a0)), (.p (.int .u64 x28.a1)), (.p (.int .u64 x28.a2)), (.p (.int .u64 x28.a3)), (.p (.int .u64 x28.a4)), (.p (.int .u64 x28.a5)), (.p (.int .u64 x28.a6))])] (g + 1)) h (enter_of ?_) ?_
      · refine ren_go (fun g S => [(⟨1024000001, g⟩, (keyT 0 (St.env S 3))), (⟨1024000002, g⟩, (keyT 0 (St.env S 4))), (⟨1024000003, g⟩, (keyT 0 (St.env S 6)))]) (fun g S => []) ?_ ?_ ?_ ?_ ?_
        all_goals try simp -implicitDefEqProofs +decide only [go_sem, Nat.reduceAdd, Int.reduceToNat, hb6, hb8]
        all_goals first | done | trivial | omega | (simp [maps, go_sem, hb6, hb8]; done) | (simp [maps, go_sem, hb6, hb8] <;> omega)
      rintro g ⟨x28, x29⟩ s1 h hd1
      rw [bodegaref23_WriteBucket_L1] at h
      try dsimp only
      refine swp_seq ?_
      refine seq_reg rfl (fun K hK => ?_)
      simp -implicitDefEqProofs +decide only [go_sem, Nat.reduceAdd, Int.reduceToNat]
      refine hK _ ?_
      refine bsplit h (fun hb31 h => ?_) (fun hb31 h => ?_)
      · refine cond_t (by simp -implicitDefEqProofs +decide only [go_sem, hb31]) ?_
        refine swp_skip ?_
        with_reducible repeat (first | refine nn ?_ | refine nb ?_ | refine nr ?_ | refine nc ?_ | refine ne ?_ | refine nq ?_ | refine nx rfl ?_)
        refine swp_seq ?_
        refine swp_block ?_
        refine swp_drw rfl (fun K hK => ?_)
        refine bind_of h (fun e32 he32 h => ?_)
        obtain ⟨he32_0, he32_1, he32_2⟩ := idx_some he32
        refine bind_of h (fun v33 hv33 h => ?_)
        simp -implicitDefEqProofs +decide only [go_sem, Nat.reduceAdd, Int.reduceToNat, he32_0, he32_1, he32_2, hb31]
        refine call_go [0] false (bodegaref19_Pack_ok ⟨G.glob, noCaps⟩ hG0 e32.To _ hv33) (by simp -implicitDefEqProofs +decide only [go_sem, Nat.reduceAdd, Int.reduceToNat, hb31]; rfl) (by first | rfl | (simp [maps, hb31]; done)) ?_
        refine psplit h (fun hp34 h => ?_)
        simp -implicitDefEqProofs +decide only [go_sem, Nat.reduceAdd, Int.reduceToNat, hp34, hb31]
        refine opt_ite (by rcases cases7 hp34.1 hp34.2 with hc | hc | hc | hc | hc | hc | hc <;> simp [hc]) ?_
        refine opt_wr (l' := [(.p (.int .i64 a0.Line)), (.p (.int .u64 a0.Head)), (.p (.int .u64 (A7.set x28 (IntKind.i64.wrap (2 + x29)) (IntKind.u64.wrap ((shlV .u64 (IntKind.u64.wrap e32.Key) 32) + (IntKind.u64.wrap v33)))).a0)), (.p (.int .u64 (A7.set x28 (IntKind.i64.wrap (2 + x29)) (IntKind.u64.wrap ((shlV .u64 (IntKind.u64.wrap e32.Key) 32) + (IntKind.u64.wrap v33)))).a1)), (.p (.int .u64 (A7.set x28 (IntKind.i64.wrap (2 + x29)) (IntKind.u64.wrap ((shlV .u64 (IntKind.u64.wrap e32.Key) 32) + (IntKind.u64.wrap v33)))).a2)), (.p (.int .u64 (A7.set x28 (IntKind.i64.wrap (2 + x29)) (IntKind.u64.wrap ((shlV .u64 (IntKind.u64.wrap e32.Key) 32) + (IntKind.u64.wrap v33)))).a3)), (.p (.int .u64 (A7.set x28 (IntKind.i64.wrap (2 + x29)) (IntKind.u64.wrap ((shlV .u64 (IntKind.u64.wrap e32.Key) 32) + (IntKind.u64.wrap v33)))).a4)), (.p (.int .u64 (A7.set x28 (IntKind.i64.wrap (2 + x29)) (IntKind.u64.wrap ((shlV .u64 (IntKind.u64.wrap e32.Key) 32) + (IntKind.u64.wrap v33)))).a5)), (.p (.int .u64 (A7.set x28 (IntKind.i64.wrap (2 + x29)) (IntKind.u64.wrap ((shlV .u64 (IntKind.u64.wrap e32.Key) 32) + (IntKind.u64.wrap v33)))).a6))]) (by rcases cases7 hp34.1 hp34.2 with hc | hc | hc | hc | hc | hc | hc <;> simp [hc, A7.get, A7.set]) ?_
        simp -implicitDefEqProofs +decide only [go_sem, Nat.reduceAdd, Int.reduceToNat, hb31]
        refine draw_go (by kernel_rfl) ?_
        refine hK _ ?_
        with_reducible repeat (first | refine nn ?_ | refine nb ?_ | refine nr ?_ | refine nc ?_ | refine ne ?_ | refine nq ?_ | refine nx rfl ?_)
        refine swp_reg rfl (fun K hK => ?_)
        simp -implicitDefEqProofs +decide only [go_sem, Nat.reduceAdd, Int.reduceToNat, hb31]
        refine hK _ ?_
        with_reducible repeat (first | refine nn ?_ | refine nb ?_ | refine nr ?_ | refine nc ?_ | refine ne ?_ | refine nq ?_ | refine nx rfl ?_)
        refine back_of h ?_
        refine ren_go (fun g S => [(⟨1024000001, g⟩, (keyT 0 (St.env S 3))), (⟨1024000002, g⟩, (keyT 0 (St.env S 4))), (⟨1024000003, g⟩, (keyT 0 (St.env S 6)))]) (fun g S => []) ?_ ?_ ?_ ?_ ?_
        all_goals try simp -implicitDefEqProofs +decide only [go_sem, Nat.reduceAdd, Int.reduceToNat, hb31]
        all_goals first | done | trivial | omega | (simp [maps, go_sem, hb31]; done) | (simp [maps, go_sem, hb31] <;> omega)
      · refine cond_f (by simp -implicitDefEqProofs +decide only [go_sem, hb31]) ?_
        refine swp_exit ?_
        with_reducible repeat (first | refine nn ?_ | refine nb ?_ | refine nr ?_ | refine nc ?_ | refine ne ?_ | refine nq ?_ | refine nx rfl ?_)
        obtain ⟨h, hs1⟩ := exit_of h hd1
        with_reducible repeat (first | refine nn ?_ | refine nb ?_ | refine nr ?_ | refine nc ?_ | refine ne ?_ | refine nq ?_ | refine nx rfl ?_)
        refine ⟨hs1, ?_⟩
        with_reducible repeat (first | refine nn ?_ | refine nb ?_ | refine nr ?_ | refine nc ?_ | refine ne ?_ | refine nq ?_ | refine nx rfl ?_)
        refine seq_reg rfl (fun K hK => ?_)
        simp -implicitDefEqProofs +decide only [go_sem, Nat.reduceAdd, Int.reduceToNat, hb31]
        refine hK _ ?_
        refine swp_ret ?_
        with_reducible repeat (first | refine nn ?_ | refine nb ?_ | refine nr ?_ | refine nc ?_ | refine ne ?_ | refine nq ?_ | refine nx rfl ?_)
        obtain rfl := some_eq h
        simp -implicitDefEqProofs +decide only [go_sem, Nat.reduceAdd, Int.reduceToNat]
        all_goals first | done | trivial | (simp [maps]; done)
end Go.Sh
end
section
namespace Go.Sh
open Go.Proofs
set_option linter.unusedVariables false
set_option linter.unusedSimpArgs false
set_option maxRecDepth 100000
set_option maxHeartbeats 4000000
noncomputable def hashindex_Bucket_fill_L1 (a0 : hashindex_Bucket) (a1 : api_Page) : ((A7 Int) × Int) → Option (((A7 Int) × Int) ⊕ api_Page)
  | (x20, x21) =>
    if (decide (x21 < (a0.Entries.length : Int))) = true then
      (idx a0.Entries x21).bind fun e24 =>
      (pointer_Pack e24.To).bind fun v25 =>
      if 0 ≤ (IntKind.i64.wrap (2 + x21)) ∧ (IntKind.i64.wrap (2 + x21)) < 7 then
        some (.inl ((A7.set x20 (IntKind.i64.wrap (2 + x21)) (bits .or .u64 (shlV .u64 (IntKind.u64.wrap e24.Key) 32) (IntKind.u64.wrap v25))), (IntKind.i64.wrap (x21 + 1))))
      else none
    else
      Option.map Sum.inr (
        some (⟨a1.Line, a1.Head, x20⟩ : api_Page))
noncomputable def hashindex_Bucket_fill (a0 : hashindex_Bucket) (a1 : api_Page) : Option api_Page :=
  (pointer_UnpackTag a1.Data.a0).bind fun v1 =>
  (pointer_PackTag (⟨v1.Kind, v1.Gen, (bits .or .u32 (bits .or .u32 (IntKind.u32.wrap a0.Depth) (shlV .u32 (IntKind.u32.wrap (a0.Entries.length : Int)) 8)) (shlV .u32 a0.Pattern 16))⟩ : pointer_Tag)).bind fun v2 =>
  (pointer_Pack a0.Next).bind fun v3 =>
  iter (hashindex_Bucket_fill_L1 a0 a1) ((⟨v2, (IntKind.u64.wrap v3), 0, 0, 0, 0, 0⟩ : (A7 Int)), 0)
theorem hashindex_Bucket_fill_ok (G : Glob) (hG0 : G.glob 0 = some [(.int .i64 0), (.int .i64 0)]) (a0 : hashindex_Bucket) (a1 : api_Page) (res : api_Page) (h : hashindex_Bucket_fill a0 a1 = some res) : Spec Tryd.prog G 47 [.agg [.p (.int .i64 a0.Depth), .p (.int .u32 a0.Pattern), .p (.int .i64 a0.Next.Line), .p (.int .i64 a0.Next.Gen), .p (.rows (a0.Entries.map r_hashindex_Entry))], .agg [.p (.int .i64 a1.Line), .p (.int .u64 a1.Head), .p (.int .u64 a1.Data.a0), .p (.int .u64 a1.Data.a1), .p (.int .u64 a1.Data.a2), .p (.int .u64 a1.Data.a3), .p (.int .u64 a1.Data.a4), .p (.int .u64 a1.Data.a5), .p (.int .u64 a1.Data.a6)]] (fun r ios => r = .agg [.p (.int .i64 res.Line), .p (.int .u64 res.Head), .p (.int .u64 res.Data.a0), .p (.int .u64 res.Data.a1), .p (.int .u64 res.Data.a2), .p (.int .u64 res.Data.a3), .p (.int .u64 res.Data.a4), .p (.int .u64 res.Data.a5), .p (.int .u64 res.Data.a6)] ∧ ios = []) := by
  rw [hashindex_Bucket_fill] at h
  refine spec_of Tryd.mixed Tryd.func47 rfl rfl (by simp only [List.length]; decide +kernel) ?_
  refine swp_fresh (fun g => stL [(0, (.agg [(.p (.int .i64 a0.Depth)), (.p (.int .u32 a0.Pattern)), (.p (.int .i64 a0.Next.Line)), (.p (.int .i64 a0.Next.Gen)), (.p (.rows (a0.Entries.map r_hashindex_Entry)))])), (1, (.agg [(.p (.int .i64 a1.Line)), (.p (.int .u64 a1.Head)), (.p (.int .u64 a1.Data.a0)), (.p (.int .u64 a1.Data.a1)), (.p (.int .u64 a1.Data.a2)), (.p (.int .u64 a1.Data.a3)), (.p (.int .u64 a1.Data.a4)), (.p (.int .u64 a1.Data.a5)), (.p (.int .u64 a1.Data.a6))]))] [] (g + 1)) ?_ (fun g => ?_)
  · refine ren_go (fun g S => []) (fun g S => []) ?_ ?_ ?_ ?_ ?_
    all_goals try simp -implicitDefEqProofs +decide only [go_sem, Nat.reduceAdd, Int.reduceToNat]
    all_goals first | done | trivial | omega | (simp [maps, go_sem]; done) | (simp [maps, go_sem] <;> omega)
  refine seq_reg rfl (fun K hK => ?_)
  simp -implicitDefEqProofs +decide only [go_sem, Nat.reduceAdd, Int.reduceToNat]
  refine hK _ ?_
  refine seq_reg rfl (fun K hK => ?_)
  refine bind_of h (fun v1 hv1 h => ?_)
  simp -implicitDefEqProofs +decide only [go_sem, Nat.reduceAdd, Int.reduceToNat]
  refine call_go [0] false (pointer_UnpackTag_ok ⟨G.glob, noCaps⟩ hG0 a1.Data.a0 _ hv1) (by simp -implicitDefEqProofs +decide only [go_sem, Nat.reduceAdd, Int.reduceToNat]; rfl) (by first | rfl | (simp [maps]; done)) ?_
  simp -implicitDefEqProofs +decide only [go_sem, Nat.reduceAdd, Int.reduceToNat]
  refine hK _ ?_
  refine seq_reg rfl (fun K hK => ?_)
  simp -implicitDefEqProofs +decide only [go_sem, Nat.reduceAdd, Int.reduceToNat]
  refine hK _ ?_
  refine seq_drw rfl (fun K hK => ?_)
  refine bind_of h (fun v2 hv2 h => ?_)
  simp -implicitDefEqProofs +decide only [go_sem, Nat.reduceAdd, Int.reduceToNat]
  refine call_go [0] false (pointer_PackTag_ok ⟨G.glob, noCaps⟩ hG0 (⟨v1.Kind, v1.Gen, (bits .or .u32 (bits .or .u32 (IntKind.u32.wrap a0.Depth) (shlV .u32 (IntKind.u32.wrap (a0.Entries.length : Int)) 8)) (shlV .u32 a0.Pattern 16))⟩ : pointer_Tag) _ hv2) (by simp -implicitDefEqProofs +decide only [go_sem, Nat.reduceAdd, Int.reduceToNat]; rfl) (by first | rfl | (simp [maps]; done)) ?_
  refine bind_of h (fun v3 hv3 h => ?_)
  simp -implicitDefEqProofs +decide only [go_sem, Nat.reduceAdd, Int.reduceToNat]
  refine call_go [0] false (pointer_Pack_ok ⟨G.glob, noCaps⟩ hG0 a0.Next _ hv3) (by simp -implicitDefEqProofs +decide only [go_sem, Nat.reduceAdd, Int.reduceToNat]; rfl) (by first | rfl | (simp [maps]; done)) ?_
  simp -implicitDefEqProofs +decide only [go_sem, Nat.reduceAdd, Int.reduceToNat]
  refine draw_go (by kernel_rfl) ?_
  refine hK _ ?_
  refine swp_seq ?_
  refine seq_reg rfl (fun K hK => ?_)
  simp -implicitDefEqProofs +decide only [go_sem, Nat.reduceAdd, Int.reduceToNat]
  refine hK _ ?_
  refine swp_block ?_
  refine swp_iter (fun g x => match x with | (x20, x21) => stL [(3, (.c (.ptr ⟨1024000001, g⟩ 0 0))), (4, (.c (.ptr ⟨1024000002, g⟩ 0 0))), (35, (.c (.p (.rows (a0.Entries.map r_hashindex_Entry))))), (36, (.c (.p (.int .i64 (a0.Entries.length : Int))))), (37, (.c (.p (.int .i64 x21))))] [(⟨1024000001, g⟩, .box true [(.p (.int .i64 a1.Line)), (.p (.int .u64 a1.Head)), (.p (.int .u64 x20.a0)), (.p (.int .u64 x20.a1)), (.p (.int .u64 x20.a2)), (.p (.int .u64 x20.a3)), (.p (.int .u64 x20.a4)), (.p (.int .u64 x20.a5)), (.p (.int .u64 x20.a6))]), (⟨1024000002, g⟩, .box true [(.p (.int .i64 0)), (.p (.int .u64 0)), (.p (.int .u64 0)), (.p (.int .u64 0)), (.p (.int .u64 0)), (.p (.int .u64 0)), (.p (.int .u64 0)), (.p (.int .u64 0)), (.p (.int .u64 0))])] (g + 1)) h (enter_of ?_) ?_
  · refine ren_go (fun g S => [(⟨1024000001, g⟩, (keyT 0 (St.env S 3))), (⟨1024000002, g⟩, (keyT 0 (St.env S 4)))]) (fun g S => []) ?_ ?_ ?_ ?_ ?_
    all_goals try simp -implicitDefEqProofs +decide only [go_sem, Nat.reduceAdd, Int.reduceToNat]
    all_goals first | done | trivial | omega | (simp [maps, go_sem]; done) | (simp [maps, go_sem] <;> omega)
  rintro g ⟨x20, x21⟩ s1 h hd1
  rw [hashindex_Bucket_fill_L1] at h
  try dsimp only
  refine seq_reg rfl (fun K hK => ?_)
  simp -implicitDefEqProofs +decide only [go_sem, Nat.reduceAdd, Int.reduceToNat]
  refine hK _ ?_
  refine swp_seq ?_
  refine bsplit h (fun hb23 h => ?_) (fun hb23 h => ?_)
  · refine cond_t (by simp -implicitDefEqProofs +decide only [go_sem, hb23]) ?_
    refine swp_skip ?_
    with_reducible repeat (first | refine nn ?_ | refine nb ?_ | refine nr ?_ | refine nc ?_ | refine ne ?_ | refine nq ?_ | refine nx rfl ?_)
    refine swp_seq ?_
    refine swp_block ?_
    refine seq_reg rfl (fun K hK => ?_)
    refine bind_of h (fun e24 he24 h => ?_)
    obtain ⟨he24_0, he24_1, he24_2⟩ := idx_some he24
    simp -implicitDefEqProofs +decide only [go_sem, Nat.reduceAdd, Int.reduceToNat, he24_0, he24_1, he24_2, hb23]
    refine hK _ ?_
    refine swp_drw rfl (fun K hK => ?_)
    refine bind_of h (fun v25 hv25 h => ?_)
    simp -implicitDefEqProofs +decide only [go_sem, Nat.reduceAdd, Int.reduceToNat, hb23]
    refine call_go [0] false (pointer_Pack_ok ⟨G.glob, noCaps⟩ hG0 e24.To _ hv25) (by simp -implicitDefEqProofs +decide only [go_sem, Nat.reduceAdd, Int.reduceToNat, hb23]; rfl) (by first | rfl | (simp [maps, hb23]; done)) ?_
    refine psplit h (fun hp26 h => ?_)
    simp -implicitDefEqProofs +decide only [go_sem, Nat.reduceAdd, Int.reduceToNat, hp26, hb23]
    refine opt_ite (by rcases cases7 hp26.1 hp26.2 with hc | hc | hc | hc | hc | hc | hc <;> simp [hc]) ?_
    refine opt_wr (l' := [(.p (.int .i64 a1.Line)), (.p (.int .u64 a1.Head)), (.p (.int .u64 (A7.set x20 (IntKind.i64.wrap (2 + x21)) (bits .or .u64 (shlV .u64 (IntKind.u64.wrap e24.Key) 32) (IntKind.u64.wrap v25))).a0)), (.p (.int .u64 (A7.set x20 (IntKind.i64.wrap (2 + x21)) (bits .or .u64 (shlV .u64 (IntKind.u64.wrap e24.Key) 32) (IntKind.u64.wrap v25))).a1)), (.p (.int .u64 (A7.set x20 (IntKind.i64.wrap (2 + x21)) (bits .or .u64 (shlV .u64 (IntKind.u64.wrap e24.Key) 32) (IntKind.u64.wrap v25))).a2)), (.p (.int .u64 (A7.set x20 (IntKind.i64.wrap (2 + x21)) (bits .or .u64 (shlV .u64 (IntKind.u64.wrap e24.Key) 32) (IntKind.u64.wrap v25))).a3)), (.p (.int .u64 (A7.set x20 (IntKind.i64.wrap (2 + x21)) (bits .or .u64 (shlV .u64 (IntKind.u64.wrap e24.Key) 32) (IntKind.u64.wrap v25))).a4)), (.p (.int .u64 (A7.set x20 (IntKind.i64.wrap (2 + x21)) (bits .or .u64 (shlV .u64 (IntKind.u64.wrap e24.Key) 32) (IntKind.u64.wrap v25))).a5)), (.p (.int .u64 (A7.set x20 (IntKind.i64.wrap (2 + x21)) (bits .or .u64 (shlV .u64 (IntKind.u64.wrap e24.Key) 32) (IntKind.u64.wrap v25))).a6))]) (by rcases cases7 hp26.1 hp26.2 with hc | hc | hc | hc | hc | hc | hc <;> simp [hc, A7.get, A7.set]) ?_
    simp -implicitDefEqProofs +decide only [go_sem, Nat.reduceAdd, Int.reduceToNat, hb23]
    refine draw_go (by kernel_rfl) ?_
    refine hK _ ?_
    with_reducible repeat (first | refine nn ?_ | refine nb ?_ | refine nr ?_ | refine nc ?_ | refine ne ?_ | refine nq ?_ | refine nx rfl ?_)
    refine swp_reg rfl (fun K hK => ?_)
    simp -implicitDefEqProofs +decide only [go_sem, Nat.reduceAdd, Int.reduceToNat, hb23]
    refine hK _ ?_
    with_reducible repeat (first | refine nn ?_ | refine nb ?_ | refine nr ?_ | refine nc ?_ | refine ne ?_ | refine nq ?_ | refine nx rfl ?_)
    refine back_of h ?_
    refine ren_go (fun g S => [(⟨1024000001, g⟩, (keyT 0 (St.env S 3))), (⟨1024000002, g⟩, (keyT 0 (St.env S 4)))]) (fun g S => []) ?_ ?_ ?_ ?_ ?_
    all_goals try simp -implicitDefEqProofs +decide only [go_sem, Nat.reduceAdd, Int.reduceToNat, hb23]
    all_goals first | done | trivial | omega | (simp [maps, go_sem, hb23]; done) | (simp [maps, go_sem, hb23] <;> omega)
  · refine cond_f (by simp -implicitDefEqProofs +decide only [go_sem, hb23]) ?_
    refine swp_exit ?_
    with_reducible repeat (first | refine nn ?_ | refine nb ?_ | refine nr ?_ | refine nc ?_ | refine ne ?_ | refine nq ?_ | refine nx rfl ?_)
    obtain ⟨h, hs1⟩ := exit_of h hd1
    with_reducible repeat (first | refine nn ?_ | refine nb ?_ | refine nr ?_ | refine nc ?_ | refine ne ?_ | refine nq ?_ | refine nx rfl ?_)
    refine ⟨hs1, ?_⟩
    with_reducible repeat (first | refine nn ?_ | refine nb ?_ | refine nr ?_ | refine nc ?_ | refine ne ?_ | refine nq ?_ | refine nx rfl ?_)
    refine seq_reg rfl (fun K hK => ?_)
    simp -implicitDefEqProofs +decide only [go_sem, Nat.reduceAdd, Int.reduceToNat, hb23]
    refine hK _ ?_
    refine swp_ret ?_
    with_reducible repeat (first | refine nn ?_ | refine nb ?_ | refine nr ?_ | refine nc ?_ | refine ne ?_ | refine nq ?_ | refine nx rfl ?_)
    obtain rfl := some_eq h
    simp -implicitDefEqProofs +decide only [go_sem, Nat.reduceAdd, Int.reduceToNat]
    all_goals first | done | trivial | (simp [maps]; done)
end Go.Sh
end
section
namespace Go.Sh
open Go.Proofs
set_option linter.unusedVariables false
set_option linter.unusedSimpArgs false
set_option maxRecDepth 100000
set_option maxHeartbeats 4000000
noncomputable def hashindex_low (a0 : Int) (a1 : Int) : Option Int :=
  some (bits .and .u32 a0 (IntKind.u32.wrap ((shlV .u32 1 (IntKind.u64.wrap a1)) - 1)))
theorem hashindex_low_ok (G : Glob) (hG0 : G.glob 0 = some [(.int .i64 0), (.int .i64 0)]) (a0 : Int) (a1 : Int) (res : Int) (h : hashindex_low a0 a1 = some res) : Spec Tryd.prog G 56 [.cell (.p (.int .u32 a0)), .cell (.p (.int .i64 a1))] (fun r ios => r = .cell (.p (.int .u32 res)) ∧ ios = []) := by
  rw [hashindex_low] at h
  refine spec_of Tryd.mixed Tryd.func56 rfl rfl (by simp only [List.length]; decide +kernel) ?_
  refine swp_fresh (fun g => stL [(0, (.c (.p (.int .u32 a0)))), (1, (.c (.p (.int .i64 a1))))] [] (g + 1)) ?_ (fun g => ?_)
  · refine ren_go (fun g S => []) (fun g S => []) ?_ ?_ ?_ ?_ ?_
    all_goals try simp -implicitDefEqProofs +decide only [go_sem, Nat.reduceAdd, Int.reduceToNat]
    all_goals first | done | trivial | omega | (simp [maps, go_sem]; done) | (simp [maps, go_sem] <;> omega)
  refine seq_reg rfl (fun K hK => ?_)
  simp -implicitDefEqProofs +decide only [go_sem, Nat.reduceAdd, Int.reduceToNat]
  refine hK _ ?_
  refine seq_reg rfl (fun K hK => ?_)
  simp -implicitDefEqProofs +decide only [go_sem, Nat.reduceAdd, Int.reduceToNat]
  refine hK _ ?_
  refine swp_ret ?_
  with_reducible repeat (first | refine nn ?_ | refine nb ?_ | refine nr ?_ | refine nc ?_ | refine ne ?_ | refine nq ?_ | refine nx rfl ?_)
  obtain rfl := some_eq h
  simp -implicitDefEqProofs +decide only [go_sem, Nat.reduceAdd, Int.reduceToNat]
  all_goals first | done | trivial | (simp [maps]; done)
end Go.Sh
end
section
namespace Go.Sh
open Go.Proofs
set_option linter.unusedVariables false
set_option linter.unusedSimpArgs false
set_option maxRecDepth 100000
set_option maxHeartbeats 4000000
noncomputable def hashindex_Bucket_covers (a0 : hashindex_Bucket) (a1 : Int) : Option Bool :=
  (hashindex_low a1 a0.Depth).bind fun v1 =>
  some (v1 == a0.Pattern)
theorem hashindex_Bucket_covers_ok (G : Glob) (hG0 : G.glob 0 = some [(.int .i64 0), (.int .i64 0)]) (a0 : hashindex_Bucket) (a1 : Int) (res : Bool) (h : hashindex_Bucket_covers a0 a1 = some res) : Spec Tryd.prog G 57 [.agg [.p (.int .i64 a0.Depth), .p (.int .u32 a0.Pattern), .p (.int .i64 a0.Next.Line), .p (.int .i64 a0.Next.Gen), .p (.rows (a0.Entries.map r_hashindex_Entry))], .cell (.p (.int .u32 a1))] (fun r ios => r = .cell (.p (.bool res)) ∧ ios = []) := by
  rw [hashindex_Bucket_covers] at h
  refine spec_of Tryd.mixed Tryd.func57 rfl rfl (by simp only [List.length]; decide +kernel) ?_
  refine swp_fresh (fun g => stL [(0, (.agg [(.p (.int .i64 a0.Depth)), (.p (.int .u32 a0.Pattern)), (.p (.int .i64 a0.Next.Line)), (.p (.int .i64 a0.Next.Gen)), (.p (.rows (a0.Entries.map r_hashindex_Entry)))])), (1, (.c (.p (.int .u32 a1))))] [] (g + 1)) ?_ (fun g => ?_)
  · refine ren_go (fun g S => []) (fun g S => []) ?_ ?_ ?_ ?_ ?_
    all_goals try simp -implicitDefEqProofs +decide only [go_sem, Nat.reduceAdd, Int.reduceToNat]
    all_goals first | done | trivial | omega | (simp [maps, go_sem]; done) | (simp [maps, go_sem] <;> omega)
  refine seq_reg rfl (fun K hK => ?_)
  simp -implicitDefEqProofs +decide only [go_sem, Nat.reduceAdd, Int.reduceToNat]
  refine hK _ ?_
  refine seq_drw rfl (fun K hK => ?_)
  refine bind_of h (fun v1 hv1 h => ?_)
  simp -implicitDefEqProofs +decide only [go_sem, Nat.reduceAdd, Int.reduceToNat]
  refine call_go [0, 0] false (hashindex_low_ok ⟨G.glob, noCaps⟩ hG0 a1 a0.Depth _ hv1) (by simp -implicitDefEqProofs +decide only [go_sem, Nat.reduceAdd, Int.reduceToNat]; rfl) (by first | rfl | (simp [maps]; done)) ?_
  simp -implicitDefEqProofs +decide only [go_sem, Nat.reduceAdd, Int.reduceToNat]
  refine draw_go (by kernel_rfl) ?_
  refine hK _ ?_
  refine swp_ret ?_
  with_reducible repeat (first | refine nn ?_ | refine nb ?_ | refine nr ?_ | refine nc ?_ | refine ne ?_ | refine nq ?_ | refine nx rfl ?_)
  obtain rfl := some_eq h
  simp -implicitDefEqProofs +decide only [go_sem, Nat.reduceAdd, Int.reduceToNat]
  all_goals first | done | trivial | (simp [maps]; done)
end Go.Sh
end
section
namespace Go.Sh
open Go.Proofs
set_option linter.unusedVariables false
set_option linter.unusedSimpArgs false
set_option maxRecDepth 100000
set_option maxHeartbeats 4000000
noncomputable def hashindex_Bucket_valid_L1 (a0 : hashindex_Bucket) : (Int × Int) → Option ((Int × Int) ⊕ Bool)
  | (x41, x42) =>
    if (decide (x42 < (a0.Entries.length : Int))) = true then
      (idx a0.Entries x42).bind fun e45 =>
      if (decide (e45.Key ≤ x41)) = true then
        Option.map Sum.inr (
          some false)
      else
        if (decide (e45.Key > 4294967294)) = true then
          Option.map Sum.inr (
            some false)
        else
          (pointer_Valid e45.To).bind fun v48 =>
          if (!v48) = true then
            Option.map Sum.inr (
              some false)
          else
            (hashindex_Hash e45.Key).bind fun v50 =>
            (hashindex_Bucket_covers a0 v50).bind fun v51 =>
            if (!v51) = true then
              Option.map Sum.inr (
                some false)
            else
              some (.inl (e45.Key, (IntKind.i64.wrap (x42 + 1))))
    else
      Option.map Sum.inr (
        some true)
noncomputable def hashindex_Bucket_valid (a0 : hashindex_Bucket) : Option Bool :=
  if (decide (a0.Depth < 0)) = true then
    some false
  else
    if (decide (a0.Depth > 16)) = true then
      some false
    else
      (hashindex_low a0.Pattern a0.Depth).bind fun v10 =>
      if (a0.Pattern != v10) = true then
        some false
      else
        (hashindex_isField a0.Next).bind fun v12 =>
        if (!v12) = true then
          some false
        else
          if (decide ((a0.Entries.length : Int) > 5)) = true then
            some false
          else
            iter (hashindex_Bucket_valid_L1 a0) (0, 0)
theorem hashindex_Bucket_valid_ok (G : Glob) (hG0 : G.glob 0 = some [(.int .i64 0), (.int .i64 0)]) (a0 : hashindex_Bucket) (res : Bool) (h : hashindex_Bucket_valid a0 = some res) : Spec Tryd.prog G 46 [.agg [.p (.int .i64 a0.Depth), .p (.int .u32 a0.Pattern), .p (.int .i64 a0.Next.Line), .p (.int .i64 a0.Next.Gen), .p (.rows (a0.Entries.map r_hashindex_Entry))]] (fun r ios => r = .cell (.p (.bool res)) ∧ ios = []) := by
  rw [hashindex_Bucket_valid] at h
  refine spec_of Tryd.mixed Tryd.func46 rfl rfl (by simp only [List.length]; decide +kernel) ?_
  refine swp_fresh (fun g => stL [(0, (.agg [(.p (.int .i64 a0.Depth)), (.p (.int .u32 a0.Pattern)), (.p (.int .i64 a0.Next.Line)), (.p (.int .i64 a0.Next.Gen)), (.p (.rows (a0.Entries.map r_hashindex_Entry)))]))] [] (g + 1)) ?_ (fun g => ?_)
  · refine ren_go (fun g S => []) (fun g S => []) ?_ ?_ ?_ ?_ ?_
    all_goals try simp -implicitDefEqProofs +decide only [go_sem, Nat.reduceAdd, Int.reduceToNat]
    all_goals first | done | trivial | omega | (simp [maps, go_sem]; done) | (simp [maps, go_sem] <;> omega)
  refine seq_reg rfl (fun K hK => ?_)
  simp -implicitDefEqProofs +decide only [go_sem, Nat.reduceAdd, Int.reduceToNat]
  refine hK _ ?_
  refine swp_seq ?_
  refine seq_drw rfl (fun K hK => ?_)
  refine bsplit h (fun hb8 h => ?_) (fun hb8 h => ?_)
  · simp -implicitDefEqProofs +decide only [go_sem, Nat.reduceAdd, Int.reduceToNat, hb8]
    refine draw_go (by kernel_rfl) ?_
    refine hK _ ?_
    refine cond_t (by simp -implicitDefEqProofs +decide only [go_sem, hb8]) ?_
    refine seq_reg rfl (fun K hK => ?_)
    simp -implicitDefEqProofs +decide only [go_sem, Nat.reduceAdd, Int.reduceToNat, hb8]
    refine hK _ ?_
    refine swp_ret ?_
    with_reducible repeat (first | refine nn ?_ | refine nb ?_ | refine nr ?_ | refine nc ?_ | refine ne ?_ | refine nq ?_ | refine nx rfl ?_)
    obtain rfl := some_eq h
    simp -implicitDefEqProofs +decide only [go_sem, Nat.reduceAdd, Int.reduceToNat]
    all_goals first | done | trivial | (simp [maps]; done)
  · refine bsplit h (fun hb9 h => ?_) (fun hb9 h => ?_)
    · simp -implicitDefEqProofs +decide only [go_sem, Nat.reduceAdd, Int.reduceToNat, hb8, hb9]
      refine draw_go (by kernel_rfl) ?_
      refine hK _ ?_
      refine cond_t (by simp -implicitDefEqProofs +decide only [go_sem, hb8, hb9]) ?_
      refine seq_reg rfl (fun K hK => ?_)
      simp -implicitDefEqProofs +decide only [go_sem, Nat.reduceAdd, Int.reduceToNat, hb8, hb9]
      refine hK _ ?_
      refine swp_ret ?_
      with_reducible repeat (first | refine nn ?_ | refine nb ?_ | refine nr ?_ | refine nc ?_ | refine ne ?_ | refine nq ?_ | refine nx rfl ?_)
      obtain rfl := some_eq h
      simp -implicitDefEqProofs +decide only [go_sem, Nat.reduceAdd, Int.reduceToNat]
      all_goals first | done | trivial | (simp [maps]; done)
    · refine bind_of h (fun v10 hv10 h => ?_)
      simp -implicitDefEqProofs +decide only [go_sem, Nat.reduceAdd, Int.reduceToNat, hb8, hb9]
      refine call_go [0, 0] false (hashindex_low_ok ⟨G.glob, noCaps⟩ hG0 a0.Pattern a0.Depth _ hv10) (by simp -implicitDefEqProofs +decide only [go_sem, Nat.reduceAdd, Int.reduceToNat, hb8, hb9]; rfl) (by first | rfl | (simp [maps, hb8, hb9]; done)) ?_
      refine bsplit h (fun hb11 h => ?_) (fun hb11 h => ?_)
      · simp -implicitDefEqProofs +decide only [go_sem, Nat.reduceAdd, Int.reduceToNat, hb8, hb9, hb11]
        refine draw_go (by kernel_rfl) ?_
        refine hK _ ?_
        refine cond_t (by simp -implicitDefEqProofs +decide only [go_sem, hb8, hb9, hb11]) ?_
        refine seq_reg rfl (fun K hK => ?_)
        simp -implicitDefEqProofs +decide only [go_sem, Nat.reduceAdd, Int.reduceToNat, hb8, hb9, hb11]
        refine hK _ ?_
        refine swp_ret ?_
        with_reducible repeat (first | refine nn ?_ | refine nb ?_ | refine nr ?_ | refine nc ?_ | refine ne ?_ | refine nq ?_ | refine nx rfl ?_)
        obtain rfl := some_eq h
        simp -implicitDefEqProofs +decide only [go_sem, Nat.reduceAdd, Int.reduceToNat]
        all_goals first | done | trivial | (simp [maps]; done)
      · refine bind_of h (fun v12 hv12 h => ?_)
        simp -implicitDefEqProofs +decide only [go_sem, Nat.reduceAdd, Int.reduceToNat, hb8, hb9, hb11]
        refine call_go [0] false (hashindex_isField_ok ⟨G.glob, noCaps⟩ hG0 a0.Next _ hv12) (by simp -implicitDefEqProofs +decide only [go_sem, Nat.reduceAdd, Int.reduceToNat, hb8, hb9, hb11]; rfl) (by first | rfl | (simp [maps, hb8, hb9, hb11]; done)) ?_
        refine bsplit h (fun hb13 h => ?_) (fun hb13 h => ?_)
        · simp -implicitDefEqProofs +decide only [go_sem, Nat.reduceAdd, Int.reduceToNat, hb8, hb9, hb11, hb13]
          refine draw_go (by kernel_rfl) ?_
          refine hK _ ?_
          refine cond_t (by simp -implicitDefEqProofs +decide only [go_sem, hb8, hb9, hb11, hb13]) ?_
          refine seq_reg rfl (fun K hK => ?_)
          simp -implicitDefEqProofs +decide only [go_sem, Nat.reduceAdd, Int.reduceToNat, hb8, hb9, hb11, hb13]
          refine hK _ ?_
          refine swp_ret ?_
          with_reducible repeat (first | refine nn ?_ | refine nb ?_ | refine nr ?_ | refine nc ?_ | refine ne ?_ | refine nq ?_ | refine nx rfl ?_)
          obtain rfl := some_eq h
          simp -implicitDefEqProofs +decide only [go_sem, Nat.reduceAdd, Int.reduceToNat]
          all_goals first | done | trivial | (simp [maps]; done)
        · simp -implicitDefEqProofs +decide only [go_sem, Nat.reduceAdd, Int.reduceToNat, hb8, hb9, hb11, hb13]
          refine draw_go (by kernel_rfl) ?_
          refine hK _ ?_
          refine bsplit h (fun hb14 h => ?_) (fun hb14 h => ?_)
          · refine cond_t (by simp -implicitDefEqProofs +decide only [go_sem, hb8, hb9, hb11, hb13, hb14]) ?_
            refine seq_reg rfl (fun K hK => ?_)
            simp -implicitDefEqProofs +decide only [go_sem, Nat.reduceAdd, Int.reduceToNat, hb8, hb9, hb11, hb13, hb14]
            refine hK _ ?_
            refine swp_ret ?_
            with_reducible repeat (first | refine nn ?_ | refine nb ?_ | refine nr ?_ | refine nc ?_ | refine ne ?_ | refine nq ?_ | refine nx rfl ?_)
            obtain rfl := some_eq h
            simp -implicitDefEqProofs +decide only [go_sem, Nat.reduceAdd, Int.reduceToNat]
            all_goals first | done | trivial | (simp [maps]; done)
          · refine cond_f (by simp -implicitDefEqProofs +decide only [go_sem, hb8, hb9, hb11, hb13, hb14]) ?_
            refine swp_skip ?_
            with_reducible repeat (first | refine nn ?_ | refine nb ?_ | refine nr ?_ | refine nc ?_ | refine ne ?_ | refine nq ?_ | refine nx rfl ?_)
            refine seq_reg rfl (fun K hK => ?_)
            simp -implicitDefEqProofs +decide only [go_sem, Nat.reduceAdd, Int.reduceToNat, hb8, hb9, hb11, hb13, hb14]
            refine hK _ ?_
            refine swp_seq ?_
            refine seq_reg rfl (fun K hK => ?_)
            simp -implicitDefEqProofs +decide only [go_sem, Nat.reduceAdd, Int.reduceToNat, hb8, hb9, hb11, hb13, hb14]
            refine hK _ ?_
            refine swp_block ?_
            refine swp_iter (fun g x => match x with | (x41, x42) => stL [(1, (.c (.ptr ⟨1024000001, g⟩ 0 0))), (3, (.c (.p (.int .u32 x41)))), (37, (.c (.p (.rows (a0.Entries.map r_hashindex_Entry))))), (38, (.c (.p (.int .i64 (a0.Entries.length : Int))))), (39, (.c (.p (.int .i64 x42))))] [(⟨1024000001, g⟩, .box true [(.p (.int .i64 a0.Depth)), (.p (.int .u32 a0.Pattern)), (.p (.int .i64 a0.Next.Line)), (.p (.int .i64 a0.Next.Gen)), (.p (.rows (a0.Entries.map r_hashindex_Entry)))])] (g + 1)) h (enter_of ?_) ?_
            · refine ren_go (fun g S => [(⟨1024000001, g⟩, (keyT 0 (St.env S 1)))]) (fun g S => []) ?_ ?_ ?_ ?_ ?_
              all_goals try simp -implicitDefEqProofs +decide only [go_sem, Nat.reduceAdd, Int.reduceToNat, hb8, hb9, hb11, hb13, hb14]
              all_goals first | done | trivial | omega | (simp [maps, go_sem, hb8, hb9, hb11, hb13, hb14]; done) | (simp [maps, go_sem, hb8, hb9, hb11, hb13, hb14] <;> omega)
            rintro g ⟨x41, x42⟩ s1 h hd1
            rw [hashindex_Bucket_valid_L1] at h
            try dsimp only
            refine seq_reg rfl (fun K hK => ?_)
            simp -implicitDefEqProofs +decide only [go_sem, Nat.reduceAdd, Int.reduceToNat]
            refine hK _ ?_
            refine swp_seq ?_
            refine bsplit h (fun hb44 h => ?_) (fun hb44 h => ?_)
            · refine cond_t (by simp -implicitDefEqProofs +decide only [go_sem, hb44]) ?_
              refine swp_skip ?_
              with_reducible repeat (first | refine nn ?_ | refine nb ?_ | refine nr ?_ | refine nc ?_ | refine ne ?_ | refine nq ?_ | refine nx rfl ?_)
              refine swp_seq ?_
              refine swp_block ?_
              refine seq_reg rfl (fun K hK => ?_)
              refine bind_of h (fun e45 he45 h => ?_)
              obtain ⟨he45_0, he45_1, he45_2⟩ := idx_some he45
              simp -implicitDefEqProofs +decide only [go_sem, Nat.reduceAdd, Int.reduceToNat, he45_0, he45_1, he45_2, hb44]
              refine hK _ ?_
              refine swp_seq ?_
              refine seq_drw rfl (fun K hK => ?_)
              refine bsplit h (fun hb46 h => ?_) (fun hb46 h => ?_)
              · simp -implicitDefEqProofs +decide only [go_sem, Nat.reduceAdd, Int.reduceToNat, hb44, hb46]
                refine draw_go (by kernel_rfl) ?_
                refine hK _ ?_
                refine cond_t (by simp -implicitDefEqProofs +decide only [go_sem, hb44, hb46]) ?_
                refine seq_reg rfl (fun K hK => ?_)
                simp -implicitDefEqProofs +decide only [go_sem, Nat.reduceAdd, Int.reduceToNat, hb44, hb46]
                refine hK _ ?_
                refine swp_ret ?_
                with_reducible repeat (first | refine nn ?_ | refine nb ?_ | refine nr ?_ | refine nc ?_ | refine ne ?_ | refine nq ?_ | refine nx rfl ?_)
                obtain ⟨h, hs1⟩ := exit_of h hd1
                refine ⟨hs1, ?_⟩
                with_reducible repeat (first | refine nn ?_ | refine nb ?_ | refine nr ?_ | refine nc ?_ | refine ne ?_ | refine nq ?_ | refine nx rfl ?_)
                obtain rfl := some_eq h
                simp -implicitDefEqProofs +decide only [go_sem, Nat.reduceAdd, Int.reduceToNat]
                all_goals first | done | trivial | (simp [maps]; done)
              · refine bsplit h (fun hb47 h => ?_) (fun hb47 h => ?_)
                · simp -implicitDefEqProofs +decide only [go_sem, Nat.reduceAdd, Int.reduceToNat, hb44, hb46, hb47]
                  refine draw_go (by kernel_rfl) ?_
                  refine hK _ ?_
                  refine cond_t (by simp -implicitDefEqProofs +decide only [go_sem, hb44, hb46, hb47]) ?_
                  refine seq_reg rfl (fun K hK => ?_)
                  simp -implicitDefEqProofs +decide only [go_sem, Nat.reduceAdd, Int.reduceToNat, hb44, hb46, hb47]
                  refine hK _ ?_
                  refine swp_ret ?_
                  with_reducible repeat (first | refine nn ?_ | refine nb ?_ | refine nr ?_ | refine nc ?_ | refine ne ?_ | refine nq ?_ | refine nx rfl ?_)
                  obtain ⟨h, hs1⟩ := exit_of h hd1
                  refine ⟨hs1, ?_⟩
                  with_reducible repeat (first | refine nn ?_ | refine nb ?_ | refine nr ?_ | refine nc ?_ | refine ne ?_ | refine nq ?_ | refine nx rfl ?_)
                  obtain rfl := some_eq h
                  simp -implicitDefEqProofs +decide only [go_sem, Nat.reduceAdd, Int.reduceToNat]
                  all_goals first | done | trivial | (simp [maps]; done)
                · refine bind_of h (fun v48 hv48 h => ?_)
                  simp -implicitDefEqProofs +decide only [go_sem, Nat.reduceAdd, Int.reduceToNat, hb44, hb46, hb47]
                  refine call_go [0] false (pointer_Valid_ok ⟨G.glob, noCaps⟩ hG0 e45.To _ hv48) (by simp -implicitDefEqProofs +decide only [go_sem, Nat.reduceAdd, Int.reduceToNat, hb44, hb46, hb47]; rfl) (by first | rfl | (simp [maps, hb44, hb46, hb47]; done)) ?_
                  refine bsplit h (fun hb49 h => ?_) (fun hb49 h => ?_)
                  · simp -implicitDefEqProofs +decide only [go_sem, Nat.reduceAdd, Int.reduceToNat, hb44, hb46, hb47, hb49]
                    refine draw_go (by kernel_rfl) ?_
                    refine hK _ ?_
                    refine cond_t (by simp -implicitDefEqProofs +decide only [go_sem, hb44, hb46, hb47, hb49]) ?_
                    refine seq_reg rfl (fun K hK => ?_)
                    simp -implicitDefEqProofs +decide only [go_sem, Nat.reduceAdd, Int.reduceToNat, hb44, hb46, hb47, hb49]
                    refine hK _ ?_
                    refine swp_ret ?_
                    with_reducible repeat (first | refine nn ?_ | refine nb ?_ | refine nr ?_ | refine nc ?_ | refine ne ?_ | refine nq ?_ | refine nx rfl ?_)
                    obtain ⟨h, hs1⟩ := exit_of h hd1
                    refine ⟨hs1, ?_⟩
                    with_reducible repeat (first | refine nn ?_ | refine nb ?_ | refine nr ?_ | refine nc ?_ | refine ne ?_ | refine nq ?_ | refine nx rfl ?_)
                    obtain rfl := some_eq h
                    simp -implicitDefEqProofs +decide only [go_sem, Nat.reduceAdd, Int.reduceToNat]
                    all_goals first | done | trivial | (simp [maps]; done)
                  · refine bind_of h (fun v50 hv50 h => ?_)
                    simp -implicitDefEqProofs +decide only [go_sem, Nat.reduceAdd, Int.reduceToNat, hb44, hb46, hb47, hb49]
                    refine call_go [0] false (hashindex_Hash_ok ⟨G.glob, noCaps⟩ hG0 e45.Key _ hv50) (by simp -implicitDefEqProofs +decide only [go_sem, Nat.reduceAdd, Int.reduceToNat, hb44, hb46, hb47, hb49]; rfl) (by first | rfl | (simp [maps, hb44, hb46, hb47, hb49]; done)) ?_
                    refine bind_of h (fun v51 hv51 h => ?_)
                    simp -implicitDefEqProofs +decide only [go_sem, Nat.reduceAdd, Int.reduceToNat, hb44, hb46, hb47, hb49]
                    refine call_go [0, 0] false (hashindex_Bucket_covers_ok ⟨G.glob, noCaps⟩ hG0 a0 v50 _ hv51) (by simp -implicitDefEqProofs +decide only [go_sem, Nat.reduceAdd, Int.reduceToNat, hb44, hb46, hb47, hb49]; rfl) (by first | rfl | (simp [maps, hb44, hb46, hb47, hb49]; done)) ?_
                    simp -implicitDefEqProofs +decide only [go_sem, Nat.reduceAdd, Int.reduceToNat, hb44, hb46, hb47, hb49]
                    refine draw_go (by kernel_rfl) ?_
                    refine hK _ ?_
                    refine bsplit h (fun hb52 h => ?_) (fun hb52 h => ?_)
                    · refine cond_t (by simp -implicitDefEqProofs +decide only [go_sem, hb44, hb46, hb47, hb49, hb52]) ?_
                      refine seq_reg rfl (fun K hK => ?_)
                      simp -implicitDefEqProofs +decide only [go_sem, Nat.reduceAdd, Int.reduceToNat, hb44, hb46, hb47, hb49, hb52]
                      refine hK _ ?_
                      refine swp_ret ?_
                      with_reducible repeat (first | refine nn ?_ | refine nb ?_ | refine nr ?_ | refine nc ?_ | refine ne ?_ | refine nq ?_ | refine nx rfl ?_)
                      obtain ⟨h, hs1⟩ := exit_of h hd1
                      refine ⟨hs1, ?_⟩
                      with_reducible repeat (first | refine nn ?_ | refine nb ?_ | refine nr ?_ | refine nc ?_ | refine ne ?_ | refine nq ?_ | refine nx rfl ?_)
                      obtain rfl := some_eq h
                      simp -implicitDefEqProofs +decide only [go_sem, Nat.reduceAdd, Int.reduceToNat]
                      all_goals first | done | trivial | (simp [maps]; done)
                    · refine cond_f (by simp -implicitDefEqProofs +decide only [go_sem, hb44, hb46, hb47, hb49, hb52]) ?_
                      refine swp_skip ?_
                      with_reducible repeat (first | refine nn ?_ | refine nb ?_ | refine nr ?_ | refine nc ?_ | refine ne ?_ | refine nq ?_ | refine nx rfl ?_)
                      refine swp_reg rfl (fun K hK => ?_)
                      simp -implicitDefEqProofs +decide only [go_sem, Nat.reduceAdd, Int.reduceToNat, hb44, hb46, hb47, hb49, hb52]
                      refine hK _ ?_
                      with_reducible repeat (first | refine nn ?_ | refine nb ?_ | refine nr ?_ | refine nc ?_ | refine ne ?_ | refine nq ?_ | refine nx rfl ?_)
                      refine swp_reg rfl (fun K hK => ?_)
                      simp -implicitDefEqProofs +decide only [go_sem, Nat.reduceAdd, Int.reduceToNat, hb44, hb46, hb47, hb49, hb52]
                      refine hK _ ?_
                      with_reducible repeat (first | refine nn ?_ | refine nb ?_ | refine nr ?_ | refine nc ?_ | refine ne ?_ | refine nq ?_ | refine nx rfl ?_)
                      refine back_of h ?_
                      refine ren_go (fun g S => [(⟨1024000001, g⟩, (keyT 0 (St.env S 1)))]) (fun g S => []) ?_ ?_ ?_ ?_ ?_
                      all_goals try simp -implicitDefEqProofs +decide only [go_sem, Nat.reduceAdd, Int.reduceToNat, hb44, hb46, hb47, hb49, hb52]
                      all_goals first | done | trivial | omega | (simp [maps, go_sem, hb44, hb46, hb47, hb49, hb52]; done) | (simp [maps, go_sem, hb44, hb46, hb47, hb49, hb52] <;> omega)
            · refine cond_f (by simp -implicitDefEqProofs +decide only [go_sem, hb44]) ?_
              refine swp_exit ?_
              with_reducible repeat (first | refine nn ?_ | refine nb ?_ | refine nr ?_ | refine nc ?_ | refine ne ?_ | refine nq ?_ | refine nx rfl ?_)
              obtain ⟨h, hs1⟩ := exit_of h hd1
              with_reducible repeat (first | refine nn ?_ | refine nb ?_ | refine nr ?_ | refine nc ?_ | refine ne ?_ | refine nq ?_ | refine nx rfl ?_)
              refine ⟨hs1, ?_⟩
              with_reducible repeat (first | refine nn ?_ | refine nb ?_ | refine nr ?_ | refine nc ?_ | refine ne ?_ | refine nq ?_ | refine nx rfl ?_)
              refine seq_reg rfl (fun K hK => ?_)
              simp -implicitDefEqProofs +decide only [go_sem, Nat.reduceAdd, Int.reduceToNat, hb44]
              refine hK _ ?_
              refine swp_ret ?_
              with_reducible repeat (first | refine nn ?_ | refine nb ?_ | refine nr ?_ | refine nc ?_ | refine ne ?_ | refine nq ?_ | refine nx rfl ?_)
              obtain rfl := some_eq h
              simp -implicitDefEqProofs +decide only [go_sem, Nat.reduceAdd, Int.reduceToNat]
              all_goals first | done | trivial | (simp [maps]; done)
end Go.Sh
end
