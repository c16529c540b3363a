/- Part 5 of 7 of the proof: own texts joined by a program. -/
import Derived.Test.YthambbjjolieaaaDoorBucketsD
set_option linter.all false
section
namespace Go.Sh
set_option linter.unusedSimpArgs false
set_option linter.unusedVariables false
set_option maxRecDepth 10000

theorem fit_good {d i l g : Int} (h : fit d i l g = true) : good l g = true := by unfold fit at h; simp only [Bool.and_eq_true] at h; exact h.1
theorem good_vp {l g : Int} (h : vp l g = true) : good l g = true := by unfold good; rw [h]; simp
theorem good_0 {l g : Int} (h : l = 0 ∧ g = 0) : good l g = true := by obtain ⟨rfl, rfl⟩ := h; rfl
theorem rv_facts {r : hashindex_Root} (h : rv r = true) : good r.First.Line r.First.Gen = true ∧ (0 ≤ r.Depth ∧ r.Depth ≤ 5) ∧ good r.Pages.a0.Line r.Pages.a0.Gen = true ∧ good r.Pages.a1.Line r.Pages.a1.Gen = true ∧
    good r.Pages.a2.Line r.Pages.a2.Gen = true ∧ good r.Pages.a3.Line r.Pages.a3.Gen = true := by
  unfold rv at h
  split at h
  · unfold zr at h
    simp only [Bool.and_eq_true, beq_iff_eq] at h
    exact ⟨good_0 (by omega), by omega, good_0 (by omega), good_0 (by omega), good_0 (by omega), good_0 (by omega)⟩
  · simp only [Bool.and_eq_true, decide_eq_true_eq] at h
    obtain ⟨h1, h2, h3, h4, h5, h6, h7⟩ := h
    exact ⟨good_vp h1, ⟨h2, h3⟩, fit_good h4, fit_good h5, fit_good h6, fit_good h7⟩
def two (a b : Int) : Int := a + b * 4294967296
def zeroPg : api_Page := ⟨0, 0, ⟨0, 0, 0, 0, 0, 0, 0⟩⟩
def pkP (p : pointer_Pointer) : Int := pk p.Line p.Gen
def wrP (p : api_Page) (r : hashindex_Root) : api_Page := ⟨p.Line, p.Head, ⟨p.Data.a0, two (pkP r.First) r.Depth, two (pkP r.Pages.a0) (pkP r.Pages.a1), two (pkP r.Pages.a2) (pkP r.Pages.a3), p.Data.a4, p.Data.a5, p.Data.a6⟩⟩
def wr (p : api_Page) (r : hashindex_Root) : api_Page × Int := if p.Line = 96 ∧ rv r = true then (wrP p r, 0) else (zeroPg, 1)
theorem two_or {a b : Int} (h : 0 ≤ a ∧ a < 4294967296) (h' : 0 ≤ b ∧ b < 4294967296) : bits .or .u64 (IntKind.u64.wrap a) (shlV .u64 (IntKind.u64.wrap b) 32) = two a b := by
  rw [u64_in' (x := a) (by omega), u64_in' (x := b) (by omega), shl_u64_32, u64_in' (by omega), or64_lo32 (by omega) (by omega) (by omega)]; rfl
theorem two_add {a b : Int} (h : 0 ≤ a ∧ a < 4294967296) (h' : 0 ≤ b ∧ b < 4294967296) : IntKind.u64.wrap (IntKind.u64.wrap a + shlV .u64 (IntKind.u64.wrap b) 32) = two a b := by
  rw [u64_in' (x := a) (by omega), u64_in' (x := b) (by omega), shl_u64_32, u64_in' (x := b * 4294967296) (by omega), u64_in' (by omega)]; rfl
theorem pkP_r (p : pointer_Pointer) : 0 ≤ pkP p ∧ pkP p < 4294967296 := pk_range _ _
theorem PackP_eq (p : pointer_Pointer) : pointer_Pack p = some (pkP p) := Pack_eq p
theorem PackC_eq (p : pointer_Pointer) : bodegaref19_Pack (cP p) = some (pkP p) := PackR_eq _

theorem WriteRoot_eq (p : api_Page) (r : hashindex_Root) : hashindex_WriteRoot p r = some (wr p r) := by
  unfold hashindex_WriteRoot wr
  by_cases hl : p.Line = 96
  · rcases Bool.eq_false_or_eq_true (rv r) with hv | hv
    · obtain ⟨_, hd, _⟩ := rv_facts hv
      simp only [hl, bne_self_eq_false, Bool.false_eq_true, if_false, Root_valid_eq, bind_s, hv, Bool.not_true, PackP_eq, and_self, if_true]
      rw [iter_eq]
      simp (disch := omega) only [hashindex_WriteRoot_L1, i64_in', Int.reduceTDiv, Int.reduceTMod, Int.reduceMul, Int.reduceAdd, A4.get, A7.set, Int.reduceEq, if_true, if_false, Int.reduceLT, Int.reduceLE, and_self, decide_true, PackP_eq, bind_s]
      rw [iter_eq]
      simp (disch := omega) only [hashindex_WriteRoot_L1, i64_in', Int.reduceTDiv, Int.reduceTMod, Int.reduceMul, Int.reduceAdd, A4.get, A7.set, Int.reduceEq, if_true, if_false, Int.reduceLT, Int.reduceLE, and_self, decide_true, PackP_eq, bind_s]
      rw [iter_eq]
      simp (disch := omega) only [hashindex_WriteRoot_L1, Int.reduceLT, decide_false, Bool.false_eq_true, if_false, Option.map_some, bind_s]
      rw [two_or (pkP_r _) (pkP_r _), two_or (pkP_r _) (pkP_r _), two_or (pkP_r _) (by omega)]
      rfl
    · simp [hl, hv, Root_valid_eq, zeroPg]
  · have : (p.Line != 96) = true := by simp [hl]
    simp only [this, if_true, hl, false_and, if_false]
    rfl
theorem WriteRootR_eq (p : api_Page) (r : hashindex_Root) : bodegaref23_WriteRoot p (cR r) = some (wr p r) := by
  unfold bodegaref23_WriteRoot wr
  by_cases hl : p.Line = 96
  · rcases Bool.eq_false_or_eq_true (rv r) with hv | hv
    · obtain ⟨_, hd, _⟩ := rv_facts hv
      simp only [hl, bne_self_eq_false, Bool.false_eq_true, if_false, ValidRoot_eq, bind_s, hv, Bool.not_true, and_self, if_true]
      rw [show (cR r).First = cP r.First from rfl, PackC_eq, bind_s, iter_eq]
      simp (disch := omega) only [bodegaref23_WriteRoot_L1, i64_in', Int.reduceTDiv, Int.reduceTMod, Int.reduceMul, Int.reduceAdd, A4.get, A7.set, Int.reduceEq, if_true, if_false, Int.reduceLT, Int.reduceLE, and_self, decide_true, PackC_eq, cR, bind_s]
      rw [iter_eq]
      simp (disch := omega) only [bodegaref23_WriteRoot_L1, i64_in', Int.reduceTDiv, Int.reduceTMod, Int.reduceMul, Int.reduceAdd, A4.get, A7.set, Int.reduceEq, if_true, if_false, Int.reduceLT, Int.reduceLE, and_self, decide_true, PackC_eq, cR, bind_s]
      rw [iter_eq]
      simp (disch := omega) only [bodegaref23_WriteRoot_L1, Int.reduceLT, decide_false, Bool.false_eq_true, if_false, Option.map_some, bind_s]
      rw [two_add (pkP_r _) (pkP_r _), two_add (pkP_r _) (pkP_r _), two_add (pkP_r _) (by omega)]
      rfl
    · simp [hl, hv, ValidRoot_eq, zeroPg]
  · have : (p.Line != 96) = true := by simp [hl]
    simp only [this, if_true, hl, false_and, if_false]
    rfl
theorem two_lo {a b : Int} (h : 0 ≤ a ∧ a < 4294967296) : lo (two a b) = a := by unfold lo two; omega
theorem two_hi {a b : Int} (h : 0 ≤ a ∧ a < 4294967296) : hi (two a b) = b := by unfold hi two; omega
theorem two_k {a b : Int} (h : 0 ≤ a ∧ a < 4294967296) (h' : 0 ≤ b ∧ b < 4294967296) : k_u64 (two a b) := by unfold k_u64 two; omega
theorem dp_pk {p : pointer_Pointer} (h : good p.Line p.Gen = true) : dp (pkP p) = p ∧ okw (pkP p) = true := by
  obtain ⟨h1, h2, h3⟩ := pk_dec h
  refine ⟨?_, h3⟩
  unfold dp pkP
  rw [h1, h2]
theorem rd_wr {p : api_Page} {r : hashindex_Root} (hl : p.Line = 96) (hv : rv r = true) : rd (wrP p r) = (r, 0) := by
  obtain ⟨g, hd, g0, g1, g2, g3⟩ := rv_facts hv
  have h1 : rdR (wrP p r) = r := by
    unfold rdR wrP
    simp only [two_lo (pkP_r _), two_hi (pkP_r _), (dp_pk g).1, (dp_pk g0).1, (dp_pk g1).1, (dp_pk g2).1, (dp_pk g3).1]
  have h2 : rdB (wrP p r) = true := by
    unfold rdB wrP
    simp only [two_lo (pkP_r _), two_hi (pkP_r _), (dp_pk g).2, (dp_pk g0).2, (dp_pk g1).2, (dp_pk g2).2, (dp_pk g3).2, Bool.and_self]
  unfold rd
  rw [h1, h2, hv, show (wrP p r).Line = p.Line from rfl, hl]
  simp
theorem wr_k {p : api_Page} {r : hashindex_Root} (hp : k_A7 k_u64 p.Data) (hv : rv r = true) : k_A7 k_u64 (wrP p r).Data := by
  obtain ⟨_, hd, _⟩ := rv_facts hv
  exact ⟨hp.1, two_k (pkP_r _) (by omega), two_k (pkP_r _) (pkP_r _), two_k (pkP_r _) (pkP_r _), hp.2.2.2.2⟩

theorem xor_k (a b : Int) : k_u64 (bits .xor .u64 a b) := by
  unfold bits
  have : ∀ x : Int, k_u64 (IntKind.u64.wrap x) := fun x => by have := wf_wrap .u64 x; simp [Lit.wf, IntKind.min, IntKind.max, IntKind.signed, IntKind.bits] at this; unfold k_u64; omega
  split <;> exact this _

theorem set7_k {a : A7 Int} {i v : Int} (h : k_A7 k_u64 a) (hv : k_u64 v) : k_A7 k_u64 (A7.set a i v) := by
  obtain ⟨h0, h1, h2, h3, h4, h5, h6⟩ := h
  unfold A7.set
  repeat' split
  all_goals exact ⟨by assumption, by assumption, by assumption, by assumption, by assumption, by assumption, by assumption⟩

theorem J1_true (p : api_Page) (hp : k_api_Page p) (n : Int) (l : Int) (r : hashindex_Root) : bodegalaw23_HashRoots_J1 p n (l, r) = some true := by
  obtain ⟨_, _, hD⟩ := hp
  unfold bodegalaw23_HashRoots_J1
  simp only [ReadRoot_eq _ (show k_A7 k_u64 (⟨l, p.Head, p.Data⟩ : api_Page).Data from hD), ReadRootR_eq _ (show k_A7 k_u64 (⟨l, p.Head, p.Data⟩ : api_Page).Data from hD), WriteRoot_eq, WriteRootR_eq, root_eq, awake_eq, bind_s, bodegalaw23_same]
  generalize hq : (⟨l, p.Head, p.Data⟩ : api_Page) = q
  have hqD : q.Data = p.Data := by rw [← hq]
  have hqk : k_A7 k_u64 q.Data := by rw [hqD]; exact hD
  by_cases hw : q.Line = 96 ∧ rv r = true
  · have e : wr q r = (wrP q r, 0) := by unfold wr; rw [if_pos hw]
    have hk := wr_k hqk hw.2
    obtain ⟨v, ev, hv0, hv1⟩ := Pick_eq (a := IntKind.i64.wrap (Int.tdiv n 8)) (n := 3) (by omega)
    obtain ⟨u, eu, hu0, hu1⟩ := Pick_eq (a := IntKind.i64.wrap (Int.tdiv n 24)) (n := 64) (by omega)
    rw [e]
    simp only [beq_self_eq_true, Bool.true_and, Bool.and_self, Bool.not_true, Bool.false_eq_true, if_false, bne_self_eq_false, ReadRoot_eq _ hk, rd_wr hw.1 hw.2, bind_s, ev, eu]
    rw [show (wrP q r).Data.a0 = q.Data.a0 from rfl, show (wrP q r).Data.a4 = q.Data.a4 from rfl, show (wrP q r).Data.a5 = q.Data.a5 from rfl, show (wrP q r).Data.a6 = q.Data.a6 from rfl, hqD]
    have hi : 0 ≤ IntKind.i64.wrap (1 + v) ∧ IntKind.i64.wrap (1 + v) < 7 := by rw [i64_in' (by omega)]; omega
    simp only [hi, and_self, if_true, bne_self_eq_false, Bool.false_eq_true, if_false]
    generalize hg : (⟨(wrP q r).Line, (wrP q r).Head, A7.set (wrP q r).Data (IntKind.i64.wrap (1 + v)) (bits .xor .u64 (A7.get (wrP q r).Data (IntKind.i64.wrap (1 + v))) (shlV .u64 1 (IntKind.u64.wrap u)))⟩ : api_Page) = z
    have hz : k_A7 k_u64 z.Data := by rw [← hg]; exact set7_k hk (xor_k _ _)
    simp only [ReadRoot_eq _ hz, ReadRootR_eq _ hz, root_eq, bind_s, beq_self_eq_true, Bool.and_self]
  · have e : wr q r = (zeroPg, 1) := by unfold wr; rw [if_neg hw]
    rw [e]
    simp

theorem HashRoots_law (p : api_Page) (r : hashindex_Root) (n : Int) (k0 : k_api_Page p) (k1 : k_hashindex_Root r) (k2 : k_i64 n) : bodegalaw23_HashRoots p r n = some true := by
  unfold bodegalaw23_HashRoots
  obtain ⟨v, ev, _⟩ := Pick_eq (a := n) (n := 8) (by omega)
  obtain ⟨d, ed, _⟩ := Pick_eq (a := r.Depth) (n := 9) (by omega)
  obtain ⟨f, ef⟩ := aim_eq r.First
  rw [ev, bind_s, ed, bind_s, ef, bind_s, J1_true p k0]
  split
  · have hJ2 : ∀ x, bodegalaw23_HashRoots_J2 n p f d x = some true := fun x => by
      unfold bodegalaw23_HashRoots_J2
      rw [J1_true p k0, J1_true p k0]; simp
    have hs : ∀ (x : A4 pointer_Pointer) (i : Int), 0 ≤ i ∧ i < 4 → ∃ y, iter (bodegalaw23_HashRoots_L1 n p f d) (x, i) = iter (bodegalaw23_HashRoots_L1 n p f d) (y, i + 1) := fun x i h => by
      rw [iter_eq]
      obtain ⟨q, eq⟩ := aim_eq (A4.get x i)
      have h4 : i < 4 := h.2
      simp only [bodegalaw23_HashRoots_L1, h4, h, and_self, decide_true, if_true, eq, bind_s, i64_in' (show -9223372036854775808 ≤ i + 1 ∧ i + 1 < 9223372036854775808 by omega)]
      exact ⟨_, rfl⟩
    obtain ⟨x1, e1⟩ := hs r.Pages 0 (by omega)
    obtain ⟨x2, e2⟩ := hs x1 (0+1) (by omega)
    obtain ⟨x3, e3⟩ := hs x2 (0+1+1) (by omega)
    obtain ⟨x4, e4⟩ := hs x3 (0+1+1+1) (by omega)
    rw [e1, e2, e3, e4, iter_eq]
    simp [bodegalaw23_HashRoots_L1, hJ2]
  · rfl
end Go.Sh
end
section
namespace Go.Sh
open Go.Proofs
set_option linter.unusedVariables false
set_option linter.unusedSimpArgs false
set_option maxRecDepth 100000
set_option maxHeartbeats 4000000
noncomputable def bodegalaw23_slots_L1 (a0 : (A8 pointer_Pointer)) : ((A8 bodegaref19_Pointer) × Int) → Option (((A8 bodegaref19_Pointer) × Int) ⊕ (A8 bodegaref19_Pointer))
  | (x24, x25) =>
    if (decide (x25 < 8)) = true then
      if 0 ≤ x25 ∧ x25 < 8 then
        (bodegalaw23_ref (A8.get a0 x25)).bind fun v29 =>
        if 0 ≤ x25 ∧ x25 < 8 then
          some (.inl ((A8.set x24 x25 v29), (IntKind.i64.wrap (x25 + 1))))
        else none
      else none
    else
      Option.map Sum.inr (
        some x24)
noncomputable def bodegalaw23_slots (a0 : (A8 pointer_Pointer)) : Option (A8 bodegaref19_Pointer) :=
  iter (bodegalaw23_slots_L1 a0) ((⟨(⟨0, 0⟩ : bodegaref19_Pointer), (⟨0, 0⟩ : bodegaref19_Pointer), (⟨0, 0⟩ : bodegaref19_Pointer), (⟨0, 0⟩ : bodegaref19_Pointer), (⟨0, 0⟩ : bodegaref19_Pointer), (⟨0, 0⟩ : bodegaref19_Pointer), (⟨0, 0⟩ : bodegaref19_Pointer), (⟨0, 0⟩ : bodegaref19_Pointer)⟩ : (A8 bodegaref19_Pointer)), 0)
theorem bodegalaw23_slots_ok (G : Glob) (hG0 : G.glob 0 = some [(.int .i64 0), (.int .i64 0)]) (a0 : (A8 pointer_Pointer)) (res : (A8 bodegaref19_Pointer)) (h : bodegalaw23_slots a0 = some res) : Spec Tryd.prog G 19 [.agg [.p (.int .i64 a0.a0.Line), .p (.int .i64 a0.a0.Gen), .p (.int .i64 a0.a1.Line), .p (.int .i64 a0.a1.Gen), .p (.int .i64 a0.a2.Line), .p (.int .i64 a0.a2.Gen), .p (.int .i64 a0.a3.Line), .p (.int .i64 a0.a3.Gen), .p (.int .i64 a0.a4.Line), .p (.int .i64 a0.a4.Gen), .p (.int .i64 a0.a5.Line), .p (.int .i64 a0.a5.Gen), .p (.int .i64 a0.a6.Line), .p (.int .i64 a0.a6.Gen), .p (.int .i64 a0.a7.Line), .p (.int .i64 a0.a7.Gen)]] (fun r ios => r = .agg [.p (.int .i64 res.a0.Line), .p (.int .i64 res.a0.Gen), .p (.int .i64 res.a1.Line), .p (.int .i64 res.a1.Gen), .p (.int .i64 res.a2.Line), .p (.int .i64 res.a2.Gen), .p (.int .i64 res.a3.Line), .p (.int .i64 res.a3.Gen), .p (.int .i64 res.a4.Line), .p (.int .i64 res.a4.Gen), .p (.int .i64 res.a5.Line), .p (.int .i64 res.a5.Gen), .p (.int .i64 res.a6.Line), .p (.int .i64 res.a6.Gen), .p (.int .i64 res.a7.Line), .p (.int .i64 res.a7.Gen)] ∧ ios = []) := by
  rw [bodegalaw23_slots] at h
  refine spec_of Tryd.mixed Tryd.func19 rfl rfl (by simp only [List.length]; decide +kernel) ?_
  refine swp_fresh (fun g => stL [(0, (.agg [(.p (.int .i64 a0.a0.Line)), (.p (.int .i64 a0.a0.Gen)), (.p (.int .i64 a0.a1.Line)), (.p (.int .i64 a0.a1.Gen)), (.p (.int .i64 a0.a2.Line)), (.p (.int .i64 a0.a2.Gen)), (.p (.int .i64 a0.a3.Line)), (.p (.int .i64 a0.a3.Gen)), (.p (.int .i64 a0.a4.Line)), (.p (.int .i64 a0.a4.Gen)), (.p (.int .i64 a0.a5.Line)), (.p (.int .i64 a0.a5.Gen)), (.p (.int .i64 a0.a6.Line)), (.p (.int .i64 a0.a6.Gen)), (.p (.int .i64 a0.a7.Line)), (.p (.int .i64 a0.a7.Gen))]))] [] (g + 1)) ?_ (fun g => ?_)
  · refine ren_go (fun g S => []) (fun g S => []) ?_ ?_ ?_ ?_ ?_
    all_goals try simp -implicitDefEqProofs +decide only [go_sem, Nat.reduceAdd, Int.reduceToNat]
    all_goals first | done | trivial | omega | (simp [maps, go_sem]; done) | (simp [maps, go_sem] <;> omega)
  refine seq_reg rfl (fun K hK => ?_)
  simp -implicitDefEqProofs +decide only [go_sem, Nat.reduceAdd, Int.reduceToNat]
  refine hK _ ?_
  refine seq_reg rfl (fun K hK => ?_)
  simp -implicitDefEqProofs +decide only [go_sem, Nat.reduceAdd, Int.reduceToNat]
  refine hK _ ?_
  refine swp_seq ?_
  refine seq_reg rfl (fun K hK => ?_)
  simp -implicitDefEqProofs +decide only [go_sem, Nat.reduceAdd, Int.reduceToNat]
  refine hK _ ?_
  refine swp_block ?_
  refine swp_iter (fun g x => match x with | (x24, x25) => stL [(1, (.c (.ptr ⟨1024000001, g⟩ 0 0))), (2, (.c (.ptr ⟨1024000002, g⟩ 0 0))), (3, (.c (.ptr ⟨1024000003, g⟩ 0 0))), (4, (.c (.p (.int .i64 x25))))] [(⟨1024000001, g⟩, .box true [(.p (.int .i64 a0.a0.Line)), (.p (.int .i64 a0.a0.Gen)), (.p (.int .i64 a0.a1.Line)), (.p (.int .i64 a0.a1.Gen)), (.p (.int .i64 a0.a2.Line)), (.p (.int .i64 a0.a2.Gen)), (.p (.int .i64 a0.a3.Line)), (.p (.int .i64 a0.a3.Gen)), (.p (.int .i64 a0.a4.Line)), (.p (.int .i64 a0.a4.Gen)), (.p (.int .i64 a0.a5.Line)), (.p (.int .i64 a0.a5.Gen)), (.p (.int .i64 a0.a6.Line)), (.p (.int .i64 a0.a6.Gen)), (.p (.int .i64 a0.a7.Line)), (.p (.int .i64 a0.a7.Gen))]), (⟨1024000002, g⟩, .box true [(.p (.int .i64 0)), (.p (.int .i64 0)), (.p (.int .i64 0)), (.p (.int .i64 0)), (.p (.int .i64 0)), (.p (.int .i64 0)), (.p (.int .i64 0)), (.p (.int .i64 0)), (.p (.int .i64 0)), (.p (.int .i64 0)), (.p (.int .i64 0)), (.p (.int .i64 0)), (.p (.int .i64 0)), (.p (.int .i64 0)), (.p (.int .i64 0)), (.p (.int .i64 0))]), (⟨1024000003, g⟩, .box true [(.p (.int .i64 x24.a0.Line)), (.p (.int .i64 x24.a0.Gen)), (.p (.int .i64 x24.a1.Line)), (.p (.int .i64 x24.a1.Gen)), (.p (.int .i64 x24.a2.Line)), (.p (.int .i64 x24.a2.Gen)), (.p (.int .i64 x24.a3.Line)), (.p (.int .i64 x24.a3.Gen)), (.p (.int .i64 x24.a4.Line)), (.p (.int .i64 x24.a4.Gen)), (.p (.int .i64 x24.a5.Line)), (.p (.int .i64 x24.a5.Gen)), (.p (.int .i64 x24.a6.Line)), (.p (.int .i64 x24.a6.Gen)), (.p (.int .i64 x24.a7.Line)), (.p (.int .i64 x24.a7.Gen))])] (g + 1)) h (enter_of ?_) ?_
  · refine ren_go (fun g S => [(⟨1024000001, g⟩, (keyT 0 (St.env S 1))), (⟨1024000002, g⟩, (keyT 0 (St.env S 2))), (⟨1024000003, g⟩, (keyT 0 (St.env S 3)))]) (fun g S => []) ?_ ?_ ?_ ?_ ?_
    all_goals try simp -implicitDefEqProofs +decide only [go_sem, Nat.reduceAdd, Int.reduceToNat]
    all_goals first | done | trivial | omega | (simp [maps, go_sem]; done) | (simp [maps, go_sem] <;> omega)
  rintro g ⟨x24, x25⟩ s1 h hd1
  rw [bodegalaw23_slots_L1] at h
  try dsimp only
  refine swp_seq ?_
  refine seq_reg rfl (fun K hK => ?_)
  simp -implicitDefEqProofs +decide only [go_sem, Nat.reduceAdd, Int.reduceToNat]
  refine hK _ ?_
  refine bsplit h (fun hb27 h => ?_) (fun hb27 h => ?_)
  · refine cond_t (by simp -implicitDefEqProofs +decide only [go_sem, hb27]) ?_
    refine swp_skip ?_
    with_reducible repeat (first | refine nn ?_ | refine nb ?_ | refine nr ?_ | refine nc ?_ | refine ne ?_ | refine nq ?_ | refine nx rfl ?_)
    refine swp_seq ?_
    refine swp_block ?_
    refine swp_reg rfl (fun K hK => ?_)
    refine psplit h (fun hp28 h => ?_)
    simp -implicitDefEqProofs +decide only [go_sem, Nat.reduceAdd, Int.reduceToNat, hp28, hb27]
    refine opt_ite (by rcases cases8 hp28.1 hp28.2 with hc | hc | hc | hc | hc | hc | hc | hc <;> simp [hc, A8.get]) ?_
    refine opt_v (v' := .agg [(.p (.int .i64 (A8.get a0 x25).Line)), (.p (.int .i64 (A8.get a0 x25).Gen))]) (by rcases cases8 hp28.1 hp28.2 with hc | hc | hc | hc | hc | hc | hc | hc <;> simp [hc, A8.get]) ?_
    refine bind_of h (fun v29 hv29 h => ?_)
    simp -implicitDefEqProofs +decide only [go_sem, Nat.reduceAdd, Int.reduceToNat, hb27]
    refine call_go [0] false (bodegalaw23_ref_ok ⟨G.glob, noCaps⟩ hG0 (A8.get a0 x25) _ hv29) (by simp -implicitDefEqProofs +decide only [go_sem, Nat.reduceAdd, Int.reduceToNat, hb27]; rfl) (by first | rfl | (simp [maps, hb27]; done)) ?_
    refine psplit h (fun hp30 h => ?_)
    simp -implicitDefEqProofs +decide only [go_sem, Nat.reduceAdd, Int.reduceToNat, hp30, hb27]
    refine opt_ite (by rcases cases8 hp30.1 hp30.2 with hc | hc | hc | hc | hc | hc | hc | hc <;> simp [hc]) ?_
    refine opt_wr (l' := [(.p (.int .i64 (A8.set x24 x25 v29).a0.Line)), (.p (.int .i64 (A8.set x24 x25 v29).a0.Gen)), (.p (.int .i64 (A8.set x24 x25 v29).a1.Line)), (.p (.int .i64 (A8.set x24 x25 v29).a1.Gen)), (.p (.int .i64 (A8.set x24 x25 v29).a2.Line)), (.p (.int .i64 (A8.set x24 x25 v29).a2.Gen)), (.p (.int .i64 (A8.set x24 x25 v29).a3.Line)), (.p (.int .i64 (A8.set x24 x25 v29).a3.Gen)), (.p (.int .i64 (A8.set x24 x25 v29).a4.Line)), (.p (.int .i64 (A8.set x24 x25 v29).a4.Gen)), (.p (.int .i64 (A8.set x24 x25 v29).a5.Line)), (.p (.int .i64 (A8.set x24 x25 v29).a5.Gen)), (.p (.int .i64 (A8.set x24 x25 v29).a6.Line)), (.p (.int .i64 (A8.set x24 x25 v29).a6.Gen)), (.p (.int .i64 (A8.set x24 x25 v29).a7.Line)), (.p (.int .i64 (A8.set x24 x25 v29).a7.Gen))]) (by rcases cases8 hp30.1 hp30.2 with hc | hc | hc | hc | hc | hc | hc | hc <;> simp [hc, A8.get, A8.set]) ?_
    simp -implicitDefEqProofs +decide only [go_sem, Nat.reduceAdd, Int.reduceToNat, hb27]
    refine hK _ ?_
    with_reducible repeat (first | refine nn ?_ | refine nb ?_ | refine nr ?_ | refine nc ?_ | refine ne ?_ | refine nq ?_ | refine nx rfl ?_)
    refine swp_reg rfl (fun K hK => ?_)
    simp -implicitDefEqProofs +decide only [go_sem, Nat.reduceAdd, Int.reduceToNat, hb27]
    refine hK _ ?_
    with_reducible repeat (first | refine nn ?_ | refine nb ?_ | refine nr ?_ | refine nc ?_ | refine ne ?_ | refine nq ?_ | refine nx rfl ?_)
    refine back_of h ?_
    refine ren_go (fun g S => [(⟨1024000001, g⟩, (keyT 0 (St.env S 1))), (⟨1024000002, g⟩, (keyT 0 (St.env S 2))), (⟨1024000003, g⟩, (keyT 0 (St.env S 3)))]) (fun g S => []) ?_ ?_ ?_ ?_ ?_
    all_goals try simp -implicitDefEqProofs +decide only [go_sem, Nat.reduceAdd, Int.reduceToNat, hb27]
    all_goals first | done | trivial | omega | (simp [maps, go_sem, hb27]; done) | (simp [maps, go_sem, hb27] <;> omega)
  · refine cond_f (by simp -implicitDefEqProofs +decide only [go_sem, hb27]) ?_
    refine swp_exit ?_
    with_reducible repeat (first | refine nn ?_ | refine nb ?_ | refine nr ?_ | refine nc ?_ | refine ne ?_ | refine nq ?_ | refine nx rfl ?_)
    obtain ⟨h, hs1⟩ := exit_of h hd1
    with_reducible repeat (first | refine nn ?_ | refine nb ?_ | refine nr ?_ | refine nc ?_ | refine ne ?_ | refine nq ?_ | refine nx rfl ?_)
    refine ⟨hs1, ?_⟩
    with_reducible repeat (first | refine nn ?_ | refine nb ?_ | refine nr ?_ | refine nc ?_ | refine ne ?_ | refine nq ?_ | refine nx rfl ?_)
    refine seq_reg rfl (fun K hK => ?_)
    simp -implicitDefEqProofs +decide only [go_sem, Nat.reduceAdd, Int.reduceToNat, hb27]
    refine hK _ ?_
    refine swp_ret ?_
    with_reducible repeat (first | refine nn ?_ | refine nb ?_ | refine nr ?_ | refine nc ?_ | refine ne ?_ | refine nq ?_ | refine nx rfl ?_)
    obtain rfl := some_eq h
    simp -implicitDefEqProofs +decide only [go_sem, Nat.reduceAdd, Int.reduceToNat]
    all_goals first | done | trivial | (simp [maps]; done)
end Go.Sh
end
section
namespace Go.Sh
open Go.Proofs
set_option linter.unusedVariables false
set_option linter.unusedSimpArgs false
set_option maxRecDepth 100000
set_option maxHeartbeats 4000000
noncomputable def bodegaref19_Aux (a0 : api_Page) : Option Int :=
  some (IntKind.u32.wrap (shrV .u64 a0.Data.a0 32))
theorem bodegaref19_Aux_ok (G : Glob) (hG0 : G.glob 0 = some [(.int .i64 0), (.int .i64 0)]) (a0 : api_Page) (res : Int) (h : bodegaref19_Aux a0 = some res) : Spec Tryd.prog G 37 [.agg [.p (.int .i64 a0.Line), .p (.int .u64 a0.Head), .p (.int .u64 a0.Data.a0), .p (.int .u64 a0.Data.a1), .p (.int .u64 a0.Data.a2), .p (.int .u64 a0.Data.a3), .p (.int .u64 a0.Data.a4), .p (.int .u64 a0.Data.a5), .p (.int .u64 a0.Data.a6)]] (fun r ios => r = .cell (.p (.int .u32 res)) ∧ ios = []) := by
  rw [bodegaref19_Aux] at h
  refine spec_of Tryd.mixed Tryd.func37 rfl rfl (by simp only [List.length]; decide +kernel) ?_
  refine swp_fresh (fun g => stL [(0, (.agg [(.p (.int .i64 a0.Line)), (.p (.int .u64 a0.Head)), (.p (.int .u64 a0.Data.a0)), (.p (.int .u64 a0.Data.a1)), (.p (.int .u64 a0.Data.a2)), (.p (.int .u64 a0.Data.a3)), (.p (.int .u64 a0.Data.a4)), (.p (.int .u64 a0.Data.a5)), (.p (.int .u64 a0.Data.a6))]))] [] (g + 1)) ?_ (fun g => ?_)
  · refine ren_go (fun g S => []) (fun g S => []) ?_ ?_ ?_ ?_ ?_
    all_goals try simp -implicitDefEqProofs +decide only [go_sem, Nat.reduceAdd, Int.reduceToNat]
    all_goals first | done | trivial | omega | (simp [maps, go_sem]; done) | (simp [maps, go_sem] <;> omega)
  refine seq_reg rfl (fun K hK => ?_)
  simp -implicitDefEqProofs +decide only [go_sem, Nat.reduceAdd, Int.reduceToNat]
  refine hK _ ?_
  refine seq_reg rfl (fun K hK => ?_)
  simp -implicitDefEqProofs +decide only [go_sem, Nat.reduceAdd, Int.reduceToNat]
  refine hK _ ?_
  refine swp_ret ?_
  with_reducible repeat (first | refine nn ?_ | refine nb ?_ | refine nr ?_ | refine nc ?_ | refine ne ?_ | refine nq ?_ | refine nx rfl ?_)
  obtain rfl := some_eq h
  simp -implicitDefEqProofs +decide only [go_sem, Nat.reduceAdd, Int.reduceToNat]
  all_goals first | done | trivial | (simp [maps]; done)
end Go.Sh
end
section
namespace Go.Sh
open Go.Proofs
set_option linter.unusedVariables false
set_option linter.unusedSimpArgs false
set_option maxRecDepth 100000
set_option maxHeartbeats 4000000
noncomputable def bodegaref19_Kind (a0 : api_Page) : Option Int :=
  some (IntKind.i64.wrap (Int.tmod a0.Data.a0 256))
theorem bodegaref19_Kind_ok (G : Glob) (hG0 : G.glob 0 = some [(.int .i64 0), (.int .i64 0)]) (a0 : api_Page) (res : Int) (h : bodegaref19_Kind a0 = some res) : Spec Tryd.prog G 36 [.agg [.p (.int .i64 a0.Line), .p (.int .u64 a0.Head), .p (.int .u64 a0.Data.a0), .p (.int .u64 a0.Data.a1), .p (.int .u64 a0.Data.a2), .p (.int .u64 a0.Data.a3), .p (.int .u64 a0.Data.a4), .p (.int .u64 a0.Data.a5), .p (.int .u64 a0.Data.a6)]] (fun r ios => r = .cell (.p (.int .i64 res)) ∧ ios = []) := by
  rw [bodegaref19_Kind] at h
  refine spec_of Tryd.mixed Tryd.func36 rfl rfl (by simp only [List.length]; decide +kernel) ?_
  refine swp_fresh (fun g => stL [(0, (.agg [(.p (.int .i64 a0.Line)), (.p (.int .u64 a0.Head)), (.p (.int .u64 a0.Data.a0)), (.p (.int .u64 a0.Data.a1)), (.p (.int .u64 a0.Data.a2)), (.p (.int .u64 a0.Data.a3)), (.p (.int .u64 a0.Data.a4)), (.p (.int .u64 a0.Data.a5)), (.p (.int .u64 a0.Data.a6))]))] [] (g + 1)) ?_ (fun g => ?_)
  · refine ren_go (fun g S => []) (fun g S => []) ?_ ?_ ?_ ?_ ?_
    all_goals try simp -implicitDefEqProofs +decide only [go_sem, Nat.reduceAdd, Int.reduceToNat]
    all_goals first | done | trivial | omega | (simp [maps, go_sem]; done) | (simp [maps, go_sem] <;> omega)
  refine seq_reg rfl (fun K hK => ?_)
  simp -implicitDefEqProofs +decide only [go_sem, Nat.reduceAdd, Int.reduceToNat]
  refine hK _ ?_
  refine seq_reg rfl (fun K hK => ?_)
  simp -implicitDefEqProofs +decide only [go_sem, Nat.reduceAdd, Int.reduceToNat]
  refine hK _ ?_
  refine swp_ret ?_
  with_reducible repeat (first | refine nn ?_ | refine nb ?_ | refine nr ?_ | refine nc ?_ | refine ne ?_ | refine nq ?_ | refine nx rfl ?_)
  obtain rfl := some_eq h
  simp -implicitDefEqProofs +decide only [go_sem, Nat.reduceAdd, Int.reduceToNat]
  all_goals first | done | trivial | (simp [maps]; done)
end Go.Sh
end
section
namespace Go.Sh
open Go.Proofs
set_option linter.unusedVariables false
set_option linter.unusedSimpArgs false
set_option maxRecDepth 100000
set_option maxHeartbeats 4000000
noncomputable def bodegaref23_ReadSlots_L1 (a0 : api_Page) : ((A8 bodegaref19_Pointer) × Int) → Option (((A8 bodegaref19_Pointer) × Int) ⊕ ((A8 bodegaref19_Pointer) × Int))
  | (x40, x41) =>
    if (decide (x41 < 8)) = true then
      if 0 ≤ (IntKind.i64.wrap (1 + (IntKind.i64.wrap (Int.tdiv x41 2)))) ∧ (IntKind.i64.wrap (1 + (IntKind.i64.wrap (Int.tdiv x41 2)))) < 7 then
        (bodegaref23_pointer (Int.tmod (shrV .u64 (A7.get a0.Data (IntKind.i64.wrap (1 + (IntKind.i64.wrap (Int.tdiv x41 2))))) (IntKind.u64.wrap (IntKind.i64.wrap (32 * (Int.tmod x41 2))))) 4294967296)).bind fun v45 =>
        if 0 ≤ x41 ∧ x41 < 8 then
          if (!v45.2) = true then
            Option.map Sum.inr (
              some ((⟨(⟨0, 0⟩ : bodegaref19_Pointer), (⟨0, 0⟩ : bodegaref19_Pointer), (⟨0, 0⟩ : bodegaref19_Pointer), (⟨0, 0⟩ : bodegaref19_Pointer), (⟨0, 0⟩ : bodegaref19_Pointer), (⟨0, 0⟩ : bodegaref19_Pointer), (⟨0, 0⟩ : bodegaref19_Pointer), (⟨0, 0⟩ : bodegaref19_Pointer)⟩ : (A8 bodegaref19_Pointer)), 14))
          else
            some (.inl ((A8.set x40 x41 v45.1), (IntKind.i64.wrap (x41 + 1))))
        else none
      else none
    else
      Option.map Sum.inr (
        some (x40, 0))
noncomputable def bodegaref23_ReadSlots (a0 : api_Page) : Option ((A8 bodegaref19_Pointer) × Int) :=
  (bodegaref19_Kind a0).bind fun v7 =>
  if (v7 != 3) = true then
    some ((⟨(⟨0, 0⟩ : bodegaref19_Pointer), (⟨0, 0⟩ : bodegaref19_Pointer), (⟨0, 0⟩ : bodegaref19_Pointer), (⟨0, 0⟩ : bodegaref19_Pointer), (⟨0, 0⟩ : bodegaref19_Pointer), (⟨0, 0⟩ : bodegaref19_Pointer), (⟨0, 0⟩ : bodegaref19_Pointer), (⟨0, 0⟩ : bodegaref19_Pointer)⟩ : (A8 bodegaref19_Pointer)), 14)
  else
    (bodegaref19_Aux a0).bind fun v9 =>
    if (v9 != 0) = true then
      some ((⟨(⟨0, 0⟩ : bodegaref19_Pointer), (⟨0, 0⟩ : bodegaref19_Pointer), (⟨0, 0⟩ : bodegaref19_Pointer), (⟨0, 0⟩ : bodegaref19_Pointer), (⟨0, 0⟩ : bodegaref19_Pointer), (⟨0, 0⟩ : bodegaref19_Pointer), (⟨0, 0⟩ : bodegaref19_Pointer), (⟨0, 0⟩ : bodegaref19_Pointer)⟩ : (A8 bodegaref19_Pointer)), 14)
    else
      if (a0.Data.a5 != 0) = true then
        some ((⟨(⟨0, 0⟩ : bodegaref19_Pointer), (⟨0, 0⟩ : bodegaref19_Pointer), (⟨0, 0⟩ : bodegaref19_Pointer), (⟨0, 0⟩ : bodegaref19_Pointer), (⟨0, 0⟩ : bodegaref19_Pointer), (⟨0, 0⟩ : bodegaref19_Pointer), (⟨0, 0⟩ : bodegaref19_Pointer), (⟨0, 0⟩ : bodegaref19_Pointer)⟩ : (A8 bodegaref19_Pointer)), 14)
      else
        if (a0.Data.a6 != 0) = true then
          some ((⟨(⟨0, 0⟩ : bodegaref19_Pointer), (⟨0, 0⟩ : bodegaref19_Pointer), (⟨0, 0⟩ : bodegaref19_Pointer), (⟨0, 0⟩ : bodegaref19_Pointer), (⟨0, 0⟩ : bodegaref19_Pointer), (⟨0, 0⟩ : bodegaref19_Pointer), (⟨0, 0⟩ : bodegaref19_Pointer), (⟨0, 0⟩ : bodegaref19_Pointer)⟩ : (A8 bodegaref19_Pointer)), 14)
        else
          iter (bodegaref23_ReadSlots_L1 a0) ((⟨(⟨0, 0⟩ : bodegaref19_Pointer), (⟨0, 0⟩ : bodegaref19_Pointer), (⟨0, 0⟩ : bodegaref19_Pointer), (⟨0, 0⟩ : bodegaref19_Pointer), (⟨0, 0⟩ : bodegaref19_Pointer), (⟨0, 0⟩ : bodegaref19_Pointer), (⟨0, 0⟩ : bodegaref19_Pointer), (⟨0, 0⟩ : bodegaref19_Pointer)⟩ : (A8 bodegaref19_Pointer)), 0)
theorem bodegaref23_ReadSlots_ok (G : Glob) (hG0 : G.glob 0 = some [(.int .i64 0), (.int .i64 0)]) (a0 : api_Page) (res : ((A8 bodegaref19_Pointer) × Int)) (h : bodegaref23_ReadSlots a0 = some res) : Spec Tryd.prog G 16 [.agg [.p (.int .i64 a0.Line), .p (.int .u64 a0.Head), .p (.int .u64 a0.Data.a0), .p (.int .u64 a0.Data.a1), .p (.int .u64 a0.Data.a2), .p (.int .u64 a0.Data.a3), .p (.int .u64 a0.Data.a4), .p (.int .u64 a0.Data.a5), .p (.int .u64 a0.Data.a6)]] (fun r ios => r = .tup [.agg [.p (.int .i64 res.1.a0.Line), .p (.int .i64 res.1.a0.Gen), .p (.int .i64 res.1.a1.Line), .p (.int .i64 res.1.a1.Gen), .p (.int .i64 res.1.a2.Line), .p (.int .i64 res.1.a2.Gen), .p (.int .i64 res.1.a3.Line), .p (.int .i64 res.1.a3.Gen), .p (.int .i64 res.1.a4.Line), .p (.int .i64 res.1.a4.Gen), .p (.int .i64 res.1.a5.Line), .p (.int .i64 res.1.a5.Gen), .p (.int .i64 res.1.a6.Line), .p (.int .i64 res.1.a6.Gen), .p (.int .i64 res.1.a7.Line), .p (.int .i64 res.1.a7.Gen)], .cell (.p (.int .i64 res.2))] ∧ ios = []) := by
  rw [bodegaref23_ReadSlots] at h
  refine spec_of Tryd.mixed Tryd.func16 rfl rfl (by simp only [List.length]; decide +kernel) ?_
  refine swp_fresh (fun g => stL [(0, (.agg [(.p (.int .i64 a0.Line)), (.p (.int .u64 a0.Head)), (.p (.int .u64 a0.Data.a0)), (.p (.int .u64 a0.Data.a1)), (.p (.int .u64 a0.Data.a2)), (.p (.int .u64 a0.Data.a3)), (.p (.int .u64 a0.Data.a4)), (.p (.int .u64 a0.Data.a5)), (.p (.int .u64 a0.Data.a6))]))] [] (g + 1)) ?_ (fun g => ?_)
  · refine ren_go (fun g S => []) (fun g S => []) ?_ ?_ ?_ ?_ ?_
    all_goals try simp -implicitDefEqProofs +decide only [go_sem, Nat.reduceAdd, Int.reduceToNat]
    all_goals first | done | trivial | omega | (simp [maps, go_sem]; done) | (simp [maps, go_sem] <;> omega)
  refine seq_reg rfl (fun K hK => ?_)
  simp -implicitDefEqProofs +decide only [go_sem, Nat.reduceAdd, Int.reduceToNat]
  refine hK _ ?_
  refine seq_reg rfl (fun K hK => ?_)
  simp -implicitDefEqProofs +decide only [go_sem, Nat.reduceAdd, Int.reduceToNat]
  refine hK _ ?_
  refine swp_seq ?_
  refine seq_reg rfl (fun K hK => ?_)
  refine bind_of h (fun v7 hv7 h => ?_)
  simp -implicitDefEqProofs +decide only [go_sem, Nat.reduceAdd, Int.reduceToNat]
  refine call_go [0] false (bodegaref19_Kind_ok ⟨G.glob, noCaps⟩ hG0 a0 _ hv7) (by simp -implicitDefEqProofs +decide only [go_sem, Nat.reduceAdd, Int.reduceToNat]; rfl) (by first | rfl | (simp [maps]; done)) ?_
  refine bsplit h (fun hb8 h => ?_) (fun hb8 h => ?_)
  · simp -implicitDefEqProofs +decide only [go_sem, Nat.reduceAdd, Int.reduceToNat, hb8]
    refine hK _ ?_
    refine cond_t (by simp -implicitDefEqProofs +decide only [go_sem, hb8]) ?_
    refine seq_reg rfl (fun K hK => ?_)
    simp -implicitDefEqProofs +decide only [go_sem, Nat.reduceAdd, Int.reduceToNat, hb8]
    refine hK _ ?_
    refine swp_ret ?_
    with_reducible repeat (first | refine nn ?_ | refine nb ?_ | refine nr ?_ | refine nc ?_ | refine ne ?_ | refine nq ?_ | refine nx rfl ?_)
    obtain rfl := some_eq h
    simp -implicitDefEqProofs +decide only [go_sem, Nat.reduceAdd, Int.reduceToNat]
    all_goals first | done | trivial | (simp [maps]; done)
  · refine bind_of h (fun v9 hv9 h => ?_)
    simp -implicitDefEqProofs +decide only [go_sem, Nat.reduceAdd, Int.reduceToNat, hb8]
    refine call_go [0] false (bodegaref19_Aux_ok ⟨G.glob, noCaps⟩ hG0 a0 _ hv9) (by simp -implicitDefEqProofs +decide only [go_sem, Nat.reduceAdd, Int.reduceToNat, hb8]; rfl) (by first | rfl | (simp [maps, hb8]; done)) ?_
    refine bsplit h (fun hb10 h => ?_) (fun hb10 h => ?_)
    · simp -implicitDefEqProofs +decide only [go_sem, Nat.reduceAdd, Int.reduceToNat, hb8, hb10]
      refine hK _ ?_
      refine cond_t (by simp -implicitDefEqProofs +decide only [go_sem, hb8, hb10]) ?_
      refine seq_reg rfl (fun K hK => ?_)
      simp -implicitDefEqProofs +decide only [go_sem, Nat.reduceAdd, Int.reduceToNat, hb8, hb10]
      refine hK _ ?_
      refine swp_ret ?_
      with_reducible repeat (first | refine nn ?_ | refine nb ?_ | refine nr ?_ | refine nc ?_ | refine ne ?_ | refine nq ?_ | refine nx rfl ?_)
      obtain rfl := some_eq h
      simp -implicitDefEqProofs +decide only [go_sem, Nat.reduceAdd, Int.reduceToNat]
      all_goals first | done | trivial | (simp [maps]; done)
    · refine bsplit h (fun hb11 h => ?_) (fun hb11 h => ?_)
      · simp -implicitDefEqProofs +decide only [go_sem, Nat.reduceAdd, Int.reduceToNat, hb8, hb10, hb11]
        refine hK _ ?_
        refine cond_t (by simp -implicitDefEqProofs +decide only [go_sem, hb8, hb10, hb11]) ?_
        refine seq_reg rfl (fun K hK => ?_)
        simp -implicitDefEqProofs +decide only [go_sem, Nat.reduceAdd, Int.reduceToNat, hb8, hb10, hb11]
        refine hK _ ?_
        refine swp_ret ?_
        with_reducible repeat (first | refine nn ?_ | refine nb ?_ | refine nr ?_ | refine nc ?_ | refine ne ?_ | refine nq ?_ | refine nx rfl ?_)
        obtain rfl := some_eq h
        simp -implicitDefEqProofs +decide only [go_sem, Nat.reduceAdd, Int.reduceToNat]
        all_goals first | done | trivial | (simp [maps]; done)
      · simp -implicitDefEqProofs +decide only [go_sem, Nat.reduceAdd, Int.reduceToNat, hb8, hb10, hb11]
        refine hK _ ?_
        refine bsplit h (fun hb12 h => ?_) (fun hb12 h => ?_)
        · refine cond_t (by simp -implicitDefEqProofs +decide only [go_sem, hb8, hb10, hb11, hb12]) ?_
          refine seq_reg rfl (fun K hK => ?_)
          simp -implicitDefEqProofs +decide only [go_sem, Nat.reduceAdd, Int.reduceToNat, hb8, hb10, hb11, hb12]
          refine hK _ ?_
          refine swp_ret ?_
          with_reducible repeat (first | refine nn ?_ | refine nb ?_ | refine nr ?_ | refine nc ?_ | refine ne ?_ | refine nq ?_ | refine nx rfl ?_)
          obtain rfl := some_eq h
          simp -implicitDefEqProofs +decide only [go_sem, Nat.reduceAdd, Int.reduceToNat]
          all_goals first | done | trivial | (simp [maps]; done)
        · refine cond_f (by simp -implicitDefEqProofs +decide only [go_sem, hb8, hb10, hb11, hb12]) ?_
          refine swp_skip ?_
          with_reducible repeat (first | refine nn ?_ | refine nb ?_ | refine nr ?_ | refine nc ?_ | refine ne ?_ | refine nq ?_ | refine nx rfl ?_)
          refine swp_seq ?_
          refine seq_reg rfl (fun K hK => ?_)
          simp -implicitDefEqProofs +decide only [go_sem, Nat.reduceAdd, Int.reduceToNat, hb8, hb10, hb11, hb12]
          refine hK _ ?_
          refine swp_block ?_
          refine swp_iter (fun g x => match x with | (x40, x41) => stL [(1, (.c (.ptr ⟨1024000001, g⟩ 0 0))), (2, (.c (.ptr ⟨1024000002, g⟩ 0 0))), (4, (.c (.ptr ⟨1024000003, g⟩ 0 0))), (5, (.c (.p (.int .i64 x41))))] [(⟨1024000001, g⟩, .box true [(.p (.int .i64 a0.Line)), (.p (.int .u64 a0.Head)), (.p (.int .u64 a0.Data.a0)), (.p (.int .u64 a0.Data.a1)), (.p (.int .u64 a0.Data.a2)), (.p (.int .u64 a0.Data.a3)), (.p (.int .u64 a0.Data.a4)), (.p (.int .u64 a0.Data.a5)), (.p (.int .u64 a0.Data.a6))]), (⟨1024000002, g⟩, .box true [(.p (.int .i64 0)), (.p (.int .i64 0)), (.p (.int .i64 0)), (.p (.int .i64 0)), (.p (.int .i64 0)), (.p (.int .i64 0)), (.p (.int .i64 0)), (.p (.int .i64 0)), (.p (.int .i64 0)), (.p (.int .i64 0)), (.p (.int .i64 0)), (.p (.int .i64 0)), (.p (.int .i64 0)), (.p (.int .i64 0)), (.p (.int .i64 0)), (.p (.int .i64 0))]), (⟨1024000003, g⟩, .box true [(.p (.int .i64 x40.a0.Line)), (.p (.int .i64 x40.a0.Gen)), (.p (.int .i64 x40.a1.Line)), (.p (.int .i64 x40.a1.Gen)), (.p (.int .i64 x40.a2.Line)), (.p (.int .i64 x40.a2.Gen)), (.p (.int .i64 x40.a3.Line)), (.p (.int .i64 x40.a3.Gen)), (.p (.int .i64 x40.a4.Line)), (.p (.int .i64 x40.a4.Gen)), (.p (.int .i64 x40.a5.Line)), (.p (.int .i64 x40.a5.Gen)), (.p (.int .i64 x40.a6.Line)), (.p (.int .i64 x40.a6.Gen)), (.p (.int .i64 x40.a7.Line)), (.p (.int .i64 x40.a7.Gen))])] (g + 1)) h (enter_of ?_) ?_
          · refine ren_go (fun g S => [(⟨1024000001, g⟩, (keyT 0 (St.env S 1))), (⟨1024000002, g⟩, (keyT 0 (St.env S 2))), (⟨1024000003, g⟩, (keyT 0 (St.env S 4)))]) (fun g S => []) ?_ ?_ ?_ ?_ ?_
            all_goals try simp -implicitDefEqProofs +decide only [go_sem, Nat.reduceAdd, Int.reduceToNat, hb8, hb10, hb11, hb12]
            all_goals first | done | trivial | omega | (simp [maps, go_sem, hb8, hb10, hb11, hb12]; done) | (simp [maps, go_sem, hb8, hb10, hb11, hb12] <;> omega)
          rintro g ⟨x40, x41⟩ s1 h hd1
          rw [bodegaref23_ReadSlots_L1] at h
          try dsimp only
          refine swp_seq ?_
          refine seq_reg rfl (fun K hK => ?_)
          simp -implicitDefEqProofs +decide only [go_sem, Nat.reduceAdd, Int.reduceToNat]
          refine hK _ ?_
          refine bsplit h (fun hb43 h => ?_) (fun hb43 h => ?_)
          · refine cond_t (by simp -implicitDefEqProofs +decide only [go_sem, hb43]) ?_
            refine swp_skip ?_
            with_reducible repeat (first | refine nn ?_ | refine nb ?_ | refine nr ?_ | refine nc ?_ | refine ne ?_ | refine nq ?_ | refine nx rfl ?_)
            refine swp_seq ?_
            refine swp_block ?_
            refine seq_reg rfl (fun K hK => ?_)
            simp -implicitDefEqProofs +decide only [go_sem, Nat.reduceAdd, Int.reduceToNat, hb43]
            refine hK _ ?_
            refine seq_reg rfl (fun K hK => ?_)
            refine psplit h (fun hp44 h => ?_)
            simp -implicitDefEqProofs +decide only [go_sem, Nat.reduceAdd, Int.reduceToNat, hp44, hb43]
            first | refine opt_get (x := (.p (.int .u64 (A7.get a0.Data (IntKind.i64.wrap (1 + (IntKind.i64.wrap (Int.tdiv x41 2)))))))) (by rcases cases7 hp44.1 hp44.2 with hc | hc | hc | hc | hc | hc | hc <;> simp [hc, A7.get]) ?_ | refine opt_get' (x := (.p (.int .u64 (A7.get a0.Data (IntKind.i64.wrap (1 + (IntKind.i64.wrap (Int.tdiv x41 2)))))))) (by rcases cases7 hp44.1 hp44.2 with hc | hc | hc | hc | hc | hc | hc <;> simp [hc, A7.get]) ?_
            refine bind_of h (fun v45 hv45 h => ?_)
            simp -implicitDefEqProofs +decide only [go_sem, Nat.reduceAdd, Int.reduceToNat, hb43]
            refine call_go [0] false (bodegaref23_pointer_ok ⟨G.glob, noCaps⟩ hG0 (Int.tmod (shrV .u64 (A7.get a0.Data (IntKind.i64.wrap (1 + (IntKind.i64.wrap (Int.tdiv x41 2))))) (IntKind.u64.wrap (IntKind.i64.wrap (32 * (Int.tmod x41 2))))) 4294967296) _ hv45) (by simp -implicitDefEqProofs +decide only [go_sem, Nat.reduceAdd, Int.reduceToNat, hb43]; rfl) (by first | rfl | (simp [maps, hb43]; done)) ?_
            refine psplit h (fun hp46 h => ?_)
            simp -implicitDefEqProofs +decide only [go_sem, Nat.reduceAdd, Int.reduceToNat, hp46, hb43]
            refine opt_ite (by rcases cases8 hp46.1 hp46.2 with hc | hc | hc | hc | hc | hc | hc | hc <;> simp [hc]) ?_
            refine opt_wr (l' := [(.p (.int .i64 (A8.set x40 x41 v45.1).a0.Line)), (.p (.int .i64 (A8.set x40 x41 v45.1).a0.Gen)), (.p (.int .i64 (A8.set x40 x41 v45.1).a1.Line)), (.p (.int .i64 (A8.set x40 x41 v45.1).a1.Gen)), (.p (.int .i64 (A8.set x40 x41 v45.1).a2.Line)), (.p (.int .i64 (A8.set x40 x41 v45.1).a2.Gen)), (.p (.int .i64 (A8.set x40 x41 v45.1).a3.Line)), (.p (.int .i64 (A8.set x40 x41 v45.1).a3.Gen)), (.p (.int .i64 (A8.set x40 x41 v45.1).a4.Line)), (.p (.int .i64 (A8.set x40 x41 v45.1).a4.Gen)), (.p (.int .i64 (A8.set x40 x41 v45.1).a5.Line)), (.p (.int .i64 (A8.set x40 x41 v45.1).a5.Gen)), (.p (.int .i64 (A8.set x40 x41 v45.1).a6.Line)), (.p (.int .i64 (A8.set x40 x41 v45.1).a6.Gen)), (.p (.int .i64 (A8.set x40 x41 v45.1).a7.Line)), (.p (.int .i64 (A8.set x40 x41 v45.1).a7.Gen))]) (by rcases cases8 hp46.1 hp46.2 with hc | hc | hc | hc | hc | hc | hc | hc <;> simp [hc, A8.get, A8.set]) ?_
            simp -implicitDefEqProofs +decide only [go_sem, Nat.reduceAdd, Int.reduceToNat, hb43]
            refine hK _ ?_
            refine seq_reg rfl (fun K hK => ?_)
            simp -implicitDefEqProofs +decide only [go_sem, Nat.reduceAdd, Int.reduceToNat, hb43]
            refine hK _ ?_
            refine bsplit h (fun hb47 h => ?_) (fun hb47 h => ?_)
            · refine cond_t (by simp -implicitDefEqProofs +decide only [go_sem, hb43, hb47]) ?_
              refine seq_reg rfl (fun K hK => ?_)
              simp -implicitDefEqProofs +decide only [go_sem, Nat.reduceAdd, Int.reduceToNat, hb43, hb47]
              refine hK _ ?_
              refine swp_ret ?_
              with_reducible repeat (first | refine nn ?_ | refine nb ?_ | refine nr ?_ | refine nc ?_ | refine ne ?_ | refine nq ?_ | refine nx rfl ?_)
              obtain ⟨h, hs1⟩ := exit_of h hd1
              refine ⟨hs1, ?_⟩
              with_reducible repeat (first | refine nn ?_ | refine nb ?_ | refine nr ?_ | refine nc ?_ | refine ne ?_ | refine nq ?_ | refine nx rfl ?_)
              obtain rfl := some_eq h
              simp -implicitDefEqProofs +decide only [go_sem, Nat.reduceAdd, Int.reduceToNat]
              all_goals first | done | trivial | (simp [maps]; done)
            · refine cond_f (by simp -implicitDefEqProofs +decide only [go_sem, hb43, hb47]) ?_
              refine swp_skip ?_
              with_reducible repeat (first | refine nn ?_ | refine nb ?_ | refine nr ?_ | refine nc ?_ | refine ne ?_ | refine nq ?_ | refine nx rfl ?_)
              refine swp_reg rfl (fun K hK => ?_)
              simp -implicitDefEqProofs +decide only [go_sem, Nat.reduceAdd, Int.reduceToNat, hb43, hb47]
              refine hK _ ?_
              with_reducible repeat (first | refine nn ?_ | refine nb ?_ | refine nr ?_ | refine nc ?_ | refine ne ?_ | refine nq ?_ | refine nx rfl ?_)
              refine back_of h ?_
              refine ren_go (fun g S => [(⟨1024000001, g⟩, (keyT 0 (St.env S 1))), (⟨1024000002, g⟩, (keyT 0 (St.env S 2))), (⟨1024000003, g⟩, (keyT 0 (St.env S 4)))]) (fun g S => []) ?_ ?_ ?_ ?_ ?_
              all_goals try simp -implicitDefEqProofs +decide only [go_sem, Nat.reduceAdd, Int.reduceToNat, hb43, hb47]
              all_goals first | done | trivial | omega | (simp [maps, go_sem, hb43, hb47]; done) | (simp [maps, go_sem, hb43, hb47] <;> omega)
          · refine cond_f (by simp -implicitDefEqProofs +decide only [go_sem, hb43]) ?_
            refine swp_exit ?_
            with_reducible repeat (first | refine nn ?_ | refine nb ?_ | refine nr ?_ | refine nc ?_ | refine ne ?_ | refine nq ?_ | refine nx rfl ?_)
            obtain ⟨h, hs1⟩ := exit_of h hd1
            with_reducible repeat (first | refine nn ?_ | refine nb ?_ | refine nr ?_ | refine nc ?_ | refine ne ?_ | refine nq ?_ | refine nx rfl ?_)
            refine ⟨hs1, ?_⟩
            with_reducible repeat (first | refine nn ?_ | refine nb ?_ | refine nr ?_ | refine nc ?_ | refine ne ?_ | refine nq ?_ | refine nx rfl ?_)
            refine seq_reg rfl (fun K hK => ?_)
            simp -implicitDefEqProofs +decide only [go_sem, Nat.reduceAdd, Int.reduceToNat, hb43]
            refine hK _ ?_
            refine swp_ret ?_
            with_reducible repeat (first | refine nn ?_ | refine nb ?_ | refine nr ?_ | refine nc ?_ | refine ne ?_ | refine nq ?_ | refine nx rfl ?_)
            obtain rfl := some_eq h
            simp -implicitDefEqProofs +decide only [go_sem, Nat.reduceAdd, Int.reduceToNat]
            all_goals first | done | trivial | (simp [maps]; done)
end Go.Sh
end
section
namespace Go.Sh
open Go.Proofs
set_option linter.unusedVariables false
set_option linter.unusedSimpArgs false
set_option maxRecDepth 100000
set_option maxHeartbeats 4000000
noncomputable def bodegaref19_Gen (a0 : api_Page) : Option Int :=
  some (IntKind.i64.wrap (Int.tmod (IntKind.u64.wrap (Int.tdiv a0.Data.a0 256)) 16777216))
theorem bodegaref19_Gen_ok (G : Glob) (hG0 : G.glob 0 = some [(.int .i64 0), (.int .i64 0)]) (a0 : api_Page) (res : Int) (h : bodegaref19_Gen a0 = some res) : Spec Tryd.prog G 42 [.agg [.p (.int .i64 a0.Line), .p (.int .u64 a0.Head), .p (.int .u64 a0.Data.a0), .p (.int .u64 a0.Data.a1), .p (.int .u64 a0.Data.a2), .p (.int .u64 a0.Data.a3), .p (.int .u64 a0.Data.a4), .p (.int .u64 a0.Data.a5), .p (.int .u64 a0.Data.a6)]] (fun r ios => r = .cell (.p (.int .i64 res)) ∧ ios = []) := by
  rw [bodegaref19_Gen] at h
  refine spec_of Tryd.mixed Tryd.func42 rfl rfl (by simp only [List.length]; decide +kernel) ?_
  refine swp_fresh (fun g => stL [(0, (.agg [(.p (.int .i64 a0.Line)), (.p (.int .u64 a0.Head)), (.p (.int .u64 a0.Data.a0)), (.p (.int .u64 a0.Data.a1)), (.p (.int .u64 a0.Data.a2)), (.p (.int .u64 a0.Data.a3)), (.p (.int .u64 a0.Data.a4)), (.p (.int .u64 a0.Data.a5)), (.p (.int .u64 a0.Data.a6))]))] [] (g + 1)) ?_ (fun g => ?_)
  · refine ren_go (fun g S => []) (fun g S => []) ?_ ?_ ?_ ?_ ?_
    all_goals try simp -implicitDefEqProofs +decide only [go_sem, Nat.reduceAdd, Int.reduceToNat]
    all_goals first | done | trivial | omega | (simp [maps, go_sem]; done) | (simp [maps, go_sem] <;> omega)
  refine seq_reg rfl (fun K hK => ?_)
  simp -implicitDefEqProofs +decide only [go_sem, Nat.reduceAdd, Int.reduceToNat]
  refine hK _ ?_
  refine seq_reg rfl (fun K hK => ?_)
  simp -implicitDefEqProofs +decide only [go_sem, Nat.reduceAdd, Int.reduceToNat]
  refine hK _ ?_
  refine swp_ret ?_
  with_reducible repeat (first | refine nn ?_ | refine nb ?_ | refine nr ?_ | refine nc ?_ | refine ne ?_ | refine nq ?_ | refine nx rfl ?_)
  obtain rfl := some_eq h
  simp -implicitDefEqProofs +decide only [go_sem, Nat.reduceAdd, Int.reduceToNat]
  all_goals first | done | trivial | (simp [maps]; done)
end Go.Sh
end
section
namespace Go.Sh
open Go.Proofs
set_option linter.unusedVariables false
set_option linter.unusedSimpArgs false
set_option maxRecDepth 100000
set_option maxHeartbeats 4000000
noncomputable def bodegaref19_Tag (a0 : Int) (a1 : Int) (a2 : Int) : Option Int :=
  some (IntKind.u64.wrap ((IntKind.u64.wrap ((Int.tmod (IntKind.u64.wrap a0) 256) + (IntKind.u64.wrap ((Int.tmod (IntKind.u64.wrap a1) 16777216) * 256)))) + (shlV .u64 (IntKind.u64.wrap a2) 32)))
theorem bodegaref19_Tag_ok (G : Glob) (hG0 : G.glob 0 = some [(.int .i64 0), (.int .i64 0)]) (a0 : Int) (a1 : Int) (a2 : Int) (res : Int) (h : bodegaref19_Tag a0 a1 a2 = some res) : Spec Tryd.prog G 41 [.cell (.p (.int .i64 a0)), .cell (.p (.int .i64 a1)), .cell (.p (.int .u32 a2))] (fun r ios => r = .cell (.p (.int .u64 res)) ∧ ios = []) := by
  rw [bodegaref19_Tag] at h
  refine spec_of Tryd.mixed Tryd.func41 rfl rfl (by simp only [List.length]; decide +kernel) ?_
  refine swp_fresh (fun g => stL [(0, (.c (.p (.int .i64 a0)))), (1, (.c (.p (.int .i64 a1)))), (2, (.c (.p (.int .u32 a2))))] [] (g + 1)) ?_ (fun g => ?_)
  · refine ren_go (fun g S => []) (fun g S => []) ?_ ?_ ?_ ?_ ?_
    all_goals try simp -implicitDefEqProofs +decide only [go_sem, Nat.reduceAdd, Int.reduceToNat]
    all_goals first | done | trivial | omega | (simp [maps, go_sem]; done) | (simp [maps, go_sem] <;> omega)
  refine seq_reg rfl (fun K hK => ?_)
  simp -implicitDefEqProofs +decide only [go_sem, Nat.reduceAdd, Int.reduceToNat]
  refine hK _ ?_
  refine seq_reg rfl (fun K hK => ?_)
  simp -implicitDefEqProofs +decide only [go_sem, Nat.reduceAdd, Int.reduceToNat]
  refine hK _ ?_
  refine swp_ret ?_
  with_reducible repeat (first | refine nn ?_ | refine nb ?_ | refine nr ?_ | refine nc ?_ | refine ne ?_ | refine nq ?_ | refine nx rfl ?_)
  obtain rfl := some_eq h
  simp -implicitDefEqProofs +decide only [go_sem, Nat.reduceAdd, Int.reduceToNat]
  all_goals first | done | trivial | (simp [maps]; done)
end Go.Sh
end
section
namespace Go.Sh
open Go.Proofs
set_option linter.unusedVariables false
set_option linter.unusedSimpArgs false
set_option maxRecDepth 100000
set_option maxHeartbeats 4000000
noncomputable def bodegaref23_WriteSlots_L1 (a1 : (A8 bodegaref19_Pointer)) (a0 : api_Page) : ((A7 Int) × Int) → Option (((A7 Int) × Int) ⊕ (api_Page × Int))
  | (x34, x35) =>
    if (decide (x35 < 8)) = true then
      if 0 ≤ x35 ∧ x35 < 8 then
        (bodegaref23_good (A8.get a1 x35)).bind fun v42 =>
        if (!v42) = true then
          Option.map Sum.inr (
            some ((⟨0, 0, (⟨0, 0, 0, 0, 0, 0, 0⟩ : (A7 Int))⟩ : api_Page), 1))
        else
          if 0 ≤ (IntKind.i64.wrap (1 + (IntKind.i64.wrap (Int.tdiv x35 2)))) ∧ (IntKind.i64.wrap (1 + (IntKind.i64.wrap (Int.tdiv x35 2)))) < 7 then
            if 0 ≤ x35 ∧ x35 < 8 then
              (bodegaref19_Pack (A8.get a1 x35)).bind fun v46 =>
              if 0 ≤ (IntKind.i64.wrap (1 + (IntKind.i64.wrap (Int.tdiv x35 2)))) ∧ (IntKind.i64.wrap (1 + (IntKind.i64.wrap (Int.tdiv x35 2)))) < 7 then
                some (.inl ((A7.set x34 (IntKind.i64.wrap (1 + (IntKind.i64.wrap (Int.tdiv x35 2)))) (IntKind.u64.wrap ((A7.get x34 (IntKind.i64.wrap (1 + (IntKind.i64.wrap (Int.tdiv x35 2))))) + (shlV .u64 (IntKind.u64.wrap v46) (IntKind.u64.wrap (IntKind.i64.wrap (32 * (Int.tmod x35 2)))))))), (IntKind.i64.wrap (x35 + 1))))
              else none
            else none
          else none
      else none
    else
      Option.map Sum.inr (
        some ((⟨a0.Line, a0.Head, x34⟩ : api_Page), 0))
noncomputable def bodegaref23_WriteSlots (a0 : api_Page) (a1 : (A8 bodegaref19_Pointer)) : Option (api_Page × Int) :=
  (bodegaref19_Kind a0).bind fun v3 =>
  if (v3 != 3) = true then
    some ((⟨0, 0, (⟨0, 0, 0, 0, 0, 0, 0⟩ : (A7 Int))⟩ : api_Page), 1)
  else
    (bodegaref19_Gen a0).bind fun v5 =>
    (bodegaref19_Tag 3 v5 0).bind fun v6 =>
    iter (bodegaref23_WriteSlots_L1 a1 a0) ((⟨v6, 0, 0, 0, 0, 0, 0⟩ : (A7 Int)), 0)
theorem bodegaref23_WriteSlots_ok (G : Glob) (hG0 : G.glob 0 = some [(.int .i64 0), (.int .i64 0)]) (a0 : api_Page) (a1 : (A8 bodegaref19_Pointer)) (res : (api_Page × Int)) (h : bodegaref23_WriteSlots a0 a1 = some res) : Spec Tryd.prog G 18 [.agg [.p (.int .i64 a0.Line), .p (.int .u64 a0.Head), .p (.int .u64 a0.Data.a0), .p (.int .u64 a0.Data.a1), .p (.int .u64 a0.Data.a2), .p (.int .u64 a0.Data.a3), .p (.int .u64 a0.Data.a4), .p (.int .u64 a0.Data.a5), .p (.int .u64 a0.Data.a6)], .agg [.p (.int .i64 a1.a0.Line), .p (.int .i64 a1.a0.Gen), .p (.int .i64 a1.a1.Line), .p (.int .i64 a1.a1.Gen), .p (.int .i64 a1.a2.Line), .p (.int .i64 a1.a2.Gen), .p (.int .i64 a1.a3.Line), .p (.int .i64 a1.a3.Gen), .p (.int .i64 a1.a4.Line), .p (.int .i64 a1.a4.Gen), .p (.int .i64 a1.a5.Line), .p (.int .i64 a1.a5.Gen), .p (.int .i64 a1.a6.Line), .p (.int .i64 a1.a6.Gen), .p (.int .i64 a1.a7.Line), .p (.int .i64 a1.a7.Gen)]] (fun r ios => r = .tup [.agg [.p (.int .i64 res.1.Line), .p (.int .u64 res.1.Head), .p (.int .u64 res.1.Data.a0), .p (.int .u64 res.1.Data.a1), .p (.int .u64 res.1.Data.a2), .p (.int .u64 res.1.Data.a3), .p (.int .u64 res.1.Data.a4), .p (.int .u64 res.1.Data.a5), .p (.int .u64 res.1.Data.a6)], .cell (.p (.int .i64 res.2))] ∧ ios = []) := by
  rw [bodegaref23_WriteSlots] at h
  refine spec_of Tryd.mixed Tryd.func18 rfl rfl (by simp only [List.length]; decide +kernel) ?_
  refine swp_fresh (fun g => stL [(0, (.agg [(.p (.int .i64 a0.Line)), (.p (.int .u64 a0.Head)), (.p (.int .u64 a0.Data.a0)), (.p (.int .u64 a0.Data.a1)), (.p (.int .u64 a0.Data.a2)), (.p (.int .u64 a0.Data.a3)), (.p (.int .u64 a0.Data.a4)), (.p (.int .u64 a0.Data.a5)), (.p (.int .u64 a0.Data.a6))])), (1, (.agg [(.p (.int .i64 a1.a0.Line)), (.p (.int .i64 a1.a0.Gen)), (.p (.int .i64 a1.a1.Line)), (.p (.int .i64 a1.a1.Gen)), (.p (.int .i64 a1.a2.Line)), (.p (.int .i64 a1.a2.Gen)), (.p (.int .i64 a1.a3.Line)), (.p (.int .i64 a1.a3.Gen)), (.p (.int .i64 a1.a4.Line)), (.p (.int .i64 a1.a4.Gen)), (.p (.int .i64 a1.a5.Line)), (.p (.int .i64 a1.a5.Gen)), (.p (.int .i64 a1.a6.Line)), (.p (.int .i64 a1.a6.Gen)), (.p (.int .i64 a1.a7.Line)), (.p (.int .i64 a1.a7.Gen))]))] [] (g + 1)) ?_ (fun g => ?_)
  · refine ren_go (fun g S => []) (fun g S => []) ?_ ?_ ?_ ?_ ?_
    all_goals try simp -implicitDefEqProofs +decide only [go_sem, Nat.reduceAdd, Int.reduceToNat]
    all_goals first | done | trivial | omega | (simp [maps, go_sem]; done) | (simp [maps, go_sem] <;> omega)
  refine seq_reg rfl (fun K hK => ?_)
  simp -implicitDefEqProofs +decide only [go_sem, Nat.reduceAdd, Int.reduceToNat]
  refine hK _ ?_
  refine swp_seq ?_
  refine seq_reg rfl (fun K hK => ?_)
  refine bind_of h (fun v3 hv3 h => ?_)
  simp -implicitDefEqProofs +decide only [go_sem, Nat.reduceAdd, Int.reduceToNat]
  refine call_go [0] false (bodegaref19_Kind_ok ⟨G.glob, noCaps⟩ hG0 a0 _ hv3) (by simp -implicitDefEqProofs +decide only [go_sem, Nat.reduceAdd, Int.reduceToNat]; rfl) (by first | rfl | (simp [maps]; done)) ?_
  simp -implicitDefEqProofs +decide only [go_sem, Nat.reduceAdd, Int.reduceToNat]
  refine hK _ ?_
  refine bsplit h (fun hb4 h => ?_) (fun hb4 h => ?_)
  · refine cond_t (by simp -implicitDefEqProofs +decide only [go_sem, hb4]) ?_
    refine seq_reg rfl (fun K hK => ?_)
    simp -implicitDefEqProofs +decide only [go_sem, Nat.reduceAdd, Int.reduceToNat, hb4]
    refine hK _ ?_
    refine swp_ret ?_
    with_reducible repeat (first | refine nn ?_ | refine nb ?_ | refine nr ?_ | refine nc ?_ | refine ne ?_ | refine nq ?_ | refine nx rfl ?_)
    obtain rfl := some_eq h
    simp -implicitDefEqProofs +decide only [go_sem, Nat.reduceAdd, Int.reduceToNat]
    all_goals first | done | trivial | (simp [maps]; done)
  · refine cond_f (by simp -implicitDefEqProofs +decide only [go_sem, hb4]) ?_
    refine swp_skip ?_
    with_reducible repeat (first | refine nn ?_ | refine nb ?_ | refine nr ?_ | refine nc ?_ | refine ne ?_ | refine nq ?_ | refine nx rfl ?_)
    refine seq_reg rfl (fun K hK => ?_)
    simp -implicitDefEqProofs +decide only [go_sem, Nat.reduceAdd, Int.reduceToNat, hb4]
    refine hK _ ?_
    refine seq_reg rfl (fun K hK => ?_)
    refine bind_of h (fun v5 hv5 h => ?_)
    simp -implicitDefEqProofs +decide only [go_sem, Nat.reduceAdd, Int.reduceToNat, hb4]
    refine call_go [0] false (bodegaref19_Gen_ok ⟨G.glob, noCaps⟩ hG0 a0 _ hv5) (by simp -implicitDefEqProofs +decide only [go_sem, Nat.reduceAdd, Int.reduceToNat, hb4]; rfl) (by first | rfl | (simp [maps, hb4]; done)) ?_
    refine bind_of h (fun v6 hv6 h => ?_)
    simp -implicitDefEqProofs +decide only [go_sem, Nat.reduceAdd, Int.reduceToNat, hb4]
    refine call_go [0, 0, 0] false (bodegaref19_Tag_ok ⟨G.glob, noCaps⟩ hG0 3 v5 0 _ hv6) (by simp -implicitDefEqProofs +decide only [go_sem, Nat.reduceAdd, Int.reduceToNat, hb4]; rfl) (by first | rfl | (simp [maps, hb4]; done)) ?_
    simp -implicitDefEqProofs +decide only [go_sem, Nat.reduceAdd, Int.reduceToNat, hb4]
    refine hK _ ?_
    refine swp_seq ?_
    refine seq_reg rfl (fun K hK => ?_)
    simp -implicitDefEqProofs +decide only [go_sem, Nat.reduceAdd, Int.reduceToNat, hb4]
    refine hK _ ?_
    refine swp_block ?_
    refine swp_iter (fun g x => match x with | (x34, x35) => stL [(3, (.c (.ptr ⟨1024000001, g⟩ 0 0))), (4, (.c (.ptr ⟨1024000002, g⟩ 0 0))), (6, (.c (.ptr ⟨1024000003, g⟩ 0 0))), (7, (.c (.p (.int .i64 x35))))] [(⟨1024000001, g⟩, .box true [(.p (.int .i64 a1.a0.Line)), (.p (.int .i64 a1.a0.Gen)), (.p (.int .i64 a1.a1.Line)), (.p (.int .i64 a1.a1.Gen)), (.p (.int .i64 a1.a2.Line)), (.p (.int .i64 a1.a2.Gen)), (.p (.int .i64 a1.a3.Line)), (.p (.int .i64 a1.a3.Gen)), (.p (.int .i64 a1.a4.Line)), (.p (.int .i64 a1.a4.Gen)), (.p (.int .i64 a1.a5.Line)), (.p (.int .i64 a1.a5.Gen)), (.p (.int .i64 a1.a6.Line)), (.p (.int .i64 a1.a6.Gen)), (.p (.int .i64 a1.a7.Line)), (.p (.int .i64 a1.a7.Gen))]), (⟨1024000002, g⟩, .box true [(.p (.int .i64 0)), (.p (.int .u64 0)), (.p (.int .u64 0)), (.p (.int .u64 0)), (.p (.int .u64 0)), (.p (.int .u64 0)), (.p (.int .u64 0)), (.p (.int .u64 0)), (.p (.int .u64 0))]), (⟨1024000003, g⟩, .box true [(.p (.int .i64 a0.Line)), (.p (.int .u64 a0.Head)), (.p (.int .u64 x34.a0)), (.p (.int .u64 x34.a1)), (.p (.int .u64 x34.a2)), (.p (.int .u64 x34.a3)), (.p (.int .u64 x34.a4)), (.p (.int .u64 x34.a5)), (.p (.int .u64 x34.a6))])] (g + 1)) h (enter_of ?_) ?_
    · refine ren_go (fun g S => [(⟨1024000001, g⟩, (keyT 0 (St.env S 3))), (⟨1024000002, g⟩, (keyT 0 (St.env S 4))), (⟨1024000003, g⟩, (keyT 0 (St.env S 6)))]) (fun g S => []) ?_ ?_ ?_ ?_ ?_
      all_goals try simp -implicitDefEqProofs +decide only [go_sem, Nat.reduceAdd, Int.reduceToNat, hb4]
      all_goals first | done | trivial | omega | (simp [maps, go_sem, hb4]; done) | (simp [maps, go_sem, hb4] <;> omega)
    rintro g ⟨x34, x35⟩ s1 h hd1
    rw [bodegaref23_WriteSlots_L1] at h
    try dsimp only
    refine swp_seq ?_
    refine seq_reg rfl (fun K hK => ?_)
    simp -implicitDefEqProofs +decide only [go_sem, Nat.reduceAdd, Int.reduceToNat]
    refine hK _ ?_
    refine bsplit h (fun hb37 h => ?_) (fun hb37 h => ?_)
    · refine cond_t (by simp -implicitDefEqProofs +decide only [go_sem, hb37]) ?_
      refine swp_skip ?_
      with_reducible repeat (first | refine nn ?_ | refine nb ?_ | refine nr ?_ | refine nc ?_ | refine ne ?_ | refine nq ?_ | refine nx rfl ?_)
      refine swp_seq ?_
      refine swp_block ?_
      refine swp_seq ?_
      refine seq_reg rfl (fun K hK => ?_)
      refine psplit h (fun hp41 h => ?_)
      simp -implicitDefEqProofs +decide only [go_sem, Nat.reduceAdd, Int.reduceToNat, hp41, hb37]
      refine opt_ite (by rcases cases8 hp41.1 hp41.2 with hc | hc | hc | hc | hc | hc | hc | hc <;> simp [hc, A8.get]) ?_
      refine opt_v (v' := .agg [(.p (.int .i64 (A8.get a1 x35).Line)), (.p (.int .i64 (A8.get a1 x35).Gen))]) (by rcases cases8 hp41.1 hp41.2 with hc | hc | hc | hc | hc | hc | hc | hc <;> simp [hc, A8.get]) ?_
      refine bind_of h (fun v42 hv42 h => ?_)
      simp -implicitDefEqProofs +decide only [go_sem, Nat.reduceAdd, Int.reduceToNat, hb37]
      refine call_go [0] false (bodegaref23_good_ok ⟨G.glob, noCaps⟩ hG0 (A8.get a1 x35) _ hv42) (by simp -implicitDefEqProofs +decide only [go_sem, Nat.reduceAdd, Int.reduceToNat, hb37]; rfl) (by first | rfl | (simp [maps, hb37]; done)) ?_
      simp -implicitDefEqProofs +decide only [go_sem, Nat.reduceAdd, Int.reduceToNat, hb37]
      refine hK _ ?_
      refine bsplit h (fun hb43 h => ?_) (fun hb43 h => ?_)
      · refine cond_t (by simp -implicitDefEqProofs +decide only [go_sem, hb37, hb43]) ?_
        refine seq_reg rfl (fun K hK => ?_)
        simp -implicitDefEqProofs +decide only [go_sem, Nat.reduceAdd, Int.reduceToNat, hb37, hb43]
        refine hK _ ?_
        refine swp_ret ?_
        with_reducible repeat (first | refine nn ?_ | refine nb ?_ | refine nr ?_ | refine nc ?_ | refine ne ?_ | refine nq ?_ | refine nx rfl ?_)
        obtain ⟨h, hs1⟩ := exit_of h hd1
        refine ⟨hs1, ?_⟩
        with_reducible repeat (first | refine nn ?_ | refine nb ?_ | refine nr ?_ | refine nc ?_ | refine ne ?_ | refine nq ?_ | refine nx rfl ?_)
        obtain rfl := some_eq h
        simp -implicitDefEqProofs +decide only [go_sem, Nat.reduceAdd, Int.reduceToNat]
        all_goals first | done | trivial | (simp [maps]; done)
      · refine cond_f (by simp -implicitDefEqProofs +decide only [go_sem, hb37, hb43]) ?_
        refine swp_skip ?_
        with_reducible repeat (first | refine nn ?_ | refine nb ?_ | refine nr ?_ | refine nc ?_ | refine ne ?_ | refine nq ?_ | refine nx rfl ?_)
        refine swp_drw rfl (fun K hK => ?_)
        refine psplit h (fun hp44 h => ?_)
        simp -implicitDefEqProofs +decide only [go_sem, Nat.reduceAdd, Int.reduceToNat, hp44, hb37, hb43]
        first | refine opt_get (x := (.p (.int .u64 (A7.get x34 (IntKind.i64.wrap (1 + (IntKind.i64.wrap (Int.tdiv x35 2)))))))) (by rcases cases7 hp44.1 hp44.2 with hc | hc | hc | hc | hc | hc | hc <;> simp [hc, A7.get]) ?_ | refine opt_get' (x := (.p (.int .u64 (A7.get x34 (IntKind.i64.wrap (1 + (IntKind.i64.wrap (Int.tdiv x35 2)))))))) (by rcases cases7 hp44.1 hp44.2 with hc | hc | hc | hc | hc | hc | hc <;> simp [hc, A7.get]) ?_
        refine psplit h (fun hp45 h => ?_)
        simp -implicitDefEqProofs +decide only [go_sem, Nat.reduceAdd, Int.reduceToNat, hp45, hb37, hb43]
        refine opt_ite (by rcases cases8 hp45.1 hp45.2 with hc | hc | hc | hc | hc | hc | hc | hc <;> simp [hc, A8.get]) ?_
        refine opt_v (v' := .agg [(.p (.int .i64 (A8.get a1 x35).Line)), (.p (.int .i64 (A8.get a1 x35).Gen))]) (by rcases cases8 hp45.1 hp45.2 with hc | hc | hc | hc | hc | hc | hc | hc <;> simp [hc, A8.get]) ?_
        refine bind_of h (fun v46 hv46 h => ?_)
        simp -implicitDefEqProofs +decide only [go_sem, Nat.reduceAdd, Int.reduceToNat, hb37, hb43]
        refine call_go [0] false (bodegaref19_Pack_ok ⟨G.glob, noCaps⟩ hG0 (A8.get a1 x35) _ hv46) (by simp -implicitDefEqProofs +decide only [go_sem, Nat.reduceAdd, Int.reduceToNat, hb37, hb43]; rfl) (by first | rfl | (simp [maps, hb37, hb43]; done)) ?_
        refine psplit h (fun hp47 h => ?_)
        simp -implicitDefEqProofs +decide only [go_sem, Nat.reduceAdd, Int.reduceToNat, hp47, hb37, hb43]
        refine opt_ite (by rcases cases7 hp47.1 hp47.2 with hc | hc | hc | hc | hc | hc | hc <;> simp [hc]) ?_
        refine opt_wr (l' := [(.p (.int .i64 a0.Line)), (.p (.int .u64 a0.Head)), (.p (.int .u64 (A7.set x34 (IntKind.i64.wrap (1 + (IntKind.i64.wrap (Int.tdiv x35 2)))) (IntKind.u64.wrap ((A7.get x34 (IntKind.i64.wrap (1 + (IntKind.i64.wrap (Int.tdiv x35 2))))) + (shlV .u64 (IntKind.u64.wrap v46) (IntKind.u64.wrap (IntKind.i64.wrap (32 * (Int.tmod x35 2)))))))).a0)), (.p (.int .u64 (A7.set x34 (IntKind.i64.wrap (1 + (IntKind.i64.wrap (Int.tdiv x35 2)))) (IntKind.u64.wrap ((A7.get x34 (IntKind.i64.wrap (1 + (IntKind.i64.wrap (Int.tdiv x35 2))))) + (shlV .u64 (IntKind.u64.wrap v46) (IntKind.u64.wrap (IntKind.i64.wrap (32 * (Int.tmod x35 2)))))))).a1)), (.p (.int .u64 (A7.set x34 (IntKind.i64.wrap (1 + (IntKind.i64.wrap (Int.tdiv x35 2)))) (IntKind.u64.wrap ((A7.get x34 (IntKind.i64.wrap (1 + (IntKind.i64.wrap (Int.tdiv x35 2))))) + (shlV .u64 (IntKind.u64.wrap v46) (IntKind.u64.wrap (IntKind.i64.wrap (32 * (Int.tmod x35 2)))))))).a2)), (.p (.int .u64 (A7.set x34 (IntKind.i64.wrap (1 + (IntKind.i64.wrap (Int.tdiv x35 2)))) (IntKind.u64.wrap ((A7.get x34 (IntKind.i64.wrap (1 + (IntKind.i64.wrap (Int.tdiv x35 2))))) + (shlV .u64 (IntKind.u64.wrap v46) (IntKind.u64.wrap (IntKind.i64.wrap (32 * (Int.tmod x35 2)))))))).a3)), (.p (.int .u64 (A7.set x34 (IntKind.i64.wrap (1 + (IntKind.i64.wrap (Int.tdiv x35 2)))) (IntKind.u64.wrap ((A7.get x34 (IntKind.i64.wrap (1 + (IntKind.i64.wrap (Int.tdiv x35 2))))) + (shlV .u64 (IntKind.u64.wrap v46) (IntKind.u64.wrap (IntKind.i64.wrap (32 * (Int.tmod x35 2)))))))).a4)), (.p (.int .u64 (A7.set x34 (IntKind.i64.wrap (1 + (IntKind.i64.wrap (Int.tdiv x35 2)))) (IntKind.u64.wrap ((A7.get x34 (IntKind.i64.wrap (1 + (IntKind.i64.wrap (Int.tdiv x35 2))))) + (shlV .u64 (IntKind.u64.wrap v46) (IntKind.u64.wrap (IntKind.i64.wrap (32 * (Int.tmod x35 2)))))))).a5)), (.p (.int .u64 (A7.set x34 (IntKind.i64.wrap (1 + (IntKind.i64.wrap (Int.tdiv x35 2)))) (IntKind.u64.wrap ((A7.get x34 (IntKind.i64.wrap (1 + (IntKind.i64.wrap (Int.tdiv x35 2))))) + (shlV .u64 (IntKind.u64.wrap v46) (IntKind.u64.wrap (IntKind.i64.wrap (32 * (Int.tmod x35 2)))))))).a6))]) (by rcases cases7 hp47.1 hp47.2 with hc | hc | hc | hc | hc | hc | hc <;> simp [hc, A7.get, A7.set]) ?_
        simp -implicitDefEqProofs +decide only [go_sem, Nat.reduceAdd, Int.reduceToNat, hb37, hb43]
        refine draw_go (by kernel_rfl) ?_
        refine hK _ ?_
        with_reducible repeat (first | refine nn ?_ | refine nb ?_ | refine nr ?_ | refine nc ?_ | refine ne ?_ | refine nq ?_ | refine nx rfl ?_)
        refine swp_reg rfl (fun K hK => ?_)
        simp -implicitDefEqProofs +decide only [go_sem, Nat.reduceAdd, Int.reduceToNat, hb37, hb43]
        refine hK _ ?_
        with_reducible repeat (first | refine nn ?_ | refine nb ?_ | refine nr ?_ | refine nc ?_ | refine ne ?_ | refine nq ?_ | refine nx rfl ?_)
        refine back_of h ?_
        refine ren_go (fun g S => [(⟨1024000001, g⟩, (keyT 0 (St.env S 3))), (⟨1024000002, g⟩, (keyT 0 (St.env S 4))), (⟨1024000003, g⟩, (keyT 0 (St.env S 6)))]) (fun g S => []) ?_ ?_ ?_ ?_ ?_
        all_goals try simp -implicitDefEqProofs +decide only [go_sem, Nat.reduceAdd, Int.reduceToNat, hb37, hb43]
        all_goals first | done | trivial | omega | (simp [maps, go_sem, hb37, hb43]; done) | (simp [maps, go_sem, hb37, hb43] <;> omega)
    · refine cond_f (by simp -implicitDefEqProofs +decide only [go_sem, hb37]) ?_
      refine swp_exit ?_
      with_reducible repeat (first | refine nn ?_ | refine nb ?_ | refine nr ?_ | refine nc ?_ | refine ne ?_ | refine nq ?_ | refine nx rfl ?_)
      obtain ⟨h, hs1⟩ := exit_of h hd1
      with_reducible repeat (first | refine nn ?_ | refine nb ?_ | refine nr ?_ | refine nc ?_ | refine ne ?_ | refine nq ?_ | refine nx rfl ?_)
      refine ⟨hs1, ?_⟩
      with_reducible repeat (first | refine nn ?_ | refine nb ?_ | refine nr ?_ | refine nc ?_ | refine ne ?_ | refine nq ?_ | refine nx rfl ?_)
      refine seq_reg rfl (fun K hK => ?_)
      simp -implicitDefEqProofs +decide only [go_sem, Nat.reduceAdd, Int.reduceToNat, hb37]
      refine hK _ ?_
      refine swp_ret ?_
      with_reducible repeat (first | refine nn ?_ | refine nb ?_ | refine nr ?_ | refine nc ?_ | refine ne ?_ | refine nq ?_ | refine nx rfl ?_)
      obtain rfl := some_eq h
      simp -implicitDefEqProofs +decide only [go_sem, Nat.reduceAdd, Int.reduceToNat]
      all_goals first | done | trivial | (simp [maps]; done)
end Go.Sh
end
section
namespace Go.Sh
open Go.Proofs
set_option linter.unusedVariables false
set_option linter.unusedSimpArgs false
set_option maxRecDepth 100000
set_option maxHeartbeats 4000000
noncomputable def pointer_PackTag (a0 : pointer_Tag) : Option Int :=
  some (bits .or .u64 (bits .or .u64 (bits .and .u64 (IntKind.u64.wrap a0.Kind) 255) (shlV .u64 (bits .and .u64 (IntKind.u64.wrap a0.Gen) 16777215) 8)) (shlV .u64 (IntKind.u64.wrap a0.Aux) 32))
theorem pointer_PackTag_ok (G : Glob) (hG0 : G.glob 0 = some [(.int .i64 0), (.int .i64 0)]) (a0 : pointer_Tag) (res : Int) (h : pointer_PackTag a0 = some res) : Spec Tryd.prog G 54 [.agg [.p (.int .i64 a0.Kind), .p (.int .i64 a0.Gen), .p (.int .u32 a0.Aux)]] (fun r ios => r = .cell (.p (.int .u64 res)) ∧ ios = []) := by
  rw [pointer_PackTag] at h
  refine spec_of Tryd.mixed Tryd.func54 rfl rfl (by simp only [List.length]; decide +kernel) ?_
  refine swp_fresh (fun g => stL [(0, (.agg [(.p (.int .i64 a0.Kind)), (.p (.int .i64 a0.Gen)), (.p (.int .u32 a0.Aux))]))] [] (g + 1)) ?_ (fun g => ?_)
  · refine ren_go (fun g S => []) (fun g S => []) ?_ ?_ ?_ ?_ ?_
    all_goals try simp -implicitDefEqProofs +decide only [go_sem, Nat.reduceAdd, Int.reduceToNat]
    all_goals first | done | trivial | omega | (simp [maps, go_sem]; done) | (simp [maps, go_sem] <;> omega)
  refine seq_reg rfl (fun K hK => ?_)
  simp -implicitDefEqProofs +decide only [go_sem, Nat.reduceAdd, Int.reduceToNat]
  refine hK _ ?_
  refine seq_reg rfl (fun K hK => ?_)
  simp -implicitDefEqProofs +decide only [go_sem, Nat.reduceAdd, Int.reduceToNat]
  refine hK _ ?_
  refine seq_reg rfl (fun K hK => ?_)
  simp -implicitDefEqProofs +decide only [go_sem, Nat.reduceAdd, Int.reduceToNat]
  refine hK _ ?_
  refine seq_reg rfl (fun K hK => ?_)
  simp -implicitDefEqProofs +decide only [go_sem, Nat.reduceAdd, Int.reduceToNat]
  refine hK _ ?_
  refine swp_ret ?_
  with_reducible repeat (first | refine nn ?_ | refine nb ?_ | refine nr ?_ | refine nc ?_ | refine ne ?_ | refine nq ?_ | refine nx rfl ?_)
  obtain rfl := some_eq h
  simp -implicitDefEqProofs +decide only [go_sem, Nat.reduceAdd, Int.reduceToNat]
  all_goals first | done | trivial | (simp [maps]; done)
end Go.Sh
end
section
namespace Go.Sh
open Go.Proofs
set_option linter.unusedVariables false
set_option linter.unusedSimpArgs false
set_option maxRecDepth 100000
set_option maxHeartbeats 4000000
noncomputable def pointer_UnpackTag (a0 : Int) : Option pointer_Tag :=
  some (⟨(IntKind.i64.wrap (bits .and .u64 a0 255)), (IntKind.i64.wrap (bits .and .u64 (shrV .u64 a0 8) 16777215)), (IntKind.u32.wrap (shrV .u64 a0 32))⟩ : pointer_Tag)
theorem pointer_UnpackTag_ok (G : Glob) (hG0 : G.glob 0 = some [(.int .i64 0), (.int .i64 0)]) (a0 : Int) (res : pointer_Tag) (h : pointer_UnpackTag a0 = some res) : Spec Tryd.prog G 44 [.cell (.p (.int .u64 a0))] (fun r ios => r = .agg [.p (.int .i64 res.Kind), .p (.int .i64 res.Gen), .p (.int .u32 res.Aux)] ∧ ios = []) := by
  rw [pointer_UnpackTag] at h
  refine spec_of Tryd.mixed Tryd.func44 rfl rfl (by simp only [List.length]; decide +kernel) ?_
  refine swp_fresh (fun g => stL [(0, (.c (.p (.int .u64 a0))))] [] (g + 1)) ?_ (fun g => ?_)
  · refine ren_go (fun g S => []) (fun g S => []) ?_ ?_ ?_ ?_ ?_
    all_goals try simp -implicitDefEqProofs +decide only [go_sem, Nat.reduceAdd, Int.reduceToNat]
    all_goals first | done | trivial | omega | (simp [maps, go_sem]; done) | (simp [maps, go_sem] <;> omega)
  refine seq_reg rfl (fun K hK => ?_)
  simp -implicitDefEqProofs +decide only [go_sem, Nat.reduceAdd, Int.reduceToNat]
  refine hK _ ?_
  refine seq_reg rfl (fun K hK => ?_)
  simp -implicitDefEqProofs +decide only [go_sem, Nat.reduceAdd, Int.reduceToNat]
  refine hK _ ?_
  refine swp_ret ?_
  with_reducible repeat (first | refine nn ?_ | refine nb ?_ | refine nr ?_ | refine nc ?_ | refine ne ?_ | refine nq ?_ | refine nx rfl ?_)
  obtain rfl := some_eq h
  simp -implicitDefEqProofs +decide only [go_sem, Nat.reduceAdd, Int.reduceToNat]
  all_goals first | done | trivial | (simp [maps]; done)
end Go.Sh
end
section
namespace Go.Sh
open Go.Proofs
set_option linter.unusedVariables false
set_option linter.unusedSimpArgs false
set_option maxRecDepth 100000
set_option maxHeartbeats 4000000
noncomputable def hashindex_fillSlots_L1 (a1 : (A8 pointer_Pointer)) (a0 : api_Page) : ((A7 Int) × Int) → Option (((A7 Int) × Int) ⊕ api_Page)
  | (x20, x21) =>
    if (decide (x21 < 8)) = true then
      if 0 ≤ x21 ∧ x21 < 8 then
        if 0 ≤ (IntKind.i64.wrap (1 + (IntKind.i64.wrap (Int.tdiv x21 2)))) ∧ (IntKind.i64.wrap (1 + (IntKind.i64.wrap (Int.tdiv x21 2)))) < 7 then
          (pointer_Pack (A8.get a1 x21)).bind fun v26 =>
          if 0 ≤ (IntKind.i64.wrap (1 + (IntKind.i64.wrap (Int.tdiv x21 2)))) ∧ (IntKind.i64.wrap (1 + (IntKind.i64.wrap (Int.tdiv x21 2)))) < 7 then
            some (.inl ((A7.set x20 (IntKind.i64.wrap (1 + (IntKind.i64.wrap (Int.tdiv x21 2)))) (bits .or .u64 (A7.get x20 (IntKind.i64.wrap (1 + (IntKind.i64.wrap (Int.tdiv x21 2))))) (shlV .u64 (IntKind.u64.wrap v26) (IntKind.u64.wrap (IntKind.i64.wrap ((Int.tmod x21 2) * 32)))))), (IntKind.i64.wrap (x21 + 1))))
          else none
        else none
      else none
    else
      Option.map Sum.inr (
        some (⟨a0.Line, a0.Head, x20⟩ : api_Page))
noncomputable def hashindex_fillSlots (a0 : api_Page) (a1 : (A8 pointer_Pointer)) : Option api_Page :=
  (pointer_UnpackTag a0.Data.a0).bind fun v1 =>
  (pointer_PackTag (⟨v1.Kind, v1.Gen, 0⟩ : pointer_Tag)).bind fun v2 =>
  iter (hashindex_fillSlots_L1 a1 a0) ((⟨v2, 0, 0, 0, 0, 0, 0⟩ : (A7 Int)), 0)
theorem hashindex_fillSlots_ok (G : Glob) (hG0 : G.glob 0 = some [(.int .i64 0), (.int .i64 0)]) (a0 : api_Page) (a1 : (A8 pointer_Pointer)) (res : api_Page) (h : hashindex_fillSlots a0 a1 = some res) : Spec Tryd.prog G 35 [.agg [.p (.int .i64 a0.Line), .p (.int .u64 a0.Head), .p (.int .u64 a0.Data.a0), .p (.int .u64 a0.Data.a1), .p (.int .u64 a0.Data.a2), .p (.int .u64 a0.Data.a3), .p (.int .u64 a0.Data.a4), .p (.int .u64 a0.Data.a5), .p (.int .u64 a0.Data.a6)], .agg [.p (.int .i64 a1.a0.Line), .p (.int .i64 a1.a0.Gen), .p (.int .i64 a1.a1.Line), .p (.int .i64 a1.a1.Gen), .p (.int .i64 a1.a2.Line), .p (.int .i64 a1.a2.Gen), .p (.int .i64 a1.a3.Line), .p (.int .i64 a1.a3.Gen), .p (.int .i64 a1.a4.Line), .p (.int .i64 a1.a4.Gen), .p (.int .i64 a1.a5.Line), .p (.int .i64 a1.a5.Gen), .p (.int .i64 a1.a6.Line), .p (.int .i64 a1.a6.Gen), .p (.int .i64 a1.a7.Line), .p (.int .i64 a1.a7.Gen)]] (fun r ios => r = .agg [.p (.int .i64 res.Line), .p (.int .u64 res.Head), .p (.int .u64 res.Data.a0), .p (.int .u64 res.Data.a1), .p (.int .u64 res.Data.a2), .p (.int .u64 res.Data.a3), .p (.int .u64 res.Data.a4), .p (.int .u64 res.Data.a5), .p (.int .u64 res.Data.a6)] ∧ ios = []) := by
  rw [hashindex_fillSlots] at h
  refine spec_of Tryd.mixed Tryd.func35 rfl rfl (by simp only [List.length]; decide +kernel) ?_
  refine swp_fresh (fun g => stL [(0, (.agg [(.p (.int .i64 a0.Line)), (.p (.int .u64 a0.Head)), (.p (.int .u64 a0.Data.a0)), (.p (.int .u64 a0.Data.a1)), (.p (.int .u64 a0.Data.a2)), (.p (.int .u64 a0.Data.a3)), (.p (.int .u64 a0.Data.a4)), (.p (.int .u64 a0.Data.a5)), (.p (.int .u64 a0.Data.a6))])), (1, (.agg [(.p (.int .i64 a1.a0.Line)), (.p (.int .i64 a1.a0.Gen)), (.p (.int .i64 a1.a1.Line)), (.p (.int .i64 a1.a1.Gen)), (.p (.int .i64 a1.a2.Line)), (.p (.int .i64 a1.a2.Gen)), (.p (.int .i64 a1.a3.Line)), (.p (.int .i64 a1.a3.Gen)), (.p (.int .i64 a1.a4.Line)), (.p (.int .i64 a1.a4.Gen)), (.p (.int .i64 a1.a5.Line)), (.p (.int .i64 a1.a5.Gen)), (.p (.int .i64 a1.a6.Line)), (.p (.int .i64 a1.a6.Gen)), (.p (.int .i64 a1.a7.Line)), (.p (.int .i64 a1.a7.Gen))]))] [] (g + 1)) ?_ (fun g => ?_)
  · refine ren_go (fun g S => []) (fun g S => []) ?_ ?_ ?_ ?_ ?_
    all_goals try simp -implicitDefEqProofs +decide only [go_sem, Nat.reduceAdd, Int.reduceToNat]
    all_goals first | done | trivial | omega | (simp [maps, go_sem]; done) | (simp [maps, go_sem] <;> omega)
  refine seq_reg rfl (fun K hK => ?_)
  simp -implicitDefEqProofs +decide only [go_sem, Nat.reduceAdd, Int.reduceToNat]
  refine hK _ ?_
  refine seq_reg rfl (fun K hK => ?_)
  refine bind_of h (fun v1 hv1 h => ?_)
  simp -implicitDefEqProofs +decide only [go_sem, Nat.reduceAdd, Int.reduceToNat]
  refine call_go [0] false (pointer_UnpackTag_ok ⟨G.glob, noCaps⟩ hG0 a0.Data.a0 _ hv1) (by simp -implicitDefEqProofs +decide only [go_sem, Nat.reduceAdd, Int.reduceToNat]; rfl) (by first | rfl | (simp [maps]; done)) ?_
  simp -implicitDefEqProofs +decide only [go_sem, Nat.reduceAdd, Int.reduceToNat]
  refine hK _ ?_
  refine seq_reg rfl (fun K hK => ?_)
  simp -implicitDefEqProofs +decide only [go_sem, Nat.reduceAdd, Int.reduceToNat]
  refine hK _ ?_
  refine seq_reg rfl (fun K hK => ?_)
  refine bind_of h (fun v2 hv2 h => ?_)
  simp -implicitDefEqProofs +decide only [go_sem, Nat.reduceAdd, Int.reduceToNat]
  refine call_go [0] false (pointer_PackTag_ok ⟨G.glob, noCaps⟩ hG0 (⟨v1.Kind, v1.Gen, 0⟩ : pointer_Tag) _ hv2) (by simp -implicitDefEqProofs +decide only [go_sem, Nat.reduceAdd, Int.reduceToNat]; rfl) (by first | rfl | (simp [maps]; done)) ?_
  simp -implicitDefEqProofs +decide only [go_sem, Nat.reduceAdd, Int.reduceToNat]
  refine hK _ ?_
  refine swp_seq ?_
  refine seq_reg rfl (fun K hK => ?_)
  simp -implicitDefEqProofs +decide only [go_sem, Nat.reduceAdd, Int.reduceToNat]
  refine hK _ ?_
  refine swp_block ?_
  refine swp_iter (fun g x => match x with | (x20, x21) => stL [(2, (.c (.ptr ⟨1024000001, g⟩ 0 0))), (4, (.c (.ptr ⟨1024000002, g⟩ 0 0))), (17, (.agg [(.p (.int .i64 a1.a0.Line)), (.p (.int .i64 a1.a0.Gen)), (.p (.int .i64 a1.a1.Line)), (.p (.int .i64 a1.a1.Gen)), (.p (.int .i64 a1.a2.Line)), (.p (.int .i64 a1.a2.Gen)), (.p (.int .i64 a1.a3.Line)), (.p (.int .i64 a1.a3.Gen)), (.p (.int .i64 a1.a4.Line)), (.p (.int .i64 a1.a4.Gen)), (.p (.int .i64 a1.a5.Line)), (.p (.int .i64 a1.a5.Gen)), (.p (.int .i64 a1.a6.Line)), (.p (.int .i64 a1.a6.Gen)), (.p (.int .i64 a1.a7.Line)), (.p (.int .i64 a1.a7.Gen))])), (18, (.c (.p (.int .i64 x21))))] [(⟨1024000001, g⟩, .box true [(.p (.int .i64 a0.Line)), (.p (.int .u64 a0.Head)), (.p (.int .u64 x20.a0)), (.p (.int .u64 x20.a1)), (.p (.int .u64 x20.a2)), (.p (.int .u64 x20.a3)), (.p (.int .u64 x20.a4)), (.p (.int .u64 x20.a5)), (.p (.int .u64 x20.a6))]), (⟨1024000002, g⟩, .box true [(.p (.int .i64 0)), (.p (.int .u64 0)), (.p (.int .u64 0)), (.p (.int .u64 0)), (.p (.int .u64 0)), (.p (.int .u64 0)), (.p (.int .u64 0)), (.p (.int .u64 0)), (.p (.int .u64 0))])] (g + 1)) h (enter_of ?_) ?_
  · refine ren_go (fun g S => [(⟨1024000001, g⟩, (keyT 0 (St.env S 2))), (⟨1024000002, g⟩, (keyT 0 (St.env S 4)))]) (fun g S => []) ?_ ?_ ?_ ?_ ?_
    all_goals try simp -implicitDefEqProofs +decide only [go_sem, Nat.reduceAdd, Int.reduceToNat]
    all_goals first | done | trivial | omega | (simp [maps, go_sem]; done) | (simp [maps, go_sem] <;> omega)
  rintro g ⟨x20, x21⟩ s1 h hd1
  rw [hashindex_fillSlots_L1] at h
  try dsimp only
  refine seq_reg rfl (fun K hK => ?_)
  simp -implicitDefEqProofs +decide only [go_sem, Nat.reduceAdd, Int.reduceToNat]
  refine hK _ ?_
  refine swp_seq ?_
  refine bsplit h (fun hb23 h => ?_) (fun hb23 h => ?_)
  · refine cond_t (by simp -implicitDefEqProofs +decide only [go_sem, hb23]) ?_
    refine swp_skip ?_
    with_reducible repeat (first | refine nn ?_ | refine nb ?_ | refine nr ?_ | refine nc ?_ | refine ne ?_ | refine nq ?_ | refine nx rfl ?_)
    refine swp_seq ?_
    refine swp_block ?_
    refine seq_reg rfl (fun K hK => ?_)
    refine psplit h (fun hp24 h => ?_)
    simp -implicitDefEqProofs +decide only [go_sem, Nat.reduceAdd, Int.reduceToNat, hp24, hb23]
    refine opt_ite (by rcases cases8 hp24.1 hp24.2 with hc | hc | hc | hc | hc | hc | hc | hc <;> simp [hc, A8.get]) ?_
    refine opt_v (v' := .agg [(.p (.int .i64 (A8.get a1 x21).Line)), (.p (.int .i64 (A8.get a1 x21).Gen))]) (by rcases cases8 hp24.1 hp24.2 with hc | hc | hc | hc | hc | hc | hc | hc <;> simp [hc, A8.get]) ?_
    simp -implicitDefEqProofs +decide only [go_sem, Nat.reduceAdd, Int.reduceToNat, hb23]
    refine hK _ ?_
    refine swp_drw rfl (fun K hK => ?_)
    refine psplit h (fun hp25 h => ?_)
    simp -implicitDefEqProofs +decide only [go_sem, Nat.reduceAdd, Int.reduceToNat, hp25, hb23]
    first | refine opt_get (x := (.p (.int .u64 (A7.get x20 (IntKind.i64.wrap (1 + (IntKind.i64.wrap (Int.tdiv x21 2)))))))) (by rcases cases7 hp25.1 hp25.2 with hc | hc | hc | hc | hc | hc | hc <;> simp [hc, A7.get]) ?_ | refine opt_get' (x := (.p (.int .u64 (A7.get x20 (IntKind.i64.wrap (1 + (IntKind.i64.wrap (Int.tdiv x21 2)))))))) (by rcases cases7 hp25.1 hp25.2 with hc | hc | hc | hc | hc | hc | hc <;> simp [hc, A7.get]) ?_
    refine bind_of h (fun v26 hv26 h => ?_)
    simp -implicitDefEqProofs +decide only [go_sem, Nat.reduceAdd, Int.reduceToNat, hb23]
    refine call_go [0] false (pointer_Pack_ok ⟨G.glob, noCaps⟩ hG0 (A8.get a1 x21) _ hv26) (by simp -implicitDefEqProofs +decide only [go_sem, Nat.reduceAdd, Int.reduceToNat, hb23]; rfl) (by first | rfl | (simp [maps, hb23]; done)) ?_
    refine psplit h (fun hp27 h => ?_)
    simp -implicitDefEqProofs +decide only [go_sem, Nat.reduceAdd, Int.reduceToNat, hp27, hb23]
    refine opt_ite (by rcases cases7 hp27.1 hp27.2 with hc | hc | hc | hc | hc | hc | hc <;> simp [hc]) ?_
    refine opt_wr (l' := [(.p (.int .i64 a0.Line)), (.p (.int .u64 a0.Head)), (.p (.int .u64 (A7.set x20 (IntKind.i64.wrap (1 + (IntKind.i64.wrap (Int.tdiv x21 2)))) (bits .or .u64 (A7.get x20 (IntKind.i64.wrap (1 + (IntKind.i64.wrap (Int.tdiv x21 2))))) (shlV .u64 (IntKind.u64.wrap v26) (IntKind.u64.wrap (IntKind.i64.wrap ((Int.tmod x21 2) * 32)))))).a0)), (.p (.int .u64 (A7.set x20 (IntKind.i64.wrap (1 + (IntKind.i64.wrap (Int.tdiv x21 2)))) (bits .or .u64 (A7.get x20 (IntKind.i64.wrap (1 + (IntKind.i64.wrap (Int.tdiv x21 2))))) (shlV .u64 (IntKind.u64.wrap v26) (IntKind.u64.wrap (IntKind.i64.wrap ((Int.tmod x21 2) * 32)))))).a1)), (.p (.int .u64 (A7.set x20 (IntKind.i64.wrap (1 + (IntKind.i64.wrap (Int.tdiv x21 2)))) (bits .or .u64 (A7.get x20 (IntKind.i64.wrap (1 + (IntKind.i64.wrap (Int.tdiv x21 2))))) (shlV .u64 (IntKind.u64.wrap v26) (IntKind.u64.wrap (IntKind.i64.wrap ((Int.tmod x21 2) * 32)))))).a2)), (.p (.int .u64 (A7.set x20 (IntKind.i64.wrap (1 + (IntKind.i64.wrap (Int.tdiv x21 2)))) (bits .or .u64 (A7.get x20 (IntKind.i64.wrap (1 + (IntKind.i64.wrap (Int.tdiv x21 2))))) (shlV .u64 (IntKind.u64.wrap v26) (IntKind.u64.wrap (IntKind.i64.wrap ((Int.tmod x21 2) * 32)))))).a3)), (.p (.int .u64 (A7.set x20 (IntKind.i64.wrap (1 + (IntKind.i64.wrap (Int.tdiv x21 2)))) (bits .or .u64 (A7.get x20 (IntKind.i64.wrap (1 + (IntKind.i64.wrap (Int.tdiv x21 2))))) (shlV .u64 (IntKind.u64.wrap v26) (IntKind.u64.wrap (IntKind.i64.wrap ((Int.tmod x21 2) * 32)))))).a4)), (.p (.int .u64 (A7.set x20 (IntKind.i64.wrap (1 + (IntKind.i64.wrap (Int.tdiv x21 2)))) (bits .or .u64 (A7.get x20 (IntKind.i64.wrap (1 + (IntKind.i64.wrap (Int.tdiv x21 2))))) (shlV .u64 (IntKind.u64.wrap v26) (IntKind.u64.wrap (IntKind.i64.wrap ((Int.tmod x21 2) * 32)))))).a5)), (.p (.int .u64 (A7.set x20 (IntKind.i64.wrap (1 + (IntKind.i64.wrap (Int.tdiv x21 2)))) (bits .or .u64 (A7.get x20 (IntKind.i64.wrap (1 + (IntKind.i64.wrap (Int.tdiv x21 2))))) (shlV .u64 (IntKind.u64.wrap v26) (IntKind.u64.wrap (IntKind.i64.wrap ((Int.tmod x21 2) * 32)))))).a6))]) (by rcases cases7 hp27.1 hp27.2 with hc | hc | hc | hc | hc | hc | hc <;> simp [hc, A7.get, A7.set]) ?_
    simp -implicitDefEqProofs +decide only [go_sem, Nat.reduceAdd, Int.reduceToNat, hb23]
    refine draw_go (by kernel_rfl) ?_
    refine hK _ ?_
    with_reducible repeat (first | refine nn ?_ | refine nb ?_ | refine nr ?_ | refine nc ?_ | refine ne ?_ | refine nq ?_ | refine nx rfl ?_)
    refine swp_reg rfl (fun K hK => ?_)
    simp -implicitDefEqProofs +decide only [go_sem, Nat.reduceAdd, Int.reduceToNat, hb23]
    refine hK _ ?_
    with_reducible repeat (first | refine nn ?_ | refine nb ?_ | refine nr ?_ | refine nc ?_ | refine ne ?_ | refine nq ?_ | refine nx rfl ?_)
    refine back_of h ?_
    refine ren_go (fun g S => [(⟨1024000001, g⟩, (keyT 0 (St.env S 2))), (⟨1024000002, g⟩, (keyT 0 (St.env S 4)))]) (fun g S => []) ?_ ?_ ?_ ?_ ?_
    all_goals try simp -implicitDefEqProofs +decide only [go_sem, Nat.reduceAdd, Int.reduceToNat, hb23]
    all_goals first | done | trivial | omega | (simp [maps, go_sem, hb23]; done) | (simp [maps, go_sem, hb23] <;> omega)
  · refine cond_f (by simp -implicitDefEqProofs +decide only [go_sem, hb23]) ?_
    refine swp_exit ?_
    with_reducible repeat (first | refine nn ?_ | refine nb ?_ | refine nr ?_ | refine nc ?_ | refine ne ?_ | refine nq ?_ | refine nx rfl ?_)
    obtain ⟨h, hs1⟩ := exit_of h hd1
    with_reducible repeat (first | refine nn ?_ | refine nb ?_ | refine nr ?_ | refine nc ?_ | refine ne ?_ | refine nq ?_ | refine nx rfl ?_)
    refine ⟨hs1, ?_⟩
    with_reducible repeat (first | refine nn ?_ | refine nb ?_ | refine nr ?_ | refine nc ?_ | refine ne ?_ | refine nq ?_ | refine nx rfl ?_)
    refine seq_reg rfl (fun K hK => ?_)
    simp -implicitDefEqProofs +decide only [go_sem, Nat.reduceAdd, Int.reduceToNat, hb23]
    refine hK _ ?_
    refine swp_ret ?_
    with_reducible repeat (first | refine nn ?_ | refine nb ?_ | refine nr ?_ | refine nc ?_ | refine ne ?_ | refine nq ?_ | refine nx rfl ?_)
    obtain rfl := some_eq h
    simp -implicitDefEqProofs +decide only [go_sem, Nat.reduceAdd, Int.reduceToNat]
    all_goals first | done | trivial | (simp [maps]; done)
end Go.Sh
end
section
namespace Go.Sh
open Go.Proofs
set_option linter.unusedVariables false
set_option linter.unusedSimpArgs false
set_option maxRecDepth 100000
set_option maxHeartbeats 4000000
noncomputable def hashindex_isKind (a0 : api_Page) (a1 : Int) : Option Bool :=
  (pointer_UnpackTag a0.Data.a0).bind fun v1 =>
  some (v1.Kind == a1)
theorem hashindex_isKind_ok (G : Glob) (hG0 : G.glob 0 = some [(.int .i64 0), (.int .i64 0)]) (a0 : api_Page) (a1 : Int) (res : Bool) (h : hashindex_isKind a0 a1 = some res) : Spec Tryd.prog G 34 [.agg [.p (.int .i64 a0.Line), .p (.int .u64 a0.Head), .p (.int .u64 a0.Data.a0), .p (.int .u64 a0.Data.a1), .p (.int .u64 a0.Data.a2), .p (.int .u64 a0.Data.a3), .p (.int .u64 a0.Data.a4), .p (.int .u64 a0.Data.a5), .p (.int .u64 a0.Data.a6)], .cell (.p (.int .i64 a1))] (fun r ios => r = .cell (.p (.bool res)) ∧ ios = []) := by
  rw [hashindex_isKind] at h
  refine spec_of Tryd.mixed Tryd.func34 rfl rfl (by simp only [List.length]; decide +kernel) ?_
  refine swp_fresh (fun g => stL [(0, (.agg [(.p (.int .i64 a0.Line)), (.p (.int .u64 a0.Head)), (.p (.int .u64 a0.Data.a0)), (.p (.int .u64 a0.Data.a1)), (.p (.int .u64 a0.Data.a2)), (.p (.int .u64 a0.Data.a3)), (.p (.int .u64 a0.Data.a4)), (.p (.int .u64 a0.Data.a5)), (.p (.int .u64 a0.Data.a6))])), (1, (.c (.p (.int .i64 a1))))] [] (g + 1)) ?_ (fun g => ?_)
  · refine ren_go (fun g S => []) (fun g S => []) ?_ ?_ ?_ ?_ ?_
    all_goals try simp -implicitDefEqProofs +decide only [go_sem, Nat.reduceAdd, Int.reduceToNat]
    all_goals first | done | trivial | omega | (simp [maps, go_sem]; done) | (simp [maps, go_sem] <;> omega)
  refine seq_reg rfl (fun K hK => ?_)
  simp -implicitDefEqProofs +decide only [go_sem, Nat.reduceAdd, Int.reduceToNat]
  refine hK _ ?_
  refine seq_reg rfl (fun K hK => ?_)
  refine bind_of h (fun v1 hv1 h => ?_)
  simp -implicitDefEqProofs +decide only [go_sem, Nat.reduceAdd, Int.reduceToNat]
  refine call_go [0] false (pointer_UnpackTag_ok ⟨G.glob, noCaps⟩ hG0 a0.Data.a0 _ hv1) (by simp -implicitDefEqProofs +decide only [go_sem, Nat.reduceAdd, Int.reduceToNat]; rfl) (by first | rfl | (simp [maps]; done)) ?_
  simp -implicitDefEqProofs +decide only [go_sem, Nat.reduceAdd, Int.reduceToNat]
  refine hK _ ?_
  refine swp_ret ?_
  with_reducible repeat (first | refine nn ?_ | refine nb ?_ | refine nr ?_ | refine nc ?_ | refine ne ?_ | refine nq ?_ | refine nx rfl ?_)
  obtain rfl := some_eq h
  simp -implicitDefEqProofs +decide only [go_sem, Nat.reduceAdd, Int.reduceToNat]
  all_goals first | done | trivial | (simp [maps]; done)
end Go.Sh
end
section
namespace Go.Sh
open Go.Proofs
set_option linter.unusedVariables false
set_option linter.unusedSimpArgs false
set_option maxRecDepth 100000
set_option maxHeartbeats 4000000
noncomputable def hashindex_ReadSlots_J1 (a0 : api_Page) : ((A8 pointer_Pointer) × Bool) → Option ((A8 pointer_Pointer) × Int)
  | (x46, b47) =>
    if (!b47) = true then
      some ((⟨(⟨0, 0⟩ : pointer_Pointer), (⟨0, 0⟩ : pointer_Pointer), (⟨0, 0⟩ : pointer_Pointer), (⟨0, 0⟩ : pointer_Pointer), (⟨0, 0⟩ : pointer_Pointer), (⟨0, 0⟩ : pointer_Pointer), (⟨0, 0⟩ : pointer_Pointer), (⟨0, 0⟩ : pointer_Pointer)⟩ : (A8 pointer_Pointer)), 14)
    else
      (hashindex_fillSlots a0 x46).bind fun v49 =>
      if (!((v49.Data.a0 == a0.Data.a0) && ((v49.Data.a1 == a0.Data.a1) && ((v49.Data.a2 == a0.Data.a2) && ((v49.Data.a3 == a0.Data.a3) && ((v49.Data.a4 == a0.Data.a4) && ((v49.Data.a5 == a0.Data.a5) && (v49.Data.a6 == a0.Data.a6)))))))) = true then
        some ((⟨(⟨0, 0⟩ : pointer_Pointer), (⟨0, 0⟩ : pointer_Pointer), (⟨0, 0⟩ : pointer_Pointer), (⟨0, 0⟩ : pointer_Pointer), (⟨0, 0⟩ : pointer_Pointer), (⟨0, 0⟩ : pointer_Pointer), (⟨0, 0⟩ : pointer_Pointer), (⟨0, 0⟩ : pointer_Pointer)⟩ : (A8 pointer_Pointer)), 14)
      else
        some (x46, 0)
noncomputable def hashindex_ReadSlots_L1 (a0 : api_Page) : ((A8 pointer_Pointer) × Bool × Int) → Option (((A8 pointer_Pointer) × Bool × Int) ⊕ ((A8 pointer_Pointer) × Int))
  | (x85, b86, x87) =>
    if (decide (x87 < 8)) = true then
      if 0 ≤ (IntKind.i64.wrap (1 + (IntKind.i64.wrap (Int.tdiv x87 2)))) ∧ (IntKind.i64.wrap (1 + (IntKind.i64.wrap (Int.tdiv x87 2)))) < 7 then
        (hashindex_unpack (IntKind.u32.wrap (shrV .u64 (A7.get a0.Data (IntKind.i64.wrap (1 + (IntKind.i64.wrap (Int.tdiv x87 2))))) (IntKind.u64.wrap (IntKind.i64.wrap ((Int.tmod x87 2) * 32)))))).bind fun v93 =>
        if b86 = true then
          if 0 ≤ x87 ∧ x87 < 8 then
            some (.inl ((A8.set x85 x87 v93.1), v93.2, (IntKind.i64.wrap (x87 + 1))))
          else none
        else
          if 0 ≤ x87 ∧ x87 < 8 then
            some (.inl ((A8.set x85 x87 v93.1), false, (IntKind.i64.wrap (x87 + 1))))
          else none
      else none
    else
      Option.map Sum.inr (
        hashindex_ReadSlots_J1 a0 (x85, b86))
noncomputable def hashindex_ReadSlots (a0 : api_Page) : Option ((A8 pointer_Pointer) × Int) :=
  (hashindex_isKind a0 3).bind fun v1 =>
  iter (hashindex_ReadSlots_L1 a0) ((⟨(⟨0, 0⟩ : pointer_Pointer), (⟨0, 0⟩ : pointer_Pointer), (⟨0, 0⟩ : pointer_Pointer), (⟨0, 0⟩ : pointer_Pointer), (⟨0, 0⟩ : pointer_Pointer), (⟨0, 0⟩ : pointer_Pointer), (⟨0, 0⟩ : pointer_Pointer), (⟨0, 0⟩ : pointer_Pointer)⟩ : (A8 pointer_Pointer)), v1, 0)
theorem hashindex_ReadSlots_ok (G : Glob) (hG0 : G.glob 0 = some [(.int .i64 0), (.int .i64 0)]) (a0 : api_Page) (res : ((A8 pointer_Pointer) × Int)) (h : hashindex_ReadSlots a0 = some res) : Spec Tryd.prog G 15 [.agg [.p (.int .i64 a0.Line), .p (.int .u64 a0.Head), .p (.int .u64 a0.Data.a0), .p (.int .u64 a0.Data.a1), .p (.int .u64 a0.Data.a2), .p (.int .u64 a0.Data.a3), .p (.int .u64 a0.Data.a4), .p (.int .u64 a0.Data.a5), .p (.int .u64 a0.Data.a6)]] (fun r ios => r = .tup [.agg [.p (.int .i64 res.1.a0.Line), .p (.int .i64 res.1.a0.Gen), .p (.int .i64 res.1.a1.Line), .p (.int .i64 res.1.a1.Gen), .p (.int .i64 res.1.a2.Line), .p (.int .i64 res.1.a2.Gen), .p (.int .i64 res.1.a3.Line), .p (.int .i64 res.1.a3.Gen), .p (.int .i64 res.1.a4.Line), .p (.int .i64 res.1.a4.Gen), .p (.int .i64 res.1.a5.Line), .p (.int .i64 res.1.a5.Gen), .p (.int .i64 res.1.a6.Line), .p (.int .i64 res.1.a6.Gen), .p (.int .i64 res.1.a7.Line), .p (.int .i64 res.1.a7.Gen)], .cell (.p (.int .i64 res.2))] ∧ ios = []) := by
  rw [hashindex_ReadSlots] at h
  refine spec_of Tryd.mixed Tryd.func15 rfl rfl (by simp only [List.length]; decide +kernel) ?_
  refine swp_fresh (fun g => stL [(0, (.agg [(.p (.int .i64 a0.Line)), (.p (.int .u64 a0.Head)), (.p (.int .u64 a0.Data.a0)), (.p (.int .u64 a0.Data.a1)), (.p (.int .u64 a0.Data.a2)), (.p (.int .u64 a0.Data.a3)), (.p (.int .u64 a0.Data.a4)), (.p (.int .u64 a0.Data.a5)), (.p (.int .u64 a0.Data.a6))]))] [] (g + 1)) ?_ (fun g => ?_)
  · refine ren_go (fun g S => []) (fun g S => []) ?_ ?_ ?_ ?_ ?_
    all_goals try simp -implicitDefEqProofs +decide only [go_sem, Nat.reduceAdd, Int.reduceToNat]
    all_goals first | done | trivial | omega | (simp [maps, go_sem]; done) | (simp [maps, go_sem] <;> omega)
  refine seq_reg rfl (fun K hK => ?_)
  simp -implicitDefEqProofs +decide only [go_sem, Nat.reduceAdd, Int.reduceToNat]
  refine hK _ ?_
  refine seq_reg rfl (fun K hK => ?_)
  simp -implicitDefEqProofs +decide only [go_sem, Nat.reduceAdd, Int.reduceToNat]
  refine hK _ ?_
  refine seq_reg rfl (fun K hK => ?_)
  refine bind_of h (fun v1 hv1 h => ?_)
  simp -implicitDefEqProofs +decide only [go_sem, Nat.reduceAdd, Int.reduceToNat]
  refine call_go [0, 0] false (hashindex_isKind_ok ⟨G.glob, noCaps⟩ hG0 a0 3 _ hv1) (by simp -implicitDefEqProofs +decide only [go_sem, Nat.reduceAdd, Int.reduceToNat]; rfl) (by first | rfl | (simp [maps]; done)) ?_
  simp -implicitDefEqProofs +decide only [go_sem, Nat.reduceAdd, Int.reduceToNat]
  refine hK _ ?_
  refine cut1 (Joins (hashindex_ReadSlots_J1 a0) (fun g x => match x with | (x46, b47) => stL [(1, (.c (.ptr ⟨1024000001, g⟩ 0 0))), (2, (.c (.ptr ⟨1024000002, g⟩ 0 0))), (4, (.c (.ptr ⟨1024000003, g⟩ 0 0))), (5, (.c (.p (.bool b47))))] [(⟨1024000001, g⟩, .box true [(.p (.int .i64 a0.Line)), (.p (.int .u64 a0.Head)), (.p (.int .u64 a0.Data.a0)), (.p (.int .u64 a0.Data.a1)), (.p (.int .u64 a0.Data.a2)), (.p (.int .u64 a0.Data.a3)), (.p (.int .u64 a0.Data.a4)), (.p (.int .u64 a0.Data.a5)), (.p (.int .u64 a0.Data.a6))]), (⟨1024000002, g⟩, .box true [(.p (.int .i64 0)), (.p (.int .i64 0)), (.p (.int .i64 0)), (.p (.int .i64 0)), (.p (.int .i64 0)), (.p (.int .i64 0)), (.p (.int .i64 0)), (.p (.int .i64 0)), (.p (.int .i64 0)), (.p (.int .i64 0)), (.p (.int .i64 0)), (.p (.int .i64 0)), (.p (.int .i64 0)), (.p (.int .i64 0)), (.p (.int .i64 0)), (.p (.int .i64 0))]), (⟨1024000003, g⟩, .box true [(.p (.int .i64 x46.a0.Line)), (.p (.int .i64 x46.a0.Gen)), (.p (.int .i64 x46.a1.Line)), (.p (.int .i64 x46.a1.Gen)), (.p (.int .i64 x46.a2.Line)), (.p (.int .i64 x46.a2.Gen)), (.p (.int .i64 x46.a3.Line)), (.p (.int .i64 x46.a3.Gen)), (.p (.int .i64 x46.a4.Line)), (.p (.int .i64 x46.a4.Gen)), (.p (.int .i64 x46.a5.Line)), (.p (.int .i64 x46.a5.Gen)), (.p (.int .i64 x46.a6.Line)), (.p (.int .i64 x46.a6.Gen)), (.p (.int .i64 x46.a7.Line)), (.p (.int .i64 x46.a7.Gen))])] (g + 1)) res) ?_ (fun hj1 => ?_)
  · refine join_of ?_
    rintro g ⟨x46, b47⟩ h
    rw [hashindex_ReadSlots_J1] at h
    try dsimp only
    refine swp_seq ?_
    refine seq_drw rfl (fun K hK => ?_)
    refine bsplit h (fun hb48 h => ?_) (fun hb48 h => ?_)
    · simp -implicitDefEqProofs +decide only [go_sem, Nat.reduceAdd, Int.reduceToNat, hb48]
      refine draw_go (by kernel_rfl) ?_
      refine hK _ ?_
      refine cond_t (by simp -implicitDefEqProofs +decide only [go_sem, hb48]) ?_
      refine seq_reg rfl (fun K hK => ?_)
      simp -implicitDefEqProofs +decide only [go_sem, Nat.reduceAdd, Int.reduceToNat, hb48]
      refine hK _ ?_
      refine swp_ret ?_
      with_reducible repeat (first | refine nn ?_ | refine nb ?_ | refine nr ?_ | refine nc ?_ | refine ne ?_ | refine nq ?_ | refine nx rfl ?_)
      obtain rfl := some_eq h
      simp -implicitDefEqProofs +decide only [go_sem, Nat.reduceAdd, Int.reduceToNat]
      all_goals first | done | trivial | (simp [maps]; done)
    · refine bind_of h (fun v49 hv49 h => ?_)
      simp -implicitDefEqProofs +decide only [go_sem, Nat.reduceAdd, Int.reduceToNat, hb48]
      refine call_go [0, 0] false (hashindex_fillSlots_ok ⟨G.glob, noCaps⟩ hG0 a0 x46 _ hv49) (by simp -implicitDefEqProofs +decide only [go_sem, Nat.reduceAdd, Int.reduceToNat, hb48]; rfl) (by first | rfl | (simp [maps, hb48]; done)) ?_
      simp -implicitDefEqProofs +decide only [go_sem, Nat.reduceAdd, Int.reduceToNat, hb48]
      refine draw_go (by kernel_rfl) ?_
      refine hK _ ?_
      refine bsplit h (fun hb50 h => ?_) (fun hb50 h => ?_)
      · refine cond_t (by simp -implicitDefEqProofs +decide only [go_sem, hb48, hb50]) ?_
        refine seq_reg rfl (fun K hK => ?_)
        simp -implicitDefEqProofs +decide only [go_sem, Nat.reduceAdd, Int.reduceToNat, hb48, hb50]
        refine hK _ ?_
        refine swp_ret ?_
        with_reducible repeat (first | refine nn ?_ | refine nb ?_ | refine nr ?_ | refine nc ?_ | refine ne ?_ | refine nq ?_ | refine nx rfl ?_)
        obtain rfl := some_eq h
        simp -implicitDefEqProofs +decide only [go_sem, Nat.reduceAdd, Int.reduceToNat]
        all_goals first | done | trivial | (simp [maps]; done)
      · refine cond_f (by simp -implicitDefEqProofs +decide only [go_sem, hb48, hb50]) ?_
        refine swp_skip ?_
        with_reducible repeat (first | refine nn ?_ | refine nb ?_ | refine nr ?_ | refine nc ?_ | refine ne ?_ | refine nq ?_ | refine nx rfl ?_)
        refine seq_reg rfl (fun K hK => ?_)
        simp -implicitDefEqProofs +decide only [go_sem, Nat.reduceAdd, Int.reduceToNat, hb48, hb50]
        refine hK _ ?_
        refine swp_ret ?_
        with_reducible repeat (first | refine nn ?_ | refine nb ?_ | refine nr ?_ | refine nc ?_ | refine ne ?_ | refine nq ?_ | refine nx rfl ?_)
        obtain rfl := some_eq h
        simp -implicitDefEqProofs +decide only [go_sem, Nat.reduceAdd, Int.reduceToNat]
        all_goals first | done | trivial | (simp [maps]; done)
  refine swp_seq ?_
  refine seq_reg rfl (fun K hK => ?_)
  simp -implicitDefEqProofs +decide only [go_sem, Nat.reduceAdd, Int.reduceToNat]
  refine hK _ ?_
  refine swp_block ?_
  refine swp_iter (fun g x => match x with | (x85, b86, x87) => stL [(1, (.c (.ptr ⟨1024000004, g⟩ 0 0))), (2, (.c (.ptr ⟨1024000005, g⟩ 0 0))), (4, (.c (.ptr ⟨1024000006, g⟩ 0 0))), (5, (.c (.p (.bool b86)))), (11, (.c (.p (.int .i64 x87))))] [(⟨1024000004, g⟩, .box true [(.p (.int .i64 a0.Line)), (.p (.int .u64 a0.Head)), (.p (.int .u64 a0.Data.a0)), (.p (.int .u64 a0.Data.a1)), (.p (.int .u64 a0.Data.a2)), (.p (.int .u64 a0.Data.a3)), (.p (.int .u64 a0.Data.a4)), (.p (.int .u64 a0.Data.a5)), (.p (.int .u64 a0.Data.a6))]), (⟨1024000005, g⟩, .box true [(.p (.int .i64 0)), (.p (.int .i64 0)), (.p (.int .i64 0)), (.p (.int .i64 0)), (.p (.int .i64 0)), (.p (.int .i64 0)), (.p (.int .i64 0)), (.p (.int .i64 0)), (.p (.int .i64 0)), (.p (.int .i64 0)), (.p (.int .i64 0)), (.p (.int .i64 0)), (.p (.int .i64 0)), (.p (.int .i64 0)), (.p (.int .i64 0)), (.p (.int .i64 0))]), (⟨1024000006, g⟩, .box true [(.p (.int .i64 x85.a0.Line)), (.p (.int .i64 x85.a0.Gen)), (.p (.int .i64 x85.a1.Line)), (.p (.int .i64 x85.a1.Gen)), (.p (.int .i64 x85.a2.Line)), (.p (.int .i64 x85.a2.Gen)), (.p (.int .i64 x85.a3.Line)), (.p (.int .i64 x85.a3.Gen)), (.p (.int .i64 x85.a4.Line)), (.p (.int .i64 x85.a4.Gen)), (.p (.int .i64 x85.a5.Line)), (.p (.int .i64 x85.a5.Gen)), (.p (.int .i64 x85.a6.Line)), (.p (.int .i64 x85.a6.Gen)), (.p (.int .i64 x85.a7.Line)), (.p (.int .i64 x85.a7.Gen))])] (g + 1)) h (enter_of ?_) ?_
  · refine ren_go (fun g S => [(⟨1024000004, g⟩, (keyT 0 (St.env S 1))), (⟨1024000005, g⟩, (keyT 0 (St.env S 2))), (⟨1024000006, g⟩, (keyT 0 (St.env S 4)))]) (fun g S => []) ?_ ?_ ?_ ?_ ?_
    all_goals try simp -implicitDefEqProofs +decide only [go_sem, Nat.reduceAdd, Int.reduceToNat]
    all_goals first | done | trivial | omega | (simp [maps, go_sem]; done) | (simp [maps, go_sem] <;> omega)
  rintro g ⟨x85, b86, x87⟩ s1 h hd1
  rw [hashindex_ReadSlots_L1] at h
  try dsimp only
  refine seq_reg rfl (fun K hK => ?_)
  simp -implicitDefEqProofs +decide only [go_sem, Nat.reduceAdd, Int.reduceToNat]
  refine hK _ ?_
  refine swp_seq ?_
  refine bsplit h (fun hb91 h => ?_) (fun hb91 h => ?_)
  · refine cond_t (by simp -implicitDefEqProofs +decide only [go_sem, hb91]) ?_
    refine swp_skip ?_
    with_reducible repeat (first | refine nn ?_ | refine nb ?_ | refine nr ?_ | refine nc ?_ | refine ne ?_ | refine nq ?_ | refine nx rfl ?_)
    refine swp_seq ?_
    refine swp_block ?_
    refine seq_reg rfl (fun K hK => ?_)
    simp -implicitDefEqProofs +decide only [go_sem, Nat.reduceAdd, Int.reduceToNat, hb91]
    refine hK _ ?_
    refine seq_reg rfl (fun K hK => ?_)
    refine psplit h (fun hp92 h => ?_)
    simp -implicitDefEqProofs +decide only [go_sem, Nat.reduceAdd, Int.reduceToNat, hp92, hb91]
    first | refine opt_get (x := (.p (.int .u64 (A7.get a0.Data (IntKind.i64.wrap (1 + (IntKind.i64.wrap (Int.tdiv x87 2)))))))) (by rcases cases7 hp92.1 hp92.2 with hc | hc | hc | hc | hc | hc | hc <;> simp [hc, A7.get]) ?_ | refine opt_get' (x := (.p (.int .u64 (A7.get a0.Data (IntKind.i64.wrap (1 + (IntKind.i64.wrap (Int.tdiv x87 2)))))))) (by rcases cases7 hp92.1 hp92.2 with hc | hc | hc | hc | hc | hc | hc <;> simp [hc, A7.get]) ?_
    refine bind_of h (fun v93 hv93 h => ?_)
    simp -implicitDefEqProofs +decide only [go_sem, Nat.reduceAdd, Int.reduceToNat, hb91]
    refine call_go [0] false (hashindex_unpack_ok ⟨G.glob, noCaps⟩ hG0 (IntKind.u32.wrap (shrV .u64 (A7.get a0.Data (IntKind.i64.wrap (1 + (IntKind.i64.wrap (Int.tdiv x87 2))))) (IntKind.u64.wrap (IntKind.i64.wrap ((Int.tmod x87 2) * 32))))) _ hv93) (by simp -implicitDefEqProofs +decide only [go_sem, Nat.reduceAdd, Int.reduceToNat, hb91]; rfl) (by first | rfl | (simp [maps, hb91]; done)) ?_
    simp -implicitDefEqProofs +decide only [go_sem, Nat.reduceAdd, Int.reduceToNat, hb91]
    refine hK _ ?_
    refine swp_reg rfl (fun K hK => ?_)
    refine bsplit h (fun hb94 h => ?_) (fun hb94 h => ?_)
    · refine psplit h (fun hp95 h => ?_)
      simp -implicitDefEqProofs +decide only [go_sem, Nat.reduceAdd, Int.reduceToNat, hp95, hb91, hb94]
      refine opt_ite (by rcases cases8 hp95.1 hp95.2 with hc | hc | hc | hc | hc | hc | hc | hc <;> simp [hc]) ?_
      refine opt_wr (l' := [(.p (.int .i64 (A8.set x85 x87 v93.1).a0.Line)), (.p (.int .i64 (A8.set x85 x87 v93.1).a0.Gen)), (.p (.int .i64 (A8.set x85 x87 v93.1).a1.Line)), (.p (.int .i64 (A8.set x85 x87 v93.1).a1.Gen)), (.p (.int .i64 (A8.set x85 x87 v93.1).a2.Line)), (.p (.int .i64 (A8.set x85 x87 v93.1).a2.Gen)), (.p (.int .i64 (A8.set x85 x87 v93.1).a3.Line)), (.p (.int .i64 (A8.set x85 x87 v93.1).a3.Gen)), (.p (.int .i64 (A8.set x85 x87 v93.1).a4.Line)), (.p (.int .i64 (A8.set x85 x87 v93.1).a4.Gen)), (.p (.int .i64 (A8.set x85 x87 v93.1).a5.Line)), (.p (.int .i64 (A8.set x85 x87 v93.1).a5.Gen)), (.p (.int .i64 (A8.set x85 x87 v93.1).a6.Line)), (.p (.int .i64 (A8.set x85 x87 v93.1).a6.Gen)), (.p (.int .i64 (A8.set x85 x87 v93.1).a7.Line)), (.p (.int .i64 (A8.set x85 x87 v93.1).a7.Gen))]) (by rcases cases8 hp95.1 hp95.2 with hc | hc | hc | hc | hc | hc | hc | hc <;> simp [hc, A8.get, A8.set]) ?_
      simp -implicitDefEqProofs +decide only [go_sem, Nat.reduceAdd, Int.reduceToNat, hb91, hb94]
      refine hK _ ?_
      with_reducible repeat (first | refine nn ?_ | refine nb ?_ | refine nr ?_ | refine nc ?_ | refine ne ?_ | refine nq ?_ | refine nx rfl ?_)
      refine swp_reg rfl (fun K hK => ?_)
      simp -implicitDefEqProofs +decide only [go_sem, Nat.reduceAdd, Int.reduceToNat, hb91, hb94]
      refine hK _ ?_
      with_reducible repeat (first | refine nn ?_ | refine nb ?_ | refine nr ?_ | refine nc ?_ | refine ne ?_ | refine nq ?_ | refine nx rfl ?_)
      refine back_of h ?_
      refine ren_go (fun g S => [(⟨1024000004, g⟩, (keyT 0 (St.env S 1))), (⟨1024000005, g⟩, (keyT 0 (St.env S 2))), (⟨1024000006, g⟩, (keyT 0 (St.env S 4)))]) (fun g S => []) ?_ ?_ ?_ ?_ ?_
      all_goals try simp -implicitDefEqProofs +decide only [go_sem, Nat.reduceAdd, Int.reduceToNat, hb91, hb94]
      all_goals first | done | trivial | omega | (simp [maps, go_sem, hb91, hb94]; done) | (simp [maps, go_sem, hb91, hb94] <;> omega)
    · refine psplit h (fun hp99 h => ?_)
      simp -implicitDefEqProofs +decide only [go_sem, Nat.reduceAdd, Int.reduceToNat, hp99, hb91, hb94]
      refine opt_ite (by rcases cases8 hp99.1 hp99.2 with hc | hc | hc | hc | hc | hc | hc | hc <;> simp [hc]) ?_
      refine opt_wr (l' := [(.p (.int .i64 (A8.set x85 x87 v93.1).a0.Line)), (.p (.int .i64 (A8.set x85 x87 v93.1).a0.Gen)), (.p (.int .i64 (A8.set x85 x87 v93.1).a1.Line)), (.p (.int .i64 (A8.set x85 x87 v93.1).a1.Gen)), (.p (.int .i64 (A8.set x85 x87 v93.1).a2.Line)), (.p (.int .i64 (A8.set x85 x87 v93.1).a2.Gen)), (.p (.int .i64 (A8.set x85 x87 v93.1).a3.Line)), (.p (.int .i64 (A8.set x85 x87 v93.1).a3.Gen)), (.p (.int .i64 (A8.set x85 x87 v93.1).a4.Line)), (.p (.int .i64 (A8.set x85 x87 v93.1).a4.Gen)), (.p (.int .i64 (A8.set x85 x87 v93.1).a5.Line)), (.p (.int .i64 (A8.set x85 x87 v93.1).a5.Gen)), (.p (.int .i64 (A8.set x85 x87 v93.1).a6.Line)), (.p (.int .i64 (A8.set x85 x87 v93.1).a6.Gen)), (.p (.int .i64 (A8.set x85 x87 v93.1).a7.Line)), (.p (.int .i64 (A8.set x85 x87 v93.1).a7.Gen))]) (by rcases cases8 hp99.1 hp99.2 with hc | hc | hc | hc | hc | hc | hc | hc <;> simp [hc, A8.get, A8.set]) ?_
      simp -implicitDefEqProofs +decide only [go_sem, Nat.reduceAdd, Int.reduceToNat, hb91, hb94]
      refine hK _ ?_
      with_reducible repeat (first | refine nn ?_ | refine nb ?_ | refine nr ?_ | refine nc ?_ | refine ne ?_ | refine nq ?_ | refine nx rfl ?_)
      refine swp_reg rfl (fun K hK => ?_)
      simp -implicitDefEqProofs +decide only [go_sem, Nat.reduceAdd, Int.reduceToNat, hb91, hb94]
      refine hK _ ?_
      with_reducible repeat (first | refine nn ?_ | refine nb ?_ | refine nr ?_ | refine nc ?_ | refine ne ?_ | refine nq ?_ | refine nx rfl ?_)
      refine back_of h ?_
      refine ren_go (fun g S => [(⟨1024000004, g⟩, (keyT 0 (St.env S 1))), (⟨1024000005, g⟩, (keyT 0 (St.env S 2))), (⟨1024000006, g⟩, (keyT 0 (St.env S 4)))]) (fun g S => []) ?_ ?_ ?_ ?_ ?_
      all_goals try simp -implicitDefEqProofs +decide only [go_sem, Nat.reduceAdd, Int.reduceToNat, hb91, hb94]
      all_goals first | done | trivial | omega | (simp [maps, go_sem, hb91, hb94]; done) | (simp [maps, go_sem, hb91, hb94] <;> omega)
  · refine cond_f (by simp -implicitDefEqProofs +decide only [go_sem, hb91]) ?_
    refine swp_exit ?_
    with_reducible repeat (first | refine nn ?_ | refine nb ?_ | refine nr ?_ | refine nc ?_ | refine ne ?_ | refine nq ?_ | refine nx rfl ?_)
    obtain ⟨h, hs1⟩ := exit_of h hd1
    with_reducible repeat (first | refine nn ?_ | refine nb ?_ | refine nr ?_ | refine nc ?_ | refine ne ?_ | refine nq ?_ | refine nx rfl ?_)
    refine ⟨hs1, ?_⟩
    with_reducible repeat (first | refine nn ?_ | refine nb ?_ | refine nr ?_ | refine nc ?_ | refine ne ?_ | refine nq ?_ | refine nx rfl ?_)
    refine jump_of hj1 h ?_
    refine ren_go (fun g S => [(⟨1024000001, g⟩, (keyT 0 (St.env S 1))), (⟨1024000002, g⟩, (keyT 0 (St.env S 2))), (⟨1024000003, g⟩, (keyT 0 (St.env S 4)))]) (fun g S => []) ?_ ?_ ?_ ?_ ?_
    all_goals try simp -implicitDefEqProofs +decide only [go_sem, Nat.reduceAdd, Int.reduceToNat, hb91]
    all_goals first | done | trivial | omega | (simp [maps, go_sem, hb91]; done) | (simp [maps, go_sem, hb91] <;> omega)
end Go.Sh
end
section
namespace Go.Sh
open Go.Proofs
set_option linter.unusedVariables false
set_option linter.unusedSimpArgs false
set_option maxRecDepth 100000
set_option maxHeartbeats 4000000
noncomputable def hashindex_WriteSlots_c1 (a0 : pointer_Pointer) : Option Bool :=
  (hashindex_isField a0).bind fun v1 =>
  some (!v1)
theorem hashindex_WriteSlots_c1_ok (G : Glob) (hG0 : G.glob 0 = some [(.int .i64 0), (.int .i64 0)]) (a0 : pointer_Pointer) (res : Bool) (h : hashindex_WriteSlots_c1 a0 = some res) : Spec Tryd.prog G 39 [.agg [.p (.int .i64 a0.Line), .p (.int .i64 a0.Gen)]] (fun r ios => r = .cell (.p (.bool res)) ∧ ios = []) := by
  rw [hashindex_WriteSlots_c1] at h
  refine spec_of Tryd.mixed Tryd.func39 rfl rfl (by simp only [List.length]; decide +kernel) ?_
  refine swp_fresh (fun g => stL [(0, (.agg [(.p (.int .i64 a0.Line)), (.p (.int .i64 a0.Gen))]))] [] (g + 1)) ?_ (fun g => ?_)
  · refine ren_go (fun g S => []) (fun g S => []) ?_ ?_ ?_ ?_ ?_
    all_goals try simp -implicitDefEqProofs +decide only [go_sem, Nat.reduceAdd, Int.reduceToNat]
    all_goals first | done | trivial | omega | (simp [maps, go_sem]; done) | (simp [maps, go_sem] <;> omega)
  refine seq_reg rfl (fun K hK => ?_)
  simp -implicitDefEqProofs +decide only [go_sem, Nat.reduceAdd, Int.reduceToNat]
  refine hK _ ?_
  refine seq_reg rfl (fun K hK => ?_)
  refine bind_of h (fun v1 hv1 h => ?_)
  simp -implicitDefEqProofs +decide only [go_sem, Nat.reduceAdd, Int.reduceToNat]
  refine call_go [0] false (hashindex_isField_ok ⟨G.glob, noCaps⟩ hG0 a0 _ hv1) (by simp -implicitDefEqProofs +decide only [go_sem, Nat.reduceAdd, Int.reduceToNat]; rfl) (by first | rfl | (simp [maps]; done)) ?_
  simp -implicitDefEqProofs +decide only [go_sem, Nat.reduceAdd, Int.reduceToNat]
  refine hK _ ?_
  refine swp_ret ?_
  with_reducible repeat (first | refine nn ?_ | refine nb ?_ | refine nr ?_ | refine nc ?_ | refine ne ?_ | refine nq ?_ | refine nx rfl ?_)
  obtain rfl := some_eq h
  simp -implicitDefEqProofs +decide only [go_sem, Nat.reduceAdd, Int.reduceToNat]
  all_goals first | done | trivial | (simp [maps]; done)
end Go.Sh
end
section
namespace Go.Sh
open Go.Proofs
set_option linter.unusedVariables false
set_option linter.unusedSimpArgs false
set_option maxRecDepth 100000
set_option maxHeartbeats 4000000
noncomputable def slices_IndexFunc_L1 (a0 : (List pointer_Pointer)) (x14 : Int) : Option (Int ⊕ Int) :=
    if (decide (x14 < (a0.length : Int))) = true then
      (idx a0 x14).bind fun e17 =>
      (hashindex_WriteSlots_c1 e17).bind fun v18 =>
      if v18 = true then
        Option.map Sum.inr (
          some x14)
      else
        some (.inl (IntKind.i64.wrap (x14 + 1)))
    else
      Option.map Sum.inr (
        some (-1))
noncomputable def slices_IndexFunc (a0 : (List pointer_Pointer)) : Option Int :=
  iter (slices_IndexFunc_L1 a0) 0
theorem slices_IndexFunc_ok (G : Glob) (hG0 : G.glob 0 = some [(.int .i64 0), (.int .i64 0)]) (a0 : (List pointer_Pointer)) (res : Int) (h : slices_IndexFunc a0 = some res) : Spec Tryd.prog G 55 [.cell (.p (.rows (a0.map r_pointer_Pointer))), .cell (.p (.clo 39 []))] (fun r ios => r = .cell (.p (.int .i64 res)) ∧ ios = []) := by
  rw [slices_IndexFunc] at h
  refine spec_of Tryd.mixed Tryd.func55 rfl rfl (by simp only [List.length]; decide +kernel) ?_
  refine swp_fresh (fun g => stL [(0, (.c (.p (.rows (a0.map r_pointer_Pointer))))), (1, (.c (.p (.clo 39 []))))] [] (g + 1)) ?_ (fun g => ?_)
  · refine ren_go (fun g S => []) (fun g S => []) ?_ ?_ ?_ ?_ ?_
    all_goals try simp -implicitDefEqProofs +decide only [go_sem, Nat.reduceAdd, Int.reduceToNat]
    all_goals first | done | trivial | omega | (simp [maps, go_sem]; done) | (simp [maps, go_sem] <;> omega)
  refine seq_reg rfl (fun K hK => ?_)
  simp -implicitDefEqProofs +decide only [go_sem, Nat.reduceAdd, Int.reduceToNat]
  refine hK _ ?_
  refine swp_seq ?_
  refine seq_reg rfl (fun K hK => ?_)
  simp -implicitDefEqProofs +decide only [go_sem, Nat.reduceAdd, Int.reduceToNat]
  refine hK _ ?_
  refine swp_block ?_
  refine swp_iter (fun g x14 => stL [(0, (.c (.p (.rows (a0.map r_pointer_Pointer))))), (1, (.c (.p (.clo 39 [])))), (7, (.c (.p (.int .i64 (a0.length : Int))))), (8, (.c (.p (.int .i64 x14))))] [] (g + 1)) h (enter_of ?_) ?_
  · refine ren_go (fun g S => []) (fun g S => []) ?_ ?_ ?_ ?_ ?_
    all_goals try simp -implicitDefEqProofs +decide only [go_sem, Nat.reduceAdd, Int.reduceToNat]
    all_goals first | done | trivial | omega | (simp [maps, go_sem]; done) | (simp [maps, go_sem] <;> omega)
  rintro g x14 s1 h hd1
  rw [slices_IndexFunc_L1] at h
  try dsimp only
  refine seq_reg rfl (fun K hK => ?_)
  simp -implicitDefEqProofs +decide only [go_sem, Nat.reduceAdd, Int.reduceToNat]
  refine hK _ ?_
  refine swp_seq ?_
  refine bsplit h (fun hb16 h => ?_) (fun hb16 h => ?_)
  · refine cond_t (by simp -implicitDefEqProofs +decide only [go_sem, hb16]) ?_
    refine swp_skip ?_
    with_reducible repeat (first | refine nn ?_ | refine nb ?_ | refine nr ?_ | refine nc ?_ | refine ne ?_ | refine nq ?_ | refine nx rfl ?_)
    refine swp_seq ?_
    refine swp_block ?_
    refine seq_reg rfl (fun K hK => ?_)
    simp -implicitDefEqProofs +decide only [go_sem, Nat.reduceAdd, Int.reduceToNat, hb16]
    refine hK _ ?_
    refine seq_reg rfl (fun K hK => ?_)
    refine bind_of h (fun e17 he17 h => ?_)
    obtain ⟨he17_0, he17_1, he17_2⟩ := idx_some he17
    refine bind_of h (fun v18 hv18 h => ?_)
    simp -implicitDefEqProofs +decide only [go_sem, Nat.reduceAdd, Int.reduceToNat, he17_0, he17_1, he17_2, hb16]
    refine call_go [0] false (hashindex_WriteSlots_c1_ok ⟨G.glob, noCaps⟩ hG0 e17 _ hv18) (by simp -implicitDefEqProofs +decide only [go_sem, Nat.reduceAdd, Int.reduceToNat, hb16]; rfl) (by first | rfl | (simp [maps, hb16]; done)) ?_
    simp -implicitDefEqProofs +decide only [go_sem, Nat.reduceAdd, Int.reduceToNat, hb16]
    refine hK _ ?_
    refine bsplit h (fun hb19 h => ?_) (fun hb19 h => ?_)
    · refine cond_t (by simp -implicitDefEqProofs +decide only [go_sem, hb16, hb19]) ?_
      refine seq_reg rfl (fun K hK => ?_)
      simp -implicitDefEqProofs +decide only [go_sem, Nat.reduceAdd, Int.reduceToNat, hb16, hb19]
      refine hK _ ?_
      refine swp_ret ?_
      with_reducible repeat (first | refine nn ?_ | refine nb ?_ | refine nr ?_ | refine nc ?_ | refine ne ?_ | refine nq ?_ | refine nx rfl ?_)
      obtain ⟨h, hs1⟩ := exit_of h hd1
      refine ⟨hs1, ?_⟩
      with_reducible repeat (first | refine nn ?_ | refine nb ?_ | refine nr ?_ | refine nc ?_ | refine ne ?_ | refine nq ?_ | refine nx rfl ?_)
      obtain rfl := some_eq h
      simp -implicitDefEqProofs +decide only [go_sem, Nat.reduceAdd, Int.reduceToNat]
      all_goals first | done | trivial | (simp [maps]; done)
    · refine cond_f (by simp -implicitDefEqProofs +decide only [go_sem, hb16, hb19]) ?_
      refine swp_skip ?_
      with_reducible repeat (first | refine nn ?_ | refine nb ?_ | refine nr ?_ | refine nc ?_ | refine ne ?_ | refine nq ?_ | refine nx rfl ?_)
      refine swp_reg rfl (fun K hK => ?_)
      simp -implicitDefEqProofs +decide only [go_sem, Nat.reduceAdd, Int.reduceToNat, hb16, hb19]
      refine hK _ ?_
      with_reducible repeat (first | refine nn ?_ | refine nb ?_ | refine nr ?_ | refine nc ?_ | refine ne ?_ | refine nq ?_ | refine nx rfl ?_)
      refine back_of h ?_
      refine ren_go (fun g S => []) (fun g S => []) ?_ ?_ ?_ ?_ ?_
      all_goals try simp -implicitDefEqProofs +decide only [go_sem, Nat.reduceAdd, Int.reduceToNat, hb16, hb19]
      all_goals first | done | trivial | omega | (simp [maps, go_sem, hb16, hb19]; done) | (simp [maps, go_sem, hb16, hb19] <;> omega)
  · refine cond_f (by simp -implicitDefEqProofs +decide only [go_sem, hb16]) ?_
    refine swp_exit ?_
    with_reducible repeat (first | refine nn ?_ | refine nb ?_ | refine nr ?_ | refine nc ?_ | refine ne ?_ | refine nq ?_ | refine nx rfl ?_)
    obtain ⟨h, hs1⟩ := exit_of h hd1
    with_reducible repeat (first | refine nn ?_ | refine nb ?_ | refine nr ?_ | refine nc ?_ | refine ne ?_ | refine nq ?_ | refine nx rfl ?_)
    refine ⟨hs1, ?_⟩
    with_reducible repeat (first | refine nn ?_ | refine nb ?_ | refine nr ?_ | refine nc ?_ | refine ne ?_ | refine nq ?_ | refine nx rfl ?_)
    refine seq_reg rfl (fun K hK => ?_)
    simp -implicitDefEqProofs +decide only [go_sem, Nat.reduceAdd, Int.reduceToNat, hb16]
    refine hK _ ?_
    refine swp_ret ?_
    with_reducible repeat (first | refine nn ?_ | refine nb ?_ | refine nr ?_ | refine nc ?_ | refine ne ?_ | refine nq ?_ | refine nx rfl ?_)
    obtain rfl := some_eq h
    simp -implicitDefEqProofs +decide only [go_sem, Nat.reduceAdd, Int.reduceToNat]
    all_goals first | done | trivial | (simp [maps]; done)
end Go.Sh
end
section
namespace Go.Sh
open Go.Proofs
set_option linter.unusedVariables false
set_option linter.unusedSimpArgs false
set_option maxRecDepth 100000
set_option maxHeartbeats 4000000
noncomputable def slices_ContainsFunc (a0 : (List pointer_Pointer)) : Option Bool :=
  (slices_IndexFunc a0).bind fun v1 =>
  some (decide (v1 ≥ 0))
theorem slices_ContainsFunc_ok (G : Glob) (hG0 : G.glob 0 = some [(.int .i64 0), (.int .i64 0)]) (a0 : (List pointer_Pointer)) (res : Bool) (h : slices_ContainsFunc a0 = some res) : Spec Tryd.prog G 38 [.cell (.p (.rows (a0.map r_pointer_Pointer))), .cell (.p (.clo 39 []))] (fun r ios => r = .cell (.p (.bool res)) ∧ ios = []) := by
  rw [slices_ContainsFunc] at h
  refine spec_of Tryd.mixed Tryd.func38 rfl rfl (by simp only [List.length]; decide +kernel) ?_
  refine swp_fresh (fun g => stL [(0, (.c (.p (.rows (a0.map r_pointer_Pointer))))), (1, (.c (.p (.clo 39 []))))] [] (g + 1)) ?_ (fun g => ?_)
  · refine ren_go (fun g S => []) (fun g S => []) ?_ ?_ ?_ ?_ ?_
    all_goals try simp -implicitDefEqProofs +decide only [go_sem, Nat.reduceAdd, Int.reduceToNat]
    all_goals first | done | trivial | omega | (simp [maps, go_sem]; done) | (simp [maps, go_sem] <;> omega)
  refine seq_reg rfl (fun K hK => ?_)
  simp -implicitDefEqProofs +decide only [go_sem, Nat.reduceAdd, Int.reduceToNat]
  refine hK _ ?_
  refine seq_reg rfl (fun K hK => ?_)
  refine bind_of h (fun v1 hv1 h => ?_)
  simp -implicitDefEqProofs +decide only [go_sem, Nat.reduceAdd, Int.reduceToNat]
  refine call_go [0, 0] false (slices_IndexFunc_ok ⟨G.glob, noCaps⟩ hG0 a0 _ hv1) (by simp -implicitDefEqProofs +decide only [go_sem, Nat.reduceAdd, Int.reduceToNat]; rfl) (by first | rfl | (simp [maps]; done)) ?_
  simp -implicitDefEqProofs +decide only [go_sem, Nat.reduceAdd, Int.reduceToNat]
  refine hK _ ?_
  refine swp_ret ?_
  with_reducible repeat (first | refine nn ?_ | refine nb ?_ | refine nr ?_ | refine nc ?_ | refine ne ?_ | refine nq ?_ | refine nx rfl ?_)
  obtain rfl := some_eq h
  simp -implicitDefEqProofs +decide only [go_sem, Nat.reduceAdd, Int.reduceToNat]
  all_goals first | done | trivial | (simp [maps]; done)
end Go.Sh
end
section
namespace Go.Sh
open Go.Proofs
set_option linter.unusedVariables false
set_option linter.unusedSimpArgs false
set_option maxRecDepth 100000
set_option maxHeartbeats 4000000
noncomputable def hashindex_WriteSlots (a0 : api_Page) (a1 : (A8 pointer_Pointer)) : Option (api_Page × Int) :=
  (hashindex_isKind a0 3).bind fun v5 =>
  if (!v5) = true then
    some ((⟨0, 0, (⟨0, 0, 0, 0, 0, 0, 0⟩ : (A7 Int))⟩ : api_Page), 1)
  else
    (slices_ContainsFunc [a1.a0, a1.a1, a1.a2, a1.a3, a1.a4, a1.a5, a1.a6, a1.a7]).bind fun v7 =>
    if v7 = true then
      some ((⟨0, 0, (⟨0, 0, 0, 0, 0, 0, 0⟩ : (A7 Int))⟩ : api_Page), 1)
    else
      (hashindex_fillSlots a0 a1).bind fun v9 =>
      some (v9, 0)
theorem hashindex_WriteSlots_ok (G : Glob) (hG0 : G.glob 0 = some [(.int .i64 0), (.int .i64 0)]) (a0 : api_Page) (a1 : (A8 pointer_Pointer)) (res : (api_Page × Int)) (h : hashindex_WriteSlots a0 a1 = some res) : Spec Tryd.prog G 17 [.agg [.p (.int .i64 a0.Line), .p (.int .u64 a0.Head), .p (.int .u64 a0.Data.a0), .p (.int .u64 a0.Data.a1), .p (.int .u64 a0.Data.a2), .p (.int .u64 a0.Data.a3), .p (.int .u64 a0.Data.a4), .p (.int .u64 a0.Data.a5), .p (.int .u64 a0.Data.a6)], .agg [.p (.int .i64 a1.a0.Line), .p (.int .i64 a1.a0.Gen), .p (.int .i64 a1.a1.Line), .p (.int .i64 a1.a1.Gen), .p (.int .i64 a1.a2.Line), .p (.int .i64 a1.a2.Gen), .p (.int .i64 a1.a3.Line), .p (.int .i64 a1.a3.Gen), .p (.int .i64 a1.a4.Line), .p (.int .i64 a1.a4.Gen), .p (.int .i64 a1.a5.Line), .p (.int .i64 a1.a5.Gen), .p (.int .i64 a1.a6.Line), .p (.int .i64 a1.a6.Gen), .p (.int .i64 a1.a7.Line), .p (.int .i64 a1.a7.Gen)]] (fun r ios => r = .tup [.agg [.p (.int .i64 res.1.Line), .p (.int .u64 res.1.Head), .p (.int .u64 res.1.Data.a0), .p (.int .u64 res.1.Data.a1), .p (.int .u64 res.1.Data.a2), .p (.int .u64 res.1.Data.a3), .p (.int .u64 res.1.Data.a4), .p (.int .u64 res.1.Data.a5), .p (.int .u64 res.1.Data.a6)], .cell (.p (.int .i64 res.2))] ∧ ios = []) := by
  rw [hashindex_WriteSlots] at h
  refine spec_of Tryd.mixed Tryd.func17 rfl rfl (by simp only [List.length]; decide +kernel) ?_
  refine swp_fresh (fun g => stL [(0, (.agg [(.p (.int .i64 a0.Line)), (.p (.int .u64 a0.Head)), (.p (.int .u64 a0.Data.a0)), (.p (.int .u64 a0.Data.a1)), (.p (.int .u64 a0.Data.a2)), (.p (.int .u64 a0.Data.a3)), (.p (.int .u64 a0.Data.a4)), (.p (.int .u64 a0.Data.a5)), (.p (.int .u64 a0.Data.a6))])), (1, (.agg [(.p (.int .i64 a1.a0.Line)), (.p (.int .i64 a1.a0.Gen)), (.p (.int .i64 a1.a1.Line)), (.p (.int .i64 a1.a1.Gen)), (.p (.int .i64 a1.a2.Line)), (.p (.int .i64 a1.a2.Gen)), (.p (.int .i64 a1.a3.Line)), (.p (.int .i64 a1.a3.Gen)), (.p (.int .i64 a1.a4.Line)), (.p (.int .i64 a1.a4.Gen)), (.p (.int .i64 a1.a5.Line)), (.p (.int .i64 a1.a5.Gen)), (.p (.int .i64 a1.a6.Line)), (.p (.int .i64 a1.a6.Gen)), (.p (.int .i64 a1.a7.Line)), (.p (.int .i64 a1.a7.Gen))]))] [] (g + 1)) ?_ (fun g => ?_)
  · refine ren_go (fun g S => []) (fun g S => []) ?_ ?_ ?_ ?_ ?_
    all_goals try simp -implicitDefEqProofs +decide only [go_sem, Nat.reduceAdd, Int.reduceToNat]
    all_goals first | done | trivial | omega | (simp [maps, go_sem]; done) | (simp [maps, go_sem] <;> omega)
  refine seq_reg rfl (fun K hK => ?_)
  simp -implicitDefEqProofs +decide only [go_sem, Nat.reduceAdd, Int.reduceToNat]
  refine hK _ ?_
  refine swp_seq ?_
  refine seq_reg rfl (fun K hK => ?_)
  refine bind_of h (fun v5 hv5 h => ?_)
  simp -implicitDefEqProofs +decide only [go_sem, Nat.reduceAdd, Int.reduceToNat]
  refine call_go [0, 0] false (hashindex_isKind_ok ⟨G.glob, noCaps⟩ hG0 a0 3 _ hv5) (by simp -implicitDefEqProofs +decide only [go_sem, Nat.reduceAdd, Int.reduceToNat]; rfl) (by first | rfl | (simp [maps]; done)) ?_
  refine bsplit h (fun hb6 h => ?_) (fun hb6 h => ?_)
  · simp -implicitDefEqProofs +decide only [go_sem, Nat.reduceAdd, Int.reduceToNat, hb6]
    refine hK _ ?_
    refine cond_t (by simp -implicitDefEqProofs +decide only [go_sem, hb6]) ?_
    refine seq_reg rfl (fun K hK => ?_)
    simp -implicitDefEqProofs +decide only [go_sem, Nat.reduceAdd, Int.reduceToNat, hb6]
    refine hK _ ?_
    refine swp_ret ?_
    with_reducible repeat (first | refine nn ?_ | refine nb ?_ | refine nr ?_ | refine nc ?_ | refine ne ?_ | refine nq ?_ | refine nx rfl ?_)
    obtain rfl := some_eq h
    simp -implicitDefEqProofs +decide only [go_sem, Nat.reduceAdd, Int.reduceToNat]
    all_goals first | done | trivial | (simp [maps]; done)
  · refine bind_of h (fun v7 hv7 h => ?_)
    simp -implicitDefEqProofs +decide only [go_sem, Nat.reduceAdd, Int.reduceToNat, hb6]
    refine call_go [0, 0] false (slices_ContainsFunc_ok ⟨G.glob, noCaps⟩ hG0 [a1.a0, a1.a1, a1.a2, a1.a3, a1.a4, a1.a5, a1.a6, a1.a7] _ hv7) (by simp -implicitDefEqProofs +decide only [go_sem, Nat.reduceAdd, Int.reduceToNat, hb6]; rfl) (by first | rfl | (simp [maps, hb6]; done)) ?_
    simp -implicitDefEqProofs +decide only [go_sem, Nat.reduceAdd, Int.reduceToNat, hb6]
    refine hK _ ?_
    refine bsplit h (fun hb8 h => ?_) (fun hb8 h => ?_)
    · refine cond_t (by simp -implicitDefEqProofs +decide only [go_sem, hb6, hb8]) ?_
      refine seq_reg rfl (fun K hK => ?_)
      simp -implicitDefEqProofs +decide only [go_sem, Nat.reduceAdd, Int.reduceToNat, hb6, hb8]
      refine hK _ ?_
      refine swp_ret ?_
      with_reducible repeat (first | refine nn ?_ | refine nb ?_ | refine nr ?_ | refine nc ?_ | refine ne ?_ | refine nq ?_ | refine nx rfl ?_)
      obtain rfl := some_eq h
      simp -implicitDefEqProofs +decide only [go_sem, Nat.reduceAdd, Int.reduceToNat]
      all_goals first | done | trivial | (simp [maps]; done)
    · refine cond_f (by simp -implicitDefEqProofs +decide only [go_sem, hb6, hb8]) ?_
      refine swp_skip ?_
      with_reducible repeat (first | refine nn ?_ | refine nb ?_ | refine nr ?_ | refine nc ?_ | refine ne ?_ | refine nq ?_ | refine nx rfl ?_)
      refine seq_reg rfl (fun K hK => ?_)
      refine bind_of h (fun v9 hv9 h => ?_)
      simp -implicitDefEqProofs +decide only [go_sem, Nat.reduceAdd, Int.reduceToNat, hb6, hb8]
      refine call_go [0, 0] false (hashindex_fillSlots_ok ⟨G.glob, noCaps⟩ hG0 a0 a1 _ hv9) (by simp -implicitDefEqProofs +decide only [go_sem, Nat.reduceAdd, Int.reduceToNat, hb6, hb8]; rfl) (by first | rfl | (simp [maps, hb6, hb8]; done)) ?_
      simp -implicitDefEqProofs +decide only [go_sem, Nat.reduceAdd, Int.reduceToNat, hb6, hb8]
      refine hK _ ?_
      refine swp_ret ?_
      with_reducible repeat (first | refine nn ?_ | refine nb ?_ | refine nr ?_ | refine nc ?_ | refine ne ?_ | refine nq ?_ | refine nx rfl ?_)
      obtain rfl := some_eq h
      simp -implicitDefEqProofs +decide only [go_sem, Nat.reduceAdd, Int.reduceToNat]
      all_goals first | done | trivial | (simp [maps]; done)
end Go.Sh
end
section
namespace Go.Sh
open Go.Proofs
set_option linter.unusedVariables false
set_option linter.unusedSimpArgs false
set_option maxRecDepth 100000
set_option maxHeartbeats 4000000
noncomputable def bodegalaw23_HashSlots_J1 (a0 : api_Page) (a2 : Int) : (Int × (A8 pointer_Pointer)) → Option Bool
  | (x34, x35) =>
    (hashindex_ReadSlots (⟨a0.Line, a0.Head, (⟨x34, a0.Data.a1, a0.Data.a2, a0.Data.a3, a0.Data.a4, a0.Data.a5, a0.Data.a6⟩ : (A7 Int))⟩ : api_Page)).bind fun v36 =>
    (bodegaref23_ReadSlots (⟨a0.Line, a0.Head, (⟨x34, a0.Data.a1, a0.Data.a2, a0.Data.a3, a0.Data.a4, a0.Data.a5, a0.Data.a6⟩ : (A7 Int))⟩ : api_Page)).bind fun v37 =>
    (hashindex_WriteSlots (⟨a0.Line, a0.Head, (⟨x34, a0.Data.a1, a0.Data.a2, a0.Data.a3, a0.Data.a4, a0.Data.a5, a0.Data.a6⟩ : (A7 Int))⟩ : api_Page) x35).bind fun v38 =>
    (bodegalaw23_slots x35).bind fun v39 =>
    (bodegaref23_WriteSlots (⟨a0.Line, a0.Head, (⟨x34, a0.Data.a1, a0.Data.a2, a0.Data.a3, a0.Data.a4, a0.Data.a5, a0.Data.a6⟩ : (A7 Int))⟩ : api_Page) v39).bind fun v40 =>
    (bodegalaw23_awake).bind fun v49 =>
    if (!v49) = true then
      some false
    else
      (bodegalaw23_slots v36.1).bind fun v51 =>
      if (!((v51.a0.Line == v37.1.a0.Line) && ((v51.a0.Gen == v37.1.a0.Gen) && ((v51.a1.Line == v37.1.a1.Line) && ((v51.a1.Gen == v37.1.a1.Gen) && ((v51.a2.Line == v37.1.a2.Line) && ((v51.a2.Gen == v37.1.a2.Gen) && ((v51.a3.Line == v37.1.a3.Line) && ((v51.a3.Gen == v37.1.a3.Gen) && ((v51.a4.Line == v37.1.a4.Line) && ((v51.a4.Gen == v37.1.a4.Gen) && ((v51.a5.Line == v37.1.a5.Line) && ((v51.a5.Gen == v37.1.a5.Gen) && ((v51.a6.Line == v37.1.a6.Line) && ((v51.a6.Gen == v37.1.a6.Gen) && ((v51.a7.Line == v37.1.a7.Line) && (v51.a7.Gen == v37.1.a7.Gen))))))))))))))))) = true then
        some false
      else
        if (v36.2 != v37.2) = true then
          some false
        else
          (bodegalaw23_same v38.1 v40.1).bind fun v54 =>
          if (!v54) = true then
            some false
          else
            if (v38.2 != v40.2) = true then
              some false
            else
              if (v38.2 != 0) = true then
                some true
              else
                (hashindex_ReadSlots v38.1).bind fun v59 =>
                if (v59.2 != 0) = true then
                  some false
                else
                  if (!((v59.1.a0.Line == x35.a0.Line) && ((v59.1.a0.Gen == x35.a0.Gen) && ((v59.1.a1.Line == x35.a1.Line) && ((v59.1.a1.Gen == x35.a1.Gen) && ((v59.1.a2.Line == x35.a2.Line) && ((v59.1.a2.Gen == x35.a2.Gen) && ((v59.1.a3.Line == x35.a3.Line) && ((v59.1.a3.Gen == x35.a3.Gen) && ((v59.1.a4.Line == x35.a4.Line) && ((v59.1.a4.Gen == x35.a4.Gen) && ((v59.1.a5.Line == x35.a5.Line) && ((v59.1.a5.Gen == x35.a5.Gen) && ((v59.1.a6.Line == x35.a6.Line) && ((v59.1.a6.Gen == x35.a6.Gen) && ((v59.1.a7.Line == x35.a7.Line) && (v59.1.a7.Gen == x35.a7.Gen))))))))))))))))) = true then
                    some false
                  else
                    (bodegahand_Pick (IntKind.i64.wrap (Int.tdiv a2 54)) 7).bind fun v64 =>
                    if 0 ≤ v64 ∧ v64 < 7 then
                      (bodegahand_Pick (IntKind.i64.wrap (Int.tdiv a2 378)) 64).bind fun v66 =>
                      if 0 ≤ v64 ∧ v64 < 7 then
                        (hashindex_ReadSlots (⟨v38.1.Line, v38.1.Head, (A7.set v38.1.Data v64 (bits .xor .u64 (A7.get v38.1.Data v64) (shlV .u64 1 (IntKind.u64.wrap v66))))⟩ : api_Page)).bind fun v68 =>
                        (bodegaref23_ReadSlots (⟨v38.1.Line, v38.1.Head, (A7.set v38.1.Data v64 (bits .xor .u64 (A7.get v38.1.Data v64) (shlV .u64 1 (IntKind.u64.wrap v66))))⟩ : api_Page)).bind fun v69 =>
                        (bodegalaw23_slots v68.1).bind fun v70 =>
                        some (((v70.a0.Line == v69.1.a0.Line) && ((v70.a0.Gen == v69.1.a0.Gen) && ((v70.a1.Line == v69.1.a1.Line) && ((v70.a1.Gen == v69.1.a1.Gen) && ((v70.a2.Line == v69.1.a2.Line) && ((v70.a2.Gen == v69.1.a2.Gen) && ((v70.a3.Line == v69.1.a3.Line) && ((v70.a3.Gen == v69.1.a3.Gen) && ((v70.a4.Line == v69.1.a4.Line) && ((v70.a4.Gen == v69.1.a4.Gen) && ((v70.a5.Line == v69.1.a5.Line) && ((v70.a5.Gen == v69.1.a5.Gen) && ((v70.a6.Line == v69.1.a6.Line) && ((v70.a6.Gen == v69.1.a6.Gen) && ((v70.a7.Line == v69.1.a7.Line) && (v70.a7.Gen == v69.1.a7.Gen)))))))))))))))) && (v68.2 == v69.2))
                      else none
                    else none
noncomputable def bodegalaw23_HashSlots_L1 (a0 : api_Page) (a2 : Int) (v74 : Int) : ((A8 pointer_Pointer) × Int) → Option (((A8 pointer_Pointer) × Int) ⊕ Bool)
  | (x98, x99) =>
    if (decide (x99 < 8)) = true then
      if 0 ≤ x99 ∧ x99 < 8 then
        (bodegalaw23_aim (A8.get x98 x99)).bind fun v105 =>
        if 0 ≤ x99 ∧ x99 < 8 then
          some (.inl ((A8.set x98 x99 v105), (IntKind.i64.wrap (x99 + 1))))
        else none
      else none
    else
      Option.map Sum.inr (
        bodegalaw23_HashSlots_J1 a0 a2 ((IntKind.u64.wrap (3 + (IntKind.u64.wrap ((IntKind.u64.wrap v74) * 256)))), x98))
noncomputable def bodegalaw23_HashSlots (a0 : api_Page) (a1 : (A8 pointer_Pointer)) (a2 : Int) : Option Bool :=
  (bodegahand_Pick a2 6).bind fun v72 =>
  if (decide (v72 > 0)) = true then
    (bodegahand_Pick (IntKind.i64.wrap (Int.tdiv a2 6)) 9).bind fun v74 =>
    iter (bodegalaw23_HashSlots_L1 a0 a2 v74) (a1, 0)
  else
    bodegalaw23_HashSlots_J1 a0 a2 (a0.Data.a0, a1)
theorem bodegalaw23_HashSlots_ok (G : Glob) (hG0 : G.glob 0 = some [(.int .i64 0), (.int .i64 0)]) (a0 : api_Page) (a1 : (A8 pointer_Pointer)) (a2 : Int) (res : Bool) (h : bodegalaw23_HashSlots a0 a1 a2 = some res) : Spec Tryd.prog G 4 [.agg [.p (.int .i64 a0.Line), .p (.int .u64 a0.Head), .p (.int .u64 a0.Data.a0), .p (.int .u64 a0.Data.a1), .p (.int .u64 a0.Data.a2), .p (.int .u64 a0.Data.a3), .p (.int .u64 a0.Data.a4), .p (.int .u64 a0.Data.a5), .p (.int .u64 a0.Data.a6)], .agg [.p (.int .i64 a1.a0.Line), .p (.int .i64 a1.a0.Gen), .p (.int .i64 a1.a1.Line), .p (.int .i64 a1.a1.Gen), .p (.int .i64 a1.a2.Line), .p (.int .i64 a1.a2.Gen), .p (.int .i64 a1.a3.Line), .p (.int .i64 a1.a3.Gen), .p (.int .i64 a1.a4.Line), .p (.int .i64 a1.a4.Gen), .p (.int .i64 a1.a5.Line), .p (.int .i64 a1.a5.Gen), .p (.int .i64 a1.a6.Line), .p (.int .i64 a1.a6.Gen), .p (.int .i64 a1.a7.Line), .p (.int .i64 a1.a7.Gen)], .cell (.p (.int .i64 a2))] (fun r ios => r = .cell (.p (.bool res)) ∧ ios = []) := by
  rw [bodegalaw23_HashSlots] at h
  refine spec_of Tryd.mixed Tryd.func4 rfl rfl (by simp only [List.length]; decide +kernel) ?_
  refine swp_fresh (fun g => stL [(0, (.agg [(.p (.int .i64 a0.Line)), (.p (.int .u64 a0.Head)), (.p (.int .u64 a0.Data.a0)), (.p (.int .u64 a0.Data.a1)), (.p (.int .u64 a0.Data.a2)), (.p (.int .u64 a0.Data.a3)), (.p (.int .u64 a0.Data.a4)), (.p (.int .u64 a0.Data.a5)), (.p (.int .u64 a0.Data.a6))])), (1, (.agg [(.p (.int .i64 a1.a0.Line)), (.p (.int .i64 a1.a0.Gen)), (.p (.int .i64 a1.a1.Line)), (.p (.int .i64 a1.a1.Gen)), (.p (.int .i64 a1.a2.Line)), (.p (.int .i64 a1.a2.Gen)), (.p (.int .i64 a1.a3.Line)), (.p (.int .i64 a1.a3.Gen)), (.p (.int .i64 a1.a4.Line)), (.p (.int .i64 a1.a4.Gen)), (.p (.int .i64 a1.a5.Line)), (.p (.int .i64 a1.a5.Gen)), (.p (.int .i64 a1.a6.Line)), (.p (.int .i64 a1.a6.Gen)), (.p (.int .i64 a1.a7.Line)), (.p (.int .i64 a1.a7.Gen))])), (2, (.c (.p (.int .i64 a2))))] [] (g + 1)) ?_ (fun g => ?_)
  · refine ren_go (fun g S => []) (fun g S => []) ?_ ?_ ?_ ?_ ?_
    all_goals try simp -implicitDefEqProofs +decide only [go_sem, Nat.reduceAdd, Int.reduceToNat]
    all_goals first | done | trivial | omega | (simp [maps, go_sem]; done) | (simp [maps, go_sem] <;> omega)
  refine seq_reg rfl (fun K hK => ?_)
  simp -implicitDefEqProofs +decide only [go_sem, Nat.reduceAdd, Int.reduceToNat]
  refine hK _ ?_
  refine cut1 (Joins (bodegalaw23_HashSlots_J1 a0 a2) (fun g x => match x with | (x34, x35) => stL [(2, (.c (.p (.int .i64 a2)))), (3, (.c (.ptr ⟨1024000001, g⟩ 0 0))), (4, (.c (.ptr ⟨1024000002, g⟩ 0 0)))] [(⟨1024000001, g⟩, .box true [(.p (.int .i64 a0.Line)), (.p (.int .u64 a0.Head)), (.p (.int .u64 x34)), (.p (.int .u64 a0.Data.a1)), (.p (.int .u64 a0.Data.a2)), (.p (.int .u64 a0.Data.a3)), (.p (.int .u64 a0.Data.a4)), (.p (.int .u64 a0.Data.a5)), (.p (.int .u64 a0.Data.a6))]), (⟨1024000002, g⟩, .box true [(.p (.int .i64 x35.a0.Line)), (.p (.int .i64 x35.a0.Gen)), (.p (.int .i64 x35.a1.Line)), (.p (.int .i64 x35.a1.Gen)), (.p (.int .i64 x35.a2.Line)), (.p (.int .i64 x35.a2.Gen)), (.p (.int .i64 x35.a3.Line)), (.p (.int .i64 x35.a3.Gen)), (.p (.int .i64 x35.a4.Line)), (.p (.int .i64 x35.a4.Gen)), (.p (.int .i64 x35.a5.Line)), (.p (.int .i64 x35.a5.Gen)), (.p (.int .i64 x35.a6.Line)), (.p (.int .i64 x35.a6.Gen)), (.p (.int .i64 x35.a7.Line)), (.p (.int .i64 x35.a7.Gen))])] (g + 1)) res) ?_ (fun hj1 => ?_)
  · refine join_of ?_
    rintro g ⟨x34, x35⟩ h
    rw [bodegalaw23_HashSlots_J1] at h
    try dsimp only
    refine seq_reg rfl (fun K hK => ?_)
    refine bind_of h (fun v36 hv36 h => ?_)
    simp -implicitDefEqProofs +decide only [go_sem, Nat.reduceAdd, Int.reduceToNat]
    refine call_go [0] false (hashindex_ReadSlots_ok ⟨G.glob, noCaps⟩ hG0 (⟨a0.Line, a0.Head, (⟨x34, a0.Data.a1, a0.Data.a2, a0.Data.a3, a0.Data.a4, a0.Data.a5, a0.Data.a6⟩ : (A7 Int))⟩ : api_Page) _ hv36) (by simp -implicitDefEqProofs +decide only [go_sem, Nat.reduceAdd, Int.reduceToNat]; rfl) (by first | rfl | (simp [maps]; done)) ?_
    simp -implicitDefEqProofs +decide only [go_sem, Nat.reduceAdd, Int.reduceToNat]
    refine hK _ ?_
    refine seq_reg rfl (fun K hK => ?_)
    refine bind_of h (fun v37 hv37 h => ?_)
    simp -implicitDefEqProofs +decide only [go_sem, Nat.reduceAdd, Int.reduceToNat]
    refine call_go [0] false (bodegaref23_ReadSlots_ok ⟨G.glob, noCaps⟩ hG0 (⟨a0.Line, a0.Head, (⟨x34, a0.Data.a1, a0.Data.a2, a0.Data.a3, a0.Data.a4, a0.Data.a5, a0.Data.a6⟩ : (A7 Int))⟩ : api_Page) _ hv37) (by simp -implicitDefEqProofs +decide only [go_sem, Nat.reduceAdd, Int.reduceToNat]; rfl) (by first | rfl | (simp [maps]; done)) ?_
    simp -implicitDefEqProofs +decide only [go_sem, Nat.reduceAdd, Int.reduceToNat]
    refine hK _ ?_
    refine seq_reg rfl (fun K hK => ?_)
    refine bind_of h (fun v38 hv38 h => ?_)
    simp -implicitDefEqProofs +decide only [go_sem, Nat.reduceAdd, Int.reduceToNat]
    refine call_go [0, 0] false (hashindex_WriteSlots_ok ⟨G.glob, noCaps⟩ hG0 (⟨a0.Line, a0.Head, (⟨x34, a0.Data.a1, a0.Data.a2, a0.Data.a3, a0.Data.a4, a0.Data.a5, a0.Data.a6⟩ : (A7 Int))⟩ : api_Page) x35 _ hv38) (by simp -implicitDefEqProofs +decide only [go_sem, Nat.reduceAdd, Int.reduceToNat]; rfl) (by first | rfl | (simp [maps]; done)) ?_
    simp -implicitDefEqProofs +decide only [go_sem, Nat.reduceAdd, Int.reduceToNat]
    refine hK _ ?_
    refine seq_drw rfl (fun K hK => ?_)
    refine bind_of h (fun v39 hv39 h => ?_)
    simp -implicitDefEqProofs +decide only [go_sem, Nat.reduceAdd, Int.reduceToNat]
    refine call_go [0] false (bodegalaw23_slots_ok ⟨G.glob, noCaps⟩ hG0 x35 _ hv39) (by simp -implicitDefEqProofs +decide only [go_sem, Nat.reduceAdd, Int.reduceToNat]; rfl) (by first | rfl | (simp [maps]; done)) ?_
    refine bind_of h (fun v40 hv40 h => ?_)
    simp -implicitDefEqProofs +decide only [go_sem, Nat.reduceAdd, Int.reduceToNat]
    refine call_go [0, 0] false (bodegaref23_WriteSlots_ok ⟨G.glob, noCaps⟩ hG0 (⟨a0.Line, a0.Head, (⟨x34, a0.Data.a1, a0.Data.a2, a0.Data.a3, a0.Data.a4, a0.Data.a5, a0.Data.a6⟩ : (A7 Int))⟩ : api_Page) v39 _ hv40) (by simp -implicitDefEqProofs +decide only [go_sem, Nat.reduceAdd, Int.reduceToNat]; rfl) (by first | rfl | (simp [maps]; done)) ?_
    simp -implicitDefEqProofs +decide only [go_sem, Nat.reduceAdd, Int.reduceToNat]
    refine draw_go (by kernel_rfl) ?_
    refine hK _ ?_
    refine swp_seq ?_
    refine seq_drw rfl (fun K hK => ?_)
    refine bind_of h (fun v49 hv49 h => ?_)
    simp -implicitDefEqProofs +decide only [go_sem, Nat.reduceAdd, Int.reduceToNat]
    refine call_go [] false (bodegalaw23_awake_ok ⟨G.glob, noCaps⟩ hG0  _ hv49) (by simp -implicitDefEqProofs +decide only [go_sem, Nat.reduceAdd, Int.reduceToNat]; rfl) (by first | rfl | (simp [maps]; done)) ?_
    refine bsplit h (fun hb50 h => ?_) (fun hb50 h => ?_)
    · simp -implicitDefEqProofs +decide only [go_sem, Nat.reduceAdd, Int.reduceToNat, hb50]
      refine draw_go (by kernel_rfl) ?_
      refine hK _ ?_
      refine cond_t (by simp -implicitDefEqProofs +decide only [go_sem, hb50]) ?_
      refine seq_reg rfl (fun K hK => ?_)
      simp -implicitDefEqProofs +decide only [go_sem, Nat.reduceAdd, Int.reduceToNat, hb50]
      refine hK _ ?_
      refine swp_ret ?_
      with_reducible repeat (first | refine nn ?_ | refine nb ?_ | refine nr ?_ | refine nc ?_ | refine ne ?_ | refine nq ?_ | refine nx rfl ?_)
      obtain rfl := some_eq h
      simp -implicitDefEqProofs +decide only [go_sem, Nat.reduceAdd, Int.reduceToNat]
      all_goals first | done | trivial | (simp [maps]; done)
    · refine bind_of h (fun v51 hv51 h => ?_)
      simp -implicitDefEqProofs +decide only [go_sem, Nat.reduceAdd, Int.reduceToNat, hb50]
      refine call_go [0] false (bodegalaw23_slots_ok ⟨G.glob, noCaps⟩ hG0 v36.1 _ hv51) (by simp -implicitDefEqProofs +decide only [go_sem, Nat.reduceAdd, Int.reduceToNat, hb50]; rfl) (by first | rfl | (simp [maps, hb50]; done)) ?_
      refine bsplit h (fun hb52 h => ?_) (fun hb52 h => ?_)
      · simp -implicitDefEqProofs +decide only [go_sem, Nat.reduceAdd, Int.reduceToNat, hb50, hb52]
        refine draw_go (by kernel_rfl) ?_
        refine hK _ ?_
        refine cond_t (by simp -implicitDefEqProofs +decide only [go_sem, hb50, hb52]) ?_
        refine seq_reg rfl (fun K hK => ?_)
        simp -implicitDefEqProofs +decide only [go_sem, Nat.reduceAdd, Int.reduceToNat, hb50, hb52]
        refine hK _ ?_
        refine swp_ret ?_
        with_reducible repeat (first | refine nn ?_ | refine nb ?_ | refine nr ?_ | refine nc ?_ | refine ne ?_ | refine nq ?_ | refine nx rfl ?_)
        obtain rfl := some_eq h
        simp -implicitDefEqProofs +decide only [go_sem, Nat.reduceAdd, Int.reduceToNat]
        all_goals first | done | trivial | (simp [maps]; done)
      · refine bsplit h (fun hb53 h => ?_) (fun hb53 h => ?_)
        · simp -implicitDefEqProofs +decide only [go_sem, Nat.reduceAdd, Int.reduceToNat, hb50, hb52, hb53]
          refine draw_go (by kernel_rfl) ?_
          refine hK _ ?_
          refine cond_t (by simp -implicitDefEqProofs +decide only [go_sem, hb50, hb52, hb53]) ?_
          refine seq_reg rfl (fun K hK => ?_)
          simp -implicitDefEqProofs +decide only [go_sem, Nat.reduceAdd, Int.reduceToNat, hb50, hb52, hb53]
          refine hK _ ?_
          refine swp_ret ?_
          with_reducible repeat (first | refine nn ?_ | refine nb ?_ | refine nr ?_ | refine nc ?_ | refine ne ?_ | refine nq ?_ | refine nx rfl ?_)
          obtain rfl := some_eq h
          simp -implicitDefEqProofs +decide only [go_sem, Nat.reduceAdd, Int.reduceToNat]
          all_goals first | done | trivial | (simp [maps]; done)
        · refine bind_of h (fun v54 hv54 h => ?_)
          simp -implicitDefEqProofs +decide only [go_sem, Nat.reduceAdd, Int.reduceToNat, hb50, hb52, hb53]
          refine call_go [0, 0] false (bodegalaw23_same_ok ⟨G.glob, noCaps⟩ hG0 v38.1 v40.1 _ hv54) (by simp -implicitDefEqProofs +decide only [go_sem, Nat.reduceAdd, Int.reduceToNat, hb50, hb52, hb53]; rfl) (by first | rfl | (simp [maps, hb50, hb52, hb53]; done)) ?_
          refine bsplit h (fun hb55 h => ?_) (fun hb55 h => ?_)
          · simp -implicitDefEqProofs +decide only [go_sem, Nat.reduceAdd, Int.reduceToNat, hb50, hb52, hb53, hb55]
            refine draw_go (by kernel_rfl) ?_
            refine hK _ ?_
            refine cond_t (by simp -implicitDefEqProofs +decide only [go_sem, hb50, hb52, hb53, hb55]) ?_
            refine seq_reg rfl (fun K hK => ?_)
            simp -implicitDefEqProofs +decide only [go_sem, Nat.reduceAdd, Int.reduceToNat, hb50, hb52, hb53, hb55]
            refine hK _ ?_
            refine swp_ret ?_
            with_reducible repeat (first | refine nn ?_ | refine nb ?_ | refine nr ?_ | refine nc ?_ | refine ne ?_ | refine nq ?_ | refine nx rfl ?_)
            obtain rfl := some_eq h
            simp -implicitDefEqProofs +decide only [go_sem, Nat.reduceAdd, Int.reduceToNat]
            all_goals first | done | trivial | (simp [maps]; done)
          · simp -implicitDefEqProofs +decide only [go_sem, Nat.reduceAdd, Int.reduceToNat, hb50, hb52, hb53, hb55]
            refine draw_go (by kernel_rfl) ?_
            refine hK _ ?_
            refine bsplit h (fun hb56 h => ?_) (fun hb56 h => ?_)
            · refine cond_t (by simp -implicitDefEqProofs +decide only [go_sem, hb50, hb52, hb53, hb55, hb56]) ?_
              refine seq_reg rfl (fun K hK => ?_)
              simp -implicitDefEqProofs +decide only [go_sem, Nat.reduceAdd, Int.reduceToNat, hb50, hb52, hb53, hb55, hb56]
              refine hK _ ?_
              refine swp_ret ?_
              with_reducible repeat (first | refine nn ?_ | refine nb ?_ | refine nr ?_ | refine nc ?_ | refine ne ?_ | refine nq ?_ | refine nx rfl ?_)
              obtain rfl := some_eq h
              simp -implicitDefEqProofs +decide only [go_sem, Nat.reduceAdd, Int.reduceToNat]
              all_goals first | done | trivial | (simp [maps]; done)
            · refine cond_f (by simp -implicitDefEqProofs +decide only [go_sem, hb50, hb52, hb53, hb55, hb56]) ?_
              refine swp_skip ?_
              with_reducible repeat (first | refine nn ?_ | refine nb ?_ | refine nr ?_ | refine nc ?_ | refine ne ?_ | refine nq ?_ | refine nx rfl ?_)
              refine swp_seq ?_
              refine seq_reg rfl (fun K hK => ?_)
              simp -implicitDefEqProofs +decide only [go_sem, Nat.reduceAdd, Int.reduceToNat, hb50, hb52, hb53, hb55, hb56]
              refine hK _ ?_
              refine bsplit h (fun hb58 h => ?_) (fun hb58 h => ?_)
              · refine cond_t (by simp -implicitDefEqProofs +decide only [go_sem, hb50, hb52, hb53, hb55, hb56, hb58]) ?_
                refine seq_reg rfl (fun K hK => ?_)
                simp -implicitDefEqProofs +decide only [go_sem, Nat.reduceAdd, Int.reduceToNat, hb50, hb52, hb53, hb55, hb56, hb58]
                refine hK _ ?_
                refine swp_ret ?_
                with_reducible repeat (first | refine nn ?_ | refine nb ?_ | refine nr ?_ | refine nc ?_ | refine ne ?_ | refine nq ?_ | refine nx rfl ?_)
                obtain rfl := some_eq h
                simp -implicitDefEqProofs +decide only [go_sem, Nat.reduceAdd, Int.reduceToNat]
                all_goals first | done | trivial | (simp [maps]; done)
              · refine cond_f (by simp -implicitDefEqProofs +decide only [go_sem, hb50, hb52, hb53, hb55, hb56, hb58]) ?_
                refine swp_skip ?_
                with_reducible repeat (first | refine nn ?_ | refine nb ?_ | refine nr ?_ | refine nc ?_ | refine ne ?_ | refine nq ?_ | refine nx rfl ?_)
                refine seq_reg rfl (fun K hK => ?_)
                refine bind_of h (fun v59 hv59 h => ?_)
                simp -implicitDefEqProofs +decide only [go_sem, Nat.reduceAdd, Int.reduceToNat, hb50, hb52, hb53, hb55, hb56, hb58]
                refine call_go [0] false (hashindex_ReadSlots_ok ⟨G.glob, noCaps⟩ hG0 v38.1 _ hv59) (by simp -implicitDefEqProofs +decide only [go_sem, Nat.reduceAdd, Int.reduceToNat, hb50, hb52, hb53, hb55, hb56, hb58]; rfl) (by first | rfl | (simp [maps, hb50, hb52, hb53, hb55, hb56, hb58]; done)) ?_
                simp -implicitDefEqProofs +decide only [go_sem, Nat.reduceAdd, Int.reduceToNat, hb50, hb52, hb53, hb55, hb56, hb58]
                refine hK _ ?_
                refine swp_seq ?_
                refine seq_reg rfl (fun K hK => ?_)
                refine bsplit h (fun hb62 h => ?_) (fun hb62 h => ?_)
                · simp -implicitDefEqProofs +decide only [go_sem, Nat.reduceAdd, Int.reduceToNat, hb50, hb52, hb53, hb55, hb56, hb58, hb62]
                  refine hK _ ?_
                  refine cond_t (by simp -implicitDefEqProofs +decide only [go_sem, hb50, hb52, hb53, hb55, hb56, hb58, hb62]) ?_
                  refine seq_reg rfl (fun K hK => ?_)
                  simp -implicitDefEqProofs +decide only [go_sem, Nat.reduceAdd, Int.reduceToNat, hb50, hb52, hb53, hb55, hb56, hb58, hb62]
                  refine hK _ ?_
                  refine swp_ret ?_
                  with_reducible repeat (first | refine nn ?_ | refine nb ?_ | refine nr ?_ | refine nc ?_ | refine ne ?_ | refine nq ?_ | refine nx rfl ?_)
                  obtain rfl := some_eq h
                  simp -implicitDefEqProofs +decide only [go_sem, Nat.reduceAdd, Int.reduceToNat]
                  all_goals first | done | trivial | (simp [maps]; done)
                · simp -implicitDefEqProofs +decide only [go_sem, Nat.reduceAdd, Int.reduceToNat, hb50, hb52, hb53, hb55, hb56, hb58, hb62]
                  refine hK _ ?_
                  refine bsplit h (fun hb63 h => ?_) (fun hb63 h => ?_)
                  · refine cond_t (by simp -implicitDefEqProofs +decide only [go_sem, hb50, hb52, hb53, hb55, hb56, hb58, hb62, hb63]) ?_
                    refine seq_reg rfl (fun K hK => ?_)
                    simp -implicitDefEqProofs +decide only [go_sem, Nat.reduceAdd, Int.reduceToNat, hb50, hb52, hb53, hb55, hb56, hb58, hb62, hb63]
                    refine hK _ ?_
                    refine swp_ret ?_
                    with_reducible repeat (first | refine nn ?_ | refine nb ?_ | refine nr ?_ | refine nc ?_ | refine ne ?_ | refine nq ?_ | refine nx rfl ?_)
                    obtain rfl := some_eq h
                    simp -implicitDefEqProofs +decide only [go_sem, Nat.reduceAdd, Int.reduceToNat]
                    all_goals first | done | trivial | (simp [maps]; done)
                  · refine cond_f (by simp -implicitDefEqProofs +decide only [go_sem, hb50, hb52, hb53, hb55, hb56, hb58, hb62, hb63]) ?_
                    refine swp_skip ?_
                    with_reducible repeat (first | refine nn ?_ | refine nb ?_ | refine nr ?_ | refine nc ?_ | refine ne ?_ | refine nq ?_ | refine nx rfl ?_)
                    refine seq_drw rfl (fun K hK => ?_)
                    refine bind_of h (fun v64 hv64 h => ?_)
                    simp -implicitDefEqProofs +decide only [go_sem, Nat.reduceAdd, Int.reduceToNat, hb50, hb52, hb53, hb55, hb56, hb58, hb62, hb63]
                    refine call_go [0, 0] false (bodegahand_Pick_ok ⟨G.glob, noCaps⟩ hG0 (IntKind.i64.wrap (Int.tdiv a2 54)) 7 _ hv64) (by simp -implicitDefEqProofs +decide only [go_sem, Nat.reduceAdd, Int.reduceToNat, hb50, hb52, hb53, hb55, hb56, hb58, hb62, hb63]; rfl) (by first | rfl | (simp [maps, hb50, hb52, hb53, hb55, hb56, hb58, hb62, hb63]; done)) ?_
                    refine psplit h (fun hp65 h => ?_)
                    simp -implicitDefEqProofs +decide only [go_sem, Nat.reduceAdd, Int.reduceToNat, hp65, hb50, hb52, hb53, hb55, hb56, hb58, hb62, hb63]
                    first | refine opt_get (x := (.p (.int .u64 (A7.get v38.1.Data v64)))) (by rcases cases7 hp65.1 hp65.2 with hc | hc | hc | hc | hc | hc | hc <;> simp [hc, A7.get]) ?_ | refine opt_get' (x := (.p (.int .u64 (A7.get v38.1.Data v64)))) (by rcases cases7 hp65.1 hp65.2 with hc | hc | hc | hc | hc | hc | hc <;> simp [hc, A7.get]) ?_
                    refine bind_of h (fun v66 hv66 h => ?_)
                    simp -implicitDefEqProofs +decide only [go_sem, Nat.reduceAdd, Int.reduceToNat, hb50, hb52, hb53, hb55, hb56, hb58, hb62, hb63]
                    refine call_go [0, 0] false (bodegahand_Pick_ok ⟨G.glob, noCaps⟩ hG0 (IntKind.i64.wrap (Int.tdiv a2 378)) 64 _ hv66) (by simp -implicitDefEqProofs +decide only [go_sem, Nat.reduceAdd, Int.reduceToNat, hb50, hb52, hb53, hb55, hb56, hb58, hb62, hb63]; rfl) (by first | rfl | (simp [maps, hb50, hb52, hb53, hb55, hb56, hb58, hb62, hb63]; done)) ?_
                    refine psplit h (fun hp67 h => ?_)
                    simp -implicitDefEqProofs +decide only [go_sem, Nat.reduceAdd, Int.reduceToNat, hp67, hb50, hb52, hb53, hb55, hb56, hb58, hb62, hb63]
                    refine opt_ite (by rcases cases7 hp67.1 hp67.2 with hc | hc | hc | hc | hc | hc | hc <;> simp [hc]) ?_
                    refine opt_wr (l' := [(.p (.int .i64 v38.1.Line)), (.p (.int .u64 v38.1.Head)), (.p (.int .u64 (A7.set v38.1.Data v64 (bits .xor .u64 (A7.get v38.1.Data v64) (shlV .u64 1 (IntKind.u64.wrap v66)))).a0)), (.p (.int .u64 (A7.set v38.1.Data v64 (bits .xor .u64 (A7.get v38.1.Data v64) (shlV .u64 1 (IntKind.u64.wrap v66)))).a1)), (.p (.int .u64 (A7.set v38.1.Data v64 (bits .xor .u64 (A7.get v38.1.Data v64) (shlV .u64 1 (IntKind.u64.wrap v66)))).a2)), (.p (.int .u64 (A7.set v38.1.Data v64 (bits .xor .u64 (A7.get v38.1.Data v64) (shlV .u64 1 (IntKind.u64.wrap v66)))).a3)), (.p (.int .u64 (A7.set v38.1.Data v64 (bits .xor .u64 (A7.get v38.1.Data v64) (shlV .u64 1 (IntKind.u64.wrap v66)))).a4)), (.p (.int .u64 (A7.set v38.1.Data v64 (bits .xor .u64 (A7.get v38.1.Data v64) (shlV .u64 1 (IntKind.u64.wrap v66)))).a5)), (.p (.int .u64 (A7.set v38.1.Data v64 (bits .xor .u64 (A7.get v38.1.Data v64) (shlV .u64 1 (IntKind.u64.wrap v66)))).a6))]) (by rcases cases7 hp67.1 hp67.2 with hc | hc | hc | hc | hc | hc | hc <;> simp [hc, A7.get, A7.set]) ?_
                    simp -implicitDefEqProofs +decide only [go_sem, Nat.reduceAdd, Int.reduceToNat, hb50, hb52, hb53, hb55, hb56, hb58, hb62, hb63]
                    refine draw_go (by kernel_rfl) ?_
                    refine hK _ ?_
                    refine seq_reg rfl (fun K hK => ?_)
                    refine bind_of h (fun v68 hv68 h => ?_)
                    simp -implicitDefEqProofs +decide only [go_sem, Nat.reduceAdd, Int.reduceToNat, hb50, hb52, hb53, hb55, hb56, hb58, hb62, hb63]
                    refine call_go [0] false (hashindex_ReadSlots_ok ⟨G.glob, noCaps⟩ hG0 (⟨v38.1.Line, v38.1.Head, (A7.set v38.1.Data v64 (bits .xor .u64 (A7.get v38.1.Data v64) (shlV .u64 1 (IntKind.u64.wrap v66))))⟩ : api_Page) _ hv68) (by simp -implicitDefEqProofs +decide only [go_sem, Nat.reduceAdd, Int.reduceToNat, hb50, hb52, hb53, hb55, hb56, hb58, hb62, hb63]; rfl) (by first | rfl | (simp [maps, hb50, hb52, hb53, hb55, hb56, hb58, hb62, hb63]; done)) ?_
                    simp -implicitDefEqProofs +decide only [go_sem, Nat.reduceAdd, Int.reduceToNat, hb50, hb52, hb53, hb55, hb56, hb58, hb62, hb63]
                    refine hK _ ?_
                    refine seq_reg rfl (fun K hK => ?_)
                    refine bind_of h (fun v69 hv69 h => ?_)
                    simp -implicitDefEqProofs +decide only [go_sem, Nat.reduceAdd, Int.reduceToNat, hb50, hb52, hb53, hb55, hb56, hb58, hb62, hb63]
                    refine call_go [0] false (bodegaref23_ReadSlots_ok ⟨G.glob, noCaps⟩ hG0 (⟨v38.1.Line, v38.1.Head, (A7.set v38.1.Data v64 (bits .xor .u64 (A7.get v38.1.Data v64) (shlV .u64 1 (IntKind.u64.wrap v66))))⟩ : api_Page) _ hv69) (by simp -implicitDefEqProofs +decide only [go_sem, Nat.reduceAdd, Int.reduceToNat, hb50, hb52, hb53, hb55, hb56, hb58, hb62, hb63]; rfl) (by first | rfl | (simp [maps, hb50, hb52, hb53, hb55, hb56, hb58, hb62, hb63]; done)) ?_
                    simp -implicitDefEqProofs +decide only [go_sem, Nat.reduceAdd, Int.reduceToNat, hb50, hb52, hb53, hb55, hb56, hb58, hb62, hb63]
                    refine hK _ ?_
                    refine seq_drw rfl (fun K hK => ?_)
                    refine bind_of h (fun v70 hv70 h => ?_)
                    simp -implicitDefEqProofs +decide only [go_sem, Nat.reduceAdd, Int.reduceToNat, hb50, hb52, hb53, hb55, hb56, hb58, hb62, hb63]
                    refine call_go [0] false (bodegalaw23_slots_ok ⟨G.glob, noCaps⟩ hG0 v68.1 _ hv70) (by simp -implicitDefEqProofs +decide only [go_sem, Nat.reduceAdd, Int.reduceToNat, hb50, hb52, hb53, hb55, hb56, hb58, hb62, hb63]; rfl) (by first | rfl | (simp [maps, hb50, hb52, hb53, hb55, hb56, hb58, hb62, hb63]; done)) ?_
                    rcases hb71 : ((v70.a0.Line == v69.1.a0.Line) && ((v70.a0.Gen == v69.1.a0.Gen) && ((v70.a1.Line == v69.1.a1.Line) && ((v70.a1.Gen == v69.1.a1.Gen) && ((v70.a2.Line == v69.1.a2.Line) && ((v70.a2.Gen == v69.1.a2.Gen) && ((v70.a3.Line == v69.1.a3.Line) && ((v70.a3.Gen == v69.1.a3.Gen) && ((v70.a4.Line == v69.1.a4.Line) && ((v70.a4.Gen == v69.1.a4.Gen) && ((v70.a5.Line == v69.1.a5.Line) && ((v70.a5.Gen == v69.1.a5.Gen) && ((v70.a6.Line == v69.1.a6.Line) && ((v70.a6.Gen == v69.1.a6.Gen) && ((v70.a7.Line == v69.1.a7.Line) && (v70.a7.Gen == v69.1.a7.Gen)))))))))))))))) with _ | _
                    · replace h : some false = some res := by first | exact h | (rw [and_f hb71] at h; exact h)
                      simp -implicitDefEqProofs +decide only [go_sem, Nat.reduceAdd, Int.reduceToNat, hb50, hb52, hb53, hb55, hb56, hb58, hb62, hb63, hb71]
                      refine draw_go (by kernel_rfl) ?_
                      refine hK _ ?_
                      refine swp_ret ?_
                      with_reducible repeat (first | refine nn ?_ | refine nb ?_ | refine nr ?_ | refine nc ?_ | refine ne ?_ | refine nq ?_ | refine nx rfl ?_)
                      obtain rfl := some_eq h
                      simp -implicitDefEqProofs +decide only [go_sem, Nat.reduceAdd, Int.reduceToNat]
                      all_goals first | done | trivial | (simp [maps]; done)
                    · replace h : some (v68.2 == v69.2) = some res := by first | exact h | (rw [and_t hb71] at h; exact h)
                      simp -implicitDefEqProofs +decide only [go_sem, Nat.reduceAdd, Int.reduceToNat, hb50, hb52, hb53, hb55, hb56, hb58, hb62, hb63, hb71]
                      refine draw_go (by kernel_rfl) ?_
                      refine hK _ ?_
                      refine swp_ret ?_
                      with_reducible repeat (first | refine nn ?_ | refine nb ?_ | refine nr ?_ | refine nc ?_ | refine ne ?_ | refine nq ?_ | refine nx rfl ?_)
                      obtain rfl := some_eq h
                      simp -implicitDefEqProofs +decide only [go_sem, Nat.reduceAdd, Int.reduceToNat]
                      all_goals first | done | trivial | (simp [maps]; done)
  refine swp_seq ?_
  refine seq_reg rfl (fun K hK => ?_)
  refine bind_of h (fun v72 hv72 h => ?_)
  simp -implicitDefEqProofs +decide only [go_sem, Nat.reduceAdd, Int.reduceToNat]
  refine call_go [0, 0] false (bodegahand_Pick_ok ⟨G.glob, noCaps⟩ hG0 a2 6 _ hv72) (by simp -implicitDefEqProofs +decide only [go_sem, Nat.reduceAdd, Int.reduceToNat]; rfl) (by first | rfl | (simp [maps]; done)) ?_
  simp -implicitDefEqProofs +decide only [go_sem, Nat.reduceAdd, Int.reduceToNat]
  refine hK _ ?_
  refine bsplit h (fun hb73 h => ?_) (fun hb73 h => ?_)
  · refine cond_t (by simp -implicitDefEqProofs +decide only [go_sem, hb73]) ?_
    refine seq_reg rfl (fun K hK => ?_)
    refine bind_of h (fun v74 hv74 h => ?_)
    simp -implicitDefEqProofs +decide only [go_sem, Nat.reduceAdd, Int.reduceToNat, hb73]
    refine call_go [0, 0] false (bodegahand_Pick_ok ⟨G.glob, noCaps⟩ hG0 (IntKind.i64.wrap (Int.tdiv a2 6)) 9 _ hv74) (by simp -implicitDefEqProofs +decide only [go_sem, Nat.reduceAdd, Int.reduceToNat, hb73]; rfl) (by first | rfl | (simp [maps, hb73]; done)) ?_
    simp -implicitDefEqProofs +decide only [go_sem, Nat.reduceAdd, Int.reduceToNat, hb73]
    refine hK _ ?_
    refine seq_reg rfl (fun K hK => ?_)
    simp -implicitDefEqProofs +decide only [go_sem, Nat.reduceAdd, Int.reduceToNat, hb73]
    refine hK _ ?_
    refine swp_block ?_
    refine swp_iter (fun g x => match x with | (x98, x99) => stL [(2, (.c (.p (.int .i64 a2)))), (3, (.c (.ptr ⟨1024000003, g⟩ 0 0))), (4, (.c (.ptr ⟨1024000004, g⟩ 0 0))), (7, (.c (.p (.int .i64 x99))))] [(⟨1024000003, g⟩, .box true [(.p (.int .i64 a0.Line)), (.p (.int .u64 a0.Head)), (.p (.int .u64 (IntKind.u64.wrap (3 + (IntKind.u64.wrap ((IntKind.u64.wrap v74) * 256)))))), (.p (.int .u64 a0.Data.a1)), (.p (.int .u64 a0.Data.a2)), (.p (.int .u64 a0.Data.a3)), (.p (.int .u64 a0.Data.a4)), (.p (.int .u64 a0.Data.a5)), (.p (.int .u64 a0.Data.a6))]), (⟨1024000004, g⟩, .box true [(.p (.int .i64 x98.a0.Line)), (.p (.int .i64 x98.a0.Gen)), (.p (.int .i64 x98.a1.Line)), (.p (.int .i64 x98.a1.Gen)), (.p (.int .i64 x98.a2.Line)), (.p (.int .i64 x98.a2.Gen)), (.p (.int .i64 x98.a3.Line)), (.p (.int .i64 x98.a3.Gen)), (.p (.int .i64 x98.a4.Line)), (.p (.int .i64 x98.a4.Gen)), (.p (.int .i64 x98.a5.Line)), (.p (.int .i64 x98.a5.Gen)), (.p (.int .i64 x98.a6.Line)), (.p (.int .i64 x98.a6.Gen)), (.p (.int .i64 x98.a7.Line)), (.p (.int .i64 x98.a7.Gen))])] (g + 1)) h (enter_of ?_) ?_
    · refine ren_go (fun g S => [(⟨1024000003, g⟩, (keyT 0 (St.env S 3))), (⟨1024000004, g⟩, (keyT 0 (St.env S 4)))]) (fun g S => []) ?_ ?_ ?_ ?_ ?_
      all_goals try simp -implicitDefEqProofs +decide only [go_sem, Nat.reduceAdd, Int.reduceToNat, hb73]
      all_goals first | done | trivial | omega | (simp [maps, go_sem, hb73]; done) | (simp [maps, go_sem, hb73] <;> omega)
    rintro g ⟨x98, x99⟩ s1 h hd1
    rw [bodegalaw23_HashSlots_L1] at h
    try dsimp only
    refine swp_seq ?_
    refine seq_reg rfl (fun K hK => ?_)
    simp -implicitDefEqProofs +decide only [go_sem, Nat.reduceAdd, Int.reduceToNat]
    refine hK _ ?_
    refine bsplit h (fun hb103 h => ?_) (fun hb103 h => ?_)
    · refine cond_t (by simp -implicitDefEqProofs +decide only [go_sem, hb103]) ?_
      refine swp_skip ?_
      with_reducible repeat (first | refine nn ?_ | refine nb ?_ | refine nr ?_ | refine nc ?_ | refine ne ?_ | refine nq ?_ | refine nx rfl ?_)
      refine swp_seq ?_
      refine swp_block ?_
      refine swp_reg rfl (fun K hK => ?_)
      refine psplit h (fun hp104 h => ?_)
      simp -implicitDefEqProofs +decide only [go_sem, Nat.reduceAdd, Int.reduceToNat, hp104, hb103]
      refine opt_ite (by rcases cases8 hp104.1 hp104.2 with hc | hc | hc | hc | hc | hc | hc | hc <;> simp [hc, A8.get]) ?_
      refine opt_v (v' := .agg [(.p (.int .i64 (A8.get x98 x99).Line)), (.p (.int .i64 (A8.get x98 x99).Gen))]) (by rcases cases8 hp104.1 hp104.2 with hc | hc | hc | hc | hc | hc | hc | hc <;> simp [hc, A8.get]) ?_
      refine bind_of h (fun v105 hv105 h => ?_)
      simp -implicitDefEqProofs +decide only [go_sem, Nat.reduceAdd, Int.reduceToNat, hb103]
      refine call_go [0] false (bodegalaw23_aim_ok ⟨G.glob, noCaps⟩ hG0 (A8.get x98 x99) _ hv105) (by simp -implicitDefEqProofs +decide only [go_sem, Nat.reduceAdd, Int.reduceToNat, hb103]; rfl) (by first | rfl | (simp [maps, hb103]; done)) ?_
      refine psplit h (fun hp106 h => ?_)
      simp -implicitDefEqProofs +decide only [go_sem, Nat.reduceAdd, Int.reduceToNat, hp106, hb103]
      refine opt_ite (by rcases cases8 hp106.1 hp106.2 with hc | hc | hc | hc | hc | hc | hc | hc <;> simp [hc]) ?_
      refine opt_wr (l' := [(.p (.int .i64 (A8.set x98 x99 v105).a0.Line)), (.p (.int .i64 (A8.set x98 x99 v105).a0.Gen)), (.p (.int .i64 (A8.set x98 x99 v105).a1.Line)), (.p (.int .i64 (A8.set x98 x99 v105).a1.Gen)), (.p (.int .i64 (A8.set x98 x99 v105).a2.Line)), (.p (.int .i64 (A8.set x98 x99 v105).a2.Gen)), (.p (.int .i64 (A8.set x98 x99 v105).a3.Line)), (.p (.int .i64 (A8.set x98 x99 v105).a3.Gen)), (.p (.int .i64 (A8.set x98 x99 v105).a4.Line)), (.p (.int .i64 (A8.set x98 x99 v105).a4.Gen)), (.p (.int .i64 (A8.set x98 x99 v105).a5.Line)), (.p (.int .i64 (A8.set x98 x99 v105).a5.Gen)), (.p (.int .i64 (A8.set x98 x99 v105).a6.Line)), (.p (.int .i64 (A8.set x98 x99 v105).a6.Gen)), (.p (.int .i64 (A8.set x98 x99 v105).a7.Line)), (.p (.int .i64 (A8.set x98 x99 v105).a7.Gen))]) (by rcases cases8 hp106.1 hp106.2 with hc | hc | hc | hc | hc | hc | hc | hc <;> simp [hc, A8.get, A8.set]) ?_
      simp -implicitDefEqProofs +decide only [go_sem, Nat.reduceAdd, Int.reduceToNat, hb103]
      refine hK _ ?_
      with_reducible repeat (first | refine nn ?_ | refine nb ?_ | refine nr ?_ | refine nc ?_ | refine ne ?_ | refine nq ?_ | refine nx rfl ?_)
      refine swp_reg rfl (fun K hK => ?_)
      simp -implicitDefEqProofs +decide only [go_sem, Nat.reduceAdd, Int.reduceToNat, hb103]
      refine hK _ ?_
      with_reducible repeat (first | refine nn ?_ | refine nb ?_ | refine nr ?_ | refine nc ?_ | refine ne ?_ | refine nq ?_ | refine nx rfl ?_)
      refine back_of h ?_
      refine ren_go (fun g S => [(⟨1024000003, g⟩, (keyT 0 (St.env S 3))), (⟨1024000004, g⟩, (keyT 0 (St.env S 4)))]) (fun g S => []) ?_ ?_ ?_ ?_ ?_
      all_goals try simp -implicitDefEqProofs +decide only [go_sem, Nat.reduceAdd, Int.reduceToNat, hb103]
      all_goals first | done | trivial | omega | (simp [maps, go_sem, hb103]; done) | (simp [maps, go_sem, hb103] <;> omega)
    · refine cond_f (by simp -implicitDefEqProofs +decide only [go_sem, hb103]) ?_
      refine swp_exit ?_
      with_reducible repeat (first | refine nn ?_ | refine nb ?_ | refine nr ?_ | refine nc ?_ | refine ne ?_ | refine nq ?_ | refine nx rfl ?_)
      obtain ⟨h, hs1⟩ := exit_of h hd1
      with_reducible repeat (first | refine nn ?_ | refine nb ?_ | refine nr ?_ | refine nc ?_ | refine ne ?_ | refine nq ?_ | refine nx rfl ?_)
      refine ⟨hs1, ?_⟩
      with_reducible repeat (first | refine nn ?_ | refine nb ?_ | refine nr ?_ | refine nc ?_ | refine ne ?_ | refine nq ?_ | refine nx rfl ?_)
      refine jump_of hj1 h ?_
      refine ren_go (fun g S => [(⟨1024000001, g⟩, (keyT 0 (St.env S 3))), (⟨1024000002, g⟩, (keyT 0 (St.env S 4)))]) (fun g S => []) ?_ ?_ ?_ ?_ ?_
      all_goals try simp -implicitDefEqProofs +decide only [go_sem, Nat.reduceAdd, Int.reduceToNat, hb103]
      all_goals first | done | trivial | omega | (simp [maps, go_sem, hb103]; done) | (simp [maps, go_sem, hb103] <;> omega)
  · refine cond_f (by simp -implicitDefEqProofs +decide only [go_sem, hb73]) ?_
    refine swp_skip ?_
    with_reducible repeat (first | refine nn ?_ | refine nb ?_ | refine nr ?_ | refine nc ?_ | refine ne ?_ | refine nq ?_ | refine nx rfl ?_)
    refine jump_of hj1 h ?_
    refine ren_go (fun g S => [(⟨1024000001, g⟩, (keyT 0 (St.env S 3))), (⟨1024000002, g⟩, (keyT 0 (St.env S 4)))]) (fun g S => []) ?_ ?_ ?_ ?_ ?_
    all_goals try simp -implicitDefEqProofs +decide only [go_sem, Nat.reduceAdd, Int.reduceToNat, hb73]
    all_goals first | done | trivial | omega | (simp [maps, go_sem, hb73]; done) | (simp [maps, go_sem, hb73] <;> omega)
end Go.Sh
end
section
namespace Go.Sh
set_option linter.unusedSimpArgs false
set_option linter.unusedVariables false
set_option maxRecDepth 10000

def c8 (x : A8 pointer_Pointer) : A8 bodegaref19_Pointer := ⟨cP x.a0, cP x.a1, cP x.a2, cP x.a3, cP x.a4, cP x.a5, cP x.a6, cP x.a7⟩
def zero8 : A8 pointer_Pointer := ⟨⟨0, 0⟩, ⟨0, 0⟩, ⟨0, 0⟩, ⟨0, 0⟩, ⟨0, 0⟩, ⟨0, 0⟩, ⟨0, 0⟩, ⟨0, 0⟩⟩
theorem slots_eq (x : A8 pointer_Pointer) : bodegalaw23_slots x = some (c8 x) := by
  unfold bodegalaw23_slots
  iterate 9 (rw [iter_eq]; simp (disch := omega) [bodegalaw23_slots_L1, ref_eq, A8.get, A8.set, i64_in'])
  rfl
def fillP (p : api_Page) (x : A8 pointer_Pointer) : api_Page := ⟨p.Line, p.Head, ⟨lo p.Data.a0, two (pkP x.a0) (pkP x.a1), two (pkP x.a2) (pkP x.a3), two (pkP x.a4) (pkP x.a5), two (pkP x.a6) (pkP x.a7), 0, 0⟩⟩
theorem tag_eq {a : Int} (h : k_u64 a) : (pointer_UnpackTag a).bind (fun v => pointer_PackTag ⟨v.Kind, v.Gen, 0⟩) = some (lo a) := by
  unfold k_u64 at h
  unfold pointer_UnpackTag pointer_PackTag
  rw [bind_s]
  simp only
  rw [and64_255 (x := a) (by omega), i64_in' (x := a % 256) (by omega), u64_in' (x := a % 256) (by omega), and64_255 (x := a % 256) (by omega), shr_u64_8, and64_gen (x := a / 256) (by omega), i64_in' (x := a / 256 % 16777216) (by omega),
    u64_in' (x := a / 256 % 16777216) (by omega), and64_gen (x := a / 256 % 16777216) (by omega), shl_u64_8, u64_in' (x := a / 256 % 16777216 % 16777216 * 256) (by omega),
    or64_lo8 (x := a / 256 % 16777216 % 16777216 * 256) (by omega) (by omega) (by omega), u64_in' (x := 0) (by omega), shl_u64_32, u64_in' (x := 0 * 4294967296) (by omega), or64_lo32 (by omega) (by omega) (by omega)]
  congr 1
  unfold lo
  omega
theorem or0 {a : Int} (h : 0 ≤ a ∧ a < 4294967296) : bits .or .u64 0 (shlV .u64 (IntKind.u64.wrap a) 0) = a := by
  rw [u64_in' (x := a) (by omega), shl_ 0]
  rw [show a * 2 ^ 0 = a by omega, u64_in' (by omega), bits_or_comm64 (by omega) (by omega), show (0 : Int) = 0 from rfl]
  rw [u64_or a 0 (by omega) (by omega) (by omega) (by omega)]
  simp; omega
theorem or1 {a b : Int} (h : 0 ≤ a ∧ a < 4294967296) (h' : 0 ≤ b ∧ b < 4294967296) : bits .or .u64 a (shlV .u64 (IntKind.u64.wrap b) 32) = two a b := by
  have := two_or h h'
  rwa [u64_in' (x := a) (by omega)] at this
theorem fillSlots_eq (p : api_Page) (x : A8 pointer_Pointer) (h : k_u64 p.Data.a0) : hashindex_fillSlots p x = some (fillP p x) := by
  unfold hashindex_fillSlots
  have ht := tag_eq h
  rw [show ((pointer_UnpackTag p.Data.a0).bind fun v1 => (pointer_PackTag (⟨v1.Kind, v1.Gen, 0⟩ : pointer_Tag)).bind fun v2 => iter (hashindex_fillSlots_L1 x p) ((⟨v2, 0, 0, 0, 0, 0, 0⟩ : (A7 Int)), 0)) =
    (((pointer_UnpackTag p.Data.a0).bind fun v1 => pointer_PackTag (⟨v1.Kind, v1.Gen, 0⟩ : pointer_Tag)).bind fun v2 => iter (hashindex_fillSlots_L1 x p) ((⟨v2, 0, 0, 0, 0, 0, 0⟩ : (A7 Int)), 0)) from by rw [Option.bind_assoc], ht, bind_s]
  iterate 8 (
    rw [iter_eq]
    simp (disch := omega) only [hashindex_fillSlots_L1, i64_in', u64_in', Int.reduceTDiv, Int.reduceTMod, Int.reduceMul, Int.reduceAdd, A8.get, A7.get, A7.set, Int.reduceEq, if_true, if_false, Int.reduceLT, Int.reduceLE, and_self, decide_true, PackP_eq, bind_s]
    simp only [or0 (pkP_r _), or1 (pkP_r _) (pkP_r _)])
  rw [iter_eq]
  simp only [hashindex_fillSlots_L1, Int.reduceLT, decide_false, Bool.false_eq_true, if_false, Option.map_some, bind_s]
  rfl
end Go.Sh
end
