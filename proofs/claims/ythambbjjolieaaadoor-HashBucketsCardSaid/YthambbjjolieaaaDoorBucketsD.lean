/- Part 4 of 7 of the proof: own texts joined by a program. -/
import Derived.Test.YthambbjjolieaaaDoorBucketsC
set_option linter.all false
section
namespace Go.Sh
open Go.Proofs
set_option linter.unusedVariables false
set_option linter.unusedSimpArgs false
set_option maxRecDepth 100000
set_option maxHeartbeats 4000000
noncomputable def hashindex_Hash (a0 : Int) : Option Int :=
  some (bits .xor .u32 (IntKind.u32.wrap (a0 * 2654435769)) (shrV .u32 (IntKind.u32.wrap (a0 * 2654435769)) 16))
theorem hashindex_Hash_ok (G : Glob) (hG0 : G.glob 0 = some [(.int .i64 0), (.int .i64 0)]) (a0 : Int) (res : Int) (h : hashindex_Hash a0 = some res) : Spec Tryd.prog G 20 [.cell (.p (.int .u32 a0))] (fun r ios => r = .cell (.p (.int .u32 res)) ∧ ios = []) := by
  rw [hashindex_Hash] at h
  refine spec_of Tryd.mixed Tryd.func20 rfl rfl (by simp only [List.length]; decide +kernel) ?_
  refine swp_fresh (fun g => stL [(0, (.c (.p (.int .u32 a0))))] [] (g + 1)) ?_ (fun g => ?_)
  · refine ren_go (fun g S => []) (fun g S => []) ?_ ?_ ?_ ?_ ?_
    all_goals try simp -implicitDefEqProofs +decide only [go_sem, Nat.reduceAdd, Int.reduceToNat]
    all_goals first | done | trivial | omega | (simp [maps, go_sem]; done) | (simp [maps, go_sem] <;> omega)
  refine seq_reg rfl (fun K hK => ?_)
  simp -implicitDefEqProofs +decide only [go_sem, Nat.reduceAdd, Int.reduceToNat]
  refine hK _ ?_
  refine seq_reg rfl (fun K hK => ?_)
  simp -implicitDefEqProofs +decide only [go_sem, Nat.reduceAdd, Int.reduceToNat]
  refine hK _ ?_
  refine seq_reg rfl (fun K hK => ?_)
  simp -implicitDefEqProofs +decide only [go_sem, Nat.reduceAdd, Int.reduceToNat]
  refine hK _ ?_
  refine swp_ret ?_
  with_reducible repeat (first | refine nn ?_ | refine nb ?_ | refine nr ?_ | refine nc ?_ | refine ne ?_ | refine nq ?_ | refine nx rfl ?_)
  obtain rfl := some_eq h
  simp -implicitDefEqProofs +decide only [go_sem, Nat.reduceAdd, Int.reduceToNat]
  all_goals first | done | trivial | (simp [maps]; done)
end Go.Sh
end
section
namespace Go.Sh
open Go.Proofs
set_option linter.unusedVariables false
set_option linter.unusedSimpArgs false
set_option maxRecDepth 100000
set_option maxHeartbeats 4000000
noncomputable def bodegalaw23_awake : Option Bool :=
  (hashindex_Hash 1).bind fun v1 =>
  some (v1 == 2654463886)
theorem bodegalaw23_awake_ok (G : Glob) (hG0 : G.glob 0 = some [(.int .i64 0), (.int .i64 0)])  (res : Bool) (h : bodegalaw23_awake = some res) : Spec Tryd.prog G 13 [] (fun r ios => r = .cell (.p (.bool res)) ∧ ios = []) := by
  rw [bodegalaw23_awake] at h
  refine spec_of Tryd.mixed Tryd.func13 rfl rfl (by simp only [List.length]; decide +kernel) ?_
  refine swp_fresh (fun g => stL [] [] (g + 1)) ?_ (fun g => ?_)
  · refine ren_go (fun g S => []) (fun g S => []) ?_ ?_ ?_ ?_ ?_
    all_goals try simp -implicitDefEqProofs +decide only [go_sem, Nat.reduceAdd, Int.reduceToNat]
    all_goals first | done | trivial | omega | (simp [maps, go_sem]; done) | (simp [maps, go_sem] <;> omega)
  refine seq_reg rfl (fun K hK => ?_)
  simp -implicitDefEqProofs +decide only [go_sem, Nat.reduceAdd, Int.reduceToNat]
  refine hK _ ?_
  refine seq_reg rfl (fun K hK => ?_)
  refine bind_of h (fun v1 hv1 h => ?_)
  simp -implicitDefEqProofs +decide only [go_sem, Nat.reduceAdd, Int.reduceToNat]
  refine call_go [0] false (hashindex_Hash_ok ⟨G.glob, noCaps⟩ hG0 1 _ hv1) (by simp -implicitDefEqProofs +decide only [go_sem, Nat.reduceAdd, Int.reduceToNat]; rfl) (by first | rfl | (simp [maps]; done)) ?_
  simp -implicitDefEqProofs +decide only [go_sem, Nat.reduceAdd, Int.reduceToNat]
  refine hK _ ?_
  refine swp_ret ?_
  with_reducible repeat (first | refine nn ?_ | refine nb ?_ | refine nr ?_ | refine nc ?_ | refine ne ?_ | refine nq ?_ | refine nx rfl ?_)
  obtain rfl := some_eq h
  simp -implicitDefEqProofs +decide only [go_sem, Nat.reduceAdd, Int.reduceToNat]
  all_goals first | done | trivial | (simp [maps]; done)
end Go.Sh
end
section
namespace Go.Sh
set_option linter.unusedSimpArgs false
set_option linter.unusedVariables false

theorem bind_s {α β : Type} (a : α) (f : α → Option β) : (some a).bind f = f a := rfl

def vp (l g : Int) : Bool := (decide (l ≥ 104) && decide (l < 256)) && (decide (g ≥ 1) && decide (g ≤ 16777215))
theorem vp_iff {l g : Int} : vp l g = true ↔ (104 ≤ l ∧ l < 256) ∧ 1 ≤ g ∧ g ≤ 16777215 := by simp [vp]
theorem Valid_eq (p : pointer_Pointer) : pointer_Valid p = some (vp p.Line p.Gen) := rfl
theorem ValidR_eq (p : bodegaref19_Pointer) : bodegaref19_ValidPointer p = some (vp p.Line p.Gen) := rfl
def pk (l g : Int) : Int := if vp l g = true then l + 256 * g else 0
theorem pk_range (l g : Int) : 0 ≤ pk l g ∧ pk l g < 4294967296 := by
  unfold pk; split
  · rename_i h; rw [vp_iff] at h; omega
  · omega
theorem Pack_eq (p : pointer_Pointer) : pointer_Pack p = some (pk p.Line p.Gen) := by
  unfold pointer_Pack pk
  rw [Valid_eq, bind_s]
  cases h : vp p.Line p.Gen
  · rfl
  · rw [vp_iff] at h
    simp only [Bool.not_true, Bool.false_eq_true, if_false, if_true]
    rw [u32_in' (x := p.Gen) (by omega), u32_in' (x := p.Line) (by omega), shl_u32_8, u32_in' (x := p.Gen * 256) (by omega), or32_hi8 (by omega) (by omega) (by omega)]
    congr 1; omega
theorem PackR_eq (p : bodegaref19_Pointer) : bodegaref19_Pack p = some (pk p.Line p.Gen) := by
  unfold bodegaref19_Pack pk
  rw [ValidR_eq, bind_s]
  cases h : vp p.Line p.Gen
  · rfl
  · rw [vp_iff] at h
    simp only [Bool.not_true, Bool.false_eq_true, if_false, if_true]
    rw [u32_in' (x := p.Gen) (by omega), u32_in' (x := p.Line) (by omega), u32_in' (x := 256 * p.Gen) (by omega), u32_in' (by omega)]
theorem Unpack_eq {a : Int} (h : 0 ≤ a ∧ a < 4294967296) : pointer_Unpack a = some ⟨a % 256, a / 256⟩ := by
  unfold pointer_Unpack
  rw [and32_255 h, shr_u32_8, i64_in' (by omega), i64_in' (by omega)]
theorem UnpackR_eq {a : Int} (h : 0 ≤ a ∧ a < 4294967296) : bodegaref19_Unpack a = some ⟨a % 256, a / 256⟩ := by
  unfold bodegaref19_Unpack
  rw [tmod_pos h.1, tdiv_pos h.1, i64_in' (by omega), u32_in' (by omega), i64_in' (by omega)]
def okw (a : Int) : Bool := a == 0 || vp (a % 256) (a / 256)
theorem unpack_eq {a : Int} (h : 0 ≤ a ∧ a < 4294967296) : hashindex_unpack a = some (⟨a % 256, a / 256⟩, okw a) := by
  unfold hashindex_unpack okw
  rw [Unpack_eq h, bind_s]
  cases a == 0
  · simp only [Valid_eq, bind_s, Bool.false_or, Bool.false_eq_true, if_false]
  · simp
theorem pointer_eq {a : Int} (h : 0 ≤ a ∧ a < 4294967296) : bodegaref23_pointer a = some (⟨a % 256, a / 256⟩, okw a) := by
  unfold bodegaref23_pointer okw
  rw [u32_in' h, UnpackR_eq h, bind_s]
  by_cases h0 : a = 0
  · subst h0; rfl
  · simp [ValidR_eq, h0]
def good (l g : Int) : Bool := (l == 0 && g == 0) || vp l g
theorem isField_eq (p : pointer_Pointer) : hashindex_isField p = some (good p.Line p.Gen) := by
  unfold hashindex_isField good
  cases (p.Line == 0 && p.Gen == 0)
  · simp [Valid_eq]
  · simp
theorem good_eq (p : bodegaref19_Pointer) : bodegaref23_good p = some (good p.Line p.Gen) := by
  unfold bodegaref23_good good
  cases (p.Line == 0 && p.Gen == 0)
  · simp [ValidR_eq]
  · simp
theorem pk_dec {l g : Int} (h : good l g = true) : pk l g % 256 = l ∧ pk l g / 256 = g ∧ okw (pk l g) = true := by
  unfold good at h
  cases hv : vp l g
  · rw [hv] at h
    simp at h
    obtain ⟨rfl, rfl⟩ := h
    decide
  · have h1 : pk l g = l + 256 * g := by simp [pk, hv]
    have hv' := hv
    rw [vp_iff] at hv'
    have e1 : (l + 256 * g) % 256 = l := by omega
    have e2 : (l + 256 * g) / 256 = g := by omega
    rw [h1, e1, e2]
    refine ⟨rfl, rfl, ?_⟩
    unfold okw
    rw [e1, e2, hv]; simp
theorem Pick_eq {a n : Int} (hn : 1 ≤ n ∧ n < 4611686018427387904) : ∃ v, bodegahand_Pick a n = some v ∧ 0 ≤ v ∧ v < n := by
  unfold bodegahand_Pick
  have h1 : ¬ n < 1 := by omega
  have h2 : ¬ n = 0 := by omega
  simp only [h1, h2, decide_false, Bool.false_eq_true, if_false, not_false_eq_true, if_true]
  have h3 : -n < Int.tmod a n ∧ Int.tmod a n < n := by
    rcases Int.le_total 0 a with h | h
    · rw [tmod_pos h]; have := Int.emod_nonneg a h2; have := Int.emod_lt_of_pos a (show 0 < n by omega); omega
    · have e : Int.tmod a n = - ((-a) % n) := by
        rw [← tmod_pos (show 0 ≤ -a by omega), Int.neg_tmod, Int.neg_neg]
      rw [e]; have := Int.emod_nonneg (-a) h2; have := Int.emod_lt_of_pos (-a) (show 0 < n by omega); omega
  rw [i64_in' (by omega), tmod_pos (by omega)]
  exact ⟨_, rfl, Int.emod_nonneg _ h2, Int.emod_lt_of_pos _ (by omega)⟩
theorem aim_eq (p : pointer_Pointer) : ∃ q, bodegalaw23_aim p = some q := by
  unfold bodegalaw23_aim
  split
  · exact ⟨_, rfl⟩
  · obtain ⟨v, e, _⟩ := Pick_eq (a := p.Line) (n := 154) (by omega)
    obtain ⟨u, e', _⟩ := Pick_eq (a := p.Gen) (n := 8) (by omega)
    rw [e, bind_s, e', bind_s]
    exact ⟨_, rfl⟩
def cP (p : pointer_Pointer) : bodegaref19_Pointer := ⟨p.Line, p.Gen⟩
def cR (r : hashindex_Root) : bodegaref23_Root := ⟨cP r.First, r.Depth, ⟨cP r.Pages.a0, cP r.Pages.a1, cP r.Pages.a2, cP r.Pages.a3⟩⟩
theorem ref_eq (p : pointer_Pointer) : bodegalaw23_ref p = some (cP p) := rfl
end Go.Sh
end
section
namespace Go.Sh
open Go.Proofs
set_option linter.unusedVariables false
set_option linter.unusedSimpArgs false
set_option maxRecDepth 100000
set_option maxHeartbeats 4000000
noncomputable def bodegalaw23_root_L1 (a0 : hashindex_Root) (v1 : bodegaref19_Pointer) : ((A4 bodegaref19_Pointer) × Int) → Option (((A4 bodegaref19_Pointer) × Int) ⊕ bodegaref23_Root)
  | (x25, x26) =>
    if (decide (x26 < 4)) = true then
      if 0 ≤ x26 ∧ x26 < 4 then
        (bodegalaw23_ref (A4.get a0.Pages x26)).bind fun v30 =>
        if 0 ≤ x26 ∧ x26 < 4 then
          some (.inl ((A4.set x25 x26 v30), (IntKind.i64.wrap (x26 + 1))))
        else none
      else none
    else
      Option.map Sum.inr (
        some (⟨v1, a0.Depth, x25⟩ : bodegaref23_Root))
noncomputable def bodegalaw23_root (a0 : hashindex_Root) : Option bodegaref23_Root :=
  (bodegalaw23_ref a0.First).bind fun v1 =>
  iter (bodegalaw23_root_L1 a0 v1) ((⟨(⟨0, 0⟩ : bodegaref19_Pointer), (⟨0, 0⟩ : bodegaref19_Pointer), (⟨0, 0⟩ : bodegaref19_Pointer), (⟨0, 0⟩ : bodegaref19_Pointer)⟩ : (A4 bodegaref19_Pointer)), 0)
theorem bodegalaw23_root_ok (G : Glob) (hG0 : G.glob 0 = some [(.int .i64 0), (.int .i64 0)]) (a0 : hashindex_Root) (res : bodegaref23_Root) (h : bodegalaw23_root a0 = some res) : Spec Tryd.prog G 12 [.agg [.p (.int .i64 a0.First.Line), .p (.int .i64 a0.First.Gen), .p (.int .i64 a0.Depth), .p (.int .i64 a0.Pages.a0.Line), .p (.int .i64 a0.Pages.a0.Gen), .p (.int .i64 a0.Pages.a1.Line), .p (.int .i64 a0.Pages.a1.Gen), .p (.int .i64 a0.Pages.a2.Line), .p (.int .i64 a0.Pages.a2.Gen), .p (.int .i64 a0.Pages.a3.Line), .p (.int .i64 a0.Pages.a3.Gen)]] (fun r ios => r = .agg [.p (.int .i64 res.First.Line), .p (.int .i64 res.First.Gen), .p (.int .i64 res.Depth), .p (.int .i64 res.Pages.a0.Line), .p (.int .i64 res.Pages.a0.Gen), .p (.int .i64 res.Pages.a1.Line), .p (.int .i64 res.Pages.a1.Gen), .p (.int .i64 res.Pages.a2.Line), .p (.int .i64 res.Pages.a2.Gen), .p (.int .i64 res.Pages.a3.Line), .p (.int .i64 res.Pages.a3.Gen)] ∧ ios = []) := by
  rw [bodegalaw23_root] at h
  refine spec_of Tryd.mixed Tryd.func12 rfl rfl (by simp only [List.length]; decide +kernel) ?_
  refine swp_fresh (fun g => stL [(0, (.agg [(.p (.int .i64 a0.First.Line)), (.p (.int .i64 a0.First.Gen)), (.p (.int .i64 a0.Depth)), (.p (.int .i64 a0.Pages.a0.Line)), (.p (.int .i64 a0.Pages.a0.Gen)), (.p (.int .i64 a0.Pages.a1.Line)), (.p (.int .i64 a0.Pages.a1.Gen)), (.p (.int .i64 a0.Pages.a2.Line)), (.p (.int .i64 a0.Pages.a2.Gen)), (.p (.int .i64 a0.Pages.a3.Line)), (.p (.int .i64 a0.Pages.a3.Gen))]))] [] (g + 1)) ?_ (fun g => ?_)
  · refine ren_go (fun g S => []) (fun g S => []) ?_ ?_ ?_ ?_ ?_
    all_goals try simp -implicitDefEqProofs +decide only [go_sem, Nat.reduceAdd, Int.reduceToNat]
    all_goals first | done | trivial | omega | (simp [maps, go_sem]; done) | (simp [maps, go_sem] <;> omega)
  refine seq_reg rfl (fun K hK => ?_)
  simp -implicitDefEqProofs +decide only [go_sem, Nat.reduceAdd, Int.reduceToNat]
  refine hK _ ?_
  refine seq_drw rfl (fun K hK => ?_)
  refine bind_of h (fun v1 hv1 h => ?_)
  simp -implicitDefEqProofs +decide only [go_sem, Nat.reduceAdd, Int.reduceToNat]
  refine call_go [0] false (bodegalaw23_ref_ok ⟨G.glob, noCaps⟩ hG0 a0.First _ hv1) (by simp -implicitDefEqProofs +decide only [go_sem, Nat.reduceAdd, Int.reduceToNat]; rfl) (by first | rfl | (simp [maps]; done)) ?_
  simp -implicitDefEqProofs +decide only [go_sem, Nat.reduceAdd, Int.reduceToNat]
  refine draw_go (by kernel_rfl) ?_
  refine hK _ ?_
  refine swp_seq ?_
  refine seq_reg rfl (fun K hK => ?_)
  simp -implicitDefEqProofs +decide only [go_sem, Nat.reduceAdd, Int.reduceToNat]
  refine hK _ ?_
  refine swp_block ?_
  refine swp_iter (fun g x => match x with | (x25, x26) => stL [(1, (.c (.ptr ⟨1024000001, g⟩ 0 0))), (2, (.c (.ptr ⟨1024000002, g⟩ 0 0))), (3, (.c (.ptr ⟨1024000003, g⟩ 0 0))), (4, (.c (.p (.int .i64 x26))))] [(⟨1024000001, g⟩, .box true [(.p (.int .i64 a0.First.Line)), (.p (.int .i64 a0.First.Gen)), (.p (.int .i64 a0.Depth)), (.p (.int .i64 a0.Pages.a0.Line)), (.p (.int .i64 a0.Pages.a0.Gen)), (.p (.int .i64 a0.Pages.a1.Line)), (.p (.int .i64 a0.Pages.a1.Gen)), (.p (.int .i64 a0.Pages.a2.Line)), (.p (.int .i64 a0.Pages.a2.Gen)), (.p (.int .i64 a0.Pages.a3.Line)), (.p (.int .i64 a0.Pages.a3.Gen))]), (⟨1024000002, g⟩, .box true [(.p (.int .i64 0)), (.p (.int .i64 0)), (.p (.int .i64 0)), (.p (.int .i64 0)), (.p (.int .i64 0)), (.p (.int .i64 0)), (.p (.int .i64 0)), (.p (.int .i64 0)), (.p (.int .i64 0)), (.p (.int .i64 0)), (.p (.int .i64 0))]), (⟨1024000003, g⟩, .box true [(.p (.int .i64 v1.Line)), (.p (.int .i64 v1.Gen)), (.p (.int .i64 a0.Depth)), (.p (.int .i64 x25.a0.Line)), (.p (.int .i64 x25.a0.Gen)), (.p (.int .i64 x25.a1.Line)), (.p (.int .i64 x25.a1.Gen)), (.p (.int .i64 x25.a2.Line)), (.p (.int .i64 x25.a2.Gen)), (.p (.int .i64 x25.a3.Line)), (.p (.int .i64 x25.a3.Gen))])] (g + 1)) h (enter_of ?_) ?_
  · refine ren_go (fun g S => [(⟨1024000001, g⟩, (keyT 0 (St.env S 1))), (⟨1024000002, g⟩, (keyT 0 (St.env S 2))), (⟨1024000003, g⟩, (keyT 0 (St.env S 3)))]) (fun g S => []) ?_ ?_ ?_ ?_ ?_
    all_goals try simp -implicitDefEqProofs +decide only [go_sem, Nat.reduceAdd, Int.reduceToNat]
    all_goals first | done | trivial | omega | (simp [maps, go_sem]; done) | (simp [maps, go_sem] <;> omega)
  rintro g ⟨x25, x26⟩ s1 h hd1
  rw [bodegalaw23_root_L1] at h
  try dsimp only
  refine swp_seq ?_
  refine seq_reg rfl (fun K hK => ?_)
  simp -implicitDefEqProofs +decide only [go_sem, Nat.reduceAdd, Int.reduceToNat]
  refine hK _ ?_
  refine bsplit h (fun hb28 h => ?_) (fun hb28 h => ?_)
  · refine cond_t (by simp -implicitDefEqProofs +decide only [go_sem, hb28]) ?_
    refine swp_skip ?_
    with_reducible repeat (first | refine nn ?_ | refine nb ?_ | refine nr ?_ | refine nc ?_ | refine ne ?_ | refine nq ?_ | refine nx rfl ?_)
    refine swp_seq ?_
    refine swp_block ?_
    refine swp_reg rfl (fun K hK => ?_)
    refine psplit h (fun hp29 h => ?_)
    simp -implicitDefEqProofs +decide only [go_sem, Nat.reduceAdd, Int.reduceToNat, hp29, hb28]
    refine opt_ite (by rcases cases4 hp29.1 hp29.2 with hc | hc | hc | hc <;> simp [hc, A4.get]) ?_
    refine opt_v (v' := .agg [(.p (.int .i64 (A4.get a0.Pages x26).Line)), (.p (.int .i64 (A4.get a0.Pages x26).Gen))]) (by rcases cases4 hp29.1 hp29.2 with hc | hc | hc | hc <;> simp [hc, A4.get]) ?_
    refine bind_of h (fun v30 hv30 h => ?_)
    simp -implicitDefEqProofs +decide only [go_sem, Nat.reduceAdd, Int.reduceToNat, hb28]
    refine call_go [0] false (bodegalaw23_ref_ok ⟨G.glob, noCaps⟩ hG0 (A4.get a0.Pages x26) _ hv30) (by simp -implicitDefEqProofs +decide only [go_sem, Nat.reduceAdd, Int.reduceToNat, hb28]; rfl) (by first | rfl | (simp [maps, hb28]; done)) ?_
    refine psplit h (fun hp31 h => ?_)
    simp -implicitDefEqProofs +decide only [go_sem, Nat.reduceAdd, Int.reduceToNat, hp31, hb28]
    refine opt_ite (by rcases cases4 hp31.1 hp31.2 with hc | hc | hc | hc <;> simp [hc]) ?_
    refine opt_wr (l' := [(.p (.int .i64 v1.Line)), (.p (.int .i64 v1.Gen)), (.p (.int .i64 a0.Depth)), (.p (.int .i64 (A4.set x25 x26 v30).a0.Line)), (.p (.int .i64 (A4.set x25 x26 v30).a0.Gen)), (.p (.int .i64 (A4.set x25 x26 v30).a1.Line)), (.p (.int .i64 (A4.set x25 x26 v30).a1.Gen)), (.p (.int .i64 (A4.set x25 x26 v30).a2.Line)), (.p (.int .i64 (A4.set x25 x26 v30).a2.Gen)), (.p (.int .i64 (A4.set x25 x26 v30).a3.Line)), (.p (.int .i64 (A4.set x25 x26 v30).a3.Gen))]) (by rcases cases4 hp31.1 hp31.2 with hc | hc | hc | hc <;> simp [hc, A4.get, A4.set]) ?_
    simp -implicitDefEqProofs +decide only [go_sem, Nat.reduceAdd, Int.reduceToNat, hb28]
    refine hK _ ?_
    with_reducible repeat (first | refine nn ?_ | refine nb ?_ | refine nr ?_ | refine nc ?_ | refine ne ?_ | refine nq ?_ | refine nx rfl ?_)
    refine swp_reg rfl (fun K hK => ?_)
    simp -implicitDefEqProofs +decide only [go_sem, Nat.reduceAdd, Int.reduceToNat, hb28]
    refine hK _ ?_
    with_reducible repeat (first | refine nn ?_ | refine nb ?_ | refine nr ?_ | refine nc ?_ | refine ne ?_ | refine nq ?_ | refine nx rfl ?_)
    refine back_of h ?_
    refine ren_go (fun g S => [(⟨1024000001, g⟩, (keyT 0 (St.env S 1))), (⟨1024000002, g⟩, (keyT 0 (St.env S 2))), (⟨1024000003, g⟩, (keyT 0 (St.env S 3)))]) (fun g S => []) ?_ ?_ ?_ ?_ ?_
    all_goals try simp -implicitDefEqProofs +decide only [go_sem, Nat.reduceAdd, Int.reduceToNat, hb28]
    all_goals first | done | trivial | omega | (simp [maps, go_sem, hb28]; done) | (simp [maps, go_sem, hb28] <;> omega)
  · refine cond_f (by simp -implicitDefEqProofs +decide only [go_sem, hb28]) ?_
    refine swp_exit ?_
    with_reducible repeat (first | refine nn ?_ | refine nb ?_ | refine nr ?_ | refine nc ?_ | refine ne ?_ | refine nq ?_ | refine nx rfl ?_)
    obtain ⟨h, hs1⟩ := exit_of h hd1
    with_reducible repeat (first | refine nn ?_ | refine nb ?_ | refine nr ?_ | refine nc ?_ | refine ne ?_ | refine nq ?_ | refine nx rfl ?_)
    refine ⟨hs1, ?_⟩
    with_reducible repeat (first | refine nn ?_ | refine nb ?_ | refine nr ?_ | refine nc ?_ | refine ne ?_ | refine nq ?_ | refine nx rfl ?_)
    refine seq_reg rfl (fun K hK => ?_)
    simp -implicitDefEqProofs +decide only [go_sem, Nat.reduceAdd, Int.reduceToNat, hb28]
    refine hK _ ?_
    refine swp_ret ?_
    with_reducible repeat (first | refine nn ?_ | refine nb ?_ | refine nr ?_ | refine nc ?_ | refine ne ?_ | refine nq ?_ | refine nx rfl ?_)
    obtain rfl := some_eq h
    simp -implicitDefEqProofs +decide only [go_sem, Nat.reduceAdd, Int.reduceToNat]
    all_goals first | done | trivial | (simp [maps]; done)
end Go.Sh
end
section
namespace Go.Sh
open Go.Proofs
set_option linter.unusedVariables false
set_option linter.unusedSimpArgs false
set_option maxRecDepth 100000
set_option maxHeartbeats 4000000
noncomputable def bodegalaw23_same (a0 : api_Page) (a1 : api_Page) : Option Bool :=
  some ((a0.Line == a1.Line) && ((a0.Head == a1.Head) && ((a0.Data.a0 == a1.Data.a0) && ((a0.Data.a1 == a1.Data.a1) && ((a0.Data.a2 == a1.Data.a2) && ((a0.Data.a3 == a1.Data.a3) && ((a0.Data.a4 == a1.Data.a4) && ((a0.Data.a5 == a1.Data.a5) && (a0.Data.a6 == a1.Data.a6)))))))))
theorem bodegalaw23_same_ok (G : Glob) (hG0 : G.glob 0 = some [(.int .i64 0), (.int .i64 0)]) (a0 : api_Page) (a1 : api_Page) (res : Bool) (h : bodegalaw23_same a0 a1 = some res) : Spec Tryd.prog G 14 [.agg [.p (.int .i64 a0.Line), .p (.int .u64 a0.Head), .p (.int .u64 a0.Data.a0), .p (.int .u64 a0.Data.a1), .p (.int .u64 a0.Data.a2), .p (.int .u64 a0.Data.a3), .p (.int .u64 a0.Data.a4), .p (.int .u64 a0.Data.a5), .p (.int .u64 a0.Data.a6)], .agg [.p (.int .i64 a1.Line), .p (.int .u64 a1.Head), .p (.int .u64 a1.Data.a0), .p (.int .u64 a1.Data.a1), .p (.int .u64 a1.Data.a2), .p (.int .u64 a1.Data.a3), .p (.int .u64 a1.Data.a4), .p (.int .u64 a1.Data.a5), .p (.int .u64 a1.Data.a6)]] (fun r ios => r = .cell (.p (.bool res)) ∧ ios = []) := by
  rw [bodegalaw23_same] at h
  refine spec_of Tryd.mixed Tryd.func14 rfl rfl (by simp only [List.length]; decide +kernel) ?_
  refine swp_fresh (fun g => stL [(0, (.agg [(.p (.int .i64 a0.Line)), (.p (.int .u64 a0.Head)), (.p (.int .u64 a0.Data.a0)), (.p (.int .u64 a0.Data.a1)), (.p (.int .u64 a0.Data.a2)), (.p (.int .u64 a0.Data.a3)), (.p (.int .u64 a0.Data.a4)), (.p (.int .u64 a0.Data.a5)), (.p (.int .u64 a0.Data.a6))])), (1, (.agg [(.p (.int .i64 a1.Line)), (.p (.int .u64 a1.Head)), (.p (.int .u64 a1.Data.a0)), (.p (.int .u64 a1.Data.a1)), (.p (.int .u64 a1.Data.a2)), (.p (.int .u64 a1.Data.a3)), (.p (.int .u64 a1.Data.a4)), (.p (.int .u64 a1.Data.a5)), (.p (.int .u64 a1.Data.a6))]))] [] (g + 1)) ?_ (fun g => ?_)
  · refine ren_go (fun g S => []) (fun g S => []) ?_ ?_ ?_ ?_ ?_
    all_goals try simp -implicitDefEqProofs +decide only [go_sem, Nat.reduceAdd, Int.reduceToNat]
    all_goals first | done | trivial | omega | (simp [maps, go_sem]; done) | (simp [maps, go_sem] <;> omega)
  refine seq_reg rfl (fun K hK => ?_)
  simp -implicitDefEqProofs +decide only [go_sem, Nat.reduceAdd, Int.reduceToNat]
  refine hK _ ?_
  refine seq_reg rfl (fun K hK => ?_)
  rcases hb1 : (a0.Line == a1.Line) with _ | _
  · replace h : some false = some res := by first | exact h | (rw [and_f hb1] at h; exact h)
    simp -implicitDefEqProofs +decide only [go_sem, Nat.reduceAdd, Int.reduceToNat, hb1]
    refine hK _ ?_
    refine swp_ret ?_
    with_reducible repeat (first | refine nn ?_ | refine nb ?_ | refine nr ?_ | refine nc ?_ | refine ne ?_ | refine nq ?_ | refine nx rfl ?_)
    obtain rfl := some_eq h
    simp -implicitDefEqProofs +decide only [go_sem, Nat.reduceAdd, Int.reduceToNat]
    all_goals first | done | trivial | (simp [maps]; done)
  · replace h : some ((a0.Head == a1.Head) && ((a0.Data.a0 == a1.Data.a0) && ((a0.Data.a1 == a1.Data.a1) && ((a0.Data.a2 == a1.Data.a2) && ((a0.Data.a3 == a1.Data.a3) && ((a0.Data.a4 == a1.Data.a4) && ((a0.Data.a5 == a1.Data.a5) && (a0.Data.a6 == a1.Data.a6)))))))) = some res := by first | exact h | (rw [and_t hb1] at h; exact h)
    rcases hb2 : (a0.Head == a1.Head) with _ | _
    · replace h : some false = some res := by first | exact h | (rw [and_f hb2] at h; exact h)
      simp -implicitDefEqProofs +decide only [go_sem, Nat.reduceAdd, Int.reduceToNat, hb1, hb2]
      refine hK _ ?_
      refine swp_ret ?_
      with_reducible repeat (first | refine nn ?_ | refine nb ?_ | refine nr ?_ | refine nc ?_ | refine ne ?_ | refine nq ?_ | refine nx rfl ?_)
      obtain rfl := some_eq h
      simp -implicitDefEqProofs +decide only [go_sem, Nat.reduceAdd, Int.reduceToNat]
      all_goals first | done | trivial | (simp [maps]; done)
    · replace h : some ((a0.Data.a0 == a1.Data.a0) && ((a0.Data.a1 == a1.Data.a1) && ((a0.Data.a2 == a1.Data.a2) && ((a0.Data.a3 == a1.Data.a3) && ((a0.Data.a4 == a1.Data.a4) && ((a0.Data.a5 == a1.Data.a5) && (a0.Data.a6 == a1.Data.a6))))))) = some res := by first | exact h | (rw [and_t hb2] at h; exact h)
      simp -implicitDefEqProofs +decide only [go_sem, Nat.reduceAdd, Int.reduceToNat, hb1, hb2]
      refine hK _ ?_
      refine swp_ret ?_
      with_reducible repeat (first | refine nn ?_ | refine nb ?_ | refine nr ?_ | refine nc ?_ | refine ne ?_ | refine nq ?_ | refine nx rfl ?_)
      obtain rfl := some_eq h
      simp -implicitDefEqProofs +decide only [go_sem, Nat.reduceAdd, Int.reduceToNat]
      all_goals first | done | trivial | (simp [maps]; done)
end Go.Sh
end
section
namespace Go.Sh
open Go.Proofs
set_option linter.unusedVariables false
set_option linter.unusedSimpArgs false
set_option maxRecDepth 100000
set_option maxHeartbeats 4000000
noncomputable def bodegaref23_pages (a0 : Int) : Option Int :=
  some (if (IntKind.i64.wrap (Int.tdiv (shlV .i64 1 (IntKind.u64.wrap a0)) 8)) > 1 then (IntKind.i64.wrap (Int.tdiv (shlV .i64 1 (IntKind.u64.wrap a0)) 8)) else 1)
theorem bodegaref23_pages_ok (G : Glob) (hG0 : G.glob 0 = some [(.int .i64 0), (.int .i64 0)]) (a0 : Int) (res : Int) (h : bodegaref23_pages a0 = some res) : Spec Tryd.prog G 53 [.cell (.p (.int .i64 a0))] (fun r ios => r = .cell (.p (.int .i64 res)) ∧ ios = []) := by
  rw [bodegaref23_pages] at h
  refine spec_of Tryd.mixed Tryd.func53 rfl rfl (by simp only [List.length]; decide +kernel) ?_
  refine swp_fresh (fun g => stL [(0, (.c (.p (.int .i64 a0))))] [] (g + 1)) ?_ (fun g => ?_)
  · refine ren_go (fun g S => []) (fun g S => []) ?_ ?_ ?_ ?_ ?_
    all_goals try simp -implicitDefEqProofs +decide only [go_sem, Nat.reduceAdd, Int.reduceToNat]
    all_goals first | done | trivial | omega | (simp [maps, go_sem]; done) | (simp [maps, go_sem] <;> omega)
  refine seq_reg rfl (fun K hK => ?_)
  simp -implicitDefEqProofs +decide only [go_sem, Nat.reduceAdd, Int.reduceToNat]
  refine hK _ ?_
  refine seq_reg rfl (fun K hK => ?_)
  simp -implicitDefEqProofs +decide only [go_sem, Nat.reduceAdd, Int.reduceToNat]
  refine hK _ ?_
  refine swp_ret ?_
  with_reducible repeat (first | refine nn ?_ | refine nb ?_ | refine nr ?_ | refine nc ?_ | refine ne ?_ | refine nq ?_ | refine nx rfl ?_)
  obtain rfl := some_eq h
  simp -implicitDefEqProofs +decide only [go_sem, Nat.reduceAdd, Int.reduceToNat]
  all_goals first | done | trivial | (simp [maps]; done)
end Go.Sh
end
section
namespace Go.Sh
open Go.Proofs
set_option linter.unusedVariables false
set_option linter.unusedSimpArgs false
set_option maxRecDepth 100000
set_option maxHeartbeats 4000000
noncomputable def bodegaref23_ValidRoot_L1 (a0 : bodegaref23_Root) (x30 : Int) : Option (Int ⊕ Bool) :=
    if (decide (x30 < 4)) = true then
      if 0 ≤ x30 ∧ x30 < 4 then
        (bodegaref23_good (A4.get a0.Pages x30)).bind fun v34 =>
        if (!v34) = true then
          Option.map Sum.inr (
            some false)
        else
          (bodegaref23_pages a0.Depth).bind fun v36 =>
          if (decide (x30 < v36)) = true then
            if 0 ≤ x30 ∧ x30 < 4 then
              if (((A4.get a0.Pages x30).Line == 0) && ((A4.get a0.Pages x30).Gen == 0)) = true then
                Option.map Sum.inr (
                  some false)
              else
                some (.inl (IntKind.i64.wrap (x30 + 1)))
            else none
          else
            some (.inl (IntKind.i64.wrap (x30 + 1)))
      else none
    else
      Option.map Sum.inr (
        some true)
noncomputable def bodegaref23_ValidRoot (a0 : bodegaref23_Root) : Option Bool :=
  if ((a0.First.Line == 0) && (a0.First.Gen == 0)) = true then
    some ((a0.First.Line == 0) && ((a0.First.Gen == 0) && ((a0.Depth == 0) && ((a0.Pages.a0.Line == 0) && ((a0.Pages.a0.Gen == 0) && ((a0.Pages.a1.Line == 0) && ((a0.Pages.a1.Gen == 0) && ((a0.Pages.a2.Line == 0) && ((a0.Pages.a2.Gen == 0) && ((a0.Pages.a3.Line == 0) && (a0.Pages.a3.Gen == 0)))))))))))
  else
    (bodegaref19_ValidPointer a0.First).bind fun v7 =>
    if (!v7) = true then
      some false
    else
      if (decide (a0.Depth < 0)) = true then
        some false
      else
        if (decide (a0.Depth > 5)) = true then
          some false
        else
          iter (bodegaref23_ValidRoot_L1 a0) 0
theorem bodegaref23_ValidRoot_ok (G : Glob) (hG0 : G.glob 0 = some [(.int .i64 0), (.int .i64 0)]) (a0 : bodegaref23_Root) (res : Bool) (h : bodegaref23_ValidRoot a0 = some res) : Spec Tryd.prog G 30 [.agg [.p (.int .i64 a0.First.Line), .p (.int .i64 a0.First.Gen), .p (.int .i64 a0.Depth), .p (.int .i64 a0.Pages.a0.Line), .p (.int .i64 a0.Pages.a0.Gen), .p (.int .i64 a0.Pages.a1.Line), .p (.int .i64 a0.Pages.a1.Gen), .p (.int .i64 a0.Pages.a2.Line), .p (.int .i64 a0.Pages.a2.Gen), .p (.int .i64 a0.Pages.a3.Line), .p (.int .i64 a0.Pages.a3.Gen)]] (fun r ios => r = .cell (.p (.bool res)) ∧ ios = []) := by
  rw [bodegaref23_ValidRoot] at h
  refine spec_of Tryd.mixed Tryd.func30 rfl rfl (by simp only [List.length]; decide +kernel) ?_
  refine swp_fresh (fun g => stL [(0, (.agg [(.p (.int .i64 a0.First.Line)), (.p (.int .i64 a0.First.Gen)), (.p (.int .i64 a0.Depth)), (.p (.int .i64 a0.Pages.a0.Line)), (.p (.int .i64 a0.Pages.a0.Gen)), (.p (.int .i64 a0.Pages.a1.Line)), (.p (.int .i64 a0.Pages.a1.Gen)), (.p (.int .i64 a0.Pages.a2.Line)), (.p (.int .i64 a0.Pages.a2.Gen)), (.p (.int .i64 a0.Pages.a3.Line)), (.p (.int .i64 a0.Pages.a3.Gen))]))] [] (g + 1)) ?_ (fun g => ?_)
  · refine ren_go (fun g S => []) (fun g S => []) ?_ ?_ ?_ ?_ ?_
    all_goals try simp -implicitDefEqProofs +decide only [go_sem, Nat.reduceAdd, Int.reduceToNat]
    all_goals first | done | trivial | omega | (simp [maps, go_sem]; done) | (simp [maps, go_sem] <;> omega)
  refine seq_reg rfl (fun K hK => ?_)
  simp -implicitDefEqProofs +decide only [go_sem, Nat.reduceAdd, Int.reduceToNat]
  refine hK _ ?_
  refine swp_seq ?_
  refine seq_reg rfl (fun K hK => ?_)
  simp -implicitDefEqProofs +decide only [go_sem, Nat.reduceAdd, Int.reduceToNat]
  refine hK _ ?_
  refine bsplit h (fun hb2 h => ?_) (fun hb2 h => ?_)
  · refine cond_t (by simp -implicitDefEqProofs +decide only [go_sem, hb2]) ?_
    refine seq_reg rfl (fun K hK => ?_)
    simp -implicitDefEqProofs +decide only [go_sem, Nat.reduceAdd, Int.reduceToNat, hb2]
    refine hK _ ?_
    refine swp_ret ?_
    with_reducible repeat (first | refine nn ?_ | refine nb ?_ | refine nr ?_ | refine nc ?_ | refine ne ?_ | refine nq ?_ | refine nx rfl ?_)
    obtain rfl := some_eq h
    simp -implicitDefEqProofs +decide only [go_sem, Nat.reduceAdd, Int.reduceToNat]
    all_goals first | done | trivial | (simp [maps]; done)
  · refine cond_f (by simp -implicitDefEqProofs +decide only [go_sem, hb2]) ?_
    refine swp_skip ?_
    with_reducible repeat (first | refine nn ?_ | refine nb ?_ | refine nr ?_ | refine nc ?_ | refine ne ?_ | refine nq ?_ | refine nx rfl ?_)
    refine swp_seq ?_
    refine seq_reg rfl (fun K hK => ?_)
    refine bind_of h (fun v7 hv7 h => ?_)
    simp -implicitDefEqProofs +decide only [go_sem, Nat.reduceAdd, Int.reduceToNat, hb2]
    refine call_go [0] false (bodegaref19_ValidPointer_ok ⟨G.glob, noCaps⟩ hG0 a0.First _ hv7) (by simp -implicitDefEqProofs +decide only [go_sem, Nat.reduceAdd, Int.reduceToNat, hb2]; rfl) (by first | rfl | (simp [maps, hb2]; done)) ?_
    refine bsplit h (fun hb8 h => ?_) (fun hb8 h => ?_)
    · simp -implicitDefEqProofs +decide only [go_sem, Nat.reduceAdd, Int.reduceToNat, hb2, hb8]
      refine hK _ ?_
      refine cond_t (by simp -implicitDefEqProofs +decide only [go_sem, hb2, hb8]) ?_
      refine seq_reg rfl (fun K hK => ?_)
      simp -implicitDefEqProofs +decide only [go_sem, Nat.reduceAdd, Int.reduceToNat, hb2, hb8]
      refine hK _ ?_
      refine swp_ret ?_
      with_reducible repeat (first | refine nn ?_ | refine nb ?_ | refine nr ?_ | refine nc ?_ | refine ne ?_ | refine nq ?_ | refine nx rfl ?_)
      obtain rfl := some_eq h
      simp -implicitDefEqProofs +decide only [go_sem, Nat.reduceAdd, Int.reduceToNat]
      all_goals first | done | trivial | (simp [maps]; done)
    · refine bsplit h (fun hb9 h => ?_) (fun hb9 h => ?_)
      · simp -implicitDefEqProofs +decide only [go_sem, Nat.reduceAdd, Int.reduceToNat, hb2, hb8, hb9]
        refine hK _ ?_
        refine cond_t (by simp -implicitDefEqProofs +decide only [go_sem, hb2, hb8, hb9]) ?_
        refine seq_reg rfl (fun K hK => ?_)
        simp -implicitDefEqProofs +decide only [go_sem, Nat.reduceAdd, Int.reduceToNat, hb2, hb8, hb9]
        refine hK _ ?_
        refine swp_ret ?_
        with_reducible repeat (first | refine nn ?_ | refine nb ?_ | refine nr ?_ | refine nc ?_ | refine ne ?_ | refine nq ?_ | refine nx rfl ?_)
        obtain rfl := some_eq h
        simp -implicitDefEqProofs +decide only [go_sem, Nat.reduceAdd, Int.reduceToNat]
        all_goals first | done | trivial | (simp [maps]; done)
      · simp -implicitDefEqProofs +decide only [go_sem, Nat.reduceAdd, Int.reduceToNat, hb2, hb8, hb9]
        refine hK _ ?_
        refine bsplit h (fun hb10 h => ?_) (fun hb10 h => ?_)
        · refine cond_t (by simp -implicitDefEqProofs +decide only [go_sem, hb2, hb8, hb9, hb10]) ?_
          refine seq_reg rfl (fun K hK => ?_)
          simp -implicitDefEqProofs +decide only [go_sem, Nat.reduceAdd, Int.reduceToNat, hb2, hb8, hb9, hb10]
          refine hK _ ?_
          refine swp_ret ?_
          with_reducible repeat (first | refine nn ?_ | refine nb ?_ | refine nr ?_ | refine nc ?_ | refine ne ?_ | refine nq ?_ | refine nx rfl ?_)
          obtain rfl := some_eq h
          simp -implicitDefEqProofs +decide only [go_sem, Nat.reduceAdd, Int.reduceToNat]
          all_goals first | done | trivial | (simp [maps]; done)
        · refine cond_f (by simp -implicitDefEqProofs +decide only [go_sem, hb2, hb8, hb9, hb10]) ?_
          refine swp_skip ?_
          with_reducible repeat (first | refine nn ?_ | refine nb ?_ | refine nr ?_ | refine nc ?_ | refine ne ?_ | refine nq ?_ | refine nx rfl ?_)
          refine swp_seq ?_
          refine seq_reg rfl (fun K hK => ?_)
          simp -implicitDefEqProofs +decide only [go_sem, Nat.reduceAdd, Int.reduceToNat, hb2, hb8, hb9, hb10]
          refine hK _ ?_
          refine swp_block ?_
          refine swp_iter (fun g x30 => stL [(1, (.c (.ptr ⟨1024000001, g⟩ 0 0))), (3, (.c (.p (.int .i64 x30))))] [(⟨1024000001, g⟩, .box true [(.p (.int .i64 a0.First.Line)), (.p (.int .i64 a0.First.Gen)), (.p (.int .i64 a0.Depth)), (.p (.int .i64 a0.Pages.a0.Line)), (.p (.int .i64 a0.Pages.a0.Gen)), (.p (.int .i64 a0.Pages.a1.Line)), (.p (.int .i64 a0.Pages.a1.Gen)), (.p (.int .i64 a0.Pages.a2.Line)), (.p (.int .i64 a0.Pages.a2.Gen)), (.p (.int .i64 a0.Pages.a3.Line)), (.p (.int .i64 a0.Pages.a3.Gen))])] (g + 1)) h (enter_of ?_) ?_
          · refine ren_go (fun g S => [(⟨1024000001, g⟩, (keyT 0 (St.env S 1)))]) (fun g S => []) ?_ ?_ ?_ ?_ ?_
            all_goals try simp -implicitDefEqProofs +decide only [go_sem, Nat.reduceAdd, Int.reduceToNat, hb2, hb8, hb9, hb10]
            all_goals first | done | trivial | omega | (simp [maps, go_sem, hb2, hb8, hb9, hb10]; done) | (simp [maps, go_sem, hb2, hb8, hb9, hb10] <;> omega)
          rintro g x30 s1 h hd1
          rw [bodegaref23_ValidRoot_L1] at h
          try dsimp only
          refine swp_seq ?_
          refine seq_reg rfl (fun K hK => ?_)
          simp -implicitDefEqProofs +decide only [go_sem, Nat.reduceAdd, Int.reduceToNat]
          refine hK _ ?_
          refine bsplit h (fun hb32 h => ?_) (fun hb32 h => ?_)
          · refine cond_t (by simp -implicitDefEqProofs +decide only [go_sem, hb32]) ?_
            refine swp_skip ?_
            with_reducible repeat (first | refine nn ?_ | refine nb ?_ | refine nr ?_ | refine nc ?_ | refine ne ?_ | refine nq ?_ | refine nx rfl ?_)
            refine swp_seq ?_
            refine swp_block ?_
            refine seq_reg rfl (fun K hK => ?_)
            refine psplit h (fun hp33 h => ?_)
            simp -implicitDefEqProofs +decide only [go_sem, Nat.reduceAdd, Int.reduceToNat, hp33, hb32]
            refine opt_ite (by rcases cases4 hp33.1 hp33.2 with hc | hc | hc | hc <;> simp [hc, A4.get]) ?_
            refine opt_v (v' := .agg [(.p (.int .i64 (A4.get a0.Pages x30).Line)), (.p (.int .i64 (A4.get a0.Pages x30).Gen))]) (by rcases cases4 hp33.1 hp33.2 with hc | hc | hc | hc <;> simp [hc, A4.get]) ?_
            refine bind_of h (fun v34 hv34 h => ?_)
            simp -implicitDefEqProofs +decide only [go_sem, Nat.reduceAdd, Int.reduceToNat, hb32]
            refine call_go [0] false (bodegaref23_good_ok ⟨G.glob, noCaps⟩ hG0 (A4.get a0.Pages x30) _ hv34) (by simp -implicitDefEqProofs +decide only [go_sem, Nat.reduceAdd, Int.reduceToNat, hb32]; rfl) (by first | rfl | (simp [maps, hb32]; done)) ?_
            refine bsplit h (fun hb35 h => ?_) (fun hb35 h => ?_)
            · simp -implicitDefEqProofs +decide only [go_sem, Nat.reduceAdd, Int.reduceToNat, hb32, hb35]
              refine hK _ ?_
              refine cond_t (by simp -implicitDefEqProofs +decide only [go_sem, hb32, hb35]) ?_
              refine seq_reg rfl (fun K hK => ?_)
              simp -implicitDefEqProofs +decide only [go_sem, Nat.reduceAdd, Int.reduceToNat, hb32, hb35]
              refine hK _ ?_
              refine swp_ret ?_
              with_reducible repeat (first | refine nn ?_ | refine nb ?_ | refine nr ?_ | refine nc ?_ | refine ne ?_ | refine nq ?_ | refine nx rfl ?_)
              obtain ⟨h, hs1⟩ := exit_of h hd1
              refine ⟨hs1, ?_⟩
              with_reducible repeat (first | refine nn ?_ | refine nb ?_ | refine nr ?_ | refine nc ?_ | refine ne ?_ | refine nq ?_ | refine nx rfl ?_)
              obtain rfl := some_eq h
              simp -implicitDefEqProofs +decide only [go_sem, Nat.reduceAdd, Int.reduceToNat]
              all_goals first | done | trivial | (simp [maps]; done)
            · refine bind_of h (fun v36 hv36 h => ?_)
              simp -implicitDefEqProofs +decide only [go_sem, Nat.reduceAdd, Int.reduceToNat, hb32, hb35]
              refine call_go [0] false (bodegaref23_pages_ok ⟨G.glob, noCaps⟩ hG0 a0.Depth _ hv36) (by simp -implicitDefEqProofs +decide only [go_sem, Nat.reduceAdd, Int.reduceToNat, hb32, hb35]; rfl) (by first | rfl | (simp [maps, hb32, hb35]; done)) ?_
              refine bsplit h (fun hb37 h => ?_) (fun hb37 h => ?_)
              · refine psplit h (fun hp38 h => ?_)
                simp -implicitDefEqProofs +decide only [go_sem, Nat.reduceAdd, Int.reduceToNat, hp38, hb32, hb35, hb37]
                refine opt_ite (by rcases cases4 hp38.1 hp38.2 with hc | hc | hc | hc <;> simp [hc, A4.get]) ?_
                refine opt_v (v' := .agg [(.p (.int .i64 (A4.get a0.Pages x30).Line)), (.p (.int .i64 (A4.get a0.Pages x30).Gen))]) (by rcases cases4 hp38.1 hp38.2 with hc | hc | hc | hc <;> simp [hc, A4.get]) ?_
                simp -implicitDefEqProofs +decide only [go_sem, Nat.reduceAdd, Int.reduceToNat, hb32, hb35, hb37]
                refine hK _ ?_
                refine bsplit h (fun hb39 h => ?_) (fun hb39 h => ?_)
                · refine cond_t (by simp -implicitDefEqProofs +decide only [go_sem, hb32, hb35, hb37, hb39]) ?_
                  refine seq_reg rfl (fun K hK => ?_)
                  simp -implicitDefEqProofs +decide only [go_sem, Nat.reduceAdd, Int.reduceToNat, hb32, hb35, hb37, hb39]
                  refine hK _ ?_
                  refine swp_ret ?_
                  with_reducible repeat (first | refine nn ?_ | refine nb ?_ | refine nr ?_ | refine nc ?_ | refine ne ?_ | refine nq ?_ | refine nx rfl ?_)
                  obtain ⟨h, hs1⟩ := exit_of h hd1
                  refine ⟨hs1, ?_⟩
                  with_reducible repeat (first | refine nn ?_ | refine nb ?_ | refine nr ?_ | refine nc ?_ | refine ne ?_ | refine nq ?_ | refine nx rfl ?_)
                  obtain rfl := some_eq h
                  simp -implicitDefEqProofs +decide only [go_sem, Nat.reduceAdd, Int.reduceToNat]
                  all_goals first | done | trivial | (simp [maps]; done)
                · refine cond_f (by simp -implicitDefEqProofs +decide only [go_sem, hb32, hb35, hb37, hb39]) ?_
                  refine swp_skip ?_
                  with_reducible repeat (first | refine nn ?_ | refine nb ?_ | refine nr ?_ | refine nc ?_ | refine ne ?_ | refine nq ?_ | refine nx rfl ?_)
                  refine swp_reg rfl (fun K hK => ?_)
                  simp -implicitDefEqProofs +decide only [go_sem, Nat.reduceAdd, Int.reduceToNat, hb32, hb35, hb37, hb39]
                  refine hK _ ?_
                  with_reducible repeat (first | refine nn ?_ | refine nb ?_ | refine nr ?_ | refine nc ?_ | refine ne ?_ | refine nq ?_ | refine nx rfl ?_)
                  refine back_of h ?_
                  refine ren_go (fun g S => [(⟨1024000001, g⟩, (keyT 0 (St.env S 1)))]) (fun g S => []) ?_ ?_ ?_ ?_ ?_
                  all_goals try simp -implicitDefEqProofs +decide only [go_sem, Nat.reduceAdd, Int.reduceToNat, hb32, hb35, hb37, hb39]
                  all_goals first | done | trivial | omega | (simp [maps, go_sem, hb32, hb35, hb37, hb39]; done) | (simp [maps, go_sem, hb32, hb35, hb37, hb39] <;> omega)
              · simp -implicitDefEqProofs +decide only [go_sem, Nat.reduceAdd, Int.reduceToNat, hb32, hb35, hb37]
                refine hK _ ?_
                refine cond_f (by simp -implicitDefEqProofs +decide only [go_sem, hb32, hb35, hb37]) ?_
                refine swp_skip ?_
                with_reducible repeat (first | refine nn ?_ | refine nb ?_ | refine nr ?_ | refine nc ?_ | refine ne ?_ | refine nq ?_ | refine nx rfl ?_)
                refine swp_reg rfl (fun K hK => ?_)
                simp -implicitDefEqProofs +decide only [go_sem, Nat.reduceAdd, Int.reduceToNat, hb32, hb35, hb37]
                refine hK _ ?_
                with_reducible repeat (first | refine nn ?_ | refine nb ?_ | refine nr ?_ | refine nc ?_ | refine ne ?_ | refine nq ?_ | refine nx rfl ?_)
                refine back_of h ?_
                refine ren_go (fun g S => [(⟨1024000001, g⟩, (keyT 0 (St.env S 1)))]) (fun g S => []) ?_ ?_ ?_ ?_ ?_
                all_goals try simp -implicitDefEqProofs +decide only [go_sem, Nat.reduceAdd, Int.reduceToNat, hb32, hb35, hb37]
                all_goals first | done | trivial | omega | (simp [maps, go_sem, hb32, hb35, hb37]; done) | (simp [maps, go_sem, hb32, hb35, hb37] <;> omega)
          · refine cond_f (by simp -implicitDefEqProofs +decide only [go_sem, hb32]) ?_
            refine swp_exit ?_
            with_reducible repeat (first | refine nn ?_ | refine nb ?_ | refine nr ?_ | refine nc ?_ | refine ne ?_ | refine nq ?_ | refine nx rfl ?_)
            obtain ⟨h, hs1⟩ := exit_of h hd1
            with_reducible repeat (first | refine nn ?_ | refine nb ?_ | refine nr ?_ | refine nc ?_ | refine ne ?_ | refine nq ?_ | refine nx rfl ?_)
            refine ⟨hs1, ?_⟩
            with_reducible repeat (first | refine nn ?_ | refine nb ?_ | refine nr ?_ | refine nc ?_ | refine ne ?_ | refine nq ?_ | refine nx rfl ?_)
            refine seq_reg rfl (fun K hK => ?_)
            simp -implicitDefEqProofs +decide only [go_sem, Nat.reduceAdd, Int.reduceToNat, hb32]
            refine hK _ ?_
            refine swp_ret ?_
            with_reducible repeat (first | refine nn ?_ | refine nb ?_ | refine nr ?_ | refine nc ?_ | refine ne ?_ | refine nq ?_ | refine nx rfl ?_)
            obtain rfl := some_eq h
            simp -implicitDefEqProofs +decide only [go_sem, Nat.reduceAdd, Int.reduceToNat]
            all_goals first | done | trivial | (simp [maps]; done)
end Go.Sh
end
section
namespace Go.Sh
open Go.Proofs
set_option linter.unusedVariables false
set_option linter.unusedSimpArgs false
set_option maxRecDepth 100000
set_option maxHeartbeats 4000000
noncomputable def bodegaref23_ReadRoot_J1 (v5 : (bodegaref19_Pointer × Bool)) (a0 : api_Page) : ((A4 bodegaref19_Pointer) × Bool) → Option (bodegaref23_Root × Int)
  | (x47, b48) =>
    if (!b48) = true then
      some ((⟨(⟨0, 0⟩ : bodegaref19_Pointer), 0, (⟨(⟨0, 0⟩ : bodegaref19_Pointer), (⟨0, 0⟩ : bodegaref19_Pointer), (⟨0, 0⟩ : bodegaref19_Pointer), (⟨0, 0⟩ : bodegaref19_Pointer)⟩ : (A4 bodegaref19_Pointer))⟩ : bodegaref23_Root), 14)
    else
      (bodegaref23_ValidRoot (⟨v5.1, (IntKind.i64.wrap (shrV .u64 a0.Data.a1 32)), x47⟩ : bodegaref23_Root)).bind fun v50 =>
      if (!v50) = true then
        some ((⟨(⟨0, 0⟩ : bodegaref19_Pointer), 0, (⟨(⟨0, 0⟩ : bodegaref19_Pointer), (⟨0, 0⟩ : bodegaref19_Pointer), (⟨0, 0⟩ : bodegaref19_Pointer), (⟨0, 0⟩ : bodegaref19_Pointer)⟩ : (A4 bodegaref19_Pointer))⟩ : bodegaref23_Root), 14)
      else
        some ((⟨v5.1, (IntKind.i64.wrap (shrV .u64 a0.Data.a1 32)), x47⟩ : bodegaref23_Root), 0)
noncomputable def bodegaref23_ReadRoot_L1 (a0 : api_Page) (v5 : (bodegaref19_Pointer × Bool)) : ((A4 bodegaref19_Pointer) × Bool × Int) → Option (((A4 bodegaref19_Pointer) × Bool × Int) ⊕ (bodegaref23_Root × Int))
  | (x84, b85, x86) =>
    if (decide (x86 < 4)) = true then
      if 0 ≤ (IntKind.i64.wrap (2 + (IntKind.i64.wrap (Int.tdiv x86 2)))) ∧ (IntKind.i64.wrap (2 + (IntKind.i64.wrap (Int.tdiv x86 2)))) < 7 then
        (bodegaref23_pointer (Int.tmod (shrV .u64 (A7.get a0.Data (IntKind.i64.wrap (2 + (IntKind.i64.wrap (Int.tdiv x86 2))))) (IntKind.u64.wrap (IntKind.i64.wrap (32 * (Int.tmod x86 2))))) 4294967296)).bind fun v92 =>
        if 0 ≤ x86 ∧ x86 < 4 then
          some (.inl ((A4.set x84 x86 v92.1), (b85 && v92.2), (IntKind.i64.wrap (x86 + 1))))
        else none
      else none
    else
      Option.map Sum.inr (
        bodegaref23_ReadRoot_J1 v5 a0 (x84, b85))
noncomputable def bodegaref23_ReadRoot (a0 : api_Page) : Option (bodegaref23_Root × Int) :=
  if (a0.Line != 96) = true then
    some ((⟨(⟨0, 0⟩ : bodegaref19_Pointer), 0, (⟨(⟨0, 0⟩ : bodegaref19_Pointer), (⟨0, 0⟩ : bodegaref19_Pointer), (⟨0, 0⟩ : bodegaref19_Pointer), (⟨0, 0⟩ : bodegaref19_Pointer)⟩ : (A4 bodegaref19_Pointer))⟩ : bodegaref23_Root), 1)
  else
    if (decide (a0.Data.a1 ≥ 25769803776)) = true then
      some ((⟨(⟨0, 0⟩ : bodegaref19_Pointer), 0, (⟨(⟨0, 0⟩ : bodegaref19_Pointer), (⟨0, 0⟩ : bodegaref19_Pointer), (⟨0, 0⟩ : bodegaref19_Pointer), (⟨0, 0⟩ : bodegaref19_Pointer)⟩ : (A4 bodegaref19_Pointer))⟩ : bodegaref23_Root), 14)
    else
      (bodegaref23_pointer (Int.tmod a0.Data.a1 4294967296)).bind fun v5 =>
      iter (bodegaref23_ReadRoot_L1 a0 v5) ((⟨(⟨0, 0⟩ : bodegaref19_Pointer), (⟨0, 0⟩ : bodegaref19_Pointer), (⟨0, 0⟩ : bodegaref19_Pointer), (⟨0, 0⟩ : bodegaref19_Pointer)⟩ : (A4 bodegaref19_Pointer)), v5.2, 0)
theorem bodegaref23_ReadRoot_ok (G : Glob) (hG0 : G.glob 0 = some [(.int .i64 0), (.int .i64 0)]) (a0 : api_Page) (res : (bodegaref23_Root × Int)) (h : bodegaref23_ReadRoot a0 = some res) : Spec Tryd.prog G 9 [.agg [.p (.int .i64 a0.Line), .p (.int .u64 a0.Head), .p (.int .u64 a0.Data.a0), .p (.int .u64 a0.Data.a1), .p (.int .u64 a0.Data.a2), .p (.int .u64 a0.Data.a3), .p (.int .u64 a0.Data.a4), .p (.int .u64 a0.Data.a5), .p (.int .u64 a0.Data.a6)]] (fun r ios => r = .tup [.agg [.p (.int .i64 res.1.First.Line), .p (.int .i64 res.1.First.Gen), .p (.int .i64 res.1.Depth), .p (.int .i64 res.1.Pages.a0.Line), .p (.int .i64 res.1.Pages.a0.Gen), .p (.int .i64 res.1.Pages.a1.Line), .p (.int .i64 res.1.Pages.a1.Gen), .p (.int .i64 res.1.Pages.a2.Line), .p (.int .i64 res.1.Pages.a2.Gen), .p (.int .i64 res.1.Pages.a3.Line), .p (.int .i64 res.1.Pages.a3.Gen)], .cell (.p (.int .i64 res.2))] ∧ ios = []) := by
  rw [bodegaref23_ReadRoot] at h
  refine spec_of Tryd.mixed Tryd.func9 rfl rfl (by simp only [List.length]; decide +kernel) ?_
  refine swp_fresh (fun g => stL [(0, (.agg [(.p (.int .i64 a0.Line)), (.p (.int .u64 a0.Head)), (.p (.int .u64 a0.Data.a0)), (.p (.int .u64 a0.Data.a1)), (.p (.int .u64 a0.Data.a2)), (.p (.int .u64 a0.Data.a3)), (.p (.int .u64 a0.Data.a4)), (.p (.int .u64 a0.Data.a5)), (.p (.int .u64 a0.Data.a6))]))] [] (g + 1)) ?_ (fun g => ?_)
  · refine ren_go (fun g S => []) (fun g S => []) ?_ ?_ ?_ ?_ ?_
    all_goals try simp -implicitDefEqProofs +decide only [go_sem, Nat.reduceAdd, Int.reduceToNat]
    all_goals first | done | trivial | omega | (simp [maps, go_sem]; done) | (simp [maps, go_sem] <;> omega)
  refine seq_reg rfl (fun K hK => ?_)
  simp -implicitDefEqProofs +decide only [go_sem, Nat.reduceAdd, Int.reduceToNat]
  refine hK _ ?_
  refine swp_seq ?_
  refine seq_reg rfl (fun K hK => ?_)
  simp -implicitDefEqProofs +decide only [go_sem, Nat.reduceAdd, Int.reduceToNat]
  refine hK _ ?_
  refine bsplit h (fun hb2 h => ?_) (fun hb2 h => ?_)
  · refine cond_t (by simp -implicitDefEqProofs +decide only [go_sem, hb2]) ?_
    refine seq_reg rfl (fun K hK => ?_)
    simp -implicitDefEqProofs +decide only [go_sem, Nat.reduceAdd, Int.reduceToNat, hb2]
    refine hK _ ?_
    refine swp_ret ?_
    with_reducible repeat (first | refine nn ?_ | refine nb ?_ | refine nr ?_ | refine nc ?_ | refine ne ?_ | refine nq ?_ | refine nx rfl ?_)
    obtain rfl := some_eq h
    simp -implicitDefEqProofs +decide only [go_sem, Nat.reduceAdd, Int.reduceToNat]
    all_goals first | done | trivial | (simp [maps]; done)
  · refine cond_f (by simp -implicitDefEqProofs +decide only [go_sem, hb2]) ?_
    refine swp_skip ?_
    with_reducible repeat (first | refine nn ?_ | refine nb ?_ | refine nr ?_ | refine nc ?_ | refine ne ?_ | refine nq ?_ | refine nx rfl ?_)
    refine seq_reg rfl (fun K hK => ?_)
    simp -implicitDefEqProofs +decide only [go_sem, Nat.reduceAdd, Int.reduceToNat, hb2]
    refine hK _ ?_
    refine swp_seq ?_
    refine seq_reg rfl (fun K hK => ?_)
    simp -implicitDefEqProofs +decide only [go_sem, Nat.reduceAdd, Int.reduceToNat, hb2]
    refine hK _ ?_
    refine bsplit h (fun hb4 h => ?_) (fun hb4 h => ?_)
    · refine cond_t (by simp -implicitDefEqProofs +decide only [go_sem, hb2, hb4]) ?_
      refine seq_reg rfl (fun K hK => ?_)
      simp -implicitDefEqProofs +decide only [go_sem, Nat.reduceAdd, Int.reduceToNat, hb2, hb4]
      refine hK _ ?_
      refine swp_ret ?_
      with_reducible repeat (first | refine nn ?_ | refine nb ?_ | refine nr ?_ | refine nc ?_ | refine ne ?_ | refine nq ?_ | refine nx rfl ?_)
      obtain rfl := some_eq h
      simp -implicitDefEqProofs +decide only [go_sem, Nat.reduceAdd, Int.reduceToNat]
      all_goals first | done | trivial | (simp [maps]; done)
    · refine cond_f (by simp -implicitDefEqProofs +decide only [go_sem, hb2, hb4]) ?_
      refine swp_skip ?_
      with_reducible repeat (first | refine nn ?_ | refine nb ?_ | refine nr ?_ | refine nc ?_ | refine ne ?_ | refine nq ?_ | refine nx rfl ?_)
      refine seq_reg rfl (fun K hK => ?_)
      simp -implicitDefEqProofs +decide only [go_sem, Nat.reduceAdd, Int.reduceToNat, hb2, hb4]
      refine hK _ ?_
      refine seq_reg rfl (fun K hK => ?_)
      simp -implicitDefEqProofs +decide only [go_sem, Nat.reduceAdd, Int.reduceToNat, hb2, hb4]
      refine hK _ ?_
      refine seq_reg rfl (fun K hK => ?_)
      refine bind_of h (fun v5 hv5 h => ?_)
      simp -implicitDefEqProofs +decide only [go_sem, Nat.reduceAdd, Int.reduceToNat, hb2, hb4]
      refine call_go [0] false (bodegaref23_pointer_ok ⟨G.glob, noCaps⟩ hG0 (Int.tmod a0.Data.a1 4294967296) _ hv5) (by simp -implicitDefEqProofs +decide only [go_sem, Nat.reduceAdd, Int.reduceToNat, hb2, hb4]; rfl) (by first | rfl | (simp [maps, hb2, hb4]; done)) ?_
      simp -implicitDefEqProofs +decide only [go_sem, Nat.reduceAdd, Int.reduceToNat, hb2, hb4]
      refine hK _ ?_
      refine cut1 (Joins (bodegaref23_ReadRoot_J1 v5 a0) (fun g x => match x with | (x47, b48) => stL [(2, (.c (.ptr ⟨1024000001, g⟩ 0 0))), (4, (.c (.ptr ⟨1024000002, g⟩ 0 0))), (5, (.c (.p (.bool b48))))] [(⟨1024000001, g⟩, .box true [(.p (.int .i64 0)), (.p (.int .i64 0)), (.p (.int .i64 0)), (.p (.int .i64 0)), (.p (.int .i64 0)), (.p (.int .i64 0)), (.p (.int .i64 0)), (.p (.int .i64 0)), (.p (.int .i64 0)), (.p (.int .i64 0)), (.p (.int .i64 0))]), (⟨1024000002, g⟩, .box true [(.p (.int .i64 v5.1.Line)), (.p (.int .i64 v5.1.Gen)), (.p (.int .i64 (IntKind.i64.wrap (shrV .u64 a0.Data.a1 32)))), (.p (.int .i64 x47.a0.Line)), (.p (.int .i64 x47.a0.Gen)), (.p (.int .i64 x47.a1.Line)), (.p (.int .i64 x47.a1.Gen)), (.p (.int .i64 x47.a2.Line)), (.p (.int .i64 x47.a2.Gen)), (.p (.int .i64 x47.a3.Line)), (.p (.int .i64 x47.a3.Gen))])] (g + 1)) res) ?_ (fun hj1 => ?_)
      · refine join_of ?_
        rintro g ⟨x47, b48⟩ h
        rw [bodegaref23_ReadRoot_J1] at h
        try dsimp only
        refine swp_seq ?_
        refine seq_reg rfl (fun K hK => ?_)
        refine bsplit h (fun hb49 h => ?_) (fun hb49 h => ?_)
        · simp -implicitDefEqProofs +decide only [go_sem, Nat.reduceAdd, Int.reduceToNat, hb2, hb4, hb49]
          refine hK _ ?_
          refine cond_t (by simp -implicitDefEqProofs +decide only [go_sem, hb2, hb4, hb49]) ?_
          refine seq_reg rfl (fun K hK => ?_)
          simp -implicitDefEqProofs +decide only [go_sem, Nat.reduceAdd, Int.reduceToNat, hb2, hb4, hb49]
          refine hK _ ?_
          refine swp_ret ?_
          with_reducible repeat (first | refine nn ?_ | refine nb ?_ | refine nr ?_ | refine nc ?_ | refine ne ?_ | refine nq ?_ | refine nx rfl ?_)
          obtain rfl := some_eq h
          simp -implicitDefEqProofs +decide only [go_sem, Nat.reduceAdd, Int.reduceToNat]
          all_goals first | done | trivial | (simp [maps]; done)
        · refine bind_of h (fun v50 hv50 h => ?_)
          simp -implicitDefEqProofs +decide only [go_sem, Nat.reduceAdd, Int.reduceToNat, hb2, hb4, hb49]
          refine call_go [0] false (bodegaref23_ValidRoot_ok ⟨G.glob, noCaps⟩ hG0 (⟨v5.1, (IntKind.i64.wrap (shrV .u64 a0.Data.a1 32)), x47⟩ : bodegaref23_Root) _ hv50) (by simp -implicitDefEqProofs +decide only [go_sem, Nat.reduceAdd, Int.reduceToNat, hb2, hb4, hb49]; rfl) (by first | rfl | (simp [maps, hb2, hb4, hb49]; done)) ?_
          simp -implicitDefEqProofs +decide only [go_sem, Nat.reduceAdd, Int.reduceToNat, hb2, hb4, hb49]
          refine hK _ ?_
          refine bsplit h (fun hb51 h => ?_) (fun hb51 h => ?_)
          · refine cond_t (by simp -implicitDefEqProofs +decide only [go_sem, hb2, hb4, hb49, hb51]) ?_
            refine seq_reg rfl (fun K hK => ?_)
            simp -implicitDefEqProofs +decide only [go_sem, Nat.reduceAdd, Int.reduceToNat, hb2, hb4, hb49, hb51]
            refine hK _ ?_
            refine swp_ret ?_
            with_reducible repeat (first | refine nn ?_ | refine nb ?_ | refine nr ?_ | refine nc ?_ | refine ne ?_ | refine nq ?_ | refine nx rfl ?_)
            obtain rfl := some_eq h
            simp -implicitDefEqProofs +decide only [go_sem, Nat.reduceAdd, Int.reduceToNat]
            all_goals first | done | trivial | (simp [maps]; done)
          · refine cond_f (by simp -implicitDefEqProofs +decide only [go_sem, hb2, hb4, hb49, hb51]) ?_
            refine swp_skip ?_
            with_reducible repeat (first | refine nn ?_ | refine nb ?_ | refine nr ?_ | refine nc ?_ | refine ne ?_ | refine nq ?_ | refine nx rfl ?_)
            refine seq_reg rfl (fun K hK => ?_)
            simp -implicitDefEqProofs +decide only [go_sem, Nat.reduceAdd, Int.reduceToNat, hb2, hb4, hb49, hb51]
            refine hK _ ?_
            refine swp_ret ?_
            with_reducible repeat (first | refine nn ?_ | refine nb ?_ | refine nr ?_ | refine nc ?_ | refine ne ?_ | refine nq ?_ | refine nx rfl ?_)
            obtain rfl := some_eq h
            simp -implicitDefEqProofs +decide only [go_sem, Nat.reduceAdd, Int.reduceToNat]
            all_goals first | done | trivial | (simp [maps]; done)
      refine swp_seq ?_
      refine seq_reg rfl (fun K hK => ?_)
      simp -implicitDefEqProofs +decide only [go_sem, Nat.reduceAdd, Int.reduceToNat, hb2, hb4]
      refine hK _ ?_
      refine swp_block ?_
      refine swp_iter (fun g x => match x with | (x84, b85, x86) => stL [(1, (.c (.ptr ⟨1024000003, g⟩ 0 0))), (2, (.c (.ptr ⟨1024000004, g⟩ 0 0))), (4, (.c (.ptr ⟨1024000005, g⟩ 0 0))), (5, (.c (.p (.bool b85)))), (6, (.c (.p (.int .i64 x86))))] [(⟨1024000003, g⟩, .box true [(.p (.int .i64 a0.Line)), (.p (.int .u64 a0.Head)), (.p (.int .u64 a0.Data.a0)), (.p (.int .u64 a0.Data.a1)), (.p (.int .u64 a0.Data.a2)), (.p (.int .u64 a0.Data.a3)), (.p (.int .u64 a0.Data.a4)), (.p (.int .u64 a0.Data.a5)), (.p (.int .u64 a0.Data.a6))]), (⟨1024000004, g⟩, .box true [(.p (.int .i64 0)), (.p (.int .i64 0)), (.p (.int .i64 0)), (.p (.int .i64 0)), (.p (.int .i64 0)), (.p (.int .i64 0)), (.p (.int .i64 0)), (.p (.int .i64 0)), (.p (.int .i64 0)), (.p (.int .i64 0)), (.p (.int .i64 0))]), (⟨1024000005, g⟩, .box true [(.p (.int .i64 v5.1.Line)), (.p (.int .i64 v5.1.Gen)), (.p (.int .i64 (IntKind.i64.wrap (shrV .u64 a0.Data.a1 32)))), (.p (.int .i64 x84.a0.Line)), (.p (.int .i64 x84.a0.Gen)), (.p (.int .i64 x84.a1.Line)), (.p (.int .i64 x84.a1.Gen)), (.p (.int .i64 x84.a2.Line)), (.p (.int .i64 x84.a2.Gen)), (.p (.int .i64 x84.a3.Line)), (.p (.int .i64 x84.a3.Gen))])] (g + 1)) h (enter_of ?_) ?_
      · refine ren_go (fun g S => [(⟨1024000003, g⟩, (keyT 0 (St.env S 1))), (⟨1024000004, g⟩, (keyT 0 (St.env S 2))), (⟨1024000005, g⟩, (keyT 0 (St.env S 4)))]) (fun g S => []) ?_ ?_ ?_ ?_ ?_
        all_goals try simp -implicitDefEqProofs +decide only [go_sem, Nat.reduceAdd, Int.reduceToNat, hb2, hb4]
        all_goals first | done | trivial | omega | (simp [maps, go_sem, hb2, hb4]; done) | (simp [maps, go_sem, hb2, hb4] <;> omega)
      rintro g ⟨x84, b85, x86⟩ s1 h hd1
      rw [bodegaref23_ReadRoot_L1] at h
      try dsimp only
      refine swp_seq ?_
      refine seq_reg rfl (fun K hK => ?_)
      simp -implicitDefEqProofs +decide only [go_sem, Nat.reduceAdd, Int.reduceToNat]
      refine hK _ ?_
      refine bsplit h (fun hb90 h => ?_) (fun hb90 h => ?_)
      · refine cond_t (by simp -implicitDefEqProofs +decide only [go_sem, hb90]) ?_
        refine swp_skip ?_
        with_reducible repeat (first | refine nn ?_ | refine nb ?_ | refine nr ?_ | refine nc ?_ | refine ne ?_ | refine nq ?_ | refine nx rfl ?_)
        refine swp_seq ?_
        refine swp_block ?_
        refine seq_reg rfl (fun K hK => ?_)
        simp -implicitDefEqProofs +decide only [go_sem, Nat.reduceAdd, Int.reduceToNat, hb90]
        refine hK _ ?_
        refine seq_reg rfl (fun K hK => ?_)
        refine psplit h (fun hp91 h => ?_)
        simp -implicitDefEqProofs +decide only [go_sem, Nat.reduceAdd, Int.reduceToNat, hp91, hb90]
        first | refine opt_get (x := (.p (.int .u64 (A7.get a0.Data (IntKind.i64.wrap (2 + (IntKind.i64.wrap (Int.tdiv x86 2)))))))) (by rcases cases7 hp91.1 hp91.2 with hc | hc | hc | hc | hc | hc | hc <;> simp [hc, A7.get]) ?_ | refine opt_get' (x := (.p (.int .u64 (A7.get a0.Data (IntKind.i64.wrap (2 + (IntKind.i64.wrap (Int.tdiv x86 2)))))))) (by rcases cases7 hp91.1 hp91.2 with hc | hc | hc | hc | hc | hc | hc <;> simp [hc, A7.get]) ?_
        refine bind_of h (fun v92 hv92 h => ?_)
        simp -implicitDefEqProofs +decide only [go_sem, Nat.reduceAdd, Int.reduceToNat, hb90]
        refine call_go [0] false (bodegaref23_pointer_ok ⟨G.glob, noCaps⟩ hG0 (Int.tmod (shrV .u64 (A7.get a0.Data (IntKind.i64.wrap (2 + (IntKind.i64.wrap (Int.tdiv x86 2))))) (IntKind.u64.wrap (IntKind.i64.wrap (32 * (Int.tmod x86 2))))) 4294967296) _ hv92) (by simp -implicitDefEqProofs +decide only [go_sem, Nat.reduceAdd, Int.reduceToNat, hb90]; rfl) (by first | rfl | (simp [maps, hb90]; done)) ?_
        refine psplit h (fun hp93 h => ?_)
        simp -implicitDefEqProofs +decide only [go_sem, Nat.reduceAdd, Int.reduceToNat, hp93, hb90]
        refine opt_ite (by rcases cases4 hp93.1 hp93.2 with hc | hc | hc | hc <;> simp [hc]) ?_
        refine opt_wr (l' := [(.p (.int .i64 v5.1.Line)), (.p (.int .i64 v5.1.Gen)), (.p (.int .i64 (IntKind.i64.wrap (shrV .u64 a0.Data.a1 32)))), (.p (.int .i64 (A4.set x84 x86 v92.1).a0.Line)), (.p (.int .i64 (A4.set x84 x86 v92.1).a0.Gen)), (.p (.int .i64 (A4.set x84 x86 v92.1).a1.Line)), (.p (.int .i64 (A4.set x84 x86 v92.1).a1.Gen)), (.p (.int .i64 (A4.set x84 x86 v92.1).a2.Line)), (.p (.int .i64 (A4.set x84 x86 v92.1).a2.Gen)), (.p (.int .i64 (A4.set x84 x86 v92.1).a3.Line)), (.p (.int .i64 (A4.set x84 x86 v92.1).a3.Gen))]) (by rcases cases4 hp93.1 hp93.2 with hc | hc | hc | hc <;> simp [hc, A4.get, A4.set]) ?_
        simp -implicitDefEqProofs +decide only [go_sem, Nat.reduceAdd, Int.reduceToNat, hb90]
        refine hK _ ?_
        refine swp_reg rfl (fun K hK => ?_)
        rcases hb94 : b85 with _ | _
        · replace h : some (.inl ((A4.set x84 x86 v92.1), false, (IntKind.i64.wrap (x86 + 1)))) = some s1 := by first | exact h | (rw [and_f hb94] at h; exact h)
          simp -implicitDefEqProofs +decide only [go_sem, Nat.reduceAdd, Int.reduceToNat, hb90, hb94]
          refine hK _ ?_
          with_reducible repeat (first | refine nn ?_ | refine nb ?_ | refine nr ?_ | refine nc ?_ | refine ne ?_ | refine nq ?_ | refine nx rfl ?_)
          refine swp_reg rfl (fun K hK => ?_)
          simp -implicitDefEqProofs +decide only [go_sem, Nat.reduceAdd, Int.reduceToNat, hb90, hb94]
          refine hK _ ?_
          with_reducible repeat (first | refine nn ?_ | refine nb ?_ | refine nr ?_ | refine nc ?_ | refine ne ?_ | refine nq ?_ | refine nx rfl ?_)
          refine back_of h ?_
          refine ren_go (fun g S => [(⟨1024000003, g⟩, (keyT 0 (St.env S 1))), (⟨1024000004, g⟩, (keyT 0 (St.env S 2))), (⟨1024000005, g⟩, (keyT 0 (St.env S 4)))]) (fun g S => []) ?_ ?_ ?_ ?_ ?_
          all_goals try simp -implicitDefEqProofs +decide only [go_sem, Nat.reduceAdd, Int.reduceToNat, hb90, hb94]
          all_goals first | done | trivial | omega | (simp [maps, go_sem, hb90, hb94]; done) | (simp [maps, go_sem, hb90, hb94] <;> omega)
        · replace h : some (.inl ((A4.set x84 x86 v92.1), v92.2, (IntKind.i64.wrap (x86 + 1)))) = some s1 := by first | exact h | (rw [and_t hb94] at h; exact h)
          simp -implicitDefEqProofs +decide only [go_sem, Nat.reduceAdd, Int.reduceToNat, hb90, hb94]
          refine hK _ ?_
          with_reducible repeat (first | refine nn ?_ | refine nb ?_ | refine nr ?_ | refine nc ?_ | refine ne ?_ | refine nq ?_ | refine nx rfl ?_)
          refine swp_reg rfl (fun K hK => ?_)
          simp -implicitDefEqProofs +decide only [go_sem, Nat.reduceAdd, Int.reduceToNat, hb90, hb94]
          refine hK _ ?_
          with_reducible repeat (first | refine nn ?_ | refine nb ?_ | refine nr ?_ | refine nc ?_ | refine ne ?_ | refine nq ?_ | refine nx rfl ?_)
          refine back_of h ?_
          refine ren_go (fun g S => [(⟨1024000003, g⟩, (keyT 0 (St.env S 1))), (⟨1024000004, g⟩, (keyT 0 (St.env S 2))), (⟨1024000005, g⟩, (keyT 0 (St.env S 4)))]) (fun g S => []) ?_ ?_ ?_ ?_ ?_
          all_goals try simp -implicitDefEqProofs +decide only [go_sem, Nat.reduceAdd, Int.reduceToNat, hb90, hb94]
          all_goals first | done | trivial | omega | (simp [maps, go_sem, hb90, hb94]; done) | (simp [maps, go_sem, hb90, hb94] <;> omega)
      · refine cond_f (by simp -implicitDefEqProofs +decide only [go_sem, hb90]) ?_
        refine swp_exit ?_
        with_reducible repeat (first | refine nn ?_ | refine nb ?_ | refine nr ?_ | refine nc ?_ | refine ne ?_ | refine nq ?_ | refine nx rfl ?_)
        obtain ⟨h, hs1⟩ := exit_of h hd1
        with_reducible repeat (first | refine nn ?_ | refine nb ?_ | refine nr ?_ | refine nc ?_ | refine ne ?_ | refine nq ?_ | refine nx rfl ?_)
        refine ⟨hs1, ?_⟩
        with_reducible repeat (first | refine nn ?_ | refine nb ?_ | refine nr ?_ | refine nc ?_ | refine ne ?_ | refine nq ?_ | refine nx rfl ?_)
        refine jump_of hj1 h ?_
        refine ren_go (fun g S => [(⟨1024000001, g⟩, (keyT 0 (St.env S 2))), (⟨1024000002, g⟩, (keyT 0 (St.env S 4)))]) (fun g S => []) ?_ ?_ ?_ ?_ ?_
        all_goals try simp -implicitDefEqProofs +decide only [go_sem, Nat.reduceAdd, Int.reduceToNat, hb90]
        all_goals first | done | trivial | omega | (simp [maps, go_sem, hb90]; done) | (simp [maps, go_sem, hb90] <;> omega)
end Go.Sh
end
section
namespace Go.Sh
open Go.Proofs
set_option linter.unusedVariables false
set_option linter.unusedSimpArgs false
set_option maxRecDepth 100000
set_option maxHeartbeats 4000000
noncomputable def bodegaref23_WriteRoot_L1 (a1 : bodegaref23_Root) (a0 : api_Page) : ((A7 Int) × Int) → Option (((A7 Int) × Int) ⊕ (api_Page × Int))
  | (x28, x29) =>
    if (decide (x29 < 2)) = true then
      if 0 ≤ (IntKind.i64.wrap (2 * x29)) ∧ (IntKind.i64.wrap (2 * x29)) < 4 then
        (bodegaref19_Pack (A4.get a1.Pages (IntKind.i64.wrap (2 * x29)))).bind fun v33 =>
        if 0 ≤ (IntKind.i64.wrap ((IntKind.i64.wrap (2 * x29)) + 1)) ∧ (IntKind.i64.wrap ((IntKind.i64.wrap (2 * x29)) + 1)) < 4 then
          (bodegaref19_Pack (A4.get a1.Pages (IntKind.i64.wrap ((IntKind.i64.wrap (2 * x29)) + 1)))).bind fun v35 =>
          if 0 ≤ (IntKind.i64.wrap (2 + x29)) ∧ (IntKind.i64.wrap (2 + x29)) < 7 then
            some (.inl ((A7.set x28 (IntKind.i64.wrap (2 + x29)) (IntKind.u64.wrap ((IntKind.u64.wrap v33) + (shlV .u64 (IntKind.u64.wrap v35) 32)))), (IntKind.i64.wrap (x29 + 1))))
          else none
        else none
      else none
    else
      Option.map Sum.inr (
        some ((⟨a0.Line, a0.Head, x28⟩ : api_Page), 0))
noncomputable def bodegaref23_WriteRoot (a0 : api_Page) (a1 : bodegaref23_Root) : Option (api_Page × Int) :=
  if (a0.Line != 96) = true then
    some ((⟨0, 0, (⟨0, 0, 0, 0, 0, 0, 0⟩ : (A7 Int))⟩ : api_Page), 1)
  else
    (bodegaref23_ValidRoot a1).bind fun v5 =>
    if (!v5) = true then
      some ((⟨0, 0, (⟨0, 0, 0, 0, 0, 0, 0⟩ : (A7 Int))⟩ : api_Page), 1)
    else
      (bodegaref19_Pack a1.First).bind fun v7 =>
      iter (bodegaref23_WriteRoot_L1 a1 a0) ((⟨a0.Data.a0, (IntKind.u64.wrap ((IntKind.u64.wrap v7) + (shlV .u64 (IntKind.u64.wrap a1.Depth) 32))), a0.Data.a2, a0.Data.a3, a0.Data.a4, a0.Data.a5, a0.Data.a6⟩ : (A7 Int)), 0)
theorem bodegaref23_WriteRoot_ok (G : Glob) (hG0 : G.glob 0 = some [(.int .i64 0), (.int .i64 0)]) (a0 : api_Page) (a1 : bodegaref23_Root) (res : (api_Page × Int)) (h : bodegaref23_WriteRoot a0 a1 = some res) : Spec Tryd.prog G 11 [.agg [.p (.int .i64 a0.Line), .p (.int .u64 a0.Head), .p (.int .u64 a0.Data.a0), .p (.int .u64 a0.Data.a1), .p (.int .u64 a0.Data.a2), .p (.int .u64 a0.Data.a3), .p (.int .u64 a0.Data.a4), .p (.int .u64 a0.Data.a5), .p (.int .u64 a0.Data.a6)], .agg [.p (.int .i64 a1.First.Line), .p (.int .i64 a1.First.Gen), .p (.int .i64 a1.Depth), .p (.int .i64 a1.Pages.a0.Line), .p (.int .i64 a1.Pages.a0.Gen), .p (.int .i64 a1.Pages.a1.Line), .p (.int .i64 a1.Pages.a1.Gen), .p (.int .i64 a1.Pages.a2.Line), .p (.int .i64 a1.Pages.a2.Gen), .p (.int .i64 a1.Pages.a3.Line), .p (.int .i64 a1.Pages.a3.Gen)]] (fun r ios => r = .tup [.agg [.p (.int .i64 res.1.Line), .p (.int .u64 res.1.Head), .p (.int .u64 res.1.Data.a0), .p (.int .u64 res.1.Data.a1), .p (.int .u64 res.1.Data.a2), .p (.int .u64 res.1.Data.a3), .p (.int .u64 res.1.Data.a4), .p (.int .u64 res.1.Data.a5), .p (.int .u64 res.1.Data.a6)], .cell (.p (.int .i64 res.2))] ∧ ios = []) := by
  rw [bodegaref23_WriteRoot] at h
  refine spec_of Tryd.mixed Tryd.func11 rfl rfl (by simp only [List.length]; decide +kernel) ?_
  refine swp_fresh (fun g => stL [(0, (.agg [(.p (.int .i64 a0.Line)), (.p (.int .u64 a0.Head)), (.p (.int .u64 a0.Data.a0)), (.p (.int .u64 a0.Data.a1)), (.p (.int .u64 a0.Data.a2)), (.p (.int .u64 a0.Data.a3)), (.p (.int .u64 a0.Data.a4)), (.p (.int .u64 a0.Data.a5)), (.p (.int .u64 a0.Data.a6))])), (1, (.agg [(.p (.int .i64 a1.First.Line)), (.p (.int .i64 a1.First.Gen)), (.p (.int .i64 a1.Depth)), (.p (.int .i64 a1.Pages.a0.Line)), (.p (.int .i64 a1.Pages.a0.Gen)), (.p (.int .i64 a1.Pages.a1.Line)), (.p (.int .i64 a1.Pages.a1.Gen)), (.p (.int .i64 a1.Pages.a2.Line)), (.p (.int .i64 a1.Pages.a2.Gen)), (.p (.int .i64 a1.Pages.a3.Line)), (.p (.int .i64 a1.Pages.a3.Gen))]))] [] (g + 1)) ?_ (fun g => ?_)
  · refine ren_go (fun g S => []) (fun g S => []) ?_ ?_ ?_ ?_ ?_
    all_goals try simp -implicitDefEqProofs +decide only [go_sem, Nat.reduceAdd, Int.reduceToNat]
    all_goals first | done | trivial | omega | (simp [maps, go_sem]; done) | (simp [maps, go_sem] <;> omega)
  refine seq_reg rfl (fun K hK => ?_)
  simp -implicitDefEqProofs +decide only [go_sem, Nat.reduceAdd, Int.reduceToNat]
  refine hK _ ?_
  refine swp_seq ?_
  refine seq_reg rfl (fun K hK => ?_)
  refine bsplit h (fun hb4 h => ?_) (fun hb4 h => ?_)
  · simp -implicitDefEqProofs +decide only [go_sem, Nat.reduceAdd, Int.reduceToNat, hb4]
    refine hK _ ?_
    refine cond_t (by simp -implicitDefEqProofs +decide only [go_sem, hb4]) ?_
    refine seq_reg rfl (fun K hK => ?_)
    simp -implicitDefEqProofs +decide only [go_sem, Nat.reduceAdd, Int.reduceToNat, hb4]
    refine hK _ ?_
    refine swp_ret ?_
    with_reducible repeat (first | refine nn ?_ | refine nb ?_ | refine nr ?_ | refine nc ?_ | refine ne ?_ | refine nq ?_ | refine nx rfl ?_)
    obtain rfl := some_eq h
    simp -implicitDefEqProofs +decide only [go_sem, Nat.reduceAdd, Int.reduceToNat]
    all_goals first | done | trivial | (simp [maps]; done)
  · refine bind_of h (fun v5 hv5 h => ?_)
    simp -implicitDefEqProofs +decide only [go_sem, Nat.reduceAdd, Int.reduceToNat, hb4]
    refine call_go [0] false (bodegaref23_ValidRoot_ok ⟨G.glob, noCaps⟩ hG0 a1 _ hv5) (by simp -implicitDefEqProofs +decide only [go_sem, Nat.reduceAdd, Int.reduceToNat, hb4]; rfl) (by first | rfl | (simp [maps, hb4]; done)) ?_
    simp -implicitDefEqProofs +decide only [go_sem, Nat.reduceAdd, Int.reduceToNat, hb4]
    refine hK _ ?_
    refine bsplit h (fun hb6 h => ?_) (fun hb6 h => ?_)
    · refine cond_t (by simp -implicitDefEqProofs +decide only [go_sem, hb4, hb6]) ?_
      refine seq_reg rfl (fun K hK => ?_)
      simp -implicitDefEqProofs +decide only [go_sem, Nat.reduceAdd, Int.reduceToNat, hb4, hb6]
      refine hK _ ?_
      refine swp_ret ?_
      with_reducible repeat (first | refine nn ?_ | refine nb ?_ | refine nr ?_ | refine nc ?_ | refine ne ?_ | refine nq ?_ | refine nx rfl ?_)
      obtain rfl := some_eq h
      simp -implicitDefEqProofs +decide only [go_sem, Nat.reduceAdd, Int.reduceToNat]
      all_goals first | done | trivial | (simp [maps]; done)
    · refine cond_f (by simp -implicitDefEqProofs +decide only [go_sem, hb4, hb6]) ?_
      refine swp_skip ?_
      with_reducible repeat (first | refine nn ?_ | refine nb ?_ | refine nr ?_ | refine nc ?_ | refine ne ?_ | refine nq ?_ | refine nx rfl ?_)
      refine seq_reg rfl (fun K hK => ?_)
      simp -implicitDefEqProofs +decide only [go_sem, Nat.reduceAdd, Int.reduceToNat, hb4, hb6]
      refine hK _ ?_
      refine seq_drw rfl (fun K hK => ?_)
      refine bind_of h (fun v7 hv7 h => ?_)
      simp -implicitDefEqProofs +decide only [go_sem, Nat.reduceAdd, Int.reduceToNat, hb4, hb6]
      refine call_go [0] false (bodegaref19_Pack_ok ⟨G.glob, noCaps⟩ hG0 a1.First _ hv7) (by simp -implicitDefEqProofs +decide only [go_sem, Nat.reduceAdd, Int.reduceToNat, hb4, hb6]; rfl) (by first | rfl | (simp [maps, hb4, hb6]; done)) ?_
      simp -implicitDefEqProofs +decide only [go_sem, Nat.reduceAdd, Int.reduceToNat, hb4, hb6]
      refine draw_go (by kernel_rfl) ?_
      refine hK _ ?_
      refine swp_seq ?_
      refine seq_reg rfl (fun K hK => ?_)
      simp -implicitDefEqProofs +decide only [go_sem, Nat.reduceAdd, Int.reduceToNat, hb4, hb6]
      refine hK _ ?_
      refine swp_block ?_
      refine swp_iter (fun g x => match x with | (x28, x29) => stL [(3, (.c (.ptr ⟨1024000001, g⟩ 0 0))), (4, (.c (.ptr ⟨1024000002, g⟩ 0 0))), (6, (.c (.ptr ⟨1024000003, g⟩ 0 0))), (7, (.c (.p (.int .i64 x29))))] [(⟨1024000001, g⟩, .box true [(.p (.int .i64 a1.First.Line)), (.p (.int .i64 a1.First.Gen)), (.p (.int .i64 a1.Depth)), (.p (.int .i64 a1.Pages.a0.Line)), (.p (.int .i64 a1.Pages.a0.Gen)), (.p (.int .i64 a1.Pages.a1.Line)), (.p (.int .i64 a1.Pages.a1.Gen)), (.p (.int .i64 a1.Pages.a2.Line)), (.p (.int .i64 a1.Pages.a2.Gen)), (.p (.int .i64 a1.Pages.a3.Line)), (.p (.int .i64 a1.Pages.a3.Gen))]), (⟨1024000002, g⟩, .box true [(.p (.int .i64 0)), (.p (.int .u64 0)), (.p (.int .u64 0)), (.p (.int .u64 0)), (.p (.int .u64 0)), (.p (.int .u64 0)), (.p (.int .u64 0)), (.p (.int .u64 0)), (.p (.int .u64 0))]), (⟨1024000003, g⟩, .box true [(.p (.int .i64 a0.Line)), (.p (.int .u64 a0.Head)), (.p (.int .u64 x28.a0)), (.p (.int .u64 x28.a1)), (.p (.int .u64 x28.a2)), (.p (.int .u64 x28.a3)), (.p (.int .u64 x28.a4)), (.p (.int .u64 x28.a5)), (.p (.int .u64 x28.a6))])] (g + 1)) h (enter_of ?_) ?_
      · refine ren_go (fun g S => [(⟨1024000001, g⟩, (keyT 0 (St.env S 3))), (⟨1024000002, g⟩, (keyT 0 (St.env S 4))), (⟨1024000003, g⟩, (keyT 0 (St.env S 6)))]) (fun g S => []) ?_ ?_ ?_ ?_ ?_
        all_goals try simp -implicitDefEqProofs +decide only [go_sem, Nat.reduceAdd, Int.reduceToNat, hb4, hb6]
        all_goals first | done | trivial | omega | (simp [maps, go_sem, hb4, hb6]; done) | (simp [maps, go_sem, hb4, hb6] <;> omega)
      rintro g ⟨x28, x29⟩ s1 h hd1
      rw [bodegaref23_WriteRoot_L1] at h
      try dsimp only
      refine swp_seq ?_
      refine seq_reg rfl (fun K hK => ?_)
      simp -implicitDefEqProofs +decide only [go_sem, Nat.reduceAdd, Int.reduceToNat]
      refine hK _ ?_
      refine bsplit h (fun hb31 h => ?_) (fun hb31 h => ?_)
      · refine cond_t (by simp -implicitDefEqProofs +decide only [go_sem, hb31]) ?_
        refine swp_skip ?_
        with_reducible repeat (first | refine nn ?_ | refine nb ?_ | refine nr ?_ | refine nc ?_ | refine ne ?_ | refine nq ?_ | refine nx rfl ?_)
        refine swp_seq ?_
        refine swp_block ?_
        refine swp_drw rfl (fun K hK => ?_)
        refine psplit h (fun hp32 h => ?_)
        simp -implicitDefEqProofs +decide only [go_sem, Nat.reduceAdd, Int.reduceToNat, hp32, hb31]
        refine opt_ite (by rcases cases4 hp32.1 hp32.2 with hc | hc | hc | hc <;> simp [hc, A4.get]) ?_
        refine opt_v (v' := .agg [(.p (.int .i64 (A4.get a1.Pages (IntKind.i64.wrap (2 * x29))).Line)), (.p (.int .i64 (A4.get a1.Pages (IntKind.i64.wrap (2 * x29))).Gen))]) (by rcases cases4 hp32.1 hp32.2 with hc | hc | hc | hc <;> simp [hc, A4.get]) ?_
        refine bind_of h (fun v33 hv33 h => ?_)
        simp -implicitDefEqProofs +decide only [go_sem, Nat.reduceAdd, Int.reduceToNat, hb31]
        refine call_go [0] false (bodegaref19_Pack_ok ⟨G.glob, noCaps⟩ hG0 (A4.get a1.Pages (IntKind.i64.wrap (2 * x29))) _ hv33) (by simp -implicitDefEqProofs +decide only [go_sem, Nat.reduceAdd, Int.reduceToNat, hb31]; rfl) (by first | rfl | (simp [maps, hb31]; done)) ?_
        refine psplit h (fun hp34 h => ?_)
        simp -implicitDefEqProofs +decide only [go_sem, Nat.reduceAdd, Int.reduceToNat, hp34, hb31]
        refine opt_ite (by rcases cases4 hp34.1 hp34.2 with hc | hc | hc | hc <;> simp [hc, A4.get]) ?_
        refine opt_v (v' := .agg [(.p (.int .i64 (A4.get a1.Pages (IntKind.i64.wrap ((IntKind.i64.wrap (2 * x29)) + 1))).Line)), (.p (.int .i64 (A4.get a1.Pages (IntKind.i64.wrap ((IntKind.i64.wrap (2 * x29)) + 1))).Gen))]) (by rcases cases4 hp34.1 hp34.2 with hc | hc | hc | hc <;> simp [hc, A4.get]) ?_
        refine bind_of h (fun v35 hv35 h => ?_)
        simp -implicitDefEqProofs +decide only [go_sem, Nat.reduceAdd, Int.reduceToNat, hb31]
        refine call_go [0] false (bodegaref19_Pack_ok ⟨G.glob, noCaps⟩ hG0 (A4.get a1.Pages (IntKind.i64.wrap ((IntKind.i64.wrap (2 * x29)) + 1))) _ hv35) (by simp -implicitDefEqProofs +decide only [go_sem, Nat.reduceAdd, Int.reduceToNat, hb31]; rfl) (by first | rfl | (simp [maps, hb31]; done)) ?_
        refine psplit h (fun hp36 h => ?_)
        simp -implicitDefEqProofs +decide only [go_sem, Nat.reduceAdd, Int.reduceToNat, hp36, hb31]
        refine opt_ite (by rcases cases7 hp36.1 hp36.2 with hc | hc | hc | hc | hc | hc | hc <;> simp [hc]) ?_
        refine opt_wr (l' := [(.p (.int .i64 a0.Line)), (.p (.int .u64 a0.Head)), (.p (.int .u64 (A7.set x28 (IntKind.i64.wrap (2 + x29)) (IntKind.u64.wrap ((IntKind.u64.wrap v33) + (shlV .u64 (IntKind.u64.wrap v35) 32)))).a0)), (.p (.int .u64 (A7.set x28 (IntKind.i64.wrap (2 + x29)) (IntKind.u64.wrap ((IntKind.u64.wrap v33) + (shlV .u64 (IntKind.u64.wrap v35) 32)))).a1)), (.p (.int .u64 (A7.set x28 (IntKind.i64.wrap (2 + x29)) (IntKind.u64.wrap ((IntKind.u64.wrap v33) + (shlV .u64 (IntKind.u64.wrap v35) 32)))).a2)), (.p (.int .u64 (A7.set x28 (IntKind.i64.wrap (2 + x29)) (IntKind.u64.wrap ((IntKind.u64.wrap v33) + (shlV .u64 (IntKind.u64.wrap v35) 32)))).a3)), (.p (.int .u64 (A7.set x28 (IntKind.i64.wrap (2 + x29)) (IntKind.u64.wrap ((IntKind.u64.wrap v33) + (shlV .u64 (IntKind.u64.wrap v35) 32)))).a4)), (.p (.int .u64 (A7.set x28 (IntKind.i64.wrap (2 + x29)) (IntKind.u64.wrap ((IntKind.u64.wrap v33) + (shlV .u64 (IntKind.u64.wrap v35) 32)))).a5)), (.p (.int .u64 (A7.set x28 (IntKind.i64.wrap (2 + x29)) (IntKind.u64.wrap ((IntKind.u64.wrap v33) + (shlV .u64 (IntKind.u64.wrap v35) 32)))).a6))]) (by rcases cases7 hp36.1 hp36.2 with hc | hc | hc | hc | hc | hc | hc <;> simp [hc, A7.get, A7.set]) ?_
        simp -implicitDefEqProofs +decide only [go_sem, Nat.reduceAdd, Int.reduceToNat, hb31]
        refine draw_go (by kernel_rfl) ?_
        refine hK _ ?_
        with_reducible repeat (first | refine nn ?_ | refine nb ?_ | refine nr ?_ | refine nc ?_ | refine ne ?_ | refine nq ?_ | refine nx rfl ?_)
        refine swp_reg rfl (fun K hK => ?_)
        simp -implicitDefEqProofs +decide only [go_sem, Nat.reduceAdd, Int.reduceToNat, hb31]
        refine hK _ ?_
        with_reducible repeat (first | refine nn ?_ | refine nb ?_ | refine nr ?_ | refine nc ?_ | refine ne ?_ | refine nq ?_ | refine nx rfl ?_)
        refine back_of h ?_
        refine ren_go (fun g S => [(⟨1024000001, g⟩, (keyT 0 (St.env S 3))), (⟨1024000002, g⟩, (keyT 0 (St.env S 4))), (⟨1024000003, g⟩, (keyT 0 (St.env S 6)))]) (fun g S => []) ?_ ?_ ?_ ?_ ?_
        all_goals try simp -implicitDefEqProofs +decide only [go_sem, Nat.reduceAdd, Int.reduceToNat, hb31]
        all_goals first | done | trivial | omega | (simp [maps, go_sem, hb31]; done) | (simp [maps, go_sem, hb31] <;> omega)
      · refine cond_f (by simp -implicitDefEqProofs +decide only [go_sem, hb31]) ?_
        refine swp_exit ?_
        with_reducible repeat (first | refine nn ?_ | refine nb ?_ | refine nr ?_ | refine nc ?_ | refine ne ?_ | refine nq ?_ | refine nx rfl ?_)
        obtain ⟨h, hs1⟩ := exit_of h hd1
        with_reducible repeat (first | refine nn ?_ | refine nb ?_ | refine nr ?_ | refine nc ?_ | refine ne ?_ | refine nq ?_ | refine nx rfl ?_)
        refine ⟨hs1, ?_⟩
        with_reducible repeat (first | refine nn ?_ | refine nb ?_ | refine nr ?_ | refine nc ?_ | refine ne ?_ | refine nq ?_ | refine nx rfl ?_)
        refine seq_reg rfl (fun K hK => ?_)
        simp -implicitDefEqProofs +decide only [go_sem, Nat.reduceAdd, Int.reduceToNat, hb31]
        refine hK _ ?_
        refine swp_ret ?_
        with_reducible repeat (first | refine nn ?_ | refine nb ?_ | refine nr ?_ | refine nc ?_ | refine ne ?_ | refine nq ?_ | refine nx rfl ?_)
        obtain rfl := some_eq h
        simp -implicitDefEqProofs +decide only [go_sem, Nat.reduceAdd, Int.reduceToNat]
        all_goals first | done | trivial | (simp [maps]; done)
end Go.Sh
end
section
namespace Go.Sh
open Go.Proofs
set_option linter.unusedVariables false
set_option linter.unusedSimpArgs false
set_option maxRecDepth 100000
set_option maxHeartbeats 4000000
noncomputable def hashindex_pagesOf (a0 : Int) : Option Int :=
  some (if (IntKind.i64.wrap (Int.tdiv (shlV .i64 1 (IntKind.u64.wrap a0)) 8)) > 1 then (IntKind.i64.wrap (Int.tdiv (shlV .i64 1 (IntKind.u64.wrap a0)) 8)) else 1)
theorem hashindex_pagesOf_ok (G : Glob) (hG0 : G.glob 0 = some [(.int .i64 0), (.int .i64 0)]) (a0 : Int) (res : Int) (h : hashindex_pagesOf a0 = some res) : Spec Tryd.prog G 51 [.cell (.p (.int .i64 a0))] (fun r ios => r = .cell (.p (.int .i64 res)) ∧ ios = []) := by
  rw [hashindex_pagesOf] at h
  refine spec_of Tryd.mixed Tryd.func51 rfl rfl (by simp only [List.length]; decide +kernel) ?_
  refine swp_fresh (fun g => stL [(0, (.c (.p (.int .i64 a0))))] [] (g + 1)) ?_ (fun g => ?_)
  · refine ren_go (fun g S => []) (fun g S => []) ?_ ?_ ?_ ?_ ?_
    all_goals try simp -implicitDefEqProofs +decide only [go_sem, Nat.reduceAdd, Int.reduceToNat]
    all_goals first | done | trivial | omega | (simp [maps, go_sem]; done) | (simp [maps, go_sem] <;> omega)
  refine seq_reg rfl (fun K hK => ?_)
  simp -implicitDefEqProofs +decide only [go_sem, Nat.reduceAdd, Int.reduceToNat]
  refine hK _ ?_
  refine seq_reg rfl (fun K hK => ?_)
  simp -implicitDefEqProofs +decide only [go_sem, Nat.reduceAdd, Int.reduceToNat]
  refine hK _ ?_
  refine swp_ret ?_
  with_reducible repeat (first | refine nn ?_ | refine nb ?_ | refine nr ?_ | refine nc ?_ | refine ne ?_ | refine nq ?_ | refine nx rfl ?_)
  obtain rfl := some_eq h
  simp -implicitDefEqProofs +decide only [go_sem, Nat.reduceAdd, Int.reduceToNat]
  all_goals first | done | trivial | (simp [maps]; done)
end Go.Sh
end
section
namespace Go.Sh
open Go.Proofs
set_option linter.unusedVariables false
set_option linter.unusedSimpArgs false
set_option maxRecDepth 100000
set_option maxHeartbeats 4000000
noncomputable def hashindex_Root_valid_L1 (a0 : hashindex_Root) (x29 : Int) : Option (Int ⊕ Bool) :=
    if (decide (x29 < 4)) = true then
      if 0 ≤ x29 ∧ x29 < 4 then
        (hashindex_isField (A4.get a0.Pages x29)).bind fun v33 =>
        if (!v33) = true then
          Option.map Sum.inr (
            some false)
        else
          if (((A4.get a0.Pages x29).Line == 0) && ((A4.get a0.Pages x29).Gen == 0)) = true then
            (hashindex_pagesOf a0.Depth).bind fun v36 =>
            if (decide (x29 < v36)) = true then
              Option.map Sum.inr (
                some false)
            else
              some (.inl (IntKind.i64.wrap (x29 + 1)))
          else
            some (.inl (IntKind.i64.wrap (x29 + 1)))
      else none
    else
      Option.map Sum.inr (
        some true)
noncomputable def hashindex_Root_valid (a0 : hashindex_Root) : Option Bool :=
  if ((a0.First.Line == 0) && (a0.First.Gen == 0)) = true then
    some ((a0.First.Line == 0) && ((a0.First.Gen == 0) && ((a0.Depth == 0) && ((a0.Pages.a0.Line == 0) && ((a0.Pages.a0.Gen == 0) && ((a0.Pages.a1.Line == 0) && ((a0.Pages.a1.Gen == 0) && ((a0.Pages.a2.Line == 0) && ((a0.Pages.a2.Gen == 0) && ((a0.Pages.a3.Line == 0) && (a0.Pages.a3.Gen == 0)))))))))))
  else
    (pointer_Valid a0.First).bind fun v7 =>
    if (!v7) = true then
      some false
    else
      if (decide (a0.Depth < 0)) = true then
        some false
      else
        if (decide (a0.Depth > 5)) = true then
          some false
        else
          iter (hashindex_Root_valid_L1 a0) 0
theorem hashindex_Root_valid_ok (G : Glob) (hG0 : G.glob 0 = some [(.int .i64 0), (.int .i64 0)]) (a0 : hashindex_Root) (res : Bool) (h : hashindex_Root_valid a0 = some res) : Spec Tryd.prog G 28 [.agg [.p (.int .i64 a0.First.Line), .p (.int .i64 a0.First.Gen), .p (.int .i64 a0.Depth), .p (.int .i64 a0.Pages.a0.Line), .p (.int .i64 a0.Pages.a0.Gen), .p (.int .i64 a0.Pages.a1.Line), .p (.int .i64 a0.Pages.a1.Gen), .p (.int .i64 a0.Pages.a2.Line), .p (.int .i64 a0.Pages.a2.Gen), .p (.int .i64 a0.Pages.a3.Line), .p (.int .i64 a0.Pages.a3.Gen)]] (fun r ios => r = .cell (.p (.bool res)) ∧ ios = []) := by
  rw [hashindex_Root_valid] at h
  refine spec_of Tryd.mixed Tryd.func28 rfl rfl (by simp only [List.length]; decide +kernel) ?_
  refine swp_fresh (fun g => stL [(0, (.agg [(.p (.int .i64 a0.First.Line)), (.p (.int .i64 a0.First.Gen)), (.p (.int .i64 a0.Depth)), (.p (.int .i64 a0.Pages.a0.Line)), (.p (.int .i64 a0.Pages.a0.Gen)), (.p (.int .i64 a0.Pages.a1.Line)), (.p (.int .i64 a0.Pages.a1.Gen)), (.p (.int .i64 a0.Pages.a2.Line)), (.p (.int .i64 a0.Pages.a2.Gen)), (.p (.int .i64 a0.Pages.a3.Line)), (.p (.int .i64 a0.Pages.a3.Gen))]))] [] (g + 1)) ?_ (fun g => ?_)
  · refine ren_go (fun g S => []) (fun g S => []) ?_ ?_ ?_ ?_ ?_
    all_goals try simp -implicitDefEqProofs +decide only [go_sem, Nat.reduceAdd, Int.reduceToNat]
    all_goals first | done | trivial | omega | (simp [maps, go_sem]; done) | (simp [maps, go_sem] <;> omega)
  refine seq_reg rfl (fun K hK => ?_)
  simp -implicitDefEqProofs +decide only [go_sem, Nat.reduceAdd, Int.reduceToNat]
  refine hK _ ?_
  refine swp_seq ?_
  refine seq_reg rfl (fun K hK => ?_)
  simp -implicitDefEqProofs +decide only [go_sem, Nat.reduceAdd, Int.reduceToNat, hG0]
  refine hK _ ?_
  refine bsplit h (fun hb2 h => ?_) (fun hb2 h => ?_)
  · refine cond_t (by simp -implicitDefEqProofs +decide only [go_sem, hb2]) ?_
    refine seq_reg rfl (fun K hK => ?_)
    simp -implicitDefEqProofs +decide only [go_sem, Nat.reduceAdd, Int.reduceToNat, hb2]
    refine hK _ ?_
    refine swp_ret ?_
    with_reducible repeat (first | refine nn ?_ | refine nb ?_ | refine nr ?_ | refine nc ?_ | refine ne ?_ | refine nq ?_ | refine nx rfl ?_)
    obtain rfl := some_eq h
    simp -implicitDefEqProofs +decide only [go_sem, Nat.reduceAdd, Int.reduceToNat]
    all_goals first | done | trivial | (simp [maps]; done)
  · refine cond_f (by simp -implicitDefEqProofs +decide only [go_sem, hb2]) ?_
    refine swp_skip ?_
    with_reducible repeat (first | refine nn ?_ | refine nb ?_ | refine nr ?_ | refine nc ?_ | refine ne ?_ | refine nq ?_ | refine nx rfl ?_)
    refine swp_seq ?_
    refine seq_reg rfl (fun K hK => ?_)
    refine bind_of h (fun v7 hv7 h => ?_)
    simp -implicitDefEqProofs +decide only [go_sem, Nat.reduceAdd, Int.reduceToNat, hb2]
    refine call_go [0] false (pointer_Valid_ok ⟨G.glob, noCaps⟩ hG0 a0.First _ hv7) (by simp -implicitDefEqProofs +decide only [go_sem, Nat.reduceAdd, Int.reduceToNat, hb2]; rfl) (by first | rfl | (simp [maps, hb2]; done)) ?_
    refine bsplit h (fun hb8 h => ?_) (fun hb8 h => ?_)
    · simp -implicitDefEqProofs +decide only [go_sem, Nat.reduceAdd, Int.reduceToNat, hb2, hb8]
      refine hK _ ?_
      refine cond_t (by simp -implicitDefEqProofs +decide only [go_sem, hb2, hb8]) ?_
      refine seq_reg rfl (fun K hK => ?_)
      simp -implicitDefEqProofs +decide only [go_sem, Nat.reduceAdd, Int.reduceToNat, hb2, hb8]
      refine hK _ ?_
      refine swp_ret ?_
      with_reducible repeat (first | refine nn ?_ | refine nb ?_ | refine nr ?_ | refine nc ?_ | refine ne ?_ | refine nq ?_ | refine nx rfl ?_)
      obtain rfl := some_eq h
      simp -implicitDefEqProofs +decide only [go_sem, Nat.reduceAdd, Int.reduceToNat]
      all_goals first | done | trivial | (simp [maps]; done)
    · refine bsplit h (fun hb9 h => ?_) (fun hb9 h => ?_)
      · simp -implicitDefEqProofs +decide only [go_sem, Nat.reduceAdd, Int.reduceToNat, hb2, hb8, hb9]
        refine hK _ ?_
        refine cond_t (by simp -implicitDefEqProofs +decide only [go_sem, hb2, hb8, hb9]) ?_
        refine seq_reg rfl (fun K hK => ?_)
        simp -implicitDefEqProofs +decide only [go_sem, Nat.reduceAdd, Int.reduceToNat, hb2, hb8, hb9]
        refine hK _ ?_
        refine swp_ret ?_
        with_reducible repeat (first | refine nn ?_ | refine nb ?_ | refine nr ?_ | refine nc ?_ | refine ne ?_ | refine nq ?_ | refine nx rfl ?_)
        obtain rfl := some_eq h
        simp -implicitDefEqProofs +decide only [go_sem, Nat.reduceAdd, Int.reduceToNat]
        all_goals first | done | trivial | (simp [maps]; done)
      · simp -implicitDefEqProofs +decide only [go_sem, Nat.reduceAdd, Int.reduceToNat, hb2, hb8, hb9]
        refine hK _ ?_
        refine bsplit h (fun hb10 h => ?_) (fun hb10 h => ?_)
        · refine cond_t (by simp -implicitDefEqProofs +decide only [go_sem, hb2, hb8, hb9, hb10]) ?_
          refine seq_reg rfl (fun K hK => ?_)
          simp -implicitDefEqProofs +decide only [go_sem, Nat.reduceAdd, Int.reduceToNat, hb2, hb8, hb9, hb10]
          refine hK _ ?_
          refine swp_ret ?_
          with_reducible repeat (first | refine nn ?_ | refine nb ?_ | refine nr ?_ | refine nc ?_ | refine ne ?_ | refine nq ?_ | refine nx rfl ?_)
          obtain rfl := some_eq h
          simp -implicitDefEqProofs +decide only [go_sem, Nat.reduceAdd, Int.reduceToNat]
          all_goals first | done | trivial | (simp [maps]; done)
        · refine cond_f (by simp -implicitDefEqProofs +decide only [go_sem, hb2, hb8, hb9, hb10]) ?_
          refine swp_skip ?_
          with_reducible repeat (first | refine nn ?_ | refine nb ?_ | refine nr ?_ | refine nc ?_ | refine ne ?_ | refine nq ?_ | refine nx rfl ?_)
          refine swp_seq ?_
          refine seq_reg rfl (fun K hK => ?_)
          simp -implicitDefEqProofs +decide only [go_sem, Nat.reduceAdd, Int.reduceToNat, hb2, hb8, hb9, hb10]
          refine hK _ ?_
          refine swp_block ?_
          refine swp_iter (fun g x29 => stL [(1, (.c (.ptr ⟨1024000001, g⟩ 0 0))), (27, (.agg [(.p (.int .i64 a0.Pages.a0.Line)), (.p (.int .i64 a0.Pages.a0.Gen)), (.p (.int .i64 a0.Pages.a1.Line)), (.p (.int .i64 a0.Pages.a1.Gen)), (.p (.int .i64 a0.Pages.a2.Line)), (.p (.int .i64 a0.Pages.a2.Gen)), (.p (.int .i64 a0.Pages.a3.Line)), (.p (.int .i64 a0.Pages.a3.Gen))])), (28, (.c (.p (.int .i64 x29))))] [(⟨1024000001, g⟩, .box true [(.p (.int .i64 a0.First.Line)), (.p (.int .i64 a0.First.Gen)), (.p (.int .i64 a0.Depth)), (.p (.int .i64 a0.Pages.a0.Line)), (.p (.int .i64 a0.Pages.a0.Gen)), (.p (.int .i64 a0.Pages.a1.Line)), (.p (.int .i64 a0.Pages.a1.Gen)), (.p (.int .i64 a0.Pages.a2.Line)), (.p (.int .i64 a0.Pages.a2.Gen)), (.p (.int .i64 a0.Pages.a3.Line)), (.p (.int .i64 a0.Pages.a3.Gen))])] (g + 1)) h (enter_of ?_) ?_
          · refine ren_go (fun g S => [(⟨1024000001, g⟩, (keyT 0 (St.env S 1)))]) (fun g S => []) ?_ ?_ ?_ ?_ ?_
            all_goals try simp -implicitDefEqProofs +decide only [go_sem, Nat.reduceAdd, Int.reduceToNat, hb2, hb8, hb9, hb10]
            all_goals first | done | trivial | omega | (simp [maps, go_sem, hb2, hb8, hb9, hb10]; done) | (simp [maps, go_sem, hb2, hb8, hb9, hb10] <;> omega)
          rintro g x29 s1 h hd1
          rw [hashindex_Root_valid_L1] at h
          try dsimp only
          refine seq_reg rfl (fun K hK => ?_)
          simp -implicitDefEqProofs +decide only [go_sem, Nat.reduceAdd, Int.reduceToNat]
          refine hK _ ?_
          refine swp_seq ?_
          refine bsplit h (fun hb31 h => ?_) (fun hb31 h => ?_)
          · refine cond_t (by simp -implicitDefEqProofs +decide only [go_sem, hb31]) ?_
            refine swp_skip ?_
            with_reducible repeat (first | refine nn ?_ | refine nb ?_ | refine nr ?_ | refine nc ?_ | refine ne ?_ | refine nq ?_ | refine nx rfl ?_)
            refine swp_seq ?_
            refine swp_block ?_
            refine seq_reg rfl (fun K hK => ?_)
            refine psplit h (fun hp32 h => ?_)
            simp -implicitDefEqProofs +decide only [go_sem, Nat.reduceAdd, Int.reduceToNat, hp32, hb31]
            refine opt_ite (by rcases cases4 hp32.1 hp32.2 with hc | hc | hc | hc <;> simp [hc, A4.get]) ?_
            refine opt_v (v' := .agg [(.p (.int .i64 (A4.get a0.Pages x29).Line)), (.p (.int .i64 (A4.get a0.Pages x29).Gen))]) (by rcases cases4 hp32.1 hp32.2 with hc | hc | hc | hc <;> simp [hc, A4.get]) ?_
            simp -implicitDefEqProofs +decide only [go_sem, Nat.reduceAdd, Int.reduceToNat, hb31]
            refine hK _ ?_
            refine seq_reg rfl (fun K hK => ?_)
            refine bind_of h (fun v33 hv33 h => ?_)
            simp -implicitDefEqProofs +decide only [go_sem, Nat.reduceAdd, Int.reduceToNat, hG0, hb31]
            refine call_go [0] false (hashindex_isField_ok ⟨G.glob, noCaps⟩ hG0 (A4.get a0.Pages x29) _ hv33) (by simp -implicitDefEqProofs +decide only [go_sem, Nat.reduceAdd, Int.reduceToNat, hb31]; rfl) (by first | rfl | (simp [maps, hb31]; done)) ?_
            refine bsplit h (fun hb34 h => ?_) (fun hb34 h => ?_)
            · simp -implicitDefEqProofs +decide only [go_sem, Nat.reduceAdd, Int.reduceToNat, hG0, hb31, hb34]
              refine hK _ ?_
              refine cond_t (by simp -implicitDefEqProofs +decide only [go_sem, hb31, hb34]) ?_
              refine seq_reg rfl (fun K hK => ?_)
              simp -implicitDefEqProofs +decide only [go_sem, Nat.reduceAdd, Int.reduceToNat, hb31, hb34]
              refine hK _ ?_
              refine swp_ret ?_
              with_reducible repeat (first | refine nn ?_ | refine nb ?_ | refine nr ?_ | refine nc ?_ | refine ne ?_ | refine nq ?_ | refine nx rfl ?_)
              obtain ⟨h, hs1⟩ := exit_of h hd1
              refine ⟨hs1, ?_⟩
              with_reducible repeat (first | refine nn ?_ | refine nb ?_ | refine nr ?_ | refine nc ?_ | refine ne ?_ | refine nq ?_ | refine nx rfl ?_)
              obtain rfl := some_eq h
              simp -implicitDefEqProofs +decide only [go_sem, Nat.reduceAdd, Int.reduceToNat]
              all_goals first | done | trivial | (simp [maps]; done)
            · refine bsplit h (fun hb35 h => ?_) (fun hb35 h => ?_)
              · refine bind_of h (fun v36 hv36 h => ?_)
                simp -implicitDefEqProofs +decide only [go_sem, Nat.reduceAdd, Int.reduceToNat, hG0, hb31, hb34, hb35]
                refine call_go [0] false (hashindex_pagesOf_ok ⟨G.glob, noCaps⟩ hG0 a0.Depth _ hv36) (by simp -implicitDefEqProofs +decide only [go_sem, Nat.reduceAdd, Int.reduceToNat, hb31, hb34, hb35]; rfl) (by first | rfl | (simp [maps, hb31, hb34, hb35]; done)) ?_
                simp -implicitDefEqProofs +decide only [go_sem, Nat.reduceAdd, Int.reduceToNat, hG0, hb31, hb34, hb35]
                refine hK _ ?_
                refine bsplit h (fun hb37 h => ?_) (fun hb37 h => ?_)
                · refine cond_t (by simp -implicitDefEqProofs +decide only [go_sem, hb31, hb34, hb35, hb37]) ?_
                  refine seq_reg rfl (fun K hK => ?_)
                  simp -implicitDefEqProofs +decide only [go_sem, Nat.reduceAdd, Int.reduceToNat, hb31, hb34, hb35, hb37]
                  refine hK _ ?_
                  refine swp_ret ?_
                  with_reducible repeat (first | refine nn ?_ | refine nb ?_ | refine nr ?_ | refine nc ?_ | refine ne ?_ | refine nq ?_ | refine nx rfl ?_)
                  obtain ⟨h, hs1⟩ := exit_of h hd1
                  refine ⟨hs1, ?_⟩
                  with_reducible repeat (first | refine nn ?_ | refine nb ?_ | refine nr ?_ | refine nc ?_ | refine ne ?_ | refine nq ?_ | refine nx rfl ?_)
                  obtain rfl := some_eq h
                  simp -implicitDefEqProofs +decide only [go_sem, Nat.reduceAdd, Int.reduceToNat]
                  all_goals first | done | trivial | (simp [maps]; done)
                · refine cond_f (by simp -implicitDefEqProofs +decide only [go_sem, hb31, hb34, hb35, hb37]) ?_
                  refine swp_skip ?_
                  with_reducible repeat (first | refine nn ?_ | refine nb ?_ | refine nr ?_ | refine nc ?_ | refine ne ?_ | refine nq ?_ | refine nx rfl ?_)
                  refine swp_reg rfl (fun K hK => ?_)
                  simp -implicitDefEqProofs +decide only [go_sem, Nat.reduceAdd, Int.reduceToNat, hb31, hb34, hb35, hb37]
                  refine hK _ ?_
                  with_reducible repeat (first | refine nn ?_ | refine nb ?_ | refine nr ?_ | refine nc ?_ | refine ne ?_ | refine nq ?_ | refine nx rfl ?_)
                  refine back_of h ?_
                  refine ren_go (fun g S => [(⟨1024000001, g⟩, (keyT 0 (St.env S 1)))]) (fun g S => []) ?_ ?_ ?_ ?_ ?_
                  all_goals try simp -implicitDefEqProofs +decide only [go_sem, Nat.reduceAdd, Int.reduceToNat, hb31, hb34, hb35, hb37]
                  all_goals first | done | trivial | omega | (simp [maps, go_sem, hb31, hb34, hb35, hb37]; done) | (simp [maps, go_sem, hb31, hb34, hb35, hb37] <;> omega)
              · simp -implicitDefEqProofs +decide only [go_sem, Nat.reduceAdd, Int.reduceToNat, hG0, hb31, hb34, hb35]
                refine hK _ ?_
                refine cond_f (by simp -implicitDefEqProofs +decide only [go_sem, hb31, hb34, hb35]) ?_
                refine swp_skip ?_
                with_reducible repeat (first | refine nn ?_ | refine nb ?_ | refine nr ?_ | refine nc ?_ | refine ne ?_ | refine nq ?_ | refine nx rfl ?_)
                refine swp_reg rfl (fun K hK => ?_)
                simp -implicitDefEqProofs +decide only [go_sem, Nat.reduceAdd, Int.reduceToNat, hb31, hb34, hb35]
                refine hK _ ?_
                with_reducible repeat (first | refine nn ?_ | refine nb ?_ | refine nr ?_ | refine nc ?_ | refine ne ?_ | refine nq ?_ | refine nx rfl ?_)
                refine back_of h ?_
                refine ren_go (fun g S => [(⟨1024000001, g⟩, (keyT 0 (St.env S 1)))]) (fun g S => []) ?_ ?_ ?_ ?_ ?_
                all_goals try simp -implicitDefEqProofs +decide only [go_sem, Nat.reduceAdd, Int.reduceToNat, hb31, hb34, hb35]
                all_goals first | done | trivial | omega | (simp [maps, go_sem, hb31, hb34, hb35]; done) | (simp [maps, go_sem, hb31, hb34, hb35] <;> omega)
          · refine cond_f (by simp -implicitDefEqProofs +decide only [go_sem, hb31]) ?_
            refine swp_exit ?_
            with_reducible repeat (first | refine nn ?_ | refine nb ?_ | refine nr ?_ | refine nc ?_ | refine ne ?_ | refine nq ?_ | refine nx rfl ?_)
            obtain ⟨h, hs1⟩ := exit_of h hd1
            with_reducible repeat (first | refine nn ?_ | refine nb ?_ | refine nr ?_ | refine nc ?_ | refine ne ?_ | refine nq ?_ | refine nx rfl ?_)
            refine ⟨hs1, ?_⟩
            with_reducible repeat (first | refine nn ?_ | refine nb ?_ | refine nr ?_ | refine nc ?_ | refine ne ?_ | refine nq ?_ | refine nx rfl ?_)
            refine seq_reg rfl (fun K hK => ?_)
            simp -implicitDefEqProofs +decide only [go_sem, Nat.reduceAdd, Int.reduceToNat, hb31]
            refine hK _ ?_
            refine swp_ret ?_
            with_reducible repeat (first | refine nn ?_ | refine nb ?_ | refine nr ?_ | refine nc ?_ | refine ne ?_ | refine nq ?_ | refine nx rfl ?_)
            obtain rfl := some_eq h
            simp -implicitDefEqProofs +decide only [go_sem, Nat.reduceAdd, Int.reduceToNat]
            all_goals first | done | trivial | (simp [maps]; done)
end Go.Sh
end
section
namespace Go.Sh
open Go.Proofs
set_option linter.unusedVariables false
set_option linter.unusedSimpArgs false
set_option maxRecDepth 100000
set_option maxHeartbeats 4000000
noncomputable def hashindex_ReadRoot_J1 (v3 : (pointer_Pointer × Bool)) (a0 : api_Page) : (Bool × (A4 pointer_Pointer)) → Option (hashindex_Root × Int)
  | (b48, x49) =>
    if (!b48) = true then
      some ((⟨(⟨0, 0⟩ : pointer_Pointer), 0, (⟨(⟨0, 0⟩ : pointer_Pointer), (⟨0, 0⟩ : pointer_Pointer), (⟨0, 0⟩ : pointer_Pointer), (⟨0, 0⟩ : pointer_Pointer)⟩ : (A4 pointer_Pointer))⟩ : hashindex_Root), 14)
    else
      (hashindex_Root_valid (⟨v3.1, (IntKind.i64.wrap (shrV .u64 a0.Data.a1 32)), x49⟩ : hashindex_Root)).bind fun v51 =>
      if (!v51) = true then
        some ((⟨(⟨0, 0⟩ : pointer_Pointer), 0, (⟨(⟨0, 0⟩ : pointer_Pointer), (⟨0, 0⟩ : pointer_Pointer), (⟨0, 0⟩ : pointer_Pointer), (⟨0, 0⟩ : pointer_Pointer)⟩ : (A4 pointer_Pointer))⟩ : hashindex_Root), 14)
      else
        some ((⟨v3.1, (IntKind.i64.wrap (shrV .u64 a0.Data.a1 32)), x49⟩ : hashindex_Root), 0)
noncomputable def hashindex_ReadRoot_L1 (a0 : api_Page) (v3 : (pointer_Pointer × Bool)) : (Bool × (A4 pointer_Pointer) × Int) → Option ((Bool × (A4 pointer_Pointer) × Int) ⊕ (hashindex_Root × Int))
  | (b87, x88, x89) =>
    if (decide (x89 < 4)) = true then
      if 0 ≤ (IntKind.i64.wrap (2 + (IntKind.i64.wrap (Int.tdiv x89 2)))) ∧ (IntKind.i64.wrap (2 + (IntKind.i64.wrap (Int.tdiv x89 2)))) < 7 then
        (hashindex_unpack (IntKind.u32.wrap (shrV .u64 (A7.get a0.Data (IntKind.i64.wrap (2 + (IntKind.i64.wrap (Int.tdiv x89 2))))) (IntKind.u64.wrap (IntKind.i64.wrap ((Int.tmod x89 2) * 32)))))).bind fun v95 =>
        if b87 = true then
          if 0 ≤ x89 ∧ x89 < 4 then
            some (.inl (v95.2, (A4.set x88 x89 v95.1), (IntKind.i64.wrap (x89 + 1))))
          else none
        else
          if 0 ≤ x89 ∧ x89 < 4 then
            some (.inl (false, (A4.set x88 x89 v95.1), (IntKind.i64.wrap (x89 + 1))))
          else none
      else none
    else
      Option.map Sum.inr (
        hashindex_ReadRoot_J1 v3 a0 (b87, x88))
noncomputable def hashindex_ReadRoot (a0 : api_Page) : Option (hashindex_Root × Int) :=
  if (a0.Line != 96) = true then
    some ((⟨(⟨0, 0⟩ : pointer_Pointer), 0, (⟨(⟨0, 0⟩ : pointer_Pointer), (⟨0, 0⟩ : pointer_Pointer), (⟨0, 0⟩ : pointer_Pointer), (⟨0, 0⟩ : pointer_Pointer)⟩ : (A4 pointer_Pointer))⟩ : hashindex_Root), 1)
  else
    (hashindex_unpack (IntKind.u32.wrap a0.Data.a1)).bind fun v3 =>
    iter (hashindex_ReadRoot_L1 a0 v3) (v3.2, (⟨(⟨0, 0⟩ : pointer_Pointer), (⟨0, 0⟩ : pointer_Pointer), (⟨0, 0⟩ : pointer_Pointer), (⟨0, 0⟩ : pointer_Pointer)⟩ : (A4 pointer_Pointer)), 0)
theorem hashindex_ReadRoot_ok (G : Glob) (hG0 : G.glob 0 = some [(.int .i64 0), (.int .i64 0)]) (a0 : api_Page) (res : (hashindex_Root × Int)) (h : hashindex_ReadRoot a0 = some res) : Spec Tryd.prog G 8 [.agg [.p (.int .i64 a0.Line), .p (.int .u64 a0.Head), .p (.int .u64 a0.Data.a0), .p (.int .u64 a0.Data.a1), .p (.int .u64 a0.Data.a2), .p (.int .u64 a0.Data.a3), .p (.int .u64 a0.Data.a4), .p (.int .u64 a0.Data.a5), .p (.int .u64 a0.Data.a6)]] (fun r ios => r = .tup [.agg [.p (.int .i64 res.1.First.Line), .p (.int .i64 res.1.First.Gen), .p (.int .i64 res.1.Depth), .p (.int .i64 res.1.Pages.a0.Line), .p (.int .i64 res.1.Pages.a0.Gen), .p (.int .i64 res.1.Pages.a1.Line), .p (.int .i64 res.1.Pages.a1.Gen), .p (.int .i64 res.1.Pages.a2.Line), .p (.int .i64 res.1.Pages.a2.Gen), .p (.int .i64 res.1.Pages.a3.Line), .p (.int .i64 res.1.Pages.a3.Gen)], .cell (.p (.int .i64 res.2))] ∧ ios = []) := by
  rw [hashindex_ReadRoot] at h
  refine spec_of Tryd.mixed Tryd.func8 rfl rfl (by simp only [List.length]; decide +kernel) ?_
  refine swp_fresh (fun g => stL [(0, (.agg [(.p (.int .i64 a0.Line)), (.p (.int .u64 a0.Head)), (.p (.int .u64 a0.Data.a0)), (.p (.int .u64 a0.Data.a1)), (.p (.int .u64 a0.Data.a2)), (.p (.int .u64 a0.Data.a3)), (.p (.int .u64 a0.Data.a4)), (.p (.int .u64 a0.Data.a5)), (.p (.int .u64 a0.Data.a6))]))] [] (g + 1)) ?_ (fun g => ?_)
  · refine ren_go (fun g S => []) (fun g S => []) ?_ ?_ ?_ ?_ ?_
    all_goals try simp -implicitDefEqProofs +decide only [go_sem, Nat.reduceAdd, Int.reduceToNat]
    all_goals first | done | trivial | omega | (simp [maps, go_sem]; done) | (simp [maps, go_sem] <;> omega)
  refine seq_reg rfl (fun K hK => ?_)
  simp -implicitDefEqProofs +decide only [go_sem, Nat.reduceAdd, Int.reduceToNat]
  refine hK _ ?_
  refine swp_seq ?_
  refine seq_reg rfl (fun K hK => ?_)
  simp -implicitDefEqProofs +decide only [go_sem, Nat.reduceAdd, Int.reduceToNat]
  refine hK _ ?_
  refine bsplit h (fun hb2 h => ?_) (fun hb2 h => ?_)
  · refine cond_t (by simp -implicitDefEqProofs +decide only [go_sem, hb2]) ?_
    refine seq_reg rfl (fun K hK => ?_)
    simp -implicitDefEqProofs +decide only [go_sem, Nat.reduceAdd, Int.reduceToNat, hb2]
    refine hK _ ?_
    refine swp_ret ?_
    with_reducible repeat (first | refine nn ?_ | refine nb ?_ | refine nr ?_ | refine nc ?_ | refine ne ?_ | refine nq ?_ | refine nx rfl ?_)
    obtain rfl := some_eq h
    simp -implicitDefEqProofs +decide only [go_sem, Nat.reduceAdd, Int.reduceToNat]
    all_goals first | done | trivial | (simp [maps]; done)
  · refine cond_f (by simp -implicitDefEqProofs +decide only [go_sem, hb2]) ?_
    refine swp_skip ?_
    with_reducible repeat (first | refine nn ?_ | refine nb ?_ | refine nr ?_ | refine nc ?_ | refine ne ?_ | refine nq ?_ | refine nx rfl ?_)
    refine seq_reg rfl (fun K hK => ?_)
    simp -implicitDefEqProofs +decide only [go_sem, Nat.reduceAdd, Int.reduceToNat, hb2]
    refine hK _ ?_
    refine seq_reg rfl (fun K hK => ?_)
    refine bind_of h (fun v3 hv3 h => ?_)
    simp -implicitDefEqProofs +decide only [go_sem, Nat.reduceAdd, Int.reduceToNat, hb2]
    refine call_go [0] false (hashindex_unpack_ok ⟨G.glob, noCaps⟩ hG0 (IntKind.u32.wrap a0.Data.a1) _ hv3) (by simp -implicitDefEqProofs +decide only [go_sem, Nat.reduceAdd, Int.reduceToNat, hb2]; rfl) (by first | rfl | (simp [maps, hb2]; done)) ?_
    simp -implicitDefEqProofs +decide only [go_sem, Nat.reduceAdd, Int.reduceToNat, hb2]
    refine hK _ ?_
    refine seq_reg rfl (fun K hK => ?_)
    simp -implicitDefEqProofs +decide only [go_sem, Nat.reduceAdd, Int.reduceToNat, hb2]
    refine hK _ ?_
    refine cut1 (Joins (hashindex_ReadRoot_J1 v3 a0) (fun g x => match x with | (b48, x49) => stL [(2, (.c (.ptr ⟨1024000001, g⟩ 0 0))), (6, (.c (.p (.bool b48)))), (7, (.c (.ptr ⟨1024000002, g⟩ 0 0)))] [(⟨1024000001, g⟩, .box true [(.p (.int .i64 0)), (.p (.int .i64 0)), (.p (.int .i64 0)), (.p (.int .i64 0)), (.p (.int .i64 0)), (.p (.int .i64 0)), (.p (.int .i64 0)), (.p (.int .i64 0)), (.p (.int .i64 0)), (.p (.int .i64 0)), (.p (.int .i64 0))]), (⟨1024000002, g⟩, .box true [(.p (.int .i64 v3.1.Line)), (.p (.int .i64 v3.1.Gen)), (.p (.int .i64 (IntKind.i64.wrap (shrV .u64 a0.Data.a1 32)))), (.p (.int .i64 x49.a0.Line)), (.p (.int .i64 x49.a0.Gen)), (.p (.int .i64 x49.a1.Line)), (.p (.int .i64 x49.a1.Gen)), (.p (.int .i64 x49.a2.Line)), (.p (.int .i64 x49.a2.Gen)), (.p (.int .i64 x49.a3.Line)), (.p (.int .i64 x49.a3.Gen))])] (g + 1)) res) ?_ (fun hj1 => ?_)
    · refine join_of ?_
      rintro g ⟨b48, x49⟩ h
      rw [hashindex_ReadRoot_J1] at h
      try dsimp only
      refine swp_seq ?_
      refine seq_reg rfl (fun K hK => ?_)
      refine bsplit h (fun hb50 h => ?_) (fun hb50 h => ?_)
      · simp -implicitDefEqProofs +decide only [go_sem, Nat.reduceAdd, Int.reduceToNat, hb2, hb50]
        refine hK _ ?_
        refine cond_t (by simp -implicitDefEqProofs +decide only [go_sem, hb2, hb50]) ?_
        refine seq_reg rfl (fun K hK => ?_)
        simp -implicitDefEqProofs +decide only [go_sem, Nat.reduceAdd, Int.reduceToNat, hb2, hb50]
        refine hK _ ?_
        refine swp_ret ?_
        with_reducible repeat (first | refine nn ?_ | refine nb ?_ | refine nr ?_ | refine nc ?_ | refine ne ?_ | refine nq ?_ | refine nx rfl ?_)
        obtain rfl := some_eq h
        simp -implicitDefEqProofs +decide only [go_sem, Nat.reduceAdd, Int.reduceToNat]
        all_goals first | done | trivial | (simp [maps]; done)
      · refine bind_of h (fun v51 hv51 h => ?_)
        simp -implicitDefEqProofs +decide only [go_sem, Nat.reduceAdd, Int.reduceToNat, hb2, hb50]
        refine call_go [0] false (hashindex_Root_valid_ok ⟨G.glob, noCaps⟩ hG0 (⟨v3.1, (IntKind.i64.wrap (shrV .u64 a0.Data.a1 32)), x49⟩ : hashindex_Root) _ hv51) (by simp -implicitDefEqProofs +decide only [go_sem, Nat.reduceAdd, Int.reduceToNat, hb2, hb50]; rfl) (by first | rfl | (simp [maps, hb2, hb50]; done)) ?_
        simp -implicitDefEqProofs +decide only [go_sem, Nat.reduceAdd, Int.reduceToNat, hb2, hb50]
        refine hK _ ?_
        refine bsplit h (fun hb52 h => ?_) (fun hb52 h => ?_)
        · refine cond_t (by simp -implicitDefEqProofs +decide only [go_sem, hb2, hb50, hb52]) ?_
          refine seq_reg rfl (fun K hK => ?_)
          simp -implicitDefEqProofs +decide only [go_sem, Nat.reduceAdd, Int.reduceToNat, hb2, hb50, hb52]
          refine hK _ ?_
          refine swp_ret ?_
          with_reducible repeat (first | refine nn ?_ | refine nb ?_ | refine nr ?_ | refine nc ?_ | refine ne ?_ | refine nq ?_ | refine nx rfl ?_)
          obtain rfl := some_eq h
          simp -implicitDefEqProofs +decide only [go_sem, Nat.reduceAdd, Int.reduceToNat]
          all_goals first | done | trivial | (simp [maps]; done)
        · refine cond_f (by simp -implicitDefEqProofs +decide only [go_sem, hb2, hb50, hb52]) ?_
          refine swp_skip ?_
          with_reducible repeat (first | refine nn ?_ | refine nb ?_ | refine nr ?_ | refine nc ?_ | refine ne ?_ | refine nq ?_ | refine nx rfl ?_)
          refine seq_reg rfl (fun K hK => ?_)
          simp -implicitDefEqProofs +decide only [go_sem, Nat.reduceAdd, Int.reduceToNat, hb2, hb50, hb52]
          refine hK _ ?_
          refine swp_ret ?_
          with_reducible repeat (first | refine nn ?_ | refine nb ?_ | refine nr ?_ | refine nc ?_ | refine ne ?_ | refine nq ?_ | refine nx rfl ?_)
          obtain rfl := some_eq h
          simp -implicitDefEqProofs +decide only [go_sem, Nat.reduceAdd, Int.reduceToNat]
          all_goals first | done | trivial | (simp [maps]; done)
    refine swp_seq ?_
    refine seq_reg rfl (fun K hK => ?_)
    simp -implicitDefEqProofs +decide only [go_sem, Nat.reduceAdd, Int.reduceToNat, hb2]
    refine hK _ ?_
    refine swp_block ?_
    refine swp_iter (fun g x => match x with | (b87, x88, x89) => stL [(1, (.c (.ptr ⟨1024000003, g⟩ 0 0))), (2, (.c (.ptr ⟨1024000004, g⟩ 0 0))), (6, (.c (.p (.bool b87)))), (7, (.c (.ptr ⟨1024000005, g⟩ 0 0))), (29, (.c (.p (.int .i64 x89))))] [(⟨1024000003, g⟩, .box true [(.p (.int .i64 a0.Line)), (.p (.int .u64 a0.Head)), (.p (.int .u64 a0.Data.a0)), (.p (.int .u64 a0.Data.a1)), (.p (.int .u64 a0.Data.a2)), (.p (.int .u64 a0.Data.a3)), (.p (.int .u64 a0.Data.a4)), (.p (.int .u64 a0.Data.a5)), (.p (.int .u64 a0.Data.a6))]), (⟨1024000004, g⟩, .box true [(.p (.int .i64 0)), (.p (.int .i64 0)), (.p (.int .i64 0)), (.p (.int .i64 0)), (.p (.int .i64 0)), (.p (.int .i64 0)), (.p (.int .i64 0)), (.p (.int .i64 0)), (.p (.int .i64 0)), (.p (.int .i64 0)), (.p (.int .i64 0))]), (⟨1024000005, g⟩, .box true [(.p (.int .i64 v3.1.Line)), (.p (.int .i64 v3.1.Gen)), (.p (.int .i64 (IntKind.i64.wrap (shrV .u64 a0.Data.a1 32)))), (.p (.int .i64 x88.a0.Line)), (.p (.int .i64 x88.a0.Gen)), (.p (.int .i64 x88.a1.Line)), (.p (.int .i64 x88.a1.Gen)), (.p (.int .i64 x88.a2.Line)), (.p (.int .i64 x88.a2.Gen)), (.p (.int .i64 x88.a3.Line)), (.p (.int .i64 x88.a3.Gen))])] (g + 1)) h (enter_of ?_) ?_
    · refine ren_go (fun g S => [(⟨1024000003, g⟩, (keyT 0 (St.env S 1))), (⟨1024000004, g⟩, (keyT 0 (St.env S 2))), (⟨1024000005, g⟩, (keyT 0 (St.env S 7)))]) (fun g S => []) ?_ ?_ ?_ ?_ ?_
      all_goals try simp -implicitDefEqProofs +decide only [go_sem, Nat.reduceAdd, Int.reduceToNat, hb2]
      all_goals first | done | trivial | omega | (simp [maps, go_sem, hb2]; done) | (simp [maps, go_sem, hb2] <;> omega)
    rintro g ⟨b87, x88, x89⟩ s1 h hd1
    rw [hashindex_ReadRoot_L1] at h
    try dsimp only
    refine seq_reg rfl (fun K hK => ?_)
    simp -implicitDefEqProofs +decide only [go_sem, Nat.reduceAdd, Int.reduceToNat]
    refine hK _ ?_
    refine swp_seq ?_
    refine bsplit h (fun hb93 h => ?_) (fun hb93 h => ?_)
    · refine cond_t (by simp -implicitDefEqProofs +decide only [go_sem, hb93]) ?_
      refine swp_skip ?_
      with_reducible repeat (first | refine nn ?_ | refine nb ?_ | refine nr ?_ | refine nc ?_ | refine ne ?_ | refine nq ?_ | refine nx rfl ?_)
      refine swp_seq ?_
      refine swp_block ?_
      refine seq_reg rfl (fun K hK => ?_)
      simp -implicitDefEqProofs +decide only [go_sem, Nat.reduceAdd, Int.reduceToNat, hb93]
      refine hK _ ?_
      refine seq_reg rfl (fun K hK => ?_)
      refine psplit h (fun hp94 h => ?_)
      simp -implicitDefEqProofs +decide only [go_sem, Nat.reduceAdd, Int.reduceToNat, hp94, hb93]
      first | refine opt_get (x := (.p (.int .u64 (A7.get a0.Data (IntKind.i64.wrap (2 + (IntKind.i64.wrap (Int.tdiv x89 2)))))))) (by rcases cases7 hp94.1 hp94.2 with hc | hc | hc | hc | hc | hc | hc <;> simp [hc, A7.get]) ?_ | refine opt_get' (x := (.p (.int .u64 (A7.get a0.Data (IntKind.i64.wrap (2 + (IntKind.i64.wrap (Int.tdiv x89 2)))))))) (by rcases cases7 hp94.1 hp94.2 with hc | hc | hc | hc | hc | hc | hc <;> simp [hc, A7.get]) ?_
      refine bind_of h (fun v95 hv95 h => ?_)
      simp -implicitDefEqProofs +decide only [go_sem, Nat.reduceAdd, Int.reduceToNat, hb93]
      refine call_go [0] false (hashindex_unpack_ok ⟨G.glob, noCaps⟩ hG0 (IntKind.u32.wrap (shrV .u64 (A7.get a0.Data (IntKind.i64.wrap (2 + (IntKind.i64.wrap (Int.tdiv x89 2))))) (IntKind.u64.wrap (IntKind.i64.wrap ((Int.tmod x89 2) * 32))))) _ hv95) (by simp -implicitDefEqProofs +decide only [go_sem, Nat.reduceAdd, Int.reduceToNat, hb93]; rfl) (by first | rfl | (simp [maps, hb93]; done)) ?_
      simp -implicitDefEqProofs +decide only [go_sem, Nat.reduceAdd, Int.reduceToNat, hb93]
      refine hK _ ?_
      refine swp_reg rfl (fun K hK => ?_)
      refine bsplit h (fun hb96 h => ?_) (fun hb96 h => ?_)
      · refine psplit h (fun hp97 h => ?_)
        simp -implicitDefEqProofs +decide only [go_sem, Nat.reduceAdd, Int.reduceToNat, hp97, hb93, hb96]
        refine opt_ite (by rcases cases4 hp97.1 hp97.2 with hc | hc | hc | hc <;> simp [hc]) ?_
        refine opt_wr (l' := [(.p (.int .i64 v3.1.Line)), (.p (.int .i64 v3.1.Gen)), (.p (.int .i64 (IntKind.i64.wrap (shrV .u64 a0.Data.a1 32)))), (.p (.int .i64 (A4.set x88 x89 v95.1).a0.Line)), (.p (.int .i64 (A4.set x88 x89 v95.1).a0.Gen)), (.p (.int .i64 (A4.set x88 x89 v95.1).a1.Line)), (.p (.int .i64 (A4.set x88 x89 v95.1).a1.Gen)), (.p (.int .i64 (A4.set x88 x89 v95.1).a2.Line)), (.p (.int .i64 (A4.set x88 x89 v95.1).a2.Gen)), (.p (.int .i64 (A4.set x88 x89 v95.1).a3.Line)), (.p (.int .i64 (A4.set x88 x89 v95.1).a3.Gen))]) (by rcases cases4 hp97.1 hp97.2 with hc | hc | hc | hc <;> simp [hc, A4.get, A4.set]) ?_
        simp -implicitDefEqProofs +decide only [go_sem, Nat.reduceAdd, Int.reduceToNat, hb93, hb96]
        refine hK _ ?_
        with_reducible repeat (first | refine nn ?_ | refine nb ?_ | refine nr ?_ | refine nc ?_ | refine ne ?_ | refine nq ?_ | refine nx rfl ?_)
        refine swp_reg rfl (fun K hK => ?_)
        simp -implicitDefEqProofs +decide only [go_sem, Nat.reduceAdd, Int.reduceToNat, hb93, hb96]
        refine hK _ ?_
        with_reducible repeat (first | refine nn ?_ | refine nb ?_ | refine nr ?_ | refine nc ?_ | refine ne ?_ | refine nq ?_ | refine nx rfl ?_)
        refine back_of h ?_
        refine ren_go (fun g S => [(⟨1024000003, g⟩, (keyT 0 (St.env S 1))), (⟨1024000004, g⟩, (keyT 0 (St.env S 2))), (⟨1024000005, g⟩, (keyT 0 (St.env S 7)))]) (fun g S => []) ?_ ?_ ?_ ?_ ?_
        all_goals try simp -implicitDefEqProofs +decide only [go_sem, Nat.reduceAdd, Int.reduceToNat, hb93, hb96]
        all_goals first | done | trivial | omega | (simp [maps, go_sem, hb93, hb96]; done) | (simp [maps, go_sem, hb93, hb96] <;> omega)
      · refine psplit h (fun hp101 h => ?_)
        simp -implicitDefEqProofs +decide only [go_sem, Nat.reduceAdd, Int.reduceToNat, hp101, hb93, hb96]
        refine opt_ite (by rcases cases4 hp101.1 hp101.2 with hc | hc | hc | hc <;> simp [hc]) ?_
        refine opt_wr (l' := [(.p (.int .i64 v3.1.Line)), (.p (.int .i64 v3.1.Gen)), (.p (.int .i64 (IntKind.i64.wrap (shrV .u64 a0.Data.a1 32)))), (.p (.int .i64 (A4.set x88 x89 v95.1).a0.Line)), (.p (.int .i64 (A4.set x88 x89 v95.1).a0.Gen)), (.p (.int .i64 (A4.set x88 x89 v95.1).a1.Line)), (.p (.int .i64 (A4.set x88 x89 v95.1).a1.Gen)), (.p (.int .i64 (A4.set x88 x89 v95.1).a2.Line)), (.p (.int .i64 (A4.set x88 x89 v95.1).a2.Gen)), (.p (.int .i64 (A4.set x88 x89 v95.1).a3.Line)), (.p (.int .i64 (A4.set x88 x89 v95.1).a3.Gen))]) (by rcases cases4 hp101.1 hp101.2 with hc | hc | hc | hc <;> simp [hc, A4.get, A4.set]) ?_
        simp -implicitDefEqProofs +decide only [go_sem, Nat.reduceAdd, Int.reduceToNat, hb93, hb96]
        refine hK _ ?_
        with_reducible repeat (first | refine nn ?_ | refine nb ?_ | refine nr ?_ | refine nc ?_ | refine ne ?_ | refine nq ?_ | refine nx rfl ?_)
        refine swp_reg rfl (fun K hK => ?_)
        simp -implicitDefEqProofs +decide only [go_sem, Nat.reduceAdd, Int.reduceToNat, hb93, hb96]
        refine hK _ ?_
        with_reducible repeat (first | refine nn ?_ | refine nb ?_ | refine nr ?_ | refine nc ?_ | refine ne ?_ | refine nq ?_ | refine nx rfl ?_)
        refine back_of h ?_
        refine ren_go (fun g S => [(⟨1024000003, g⟩, (keyT 0 (St.env S 1))), (⟨1024000004, g⟩, (keyT 0 (St.env S 2))), (⟨1024000005, g⟩, (keyT 0 (St.env S 7)))]) (fun g S => []) ?_ ?_ ?_ ?_ ?_
        all_goals try simp -implicitDefEqProofs +decide only [go_sem, Nat.reduceAdd, Int.reduceToNat, hb93, hb96]
        all_goals first | done | trivial | omega | (simp [maps, go_sem, hb93, hb96]; done) | (simp [maps, go_sem, hb93, hb96] <;> omega)
    · refine cond_f (by simp -implicitDefEqProofs +decide only [go_sem, hb93]) ?_
      refine swp_exit ?_
      with_reducible repeat (first | refine nn ?_ | refine nb ?_ | refine nr ?_ | refine nc ?_ | refine ne ?_ | refine nq ?_ | refine nx rfl ?_)
      obtain ⟨h, hs1⟩ := exit_of h hd1
      with_reducible repeat (first | refine nn ?_ | refine nb ?_ | refine nr ?_ | refine nc ?_ | refine ne ?_ | refine nq ?_ | refine nx rfl ?_)
      refine ⟨hs1, ?_⟩
      with_reducible repeat (first | refine nn ?_ | refine nb ?_ | refine nr ?_ | refine nc ?_ | refine ne ?_ | refine nq ?_ | refine nx rfl ?_)
      refine jump_of hj1 h ?_
      refine ren_go (fun g S => [(⟨1024000001, g⟩, (keyT 0 (St.env S 2))), (⟨1024000002, g⟩, (keyT 0 (St.env S 7)))]) (fun g S => []) ?_ ?_ ?_ ?_ ?_
      all_goals try simp -implicitDefEqProofs +decide only [go_sem, Nat.reduceAdd, Int.reduceToNat, hb93]
      all_goals first | done | trivial | omega | (simp [maps, go_sem, hb93]; done) | (simp [maps, go_sem, hb93] <;> omega)
end Go.Sh
end
section
namespace Go.Sh
open Go.Proofs
set_option linter.unusedVariables false
set_option linter.unusedSimpArgs false
set_option maxRecDepth 100000
set_option maxHeartbeats 4000000
noncomputable def hashindex_WriteRoot_L1 (a1 : hashindex_Root) (a0 : api_Page) : ((A7 Int) × Int) → Option (((A7 Int) × Int) ⊕ (api_Page × Int))
  | (x27, x28) =>
    if (decide (x28 < 4)) = true then
      if 0 ≤ x28 ∧ x28 < 4 then
        (pointer_Pack (A4.get a1.Pages x28)).bind fun v32 =>
        if 0 ≤ (IntKind.i64.wrap (x28 + 1)) ∧ (IntKind.i64.wrap (x28 + 1)) < 4 then
          (pointer_Pack (A4.get a1.Pages (IntKind.i64.wrap (x28 + 1)))).bind fun v34 =>
          if 0 ≤ (IntKind.i64.wrap (2 + (IntKind.i64.wrap (Int.tdiv x28 2)))) ∧ (IntKind.i64.wrap (2 + (IntKind.i64.wrap (Int.tdiv x28 2)))) < 7 then
            some (.inl ((A7.set x27 (IntKind.i64.wrap (2 + (IntKind.i64.wrap (Int.tdiv x28 2)))) (bits .or .u64 (IntKind.u64.wrap v32) (shlV .u64 (IntKind.u64.wrap v34) 32))), (IntKind.i64.wrap (x28 + 2))))
          else none
        else none
      else none
    else
      Option.map Sum.inr (
        some ((⟨a0.Line, a0.Head, x27⟩ : api_Page), 0))
noncomputable def hashindex_WriteRoot (a0 : api_Page) (a1 : hashindex_Root) : Option (api_Page × Int) :=
  if (a0.Line != 96) = true then
    some ((⟨0, 0, (⟨0, 0, 0, 0, 0, 0, 0⟩ : (A7 Int))⟩ : api_Page), 1)
  else
    (hashindex_Root_valid a1).bind fun v5 =>
    if (!v5) = true then
      some ((⟨0, 0, (⟨0, 0, 0, 0, 0, 0, 0⟩ : (A7 Int))⟩ : api_Page), 1)
    else
      (pointer_Pack a1.First).bind fun v7 =>
      iter (hashindex_WriteRoot_L1 a1 a0) ((⟨a0.Data.a0, (bits .or .u64 (IntKind.u64.wrap v7) (shlV .u64 (IntKind.u64.wrap a1.Depth) 32)), a0.Data.a2, a0.Data.a3, a0.Data.a4, a0.Data.a5, a0.Data.a6⟩ : (A7 Int)), 0)
theorem hashindex_WriteRoot_ok (G : Glob) (hG0 : G.glob 0 = some [(.int .i64 0), (.int .i64 0)]) (a0 : api_Page) (a1 : hashindex_Root) (res : (api_Page × Int)) (h : hashindex_WriteRoot a0 a1 = some res) : Spec Tryd.prog G 10 [.agg [.p (.int .i64 a0.Line), .p (.int .u64 a0.Head), .p (.int .u64 a0.Data.a0), .p (.int .u64 a0.Data.a1), .p (.int .u64 a0.Data.a2), .p (.int .u64 a0.Data.a3), .p (.int .u64 a0.Data.a4), .p (.int .u64 a0.Data.a5), .p (.int .u64 a0.Data.a6)], .agg [.p (.int .i64 a1.First.Line), .p (.int .i64 a1.First.Gen), .p (.int .i64 a1.Depth), .p (.int .i64 a1.Pages.a0.Line), .p (.int .i64 a1.Pages.a0.Gen), .p (.int .i64 a1.Pages.a1.Line), .p (.int .i64 a1.Pages.a1.Gen), .p (.int .i64 a1.Pages.a2.Line), .p (.int .i64 a1.Pages.a2.Gen), .p (.int .i64 a1.Pages.a3.Line), .p (.int .i64 a1.Pages.a3.Gen)]] (fun r ios => r = .tup [.agg [.p (.int .i64 res.1.Line), .p (.int .u64 res.1.Head), .p (.int .u64 res.1.Data.a0), .p (.int .u64 res.1.Data.a1), .p (.int .u64 res.1.Data.a2), .p (.int .u64 res.1.Data.a3), .p (.int .u64 res.1.Data.a4), .p (.int .u64 res.1.Data.a5), .p (.int .u64 res.1.Data.a6)], .cell (.p (.int .i64 res.2))] ∧ ios = []) := by
  rw [hashindex_WriteRoot] at h
  refine spec_of Tryd.mixed Tryd.func10 rfl rfl (by simp only [List.length]; decide +kernel) ?_
  refine swp_fresh (fun g => stL [(0, (.agg [(.p (.int .i64 a0.Line)), (.p (.int .u64 a0.Head)), (.p (.int .u64 a0.Data.a0)), (.p (.int .u64 a0.Data.a1)), (.p (.int .u64 a0.Data.a2)), (.p (.int .u64 a0.Data.a3)), (.p (.int .u64 a0.Data.a4)), (.p (.int .u64 a0.Data.a5)), (.p (.int .u64 a0.Data.a6))])), (1, (.agg [(.p (.int .i64 a1.First.Line)), (.p (.int .i64 a1.First.Gen)), (.p (.int .i64 a1.Depth)), (.p (.int .i64 a1.Pages.a0.Line)), (.p (.int .i64 a1.Pages.a0.Gen)), (.p (.int .i64 a1.Pages.a1.Line)), (.p (.int .i64 a1.Pages.a1.Gen)), (.p (.int .i64 a1.Pages.a2.Line)), (.p (.int .i64 a1.Pages.a2.Gen)), (.p (.int .i64 a1.Pages.a3.Line)), (.p (.int .i64 a1.Pages.a3.Gen))]))] [] (g + 1)) ?_ (fun g => ?_)
  · refine ren_go (fun g S => []) (fun g S => []) ?_ ?_ ?_ ?_ ?_
    all_goals try simp -implicitDefEqProofs +decide only [go_sem, Nat.reduceAdd, Int.reduceToNat]
    all_goals first | done | trivial | omega | (simp [maps, go_sem]; done) | (simp [maps, go_sem] <;> omega)
  refine seq_reg rfl (fun K hK => ?_)
  simp -implicitDefEqProofs +decide only [go_sem, Nat.reduceAdd, Int.reduceToNat]
  refine hK _ ?_
  refine swp_seq ?_
  refine seq_reg rfl (fun K hK => ?_)
  refine bsplit h (fun hb4 h => ?_) (fun hb4 h => ?_)
  · simp -implicitDefEqProofs +decide only [go_sem, Nat.reduceAdd, Int.reduceToNat, hb4]
    refine hK _ ?_
    refine cond_t (by simp -implicitDefEqProofs +decide only [go_sem, hb4]) ?_
    refine seq_reg rfl (fun K hK => ?_)
    simp -implicitDefEqProofs +decide only [go_sem, Nat.reduceAdd, Int.reduceToNat, hb4]
    refine hK _ ?_
    refine swp_ret ?_
    with_reducible repeat (first | refine nn ?_ | refine nb ?_ | refine nr ?_ | refine nc ?_ | refine ne ?_ | refine nq ?_ | refine nx rfl ?_)
    obtain rfl := some_eq h
    simp -implicitDefEqProofs +decide only [go_sem, Nat.reduceAdd, Int.reduceToNat]
    all_goals first | done | trivial | (simp [maps]; done)
  · refine bind_of h (fun v5 hv5 h => ?_)
    simp -implicitDefEqProofs +decide only [go_sem, Nat.reduceAdd, Int.reduceToNat, hb4]
    refine call_go [0] false (hashindex_Root_valid_ok ⟨G.glob, noCaps⟩ hG0 a1 _ hv5) (by simp -implicitDefEqProofs +decide only [go_sem, Nat.reduceAdd, Int.reduceToNat, hb4]; rfl) (by first | rfl | (simp [maps, hb4]; done)) ?_
    simp -implicitDefEqProofs +decide only [go_sem, Nat.reduceAdd, Int.reduceToNat, hb4]
    refine hK _ ?_
    refine bsplit h (fun hb6 h => ?_) (fun hb6 h => ?_)
    · refine cond_t (by simp -implicitDefEqProofs +decide only [go_sem, hb4, hb6]) ?_
      refine seq_reg rfl (fun K hK => ?_)
      simp -implicitDefEqProofs +decide only [go_sem, Nat.reduceAdd, Int.reduceToNat, hb4, hb6]
      refine hK _ ?_
      refine swp_ret ?_
      with_reducible repeat (first | refine nn ?_ | refine nb ?_ | refine nr ?_ | refine nc ?_ | refine ne ?_ | refine nq ?_ | refine nx rfl ?_)
      obtain rfl := some_eq h
      simp -implicitDefEqProofs +decide only [go_sem, Nat.reduceAdd, Int.reduceToNat]
      all_goals first | done | trivial | (simp [maps]; done)
    · refine cond_f (by simp -implicitDefEqProofs +decide only [go_sem, hb4, hb6]) ?_
      refine swp_skip ?_
      with_reducible repeat (first | refine nn ?_ | refine nb ?_ | refine nr ?_ | refine nc ?_ | refine ne ?_ | refine nq ?_ | refine nx rfl ?_)
      refine seq_drw rfl (fun K hK => ?_)
      refine bind_of h (fun v7 hv7 h => ?_)
      simp -implicitDefEqProofs +decide only [go_sem, Nat.reduceAdd, Int.reduceToNat, hb4, hb6]
      refine call_go [0] false (pointer_Pack_ok ⟨G.glob, noCaps⟩ hG0 a1.First _ hv7) (by simp -implicitDefEqProofs +decide only [go_sem, Nat.reduceAdd, Int.reduceToNat, hb4, hb6]; rfl) (by first | rfl | (simp [maps, hb4, hb6]; done)) ?_
      simp -implicitDefEqProofs +decide only [go_sem, Nat.reduceAdd, Int.reduceToNat, hb4, hb6]
      refine draw_go (by kernel_rfl) ?_
      refine hK _ ?_
      refine swp_seq ?_
      refine seq_reg rfl (fun K hK => ?_)
      simp -implicitDefEqProofs +decide only [go_sem, Nat.reduceAdd, Int.reduceToNat, hb4, hb6]
      refine hK _ ?_
      refine swp_block ?_
      refine swp_iter (fun g x => match x with | (x27, x28) => stL [(2, (.c (.ptr ⟨1024000001, g⟩ 0 0))), (3, (.c (.ptr ⟨1024000002, g⟩ 0 0))), (4, (.c (.ptr ⟨1024000003, g⟩ 0 0))), (6, (.c (.p (.int .i64 x28))))] [(⟨1024000001, g⟩, .box true [(.p (.int .i64 a0.Line)), (.p (.int .u64 a0.Head)), (.p (.int .u64 x27.a0)), (.p (.int .u64 x27.a1)), (.p (.int .u64 x27.a2)), (.p (.int .u64 x27.a3)), (.p (.int .u64 x27.a4)), (.p (.int .u64 x27.a5)), (.p (.int .u64 x27.a6))]), (⟨1024000002, g⟩, .box true [(.p (.int .i64 a1.First.Line)), (.p (.int .i64 a1.First.Gen)), (.p (.int .i64 a1.Depth)), (.p (.int .i64 a1.Pages.a0.Line)), (.p (.int .i64 a1.Pages.a0.Gen)), (.p (.int .i64 a1.Pages.a1.Line)), (.p (.int .i64 a1.Pages.a1.Gen)), (.p (.int .i64 a1.Pages.a2.Line)), (.p (.int .i64 a1.Pages.a2.Gen)), (.p (.int .i64 a1.Pages.a3.Line)), (.p (.int .i64 a1.Pages.a3.Gen))]), (⟨1024000003, g⟩, .box true [(.p (.int .i64 0)), (.p (.int .u64 0)), (.p (.int .u64 0)), (.p (.int .u64 0)), (.p (.int .u64 0)), (.p (.int .u64 0)), (.p (.int .u64 0)), (.p (.int .u64 0)), (.p (.int .u64 0))])] (g + 1)) h (enter_of ?_) ?_
      · refine ren_go (fun g S => [(⟨1024000001, g⟩, (keyT 0 (St.env S 2))), (⟨1024000002, g⟩, (keyT 0 (St.env S 3))), (⟨1024000003, g⟩, (keyT 0 (St.env S 4)))]) (fun g S => []) ?_ ?_ ?_ ?_ ?_
        all_goals try simp -implicitDefEqProofs +decide only [go_sem, Nat.reduceAdd, Int.reduceToNat, hb4, hb6]
        all_goals first | done | trivial | omega | (simp [maps, go_sem, hb4, hb6]; done) | (simp [maps, go_sem, hb4, hb6] <;> omega)
      rintro g ⟨x27, x28⟩ s1 h hd1
      rw [hashindex_WriteRoot_L1] at h
      try dsimp only
      refine swp_seq ?_
      refine seq_reg rfl (fun K hK => ?_)
      simp -implicitDefEqProofs +decide only [go_sem, Nat.reduceAdd, Int.reduceToNat]
      refine hK _ ?_
      refine bsplit h (fun hb30 h => ?_) (fun hb30 h => ?_)
      · refine cond_t (by simp -implicitDefEqProofs +decide only [go_sem, hb30]) ?_
        refine swp_skip ?_
        with_reducible repeat (first | refine nn ?_ | refine nb ?_ | refine nr ?_ | refine nc ?_ | refine ne ?_ | refine nq ?_ | refine nx rfl ?_)
        refine swp_seq ?_
        refine swp_block ?_
        refine swp_drw rfl (fun K hK => ?_)
        refine psplit h (fun hp31 h => ?_)
        simp -implicitDefEqProofs +decide only [go_sem, Nat.reduceAdd, Int.reduceToNat, hp31, hb30]
        refine opt_ite (by rcases cases4 hp31.1 hp31.2 with hc | hc | hc | hc <;> simp [hc, A4.get]) ?_
        refine opt_v (v' := .agg [(.p (.int .i64 (A4.get a1.Pages x28).Line)), (.p (.int .i64 (A4.get a1.Pages x28).Gen))]) (by rcases cases4 hp31.1 hp31.2 with hc | hc | hc | hc <;> simp [hc, A4.get]) ?_
        refine bind_of h (fun v32 hv32 h => ?_)
        simp -implicitDefEqProofs +decide only [go_sem, Nat.reduceAdd, Int.reduceToNat, hb30]
        refine call_go [0] false (pointer_Pack_ok ⟨G.glob, noCaps⟩ hG0 (A4.get a1.Pages x28) _ hv32) (by simp -implicitDefEqProofs +decide only [go_sem, Nat.reduceAdd, Int.reduceToNat, hb30]; rfl) (by first | rfl | (simp [maps, hb30]; done)) ?_
        refine psplit h (fun hp33 h => ?_)
        simp -implicitDefEqProofs +decide only [go_sem, Nat.reduceAdd, Int.reduceToNat, hp33, hb30]
        refine opt_ite (by rcases cases4 hp33.1 hp33.2 with hc | hc | hc | hc <;> simp [hc, A4.get]) ?_
        refine opt_v (v' := .agg [(.p (.int .i64 (A4.get a1.Pages (IntKind.i64.wrap (x28 + 1))).Line)), (.p (.int .i64 (A4.get a1.Pages (IntKind.i64.wrap (x28 + 1))).Gen))]) (by rcases cases4 hp33.1 hp33.2 with hc | hc | hc | hc <;> simp [hc, A4.get]) ?_
        refine bind_of h (fun v34 hv34 h => ?_)
        simp -implicitDefEqProofs +decide only [go_sem, Nat.reduceAdd, Int.reduceToNat, hb30]
        refine call_go [0] false (pointer_Pack_ok ⟨G.glob, noCaps⟩ hG0 (A4.get a1.Pages (IntKind.i64.wrap (x28 + 1))) _ hv34) (by simp -implicitDefEqProofs +decide only [go_sem, Nat.reduceAdd, Int.reduceToNat, hb30]; rfl) (by first | rfl | (simp [maps, hb30]; done)) ?_
        refine psplit h (fun hp35 h => ?_)
        simp -implicitDefEqProofs +decide only [go_sem, Nat.reduceAdd, Int.reduceToNat, hp35, hb30]
        refine opt_ite (by rcases cases7 hp35.1 hp35.2 with hc | hc | hc | hc | hc | hc | hc <;> simp [hc]) ?_
        refine opt_wr (l' := [(.p (.int .i64 a0.Line)), (.p (.int .u64 a0.Head)), (.p (.int .u64 (A7.set x27 (IntKind.i64.wrap (2 + (IntKind.i64.wrap (Int.tdiv x28 2)))) (bits .or .u64 (IntKind.u64.wrap v32) (shlV .u64 (IntKind.u64.wrap v34) 32))).a0)), (.p (.int .u64 (A7.set x27 (IntKind.i64.wrap (2 + (IntKind.i64.wrap (Int.tdiv x28 2)))) (bits .or .u64 (IntKind.u64.wrap v32) (shlV .u64 (IntKind.u64.wrap v34) 32))).a1)), (.p (.int .u64 (A7.set x27 (IntKind.i64.wrap (2 + (IntKind.i64.wrap (Int.tdiv x28 2)))) (bits .or .u64 (IntKind.u64.wrap v32) (shlV .u64 (IntKind.u64.wrap v34) 32))).a2)), (.p (.int .u64 (A7.set x27 (IntKind.i64.wrap (2 + (IntKind.i64.wrap (Int.tdiv x28 2)))) (bits .or .u64 (IntKind.u64.wrap v32) (shlV .u64 (IntKind.u64.wrap v34) 32))).a3)), (.p (.int .u64 (A7.set x27 (IntKind.i64.wrap (2 + (IntKind.i64.wrap (Int.tdiv x28 2)))) (bits .or .u64 (IntKind.u64.wrap v32) (shlV .u64 (IntKind.u64.wrap v34) 32))).a4)), (.p (.int .u64 (A7.set x27 (IntKind.i64.wrap (2 + (IntKind.i64.wrap (Int.tdiv x28 2)))) (bits .or .u64 (IntKind.u64.wrap v32) (shlV .u64 (IntKind.u64.wrap v34) 32))).a5)), (.p (.int .u64 (A7.set x27 (IntKind.i64.wrap (2 + (IntKind.i64.wrap (Int.tdiv x28 2)))) (bits .or .u64 (IntKind.u64.wrap v32) (shlV .u64 (IntKind.u64.wrap v34) 32))).a6))]) (by rcases cases7 hp35.1 hp35.2 with hc | hc | hc | hc | hc | hc | hc <;> simp [hc, A7.get, A7.set]) ?_
        simp -implicitDefEqProofs +decide only [go_sem, Nat.reduceAdd, Int.reduceToNat, hb30]
        refine draw_go (by kernel_rfl) ?_
        refine hK _ ?_
        with_reducible repeat (first | refine nn ?_ | refine nb ?_ | refine nr ?_ | refine nc ?_ | refine ne ?_ | refine nq ?_ | refine nx rfl ?_)
        refine swp_reg rfl (fun K hK => ?_)
        simp -implicitDefEqProofs +decide only [go_sem, Nat.reduceAdd, Int.reduceToNat, hb30]
        refine hK _ ?_
        with_reducible repeat (first | refine nn ?_ | refine nb ?_ | refine nr ?_ | refine nc ?_ | refine ne ?_ | refine nq ?_ | refine nx rfl ?_)
        refine back_of h ?_
        refine ren_go (fun g S => [(⟨1024000001, g⟩, (keyT 0 (St.env S 2))), (⟨1024000002, g⟩, (keyT 0 (St.env S 3))), (⟨1024000003, g⟩, (keyT 0 (St.env S 4)))]) (fun g S => []) ?_ ?_ ?_ ?_ ?_
        all_goals try simp -implicitDefEqProofs +decide only [go_sem, Nat.reduceAdd, Int.reduceToNat, hb30]
        all_goals first | done | trivial | omega | (simp [maps, go_sem, hb30]; done) | (simp [maps, go_sem, hb30] <;> omega)
      · refine cond_f (by simp -implicitDefEqProofs +decide only [go_sem, hb30]) ?_
        refine swp_exit ?_
        with_reducible repeat (first | refine nn ?_ | refine nb ?_ | refine nr ?_ | refine nc ?_ | refine ne ?_ | refine nq ?_ | refine nx rfl ?_)
        obtain ⟨h, hs1⟩ := exit_of h hd1
        with_reducible repeat (first | refine nn ?_ | refine nb ?_ | refine nr ?_ | refine nc ?_ | refine ne ?_ | refine nq ?_ | refine nx rfl ?_)
        refine ⟨hs1, ?_⟩
        with_reducible repeat (first | refine nn ?_ | refine nb ?_ | refine nr ?_ | refine nc ?_ | refine ne ?_ | refine nq ?_ | refine nx rfl ?_)
        refine seq_reg rfl (fun K hK => ?_)
        simp -implicitDefEqProofs +decide only [go_sem, Nat.reduceAdd, Int.reduceToNat, hb30]
        refine hK _ ?_
        refine swp_ret ?_
        with_reducible repeat (first | refine nn ?_ | refine nb ?_ | refine nr ?_ | refine nc ?_ | refine ne ?_ | refine nq ?_ | refine nx rfl ?_)
        obtain rfl := some_eq h
        simp -implicitDefEqProofs +decide only [go_sem, Nat.reduceAdd, Int.reduceToNat]
        all_goals first | done | trivial | (simp [maps]; done)
end Go.Sh
end
section
namespace Go.Sh
open Go.Proofs
set_option linter.unusedVariables false
set_option linter.unusedSimpArgs false
set_option maxRecDepth 100000
set_option maxHeartbeats 4000000
noncomputable def bodegalaw23_HashRoots_J1 (a0 : api_Page) (a2 : Int) : (Int × hashindex_Root) → Option Bool
  | (x67, x68) =>
    (hashindex_ReadRoot (⟨x67, a0.Head, a0.Data⟩ : api_Page)).bind fun v69 =>
    (bodegaref23_ReadRoot (⟨x67, a0.Head, a0.Data⟩ : api_Page)).bind fun v70 =>
    (hashindex_WriteRoot (⟨x67, a0.Head, a0.Data⟩ : api_Page) x68).bind fun v71 =>
    (bodegalaw23_root x68).bind fun v72 =>
    (bodegaref23_WriteRoot (⟨x67, a0.Head, a0.Data⟩ : api_Page) v72).bind fun v73 =>
    (bodegalaw23_awake).bind fun v82 =>
    if (!v82) = true then
      some false
    else
      (bodegalaw23_root v69.1).bind fun v84 =>
      if (!((v84.First.Line == v70.1.First.Line) && ((v84.First.Gen == v70.1.First.Gen) && ((v84.Depth == v70.1.Depth) && ((v84.Pages.a0.Line == v70.1.Pages.a0.Line) && ((v84.Pages.a0.Gen == v70.1.Pages.a0.Gen) && ((v84.Pages.a1.Line == v70.1.Pages.a1.Line) && ((v84.Pages.a1.Gen == v70.1.Pages.a1.Gen) && ((v84.Pages.a2.Line == v70.1.Pages.a2.Line) && ((v84.Pages.a2.Gen == v70.1.Pages.a2.Gen) && ((v84.Pages.a3.Line == v70.1.Pages.a3.Line) && (v84.Pages.a3.Gen == v70.1.Pages.a3.Gen)))))))))))) = true then
        some false
      else
        if (v69.2 != v70.2) = true then
          some false
        else
          (bodegalaw23_same v71.1 v73.1).bind fun v87 =>
          if (!v87) = true then
            some false
          else
            if (v71.2 != v73.2) = true then
              some false
            else
              if (v71.2 != 0) = true then
                some true
              else
                (hashindex_ReadRoot v71.1).bind fun v92 =>
                if (v92.2 != 0) = true then
                  some false
                else
                  if (!((v92.1.First.Line == x68.First.Line) && ((v92.1.First.Gen == x68.First.Gen) && ((v92.1.Depth == x68.Depth) && ((v92.1.Pages.a0.Line == x68.Pages.a0.Line) && ((v92.1.Pages.a0.Gen == x68.Pages.a0.Gen) && ((v92.1.Pages.a1.Line == x68.Pages.a1.Line) && ((v92.1.Pages.a1.Gen == x68.Pages.a1.Gen) && ((v92.1.Pages.a2.Line == x68.Pages.a2.Line) && ((v92.1.Pages.a2.Gen == x68.Pages.a2.Gen) && ((v92.1.Pages.a3.Line == x68.Pages.a3.Line) && (v92.1.Pages.a3.Gen == x68.Pages.a3.Gen)))))))))))) = true then
                    some false
                  else
                    if (v71.1.Data.a0 != a0.Data.a0) = true then
                      some false
                    else
                      if (v71.1.Data.a4 != a0.Data.a4) = true then
                        some false
                      else
                        if (v71.1.Data.a5 != a0.Data.a5) = true then
                          some false
                        else
                          if (v71.1.Data.a6 != a0.Data.a6) = true then
                            some false
                          else
                            (bodegahand_Pick (IntKind.i64.wrap (Int.tdiv a2 8)) 3).bind fun v105 =>
                            if 0 ≤ (IntKind.i64.wrap (1 + v105)) ∧ (IntKind.i64.wrap (1 + v105)) < 7 then
                              (bodegahand_Pick (IntKind.i64.wrap (Int.tdiv a2 24)) 64).bind fun v107 =>
                              if 0 ≤ (IntKind.i64.wrap (1 + v105)) ∧ (IntKind.i64.wrap (1 + v105)) < 7 then
                                (hashindex_ReadRoot (⟨v71.1.Line, v71.1.Head, (A7.set v71.1.Data (IntKind.i64.wrap (1 + v105)) (bits .xor .u64 (A7.get v71.1.Data (IntKind.i64.wrap (1 + v105))) (shlV .u64 1 (IntKind.u64.wrap v107))))⟩ : api_Page)).bind fun v109 =>
                                (bodegaref23_ReadRoot (⟨v71.1.Line, v71.1.Head, (A7.set v71.1.Data (IntKind.i64.wrap (1 + v105)) (bits .xor .u64 (A7.get v71.1.Data (IntKind.i64.wrap (1 + v105))) (shlV .u64 1 (IntKind.u64.wrap v107))))⟩ : api_Page)).bind fun v110 =>
                                (bodegalaw23_root v109.1).bind fun v111 =>
                                some (((v111.First.Line == v110.1.First.Line) && ((v111.First.Gen == v110.1.First.Gen) && ((v111.Depth == v110.1.Depth) && ((v111.Pages.a0.Line == v110.1.Pages.a0.Line) && ((v111.Pages.a0.Gen == v110.1.Pages.a0.Gen) && ((v111.Pages.a1.Line == v110.1.Pages.a1.Line) && ((v111.Pages.a1.Gen == v110.1.Pages.a1.Gen) && ((v111.Pages.a2.Line == v110.1.Pages.a2.Line) && ((v111.Pages.a2.Gen == v110.1.Pages.a2.Gen) && ((v111.Pages.a3.Line == v110.1.Pages.a3.Line) && (v111.Pages.a3.Gen == v110.1.Pages.a3.Gen))))))))))) && (v109.2 == v110.2))
                              else none
                            else none
noncomputable def bodegalaw23_HashRoots_J2 (a2 : Int) (a0 : api_Page) (v116 : pointer_Pointer) (v115 : Int) (x147 : (A4 pointer_Pointer)) : Option Bool :=
    if ((Int.tmod a2 5) == 0) = true then
      bodegalaw23_HashRoots_J1 a0 a2 (96, (⟨(⟨0, 0⟩ : pointer_Pointer), 0, (⟨(⟨0, 0⟩ : pointer_Pointer), (⟨0, 0⟩ : pointer_Pointer), (⟨0, 0⟩ : pointer_Pointer), (⟨0, 0⟩ : pointer_Pointer)⟩ : (A4 pointer_Pointer))⟩ : hashindex_Root))
    else
      bodegalaw23_HashRoots_J1 a0 a2 (96, (⟨v116, (IntKind.i64.wrap (v115 - 1)), x147⟩ : hashindex_Root))
noncomputable def bodegalaw23_HashRoots_L1 (a2 : Int) (a0 : api_Page) (v116 : pointer_Pointer) (v115 : Int) : ((A4 pointer_Pointer) × Int) → Option (((A4 pointer_Pointer) × Int) ⊕ Bool)
  | (x176, x177) =>
    if (decide (x177 < 4)) = true then
      if 0 ≤ x177 ∧ x177 < 4 then
        (bodegalaw23_aim (A4.get x176 x177)).bind fun v182 =>
        if 0 ≤ x177 ∧ x177 < 4 then
          some (.inl ((A4.set x176 x177 v182), (IntKind.i64.wrap (x177 + 1))))
        else none
      else none
    else
      Option.map Sum.inr (
        bodegalaw23_HashRoots_J2 a2 a0 v116 v115 x176)
noncomputable def bodegalaw23_HashRoots (a0 : api_Page) (a1 : hashindex_Root) (a2 : Int) : Option Bool :=
  (bodegahand_Pick a2 8).bind fun v113 =>
  if (decide (v113 > 0)) = true then
    (bodegahand_Pick a1.Depth 9).bind fun v115 =>
    (bodegalaw23_aim a1.First).bind fun v116 =>
    iter (bodegalaw23_HashRoots_L1 a2 a0 v116 v115) (a1.Pages, 0)
  else
    bodegalaw23_HashRoots_J1 a0 a2 (a0.Line, a1)
theorem bodegalaw23_HashRoots_ok (G : Glob) (hG0 : G.glob 0 = some [(.int .i64 0), (.int .i64 0)]) (a0 : api_Page) (a1 : hashindex_Root) (a2 : Int) (res : Bool) (h : bodegalaw23_HashRoots a0 a1 a2 = some res) : Spec Tryd.prog G 3 [.agg [.p (.int .i64 a0.Line), .p (.int .u64 a0.Head), .p (.int .u64 a0.Data.a0), .p (.int .u64 a0.Data.a1), .p (.int .u64 a0.Data.a2), .p (.int .u64 a0.Data.a3), .p (.int .u64 a0.Data.a4), .p (.int .u64 a0.Data.a5), .p (.int .u64 a0.Data.a6)], .agg [.p (.int .i64 a1.First.Line), .p (.int .i64 a1.First.Gen), .p (.int .i64 a1.Depth), .p (.int .i64 a1.Pages.a0.Line), .p (.int .i64 a1.Pages.a0.Gen), .p (.int .i64 a1.Pages.a1.Line), .p (.int .i64 a1.Pages.a1.Gen), .p (.int .i64 a1.Pages.a2.Line), .p (.int .i64 a1.Pages.a2.Gen), .p (.int .i64 a1.Pages.a3.Line), .p (.int .i64 a1.Pages.a3.Gen)], .cell (.p (.int .i64 a2))] (fun r ios => r = .cell (.p (.bool res)) ∧ ios = []) := by
  rw [bodegalaw23_HashRoots] at h
  refine spec_of Tryd.mixed Tryd.func3 rfl rfl (by simp only [List.length]; decide +kernel) ?_
  refine swp_fresh (fun g => stL [(0, (.agg [(.p (.int .i64 a0.Line)), (.p (.int .u64 a0.Head)), (.p (.int .u64 a0.Data.a0)), (.p (.int .u64 a0.Data.a1)), (.p (.int .u64 a0.Data.a2)), (.p (.int .u64 a0.Data.a3)), (.p (.int .u64 a0.Data.a4)), (.p (.int .u64 a0.Data.a5)), (.p (.int .u64 a0.Data.a6))])), (1, (.agg [(.p (.int .i64 a1.First.Line)), (.p (.int .i64 a1.First.Gen)), (.p (.int .i64 a1.Depth)), (.p (.int .i64 a1.Pages.a0.Line)), (.p (.int .i64 a1.Pages.a0.Gen)), (.p (.int .i64 a1.Pages.a1.Line)), (.p (.int .i64 a1.Pages.a1.Gen)), (.p (.int .i64 a1.Pages.a2.Line)), (.p (.int .i64 a1.Pages.a2.Gen)), (.p (.int .i64 a1.Pages.a3.Line)), (.p (.int .i64 a1.Pages.a3.Gen))])), (2, (.c (.p (.int .i64 a2))))] [] (g + 1)) ?_ (fun g => ?_)
  · refine ren_go (fun g S => []) (fun g S => []) ?_ ?_ ?_ ?_ ?_
    all_goals try simp -implicitDefEqProofs +decide only [go_sem, Nat.reduceAdd, Int.reduceToNat]
    all_goals first | done | trivial | omega | (simp [maps, go_sem]; done) | (simp [maps, go_sem] <;> omega)
  refine seq_reg rfl (fun K hK => ?_)
  simp -implicitDefEqProofs +decide only [go_sem, Nat.reduceAdd, Int.reduceToNat]
  refine hK _ ?_
  refine cut1 (Joins (bodegalaw23_HashRoots_J1 a0 a2) (fun g x => match x with | (x67, x68) => stL [(2, (.c (.p (.int .i64 a2)))), (3, (.c (.ptr ⟨1024000001, g⟩ 0 0))), (4, (.c (.ptr ⟨1024000002, g⟩ 0 0)))] [(⟨1024000001, g⟩, .box true [(.p (.int .i64 x67)), (.p (.int .u64 a0.Head)), (.p (.int .u64 a0.Data.a0)), (.p (.int .u64 a0.Data.a1)), (.p (.int .u64 a0.Data.a2)), (.p (.int .u64 a0.Data.a3)), (.p (.int .u64 a0.Data.a4)), (.p (.int .u64 a0.Data.a5)), (.p (.int .u64 a0.Data.a6))]), (⟨1024000002, g⟩, .box true [(.p (.int .i64 x68.First.Line)), (.p (.int .i64 x68.First.Gen)), (.p (.int .i64 x68.Depth)), (.p (.int .i64 x68.Pages.a0.Line)), (.p (.int .i64 x68.Pages.a0.Gen)), (.p (.int .i64 x68.Pages.a1.Line)), (.p (.int .i64 x68.Pages.a1.Gen)), (.p (.int .i64 x68.Pages.a2.Line)), (.p (.int .i64 x68.Pages.a2.Gen)), (.p (.int .i64 x68.Pages.a3.Line)), (.p (.int .i64 x68.Pages.a3.Gen))])] (g + 1)) res) ?_ (fun hj1 => ?_)
  · refine join_of ?_
    rintro g ⟨x67, x68⟩ h
    rw [bodegalaw23_HashRoots_J1] at h
    try dsimp only
    refine seq_reg rfl (fun K hK => ?_)
    refine bind_of h (fun v69 hv69 h => ?_)
    simp -implicitDefEqProofs +decide only [go_sem, Nat.reduceAdd, Int.reduceToNat]
    refine call_go [0] false (hashindex_ReadRoot_ok ⟨G.glob, noCaps⟩ hG0 (⟨x67, a0.Head, a0.Data⟩ : api_Page) _ hv69) (by simp -implicitDefEqProofs +decide only [go_sem, Nat.reduceAdd, Int.reduceToNat]; rfl) (by first | rfl | (simp [maps]; done)) ?_
    simp -implicitDefEqProofs +decide only [go_sem, Nat.reduceAdd, Int.reduceToNat]
    refine hK _ ?_
    refine seq_reg rfl (fun K hK => ?_)
    refine bind_of h (fun v70 hv70 h => ?_)
    simp -implicitDefEqProofs +decide only [go_sem, Nat.reduceAdd, Int.reduceToNat]
    refine call_go [0] false (bodegaref23_ReadRoot_ok ⟨G.glob, noCaps⟩ hG0 (⟨x67, a0.Head, a0.Data⟩ : api_Page) _ hv70) (by simp -implicitDefEqProofs +decide only [go_sem, Nat.reduceAdd, Int.reduceToNat]; rfl) (by first | rfl | (simp [maps]; done)) ?_
    simp -implicitDefEqProofs +decide only [go_sem, Nat.reduceAdd, Int.reduceToNat]
    refine hK _ ?_
    refine seq_reg rfl (fun K hK => ?_)
    refine bind_of h (fun v71 hv71 h => ?_)
    simp -implicitDefEqProofs +decide only [go_sem, Nat.reduceAdd, Int.reduceToNat]
    refine call_go [0, 0] false (hashindex_WriteRoot_ok ⟨G.glob, noCaps⟩ hG0 (⟨x67, a0.Head, a0.Data⟩ : api_Page) x68 _ hv71) (by simp -implicitDefEqProofs +decide only [go_sem, Nat.reduceAdd, Int.reduceToNat]; rfl) (by first | rfl | (simp [maps]; done)) ?_
    simp -implicitDefEqProofs +decide only [go_sem, Nat.reduceAdd, Int.reduceToNat]
    refine hK _ ?_
    refine seq_drw rfl (fun K hK => ?_)
    refine bind_of h (fun v72 hv72 h => ?_)
    simp -implicitDefEqProofs +decide only [go_sem, Nat.reduceAdd, Int.reduceToNat]
    refine call_go [0] false (bodegalaw23_root_ok ⟨G.glob, noCaps⟩ hG0 x68 _ hv72) (by simp -implicitDefEqProofs +decide only [go_sem, Nat.reduceAdd, Int.reduceToNat]; rfl) (by first | rfl | (simp [maps]; done)) ?_
    refine bind_of h (fun v73 hv73 h => ?_)
    simp -implicitDefEqProofs +decide only [go_sem, Nat.reduceAdd, Int.reduceToNat]
    refine call_go [0, 0] false (bodegaref23_WriteRoot_ok ⟨G.glob, noCaps⟩ hG0 (⟨x67, a0.Head, a0.Data⟩ : api_Page) v72 _ hv73) (by simp -implicitDefEqProofs +decide only [go_sem, Nat.reduceAdd, Int.reduceToNat]; rfl) (by first | rfl | (simp [maps]; done)) ?_
    simp -implicitDefEqProofs +decide only [go_sem, Nat.reduceAdd, Int.reduceToNat]
    refine draw_go (by kernel_rfl) ?_
    refine hK _ ?_
    refine swp_seq ?_
    refine seq_drw rfl (fun K hK => ?_)
    refine bind_of h (fun v82 hv82 h => ?_)
    simp -implicitDefEqProofs +decide only [go_sem, Nat.reduceAdd, Int.reduceToNat]
    refine call_go [] false (bodegalaw23_awake_ok ⟨G.glob, noCaps⟩ hG0  _ hv82) (by simp -implicitDefEqProofs +decide only [go_sem, Nat.reduceAdd, Int.reduceToNat]; rfl) (by first | rfl | (simp [maps]; done)) ?_
    refine bsplit h (fun hb83 h => ?_) (fun hb83 h => ?_)
    · simp -implicitDefEqProofs +decide only [go_sem, Nat.reduceAdd, Int.reduceToNat, hb83]
      refine draw_go (by kernel_rfl) ?_
      refine hK _ ?_
      refine cond_t (by simp -implicitDefEqProofs +decide only [go_sem, hb83]) ?_
      refine seq_reg rfl (fun K hK => ?_)
      simp -implicitDefEqProofs +decide only [go_sem, Nat.reduceAdd, Int.reduceToNat, hb83]
      refine hK _ ?_
      refine swp_ret ?_
      with_reducible repeat (first | refine nn ?_ | refine nb ?_ | refine nr ?_ | refine nc ?_ | refine ne ?_ | refine nq ?_ | refine nx rfl ?_)
      obtain rfl := some_eq h
      simp -implicitDefEqProofs +decide only [go_sem, Nat.reduceAdd, Int.reduceToNat]
      all_goals first | done | trivial | (simp [maps]; done)
    · refine bind_of h (fun v84 hv84 h => ?_)
      simp -implicitDefEqProofs +decide only [go_sem, Nat.reduceAdd, Int.reduceToNat, hb83]
      refine call_go [0] false (bodegalaw23_root_ok ⟨G.glob, noCaps⟩ hG0 v69.1 _ hv84) (by simp -implicitDefEqProofs +decide only [go_sem, Nat.reduceAdd, Int.reduceToNat, hb83]; rfl) (by first | rfl | (simp [maps, hb83]; done)) ?_
      refine bsplit h (fun hb85 h => ?_) (fun hb85 h => ?_)
      · simp -implicitDefEqProofs +decide only [go_sem, Nat.reduceAdd, Int.reduceToNat, hb83, hb85]
        refine draw_go (by kernel_rfl) ?_
        refine hK _ ?_
        refine cond_t (by simp -implicitDefEqProofs +decide only [go_sem, hb83, hb85]) ?_
        refine seq_reg rfl (fun K hK => ?_)
        simp -implicitDefEqProofs +decide only [go_sem, Nat.reduceAdd, Int.reduceToNat, hb83, hb85]
        refine hK _ ?_
        refine swp_ret ?_
        with_reducible repeat (first | refine nn ?_ | refine nb ?_ | refine nr ?_ | refine nc ?_ | refine ne ?_ | refine nq ?_ | refine nx rfl ?_)
        obtain rfl := some_eq h
        simp -implicitDefEqProofs +decide only [go_sem, Nat.reduceAdd, Int.reduceToNat]
        all_goals first | done | trivial | (simp [maps]; done)
      · refine bsplit h (fun hb86 h => ?_) (fun hb86 h => ?_)
        · simp -implicitDefEqProofs +decide only [go_sem, Nat.reduceAdd, Int.reduceToNat, hb83, hb85, hb86]
          refine draw_go (by kernel_rfl) ?_
          refine hK _ ?_
          refine cond_t (by simp -implicitDefEqProofs +decide only [go_sem, hb83, hb85, hb86]) ?_
          refine seq_reg rfl (fun K hK => ?_)
          simp -implicitDefEqProofs +decide only [go_sem, Nat.reduceAdd, Int.reduceToNat, hb83, hb85, hb86]
          refine hK _ ?_
          refine swp_ret ?_
          with_reducible repeat (first | refine nn ?_ | refine nb ?_ | refine nr ?_ | refine nc ?_ | refine ne ?_ | refine nq ?_ | refine nx rfl ?_)
          obtain rfl := some_eq h
          simp -implicitDefEqProofs +decide only [go_sem, Nat.reduceAdd, Int.reduceToNat]
          all_goals first | done | trivial | (simp [maps]; done)
        · refine bind_of h (fun v87 hv87 h => ?_)
          simp -implicitDefEqProofs +decide only [go_sem, Nat.reduceAdd, Int.reduceToNat, hb83, hb85, hb86]
          refine call_go [0, 0] false (bodegalaw23_same_ok ⟨G.glob, noCaps⟩ hG0 v71.1 v73.1 _ hv87) (by simp -implicitDefEqProofs +decide only [go_sem, Nat.reduceAdd, Int.reduceToNat, hb83, hb85, hb86]; rfl) (by first | rfl | (simp [maps, hb83, hb85, hb86]; done)) ?_
          refine bsplit h (fun hb88 h => ?_) (fun hb88 h => ?_)
          · simp -implicitDefEqProofs +decide only [go_sem, Nat.reduceAdd, Int.reduceToNat, hb83, hb85, hb86, hb88]
            refine draw_go (by kernel_rfl) ?_
            refine hK _ ?_
            refine cond_t (by simp -implicitDefEqProofs +decide only [go_sem, hb83, hb85, hb86, hb88]) ?_
            refine seq_reg rfl (fun K hK => ?_)
            simp -implicitDefEqProofs +decide only [go_sem, Nat.reduceAdd, Int.reduceToNat, hb83, hb85, hb86, hb88]
            refine hK _ ?_
            refine swp_ret ?_
            with_reducible repeat (first | refine nn ?_ | refine nb ?_ | refine nr ?_ | refine nc ?_ | refine ne ?_ | refine nq ?_ | refine nx rfl ?_)
            obtain rfl := some_eq h
            simp -implicitDefEqProofs +decide only [go_sem, Nat.reduceAdd, Int.reduceToNat]
            all_goals first | done | trivial | (simp [maps]; done)
          · simp -implicitDefEqProofs +decide only [go_sem, Nat.reduceAdd, Int.reduceToNat, hb83, hb85, hb86, hb88]
            refine draw_go (by kernel_rfl) ?_
            refine hK _ ?_
            refine bsplit h (fun hb89 h => ?_) (fun hb89 h => ?_)
            · refine cond_t (by simp -implicitDefEqProofs +decide only [go_sem, hb83, hb85, hb86, hb88, hb89]) ?_
              refine seq_reg rfl (fun K hK => ?_)
              simp -implicitDefEqProofs +decide only [go_sem, Nat.reduceAdd, Int.reduceToNat, hb83, hb85, hb86, hb88, hb89]
              refine hK _ ?_
              refine swp_ret ?_
              with_reducible repeat (first | refine nn ?_ | refine nb ?_ | refine nr ?_ | refine nc ?_ | refine ne ?_ | refine nq ?_ | refine nx rfl ?_)
              obtain rfl := some_eq h
              simp -implicitDefEqProofs +decide only [go_sem, Nat.reduceAdd, Int.reduceToNat]
              all_goals first | done | trivial | (simp [maps]; done)
            · refine cond_f (by simp -implicitDefEqProofs +decide only [go_sem, hb83, hb85, hb86, hb88, hb89]) ?_
              refine swp_skip ?_
              with_reducible repeat (first | refine nn ?_ | refine nb ?_ | refine nr ?_ | refine nc ?_ | refine ne ?_ | refine nq ?_ | refine nx rfl ?_)
              refine swp_seq ?_
              refine seq_reg rfl (fun K hK => ?_)
              simp -implicitDefEqProofs +decide only [go_sem, Nat.reduceAdd, Int.reduceToNat, hb83, hb85, hb86, hb88, hb89]
              refine hK _ ?_
              refine bsplit h (fun hb91 h => ?_) (fun hb91 h => ?_)
              · refine cond_t (by simp -implicitDefEqProofs +decide only [go_sem, hb83, hb85, hb86, hb88, hb89, hb91]) ?_
                refine seq_reg rfl (fun K hK => ?_)
                simp -implicitDefEqProofs +decide only [go_sem, Nat.reduceAdd, Int.reduceToNat, hb83, hb85, hb86, hb88, hb89, hb91]
                refine hK _ ?_
                refine swp_ret ?_
                with_reducible repeat (first | refine nn ?_ | refine nb ?_ | refine nr ?_ | refine nc ?_ | refine ne ?_ | refine nq ?_ | refine nx rfl ?_)
                obtain rfl := some_eq h
                simp -implicitDefEqProofs +decide only [go_sem, Nat.reduceAdd, Int.reduceToNat]
                all_goals first | done | trivial | (simp [maps]; done)
              · refine cond_f (by simp -implicitDefEqProofs +decide only [go_sem, hb83, hb85, hb86, hb88, hb89, hb91]) ?_
                refine swp_skip ?_
                with_reducible repeat (first | refine nn ?_ | refine nb ?_ | refine nr ?_ | refine nc ?_ | refine ne ?_ | refine nq ?_ | refine nx rfl ?_)
                refine seq_reg rfl (fun K hK => ?_)
                refine bind_of h (fun v92 hv92 h => ?_)
                simp -implicitDefEqProofs +decide only [go_sem, Nat.reduceAdd, Int.reduceToNat, hb83, hb85, hb86, hb88, hb89, hb91]
                refine call_go [0] false (hashindex_ReadRoot_ok ⟨G.glob, noCaps⟩ hG0 v71.1 _ hv92) (by simp -implicitDefEqProofs +decide only [go_sem, Nat.reduceAdd, Int.reduceToNat, hb83, hb85, hb86, hb88, hb89, hb91]; rfl) (by first | rfl | (simp [maps, hb83, hb85, hb86, hb88, hb89, hb91]; done)) ?_
                simp -implicitDefEqProofs +decide only [go_sem, Nat.reduceAdd, Int.reduceToNat, hb83, hb85, hb86, hb88, hb89, hb91]
                refine hK _ ?_
                refine swp_seq ?_
                refine seq_reg rfl (fun K hK => ?_)
                refine bsplit h (fun hb99 h => ?_) (fun hb99 h => ?_)
                · simp -implicitDefEqProofs +decide only [go_sem, Nat.reduceAdd, Int.reduceToNat, hb83, hb85, hb86, hb88, hb89, hb91, hb99]
                  refine hK _ ?_
                  refine cond_t (by simp -implicitDefEqProofs +decide only [go_sem, hb83, hb85, hb86, hb88, hb89, hb91, hb99]) ?_
                  refine seq_reg rfl (fun K hK => ?_)
                  simp -implicitDefEqProofs +decide only [go_sem, Nat.reduceAdd, Int.reduceToNat, hb83, hb85, hb86, hb88, hb89, hb91, hb99]
                  refine hK _ ?_
                  refine swp_ret ?_
                  with_reducible repeat (first | refine nn ?_ | refine nb ?_ | refine nr ?_ | refine nc ?_ | refine ne ?_ | refine nq ?_ | refine nx rfl ?_)
                  obtain rfl := some_eq h
                  simp -implicitDefEqProofs +decide only [go_sem, Nat.reduceAdd, Int.reduceToNat]
                  all_goals first | done | trivial | (simp [maps]; done)
                · refine bsplit h (fun hb100 h => ?_) (fun hb100 h => ?_)
                  · simp -implicitDefEqProofs +decide only [go_sem, Nat.reduceAdd, Int.reduceToNat, hb83, hb85, hb86, hb88, hb89, hb91, hb99, hb100]
                    refine hK _ ?_
                    refine cond_t (by simp -implicitDefEqProofs +decide only [go_sem, hb83, hb85, hb86, hb88, hb89, hb91, hb99, hb100]) ?_
                    refine seq_reg rfl (fun K hK => ?_)
                    simp -implicitDefEqProofs +decide only [go_sem, Nat.reduceAdd, Int.reduceToNat, hb83, hb85, hb86, hb88, hb89, hb91, hb99, hb100]
                    refine hK _ ?_
                    refine swp_ret ?_
                    with_reducible repeat (first | refine nn ?_ | refine nb ?_ | refine nr ?_ | refine nc ?_ | refine ne ?_ | refine nq ?_ | refine nx rfl ?_)
                    obtain rfl := some_eq h
                    simp -implicitDefEqProofs +decide only [go_sem, Nat.reduceAdd, Int.reduceToNat]
                    all_goals first | done | trivial | (simp [maps]; done)
                  · refine bsplit h (fun hb101 h => ?_) (fun hb101 h => ?_)
                    · simp -implicitDefEqProofs +decide only [go_sem, Nat.reduceAdd, Int.reduceToNat, hb83, hb85, hb86, hb88, hb89, hb91, hb99, hb100, hb101]
                      refine hK _ ?_
                      refine cond_t (by simp -implicitDefEqProofs +decide only [go_sem, hb83, hb85, hb86, hb88, hb89, hb91, hb99, hb100, hb101]) ?_
                      refine seq_reg rfl (fun K hK => ?_)
                      simp -implicitDefEqProofs +decide only [go_sem, Nat.reduceAdd, Int.reduceToNat, hb83, hb85, hb86, hb88, hb89, hb91, hb99, hb100, hb101]
                      refine hK _ ?_
                      refine swp_ret ?_
                      with_reducible repeat (first | refine nn ?_ | refine nb ?_ | refine nr ?_ | refine nc ?_ | refine ne ?_ | refine nq ?_ | refine nx rfl ?_)
                      obtain rfl := some_eq h
                      simp -implicitDefEqProofs +decide only [go_sem, Nat.reduceAdd, Int.reduceToNat]
                      all_goals first | done | trivial | (simp [maps]; done)
                    · refine bsplit h (fun hb102 h => ?_) (fun hb102 h => ?_)
                      · simp -implicitDefEqProofs +decide only [go_sem, Nat.reduceAdd, Int.reduceToNat, hb83, hb85, hb86, hb88, hb89, hb91, hb99, hb100, hb101, hb102]
                        refine hK _ ?_
                        refine cond_t (by simp -implicitDefEqProofs +decide only [go_sem, hb83, hb85, hb86, hb88, hb89, hb91, hb99, hb100, hb101, hb102]) ?_
                        refine seq_reg rfl (fun K hK => ?_)
                        simp -implicitDefEqProofs +decide only [go_sem, Nat.reduceAdd, Int.reduceToNat, hb83, hb85, hb86, hb88, hb89, hb91, hb99, hb100, hb101, hb102]
                        refine hK _ ?_
                        refine swp_ret ?_
                        with_reducible repeat (first | refine nn ?_ | refine nb ?_ | refine nr ?_ | refine nc ?_ | refine ne ?_ | refine nq ?_ | refine nx rfl ?_)
                        obtain rfl := some_eq h
                        simp -implicitDefEqProofs +decide only [go_sem, Nat.reduceAdd, Int.reduceToNat]
                        all_goals first | done | trivial | (simp [maps]; done)
                      · refine bsplit h (fun hb103 h => ?_) (fun hb103 h => ?_)
                        · simp -implicitDefEqProofs +decide only [go_sem, Nat.reduceAdd, Int.reduceToNat, hb83, hb85, hb86, hb88, hb89, hb91, hb99, hb100, hb101, hb102, hb103]
                          refine hK _ ?_
                          refine cond_t (by simp -implicitDefEqProofs +decide only [go_sem, hb83, hb85, hb86, hb88, hb89, hb91, hb99, hb100, hb101, hb102, hb103]) ?_
                          refine seq_reg rfl (fun K hK => ?_)
                          simp -implicitDefEqProofs +decide only [go_sem, Nat.reduceAdd, Int.reduceToNat, hb83, hb85, hb86, hb88, hb89, hb91, hb99, hb100, hb101, hb102, hb103]
                          refine hK _ ?_
                          refine swp_ret ?_
                          with_reducible repeat (first | refine nn ?_ | refine nb ?_ | refine nr ?_ | refine nc ?_ | refine ne ?_ | refine nq ?_ | refine nx rfl ?_)
                          obtain rfl := some_eq h
                          simp -implicitDefEqProofs +decide only [go_sem, Nat.reduceAdd, Int.reduceToNat]
                          all_goals first | done | trivial | (simp [maps]; done)
                        · simp -implicitDefEqProofs +decide only [go_sem, Nat.reduceAdd, Int.reduceToNat, hb83, hb85, hb86, hb88, hb89, hb91, hb99, hb100, hb101, hb102, hb103]
                          refine hK _ ?_
                          refine bsplit h (fun hb104 h => ?_) (fun hb104 h => ?_)
                          · refine cond_t (by simp -implicitDefEqProofs +decide only [go_sem, hb83, hb85, hb86, hb88, hb89, hb91, hb99, hb100, hb101, hb102, hb103, hb104]) ?_
                            refine seq_reg rfl (fun K hK => ?_)
                            simp -implicitDefEqProofs +decide only [go_sem, Nat.reduceAdd, Int.reduceToNat, hb83, hb85, hb86, hb88, hb89, hb91, hb99, hb100, hb101, hb102, hb103, hb104]
                            refine hK _ ?_
                            refine swp_ret ?_
                            with_reducible repeat (first | refine nn ?_ | refine nb ?_ | refine nr ?_ | refine nc ?_ | refine ne ?_ | refine nq ?_ | refine nx rfl ?_)
                            obtain rfl := some_eq h
                            simp -implicitDefEqProofs +decide only [go_sem, Nat.reduceAdd, Int.reduceToNat]
                            all_goals first | done | trivial | (simp [maps]; done)
                          · refine cond_f (by simp -implicitDefEqProofs +decide only [go_sem, hb83, hb85, hb86, hb88, hb89, hb91, hb99, hb100, hb101, hb102, hb103, hb104]) ?_
                            refine swp_skip ?_
                            with_reducible repeat (first | refine nn ?_ | refine nb ?_ | refine nr ?_ | refine nc ?_ | refine ne ?_ | refine nq ?_ | refine nx rfl ?_)
                            refine seq_drw rfl (fun K hK => ?_)
                            refine bind_of h (fun v105 hv105 h => ?_)
                            simp -implicitDefEqProofs +decide only [go_sem, Nat.reduceAdd, Int.reduceToNat, hb83, hb85, hb86, hb88, hb89, hb91, hb99, hb100, hb101, hb102, hb103, hb104]
                            refine call_go [0, 0] false (bodegahand_Pick_ok ⟨G.glob, noCaps⟩ hG0 (IntKind.i64.wrap (Int.tdiv a2 8)) 3 _ hv105) (by simp -implicitDefEqProofs +decide only [go_sem, Nat.reduceAdd, Int.reduceToNat, hb83, hb85, hb86, hb88, hb89, hb91, hb99, hb100, hb101, hb102, hb103, hb104]; rfl) (by first | rfl | (simp [maps, hb83, hb85, hb86, hb88, hb89, hb91, hb99, hb100, hb101, hb102, hb103, hb104]; done)) ?_
                            refine psplit h (fun hp106 h => ?_)
                            simp -implicitDefEqProofs +decide only [go_sem, Nat.reduceAdd, Int.reduceToNat, hp106, hb83, hb85, hb86, hb88, hb89, hb91, hb99, hb100, hb101, hb102, hb103, hb104]
                            first | refine opt_get (x := (.p (.int .u64 (A7.get v71.1.Data (IntKind.i64.wrap (1 + v105)))))) (by rcases cases7 hp106.1 hp106.2 with hc | hc | hc | hc | hc | hc | hc <;> simp [hc, A7.get]) ?_ | refine opt_get' (x := (.p (.int .u64 (A7.get v71.1.Data (IntKind.i64.wrap (1 + v105)))))) (by rcases cases7 hp106.1 hp106.2 with hc | hc | hc | hc | hc | hc | hc <;> simp [hc, A7.get]) ?_
                            refine bind_of h (fun v107 hv107 h => ?_)
                            simp -implicitDefEqProofs +decide only [go_sem, Nat.reduceAdd, Int.reduceToNat, hb83, hb85, hb86, hb88, hb89, hb91, hb99, hb100, hb101, hb102, hb103, hb104]
                            refine call_go [0, 0] false (bodegahand_Pick_ok ⟨G.glob, noCaps⟩ hG0 (IntKind.i64.wrap (Int.tdiv a2 24)) 64 _ hv107) (by simp -implicitDefEqProofs +decide only [go_sem, Nat.reduceAdd, Int.reduceToNat, hb83, hb85, hb86, hb88, hb89, hb91, hb99, hb100, hb101, hb102, hb103, hb104]; rfl) (by first | rfl | (simp [maps, hb83, hb85, hb86, hb88, hb89, hb91, hb99, hb100, hb101, hb102, hb103, hb104]; done)) ?_
                            refine psplit h (fun hp108 h => ?_)
                            simp -implicitDefEqProofs +decide only [go_sem, Nat.reduceAdd, Int.reduceToNat, hp108, hb83, hb85, hb86, hb88, hb89, hb91, hb99, hb100, hb101, hb102, hb103, hb104]
                            refine opt_ite (by rcases cases7 hp108.1 hp108.2 with hc | hc | hc | hc | hc | hc | hc <;> simp [hc]) ?_
                            refine opt_wr (l' := [(.p (.int .i64 v71.1.Line)), (.p (.int .u64 v71.1.Head)), (.p (.int .u64 (A7.set v71.1.Data (IntKind.i64.wrap (1 + v105)) (bits .xor .u64 (A7.get v71.1.Data (IntKind.i64.wrap (1 + v105))) (shlV .u64 1 (IntKind.u64.wrap v107)))).a0)), (.p (.int .u64 (A7.set v71.1.Data (IntKind.i64.wrap (1 + v105)) (bits .xor .u64 (A7.get v71.1.Data (IntKind.i64.wrap (1 + v105))) (shlV .u64 1 (IntKind.u64.wrap v107)))).a1)), (.p (.int .u64 (A7.set v71.1.Data (IntKind.i64.wrap (1 + v105)) (bits .xor .u64 (A7.get v71.1.Data (IntKind.i64.wrap (1 + v105))) (shlV .u64 1 (IntKind.u64.wrap v107)))).a2)), (.p (.int .u64 (A7.set v71.1.Data (IntKind.i64.wrap (1 + v105)) (bits .xor .u64 (A7.get v71.1.Data (IntKind.i64.wrap (1 + v105))) (shlV .u64 1 (IntKind.u64.wrap v107)))).a3)), (.p (.int .u64 (A7.set v71.1.Data (IntKind.i64.wrap (1 + v105)) (bits .xor .u64 (A7.get v71.1.Data (IntKind.i64.wrap (1 + v105))) (shlV .u64 1 (IntKind.u64.wrap v107)))).a4)), (.p (.int .u64 (A7.set v71.1.Data (IntKind.i64.wrap (1 + v105)) (bits .xor .u64 (A7.get v71.1.Data (IntKind.i64.wrap (1 + v105))) (shlV .u64 1 (IntKind.u64.wrap v107)))).a5)), (.p (.int .u64 (A7.set v71.1.Data (IntKind.i64.wrap (1 + v105)) (bits .xor .u64 (A7.get v71.1.Data (IntKind.i64.wrap (1 + v105))) (shlV .u64 1 (IntKind.u64.wrap v107)))).a6))]) (by rcases cases7 hp108.1 hp108.2 with hc | hc | hc | hc | hc | hc | hc <;> simp [hc, A7.get, A7.set]) ?_
                            simp -implicitDefEqProofs +decide only [go_sem, Nat.reduceAdd, Int.reduceToNat, hb83, hb85, hb86, hb88, hb89, hb91, hb99, hb100, hb101, hb102, hb103, hb104]
                            refine draw_go (by kernel_rfl) ?_
                            refine hK _ ?_
                            refine seq_reg rfl (fun K hK => ?_)
                            refine bind_of h (fun v109 hv109 h => ?_)
                            simp -implicitDefEqProofs +decide only [go_sem, Nat.reduceAdd, Int.reduceToNat, hb83, hb85, hb86, hb88, hb89, hb91, hb99, hb100, hb101, hb102, hb103, hb104]
                            refine call_go [0] false (hashindex_ReadRoot_ok ⟨G.glob, noCaps⟩ hG0 (⟨v71.1.Line, v71.1.Head, (A7.set v71.1.Data (IntKind.i64.wrap (1 + v105)) (bits .xor .u64 (A7.get v71.1.Data (IntKind.i64.wrap (1 + v105))) (shlV .u64 1 (IntKind.u64.wrap v107))))⟩ : api_Page) _ hv109) (by simp -implicitDefEqProofs +decide only [go_sem, Nat.reduceAdd, Int.reduceToNat, hb83, hb85, hb86, hb88, hb89, hb91, hb99, hb100, hb101, hb102, hb103, hb104]; rfl) (by first | rfl | (simp [maps, hb83, hb85, hb86, hb88, hb89, hb91, hb99, hb100, hb101, hb102, hb103, hb104]; done)) ?_
                            simp -implicitDefEqProofs +decide only [go_sem, Nat.reduceAdd, Int.reduceToNat, hb83, hb85, hb86, hb88, hb89, hb91, hb99, hb100, hb101, hb102, hb103, hb104]
                            refine hK _ ?_
                            refine seq_reg rfl (fun K hK => ?_)
                            refine bind_of h (fun v110 hv110 h => ?_)
                            simp -implicitDefEqProofs +decide only [go_sem, Nat.reduceAdd, Int.reduceToNat, hb83, hb85, hb86, hb88, hb89, hb91, hb99, hb100, hb101, hb102, hb103, hb104]
                            refine call_go [0] false (bodegaref23_ReadRoot_ok ⟨G.glob, noCaps⟩ hG0 (⟨v71.1.Line, v71.1.Head, (A7.set v71.1.Data (IntKind.i64.wrap (1 + v105)) (bits .xor .u64 (A7.get v71.1.Data (IntKind.i64.wrap (1 + v105))) (shlV .u64 1 (IntKind.u64.wrap v107))))⟩ : api_Page) _ hv110) (by simp -implicitDefEqProofs +decide only [go_sem, Nat.reduceAdd, Int.reduceToNat, hb83, hb85, hb86, hb88, hb89, hb91, hb99, hb100, hb101, hb102, hb103, hb104]; rfl) (by first | rfl | (simp [maps, hb83, hb85, hb86, hb88, hb89, hb91, hb99, hb100, hb101, hb102, hb103, hb104]; done)) ?_
                            simp -implicitDefEqProofs +decide only [go_sem, Nat.reduceAdd, Int.reduceToNat, hb83, hb85, hb86, hb88, hb89, hb91, hb99, hb100, hb101, hb102, hb103, hb104]
                            refine hK _ ?_
                            refine seq_drw rfl (fun K hK => ?_)
                            refine bind_of h (fun v111 hv111 h => ?_)
                            simp -implicitDefEqProofs +decide only [go_sem, Nat.reduceAdd, Int.reduceToNat, hb83, hb85, hb86, hb88, hb89, hb91, hb99, hb100, hb101, hb102, hb103, hb104]
                            refine call_go [0] false (bodegalaw23_root_ok ⟨G.glob, noCaps⟩ hG0 v109.1 _ hv111) (by simp -implicitDefEqProofs +decide only [go_sem, Nat.reduceAdd, Int.reduceToNat, hb83, hb85, hb86, hb88, hb89, hb91, hb99, hb100, hb101, hb102, hb103, hb104]; rfl) (by first | rfl | (simp [maps, hb83, hb85, hb86, hb88, hb89, hb91, hb99, hb100, hb101, hb102, hb103, hb104]; done)) ?_
                            rcases hb112 : ((v111.First.Line == v110.1.First.Line) && ((v111.First.Gen == v110.1.First.Gen) && ((v111.Depth == v110.1.Depth) && ((v111.Pages.a0.Line == v110.1.Pages.a0.Line) && ((v111.Pages.a0.Gen == v110.1.Pages.a0.Gen) && ((v111.Pages.a1.Line == v110.1.Pages.a1.Line) && ((v111.Pages.a1.Gen == v110.1.Pages.a1.Gen) && ((v111.Pages.a2.Line == v110.1.Pages.a2.Line) && ((v111.Pages.a2.Gen == v110.1.Pages.a2.Gen) && ((v111.Pages.a3.Line == v110.1.Pages.a3.Line) && (v111.Pages.a3.Gen == v110.1.Pages.a3.Gen))))))))))) with _ | _
                            · replace h : some false = some res := by first | exact h | (rw [and_f hb112] at h; exact h)
                              simp -implicitDefEqProofs +decide only [go_sem, Nat.reduceAdd, Int.reduceToNat, hb83, hb85, hb86, hb88, hb89, hb91, hb99, hb100, hb101, hb102, hb103, hb104, hb112]
                              refine draw_go (by kernel_rfl) ?_
                              refine hK _ ?_
                              refine swp_ret ?_
                              with_reducible repeat (first | refine nn ?_ | refine nb ?_ | refine nr ?_ | refine nc ?_ | refine ne ?_ | refine nq ?_ | refine nx rfl ?_)
                              obtain rfl := some_eq h
                              simp -implicitDefEqProofs +decide only [go_sem, Nat.reduceAdd, Int.reduceToNat]
                              all_goals first | done | trivial | (simp [maps]; done)
                            · replace h : some (v109.2 == v110.2) = some res := by first | exact h | (rw [and_t hb112] at h; exact h)
                              simp -implicitDefEqProofs +decide only [go_sem, Nat.reduceAdd, Int.reduceToNat, hb83, hb85, hb86, hb88, hb89, hb91, hb99, hb100, hb101, hb102, hb103, hb104, hb112]
                              refine draw_go (by kernel_rfl) ?_
                              refine hK _ ?_
                              refine swp_ret ?_
                              with_reducible repeat (first | refine nn ?_ | refine nb ?_ | refine nr ?_ | refine nc ?_ | refine ne ?_ | refine nq ?_ | refine nx rfl ?_)
                              obtain rfl := some_eq h
                              simp -implicitDefEqProofs +decide only [go_sem, Nat.reduceAdd, Int.reduceToNat]
                              all_goals first | done | trivial | (simp [maps]; done)
  refine swp_seq ?_
  refine seq_reg rfl (fun K hK => ?_)
  refine bind_of h (fun v113 hv113 h => ?_)
  simp -implicitDefEqProofs +decide only [go_sem, Nat.reduceAdd, Int.reduceToNat]
  refine call_go [0, 0] false (bodegahand_Pick_ok ⟨G.glob, noCaps⟩ hG0 a2 8 _ hv113) (by simp -implicitDefEqProofs +decide only [go_sem, Nat.reduceAdd, Int.reduceToNat]; rfl) (by first | rfl | (simp [maps]; done)) ?_
  simp -implicitDefEqProofs +decide only [go_sem, Nat.reduceAdd, Int.reduceToNat]
  refine hK _ ?_
  refine bsplit h (fun hb114 h => ?_) (fun hb114 h => ?_)
  · refine cond_t (by simp -implicitDefEqProofs +decide only [go_sem, hb114]) ?_
    refine seq_reg rfl (fun K hK => ?_)
    simp -implicitDefEqProofs +decide only [go_sem, Nat.reduceAdd, Int.reduceToNat, hb114]
    refine hK _ ?_
    refine seq_reg rfl (fun K hK => ?_)
    refine bind_of h (fun v115 hv115 h => ?_)
    simp -implicitDefEqProofs +decide only [go_sem, Nat.reduceAdd, Int.reduceToNat, hb114]
    refine call_go [0, 0] false (bodegahand_Pick_ok ⟨G.glob, noCaps⟩ hG0 a1.Depth 9 _ hv115) (by simp -implicitDefEqProofs +decide only [go_sem, Nat.reduceAdd, Int.reduceToNat, hb114]; rfl) (by first | rfl | (simp [maps, hb114]; done)) ?_
    simp -implicitDefEqProofs +decide only [go_sem, Nat.reduceAdd, Int.reduceToNat, hb114]
    refine hK _ ?_
    refine seq_reg rfl (fun K hK => ?_)
    refine bind_of h (fun v116 hv116 h => ?_)
    simp -implicitDefEqProofs +decide only [go_sem, Nat.reduceAdd, Int.reduceToNat, hb114]
    refine call_go [0] false (bodegalaw23_aim_ok ⟨G.glob, noCaps⟩ hG0 a1.First _ hv116) (by simp -implicitDefEqProofs +decide only [go_sem, Nat.reduceAdd, Int.reduceToNat, hb114]; rfl) (by first | rfl | (simp [maps, hb114]; done)) ?_
    simp -implicitDefEqProofs +decide only [go_sem, Nat.reduceAdd, Int.reduceToNat, hb114]
    refine hK _ ?_
    refine cut1 (Joins (bodegalaw23_HashRoots_J2 a2 a0 v116 v115) (fun g x147 => stL [(2, (.c (.p (.int .i64 a2)))), (3, (.c (.ptr ⟨1024000003, g⟩ 0 0))), (4, (.c (.ptr ⟨1024000004, g⟩ 0 0)))] [(⟨1024000003, g⟩, .box true [(.p (.int .i64 96)), (.p (.int .u64 a0.Head)), (.p (.int .u64 a0.Data.a0)), (.p (.int .u64 a0.Data.a1)), (.p (.int .u64 a0.Data.a2)), (.p (.int .u64 a0.Data.a3)), (.p (.int .u64 a0.Data.a4)), (.p (.int .u64 a0.Data.a5)), (.p (.int .u64 a0.Data.a6))]), (⟨1024000004, g⟩, .box true [(.p (.int .i64 v116.Line)), (.p (.int .i64 v116.Gen)), (.p (.int .i64 (IntKind.i64.wrap (v115 - 1)))), (.p (.int .i64 x147.a0.Line)), (.p (.int .i64 x147.a0.Gen)), (.p (.int .i64 x147.a1.Line)), (.p (.int .i64 x147.a1.Gen)), (.p (.int .i64 x147.a2.Line)), (.p (.int .i64 x147.a2.Gen)), (.p (.int .i64 x147.a3.Line)), (.p (.int .i64 x147.a3.Gen))])] (g + 1)) res) ?_ (fun hj2 => ?_)
    · refine join_of ?_
      rintro g x147 h
      rw [bodegalaw23_HashRoots_J2] at h
      try dsimp only
      refine seq_reg rfl (fun K hK => ?_)
      simp -implicitDefEqProofs +decide only [go_sem, Nat.reduceAdd, Int.reduceToNat, hb114]
      refine hK _ ?_
      refine bsplit h (fun hb148 h => ?_) (fun hb148 h => ?_)
      · refine cond_t (by simp -implicitDefEqProofs +decide only [go_sem, hb114, hb148]) ?_
        refine swp_reg rfl (fun K hK => ?_)
        simp -implicitDefEqProofs +decide only [go_sem, Nat.reduceAdd, Int.reduceToNat, hb114, hb148]
        refine hK _ ?_
        with_reducible repeat (first | refine nn ?_ | refine nb ?_ | refine nr ?_ | refine nc ?_ | refine ne ?_ | refine nq ?_ | refine nx rfl ?_)
        refine jump_of hj1 h ?_
        refine ren_go (fun g S => [(⟨1024000001, g⟩, (keyT 0 (St.env S 3))), (⟨1024000002, g⟩, (keyT 0 (St.env S 4)))]) (fun g S => []) ?_ ?_ ?_ ?_ ?_
        all_goals try simp -implicitDefEqProofs +decide only [go_sem, Nat.reduceAdd, Int.reduceToNat, hb114, hb148]
        all_goals first | done | trivial | omega | (simp [maps, go_sem, hb114, hb148]; done) | (simp [maps, go_sem, hb114, hb148] <;> omega)
      · refine cond_f (by simp -implicitDefEqProofs +decide only [go_sem, hb114, hb148]) ?_
        refine swp_skip ?_
        with_reducible repeat (first | refine nn ?_ | refine nb ?_ | refine nr ?_ | refine nc ?_ | refine ne ?_ | refine nq ?_ | refine nx rfl ?_)
        refine jump_of hj1 h ?_
        refine ren_go (fun g S => [(⟨1024000001, g⟩, (keyT 0 (St.env S 3))), (⟨1024000002, g⟩, (keyT 0 (St.env S 4)))]) (fun g S => []) ?_ ?_ ?_ ?_ ?_
        all_goals try simp -implicitDefEqProofs +decide only [go_sem, Nat.reduceAdd, Int.reduceToNat, hb114, hb148]
        all_goals first | done | trivial | omega | (simp [maps, go_sem, hb114, hb148]; done) | (simp [maps, go_sem, hb114, hb148] <;> omega)
    refine swp_seq ?_
    refine seq_reg rfl (fun K hK => ?_)
    simp -implicitDefEqProofs +decide only [go_sem, Nat.reduceAdd, Int.reduceToNat, hb114]
    refine hK _ ?_
    refine swp_block ?_
    refine swp_iter (fun g x => match x with | (x176, x177) => stL [(2, (.c (.p (.int .i64 a2)))), (3, (.c (.ptr ⟨1024000005, g⟩ 0 0))), (4, (.c (.ptr ⟨1024000006, g⟩ 0 0))), (7, (.c (.p (.int .i64 x177))))] [(⟨1024000005, g⟩, .box true [(.p (.int .i64 96)), (.p (.int .u64 a0.Head)), (.p (.int .u64 a0.Data.a0)), (.p (.int .u64 a0.Data.a1)), (.p (.int .u64 a0.Data.a2)), (.p (.int .u64 a0.Data.a3)), (.p (.int .u64 a0.Data.a4)), (.p (.int .u64 a0.Data.a5)), (.p (.int .u64 a0.Data.a6))]), (⟨1024000006, g⟩, .box true [(.p (.int .i64 v116.Line)), (.p (.int .i64 v116.Gen)), (.p (.int .i64 (IntKind.i64.wrap (v115 - 1)))), (.p (.int .i64 x176.a0.Line)), (.p (.int .i64 x176.a0.Gen)), (.p (.int .i64 x176.a1.Line)), (.p (.int .i64 x176.a1.Gen)), (.p (.int .i64 x176.a2.Line)), (.p (.int .i64 x176.a2.Gen)), (.p (.int .i64 x176.a3.Line)), (.p (.int .i64 x176.a3.Gen))])] (g + 1)) h (enter_of ?_) ?_
    · refine ren_go (fun g S => [(⟨1024000005, g⟩, (keyT 0 (St.env S 3))), (⟨1024000006, g⟩, (keyT 0 (St.env S 4)))]) (fun g S => []) ?_ ?_ ?_ ?_ ?_
      all_goals try simp -implicitDefEqProofs +decide only [go_sem, Nat.reduceAdd, Int.reduceToNat, hb114]
      all_goals first | done | trivial | omega | (simp [maps, go_sem, hb114]; done) | (simp [maps, go_sem, hb114] <;> omega)
    rintro g ⟨x176, x177⟩ s1 h hd1
    rw [bodegalaw23_HashRoots_L1] at h
    try dsimp only
    refine swp_seq ?_
    refine seq_reg rfl (fun K hK => ?_)
    simp -implicitDefEqProofs +decide only [go_sem, Nat.reduceAdd, Int.reduceToNat]
    refine hK _ ?_
    refine bsplit h (fun hb180 h => ?_) (fun hb180 h => ?_)
    · refine cond_t (by simp -implicitDefEqProofs +decide only [go_sem, hb180]) ?_
      refine swp_skip ?_
      with_reducible repeat (first | refine nn ?_ | refine nb ?_ | refine nr ?_ | refine nc ?_ | refine ne ?_ | refine nq ?_ | refine nx rfl ?_)
      refine swp_seq ?_
      refine swp_block ?_
      refine swp_reg rfl (fun K hK => ?_)
      refine psplit h (fun hp181 h => ?_)
      simp -implicitDefEqProofs +decide only [go_sem, Nat.reduceAdd, Int.reduceToNat, hp181, hb180]
      refine opt_ite (by rcases cases4 hp181.1 hp181.2 with hc | hc | hc | hc <;> simp [hc, A4.get]) ?_
      refine opt_v (v' := .agg [(.p (.int .i64 (A4.get x176 x177).Line)), (.p (.int .i64 (A4.get x176 x177).Gen))]) (by rcases cases4 hp181.1 hp181.2 with hc | hc | hc | hc <;> simp [hc, A4.get]) ?_
      refine bind_of h (fun v182 hv182 h => ?_)
      simp -implicitDefEqProofs +decide only [go_sem, Nat.reduceAdd, Int.reduceToNat, hb180]
      refine call_go [0] false (bodegalaw23_aim_ok ⟨G.glob, noCaps⟩ hG0 (A4.get x176 x177) _ hv182) (by simp -implicitDefEqProofs +decide only [go_sem, Nat.reduceAdd, Int.reduceToNat, hb180]; rfl) (by first | rfl | (simp [maps, hb180]; done)) ?_
      refine psplit h (fun hp183 h => ?_)
      simp -implicitDefEqProofs +decide only [go_sem, Nat.reduceAdd, Int.reduceToNat, hp183, hb180]
      refine opt_ite (by rcases cases4 hp183.1 hp183.2 with hc | hc | hc | hc <;> simp [hc]) ?_
      refine opt_wr (l' := [(.p (.int .i64 v116.Line)), (.p (.int .i64 v116.Gen)), (.p (.int .i64 (IntKind.i64.wrap (v115 - 1)))), (.p (.int .i64 (A4.set x176 x177 v182).a0.Line)), (.p (.int .i64 (A4.set x176 x177 v182).a0.Gen)), (.p (.int .i64 (A4.set x176 x177 v182).a1.Line)), (.p (.int .i64 (A4.set x176 x177 v182).a1.Gen)), (.p (.int .i64 (A4.set x176 x177 v182).a2.Line)), (.p (.int .i64 (A4.set x176 x177 v182).a2.Gen)), (.p (.int .i64 (A4.set x176 x177 v182).a3.Line)), (.p (.int .i64 (A4.set x176 x177 v182).a3.Gen))]) (by rcases cases4 hp183.1 hp183.2 with hc | hc | hc | hc <;> simp [hc, A4.get, A4.set]) ?_
      simp -implicitDefEqProofs +decide only [go_sem, Nat.reduceAdd, Int.reduceToNat, hb180]
      refine hK _ ?_
      with_reducible repeat (first | refine nn ?_ | refine nb ?_ | refine nr ?_ | refine nc ?_ | refine ne ?_ | refine nq ?_ | refine nx rfl ?_)
      refine swp_reg rfl (fun K hK => ?_)
      simp -implicitDefEqProofs +decide only [go_sem, Nat.reduceAdd, Int.reduceToNat, hb180]
      refine hK _ ?_
      with_reducible repeat (first | refine nn ?_ | refine nb ?_ | refine nr ?_ | refine nc ?_ | refine ne ?_ | refine nq ?_ | refine nx rfl ?_)
      refine back_of h ?_
      refine ren_go (fun g S => [(⟨1024000005, g⟩, (keyT 0 (St.env S 3))), (⟨1024000006, g⟩, (keyT 0 (St.env S 4)))]) (fun g S => []) ?_ ?_ ?_ ?_ ?_
      all_goals try simp -implicitDefEqProofs +decide only [go_sem, Nat.reduceAdd, Int.reduceToNat, hb180]
      all_goals first | done | trivial | omega | (simp [maps, go_sem, hb180]; done) | (simp [maps, go_sem, hb180] <;> omega)
    · refine cond_f (by simp -implicitDefEqProofs +decide only [go_sem, hb180]) ?_
      refine swp_exit ?_
      with_reducible repeat (first | refine nn ?_ | refine nb ?_ | refine nr ?_ | refine nc ?_ | refine ne ?_ | refine nq ?_ | refine nx rfl ?_)
      obtain ⟨h, hs1⟩ := exit_of h hd1
      with_reducible repeat (first | refine nn ?_ | refine nb ?_ | refine nr ?_ | refine nc ?_ | refine ne ?_ | refine nq ?_ | refine nx rfl ?_)
      refine ⟨hs1, ?_⟩
      with_reducible repeat (first | refine nn ?_ | refine nb ?_ | refine nr ?_ | refine nc ?_ | refine ne ?_ | refine nq ?_ | refine nx rfl ?_)
      refine jump_of hj2 h ?_
      refine ren_go (fun g S => [(⟨1024000003, g⟩, (keyT 0 (St.env S 3))), (⟨1024000004, g⟩, (keyT 0 (St.env S 4)))]) (fun g S => []) ?_ ?_ ?_ ?_ ?_
      all_goals try simp -implicitDefEqProofs +decide only [go_sem, Nat.reduceAdd, Int.reduceToNat, hb180]
      all_goals first | done | trivial | omega | (simp [maps, go_sem, hb180]; done) | (simp [maps, go_sem, hb180] <;> omega)
  · refine cond_f (by simp -implicitDefEqProofs +decide only [go_sem, hb114]) ?_
    refine swp_skip ?_
    with_reducible repeat (first | refine nn ?_ | refine nb ?_ | refine nr ?_ | refine nc ?_ | refine ne ?_ | refine nq ?_ | refine nx rfl ?_)
    refine jump_of hj1 h ?_
    refine ren_go (fun g S => [(⟨1024000001, g⟩, (keyT 0 (St.env S 3))), (⟨1024000002, g⟩, (keyT 0 (St.env S 4)))]) (fun g S => []) ?_ ?_ ?_ ?_ ?_
    all_goals try simp -implicitDefEqProofs +decide only [go_sem, Nat.reduceAdd, Int.reduceToNat, hb114]
    all_goals first | done | trivial | omega | (simp [maps, go_sem, hb114]; done) | (simp [maps, go_sem, hb114] <;> omega)
end Go.Sh
end
section
namespace Go.Sh
set_option linter.unusedSimpArgs false
set_option linter.unusedVariables false
set_option maxRecDepth 10000

theorem awake_eq : bodegalaw23_awake = some true := by decide +kernel

theorem root_eq (r : hashindex_Root) : bodegalaw23_root r = some (cR r) := by
  unfold bodegalaw23_root
  rw [ref_eq, bind_s]
  iterate 5 (rw [iter_eq]; simp (disch := omega) [bodegalaw23_root_L1, ref_eq, A4.get, A4.set, i64_in'])
  rfl

/-- Is the page at i of a root fit? -/
def pgs (d : Int) : Int := if (IntKind.i64.wrap (Int.tdiv (shlV .i64 1 (IntKind.u64.wrap d)) 8)) > 1 then (IntKind.i64.wrap (Int.tdiv (shlV .i64 1 (IntKind.u64.wrap d)) 8)) else 1
def fit (d i l g : Int) : Bool := good l g && !((l == 0 && g == 0) && decide (i < pgs d))
theorem rv_step (r : hashindex_Root) (i : Int) (h : 0 ≤ i ∧ i < 4) : iter (hashindex_Root_valid_L1 r) i = if fit r.Depth i (A4.get r.Pages i).Line (A4.get r.Pages i).Gen = true then iter (hashindex_Root_valid_L1 r) (i + 1) else some false := by
  rw [iter_eq]
  have h4 : i < 4 := h.2
  simp only [hashindex_Root_valid_L1, h, h4, decide_true, if_true, and_self, isField_eq, bind_s, hashindex_pagesOf, fit, i64_in' (show -9223372036854775808 ≤ i + 1 ∧ i + 1 < 9223372036854775808 by omega)]
  rw [show (if (IntKind.i64.wrap (Int.tdiv (shlV .i64 1 (IntKind.u64.wrap r.Depth)) 8)) > 1 then (IntKind.i64.wrap (Int.tdiv (shlV .i64 1 (IntKind.u64.wrap r.Depth)) 8)) else 1) = pgs r.Depth from rfl]
  rcases Bool.eq_false_or_eq_true (good (A4.get r.Pages i).Line (A4.get r.Pages i).Gen) with h1 | h1 <;> rcases Bool.eq_false_or_eq_true ((A4.get r.Pages i).Line == 0 && (A4.get r.Pages i).Gen == 0) with h2 | h2 <;> rcases Bool.eq_false_or_eq_true (decide (i < pgs r.Depth)) with h3 | h3 <;>
    simp only [h1, h2, h3, Bool.not_true, Bool.not_false, Bool.false_eq_true, if_true, if_false, Bool.true_and, Bool.false_and, Bool.and_true, Bool.and_false, Option.map_some, bind_s]
theorem rvR_step (r : bodegaref23_Root) (i : Int) (h : 0 ≤ i ∧ i < 4) : iter (bodegaref23_ValidRoot_L1 r) i = if fit r.Depth i (A4.get r.Pages i).Line (A4.get r.Pages i).Gen = true then iter (bodegaref23_ValidRoot_L1 r) (i + 1) else some false := by
  rw [iter_eq]
  have h4 : i < 4 := h.2
  simp only [bodegaref23_ValidRoot_L1, h, h4, decide_true, if_true, and_self, good_eq, bind_s, bodegaref23_pages, fit, i64_in' (show -9223372036854775808 ≤ i + 1 ∧ i + 1 < 9223372036854775808 by omega)]
  rw [show (if (IntKind.i64.wrap (Int.tdiv (shlV .i64 1 (IntKind.u64.wrap r.Depth)) 8)) > 1 then (IntKind.i64.wrap (Int.tdiv (shlV .i64 1 (IntKind.u64.wrap r.Depth)) 8)) else 1) = pgs r.Depth from rfl]
  rcases Bool.eq_false_or_eq_true (good (A4.get r.Pages i).Line (A4.get r.Pages i).Gen) with h1 | h1 <;> rcases Bool.eq_false_or_eq_true ((A4.get r.Pages i).Line == 0 && (A4.get r.Pages i).Gen == 0) with h2 | h2 <;> rcases Bool.eq_false_or_eq_true (decide (i < pgs r.Depth)) with h3 | h3 <;>
    simp only [h1, h2, h3, Bool.not_true, Bool.not_false, Bool.false_eq_true, if_true, if_false, Bool.true_and, Bool.false_and, Bool.and_true, Bool.and_false, Option.map_some, bind_s]

def zr (r : hashindex_Root) : Bool := (r.First.Line == 0) && ((r.First.Gen == 0) && ((r.Depth == 0) && ((r.Pages.a0.Line == 0) && ((r.Pages.a0.Gen == 0) && ((r.Pages.a1.Line == 0) && ((r.Pages.a1.Gen == 0) && ((r.Pages.a2.Line == 0) && ((r.Pages.a2.Gen == 0) && ((r.Pages.a3.Line == 0) && (r.Pages.a3.Gen == 0))))))))))
def rv (r : hashindex_Root) : Bool :=
  if ((r.First.Line == 0) && (r.First.Gen == 0)) = true then zr r else
  vp r.First.Line r.First.Gen && (decide (0 ≤ r.Depth) && (decide (r.Depth ≤ 5) && (fit r.Depth 0 r.Pages.a0.Line r.Pages.a0.Gen && (fit r.Depth 1 r.Pages.a1.Line r.Pages.a1.Gen && (fit r.Depth 2 r.Pages.a2.Line r.Pages.a2.Gen && fit r.Depth 3 r.Pages.a3.Line r.Pages.a3.Gen)))))
theorem rv_end (r) : iter (hashindex_Root_valid_L1 r) 4 = some true := by rw [iter_eq]; rfl
theorem rvR_end (r) : iter (bodegaref23_ValidRoot_L1 r) 4 = some true := by rw [iter_eq]; rfl
theorem Root_valid_eq (r : hashindex_Root) : hashindex_Root_valid r = some (rv r) := by
  unfold hashindex_Root_valid rv
  by_cases hz : (r.First.Line == 0 && r.First.Gen == 0) = true
  · rw [if_pos hz, if_pos hz]; rfl
  · rw [if_neg hz, if_neg hz, Valid_eq, bind_s, rv_step _ 0 (by omega), rv_step _ (0+1) (by omega), rv_step _ (0+1+1) (by omega), rv_step _ (0+1+1+1) (by omega), show (0 + 1 + 1 + 1 + 1 : Int) = 4 from rfl, rv_end]
    simp only [A4.get, Int.reduceAdd, Int.reduceEq, if_true, if_false]
    cases vp r.First.Line r.First.Gen
    · rfl
    · by_cases h1 : r.Depth < 0
      · have : ¬ 0 ≤ r.Depth := by omega
        simp [h1, this]
      · by_cases h2 : r.Depth > 5
        · have : ¬ r.Depth ≤ 5 := by omega
          simp [h1, h2, this]
        · have e1 : 0 ≤ r.Depth := by omega
          have e2 : r.Depth ≤ 5 := by omega
          simp only [h1, h2, e1, e2, decide_true, decide_false, Bool.true_and, Bool.not_true, Bool.false_eq_true, if_false, Int.reduceAdd]
          rcases Bool.eq_false_or_eq_true (fit r.Depth 0 r.Pages.a0.Line r.Pages.a0.Gen) with f0 | f0 <;> rcases Bool.eq_false_or_eq_true (fit r.Depth 1 r.Pages.a1.Line r.Pages.a1.Gen) with f1 | f1 <;> rcases Bool.eq_false_or_eq_true (fit r.Depth 2 r.Pages.a2.Line r.Pages.a2.Gen) with f2 | f2 <;> rcases Bool.eq_false_or_eq_true (fit r.Depth 3 r.Pages.a3.Line r.Pages.a3.Gen) with f3 | f3 <;>
            simp only [f0, f1, f2, f3, Bool.false_eq_true, if_true, if_false, Bool.true_and, Bool.false_and]
theorem ValidRoot_eq (r : hashindex_Root) : bodegaref23_ValidRoot (cR r) = some (rv r) := by
  unfold bodegaref23_ValidRoot rv
  simp only [cR, cP]
  by_cases hz : (r.First.Line == 0 && r.First.Gen == 0) = true
  · simp only [hz, if_true]; rfl
  · simp only [hz, Bool.false_eq_true, if_false]
    rw [ValidR_eq, bind_s, rvR_step _ 0 (by omega), rvR_step _ (0+1) (by omega), rvR_step _ (0+1+1) (by omega), rvR_step _ (0+1+1+1) (by omega), show (0 + 1 + 1 + 1 + 1 : Int) = 4 from rfl, rvR_end]
    simp only [A4.get, Int.reduceAdd, Int.reduceEq, if_true, if_false]
    cases vp r.First.Line r.First.Gen
    · rfl
    · by_cases h1 : r.Depth < 0
      · have : ¬ 0 ≤ r.Depth := by omega
        simp [h1, this]
      · by_cases h2 : r.Depth > 5
        · have : ¬ r.Depth ≤ 5 := by omega
          simp [h1, h2, this]
        · have e1 : 0 ≤ r.Depth := by omega
          have e2 : r.Depth ≤ 5 := by omega
          simp only [h1, h2, e1, e2, decide_true, decide_false, Bool.true_and, Bool.not_true, Bool.false_eq_true, if_false, Int.reduceAdd]
          rcases Bool.eq_false_or_eq_true (fit r.Depth 0 r.Pages.a0.Line r.Pages.a0.Gen) with f0 | f0 <;> rcases Bool.eq_false_or_eq_true (fit r.Depth 1 r.Pages.a1.Line r.Pages.a1.Gen) with f1 | f1 <;> rcases Bool.eq_false_or_eq_true (fit r.Depth 2 r.Pages.a2.Line r.Pages.a2.Gen) with f2 | f2 <;> rcases Bool.eq_false_or_eq_true (fit r.Depth 3 r.Pages.a3.Line r.Pages.a3.Gen) with f3 | f3 <;>
            simp only [f0, f1, f2, f3, Bool.false_eq_true, if_true, if_false, Bool.true_and, Bool.false_and]
end Go.Sh
end
section
namespace Go.Sh
set_option linter.unusedSimpArgs false
set_option linter.unusedVariables false
set_option maxRecDepth 10000

def dp (w : Int) : pointer_Pointer := ⟨w % 256, w / 256⟩
def lo (w : Int) : Int := w % 4294967296
def hi (w : Int) : Int := w / 4294967296
def zP : pointer_Pointer := ⟨0, 0⟩
def zeroR : hashindex_Root := ⟨⟨0, 0⟩, 0, ⟨⟨0, 0⟩, ⟨0, 0⟩, ⟨0, 0⟩, ⟨0, 0⟩⟩⟩
def rdR (p : api_Page) : hashindex_Root := ⟨dp (lo p.Data.a1), hi p.Data.a1, ⟨dp (lo p.Data.a2), dp (hi p.Data.a2), dp (lo p.Data.a3), dp (hi p.Data.a3)⟩⟩
def rdB (p : api_Page) : Bool := okw (lo p.Data.a1) && okw (lo p.Data.a2) && okw (hi p.Data.a2) && okw (lo p.Data.a3) && okw (hi p.Data.a3)
def rd (p : api_Page) : hashindex_Root × Int :=
  if p.Line ≠ 96 then (zeroR, 1) else if rdB p = true ∧ rv (rdR p) = true then (rdR p, 0) else (zeroR, 14)

theorem shr_u64_0 {x : Int} : shrV .u64 x 0 = x := by rw [shr_ 0]; omega
theorem lo_r {w : Int} : 0 ≤ lo w ∧ lo w < 4294967296 := by unfold lo; omega
theorem hi_r {w : Int} (h : 0 ≤ w ∧ w ≤ 18446744073709551615) : 0 ≤ hi w ∧ hi w < 4294967296 := by unfold hi; omega
theorem u32_lo {w : Int} : IntKind.u32.wrap w = lo w := u32_mod
theorem u32_hi {w : Int} (h : 0 ≤ w ∧ w ≤ 18446744073709551615) : IntKind.u32.wrap (w / 4294967296) = hi w := by rw [u32_in' (by omega)]; rfl

theorem rr0 (p : api_Page) (h : k_A7 k_u64 p.Data) (v b x) : iter (hashindex_ReadRoot_L1 p v) (b, x, 0) = iter (hashindex_ReadRoot_L1 p v) (b && okw (lo p.Data.a2), { x with a0 := dp (lo p.Data.a2) }, 1) := by
  obtain ⟨_, h1, h2, h3, _⟩ := h
  unfold k_u64 at h1 h2 h3
  rw [iter_eq]
  simp (disch := omega) only [hashindex_ReadRoot_L1, i64_in', u64_in', Int.reduceTDiv, Int.reduceTMod, Int.reduceMod, Int.reduceMul, Int.reduceAdd, A7.get, A4.set, Int.reduceEq, if_true, if_false, Int.reduceLT, Int.reduceLE, and_self, decide_true, shr_u64_0, shr_u64_32, u32_lo, u32_hi h2, u32_hi h3, unpack_eq lo_r, unpack_eq (hi_r h2), unpack_eq (hi_r h3), bind_s]
  cases b <;> simp [dp]
theorem rs0 (p : api_Page) (h : k_A7 k_u64 p.Data) (v b x) : iter (bodegaref23_ReadRoot_L1 p v) (x, b, 0) = iter (bodegaref23_ReadRoot_L1 p v) ({ x with a0 := cP (dp (lo p.Data.a2)) }, b && okw (lo p.Data.a2), 1) := by
  obtain ⟨_, h1, h2, h3, _⟩ := h
  unfold k_u64 at h1 h2 h3
  rw [iter_eq]
  have hh2 := hi_r h2
  have hh3 := hi_r h3
  have m2 : hi p.Data.a2 % 4294967296 = hi p.Data.a2 := by omega
  have m3 : hi p.Data.a3 % 4294967296 = hi p.Data.a3 := by omega
  have e2 : p.Data.a2 / 4294967296 = hi p.Data.a2 := rfl
  have e3 : p.Data.a3 / 4294967296 = hi p.Data.a3 := rfl
  have l2 : p.Data.a2 % 4294967296 = lo p.Data.a2 := rfl
  have l3 : p.Data.a3 % 4294967296 = lo p.Data.a3 := rfl
  simp (disch := omega) only [bodegaref23_ReadRoot_L1, i64_in', u64_in', Int.reduceTDiv, Int.reduceTMod, Int.reduceMod, Int.reduceMul, Int.reduceAdd, A7.get, A4.set, Int.reduceEq, if_true, if_false, Int.reduceLT, Int.reduceLE, and_self, decide_true, shr_u64_0, shr_u64_32, tmod_pos, e2, e3, m2, m3, l2, l3, pointer_eq lo_r, pointer_eq (hi_r h2), pointer_eq (hi_r h3), bind_s]
  rfl
theorem rr1 (p : api_Page) (h : k_A7 k_u64 p.Data) (v b x) : iter (hashindex_ReadRoot_L1 p v) (b, x, 1) = iter (hashindex_ReadRoot_L1 p v) (b && okw (hi p.Data.a2), { x with a1 := dp (hi p.Data.a2) }, 2) := by
  obtain ⟨_, h1, h2, h3, _⟩ := h
  unfold k_u64 at h1 h2 h3
  rw [iter_eq]
  simp (disch := omega) only [hashindex_ReadRoot_L1, i64_in', u64_in', Int.reduceTDiv, Int.reduceTMod, Int.reduceMod, Int.reduceMul, Int.reduceAdd, A7.get, A4.set, Int.reduceEq, if_true, if_false, Int.reduceLT, Int.reduceLE, and_self, decide_true, shr_u64_0, shr_u64_32, u32_lo, u32_hi h2, u32_hi h3, unpack_eq lo_r, unpack_eq (hi_r h2), unpack_eq (hi_r h3), bind_s]
  cases b <;> simp [dp]
theorem rs1 (p : api_Page) (h : k_A7 k_u64 p.Data) (v b x) : iter (bodegaref23_ReadRoot_L1 p v) (x, b, 1) = iter (bodegaref23_ReadRoot_L1 p v) ({ x with a1 := cP (dp (hi p.Data.a2)) }, b && okw (hi p.Data.a2), 2) := by
  obtain ⟨_, h1, h2, h3, _⟩ := h
  unfold k_u64 at h1 h2 h3
  rw [iter_eq]
  have hh2 := hi_r h2
  have hh3 := hi_r h3
  have m2 : hi p.Data.a2 % 4294967296 = hi p.Data.a2 := by omega
  have m3 : hi p.Data.a3 % 4294967296 = hi p.Data.a3 := by omega
  have e2 : p.Data.a2 / 4294967296 = hi p.Data.a2 := rfl
  have e3 : p.Data.a3 / 4294967296 = hi p.Data.a3 := rfl
  have l2 : p.Data.a2 % 4294967296 = lo p.Data.a2 := rfl
  have l3 : p.Data.a3 % 4294967296 = lo p.Data.a3 := rfl
  simp (disch := omega) only [bodegaref23_ReadRoot_L1, i64_in', u64_in', Int.reduceTDiv, Int.reduceTMod, Int.reduceMod, Int.reduceMul, Int.reduceAdd, A7.get, A4.set, Int.reduceEq, if_true, if_false, Int.reduceLT, Int.reduceLE, and_self, decide_true, shr_u64_0, shr_u64_32, tmod_pos, e2, e3, m2, m3, l2, l3, pointer_eq lo_r, pointer_eq (hi_r h2), pointer_eq (hi_r h3), bind_s]
  rfl
theorem rr2 (p : api_Page) (h : k_A7 k_u64 p.Data) (v b x) : iter (hashindex_ReadRoot_L1 p v) (b, x, 2) = iter (hashindex_ReadRoot_L1 p v) (b && okw (lo p.Data.a3), { x with a2 := dp (lo p.Data.a3) }, 3) := by
  obtain ⟨_, h1, h2, h3, _⟩ := h
  unfold k_u64 at h1 h2 h3
  rw [iter_eq]
  simp (disch := omega) only [hashindex_ReadRoot_L1, i64_in', u64_in', Int.reduceTDiv, Int.reduceTMod, Int.reduceMod, Int.reduceMul, Int.reduceAdd, A7.get, A4.set, Int.reduceEq, if_true, if_false, Int.reduceLT, Int.reduceLE, and_self, decide_true, shr_u64_0, shr_u64_32, u32_lo, u32_hi h2, u32_hi h3, unpack_eq lo_r, unpack_eq (hi_r h2), unpack_eq (hi_r h3), bind_s]
  cases b <;> simp [dp]
theorem rs2 (p : api_Page) (h : k_A7 k_u64 p.Data) (v b x) : iter (bodegaref23_ReadRoot_L1 p v) (x, b, 2) = iter (bodegaref23_ReadRoot_L1 p v) ({ x with a2 := cP (dp (lo p.Data.a3)) }, b && okw (lo p.Data.a3), 3) := by
  obtain ⟨_, h1, h2, h3, _⟩ := h
  unfold k_u64 at h1 h2 h3
  rw [iter_eq]
  have hh2 := hi_r h2
  have hh3 := hi_r h3
  have m2 : hi p.Data.a2 % 4294967296 = hi p.Data.a2 := by omega
  have m3 : hi p.Data.a3 % 4294967296 = hi p.Data.a3 := by omega
  have e2 : p.Data.a2 / 4294967296 = hi p.Data.a2 := rfl
  have e3 : p.Data.a3 / 4294967296 = hi p.Data.a3 := rfl
  have l2 : p.Data.a2 % 4294967296 = lo p.Data.a2 := rfl
  have l3 : p.Data.a3 % 4294967296 = lo p.Data.a3 := rfl
  simp (disch := omega) only [bodegaref23_ReadRoot_L1, i64_in', u64_in', Int.reduceTDiv, Int.reduceTMod, Int.reduceMod, Int.reduceMul, Int.reduceAdd, A7.get, A4.set, Int.reduceEq, if_true, if_false, Int.reduceLT, Int.reduceLE, and_self, decide_true, shr_u64_0, shr_u64_32, tmod_pos, e2, e3, m2, m3, l2, l3, pointer_eq lo_r, pointer_eq (hi_r h2), pointer_eq (hi_r h3), bind_s]
  rfl
theorem rr3 (p : api_Page) (h : k_A7 k_u64 p.Data) (v b x) : iter (hashindex_ReadRoot_L1 p v) (b, x, 3) = iter (hashindex_ReadRoot_L1 p v) (b && okw (hi p.Data.a3), { x with a3 := dp (hi p.Data.a3) }, 4) := by
  obtain ⟨_, h1, h2, h3, _⟩ := h
  unfold k_u64 at h1 h2 h3
  rw [iter_eq]
  simp (disch := omega) only [hashindex_ReadRoot_L1, i64_in', u64_in', Int.reduceTDiv, Int.reduceTMod, Int.reduceMod, Int.reduceMul, Int.reduceAdd, A7.get, A4.set, Int.reduceEq, if_true, if_false, Int.reduceLT, Int.reduceLE, and_self, decide_true, shr_u64_0, shr_u64_32, u32_lo, u32_hi h2, u32_hi h3, unpack_eq lo_r, unpack_eq (hi_r h2), unpack_eq (hi_r h3), bind_s]
  cases b <;> simp [dp]
theorem rs3 (p : api_Page) (h : k_A7 k_u64 p.Data) (v b x) : iter (bodegaref23_ReadRoot_L1 p v) (x, b, 3) = iter (bodegaref23_ReadRoot_L1 p v) ({ x with a3 := cP (dp (hi p.Data.a3)) }, b && okw (hi p.Data.a3), 4) := by
  obtain ⟨_, h1, h2, h3, _⟩ := h
  unfold k_u64 at h1 h2 h3
  rw [iter_eq]
  have hh2 := hi_r h2
  have hh3 := hi_r h3
  have m2 : hi p.Data.a2 % 4294967296 = hi p.Data.a2 := by omega
  have m3 : hi p.Data.a3 % 4294967296 = hi p.Data.a3 := by omega
  have e2 : p.Data.a2 / 4294967296 = hi p.Data.a2 := rfl
  have e3 : p.Data.a3 / 4294967296 = hi p.Data.a3 := rfl
  have l2 : p.Data.a2 % 4294967296 = lo p.Data.a2 := rfl
  have l3 : p.Data.a3 % 4294967296 = lo p.Data.a3 := rfl
  simp (disch := omega) only [bodegaref23_ReadRoot_L1, i64_in', u64_in', Int.reduceTDiv, Int.reduceTMod, Int.reduceMod, Int.reduceMul, Int.reduceAdd, A7.get, A4.set, Int.reduceEq, if_true, if_false, Int.reduceLT, Int.reduceLE, and_self, decide_true, shr_u64_0, shr_u64_32, tmod_pos, e2, e3, m2, m3, l2, l3, pointer_eq lo_r, pointer_eq (hi_r h2), pointer_eq (hi_r h3), bind_s]
  rfl

theorem ReadRoot_eq (p : api_Page) (h : k_A7 k_u64 p.Data) : hashindex_ReadRoot p = some (rd p) := by
  unfold hashindex_ReadRoot rd
  by_cases hl : p.Line = 96
  · simp only [hl, bne_self_eq_false, Bool.false_eq_true, if_false, ne_eq, not_true_eq_false]
    rw [u32_lo, unpack_eq lo_r, bind_s, rr0 p h, rr1 p h, rr2 p h, rr3 p h, iter_eq]
    obtain ⟨_, h1, h2, h3, _⟩ := h
    unfold k_u64 at h1 h2 h3
    have e1 : p.Data.a1 / 4294967296 = hi p.Data.a1 := rfl
    have := hi_r h1
    simp (disch := omega) only [hashindex_ReadRoot_L1, Int.reduceLT, decide_false, Bool.false_eq_true, if_false, hashindex_ReadRoot_J1, shr_u64_32, e1, i64_in', Root_valid_eq, bind_s]
    rw [show (⟨⟨lo p.Data.a1 % 256, lo p.Data.a1 / 256⟩, hi p.Data.a1, ⟨dp (lo p.Data.a2), dp (hi p.Data.a2), dp (lo p.Data.a3), dp (hi p.Data.a3)⟩⟩ : hashindex_Root) = rdR p from rfl]
    rw [show (okw (lo p.Data.a1) && okw (lo p.Data.a2) && okw (hi p.Data.a2) && okw (lo p.Data.a3) && okw (hi p.Data.a3)) = rdB p from rfl]
    rcases Bool.eq_false_or_eq_true (rdB p) with hb | hb <;> rcases Bool.eq_false_or_eq_true (rv (rdR p)) with hv | hv <;> simp [hb, hv, zeroR]
  · have : (p.Line != 96) = true := by simp [hl]
    simp only [this, if_true, hl, ne_eq, not_false_eq_true]
    rfl
theorem rv_deep {r : hashindex_Root} (h : 5 < r.Depth) : rv r = false := by
  unfold rv zr
  have h1 : ¬ r.Depth ≤ 5 := by omega
  have h2 : ¬ r.Depth = 0 := by omega
  simp [h1, h2]
theorem ReadRootR_eq (p : api_Page) (h : k_A7 k_u64 p.Data) : bodegaref23_ReadRoot p = some (cR (rd p).1, (rd p).2) := by
  unfold bodegaref23_ReadRoot rd
  by_cases hl : p.Line = 96
  · by_cases hd : p.Data.a1 ≥ 25769803776
    · have : rv (rdR p) = false := rv_deep (by show 5 < hi p.Data.a1; unfold hi; omega)
      simp only [hl, hd, this, bne_self_eq_false, Bool.false_eq_true, if_false, ne_eq, not_true_eq_false, decide_true, if_true, and_false]
      rfl
    · have h1' := h.2.1
      unfold k_u64 at h1'
      simp only [hl, hd, bne_self_eq_false, Bool.false_eq_true, if_false, ne_eq, not_true_eq_false, decide_false]
      rw [tmod_pos (by omega), show p.Data.a1 % 4294967296 = lo p.Data.a1 from rfl, pointer_eq lo_r, bind_s, rs0 p h, rs1 p h, rs2 p h, rs3 p h, iter_eq]
      obtain ⟨_, h1, h2, h3, _⟩ := h
      unfold k_u64 at h1 h2 h3
      have e1 : p.Data.a1 / 4294967296 = hi p.Data.a1 := rfl
      have := hi_r h1
      have hv0 := ValidRoot_eq (rdR p)
      rw [show cR (rdR p) = (⟨⟨lo p.Data.a1 % 256, lo p.Data.a1 / 256⟩, hi p.Data.a1, ⟨cP (dp (lo p.Data.a2)), cP (dp (hi p.Data.a2)), cP (dp (lo p.Data.a3)), cP (dp (hi p.Data.a3))⟩⟩ : bodegaref23_Root) from rfl] at hv0
      simp (disch := omega) only [bodegaref23_ReadRoot_L1, Int.reduceLT, decide_false, Bool.false_eq_true, if_false, bodegaref23_ReadRoot_J1, shr_u64_32, e1, i64_in', hv0, bind_s]
      rw [show (okw (lo p.Data.a1) && okw (lo p.Data.a2) && okw (hi p.Data.a2) && okw (lo p.Data.a3) && okw (hi p.Data.a3)) = rdB p from rfl]
      rcases Bool.eq_false_or_eq_true (rdB p) with hb | hb <;> rcases Bool.eq_false_or_eq_true (rv (rdR p)) with hv | hv <;> simp [hb, hv, zeroR] <;> rfl
  · have : (p.Line != 96) = true := by simp [hl]
    simp only [this, if_true, hl, ne_eq, not_false_eq_true]
    rfl
end Go.Sh
end
