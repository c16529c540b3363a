/- Part 5 of 6 of the proof: bodegalaw24.TreeRoots returns true for every input, with the package variable bodega/btree.none as the program lays it. -/
import Derived.Test.YtbpohbfamefecaaGreatDoorRootsD
set_option linter.all false
set_option maxRecDepth 100000
set_option maxHeartbeats 4000000
section
namespace Go.Sh
open Go.Proofs
noncomputable def btree_run_readRoot_J1 (v1 : (api_Page × Bool)) (a0 : btree_run) : Unit → Option (Bool × btree_run)
  | () =>
    (btree_ReadRoot v1.1).bind fun v10 =>
    if (v10.2.2 != 0) = true then
      (btree_run_fail a0 v10.2.2 ([] : List Int)).bind fun v14 =>
      some (v14.1, v14.2)
    else
      some (true, (⟨a0.Op, a0.Known, a0.Need, a0.Writes, a0.Out, v1.1, v10.1, a0.Ended⟩ : btree_run))
noncomputable def btree_run_readRoot (a0 : btree_run) : Option (Bool × btree_run) :=
  (pointer_Latest a0.Known 96).bind fun v1 =>
  if (!v1.2) = true then
    (btree_run_wait a0 96).bind fun v5 =>
    some (v5.1, v5.2)
  else
    if (a0.Op.Kind == 6) = true then
      (pointer_Locked v1.1).bind fun v16 =>
      if v16 = true then
        (btree_run_fail a0 3 ([] : List Int)).bind fun v18 =>
        some (v18.1, v18.2)
      else
        btree_run_readRoot_J1 v1 a0 ()
    else
      btree_run_readRoot_J1 v1 a0 ()
theorem btree_run_readRoot_ok (G : Glob) (hG0 : G.glob 0 = some [(.int .i64 0), (.int .i64 0)]) (a0 : btree_run) (res : (Bool × btree_run)) (h : btree_run_readRoot a0 = some res) : Spec Tryz.prog G 60 [.io (g_rhlf a0)] (fun r ios => r = .cell (.p (.bool res.1)) ∧ ios = [.io (g_rhlf res.2)]) := by
  rw [btree_run_readRoot] at h
  refine spec_of Tryz.mixed Tryz.func60 rfl rfl (by simp only [List.length]; decide +kernel) ?_
  refine swp_fresh (fun g => stL [(0, (.c (.ptr ⟨0, 1⟩ 0 0)))] [(⟨0, 1⟩, .box true (b_1wfs a0 ⟨1024000001, g⟩ ⟨1024000002, g⟩ ⟨1024000003, g⟩ ⟨1024000004, g⟩)), (⟨1024000001, g⟩, .arr true 1 (a0.Need.map r_i64)), (⟨1024000002, g⟩, .arr true 9 (a0.Writes.map r_api_Page)), (⟨1024000003, g⟩, .arr true 3 (a0.Out.Entries.map r_hashindex_Entry)), (⟨1024000004, g⟩, .arr true 1 (a0.Out.Check.map r_i64))] (g + 1)) (ren_go (fun g S => [(⟨1024000001, g⟩, (keyB 9 (St.heap S ⟨0, 1⟩))), (⟨1024000002, g⟩, (keyB 10 (St.heap S ⟨0, 1⟩))), (⟨1024000003, g⟩, (keyB 20 (St.heap S ⟨0, 1⟩))), (⟨1024000004, g⟩, (keyB 21 (St.heap S ⟨0, 1⟩)))]) fun g S => []) fun g => ?_
  refine seq_reg rfl (fun K hK => ?_)
  simp -implicitDefEqProofs +decide only [go_sem, Nat.reduceAdd, Int.reduceToNat]
  refine hK _ ?_
  refine seq_reg rfl (fun K hK => ?_)
  refine bind_of h (fun v1 hv1 h => ?_)
  simp -implicitDefEqProofs +decide only [go_sem, Nat.reduceAdd, Int.reduceToNat]
  refine call_go [0, 0] false (pointer_Latest_ok (cG G) hG0 _ _ _ hv1) ?_
  simp -implicitDefEqProofs +decide only [go_sem, Nat.reduceAdd, Int.reduceToNat]
  refine hK _ ?_
  refine swp_seq ?_
  refine seq_reg rfl (fun K hK => ?_)
  simp -implicitDefEqProofs +decide only [go_sem, Nat.reduceAdd, Int.reduceToNat]
  refine hK _ ?_
  refine bsplit h (fun hb4 h => ?_) (fun hb4 h => ?_)
  ·refine cond_t (by simp -implicitDefEqProofs +decide only [go_sem, hb4]) ?_
   refine seq_reg rfl (fun K hK => ?_)
   refine bind_of h (fun v5 hv5 h => ?_)
   simp -implicitDefEqProofs +decide only [go_sem, Nat.reduceAdd, Int.reduceToNat, hb4]
   refine call_go [0, 0] true (btree_run_wait_ok (cG G) hG0 _ _ _ hv5) ?_
   simp -implicitDefEqProofs +decide only [go_sem, Nat.reduceAdd, Int.reduceToNat, hb4]
   refine hK _ ?_
   refine swp_ret ?_
   with_reducible repeat first|apply nn|apply nb|apply nr|apply nc|apply ne|apply nq|apply nx rfl
   obtain rfl := some_eq h
   simp -implicitDefEqProofs +decide only [go_sem, Nat.reduceAdd, Int.reduceToNat]
   all_goals first | done | trivial | assumption | (simp [maps]; done) | (simp [maps, hb4]; done)
  ·refine cond_f (by simp -implicitDefEqProofs +decide only [go_sem, hb4]) ?_
   refine swp_skip ?_
   with_reducible repeat first|apply nn|apply nb|apply nr|apply nc|apply ne|apply nq|apply nx rfl
   refine cut1 (Joins (btree_run_readRoot_J1 v1 a0) (fun g _ => stL [(0, (.c (.ptr ⟨0, 1⟩ 0 0))), (3, (.c (.ptr ⟨1024000009, g⟩ 0 0)))] [(⟨0, 1⟩, .box true (b_1wfs a0 ⟨1024000005, g⟩ ⟨1024000006, g⟩ ⟨1024000007, g⟩ ⟨1024000008, g⟩)), (⟨1024000005, g⟩, .arr true 1 (a0.Need.map r_i64)), (⟨1024000006, g⟩, .arr true 9 (a0.Writes.map r_api_Page)), (⟨1024000007, g⟩, .arr true 3 (a0.Out.Entries.map r_hashindex_Entry)), (⟨1024000008, g⟩, .arr true 1 (a0.Out.Check.map r_i64)), (⟨1024000009, g⟩, .box true (b_mq86 v1.1))] (g + 1)) res) ?_ (fun hj1 => ?_)
   ·refine join_of ?_
    rintro g ⟨⟩ h
    rw [btree_run_readRoot_J1] at h
    try dsimp only
    refine seq_reg rfl (fun K hK => ?_)
    refine bind_of h (fun v10 hv10 h => ?_)
    simp -implicitDefEqProofs +decide only [go_sem, Nat.reduceAdd, Int.reduceToNat, hb4]
    refine call_go [0] false (btree_ReadRoot_ok (cG G) hG0 _ _ hv10) ?_
    simp -implicitDefEqProofs +decide only [go_sem, Nat.reduceAdd, Int.reduceToNat, hb4]
    refine hK _ ?_
    refine swp_seq ?_
    refine seq_reg rfl (fun K hK => ?_)
    simp -implicitDefEqProofs +decide only [go_sem, Nat.reduceAdd, Int.reduceToNat, hb4]
    refine hK _ ?_
    refine bsplit h (fun hb13 h => ?_) (fun hb13 h => ?_)
    ·refine cond_t (by simp -implicitDefEqProofs +decide only [go_sem, hb4, hb13]) ?_
     refine seq_reg rfl (fun K hK => ?_)
     refine bind_of h (fun v14 hv14 h => ?_)
     simp -implicitDefEqProofs +decide only [go_sem, Nat.reduceAdd, Int.reduceToNat, hb4, hb13]
     refine call_nil [0, 0, 1] true (btree_run_fail_ok (cG G) hG0 _ _ _ _ hv14) ?_
     simp -implicitDefEqProofs +decide only [go_sem, Nat.reduceAdd, Int.reduceToNat, hb4, hb13]
     refine hK _ ?_
     refine swp_ret ?_
     with_reducible repeat first|apply nn|apply nb|apply nr|apply nc|apply ne|apply nq|apply nx rfl
     obtain rfl := some_eq h
     simp -implicitDefEqProofs +decide only [go_sem, Nat.reduceAdd, Int.reduceToNat]
     all_goals first | done | trivial | assumption | (simp [maps]; done) | (simp [maps, hb4, hb13]; done)
    ·refine cond_f (by simp -implicitDefEqProofs +decide only [go_sem, hb4, hb13]) ?_
     refine swp_skip ?_
     with_reducible repeat first|apply nn|apply nb|apply nr|apply nc|apply ne|apply nq|apply nx rfl
     refine seq_drw rfl (fun K hK => ?_)
     simp -implicitDefEqProofs +decide only [go_sem, Nat.reduceAdd, Int.reduceToNat, hb4, hb13]
     refine draw_go (by kernel_rfl) ?_
     refine hK _ ?_
     refine seq_reg rfl (fun K hK => ?_)
     simp -implicitDefEqProofs +decide only [go_sem, Nat.reduceAdd, Int.reduceToNat, hb4, hb13]
     refine hK _ ?_
     refine swp_ret ?_
     with_reducible repeat first|apply nn|apply nb|apply nr|apply nc|apply ne|apply nq|apply nx rfl
     obtain rfl := some_eq h
     simp -implicitDefEqProofs +decide only [go_sem, Nat.reduceAdd, Int.reduceToNat]
     all_goals first | done | trivial | assumption | (simp [maps]; done) | (simp [maps, hb4, hb13]; done)
   refine swp_seq ?_
   refine seq_reg rfl (fun K hK => ?_)
   refine bsplit h (fun hb15 h => ?_) (fun hb15 h => ?_)
   ·refine bind_of h (fun v16 hv16 h => ?_)
    simp -implicitDefEqProofs +decide only [go_sem, Nat.reduceAdd, Int.reduceToNat, hb4, hb15]
    refine call_go [0] false (pointer_Locked_ok (cG G) hG0 _ _ hv16) ?_
    simp -implicitDefEqProofs +decide only [go_sem, Nat.reduceAdd, Int.reduceToNat, hb4, hb15]
    refine hK _ ?_
    refine bsplit h (fun hb17 h => ?_) (fun hb17 h => ?_)
    ·refine cond_t (by simp -implicitDefEqProofs +decide only [go_sem, hb4, hb15, hb17]) ?_
     refine seq_reg rfl (fun K hK => ?_)
     refine bind_of h (fun v18 hv18 h => ?_)
     simp -implicitDefEqProofs +decide only [go_sem, Nat.reduceAdd, Int.reduceToNat, hb4, hb15, hb17]
     refine call_nil [0, 0, 1] true (btree_run_fail_ok (cG G) hG0 _ _ _ _ hv18) ?_
     simp -implicitDefEqProofs +decide only [go_sem, Nat.reduceAdd, Int.reduceToNat, hb4, hb15, hb17]
     refine hK _ ?_
     refine swp_ret ?_
     with_reducible repeat first|apply nn|apply nb|apply nr|apply nc|apply ne|apply nq|apply nx rfl
     obtain rfl := some_eq h
     simp -implicitDefEqProofs +decide only [go_sem, Nat.reduceAdd, Int.reduceToNat]
     all_goals first | done | trivial | assumption | (simp [maps]; done) | (simp [maps, hb4, hb15, hb17]; done)
    ·refine cond_f (by simp -implicitDefEqProofs +decide only [go_sem, hb4, hb15, hb17]) ?_
     refine swp_skip ?_
     with_reducible repeat first|apply nn|apply nb|apply nr|apply nc|apply ne|apply nq|apply nx rfl
     exact jump_of hj1 h (ren_go (fun g S => [(⟨1024000005, g⟩, (keyB 9 (St.heap S ⟨0, 1⟩))), (⟨1024000006, g⟩, (keyB 10 (St.heap S ⟨0, 1⟩))), (⟨1024000007, g⟩, (keyB 20 (St.heap S ⟨0, 1⟩))), (⟨1024000008, g⟩, (keyB 21 (St.heap S ⟨0, 1⟩))), (⟨1024000009, g⟩, (keyT 0 (St.env S 3)))]) fun g S => [])
   ·simp -implicitDefEqProofs +decide only [go_sem, Nat.reduceAdd, Int.reduceToNat, hb4, hb15]
    refine hK _ ?_
    refine cond_f (by simp -implicitDefEqProofs +decide only [go_sem, hb4, hb15]) ?_
    refine swp_skip ?_
    with_reducible repeat first|apply nn|apply nb|apply nr|apply nc|apply ne|apply nq|apply nx rfl
    exact jump_of hj1 h (ren_go (fun g S => [(⟨1024000005, g⟩, (keyB 9 (St.heap S ⟨0, 1⟩))), (⟨1024000006, g⟩, (keyB 10 (St.heap S ⟨0, 1⟩))), (⟨1024000007, g⟩, (keyB 20 (St.heap S ⟨0, 1⟩))), (⟨1024000008, g⟩, (keyB 21 (St.heap S ⟨0, 1⟩))), (⟨1024000009, g⟩, (keyT 0 (St.env S 3)))]) fun g S => [])
end Go.Sh
end
section
namespace Go.Sh
open Go.Proofs
noncomputable def cmp_Compare_v2 (a0 : Int) (a1 : Int) : Option Int :=
  (cmp_isNaN a0).bind fun v1 =>
  (cmp_isNaN a1).bind fun v2 =>
  if v1 = true then
    some (if v2 = true then 0 else (-1))
  else
    if v2 = true then
      some 1
    else
      if (decide (a0 < a1)) = true then
        some (-1)
      else
        some (if (decide (a0 > a1)) = true then 1 else 0)
theorem cmp_Compare_v2_ok (G : Glob) (hG0 : G.glob 0 = some [(.int .i64 0), (.int .i64 0)]) (a0 : Int) (a1 : Int) (res : Int) (h : cmp_Compare_v2 a0 a1 = some res) : Spec Tryz.prog G 71 [.cell (.p (.int .i64 a0)), .cell (.p (.int .i64 a1))] (fun r ios => r = .cell (.p (.int .i64 res)) ∧ ios = []) := by
  rw [cmp_Compare_v2] at h
  refine spec_of Tryz.mixed Tryz.func71 rfl rfl (by simp only [List.length]; decide +kernel) ?_
  refine swp_fresh (fun g => stL [(0, (.c (.p (.int .i64 a0)))), (1, (.c (.p (.int .i64 a1))))] [] (g + 1)) (ren_go (fun g S => []) fun g S => []) fun g => ?_
  refine seq_reg rfl (fun K hK => ?_)
  simp -implicitDefEqProofs +decide only [go_sem, Nat.reduceAdd, Int.reduceToNat]
  refine hK _ ?_
  refine seq_reg rfl (fun K hK => ?_)
  refine bind_of h (fun v1 hv1 h => ?_)
  simp -implicitDefEqProofs +decide only [go_sem, Nat.reduceAdd, Int.reduceToNat]
  refine call_go [0] false (cmp_isNaN_ok (cG G) hG0 _ _ hv1) ?_
  simp -implicitDefEqProofs +decide only [go_sem, Nat.reduceAdd, Int.reduceToNat]
  refine hK _ ?_
  refine seq_reg rfl (fun K hK => ?_)
  refine bind_of h (fun v2 hv2 h => ?_)
  simp -implicitDefEqProofs +decide only [go_sem, Nat.reduceAdd, Int.reduceToNat]
  refine call_go [0] false (cmp_isNaN_ok (cG G) hG0 _ _ hv2) ?_
  simp -implicitDefEqProofs +decide only [go_sem, Nat.reduceAdd, Int.reduceToNat]
  refine hK _ ?_
  refine swp_seq ?_
  refine seq_reg rfl (fun K hK => ?_)
  simp -implicitDefEqProofs +decide only [go_sem, Nat.reduceAdd, Int.reduceToNat]
  refine hK _ ?_
  refine bsplit h (fun hb5 h => ?_) (fun hb5 h => ?_)
  ·refine cond_t (by simp -implicitDefEqProofs +decide only [go_sem, hb5]) ?_
   refine swp_seq ?_
   refine seq_reg rfl (fun K hK => ?_)
   simp -implicitDefEqProofs +decide only [go_sem, Nat.reduceAdd, Int.reduceToNat, hb5]
   refine hK _ ?_
   rcases hb6 : v2 with _ | _
   ·replace h : some (-1) = some res := by first | exact h | (rw [if_f hb6] at h; exact h)
    refine cond_f (by simp -implicitDefEqProofs +decide only [go_sem, hb5, hb6]) ?_
    refine swp_skip ?_
    with_reducible repeat first|apply nn|apply nb|apply nr|apply nc|apply ne|apply nq|apply nx rfl
    refine seq_reg rfl (fun K hK => ?_)
    simp -implicitDefEqProofs +decide only [go_sem, Nat.reduceAdd, Int.reduceToNat, hb5, hb6]
    refine hK _ ?_
    refine swp_ret ?_
    with_reducible repeat first|apply nn|apply nb|apply nr|apply nc|apply ne|apply nq|apply nx rfl
    obtain rfl := some_eq h
    simp -implicitDefEqProofs +decide only [go_sem, Nat.reduceAdd, Int.reduceToNat]
    all_goals first | done | trivial | assumption | (simp [maps]; done) | (simp [maps, hb5, hb6]; done)
   ·replace h : some 0 = some res := by first | exact h | (rw [if_t hb6] at h; exact h)
    refine cond_t (by simp -implicitDefEqProofs +decide only [go_sem, hb5, hb6]) ?_
    refine seq_reg rfl (fun K hK => ?_)
    simp -implicitDefEqProofs +decide only [go_sem, Nat.reduceAdd, Int.reduceToNat, hb5, hb6]
    refine hK _ ?_
    refine swp_ret ?_
    with_reducible repeat first|apply nn|apply nb|apply nr|apply nc|apply ne|apply nq|apply nx rfl
    obtain rfl := some_eq h
    simp -implicitDefEqProofs +decide only [go_sem, Nat.reduceAdd, Int.reduceToNat]
    all_goals first | done | trivial | assumption | (simp [maps]; done) | (simp [maps, hb5, hb6]; done)
  ·refine cond_f (by simp -implicitDefEqProofs +decide only [go_sem, hb5]) ?_
   refine swp_skip ?_
   with_reducible repeat first|apply nn|apply nb|apply nr|apply nc|apply ne|apply nq|apply nx rfl
   refine swp_seq ?_
   refine seq_reg rfl (fun K hK => ?_)
   simp -implicitDefEqProofs +decide only [go_sem, Nat.reduceAdd, Int.reduceToNat, hb5]
   refine hK _ ?_
   refine bsplit h (fun hb8 h => ?_) (fun hb8 h => ?_)
   ·refine cond_t (by simp -implicitDefEqProofs +decide only [go_sem, hb5, hb8]) ?_
    refine seq_reg rfl (fun K hK => ?_)
    simp -implicitDefEqProofs +decide only [go_sem, Nat.reduceAdd, Int.reduceToNat, hb5, hb8]
    refine hK _ ?_
    refine swp_ret ?_
    with_reducible repeat first|apply nn|apply nb|apply nr|apply nc|apply ne|apply nq|apply nx rfl
    obtain rfl := some_eq h
    simp -implicitDefEqProofs +decide only [go_sem, Nat.reduceAdd, Int.reduceToNat]
    all_goals first | done | trivial | assumption | (simp [maps]; done) | (simp [maps, hb5, hb8]; done)
   ·refine cond_f (by simp -implicitDefEqProofs +decide only [go_sem, hb5, hb8]) ?_
    refine swp_skip ?_
    with_reducible repeat first|apply nn|apply nb|apply nr|apply nc|apply ne|apply nq|apply nx rfl
    refine swp_seq ?_
    refine seq_reg rfl (fun K hK => ?_)
    simp -implicitDefEqProofs +decide only [go_sem, Nat.reduceAdd, Int.reduceToNat, hb5, hb8]
    refine hK _ ?_
    refine bsplit h (fun hb10 h => ?_) (fun hb10 h => ?_)
    ·refine cond_t (by simp -implicitDefEqProofs +decide only [go_sem, hb5, hb8, hb10]) ?_
     refine seq_reg rfl (fun K hK => ?_)
     simp -implicitDefEqProofs +decide only [go_sem, Nat.reduceAdd, Int.reduceToNat, hb5, hb8, hb10]
     refine hK _ ?_
     refine swp_ret ?_
     with_reducible repeat first|apply nn|apply nb|apply nr|apply nc|apply ne|apply nq|apply nx rfl
     obtain rfl := some_eq h
     simp -implicitDefEqProofs +decide only [go_sem, Nat.reduceAdd, Int.reduceToNat]
     all_goals first | done | trivial | assumption | (simp [maps]; done) | (simp [maps, hb5, hb8, hb10]; done)
    ·refine cond_f (by simp -implicitDefEqProofs +decide only [go_sem, hb5, hb8, hb10]) ?_
     refine swp_skip ?_
     with_reducible repeat first|apply nn|apply nb|apply nr|apply nc|apply ne|apply nq|apply nx rfl
     refine swp_seq ?_
     refine seq_reg rfl (fun K hK => ?_)
     simp -implicitDefEqProofs +decide only [go_sem, Nat.reduceAdd, Int.reduceToNat, hb5, hb8, hb10]
     refine hK _ ?_
     rcases hb11 : (decide (a0 > a1)) with _ | _
     ·replace h : some 0 = some res := by first | exact h | (rw [if_f hb11] at h; exact h)
      refine cond_f (by simp -implicitDefEqProofs +decide only [go_sem, hb5, hb8, hb10, hb11]) ?_
      refine swp_skip ?_
      with_reducible repeat first|apply nn|apply nb|apply nr|apply nc|apply ne|apply nq|apply nx rfl
      refine seq_reg rfl (fun K hK => ?_)
      simp -implicitDefEqProofs +decide only [go_sem, Nat.reduceAdd, Int.reduceToNat, hb5, hb8, hb10, hb11]
      refine hK _ ?_
      refine swp_ret ?_
      with_reducible repeat first|apply nn|apply nb|apply nr|apply nc|apply ne|apply nq|apply nx rfl
      obtain rfl := some_eq h
      simp -implicitDefEqProofs +decide only [go_sem, Nat.reduceAdd, Int.reduceToNat]
      all_goals first | done | trivial | assumption | (simp [maps]; done) | (simp [maps, hb5, hb8, hb10, hb11]; done)
     ·replace h : some 1 = some res := by first | exact h | (rw [if_t hb11] at h; exact h)
      refine cond_t (by simp -implicitDefEqProofs +decide only [go_sem, hb5, hb8, hb10, hb11]) ?_
      refine seq_reg rfl (fun K hK => ?_)
      simp -implicitDefEqProofs +decide only [go_sem, Nat.reduceAdd, Int.reduceToNat, hb5, hb8, hb10, hb11]
      refine hK _ ?_
      refine swp_ret ?_
      with_reducible repeat first|apply nn|apply nb|apply nr|apply nc|apply ne|apply nq|apply nx rfl
      obtain rfl := some_eq h
      simp -implicitDefEqProofs +decide only [go_sem, Nat.reduceAdd, Int.reduceToNat]
      all_goals first | done | trivial | assumption | (simp [maps]; done) | (simp [maps, hb5, hb8, hb10, hb11]; done)
end Go.Sh
end
section
namespace Go.Sh
open Go.Proofs
noncomputable def btree_Next_c1 (a0 : api_Page) (a1 : api_Page) : Option Int :=
  (cmp_Compare_v2 a0.Line a1.Line).bind fun v1 =>
  some v1
theorem btree_Next_c1_ok (G : Glob) (hG0 : G.glob 0 = some [(.int .i64 0), (.int .i64 0)]) (a0 : api_Page) (a1 : api_Page) (res : Int) (h : btree_Next_c1 a0 a1 = some res) : Spec Tryz.prog G 70 [.agg (g_yylp a0), .agg (g_yylp a1)] (fun r ios => r = .cell (.p (.int .i64 res)) ∧ ios = []) := by
  rw [btree_Next_c1] at h
  refine spec_of Tryz.mixed Tryz.func70 rfl rfl (by simp only [List.length]; decide +kernel) ?_
  refine swp_fresh (fun g => stL [(0, (.agg (b_mq86 a0))), (1, (.agg (b_mq86 a1)))] [] (g + 1)) (ren_go (fun g S => []) fun g S => []) fun g => ?_
  refine seq_reg rfl (fun K hK => ?_)
  simp -implicitDefEqProofs +decide only [go_sem, Nat.reduceAdd, Int.reduceToNat]
  refine hK _ ?_
  refine seq_reg rfl (fun K hK => ?_)
  refine bind_of h (fun v1 hv1 h => ?_)
  simp -implicitDefEqProofs +decide only [go_sem, Nat.reduceAdd, Int.reduceToNat]
  refine call_go [0, 0] false (cmp_Compare_v2_ok (cG G) hG0 _ _ _ hv1) ?_
  simp -implicitDefEqProofs +decide only [go_sem, Nat.reduceAdd, Int.reduceToNat]
  refine hK _ ?_
  refine swp_ret ?_
  with_reducible repeat first|apply nn|apply nb|apply nr|apply nc|apply ne|apply nq|apply nx rfl
  obtain rfl := some_eq h
  simp -implicitDefEqProofs +decide only [go_sem, Nat.reduceAdd, Int.reduceToNat]
  all_goals first | done | trivial | assumption | (simp [maps]; done) | (simp [maps]; done)
end Go.Sh
end
section
namespace Go.Sh
open Go.Proofs
noncomputable def slices_insertionSortCmpFunc_L2 (a1 : Int) (x94 : Int) : ((List api_Page) × Int) → Option (((List api_Page) × Int) ⊕ (((List api_Page) × Int) ⊕ (List api_Page)))
  | (l125, x126) =>
    if (decide (x126 > a1)) = true then
      (idx l125 x126).bind fun e137 =>
      (idx l125 (IntKind.i64.wrap (x126 - 1))).bind fun e138 =>
      (btree_Next_c1 e137 e138).bind fun v139 =>
      if (decide (v139 < 0)) = true then
        (idx (l125.set x126.toNat e138) (IntKind.i64.wrap (x126 - 1))).bind fun e141 =>
        some (.inl (((l125.set x126.toNat e138).set (IntKind.i64.wrap (x126 - 1)).toNat e137), (IntKind.i64.wrap (x126 - 1))))
      else
        Option.map Sum.inr (
          some (.inl (l125, (IntKind.i64.wrap (x94 + 1)))))
    else
      Option.map Sum.inr (
        some (.inl (l125, (IntKind.i64.wrap (x94 + 1)))))
noncomputable def slices_insertionSortCmpFunc_L1 (a2 : Int) (a1 : Int) (a0 : (List api_Page)) : ((List api_Page) × Int) → Option (((List api_Page) × Int) ⊕ (List api_Page))
  | (l93, x94) =>
    if (decide (x94 < a2)) = true then
      iter (slices_insertionSortCmpFunc_L2 a1 x94) (l93, x94)
    else
      Option.map Sum.inr (
        if l93.length = a0.length then
          some l93
        else none)
noncomputable def slices_insertionSortCmpFunc (a0 : (List api_Page)) (a1 : Int) (a2 : Int) : Option (List api_Page) :=
  iter (slices_insertionSortCmpFunc_L1 a2 a1 a0) (a0, (IntKind.i64.wrap (a1 + 1)))
theorem slices_insertionSortCmpFunc_ok (G : Glob) (hG0 : G.glob 0 = some [(.int .i64 0), (.int .i64 0)]) (a0 : (List api_Page)) (a1 : Int) (a2 : Int) (res : (List api_Page)) (h : slices_insertionSortCmpFunc a0 a1 a2 = some res) : Spec Tryz.prog G 111 [.els 9 (a0.map r_api_Page), .cell (.p (.int .i64 a1)), .cell (.p (.int .i64 a2)), .cell (.p (.clo 70 []))] (fun r ios => r = .tup [] ∧ ios = [.els 9 (res.map r_api_Page)]) := by
  rw [slices_insertionSortCmpFunc] at h
  refine spec_of Tryz.mixed Tryz.func111 rfl rfl (by simp only [List.length]; decide +kernel) ?_
  refine swp_fresh (fun g => stL [(0, (.c (.ref ⟨1, 0⟩ 0 a0.length))), (1, (.c (.p (.int .i64 a1)))), (2, (.c (.p (.int .i64 a2)))), (3, (.c (.p (.clo 70 []))))] [(⟨1, 0⟩, .arr true 9 (a0.map r_api_Page))] (g + 1)) (ren_go (fun g S => []) fun g S => []) fun g => ?_
  refine seq_reg rfl (fun K hK => ?_)
  simp -implicitDefEqProofs +decide only [go_sem, Nat.reduceAdd, Int.reduceToNat]
  refine hK _ ?_
  refine swp_block ?_
  refine swp_iter (fun g x => match x with | (l93, x94) => stL [(0, (.c (.ref ⟨1, 0⟩ 0 l93.length))), (1, (.c (.p (.int .i64 a1)))), (2, (.c (.p (.int .i64 a2)))), (3, (.c (.p (.clo 70 [])))), (8, (.c (.p (.int .i64 x94))))] [(⟨1, 0⟩, .arr true 9 (l93.map r_api_Page))] (g + 1)) h (enter_of (ren_go (fun g S => []) fun g S => [])) ?_
  rintro g ⟨l93, x94⟩ s1 h hd1
  rw [slices_insertionSortCmpFunc_L1] at h
  try dsimp only
  refine swp_seq ?_
  refine seq_reg rfl (fun K hK => ?_)
  simp -implicitDefEqProofs +decide only [go_sem, Nat.reduceAdd, Int.reduceToNat]
  refine hK _ ?_
  refine bsplit h (fun hb96 h => ?_) (fun hb96 h => ?_)
  ·refine cond_t (by simp -implicitDefEqProofs +decide only [go_sem, hb96]) ?_
   refine swp_skip ?_
   with_reducible repeat first|apply nn|apply nb|apply nr|apply nc|apply ne|apply nq|apply nx rfl
   refine swp_seq ?_
   refine swp_block ?_
   refine seq_reg rfl (fun K hK => ?_)
   simp -implicitDefEqProofs +decide only [go_sem, Nat.reduceAdd, Int.reduceToNat, hb96]
   refine hK _ ?_
   refine swp_block ?_
   refine swp_iter (fun g x => match x with | (l125, x126) => stL [(0, (.c (.ref ⟨1, 0⟩ 0 l125.length))), (1, (.c (.p (.int .i64 a1)))), (2, (.c (.p (.int .i64 a2)))), (3, (.c (.p (.clo 70 [])))), (8, (.c (.p (.int .i64 x94)))), (9, (.c (.p (.int .i64 x126))))] [(⟨1, 0⟩, .arr true 9 (l125.map r_api_Page))] (g + 1)) h (enter_of (ren_go (fun g S => []) fun g S => [])) ?_
   rintro g ⟨l125, x126⟩ s2 h hd2
   rw [slices_insertionSortCmpFunc_L2] at h
   try dsimp only
   refine swp_seq ?_
   refine seq_drw rfl (fun K hK => ?_)
   refine bsplit h (fun hb136 h => ?_) (fun hb136 h => ?_)
   ·refine bind_of h (fun e137 he137 h => ?_)
    obtain ⟨he137_0, he137_1, he137_2⟩ := idx_some he137
    refine bind_of h (fun e138 he138 h => ?_)
    obtain ⟨he138_0, he138_1, he138_2⟩ := idx_some he138
    refine bind_of h (fun v139 hv139 h => ?_)
    simp -implicitDefEqProofs +decide only [go_sem, Nat.reduceAdd, Int.reduceToNat, he137_0, he137_1, he137_2, he138_0, he138_1, he138_2, hb136]
    refine call_go [0, 0] false (btree_Next_c1_ok (cG G) hG0 _ _ _ hv139) ?_
    simp -implicitDefEqProofs +decide only [go_sem, Nat.reduceAdd, Int.reduceToNat, hb136]
    refine draw_go (by kernel_rfl) ?_
    refine hK _ ?_
    refine bsplit h (fun hb140 h => ?_) (fun hb140 h => ?_)
    ·refine cond_t (by simp -implicitDefEqProofs +decide only [go_sem, hb136, hb140]) ?_
     refine swp_skip ?_
     with_reducible repeat first|apply nn|apply nb|apply nr|apply nc|apply ne|apply nq|apply nx rfl
     refine swp_seq ?_
     refine swp_block ?_
     refine swp_drw rfl (fun K hK => ?_)
     refine bind_of h (fun e141 he141 h => ?_)
     obtain ⟨he141_0, he141_1, he141_2⟩ := idx_some he141
     simp -implicitDefEqProofs +decide only [go_sem, Nat.reduceAdd, Int.reduceToNat, he138_0, he138_1, he138_2, he137_0, he137_1, he137_2, he141_0, he141_1, he141_2, hb136, hb140]
     refine draw_go (by kernel_rfl) ?_
     refine hK _ ?_
     with_reducible repeat first|apply nn|apply nb|apply nr|apply nc|apply ne|apply nq|apply nx rfl
     refine swp_fresh (fun g => stL [(0, (.c (.ref ⟨1, 0⟩ 0 ((l125.set x126.toNat e138).set (IntKind.i64.wrap (x126 - 1)).toNat e137).length))), (1, (.c (.p (.int .i64 a1)))), (2, (.c (.p (.int .i64 a2)))), (3, (.c (.p (.clo 70 [])))), (8, (.c (.p (.int .i64 x94)))), (9, (.c (.p (.int .i64 x126))))] [(⟨1, 0⟩, .arr true 9 (((l125.set x126.toNat e138).set (IntKind.i64.wrap (x126 - 1)).toNat e137).map r_api_Page))] (g + 1)) (ren_go (fun g S => []) fun g S => []) fun g => ?_
     refine swp_reg rfl (fun K hK => ?_)
     simp -implicitDefEqProofs +decide only [go_sem, Nat.reduceAdd, Int.reduceToNat, hb136, hb140]
     refine hK _ ?_
     with_reducible repeat first|apply nn|apply nb|apply nr|apply nc|apply ne|apply nq|apply nx rfl
     exact back_of h (ren_go (fun g S => []) fun g S => [])
    ·refine cond_f (by simp -implicitDefEqProofs +decide only [go_sem, hb136, hb140]) ?_
     refine swp_exit ?_
     with_reducible repeat first|apply nn|apply nb|apply nr|apply nc|apply ne|apply nq|apply nx rfl
     obtain ⟨h, hs2⟩ := exit_of h hd2
     with_reducible repeat first|apply nn|apply nb|apply nr|apply nc|apply ne|apply nq|apply nx rfl
     refine ⟨hs2, ?_⟩
     with_reducible repeat first|apply nn|apply nb|apply nr|apply nc|apply ne|apply nq|apply nx rfl
     refine swp_reg rfl (fun K hK => ?_)
     simp -implicitDefEqProofs +decide only [go_sem, Nat.reduceAdd, Int.reduceToNat, hb136, hb140]
     refine hK _ ?_
     with_reducible repeat first|apply nn|apply nb|apply nr|apply nc|apply ne|apply nq|apply nx rfl
     exact back_of h (ren_go (fun g S => []) fun g S => [])
   ·simp -implicitDefEqProofs +decide only [go_sem, Nat.reduceAdd, Int.reduceToNat, hb136]
    refine draw_go (by kernel_rfl) ?_
    refine hK _ ?_
    refine cond_f (by simp -implicitDefEqProofs +decide only [go_sem, hb136]) ?_
    refine swp_exit ?_
    with_reducible repeat first|apply nn|apply nb|apply nr|apply nc|apply ne|apply nq|apply nx rfl
    obtain ⟨h, hs2⟩ := exit_of h hd2
    with_reducible repeat first|apply nn|apply nb|apply nr|apply nc|apply ne|apply nq|apply nx rfl
    refine ⟨hs2, ?_⟩
    with_reducible repeat first|apply nn|apply nb|apply nr|apply nc|apply ne|apply nq|apply nx rfl
    refine swp_reg rfl (fun K hK => ?_)
    simp -implicitDefEqProofs +decide only [go_sem, Nat.reduceAdd, Int.reduceToNat, hb136]
    refine hK _ ?_
    with_reducible repeat first|apply nn|apply nb|apply nr|apply nc|apply ne|apply nq|apply nx rfl
    exact back_of h (ren_go (fun g S => []) fun g S => [])
  ·refine cond_f (by simp -implicitDefEqProofs +decide only [go_sem, hb96]) ?_
   refine swp_exit ?_
   with_reducible repeat first|apply nn|apply nb|apply nr|apply nc|apply ne|apply nq|apply nx rfl
   obtain ⟨h, hs1⟩ := exit_of h hd1
   with_reducible repeat first|apply nn|apply nb|apply nr|apply nc|apply ne|apply nq|apply nx rfl
   refine ⟨hs1, ?_⟩
   with_reducible repeat first|apply nn|apply nb|apply nr|apply nc|apply ne|apply nq|apply nx rfl
   refine psplit h (fun hp150 h => ?_)
   obtain rfl := some_eq h
   simp -implicitDefEqProofs +decide only [go_sem, Nat.reduceAdd, Int.reduceToNat, hp150]
   all_goals first | done | trivial | assumption | (simp [maps]; done) | (simp [maps, hb96]; done)
end Go.Sh
end
section
namespace Go.Sh
open Go.Proofs
noncomputable def slices_pdqsortCmpFunc_L1 (a2 : Int) (a1 : Int) (a0 : (List api_Page)) (a3 : Int) : Unit → Option (Unit ⊕ (List api_Page))
  | () =>
    if (decide ((IntKind.i64.wrap (a2 - a1)) ≤ 12)) = true then
      (slices_insertionSortCmpFunc a0 a1 a2).bind fun v13 =>
      if v13.length = a0.length then
        Option.map Sum.inr (
          if v13.length = a0.length then
            some v13
          else none)
      else none
    else
      if (a3 == 0) = true then
        none
      else
        none
noncomputable def slices_pdqsortCmpFunc (a0 : (List api_Page)) (a1 : Int) (a2 : Int) (a3 : Int) : Option (List api_Page) :=
  iter (slices_pdqsortCmpFunc_L1 a2 a1 a0 a3) ()
theorem slices_pdqsortCmpFunc_ok (G : Glob) (hG0 : G.glob 0 = some [(.int .i64 0), (.int .i64 0)]) (a0 : (List api_Page)) (a1 : Int) (a2 : Int) (a3 : Int) (res : (List api_Page)) (h : slices_pdqsortCmpFunc a0 a1 a2 a3 = some res) : Spec Tryz.prog G 97 [.els 9 (a0.map r_api_Page), .cell (.p (.int .i64 a1)), .cell (.p (.int .i64 a2)), .cell (.p (.int .i64 a3)), .cell (.p (.clo 70 []))] (fun r ios => r = .tup [] ∧ ios = [.els 9 (res.map r_api_Page)]) := by
  rw [slices_pdqsortCmpFunc] at h
  refine spec_of Tryz.mixed Tryz.func97 rfl rfl (by simp only [List.length]; decide +kernel) ?_
  refine swp_fresh (fun g => stL [(0, (.c (.ref ⟨1, 0⟩ 0 a0.length))), (1, (.c (.p (.int .i64 a1)))), (2, (.c (.p (.int .i64 a2)))), (3, (.c (.p (.int .i64 a3)))), (4, (.c (.p (.clo 70 []))))] [(⟨1, 0⟩, .arr true 9 (a0.map r_api_Page))] (g + 1)) (ren_go (fun g S => []) fun g S => []) fun g => ?_
  refine seq_reg rfl (fun K hK => ?_)
  simp -implicitDefEqProofs +decide only [go_sem, Nat.reduceAdd, Int.reduceToNat]
  refine hK _ ?_
  refine seq_reg rfl (fun K hK => ?_)
  simp -implicitDefEqProofs +decide only [go_sem, Nat.reduceAdd, Int.reduceToNat]
  refine hK _ ?_
  refine swp_block ?_
  refine swp_iter (fun g _ => stL [(0, (.c (.ref ⟨1, 0⟩ 0 a0.length))), (1, (.c (.p (.int .i64 a1)))), (2, (.c (.p (.int .i64 a2)))), (3, (.c (.p (.int .i64 a3)))), (4, (.c (.p (.clo 70 [])))), (10, (.c (.p (.bool true)))), (11, (.c (.p (.bool true))))] [(⟨1, 0⟩, .arr true 9 (a0.map r_api_Page))] (g + 1)) h (enter_of (ren_go (fun g S => []) fun g S => [])) ?_
  rintro g ⟨⟩ s1 h hd1
  rw [slices_pdqsortCmpFunc_L1] at h
  try dsimp only
  refine swp_block ?_
  refine seq_reg rfl (fun K hK => ?_)
  simp -implicitDefEqProofs +decide only [go_sem, Nat.reduceAdd, Int.reduceToNat]
  refine hK _ ?_
  refine swp_seq ?_
  refine seq_reg rfl (fun K hK => ?_)
  simp -implicitDefEqProofs +decide only [go_sem, Nat.reduceAdd, Int.reduceToNat]
  refine hK _ ?_
  refine bsplit h (fun hb12 h => ?_) (fun hb12 h => ?_)
  ·refine cond_t (by simp -implicitDefEqProofs +decide only [go_sem, hb12]) ?_
   refine seq_reg rfl (fun K hK => ?_)
   refine bind_of h (fun v13 hv13 h => ?_)
   refine psplit h (fun hp14 h => ?_)
   have qhp14 := hp14.symm
   simp -implicitDefEqProofs +decide only [go_sem, Nat.reduceAdd, Int.reduceToNat, hb12]
   refine call_go [2, 0, 0, 0] false (slices_insertionSortCmpFunc_ok (cG G) hG0 _ _ _ _ hv13) ?_
   simp -implicitDefEqProofs +decide only [go_sem, Nat.reduceAdd, Int.reduceToNat, hb12, qhp14]
   refine hK _ ?_
   refine swp_ret ?_
   with_reducible repeat first|apply nn|apply nb|apply nr|apply nc|apply ne|apply nq|apply nx rfl
   obtain ⟨h, hs1⟩ := exit_of h hd1
   refine ⟨hs1, ?_⟩
   with_reducible repeat first|apply nn|apply nb|apply nr|apply nc|apply ne|apply nq|apply nx rfl
   refine psplit h (fun hp15 h => ?_)
   obtain rfl := some_eq h
   simp -implicitDefEqProofs +decide only [go_sem, Nat.reduceAdd, Int.reduceToNat, hp15]
   all_goals first | done | trivial | assumption | (simp [maps]; done) | (simp [maps, hb12, qhp14]; done)
  ·refine cond_f (by simp -implicitDefEqProofs +decide only [go_sem, hb12]) ?_
   refine swp_skip ?_
   with_reducible repeat first|apply nn|apply nb|apply nr|apply nc|apply ne|apply nq|apply nx rfl
   refine swp_seq ?_
   refine seq_reg rfl (fun K hK => ?_)
   simp -implicitDefEqProofs +decide only [go_sem, Nat.reduceAdd, Int.reduceToNat, hb12]
   refine hK _ ?_
   refine bsplit h (fun hb17 h => ?_) (fun hb17 h => ?_)
   ·cases h
   ·refine cond_f (by simp -implicitDefEqProofs +decide only [go_sem, hb12, hb17]) ?_
    refine swp_skip ?_
    with_reducible repeat first|apply nn|apply nb|apply nr|apply nc|apply ne|apply nq|apply nx rfl
    refine swp_seq ?_
    refine seq_reg rfl (fun K hK => ?_)
    simp -implicitDefEqProofs +decide only [go_sem, Nat.reduceAdd, Int.reduceToNat, hb12, hb17]
    refine hK _ ?_
    cases h
end Go.Sh
end
section
namespace Go.Sh
open Go.Proofs
noncomputable def slices_SortFunc (a0 : (List api_Page)) : Option (List api_Page) :=
  (math_bits_Len (IntKind.u64.wrap (a0.length : Int))).bind fun v1 =>
  (slices_pdqsortCmpFunc a0 0 (a0.length : Int) v1).bind fun v2 =>
  if v2.length = a0.length then
    if v2.length = a0.length then
      some v2
    else none
  else none
theorem slices_SortFunc_ok (G : Glob) (hG0 : G.glob 0 = some [(.int .i64 0), (.int .i64 0)]) (a0 : (List api_Page)) (res : (List api_Page)) (h : slices_SortFunc a0 = some res) : Spec Tryz.prog G 69 [.els 9 (a0.map r_api_Page), .cell (.p (.clo 70 []))] (fun r ios => r = .tup [] ∧ ios = [.els 9 (res.map r_api_Page)]) := by
  rw [slices_SortFunc] at h
  refine spec_of Tryz.mixed Tryz.func69 rfl rfl (by simp only [List.length]; decide +kernel) ?_
  refine swp_fresh (fun g => stL [(0, (.c (.ref ⟨1, 0⟩ 0 a0.length))), (1, (.c (.p (.clo 70 []))))] [(⟨1, 0⟩, .arr true 9 (a0.map r_api_Page))] (g + 1)) (ren_go (fun g S => []) fun g S => []) fun g => ?_
  refine seq_reg rfl (fun K hK => ?_)
  simp -implicitDefEqProofs +decide only [go_sem, Nat.reduceAdd, Int.reduceToNat]
  refine hK _ ?_
  refine swp_reg rfl (fun K hK => ?_)
  refine bind_of h (fun v1 hv1 h => ?_)
  simp -implicitDefEqProofs +decide only [go_sem, Nat.reduceAdd, Int.reduceToNat]
  refine call_go [0] false (math_bits_Len_ok (cG G) hG0 _ _ hv1) ?_
  refine bind_of h (fun v2 hv2 h => ?_)
  refine psplit h (fun hp3 h => ?_)
  have qhp3 := hp3.symm
  simp -implicitDefEqProofs +decide only [go_sem, Nat.reduceAdd, Int.reduceToNat]
  refine call_go [2, 0, 0, 0, 0] false (slices_pdqsortCmpFunc_ok (cG G) hG0 _ _ _ _ _ hv2) ?_
  simp -implicitDefEqProofs +decide only [go_sem, Nat.reduceAdd, Int.reduceToNat, qhp3]
  refine hK _ ?_
  with_reducible repeat first|apply nn|apply nb|apply nr|apply nc|apply ne|apply nq|apply nx rfl
  refine psplit h (fun hp4 h => ?_)
  obtain rfl := some_eq h
  simp -implicitDefEqProofs +decide only [go_sem, Nat.reduceAdd, Int.reduceToNat, hp4]
  all_goals first | done | trivial | assumption | (simp [maps]; done) | (simp [maps, qhp3]; done)
end Go.Sh
end
section
namespace Go.Sh
open Go.Proofs
noncomputable def btree_Next_J2 (l26 : List api_Page) (x27 : Int) (b28 : Bool) (b29 : Bool) (b30 : Bool) (b33 : Bool) (x34 : pointer_Pointer) (l35 : List hashindex_Entry) (l36 : List Int) (x38 : Int) : (Bool × Bool × Int × Int) → Option ((List Int) × (List api_Page) × btree_Out × Bool)
  | (b46, b47, x48, x49) =>
    (slices_SortFunc l26).bind fun v50 =>
    if v50.length = l26.length then
      some (([] : List Int), v50, (⟨x27, b28, b29, b30, b46, b47, b33, x34, l35, l36, x48, x38, x49⟩ : btree_Out), true)
    else none
noncomputable def btree_Next_J1 : (Int × Int × Int × pointer_Pointer × Int × Int × List api_Page × List api_Page × List Int × List api_Page × Int × Bool × Bool × Bool × Bool × Bool × Bool × pointer_Pointer × List hashindex_Entry × List Int × Int × Int × Int × api_Page × pointer_Pointer × Bool) → Option ((List Int) × (List api_Page) × btree_Out × Bool)
  | (x17, x18, x19, x20, x21, x22, l23, l24, l25, l26, x27, b28, b29, b30, b31, b32, b33, x34, l35, l36, x37, x38, x39, x40, x41, b42) =>
    if (decide ((l25.length : Int) > 0)) = true then
      some (l25, ([] : List api_Page), (⟨0, false, false, false, false, false, false, (⟨0, 0⟩ : pointer_Pointer), ([] : List hashindex_Entry), ([] : List Int), 0, 0, 0⟩ : btree_Out), false)
    else
      if (!b42) = true then
        btree_Next_J2 l26 x27 b28 b29 b30 b33 x34 l35 l36 x38 (false, false, 0, 0)
      else
        btree_Next_J2 l26 x27 b28 b29 b30 b33 x34 l35 l36 x38 (b31, b32, x37, x39)
noncomputable def btree_Next (a0 : btree_Op) (a1 : (List api_Page)) : Option ((List Int) × (List api_Page) × btree_Out × Bool) :=
  (btree_Op_isValid a0).bind fun v3 =>
  if (!v3) = true then
    some (([] : List Int), ([] : List api_Page), (⟨1, false, false, false, false, false, false, (⟨0, 0⟩ : pointer_Pointer), ([] : List hashindex_Entry), ([] : List Int), 0, 0, 0⟩ : btree_Out), true)
  else
    (btree_run_readRoot (⟨a0, a1, [], [], (⟨0, false, false, false, false, false, false, (⟨0, 0⟩ : pointer_Pointer), [], [], 0, 0, 0⟩ : btree_Out), (⟨0, 0, (⟨0, 0, 0, 0, 0, 0, 0⟩ : (A7 Int))⟩ : api_Page), (⟨0, 0⟩ : pointer_Pointer), false⟩ : btree_run)).bind fun v61 =>
    if v61.1 = true then
      if (a0.Kind == 1) = true then
        none
      else
        if (a0.Kind == 2) = true then
          (btree_run_insert v61.2).bind fun v65 =>
          btree_Next_J1 (v65.Op.Kind, v65.Op.Key, v65.Op.Last, v65.Op.To, v65.Op.Level, v65.Op.Limit, v65.Op.Fresh, v65.Known, v65.Need, v65.Writes, v65.Out.Code, v65.Out.Found, v65.Out.Done, v65.Out.Split, v65.Out.Unposted, v65.Out.Dead, v65.Out.More, v65.Out.To, v65.Out.Entries, v65.Out.Check, v65.Out.Hops, v65.Out.Fresh, v65.Out.Height, v65.RootPage, v65.Root, v65.Ended)
        else
          if (a0.Kind == 3) = true then
            none
          else
            if (a0.Kind == 4) = true then
              none
            else
              if (a0.Kind == 5) = true then
                none
              else
                if (a0.Kind == 6) = true then
                  (btree_run_raise v61.2).bind fun v96 =>
                  btree_Next_J1 (v96.Op.Kind, v96.Op.Key, v96.Op.Last, v96.Op.To, v96.Op.Level, v96.Op.Limit, v96.Op.Fresh, v96.Known, v96.Need, v96.Writes, v96.Out.Code, v96.Out.Found, v96.Out.Done, v96.Out.Split, v96.Out.Unposted, v96.Out.Dead, v96.Out.More, v96.Out.To, v96.Out.Entries, v96.Out.Check, v96.Out.Hops, v96.Out.Fresh, v96.Out.Height, v96.RootPage, v96.Root, v96.Ended)
                else
                  if (a0.Kind == 7) = true then
                    none
                  else
                    if (a0.Kind == 8) = true then
                      none
                    else
                      btree_Next_J1 (v61.2.Op.Kind, v61.2.Op.Key, v61.2.Op.Last, v61.2.Op.To, v61.2.Op.Level, v61.2.Op.Limit, v61.2.Op.Fresh, v61.2.Known, v61.2.Need, v61.2.Writes, v61.2.Out.Code, v61.2.Out.Found, v61.2.Out.Done, v61.2.Out.Split, v61.2.Out.Unposted, v61.2.Out.Dead, v61.2.Out.More, v61.2.Out.To, v61.2.Out.Entries, v61.2.Out.Check, v61.2.Out.Hops, v61.2.Out.Fresh, v61.2.Out.Height, v61.2.RootPage, v61.2.Root, v61.2.Ended)
    else
      btree_Next_J1 (v61.2.Op.Kind, v61.2.Op.Key, v61.2.Op.Last, v61.2.Op.To, v61.2.Op.Level, v61.2.Op.Limit, v61.2.Op.Fresh, v61.2.Known, v61.2.Need, v61.2.Writes, v61.2.Out.Code, v61.2.Out.Found, v61.2.Out.Done, v61.2.Out.Split, v61.2.Out.Unposted, v61.2.Out.Dead, v61.2.Out.More, v61.2.Out.To, v61.2.Out.Entries, v61.2.Out.Check, v61.2.Out.Hops, v61.2.Out.Fresh, v61.2.Out.Height, v61.2.RootPage, v61.2.Root, v61.2.Ended)
theorem btree_Next_ok (G : Glob) (hG0 : G.glob 0 = some [(.int .i64 0), (.int .i64 0)]) (a0 : btree_Op) (a1 : (List api_Page)) (res : ((List Int) × (List api_Page) × btree_Out × Bool)) (h : btree_Next a0 a1 = some res) : Spec Tryz.prog G 33 [.agg (g_e29e a0), .cell (.p (.rows (a1.map r_api_Page)))] (fun r ios => r = .tup [.cell (.own 1 (res.1.map r_i64)), .cell (.own 9 (res.2.1.map r_api_Page)), .agg (g_pyye res.2.2.1), .cell (.p (.bool res.2.2.2))] ∧ ios = []) := by
  rw [btree_Next] at h
  refine spec_of Tryz.mixed Tryz.func33 rfl rfl (by simp only [List.length]; decide +kernel) ?_
  refine swp_fresh (fun g => stL [(0, (.agg (b_8lf7 a0))), (1, (.c (.p (.rows (a1.map r_api_Page)))))] [] (g + 1)) (ren_go (fun g S => []) fun g S => []) fun g => ?_
  refine seq_reg rfl (fun K hK => ?_)
  simp -implicitDefEqProofs +decide only [go_sem, Nat.reduceAdd, Int.reduceToNat]
  refine hK _ ?_
  refine swp_seq ?_
  refine seq_reg rfl (fun K hK => ?_)
  refine bind_of h (fun v3 hv3 h => ?_)
  simp -implicitDefEqProofs +decide only [go_sem, Nat.reduceAdd, Int.reduceToNat]
  refine call_go [0] false (btree_Op_isValid_ok (cG G) hG0 _ _ hv3) ?_
  simp -implicitDefEqProofs +decide only [go_sem, Nat.reduceAdd, Int.reduceToNat]
  refine hK _ ?_
  refine bsplit h (fun hb4 h => ?_) (fun hb4 h => ?_)
  ·refine cond_t (by simp -implicitDefEqProofs +decide only [go_sem, hb4]) ?_
   refine seq_reg rfl (fun K hK => ?_)
   simp -implicitDefEqProofs +decide only [go_sem, Nat.reduceAdd, Int.reduceToNat, hb4]
   refine hK _ ?_
   refine swp_fresh (fun g => stL [(4, (.c (.ref ⟨1024000001, g⟩ 0 ([] : List Int).length))), (5, (.c (.ref ⟨1024000002, g⟩ 0 ([] : List api_Page).length))), (6, (.c (.ptr ⟨1024000003, g⟩ 0 0))), (7, (.c (.p (.bool true))))] [(⟨1024000001, g⟩, .arr true 1 (([] : List Int).map r_i64)), (⟨1024000002, g⟩, .arr true 9 (([] : List api_Page).map r_api_Page)), (⟨1024000003, g⟩, .box true [(.p (.int .i64 1)), (.p (.bool false)), (.p (.bool false)), (.p (.bool false)), (.p (.bool false)), (.p (.bool false)), (.p (.bool false)), (.p (.int .i64 0)), (.p (.int .i64 0)), (.ref ⟨1024000004, g⟩ 0 ([] : List hashindex_Entry).length), (.ref ⟨1024000005, g⟩ 0 ([] : List Int).length), (.p (.int .i64 0)), (.p (.int .i64 0)), (.p (.int .i64 0))]), (⟨1024000004, g⟩, .arr true 3 (([] : List hashindex_Entry).map r_hashindex_Entry)), (⟨1024000005, g⟩, .arr true 1 (([] : List Int).map r_i64))] (g + 1)) (ren_go (fun g S => [(⟨1024000003, g⟩, (keyT 0 (St.env S 6)))]) fun g S => [(⟨1024000001, g⟩, 1), (⟨1024000002, g⟩, 9), (⟨1024000004, g⟩, 3), (⟨1024000005, g⟩, 1)]) fun g => ?_
   refine swp_ret ?_
   with_reducible repeat first|apply nn|apply nb|apply nr|apply nc|apply ne|apply nq|apply nx rfl
   obtain rfl := some_eq h
   simp -implicitDefEqProofs +decide only [go_sem, Nat.reduceAdd, Int.reduceToNat]
   all_goals first | done | trivial | assumption | (simp [maps]; done) | (simp [maps, hb4]; done)
  ·refine cond_f (by simp -implicitDefEqProofs +decide only [go_sem, hb4]) ?_
   refine swp_skip ?_
   with_reducible repeat first|apply nn|apply nb|apply nr|apply nc|apply ne|apply nq|apply nx rfl
   refine seq_reg rfl (fun K hK => ?_)
   simp -implicitDefEqProofs +decide only [go_sem, Nat.reduceAdd, Int.reduceToNat, hb4]
   refine hK _ ?_
   refine cut1 (Joins (btree_Next_J1) (fun g x => match x with | (x17, x18, x19, x20, x21, x22, l23, l24, l25, l26, x27, b28, b29, b30, b31, b32, b33, x34, l35, l36, x37, x38, x39, x40, x41, b42) => stL [(6, (.c (.ptr ⟨1024000006, g⟩ 0 0))), (8, (.c (.ptr ⟨1024000007, g⟩ 0 0)))] [(⟨1024000006, g⟩, .box true [(.p (.int .i64 0)), (.p (.bool false)), (.p (.bool false)), (.p (.bool false)), (.p (.bool false)), (.p (.bool false)), (.p (.bool false)), (.p (.int .i64 0)), (.p (.int .i64 0)), .nilS, .nilS, (.p (.int .i64 0)), (.p (.int .i64 0)), (.p (.int .i64 0))]), (⟨1024000007, g⟩, .box true [(.p (.int .i64 x17)), (.p (.int .u32 x18)), (.p (.int .u32 x19)), (.p (.int .i64 x20.Line)), (.p (.int .i64 x20.Gen)), (.p (.int .i64 x21)), (.p (.int .i64 x22)), (.p (.rows (l23.map r_api_Page))), (.p (.rows (l24.map r_api_Page))), (.ref ⟨1024000008, g⟩ 0 l25.length), (.ref ⟨1024000009, g⟩ 0 l26.length), (.p (.int .i64 x27)), (.p (.bool b28)), (.p (.bool b29)), (.p (.bool b30)), (.p (.bool b31)), (.p (.bool b32)), (.p (.bool b33)), (.p (.int .i64 x34.Line)), (.p (.int .i64 x34.Gen)), (.ref ⟨1024000010, g⟩ 0 l35.length), (.ref ⟨1024000011, g⟩ 0 l36.length), (.p (.int .i64 x37)), (.p (.int .i64 x38)), (.p (.int .i64 x39)), (.p (.int .i64 x40.Line)), (.p (.int .u64 x40.Head)), (.p (.int .u64 x40.Data.a0)), (.p (.int .u64 x40.Data.a1)), (.p (.int .u64 x40.Data.a2)), (.p (.int .u64 x40.Data.a3)), (.p (.int .u64 x40.Data.a4)), (.p (.int .u64 x40.Data.a5)), (.p (.int .u64 x40.Data.a6)), (.p (.int .i64 x41.Line)), (.p (.int .i64 x41.Gen)), (.p (.bool b42))]), (⟨1024000008, g⟩, .arr true 1 (l25.map r_i64)), (⟨1024000009, g⟩, .arr true 9 (l26.map r_api_Page)), (⟨1024000010, g⟩, .arr true 3 (l35.map r_hashindex_Entry)), (⟨1024000011, g⟩, .arr true 1 (l36.map r_i64))] (g + 1)) res) ?_ (fun hj1 => ?_)
   ·refine join_of ?_
    rintro g ⟨x17, x18, x19, x20, x21, x22, l23, l24, l25, l26, x27, b28, b29, b30, b31, b32, b33, x34, l35, l36, x37, x38, x39, x40, x41, b42⟩ h
    rw [btree_Next_J1] at h
    try dsimp only
    refine swp_seq ?_
    refine seq_reg rfl (fun K hK => ?_)
    simp -implicitDefEqProofs +decide only [go_sem, Nat.reduceAdd, Int.reduceToNat, hb4]
    refine hK _ ?_
    refine bsplit h (fun hb44 h => ?_) (fun hb44 h => ?_)
    ·refine cond_t (by simp -implicitDefEqProofs +decide only [go_sem, hb4, hb44]) ?_
     refine seq_reg rfl (fun K hK => ?_)
     simp -implicitDefEqProofs +decide only [go_sem, Nat.reduceAdd, Int.reduceToNat, hb4, hb44]
     refine hK _ ?_
     refine swp_fresh (fun g => stL [(4, (.c (.ref ⟨1024000012, g⟩ 0 l25.length))), (5, (.c (.ref ⟨1024000013, g⟩ 0 ([] : List api_Page).length))), (6, (.c (.ptr ⟨1024000014, g⟩ 0 0))), (7, (.c (.p (.bool false))))] [(⟨1024000012, g⟩, .arr true 1 (l25.map r_i64)), (⟨1024000013, g⟩, .arr true 9 (([] : List api_Page).map r_api_Page)), (⟨1024000014, g⟩, .box true [(.p (.int .i64 0)), (.p (.bool false)), (.p (.bool false)), (.p (.bool false)), (.p (.bool false)), (.p (.bool false)), (.p (.bool false)), (.p (.int .i64 0)), (.p (.int .i64 0)), (.ref ⟨1024000015, g⟩ 0 ([] : List hashindex_Entry).length), (.ref ⟨1024000016, g⟩ 0 ([] : List Int).length), (.p (.int .i64 0)), (.p (.int .i64 0)), (.p (.int .i64 0))]), (⟨1024000015, g⟩, .arr true 3 (([] : List hashindex_Entry).map r_hashindex_Entry)), (⟨1024000016, g⟩, .arr true 1 (([] : List Int).map r_i64))] (g + 1)) (ren_go (fun g S => [(⟨1024000012, g⟩, (keyT 0 (St.env S 4))), (⟨1024000014, g⟩, (keyT 0 (St.env S 6)))]) fun g S => [(⟨1024000013, g⟩, 9), (⟨1024000015, g⟩, 3), (⟨1024000016, g⟩, 1)]) fun g => ?_
     refine swp_ret ?_
     with_reducible repeat first|apply nn|apply nb|apply nr|apply nc|apply ne|apply nq|apply nx rfl
     obtain rfl := some_eq h
     simp -implicitDefEqProofs +decide only [go_sem, Nat.reduceAdd, Int.reduceToNat]
     all_goals first | done | trivial | assumption | (simp [maps]; done) | (simp [maps, hb4, hb44]; done)
    ·refine cond_f (by simp -implicitDefEqProofs +decide only [go_sem, hb4, hb44]) ?_
     refine swp_skip ?_
     with_reducible repeat first|apply nn|apply nb|apply nr|apply nc|apply ne|apply nq|apply nx rfl
     refine cut1 (Joins (btree_Next_J2 l26 x27 b28 b29 b30 b33 x34 l35 l36 x38) (fun g x => match x with | (b46, b47, x48, x49) => stL [(6, (.c (.ptr ⟨1024000017, g⟩ 0 0))), (8, (.c (.ptr ⟨1024000018, g⟩ 0 0)))] [(⟨1024000017, g⟩, .box true [(.p (.int .i64 0)), (.p (.bool false)), (.p (.bool false)), (.p (.bool false)), (.p (.bool false)), (.p (.bool false)), (.p (.bool false)), (.p (.int .i64 0)), (.p (.int .i64 0)), .nilS, .nilS, (.p (.int .i64 0)), (.p (.int .i64 0)), (.p (.int .i64 0))]), (⟨1024000018, g⟩, .box true [(.p (.int .i64 x17)), (.p (.int .u32 x18)), (.p (.int .u32 x19)), (.p (.int .i64 x20.Line)), (.p (.int .i64 x20.Gen)), (.p (.int .i64 x21)), (.p (.int .i64 x22)), (.p (.rows (l23.map r_api_Page))), (.p (.rows (l24.map r_api_Page))), (.ref ⟨1024000019, g⟩ 0 l25.length), (.ref ⟨1024000020, g⟩ 0 l26.length), (.p (.int .i64 x27)), (.p (.bool b28)), (.p (.bool b29)), (.p (.bool b30)), (.p (.bool b46)), (.p (.bool b47)), (.p (.bool b33)), (.p (.int .i64 x34.Line)), (.p (.int .i64 x34.Gen)), (.ref ⟨1024000021, g⟩ 0 l35.length), (.ref ⟨1024000022, g⟩ 0 l36.length), (.p (.int .i64 x48)), (.p (.int .i64 x38)), (.p (.int .i64 x49)), (.p (.int .i64 x40.Line)), (.p (.int .u64 x40.Head)), (.p (.int .u64 x40.Data.a0)), (.p (.int .u64 x40.Data.a1)), (.p (.int .u64 x40.Data.a2)), (.p (.int .u64 x40.Data.a3)), (.p (.int .u64 x40.Data.a4)), (.p (.int .u64 x40.Data.a5)), (.p (.int .u64 x40.Data.a6)), (.p (.int .i64 x41.Line)), (.p (.int .i64 x41.Gen)), (.p (.bool b42))]), (⟨1024000019, g⟩, .arr true 1 (l25.map r_i64)), (⟨1024000020, g⟩, .arr true 9 (l26.map r_api_Page)), (⟨1024000021, g⟩, .arr true 3 (l35.map r_hashindex_Entry)), (⟨1024000022, g⟩, .arr true 1 (l36.map r_i64))] (g + 1)) res) ?_ (fun hj2 => ?_)
     ·refine join_of ?_
      rintro g ⟨b46, b47, x48, x49⟩ h
      rw [btree_Next_J2] at h
      try dsimp only
      refine seq_reg rfl (fun K hK => ?_)
      refine bind_of h (fun v50 hv50 h => ?_)
      refine psplit h (fun hp51 h => ?_)
      have qhp51 := hp51.symm
      simp -implicitDefEqProofs +decide only [go_sem, Nat.reduceAdd, Int.reduceToNat, hb4, hb44]
      refine call_go [2, 0] false (slices_SortFunc_ok (cG G) hG0 _ _ hv50) ?_
      simp -implicitDefEqProofs +decide only [go_sem, Nat.reduceAdd, Int.reduceToNat, hb4, hb44, qhp51]
      refine hK _ ?_
      refine seq_drw rfl (fun K hK => ?_)
      simp -implicitDefEqProofs +decide only [go_sem, Nat.reduceAdd, Int.reduceToNat, hb4, hb44, qhp51]
      refine draw_go (by kernel_rfl) ?_
      refine hK _ ?_
      refine swp_fresh (fun g => stL [(4, (.c (.ref ⟨1024000023, g⟩ 0 ([] : List Int).length))), (5, (.c (.ref ⟨1024000024, g⟩ 0 v50.length))), (6, (.c (.ptr ⟨1024000025, g⟩ 0 0))), (7, (.c (.p (.bool true))))] [(⟨1024000023, g⟩, .arr true 1 (([] : List Int).map r_i64)), (⟨1024000024, g⟩, .arr true 9 (v50.map r_api_Page)), (⟨1024000025, g⟩, .box true [(.p (.int .i64 x27)), (.p (.bool b28)), (.p (.bool b29)), (.p (.bool b30)), (.p (.bool b46)), (.p (.bool b47)), (.p (.bool b33)), (.p (.int .i64 x34.Line)), (.p (.int .i64 x34.Gen)), (.ref ⟨1024000026, g⟩ 0 l35.length), (.ref ⟨1024000027, g⟩ 0 l36.length), (.p (.int .i64 x48)), (.p (.int .i64 x38)), (.p (.int .i64 x49))]), (⟨1024000026, g⟩, .arr true 3 (l35.map r_hashindex_Entry)), (⟨1024000027, g⟩, .arr true 1 (l36.map r_i64))] (g + 1)) (ren_go (fun g S => [(⟨1024000024, g⟩, (keyT 0 (St.env S 5))), (⟨1024000025, g⟩, (keyT 0 (St.env S 6))), (⟨1024000026, g⟩, (keyB 9 (St.heap S (keyT 0 (St.env S 6))))), (⟨1024000027, g⟩, (keyB 10 (St.heap S (keyT 0 (St.env S 6)))))]) fun g S => [(⟨1024000023, g⟩, 1)]) fun g => ?_
      refine swp_ret ?_
      with_reducible repeat first|apply nn|apply nb|apply nr|apply nc|apply ne|apply nq|apply nx rfl
      obtain rfl := some_eq h
      simp -implicitDefEqProofs +decide only [go_sem, Nat.reduceAdd, Int.reduceToNat]
      all_goals first | done | trivial | assumption | (simp [maps]; done) | (simp [maps, hb4, hb44, qhp51]; done)
     refine swp_seq ?_
     refine seq_reg rfl (fun K hK => ?_)
     simp -implicitDefEqProofs +decide only [go_sem, Nat.reduceAdd, Int.reduceToNat, hb4, hb44]
     refine hK _ ?_
     refine bsplit h (fun hb52 h => ?_) (fun hb52 h => ?_)
     ·refine cond_t (by simp -implicitDefEqProofs +decide only [go_sem, hb4, hb44, hb52]) ?_
      refine swp_reg rfl (fun K hK => ?_)
      simp -implicitDefEqProofs +decide only [go_sem, Nat.reduceAdd, Int.reduceToNat, hb4, hb44, hb52]
      refine hK _ ?_
      with_reducible repeat first|apply nn|apply nb|apply nr|apply nc|apply ne|apply nq|apply nx rfl
      exact jump_of hj2 h (ren_go (fun g S => [(⟨1024000017, g⟩, (keyT 0 (St.env S 6))), (⟨1024000018, g⟩, (keyT 0 (St.env S 8))), (⟨1024000019, g⟩, (keyB 9 (St.heap S (keyT 0 (St.env S 8))))), (⟨1024000020, g⟩, (keyB 10 (St.heap S (keyT 0 (St.env S 8))))), (⟨1024000021, g⟩, (keyB 20 (St.heap S (keyT 0 (St.env S 8))))), (⟨1024000022, g⟩, (keyB 21 (St.heap S (keyT 0 (St.env S 8)))))]) fun g S => [])
     ·refine cond_f (by simp -implicitDefEqProofs +decide only [go_sem, hb4, hb44, hb52]) ?_
      refine swp_skip ?_
      with_reducible repeat first|apply nn|apply nb|apply nr|apply nc|apply ne|apply nq|apply nx rfl
      exact jump_of hj2 h (ren_go (fun g S => [(⟨1024000017, g⟩, (keyT 0 (St.env S 6))), (⟨1024000018, g⟩, (keyT 0 (St.env S 8))), (⟨1024000019, g⟩, (keyB 9 (St.heap S (keyT 0 (St.env S 8))))), (⟨1024000020, g⟩, (keyB 10 (St.heap S (keyT 0 (St.env S 8))))), (⟨1024000021, g⟩, (keyB 20 (St.heap S (keyT 0 (St.env S 8))))), (⟨1024000022, g⟩, (keyB 21 (St.heap S (keyT 0 (St.env S 8)))))]) fun g S => [])
   refine swp_seq ?_
   refine seq_reg rfl (fun K hK => ?_)
   refine bind_of h (fun v61 hv61 h => ?_)
   simp -implicitDefEqProofs +decide only [go_sem, Nat.reduceAdd, Int.reduceToNat, hb4]
   refine call_nil [0] true (btree_run_readRoot_ok (cG G) hG0 _ _ hv61) ?_
   simp -implicitDefEqProofs +decide only [go_sem, Nat.reduceAdd, Int.reduceToNat, hb4]
   refine hK _ ?_
   refine bsplit h (fun hb62 h => ?_) (fun hb62 h => ?_)
   ·refine cond_t (by simp -implicitDefEqProofs +decide only [go_sem, hb4, hb62]) ?_
    refine seq_reg rfl (fun K hK => ?_)
    simp -implicitDefEqProofs +decide only [go_sem, Nat.reduceAdd, Int.reduceToNat, hb4, hb62]
    refine hK _ ?_
    refine swp_block ?_
    refine seq_reg rfl (fun K hK => ?_)
    simp -implicitDefEqProofs +decide only [go_sem, Nat.reduceAdd, Int.reduceToNat, hb4, hb62]
    refine hK _ ?_
    refine bsplit h (fun hb63 h => ?_) (fun hb63 h => ?_)
    ·cases h
    ·refine cond_f (by simp -implicitDefEqProofs +decide only [go_sem, hb4, hb62, hb63]) ?_
     refine seq_reg rfl (fun K hK => ?_)
     simp -implicitDefEqProofs +decide only [go_sem, Nat.reduceAdd, Int.reduceToNat, hb4, hb62, hb63]
     refine hK _ ?_
     refine bsplit h (fun hb64 h => ?_) (fun hb64 h => ?_)
     ·refine cond_t (by simp -implicitDefEqProofs +decide only [go_sem, hb4, hb62, hb63, hb64]) ?_
      refine swp_reg rfl (fun K hK => ?_)
      refine bind_of h (fun v65 hv65 h => ?_)
      simp -implicitDefEqProofs +decide only [go_sem, Nat.reduceAdd, Int.reduceToNat, hb4, hb62, hb63, hb64]
      refine call_go [0] true (btree_run_insert_ok (cG G) hG0 _ _ hv65) ?_
      simp -implicitDefEqProofs +decide only [go_sem, Nat.reduceAdd, Int.reduceToNat, hb4, hb62, hb63, hb64]
      refine hK _ ?_
      with_reducible repeat first|apply nn|apply nb|apply nr|apply nc|apply ne|apply nq|apply nx rfl
      exact jump_of hj1 h (ren_go (fun g S => [(⟨1024000006, g⟩, (keyT 0 (St.env S 6))), (⟨1024000007, g⟩, (keyT 0 (St.env S 8))), (⟨1024000008, g⟩, (keyB 9 (St.heap S (keyT 0 (St.env S 8))))), (⟨1024000009, g⟩, (keyB 10 (St.heap S (keyT 0 (St.env S 8))))), (⟨1024000010, g⟩, (keyB 20 (St.heap S (keyT 0 (St.env S 8))))), (⟨1024000011, g⟩, (keyB 21 (St.heap S (keyT 0 (St.env S 8)))))]) fun g S => [])
     ·refine cond_f (by simp -implicitDefEqProofs +decide only [go_sem, hb4, hb62, hb63, hb64]) ?_
      refine seq_reg rfl (fun K hK => ?_)
      simp -implicitDefEqProofs +decide only [go_sem, Nat.reduceAdd, Int.reduceToNat, hb4, hb62, hb63, hb64]
      refine hK _ ?_
      refine bsplit h (fun hb92 h => ?_) (fun hb92 h => ?_)
      ·cases h
      ·refine cond_f (by simp -implicitDefEqProofs +decide only [go_sem, hb4, hb62, hb63, hb64, hb92]) ?_
       refine seq_reg rfl (fun K hK => ?_)
       simp -implicitDefEqProofs +decide only [go_sem, Nat.reduceAdd, Int.reduceToNat, hb4, hb62, hb63, hb64, hb92]
       refine hK _ ?_
       refine bsplit h (fun hb93 h => ?_) (fun hb93 h => ?_)
       ·cases h
       ·refine cond_f (by simp -implicitDefEqProofs +decide only [go_sem, hb4, hb62, hb63, hb64, hb92, hb93]) ?_
        refine seq_reg rfl (fun K hK => ?_)
        simp -implicitDefEqProofs +decide only [go_sem, Nat.reduceAdd, Int.reduceToNat, hb4, hb62, hb63, hb64, hb92, hb93]
        refine hK _ ?_
        refine bsplit h (fun hb94 h => ?_) (fun hb94 h => ?_)
        ·cases h
        ·refine cond_f (by simp -implicitDefEqProofs +decide only [go_sem, hb4, hb62, hb63, hb64, hb92, hb93, hb94]) ?_
         refine seq_reg rfl (fun K hK => ?_)
         simp -implicitDefEqProofs +decide only [go_sem, Nat.reduceAdd, Int.reduceToNat, hb4, hb62, hb63, hb64, hb92, hb93, hb94]
         refine hK _ ?_
         refine bsplit h (fun hb95 h => ?_) (fun hb95 h => ?_)
         ·refine cond_t (by simp -implicitDefEqProofs +decide only [go_sem, hb4, hb62, hb63, hb64, hb92, hb93, hb94, hb95]) ?_
          refine swp_reg rfl (fun K hK => ?_)
          refine bind_of h (fun v96 hv96 h => ?_)
          simp -implicitDefEqProofs +decide only [go_sem, Nat.reduceAdd, Int.reduceToNat, hb4, hb62, hb63, hb64, hb92, hb93, hb94, hb95]
          refine call_go [0] true (btree_run_raise_ok (cG G) hG0 _ _ hv96) ?_
          simp -implicitDefEqProofs +decide only [go_sem, Nat.reduceAdd, Int.reduceToNat, hb4, hb62, hb63, hb64, hb92, hb93, hb94, hb95]
          refine hK _ ?_
          with_reducible repeat first|apply nn|apply nb|apply nr|apply nc|apply ne|apply nq|apply nx rfl
          exact jump_of hj1 h (ren_go (fun g S => [(⟨1024000006, g⟩, (keyT 0 (St.env S 6))), (⟨1024000007, g⟩, (keyT 0 (St.env S 8))), (⟨1024000008, g⟩, (keyB 9 (St.heap S (keyT 0 (St.env S 8))))), (⟨1024000009, g⟩, (keyB 10 (St.heap S (keyT 0 (St.env S 8))))), (⟨1024000010, g⟩, (keyB 20 (St.heap S (keyT 0 (St.env S 8))))), (⟨1024000011, g⟩, (keyB 21 (St.heap S (keyT 0 (St.env S 8)))))]) fun g S => [])
         ·refine cond_f (by simp -implicitDefEqProofs +decide only [go_sem, hb4, hb62, hb63, hb64, hb92, hb93, hb94, hb95]) ?_
          refine seq_reg rfl (fun K hK => ?_)
          simp -implicitDefEqProofs +decide only [go_sem, Nat.reduceAdd, Int.reduceToNat, hb4, hb62, hb63, hb64, hb92, hb93, hb94, hb95]
          refine hK _ ?_
          refine bsplit h (fun hb123 h => ?_) (fun hb123 h => ?_)
          ·cases h
          ·refine cond_f (by simp -implicitDefEqProofs +decide only [go_sem, hb4, hb62, hb63, hb64, hb92, hb93, hb94, hb95, hb123]) ?_
           refine seq_reg rfl (fun K hK => ?_)
           simp -implicitDefEqProofs +decide only [go_sem, Nat.reduceAdd, Int.reduceToNat, hb4, hb62, hb63, hb64, hb92, hb93, hb94, hb95, hb123]
           refine hK _ ?_
           refine bsplit h (fun hb124 h => ?_) (fun hb124 h => ?_)
           ·cases h
           ·refine cond_f (by simp -implicitDefEqProofs +decide only [go_sem, hb4, hb62, hb63, hb64, hb92, hb93, hb94, hb95, hb123, hb124]) ?_
            refine swp_skip ?_
            with_reducible repeat first|apply nn|apply nb|apply nr|apply nc|apply ne|apply nq|apply nx rfl
            exact jump_of hj1 h (ren_go (fun g S => [(⟨1024000006, g⟩, (keyT 0 (St.env S 6))), (⟨1024000007, g⟩, (keyT 0 (St.env S 8))), (⟨1024000008, g⟩, (keyB 9 (St.heap S (keyT 0 (St.env S 8))))), (⟨1024000009, g⟩, (keyB 10 (St.heap S (keyT 0 (St.env S 8))))), (⟨1024000010, g⟩, (keyB 20 (St.heap S (keyT 0 (St.env S 8))))), (⟨1024000011, g⟩, (keyB 21 (St.heap S (keyT 0 (St.env S 8)))))]) fun g S => [])
   ·refine cond_f (by simp -implicitDefEqProofs +decide only [go_sem, hb4, hb62]) ?_
    refine swp_skip ?_
    with_reducible repeat first|apply nn|apply nb|apply nr|apply nc|apply ne|apply nq|apply nx rfl
    exact jump_of hj1 h (ren_go (fun g S => [(⟨1024000006, g⟩, (keyT 0 (St.env S 6))), (⟨1024000007, g⟩, (keyT 0 (St.env S 8))), (⟨1024000008, g⟩, (keyB 9 (St.heap S (keyT 0 (St.env S 8))))), (⟨1024000009, g⟩, (keyB 10 (St.heap S (keyT 0 (St.env S 8))))), (⟨1024000010, g⟩, (keyB 20 (St.heap S (keyT 0 (St.env S 8))))), (⟨1024000011, g⟩, (keyB 21 (St.heap S (keyT 0 (St.env S 8)))))]) fun g S => [])
end Go.Sh
end
section
namespace Go.Sh
open Go.Proofs
noncomputable def bodegalaw24_index_run_J3 (l69 : List api_Page) (x135 : Int) (l134 : List api_Page) (e138 : api_Page) : Unit → Option ((List api_Page × Int) ⊕ (btree_Out × Bool × bodegalaw24_index))
  | () =>
    (idx l69 x135).bind fun e146 =>
    (idx l134 (IntKind.i64.wrap (e138.Line - 96))).bind fun e147 =>
    (idx (l134.set (IntKind.i64.wrap (e138.Line - 96)).toNat e146) (IntKind.i64.wrap (e138.Line - 96))).bind fun e148 =>
    some (.inl (((l134.set (IntKind.i64.wrap (e138.Line - 96)).toNat e146).set (IntKind.i64.wrap (e138.Line - 96)).toNat (⟨e148.Line, (IntKind.u64.wrap (e148.Head + 256)), e148.Data⟩ : api_Page)), (IntKind.i64.wrap (x135 + 1))))
noncomputable def bodegalaw24_index_run_L1 (l69 : List api_Page) (x70 : Int) (b71 : Bool) (b72 : Bool) (b73 : Bool) (b74 : Bool) (b75 : Bool) (b76 : Bool) (x77 : pointer_Pointer) (l78 : List hashindex_Entry) (l79 : List Int) (x80 : Int) (x81 : Int) (x82 : Int) (x67 : Int) (a0 : bodegalaw24_index) : (List api_Page × Int) → Option ((List api_Page × Int) ⊕ (btree_Out × Bool × bodegalaw24_index))
  | (l134, x135) =>
    if (decide (x135 < (l69.length : Int))) = true then
      (idx l69 x135).bind fun e138 =>
      if (decide ((IntKind.i64.wrap (e138.Line - 96)) < 0)) = true then
        Option.map Sum.inr (
          some ((⟨x70, b71, b72, b73, b74, b75, b76, x77, l78, l79, x80, x81, x82⟩ : btree_Out), false, (⟨l134, x67, a0.Keys, a0.To, a0.Gone⟩ : bodegalaw24_index)))
      else
        if (decide ((IntKind.i64.wrap (e138.Line - 96)) ≥ (l134.length : Int))) = true then
          Option.map Sum.inr (
            some ((⟨x70, b71, b72, b73, b74, b75, b76, x77, l78, l79, x80, x81, x82⟩ : btree_Out), false, (⟨l134, x67, a0.Keys, a0.To, a0.Gone⟩ : bodegalaw24_index)))
        else
          (idx l134 (IntKind.i64.wrap (e138.Line - 96))).bind fun e153 =>
          if (e153.Head != e138.Head) = true then
            Option.map Sum.inr (
              some ((⟨x70, b71, b72, b73, b74, b75, b76, x77, l78, l79, x80, x81, x82⟩ : btree_Out), false, (⟨l134, x67, a0.Keys, a0.To, a0.Gone⟩ : bodegalaw24_index)))
          else
            if (decide (x135 > 0)) = true then
              (idx l69 (IntKind.i64.wrap (x135 - 1))).bind fun e156 =>
              if (decide (e156.Line ≥ e138.Line)) = true then
                Option.map Sum.inr (
                  some ((⟨x70, b71, b72, b73, b74, b75, b76, x77, l78, l79, x80, x81, x82⟩ : btree_Out), false, (⟨l134, x67, a0.Keys, a0.To, a0.Gone⟩ : bodegalaw24_index)))
              else
                bodegalaw24_index_run_J3 l69 x135 l134 e138 ()
            else
              bodegalaw24_index_run_J3 l69 x135 l134 e138 ()
    else
      Option.map Sum.inr (
        some ((⟨x70, b71, b72, b73, b74, b75, b76, x77, l78, l79, x80, x81, x82⟩ : btree_Out), true, (⟨l134, x67, a0.Keys, a0.To, a0.Gone⟩ : bodegalaw24_index)))
noncomputable def bodegalaw24_index_run_J2 (l69 : List api_Page) (x70 : Int) (b71 : Bool) (b72 : Bool) (b73 : Bool) (b74 : Bool) (b75 : Bool) (b76 : Bool) (x77 : pointer_Pointer) (l78 : List hashindex_Entry) (l79 : List Int) (x80 : Int) (x81 : Int) (x82 : Int) (x67 : Int) (a0 : bodegalaw24_index) : Unit → Option (btree_Out × Bool × bodegalaw24_index)
  | () =>
    iter (bodegalaw24_index_run_L1 l69 x70 b71 b72 b73 b74 b75 b76 x77 l78 l79 x80 x81 x82 x67 a0) (a0.Pages, 0)
noncomputable def bodegalaw24_index_run_J1 (a0 : bodegalaw24_index) : (Int × List Int × List api_Page × Int × Bool × Bool × Bool × Bool × Bool × Bool × pointer_Pointer × List hashindex_Entry × List Int × Int × Int × Int × Bool) → Option (btree_Out × Bool × bodegalaw24_index)
  | (x67, l68, l69, x70, b71, b72, b73, b74, b75, b76, x77, l78, l79, x80, x81, x82, b83) =>
    if (!b83) = true then
      some ((⟨x70, b71, b72, b73, b74, b75, b76, x77, l78, l79, x80, x81, x82⟩ : btree_Out), false, (⟨a0.Pages, x67, a0.Keys, a0.To, a0.Gone⟩ : bodegalaw24_index))
    else
      if (decide ((l68.length : Int) > 0)) = true then
        some ((⟨x70, b71, b72, b73, b74, b75, b76, x77, l78, l79, x80, x81, x82⟩ : btree_Out), false, (⟨a0.Pages, x67, a0.Keys, a0.To, a0.Gone⟩ : bodegalaw24_index))
      else
        if (x70 != 0) = true then
          if (decide ((l69.length : Int) > 0)) = true then
            some ((⟨x70, b71, b72, b73, b74, b75, b76, x77, l78, l79, x80, x81, x82⟩ : btree_Out), false, (⟨a0.Pages, x67, a0.Keys, a0.To, a0.Gone⟩ : bodegalaw24_index))
          else
            bodegalaw24_index_run_J2 l69 x70 b71 b72 b73 b74 b75 b76 x77 l78 l79 x80 x81 x82 x67 a0 ()
        else
          bodegalaw24_index_run_J2 l69 x70 b71 b72 b73 b74 b75 b76 x77 l78 l79 x80 x81 x82 x67 a0 ()
noncomputable def bodegalaw24_index_run_J4 (a1 : btree_Op) (a0 : bodegalaw24_index) : (Int × List api_Page) → Option (btree_Out × Bool × bodegalaw24_index)
  | (x196, l197) =>
    (btree_Next (⟨a1.Kind, a1.Key, a1.Last, a1.To, a1.Level, a1.Limit, l197⟩ : btree_Op) a0.Pages).bind fun v198 =>
    bodegalaw24_index_run_J1 a0 (x196, v198.1, v198.2.1, v198.2.2.1.Code, v198.2.2.1.Found, v198.2.2.1.Done, v198.2.2.1.Split, v198.2.2.1.Unposted, v198.2.2.1.Dead, v198.2.2.1.More, v198.2.2.1.To, v198.2.2.1.Entries, v198.2.2.1.Check, v198.2.2.1.Hops, v198.2.2.1.Fresh, v198.2.2.1.Height, v198.2.2.2)
noncomputable def bodegalaw24_index_run_L2 (v1 : ((List Int) × (List api_Page) × btree_Out × Bool)) (a0 : bodegalaw24_index) (a1 : btree_Op) : (Int × List api_Page × Int) → Option ((Int × List api_Page × Int) ⊕ (btree_Out × Bool × bodegalaw24_index))
  | (x237, l238, x239) =>
    if (decide (x239 < v1.2.2.1.Fresh)) = true then
      if (decide (x237 < 256)) = true then
        (idx a0.Pages (IntKind.i64.wrap (x237 - 96))).bind fun e248 =>
        if (l238.length + 1) * 72 ≤ maxRows ∧ l238.length + 1 ≤ maxRows then
          some (.inl ((IntKind.i64.wrap (x237 + 1)), (l238 ++ ([e248] : List api_Page)), (IntKind.i64.wrap (x239 + 1))))
        else none
      else
        Option.map Sum.inr (
          bodegalaw24_index_run_J4 a1 a0 (x237, l238))
    else
      Option.map Sum.inr (
        bodegalaw24_index_run_J4 a1 a0 (x237, l238))
noncomputable def bodegalaw24_index_run (a0 : bodegalaw24_index) (a1 : btree_Op) : Option (btree_Out × Bool × bodegalaw24_index) :=
  (btree_Next a1 a0.Pages).bind fun v1 =>
  if v1.2.2.2 = true then
    if (v1.2.2.1.Code == 18) = true then
      iter (bodegalaw24_index_run_L2 v1 a0 a1) (a0.Next, a1.Fresh, 0)
    else
      bodegalaw24_index_run_J1 a0 (a0.Next, v1.1, v1.2.1, v1.2.2.1.Code, v1.2.2.1.Found, v1.2.2.1.Done, v1.2.2.1.Split, v1.2.2.1.Unposted, v1.2.2.1.Dead, v1.2.2.1.More, v1.2.2.1.To, v1.2.2.1.Entries, v1.2.2.1.Check, v1.2.2.1.Hops, v1.2.2.1.Fresh, v1.2.2.1.Height, v1.2.2.2)
  else
    bodegalaw24_index_run_J1 a0 (a0.Next, v1.1, v1.2.1, v1.2.2.1.Code, v1.2.2.1.Found, v1.2.2.1.Done, v1.2.2.1.Split, v1.2.2.1.Unposted, v1.2.2.1.Dead, v1.2.2.1.More, v1.2.2.1.To, v1.2.2.1.Entries, v1.2.2.1.Check, v1.2.2.1.Hops, v1.2.2.1.Fresh, v1.2.2.1.Height, v1.2.2.2)
theorem bodegalaw24_index_run_ok (G : Glob) (hG0 : G.glob 0 = some [(.int .i64 0), (.int .i64 0)]) (a0 : bodegalaw24_index) (a1 : btree_Op) (res : (btree_Out × Bool × bodegalaw24_index)) (h : bodegalaw24_index_run a0 a1 = some res) : Spec Tryz.prog G 36 [.io (g_kpb5 a0), .agg (g_vplu a1)] (fun r ios => r = .tup [.agg (g_pyye res.1), .cell (.p (.bool res.2.1))] ∧ ios = [.io (g_kpb5 res.2.2)]) := by
  rw [bodegalaw24_index_run] at h
  refine spec_of Tryz.mixed Tryz.func36 rfl rfl (by simp only [List.length]; decide +kernel) ?_
  refine swp_fresh (fun g => stL [(0, (.c (.ptr ⟨0, 1⟩ 0 0))), (1, (.agg (b_mpop a1 ⟨1024000005, g⟩)))] [(⟨0, 1⟩, .box true (b_rlqi a0 ⟨1024000001, g⟩ ⟨1024000002, g⟩ ⟨1024000003, g⟩ ⟨1024000004, g⟩)), (⟨1024000001, g⟩, .arr true 9 (a0.Pages.map r_api_Page)), (⟨1024000002, g⟩, .arr true 1 (a0.Keys.map r_u32)), (⟨1024000003, g⟩, .arr true 2 (a0.To.map r_pointer_Pointer)), (⟨1024000004, g⟩, .arr true 2 (a0.Gone.map r_pointer_Pointer)), (⟨1024000005, g⟩, .arr true 9 (a1.Fresh.map r_api_Page))] (g + 1)) (ren_go (fun g S => [(⟨1024000001, g⟩, (keyB 0 (St.heap S ⟨0, 1⟩))), (⟨1024000002, g⟩, (keyB 2 (St.heap S ⟨0, 1⟩))), (⟨1024000003, g⟩, (keyB 3 (St.heap S ⟨0, 1⟩))), (⟨1024000004, g⟩, (keyB 4 (St.heap S ⟨0, 1⟩))), (⟨1024000005, g⟩, (keyT 7 (St.env S 1)))]) fun g S => []) fun g => ?_
  refine seq_reg rfl (fun K hK => ?_)
  simp -implicitDefEqProofs +decide only [go_sem, Nat.reduceAdd, Int.reduceToNat]
  refine hK _ ?_
  refine seq_drw rfl (fun K hK => ?_)
  refine bind_of h (fun v1 hv1 h => ?_)
  simp -implicitDefEqProofs +decide only [go_sem, Nat.reduceAdd, Int.reduceToNat]
  refine call_go [0, 0] false (btree_Next_ok (cG G) hG0 _ _ _ hv1) ?_
  simp -implicitDefEqProofs +decide only [go_sem, Nat.reduceAdd, Int.reduceToNat]
  refine draw_go (by kernel_rfl) ?_
  refine hK _ ?_
  refine cut1 (Joins (bodegalaw24_index_run_J1 a0) (fun g x => match x with | (x67, l68, l69, x70, b71, b72, b73, b74, b75, b76, x77, l78, l79, x80, x81, x82, b83) => stL [(0, (.c (.ptr ⟨0, 1⟩ 0 0))), (4, (.c (.ptr ⟨1024000010, g⟩ 0 0))), (6, (.c (.ref ⟨1024000011, g⟩ 0 l68.length))), (7, (.c (.ref ⟨1024000012, g⟩ 0 l69.length))), (8, (.c (.ptr ⟨1024000013, g⟩ 0 0))), (9, (.c (.p (.bool b83))))] [(⟨0, 1⟩, .box true [(.ref ⟨1024000006, g⟩ 0 a0.Pages.length), (.p (.int .i64 x67)), (.ref ⟨1024000007, g⟩ 0 a0.Keys.length), (.ref ⟨1024000008, g⟩ 0 a0.To.length), (.ref ⟨1024000009, g⟩ 0 a0.Gone.length)]), (⟨1024000006, g⟩, .arr true 9 (a0.Pages.map r_api_Page)), (⟨1024000007, g⟩, .arr true 1 (a0.Keys.map r_u32)), (⟨1024000008, g⟩, .arr true 2 (a0.To.map r_pointer_Pointer)), (⟨1024000009, g⟩, .arr true 2 (a0.Gone.map r_pointer_Pointer)), (⟨1024000010, g⟩, .box true [(.p (.int .i64 0)), (.p (.bool false)), (.p (.bool false)), (.p (.bool false)), (.p (.bool false)), (.p (.bool false)), (.p (.bool false)), (.p (.int .i64 0)), (.p (.int .i64 0)), .nilS, .nilS, (.p (.int .i64 0)), (.p (.int .i64 0)), (.p (.int .i64 0))]), (⟨1024000011, g⟩, .arr true 1 (l68.map r_i64)), (⟨1024000012, g⟩, .arr true 9 (l69.map r_api_Page)), (⟨1024000013, g⟩, .box true [(.p (.int .i64 x70)), (.p (.bool b71)), (.p (.bool b72)), (.p (.bool b73)), (.p (.bool b74)), (.p (.bool b75)), (.p (.bool b76)), (.p (.int .i64 x77.Line)), (.p (.int .i64 x77.Gen)), (.ref ⟨1024000014, g⟩ 0 l78.length), (.ref ⟨1024000015, g⟩ 0 l79.length), (.p (.int .i64 x80)), (.p (.int .i64 x81)), (.p (.int .i64 x82))]), (⟨1024000014, g⟩, .arr true 3 (l78.map r_hashindex_Entry)), (⟨1024000015, g⟩, .arr true 1 (l79.map r_i64))] (g + 1)) res) ?_ (fun hj1 => ?_)
  ·refine join_of ?_
   rintro g ⟨x67, l68, l69, x70, b71, b72, b73, b74, b75, b76, x77, l78, l79, x80, x81, x82, b83⟩ h
   rw [bodegalaw24_index_run_J1] at h
   try dsimp only
   refine cut1 (Joins (bodegalaw24_index_run_J2 l69 x70 b71 b72 b73 b74 b75 b76 x77 l78 l79 x80 x81 x82 x67 a0) (fun g _ => stL [(0, (.c (.ptr ⟨0, 1⟩ 0 0))), (4, (.c (.ptr ⟨1024000020, g⟩ 0 0))), (7, (.c (.ref ⟨1024000021, g⟩ 0 l69.length))), (8, (.c (.ptr ⟨1024000022, g⟩ 0 0)))] [(⟨0, 1⟩, .box true [(.ref ⟨1024000016, g⟩ 0 a0.Pages.length), (.p (.int .i64 x67)), (.ref ⟨1024000017, g⟩ 0 a0.Keys.length), (.ref ⟨1024000018, g⟩ 0 a0.To.length), (.ref ⟨1024000019, g⟩ 0 a0.Gone.length)]), (⟨1024000016, g⟩, .arr true 9 (a0.Pages.map r_api_Page)), (⟨1024000017, g⟩, .arr true 1 (a0.Keys.map r_u32)), (⟨1024000018, g⟩, .arr true 2 (a0.To.map r_pointer_Pointer)), (⟨1024000019, g⟩, .arr true 2 (a0.Gone.map r_pointer_Pointer)), (⟨1024000020, g⟩, .box true [(.p (.int .i64 0)), (.p (.bool false)), (.p (.bool false)), (.p (.bool false)), (.p (.bool false)), (.p (.bool false)), (.p (.bool false)), (.p (.int .i64 0)), (.p (.int .i64 0)), .nilS, .nilS, (.p (.int .i64 0)), (.p (.int .i64 0)), (.p (.int .i64 0))]), (⟨1024000021, g⟩, .arr true 9 (l69.map r_api_Page)), (⟨1024000022, g⟩, .box true [(.p (.int .i64 x70)), (.p (.bool b71)), (.p (.bool b72)), (.p (.bool b73)), (.p (.bool b74)), (.p (.bool b75)), (.p (.bool b76)), (.p (.int .i64 x77.Line)), (.p (.int .i64 x77.Gen)), (.ref ⟨1024000023, g⟩ 0 l78.length), (.ref ⟨1024000024, g⟩ 0 l79.length), (.p (.int .i64 x80)), (.p (.int .i64 x81)), (.p (.int .i64 x82))]), (⟨1024000023, g⟩, .arr true 3 (l78.map r_hashindex_Entry)), (⟨1024000024, g⟩, .arr true 1 (l79.map r_i64))] (g + 1)) res) ?_ (fun hj2 => ?_)
   ·refine join_of ?_
    rintro g ⟨⟩ h
    rw [bodegalaw24_index_run_J2] at h
    try dsimp only
    refine swp_seq ?_
    refine seq_reg rfl (fun K hK => ?_)
    simp -implicitDefEqProofs +decide only [go_sem, Nat.reduceAdd, Int.reduceToNat]
    refine hK _ ?_
    refine swp_block ?_
    refine swp_iter (fun g x => match x with | (l134, x135) => stL [(0, (.c (.ptr ⟨0, 1⟩ 0 0))), (4, (.c (.ptr ⟨1024000029, g⟩ 0 0))), (7, (.c (.ref ⟨1024000030, g⟩ 0 l69.length))), (8, (.c (.ptr ⟨1024000031, g⟩ 0 0))), (11, (.c (.p (.int .i64 x135))))] [(⟨0, 1⟩, .box true [(.ref ⟨1024000025, g⟩ 0 l134.length), (.p (.int .i64 x67)), (.ref ⟨1024000026, g⟩ 0 a0.Keys.length), (.ref ⟨1024000027, g⟩ 0 a0.To.length), (.ref ⟨1024000028, g⟩ 0 a0.Gone.length)]), (⟨1024000025, g⟩, .arr true 9 (l134.map r_api_Page)), (⟨1024000026, g⟩, .arr true 1 (a0.Keys.map r_u32)), (⟨1024000027, g⟩, .arr true 2 (a0.To.map r_pointer_Pointer)), (⟨1024000028, g⟩, .arr true 2 (a0.Gone.map r_pointer_Pointer)), (⟨1024000029, g⟩, .box true [(.p (.int .i64 0)), (.p (.bool false)), (.p (.bool false)), (.p (.bool false)), (.p (.bool false)), (.p (.bool false)), (.p (.bool false)), (.p (.int .i64 0)), (.p (.int .i64 0)), .nilS, .nilS, (.p (.int .i64 0)), (.p (.int .i64 0)), (.p (.int .i64 0))]), (⟨1024000030, g⟩, .arr true 9 (l69.map r_api_Page)), (⟨1024000031, g⟩, .box true [(.p (.int .i64 x70)), (.p (.bool b71)), (.p (.bool b72)), (.p (.bool b73)), (.p (.bool b74)), (.p (.bool b75)), (.p (.bool b76)), (.p (.int .i64 x77.Line)), (.p (.int .i64 x77.Gen)), (.ref ⟨1024000032, g⟩ 0 l78.length), (.ref ⟨1024000033, g⟩ 0 l79.length), (.p (.int .i64 x80)), (.p (.int .i64 x81)), (.p (.int .i64 x82))]), (⟨1024000032, g⟩, .arr true 3 (l78.map r_hashindex_Entry)), (⟨1024000033, g⟩, .arr true 1 (l79.map r_i64))] (g + 1)) h (enter_of (ren_go (fun g S => [(⟨1024000025, g⟩, (keyB 0 (St.heap S ⟨0, 1⟩))), (⟨1024000026, g⟩, (keyB 2 (St.heap S ⟨0, 1⟩))), (⟨1024000027, g⟩, (keyB 3 (St.heap S ⟨0, 1⟩))), (⟨1024000028, g⟩, (keyB 4 (St.heap S ⟨0, 1⟩))), (⟨1024000029, g⟩, (keyT 0 (St.env S 4))), (⟨1024000030, g⟩, (keyT 0 (St.env S 7))), (⟨1024000031, g⟩, (keyT 0 (St.env S 8))), (⟨1024000032, g⟩, (keyB 9 (St.heap S (keyT 0 (St.env S 8))))), (⟨1024000033, g⟩, (keyB 10 (St.heap S (keyT 0 (St.env S 8)))))]) fun g S => [])) ?_
    rintro g ⟨l134, x135⟩ s1 h hd1
    rw [bodegalaw24_index_run_L1] at h
    try dsimp only
    refine swp_seq ?_
    refine seq_reg rfl (fun K hK => ?_)
    simp -implicitDefEqProofs +decide only [go_sem, Nat.reduceAdd, Int.reduceToNat]
    refine hK _ ?_
    refine bsplit h (fun hb137 h => ?_) (fun hb137 h => ?_)
    ·refine cond_t (by simp -implicitDefEqProofs +decide only [go_sem, hb137]) ?_
     refine swp_skip ?_
     with_reducible repeat first|apply nn|apply nb|apply nr|apply nc|apply ne|apply nq|apply nx rfl
     refine swp_seq ?_
     refine swp_block ?_
     refine seq_reg rfl (fun K hK => ?_)
     refine bind_of h (fun e138 he138 h => ?_)
     obtain ⟨he138_0, he138_1, he138_2⟩ := idx_some he138
     simp -implicitDefEqProofs +decide only [go_sem, Nat.reduceAdd, Int.reduceToNat, he138_0, he138_1, he138_2, hb137]
     refine hK _ ?_
     refine cut1 (Joins (bodegalaw24_index_run_J3 l69 x135 l134 e138) (fun g _ => stL [(0, (.c (.ptr ⟨0, 1⟩ 0 0))), (4, (.c (.ptr ⟨1024000038, g⟩ 0 0))), (7, (.c (.ref ⟨1024000039, g⟩ 0 l69.length))), (8, (.c (.ptr ⟨1024000040, g⟩ 0 0))), (11, (.c (.p (.int .i64 x135)))), (12, (.c (.p (.int .i64 (IntKind.i64.wrap (e138.Line - 96))))))] [(⟨0, 1⟩, .box true [(.ref ⟨1024000034, g⟩ 0 l134.length), (.p (.int .i64 x67)), (.ref ⟨1024000035, g⟩ 0 a0.Keys.length), (.ref ⟨1024000036, g⟩ 0 a0.To.length), (.ref ⟨1024000037, g⟩ 0 a0.Gone.length)]), (⟨1024000034, g⟩, .arr true 9 (l134.map r_api_Page)), (⟨1024000035, g⟩, .arr true 1 (a0.Keys.map r_u32)), (⟨1024000036, g⟩, .arr true 2 (a0.To.map r_pointer_Pointer)), (⟨1024000037, g⟩, .arr true 2 (a0.Gone.map r_pointer_Pointer)), (⟨1024000038, g⟩, .box true [(.p (.int .i64 0)), (.p (.bool false)), (.p (.bool false)), (.p (.bool false)), (.p (.bool false)), (.p (.bool false)), (.p (.bool false)), (.p (.int .i64 0)), (.p (.int .i64 0)), .nilS, .nilS, (.p (.int .i64 0)), (.p (.int .i64 0)), (.p (.int .i64 0))]), (⟨1024000039, g⟩, .arr true 9 (l69.map r_api_Page)), (⟨1024000040, g⟩, .box true [(.p (.int .i64 x70)), (.p (.bool b71)), (.p (.bool b72)), (.p (.bool b73)), (.p (.bool b74)), (.p (.bool b75)), (.p (.bool b76)), (.p (.int .i64 x77.Line)), (.p (.int .i64 x77.Gen)), (.ref ⟨1024000041, g⟩ 0 l78.length), (.ref ⟨1024000042, g⟩ 0 l79.length), (.p (.int .i64 x80)), (.p (.int .i64 x81)), (.p (.int .i64 x82))]), (⟨1024000041, g⟩, .arr true 3 (l78.map r_hashindex_Entry)), (⟨1024000042, g⟩, .arr true 1 (l79.map r_i64))] (g + 1)) s1) ?_ (fun hj3 => ?_)
     ·refine join_of ?_
      rintro g ⟨⟩ h
      rw [bodegalaw24_index_run_J3] at h
      try dsimp only
      refine seq_drw rfl (fun K hK => ?_)
      refine bind_of h (fun e146 he146 h => ?_)
      obtain ⟨he146_0, he146_1, he146_2⟩ := idx_some he146
      refine bind_of h (fun e147 he147 h => ?_)
      obtain ⟨he147_0, he147_1, he147_2⟩ := idx_some he147
      simp -implicitDefEqProofs +decide only [go_sem, Nat.reduceAdd, Int.reduceToNat, he146_0, he146_1, he146_2, he147_0, he147_1, he147_2, hb137]
      refine draw_go (by kernel_rfl) ?_
      refine hK _ ?_
      refine swp_fresh (fun g => stL [(0, (.c (.ptr ⟨0, 1⟩ 0 0))), (4, (.c (.ptr ⟨1024000047, g⟩ 0 0))), (7, (.c (.ref ⟨1024000048, g⟩ 0 l69.length))), (8, (.c (.ptr ⟨1024000049, g⟩ 0 0))), (11, (.c (.p (.int .i64 x135)))), (12, (.c (.p (.int .i64 (IntKind.i64.wrap (e138.Line - 96))))))] [(⟨0, 1⟩, .box true [(.ref ⟨1024000043, g⟩ 0 (l134.set (IntKind.i64.wrap (e138.Line - 96)).toNat e146).length), (.p (.int .i64 x67)), (.ref ⟨1024000044, g⟩ 0 a0.Keys.length), (.ref ⟨1024000045, g⟩ 0 a0.To.length), (.ref ⟨1024000046, g⟩ 0 a0.Gone.length)]), (⟨1024000043, g⟩, .arr true 9 ((l134.set (IntKind.i64.wrap (e138.Line - 96)).toNat e146).map r_api_Page)), (⟨1024000044, g⟩, .arr true 1 (a0.Keys.map r_u32)), (⟨1024000045, g⟩, .arr true 2 (a0.To.map r_pointer_Pointer)), (⟨1024000046, g⟩, .arr true 2 (a0.Gone.map r_pointer_Pointer)), (⟨1024000047, g⟩, .box true [(.p (.int .i64 0)), (.p (.bool false)), (.p (.bool false)), (.p (.bool false)), (.p (.bool false)), (.p (.bool false)), (.p (.bool false)), (.p (.int .i64 0)), (.p (.int .i64 0)), .nilS, .nilS, (.p (.int .i64 0)), (.p (.int .i64 0)), (.p (.int .i64 0))]), (⟨1024000048, g⟩, .arr true 9 (l69.map r_api_Page)), (⟨1024000049, g⟩, .box true [(.p (.int .i64 x70)), (.p (.bool b71)), (.p (.bool b72)), (.p (.bool b73)), (.p (.bool b74)), (.p (.bool b75)), (.p (.bool b76)), (.p (.int .i64 x77.Line)), (.p (.int .i64 x77.Gen)), (.ref ⟨1024000050, g⟩ 0 l78.length), (.ref ⟨1024000051, g⟩ 0 l79.length), (.p (.int .i64 x80)), (.p (.int .i64 x81)), (.p (.int .i64 x82))]), (⟨1024000050, g⟩, .arr true 3 (l78.map r_hashindex_Entry)), (⟨1024000051, g⟩, .arr true 1 (l79.map r_i64))] (g + 1)) (ren_go (fun g S => [(⟨1024000043, g⟩, (keyB 0 (St.heap S ⟨0, 1⟩))), (⟨1024000044, g⟩, (keyB 2 (St.heap S ⟨0, 1⟩))), (⟨1024000045, g⟩, (keyB 3 (St.heap S ⟨0, 1⟩))), (⟨1024000046, g⟩, (keyB 4 (St.heap S ⟨0, 1⟩))), (⟨1024000047, g⟩, (keyT 0 (St.env S 4))), (⟨1024000048, g⟩, (keyT 0 (St.env S 7))), (⟨1024000049, g⟩, (keyT 0 (St.env S 8))), (⟨1024000050, g⟩, (keyB 9 (St.heap S (keyT 0 (St.env S 8))))), (⟨1024000051, g⟩, (keyB 10 (St.heap S (keyT 0 (St.env S 8)))))]) fun g S => []) fun g => ?_
      refine swp_reg rfl (fun K hK => ?_)
      refine bind_of h (fun e148 he148 h => ?_)
      obtain ⟨he148_0, he148_1, he148_2⟩ := idx_some he148
      simp -implicitDefEqProofs +decide only [go_sem, Nat.reduceAdd, Int.reduceToNat, he148_0, he148_1, he148_2, hb137]
      refine hK _ ?_
      with_reducible repeat first|apply nn|apply nb|apply nr|apply nc|apply ne|apply nq|apply nx rfl
      refine swp_fresh (fun g => stL [(0, (.c (.ptr ⟨0, 1⟩ 0 0))), (4, (.c (.ptr ⟨1024000056, g⟩ 0 0))), (7, (.c (.ref ⟨1024000057, g⟩ 0 l69.length))), (8, (.c (.ptr ⟨1024000058, g⟩ 0 0))), (11, (.c (.p (.int .i64 x135))))] [(⟨0, 1⟩, .box true [(.ref ⟨1024000052, g⟩ 0 ((l134.set (IntKind.i64.wrap (e138.Line - 96)).toNat e146).set (IntKind.i64.wrap (e138.Line - 96)).toNat (⟨e148.Line, (IntKind.u64.wrap (e148.Head + 256)), e148.Data⟩ : api_Page)).length), (.p (.int .i64 x67)), (.ref ⟨1024000053, g⟩ 0 a0.Keys.length), (.ref ⟨1024000054, g⟩ 0 a0.To.length), (.ref ⟨1024000055, g⟩ 0 a0.Gone.length)]), (⟨1024000052, g⟩, .arr true 9 (((l134.set (IntKind.i64.wrap (e138.Line - 96)).toNat e146).set (IntKind.i64.wrap (e138.Line - 96)).toNat (⟨e148.Line, (IntKind.u64.wrap (e148.Head + 256)), e148.Data⟩ : api_Page)).map r_api_Page)), (⟨1024000053, g⟩, .arr true 1 (a0.Keys.map r_u32)), (⟨1024000054, g⟩, .arr true 2 (a0.To.map r_pointer_Pointer)), (⟨1024000055, g⟩, .arr true 2 (a0.Gone.map r_pointer_Pointer)), (⟨1024000056, g⟩, .box true [(.p (.int .i64 0)), (.p (.bool false)), (.p (.bool false)), (.p (.bool false)), (.p (.bool false)), (.p (.bool false)), (.p (.bool false)), (.p (.int .i64 0)), (.p (.int .i64 0)), .nilS, .nilS, (.p (.int .i64 0)), (.p (.int .i64 0)), (.p (.int .i64 0))]), (⟨1024000057, g⟩, .arr true 9 (l69.map r_api_Page)), (⟨1024000058, g⟩, .box true [(.p (.int .i64 x70)), (.p (.bool b71)), (.p (.bool b72)), (.p (.bool b73)), (.p (.bool b74)), (.p (.bool b75)), (.p (.bool b76)), (.p (.int .i64 x77.Line)), (.p (.int .i64 x77.Gen)), (.ref ⟨1024000059, g⟩ 0 l78.length), (.ref ⟨1024000060, g⟩ 0 l79.length), (.p (.int .i64 x80)), (.p (.int .i64 x81)), (.p (.int .i64 x82))]), (⟨1024000059, g⟩, .arr true 3 (l78.map r_hashindex_Entry)), (⟨1024000060, g⟩, .arr true 1 (l79.map r_i64))] (g + 1)) (ren_go (fun g S => [(⟨1024000052, g⟩, (keyB 0 (St.heap S ⟨0, 1⟩))), (⟨1024000053, g⟩, (keyB 2 (St.heap S ⟨0, 1⟩))), (⟨1024000054, g⟩, (keyB 3 (St.heap S ⟨0, 1⟩))), (⟨1024000055, g⟩, (keyB 4 (St.heap S ⟨0, 1⟩))), (⟨1024000056, g⟩, (keyT 0 (St.env S 4))), (⟨1024000057, g⟩, (keyT 0 (St.env S 7))), (⟨1024000058, g⟩, (keyT 0 (St.env S 8))), (⟨1024000059, g⟩, (keyB 9 (St.heap S (keyT 0 (St.env S 8))))), (⟨1024000060, g⟩, (keyB 10 (St.heap S (keyT 0 (St.env S 8)))))]) fun g S => []) fun g => ?_
      refine swp_reg rfl (fun K hK => ?_)
      simp -implicitDefEqProofs +decide only [go_sem, Nat.reduceAdd, Int.reduceToNat, hb137]
      refine hK _ ?_
      with_reducible repeat first|apply nn|apply nb|apply nr|apply nc|apply ne|apply nq|apply nx rfl
      exact back_of h (ren_go (fun g S => [(⟨1024000025, g⟩, (keyB 0 (St.heap S ⟨0, 1⟩))), (⟨1024000026, g⟩, (keyB 2 (St.heap S ⟨0, 1⟩))), (⟨1024000027, g⟩, (keyB 3 (St.heap S ⟨0, 1⟩))), (⟨1024000028, g⟩, (keyB 4 (St.heap S ⟨0, 1⟩))), (⟨1024000029, g⟩, (keyT 0 (St.env S 4))), (⟨1024000030, g⟩, (keyT 0 (St.env S 7))), (⟨1024000031, g⟩, (keyT 0 (St.env S 8))), (⟨1024000032, g⟩, (keyB 9 (St.heap S (keyT 0 (St.env S 8))))), (⟨1024000033, g⟩, (keyB 10 (St.heap S (keyT 0 (St.env S 8)))))]) fun g S => [])
     refine swp_seq ?_
     refine seq_drw rfl (fun K hK => ?_)
     refine bsplit h (fun hb151 h => ?_) (fun hb151 h => ?_)
     ·simp -implicitDefEqProofs +decide only [go_sem, Nat.reduceAdd, Int.reduceToNat, hb137, hb151]
      refine draw_go (by kernel_rfl) ?_
      refine hK _ ?_
      refine cond_t (by simp -implicitDefEqProofs +decide only [go_sem, hb137, hb151]) ?_
      refine seq_reg rfl (fun K hK => ?_)
      simp -implicitDefEqProofs +decide only [go_sem, Nat.reduceAdd, Int.reduceToNat, hb137, hb151]
      refine hK _ ?_
      refine swp_ret ?_
      with_reducible repeat first|apply nn|apply nb|apply nr|apply nc|apply ne|apply nq|apply nx rfl
      obtain ⟨h, hs1⟩ := exit_of h hd1
      refine ⟨hs1, ?_⟩
      with_reducible repeat first|apply nn|apply nb|apply nr|apply nc|apply ne|apply nq|apply nx rfl
      obtain rfl := some_eq h
      simp -implicitDefEqProofs +decide only [go_sem, Nat.reduceAdd, Int.reduceToNat]
      all_goals first | done | trivial | assumption | (simp [maps]; done) | (simp [maps, hb137, hb151]; done)
     ·refine bsplit h (fun hb152 h => ?_) (fun hb152 h => ?_)
      ·simp -implicitDefEqProofs +decide only [go_sem, Nat.reduceAdd, Int.reduceToNat, hb137, hb151, hb152]
       refine draw_go (by kernel_rfl) ?_
       refine hK _ ?_
       refine cond_t (by simp -implicitDefEqProofs +decide only [go_sem, hb137, hb151, hb152]) ?_
       refine seq_reg rfl (fun K hK => ?_)
       simp -implicitDefEqProofs +decide only [go_sem, Nat.reduceAdd, Int.reduceToNat, hb137, hb151, hb152]
       refine hK _ ?_
       refine swp_ret ?_
       with_reducible repeat first|apply nn|apply nb|apply nr|apply nc|apply ne|apply nq|apply nx rfl
       obtain ⟨h, hs1⟩ := exit_of h hd1
       refine ⟨hs1, ?_⟩
       with_reducible repeat first|apply nn|apply nb|apply nr|apply nc|apply ne|apply nq|apply nx rfl
       obtain rfl := some_eq h
       simp -implicitDefEqProofs +decide only [go_sem, Nat.reduceAdd, Int.reduceToNat]
       all_goals first | done | trivial | assumption | (simp [maps]; done) | (simp [maps, hb137, hb151, hb152]; done)
      ·refine bind_of h (fun e153 he153 h => ?_)
       obtain ⟨he153_0, he153_1, he153_2⟩ := idx_some he153
       refine bsplit h (fun hb154 h => ?_) (fun hb154 h => ?_)
       ·simp -implicitDefEqProofs +decide only [go_sem, Nat.reduceAdd, Int.reduceToNat, he153_0, he153_1, he153_2, he138_0, he138_1, he138_2, hb137, hb151, hb152, hb154]
        refine draw_go (by kernel_rfl) ?_
        refine hK _ ?_
        refine cond_t (by simp -implicitDefEqProofs +decide only [go_sem, hb137, hb151, hb152, hb154]) ?_
        refine seq_reg rfl (fun K hK => ?_)
        simp -implicitDefEqProofs +decide only [go_sem, Nat.reduceAdd, Int.reduceToNat, hb137, hb151, hb152, hb154]
        refine hK _ ?_
        refine swp_ret ?_
        with_reducible repeat first|apply nn|apply nb|apply nr|apply nc|apply ne|apply nq|apply nx rfl
        obtain ⟨h, hs1⟩ := exit_of h hd1
        refine ⟨hs1, ?_⟩
        with_reducible repeat first|apply nn|apply nb|apply nr|apply nc|apply ne|apply nq|apply nx rfl
        obtain rfl := some_eq h
        simp -implicitDefEqProofs +decide only [go_sem, Nat.reduceAdd, Int.reduceToNat]
        all_goals first | done | trivial | assumption | (simp [maps]; done) | (simp [maps, hb137, hb151, hb152, hb154]; done)
       ·refine bsplit h (fun hb155 h => ?_) (fun hb155 h => ?_)
        ·refine bind_of h (fun e156 he156 h => ?_)
         obtain ⟨he156_0, he156_1, he156_2⟩ := idx_some he156
         simp -implicitDefEqProofs +decide only [go_sem, Nat.reduceAdd, Int.reduceToNat, he153_0, he153_1, he153_2, he138_0, he138_1, he138_2, he156_0, he156_1, he156_2, hb137, hb151, hb152, hb154, hb155]
         refine draw_go (by kernel_rfl) ?_
         refine hK _ ?_
         refine bsplit h (fun hb157 h => ?_) (fun hb157 h => ?_)
         ·refine cond_t (by simp -implicitDefEqProofs +decide only [go_sem, hb137, hb151, hb152, hb154, hb155, hb157]) ?_
          refine seq_reg rfl (fun K hK => ?_)
          simp -implicitDefEqProofs +decide only [go_sem, Nat.reduceAdd, Int.reduceToNat, hb137, hb151, hb152, hb154, hb155, hb157]
          refine hK _ ?_
          refine swp_ret ?_
          with_reducible repeat first|apply nn|apply nb|apply nr|apply nc|apply ne|apply nq|apply nx rfl
          obtain ⟨h, hs1⟩ := exit_of h hd1
          refine ⟨hs1, ?_⟩
          with_reducible repeat first|apply nn|apply nb|apply nr|apply nc|apply ne|apply nq|apply nx rfl
          obtain rfl := some_eq h
          simp -implicitDefEqProofs +decide only [go_sem, Nat.reduceAdd, Int.reduceToNat]
          all_goals first | done | trivial | assumption | (simp [maps]; done) | (simp [maps, hb137, hb151, hb152, hb154, hb155, hb157]; done)
         ·refine cond_f (by simp -implicitDefEqProofs +decide only [go_sem, hb137, hb151, hb152, hb154, hb155, hb157]) ?_
          refine swp_skip ?_
          with_reducible repeat first|apply nn|apply nb|apply nr|apply nc|apply ne|apply nq|apply nx rfl
          exact jump_of hj3 h (ren_go (fun g S => [(⟨1024000034, g⟩, (keyB 0 (St.heap S ⟨0, 1⟩))), (⟨1024000035, g⟩, (keyB 2 (St.heap S ⟨0, 1⟩))), (⟨1024000036, g⟩, (keyB 3 (St.heap S ⟨0, 1⟩))), (⟨1024000037, g⟩, (keyB 4 (St.heap S ⟨0, 1⟩))), (⟨1024000038, g⟩, (keyT 0 (St.env S 4))), (⟨1024000039, g⟩, (keyT 0 (St.env S 7))), (⟨1024000040, g⟩, (keyT 0 (St.env S 8))), (⟨1024000041, g⟩, (keyB 9 (St.heap S (keyT 0 (St.env S 8))))), (⟨1024000042, g⟩, (keyB 10 (St.heap S (keyT 0 (St.env S 8)))))]) fun g S => [])
        ·simp -implicitDefEqProofs +decide only [go_sem, Nat.reduceAdd, Int.reduceToNat, he153_0, he153_1, he153_2, he138_0, he138_1, he138_2, hb137, hb151, hb152, hb154, hb155]
         refine draw_go (by kernel_rfl) ?_
         refine hK _ ?_
         refine cond_f (by simp -implicitDefEqProofs +decide only [go_sem, hb137, hb151, hb152, hb154, hb155]) ?_
         refine swp_skip ?_
         with_reducible repeat first|apply nn|apply nb|apply nr|apply nc|apply ne|apply nq|apply nx rfl
         exact jump_of hj3 h (ren_go (fun g S => [(⟨1024000034, g⟩, (keyB 0 (St.heap S ⟨0, 1⟩))), (⟨1024000035, g⟩, (keyB 2 (St.heap S ⟨0, 1⟩))), (⟨1024000036, g⟩, (keyB 3 (St.heap S ⟨0, 1⟩))), (⟨1024000037, g⟩, (keyB 4 (St.heap S ⟨0, 1⟩))), (⟨1024000038, g⟩, (keyT 0 (St.env S 4))), (⟨1024000039, g⟩, (keyT 0 (St.env S 7))), (⟨1024000040, g⟩, (keyT 0 (St.env S 8))), (⟨1024000041, g⟩, (keyB 9 (St.heap S (keyT 0 (St.env S 8))))), (⟨1024000042, g⟩, (keyB 10 (St.heap S (keyT 0 (St.env S 8)))))]) fun g S => [])
    ·refine cond_f (by simp -implicitDefEqProofs +decide only [go_sem, hb137]) ?_
     refine swp_exit ?_
     with_reducible repeat first|apply nn|apply nb|apply nr|apply nc|apply ne|apply nq|apply nx rfl
     obtain ⟨h, hs1⟩ := exit_of h hd1
     with_reducible repeat first|apply nn|apply nb|apply nr|apply nc|apply ne|apply nq|apply nx rfl
     refine ⟨hs1, ?_⟩
     with_reducible repeat first|apply nn|apply nb|apply nr|apply nc|apply ne|apply nq|apply nx rfl
     refine seq_reg rfl (fun K hK => ?_)
     simp -implicitDefEqProofs +decide only [go_sem, Nat.reduceAdd, Int.reduceToNat, hb137]
     refine hK _ ?_
     refine swp_ret ?_
     with_reducible repeat first|apply nn|apply nb|apply nr|apply nc|apply ne|apply nq|apply nx rfl
     obtain rfl := some_eq h
     simp -implicitDefEqProofs +decide only [go_sem, Nat.reduceAdd, Int.reduceToNat]
     all_goals first | done | trivial | assumption | (simp [maps]; done) | (simp [maps, hb137]; done)
   refine swp_seq ?_
   refine seq_reg rfl (fun K hK => ?_)
   refine bsplit h (fun hb160 h => ?_) (fun hb160 h => ?_)
   ·simp -implicitDefEqProofs +decide only [go_sem, Nat.reduceAdd, Int.reduceToNat, hb160]
    refine hK _ ?_
    refine cond_t (by simp -implicitDefEqProofs +decide only [go_sem, hb160]) ?_
    refine seq_reg rfl (fun K hK => ?_)
    simp -implicitDefEqProofs +decide only [go_sem, Nat.reduceAdd, Int.reduceToNat, hb160]
    refine hK _ ?_
    refine swp_ret ?_
    with_reducible repeat first|apply nn|apply nb|apply nr|apply nc|apply ne|apply nq|apply nx rfl
    obtain rfl := some_eq h
    simp -implicitDefEqProofs +decide only [go_sem, Nat.reduceAdd, Int.reduceToNat]
    all_goals first | done | trivial | assumption | (simp [maps]; done) | (simp [maps, hb160]; done)
   ·refine bsplit h (fun hb161 h => ?_) (fun hb161 h => ?_)
    ·simp -implicitDefEqProofs +decide only [go_sem, Nat.reduceAdd, Int.reduceToNat, hb160, hb161]
     refine hK _ ?_
     refine cond_t (by simp -implicitDefEqProofs +decide only [go_sem, hb160, hb161]) ?_
     refine seq_reg rfl (fun K hK => ?_)
     simp -implicitDefEqProofs +decide only [go_sem, Nat.reduceAdd, Int.reduceToNat, hb160, hb161]
     refine hK _ ?_
     refine swp_ret ?_
     with_reducible repeat first|apply nn|apply nb|apply nr|apply nc|apply ne|apply nq|apply nx rfl
     obtain rfl := some_eq h
     simp -implicitDefEqProofs +decide only [go_sem, Nat.reduceAdd, Int.reduceToNat]
     all_goals first | done | trivial | assumption | (simp [maps]; done) | (simp [maps, hb160, hb161]; done)
    ·refine bsplit h (fun hb162 h => ?_) (fun hb162 h => ?_)
     ·simp -implicitDefEqProofs +decide only [go_sem, Nat.reduceAdd, Int.reduceToNat, hb160, hb161, hb162]
      refine hK _ ?_
      refine bsplit h (fun hb163 h => ?_) (fun hb163 h => ?_)
      ·refine cond_t (by simp -implicitDefEqProofs +decide only [go_sem, hb160, hb161, hb162, hb163]) ?_
       refine seq_reg rfl (fun K hK => ?_)
       simp -implicitDefEqProofs +decide only [go_sem, Nat.reduceAdd, Int.reduceToNat, hb160, hb161, hb162, hb163]
       refine hK _ ?_
       refine swp_ret ?_
       with_reducible repeat first|apply nn|apply nb|apply nr|apply nc|apply ne|apply nq|apply nx rfl
       obtain rfl := some_eq h
       simp -implicitDefEqProofs +decide only [go_sem, Nat.reduceAdd, Int.reduceToNat]
       all_goals first | done | trivial | assumption | (simp [maps]; done) | (simp [maps, hb160, hb161, hb162, hb163]; done)
      ·refine cond_f (by simp -implicitDefEqProofs +decide only [go_sem, hb160, hb161, hb162, hb163]) ?_
       refine swp_skip ?_
       with_reducible repeat first|apply nn|apply nb|apply nr|apply nc|apply ne|apply nq|apply nx rfl
       exact jump_of hj2 h (ren_go (fun g S => [(⟨1024000016, g⟩, (keyB 0 (St.heap S ⟨0, 1⟩))), (⟨1024000017, g⟩, (keyB 2 (St.heap S ⟨0, 1⟩))), (⟨1024000018, g⟩, (keyB 3 (St.heap S ⟨0, 1⟩))), (⟨1024000019, g⟩, (keyB 4 (St.heap S ⟨0, 1⟩))), (⟨1024000020, g⟩, (keyT 0 (St.env S 4))), (⟨1024000021, g⟩, (keyT 0 (St.env S 7))), (⟨1024000022, g⟩, (keyT 0 (St.env S 8))), (⟨1024000023, g⟩, (keyB 9 (St.heap S (keyT 0 (St.env S 8))))), (⟨1024000024, g⟩, (keyB 10 (St.heap S (keyT 0 (St.env S 8)))))]) fun g S => [])
     ·simp -implicitDefEqProofs +decide only [go_sem, Nat.reduceAdd, Int.reduceToNat, hb160, hb161, hb162]
      refine hK _ ?_
      refine cond_f (by simp -implicitDefEqProofs +decide only [go_sem, hb160, hb161, hb162]) ?_
      refine swp_skip ?_
      with_reducible repeat first|apply nn|apply nb|apply nr|apply nc|apply ne|apply nq|apply nx rfl
      exact jump_of hj2 h (ren_go (fun g S => [(⟨1024000016, g⟩, (keyB 0 (St.heap S ⟨0, 1⟩))), (⟨1024000017, g⟩, (keyB 2 (St.heap S ⟨0, 1⟩))), (⟨1024000018, g⟩, (keyB 3 (St.heap S ⟨0, 1⟩))), (⟨1024000019, g⟩, (keyB 4 (St.heap S ⟨0, 1⟩))), (⟨1024000020, g⟩, (keyT 0 (St.env S 4))), (⟨1024000021, g⟩, (keyT 0 (St.env S 7))), (⟨1024000022, g⟩, (keyT 0 (St.env S 8))), (⟨1024000023, g⟩, (keyB 9 (St.heap S (keyT 0 (St.env S 8))))), (⟨1024000024, g⟩, (keyB 10 (St.heap S (keyT 0 (St.env S 8)))))]) fun g S => [])
  refine swp_seq ?_
  refine seq_reg rfl (fun K hK => ?_)
  refine bsplit h (fun hb164 h => ?_) (fun hb164 h => ?_)
  ·simp -implicitDefEqProofs +decide only [go_sem, Nat.reduceAdd, Int.reduceToNat, hb164]
   refine hK _ ?_
   refine bsplit h (fun hb165 h => ?_) (fun hb165 h => ?_)
   ·refine cond_t (by simp -implicitDefEqProofs +decide only [go_sem, hb164, hb165]) ?_
    refine cut1 (Joins (bodegalaw24_index_run_J4 a1 a0) (fun g x => match x with | (x196, l197) => stL [(0, (.c (.ptr ⟨0, 1⟩ 0 0))), (3, (.c (.ptr ⟨1024000065, g⟩ 0 0))), (4, (.c (.ptr ⟨1024000067, g⟩ 0 0))), (8, (.c (.ptr ⟨1024000068, g⟩ 0 0)))] [(⟨0, 1⟩, .box true [(.ref ⟨1024000061, g⟩ 0 a0.Pages.length), (.p (.int .i64 x196)), (.ref ⟨1024000062, g⟩ 0 a0.Keys.length), (.ref ⟨1024000063, g⟩ 0 a0.To.length), (.ref ⟨1024000064, g⟩ 0 a0.Gone.length)]), (⟨1024000061, g⟩, .arr true 9 (a0.Pages.map r_api_Page)), (⟨1024000062, g⟩, .arr true 1 (a0.Keys.map r_u32)), (⟨1024000063, g⟩, .arr true 2 (a0.To.map r_pointer_Pointer)), (⟨1024000064, g⟩, .arr true 2 (a0.Gone.map r_pointer_Pointer)), (⟨1024000065, g⟩, .box true [(.p (.int .i64 a1.Kind)), (.p (.int .u32 a1.Key)), (.p (.int .u32 a1.Last)), (.p (.int .i64 a1.To.Line)), (.p (.int .i64 a1.To.Gen)), (.p (.int .i64 a1.Level)), (.p (.int .i64 a1.Limit)), (.ref ⟨1024000066, g⟩ 0 l197.length)]), (⟨1024000066, g⟩, .arr true 9 (l197.map r_api_Page)), (⟨1024000067, g⟩, .box true [(.p (.int .i64 0)), (.p (.bool false)), (.p (.bool false)), (.p (.bool false)), (.p (.bool false)), (.p (.bool false)), (.p (.bool false)), (.p (.int .i64 0)), (.p (.int .i64 0)), .nilS, .nilS, (.p (.int .i64 0)), (.p (.int .i64 0)), (.p (.int .i64 0))]), (⟨1024000068, g⟩, .box true (b_uztp v1.2.2.1 ⟨1024000069, g⟩ ⟨1024000070, g⟩)), (⟨1024000069, g⟩, .arr true 3 (v1.2.2.1.Entries.map r_hashindex_Entry)), (⟨1024000070, g⟩, .arr true 1 (v1.2.2.1.Check.map r_i64))] (g + 1)) res) ?_ (fun hj4 => ?_)
    ·refine join_of ?_
     rintro g ⟨x196, l197⟩ h
     rw [bodegalaw24_index_run_J4] at h
     try dsimp only
     refine swp_drw rfl (fun K hK => ?_)
     refine bind_of h (fun v198 hv198 h => ?_)
     simp -implicitDefEqProofs +decide only [go_sem, Nat.reduceAdd, Int.reduceToNat, hb164, hb165]
     refine call_go [0, 0] false (btree_Next_ok (cG G) hG0 _ _ _ hv198) ?_
     simp -implicitDefEqProofs +decide only [go_sem, Nat.reduceAdd, Int.reduceToNat, hb164, hb165]
     refine draw_go (by kernel_rfl) ?_
     refine hK _ ?_
     with_reducible repeat first|apply nn|apply nb|apply nr|apply nc|apply ne|apply nq|apply nx rfl
     exact jump_of hj1 h (ren_go (fun g S => [(⟨1024000006, g⟩, (keyB 0 (St.heap S ⟨0, 1⟩))), (⟨1024000007, g⟩, (keyB 2 (St.heap S ⟨0, 1⟩))), (⟨1024000008, g⟩, (keyB 3 (St.heap S ⟨0, 1⟩))), (⟨1024000009, g⟩, (keyB 4 (St.heap S ⟨0, 1⟩))), (⟨1024000010, g⟩, (keyT 0 (St.env S 4))), (⟨1024000011, g⟩, (keyT 0 (St.env S 6))), (⟨1024000012, g⟩, (keyT 0 (St.env S 7))), (⟨1024000013, g⟩, (keyT 0 (St.env S 8))), (⟨1024000014, g⟩, (keyB 9 (St.heap S (keyT 0 (St.env S 8))))), (⟨1024000015, g⟩, (keyB 10 (St.heap S (keyT 0 (St.env S 8)))))]) fun g S => [])
    refine swp_seq ?_
    refine seq_reg rfl (fun K hK => ?_)
    simp -implicitDefEqProofs +decide only [go_sem, Nat.reduceAdd, Int.reduceToNat, hb164, hb165]
    refine hK _ ?_
    refine swp_block ?_
    refine swp_iter (fun g x => match x with | (x237, l238, x239) => stL [(0, (.c (.ptr ⟨0, 1⟩ 0 0))), (3, (.c (.ptr ⟨1024000075, g⟩ 0 0))), (4, (.c (.ptr ⟨1024000077, g⟩ 0 0))), (8, (.c (.ptr ⟨1024000078, g⟩ 0 0))), (10, (.c (.p (.int .i64 x239))))] [(⟨0, 1⟩, .box true [(.ref ⟨1024000071, g⟩ 0 a0.Pages.length), (.p (.int .i64 x237)), (.ref ⟨1024000072, g⟩ 0 a0.Keys.length), (.ref ⟨1024000073, g⟩ 0 a0.To.length), (.ref ⟨1024000074, g⟩ 0 a0.Gone.length)]), (⟨1024000071, g⟩, .arr true 9 (a0.Pages.map r_api_Page)), (⟨1024000072, g⟩, .arr true 1 (a0.Keys.map r_u32)), (⟨1024000073, g⟩, .arr true 2 (a0.To.map r_pointer_Pointer)), (⟨1024000074, g⟩, .arr true 2 (a0.Gone.map r_pointer_Pointer)), (⟨1024000075, g⟩, .box true [(.p (.int .i64 a1.Kind)), (.p (.int .u32 a1.Key)), (.p (.int .u32 a1.Last)), (.p (.int .i64 a1.To.Line)), (.p (.int .i64 a1.To.Gen)), (.p (.int .i64 a1.Level)), (.p (.int .i64 a1.Limit)), (.ref ⟨1024000076, g⟩ 0 l238.length)]), (⟨1024000076, g⟩, .arr true 9 (l238.map r_api_Page)), (⟨1024000077, g⟩, .box true [(.p (.int .i64 0)), (.p (.bool false)), (.p (.bool false)), (.p (.bool false)), (.p (.bool false)), (.p (.bool false)), (.p (.bool false)), (.p (.int .i64 0)), (.p (.int .i64 0)), .nilS, .nilS, (.p (.int .i64 0)), (.p (.int .i64 0)), (.p (.int .i64 0))]), (⟨1024000078, g⟩, .box true (b_uztp v1.2.2.1 ⟨1024000079, g⟩ ⟨1024000080, g⟩)), (⟨1024000079, g⟩, .arr true 3 (v1.2.2.1.Entries.map r_hashindex_Entry)), (⟨1024000080, g⟩, .arr true 1 (v1.2.2.1.Check.map r_i64))] (g + 1)) h (enter_of (ren_go (fun g S => [(⟨1024000071, g⟩, (keyB 0 (St.heap S ⟨0, 1⟩))), (⟨1024000072, g⟩, (keyB 2 (St.heap S ⟨0, 1⟩))), (⟨1024000073, g⟩, (keyB 3 (St.heap S ⟨0, 1⟩))), (⟨1024000074, g⟩, (keyB 4 (St.heap S ⟨0, 1⟩))), (⟨1024000075, g⟩, (keyT 0 (St.env S 3))), (⟨1024000076, g⟩, (keyB 7 (St.heap S (keyT 0 (St.env S 3))))), (⟨1024000077, g⟩, (keyT 0 (St.env S 4))), (⟨1024000078, g⟩, (keyT 0 (St.env S 8))), (⟨1024000079, g⟩, (keyB 9 (St.heap S (keyT 0 (St.env S 8))))), (⟨1024000080, g⟩, (keyB 10 (St.heap S (keyT 0 (St.env S 8)))))]) fun g S => [])) ?_
    rintro g ⟨x237, l238, x239⟩ s2 h hd2
    rw [bodegalaw24_index_run_L2] at h
    try dsimp only
    refine swp_seq ?_
    refine seq_reg rfl (fun K hK => ?_)
    refine bsplit h (fun hb246 h => ?_) (fun hb246 h => ?_)
    ·simp -implicitDefEqProofs +decide only [go_sem, Nat.reduceAdd, Int.reduceToNat, hb246]
     refine hK _ ?_
     refine bsplit h (fun hb247 h => ?_) (fun hb247 h => ?_)
     ·refine cond_t (by simp -implicitDefEqProofs +decide only [go_sem, hb246, hb247]) ?_
      refine swp_skip ?_
      with_reducible repeat first|apply nn|apply nb|apply nr|apply nc|apply ne|apply nq|apply nx rfl
      refine swp_seq ?_
      refine swp_block ?_
      refine seq_drw rfl (fun K hK => ?_)
      refine bind_of h (fun e248 he248 h => ?_)
      obtain ⟨he248_0, he248_1, he248_2⟩ := idx_some he248
      refine psplit h (fun hp249 h => ?_)
      simp -implicitDefEqProofs +decide only [go_sem, Nat.reduceAdd, Int.reduceToNat, he248_0, he248_1, he248_2, hp249, hb246, hb247]
      refine draw_go (by kernel_rfl) ?_
      refine hK _ ?_
      refine swp_fresh (fun g => stL [(0, (.c (.ptr ⟨0, 1⟩ 0 0))), (3, (.c (.ptr ⟨1024000085, g⟩ 0 0))), (4, (.c (.ptr ⟨1024000087, g⟩ 0 0))), (8, (.c (.ptr ⟨1024000088, g⟩ 0 0))), (10, (.c (.p (.int .i64 x239))))] [(⟨0, 1⟩, .box true [(.ref ⟨1024000081, g⟩ 0 a0.Pages.length), (.p (.int .i64 x237)), (.ref ⟨1024000082, g⟩ 0 a0.Keys.length), (.ref ⟨1024000083, g⟩ 0 a0.To.length), (.ref ⟨1024000084, g⟩ 0 a0.Gone.length)]), (⟨1024000081, g⟩, .arr true 9 (a0.Pages.map r_api_Page)), (⟨1024000082, g⟩, .arr true 1 (a0.Keys.map r_u32)), (⟨1024000083, g⟩, .arr true 2 (a0.To.map r_pointer_Pointer)), (⟨1024000084, g⟩, .arr true 2 (a0.Gone.map r_pointer_Pointer)), (⟨1024000085, g⟩, .box true [(.p (.int .i64 a1.Kind)), (.p (.int .u32 a1.Key)), (.p (.int .u32 a1.Last)), (.p (.int .i64 a1.To.Line)), (.p (.int .i64 a1.To.Gen)), (.p (.int .i64 a1.Level)), (.p (.int .i64 a1.Limit)), (.ref ⟨1024000086, g⟩ 0 (l238 ++ ([e248] : List api_Page)).length)]), (⟨1024000086, g⟩, .arr true 9 ((l238 ++ ([e248] : List api_Page)).map r_api_Page)), (⟨1024000087, g⟩, .box true [(.p (.int .i64 0)), (.p (.bool false)), (.p (.bool false)), (.p (.bool false)), (.p (.bool false)), (.p (.bool false)), (.p (.bool false)), (.p (.int .i64 0)), (.p (.int .i64 0)), .nilS, .nilS, (.p (.int .i64 0)), (.p (.int .i64 0)), (.p (.int .i64 0))]), (⟨1024000088, g⟩, .box true (b_uztp v1.2.2.1 ⟨1024000089, g⟩ ⟨1024000090, g⟩)), (⟨1024000089, g⟩, .arr true 3 (v1.2.2.1.Entries.map r_hashindex_Entry)), (⟨1024000090, g⟩, .arr true 1 (v1.2.2.1.Check.map r_i64))] (g + 1)) (ren_go (fun g S => [(⟨1024000081, g⟩, (keyB 0 (St.heap S ⟨0, 1⟩))), (⟨1024000082, g⟩, (keyB 2 (St.heap S ⟨0, 1⟩))), (⟨1024000083, g⟩, (keyB 3 (St.heap S ⟨0, 1⟩))), (⟨1024000084, g⟩, (keyB 4 (St.heap S ⟨0, 1⟩))), (⟨1024000085, g⟩, (keyT 0 (St.env S 3))), (⟨1024000086, g⟩, (keyB 7 (St.heap S (keyT 0 (St.env S 3))))), (⟨1024000087, g⟩, (keyT 0 (St.env S 4))), (⟨1024000088, g⟩, (keyT 0 (St.env S 8))), (⟨1024000089, g⟩, (keyB 9 (St.heap S (keyT 0 (St.env S 8))))), (⟨1024000090, g⟩, (keyB 10 (St.heap S (keyT 0 (St.env S 8)))))]) fun g S => []) fun g => ?_
      refine swp_reg rfl (fun K hK => ?_)
      simp -implicitDefEqProofs +decide only [go_sem, Nat.reduceAdd, Int.reduceToNat, hb246, hb247]
      refine hK _ ?_
      with_reducible repeat first|apply nn|apply nb|apply nr|apply nc|apply ne|apply nq|apply nx rfl
      refine swp_reg rfl (fun K hK => ?_)
      simp -implicitDefEqProofs +decide only [go_sem, Nat.reduceAdd, Int.reduceToNat, hb246, hb247]
      refine hK _ ?_
      with_reducible repeat first|apply nn|apply nb|apply nr|apply nc|apply ne|apply nq|apply nx rfl
      exact back_of h (ren_go (fun g S => [(⟨1024000071, g⟩, (keyB 0 (St.heap S ⟨0, 1⟩))), (⟨1024000072, g⟩, (keyB 2 (St.heap S ⟨0, 1⟩))), (⟨1024000073, g⟩, (keyB 3 (St.heap S ⟨0, 1⟩))), (⟨1024000074, g⟩, (keyB 4 (St.heap S ⟨0, 1⟩))), (⟨1024000075, g⟩, (keyT 0 (St.env S 3))), (⟨1024000076, g⟩, (keyB 7 (St.heap S (keyT 0 (St.env S 3))))), (⟨1024000077, g⟩, (keyT 0 (St.env S 4))), (⟨1024000078, g⟩, (keyT 0 (St.env S 8))), (⟨1024000079, g⟩, (keyB 9 (St.heap S (keyT 0 (St.env S 8))))), (⟨1024000080, g⟩, (keyB 10 (St.heap S (keyT 0 (St.env S 8)))))]) fun g S => [])
     ·refine cond_f (by simp -implicitDefEqProofs +decide only [go_sem, hb246, hb247]) ?_
      refine swp_exit ?_
      with_reducible repeat first|apply nn|apply nb|apply nr|apply nc|apply ne|apply nq|apply nx rfl
      obtain ⟨h, hs2⟩ := exit_of h hd2
      with_reducible repeat first|apply nn|apply nb|apply nr|apply nc|apply ne|apply nq|apply nx rfl
      refine ⟨hs2, ?_⟩
      with_reducible repeat first|apply nn|apply nb|apply nr|apply nc|apply ne|apply nq|apply nx rfl
      exact jump_of hj4 h (ren_go (fun g S => [(⟨1024000061, g⟩, (keyB 0 (St.heap S ⟨0, 1⟩))), (⟨1024000062, g⟩, (keyB 2 (St.heap S ⟨0, 1⟩))), (⟨1024000063, g⟩, (keyB 3 (St.heap S ⟨0, 1⟩))), (⟨1024000064, g⟩, (keyB 4 (St.heap S ⟨0, 1⟩))), (⟨1024000065, g⟩, (keyT 0 (St.env S 3))), (⟨1024000066, g⟩, (keyB 7 (St.heap S (keyT 0 (St.env S 3))))), (⟨1024000067, g⟩, (keyT 0 (St.env S 4))), (⟨1024000068, g⟩, (keyT 0 (St.env S 8))), (⟨1024000069, g⟩, (keyB 9 (St.heap S (keyT 0 (St.env S 8))))), (⟨1024000070, g⟩, (keyB 10 (St.heap S (keyT 0 (St.env S 8)))))]) fun g S => [])
    ·simp -implicitDefEqProofs +decide only [go_sem, Nat.reduceAdd, Int.reduceToNat, hb246]
     refine hK _ ?_
     refine cond_f (by simp -implicitDefEqProofs +decide only [go_sem, hb246]) ?_
     refine swp_exit ?_
     with_reducible repeat first|apply nn|apply nb|apply nr|apply nc|apply ne|apply nq|apply nx rfl
     obtain ⟨h, hs2⟩ := exit_of h hd2
     with_reducible repeat first|apply nn|apply nb|apply nr|apply nc|apply ne|apply nq|apply nx rfl
     refine ⟨hs2, ?_⟩
     with_reducible repeat first|apply nn|apply nb|apply nr|apply nc|apply ne|apply nq|apply nx rfl
     exact jump_of hj4 h (ren_go (fun g S => [(⟨1024000061, g⟩, (keyB 0 (St.heap S ⟨0, 1⟩))), (⟨1024000062, g⟩, (keyB 2 (St.heap S ⟨0, 1⟩))), (⟨1024000063, g⟩, (keyB 3 (St.heap S ⟨0, 1⟩))), (⟨1024000064, g⟩, (keyB 4 (St.heap S ⟨0, 1⟩))), (⟨1024000065, g⟩, (keyT 0 (St.env S 3))), (⟨1024000066, g⟩, (keyB 7 (St.heap S (keyT 0 (St.env S 3))))), (⟨1024000067, g⟩, (keyT 0 (St.env S 4))), (⟨1024000068, g⟩, (keyT 0 (St.env S 8))), (⟨1024000069, g⟩, (keyB 9 (St.heap S (keyT 0 (St.env S 8))))), (⟨1024000070, g⟩, (keyB 10 (St.heap S (keyT 0 (St.env S 8)))))]) fun g S => [])
   ·refine cond_f (by simp -implicitDefEqProofs +decide only [go_sem, hb164, hb165]) ?_
    refine swp_skip ?_
    with_reducible repeat first|apply nn|apply nb|apply nr|apply nc|apply ne|apply nq|apply nx rfl
    exact jump_of hj1 h (ren_go (fun g S => [(⟨1024000006, g⟩, (keyB 0 (St.heap S ⟨0, 1⟩))), (⟨1024000007, g⟩, (keyB 2 (St.heap S ⟨0, 1⟩))), (⟨1024000008, g⟩, (keyB 3 (St.heap S ⟨0, 1⟩))), (⟨1024000009, g⟩, (keyB 4 (St.heap S ⟨0, 1⟩))), (⟨1024000010, g⟩, (keyT 0 (St.env S 4))), (⟨1024000011, g⟩, (keyT 0 (St.env S 6))), (⟨1024000012, g⟩, (keyT 0 (St.env S 7))), (⟨1024000013, g⟩, (keyT 0 (St.env S 8))), (⟨1024000014, g⟩, (keyB 9 (St.heap S (keyT 0 (St.env S 8))))), (⟨1024000015, g⟩, (keyB 10 (St.heap S (keyT 0 (St.env S 8)))))]) fun g S => [])
  ·simp -implicitDefEqProofs +decide only [go_sem, Nat.reduceAdd, Int.reduceToNat, hb164]
   refine hK _ ?_
   refine cond_f (by simp -implicitDefEqProofs +decide only [go_sem, hb164]) ?_
   refine swp_skip ?_
   with_reducible repeat first|apply nn|apply nb|apply nr|apply nc|apply ne|apply nq|apply nx rfl
   exact jump_of hj1 h (ren_go (fun g S => [(⟨1024000006, g⟩, (keyB 0 (St.heap S ⟨0, 1⟩))), (⟨1024000007, g⟩, (keyB 2 (St.heap S ⟨0, 1⟩))), (⟨1024000008, g⟩, (keyB 3 (St.heap S ⟨0, 1⟩))), (⟨1024000009, g⟩, (keyB 4 (St.heap S ⟨0, 1⟩))), (⟨1024000010, g⟩, (keyT 0 (St.env S 4))), (⟨1024000011, g⟩, (keyT 0 (St.env S 6))), (⟨1024000012, g⟩, (keyT 0 (St.env S 7))), (⟨1024000013, g⟩, (keyT 0 (St.env S 8))), (⟨1024000014, g⟩, (keyB 9 (St.heap S (keyT 0 (St.env S 8))))), (⟨1024000015, g⟩, (keyB 10 (St.heap S (keyT 0 (St.env S 8)))))]) fun g S => [])
end Go.Sh
end
section
namespace Go.Sh
open Go.Proofs
noncomputable def bodegalaw24_index_insert (a0 : bodegalaw24_index) (a1 : Int) (a2 : pointer_Pointer) : Option (Bool × bodegalaw24_index) :=
  (bodegalaw24_index_place a0 a1).bind fun v1 =>
  (bodegalaw24_index_run v1.2.2 (⟨2, a1, 0, a2, 0, 0, []⟩ : btree_Op)).bind fun v2 =>
  if (!v2.2.1) = true then
    some ((v2.2.1 && ((v2.1.Code == 17) && ((v2.1.Check.length : Int) == 1))), v2.2.2)
  else
    if v1.2.1 = true then
      some ((v2.2.1 && ((v2.1.Code == 17) && ((v2.1.Check.length : Int) == 1))), v2.2.2)
    else
      if 0 ≤ 0 ∧ 0 ≤ v1.1 ∧ v1.1 ≤ (v2.2.2.Keys.length : Int) then
        if (([] : List Int).length + ((v2.2.2.Keys.drop 0).take v1.1.toNat).length) * 4 ≤ maxRows ∧ ([] : List Int).length + ((v2.2.2.Keys.drop 0).take v1.1.toNat).length ≤ maxRows then
          if (((v2.2.2.Keys.drop 0).take v1.1.toNat).length + 1) * 4 ≤ maxRows ∧ ((v2.2.2.Keys.drop 0).take v1.1.toNat).length + 1 ≤ maxRows then
            if 0 ≤ v1.1 ∧ v1.1 ≤ (v2.2.2.Keys.length : Int) then
              if ((((v2.2.2.Keys.drop 0).take v1.1.toNat) ++ ([a1] : List Int)).length + ((v2.2.2.Keys.drop v1.1.toNat).take ((v2.2.2.Keys.length : Int) - v1.1).toNat).length) * 4 ≤ maxRows ∧ (((v2.2.2.Keys.drop 0).take v1.1.toNat) ++ ([a1] : List Int)).length + ((v2.2.2.Keys.drop v1.1.toNat).take ((v2.2.2.Keys.length : Int) - v1.1).toNat).length ≤ maxRows then
                if 0 ≤ 0 ∧ 0 ≤ v1.1 ∧ v1.1 ≤ (v2.2.2.To.length : Int) then
                  if (([] : List pointer_Pointer).length + ((v2.2.2.To.drop 0).take v1.1.toNat).length) * 16 ≤ maxRows ∧ ([] : List pointer_Pointer).length + ((v2.2.2.To.drop 0).take v1.1.toNat).length ≤ maxRows then
                    if (((v2.2.2.To.drop 0).take v1.1.toNat).length + 1) * 16 ≤ maxRows ∧ ((v2.2.2.To.drop 0).take v1.1.toNat).length + 1 ≤ maxRows then
                      if 0 ≤ v1.1 ∧ v1.1 ≤ (v2.2.2.To.length : Int) then
                        if ((((v2.2.2.To.drop 0).take v1.1.toNat) ++ ([a2] : List pointer_Pointer)).length + ((v2.2.2.To.drop v1.1.toNat).take ((v2.2.2.To.length : Int) - v1.1).toNat).length) * 16 ≤ maxRows ∧ (((v2.2.2.To.drop 0).take v1.1.toNat) ++ ([a2] : List pointer_Pointer)).length + ((v2.2.2.To.drop v1.1.toNat).take ((v2.2.2.To.length : Int) - v1.1).toNat).length ≤ maxRows then
                          some (((v2.1.Code == 0) && v2.1.Done), (⟨v2.2.2.Pages, v2.2.2.Next, ((((v2.2.2.Keys.drop 0).take v1.1.toNat) ++ ([a1] : List Int)) ++ ((v2.2.2.Keys.drop v1.1.toNat).take ((v2.2.2.Keys.length : Int) - v1.1).toNat)), ((((v2.2.2.To.drop 0).take v1.1.toNat) ++ ([a2] : List pointer_Pointer)) ++ ((v2.2.2.To.drop v1.1.toNat).take ((v2.2.2.To.length : Int) - v1.1).toNat)), v2.2.2.Gone⟩ : bodegalaw24_index))
                        else none
                      else none
                    else none
                  else none
                else none
              else none
            else none
          else none
        else none
      else none
theorem bodegalaw24_index_insert_ok (G : Glob) (hG0 : G.glob 0 = some [(.int .i64 0), (.int .i64 0)]) (a0 : bodegalaw24_index) (a1 : Int) (a2 : pointer_Pointer) (res : (Bool × bodegalaw24_index)) (h : bodegalaw24_index_insert a0 a1 a2 = some res) : Spec Tryz.prog G 46 [.io (g_kpb5 a0), .cell (.p (.int .u32 a1)), .agg [.p (.int .i64 a2.Line), .p (.int .i64 a2.Gen)]] (fun r ios => r = .cell (.p (.bool res.1)) ∧ ios = [.io (g_kpb5 res.2)]) := by
  rw [bodegalaw24_index_insert] at h
  refine spec_of Tryz.mixed Tryz.func46 rfl rfl (by simp only [List.length]; decide +kernel) ?_
  refine swp_fresh (fun g => stL [(0, (.c (.ptr ⟨0, 1⟩ 0 0))), (1, (.c (.p (.int .u32 a1)))), (2, (.agg [(.p (.int .i64 a2.Line)), (.p (.int .i64 a2.Gen))]))] [(⟨0, 1⟩, .box true (b_rlqi a0 ⟨1024000001, g⟩ ⟨1024000002, g⟩ ⟨1024000003, g⟩ ⟨1024000004, g⟩)), (⟨1024000001, g⟩, .arr true 9 (a0.Pages.map r_api_Page)), (⟨1024000002, g⟩, .arr true 1 (a0.Keys.map r_u32)), (⟨1024000003, g⟩, .arr true 2 (a0.To.map r_pointer_Pointer)), (⟨1024000004, g⟩, .arr true 2 (a0.Gone.map r_pointer_Pointer))] (g + 1)) (ren_go (fun g S => [(⟨1024000001, g⟩, (keyB 0 (St.heap S ⟨0, 1⟩))), (⟨1024000002, g⟩, (keyB 2 (St.heap S ⟨0, 1⟩))), (⟨1024000003, g⟩, (keyB 3 (St.heap S ⟨0, 1⟩))), (⟨1024000004, g⟩, (keyB 4 (St.heap S ⟨0, 1⟩)))]) fun g S => []) fun g => ?_
  refine seq_reg rfl (fun K hK => ?_)
  simp -implicitDefEqProofs +decide only [go_sem, Nat.reduceAdd, Int.reduceToNat]
  refine hK _ ?_
  refine seq_reg rfl (fun K hK => ?_)
  refine bind_of h (fun v1 hv1 h => ?_)
  simp -implicitDefEqProofs +decide only [go_sem, Nat.reduceAdd, Int.reduceToNat]
  refine call_go [0, 0] false (bodegalaw24_index_place_ok (cG G) hG0 _ _ _ hv1) ?_
  simp -implicitDefEqProofs +decide only [go_sem, Nat.reduceAdd, Int.reduceToNat]
  refine hK _ ?_
  refine seq_reg rfl (fun K hK => ?_)
  refine bind_of h (fun v2 hv2 h => ?_)
  simp -implicitDefEqProofs +decide only [go_sem, Nat.reduceAdd, Int.reduceToNat]
  refine call_nil [0, 1] false (bodegalaw24_index_run_ok (cG G) hG0 _ _ _ hv2) ?_
  simp -implicitDefEqProofs +decide only [go_sem, Nat.reduceAdd, Int.reduceToNat]
  refine hK _ ?_
  refine swp_seq ?_
  refine seq_reg rfl (fun K hK => ?_)
  refine bsplit h (fun hb9 h => ?_) (fun hb9 h => ?_)
  ·simp -implicitDefEqProofs +decide only [go_sem, Nat.reduceAdd, Int.reduceToNat, hb9]
   refine hK _ ?_
   refine cond_t (by simp -implicitDefEqProofs +decide only [go_sem, hb9]) ?_
   refine seq_reg rfl (fun K hK => ?_)
   rcases hb10 : v2.2.1 with _ | _
   ·replace h : some (false, v2.2.2) = some res := by first | exact h | (rw [and_f hb10] at h; exact h)
    simp -implicitDefEqProofs +decide only [go_sem, Nat.reduceAdd, Int.reduceToNat, hb9, hb10]
    refine hK _ ?_
    refine swp_ret ?_
    with_reducible repeat first|apply nn|apply nb|apply nr|apply nc|apply ne|apply nq|apply nx rfl
    obtain rfl := some_eq h
    simp -implicitDefEqProofs +decide only [go_sem, Nat.reduceAdd, Int.reduceToNat]
    all_goals first | done | trivial | assumption | (simp [maps]; done) | (simp [maps, hb9, hb10]; done)
   ·replace h : some (((v2.1.Code == 17) && ((v2.1.Check.length : Int) == 1)), v2.2.2) = some res := by first | exact h | (rw [and_t hb10] at h; exact h)
    rcases hb11 : (v2.1.Code == 17) with _ | _
    ·replace h : some (false, v2.2.2) = some res := by first | exact h | (rw [and_f hb11] at h; exact h)
     simp -implicitDefEqProofs +decide only [go_sem, Nat.reduceAdd, Int.reduceToNat, hb9, hb10, hb11]
     refine hK _ ?_
     refine swp_ret ?_
     with_reducible repeat first|apply nn|apply nb|apply nr|apply nc|apply ne|apply nq|apply nx rfl
     obtain rfl := some_eq h
     simp -implicitDefEqProofs +decide only [go_sem, Nat.reduceAdd, Int.reduceToNat]
     all_goals first | done | trivial | assumption | (simp [maps]; done) | (simp [maps, hb9, hb10, hb11]; done)
    ·replace h : some (((v2.1.Check.length : Int) == 1), v2.2.2) = some res := by first | exact h | (rw [and_t hb11] at h; exact h)
     simp -implicitDefEqProofs +decide only [go_sem, Nat.reduceAdd, Int.reduceToNat, hb9, hb10, hb11]
     refine hK _ ?_
     refine swp_ret ?_
     with_reducible repeat first|apply nn|apply nb|apply nr|apply nc|apply ne|apply nq|apply nx rfl
     obtain rfl := some_eq h
     simp -implicitDefEqProofs +decide only [go_sem, Nat.reduceAdd, Int.reduceToNat]
     all_goals first | done | trivial | assumption | (simp [maps]; done) | (simp [maps, hb9, hb10, hb11]; done)
  ·simp -implicitDefEqProofs +decide only [go_sem, Nat.reduceAdd, Int.reduceToNat, hb9]
   refine hK _ ?_
   refine bsplit h (fun hb12 h => ?_) (fun hb12 h => ?_)
   ·refine cond_t (by simp -implicitDefEqProofs +decide only [go_sem, hb9, hb12]) ?_
    refine seq_reg rfl (fun K hK => ?_)
    rcases hb13 : v2.2.1 with _ | _
    ·replace h : some (false, v2.2.2) = some res := by first | exact h | (rw [and_f hb13] at h; exact h)
     simp -implicitDefEqProofs +decide only [go_sem, Nat.reduceAdd, Int.reduceToNat, hb9, hb12, hb13]
     refine hK _ ?_
     refine swp_ret ?_
     with_reducible repeat first|apply nn|apply nb|apply nr|apply nc|apply ne|apply nq|apply nx rfl
     obtain rfl := some_eq h
     simp -implicitDefEqProofs +decide only [go_sem, Nat.reduceAdd, Int.reduceToNat]
     all_goals first | done | trivial | assumption | (simp [maps]; done) | (simp [maps, hb9, hb12, hb13]; done)
    ·replace h : some (((v2.1.Code == 17) && ((v2.1.Check.length : Int) == 1)), v2.2.2) = some res := by first | exact h | (rw [and_t hb13] at h; exact h)
     rcases hb14 : (v2.1.Code == 17) with _ | _
     ·replace h : some (false, v2.2.2) = some res := by first | exact h | (rw [and_f hb14] at h; exact h)
      simp -implicitDefEqProofs +decide only [go_sem, Nat.reduceAdd, Int.reduceToNat, hb9, hb12, hb13, hb14]
      refine hK _ ?_
      refine swp_ret ?_
      with_reducible repeat first|apply nn|apply nb|apply nr|apply nc|apply ne|apply nq|apply nx rfl
      obtain rfl := some_eq h
      simp -implicitDefEqProofs +decide only [go_sem, Nat.reduceAdd, Int.reduceToNat]
      all_goals first | done | trivial | assumption | (simp [maps]; done) | (simp [maps, hb9, hb12, hb13, hb14]; done)
     ·replace h : some (((v2.1.Check.length : Int) == 1), v2.2.2) = some res := by first | exact h | (rw [and_t hb14] at h; exact h)
      simp -implicitDefEqProofs +decide only [go_sem, Nat.reduceAdd, Int.reduceToNat, hb9, hb12, hb13, hb14]
      refine hK _ ?_
      refine swp_ret ?_
      with_reducible repeat first|apply nn|apply nb|apply nr|apply nc|apply ne|apply nq|apply nx rfl
      obtain rfl := some_eq h
      simp -implicitDefEqProofs +decide only [go_sem, Nat.reduceAdd, Int.reduceToNat]
      all_goals first | done | trivial | assumption | (simp [maps]; done) | (simp [maps, hb9, hb12, hb13, hb14]; done)
   ·refine cond_f (by simp -implicitDefEqProofs +decide only [go_sem, hb9, hb12]) ?_
    refine swp_skip ?_
    with_reducible repeat first|apply nn|apply nb|apply nr|apply nc|apply ne|apply nq|apply nx rfl
    refine seq_drw rfl (fun K hK => ?_)
    refine psplit h (fun hp15 h => ?_)
    have qhp15 : v1.1.toNat ≤ v2.2.2.Keys.length := by omega
    refine psplit h (fun hp16 h => ?_)
    simp -implicitDefEqProofs +decide only [go_sem, Nat.reduceAdd, Int.reduceToNat, hp15, hb9, hb12, qhp15]
    first | refine opt_eq (appendRef_n (by simp) (by simpa [maps] using hp16)) ?_ | refine opt_eq (if_pos (by simpa [maps] using hp16)) ?_
    refine psplit h (fun hp17 h => ?_)
    simp -implicitDefEqProofs +decide only [go_sem, Nat.reduceAdd, Int.reduceToNat, hb9, hb12, qhp15]
    first | refine opt_eq (appendRef_n (by simp) (by simpa [maps] using hp17)) ?_ | refine opt_eq (if_pos (by simpa [maps] using hp17)) ?_
    refine psplit h (fun hp18 h => ?_)
    have qhp18 : v1.1.toNat + ((v2.2.2.Keys.length : Int) - v1.1).toNat ≤ v2.2.2.Keys.length := by omega
    refine psplit h (fun hp19 h => ?_)
    simp -implicitDefEqProofs +decide only [go_sem, Nat.reduceAdd, Int.reduceToNat, hp18, hb9, hb12, qhp15, qhp18]
    first | refine opt_eq (appendRef_n (by simp) (by simpa [maps] using hp19)) ?_ | refine opt_eq (if_pos (by simpa [maps] using hp19)) ?_
    simp -implicitDefEqProofs +decide only [go_sem, Nat.reduceAdd, Int.reduceToNat, hb9, hb12, qhp15, qhp18]
    refine draw_go (by kernel_rfl) ?_
    refine hK _ ?_
    refine swp_fresh (fun g => stL [(0, (.c (.ptr ⟨0, 1⟩ 0 0))), (5, (.c (.ptr ⟨1024000009, g⟩ 0 0))), (7, (.c (.p (.int .i64 v1.1)))), (9, (.c (.ptr ⟨1024000010, g⟩ 0 0)))] [(⟨0, 1⟩, .box true [(.ref ⟨1024000005, g⟩ 0 v2.2.2.Pages.length), (.p (.int .i64 v2.2.2.Next)), (.ref ⟨1024000006, g⟩ 0 ((((v2.2.2.Keys.drop 0).take v1.1.toNat) ++ ([a1] : List Int)) ++ ((v2.2.2.Keys.drop v1.1.toNat).take ((v2.2.2.Keys.length : Int) - v1.1).toNat)).length), (.ref ⟨1024000007, g⟩ 0 v2.2.2.To.length), (.ref ⟨1024000008, g⟩ 0 v2.2.2.Gone.length)]), (⟨1024000005, g⟩, .arr true 9 (v2.2.2.Pages.map r_api_Page)), (⟨1024000006, g⟩, .arr true 1 (((((v2.2.2.Keys.drop 0).take v1.1.toNat) ++ ([a1] : List Int)) ++ ((v2.2.2.Keys.drop v1.1.toNat).take ((v2.2.2.Keys.length : Int) - v1.1).toNat)).map r_u32)), (⟨1024000007, g⟩, .arr true 2 (v2.2.2.To.map r_pointer_Pointer)), (⟨1024000008, g⟩, .arr true 2 (v2.2.2.Gone.map r_pointer_Pointer)), (⟨1024000009, g⟩, .box true [(.p (.int .i64 a2.Line)), (.p (.int .i64 a2.Gen))]), (⟨1024000010, g⟩, .box true (b_uztp v2.1 ⟨1024000011, g⟩ ⟨1024000012, g⟩)), (⟨1024000011, g⟩, .arr true 3 (v2.1.Entries.map r_hashindex_Entry)), (⟨1024000012, g⟩, .arr true 1 (v2.1.Check.map r_i64))] (g + 1)) (ren_go (fun g S => [(⟨1024000005, g⟩, (keyB 0 (St.heap S ⟨0, 1⟩))), (⟨1024000006, g⟩, (keyB 2 (St.heap S ⟨0, 1⟩))), (⟨1024000007, g⟩, (keyB 3 (St.heap S ⟨0, 1⟩))), (⟨1024000008, g⟩, (keyB 4 (St.heap S ⟨0, 1⟩))), (⟨1024000009, g⟩, (keyT 0 (St.env S 5))), (⟨1024000010, g⟩, (keyT 0 (St.env S 9))), (⟨1024000011, g⟩, (keyB 9 (St.heap S (keyT 0 (St.env S 9))))), (⟨1024000012, g⟩, (keyB 10 (St.heap S (keyT 0 (St.env S 9)))))]) fun g S => []) fun g => ?_
    refine seq_drw rfl (fun K hK => ?_)
    refine psplit h (fun hp20 h => ?_)
    have qhp20 : v1.1.toNat ≤ v2.2.2.To.length := by omega
    refine psplit h (fun hp21 h => ?_)
    simp -implicitDefEqProofs +decide only [go_sem, Nat.reduceAdd, Int.reduceToNat, hp20, hb9, hb12, qhp15, qhp18, qhp20]
    first | refine opt_eq (appendRef_n (by simp) (by simpa [maps] using hp21)) ?_ | refine opt_eq (if_pos (by simpa [maps] using hp21)) ?_
    refine psplit h (fun hp22 h => ?_)
    simp -implicitDefEqProofs +decide only [go_sem, Nat.reduceAdd, Int.reduceToNat, hb9, hb12, qhp15, qhp18, qhp20]
    first | refine opt_eq (appendRef_n (by simp) (by simpa [maps] using hp22)) ?_ | refine opt_eq (if_pos (by simpa [maps] using hp22)) ?_
    refine psplit h (fun hp23 h => ?_)
    have qhp23 : v1.1.toNat + ((v2.2.2.To.length : Int) - v1.1).toNat ≤ v2.2.2.To.length := by omega
    refine psplit h (fun hp24 h => ?_)
    simp -implicitDefEqProofs +decide only [go_sem, Nat.reduceAdd, Int.reduceToNat, hp23, hb9, hb12, qhp15, qhp18, qhp20, qhp23]
    first | refine opt_eq (appendRef_n (by simp) (by simpa [maps] using hp24)) ?_ | refine opt_eq (if_pos (by simpa [maps] using hp24)) ?_
    simp -implicitDefEqProofs +decide only [go_sem, Nat.reduceAdd, Int.reduceToNat, hb9, hb12, qhp15, qhp18, qhp20, qhp23]
    refine draw_go (by kernel_rfl) ?_
    refine hK _ ?_
    refine swp_fresh (fun g => stL [(9, (.c (.ptr ⟨1024000013, g⟩ 0 0)))] [(⟨1024000013, g⟩, .box true (b_uztp v2.1 ⟨1024000014, g⟩ ⟨1024000015, g⟩)), (⟨1024000014, g⟩, .arr true 3 (v2.1.Entries.map r_hashindex_Entry)), (⟨1024000015, g⟩, .arr true 1 (v2.1.Check.map r_i64)), (⟨0, 1⟩, .box true [(.ref ⟨1024000016, g⟩ 0 v2.2.2.Pages.length), (.p (.int .i64 v2.2.2.Next)), (.ref ⟨1024000017, g⟩ 0 ((((v2.2.2.Keys.drop 0).take v1.1.toNat) ++ ([a1] : List Int)) ++ ((v2.2.2.Keys.drop v1.1.toNat).take ((v2.2.2.Keys.length : Int) - v1.1).toNat)).length), (.ref ⟨1024000018, g⟩ 0 ((((v2.2.2.To.drop 0).take v1.1.toNat) ++ ([a2] : List pointer_Pointer)) ++ ((v2.2.2.To.drop v1.1.toNat).take ((v2.2.2.To.length : Int) - v1.1).toNat)).length), (.ref ⟨1024000019, g⟩ 0 v2.2.2.Gone.length)]), (⟨1024000016, g⟩, .arr true 9 (v2.2.2.Pages.map r_api_Page)), (⟨1024000017, g⟩, .arr true 1 (((((v2.2.2.Keys.drop 0).take v1.1.toNat) ++ ([a1] : List Int)) ++ ((v2.2.2.Keys.drop v1.1.toNat).take ((v2.2.2.Keys.length : Int) - v1.1).toNat)).map r_u32)), (⟨1024000018, g⟩, .arr true 2 (((((v2.2.2.To.drop 0).take v1.1.toNat) ++ ([a2] : List pointer_Pointer)) ++ ((v2.2.2.To.drop v1.1.toNat).take ((v2.2.2.To.length : Int) - v1.1).toNat)).map r_pointer_Pointer)), (⟨1024000019, g⟩, .arr true 2 (v2.2.2.Gone.map r_pointer_Pointer))] (g + 1)) (ren_go (fun g S => [(⟨1024000013, g⟩, (keyT 0 (St.env S 9))), (⟨1024000014, g⟩, (keyB 9 (St.heap S (keyT 0 (St.env S 9))))), (⟨1024000015, g⟩, (keyB 10 (St.heap S (keyT 0 (St.env S 9))))), (⟨1024000016, g⟩, (keyB 0 (St.heap S ⟨0, 1⟩))), (⟨1024000017, g⟩, (keyB 2 (St.heap S ⟨0, 1⟩))), (⟨1024000018, g⟩, (keyB 3 (St.heap S ⟨0, 1⟩))), (⟨1024000019, g⟩, (keyB 4 (St.heap S ⟨0, 1⟩)))]) fun g S => []) fun g => ?_
    refine seq_reg rfl (fun K hK => ?_)
    rcases hb25 : (v2.1.Code == 0) with _ | _
    ·replace h : some (false, (⟨v2.2.2.Pages, v2.2.2.Next, ((((v2.2.2.Keys.drop 0).take v1.1.toNat) ++ ([a1] : List Int)) ++ ((v2.2.2.Keys.drop v1.1.toNat).take ((v2.2.2.Keys.length : Int) - v1.1).toNat)), ((((v2.2.2.To.drop 0).take v1.1.toNat) ++ ([a2] : List pointer_Pointer)) ++ ((v2.2.2.To.drop v1.1.toNat).take ((v2.2.2.To.length : Int) - v1.1).toNat)), v2.2.2.Gone⟩ : bodegalaw24_index)) = some res := by first | exact h | (rw [and_f hb25] at h; exact h)
     simp -implicitDefEqProofs +decide only [go_sem, Nat.reduceAdd, Int.reduceToNat, hb9, hb12, qhp15, qhp18, qhp20, qhp23, hb25]
     refine hK _ ?_
     refine swp_ret ?_
     with_reducible repeat first|apply nn|apply nb|apply nr|apply nc|apply ne|apply nq|apply nx rfl
     obtain rfl := some_eq h
     simp -implicitDefEqProofs +decide only [go_sem, Nat.reduceAdd, Int.reduceToNat]
     all_goals first | done | trivial | assumption | (simp [maps]; done) | (simp [maps, hb9, hb12, qhp15, qhp18, qhp20, qhp23, hb25]; done)
    ·replace h : some (v2.1.Done, (⟨v2.2.2.Pages, v2.2.2.Next, ((((v2.2.2.Keys.drop 0).take v1.1.toNat) ++ ([a1] : List Int)) ++ ((v2.2.2.Keys.drop v1.1.toNat).take ((v2.2.2.Keys.length : Int) - v1.1).toNat)), ((((v2.2.2.To.drop 0).take v1.1.toNat) ++ ([a2] : List pointer_Pointer)) ++ ((v2.2.2.To.drop v1.1.toNat).take ((v2.2.2.To.length : Int) - v1.1).toNat)), v2.2.2.Gone⟩ : bodegalaw24_index)) = some res := by first | exact h | (rw [and_t hb25] at h; exact h)
     simp -implicitDefEqProofs +decide only [go_sem, Nat.reduceAdd, Int.reduceToNat, hb9, hb12, qhp15, qhp18, qhp20, qhp23, hb25]
     refine hK _ ?_
     refine swp_ret ?_
     with_reducible repeat first|apply nn|apply nb|apply nr|apply nc|apply ne|apply nq|apply nx rfl
     obtain rfl := some_eq h
     simp -implicitDefEqProofs +decide only [go_sem, Nat.reduceAdd, Int.reduceToNat]
     all_goals first | done | trivial | assumption | (simp [maps]; done) | (simp [maps, hb9, hb12, qhp15, qhp18, qhp20, qhp23, hb25]; done)
end Go.Sh
end
section
namespace Go.Sh
open Go.Proofs
noncomputable def bodegalaw24_awake_J1 : (List api_Page × Int × List Int × List pointer_Pointer × List pointer_Pointer) → Option Bool
  | (l38, x39, l40, l41, l42) =>
    (bodegalaw24_index_run (⟨l38, x39, l40, l41, l42⟩ : bodegalaw24_index) (⟨6, 0, 0, (⟨0, 0⟩ : pointer_Pointer), 0, 0, []⟩ : btree_Op)).bind fun v43 =>
    (idx v43.2.2.Pages 9).bind fun e44 =>
    (btree_ReadNode e44).bind fun v45 =>
    some (v43.2.1 && (v43.1.Done && ((v45.2 == 0) && ((v45.1.High == 3) && ((v45.1.Entries.length : Int) == 3)))))
noncomputable def bodegalaw24_awake_L1 : (List api_Page × Int × List Int × List pointer_Pointer × List pointer_Pointer × Int) → Option ((List api_Page × Int × List Int × List pointer_Pointer × List pointer_Pointer × Int) ⊕ Bool)
  | (l76, x77, l78, l79, l80, x81) =>
    if (decide (x81 ≤ 6)) = true then
      (bodegalaw24_index_insert (⟨l76, x77, l78, l79, l80⟩ : bodegalaw24_index) x81 (⟨200, (IntKind.i64.wrap x81)⟩ : pointer_Pointer)).bind fun v89 =>
      if (!v89.1) = true then
        Option.map Sum.inr (
          some false)
      else
        some (.inl (v89.2.Pages, v89.2.Next, v89.2.Keys, v89.2.To, v89.2.Gone, (IntKind.u32.wrap (x81 + 1))))
    else
      Option.map Sum.inr (
        bodegalaw24_awake_J1 (l76, x77, l78, l79, l80))
noncomputable def bodegalaw24_awake : Option Bool :=
  (bodegalaw24_begin).bind fun v1 =>
  iter (bodegalaw24_awake_L1) (v1.Pages, v1.Next, v1.Keys, v1.To, v1.Gone, 1)
theorem bodegalaw24_awake_ok (G : Glob) (hG0 : G.glob 0 = some [(.int .i64 0), (.int .i64 0)])  (res : Bool) (h : bodegalaw24_awake = some res) : Spec Tryz.prog G 21 [] (fun r ios => r = .cell (.p (.bool res)) ∧ ios = []) := by
  rw [bodegalaw24_awake] at h
  refine spec_of Tryz.mixed Tryz.func21 rfl rfl (by simp only [List.length]; decide +kernel) ?_
  refine swp_fresh (fun g => stL [] [] (g + 1)) (ren_go (fun g S => []) fun g S => []) fun g => ?_
  refine seq_reg rfl (fun K hK => ?_)
  simp -implicitDefEqProofs +decide only [go_sem, Nat.reduceAdd, Int.reduceToNat]
  refine hK _ ?_
  refine seq_reg rfl (fun K hK => ?_)
  refine bind_of h (fun v1 hv1 h => ?_)
  simp -implicitDefEqProofs +decide only [go_sem, Nat.reduceAdd, Int.reduceToNat]
  refine call_go [] false (bodegalaw24_begin_ok (cG G) hG0 _ hv1) ?_
  simp -implicitDefEqProofs +decide only [go_sem, Nat.reduceAdd, Int.reduceToNat]
  refine hK _ ?_
  refine cut1 (Joins (bodegalaw24_awake_J1) (fun g x => match x with | (l38, x39, l40, l41, l42) => stL [(1, (.c (.ptr ⟨1024000001, g⟩ 0 0)))] [(⟨1024000001, g⟩, .box true [(.ref ⟨1024000002, g⟩ 0 l38.length), (.p (.int .i64 x39)), (.ref ⟨1024000003, g⟩ 0 l40.length), (.ref ⟨1024000004, g⟩ 0 l41.length), (.ref ⟨1024000005, g⟩ 0 l42.length)]), (⟨1024000002, g⟩, .arr true 9 (l38.map r_api_Page)), (⟨1024000003, g⟩, .arr true 1 (l40.map r_u32)), (⟨1024000004, g⟩, .arr true 2 (l41.map r_pointer_Pointer)), (⟨1024000005, g⟩, .arr true 2 (l42.map r_pointer_Pointer))] (g + 1)) res) ?_ (fun hj1 => ?_)
  ·refine join_of ?_
   rintro g ⟨l38, x39, l40, l41, l42⟩ h
   rw [bodegalaw24_awake_J1] at h
   try dsimp only
   refine seq_reg rfl (fun K hK => ?_)
   refine bind_of h (fun v43 hv43 h => ?_)
   simp -implicitDefEqProofs +decide only [go_sem, Nat.reduceAdd, Int.reduceToNat]
   refine call_nil [0, 1] false (bodegalaw24_index_run_ok (cG G) hG0 _ _ _ hv43) ?_
   simp -implicitDefEqProofs +decide only [go_sem, Nat.reduceAdd, Int.reduceToNat]
   refine hK _ ?_
   refine seq_reg rfl (fun K hK => ?_)
   refine bind_of h (fun e44 he44 h => ?_)
   obtain ⟨he44_0, he44_1, he44_2⟩ := idx_some he44
   replace he44_2 : (v43.2.2.Pages)[9]? = some e44 := he44_2
   refine bind_of h (fun v45 hv45 h => ?_)
   simp -implicitDefEqProofs +decide only [go_sem, Nat.reduceAdd, Int.reduceToNat, he44_0, he44_1, he44_2]
   refine call_go [0] false (btree_ReadNode_ok (cG G) hG0 _ _ hv45) ?_
   simp -implicitDefEqProofs +decide only [go_sem, Nat.reduceAdd, Int.reduceToNat]
   refine hK _ ?_
   refine seq_reg rfl (fun K hK => ?_)
   rcases hb46 : v43.2.1 with _ | _
   ·replace h : some false = some res := by first | exact h | (rw [and_f hb46] at h; exact h)
    simp -implicitDefEqProofs +decide only [go_sem, Nat.reduceAdd, Int.reduceToNat, hb46]
    refine hK _ ?_
    refine swp_ret ?_
    with_reducible repeat first|apply nn|apply nb|apply nr|apply nc|apply ne|apply nq|apply nx rfl
    obtain rfl := some_eq h
    simp -implicitDefEqProofs +decide only [go_sem, Nat.reduceAdd, Int.reduceToNat]
    all_goals first | done | trivial | assumption | (simp [maps]; done) | (simp [maps, hb46]; done)
   ·replace h : some (v43.1.Done && ((v45.2 == 0) && ((v45.1.High == 3) && ((v45.1.Entries.length : Int) == 3)))) = some res := by first | exact h | (rw [and_t hb46] at h; exact h)
    rcases hb47 : v43.1.Done with _ | _
    ·replace h : some false = some res := by first | exact h | (rw [and_f hb47] at h; exact h)
     simp -implicitDefEqProofs +decide only [go_sem, Nat.reduceAdd, Int.reduceToNat, hb46, hb47]
     refine hK _ ?_
     refine swp_ret ?_
     with_reducible repeat first|apply nn|apply nb|apply nr|apply nc|apply ne|apply nq|apply nx rfl
     obtain rfl := some_eq h
     simp -implicitDefEqProofs +decide only [go_sem, Nat.reduceAdd, Int.reduceToNat]
     all_goals first | done | trivial | assumption | (simp [maps]; done) | (simp [maps, hb46, hb47]; done)
    ·replace h : some ((v45.2 == 0) && ((v45.1.High == 3) && ((v45.1.Entries.length : Int) == 3))) = some res := by first | exact h | (rw [and_t hb47] at h; exact h)
     rcases hb48 : (v45.2 == 0) with _ | _
     ·replace h : some false = some res := by first | exact h | (rw [and_f hb48] at h; exact h)
      simp -implicitDefEqProofs +decide only [go_sem, Nat.reduceAdd, Int.reduceToNat, hb46, hb47, hb48]
      refine hK _ ?_
      refine swp_ret ?_
      with_reducible repeat first|apply nn|apply nb|apply nr|apply nc|apply ne|apply nq|apply nx rfl
      obtain rfl := some_eq h
      simp -implicitDefEqProofs +decide only [go_sem, Nat.reduceAdd, Int.reduceToNat]
      all_goals first | done | trivial | assumption | (simp [maps]; done) | (simp [maps, hb46, hb47, hb48]; done)
     ·replace h : some ((v45.1.High == 3) && ((v45.1.Entries.length : Int) == 3)) = some res := by first | exact h | (rw [and_t hb48] at h; exact h)
      rcases hb49 : (v45.1.High == 3) with _ | _
      ·replace h : some false = some res := by first | exact h | (rw [and_f hb49] at h; exact h)
       simp -implicitDefEqProofs +decide only [go_sem, Nat.reduceAdd, Int.reduceToNat, hb46, hb47, hb48, hb49]
       refine hK _ ?_
       refine swp_ret ?_
       with_reducible repeat first|apply nn|apply nb|apply nr|apply nc|apply ne|apply nq|apply nx rfl
       obtain rfl := some_eq h
       simp -implicitDefEqProofs +decide only [go_sem, Nat.reduceAdd, Int.reduceToNat]
       all_goals first | done | trivial | assumption | (simp [maps]; done) | (simp [maps, hb46, hb47, hb48, hb49]; done)
      ·replace h : some ((v45.1.Entries.length : Int) == 3) = some res := by first | exact h | (rw [and_t hb49] at h; exact h)
       simp -implicitDefEqProofs +decide only [go_sem, Nat.reduceAdd, Int.reduceToNat, hb46, hb47, hb48, hb49]
       refine hK _ ?_
       refine swp_ret ?_
       with_reducible repeat first|apply nn|apply nb|apply nr|apply nc|apply ne|apply nq|apply nx rfl
       obtain rfl := some_eq h
       simp -implicitDefEqProofs +decide only [go_sem, Nat.reduceAdd, Int.reduceToNat]
       all_goals first | done | trivial | assumption | (simp [maps]; done) | (simp [maps, hb46, hb47, hb48, hb49]; done)
  refine swp_seq ?_
  refine seq_reg rfl (fun K hK => ?_)
  simp -implicitDefEqProofs +decide only [go_sem, Nat.reduceAdd, Int.reduceToNat]
  refine hK _ ?_
  refine swp_block ?_
  refine swp_iter (fun g x => match x with | (l76, x77, l78, l79, l80, x81) => stL [(1, (.c (.ptr ⟨1024000006, g⟩ 0 0))), (2, (.c (.p (.int .u32 x81))))] [(⟨1024000006, g⟩, .box true [(.ref ⟨1024000007, g⟩ 0 l76.length), (.p (.int .i64 x77)), (.ref ⟨1024000008, g⟩ 0 l78.length), (.ref ⟨1024000009, g⟩ 0 l79.length), (.ref ⟨1024000010, g⟩ 0 l80.length)]), (⟨1024000007, g⟩, .arr true 9 (l76.map r_api_Page)), (⟨1024000008, g⟩, .arr true 1 (l78.map r_u32)), (⟨1024000009, g⟩, .arr true 2 (l79.map r_pointer_Pointer)), (⟨1024000010, g⟩, .arr true 2 (l80.map r_pointer_Pointer))] (g + 1)) h (enter_of (ren_go (fun g S => [(⟨1024000006, g⟩, (keyT 0 (St.env S 1))), (⟨1024000007, g⟩, (keyB 0 (St.heap S (keyT 0 (St.env S 1))))), (⟨1024000008, g⟩, (keyB 2 (St.heap S (keyT 0 (St.env S 1))))), (⟨1024000009, g⟩, (keyB 3 (St.heap S (keyT 0 (St.env S 1))))), (⟨1024000010, g⟩, (keyB 4 (St.heap S (keyT 0 (St.env S 1)))))]) fun g S => [])) ?_
  rintro g ⟨l76, x77, l78, l79, l80, x81⟩ s1 h hd1
  rw [bodegalaw24_awake_L1] at h
  try dsimp only
  refine swp_seq ?_
  refine seq_reg rfl (fun K hK => ?_)
  simp -implicitDefEqProofs +decide only [go_sem, Nat.reduceAdd, Int.reduceToNat]
  refine hK _ ?_
  refine bsplit h (fun hb88 h => ?_) (fun hb88 h => ?_)
  ·refine cond_t (by simp -implicitDefEqProofs +decide only [go_sem, hb88]) ?_
   refine swp_skip ?_
   with_reducible repeat first|apply nn|apply nb|apply nr|apply nc|apply ne|apply nq|apply nx rfl
   refine swp_seq ?_
   refine swp_block ?_
   refine seq_reg rfl (fun K hK => ?_)
   refine bind_of h (fun v89 hv89 h => ?_)
   simp -implicitDefEqProofs +decide only [go_sem, Nat.reduceAdd, Int.reduceToNat, hb88]
   refine call_go [0, 0, 0] false (bodegalaw24_index_insert_ok (cG G) hG0 _ _ _ _ hv89) ?_
   simp -implicitDefEqProofs +decide only [go_sem, Nat.reduceAdd, Int.reduceToNat, hb88]
   refine hK _ ?_
   refine bsplit h (fun hb90 h => ?_) (fun hb90 h => ?_)
   ·refine cond_t (by simp -implicitDefEqProofs +decide only [go_sem, hb88, hb90]) ?_
    refine seq_reg rfl (fun K hK => ?_)
    simp -implicitDefEqProofs +decide only [go_sem, Nat.reduceAdd, Int.reduceToNat, hb88, hb90]
    refine hK _ ?_
    refine swp_ret ?_
    with_reducible repeat first|apply nn|apply nb|apply nr|apply nc|apply ne|apply nq|apply nx rfl
    obtain ⟨h, hs1⟩ := exit_of h hd1
    refine ⟨hs1, ?_⟩
    with_reducible repeat first|apply nn|apply nb|apply nr|apply nc|apply ne|apply nq|apply nx rfl
    obtain rfl := some_eq h
    simp -implicitDefEqProofs +decide only [go_sem, Nat.reduceAdd, Int.reduceToNat]
    all_goals first | done | trivial | assumption | (simp [maps]; done) | (simp [maps, hb88, hb90]; done)
   ·refine cond_f (by simp -implicitDefEqProofs +decide only [go_sem, hb88, hb90]) ?_
    refine swp_skip ?_
    with_reducible repeat first|apply nn|apply nb|apply nr|apply nc|apply ne|apply nq|apply nx rfl
    refine swp_reg rfl (fun K hK => ?_)
    simp -implicitDefEqProofs +decide only [go_sem, Nat.reduceAdd, Int.reduceToNat, hb88, hb90]
    refine hK _ ?_
    with_reducible repeat first|apply nn|apply nb|apply nr|apply nc|apply ne|apply nq|apply nx rfl
    exact back_of h (ren_go (fun g S => [(⟨1024000006, g⟩, (keyT 0 (St.env S 1))), (⟨1024000007, g⟩, (keyB 0 (St.heap S (keyT 0 (St.env S 1))))), (⟨1024000008, g⟩, (keyB 2 (St.heap S (keyT 0 (St.env S 1))))), (⟨1024000009, g⟩, (keyB 3 (St.heap S (keyT 0 (St.env S 1))))), (⟨1024000010, g⟩, (keyB 4 (St.heap S (keyT 0 (St.env S 1)))))]) fun g S => [])
  ·refine cond_f (by simp -implicitDefEqProofs +decide only [go_sem, hb88]) ?_
   refine swp_exit ?_
   with_reducible repeat first|apply nn|apply nb|apply nr|apply nc|apply ne|apply nq|apply nx rfl
   obtain ⟨h, hs1⟩ := exit_of h hd1
   with_reducible repeat first|apply nn|apply nb|apply nr|apply nc|apply ne|apply nq|apply nx rfl
   refine ⟨hs1, ?_⟩
   with_reducible repeat first|apply nn|apply nb|apply nr|apply nc|apply ne|apply nq|apply nx rfl
   exact jump_of hj1 h (ren_go (fun g S => [(⟨1024000001, g⟩, (keyT 0 (St.env S 1))), (⟨1024000002, g⟩, (keyB 0 (St.heap S (keyT 0 (St.env S 1))))), (⟨1024000003, g⟩, (keyB 2 (St.heap S (keyT 0 (St.env S 1))))), (⟨1024000004, g⟩, (keyB 3 (St.heap S (keyT 0 (St.env S 1))))), (⟨1024000005, g⟩, (keyB 4 (St.heap S (keyT 0 (St.env S 1)))))]) fun g S => [])
end Go.Sh
end
section
namespace Go.Sh
open Go.Proofs
noncomputable def bodegalaw24_same (a0 : api_Page) (a1 : api_Page) : Option Bool :=
  some ((a0.Line == a1.Line) && ((a0.Head == a1.Head) && ((a0.Data.a0 == a1.Data.a0) && ((a0.Data.a1 == a1.Data.a1) && ((a0.Data.a2 == a1.Data.a2) && ((a0.Data.a3 == a1.Data.a3) && ((a0.Data.a4 == a1.Data.a4) && ((a0.Data.a5 == a1.Data.a5) && (a0.Data.a6 == a1.Data.a6)))))))))
theorem bodegalaw24_same_ok (G : Glob) (hG0 : G.glob 0 = some [(.int .i64 0), (.int .i64 0)]) (a0 : api_Page) (a1 : api_Page) (res : Bool) (h : bodegalaw24_same a0 a1 = some res) : Spec Tryz.prog G 20 [.agg (g_yylp a0), .agg (g_yylp a1)] (fun r ios => r = .cell (.p (.bool res)) ∧ ios = []) := by
  rw [bodegalaw24_same] at h
  refine spec_of Tryz.mixed Tryz.func20 rfl rfl (by simp only [List.length]; decide +kernel) ?_
  refine swp_fresh (fun g => stL [(0, (.agg (b_mq86 a0))), (1, (.agg (b_mq86 a1)))] [] (g + 1)) (ren_go (fun g S => []) fun g S => []) fun g => ?_
  refine seq_reg rfl (fun K hK => ?_)
  simp -implicitDefEqProofs +decide only [go_sem, Nat.reduceAdd, Int.reduceToNat]
  refine hK _ ?_
  refine seq_reg rfl (fun K hK => ?_)
  rcases hb1 : (a0.Line == a1.Line) with _ | _
  ·replace h : some false = some res := by first | exact h | (rw [and_f hb1] at h; exact h)
   simp -implicitDefEqProofs +decide only [go_sem, Nat.reduceAdd, Int.reduceToNat, hb1]
   refine hK _ ?_
   refine swp_ret ?_
   with_reducible repeat first|apply nn|apply nb|apply nr|apply nc|apply ne|apply nq|apply nx rfl
   obtain rfl := some_eq h
   simp -implicitDefEqProofs +decide only [go_sem, Nat.reduceAdd, Int.reduceToNat]
   all_goals first | done | trivial | assumption | (simp [maps]; done) | (simp [maps, hb1]; done)
  ·replace h : some ((a0.Head == a1.Head) && ((a0.Data.a0 == a1.Data.a0) && ((a0.Data.a1 == a1.Data.a1) && ((a0.Data.a2 == a1.Data.a2) && ((a0.Data.a3 == a1.Data.a3) && ((a0.Data.a4 == a1.Data.a4) && ((a0.Data.a5 == a1.Data.a5) && (a0.Data.a6 == a1.Data.a6)))))))) = some res := by first | exact h | (rw [and_t hb1] at h; exact h)
   rcases hb2 : (a0.Head == a1.Head) with _ | _
   ·replace h : some false = some res := by first | exact h | (rw [and_f hb2] at h; exact h)
    simp -implicitDefEqProofs +decide only [go_sem, Nat.reduceAdd, Int.reduceToNat, hb1, hb2]
    refine hK _ ?_
    refine swp_ret ?_
    with_reducible repeat first|apply nn|apply nb|apply nr|apply nc|apply ne|apply nq|apply nx rfl
    obtain rfl := some_eq h
    simp -implicitDefEqProofs +decide only [go_sem, Nat.reduceAdd, Int.reduceToNat]
    all_goals first | done | trivial | assumption | (simp [maps]; done) | (simp [maps, hb1, hb2]; done)
   ·replace h : some ((a0.Data.a0 == a1.Data.a0) && ((a0.Data.a1 == a1.Data.a1) && ((a0.Data.a2 == a1.Data.a2) && ((a0.Data.a3 == a1.Data.a3) && ((a0.Data.a4 == a1.Data.a4) && ((a0.Data.a5 == a1.Data.a5) && (a0.Data.a6 == a1.Data.a6))))))) = some res := by first | exact h | (rw [and_t hb2] at h; exact h)
    simp -implicitDefEqProofs +decide only [go_sem, Nat.reduceAdd, Int.reduceToNat, hb1, hb2]
    refine hK _ ?_
    refine swp_ret ?_
    with_reducible repeat first|apply nn|apply nb|apply nr|apply nc|apply ne|apply nq|apply nx rfl
    obtain rfl := some_eq h
    simp -implicitDefEqProofs +decide only [go_sem, Nat.reduceAdd, Int.reduceToNat]
    all_goals first | done | trivial | assumption | (simp [maps]; done) | (simp [maps, hb1, hb2]; done)
end Go.Sh
end
section
namespace Go.Sh
open Go.Proofs
noncomputable def bodegaref24_ReadRoot (a0 : api_Page) : Option (bodegaref19_Pointer × Int × Int) :=
  if (a0.Line != 96) = true then
    some ((⟨0, 0⟩ : bodegaref19_Pointer), 0, 1)
  else
    if (a0.Data.a0 == 0) = true then
      some ((⟨0, 0⟩ : bodegaref19_Pointer), 0, 0)
    else
      (bodegaref19_Unpack (IntKind.u32.wrap a0.Data.a0)).bind fun v5 =>
      (bodegaref19_ValidPointer v5).bind fun v9 =>
      if (!v9) = true then
        some ((⟨0, 0⟩ : bodegaref19_Pointer), 0, 14)
      else
        if (decide (a0.Data.a0 ≥ 38654705664)) = true then
          some ((⟨0, 0⟩ : bodegaref19_Pointer), 0, 14)
        else
          some (v5, (IntKind.i64.wrap (shrV .u64 a0.Data.a0 32)), 0)
theorem bodegaref24_ReadRoot_ok (G : Glob) (hG0 : G.glob 0 = some [(.int .i64 0), (.int .i64 0)]) (a0 : api_Page) (res : (bodegaref19_Pointer × Int × Int)) (h : bodegaref24_ReadRoot a0 = some res) : Spec Tryz.prog G 16 [.agg (g_yylp a0)] (fun r ios => r = .tup [.agg [.p (.int .i64 res.1.Line), .p (.int .i64 res.1.Gen)], .cell (.p (.int .i64 res.2.1)), .cell (.p (.int .i64 res.2.2))] ∧ ios = []) := by
  rw [bodegaref24_ReadRoot] at h
  refine spec_of Tryz.mixed Tryz.func16 rfl rfl (by simp only [List.length]; decide +kernel) ?_
  refine swp_fresh (fun g => stL [(0, (.agg (b_mq86 a0)))] [] (g + 1)) (ren_go (fun g S => []) fun g S => []) fun g => ?_
  refine seq_reg rfl (fun K hK => ?_)
  simp -implicitDefEqProofs +decide only [go_sem, Nat.reduceAdd, Int.reduceToNat]
  refine hK _ ?_
  refine swp_seq ?_
  refine seq_reg rfl (fun K hK => ?_)
  simp -implicitDefEqProofs +decide only [go_sem, Nat.reduceAdd, Int.reduceToNat]
  refine hK _ ?_
  refine bsplit h (fun hb2 h => ?_) (fun hb2 h => ?_)
  ·refine cond_t (by simp -implicitDefEqProofs +decide only [go_sem, hb2]) ?_
   refine seq_reg rfl (fun K hK => ?_)
   simp -implicitDefEqProofs +decide only [go_sem, Nat.reduceAdd, Int.reduceToNat, hb2]
   refine hK _ ?_
   refine swp_ret ?_
   with_reducible repeat first|apply nn|apply nb|apply nr|apply nc|apply ne|apply nq|apply nx rfl
   obtain rfl := some_eq h
   simp -implicitDefEqProofs +decide only [go_sem, Nat.reduceAdd, Int.reduceToNat]
   all_goals first | done | trivial | assumption | (simp [maps]; done) | (simp [maps, hb2]; done)
  ·refine cond_f (by simp -implicitDefEqProofs +decide only [go_sem, hb2]) ?_
   refine swp_skip ?_
   with_reducible repeat first|apply nn|apply nb|apply nr|apply nc|apply ne|apply nq|apply nx rfl
   refine swp_seq ?_
   refine seq_reg rfl (fun K hK => ?_)
   simp -implicitDefEqProofs +decide only [go_sem, Nat.reduceAdd, Int.reduceToNat, hb2]
   refine hK _ ?_
   refine bsplit h (fun hb4 h => ?_) (fun hb4 h => ?_)
   ·refine cond_t (by simp -implicitDefEqProofs +decide only [go_sem, hb2, hb4]) ?_
    refine seq_reg rfl (fun K hK => ?_)
    simp -implicitDefEqProofs +decide only [go_sem, Nat.reduceAdd, Int.reduceToNat, hb2, hb4]
    refine hK _ ?_
    refine swp_ret ?_
    with_reducible repeat first|apply nn|apply nb|apply nr|apply nc|apply ne|apply nq|apply nx rfl
    obtain rfl := some_eq h
    simp -implicitDefEqProofs +decide only [go_sem, Nat.reduceAdd, Int.reduceToNat]
    all_goals first | done | trivial | assumption | (simp [maps]; done) | (simp [maps, hb2, hb4]; done)
   ·refine cond_f (by simp -implicitDefEqProofs +decide only [go_sem, hb2, hb4]) ?_
    refine swp_skip ?_
    with_reducible repeat first|apply nn|apply nb|apply nr|apply nc|apply ne|apply nq|apply nx rfl
    refine seq_reg rfl (fun K hK => ?_)
    refine bind_of h (fun v5 hv5 h => ?_)
    simp -implicitDefEqProofs +decide only [go_sem, Nat.reduceAdd, Int.reduceToNat, hb2, hb4]
    refine call_go [0] false (bodegaref19_Unpack_ok (cG G) hG0 _ _ hv5) ?_
    simp -implicitDefEqProofs +decide only [go_sem, Nat.reduceAdd, Int.reduceToNat, hb2, hb4]
    refine hK _ ?_
    refine swp_seq ?_
    refine seq_reg rfl (fun K hK => ?_)
    refine bind_of h (fun v9 hv9 h => ?_)
    simp -implicitDefEqProofs +decide only [go_sem, Nat.reduceAdd, Int.reduceToNat, hb2, hb4]
    refine call_go [0] false (bodegaref19_ValidPointer_ok (cG G) hG0 _ _ hv9) ?_
    refine bsplit h (fun hb10 h => ?_) (fun hb10 h => ?_)
    ·simp -implicitDefEqProofs +decide only [go_sem, Nat.reduceAdd, Int.reduceToNat, hb2, hb4, hb10]
     refine hK _ ?_
     refine cond_t (by simp -implicitDefEqProofs +decide only [go_sem, hb2, hb4, hb10]) ?_
     refine seq_reg rfl (fun K hK => ?_)
     simp -implicitDefEqProofs +decide only [go_sem, Nat.reduceAdd, Int.reduceToNat, hb2, hb4, hb10]
     refine hK _ ?_
     refine swp_ret ?_
     with_reducible repeat first|apply nn|apply nb|apply nr|apply nc|apply ne|apply nq|apply nx rfl
     obtain rfl := some_eq h
     simp -implicitDefEqProofs +decide only [go_sem, Nat.reduceAdd, Int.reduceToNat]
     all_goals first | done | trivial | assumption | (simp [maps]; done) | (simp [maps, hb2, hb4, hb10]; done)
    ·simp -implicitDefEqProofs +decide only [go_sem, Nat.reduceAdd, Int.reduceToNat, hb2, hb4, hb10]
     refine hK _ ?_
     refine bsplit h (fun hb11 h => ?_) (fun hb11 h => ?_)
     ·refine cond_t (by simp -implicitDefEqProofs +decide only [go_sem, hb2, hb4, hb10, hb11]) ?_
      refine seq_reg rfl (fun K hK => ?_)
      simp -implicitDefEqProofs +decide only [go_sem, Nat.reduceAdd, Int.reduceToNat, hb2, hb4, hb10, hb11]
      refine hK _ ?_
      refine swp_ret ?_
      with_reducible repeat first|apply nn|apply nb|apply nr|apply nc|apply ne|apply nq|apply nx rfl
      obtain rfl := some_eq h
      simp -implicitDefEqProofs +decide only [go_sem, Nat.reduceAdd, Int.reduceToNat]
      all_goals first | done | trivial | assumption | (simp [maps]; done) | (simp [maps, hb2, hb4, hb10, hb11]; done)
     ·refine cond_f (by simp -implicitDefEqProofs +decide only [go_sem, hb2, hb4, hb10, hb11]) ?_
      refine swp_skip ?_
      with_reducible repeat first|apply nn|apply nb|apply nr|apply nc|apply ne|apply nq|apply nx rfl
      refine seq_drw rfl (fun K hK => ?_)
      simp -implicitDefEqProofs +decide only [go_sem, Nat.reduceAdd, Int.reduceToNat, hb2, hb4, hb10, hb11]
      refine draw_go (by kernel_rfl) ?_
      refine hK _ ?_
      refine swp_ret ?_
      with_reducible repeat first|apply nn|apply nb|apply nr|apply nc|apply ne|apply nq|apply nx rfl
      obtain rfl := some_eq h
      simp -implicitDefEqProofs +decide only [go_sem, Nat.reduceAdd, Int.reduceToNat]
      all_goals first | done | trivial | assumption | (simp [maps]; done) | (simp [maps, hb2, hb4, hb10, hb11]; done)
end Go.Sh
end
section
namespace Go.Sh
open Go.Proofs
noncomputable def bodegaref24_WriteRoot_J1 (a1 : bodegaref19_Pointer) (a0 : api_Page) (a2 : Int) : Unit → Option (api_Page × Int)
  | () =>
    (bodegaref19_Pack a1).bind fun v8 =>
    some ((⟨a0.Line, a0.Head, (⟨(IntKind.u64.wrap ((IntKind.u64.wrap v8) + (shlV .u64 (IntKind.u64.wrap a2) 32))), a0.Data.a1, a0.Data.a2, a0.Data.a3, a0.Data.a4, a0.Data.a5, a0.Data.a6⟩ : (A7 Int))⟩ : api_Page), 0)
noncomputable def bodegaref24_WriteRoot (a0 : api_Page) (a1 : bodegaref19_Pointer) (a2 : Int) : Option (api_Page × Int) :=
  if (a0.Line != 96) = true then
    some ((⟨0, 0, (⟨0, 0, 0, 0, 0, 0, 0⟩ : (A7 Int))⟩ : api_Page), 1)
  else
    if (decide (a2 < 0)) = true then
      some ((⟨0, 0, (⟨0, 0, 0, 0, 0, 0, 0⟩ : (A7 Int))⟩ : api_Page), 1)
    else
      if (decide (a2 > 8)) = true then
        some ((⟨0, 0, (⟨0, 0, 0, 0, 0, 0, 0⟩ : (A7 Int))⟩ : api_Page), 1)
      else
        if ((a1.Line == 0) && (a1.Gen == 0)) = true then
          if (a2 != 0) = true then
            some ((⟨0, 0, (⟨0, 0, 0, 0, 0, 0, 0⟩ : (A7 Int))⟩ : api_Page), 1)
          else
            bodegaref24_WriteRoot_J1 a1 a0 a2 ()
        else
          (bodegaref19_ValidPointer a1).bind fun v14 =>
          if (!v14) = true then
            some ((⟨0, 0, (⟨0, 0, 0, 0, 0, 0, 0⟩ : (A7 Int))⟩ : api_Page), 1)
          else
            bodegaref24_WriteRoot_J1 a1 a0 a2 ()
theorem bodegaref24_WriteRoot_ok (G : Glob) (hG0 : G.glob 0 = some [(.int .i64 0), (.int .i64 0)]) (a0 : api_Page) (a1 : bodegaref19_Pointer) (a2 : Int) (res : (api_Page × Int)) (h : bodegaref24_WriteRoot a0 a1 a2 = some res) : Spec Tryz.prog G 18 [.agg (g_yylp a0), .agg [.p (.int .i64 a1.Line), .p (.int .i64 a1.Gen)], .cell (.p (.int .i64 a2))] (fun r ios => r = .tup [.agg (g_yylp res.1), .cell (.p (.int .i64 res.2))] ∧ ios = []) := by
  rw [bodegaref24_WriteRoot] at h
  refine spec_of Tryz.mixed Tryz.func18 rfl rfl (by simp only [List.length]; decide +kernel) ?_
  refine swp_fresh (fun g => stL [(0, (.agg (b_mq86 a0))), (1, (.agg [(.p (.int .i64 a1.Line)), (.p (.int .i64 a1.Gen))])), (2, (.c (.p (.int .i64 a2))))] [] (g + 1)) (ren_go (fun g S => []) fun g S => []) fun g => ?_
  refine seq_reg rfl (fun K hK => ?_)
  simp -implicitDefEqProofs +decide only [go_sem, Nat.reduceAdd, Int.reduceToNat]
  refine hK _ ?_
  refine seq_reg rfl (fun K hK => ?_)
  simp -implicitDefEqProofs +decide only [go_sem, Nat.reduceAdd, Int.reduceToNat]
  refine hK _ ?_
  refine cut1 (Joins (bodegaref24_WriteRoot_J1 a1 a0 a2) (fun g _ => stL [(2, (.c (.p (.int .i64 a2)))), (3, (.c (.ptr ⟨1024000001, g⟩ 0 0))), (4, (.c (.ptr ⟨1024000002, g⟩ 0 0))), (6, (.c (.ptr ⟨1024000003, g⟩ 0 0)))] [(⟨1024000001, g⟩, .box true (b_mq86 a0)), (⟨1024000002, g⟩, .box true [(.p (.int .i64 a1.Line)), (.p (.int .i64 a1.Gen))]), (⟨1024000003, g⟩, .box true [(.p (.int .i64 0)), (.p (.int .u64 0)), (.p (.int .u64 0)), (.p (.int .u64 0)), (.p (.int .u64 0)), (.p (.int .u64 0)), (.p (.int .u64 0)), (.p (.int .u64 0)), (.p (.int .u64 0))])] (g + 1)) res) ?_ (fun hj1 => ?_)
  ·refine join_of ?_
   rintro g ⟨⟩ h
   rw [bodegaref24_WriteRoot_J1] at h
   try dsimp only
   refine seq_reg rfl (fun K hK => ?_)
   simp -implicitDefEqProofs +decide only [go_sem, Nat.reduceAdd, Int.reduceToNat]
   refine hK _ ?_
   refine seq_reg rfl (fun K hK => ?_)
   refine bind_of h (fun v8 hv8 h => ?_)
   simp -implicitDefEqProofs +decide only [go_sem, Nat.reduceAdd, Int.reduceToNat]
   refine call_go [0] false (bodegaref19_Pack_ok (cG G) hG0 _ _ hv8) ?_
   simp -implicitDefEqProofs +decide only [go_sem, Nat.reduceAdd, Int.reduceToNat]
   refine hK _ ?_
   refine seq_reg rfl (fun K hK => ?_)
   simp -implicitDefEqProofs +decide only [go_sem, Nat.reduceAdd, Int.reduceToNat]
   refine hK _ ?_
   refine swp_ret ?_
   with_reducible repeat first|apply nn|apply nb|apply nr|apply nc|apply ne|apply nq|apply nx rfl
   obtain rfl := some_eq h
   simp -implicitDefEqProofs +decide only [go_sem, Nat.reduceAdd, Int.reduceToNat]
   all_goals first | done | trivial | assumption | (simp [maps]; done) | (simp [maps]; done)
  refine swp_seq ?_
  refine seq_reg rfl (fun K hK => ?_)
  refine bsplit h (fun hb9 h => ?_) (fun hb9 h => ?_)
  ·simp -implicitDefEqProofs +decide only [go_sem, Nat.reduceAdd, Int.reduceToNat, hb9]
   refine hK _ ?_
   refine cond_t (by simp -implicitDefEqProofs +decide only [go_sem, hb9]) ?_
   refine seq_reg rfl (fun K hK => ?_)
   simp -implicitDefEqProofs +decide only [go_sem, Nat.reduceAdd, Int.reduceToNat, hb9]
   refine hK _ ?_
   refine swp_ret ?_
   with_reducible repeat first|apply nn|apply nb|apply nr|apply nc|apply ne|apply nq|apply nx rfl
   obtain rfl := some_eq h
   simp -implicitDefEqProofs +decide only [go_sem, Nat.reduceAdd, Int.reduceToNat]
   all_goals first | done | trivial | assumption | (simp [maps]; done) | (simp [maps, hb9]; done)
  ·refine bsplit h (fun hb10 h => ?_) (fun hb10 h => ?_)
   ·simp -implicitDefEqProofs +decide only [go_sem, Nat.reduceAdd, Int.reduceToNat, hb9, hb10]
    refine hK _ ?_
    refine cond_t (by simp -implicitDefEqProofs +decide only [go_sem, hb9, hb10]) ?_
    refine seq_reg rfl (fun K hK => ?_)
    simp -implicitDefEqProofs +decide only [go_sem, Nat.reduceAdd, Int.reduceToNat, hb9, hb10]
    refine hK _ ?_
    refine swp_ret ?_
    with_reducible repeat first|apply nn|apply nb|apply nr|apply nc|apply ne|apply nq|apply nx rfl
    obtain rfl := some_eq h
    simp -implicitDefEqProofs +decide only [go_sem, Nat.reduceAdd, Int.reduceToNat]
    all_goals first | done | trivial | assumption | (simp [maps]; done) | (simp [maps, hb9, hb10]; done)
   ·refine bsplit h (fun hb11 h => ?_) (fun hb11 h => ?_)
    ·simp -implicitDefEqProofs +decide only [go_sem, Nat.reduceAdd, Int.reduceToNat, hb9, hb10, hb11]
     refine hK _ ?_
     refine cond_t (by simp -implicitDefEqProofs +decide only [go_sem, hb9, hb10, hb11]) ?_
     refine seq_reg rfl (fun K hK => ?_)
     simp -implicitDefEqProofs +decide only [go_sem, Nat.reduceAdd, Int.reduceToNat, hb9, hb10, hb11]
     refine hK _ ?_
     refine swp_ret ?_
     with_reducible repeat first|apply nn|apply nb|apply nr|apply nc|apply ne|apply nq|apply nx rfl
     obtain rfl := some_eq h
     simp -implicitDefEqProofs +decide only [go_sem, Nat.reduceAdd, Int.reduceToNat]
     all_goals first | done | trivial | assumption | (simp [maps]; done) | (simp [maps, hb9, hb10, hb11]; done)
    ·refine bsplit h (fun hb12 h => ?_) (fun hb12 h => ?_)
     ·refine bsplit h (fun hb13 h => ?_) (fun hb13 h => ?_)
      ·simp -implicitDefEqProofs +decide only [go_sem, Nat.reduceAdd, Int.reduceToNat, hb9, hb10, hb11, hb12, hb13]
       refine hK _ ?_
       refine cond_t (by simp -implicitDefEqProofs +decide only [go_sem, hb9, hb10, hb11, hb12, hb13]) ?_
       refine seq_reg rfl (fun K hK => ?_)
       simp -implicitDefEqProofs +decide only [go_sem, Nat.reduceAdd, Int.reduceToNat, hb9, hb10, hb11, hb12, hb13]
       refine hK _ ?_
       refine swp_ret ?_
       with_reducible repeat first|apply nn|apply nb|apply nr|apply nc|apply ne|apply nq|apply nx rfl
       obtain rfl := some_eq h
       simp -implicitDefEqProofs +decide only [go_sem, Nat.reduceAdd, Int.reduceToNat]
       all_goals first | done | trivial | assumption | (simp [maps]; done) | (simp [maps, hb9, hb10, hb11, hb12, hb13]; done)
      ·simp -implicitDefEqProofs +decide only [go_sem, Nat.reduceAdd, Int.reduceToNat, hb9, hb10, hb11, hb12, hb13]
       refine hK _ ?_
       refine cond_f (by simp -implicitDefEqProofs +decide only [go_sem, hb9, hb10, hb11, hb12, hb13]) ?_
       refine swp_skip ?_
       with_reducible repeat first|apply nn|apply nb|apply nr|apply nc|apply ne|apply nq|apply nx rfl
       exact jump_of hj1 h (ren_go (fun g S => [(⟨1024000001, g⟩, (keyT 0 (St.env S 3))), (⟨1024000002, g⟩, (keyT 0 (St.env S 4))), (⟨1024000003, g⟩, (keyT 0 (St.env S 6)))]) fun g S => [])
     ·refine bind_of h (fun v14 hv14 h => ?_)
      simp -implicitDefEqProofs +decide only [go_sem, Nat.reduceAdd, Int.reduceToNat, hb9, hb10, hb11, hb12]
      refine call_go [0] false (bodegaref19_ValidPointer_ok (cG G) hG0 _ _ hv14) ?_
      simp -implicitDefEqProofs +decide only [go_sem, Nat.reduceAdd, Int.reduceToNat, hb9, hb10, hb11, hb12]
      refine hK _ ?_
      refine bsplit h (fun hb15 h => ?_) (fun hb15 h => ?_)
      ·refine cond_t (by simp -implicitDefEqProofs +decide only [go_sem, hb9, hb10, hb11, hb12, hb15]) ?_
       refine seq_reg rfl (fun K hK => ?_)
       simp -implicitDefEqProofs +decide only [go_sem, Nat.reduceAdd, Int.reduceToNat, hb9, hb10, hb11, hb12, hb15]
       refine hK _ ?_
       refine swp_ret ?_
       with_reducible repeat first|apply nn|apply nb|apply nr|apply nc|apply ne|apply nq|apply nx rfl
       obtain rfl := some_eq h
       simp -implicitDefEqProofs +decide only [go_sem, Nat.reduceAdd, Int.reduceToNat]
       all_goals first | done | trivial | assumption | (simp [maps]; done) | (simp [maps, hb9, hb10, hb11, hb12, hb15]; done)
      ·refine cond_f (by simp -implicitDefEqProofs +decide only [go_sem, hb9, hb10, hb11, hb12, hb15]) ?_
       refine swp_skip ?_
       with_reducible repeat first|apply nn|apply nb|apply nr|apply nc|apply ne|apply nq|apply nx rfl
       exact jump_of hj1 h (ren_go (fun g S => [(⟨1024000001, g⟩, (keyT 0 (St.env S 3))), (⟨1024000002, g⟩, (keyT 0 (St.env S 4))), (⟨1024000003, g⟩, (keyT 0 (St.env S 6)))]) fun g S => [])
end Go.Sh
end
section
namespace Go.Sh
open Go.Proofs
noncomputable def bodegalaw24_TreeRoots_J2 : Unit → Option Bool
  | () =>
    (bodegalaw24_awake).bind fun v35 =>
    some v35
noncomputable def bodegalaw24_TreeRoots_J1 (a0 : api_Page) : (Int × Int × Int × pointer_Pointer) → Option Bool
  | (x5, x6, x7, x8) =>
    (btree_ReadRoot (⟨x6, a0.Head, (⟨x7, a0.Data.a1, a0.Data.a2, a0.Data.a3, a0.Data.a4, a0.Data.a5, a0.Data.a6⟩ : (A7 Int))⟩ : api_Page)).bind fun v9 =>
    (bodegaref24_ReadRoot (⟨x6, a0.Head, (⟨x7, a0.Data.a1, a0.Data.a2, a0.Data.a3, a0.Data.a4, a0.Data.a5, a0.Data.a6⟩ : (A7 Int))⟩ : api_Page)).bind fun v10 =>
    (btree_WriteRoot (⟨x6, a0.Head, (⟨x7, a0.Data.a1, a0.Data.a2, a0.Data.a3, a0.Data.a4, a0.Data.a5, a0.Data.a6⟩ : (A7 Int))⟩ : api_Page) x8 x5).bind fun v11 =>
    (bodegalaw24_ref x8).bind fun v12 =>
    (bodegaref24_WriteRoot (⟨x6, a0.Head, (⟨x7, a0.Data.a1, a0.Data.a2, a0.Data.a3, a0.Data.a4, a0.Data.a5, a0.Data.a6⟩ : (A7 Int))⟩ : api_Page) v12 x5).bind fun v13 =>
    (bodegalaw24_ref v9.1).bind fun v21 =>
    if (!((v21.Line == v10.1.Line) && (v21.Gen == v10.1.Gen))) = true then
      some false
    else
      if (v9.2.1 != v10.2.1) = true then
        some false
      else
        if (v9.2.2 != v10.2.2) = true then
          some false
        else
          (bodegalaw24_same v11.1 v13.1).bind fun v25 =>
          if (!v25) = true then
            some false
          else
            if (v11.2 != v13.2) = true then
              some false
            else
              if (v11.2 == 0) = true then
                (btree_ReadRoot v11.1).bind fun v37 =>
                if (!((v37.1.Line == x8.Line) && (v37.1.Gen == x8.Gen))) = true then
                  some false
                else
                  if (v37.2.1 != x5) = true then
                    some false
                  else
                    if (v37.2.2 != 0) = true then
                      some false
                    else
                      if (v11.1.Data.a1 != a0.Data.a1) = true then
                        some false
                      else
                        if (v11.1.Data.a6 != a0.Data.a6) = true then
                          some false
                        else
                          bodegalaw24_TreeRoots_J2 ()
              else
                bodegalaw24_TreeRoots_J2 ()
noncomputable def bodegalaw24_TreeRoots (a0 : api_Page) (a1 : pointer_Pointer) (a2 : Int) (a3 : Int) : Option Bool :=
  (bodegahand_Pick a3 6).bind fun v43 =>
  if (decide (v43 > 0)) = true then
    (bodegalaw24_aim a1).bind fun v45 =>
    (bodegahand_Pick a2 12).bind fun v46 =>
    bodegalaw24_TreeRoots_J1 a0 ((IntKind.i64.wrap (v46 - 1)), 96, (IntKind.u64.wrap ((IntKind.u64.wrap ((Int.tmod a0.Data.a0 3) * (IntKind.u64.wrap ((IntKind.u64.wrap (104 + (Int.tmod (IntKind.u64.wrap (Int.tdiv a0.Data.a0 3)) 160))) + (IntKind.u64.wrap ((Int.tmod (IntKind.u64.wrap (Int.tdiv a0.Data.a0 600)) 3) * 256)))))) + (shlV .u64 (Int.tmod (IntKind.u64.wrap (Int.tdiv a0.Data.a0 9999)) 10) 32))), v45)
  else
    bodegalaw24_TreeRoots_J1 a0 (a2, a0.Line, a0.Data.a0, a1)
theorem bodegalaw24_TreeRoots_ok (G : Glob) (hG0 : G.glob 0 = some [(.int .i64 0), (.int .i64 0)]) (a0 : api_Page) (a1 : pointer_Pointer) (a2 : Int) (a3 : Int) (res : Bool) (h : bodegalaw24_TreeRoots a0 a1 a2 a3 = some res) : Spec Tryz.prog G 3 [.agg (g_yylp a0), .agg [.p (.int .i64 a1.Line), .p (.int .i64 a1.Gen)], .cell (.p (.int .i64 a2)), .cell (.p (.int .i64 a3))] (fun r ios => r = .cell (.p (.bool res)) ∧ ios = []) := by
  rw [bodegalaw24_TreeRoots] at h
  refine spec_of Tryz.mixed Tryz.func3 rfl rfl (by simp only [List.length]; decide +kernel) ?_
  refine swp_fresh (fun g => stL [(0, (.agg (b_mq86 a0))), (1, (.agg [(.p (.int .i64 a1.Line)), (.p (.int .i64 a1.Gen))])), (2, (.c (.p (.int .i64 a2)))), (3, (.c (.p (.int .i64 a3))))] [] (g + 1)) (ren_go (fun g S => []) fun g S => []) fun g => ?_
  refine seq_reg rfl (fun K hK => ?_)
  simp -implicitDefEqProofs +decide only [go_sem, Nat.reduceAdd, Int.reduceToNat]
  refine hK _ ?_
  refine cut1 (Joins (bodegalaw24_TreeRoots_J1 a0) (fun g x => match x with | (x5, x6, x7, x8) => stL [(2, (.c (.p (.int .i64 x5)))), (4, (.c (.ptr ⟨1024000001, g⟩ 0 0))), (5, (.c (.ptr ⟨1024000002, g⟩ 0 0)))] [(⟨1024000001, g⟩, .box true [(.p (.int .i64 x6)), (.p (.int .u64 a0.Head)), (.p (.int .u64 x7)), (.p (.int .u64 a0.Data.a1)), (.p (.int .u64 a0.Data.a2)), (.p (.int .u64 a0.Data.a3)), (.p (.int .u64 a0.Data.a4)), (.p (.int .u64 a0.Data.a5)), (.p (.int .u64 a0.Data.a6))]), (⟨1024000002, g⟩, .box true [(.p (.int .i64 x8.Line)), (.p (.int .i64 x8.Gen))])] (g + 1)) res) ?_ (fun hj1 => ?_)
  ·refine join_of ?_
   rintro g ⟨x5, x6, x7, x8⟩ h
   rw [bodegalaw24_TreeRoots_J1] at h
   try dsimp only
   refine seq_reg rfl (fun K hK => ?_)
   refine bind_of h (fun v9 hv9 h => ?_)
   simp -implicitDefEqProofs +decide only [go_sem, Nat.reduceAdd, Int.reduceToNat]
   refine call_go [0] false (btree_ReadRoot_ok (cG G) hG0 _ _ hv9) ?_
   simp -implicitDefEqProofs +decide only [go_sem, Nat.reduceAdd, Int.reduceToNat]
   refine hK _ ?_
   refine seq_reg rfl (fun K hK => ?_)
   refine bind_of h (fun v10 hv10 h => ?_)
   simp -implicitDefEqProofs +decide only [go_sem, Nat.reduceAdd, Int.reduceToNat]
   refine call_go [0] false (bodegaref24_ReadRoot_ok (cG G) hG0 _ _ hv10) ?_
   simp -implicitDefEqProofs +decide only [go_sem, Nat.reduceAdd, Int.reduceToNat]
   refine hK _ ?_
   refine seq_reg rfl (fun K hK => ?_)
   refine bind_of h (fun v11 hv11 h => ?_)
   simp -implicitDefEqProofs +decide only [go_sem, Nat.reduceAdd, Int.reduceToNat]
   refine call_go [0, 0, 0] false (btree_WriteRoot_ok (cG G) hG0 _ _ _ _ hv11) ?_
   simp -implicitDefEqProofs +decide only [go_sem, Nat.reduceAdd, Int.reduceToNat]
   refine hK _ ?_
   refine seq_drw rfl (fun K hK => ?_)
   refine bind_of h (fun v12 hv12 h => ?_)
   simp -implicitDefEqProofs +decide only [go_sem, Nat.reduceAdd, Int.reduceToNat]
   refine call_go [0] false (bodegalaw24_ref_ok (cG G) hG0 _ _ hv12) ?_
   refine bind_of h (fun v13 hv13 h => ?_)
   simp -implicitDefEqProofs +decide only [go_sem, Nat.reduceAdd, Int.reduceToNat]
   refine call_go [0, 0, 0] false (bodegaref24_WriteRoot_ok (cG G) hG0 _ _ _ _ hv13) ?_
   simp -implicitDefEqProofs +decide only [go_sem, Nat.reduceAdd, Int.reduceToNat]
   refine draw_go (by kernel_rfl) ?_
   refine hK _ ?_
   refine swp_seq ?_
   refine seq_drw rfl (fun K hK => ?_)
   refine bind_of h (fun v21 hv21 h => ?_)
   simp -implicitDefEqProofs +decide only [go_sem, Nat.reduceAdd, Int.reduceToNat]
   refine call_go [0] false (bodegalaw24_ref_ok (cG G) hG0 _ _ hv21) ?_
   refine bsplit h (fun hb22 h => ?_) (fun hb22 h => ?_)
   ·simp -implicitDefEqProofs +decide only [go_sem, Nat.reduceAdd, Int.reduceToNat, hb22]
    refine draw_go (by kernel_rfl) ?_
    refine hK _ ?_
    refine cond_t (by simp -implicitDefEqProofs +decide only [go_sem, hb22]) ?_
    refine seq_reg rfl (fun K hK => ?_)
    simp -implicitDefEqProofs +decide only [go_sem, Nat.reduceAdd, Int.reduceToNat, hb22]
    refine hK _ ?_
    refine swp_ret ?_
    with_reducible repeat first|apply nn|apply nb|apply nr|apply nc|apply ne|apply nq|apply nx rfl
    obtain rfl := some_eq h
    simp -implicitDefEqProofs +decide only [go_sem, Nat.reduceAdd, Int.reduceToNat]
    all_goals first | done | trivial | assumption | (simp [maps]; done) | (simp [maps, hb22]; done)
   ·refine bsplit h (fun hb23 h => ?_) (fun hb23 h => ?_)
    ·simp -implicitDefEqProofs +decide only [go_sem, Nat.reduceAdd, Int.reduceToNat, hb22, hb23]
     refine draw_go (by kernel_rfl) ?_
     refine hK _ ?_
     refine cond_t (by simp -implicitDefEqProofs +decide only [go_sem, hb22, hb23]) ?_
     refine seq_reg rfl (fun K hK => ?_)
     simp -implicitDefEqProofs +decide only [go_sem, Nat.reduceAdd, Int.reduceToNat, hb22, hb23]
     refine hK _ ?_
     refine swp_ret ?_
     with_reducible repeat first|apply nn|apply nb|apply nr|apply nc|apply ne|apply nq|apply nx rfl
     obtain rfl := some_eq h
     simp -implicitDefEqProofs +decide only [go_sem, Nat.reduceAdd, Int.reduceToNat]
     all_goals first | done | trivial | assumption | (simp [maps]; done) | (simp [maps, hb22, hb23]; done)
    ·refine bsplit h (fun hb24 h => ?_) (fun hb24 h => ?_)
     ·simp -implicitDefEqProofs +decide only [go_sem, Nat.reduceAdd, Int.reduceToNat, hb22, hb23, hb24]
      refine draw_go (by kernel_rfl) ?_
      refine hK _ ?_
      refine cond_t (by simp -implicitDefEqProofs +decide only [go_sem, hb22, hb23, hb24]) ?_
      refine seq_reg rfl (fun K hK => ?_)
      simp -implicitDefEqProofs +decide only [go_sem, Nat.reduceAdd, Int.reduceToNat, hb22, hb23, hb24]
      refine hK _ ?_
      refine swp_ret ?_
      with_reducible repeat first|apply nn|apply nb|apply nr|apply nc|apply ne|apply nq|apply nx rfl
      obtain rfl := some_eq h
      simp -implicitDefEqProofs +decide only [go_sem, Nat.reduceAdd, Int.reduceToNat]
      all_goals first | done | trivial | assumption | (simp [maps]; done) | (simp [maps, hb22, hb23, hb24]; done)
     ·refine bind_of h (fun v25 hv25 h => ?_)
      simp -implicitDefEqProofs +decide only [go_sem, Nat.reduceAdd, Int.reduceToNat, hb22, hb23, hb24]
      refine call_go [0, 0] false (bodegalaw24_same_ok (cG G) hG0 _ _ _ hv25) ?_
      refine bsplit h (fun hb26 h => ?_) (fun hb26 h => ?_)
      ·simp -implicitDefEqProofs +decide only [go_sem, Nat.reduceAdd, Int.reduceToNat, hb22, hb23, hb24, hb26]
       refine draw_go (by kernel_rfl) ?_
       refine hK _ ?_
       refine cond_t (by simp -implicitDefEqProofs +decide only [go_sem, hb22, hb23, hb24, hb26]) ?_
       refine seq_reg rfl (fun K hK => ?_)
       simp -implicitDefEqProofs +decide only [go_sem, Nat.reduceAdd, Int.reduceToNat, hb22, hb23, hb24, hb26]
       refine hK _ ?_
       refine swp_ret ?_
       with_reducible repeat first|apply nn|apply nb|apply nr|apply nc|apply ne|apply nq|apply nx rfl
       obtain rfl := some_eq h
       simp -implicitDefEqProofs +decide only [go_sem, Nat.reduceAdd, Int.reduceToNat]
       all_goals first | done | trivial | assumption | (simp [maps]; done) | (simp [maps, hb22, hb23, hb24, hb26]; done)
      ·simp -implicitDefEqProofs +decide only [go_sem, Nat.reduceAdd, Int.reduceToNat, hb22, hb23, hb24, hb26]
       refine draw_go (by kernel_rfl) ?_
       refine hK _ ?_
       refine bsplit h (fun hb27 h => ?_) (fun hb27 h => ?_)
       ·refine cond_t (by simp -implicitDefEqProofs +decide only [go_sem, hb22, hb23, hb24, hb26, hb27]) ?_
        refine seq_reg rfl (fun K hK => ?_)
        simp -implicitDefEqProofs +decide only [go_sem, Nat.reduceAdd, Int.reduceToNat, hb22, hb23, hb24, hb26, hb27]
        refine hK _ ?_
        refine swp_ret ?_
        with_reducible repeat first|apply nn|apply nb|apply nr|apply nc|apply ne|apply nq|apply nx rfl
        obtain rfl := some_eq h
        simp -implicitDefEqProofs +decide only [go_sem, Nat.reduceAdd, Int.reduceToNat]
        all_goals first | done | trivial | assumption | (simp [maps]; done) | (simp [maps, hb22, hb23, hb24, hb26, hb27]; done)
       ·refine cond_f (by simp -implicitDefEqProofs +decide only [go_sem, hb22, hb23, hb24, hb26, hb27]) ?_
        refine swp_skip ?_
        with_reducible repeat first|apply nn|apply nb|apply nr|apply nc|apply ne|apply nq|apply nx rfl
        refine cut1 (Joins (bodegalaw24_TreeRoots_J2) (fun g _ => stL [] [] (g + 1)) res) ?_ (fun hj2 => ?_)
        ·refine join_of ?_
         rintro g ⟨⟩ h
         rw [bodegalaw24_TreeRoots_J2] at h
         try dsimp only
         refine seq_reg rfl (fun K hK => ?_)
         refine bind_of h (fun v35 hv35 h => ?_)
         simp -implicitDefEqProofs +decide only [go_sem, Nat.reduceAdd, Int.reduceToNat, hb22, hb23, hb24, hb26, hb27]
         refine call_go [] false (bodegalaw24_awake_ok (cG G) hG0 _ hv35) ?_
         simp -implicitDefEqProofs +decide only [go_sem, Nat.reduceAdd, Int.reduceToNat, hb22, hb23, hb24, hb26, hb27]
         refine hK _ ?_
         refine swp_ret ?_
         with_reducible repeat first|apply nn|apply nb|apply nr|apply nc|apply ne|apply nq|apply nx rfl
         obtain rfl := some_eq h
         simp -implicitDefEqProofs +decide only [go_sem, Nat.reduceAdd, Int.reduceToNat]
         all_goals first | done | trivial | assumption | (simp [maps]; done) | (simp [maps, hb22, hb23, hb24, hb26, hb27]; done)
        refine swp_seq ?_
        refine seq_reg rfl (fun K hK => ?_)
        simp -implicitDefEqProofs +decide only [go_sem, Nat.reduceAdd, Int.reduceToNat, hb22, hb23, hb24, hb26, hb27]
        refine hK _ ?_
        refine bsplit h (fun hb36 h => ?_) (fun hb36 h => ?_)
        ·refine cond_t (by simp -implicitDefEqProofs +decide only [go_sem, hb22, hb23, hb24, hb26, hb27, hb36]) ?_
         refine seq_reg rfl (fun K hK => ?_)
         refine bind_of h (fun v37 hv37 h => ?_)
         simp -implicitDefEqProofs +decide only [go_sem, Nat.reduceAdd, Int.reduceToNat, hb22, hb23, hb24, hb26, hb27, hb36]
         refine call_go [0] false (btree_ReadRoot_ok (cG G) hG0 _ _ hv37) ?_
         simp -implicitDefEqProofs +decide only [go_sem, Nat.reduceAdd, Int.reduceToNat, hb22, hb23, hb24, hb26, hb27, hb36]
         refine hK _ ?_
         refine seq_reg rfl (fun K hK => ?_)
         refine bsplit h (fun hb38 h => ?_) (fun hb38 h => ?_)
         ·simp -implicitDefEqProofs +decide only [go_sem, Nat.reduceAdd, Int.reduceToNat, hb22, hb23, hb24, hb26, hb27, hb36, hb38]
          refine hK _ ?_
          refine cond_t (by simp -implicitDefEqProofs +decide only [go_sem, hb22, hb23, hb24, hb26, hb27, hb36, hb38]) ?_
          refine seq_reg rfl (fun K hK => ?_)
          simp -implicitDefEqProofs +decide only [go_sem, Nat.reduceAdd, Int.reduceToNat, hb22, hb23, hb24, hb26, hb27, hb36, hb38]
          refine hK _ ?_
          refine swp_ret ?_
          with_reducible repeat first|apply nn|apply nb|apply nr|apply nc|apply ne|apply nq|apply nx rfl
          obtain rfl := some_eq h
          simp -implicitDefEqProofs +decide only [go_sem, Nat.reduceAdd, Int.reduceToNat]
          all_goals first | done | trivial | assumption | (simp [maps]; done) | (simp [maps, hb22, hb23, hb24, hb26, hb27, hb36, hb38]; done)
         ·refine bsplit h (fun hb39 h => ?_) (fun hb39 h => ?_)
          ·simp -implicitDefEqProofs +decide only [go_sem, Nat.reduceAdd, Int.reduceToNat, hb22, hb23, hb24, hb26, hb27, hb36, hb38, hb39]
           refine hK _ ?_
           refine cond_t (by simp -implicitDefEqProofs +decide only [go_sem, hb22, hb23, hb24, hb26, hb27, hb36, hb38, hb39]) ?_
           refine seq_reg rfl (fun K hK => ?_)
           simp -implicitDefEqProofs +decide only [go_sem, Nat.reduceAdd, Int.reduceToNat, hb22, hb23, hb24, hb26, hb27, hb36, hb38, hb39]
           refine hK _ ?_
           refine swp_ret ?_
           with_reducible repeat first|apply nn|apply nb|apply nr|apply nc|apply ne|apply nq|apply nx rfl
           obtain rfl := some_eq h
           simp -implicitDefEqProofs +decide only [go_sem, Nat.reduceAdd, Int.reduceToNat]
           all_goals first | done | trivial | assumption | (simp [maps]; done) | (simp [maps, hb22, hb23, hb24, hb26, hb27, hb36, hb38, hb39]; done)
          ·refine bsplit h (fun hb40 h => ?_) (fun hb40 h => ?_)
           ·simp -implicitDefEqProofs +decide only [go_sem, Nat.reduceAdd, Int.reduceToNat, hb22, hb23, hb24, hb26, hb27, hb36, hb38, hb39, hb40]
            refine hK _ ?_
            refine cond_t (by simp -implicitDefEqProofs +decide only [go_sem, hb22, hb23, hb24, hb26, hb27, hb36, hb38, hb39, hb40]) ?_
            refine seq_reg rfl (fun K hK => ?_)
            simp -implicitDefEqProofs +decide only [go_sem, Nat.reduceAdd, Int.reduceToNat, hb22, hb23, hb24, hb26, hb27, hb36, hb38, hb39, hb40]
            refine hK _ ?_
            refine swp_ret ?_
            with_reducible repeat first|apply nn|apply nb|apply nr|apply nc|apply ne|apply nq|apply nx rfl
            obtain rfl := some_eq h
            simp -implicitDefEqProofs +decide only [go_sem, Nat.reduceAdd, Int.reduceToNat]
            all_goals first | done | trivial | assumption | (simp [maps]; done) | (simp [maps, hb22, hb23, hb24, hb26, hb27, hb36, hb38, hb39, hb40]; done)
           ·refine bsplit h (fun hb41 h => ?_) (fun hb41 h => ?_)
            ·simp -implicitDefEqProofs +decide only [go_sem, Nat.reduceAdd, Int.reduceToNat, hb22, hb23, hb24, hb26, hb27, hb36, hb38, hb39, hb40, hb41]
             refine hK _ ?_
             refine cond_t (by simp -implicitDefEqProofs +decide only [go_sem, hb22, hb23, hb24, hb26, hb27, hb36, hb38, hb39, hb40, hb41]) ?_
             refine seq_reg rfl (fun K hK => ?_)
             simp -implicitDefEqProofs +decide only [go_sem, Nat.reduceAdd, Int.reduceToNat, hb22, hb23, hb24, hb26, hb27, hb36, hb38, hb39, hb40, hb41]
             refine hK _ ?_
             refine swp_ret ?_
             with_reducible repeat first|apply nn|apply nb|apply nr|apply nc|apply ne|apply nq|apply nx rfl
             obtain rfl := some_eq h
             simp -implicitDefEqProofs +decide only [go_sem, Nat.reduceAdd, Int.reduceToNat]
             all_goals first | done | trivial | assumption | (simp [maps]; done) | (simp [maps, hb22, hb23, hb24, hb26, hb27, hb36, hb38, hb39, hb40, hb41]; done)
            ·simp -implicitDefEqProofs +decide only [go_sem, Nat.reduceAdd, Int.reduceToNat, hb22, hb23, hb24, hb26, hb27, hb36, hb38, hb39, hb40, hb41]
             refine hK _ ?_
             refine bsplit h (fun hb42 h => ?_) (fun hb42 h => ?_)
             ·refine cond_t (by simp -implicitDefEqProofs +decide only [go_sem, hb22, hb23, hb24, hb26, hb27, hb36, hb38, hb39, hb40, hb41, hb42]) ?_
              refine seq_reg rfl (fun K hK => ?_)
              simp -implicitDefEqProofs +decide only [go_sem, Nat.reduceAdd, Int.reduceToNat, hb22, hb23, hb24, hb26, hb27, hb36, hb38, hb39, hb40, hb41, hb42]
              refine hK _ ?_
              refine swp_ret ?_
              with_reducible repeat first|apply nn|apply nb|apply nr|apply nc|apply ne|apply nq|apply nx rfl
              obtain rfl := some_eq h
              simp -implicitDefEqProofs +decide only [go_sem, Nat.reduceAdd, Int.reduceToNat]
              all_goals first | done | trivial | assumption | (simp [maps]; done) | (simp [maps, hb22, hb23, hb24, hb26, hb27, hb36, hb38, hb39, hb40, hb41, hb42]; done)
             ·refine cond_f (by simp -implicitDefEqProofs +decide only [go_sem, hb22, hb23, hb24, hb26, hb27, hb36, hb38, hb39, hb40, hb41, hb42]) ?_
              refine swp_skip ?_
              with_reducible repeat first|apply nn|apply nb|apply nr|apply nc|apply ne|apply nq|apply nx rfl
              exact jump_of hj2 h (ren_go (fun g S => []) fun g S => [])
        ·refine cond_f (by simp -implicitDefEqProofs +decide only [go_sem, hb22, hb23, hb24, hb26, hb27, hb36]) ?_
         refine swp_skip ?_
         with_reducible repeat first|apply nn|apply nb|apply nr|apply nc|apply ne|apply nq|apply nx rfl
         exact jump_of hj2 h (ren_go (fun g S => []) fun g S => [])
  refine swp_seq ?_
  refine seq_reg rfl (fun K hK => ?_)
  refine bind_of h (fun v43 hv43 h => ?_)
  simp -implicitDefEqProofs +decide only [go_sem, Nat.reduceAdd, Int.reduceToNat]
  refine call_go [0, 0] false (bodegahand_Pick_ok (cG G) hG0 _ _ _ hv43) ?_
  simp -implicitDefEqProofs +decide only [go_sem, Nat.reduceAdd, Int.reduceToNat]
  refine hK _ ?_
  refine bsplit h (fun hb44 h => ?_) (fun hb44 h => ?_)
  ·refine cond_t (by simp -implicitDefEqProofs +decide only [go_sem, hb44]) ?_
   refine seq_reg rfl (fun K hK => ?_)
   simp -implicitDefEqProofs +decide only [go_sem, Nat.reduceAdd, Int.reduceToNat, hb44]
   refine hK _ ?_
   refine seq_reg rfl (fun K hK => ?_)
   refine bind_of h (fun v45 hv45 h => ?_)
   simp -implicitDefEqProofs +decide only [go_sem, Nat.reduceAdd, Int.reduceToNat, hb44]
   refine call_go [0] false (bodegalaw24_aim_ok (cG G) hG0 _ _ hv45) ?_
   simp -implicitDefEqProofs +decide only [go_sem, Nat.reduceAdd, Int.reduceToNat, hb44]
   refine hK _ ?_
   refine seq_reg rfl (fun K hK => ?_)
   refine bind_of h (fun v46 hv46 h => ?_)
   simp -implicitDefEqProofs +decide only [go_sem, Nat.reduceAdd, Int.reduceToNat, hb44]
   refine call_go [0, 0] false (bodegahand_Pick_ok (cG G) hG0 _ _ _ hv46) ?_
   simp -implicitDefEqProofs +decide only [go_sem, Nat.reduceAdd, Int.reduceToNat, hb44]
   refine hK _ ?_
   refine swp_reg rfl (fun K hK => ?_)
   simp -implicitDefEqProofs +decide only [go_sem, Nat.reduceAdd, Int.reduceToNat, hb44]
   refine hK _ ?_
   with_reducible repeat first|apply nn|apply nb|apply nr|apply nc|apply ne|apply nq|apply nx rfl
   exact jump_of hj1 h (ren_go (fun g S => [(⟨1024000001, g⟩, (keyT 0 (St.env S 4))), (⟨1024000002, g⟩, (keyT 0 (St.env S 5)))]) fun g S => [])
  ·refine cond_f (by simp -implicitDefEqProofs +decide only [go_sem, hb44]) ?_
   refine swp_skip ?_
   with_reducible repeat first|apply nn|apply nb|apply nr|apply nc|apply ne|apply nq|apply nx rfl
   exact jump_of hj1 h (ren_go (fun g S => [(⟨1024000001, g⟩, (keyT 0 (St.env S 4))), (⟨1024000002, g⟩, (keyT 0 (St.env S 5)))]) fun g S => [])
end Go.Sh
end
section
namespace Go.Sh

def lo (w : Int) : Int := w % 4294967296
def hi (w : Int) : Int := w / 4294967296
theorem lo_r {w : Int} : 0 ≤ lo w ∧ lo w < 4294967296 := by unfold lo; omega
theorem hi_r {w : Int} (h : 0 ≤ w ∧ w ≤ 18446744073709551615) : 0 ≤ hi w ∧ hi w < 4294967296 := by unfold hi; omega
theorem u32_lo {w : Int} : IntKind.u32.wrap w = lo w := u32_mod
def dp (w : Int) : pointer_Pointer := ⟨w % 256, w / 256⟩
def two (a b : Int) : Int := a + b * 4294967296
def zeroPg : api_Page := ⟨0, 0, ⟨0, 0, 0, 0, 0, 0, 0⟩⟩
def pkP (p : pointer_Pointer) : Int := pk p.Line p.Gen
theorem pkP_r (p : pointer_Pointer) : 0 ≤ pkP p ∧ pkP p < 4294967296 := pk_range _ _
theorem PackP_eq (p : pointer_Pointer) : pointer_Pack p = some (pkP p) := Pack_eq p
theorem PackC_eq (p : pointer_Pointer) : bodegaref19_Pack (cP p) = some (pkP p) := PackR_eq _
theorem two_or {a b : Int} (h : 0 ≤ a ∧ a < 4294967296) (h' : 0 ≤ b ∧ b < 4294967296) : bits .or .u64 (IntKind.u64.wrap a) (shlV .u64 (IntKind.u64.wrap b) 32) = two a b := by
  rw [u64_in' (x := a) (by omega), u64_in' (x := b) (by omega), shl_u64_32, u64_in' (by omega), or64_lo32 (by omega) (by omega) (by omega)]; rfl
theorem two_add {a b : Int} (h : 0 ≤ a ∧ a < 4294967296) (h' : 0 ≤ b ∧ b < 4294967296) : IntKind.u64.wrap (IntKind.u64.wrap a + shlV .u64 (IntKind.u64.wrap b) 32) = two a b := by
  rw [u64_in' (x := a) (by omega), u64_in' (x := b) (by omega), shl_u64_32, u64_in' (x := b * 4294967296) (by omega), u64_in' (by omega)]; rfl
theorem two_lo {a b : Int} (h : 0 ≤ a ∧ a < 4294967296) : lo (two a b) = a := by unfold lo two; omega
theorem two_hi {a b : Int} (h : 0 ≤ a ∧ a < 4294967296) : hi (two a b) = b := by unfold hi two; omega
theorem two_k {a b : Int} (h : 0 ≤ a ∧ a < 4294967296) (h' : 0 ≤ b ∧ b < 4294967296) : k_u64 (two a b) := by unfold k_u64 two; omega
theorem two_eq {w : Int} : two (lo w) (hi w) = w := by unfold two lo hi; omega
theorem two_z {a b : Int} (h : 0 ≤ a ∧ a < 4294967296) (h' : 0 ≤ b ∧ b < 4294967296) : two a b = 0 ↔ a = 0 ∧ b = 0 := by unfold two; omega

/-- Can a root pointer and its level be stored? -/
def vr (p : pointer_Pointer) (l : Int) : Bool := if p.Line = 0 ∧ p.Gen = 0 then l == 0 else vp p.Line p.Gen && (decide (l ≥ 0) && decide (l ≤ 8))
theorem validRoot_eq (p : pointer_Pointer) (l : Int) : btree_validRoot p l = some (vr p l) := by
  unfold btree_validRoot vr
  by_cases h : p.Line = 0 ∧ p.Gen = 0
  · obtain ⟨h1, h2⟩ := h; simp [h1, h2]
  · have : (p.Line == 0 && p.Gen == 0) = false := by simpa using h
    simp only [this, h, if_false, Bool.false_eq_true, Valid_eq, bind_s]
def rdRoot (p : api_Page) : pointer_Pointer × Int × Int :=
  if p.Line ≠ 96 then (⟨0, 0⟩, 0, 1) else if vr (dp (lo p.Data.a0)) (hi p.Data.a0) = true then (dp (lo p.Data.a0), hi p.Data.a0, 0) else (⟨0, 0⟩, 0, 14)
theorem ReadRoot_eq (p : api_Page) (h : k_u64 p.Data.a0) : btree_ReadRoot p = some (rdRoot p) := by
  unfold btree_ReadRoot rdRoot
  have hh := hi_r h
  by_cases hl : p.Line = 96
  · rw [u32_lo, Unpack_eq lo_r, shr_u64_32, show p.Data.a0 / 4294967296 = hi p.Data.a0 from rfl, i64_in' (by omega)]
    simp only [hl, bne_self_eq_false, Bool.false_eq_true, if_false, ne_eq, not_true_eq_false, bind_s, validRoot_eq]
    rw [show (⟨lo p.Data.a0 % 256, lo p.Data.a0 / 256⟩ : pointer_Pointer) = dp (lo p.Data.a0) from rfl]
    rcases Bool.eq_false_or_eq_true (vr (dp (lo p.Data.a0)) (hi p.Data.a0)) with hv | hv <;> simp [hv]
  · have : (p.Line != 96) = true := by simp [hl]
    simp only [this, if_true, hl, ne_eq, not_false_eq_true]
theorem dp0 {w : Int} (h : 0 ≤ w ∧ w < 4294967296) : (dp w).Line = 0 ∧ (dp w).Gen = 0 ↔ w = 0 := by unfold dp; simp only; omega
theorem ReadRootR_eq (p : api_Page) (h : k_u64 p.Data.a0) : bodegaref24_ReadRoot p = some (cP (rdRoot p).1, (rdRoot p).2) := by
  unfold bodegaref24_ReadRoot rdRoot
  have hh := hi_r h
  have hlo := @lo_r p.Data.a0
  have h2 := @two_eq p.Data.a0
  by_cases hl : p.Line = 96
  · rw [u32_lo, UnpackR_eq lo_r, shr_u64_32, show p.Data.a0 / 4294967296 = hi p.Data.a0 from rfl, i64_in' (by omega)]
    simp only [hl, bne_self_eq_false, Bool.false_eq_true, if_false, ne_eq, not_true_eq_false, bind_s, ValidR_eq]
    by_cases hz : p.Data.a0 = 0
    · have e1 : lo p.Data.a0 = 0 := by rw [hz]; rfl
      have e2 : hi p.Data.a0 = 0 := by rw [hz]; rfl
      rw [hz] at e1 e2 ⊢
      simp [e1, e2, vr, dp, cP]
    · have hz' : (p.Data.a0 == 0) = false := by simpa using hz
      simp only [hz', Bool.false_eq_true, if_false]
      unfold vr
      by_cases h0 : (dp (lo p.Data.a0)).Line = 0 ∧ (dp (lo p.Data.a0)).Gen = 0
      · have hw := (dp0 hlo).1 h0
        have hh0 : ¬ hi p.Data.a0 = 0 := fun e => hz (by rw [← h2, hw, e]; rfl)
        have hvp : vp (lo p.Data.a0 % 256) (lo p.Data.a0 / 256) = false := by rw [hw]; decide
        simp only [h0, and_self, if_true, hvp, Bool.not_false, beq_iff_eq, hh0, if_false]
        rfl
      · simp only [h0, if_false]
        rw [show (dp (lo p.Data.a0)).Line = lo p.Data.a0 % 256 from rfl, show (dp (lo p.Data.a0)).Gen = lo p.Data.a0 / 256 from rfl]
        have hge : (p.Data.a0 ≥ 38654705664) = ¬ (hi p.Data.a0 ≤ 8) := by
          unfold hi; simp only [ge_iff_le, Int.not_le, eq_iff_iff]; omega
        have h0' : hi p.Data.a0 ≥ 0 := hh.1
        rcases Bool.eq_false_or_eq_true (vp (lo p.Data.a0 % 256) (lo p.Data.a0 / 256)) with hv | hv <;> by_cases h8 : hi p.Data.a0 ≤ 8 <;> simp [hv, hge, h8, h0', cP, dp]
  · have : (p.Line != 96) = true := by simp [hl]
    simp only [this, if_true, hl, ne_eq, not_false_eq_true]
    rfl
def wrPg (p : api_Page) (r : pointer_Pointer) (l : Int) : api_Page := ⟨p.Line, p.Head, ⟨two (pkP r) l, p.Data.a1, p.Data.a2, p.Data.a3, p.Data.a4, p.Data.a5, p.Data.a6⟩⟩
def wrRoot (p : api_Page) (r : pointer_Pointer) (l : Int) : api_Page × Int := if p.Line = 96 ∧ vr r l = true then (wrPg p r l, 0) else (zeroPg, 1)
theorem vr_level {r : pointer_Pointer} {l : Int} (h : vr r l = true) : 0 ≤ l ∧ l ≤ 8 ∧ good r.Line r.Gen = true := by
  unfold vr at h
  split at h
  · rename_i h0; obtain ⟨e1, e2⟩ := h0
    have : l = 0 := by simpa using h
    subst this; rw [e1, e2]; decide
  · simp only [Bool.and_eq_true, decide_eq_true_eq] at h
    exact ⟨h.2.1, h.2.2, by unfold good; rw [h.1]; simp⟩
theorem WriteRoot_eq (p : api_Page) (r : pointer_Pointer) (l : Int) : btree_WriteRoot p r l = some (wrRoot p r l) := by
  unfold btree_WriteRoot wrRoot
  by_cases hl : p.Line = 96
  · rcases Bool.eq_false_or_eq_true (vr r l) with hv | hv
    · have := vr_level hv
      simp only [hl, bne_self_eq_false, Bool.false_eq_true, if_false, validRoot_eq, bind_s, hv, Bool.not_true, PackP_eq, and_self, if_true]
      rw [two_or (pkP_r _) (by omega)]
      simp [wrPg, hl]
    · simp [hl, hv, validRoot_eq, zeroPg]
  · have : (p.Line != 96) = true := by simp [hl]
    simp only [this, if_true, hl, false_and, if_false]
    rfl
theorem WriteRootR_eq (p : api_Page) (r : pointer_Pointer) (l : Int) : bodegaref24_WriteRoot p (cP r) l = some (wrRoot p r l) := by
  unfold bodegaref24_WriteRoot wrRoot
  by_cases hl : p.Line = 96
  · simp only [hl, bne_self_eq_false, Bool.false_eq_true, if_false, true_and]
    have hJ : (0 ≤ l ∧ l ≤ 8) → bodegaref24_WriteRoot_J1 (cP r) p l () = some (wrPg p r l, 0) := fun h => by
      unfold bodegaref24_WriteRoot_J1
      simp only [PackC_eq, bind_s]
      rw [two_add (pkP_r _) (by omega)]
      rfl
    unfold vr
    by_cases h0 : l < 0
    · have hb : ¬ (0 ≤ l) := by omega
      have hne : ¬ l = 0 := by omega
      simp only [h0, decide_true, if_true, hb, ge_iff_le, decide_false, Bool.false_and, Bool.and_false, Bool.false_eq_true, if_false, beq_iff_eq, hne, ite_self]
      rw [if_neg (by split <;> simp [hne])]
      rfl
    · by_cases h8 : l > 8
      · have hb : ¬ (l ≤ 8) := by omega
        have hne : ¬ l = 0 := by omega
        simp only [h0, h8, decide_true, decide_false, Bool.false_eq_true, if_false, if_true]
        rw [if_neg (by split <;> simp [hne, hb])]
        rfl
      · simp only [h0, h8, decide_false, Bool.false_eq_true, if_false]
        rw [show (cP r).Line = r.Line from rfl, show (cP r).Gen = r.Gen from rfl]
        by_cases hz : r.Line = 0 ∧ r.Gen = 0
        · obtain ⟨e1, e2⟩ := hz
          simp only [e1, e2, beq_self_eq_true, Bool.and_self, if_true, and_self]
          by_cases hl0 : l = 0
          · subst hl0; simp [hJ]
          · have : (l != 0) = true := by simp [hl0]
            simp only [this, if_true, beq_iff_eq, hl0, if_false]; rfl
        · have : (r.Line == 0 && r.Gen == 0) = false := by simpa using hz
          simp only [this, Bool.false_eq_true, if_false, hz, ValidR_eq, bind_s]
          rw [show (cP r).Line = r.Line from rfl, show (cP r).Gen = r.Gen from rfl]
          have h1 : l ≥ 0 := by omega
          have h2 : l ≤ 8 := by omega
          rcases Bool.eq_false_or_eq_true (vp r.Line r.Gen) with hv | hv
          · simp [hv, h1, h2, hJ (by omega)]
          · simp [hv, zeroPg]
  · have : (p.Line != 96) = true := by simp [hl]
    simp only [this, if_true, hl, false_and, if_false]
    rfl
theorem dp_pk {p : pointer_Pointer} (h : good p.Line p.Gen = true) : dp (pkP p) = p := by
  obtain ⟨h1, h2, h3⟩ := pk_dec h
  unfold dp pkP
  rw [h1, h2]
theorem rd_wr {p : api_Page} {r : pointer_Pointer} {l : Int} (hl : p.Line = 96) (hv : vr r l = true) : rdRoot (wrPg p r l) = (r, l, 0) := by
  have h3 := vr_level hv
  unfold rdRoot
  rw [show (wrPg p r l).Line = p.Line from rfl, show (wrPg p r l).Data.a0 = two (pkP r) l from rfl, two_lo (pkP_r _), two_hi (pkP_r _), dp_pk h3.2.2, hl, hv]
  simp
theorem J1_roots (hA : bodegalaw24_awake = some true) (p : api_Page) (x6 x7 x5 : Int) (to : pointer_Pointer) (hx : k_u64 x7) : bodegalaw24_TreeRoots_J1 p (x5, x6, x7, to) = some true := by
  unfold bodegalaw24_TreeRoots_J1
  have h2 : bodegalaw24_TreeRoots_J2 () = some true := by unfold bodegalaw24_TreeRoots_J2; rw [hA]; rfl
  simp only [ref_eq, bind_s, WriteRoot_eq, WriteRootR_eq]
  generalize hq : (⟨x6, p.Head, ⟨x7, p.Data.a1, p.Data.a2, p.Data.a3, p.Data.a4, p.Data.a5, p.Data.a6⟩⟩ : api_Page) = q
  have hqk : k_u64 q.Data.a0 := by rw [← hq]; exact hx
  have hq1 : q.Data.a1 = p.Data.a1 := by rw [← hq]
  have hq6 : q.Data.a6 = p.Data.a6 := by rw [← hq]
  rw [ReadRoot_eq q hqk, ReadRootR_eq q hqk]
  simp only [bind_s, bodegalaw24_same, h2]
  by_cases hw : q.Line = 96 ∧ vr to x5 = true
  · have e : wrRoot q to x5 = (wrPg q to x5, 0) := by unfold wrRoot; rw [if_pos hw]
    have h3 := vr_level hw.2
    have hk : k_u64 (wrPg q to x5).Data.a0 := two_k (pkP_r _) (by omega)
    rw [e]
    simp only [ReadRoot_eq _ hk, rd_wr hw.1 hw.2, bind_s]
    rw [show (wrPg q to x5).Data.a1 = p.Data.a1 from hq1, show (wrPg q to x5).Data.a6 = p.Data.a6 from hq6]
    simp [cP]
  · have e : wrRoot q to x5 = (zeroPg, 1) := by unfold wrRoot; rw [if_neg hw]
    rw [e]
    simp [cP]
theorem wrap_k (x : Int) : k_u64 (IntKind.u64.wrap x) := by have := wf_wrap .u64 x; simp [Lit.wf, IntKind.min, IntKind.max, IntKind.signed, IntKind.bits] at this; unfold k_u64; omega
theorem TreeRoots_of (hA : bodegalaw24_awake = some true) (p : api_Page) (to : pointer_Pointer) (l n : Int) (k0 : k_api_Page p) (k1 : k_pointer_Pointer to) (k2 : k_i64 l) (k3 : k_i64 n) : bodegalaw24_TreeRoots p to l n = some true := by
  unfold bodegalaw24_TreeRoots
  obtain ⟨v, ev, _⟩ := Pick_eq (a := n) (n := 6) (by omega)
  obtain ⟨d, ed, _⟩ := Pick_eq (a := l) (n := 12) (by omega)
  obtain ⟨f, ef⟩ := aim_eq to
  simp only [ev, ed, ef, bind_s]
  split
  · exact J1_roots hA _ _ _ _ _ (wrap_k _)
  · exact J1_roots hA _ _ _ _ _ k0.2.2.1
end Go.Sh
end
section
namespace Go.Sh
def LeO {α : Type} (a b : Option α) : Prop := ∀ r, a = some r → b = some r
namespace LeO
variable {α β : Type}
theorem refl (a : Option α) : LeO a a := fun _ h => h
theorem none (b : Option α) : LeO .none b := fun _ h => by cases h
theorem bind {a a' : Option α} {f f' : α → Option β} (h : LeO a a') (k : ∀ x, LeO (f x) (f' x)) : LeO (a.bind f) (a'.bind f') := by
  intro r hr
  obtain ⟨x, h1, h2⟩ := Option.bind_eq_some_iff.1 hr
  rw [h x h1]; exact k x r h2
theorem ite {c : Prop} [Decidable c] {a a' b b' : Option α} (h1 : LeO a a') (h2 : LeO b b') : LeO (if c then a else b) (if c then a' else b') := by
  split
  · exact h1
  · exact h2
theorem map {a a' : Option α} {f : α → β} (h : LeO a a') : LeO (Option.map f a) (Option.map f a') := by
  intro r hr
  obtain ⟨x, h1, h2⟩ := Option.map_eq_some_iff.1 hr
  rw [h x h1]; exact congrArg some h2
end LeO
/-- A loop of not more than 4096 rounds. -/
def iterF {σ ρ : Type} (f : σ → Option (σ ⊕ ρ)) (x : σ) : Option ρ := iterN f 4096 x
theorem iterN_mono {σ ρ : Type} {f g : σ → Option (σ ⊕ ρ)} (h : ∀ x, LeO (f x) (g x)) : ∀ (n : Nat) (x : σ) (r : ρ), iterN f n x = some r → iterN g n x = some r
  | 0, x, r, e => by simp [iterN] at e
  | n + 1, x, r, e => by
    unfold iterN at e ⊢
    obtain ⟨s, hs, e⟩ := Option.bind_eq_some_iff.1 e
    rw [h x s hs, Option.bind_some]
    cases s with
    | inl y => exact iterN_mono h n y r e
    | inr q => exact e
theorem LeO.iter {σ ρ : Type} {f g : σ → Option (σ ⊕ ρ)} {x : σ} (h : ∀ x, LeO (f x) (g x)) : LeO (iterF f x) (Go.Sh.iter g x) := fun r hr => iter_of (iterN_mono h _ x r hr)
end Go.Sh
end
