/- Part 4 of 6 of the proof: bodegalaw24.TreeRoots returns true for every input, with the package variable bodega/btree.none as the program lays it. -/
import Derived.Test.YtbpohbfamefecaaGreatDoorRootsC
set_option linter.all false
set_option maxRecDepth 100000
set_option maxHeartbeats 4000000
section
namespace Go.Sh
open Go.Proofs
noncomputable def btree_Node_valid_J3 (x20 : Int) (a0 : btree_Node) : Unit → Option Bool
  | () =>
    some ((decide (x20 ≤ a0.High)) && (decide (x20 ≤ 4294967294)))
noncomputable def btree_Node_valid_J2 (a0 : btree_Node) (x20 : Int) : Option Bool :=
    if (decide (a0.Level > 0)) = true then
      some ((!a0.Dead) && (x20 == a0.High))
    else
      if a0.Dead = true then
        if (decide ((a0.Entries.length : Int) > 0)) = true then
          some false
        else
          if a0.Leftmost = true then
            some false
          else
            if ((a0.Right.Line == 0) && (a0.Right.Gen == 0)) = true then
              some false
            else
              btree_Node_valid_J3 x20 a0 ()
      else
        btree_Node_valid_J3 x20 a0 ()
noncomputable def btree_Node_valid_J1 (a0 : btree_Node) : Unit → Option Bool
  | () =>
    if (decide ((a0.Entries.length : Int) > 0)) = true then
      (idx a0.Entries (IntKind.i64.wrap ((a0.Entries.length : Int) - 1))).bind fun e35 =>
      btree_Node_valid_J2 a0 e35.Key
    else
      btree_Node_valid_J2 a0 0
noncomputable def btree_Node_valid (a0 : btree_Node) : Option Bool :=
  if (decide (a0.Level < 0)) = true then
    some false
  else
    if (decide (a0.Level > 8)) = true then
      some false
    else
      if (decide ((a0.Entries.length : Int) > 5)) = true then
        some false
      else
        (btree_rising a0.Entries).bind fun v10 =>
        if (!v10) = true then
          some false
        else
          if (a0.High == 0) = true then
            some false
          else
            if (!((a0.Right.Line == 0) && (a0.Right.Gen == 0))) = true then
              (pointer_Valid a0.Right).bind fun v39 =>
              if (!v39) = true then
                some false
              else
                if (!((a0.High == 4294967295) == ((a0.Right.Line == 0) && (a0.Right.Gen == 0)))) = true then
                  some false
                else
                  btree_Node_valid_J1 a0 ()
            else
              if (!((a0.High == 4294967295) == ((a0.Right.Line == 0) && (a0.Right.Gen == 0)))) = true then
                some false
              else
                btree_Node_valid_J1 a0 ()
theorem btree_Node_valid_ok (G : Glob) (hG0 : G.glob 0 = some [(.int .i64 0), (.int .i64 0)]) (a0 : btree_Node) (res : Bool) (h : btree_Node_valid a0 = some res) : Spec Tryz.prog G 48 [.agg (g_kkcs a0)] (fun r ios => r = .cell (.p (.bool res)) ∧ ios = []) := by
  rw [btree_Node_valid] at h
  refine spec_of Tryz.mixed Tryz.func48 rfl rfl (by simp only [List.length]; decide +kernel) ?_
  refine swp_fresh (fun g => stL [(0, (.agg (b_kfil a0)))] [] (g + 1)) (ren_go (fun g S => []) fun g S => []) fun g => ?_
  refine seq_reg rfl (fun K hK => ?_)
  simp -implicitDefEqProofs +decide only [go_sem, Nat.reduceAdd, Int.reduceToNat]
  refine hK _ ?_
  refine seq_reg rfl (fun K hK => ?_)
  simp -implicitDefEqProofs +decide only [go_sem, Nat.reduceAdd, Int.reduceToNat]
  refine hK _ ?_
  refine swp_seq ?_
  refine seq_reg rfl (fun K hK => ?_)
  refine bsplit h (fun hb7 h => ?_) (fun hb7 h => ?_)
  ·simp -implicitDefEqProofs +decide only [go_sem, Nat.reduceAdd, Int.reduceToNat, hb7]
   refine hK _ ?_
   refine cond_t (by simp -implicitDefEqProofs +decide only [go_sem, hb7]) ?_
   refine seq_reg rfl (fun K hK => ?_)
   simp -implicitDefEqProofs +decide only [go_sem, Nat.reduceAdd, Int.reduceToNat, hb7]
   refine hK _ ?_
   refine swp_ret ?_
   with_reducible repeat first|apply nn|apply nb|apply nr|apply nc|apply ne|apply nq|apply nx rfl
   obtain rfl := some_eq h
   simp -implicitDefEqProofs +decide only [go_sem, Nat.reduceAdd, Int.reduceToNat]
   all_goals first | done | trivial | assumption | (simp [maps]; done) | (simp [maps, hb7]; done)
  ·refine bsplit h (fun hb8 h => ?_) (fun hb8 h => ?_)
   ·simp -implicitDefEqProofs +decide only [go_sem, Nat.reduceAdd, Int.reduceToNat, hb7, hb8]
    refine hK _ ?_
    refine cond_t (by simp -implicitDefEqProofs +decide only [go_sem, hb7, hb8]) ?_
    refine seq_reg rfl (fun K hK => ?_)
    simp -implicitDefEqProofs +decide only [go_sem, Nat.reduceAdd, Int.reduceToNat, hb7, hb8]
    refine hK _ ?_
    refine swp_ret ?_
    with_reducible repeat first|apply nn|apply nb|apply nr|apply nc|apply ne|apply nq|apply nx rfl
    obtain rfl := some_eq h
    simp -implicitDefEqProofs +decide only [go_sem, Nat.reduceAdd, Int.reduceToNat]
    all_goals first | done | trivial | assumption | (simp [maps]; done) | (simp [maps, hb7, hb8]; done)
   ·refine bsplit h (fun hb9 h => ?_) (fun hb9 h => ?_)
    ·simp -implicitDefEqProofs +decide only [go_sem, Nat.reduceAdd, Int.reduceToNat, hb7, hb8, hb9]
     refine hK _ ?_
     refine cond_t (by simp -implicitDefEqProofs +decide only [go_sem, hb7, hb8, hb9]) ?_
     refine seq_reg rfl (fun K hK => ?_)
     simp -implicitDefEqProofs +decide only [go_sem, Nat.reduceAdd, Int.reduceToNat, hb7, hb8, hb9]
     refine hK _ ?_
     refine swp_ret ?_
     with_reducible repeat first|apply nn|apply nb|apply nr|apply nc|apply ne|apply nq|apply nx rfl
     obtain rfl := some_eq h
     simp -implicitDefEqProofs +decide only [go_sem, Nat.reduceAdd, Int.reduceToNat]
     all_goals first | done | trivial | assumption | (simp [maps]; done) | (simp [maps, hb7, hb8, hb9]; done)
    ·refine bind_of h (fun v10 hv10 h => ?_)
     simp -implicitDefEqProofs +decide only [go_sem, Nat.reduceAdd, Int.reduceToNat, hb7, hb8, hb9]
     refine call_go [0] false (btree_rising_ok (cG G) hG0 _ _ hv10) ?_
     refine bsplit h (fun hb11 h => ?_) (fun hb11 h => ?_)
     ·simp -implicitDefEqProofs +decide only [go_sem, Nat.reduceAdd, Int.reduceToNat, hb7, hb8, hb9, hb11]
      refine hK _ ?_
      refine cond_t (by simp -implicitDefEqProofs +decide only [go_sem, hb7, hb8, hb9, hb11]) ?_
      refine seq_reg rfl (fun K hK => ?_)
      simp -implicitDefEqProofs +decide only [go_sem, Nat.reduceAdd, Int.reduceToNat, hb7, hb8, hb9, hb11]
      refine hK _ ?_
      refine swp_ret ?_
      with_reducible repeat first|apply nn|apply nb|apply nr|apply nc|apply ne|apply nq|apply nx rfl
      obtain rfl := some_eq h
      simp -implicitDefEqProofs +decide only [go_sem, Nat.reduceAdd, Int.reduceToNat]
      all_goals first | done | trivial | assumption | (simp [maps]; done) | (simp [maps, hb7, hb8, hb9, hb11]; done)
     ·simp -implicitDefEqProofs +decide only [go_sem, Nat.reduceAdd, Int.reduceToNat, hb7, hb8, hb9, hb11]
      refine hK _ ?_
      refine bsplit h (fun hb12 h => ?_) (fun hb12 h => ?_)
      ·refine cond_t (by simp -implicitDefEqProofs +decide only [go_sem, hb7, hb8, hb9, hb11, hb12]) ?_
       refine seq_reg rfl (fun K hK => ?_)
       simp -implicitDefEqProofs +decide only [go_sem, Nat.reduceAdd, Int.reduceToNat, hb7, hb8, hb9, hb11, hb12]
       refine hK _ ?_
       refine swp_ret ?_
       with_reducible repeat first|apply nn|apply nb|apply nr|apply nc|apply ne|apply nq|apply nx rfl
       obtain rfl := some_eq h
       simp -implicitDefEqProofs +decide only [go_sem, Nat.reduceAdd, Int.reduceToNat]
       all_goals first | done | trivial | assumption | (simp [maps]; done) | (simp [maps, hb7, hb8, hb9, hb11, hb12]; done)
      ·refine cond_f (by simp -implicitDefEqProofs +decide only [go_sem, hb7, hb8, hb9, hb11, hb12]) ?_
       refine swp_skip ?_
       with_reducible repeat first|apply nn|apply nb|apply nr|apply nc|apply ne|apply nq|apply nx rfl
       refine cut1 (Joins (btree_Node_valid_J1 a0) (fun g _ => stL [(1, (.c (.ptr ⟨1024000001, g⟩ 0 0))), (3, (.c (.p (.int .i64 (a0.Entries.length : Int)))))] [(⟨1024000001, g⟩, .box true (b_kfil a0))] (g + 1)) res) ?_ (fun hj1 => ?_)
       ·refine join_of ?_
        rintro g ⟨⟩ h
        rw [btree_Node_valid_J1] at h
        try dsimp only
        refine seq_reg rfl (fun K hK => ?_)
        simp -implicitDefEqProofs +decide only [go_sem, Nat.reduceAdd, Int.reduceToNat, hb7, hb8, hb9, hb11, hb12]
        refine hK _ ?_
        refine cut1 (Joins (btree_Node_valid_J2 a0) (fun g x20 => stL [(1, (.c (.ptr ⟨1024000002, g⟩ 0 0))), (3, (.c (.p (.int .i64 (a0.Entries.length : Int))))), (4, (.c (.p (.int .u32 x20))))] [(⟨1024000002, g⟩, .box true (b_kfil a0))] (g + 1)) res) ?_ (fun hj2 => ?_)
        ·refine join_of ?_
         rintro g x20 h
         rw [btree_Node_valid_J2] at h
         try dsimp only
         refine swp_seq ?_
         refine seq_reg rfl (fun K hK => ?_)
         simp -implicitDefEqProofs +decide only [go_sem, Nat.reduceAdd, Int.reduceToNat, hb7, hb8, hb9, hb11, hb12]
         refine hK _ ?_
         refine bsplit h (fun hb23 h => ?_) (fun hb23 h => ?_)
         ·refine cond_t (by simp -implicitDefEqProofs +decide only [go_sem, hb7, hb8, hb9, hb11, hb12, hb23]) ?_
          refine seq_reg rfl (fun K hK => ?_)
          rcases hb24 : (!a0.Dead) with _ | _
          ·replace h : some false = some res := by first | exact h | (rw [and_f hb24] at h; exact h)
           simp -implicitDefEqProofs +decide only [go_sem, Nat.reduceAdd, Int.reduceToNat, hb7, hb8, hb9, hb11, hb12, hb23, hb24]
           refine hK _ ?_
           refine swp_ret ?_
           with_reducible repeat first|apply nn|apply nb|apply nr|apply nc|apply ne|apply nq|apply nx rfl
           obtain rfl := some_eq h
           simp -implicitDefEqProofs +decide only [go_sem, Nat.reduceAdd, Int.reduceToNat]
           all_goals first | done | trivial | assumption | (simp [maps]; done) | (simp [maps, hb7, hb8, hb9, hb11, hb12, hb23, hb24]; done)
          ·replace h : some (x20 == a0.High) = some res := by first | exact h | (rw [and_t hb24] at h; exact h)
           simp -implicitDefEqProofs +decide only [go_sem, Nat.reduceAdd, Int.reduceToNat, hb7, hb8, hb9, hb11, hb12, hb23, hb24]
           refine hK _ ?_
           refine swp_ret ?_
           with_reducible repeat first|apply nn|apply nb|apply nr|apply nc|apply ne|apply nq|apply nx rfl
           obtain rfl := some_eq h
           simp -implicitDefEqProofs +decide only [go_sem, Nat.reduceAdd, Int.reduceToNat]
           all_goals first | done | trivial | assumption | (simp [maps]; done) | (simp [maps, hb7, hb8, hb9, hb11, hb12, hb23, hb24]; done)
         ·refine cond_f (by simp -implicitDefEqProofs +decide only [go_sem, hb7, hb8, hb9, hb11, hb12, hb23]) ?_
          refine swp_skip ?_
          with_reducible repeat first|apply nn|apply nb|apply nr|apply nc|apply ne|apply nq|apply nx rfl
          refine cut1 (Joins (btree_Node_valid_J3 x20 a0) (fun g _ => stL [(1, (.c (.ptr ⟨1024000003, g⟩ 0 0))), (4, (.c (.p (.int .u32 x20))))] [(⟨1024000003, g⟩, .box true (b_kfil a0))] (g + 1)) res) ?_ (fun hj3 => ?_)
          ·refine join_of ?_
           rintro g ⟨⟩ h
           rw [btree_Node_valid_J3] at h
           try dsimp only
           refine seq_reg rfl (fun K hK => ?_)
           rcases hb29 : (decide (x20 ≤ a0.High)) with _ | _
           ·replace h : some false = some res := by first | exact h | (rw [and_f hb29] at h; exact h)
            simp -implicitDefEqProofs +decide only [go_sem, Nat.reduceAdd, Int.reduceToNat, hb7, hb8, hb9, hb11, hb12, hb23, hb29]
            refine hK _ ?_
            refine swp_ret ?_
            with_reducible repeat first|apply nn|apply nb|apply nr|apply nc|apply ne|apply nq|apply nx rfl
            obtain rfl := some_eq h
            simp -implicitDefEqProofs +decide only [go_sem, Nat.reduceAdd, Int.reduceToNat]
            all_goals first | done | trivial | assumption | (simp [maps]; done) | (simp [maps, hb7, hb8, hb9, hb11, hb12, hb23, hb29]; done)
           ·replace h : some (decide (x20 ≤ 4294967294)) = some res := by first | exact h | (rw [and_t hb29] at h; exact h)
            simp -implicitDefEqProofs +decide only [go_sem, Nat.reduceAdd, Int.reduceToNat, hb7, hb8, hb9, hb11, hb12, hb23, hb29]
            refine hK _ ?_
            refine swp_ret ?_
            with_reducible repeat first|apply nn|apply nb|apply nr|apply nc|apply ne|apply nq|apply nx rfl
            obtain rfl := some_eq h
            simp -implicitDefEqProofs +decide only [go_sem, Nat.reduceAdd, Int.reduceToNat]
            all_goals first | done | trivial | assumption | (simp [maps]; done) | (simp [maps, hb7, hb8, hb9, hb11, hb12, hb23, hb29]; done)
          refine swp_seq ?_
          refine seq_reg rfl (fun K hK => ?_)
          refine bsplit h (fun hb30 h => ?_) (fun hb30 h => ?_)
          ·refine bsplit h (fun hb31 h => ?_) (fun hb31 h => ?_)
           ·simp -implicitDefEqProofs +decide only [go_sem, Nat.reduceAdd, Int.reduceToNat, hG0, hb7, hb8, hb9, hb11, hb12, hb23, hb30, hb31]
            refine hK _ ?_
            refine cond_t (by simp -implicitDefEqProofs +decide only [go_sem, hb7, hb8, hb9, hb11, hb12, hb23, hb30, hb31]) ?_
            refine seq_reg rfl (fun K hK => ?_)
            simp -implicitDefEqProofs +decide only [go_sem, Nat.reduceAdd, Int.reduceToNat, hb7, hb8, hb9, hb11, hb12, hb23, hb30, hb31]
            refine hK _ ?_
            refine swp_ret ?_
            with_reducible repeat first|apply nn|apply nb|apply nr|apply nc|apply ne|apply nq|apply nx rfl
            obtain rfl := some_eq h
            simp -implicitDefEqProofs +decide only [go_sem, Nat.reduceAdd, Int.reduceToNat]
            all_goals first | done | trivial | assumption | (simp [maps]; done) | (simp [maps, hb7, hb8, hb9, hb11, hb12, hb23, hb30, hb31]; done)
           ·refine bsplit h (fun hb32 h => ?_) (fun hb32 h => ?_)
            ·simp -implicitDefEqProofs +decide only [go_sem, Nat.reduceAdd, Int.reduceToNat, hG0, hb7, hb8, hb9, hb11, hb12, hb23, hb30, hb31, hb32]
             refine hK _ ?_
             refine cond_t (by simp -implicitDefEqProofs +decide only [go_sem, hb7, hb8, hb9, hb11, hb12, hb23, hb30, hb31, hb32]) ?_
             refine seq_reg rfl (fun K hK => ?_)
             simp -implicitDefEqProofs +decide only [go_sem, Nat.reduceAdd, Int.reduceToNat, hb7, hb8, hb9, hb11, hb12, hb23, hb30, hb31, hb32]
             refine hK _ ?_
             refine swp_ret ?_
             with_reducible repeat first|apply nn|apply nb|apply nr|apply nc|apply ne|apply nq|apply nx rfl
             obtain rfl := some_eq h
             simp -implicitDefEqProofs +decide only [go_sem, Nat.reduceAdd, Int.reduceToNat]
             all_goals first | done | trivial | assumption | (simp [maps]; done) | (simp [maps, hb7, hb8, hb9, hb11, hb12, hb23, hb30, hb31, hb32]; done)
            ·simp -implicitDefEqProofs +decide only [go_sem, Nat.reduceAdd, Int.reduceToNat, hG0, hb7, hb8, hb9, hb11, hb12, hb23, hb30, hb31, hb32]
             refine hK _ ?_
             refine bsplit h (fun hb33 h => ?_) (fun hb33 h => ?_)
             ·refine cond_t (by simp -implicitDefEqProofs +decide only [go_sem, hb7, hb8, hb9, hb11, hb12, hb23, hb30, hb31, hb32, hb33]) ?_
              refine seq_reg rfl (fun K hK => ?_)
              simp -implicitDefEqProofs +decide only [go_sem, Nat.reduceAdd, Int.reduceToNat, hb7, hb8, hb9, hb11, hb12, hb23, hb30, hb31, hb32, hb33]
              refine hK _ ?_
              refine swp_ret ?_
              with_reducible repeat first|apply nn|apply nb|apply nr|apply nc|apply ne|apply nq|apply nx rfl
              obtain rfl := some_eq h
              simp -implicitDefEqProofs +decide only [go_sem, Nat.reduceAdd, Int.reduceToNat]
              all_goals first | done | trivial | assumption | (simp [maps]; done) | (simp [maps, hb7, hb8, hb9, hb11, hb12, hb23, hb30, hb31, hb32, hb33]; done)
             ·refine cond_f (by simp -implicitDefEqProofs +decide only [go_sem, hb7, hb8, hb9, hb11, hb12, hb23, hb30, hb31, hb32, hb33]) ?_
              refine swp_skip ?_
              with_reducible repeat first|apply nn|apply nb|apply nr|apply nc|apply ne|apply nq|apply nx rfl
              exact jump_of hj3 h (ren_go (fun g S => [(⟨1024000003, g⟩, (keyT 0 (St.env S 1)))]) fun g S => [])
          ·simp -implicitDefEqProofs +decide only [go_sem, Nat.reduceAdd, Int.reduceToNat, hG0, hb7, hb8, hb9, hb11, hb12, hb23, hb30]
           refine hK _ ?_
           refine cond_f (by simp -implicitDefEqProofs +decide only [go_sem, hb7, hb8, hb9, hb11, hb12, hb23, hb30]) ?_
           refine swp_skip ?_
           with_reducible repeat first|apply nn|apply nb|apply nr|apply nc|apply ne|apply nq|apply nx rfl
           exact jump_of hj3 h (ren_go (fun g S => [(⟨1024000003, g⟩, (keyT 0 (St.env S 1)))]) fun g S => [])
        refine swp_seq ?_
        refine seq_reg rfl (fun K hK => ?_)
        simp -implicitDefEqProofs +decide only [go_sem, Nat.reduceAdd, Int.reduceToNat, hb7, hb8, hb9, hb11, hb12]
        refine hK _ ?_
        refine bsplit h (fun hb34 h => ?_) (fun hb34 h => ?_)
        ·refine cond_t (by simp -implicitDefEqProofs +decide only [go_sem, hb7, hb8, hb9, hb11, hb12, hb34]) ?_
         refine swp_reg rfl (fun K hK => ?_)
         refine bind_of h (fun e35 he35 h => ?_)
         obtain ⟨he35_0, he35_1, he35_2⟩ := idx_some he35
         simp -implicitDefEqProofs +decide only [go_sem, Nat.reduceAdd, Int.reduceToNat, he35_0, he35_1, he35_2, hb7, hb8, hb9, hb11, hb12, hb34]
         refine hK _ ?_
         with_reducible repeat first|apply nn|apply nb|apply nr|apply nc|apply ne|apply nq|apply nx rfl
         exact jump_of hj2 h (ren_go (fun g S => [(⟨1024000002, g⟩, (keyT 0 (St.env S 1)))]) fun g S => [])
        ·refine cond_f (by simp -implicitDefEqProofs +decide only [go_sem, hb7, hb8, hb9, hb11, hb12, hb34]) ?_
         refine swp_skip ?_
         with_reducible repeat first|apply nn|apply nb|apply nr|apply nc|apply ne|apply nq|apply nx rfl
         exact jump_of hj2 h (ren_go (fun g S => [(⟨1024000002, g⟩, (keyT 0 (St.env S 1)))]) fun g S => [])
       refine swp_seq ?_
       refine seq_drw rfl (fun K hK => ?_)
       refine bsplit h (fun hb38 h => ?_) (fun hb38 h => ?_)
       ·refine bind_of h (fun v39 hv39 h => ?_)
        simp -implicitDefEqProofs +decide only [go_sem, Nat.reduceAdd, Int.reduceToNat, hG0, hb7, hb8, hb9, hb11, hb12, hb38]
        refine call_go [0] false (pointer_Valid_ok (cG G) hG0 _ _ hv39) ?_
        refine bsplit h (fun hb40 h => ?_) (fun hb40 h => ?_)
        ·simp -implicitDefEqProofs +decide only [go_sem, Nat.reduceAdd, Int.reduceToNat, hG0, hb7, hb8, hb9, hb11, hb12, hb38, hb40]
         refine draw_go (by kernel_rfl) ?_
         refine hK _ ?_
         refine cond_t (by simp -implicitDefEqProofs +decide only [go_sem, hb7, hb8, hb9, hb11, hb12, hb38, hb40]) ?_
         refine seq_reg rfl (fun K hK => ?_)
         simp -implicitDefEqProofs +decide only [go_sem, Nat.reduceAdd, Int.reduceToNat, hb7, hb8, hb9, hb11, hb12, hb38, hb40]
         refine hK _ ?_
         refine swp_ret ?_
         with_reducible repeat first|apply nn|apply nb|apply nr|apply nc|apply ne|apply nq|apply nx rfl
         obtain rfl := some_eq h
         simp -implicitDefEqProofs +decide only [go_sem, Nat.reduceAdd, Int.reduceToNat]
         all_goals first | done | trivial | assumption | (simp [maps]; done) | (simp [maps, hb7, hb8, hb9, hb11, hb12, hb38, hb40]; done)
        ·simp -implicitDefEqProofs +decide only [go_sem, Nat.reduceAdd, Int.reduceToNat, hG0, hb7, hb8, hb9, hb11, hb12, hb38, hb40]
         refine draw_go (by kernel_rfl) ?_
         refine hK _ ?_
         refine bsplit h (fun hb41 h => ?_) (fun hb41 h => ?_)
         ·refine cond_t (by simp -implicitDefEqProofs +decide only [go_sem, hb7, hb8, hb9, hb11, hb12, hb38, hb40, hb41]) ?_
          refine seq_reg rfl (fun K hK => ?_)
          simp -implicitDefEqProofs +decide only [go_sem, Nat.reduceAdd, Int.reduceToNat, hb7, hb8, hb9, hb11, hb12, hb38, hb40, hb41]
          refine hK _ ?_
          refine swp_ret ?_
          with_reducible repeat first|apply nn|apply nb|apply nr|apply nc|apply ne|apply nq|apply nx rfl
          obtain rfl := some_eq h
          simp -implicitDefEqProofs +decide only [go_sem, Nat.reduceAdd, Int.reduceToNat]
          all_goals first | done | trivial | assumption | (simp [maps]; done) | (simp [maps, hb7, hb8, hb9, hb11, hb12, hb38, hb40, hb41]; done)
         ·refine cond_f (by simp -implicitDefEqProofs +decide only [go_sem, hb7, hb8, hb9, hb11, hb12, hb38, hb40, hb41]) ?_
          refine swp_skip ?_
          with_reducible repeat first|apply nn|apply nb|apply nr|apply nc|apply ne|apply nq|apply nx rfl
          exact jump_of hj1 h (ren_go (fun g S => [(⟨1024000001, g⟩, (keyT 0 (St.env S 1)))]) fun g S => [])
       ·simp -implicitDefEqProofs +decide only [go_sem, Nat.reduceAdd, Int.reduceToNat, hG0, hb7, hb8, hb9, hb11, hb12, hb38]
        refine draw_go (by kernel_rfl) ?_
        refine hK _ ?_
        refine bsplit h (fun hb42 h => ?_) (fun hb42 h => ?_)
        ·refine cond_t (by simp -implicitDefEqProofs +decide only [go_sem, hb7, hb8, hb9, hb11, hb12, hb38, hb42]) ?_
         refine seq_reg rfl (fun K hK => ?_)
         simp -implicitDefEqProofs +decide only [go_sem, Nat.reduceAdd, Int.reduceToNat, hb7, hb8, hb9, hb11, hb12, hb38, hb42]
         refine hK _ ?_
         refine swp_ret ?_
         with_reducible repeat first|apply nn|apply nb|apply nr|apply nc|apply ne|apply nq|apply nx rfl
         obtain rfl := some_eq h
         simp -implicitDefEqProofs +decide only [go_sem, Nat.reduceAdd, Int.reduceToNat]
         all_goals first | done | trivial | assumption | (simp [maps]; done) | (simp [maps, hb7, hb8, hb9, hb11, hb12, hb38, hb42]; done)
        ·refine cond_f (by simp -implicitDefEqProofs +decide only [go_sem, hb7, hb8, hb9, hb11, hb12, hb38, hb42]) ?_
         refine swp_skip ?_
         with_reducible repeat first|apply nn|apply nb|apply nr|apply nc|apply ne|apply nq|apply nx rfl
         exact jump_of hj1 h (ren_go (fun g S => [(⟨1024000001, g⟩, (keyT 0 (St.env S 1)))]) fun g S => [])
end Go.Sh
end
section
namespace Go.Sh
open Go.Proofs
noncomputable def btree_ReadNode_J1 (v1 : pointer_Tag) (a0 : api_Page) (v6 : pointer_Pointer) (l30 : List hashindex_Entry) : Option (btree_Node × Int) :=
    (btree_Node_valid (⟨(IntKind.i64.wrap (bits .and .u32 v1.Aux 255)), ((bits .and .u32 v1.Aux 65536) != 0), ((bits .and .u32 v1.Aux 131072) != 0), (IntKind.u32.wrap a0.Data.a1), v6, l30⟩ : btree_Node)).bind fun v31 =>
    if (!v31) = true then
      some ((⟨0, false, false, 0, (⟨0, 0⟩ : pointer_Pointer), ([] : List hashindex_Entry)⟩ : btree_Node), 14)
    else
      (btree_Node_fill (⟨(IntKind.i64.wrap (bits .and .u32 v1.Aux 255)), ((bits .and .u32 v1.Aux 65536) != 0), ((bits .and .u32 v1.Aux 131072) != 0), (IntKind.u32.wrap a0.Data.a1), v6, l30⟩ : btree_Node) a0).bind fun v33 =>
      if (!((v33.Data.a0 == a0.Data.a0) && ((v33.Data.a1 == a0.Data.a1) && ((v33.Data.a2 == a0.Data.a2) && ((v33.Data.a3 == a0.Data.a3) && ((v33.Data.a4 == a0.Data.a4) && ((v33.Data.a5 == a0.Data.a5) && (v33.Data.a6 == a0.Data.a6)))))))) = true then
        some ((⟨0, false, false, 0, (⟨0, 0⟩ : pointer_Pointer), ([] : List hashindex_Entry)⟩ : btree_Node), 14)
      else
        some ((⟨(IntKind.i64.wrap (bits .and .u32 v1.Aux 255)), ((bits .and .u32 v1.Aux 65536) != 0), ((bits .and .u32 v1.Aux 131072) != 0), (IntKind.u32.wrap a0.Data.a1), v6, l30⟩ : btree_Node), 0)
noncomputable def btree_ReadNode_L1 (v1 : pointer_Tag) (a0 : api_Page) (v6 : pointer_Pointer) : (List hashindex_Entry × Int) → Option ((List hashindex_Entry × Int) ⊕ (btree_Node × Int))
  | (l51, x52) =>
    if (decide (x52 < (((IntKind.i64.wrap (2 + (IntKind.i64.wrap (bits .and .u32 (shrV .u32 v1.Aux 8) 255)))) - 2).toNat : Int))) = true then
      if 0 ≤ x52 ∧ x52 < ((IntKind.i64.wrap (2 + (IntKind.i64.wrap (bits .and .u32 (shrV .u32 v1.Aux 8) 255)))) - 2).toNat ∧ x52 < 5 then
        (pointer_Unpack (IntKind.u32.wrap (A5.get (⟨a0.Data.a2, a0.Data.a3, a0.Data.a4, a0.Data.a5, a0.Data.a6⟩ : A5 Int) x52))).bind fun v57 =>
        if (l51.length + 1) * 24 ≤ maxRows ∧ l51.length + 1 ≤ maxRows then
          some (.inl ((l51 ++ ([(⟨(IntKind.u32.wrap (shrV .u64 (A5.get (⟨a0.Data.a2, a0.Data.a3, a0.Data.a4, a0.Data.a5, a0.Data.a6⟩ : A5 Int) x52) 32)), v57⟩ : hashindex_Entry)] : List hashindex_Entry)), (IntKind.i64.wrap (x52 + 1))))
        else none
      else none
    else
      Option.map Sum.inr (
        btree_ReadNode_J1 v1 a0 v6 l51)
noncomputable def btree_ReadNode (a0 : api_Page) : Option (btree_Node × Int) :=
  (pointer_UnpackTag a0.Data.a0).bind fun v1 =>
  if (v1.Kind != 4) = true then
    some ((⟨0, false, false, 0, (⟨0, 0⟩ : pointer_Pointer), ([] : List hashindex_Entry)⟩ : btree_Node), 14)
  else
    if (decide ((IntKind.i64.wrap (bits .and .u32 (shrV .u32 v1.Aux 8) 255)) > 5)) = true then
      some ((⟨0, false, false, 0, (⟨0, 0⟩ : pointer_Pointer), ([] : List hashindex_Entry)⟩ : btree_Node), 14)
    else
      (pointer_Unpack (IntKind.u32.wrap (shrV .u64 a0.Data.a1 32))).bind fun v6 =>
      if 2 ≤ (IntKind.i64.wrap (2 + (IntKind.i64.wrap (bits .and .u32 (shrV .u32 v1.Aux 8) 255)))) ∧ (IntKind.i64.wrap (2 + (IntKind.i64.wrap (bits .and .u32 (shrV .u32 v1.Aux 8) 255)))) ≤ 7 then
        iter (btree_ReadNode_L1 v1 a0 v6) (([] : List hashindex_Entry), 0)
      else none
theorem btree_ReadNode_ok (G : Glob) (hG0 : G.glob 0 = some [(.int .i64 0), (.int .i64 0)]) (a0 : api_Page) (res : (btree_Node × Int)) (h : btree_ReadNode a0 = some res) : Spec Tryz.prog G 22 [.agg (g_yylp a0)] (fun r ios => r = .tup [.agg (g_3f6k res.1), .cell (.p (.int .i64 res.2))] ∧ ios = []) := by
  rw [btree_ReadNode] at h
  refine spec_of Tryz.mixed Tryz.func22 rfl rfl (by simp only [List.length]; decide +kernel) ?_
  refine swp_fresh (fun g => stL [(0, (.agg (b_mq86 a0)))] [] (g + 1)) (ren_go (fun g S => []) fun g S => []) fun g => ?_
  refine seq_reg rfl (fun K hK => ?_)
  simp -implicitDefEqProofs +decide only [go_sem, Nat.reduceAdd, Int.reduceToNat]
  refine hK _ ?_
  refine seq_reg rfl (fun K hK => ?_)
  refine bind_of h (fun v1 hv1 h => ?_)
  simp -implicitDefEqProofs +decide only [go_sem, Nat.reduceAdd, Int.reduceToNat]
  refine call_go [0] false (pointer_UnpackTag_ok (cG G) hG0 _ _ hv1) ?_
  simp -implicitDefEqProofs +decide only [go_sem, Nat.reduceAdd, Int.reduceToNat]
  refine hK _ ?_
  refine seq_reg rfl (fun K hK => ?_)
  simp -implicitDefEqProofs +decide only [go_sem, Nat.reduceAdd, Int.reduceToNat]
  refine hK _ ?_
  refine swp_seq ?_
  refine seq_reg rfl (fun K hK => ?_)
  refine bsplit h (fun hb4 h => ?_) (fun hb4 h => ?_)
  ·simp -implicitDefEqProofs +decide only [go_sem, Nat.reduceAdd, Int.reduceToNat, hb4]
   refine hK _ ?_
   refine cond_t (by simp -implicitDefEqProofs +decide only [go_sem, hb4]) ?_
   refine seq_reg rfl (fun K hK => ?_)
   simp -implicitDefEqProofs +decide only [go_sem, Nat.reduceAdd, Int.reduceToNat, hb4]
   refine hK _ ?_
   refine swp_fresh (fun g => stL [(2, (.c (.ptr ⟨1024000001, g⟩ 0 0))), (3, (.c (.p (.int .i64 14))))] [(⟨1024000001, g⟩, .box true [(.p (.int .i64 0)), (.p (.bool false)), (.p (.bool false)), (.p (.int .u32 0)), (.p (.int .i64 0)), (.p (.int .i64 0)), (.ref ⟨1024000002, g⟩ 0 ([] : List hashindex_Entry).length)]), (⟨1024000002, g⟩, .arr true 3 (([] : List hashindex_Entry).map r_hashindex_Entry))] (g + 1)) (ren_go (fun g S => [(⟨1024000001, g⟩, (keyT 0 (St.env S 2)))]) fun g S => [(⟨1024000002, g⟩, 3)]) fun g => ?_
   refine swp_ret ?_
   with_reducible repeat first|apply nn|apply nb|apply nr|apply nc|apply ne|apply nq|apply nx rfl
   obtain rfl := some_eq h
   simp -implicitDefEqProofs +decide only [go_sem, Nat.reduceAdd, Int.reduceToNat]
   all_goals first | done | trivial | assumption | (simp [maps]; done) | (simp [maps, hb4]; done)
  ·simp -implicitDefEqProofs +decide only [go_sem, Nat.reduceAdd, Int.reduceToNat, hb4]
   refine hK _ ?_
   refine bsplit h (fun hb5 h => ?_) (fun hb5 h => ?_)
   ·refine cond_t (by simp -implicitDefEqProofs +decide only [go_sem, hb4, hb5]) ?_
    refine seq_reg rfl (fun K hK => ?_)
    simp -implicitDefEqProofs +decide only [go_sem, Nat.reduceAdd, Int.reduceToNat, hb4, hb5]
    refine hK _ ?_
    refine swp_fresh (fun g => stL [(2, (.c (.ptr ⟨1024000003, g⟩ 0 0))), (3, (.c (.p (.int .i64 14))))] [(⟨1024000003, g⟩, .box true [(.p (.int .i64 0)), (.p (.bool false)), (.p (.bool false)), (.p (.int .u32 0)), (.p (.int .i64 0)), (.p (.int .i64 0)), (.ref ⟨1024000004, g⟩ 0 ([] : List hashindex_Entry).length)]), (⟨1024000004, g⟩, .arr true 3 (([] : List hashindex_Entry).map r_hashindex_Entry))] (g + 1)) (ren_go (fun g S => [(⟨1024000003, g⟩, (keyT 0 (St.env S 2)))]) fun g S => [(⟨1024000004, g⟩, 3)]) fun g => ?_
    refine swp_ret ?_
    with_reducible repeat first|apply nn|apply nb|apply nr|apply nc|apply ne|apply nq|apply nx rfl
    obtain rfl := some_eq h
    simp -implicitDefEqProofs +decide only [go_sem, Nat.reduceAdd, Int.reduceToNat]
    all_goals first | done | trivial | assumption | (simp [maps]; done) | (simp [maps, hb4, hb5]; done)
   ·refine cond_f (by simp -implicitDefEqProofs +decide only [go_sem, hb4, hb5]) ?_
    refine swp_skip ?_
    with_reducible repeat first|apply nn|apply nb|apply nr|apply nc|apply ne|apply nq|apply nx rfl
    refine seq_drw rfl (fun K hK => ?_)
    refine bind_of h (fun v6 hv6 h => ?_)
    simp -implicitDefEqProofs +decide only [go_sem, Nat.reduceAdd, Int.reduceToNat, hb4, hb5]
    refine call_go [0] false (pointer_Unpack_ok (cG G) hG0 _ _ hv6) ?_
    simp -implicitDefEqProofs +decide only [go_sem, Nat.reduceAdd, Int.reduceToNat, hb4, hb5]
    refine draw_go (by kernel_rfl) ?_
    refine hK _ ?_
    refine cut1 (Joins (btree_ReadNode_J1 v1 a0 v6) (fun g l30 => stL [(1, (.c (.ptr ⟨1024000005, g⟩ 0 0))), (2, (.c (.ptr ⟨1024000006, g⟩ 0 0))), (6, (.c (.ptr ⟨1024000007, g⟩ 0 0)))] [(⟨1024000005, g⟩, .box true (b_mq86 a0)), (⟨1024000006, g⟩, .box true [(.p (.int .i64 0)), (.p (.bool false)), (.p (.bool false)), (.p (.int .u32 0)), (.p (.int .i64 0)), (.p (.int .i64 0)), .nilS]), (⟨1024000007, g⟩, .box true [(.p (.int .i64 (IntKind.i64.wrap (bits .and .u32 v1.Aux 255)))), (.p (.bool ((bits .and .u32 v1.Aux 65536) != 0))), (.p (.bool ((bits .and .u32 v1.Aux 131072) != 0))), (.p (.int .u32 (IntKind.u32.wrap a0.Data.a1))), (.p (.int .i64 v6.Line)), (.p (.int .i64 v6.Gen)), (.ref ⟨1024000008, g⟩ 0 l30.length)]), (⟨1024000008, g⟩, .arr true 3 (l30.map r_hashindex_Entry))] (g + 1)) res) ?_ (fun hj1 => ?_)
    ·refine join_of ?_
     rintro g l30 h
     rw [btree_ReadNode_J1] at h
     try dsimp only
     refine swp_seq ?_
     refine seq_drw rfl (fun K hK => ?_)
     refine bind_of h (fun v31 hv31 h => ?_)
     simp -implicitDefEqProofs +decide only [go_sem, Nat.reduceAdd, Int.reduceToNat, hb4, hb5]
     refine call_go [0] false (btree_Node_valid_ok (cG G) hG0 _ _ hv31) ?_
     refine bsplit h (fun hb32 h => ?_) (fun hb32 h => ?_)
     ·simp -implicitDefEqProofs +decide only [go_sem, Nat.reduceAdd, Int.reduceToNat, hb4, hb5, hb32]
      refine draw_go (by kernel_rfl) ?_
      refine hK _ ?_
      refine cond_t (by simp -implicitDefEqProofs +decide only [go_sem, hb4, hb5, hb32]) ?_
      refine seq_reg rfl (fun K hK => ?_)
      simp -implicitDefEqProofs +decide only [go_sem, Nat.reduceAdd, Int.reduceToNat, hb4, hb5, hb32]
      refine hK _ ?_
      refine swp_fresh (fun g => stL [(2, (.c (.ptr ⟨1024000009, g⟩ 0 0))), (3, (.c (.p (.int .i64 14))))] [(⟨1024000009, g⟩, .box true [(.p (.int .i64 0)), (.p (.bool false)), (.p (.bool false)), (.p (.int .u32 0)), (.p (.int .i64 0)), (.p (.int .i64 0)), (.ref ⟨1024000010, g⟩ 0 ([] : List hashindex_Entry).length)]), (⟨1024000010, g⟩, .arr true 3 (([] : List hashindex_Entry).map r_hashindex_Entry))] (g + 1)) (ren_go (fun g S => [(⟨1024000009, g⟩, (keyT 0 (St.env S 2)))]) fun g S => [(⟨1024000010, g⟩, 3)]) fun g => ?_
      refine swp_ret ?_
      with_reducible repeat first|apply nn|apply nb|apply nr|apply nc|apply ne|apply nq|apply nx rfl
      obtain rfl := some_eq h
      simp -implicitDefEqProofs +decide only [go_sem, Nat.reduceAdd, Int.reduceToNat]
      all_goals first | done | trivial | assumption | (simp [maps]; done) | (simp [maps, hb4, hb5, hb32]; done)
     ·refine bind_of h (fun v33 hv33 h => ?_)
      simp -implicitDefEqProofs +decide only [go_sem, Nat.reduceAdd, Int.reduceToNat, hb4, hb5, hb32]
      refine call_go [0, 0] false (btree_Node_fill_ok (cG G) hG0 _ _ _ hv33) ?_
      simp -implicitDefEqProofs +decide only [go_sem, Nat.reduceAdd, Int.reduceToNat, hb4, hb5, hb32]
      refine draw_go (by kernel_rfl) ?_
      refine hK _ ?_
      refine bsplit h (fun hb34 h => ?_) (fun hb34 h => ?_)
      ·refine cond_t (by simp -implicitDefEqProofs +decide only [go_sem, hb4, hb5, hb32, hb34]) ?_
       refine seq_reg rfl (fun K hK => ?_)
       simp -implicitDefEqProofs +decide only [go_sem, Nat.reduceAdd, Int.reduceToNat, hb4, hb5, hb32, hb34]
       refine hK _ ?_
       refine swp_fresh (fun g => stL [(2, (.c (.ptr ⟨1024000011, g⟩ 0 0))), (3, (.c (.p (.int .i64 14))))] [(⟨1024000011, g⟩, .box true [(.p (.int .i64 0)), (.p (.bool false)), (.p (.bool false)), (.p (.int .u32 0)), (.p (.int .i64 0)), (.p (.int .i64 0)), (.ref ⟨1024000012, g⟩ 0 ([] : List hashindex_Entry).length)]), (⟨1024000012, g⟩, .arr true 3 (([] : List hashindex_Entry).map r_hashindex_Entry))] (g + 1)) (ren_go (fun g S => [(⟨1024000011, g⟩, (keyT 0 (St.env S 2)))]) fun g S => [(⟨1024000012, g⟩, 3)]) fun g => ?_
       refine swp_ret ?_
       with_reducible repeat first|apply nn|apply nb|apply nr|apply nc|apply ne|apply nq|apply nx rfl
       obtain rfl := some_eq h
       simp -implicitDefEqProofs +decide only [go_sem, Nat.reduceAdd, Int.reduceToNat]
       all_goals first | done | trivial | assumption | (simp [maps]; done) | (simp [maps, hb4, hb5, hb32, hb34]; done)
      ·refine cond_f (by simp -implicitDefEqProofs +decide only [go_sem, hb4, hb5, hb32, hb34]) ?_
       refine swp_skip ?_
       with_reducible repeat first|apply nn|apply nb|apply nr|apply nc|apply ne|apply nq|apply nx rfl
       refine seq_reg rfl (fun K hK => ?_)
       simp -implicitDefEqProofs +decide only [go_sem, Nat.reduceAdd, Int.reduceToNat, hb4, hb5, hb32, hb34]
       refine hK _ ?_
       refine swp_ret ?_
       with_reducible repeat first|apply nn|apply nb|apply nr|apply nc|apply ne|apply nq|apply nx rfl
       obtain rfl := some_eq h
       simp -implicitDefEqProofs +decide only [go_sem, Nat.reduceAdd, Int.reduceToNat]
       all_goals first | done | trivial | assumption | (simp [maps]; done) | (simp [maps, hb4, hb5, hb32, hb34]; done)
    refine swp_seq ?_
    refine seq_reg rfl (fun K hK => ?_)
    refine psplit h (fun hp35 h => ?_)
    simp -implicitDefEqProofs +decide only [go_sem, Nat.reduceAdd, Int.reduceToNat, hp35, hb4, hb5]
    refine hK _ ?_
    refine swp_block ?_
    refine swp_iter (fun g x => match x with | (l51, x52) => stL [(1, (.c (.ptr ⟨1024000013, g⟩ 0 0))), (2, (.c (.ptr ⟨1024000014, g⟩ 0 0))), (6, (.c (.ptr ⟨1024000015, g⟩ 0 0))), (52, (.c (.cref ⟨1024000013, g⟩ 4 ((IntKind.i64.wrap (2 + (IntKind.i64.wrap (bits .and .u32 (shrV .u32 v1.Aux 8) 255)))) - 2).toNat 1))), (53, (.c (.p (.int .i64 (((IntKind.i64.wrap (2 + (IntKind.i64.wrap (bits .and .u32 (shrV .u32 v1.Aux 8) 255)))) - 2).toNat : Int))))), (54, (.c (.p (.int .i64 x52))))] [(⟨1024000013, g⟩, .box true (b_mq86 a0)), (⟨1024000014, g⟩, .box true [(.p (.int .i64 0)), (.p (.bool false)), (.p (.bool false)), (.p (.int .u32 0)), (.p (.int .i64 0)), (.p (.int .i64 0)), .nilS]), (⟨1024000015, g⟩, .box true [(.p (.int .i64 (IntKind.i64.wrap (bits .and .u32 v1.Aux 255)))), (.p (.bool ((bits .and .u32 v1.Aux 65536) != 0))), (.p (.bool ((bits .and .u32 v1.Aux 131072) != 0))), (.p (.int .u32 (IntKind.u32.wrap a0.Data.a1))), (.p (.int .i64 v6.Line)), (.p (.int .i64 v6.Gen)), (.ref ⟨1024000016, g⟩ 0 l51.length)]), (⟨1024000016, g⟩, .arr true 3 (l51.map r_hashindex_Entry))] (g + 1)) h (enter_of (ren_go (fun g S => [(⟨1024000013, g⟩, (keyT 0 (St.env S 1))), (⟨1024000014, g⟩, (keyT 0 (St.env S 2))), (⟨1024000015, g⟩, (keyT 0 (St.env S 6)))]) fun g S => [(⟨1024000016, g⟩, 3)])) ?_
    rintro g ⟨l51, x52⟩ s1 h hd1
    rw [btree_ReadNode_L1] at h
    try dsimp only
    refine seq_reg rfl (fun K hK => ?_)
    simp -implicitDefEqProofs +decide only [go_sem, Nat.reduceAdd, Int.reduceToNat]
    refine hK _ ?_
    refine swp_seq ?_
    refine bsplit h (fun hb55 h => ?_) (fun hb55 h => ?_)
    ·refine cond_t (by simp -implicitDefEqProofs +decide only [go_sem, hb55]) ?_
     refine swp_skip ?_
     with_reducible repeat first|apply nn|apply nb|apply nr|apply nc|apply ne|apply nq|apply nx rfl
     refine swp_seq ?_
     refine swp_block ?_
     refine seq_reg rfl (fun K hK => ?_)
     refine psplit h (fun hp56 h => ?_)
     simp -implicitDefEqProofs +decide only [go_sem, Nat.reduceAdd, Int.reduceToNat, hp56, hb55]
     first | refine opt_get (x := (.p (.int .u64 (A5.get (⟨a0.Data.a2, a0.Data.a3, a0.Data.a4, a0.Data.a5, a0.Data.a6⟩ : A5 Int) x52)))) (by rcases cases5 (And.intro hp56.1 hp56.2.2).1 (And.intro hp56.1 hp56.2.2).2 with hc | hc | hc | hc | hc <;> simp [hc, A5.get]) ?_ | refine opt_get' (x := (.p (.int .u64 (A5.get (⟨a0.Data.a2, a0.Data.a3, a0.Data.a4, a0.Data.a5, a0.Data.a6⟩ : A5 Int) x52)))) (by rcases cases5 (And.intro hp56.1 hp56.2.2).1 (And.intro hp56.1 hp56.2.2).2 with hc | hc | hc | hc | hc <;> simp [hc, A5.get]) ?_
     simp -implicitDefEqProofs +decide only [go_sem, Nat.reduceAdd, Int.reduceToNat, hb55]
     refine hK _ ?_
     refine swp_drw rfl (fun K hK => ?_)
     refine bind_of h (fun v57 hv57 h => ?_)
     simp -implicitDefEqProofs +decide only [go_sem, Nat.reduceAdd, Int.reduceToNat, hb55]
     refine call_go [0] false (pointer_Unpack_ok (cG G) hG0 _ _ hv57) ?_
     refine psplit h (fun hp58 h => ?_)
     simp -implicitDefEqProofs +decide only [go_sem, Nat.reduceAdd, Int.reduceToNat, hp58, hb55]
     refine draw_go (by kernel_rfl) ?_
     refine hK _ ?_
     with_reducible repeat first|apply nn|apply nb|apply nr|apply nc|apply ne|apply nq|apply nx rfl
     refine swp_fresh (fun g => stL [(1, (.c (.ptr ⟨1024000017, g⟩ 0 0))), (2, (.c (.ptr ⟨1024000018, g⟩ 0 0))), (6, (.c (.ptr ⟨1024000019, g⟩ 0 0))), (52, (.c (.cref ⟨1024000017, g⟩ 4 ((IntKind.i64.wrap (2 + (IntKind.i64.wrap (bits .and .u32 (shrV .u32 v1.Aux 8) 255)))) - 2).toNat 1))), (53, (.c (.p (.int .i64 (((IntKind.i64.wrap (2 + (IntKind.i64.wrap (bits .and .u32 (shrV .u32 v1.Aux 8) 255)))) - 2).toNat : Int))))), (54, (.c (.p (.int .i64 x52))))] [(⟨1024000017, g⟩, .box true (b_mq86 a0)), (⟨1024000018, g⟩, .box true [(.p (.int .i64 0)), (.p (.bool false)), (.p (.bool false)), (.p (.int .u32 0)), (.p (.int .i64 0)), (.p (.int .i64 0)), .nilS]), (⟨1024000019, g⟩, .box true [(.p (.int .i64 (IntKind.i64.wrap (bits .and .u32 v1.Aux 255)))), (.p (.bool ((bits .and .u32 v1.Aux 65536) != 0))), (.p (.bool ((bits .and .u32 v1.Aux 131072) != 0))), (.p (.int .u32 (IntKind.u32.wrap a0.Data.a1))), (.p (.int .i64 v6.Line)), (.p (.int .i64 v6.Gen)), (.ref ⟨1024000020, g⟩ 0 (l51 ++ ([(⟨(IntKind.u32.wrap (shrV .u64 (A5.get (⟨a0.Data.a2, a0.Data.a3, a0.Data.a4, a0.Data.a5, a0.Data.a6⟩ : A5 Int) x52) 32)), v57⟩ : hashindex_Entry)] : List hashindex_Entry)).length)]), (⟨1024000020, g⟩, .arr true 3 ((l51 ++ ([(⟨(IntKind.u32.wrap (shrV .u64 (A5.get (⟨a0.Data.a2, a0.Data.a3, a0.Data.a4, a0.Data.a5, a0.Data.a6⟩ : A5 Int) x52) 32)), v57⟩ : hashindex_Entry)] : List hashindex_Entry)).map r_hashindex_Entry))] (g + 1)) (ren_go (fun g S => [(⟨1024000017, g⟩, (keyT 0 (St.env S 1))), (⟨1024000018, g⟩, (keyT 0 (St.env S 2))), (⟨1024000019, g⟩, (keyT 0 (St.env S 6))), (⟨1024000020, g⟩, (keyB 6 (St.heap S (keyT 0 (St.env S 6)))))]) fun g S => []) fun g => ?_
     refine swp_reg rfl (fun K hK => ?_)
     simp -implicitDefEqProofs +decide only [go_sem, Nat.reduceAdd, Int.reduceToNat, hb55]
     refine hK _ ?_
     with_reducible repeat first|apply nn|apply nb|apply nr|apply nc|apply ne|apply nq|apply nx rfl
     exact back_of h (ren_go (fun g S => [(⟨1024000013, g⟩, (keyT 0 (St.env S 1))), (⟨1024000014, g⟩, (keyT 0 (St.env S 2))), (⟨1024000015, g⟩, (keyT 0 (St.env S 6))), (⟨1024000016, g⟩, (keyB 6 (St.heap S (keyT 0 (St.env S 6)))))]) fun g S => [])
    ·refine cond_f (by simp -implicitDefEqProofs +decide only [go_sem, hb55]) ?_
     refine swp_exit ?_
     with_reducible repeat first|apply nn|apply nb|apply nr|apply nc|apply ne|apply nq|apply nx rfl
     obtain ⟨h, hs1⟩ := exit_of h hd1
     with_reducible repeat first|apply nn|apply nb|apply nr|apply nc|apply ne|apply nq|apply nx rfl
     refine ⟨hs1, ?_⟩
     with_reducible repeat first|apply nn|apply nb|apply nr|apply nc|apply ne|apply nq|apply nx rfl
     exact jump_of hj1 h (ren_go (fun g S => [(⟨1024000005, g⟩, (keyT 0 (St.env S 1))), (⟨1024000006, g⟩, (keyT 0 (St.env S 2))), (⟨1024000007, g⟩, (keyT 0 (St.env S 6))), (⟨1024000008, g⟩, (keyB 6 (St.heap S (keyT 0 (St.env S 6)))))]) fun g S => [])
end Go.Sh
end
section
namespace Go.Sh
open Go.Proofs
noncomputable def btree_run_wait (a0 : btree_run) (a1 : Int) : Option (Bool × btree_run) :=
  some (false, (⟨a0.Op, a0.Known, ([a1] : List Int), a0.Writes, a0.Out, a0.RootPage, a0.Root, a0.Ended⟩ : btree_run))
theorem btree_run_wait_ok (G : Glob) (hG0 : G.glob 0 = some [(.int .i64 0), (.int .i64 0)]) (a0 : btree_run) (a1 : Int) (res : (Bool × btree_run)) (h : btree_run_wait a0 a1 = some res) : Spec Tryz.prog G 81 [.io (g_rhlf a0), .cell (.p (.int .i64 a1))] (fun r ios => r = .cell (.p (.bool res.1)) ∧ ios = [.io (g_rhlf res.2)]) := by
  rw [btree_run_wait] at h
  refine spec_of Tryz.mixed Tryz.func81 rfl rfl (by simp only [List.length]; decide +kernel) ?_
  refine swp_fresh (fun g => stL [(0, (.c (.ptr ⟨0, 1⟩ 0 0))), (1, (.c (.p (.int .i64 a1))))] [(⟨0, 1⟩, .box true (b_1wfs a0 ⟨1024000001, g⟩ ⟨1024000002, g⟩ ⟨1024000003, g⟩ ⟨1024000004, g⟩)), (⟨1024000001, g⟩, .arr true 1 (a0.Need.map r_i64)), (⟨1024000002, g⟩, .arr true 9 (a0.Writes.map r_api_Page)), (⟨1024000003, g⟩, .arr true 3 (a0.Out.Entries.map r_hashindex_Entry)), (⟨1024000004, g⟩, .arr true 1 (a0.Out.Check.map r_i64))] (g + 1)) (ren_go (fun g S => [(⟨1024000001, g⟩, (keyB 9 (St.heap S ⟨0, 1⟩))), (⟨1024000002, g⟩, (keyB 10 (St.heap S ⟨0, 1⟩))), (⟨1024000003, g⟩, (keyB 20 (St.heap S ⟨0, 1⟩))), (⟨1024000004, g⟩, (keyB 21 (St.heap S ⟨0, 1⟩)))]) fun g S => []) fun g => ?_
  refine seq_reg rfl (fun K hK => ?_)
  simp -implicitDefEqProofs +decide only [go_sem, Nat.reduceAdd, Int.reduceToNat]
  refine hK _ ?_
  refine seq_reg rfl (fun K hK => ?_)
  simp -implicitDefEqProofs +decide only [go_sem, Nat.reduceAdd, Int.reduceToNat]
  refine hK _ ?_
  refine seq_reg rfl (fun K hK => ?_)
  simp -implicitDefEqProofs +decide only [go_sem, Nat.reduceAdd, Int.reduceToNat]
  refine hK _ ?_
  refine swp_ret ?_
  with_reducible repeat first|apply nn|apply nb|apply nr|apply nc|apply ne|apply nq|apply nx rfl
  obtain rfl := some_eq h
  simp -implicitDefEqProofs +decide only [go_sem, Nat.reduceAdd, Int.reduceToNat]
  all_goals first | done | trivial | assumption | (simp [maps]; done) | (simp [maps]; done)
end Go.Sh
end
section
namespace Go.Sh
open Go.Proofs
noncomputable def pointer_Latest_L1 (a0 : (List api_Page)) (a1 : Int) (x12 : Int) : Option (Int ⊕ (api_Page × Bool)) :=
    if (decide (x12 ≥ 0)) = true then
      (idx a0 x12).bind fun e15 =>
      if (e15.Line == a1) = true then
        Option.map Sum.inr (
          some (e15, true))
      else
        some (.inl (IntKind.i64.wrap (x12 - 1)))
    else
      Option.map Sum.inr (
        some ((⟨0, 0, (⟨0, 0, 0, 0, 0, 0, 0⟩ : (A7 Int))⟩ : api_Page), false))
noncomputable def pointer_Latest (a0 : (List api_Page)) (a1 : Int) : Option (api_Page × Bool) :=
  iter (pointer_Latest_L1 a0 a1) (IntKind.i64.wrap ((a0.length : Int) - 1))
theorem pointer_Latest_ok (G : Glob) (hG0 : G.glob 0 = some [(.int .i64 0), (.int .i64 0)]) (a0 : (List api_Page)) (a1 : Int) (res : (api_Page × Bool)) (h : pointer_Latest a0 a1 = some res) : Spec Tryz.prog G 80 [.cell (.p (.rows (a0.map r_api_Page))), .cell (.p (.int .i64 a1))] (fun r ios => r = .tup [.agg (g_yylp res.1), .cell (.p (.bool res.2))] ∧ ios = []) := by
  rw [pointer_Latest] at h
  refine spec_of Tryz.mixed Tryz.func80 rfl rfl (by simp only [List.length]; decide +kernel) ?_
  refine swp_fresh (fun g => stL [(0, (.c (.p (.rows (a0.map r_api_Page))))), (1, (.c (.p (.int .i64 a1))))] [] (g + 1)) (ren_go (fun g S => []) fun g S => []) fun g => ?_
  refine seq_reg rfl (fun K hK => ?_)
  simp -implicitDefEqProofs +decide only [go_sem, Nat.reduceAdd, Int.reduceToNat]
  refine hK _ ?_
  refine swp_seq ?_
  refine seq_reg rfl (fun K hK => ?_)
  simp -implicitDefEqProofs +decide only [go_sem, Nat.reduceAdd, Int.reduceToNat]
  refine hK _ ?_
  refine swp_block ?_
  refine swp_iter (fun g x12 => stL [(0, (.c (.p (.rows (a0.map r_api_Page))))), (1, (.c (.p (.int .i64 a1)))), (4, (.c (.ptr ⟨1024000001, g⟩ 0 0))), (6, (.c (.p (.int .i64 x12))))] [(⟨1024000001, g⟩, .box true [(.p (.int .i64 0)), (.p (.int .u64 0)), (.p (.int .u64 0)), (.p (.int .u64 0)), (.p (.int .u64 0)), (.p (.int .u64 0)), (.p (.int .u64 0)), (.p (.int .u64 0)), (.p (.int .u64 0))])] (g + 1)) h (enter_of (ren_go (fun g S => [(⟨1024000001, g⟩, (keyT 0 (St.env S 4)))]) fun g S => [])) ?_
  rintro g x12 s1 h hd1
  rw [pointer_Latest_L1] at h
  try dsimp only
  refine swp_seq ?_
  refine seq_reg rfl (fun K hK => ?_)
  simp -implicitDefEqProofs +decide only [go_sem, Nat.reduceAdd, Int.reduceToNat]
  refine hK _ ?_
  refine bsplit h (fun hb14 h => ?_) (fun hb14 h => ?_)
  ·refine cond_t (by simp -implicitDefEqProofs +decide only [go_sem, hb14]) ?_
   refine swp_skip ?_
   with_reducible repeat first|apply nn|apply nb|apply nr|apply nc|apply ne|apply nq|apply nx rfl
   refine swp_seq ?_
   refine swp_block ?_
   refine seq_reg rfl (fun K hK => ?_)
   refine bind_of h (fun e15 he15 h => ?_)
   obtain ⟨he15_0, he15_1, he15_2⟩ := idx_some he15
   simp -implicitDefEqProofs +decide only [go_sem, Nat.reduceAdd, Int.reduceToNat, he15_0, he15_1, he15_2, hb14]
   refine hK _ ?_
   refine bsplit h (fun hb16 h => ?_) (fun hb16 h => ?_)
   ·refine cond_t (by simp -implicitDefEqProofs +decide only [go_sem, hb14, hb16]) ?_
    refine seq_reg rfl (fun K hK => ?_)
    simp -implicitDefEqProofs +decide only [go_sem, Nat.reduceAdd, Int.reduceToNat, he15_0, he15_1, he15_2, hb14, hb16]
    refine hK _ ?_
    refine swp_ret ?_
    with_reducible repeat first|apply nn|apply nb|apply nr|apply nc|apply ne|apply nq|apply nx rfl
    obtain ⟨h, hs1⟩ := exit_of h hd1
    refine ⟨hs1, ?_⟩
    with_reducible repeat first|apply nn|apply nb|apply nr|apply nc|apply ne|apply nq|apply nx rfl
    obtain rfl := some_eq h
    simp -implicitDefEqProofs +decide only [go_sem, Nat.reduceAdd, Int.reduceToNat]
    all_goals first | done | trivial | assumption | (simp [maps]; done) | (simp [maps, hb14, hb16]; done)
   ·refine cond_f (by simp -implicitDefEqProofs +decide only [go_sem, hb14, hb16]) ?_
    refine swp_skip ?_
    with_reducible repeat first|apply nn|apply nb|apply nr|apply nc|apply ne|apply nq|apply nx rfl
    refine swp_reg rfl (fun K hK => ?_)
    simp -implicitDefEqProofs +decide only [go_sem, Nat.reduceAdd, Int.reduceToNat, hb14, hb16]
    refine hK _ ?_
    with_reducible repeat first|apply nn|apply nb|apply nr|apply nc|apply ne|apply nq|apply nx rfl
    exact back_of h (ren_go (fun g S => [(⟨1024000001, g⟩, (keyT 0 (St.env S 4)))]) fun g S => [])
  ·refine cond_f (by simp -implicitDefEqProofs +decide only [go_sem, hb14]) ?_
   refine swp_exit ?_
   with_reducible repeat first|apply nn|apply nb|apply nr|apply nc|apply ne|apply nq|apply nx rfl
   obtain ⟨h, hs1⟩ := exit_of h hd1
   with_reducible repeat first|apply nn|apply nb|apply nr|apply nc|apply ne|apply nq|apply nx rfl
   refine ⟨hs1, ?_⟩
   with_reducible repeat first|apply nn|apply nb|apply nr|apply nc|apply ne|apply nq|apply nx rfl
   refine seq_reg rfl (fun K hK => ?_)
   simp -implicitDefEqProofs +decide only [go_sem, Nat.reduceAdd, Int.reduceToNat, hb14]
   refine hK _ ?_
   refine swp_ret ?_
   with_reducible repeat first|apply nn|apply nb|apply nr|apply nc|apply ne|apply nq|apply nx rfl
   obtain rfl := some_eq h
   simp -implicitDefEqProofs +decide only [go_sem, Nat.reduceAdd, Int.reduceToNat]
   all_goals first | done | trivial | assumption | (simp [maps]; done) | (simp [maps, hb14]; done)
end Go.Sh
end
section
namespace Go.Sh
open Go.Proofs
noncomputable def pointer_Locked (a0 : api_Page) : Option Bool :=
  some ((bits .and .u64 a0.Head 255) != 0)
theorem pointer_Locked_ok (G : Glob) (hG0 : G.glob 0 = some [(.int .i64 0), (.int .i64 0)]) (a0 : api_Page) (res : Bool) (h : pointer_Locked a0 = some res) : Spec Tryz.prog G 82 [.agg (g_yylp a0)] (fun r ios => r = .cell (.p (.bool res)) ∧ ios = []) := by
  rw [pointer_Locked] at h
  refine spec_of Tryz.mixed Tryz.func82 rfl rfl (by simp only [List.length]; decide +kernel) ?_
  refine swp_fresh (fun g => stL [(0, (.agg (b_mq86 a0)))] [] (g + 1)) (ren_go (fun g S => []) fun g S => []) fun g => ?_
  refine seq_reg rfl (fun K hK => ?_)
  simp -implicitDefEqProofs +decide only [go_sem, Nat.reduceAdd, Int.reduceToNat]
  refine hK _ ?_
  refine seq_reg rfl (fun K hK => ?_)
  simp -implicitDefEqProofs +decide only [go_sem, Nat.reduceAdd, Int.reduceToNat]
  refine hK _ ?_
  refine swp_ret ?_
  with_reducible repeat first|apply nn|apply nb|apply nr|apply nc|apply ne|apply nq|apply nx rfl
  obtain rfl := some_eq h
  simp -implicitDefEqProofs +decide only [go_sem, Nat.reduceAdd, Int.reduceToNat]
  all_goals first | done | trivial | assumption | (simp [maps]; done) | (simp [maps]; done)
end Go.Sh
end
section
namespace Go.Sh
open Go.Proofs
noncomputable def pointer_tagOf (a0 : api_Page) : Option pointer_Tag :=
  (pointer_UnpackTag a0.Data.a0).bind fun v1 =>
  some v1
theorem pointer_tagOf_ok (G : Glob) (hG0 : G.glob 0 = some [(.int .i64 0), (.int .i64 0)]) (a0 : api_Page) (res : pointer_Tag) (h : pointer_tagOf a0 = some res) : Spec Tryz.prog G 73 [.agg (g_yylp a0)] (fun r ios => r = .agg [.p (.int .i64 res.Kind), .p (.int .i64 res.Gen), .p (.int .u32 res.Aux)] ∧ ios = []) := by
  rw [pointer_tagOf] at h
  refine spec_of Tryz.mixed Tryz.func73 rfl rfl (by simp only [List.length]; decide +kernel) ?_
  refine swp_fresh (fun g => stL [(0, (.agg (b_mq86 a0)))] [] (g + 1)) (ren_go (fun g S => []) fun g S => []) fun g => ?_
  refine seq_reg rfl (fun K hK => ?_)
  simp -implicitDefEqProofs +decide only [go_sem, Nat.reduceAdd, Int.reduceToNat]
  refine hK _ ?_
  refine seq_reg rfl (fun K hK => ?_)
  refine bind_of h (fun v1 hv1 h => ?_)
  simp -implicitDefEqProofs +decide only [go_sem, Nat.reduceAdd, Int.reduceToNat]
  refine call_go [0] false (pointer_UnpackTag_ok (cG G) hG0 _ _ hv1) ?_
  simp -implicitDefEqProofs +decide only [go_sem, Nat.reduceAdd, Int.reduceToNat]
  refine hK _ ?_
  refine swp_ret ?_
  with_reducible repeat first|apply nn|apply nb|apply nr|apply nc|apply ne|apply nq|apply nx rfl
  obtain rfl := some_eq h
  simp -implicitDefEqProofs +decide only [go_sem, Nat.reduceAdd, Int.reduceToNat]
  all_goals first | done | trivial | assumption | (simp [maps]; done) | (simp [maps]; done)
end Go.Sh
end
section
namespace Go.Sh
open Go.Proofs
noncomputable def pointer_lookup (a0 : (List api_Page)) (a1 : pointer_Pointer) (a2 : Int) (a3 : Bool) : Option (api_Page × Bool × Int) :=
  (pointer_Valid a1).bind fun v3 =>
  if (!v3) = true then
    some ((⟨0, 0, (⟨0, 0, 0, 0, 0, 0, 0⟩ : (A7 Int))⟩ : api_Page), false, 1)
  else
    (pointer_Latest a0 a1.Line).bind fun v5 =>
    if (!v5.2) = true then
      some ((⟨0, 0, (⟨0, 0, 0, 0, 0, 0, 0⟩ : (A7 Int))⟩ : api_Page), false, 0)
    else
      (pointer_tagOf v5.1).bind fun v8 =>
      if a3 = true then
        (pointer_Locked v5.1).bind fun v10 =>
        if v10 = true then
          some ((⟨0, 0, (⟨0, 0, 0, 0, 0, 0, 0⟩ : (A7 Int))⟩ : api_Page), false, 3)
        else
          if (v8.Kind == 0) = true then
            some ((⟨0, 0, (⟨0, 0, 0, 0, 0, 0, 0⟩ : (A7 Int))⟩ : api_Page), false, 11)
          else
            if (v8.Gen != a1.Gen) = true then
              some ((⟨0, 0, (⟨0, 0, 0, 0, 0, 0, 0⟩ : (A7 Int))⟩ : api_Page), false, 11)
            else
              if (v8.Kind != a2) = true then
                some ((⟨0, 0, (⟨0, 0, 0, 0, 0, 0, 0⟩ : (A7 Int))⟩ : api_Page), false, 14)
              else
                some (v5.1, true, 0)
      else
        if (v8.Kind == 0) = true then
          some ((⟨0, 0, (⟨0, 0, 0, 0, 0, 0, 0⟩ : (A7 Int))⟩ : api_Page), false, 11)
        else
          if (v8.Gen != a1.Gen) = true then
            some ((⟨0, 0, (⟨0, 0, 0, 0, 0, 0, 0⟩ : (A7 Int))⟩ : api_Page), false, 11)
          else
            if (v8.Kind != a2) = true then
              some ((⟨0, 0, (⟨0, 0, 0, 0, 0, 0, 0⟩ : (A7 Int))⟩ : api_Page), false, 14)
            else
              some (v5.1, true, 0)
theorem pointer_lookup_ok (G : Glob) (hG0 : G.glob 0 = some [(.int .i64 0), (.int .i64 0)]) (a0 : (List api_Page)) (a1 : pointer_Pointer) (a2 : Int) (a3 : Bool) (res : (api_Page × Bool × Int)) (h : pointer_lookup a0 a1 a2 a3 = some res) : Spec Tryz.prog G 72 [.cell (.p (.rows (a0.map r_api_Page))), .agg [.p (.int .i64 a1.Line), .p (.int .i64 a1.Gen)], .cell (.p (.int .i64 a2)), .cell (.p (.bool a3))] (fun r ios => r = .tup [.agg (g_yylp res.1), .cell (.p (.bool res.2.1)), .cell (.p (.int .i64 res.2.2))] ∧ ios = []) := by
  rw [pointer_lookup] at h
  refine spec_of Tryz.mixed Tryz.func72 rfl rfl (by simp only [List.length]; decide +kernel) ?_
  refine swp_fresh (fun g => stL [(0, (.c (.p (.rows (a0.map r_api_Page))))), (1, (.agg [(.p (.int .i64 a1.Line)), (.p (.int .i64 a1.Gen))])), (2, (.c (.p (.int .i64 a2)))), (3, (.c (.p (.bool a3))))] [] (g + 1)) (ren_go (fun g S => []) fun g S => []) fun g => ?_
  refine seq_reg rfl (fun K hK => ?_)
  simp -implicitDefEqProofs +decide only [go_sem, Nat.reduceAdd, Int.reduceToNat]
  refine hK _ ?_
  refine swp_seq ?_
  refine seq_reg rfl (fun K hK => ?_)
  refine bind_of h (fun v3 hv3 h => ?_)
  simp -implicitDefEqProofs +decide only [go_sem, Nat.reduceAdd, Int.reduceToNat]
  refine call_go [0] false (pointer_Valid_ok (cG G) hG0 _ _ hv3) ?_
  simp -implicitDefEqProofs +decide only [go_sem, Nat.reduceAdd, Int.reduceToNat]
  refine hK _ ?_
  refine bsplit h (fun hb4 h => ?_) (fun hb4 h => ?_)
  ·refine cond_t (by simp -implicitDefEqProofs +decide only [go_sem, hb4]) ?_
   refine seq_reg rfl (fun K hK => ?_)
   simp -implicitDefEqProofs +decide only [go_sem, Nat.reduceAdd, Int.reduceToNat, hb4]
   refine hK _ ?_
   refine swp_ret ?_
   with_reducible repeat first|apply nn|apply nb|apply nr|apply nc|apply ne|apply nq|apply nx rfl
   obtain rfl := some_eq h
   simp -implicitDefEqProofs +decide only [go_sem, Nat.reduceAdd, Int.reduceToNat]
   all_goals first | done | trivial | assumption | (simp [maps]; done) | (simp [maps, hb4]; done)
  ·refine cond_f (by simp -implicitDefEqProofs +decide only [go_sem, hb4]) ?_
   refine swp_skip ?_
   with_reducible repeat first|apply nn|apply nb|apply nr|apply nc|apply ne|apply nq|apply nx rfl
   refine seq_reg rfl (fun K hK => ?_)
   refine bind_of h (fun v5 hv5 h => ?_)
   simp -implicitDefEqProofs +decide only [go_sem, Nat.reduceAdd, Int.reduceToNat, hb4]
   refine call_go [0, 0] false (pointer_Latest_ok (cG G) hG0 _ _ _ hv5) ?_
   simp -implicitDefEqProofs +decide only [go_sem, Nat.reduceAdd, Int.reduceToNat, hb4]
   refine hK _ ?_
   refine swp_seq ?_
   refine seq_reg rfl (fun K hK => ?_)
   simp -implicitDefEqProofs +decide only [go_sem, Nat.reduceAdd, Int.reduceToNat, hb4]
   refine hK _ ?_
   refine bsplit h (fun hb7 h => ?_) (fun hb7 h => ?_)
   ·refine cond_t (by simp -implicitDefEqProofs +decide only [go_sem, hb4, hb7]) ?_
    refine seq_reg rfl (fun K hK => ?_)
    simp -implicitDefEqProofs +decide only [go_sem, Nat.reduceAdd, Int.reduceToNat, hb4, hb7]
    refine hK _ ?_
    refine swp_ret ?_
    with_reducible repeat first|apply nn|apply nb|apply nr|apply nc|apply ne|apply nq|apply nx rfl
    obtain rfl := some_eq h
    simp -implicitDefEqProofs +decide only [go_sem, Nat.reduceAdd, Int.reduceToNat]
    all_goals first | done | trivial | assumption | (simp [maps]; done) | (simp [maps, hb4, hb7]; done)
   ·refine cond_f (by simp -implicitDefEqProofs +decide only [go_sem, hb4, hb7]) ?_
    refine swp_skip ?_
    with_reducible repeat first|apply nn|apply nb|apply nr|apply nc|apply ne|apply nq|apply nx rfl
    refine seq_reg rfl (fun K hK => ?_)
    refine bind_of h (fun v8 hv8 h => ?_)
    simp -implicitDefEqProofs +decide only [go_sem, Nat.reduceAdd, Int.reduceToNat, hb4, hb7]
    refine call_go [0] false (pointer_tagOf_ok (cG G) hG0 _ _ hv8) ?_
    simp -implicitDefEqProofs +decide only [go_sem, Nat.reduceAdd, Int.reduceToNat, hb4, hb7]
    refine hK _ ?_
    refine swp_seq ?_
    refine swp_block ?_
    refine seq_reg rfl (fun K hK => ?_)
    refine bsplit h (fun hb9 h => ?_) (fun hb9 h => ?_)
    ·refine bind_of h (fun v10 hv10 h => ?_)
     simp -implicitDefEqProofs +decide only [go_sem, Nat.reduceAdd, Int.reduceToNat, hb4, hb7, hb9]
     refine call_go [0] false (pointer_Locked_ok (cG G) hG0 _ _ hv10) ?_
     simp -implicitDefEqProofs +decide only [go_sem, Nat.reduceAdd, Int.reduceToNat, hb4, hb7, hb9]
     refine hK _ ?_
     refine bsplit h (fun hb11 h => ?_) (fun hb11 h => ?_)
     ·refine cond_t (by simp -implicitDefEqProofs +decide only [go_sem, hb4, hb7, hb9, hb11]) ?_
      refine seq_reg rfl (fun K hK => ?_)
      simp -implicitDefEqProofs +decide only [go_sem, Nat.reduceAdd, Int.reduceToNat, hb4, hb7, hb9, hb11]
      refine hK _ ?_
      refine swp_ret ?_
      with_reducible repeat first|apply nn|apply nb|apply nr|apply nc|apply ne|apply nq|apply nx rfl
      obtain rfl := some_eq h
      simp -implicitDefEqProofs +decide only [go_sem, Nat.reduceAdd, Int.reduceToNat]
      all_goals first | done | trivial | assumption | (simp [maps]; done) | (simp [maps, hb4, hb7, hb9, hb11]; done)
     ·refine cond_f (by simp -implicitDefEqProofs +decide only [go_sem, hb4, hb7, hb9, hb11]) ?_
      refine seq_reg rfl (fun K hK => ?_)
      refine bsplit h (fun hb12 h => ?_) (fun hb12 h => ?_)
      ·simp -implicitDefEqProofs +decide only [go_sem, Nat.reduceAdd, Int.reduceToNat, hb4, hb7, hb9, hb11, hb12]
       refine hK _ ?_
       refine cond_t (by simp -implicitDefEqProofs +decide only [go_sem, hb4, hb7, hb9, hb11, hb12]) ?_
       refine seq_reg rfl (fun K hK => ?_)
       simp -implicitDefEqProofs +decide only [go_sem, Nat.reduceAdd, Int.reduceToNat, hb4, hb7, hb9, hb11, hb12]
       refine hK _ ?_
       refine swp_ret ?_
       with_reducible repeat first|apply nn|apply nb|apply nr|apply nc|apply ne|apply nq|apply nx rfl
       obtain rfl := some_eq h
       simp -implicitDefEqProofs +decide only [go_sem, Nat.reduceAdd, Int.reduceToNat]
       all_goals first | done | trivial | assumption | (simp [maps]; done) | (simp [maps, hb4, hb7, hb9, hb11, hb12]; done)
      ·simp -implicitDefEqProofs +decide only [go_sem, Nat.reduceAdd, Int.reduceToNat, hb4, hb7, hb9, hb11, hb12]
       refine hK _ ?_
       refine bsplit h (fun hb13 h => ?_) (fun hb13 h => ?_)
       ·refine cond_t (by simp -implicitDefEqProofs +decide only [go_sem, hb4, hb7, hb9, hb11, hb12, hb13]) ?_
        refine seq_reg rfl (fun K hK => ?_)
        simp -implicitDefEqProofs +decide only [go_sem, Nat.reduceAdd, Int.reduceToNat, hb4, hb7, hb9, hb11, hb12, hb13]
        refine hK _ ?_
        refine swp_ret ?_
        with_reducible repeat first|apply nn|apply nb|apply nr|apply nc|apply ne|apply nq|apply nx rfl
        obtain rfl := some_eq h
        simp -implicitDefEqProofs +decide only [go_sem, Nat.reduceAdd, Int.reduceToNat]
        all_goals first | done | trivial | assumption | (simp [maps]; done) | (simp [maps, hb4, hb7, hb9, hb11, hb12, hb13]; done)
       ·refine cond_f (by simp -implicitDefEqProofs +decide only [go_sem, hb4, hb7, hb9, hb11, hb12, hb13]) ?_
        refine seq_reg rfl (fun K hK => ?_)
        simp -implicitDefEqProofs +decide only [go_sem, Nat.reduceAdd, Int.reduceToNat, hb4, hb7, hb9, hb11, hb12, hb13]
        refine hK _ ?_
        refine bsplit h (fun hb14 h => ?_) (fun hb14 h => ?_)
        ·refine cond_t (by simp -implicitDefEqProofs +decide only [go_sem, hb4, hb7, hb9, hb11, hb12, hb13, hb14]) ?_
         refine seq_reg rfl (fun K hK => ?_)
         simp -implicitDefEqProofs +decide only [go_sem, Nat.reduceAdd, Int.reduceToNat, hb4, hb7, hb9, hb11, hb12, hb13, hb14]
         refine hK _ ?_
         refine swp_ret ?_
         with_reducible repeat first|apply nn|apply nb|apply nr|apply nc|apply ne|apply nq|apply nx rfl
         obtain rfl := some_eq h
         simp -implicitDefEqProofs +decide only [go_sem, Nat.reduceAdd, Int.reduceToNat]
         all_goals first | done | trivial | assumption | (simp [maps]; done) | (simp [maps, hb4, hb7, hb9, hb11, hb12, hb13, hb14]; done)
        ·refine cond_f (by simp -implicitDefEqProofs +decide only [go_sem, hb4, hb7, hb9, hb11, hb12, hb13, hb14]) ?_
         refine swp_skip ?_
         with_reducible repeat first|apply nn|apply nb|apply nr|apply nc|apply ne|apply nq|apply nx rfl
         refine seq_reg rfl (fun K hK => ?_)
         simp -implicitDefEqProofs +decide only [go_sem, Nat.reduceAdd, Int.reduceToNat, hb4, hb7, hb9, hb11, hb12, hb13, hb14]
         refine hK _ ?_
         refine swp_ret ?_
         with_reducible repeat first|apply nn|apply nb|apply nr|apply nc|apply ne|apply nq|apply nx rfl
         obtain rfl := some_eq h
         simp -implicitDefEqProofs +decide only [go_sem, Nat.reduceAdd, Int.reduceToNat]
         all_goals first | done | trivial | assumption | (simp [maps]; done) | (simp [maps, hb4, hb7, hb9, hb11, hb12, hb13, hb14]; done)
    ·simp -implicitDefEqProofs +decide only [go_sem, Nat.reduceAdd, Int.reduceToNat, hb4, hb7, hb9]
     refine hK _ ?_
     refine cond_f (by simp -implicitDefEqProofs +decide only [go_sem, hb4, hb7, hb9]) ?_
     refine seq_reg rfl (fun K hK => ?_)
     refine bsplit h (fun hb15 h => ?_) (fun hb15 h => ?_)
     ·simp -implicitDefEqProofs +decide only [go_sem, Nat.reduceAdd, Int.reduceToNat, hb4, hb7, hb9, hb15]
      refine hK _ ?_
      refine cond_t (by simp -implicitDefEqProofs +decide only [go_sem, hb4, hb7, hb9, hb15]) ?_
      refine seq_reg rfl (fun K hK => ?_)
      simp -implicitDefEqProofs +decide only [go_sem, Nat.reduceAdd, Int.reduceToNat, hb4, hb7, hb9, hb15]
      refine hK _ ?_
      refine swp_ret ?_
      with_reducible repeat first|apply nn|apply nb|apply nr|apply nc|apply ne|apply nq|apply nx rfl
      obtain rfl := some_eq h
      simp -implicitDefEqProofs +decide only [go_sem, Nat.reduceAdd, Int.reduceToNat]
      all_goals first | done | trivial | assumption | (simp [maps]; done) | (simp [maps, hb4, hb7, hb9, hb15]; done)
     ·simp -implicitDefEqProofs +decide only [go_sem, Nat.reduceAdd, Int.reduceToNat, hb4, hb7, hb9, hb15]
      refine hK _ ?_
      refine bsplit h (fun hb16 h => ?_) (fun hb16 h => ?_)
      ·refine cond_t (by simp -implicitDefEqProofs +decide only [go_sem, hb4, hb7, hb9, hb15, hb16]) ?_
       refine seq_reg rfl (fun K hK => ?_)
       simp -implicitDefEqProofs +decide only [go_sem, Nat.reduceAdd, Int.reduceToNat, hb4, hb7, hb9, hb15, hb16]
       refine hK _ ?_
       refine swp_ret ?_
       with_reducible repeat first|apply nn|apply nb|apply nr|apply nc|apply ne|apply nq|apply nx rfl
       obtain rfl := some_eq h
       simp -implicitDefEqProofs +decide only [go_sem, Nat.reduceAdd, Int.reduceToNat]
       all_goals first | done | trivial | assumption | (simp [maps]; done) | (simp [maps, hb4, hb7, hb9, hb15, hb16]; done)
      ·refine cond_f (by simp -implicitDefEqProofs +decide only [go_sem, hb4, hb7, hb9, hb15, hb16]) ?_
       refine seq_reg rfl (fun K hK => ?_)
       simp -implicitDefEqProofs +decide only [go_sem, Nat.reduceAdd, Int.reduceToNat, hb4, hb7, hb9, hb15, hb16]
       refine hK _ ?_
       refine bsplit h (fun hb17 h => ?_) (fun hb17 h => ?_)
       ·refine cond_t (by simp -implicitDefEqProofs +decide only [go_sem, hb4, hb7, hb9, hb15, hb16, hb17]) ?_
        refine seq_reg rfl (fun K hK => ?_)
        simp -implicitDefEqProofs +decide only [go_sem, Nat.reduceAdd, Int.reduceToNat, hb4, hb7, hb9, hb15, hb16, hb17]
        refine hK _ ?_
        refine swp_ret ?_
        with_reducible repeat first|apply nn|apply nb|apply nr|apply nc|apply ne|apply nq|apply nx rfl
        obtain rfl := some_eq h
        simp -implicitDefEqProofs +decide only [go_sem, Nat.reduceAdd, Int.reduceToNat]
        all_goals first | done | trivial | assumption | (simp [maps]; done) | (simp [maps, hb4, hb7, hb9, hb15, hb16, hb17]; done)
       ·refine cond_f (by simp -implicitDefEqProofs +decide only [go_sem, hb4, hb7, hb9, hb15, hb16, hb17]) ?_
        refine swp_skip ?_
        with_reducible repeat first|apply nn|apply nb|apply nr|apply nc|apply ne|apply nq|apply nx rfl
        refine seq_reg rfl (fun K hK => ?_)
        simp -implicitDefEqProofs +decide only [go_sem, Nat.reduceAdd, Int.reduceToNat, hb4, hb7, hb9, hb15, hb16, hb17]
        refine hK _ ?_
        refine swp_ret ?_
        with_reducible repeat first|apply nn|apply nb|apply nr|apply nc|apply ne|apply nq|apply nx rfl
        obtain rfl := some_eq h
        simp -implicitDefEqProofs +decide only [go_sem, Nat.reduceAdd, Int.reduceToNat]
        all_goals first | done | trivial | assumption | (simp [maps]; done) | (simp [maps, hb4, hb7, hb9, hb15, hb16, hb17]; done)
end Go.Sh
end
section
namespace Go.Sh
open Go.Proofs
noncomputable def pointer_Peek (a0 : (List api_Page)) (a1 : pointer_Pointer) (a2 : Int) : Option (api_Page × Bool × Int) :=
  (pointer_lookup a0 a1 a2 false).bind fun v1 =>
  some (v1.1, v1.2.1, v1.2.2)
theorem pointer_Peek_ok (G : Glob) (hG0 : G.glob 0 = some [(.int .i64 0), (.int .i64 0)]) (a0 : (List api_Page)) (a1 : pointer_Pointer) (a2 : Int) (res : (api_Page × Bool × Int)) (h : pointer_Peek a0 a1 a2 = some res) : Spec Tryz.prog G 105 [.cell (.p (.rows (a0.map r_api_Page))), .agg [.p (.int .i64 a1.Line), .p (.int .i64 a1.Gen)], .cell (.p (.int .i64 a2))] (fun r ios => r = .tup [.agg (g_yylp res.1), .cell (.p (.bool res.2.1)), .cell (.p (.int .i64 res.2.2))] ∧ ios = []) := by
  rw [pointer_Peek] at h
  refine spec_of Tryz.mixed Tryz.func105 rfl rfl (by simp only [List.length]; decide +kernel) ?_
  refine swp_fresh (fun g => stL [(0, (.c (.p (.rows (a0.map r_api_Page))))), (1, (.agg [(.p (.int .i64 a1.Line)), (.p (.int .i64 a1.Gen))])), (2, (.c (.p (.int .i64 a2))))] [] (g + 1)) (ren_go (fun g S => []) fun g S => []) fun g => ?_
  refine seq_reg rfl (fun K hK => ?_)
  simp -implicitDefEqProofs +decide only [go_sem, Nat.reduceAdd, Int.reduceToNat]
  refine hK _ ?_
  refine seq_reg rfl (fun K hK => ?_)
  refine bind_of h (fun v1 hv1 h => ?_)
  simp -implicitDefEqProofs +decide only [go_sem, Nat.reduceAdd, Int.reduceToNat]
  refine call_go [0, 0, 0, 0] false (pointer_lookup_ok (cG G) hG0 _ _ _ _ _ hv1) ?_
  simp -implicitDefEqProofs +decide only [go_sem, Nat.reduceAdd, Int.reduceToNat]
  refine hK _ ?_
  refine swp_ret ?_
  with_reducible repeat first|apply nn|apply nb|apply nr|apply nc|apply ne|apply nq|apply nx rfl
  obtain rfl := some_eq h
  simp -implicitDefEqProofs +decide only [go_sem, Nat.reduceAdd, Int.reduceToNat]
  all_goals first | done | trivial | assumption | (simp [maps]; done) | (simp [maps]; done)
end Go.Sh
end
section
namespace Go.Sh
open Go.Proofs
noncomputable def btree_run_look (a0 : btree_run) (a1 : pointer_Pointer) : Option (btree_found × Bool × btree_run) :=
  (pointer_Peek a0.Known a1 4).bind fun v1 =>
  if (v1.2.2 != 0) = true then
    (btree_run_fail a0 v1.2.2 ([] : List Int)).bind fun v5 =>
    some ((⟨(⟨0, 0, (⟨0, 0, 0, 0, 0, 0, 0⟩ : (A7 Int))⟩ : api_Page), (⟨0, false, false, 0, (⟨0, 0⟩ : pointer_Pointer), ([] : List hashindex_Entry)⟩ : btree_Node)⟩ : btree_found), v5.1, v5.2)
  else
    if (!v1.2.1) = true then
      (btree_run_wait a0 a1.Line).bind fun v9 =>
      some ((⟨(⟨0, 0, (⟨0, 0, 0, 0, 0, 0, 0⟩ : (A7 Int))⟩ : api_Page), (⟨0, false, false, 0, (⟨0, 0⟩ : pointer_Pointer), ([] : List hashindex_Entry)⟩ : btree_Node)⟩ : btree_found), v9.1, v9.2)
    else
      (btree_ReadNode v1.1).bind fun v10 =>
      if (v10.2 != 0) = true then
        (btree_run_fail a0 v10.2 ([] : List Int)).bind fun v14 =>
        some ((⟨(⟨0, 0, (⟨0, 0, 0, 0, 0, 0, 0⟩ : (A7 Int))⟩ : api_Page), (⟨0, false, false, 0, (⟨0, 0⟩ : pointer_Pointer), ([] : List hashindex_Entry)⟩ : btree_Node)⟩ : btree_found), v14.1, v14.2)
      else
        some ((⟨v1.1, v10.1⟩ : btree_found), true, a0)
theorem btree_run_look_ok (G : Glob) (hG0 : G.glob 0 = some [(.int .i64 0), (.int .i64 0)]) (a0 : btree_run) (a1 : pointer_Pointer) (res : (btree_found × Bool × btree_run)) (h : btree_run_look a0 a1 = some res) : Spec Tryz.prog G 94 [.io (g_rhlf a0), .agg [.p (.int .i64 a1.Line), .p (.int .i64 a1.Gen)], .cell (.p (.clo 105 []))] (fun r ios => r = .tup [.agg (g_ggvz res.1), .cell (.p (.bool res.2.1))] ∧ ios = [.io (g_rhlf res.2.2)]) := by
  rw [btree_run_look] at h
  refine spec_of Tryz.mixed Tryz.func94 rfl rfl (by simp only [List.length]; decide +kernel) ?_
  refine swp_fresh (fun g => stL [(0, (.c (.ptr ⟨0, 1⟩ 0 0))), (1, (.agg [(.p (.int .i64 a1.Line)), (.p (.int .i64 a1.Gen))])), (2, (.c (.p (.clo 105 []))))] [(⟨0, 1⟩, .box true (b_1wfs a0 ⟨1024000001, g⟩ ⟨1024000002, g⟩ ⟨1024000003, g⟩ ⟨1024000004, g⟩)), (⟨1024000001, g⟩, .arr true 1 (a0.Need.map r_i64)), (⟨1024000002, g⟩, .arr true 9 (a0.Writes.map r_api_Page)), (⟨1024000003, g⟩, .arr true 3 (a0.Out.Entries.map r_hashindex_Entry)), (⟨1024000004, g⟩, .arr true 1 (a0.Out.Check.map r_i64))] (g + 1)) (ren_go (fun g S => [(⟨1024000001, g⟩, (keyB 9 (St.heap S ⟨0, 1⟩))), (⟨1024000002, g⟩, (keyB 10 (St.heap S ⟨0, 1⟩))), (⟨1024000003, g⟩, (keyB 20 (St.heap S ⟨0, 1⟩))), (⟨1024000004, g⟩, (keyB 21 (St.heap S ⟨0, 1⟩)))]) fun g S => []) fun g => ?_
  refine seq_reg rfl (fun K hK => ?_)
  simp -implicitDefEqProofs +decide only [go_sem, Nat.reduceAdd, Int.reduceToNat]
  refine hK _ ?_
  refine seq_drw rfl (fun K hK => ?_)
  refine bind_of h (fun v1 hv1 h => ?_)
  simp -implicitDefEqProofs +decide only [go_sem, Nat.reduceAdd, Int.reduceToNat]
  refine call_go [0, 0, 0] false (pointer_Peek_ok (cG G) hG0 _ _ _ _ hv1) ?_
  simp -implicitDefEqProofs +decide only [go_sem, Nat.reduceAdd, Int.reduceToNat]
  refine draw_go (by kernel_rfl) ?_
  refine hK _ ?_
  refine swp_seq ?_
  refine seq_reg rfl (fun K hK => ?_)
  simp -implicitDefEqProofs +decide only [go_sem, Nat.reduceAdd, Int.reduceToNat]
  refine hK _ ?_
  refine bsplit h (fun hb4 h => ?_) (fun hb4 h => ?_)
  ·refine cond_t (by simp -implicitDefEqProofs +decide only [go_sem, hb4]) ?_
   refine seq_reg rfl (fun K hK => ?_)
   refine bind_of h (fun v5 hv5 h => ?_)
   simp -implicitDefEqProofs +decide only [go_sem, Nat.reduceAdd, Int.reduceToNat, hb4]
   refine call_nil [0, 0, 1] true (btree_run_fail_ok (cG G) hG0 _ _ _ _ hv5) ?_
   simp -implicitDefEqProofs +decide only [go_sem, Nat.reduceAdd, Int.reduceToNat, hb4]
   refine hK _ ?_
   refine swp_fresh (fun g => stL [(6, (.c (.ptr ⟨1024000005, g⟩ 0 0))), (7, (.c (.p (.bool v5.1))))] [(⟨1024000005, g⟩, .box true [(.p (.int .i64 0)), (.p (.int .u64 0)), (.p (.int .u64 0)), (.p (.int .u64 0)), (.p (.int .u64 0)), (.p (.int .u64 0)), (.p (.int .u64 0)), (.p (.int .u64 0)), (.p (.int .u64 0)), (.p (.int .i64 0)), (.p (.bool false)), (.p (.bool false)), (.p (.int .u32 0)), (.p (.int .i64 0)), (.p (.int .i64 0)), (.ref ⟨1024000006, g⟩ 0 ([] : List hashindex_Entry).length)]), (⟨1024000006, g⟩, .arr true 3 (([] : List hashindex_Entry).map r_hashindex_Entry)), (⟨0, 1⟩, .box true (b_1wfs v5.2 ⟨1024000007, g⟩ ⟨1024000008, g⟩ ⟨1024000009, g⟩ ⟨1024000010, g⟩)), (⟨1024000007, g⟩, .arr true 1 (v5.2.Need.map r_i64)), (⟨1024000008, g⟩, .arr true 9 (v5.2.Writes.map r_api_Page)), (⟨1024000009, g⟩, .arr true 3 (v5.2.Out.Entries.map r_hashindex_Entry)), (⟨1024000010, g⟩, .arr true 1 (v5.2.Out.Check.map r_i64))] (g + 1)) (ren_go (fun g S => [(⟨1024000005, g⟩, (keyT 0 (St.env S 6))), (⟨1024000007, g⟩, (keyB 9 (St.heap S ⟨0, 1⟩))), (⟨1024000008, g⟩, (keyB 10 (St.heap S ⟨0, 1⟩))), (⟨1024000009, g⟩, (keyB 20 (St.heap S ⟨0, 1⟩))), (⟨1024000010, g⟩, (keyB 21 (St.heap S ⟨0, 1⟩)))]) fun g S => [(⟨1024000006, g⟩, 3)]) fun g => ?_
   refine swp_ret ?_
   with_reducible repeat first|apply nn|apply nb|apply nr|apply nc|apply ne|apply nq|apply nx rfl
   obtain rfl := some_eq h
   simp -implicitDefEqProofs +decide only [go_sem, Nat.reduceAdd, Int.reduceToNat]
   all_goals first | done | trivial | assumption | (simp [maps]; done) | (simp [maps, hb4]; done)
  ·refine cond_f (by simp -implicitDefEqProofs +decide only [go_sem, hb4]) ?_
   refine swp_skip ?_
   with_reducible repeat first|apply nn|apply nb|apply nr|apply nc|apply ne|apply nq|apply nx rfl
   refine swp_seq ?_
   refine seq_reg rfl (fun K hK => ?_)
   simp -implicitDefEqProofs +decide only [go_sem, Nat.reduceAdd, Int.reduceToNat, hb4]
   refine hK _ ?_
   refine bsplit h (fun hb8 h => ?_) (fun hb8 h => ?_)
   ·refine cond_t (by simp -implicitDefEqProofs +decide only [go_sem, hb4, hb8]) ?_
    refine seq_reg rfl (fun K hK => ?_)
    refine bind_of h (fun v9 hv9 h => ?_)
    simp -implicitDefEqProofs +decide only [go_sem, Nat.reduceAdd, Int.reduceToNat, hb4, hb8]
    refine call_go [0, 0] true (btree_run_wait_ok (cG G) hG0 _ _ _ hv9) ?_
    simp -implicitDefEqProofs +decide only [go_sem, Nat.reduceAdd, Int.reduceToNat, hb4, hb8]
    refine hK _ ?_
    refine swp_fresh (fun g => stL [(6, (.c (.ptr ⟨1024000011, g⟩ 0 0))), (7, (.c (.p (.bool v9.1))))] [(⟨1024000011, g⟩, .box true [(.p (.int .i64 0)), (.p (.int .u64 0)), (.p (.int .u64 0)), (.p (.int .u64 0)), (.p (.int .u64 0)), (.p (.int .u64 0)), (.p (.int .u64 0)), (.p (.int .u64 0)), (.p (.int .u64 0)), (.p (.int .i64 0)), (.p (.bool false)), (.p (.bool false)), (.p (.int .u32 0)), (.p (.int .i64 0)), (.p (.int .i64 0)), (.ref ⟨1024000012, g⟩ 0 ([] : List hashindex_Entry).length)]), (⟨1024000012, g⟩, .arr true 3 (([] : List hashindex_Entry).map r_hashindex_Entry)), (⟨0, 1⟩, .box true (b_1wfs v9.2 ⟨1024000013, g⟩ ⟨1024000014, g⟩ ⟨1024000015, g⟩ ⟨1024000016, g⟩)), (⟨1024000013, g⟩, .arr true 1 (v9.2.Need.map r_i64)), (⟨1024000014, g⟩, .arr true 9 (v9.2.Writes.map r_api_Page)), (⟨1024000015, g⟩, .arr true 3 (v9.2.Out.Entries.map r_hashindex_Entry)), (⟨1024000016, g⟩, .arr true 1 (v9.2.Out.Check.map r_i64))] (g + 1)) (ren_go (fun g S => [(⟨1024000011, g⟩, (keyT 0 (St.env S 6))), (⟨1024000013, g⟩, (keyB 9 (St.heap S ⟨0, 1⟩))), (⟨1024000014, g⟩, (keyB 10 (St.heap S ⟨0, 1⟩))), (⟨1024000015, g⟩, (keyB 20 (St.heap S ⟨0, 1⟩))), (⟨1024000016, g⟩, (keyB 21 (St.heap S ⟨0, 1⟩)))]) fun g S => [(⟨1024000012, g⟩, 3)]) fun g => ?_
    refine swp_ret ?_
    with_reducible repeat first|apply nn|apply nb|apply nr|apply nc|apply ne|apply nq|apply nx rfl
    obtain rfl := some_eq h
    simp -implicitDefEqProofs +decide only [go_sem, Nat.reduceAdd, Int.reduceToNat]
    all_goals first | done | trivial | assumption | (simp [maps]; done) | (simp [maps, hb4, hb8]; done)
   ·refine cond_f (by simp -implicitDefEqProofs +decide only [go_sem, hb4, hb8]) ?_
    refine swp_skip ?_
    with_reducible repeat first|apply nn|apply nb|apply nr|apply nc|apply ne|apply nq|apply nx rfl
    refine seq_reg rfl (fun K hK => ?_)
    refine bind_of h (fun v10 hv10 h => ?_)
    simp -implicitDefEqProofs +decide only [go_sem, Nat.reduceAdd, Int.reduceToNat, hb4, hb8]
    refine call_go [0] false (btree_ReadNode_ok (cG G) hG0 _ _ hv10) ?_
    simp -implicitDefEqProofs +decide only [go_sem, Nat.reduceAdd, Int.reduceToNat, hb4, hb8]
    refine hK _ ?_
    refine swp_seq ?_
    refine seq_reg rfl (fun K hK => ?_)
    simp -implicitDefEqProofs +decide only [go_sem, Nat.reduceAdd, Int.reduceToNat, hb4, hb8]
    refine hK _ ?_
    refine bsplit h (fun hb13 h => ?_) (fun hb13 h => ?_)
    ·refine cond_t (by simp -implicitDefEqProofs +decide only [go_sem, hb4, hb8, hb13]) ?_
     refine seq_reg rfl (fun K hK => ?_)
     refine bind_of h (fun v14 hv14 h => ?_)
     simp -implicitDefEqProofs +decide only [go_sem, Nat.reduceAdd, Int.reduceToNat, hb4, hb8, hb13]
     refine call_nil [0, 0, 1] true (btree_run_fail_ok (cG G) hG0 _ _ _ _ hv14) ?_
     simp -implicitDefEqProofs +decide only [go_sem, Nat.reduceAdd, Int.reduceToNat, hb4, hb8, hb13]
     refine hK _ ?_
     refine swp_fresh (fun g => stL [(6, (.c (.ptr ⟨1024000017, g⟩ 0 0))), (7, (.c (.p (.bool v14.1))))] [(⟨1024000017, g⟩, .box true [(.p (.int .i64 0)), (.p (.int .u64 0)), (.p (.int .u64 0)), (.p (.int .u64 0)), (.p (.int .u64 0)), (.p (.int .u64 0)), (.p (.int .u64 0)), (.p (.int .u64 0)), (.p (.int .u64 0)), (.p (.int .i64 0)), (.p (.bool false)), (.p (.bool false)), (.p (.int .u32 0)), (.p (.int .i64 0)), (.p (.int .i64 0)), (.ref ⟨1024000018, g⟩ 0 ([] : List hashindex_Entry).length)]), (⟨1024000018, g⟩, .arr true 3 (([] : List hashindex_Entry).map r_hashindex_Entry)), (⟨0, 1⟩, .box true (b_1wfs v14.2 ⟨1024000019, g⟩ ⟨1024000020, g⟩ ⟨1024000021, g⟩ ⟨1024000022, g⟩)), (⟨1024000019, g⟩, .arr true 1 (v14.2.Need.map r_i64)), (⟨1024000020, g⟩, .arr true 9 (v14.2.Writes.map r_api_Page)), (⟨1024000021, g⟩, .arr true 3 (v14.2.Out.Entries.map r_hashindex_Entry)), (⟨1024000022, g⟩, .arr true 1 (v14.2.Out.Check.map r_i64))] (g + 1)) (ren_go (fun g S => [(⟨1024000017, g⟩, (keyT 0 (St.env S 6))), (⟨1024000019, g⟩, (keyB 9 (St.heap S ⟨0, 1⟩))), (⟨1024000020, g⟩, (keyB 10 (St.heap S ⟨0, 1⟩))), (⟨1024000021, g⟩, (keyB 20 (St.heap S ⟨0, 1⟩))), (⟨1024000022, g⟩, (keyB 21 (St.heap S ⟨0, 1⟩)))]) fun g S => [(⟨1024000018, g⟩, 3)]) fun g => ?_
     refine swp_ret ?_
     with_reducible repeat first|apply nn|apply nb|apply nr|apply nc|apply ne|apply nq|apply nx rfl
     obtain rfl := some_eq h
     simp -implicitDefEqProofs +decide only [go_sem, Nat.reduceAdd, Int.reduceToNat]
     all_goals first | done | trivial | assumption | (simp [maps]; done) | (simp [maps, hb4, hb8, hb13]; done)
    ·refine cond_f (by simp -implicitDefEqProofs +decide only [go_sem, hb4, hb8, hb13]) ?_
     refine swp_skip ?_
     with_reducible repeat first|apply nn|apply nb|apply nr|apply nc|apply ne|apply nq|apply nx rfl
     refine seq_reg rfl (fun K hK => ?_)
     simp -implicitDefEqProofs +decide only [go_sem, Nat.reduceAdd, Int.reduceToNat, hb4, hb8, hb13]
     refine hK _ ?_
     refine swp_ret ?_
     with_reducible repeat first|apply nn|apply nb|apply nr|apply nc|apply ne|apply nq|apply nx rfl
     obtain rfl := some_eq h
     simp -implicitDefEqProofs +decide only [go_sem, Nat.reduceAdd, Int.reduceToNat]
     all_goals first | done | trivial | assumption | (simp [maps]; done) | (simp [maps, hb4, hb8, hb13]; done)
end Go.Sh
end
section
namespace Go.Sh
open Go.Proofs
noncomputable def btree_run_neighbour (a0 : btree_run) (a1 : btree_Node) : Option (btree_found × Bool × btree_run) :=
  (btree_run_look a0 a1.Right).bind fun v1 =>
  if v1.2.1 = true then
    if (v1.1.Node.Level != a1.Level) = true then
      (btree_run_fail v1.2.2 14 ([] : List Int)).bind fun v4 =>
      some ((⟨(⟨0, 0, (⟨0, 0, 0, 0, 0, 0, 0⟩ : (A7 Int))⟩ : api_Page), (⟨0, false, false, 0, (⟨0, 0⟩ : pointer_Pointer), ([] : List hashindex_Entry)⟩ : btree_Node)⟩ : btree_found), v4.1, v4.2)
    else
      some (v1.1, v1.2.1, v1.2.2)
  else
    some (v1.1, v1.2.1, v1.2.2)
theorem btree_run_neighbour_ok (G : Glob) (hG0 : G.glob 0 = some [(.int .i64 0), (.int .i64 0)]) (a0 : btree_run) (a1 : btree_Node) (res : (btree_found × Bool × btree_run)) (h : btree_run_neighbour a0 a1 = some res) : Spec Tryz.prog G 91 [.io (g_rhlf a0), .agg (g_kkcs a1)] (fun r ios => r = .tup [.agg (g_ggvz res.1), .cell (.p (.bool res.2.1))] ∧ ios = [.io (g_rhlf res.2.2)]) := by
  rw [btree_run_neighbour] at h
  refine spec_of Tryz.mixed Tryz.func91 rfl rfl (by simp only [List.length]; decide +kernel) ?_
  refine swp_fresh (fun g => stL [(0, (.c (.ptr ⟨0, 1⟩ 0 0))), (1, (.agg (b_kfil a1)))] [(⟨0, 1⟩, .box true (b_1wfs a0 ⟨1024000001, g⟩ ⟨1024000002, g⟩ ⟨1024000003, g⟩ ⟨1024000004, g⟩)), (⟨1024000001, g⟩, .arr true 1 (a0.Need.map r_i64)), (⟨1024000002, g⟩, .arr true 9 (a0.Writes.map r_api_Page)), (⟨1024000003, g⟩, .arr true 3 (a0.Out.Entries.map r_hashindex_Entry)), (⟨1024000004, g⟩, .arr true 1 (a0.Out.Check.map r_i64))] (g + 1)) (ren_go (fun g S => [(⟨1024000001, g⟩, (keyB 9 (St.heap S ⟨0, 1⟩))), (⟨1024000002, g⟩, (keyB 10 (St.heap S ⟨0, 1⟩))), (⟨1024000003, g⟩, (keyB 20 (St.heap S ⟨0, 1⟩))), (⟨1024000004, g⟩, (keyB 21 (St.heap S ⟨0, 1⟩)))]) fun g S => []) fun g => ?_
  refine seq_reg rfl (fun K hK => ?_)
  simp -implicitDefEqProofs +decide only [go_sem, Nat.reduceAdd, Int.reduceToNat]
  refine hK _ ?_
  refine seq_reg rfl (fun K hK => ?_)
  refine bind_of h (fun v1 hv1 h => ?_)
  simp -implicitDefEqProofs +decide only [go_sem, Nat.reduceAdd, Int.reduceToNat]
  refine call_go [0, 0, 0] true (btree_run_look_ok (cG G) hG0 _ _ _ hv1) ?_
  simp -implicitDefEqProofs +decide only [go_sem, Nat.reduceAdd, Int.reduceToNat]
  refine hK _ ?_
  refine swp_seq ?_
  refine seq_reg rfl (fun K hK => ?_)
  refine bsplit h (fun hb2 h => ?_) (fun hb2 h => ?_)
  ·simp -implicitDefEqProofs +decide only [go_sem, Nat.reduceAdd, Int.reduceToNat, hb2]
   refine hK _ ?_
   refine bsplit h (fun hb3 h => ?_) (fun hb3 h => ?_)
   ·refine cond_t (by simp -implicitDefEqProofs +decide only [go_sem, hb2, hb3]) ?_
    refine seq_reg rfl (fun K hK => ?_)
    refine bind_of h (fun v4 hv4 h => ?_)
    simp -implicitDefEqProofs +decide only [go_sem, Nat.reduceAdd, Int.reduceToNat, hb2, hb3]
    refine call_nil [0, 0, 1] true (btree_run_fail_ok (cG G) hG0 _ _ _ _ hv4) ?_
    simp -implicitDefEqProofs +decide only [go_sem, Nat.reduceAdd, Int.reduceToNat, hb2, hb3]
    refine hK _ ?_
    refine swp_fresh (fun g => stL [(4, (.c (.ptr ⟨1024000005, g⟩ 0 0))), (5, (.c (.p (.bool v4.1))))] [(⟨1024000005, g⟩, .box true [(.p (.int .i64 0)), (.p (.int .u64 0)), (.p (.int .u64 0)), (.p (.int .u64 0)), (.p (.int .u64 0)), (.p (.int .u64 0)), (.p (.int .u64 0)), (.p (.int .u64 0)), (.p (.int .u64 0)), (.p (.int .i64 0)), (.p (.bool false)), (.p (.bool false)), (.p (.int .u32 0)), (.p (.int .i64 0)), (.p (.int .i64 0)), (.ref ⟨1024000006, g⟩ 0 ([] : List hashindex_Entry).length)]), (⟨1024000006, g⟩, .arr true 3 (([] : List hashindex_Entry).map r_hashindex_Entry)), (⟨0, 1⟩, .box true (b_1wfs v4.2 ⟨1024000007, g⟩ ⟨1024000008, g⟩ ⟨1024000009, g⟩ ⟨1024000010, g⟩)), (⟨1024000007, g⟩, .arr true 1 (v4.2.Need.map r_i64)), (⟨1024000008, g⟩, .arr true 9 (v4.2.Writes.map r_api_Page)), (⟨1024000009, g⟩, .arr true 3 (v4.2.Out.Entries.map r_hashindex_Entry)), (⟨1024000010, g⟩, .arr true 1 (v4.2.Out.Check.map r_i64))] (g + 1)) (ren_go (fun g S => [(⟨1024000005, g⟩, (keyT 0 (St.env S 4))), (⟨1024000007, g⟩, (keyB 9 (St.heap S ⟨0, 1⟩))), (⟨1024000008, g⟩, (keyB 10 (St.heap S ⟨0, 1⟩))), (⟨1024000009, g⟩, (keyB 20 (St.heap S ⟨0, 1⟩))), (⟨1024000010, g⟩, (keyB 21 (St.heap S ⟨0, 1⟩)))]) fun g S => [(⟨1024000006, g⟩, 3)]) fun g => ?_
    refine swp_ret ?_
    with_reducible repeat first|apply nn|apply nb|apply nr|apply nc|apply ne|apply nq|apply nx rfl
    obtain rfl := some_eq h
    simp -implicitDefEqProofs +decide only [go_sem, Nat.reduceAdd, Int.reduceToNat]
    all_goals first | done | trivial | assumption | (simp [maps]; done) | (simp [maps, hb2, hb3]; done)
   ·refine cond_f (by simp -implicitDefEqProofs +decide only [go_sem, hb2, hb3]) ?_
    refine swp_skip ?_
    with_reducible repeat first|apply nn|apply nb|apply nr|apply nc|apply ne|apply nq|apply nx rfl
    refine seq_reg rfl (fun K hK => ?_)
    simp -implicitDefEqProofs +decide only [go_sem, Nat.reduceAdd, Int.reduceToNat, hb2, hb3]
    refine hK _ ?_
    refine swp_ret ?_
    with_reducible repeat first|apply nn|apply nb|apply nr|apply nc|apply ne|apply nq|apply nx rfl
    obtain rfl := some_eq h
    simp -implicitDefEqProofs +decide only [go_sem, Nat.reduceAdd, Int.reduceToNat]
    all_goals first | done | trivial | assumption | (simp [maps]; done) | (simp [maps, hb2, hb3]; done)
  ·simp -implicitDefEqProofs +decide only [go_sem, Nat.reduceAdd, Int.reduceToNat, hb2]
   refine hK _ ?_
   refine cond_f (by simp -implicitDefEqProofs +decide only [go_sem, hb2]) ?_
   refine swp_skip ?_
   with_reducible repeat first|apply nn|apply nb|apply nr|apply nc|apply ne|apply nq|apply nx rfl
   refine seq_reg rfl (fun K hK => ?_)
   simp -implicitDefEqProofs +decide only [go_sem, Nat.reduceAdd, Int.reduceToNat, hb2]
   refine hK _ ?_
   refine swp_ret ?_
   with_reducible repeat first|apply nn|apply nb|apply nr|apply nc|apply ne|apply nq|apply nx rfl
   obtain rfl := some_eq h
   simp -implicitDefEqProofs +decide only [go_sem, Nat.reduceAdd, Int.reduceToNat]
   all_goals first | done | trivial | assumption | (simp [maps]; done) | (simp [maps, hb2]; done)
end Go.Sh
end
section
namespace Go.Sh
open Go.Proofs
noncomputable def btree_run_descend_J2 (x219 : Int) (x186 : Int) (x187 : Int) (x188 : Int) (x189 : pointer_Pointer) (x190 : Int) (x191 : Int) (l192 : List api_Page) (l193 : List api_Page) (l194 : List Int) (l195 : List api_Page) (x196 : Int) (b197 : Bool) (b198 : Bool) (b199 : Bool) (b222 : Bool) (b202 : Bool) (x203 : pointer_Pointer) (l204 : List hashindex_Entry) (l205 : List Int) (x206 : Int) (x207 : Int) (x208 : Int) (x209 : api_Page) (x210 : pointer_Pointer) (b211 : Bool) (x212 : api_Page) (x213 : Int) (b214 : Bool) (b215 : Bool) (x216 : Int) (x217 : pointer_Pointer) (l218 : List hashindex_Entry) (b224 : Bool) : Option ((Int × Int × Int × pointer_Pointer × Int × Int × List api_Page × List api_Page × List Int × List api_Page × Int × Bool × Bool × Bool × Bool × Bool × Bool × pointer_Pointer × List hashindex_Entry × List Int × Int × Int × Int × api_Page × pointer_Pointer × Bool × api_Page × Int × Bool × Bool × Int × pointer_Pointer × List hashindex_Entry × Int) ⊕ (btree_found × Bool × Bool × btree_run)) :=
    if (decide ((IntKind.i64.wrap (x219 + 1)) > 256)) = true then
      (btree_run_fail (⟨(⟨x186, x187, x188, x189, x190, x191, l192⟩ : btree_Op), l193, l194, l195, (⟨x196, b197, b198, b199, b224, b222, b202, x203, l204, l205, (IntKind.i64.wrap (x206 + 1)), x207, x208⟩ : btree_Out), x209, x210, b211⟩ : btree_run) 14 ([] : List Int)).bind fun v228 =>
      Option.map Sum.inr (
        some ((⟨x212, (⟨x213, b214, b215, x216, x217, l218⟩ : btree_Node)⟩ : btree_found), false, v228.1, v228.2))
    else
      (btree_run_neighbour (⟨(⟨x186, x187, x188, x189, x190, x191, l192⟩ : btree_Op), l193, l194, l195, (⟨x196, b197, b198, b199, b224, b222, b202, x203, l204, l205, (IntKind.i64.wrap (x206 + 1)), x207, x208⟩ : btree_Out), x209, x210, b211⟩ : btree_run) (⟨x213, b214, b215, x216, x217, l218⟩ : btree_Node)).bind fun v229 =>
      if (!v229.2.1) = true then
        Option.map Sum.inr (
          some (v229.1, false, false, v229.2.2))
      else
        some (.inl (v229.2.2.Op.Kind, v229.2.2.Op.Key, v229.2.2.Op.Last, v229.2.2.Op.To, v229.2.2.Op.Level, v229.2.2.Op.Limit, v229.2.2.Op.Fresh, v229.2.2.Known, v229.2.2.Need, v229.2.2.Writes, v229.2.2.Out.Code, v229.2.2.Out.Found, v229.2.2.Out.Done, v229.2.2.Out.Split, v229.2.2.Out.Unposted, v229.2.2.Out.Dead, v229.2.2.Out.More, v229.2.2.Out.To, v229.2.2.Out.Entries, v229.2.2.Out.Check, v229.2.2.Out.Hops, v229.2.2.Out.Fresh, v229.2.2.Out.Height, v229.2.2.RootPage, v229.2.2.Root, v229.2.2.Ended, v229.1.Page, v229.1.Node.Level, v229.1.Node.Leftmost, v229.1.Node.Dead, v229.1.Node.High, v229.1.Node.Right, v229.1.Node.Entries, (IntKind.i64.wrap (x219 + 1))))
noncomputable def btree_run_descend_J1 (x219 : Int) (x186 : Int) (x187 : Int) (x188 : Int) (x189 : pointer_Pointer) (x190 : Int) (x191 : Int) (l192 : List api_Page) (l193 : List api_Page) (l194 : List Int) (l195 : List api_Page) (x196 : Int) (b197 : Bool) (b198 : Bool) (b199 : Bool) (b202 : Bool) (x203 : pointer_Pointer) (l204 : List hashindex_Entry) (l205 : List Int) (x206 : Int) (x207 : Int) (x208 : Int) (x209 : api_Page) (x210 : pointer_Pointer) (b211 : Bool) (x212 : api_Page) (x213 : Int) (b214 : Bool) (b215 : Bool) (x216 : Int) (x217 : pointer_Pointer) (l218 : List hashindex_Entry) (b200 : Bool) (b222 : Bool) : Option ((Int × Int × Int × pointer_Pointer × Int × Int × List api_Page × List api_Page × List Int × List api_Page × Int × Bool × Bool × Bool × Bool × Bool × Bool × pointer_Pointer × List hashindex_Entry × List Int × Int × Int × Int × api_Page × pointer_Pointer × Bool × api_Page × Int × Bool × Bool × Int × pointer_Pointer × List hashindex_Entry × Int) ⊕ (btree_found × Bool × Bool × btree_run)) :=
    btree_run_descend_J2 x219 x186 x187 x188 x189 x190 x191 l192 l193 l194 l195 x196 b197 b198 b199 b222 b202 x203 l204 l205 x206 x207 x208 x209 x210 b211 x212 x213 b214 b215 x216 x217 l218 (b200 || false)
noncomputable def btree_run_descend_J4 (x219 : Int) (x186 : Int) (x187 : Int) (x188 : Int) (x189 : pointer_Pointer) (x190 : Int) (x191 : Int) (l192 : List api_Page) (l193 : List api_Page) (l194 : List Int) (l195 : List api_Page) (x196 : Int) (b197 : Bool) (b198 : Bool) (b199 : Bool) (b273 : Bool) (b202 : Bool) (x203 : pointer_Pointer) (l204 : List hashindex_Entry) (l205 : List Int) (x206 : Int) (x207 : Int) (x208 : Int) (x209 : api_Page) (x210 : pointer_Pointer) (b211 : Bool) (x212 : api_Page) (x213 : Int) (b214 : Bool) (b215 : Bool) (x216 : Int) (x217 : pointer_Pointer) (l218 : List hashindex_Entry) : Unit → Option ((Int × Int × Int × pointer_Pointer × Int × Int × List api_Page × List api_Page × List Int × List api_Page × Int × Bool × Bool × Bool × Bool × Bool × Bool × pointer_Pointer × List hashindex_Entry × List Int × Int × Int × Int × api_Page × pointer_Pointer × Bool × api_Page × Int × Bool × Bool × Int × pointer_Pointer × List hashindex_Entry × Int) ⊕ (btree_found × Bool × Bool × btree_run))
  | () =>
    if (decide ((IntKind.i64.wrap (x219 + 1)) > 256)) = true then
      (btree_run_fail (⟨(⟨x186, x187, x188, x189, x190, x191, l192⟩ : btree_Op), l193, l194, l195, (⟨x196, b197, b198, b199, true, b273, b202, x203, l204, l205, (IntKind.i64.wrap (x206 + 1)), x207, x208⟩ : btree_Out), x209, x210, b211⟩ : btree_run) 14 ([] : List Int)).bind fun v278 =>
      Option.map Sum.inr (
        some ((⟨x212, (⟨x213, b214, b215, x216, x217, l218⟩ : btree_Node)⟩ : btree_found), false, v278.1, v278.2))
    else
      (btree_run_neighbour (⟨(⟨x186, x187, x188, x189, x190, x191, l192⟩ : btree_Op), l193, l194, l195, (⟨x196, b197, b198, b199, true, b273, b202, x203, l204, l205, (IntKind.i64.wrap (x206 + 1)), x207, x208⟩ : btree_Out), x209, x210, b211⟩ : btree_run) (⟨x213, b214, b215, x216, x217, l218⟩ : btree_Node)).bind fun v279 =>
      if (!v279.2.1) = true then
        Option.map Sum.inr (
          some (v279.1, false, false, v279.2.2))
      else
        some (.inl (v279.2.2.Op.Kind, v279.2.2.Op.Key, v279.2.2.Op.Last, v279.2.2.Op.To, v279.2.2.Op.Level, v279.2.2.Op.Limit, v279.2.2.Op.Fresh, v279.2.2.Known, v279.2.2.Need, v279.2.2.Writes, v279.2.2.Out.Code, v279.2.2.Out.Found, v279.2.2.Out.Done, v279.2.2.Out.Split, v279.2.2.Out.Unposted, v279.2.2.Out.Dead, v279.2.2.Out.More, v279.2.2.Out.To, v279.2.2.Out.Entries, v279.2.2.Out.Check, v279.2.2.Out.Hops, v279.2.2.Out.Fresh, v279.2.2.Out.Height, v279.2.2.RootPage, v279.2.2.Root, v279.2.2.Ended, v279.1.Page, v279.1.Node.Level, v279.1.Node.Leftmost, v279.1.Node.Dead, v279.1.Node.High, v279.1.Node.Right, v279.1.Node.Entries, (IntKind.i64.wrap (x219 + 1))))
noncomputable def btree_run_descend_J3 (x219 : Int) (x186 : Int) (x187 : Int) (x188 : Int) (x189 : pointer_Pointer) (x190 : Int) (x191 : Int) (l192 : List api_Page) (l193 : List api_Page) (l194 : List Int) (l195 : List api_Page) (x196 : Int) (b197 : Bool) (b198 : Bool) (b199 : Bool) (b202 : Bool) (x203 : pointer_Pointer) (l204 : List hashindex_Entry) (l205 : List Int) (x206 : Int) (x207 : Int) (x208 : Int) (x209 : api_Page) (x210 : pointer_Pointer) (b211 : Bool) (x212 : api_Page) (x213 : Int) (b214 : Bool) (b215 : Bool) (x216 : Int) (x217 : pointer_Pointer) (l218 : List hashindex_Entry) (b273 : Bool) : Option ((Int × Int × Int × pointer_Pointer × Int × Int × List api_Page × List api_Page × List Int × List api_Page × Int × Bool × Bool × Bool × Bool × Bool × Bool × pointer_Pointer × List hashindex_Entry × List Int × Int × Int × Int × api_Page × pointer_Pointer × Bool × api_Page × Int × Bool × Bool × Int × pointer_Pointer × List hashindex_Entry × Int) ⊕ (btree_found × Bool × Bool × btree_run)) :=
    btree_run_descend_J4 x219 x186 x187 x188 x189 x190 x191 l192 l193 l194 l195 x196 b197 b198 b199 b273 b202 x203 l204 l205 x206 x207 x208 x209 x210 b211 x212 x213 b214 b215 x216 x217 l218 ()
noncomputable def btree_run_descend_L1 (a2 : Int) (a1 : Int) (v1 : (btree_found × Bool × btree_run)) : (Int × Int × Int × pointer_Pointer × Int × Int × List api_Page × List api_Page × List Int × List api_Page × Int × Bool × Bool × Bool × Bool × Bool × Bool × pointer_Pointer × List hashindex_Entry × List Int × Int × Int × Int × api_Page × pointer_Pointer × Bool × api_Page × Int × Bool × Bool × Int × pointer_Pointer × List hashindex_Entry × Int) → Option ((Int × Int × Int × pointer_Pointer × Int × Int × List api_Page × List api_Page × List Int × List api_Page × Int × Bool × Bool × Bool × Bool × Bool × Bool × pointer_Pointer × List hashindex_Entry × List Int × Int × Int × Int × api_Page × pointer_Pointer × Bool × api_Page × Int × Bool × Bool × Int × pointer_Pointer × List hashindex_Entry × Int) ⊕ (btree_found × Bool × Bool × btree_run))
  | (x186, x187, x188, x189, x190, x191, l192, l193, l194, l195, x196, b197, b198, b199, b200, b201, b202, x203, l204, l205, x206, x207, x208, x209, x210, b211, x212, x213, b214, b215, x216, x217, l218, x219) =>
    if b215 = true then
      btree_run_descend_J1 x219 x186 x187 x188 x189 x190 x191 l192 l193 l194 l195 x196 b197 b198 b199 b202 x203 l204 l205 x206 x207 x208 x209 x210 b211 x212 x213 b214 b215 x216 x217 l218 b200 (b201 || b215)
    else
      if (decide (a2 > x216)) = true then
        btree_run_descend_J3 x219 x186 x187 x188 x189 x190 x191 l192 l193 l194 l195 x196 b197 b198 b199 b202 x203 l204 l205 x206 x207 x208 x209 x210 b211 x212 x213 b214 b215 x216 x217 l218 (b201 || b215)
      else
        if (x213 == a1) = true then
          (pointer_Locked x212).bind fun v320 =>
          if v320 = true then
            (btree_run_fail (⟨(⟨x186, x187, x188, x189, x190, x191, l192⟩ : btree_Op), l193, l194, l195, (⟨x196, b197, b198, b199, b200, b201, b202, x203, l204, l205, x206, x207, (IntKind.i64.wrap (v1.1.Node.Level + 1))⟩ : btree_Out), x209, x210, true⟩ : btree_run) 3 ([] : List Int)).bind fun v322 =>
            Option.map Sum.inr (
              some ((⟨x212, (⟨x213, b214, b215, x216, x217, l218⟩ : btree_Node)⟩ : btree_found), false, v322.1, v322.2))
          else
            Option.map Sum.inr (
              some ((⟨x212, (⟨x213, b214, b215, x216, x217, l218⟩ : btree_Node)⟩ : btree_found), false, true, (⟨(⟨x186, x187, x188, x189, x190, x191, l192⟩ : btree_Op), l193, l194, l195, (⟨x196, b197, b198, b199, b200, b201, b202, x203, l204, l205, x206, x207, (IntKind.i64.wrap (v1.1.Node.Level + 1))⟩ : btree_Out), x209, x210, true⟩ : btree_run)))
        else
          (btree_Node_child (⟨x213, b214, b215, x216, x217, l218⟩ : btree_Node) a2).bind fun v327 =>
          (idx l218 v327).bind fun e328 =>
          (btree_run_look (⟨(⟨x186, x187, x188, x189, x190, x191, l192⟩ : btree_Op), l193, l194, l195, (⟨x196, b197, b198, b199, b200, b201, b202, x203, l204, l205, x206, x207, x208⟩ : btree_Out), x209, x210, b211⟩ : btree_run) e328.To).bind fun v329 =>
          if (!v329.2.1) = true then
            Option.map Sum.inr (
              some (v329.1, false, false, v329.2.2))
          else
            if (v329.1.Node.Level != (IntKind.i64.wrap (x213 - 1))) = true then
              (btree_run_fail v329.2.2 14 ([] : List Int)).bind fun v332 =>
              Option.map Sum.inr (
                some (v329.1, false, v332.1, v332.2))
            else
              some (.inl (v329.2.2.Op.Kind, v329.2.2.Op.Key, v329.2.2.Op.Last, v329.2.2.Op.To, v329.2.2.Op.Level, v329.2.2.Op.Limit, v329.2.2.Op.Fresh, v329.2.2.Known, v329.2.2.Need, v329.2.2.Writes, v329.2.2.Out.Code, v329.2.2.Out.Found, v329.2.2.Out.Done, v329.2.2.Out.Split, v329.2.2.Out.Unposted, v329.2.2.Out.Dead, v329.2.2.Out.More, v329.2.2.Out.To, v329.2.2.Out.Entries, v329.2.2.Out.Check, v329.2.2.Out.Hops, v329.2.2.Out.Fresh, v329.2.2.Out.Height, v329.2.2.RootPage, v329.2.2.Root, v329.2.2.Ended, v329.1.Page, v329.1.Node.Level, v329.1.Node.Leftmost, v329.1.Node.Dead, v329.1.Node.High, v329.1.Node.Right, v329.1.Node.Entries, x219))
noncomputable def btree_run_descend (a0 : btree_run) (a1 : Int) (a2 : Int) : Option (btree_found × Bool × Bool × btree_run) :=
  (btree_run_look a0 a0.Root).bind fun v1 =>
  if (!v1.2.1) = true then
    some (v1.1, false, false, v1.2.2)
  else
    if (decide (v1.1.Node.Level < a1)) = true then
      some ((⟨(⟨0, 0, (⟨0, 0, 0, 0, 0, 0, 0⟩ : (A7 Int))⟩ : api_Page), (⟨0, false, false, 0, (⟨0, 0⟩ : pointer_Pointer), ([] : List hashindex_Entry)⟩ : btree_Node)⟩ : btree_found), true, false, v1.2.2)
    else
      iter (btree_run_descend_L1 a2 a1 v1) (v1.2.2.Op.Kind, v1.2.2.Op.Key, v1.2.2.Op.Last, v1.2.2.Op.To, v1.2.2.Op.Level, v1.2.2.Op.Limit, v1.2.2.Op.Fresh, v1.2.2.Known, v1.2.2.Need, v1.2.2.Writes, v1.2.2.Out.Code, v1.2.2.Out.Found, v1.2.2.Out.Done, v1.2.2.Out.Split, v1.2.2.Out.Unposted, v1.2.2.Out.Dead, v1.2.2.Out.More, v1.2.2.Out.To, v1.2.2.Out.Entries, v1.2.2.Out.Check, v1.2.2.Out.Hops, v1.2.2.Out.Fresh, v1.2.2.Out.Height, v1.2.2.RootPage, v1.2.2.Root, v1.2.2.Ended, v1.1.Page, v1.1.Node.Level, v1.1.Node.Leftmost, v1.1.Node.Dead, v1.1.Node.High, v1.1.Node.Right, v1.1.Node.Entries, 0)
theorem btree_run_descend_ok (G : Glob) (hG0 : G.glob 0 = some [(.int .i64 0), (.int .i64 0)]) (a0 : btree_run) (a1 : Int) (a2 : Int) (res : (btree_found × Bool × Bool × btree_run)) (h : btree_run_descend a0 a1 a2 = some res) : Spec Tryz.prog G 92 [.io (g_rhlf a0), .cell (.p (.int .i64 a1)), .cell (.p (.int .u32 a2))] (fun r ios => r = .tup [.agg (g_ggvz res.1), .cell (.p (.bool res.2.1)), .cell (.p (.bool res.2.2.1))] ∧ ios = [.io (g_rhlf res.2.2.2)]) := by
  rw [btree_run_descend] at h
  refine spec_of Tryz.mixed Tryz.func92 rfl rfl (by simp only [List.length]; decide +kernel) ?_
  refine swp_fresh (fun g => stL [(0, (.c (.ptr ⟨0, 1⟩ 0 0))), (1, (.c (.p (.int .i64 a1)))), (2, (.c (.p (.int .u32 a2))))] [(⟨0, 1⟩, .box true (b_1wfs a0 ⟨1024000001, g⟩ ⟨1024000002, g⟩ ⟨1024000003, g⟩ ⟨1024000004, g⟩)), (⟨1024000001, g⟩, .arr true 1 (a0.Need.map r_i64)), (⟨1024000002, g⟩, .arr true 9 (a0.Writes.map r_api_Page)), (⟨1024000003, g⟩, .arr true 3 (a0.Out.Entries.map r_hashindex_Entry)), (⟨1024000004, g⟩, .arr true 1 (a0.Out.Check.map r_i64))] (g + 1)) (ren_go (fun g S => [(⟨1024000001, g⟩, (keyB 9 (St.heap S ⟨0, 1⟩))), (⟨1024000002, g⟩, (keyB 10 (St.heap S ⟨0, 1⟩))), (⟨1024000003, g⟩, (keyB 20 (St.heap S ⟨0, 1⟩))), (⟨1024000004, g⟩, (keyB 21 (St.heap S ⟨0, 1⟩)))]) fun g S => []) fun g => ?_
  refine seq_reg rfl (fun K hK => ?_)
  simp -implicitDefEqProofs +decide only [go_sem, Nat.reduceAdd, Int.reduceToNat]
  refine hK _ ?_
  refine seq_reg rfl (fun K hK => ?_)
  refine bind_of h (fun v1 hv1 h => ?_)
  simp -implicitDefEqProofs +decide only [go_sem, Nat.reduceAdd, Int.reduceToNat]
  refine call_go [0, 0, 0] true (btree_run_look_ok (cG G) hG0 _ _ _ hv1) ?_
  simp -implicitDefEqProofs +decide only [go_sem, Nat.reduceAdd, Int.reduceToNat]
  refine hK _ ?_
  refine swp_seq ?_
  refine seq_reg rfl (fun K hK => ?_)
  simp -implicitDefEqProofs +decide only [go_sem, Nat.reduceAdd, Int.reduceToNat]
  refine hK _ ?_
  refine bsplit h (fun hb3 h => ?_) (fun hb3 h => ?_)
  ·refine cond_t (by simp -implicitDefEqProofs +decide only [go_sem, hb3]) ?_
   refine seq_reg rfl (fun K hK => ?_)
   simp -implicitDefEqProofs +decide only [go_sem, Nat.reduceAdd, Int.reduceToNat, hb3]
   refine hK _ ?_
   refine swp_ret ?_
   with_reducible repeat first|apply nn|apply nb|apply nr|apply nc|apply ne|apply nq|apply nx rfl
   obtain rfl := some_eq h
   simp -implicitDefEqProofs +decide only [go_sem, Nat.reduceAdd, Int.reduceToNat]
   all_goals first | done | trivial | assumption | (simp [maps]; done) | (simp [maps, hb3]; done)
  ·refine cond_f (by simp -implicitDefEqProofs +decide only [go_sem, hb3]) ?_
   refine swp_skip ?_
   with_reducible repeat first|apply nn|apply nb|apply nr|apply nc|apply ne|apply nq|apply nx rfl
   refine swp_seq ?_
   refine seq_reg rfl (fun K hK => ?_)
   simp -implicitDefEqProofs +decide only [go_sem, Nat.reduceAdd, Int.reduceToNat, hb3]
   refine hK _ ?_
   refine bsplit h (fun hb5 h => ?_) (fun hb5 h => ?_)
   ·refine cond_t (by simp -implicitDefEqProofs +decide only [go_sem, hb3, hb5]) ?_
    refine seq_reg rfl (fun K hK => ?_)
    simp -implicitDefEqProofs +decide only [go_sem, Nat.reduceAdd, Int.reduceToNat, hb3, hb5]
    refine hK _ ?_
    refine swp_fresh (fun g => stL [(6, (.c (.ptr ⟨1024000005, g⟩ 0 0))), (7, (.c (.p (.bool true)))), (8, (.c (.p (.bool false))))] [(⟨1024000005, g⟩, .box true [(.p (.int .i64 0)), (.p (.int .u64 0)), (.p (.int .u64 0)), (.p (.int .u64 0)), (.p (.int .u64 0)), (.p (.int .u64 0)), (.p (.int .u64 0)), (.p (.int .u64 0)), (.p (.int .u64 0)), (.p (.int .i64 0)), (.p (.bool false)), (.p (.bool false)), (.p (.int .u32 0)), (.p (.int .i64 0)), (.p (.int .i64 0)), (.ref ⟨1024000006, g⟩ 0 ([] : List hashindex_Entry).length)]), (⟨1024000006, g⟩, .arr true 3 (([] : List hashindex_Entry).map r_hashindex_Entry)), (⟨0, 1⟩, .box true (b_1wfs v1.2.2 ⟨1024000007, g⟩ ⟨1024000008, g⟩ ⟨1024000009, g⟩ ⟨1024000010, g⟩)), (⟨1024000007, g⟩, .arr true 1 (v1.2.2.Need.map r_i64)), (⟨1024000008, g⟩, .arr true 9 (v1.2.2.Writes.map r_api_Page)), (⟨1024000009, g⟩, .arr true 3 (v1.2.2.Out.Entries.map r_hashindex_Entry)), (⟨1024000010, g⟩, .arr true 1 (v1.2.2.Out.Check.map r_i64))] (g + 1)) (ren_go (fun g S => [(⟨1024000005, g⟩, (keyT 0 (St.env S 6))), (⟨1024000007, g⟩, (keyB 9 (St.heap S ⟨0, 1⟩))), (⟨1024000008, g⟩, (keyB 10 (St.heap S ⟨0, 1⟩))), (⟨1024000009, g⟩, (keyB 20 (St.heap S ⟨0, 1⟩))), (⟨1024000010, g⟩, (keyB 21 (St.heap S ⟨0, 1⟩)))]) fun g S => [(⟨1024000006, g⟩, 3)]) fun g => ?_
    refine swp_ret ?_
    with_reducible repeat first|apply nn|apply nb|apply nr|apply nc|apply ne|apply nq|apply nx rfl
    obtain rfl := some_eq h
    simp -implicitDefEqProofs +decide only [go_sem, Nat.reduceAdd, Int.reduceToNat]
    all_goals first | done | trivial | assumption | (simp [maps]; done) | (simp [maps, hb3, hb5]; done)
   ·refine cond_f (by simp -implicitDefEqProofs +decide only [go_sem, hb3, hb5]) ?_
    refine swp_skip ?_
    with_reducible repeat first|apply nn|apply nb|apply nr|apply nc|apply ne|apply nq|apply nx rfl
    refine seq_reg rfl (fun K hK => ?_)
    simp -implicitDefEqProofs +decide only [go_sem, Nat.reduceAdd, Int.reduceToNat, hb3, hb5]
    refine hK _ ?_
    refine seq_reg rfl (fun K hK => ?_)
    simp -implicitDefEqProofs +decide only [go_sem, Nat.reduceAdd, Int.reduceToNat, hb3, hb5]
    refine hK _ ?_
    refine swp_block ?_
    refine swp_iter (fun g x => match x with | (x186, x187, x188, x189, x190, x191, l192, l193, l194, l195, x196, b197, b198, b199, b200, b201, b202, x203, l204, l205, x206, x207, x208, x209, x210, b211, x212, x213, b214, b215, x216, x217, l218, x219) => stL [(0, (.c (.ptr ⟨0, 1⟩ 0 0))), (1, (.c (.p (.int .i64 a1)))), (2, (.c (.p (.int .u32 a2)))), (6, (.c (.ptr ⟨1024000015, g⟩ 0 0))), (9, (.c (.p (.int .i64 (IntKind.i64.wrap (v1.1.Node.Level + 1)))))), (10, (.c (.p (.int .i64 x219))))] [(⟨0, 1⟩, .box true [(.p (.int .i64 x186)), (.p (.int .u32 x187)), (.p (.int .u32 x188)), (.p (.int .i64 x189.Line)), (.p (.int .i64 x189.Gen)), (.p (.int .i64 x190)), (.p (.int .i64 x191)), (.p (.rows (l192.map r_api_Page))), (.p (.rows (l193.map r_api_Page))), (.ref ⟨1024000011, g⟩ 0 l194.length), (.ref ⟨1024000012, g⟩ 0 l195.length), (.p (.int .i64 x196)), (.p (.bool b197)), (.p (.bool b198)), (.p (.bool b199)), (.p (.bool b200)), (.p (.bool b201)), (.p (.bool b202)), (.p (.int .i64 x203.Line)), (.p (.int .i64 x203.Gen)), (.ref ⟨1024000013, g⟩ 0 l204.length), (.ref ⟨1024000014, g⟩ 0 l205.length), (.p (.int .i64 x206)), (.p (.int .i64 x207)), (.p (.int .i64 x208)), (.p (.int .i64 x209.Line)), (.p (.int .u64 x209.Head)), (.p (.int .u64 x209.Data.a0)), (.p (.int .u64 x209.Data.a1)), (.p (.int .u64 x209.Data.a2)), (.p (.int .u64 x209.Data.a3)), (.p (.int .u64 x209.Data.a4)), (.p (.int .u64 x209.Data.a5)), (.p (.int .u64 x209.Data.a6)), (.p (.int .i64 x210.Line)), (.p (.int .i64 x210.Gen)), (.p (.bool b211))]), (⟨1024000011, g⟩, .arr true 1 (l194.map r_i64)), (⟨1024000012, g⟩, .arr true 9 (l195.map r_api_Page)), (⟨1024000013, g⟩, .arr true 3 (l204.map r_hashindex_Entry)), (⟨1024000014, g⟩, .arr true 1 (l205.map r_i64)), (⟨1024000015, g⟩, .box true [(.p (.int .i64 x212.Line)), (.p (.int .u64 x212.Head)), (.p (.int .u64 x212.Data.a0)), (.p (.int .u64 x212.Data.a1)), (.p (.int .u64 x212.Data.a2)), (.p (.int .u64 x212.Data.a3)), (.p (.int .u64 x212.Data.a4)), (.p (.int .u64 x212.Data.a5)), (.p (.int .u64 x212.Data.a6)), (.p (.int .i64 x213)), (.p (.bool b214)), (.p (.bool b215)), (.p (.int .u32 x216)), (.p (.int .i64 x217.Line)), (.p (.int .i64 x217.Gen)), (.ref ⟨1024000016, g⟩ 0 l218.length)]), (⟨1024000016, g⟩, .arr true 3 (l218.map r_hashindex_Entry))] (g + 1)) h (enter_of (ren_go (fun g S => [(⟨1024000011, g⟩, (keyB 9 (St.heap S ⟨0, 1⟩))), (⟨1024000012, g⟩, (keyB 10 (St.heap S ⟨0, 1⟩))), (⟨1024000013, g⟩, (keyB 20 (St.heap S ⟨0, 1⟩))), (⟨1024000014, g⟩, (keyB 21 (St.heap S ⟨0, 1⟩))), (⟨1024000015, g⟩, (keyT 0 (St.env S 6))), (⟨1024000016, g⟩, (keyB 15 (St.heap S (keyT 0 (St.env S 6)))))]) fun g S => [])) ?_
    rintro g ⟨x186, x187, x188, x189, x190, x191, l192, l193, l194, l195, x196, b197, b198, b199, b200, b201, b202, x203, l204, l205, x206, x207, x208, x209, x210, b211, x212, x213, b214, b215, x216, x217, l218, x219⟩ s1 h hd1
    rw [btree_run_descend_L1] at h
    try dsimp only
    refine swp_block ?_
    refine seq_reg rfl (fun K hK => ?_)
    simp -implicitDefEqProofs +decide only [go_sem, Nat.reduceAdd, Int.reduceToNat]
    refine hK _ ?_
    refine swp_block ?_
    refine seq_reg rfl (fun K hK => ?_)
    refine bsplit h (fun hb220 h => ?_) (fun hb220 h => ?_)
    ·simp -implicitDefEqProofs +decide only [go_sem, Nat.reduceAdd, Int.reduceToNat, hb220]
     refine hK _ ?_
     refine cond_t (by simp -implicitDefEqProofs +decide only [go_sem, hb220]) ?_
     refine seq_reg rfl (fun K hK => ?_)
     simp -implicitDefEqProofs +decide only [go_sem, Nat.reduceAdd, Int.reduceToNat, hb220]
     refine hK _ ?_
     refine cut1 (Joins (btree_run_descend_J1 x219 x186 x187 x188 x189 x190 x191 l192 l193 l194 l195 x196 b197 b198 b199 b202 x203 l204 l205 x206 x207 x208 x209 x210 b211 x212 x213 b214 b215 x216 x217 l218 b200) (fun g b222 => stL [(0, (.c (.ptr ⟨0, 1⟩ 0 0))), (1, (.c (.p (.int .i64 a1)))), (2, (.c (.p (.int .u32 a2)))), (6, (.c (.ptr ⟨1024000021, g⟩ 0 0))), (9, (.c (.p (.int .i64 (IntKind.i64.wrap (v1.1.Node.Level + 1)))))), (10, (.c (.p (.int .i64 x219)))), (11, (.c (.ptr ⟨1024000023, g⟩ 0 0)))] [(⟨0, 1⟩, .box true [(.p (.int .i64 x186)), (.p (.int .u32 x187)), (.p (.int .u32 x188)), (.p (.int .i64 x189.Line)), (.p (.int .i64 x189.Gen)), (.p (.int .i64 x190)), (.p (.int .i64 x191)), (.p (.rows (l192.map r_api_Page))), (.p (.rows (l193.map r_api_Page))), (.ref ⟨1024000017, g⟩ 0 l194.length), (.ref ⟨1024000018, g⟩ 0 l195.length), (.p (.int .i64 x196)), (.p (.bool b197)), (.p (.bool b198)), (.p (.bool b199)), (.p (.bool b200)), (.p (.bool b222)), (.p (.bool b202)), (.p (.int .i64 x203.Line)), (.p (.int .i64 x203.Gen)), (.ref ⟨1024000019, g⟩ 0 l204.length), (.ref ⟨1024000020, g⟩ 0 l205.length), (.p (.int .i64 (IntKind.i64.wrap (x206 + 1)))), (.p (.int .i64 x207)), (.p (.int .i64 x208)), (.p (.int .i64 x209.Line)), (.p (.int .u64 x209.Head)), (.p (.int .u64 x209.Data.a0)), (.p (.int .u64 x209.Data.a1)), (.p (.int .u64 x209.Data.a2)), (.p (.int .u64 x209.Data.a3)), (.p (.int .u64 x209.Data.a4)), (.p (.int .u64 x209.Data.a5)), (.p (.int .u64 x209.Data.a6)), (.p (.int .i64 x210.Line)), (.p (.int .i64 x210.Gen)), (.p (.bool b211))]), (⟨1024000017, g⟩, .arr true 1 (l194.map r_i64)), (⟨1024000018, g⟩, .arr true 9 (l195.map r_api_Page)), (⟨1024000019, g⟩, .arr true 3 (l204.map r_hashindex_Entry)), (⟨1024000020, g⟩, .arr true 1 (l205.map r_i64)), (⟨1024000021, g⟩, .box true [(.p (.int .i64 x212.Line)), (.p (.int .u64 x212.Head)), (.p (.int .u64 x212.Data.a0)), (.p (.int .u64 x212.Data.a1)), (.p (.int .u64 x212.Data.a2)), (.p (.int .u64 x212.Data.a3)), (.p (.int .u64 x212.Data.a4)), (.p (.int .u64 x212.Data.a5)), (.p (.int .u64 x212.Data.a6)), (.p (.int .i64 x213)), (.p (.bool b214)), (.p (.bool b215)), (.p (.int .u32 x216)), (.p (.int .i64 x217.Line)), (.p (.int .i64 x217.Gen)), (.ref ⟨1024000022, g⟩ 0 l218.length)]), (⟨1024000022, g⟩, .arr true 3 (l218.map r_hashindex_Entry)), (⟨1024000023, g⟩, .box true [(.p (.int .i64 x213)), (.p (.bool b214)), (.p (.bool b215)), (.p (.int .u32 x216)), (.p (.int .i64 x217.Line)), (.p (.int .i64 x217.Gen)), (.ref ⟨1024000022, g⟩ 0 l218.length)])] (g + 1)) s1) ?_ (fun hj1 => ?_)
     ·refine join_of ?_
      rintro g b222 h
      rw [btree_run_descend_J1] at h
      try dsimp only
      refine cut1 (Joins (btree_run_descend_J2 x219 x186 x187 x188 x189 x190 x191 l192 l193 l194 l195 x196 b197 b198 b199 b222 b202 x203 l204 l205 x206 x207 x208 x209 x210 b211 x212 x213 b214 b215 x216 x217 l218) (fun g b224 => stL [(0, (.c (.ptr ⟨0, 1⟩ 0 0))), (1, (.c (.p (.int .i64 a1)))), (2, (.c (.p (.int .u32 a2)))), (6, (.c (.ptr ⟨1024000028, g⟩ 0 0))), (9, (.c (.p (.int .i64 (IntKind.i64.wrap (v1.1.Node.Level + 1)))))), (10, (.c (.p (.int .i64 x219)))), (11, (.c (.ptr ⟨1024000030, g⟩ 0 0)))] [(⟨0, 1⟩, .box true [(.p (.int .i64 x186)), (.p (.int .u32 x187)), (.p (.int .u32 x188)), (.p (.int .i64 x189.Line)), (.p (.int .i64 x189.Gen)), (.p (.int .i64 x190)), (.p (.int .i64 x191)), (.p (.rows (l192.map r_api_Page))), (.p (.rows (l193.map r_api_Page))), (.ref ⟨1024000024, g⟩ 0 l194.length), (.ref ⟨1024000025, g⟩ 0 l195.length), (.p (.int .i64 x196)), (.p (.bool b197)), (.p (.bool b198)), (.p (.bool b199)), (.p (.bool b224)), (.p (.bool b222)), (.p (.bool b202)), (.p (.int .i64 x203.Line)), (.p (.int .i64 x203.Gen)), (.ref ⟨1024000026, g⟩ 0 l204.length), (.ref ⟨1024000027, g⟩ 0 l205.length), (.p (.int .i64 (IntKind.i64.wrap (x206 + 1)))), (.p (.int .i64 x207)), (.p (.int .i64 x208)), (.p (.int .i64 x209.Line)), (.p (.int .u64 x209.Head)), (.p (.int .u64 x209.Data.a0)), (.p (.int .u64 x209.Data.a1)), (.p (.int .u64 x209.Data.a2)), (.p (.int .u64 x209.Data.a3)), (.p (.int .u64 x209.Data.a4)), (.p (.int .u64 x209.Data.a5)), (.p (.int .u64 x209.Data.a6)), (.p (.int .i64 x210.Line)), (.p (.int .i64 x210.Gen)), (.p (.bool b211))]), (⟨1024000024, g⟩, .arr true 1 (l194.map r_i64)), (⟨1024000025, g⟩, .arr true 9 (l195.map r_api_Page)), (⟨1024000026, g⟩, .arr true 3 (l204.map r_hashindex_Entry)), (⟨1024000027, g⟩, .arr true 1 (l205.map r_i64)), (⟨1024000028, g⟩, .box true [(.p (.int .i64 x212.Line)), (.p (.int .u64 x212.Head)), (.p (.int .u64 x212.Data.a0)), (.p (.int .u64 x212.Data.a1)), (.p (.int .u64 x212.Data.a2)), (.p (.int .u64 x212.Data.a3)), (.p (.int .u64 x212.Data.a4)), (.p (.int .u64 x212.Data.a5)), (.p (.int .u64 x212.Data.a6)), (.p (.int .i64 x213)), (.p (.bool b214)), (.p (.bool b215)), (.p (.int .u32 x216)), (.p (.int .i64 x217.Line)), (.p (.int .i64 x217.Gen)), (.ref ⟨1024000029, g⟩ 0 l218.length)]), (⟨1024000029, g⟩, .arr true 3 (l218.map r_hashindex_Entry)), (⟨1024000030, g⟩, .box true [(.p (.int .i64 x213)), (.p (.bool b214)), (.p (.bool b215)), (.p (.int .u32 x216)), (.p (.int .i64 x217.Line)), (.p (.int .i64 x217.Gen)), (.ref ⟨1024000029, g⟩ 0 l218.length)])] (g + 1)) s1) ?_ (fun hj2 => ?_)
      ·refine join_of ?_
       rintro g b224 h
       rw [btree_run_descend_J2] at h
       try dsimp only
       refine swp_seq ?_
       refine seq_reg rfl (fun K hK => ?_)
       simp -implicitDefEqProofs +decide only [go_sem, Nat.reduceAdd, Int.reduceToNat, hb220]
       refine hK _ ?_
       refine seq_reg rfl (fun K hK => ?_)
       simp -implicitDefEqProofs +decide only [go_sem, Nat.reduceAdd, Int.reduceToNat, hb220]
       refine hK _ ?_
       refine bsplit h (fun hb227 h => ?_) (fun hb227 h => ?_)
       ·refine cond_t (by simp -implicitDefEqProofs +decide only [go_sem, hb220, hb227]) ?_
        refine seq_drw rfl (fun K hK => ?_)
        refine bind_of h (fun v228 hv228 h => ?_)
        simp -implicitDefEqProofs +decide only [go_sem, Nat.reduceAdd, Int.reduceToNat, hb220, hb227]
        refine call_nil [0, 0, 1] true (btree_run_fail_ok (cG G) hG0 _ _ _ _ hv228) ?_
        simp -implicitDefEqProofs +decide only [go_sem, Nat.reduceAdd, Int.reduceToNat, hb220, hb227]
        refine draw_go (by kernel_rfl) ?_
        refine hK _ ?_
        refine swp_ret ?_
        with_reducible repeat first|apply nn|apply nb|apply nr|apply nc|apply ne|apply nq|apply nx rfl
        obtain ⟨h, hs1⟩ := exit_of h hd1
        refine ⟨hs1, ?_⟩
        with_reducible repeat first|apply nn|apply nb|apply nr|apply nc|apply ne|apply nq|apply nx rfl
        obtain rfl := some_eq h
        simp -implicitDefEqProofs +decide only [go_sem, Nat.reduceAdd, Int.reduceToNat]
        all_goals first | done | trivial | assumption | (simp [maps]; done) | (simp [maps, hb220, hb227]; done)
       ·refine cond_f (by simp -implicitDefEqProofs +decide only [go_sem, hb220, hb227]) ?_
        refine swp_skip ?_
        with_reducible repeat first|apply nn|apply nb|apply nr|apply nc|apply ne|apply nq|apply nx rfl
        refine seq_reg rfl (fun K hK => ?_)
        refine bind_of h (fun v229 hv229 h => ?_)
        simp -implicitDefEqProofs +decide only [go_sem, Nat.reduceAdd, Int.reduceToNat, hb220, hb227]
        refine call_go [0, 0] true (btree_run_neighbour_ok (cG G) hG0 _ _ _ hv229) ?_
        simp -implicitDefEqProofs +decide only [go_sem, Nat.reduceAdd, Int.reduceToNat, hb220, hb227]
        refine hK _ ?_
        refine seq_reg rfl (fun K hK => ?_)
        simp -implicitDefEqProofs +decide only [go_sem, Nat.reduceAdd, Int.reduceToNat, hb220, hb227]
        refine hK _ ?_
        refine bsplit h (fun hb230 h => ?_) (fun hb230 h => ?_)
        ·refine cond_t (by simp -implicitDefEqProofs +decide only [go_sem, hb220, hb227, hb230]) ?_
         refine seq_reg rfl (fun K hK => ?_)
         simp -implicitDefEqProofs +decide only [go_sem, Nat.reduceAdd, Int.reduceToNat, hb220, hb227, hb230]
         refine hK _ ?_
         refine swp_ret ?_
         with_reducible repeat first|apply nn|apply nb|apply nr|apply nc|apply ne|apply nq|apply nx rfl
         obtain ⟨h, hs1⟩ := exit_of h hd1
         refine ⟨hs1, ?_⟩
         with_reducible repeat first|apply nn|apply nb|apply nr|apply nc|apply ne|apply nq|apply nx rfl
         obtain rfl := some_eq h
         simp -implicitDefEqProofs +decide only [go_sem, Nat.reduceAdd, Int.reduceToNat]
         all_goals first | done | trivial | assumption | (simp [maps]; done) | (simp [maps, hb220, hb227, hb230]; done)
        ·refine cond_f (by simp -implicitDefEqProofs +decide only [go_sem, hb220, hb227, hb230]) ?_
         refine swp_skip ?_
         with_reducible repeat first|apply nn|apply nb|apply nr|apply nc|apply ne|apply nq|apply nx rfl
         exact back_of h (ren_go (fun g S => [(⟨1024000011, g⟩, (keyB 9 (St.heap S ⟨0, 1⟩))), (⟨1024000012, g⟩, (keyB 10 (St.heap S ⟨0, 1⟩))), (⟨1024000013, g⟩, (keyB 20 (St.heap S ⟨0, 1⟩))), (⟨1024000014, g⟩, (keyB 21 (St.heap S ⟨0, 1⟩))), (⟨1024000015, g⟩, (keyT 0 (St.env S 6))), (⟨1024000016, g⟩, (keyB 15 (St.heap S (keyT 0 (St.env S 6)))))]) fun g S => [])
      refine seq_reg rfl (fun K hK => ?_)
      rcases hb265 : b200 with _ | _
      ·replace h : btree_run_descend_J2 x219 x186 x187 x188 x189 x190 x191 l192 l193 l194 l195 x196 b197 b198 b199 b222 b202 x203 l204 l205 x206 x207 x208 x209 x210 b211 x212 x213 b214 b215 x216 x217 l218 false = some s1 := by first | exact h | (rw [or_f hb265] at h; exact h)
       simp -implicitDefEqProofs +decide only [go_sem, Nat.reduceAdd, Int.reduceToNat, hb220, hb265]
       refine hK _ ?_
       exact jump_of hj2 h (ren_go (fun g S => [(⟨1024000024, g⟩, (keyB 9 (St.heap S ⟨0, 1⟩))), (⟨1024000025, g⟩, (keyB 10 (St.heap S ⟨0, 1⟩))), (⟨1024000026, g⟩, (keyB 20 (St.heap S ⟨0, 1⟩))), (⟨1024000027, g⟩, (keyB 21 (St.heap S ⟨0, 1⟩))), (⟨1024000028, g⟩, (keyT 0 (St.env S 6))), (⟨1024000029, g⟩, (keyB 15 (St.heap S (keyT 0 (St.env S 6))))), (⟨1024000030, g⟩, (keyT 0 (St.env S 11)))]) fun g S => [])
      ·replace h : btree_run_descend_J2 x219 x186 x187 x188 x189 x190 x191 l192 l193 l194 l195 x196 b197 b198 b199 b222 b202 x203 l204 l205 x206 x207 x208 x209 x210 b211 x212 x213 b214 b215 x216 x217 l218 true = some s1 := by first | exact h | (rw [or_t hb265] at h; exact h)
       simp -implicitDefEqProofs +decide only [go_sem, Nat.reduceAdd, Int.reduceToNat, hb220, hb265]
       refine hK _ ?_
       exact jump_of hj2 h (ren_go (fun g S => [(⟨1024000024, g⟩, (keyB 9 (St.heap S ⟨0, 1⟩))), (⟨1024000025, g⟩, (keyB 10 (St.heap S ⟨0, 1⟩))), (⟨1024000026, g⟩, (keyB 20 (St.heap S ⟨0, 1⟩))), (⟨1024000027, g⟩, (keyB 21 (St.heap S ⟨0, 1⟩))), (⟨1024000028, g⟩, (keyT 0 (St.env S 6))), (⟨1024000029, g⟩, (keyB 15 (St.heap S (keyT 0 (St.env S 6))))), (⟨1024000030, g⟩, (keyT 0 (St.env S 11)))]) fun g S => [])
     refine seq_reg rfl (fun K hK => ?_)
     rcases hb268 : b201 with _ | _
     ·replace h : btree_run_descend_J1 x219 x186 x187 x188 x189 x190 x191 l192 l193 l194 l195 x196 b197 b198 b199 b202 x203 l204 l205 x206 x207 x208 x209 x210 b211 x212 x213 b214 b215 x216 x217 l218 b200 b215 = some s1 := by first | exact h | (rw [or_f hb268] at h; exact h)
      simp -implicitDefEqProofs +decide only [go_sem, Nat.reduceAdd, Int.reduceToNat, hb220, hb268]
      refine hK _ ?_
      exact jump_of hj1 h (ren_go (fun g S => [(⟨1024000017, g⟩, (keyB 9 (St.heap S ⟨0, 1⟩))), (⟨1024000018, g⟩, (keyB 10 (St.heap S ⟨0, 1⟩))), (⟨1024000019, g⟩, (keyB 20 (St.heap S ⟨0, 1⟩))), (⟨1024000020, g⟩, (keyB 21 (St.heap S ⟨0, 1⟩))), (⟨1024000021, g⟩, (keyT 0 (St.env S 6))), (⟨1024000022, g⟩, (keyB 15 (St.heap S (keyT 0 (St.env S 6))))), (⟨1024000023, g⟩, (keyT 0 (St.env S 11)))]) fun g S => [])
     ·replace h : btree_run_descend_J1 x219 x186 x187 x188 x189 x190 x191 l192 l193 l194 l195 x196 b197 b198 b199 b202 x203 l204 l205 x206 x207 x208 x209 x210 b211 x212 x213 b214 b215 x216 x217 l218 b200 true = some s1 := by first | exact h | (rw [or_t hb268] at h; exact h)
      simp -implicitDefEqProofs +decide only [go_sem, Nat.reduceAdd, Int.reduceToNat, hb220, hb268]
      refine hK _ ?_
      exact jump_of hj1 h (ren_go (fun g S => [(⟨1024000017, g⟩, (keyB 9 (St.heap S ⟨0, 1⟩))), (⟨1024000018, g⟩, (keyB 10 (St.heap S ⟨0, 1⟩))), (⟨1024000019, g⟩, (keyB 20 (St.heap S ⟨0, 1⟩))), (⟨1024000020, g⟩, (keyB 21 (St.heap S ⟨0, 1⟩))), (⟨1024000021, g⟩, (keyT 0 (St.env S 6))), (⟨1024000022, g⟩, (keyB 15 (St.heap S (keyT 0 (St.env S 6))))), (⟨1024000023, g⟩, (keyT 0 (St.env S 11)))]) fun g S => [])
    ·simp -implicitDefEqProofs +decide only [go_sem, Nat.reduceAdd, Int.reduceToNat, hb220]
     refine hK _ ?_
     refine bsplit h (fun hb271 h => ?_) (fun hb271 h => ?_)
     ·refine cond_t (by simp -implicitDefEqProofs +decide only [go_sem, hb220, hb271]) ?_
      refine seq_reg rfl (fun K hK => ?_)
      simp -implicitDefEqProofs +decide only [go_sem, Nat.reduceAdd, Int.reduceToNat, hb220, hb271]
      refine hK _ ?_
      refine cut1 (Joins (btree_run_descend_J3 x219 x186 x187 x188 x189 x190 x191 l192 l193 l194 l195 x196 b197 b198 b199 b202 x203 l204 l205 x206 x207 x208 x209 x210 b211 x212 x213 b214 b215 x216 x217 l218) (fun g b273 => stL [(0, (.c (.ptr ⟨0, 1⟩ 0 0))), (1, (.c (.p (.int .i64 a1)))), (2, (.c (.p (.int .u32 a2)))), (6, (.c (.ptr ⟨1024000035, g⟩ 0 0))), (9, (.c (.p (.int .i64 (IntKind.i64.wrap (v1.1.Node.Level + 1)))))), (10, (.c (.p (.int .i64 x219)))), (11, (.c (.ptr ⟨1024000037, g⟩ 0 0)))] [(⟨0, 1⟩, .box true [(.p (.int .i64 x186)), (.p (.int .u32 x187)), (.p (.int .u32 x188)), (.p (.int .i64 x189.Line)), (.p (.int .i64 x189.Gen)), (.p (.int .i64 x190)), (.p (.int .i64 x191)), (.p (.rows (l192.map r_api_Page))), (.p (.rows (l193.map r_api_Page))), (.ref ⟨1024000031, g⟩ 0 l194.length), (.ref ⟨1024000032, g⟩ 0 l195.length), (.p (.int .i64 x196)), (.p (.bool b197)), (.p (.bool b198)), (.p (.bool b199)), (.p (.bool b200)), (.p (.bool b273)), (.p (.bool b202)), (.p (.int .i64 x203.Line)), (.p (.int .i64 x203.Gen)), (.ref ⟨1024000033, g⟩ 0 l204.length), (.ref ⟨1024000034, g⟩ 0 l205.length), (.p (.int .i64 (IntKind.i64.wrap (x206 + 1)))), (.p (.int .i64 x207)), (.p (.int .i64 x208)), (.p (.int .i64 x209.Line)), (.p (.int .u64 x209.Head)), (.p (.int .u64 x209.Data.a0)), (.p (.int .u64 x209.Data.a1)), (.p (.int .u64 x209.Data.a2)), (.p (.int .u64 x209.Data.a3)), (.p (.int .u64 x209.Data.a4)), (.p (.int .u64 x209.Data.a5)), (.p (.int .u64 x209.Data.a6)), (.p (.int .i64 x210.Line)), (.p (.int .i64 x210.Gen)), (.p (.bool b211))]), (⟨1024000031, g⟩, .arr true 1 (l194.map r_i64)), (⟨1024000032, g⟩, .arr true 9 (l195.map r_api_Page)), (⟨1024000033, g⟩, .arr true 3 (l204.map r_hashindex_Entry)), (⟨1024000034, g⟩, .arr true 1 (l205.map r_i64)), (⟨1024000035, g⟩, .box true [(.p (.int .i64 x212.Line)), (.p (.int .u64 x212.Head)), (.p (.int .u64 x212.Data.a0)), (.p (.int .u64 x212.Data.a1)), (.p (.int .u64 x212.Data.a2)), (.p (.int .u64 x212.Data.a3)), (.p (.int .u64 x212.Data.a4)), (.p (.int .u64 x212.Data.a5)), (.p (.int .u64 x212.Data.a6)), (.p (.int .i64 x213)), (.p (.bool b214)), (.p (.bool b215)), (.p (.int .u32 x216)), (.p (.int .i64 x217.Line)), (.p (.int .i64 x217.Gen)), (.ref ⟨1024000036, g⟩ 0 l218.length)]), (⟨1024000036, g⟩, .arr true 3 (l218.map r_hashindex_Entry)), (⟨1024000037, g⟩, .box true [(.p (.int .i64 x213)), (.p (.bool b214)), (.p (.bool b215)), (.p (.int .u32 x216)), (.p (.int .i64 x217.Line)), (.p (.int .i64 x217.Gen)), (.ref ⟨1024000036, g⟩ 0 l218.length)])] (g + 1)) s1) ?_ (fun hj3 => ?_)
      ·refine join_of ?_
       rintro g b273 h
       rw [btree_run_descend_J3] at h
       try dsimp only
       refine cut1 (Joins (btree_run_descend_J4 x219 x186 x187 x188 x189 x190 x191 l192 l193 l194 l195 x196 b197 b198 b199 b273 b202 x203 l204 l205 x206 x207 x208 x209 x210 b211 x212 x213 b214 b215 x216 x217 l218) (fun g _ => stL [(0, (.c (.ptr ⟨0, 1⟩ 0 0))), (1, (.c (.p (.int .i64 a1)))), (2, (.c (.p (.int .u32 a2)))), (6, (.c (.ptr ⟨1024000042, g⟩ 0 0))), (9, (.c (.p (.int .i64 (IntKind.i64.wrap (v1.1.Node.Level + 1)))))), (10, (.c (.p (.int .i64 x219)))), (11, (.c (.ptr ⟨1024000044, g⟩ 0 0)))] [(⟨0, 1⟩, .box true [(.p (.int .i64 x186)), (.p (.int .u32 x187)), (.p (.int .u32 x188)), (.p (.int .i64 x189.Line)), (.p (.int .i64 x189.Gen)), (.p (.int .i64 x190)), (.p (.int .i64 x191)), (.p (.rows (l192.map r_api_Page))), (.p (.rows (l193.map r_api_Page))), (.ref ⟨1024000038, g⟩ 0 l194.length), (.ref ⟨1024000039, g⟩ 0 l195.length), (.p (.int .i64 x196)), (.p (.bool b197)), (.p (.bool b198)), (.p (.bool b199)), (.p (.bool true)), (.p (.bool b273)), (.p (.bool b202)), (.p (.int .i64 x203.Line)), (.p (.int .i64 x203.Gen)), (.ref ⟨1024000040, g⟩ 0 l204.length), (.ref ⟨1024000041, g⟩ 0 l205.length), (.p (.int .i64 (IntKind.i64.wrap (x206 + 1)))), (.p (.int .i64 x207)), (.p (.int .i64 x208)), (.p (.int .i64 x209.Line)), (.p (.int .u64 x209.Head)), (.p (.int .u64 x209.Data.a0)), (.p (.int .u64 x209.Data.a1)), (.p (.int .u64 x209.Data.a2)), (.p (.int .u64 x209.Data.a3)), (.p (.int .u64 x209.Data.a4)), (.p (.int .u64 x209.Data.a5)), (.p (.int .u64 x209.Data.a6)), (.p (.int .i64 x210.Line)), (.p (.int .i64 x210.Gen)), (.p (.bool b211))]), (⟨1024000038, g⟩, .arr true 1 (l194.map r_i64)), (⟨1024000039, g⟩, .arr true 9 (l195.map r_api_Page)), (⟨1024000040, g⟩, .arr true 3 (l204.map r_hashindex_Entry)), (⟨1024000041, g⟩, .arr true 1 (l205.map r_i64)), (⟨1024000042, g⟩, .box true [(.p (.int .i64 x212.Line)), (.p (.int .u64 x212.Head)), (.p (.int .u64 x212.Data.a0)), (.p (.int .u64 x212.Data.a1)), (.p (.int .u64 x212.Data.a2)), (.p (.int .u64 x212.Data.a3)), (.p (.int .u64 x212.Data.a4)), (.p (.int .u64 x212.Data.a5)), (.p (.int .u64 x212.Data.a6)), (.p (.int .i64 x213)), (.p (.bool b214)), (.p (.bool b215)), (.p (.int .u32 x216)), (.p (.int .i64 x217.Line)), (.p (.int .i64 x217.Gen)), (.ref ⟨1024000043, g⟩ 0 l218.length)]), (⟨1024000043, g⟩, .arr true 3 (l218.map r_hashindex_Entry)), (⟨1024000044, g⟩, .box true [(.p (.int .i64 x213)), (.p (.bool b214)), (.p (.bool b215)), (.p (.int .u32 x216)), (.p (.int .i64 x217.Line)), (.p (.int .i64 x217.Gen)), (.ref ⟨1024000043, g⟩ 0 l218.length)])] (g + 1)) s1) ?_ (fun hj4 => ?_)
       ·refine join_of ?_
        rintro g ⟨⟩ h
        rw [btree_run_descend_J4] at h
        try dsimp only
        refine swp_seq ?_
        refine seq_reg rfl (fun K hK => ?_)
        simp -implicitDefEqProofs +decide only [go_sem, Nat.reduceAdd, Int.reduceToNat, hb220, hb271]
        refine hK _ ?_
        refine seq_reg rfl (fun K hK => ?_)
        simp -implicitDefEqProofs +decide only [go_sem, Nat.reduceAdd, Int.reduceToNat, hb220, hb271]
        refine hK _ ?_
        refine bsplit h (fun hb277 h => ?_) (fun hb277 h => ?_)
        ·refine cond_t (by simp -implicitDefEqProofs +decide only [go_sem, hb220, hb271, hb277]) ?_
         refine seq_drw rfl (fun K hK => ?_)
         refine bind_of h (fun v278 hv278 h => ?_)
         simp -implicitDefEqProofs +decide only [go_sem, Nat.reduceAdd, Int.reduceToNat, hb220, hb271, hb277]
         refine call_nil [0, 0, 1] true (btree_run_fail_ok (cG G) hG0 _ _ _ _ hv278) ?_
         simp -implicitDefEqProofs +decide only [go_sem, Nat.reduceAdd, Int.reduceToNat, hb220, hb271, hb277]
         refine draw_go (by kernel_rfl) ?_
         refine hK _ ?_
         refine swp_ret ?_
         with_reducible repeat first|apply nn|apply nb|apply nr|apply nc|apply ne|apply nq|apply nx rfl
         obtain ⟨h, hs1⟩ := exit_of h hd1
         refine ⟨hs1, ?_⟩
         with_reducible repeat first|apply nn|apply nb|apply nr|apply nc|apply ne|apply nq|apply nx rfl
         obtain rfl := some_eq h
         simp -implicitDefEqProofs +decide only [go_sem, Nat.reduceAdd, Int.reduceToNat]
         all_goals first | done | trivial | assumption | (simp [maps]; done) | (simp [maps, hb220, hb271, hb277]; done)
        ·refine cond_f (by simp -implicitDefEqProofs +decide only [go_sem, hb220, hb271, hb277]) ?_
         refine swp_skip ?_
         with_reducible repeat first|apply nn|apply nb|apply nr|apply nc|apply ne|apply nq|apply nx rfl
         refine seq_reg rfl (fun K hK => ?_)
         refine bind_of h (fun v279 hv279 h => ?_)
         simp -implicitDefEqProofs +decide only [go_sem, Nat.reduceAdd, Int.reduceToNat, hb220, hb271, hb277]
         refine call_go [0, 0] true (btree_run_neighbour_ok (cG G) hG0 _ _ _ hv279) ?_
         simp -implicitDefEqProofs +decide only [go_sem, Nat.reduceAdd, Int.reduceToNat, hb220, hb271, hb277]
         refine hK _ ?_
         refine seq_reg rfl (fun K hK => ?_)
         simp -implicitDefEqProofs +decide only [go_sem, Nat.reduceAdd, Int.reduceToNat, hb220, hb271, hb277]
         refine hK _ ?_
         refine bsplit h (fun hb280 h => ?_) (fun hb280 h => ?_)
         ·refine cond_t (by simp -implicitDefEqProofs +decide only [go_sem, hb220, hb271, hb277, hb280]) ?_
          refine seq_reg rfl (fun K hK => ?_)
          simp -implicitDefEqProofs +decide only [go_sem, Nat.reduceAdd, Int.reduceToNat, hb220, hb271, hb277, hb280]
          refine hK _ ?_
          refine swp_ret ?_
          with_reducible repeat first|apply nn|apply nb|apply nr|apply nc|apply ne|apply nq|apply nx rfl
          obtain ⟨h, hs1⟩ := exit_of h hd1
          refine ⟨hs1, ?_⟩
          with_reducible repeat first|apply nn|apply nb|apply nr|apply nc|apply ne|apply nq|apply nx rfl
          obtain rfl := some_eq h
          simp -implicitDefEqProofs +decide only [go_sem, Nat.reduceAdd, Int.reduceToNat]
          all_goals first | done | trivial | assumption | (simp [maps]; done) | (simp [maps, hb220, hb271, hb277, hb280]; done)
         ·refine cond_f (by simp -implicitDefEqProofs +decide only [go_sem, hb220, hb271, hb277, hb280]) ?_
          refine swp_skip ?_
          with_reducible repeat first|apply nn|apply nb|apply nr|apply nc|apply ne|apply nq|apply nx rfl
          exact back_of h (ren_go (fun g S => [(⟨1024000011, g⟩, (keyB 9 (St.heap S ⟨0, 1⟩))), (⟨1024000012, g⟩, (keyB 10 (St.heap S ⟨0, 1⟩))), (⟨1024000013, g⟩, (keyB 20 (St.heap S ⟨0, 1⟩))), (⟨1024000014, g⟩, (keyB 21 (St.heap S ⟨0, 1⟩))), (⟨1024000015, g⟩, (keyT 0 (St.env S 6))), (⟨1024000016, g⟩, (keyB 15 (St.heap S (keyT 0 (St.env S 6)))))]) fun g S => [])
       refine seq_reg rfl (fun K hK => ?_)
       rcases hb315 : b200 with _ | _
       ·simp -implicitDefEqProofs +decide only [go_sem, Nat.reduceAdd, Int.reduceToNat, hb220, hb271, hb315]
        refine hK _ ?_
        exact jump_of hj4 h (ren_go (fun g S => [(⟨1024000038, g⟩, (keyB 9 (St.heap S ⟨0, 1⟩))), (⟨1024000039, g⟩, (keyB 10 (St.heap S ⟨0, 1⟩))), (⟨1024000040, g⟩, (keyB 20 (St.heap S ⟨0, 1⟩))), (⟨1024000041, g⟩, (keyB 21 (St.heap S ⟨0, 1⟩))), (⟨1024000042, g⟩, (keyT 0 (St.env S 6))), (⟨1024000043, g⟩, (keyB 15 (St.heap S (keyT 0 (St.env S 6))))), (⟨1024000044, g⟩, (keyT 0 (St.env S 11)))]) fun g S => [])
       ·simp -implicitDefEqProofs +decide only [go_sem, Nat.reduceAdd, Int.reduceToNat, hb220, hb271, hb315]
        refine hK _ ?_
        exact jump_of hj4 h (ren_go (fun g S => [(⟨1024000038, g⟩, (keyB 9 (St.heap S ⟨0, 1⟩))), (⟨1024000039, g⟩, (keyB 10 (St.heap S ⟨0, 1⟩))), (⟨1024000040, g⟩, (keyB 20 (St.heap S ⟨0, 1⟩))), (⟨1024000041, g⟩, (keyB 21 (St.heap S ⟨0, 1⟩))), (⟨1024000042, g⟩, (keyT 0 (St.env S 6))), (⟨1024000043, g⟩, (keyB 15 (St.heap S (keyT 0 (St.env S 6))))), (⟨1024000044, g⟩, (keyT 0 (St.env S 11)))]) fun g S => [])
      refine seq_reg rfl (fun K hK => ?_)
      rcases hb316 : b201 with _ | _
      ·replace h : btree_run_descend_J3 x219 x186 x187 x188 x189 x190 x191 l192 l193 l194 l195 x196 b197 b198 b199 b202 x203 l204 l205 x206 x207 x208 x209 x210 b211 x212 x213 b214 b215 x216 x217 l218 b215 = some s1 := by first | exact h | (rw [or_f hb316] at h; exact h)
       simp -implicitDefEqProofs +decide only [go_sem, Nat.reduceAdd, Int.reduceToNat, hb220, hb271, hb316]
       refine hK _ ?_
       exact jump_of hj3 h (ren_go (fun g S => [(⟨1024000031, g⟩, (keyB 9 (St.heap S ⟨0, 1⟩))), (⟨1024000032, g⟩, (keyB 10 (St.heap S ⟨0, 1⟩))), (⟨1024000033, g⟩, (keyB 20 (St.heap S ⟨0, 1⟩))), (⟨1024000034, g⟩, (keyB 21 (St.heap S ⟨0, 1⟩))), (⟨1024000035, g⟩, (keyT 0 (St.env S 6))), (⟨1024000036, g⟩, (keyB 15 (St.heap S (keyT 0 (St.env S 6))))), (⟨1024000037, g⟩, (keyT 0 (St.env S 11)))]) fun g S => [])
      ·replace h : btree_run_descend_J3 x219 x186 x187 x188 x189 x190 x191 l192 l193 l194 l195 x196 b197 b198 b199 b202 x203 l204 l205 x206 x207 x208 x209 x210 b211 x212 x213 b214 b215 x216 x217 l218 true = some s1 := by first | exact h | (rw [or_t hb316] at h; exact h)
       simp -implicitDefEqProofs +decide only [go_sem, Nat.reduceAdd, Int.reduceToNat, hb220, hb271, hb316]
       refine hK _ ?_
       exact jump_of hj3 h (ren_go (fun g S => [(⟨1024000031, g⟩, (keyB 9 (St.heap S ⟨0, 1⟩))), (⟨1024000032, g⟩, (keyB 10 (St.heap S ⟨0, 1⟩))), (⟨1024000033, g⟩, (keyB 20 (St.heap S ⟨0, 1⟩))), (⟨1024000034, g⟩, (keyB 21 (St.heap S ⟨0, 1⟩))), (⟨1024000035, g⟩, (keyT 0 (St.env S 6))), (⟨1024000036, g⟩, (keyB 15 (St.heap S (keyT 0 (St.env S 6))))), (⟨1024000037, g⟩, (keyT 0 (St.env S 11)))]) fun g S => [])
     ·refine cond_f (by simp -implicitDefEqProofs +decide only [go_sem, hb220, hb271]) ?_
      refine seq_reg rfl (fun K hK => ?_)
      simp -implicitDefEqProofs +decide only [go_sem, Nat.reduceAdd, Int.reduceToNat, hb220, hb271]
      refine hK _ ?_
      refine bsplit h (fun hb319 h => ?_) (fun hb319 h => ?_)
      ·refine cond_t (by simp -implicitDefEqProofs +decide only [go_sem, hb220, hb271, hb319]) ?_
       refine seq_reg rfl (fun K hK => ?_)
       simp -implicitDefEqProofs +decide only [go_sem, Nat.reduceAdd, Int.reduceToNat, hb220, hb271, hb319]
       refine hK _ ?_
       refine swp_seq ?_
       refine seq_reg rfl (fun K hK => ?_)
       refine bind_of h (fun v320 hv320 h => ?_)
       simp -implicitDefEqProofs +decide only [go_sem, Nat.reduceAdd, Int.reduceToNat, hb220, hb271, hb319]
       refine call_go [0] false (pointer_Locked_ok (cG G) hG0 _ _ hv320) ?_
       simp -implicitDefEqProofs +decide only [go_sem, Nat.reduceAdd, Int.reduceToNat, hb220, hb271, hb319]
       refine hK _ ?_
       refine bsplit h (fun hb321 h => ?_) (fun hb321 h => ?_)
       ·refine cond_t (by simp -implicitDefEqProofs +decide only [go_sem, hb220, hb271, hb319, hb321]) ?_
        refine seq_drw rfl (fun K hK => ?_)
        refine bind_of h (fun v322 hv322 h => ?_)
        simp -implicitDefEqProofs +decide only [go_sem, Nat.reduceAdd, Int.reduceToNat, hb220, hb271, hb319, hb321]
        refine call_nil [0, 0, 1] true (btree_run_fail_ok (cG G) hG0 _ _ _ _ hv322) ?_
        simp -implicitDefEqProofs +decide only [go_sem, Nat.reduceAdd, Int.reduceToNat, hb220, hb271, hb319, hb321]
        refine draw_go (by kernel_rfl) ?_
        refine hK _ ?_
        refine swp_ret ?_
        with_reducible repeat first|apply nn|apply nb|apply nr|apply nc|apply ne|apply nq|apply nx rfl
        obtain ⟨h, hs1⟩ := exit_of h hd1
        refine ⟨hs1, ?_⟩
        with_reducible repeat first|apply nn|apply nb|apply nr|apply nc|apply ne|apply nq|apply nx rfl
        obtain rfl := some_eq h
        simp -implicitDefEqProofs +decide only [go_sem, Nat.reduceAdd, Int.reduceToNat]
        all_goals first | done | trivial | assumption | (simp [maps]; done) | (simp [maps, hb220, hb271, hb319, hb321]; done)
       ·refine cond_f (by simp -implicitDefEqProofs +decide only [go_sem, hb220, hb271, hb319, hb321]) ?_
        refine swp_skip ?_
        with_reducible repeat first|apply nn|apply nb|apply nr|apply nc|apply ne|apply nq|apply nx rfl
        refine seq_reg rfl (fun K hK => ?_)
        simp -implicitDefEqProofs +decide only [go_sem, Nat.reduceAdd, Int.reduceToNat, hb220, hb271, hb319, hb321]
        refine hK _ ?_
        refine swp_ret ?_
        with_reducible repeat first|apply nn|apply nb|apply nr|apply nc|apply ne|apply nq|apply nx rfl
        obtain ⟨h, hs1⟩ := exit_of h hd1
        refine ⟨hs1, ?_⟩
        with_reducible repeat first|apply nn|apply nb|apply nr|apply nc|apply ne|apply nq|apply nx rfl
        obtain rfl := some_eq h
        simp -implicitDefEqProofs +decide only [go_sem, Nat.reduceAdd, Int.reduceToNat]
        all_goals first | done | trivial | assumption | (simp [maps]; done) | (simp [maps, hb220, hb271, hb319, hb321]; done)
      ·refine cond_f (by simp -implicitDefEqProofs +decide only [go_sem, hb220, hb271, hb319]) ?_
       refine swp_seq ?_
       refine seq_drw rfl (fun K hK => ?_)
       refine bind_of h (fun v327 hv327 h => ?_)
       simp -implicitDefEqProofs +decide only [go_sem, Nat.reduceAdd, Int.reduceToNat, hb220, hb271, hb319]
       refine call_go [0, 0] false (btree_Node_child_ok (cG G) hG0 _ _ _ hv327) ?_
       refine bind_of h (fun e328 he328 h => ?_)
       obtain ⟨he328_0, he328_1, he328_2⟩ := idx_some he328
       refine bind_of h (fun v329 hv329 h => ?_)
       simp -implicitDefEqProofs +decide only [go_sem, Nat.reduceAdd, Int.reduceToNat, he328_0, he328_1, he328_2, hb220, hb271, hb319]
       refine call_go [0, 0, 0] true (btree_run_look_ok (cG G) hG0 _ _ _ hv329) ?_
       simp -implicitDefEqProofs +decide only [go_sem, Nat.reduceAdd, Int.reduceToNat, hb220, hb271, hb319]
       refine draw_go (by kernel_rfl) ?_
       refine hK _ ?_
       refine seq_reg rfl (fun K hK => ?_)
       simp -implicitDefEqProofs +decide only [go_sem, Nat.reduceAdd, Int.reduceToNat, hb220, hb271, hb319]
       refine hK _ ?_
       refine bsplit h (fun hb330 h => ?_) (fun hb330 h => ?_)
       ·refine cond_t (by simp -implicitDefEqProofs +decide only [go_sem, hb220, hb271, hb319, hb330]) ?_
        refine seq_reg rfl (fun K hK => ?_)
        simp -implicitDefEqProofs +decide only [go_sem, Nat.reduceAdd, Int.reduceToNat, hb220, hb271, hb319, hb330]
        refine hK _ ?_
        refine swp_ret ?_
        with_reducible repeat first|apply nn|apply nb|apply nr|apply nc|apply ne|apply nq|apply nx rfl
        obtain ⟨h, hs1⟩ := exit_of h hd1
        refine ⟨hs1, ?_⟩
        with_reducible repeat first|apply nn|apply nb|apply nr|apply nc|apply ne|apply nq|apply nx rfl
        obtain rfl := some_eq h
        simp -implicitDefEqProofs +decide only [go_sem, Nat.reduceAdd, Int.reduceToNat]
        all_goals first | done | trivial | assumption | (simp [maps]; done) | (simp [maps, hb220, hb271, hb319, hb330]; done)
       ·refine cond_f (by simp -implicitDefEqProofs +decide only [go_sem, hb220, hb271, hb319, hb330]) ?_
        refine swp_skip ?_
        with_reducible repeat first|apply nn|apply nb|apply nr|apply nc|apply ne|apply nq|apply nx rfl
        refine seq_reg rfl (fun K hK => ?_)
        simp -implicitDefEqProofs +decide only [go_sem, Nat.reduceAdd, Int.reduceToNat, hb220, hb271, hb319, hb330]
        refine hK _ ?_
        refine bsplit h (fun hb331 h => ?_) (fun hb331 h => ?_)
        ·refine cond_t (by simp -implicitDefEqProofs +decide only [go_sem, hb220, hb271, hb319, hb330, hb331]) ?_
         refine seq_drw rfl (fun K hK => ?_)
         refine bind_of h (fun v332 hv332 h => ?_)
         simp -implicitDefEqProofs +decide only [go_sem, Nat.reduceAdd, Int.reduceToNat, hb220, hb271, hb319, hb330, hb331]
         refine call_nil [0, 0, 1] true (btree_run_fail_ok (cG G) hG0 _ _ _ _ hv332) ?_
         simp -implicitDefEqProofs +decide only [go_sem, Nat.reduceAdd, Int.reduceToNat, hb220, hb271, hb319, hb330, hb331]
         refine draw_go (by kernel_rfl) ?_
         refine hK _ ?_
         refine swp_ret ?_
         with_reducible repeat first|apply nn|apply nb|apply nr|apply nc|apply ne|apply nq|apply nx rfl
         obtain ⟨h, hs1⟩ := exit_of h hd1
         refine ⟨hs1, ?_⟩
         with_reducible repeat first|apply nn|apply nb|apply nr|apply nc|apply ne|apply nq|apply nx rfl
         obtain rfl := some_eq h
         simp -implicitDefEqProofs +decide only [go_sem, Nat.reduceAdd, Int.reduceToNat]
         all_goals first | done | trivial | assumption | (simp [maps]; done) | (simp [maps, hb220, hb271, hb319, hb330, hb331]; done)
        ·refine cond_f (by simp -implicitDefEqProofs +decide only [go_sem, hb220, hb271, hb319, hb330, hb331]) ?_
         refine swp_skip ?_
         with_reducible repeat first|apply nn|apply nb|apply nr|apply nc|apply ne|apply nq|apply nx rfl
         exact back_of h (ren_go (fun g S => [(⟨1024000011, g⟩, (keyB 9 (St.heap S ⟨0, 1⟩))), (⟨1024000012, g⟩, (keyB 10 (St.heap S ⟨0, 1⟩))), (⟨1024000013, g⟩, (keyB 20 (St.heap S ⟨0, 1⟩))), (⟨1024000014, g⟩, (keyB 21 (St.heap S ⟨0, 1⟩))), (⟨1024000015, g⟩, (keyT 0 (St.env S 6))), (⟨1024000016, g⟩, (keyB 15 (St.heap S (keyT 0 (St.env S 6)))))]) fun g S => [])
end Go.Sh
end
section
namespace Go.Sh
open Go.Proofs
noncomputable def btree_run_leaf (a0 : btree_run) : Option (btree_found × Bool × btree_run) :=
  (btree_run_descend a0 0 a0.Op.Key).bind fun v1 =>
  some (v1.1, v1.2.2.1, v1.2.2.2)
theorem btree_run_leaf_ok (G : Glob) (hG0 : G.glob 0 = some [(.int .i64 0), (.int .i64 0)]) (a0 : btree_run) (res : (btree_found × Bool × btree_run)) (h : btree_run_leaf a0 = some res) : Spec Tryz.prog G 85 [.io (g_rhlf a0)] (fun r ios => r = .tup [.agg (g_ggvz res.1), .cell (.p (.bool res.2.1))] ∧ ios = [.io (g_rhlf res.2.2)]) := by
  rw [btree_run_leaf] at h
  refine spec_of Tryz.mixed Tryz.func85 rfl rfl (by simp only [List.length]; decide +kernel) ?_
  refine swp_fresh (fun g => stL [(0, (.c (.ptr ⟨0, 1⟩ 0 0)))] [(⟨0, 1⟩, .box true (b_1wfs a0 ⟨1024000001, g⟩ ⟨1024000002, g⟩ ⟨1024000003, g⟩ ⟨1024000004, g⟩)), (⟨1024000001, g⟩, .arr true 1 (a0.Need.map r_i64)), (⟨1024000002, g⟩, .arr true 9 (a0.Writes.map r_api_Page)), (⟨1024000003, g⟩, .arr true 3 (a0.Out.Entries.map r_hashindex_Entry)), (⟨1024000004, g⟩, .arr true 1 (a0.Out.Check.map r_i64))] (g + 1)) (ren_go (fun g S => [(⟨1024000001, g⟩, (keyB 9 (St.heap S ⟨0, 1⟩))), (⟨1024000002, g⟩, (keyB 10 (St.heap S ⟨0, 1⟩))), (⟨1024000003, g⟩, (keyB 20 (St.heap S ⟨0, 1⟩))), (⟨1024000004, g⟩, (keyB 21 (St.heap S ⟨0, 1⟩)))]) fun g S => []) fun g => ?_
  refine seq_reg rfl (fun K hK => ?_)
  simp -implicitDefEqProofs +decide only [go_sem, Nat.reduceAdd, Int.reduceToNat]
  refine hK _ ?_
  refine seq_reg rfl (fun K hK => ?_)
  refine bind_of h (fun v1 hv1 h => ?_)
  simp -implicitDefEqProofs +decide only [go_sem, Nat.reduceAdd, Int.reduceToNat]
  refine call_go [0, 0, 0] true (btree_run_descend_ok (cG G) hG0 _ _ _ _ hv1) ?_
  simp -implicitDefEqProofs +decide only [go_sem, Nat.reduceAdd, Int.reduceToNat]
  refine hK _ ?_
  refine seq_reg rfl (fun K hK => ?_)
  simp -implicitDefEqProofs +decide only [go_sem, Nat.reduceAdd, Int.reduceToNat]
  refine hK _ ?_
  refine swp_ret ?_
  with_reducible repeat first|apply nn|apply nb|apply nr|apply nc|apply ne|apply nq|apply nx rfl
  obtain rfl := some_eq h
  simp -implicitDefEqProofs +decide only [go_sem, Nat.reduceAdd, Int.reduceToNat]
  all_goals first | done | trivial | assumption | (simp [maps]; done) | (simp [maps]; done)
end Go.Sh
end
section
namespace Go.Sh
open Go.Proofs
noncomputable def btree_validRoot (a0 : pointer_Pointer) (a1 : Int) : Option Bool :=
  if ((a0.Line == 0) && (a0.Gen == 0)) = true then
    some (a1 == 0)
  else
    (pointer_Valid a0).bind fun v3 =>
    some (v3 && ((decide (a1 ≥ 0)) && (decide (a1 ≤ 8))))
theorem btree_validRoot_ok (G : Glob) (hG0 : G.glob 0 = some [(.int .i64 0), (.int .i64 0)]) (a0 : pointer_Pointer) (a1 : Int) (res : Bool) (h : btree_validRoot a0 a1 = some res) : Spec Tryz.prog G 41 [.agg [.p (.int .i64 a0.Line), .p (.int .i64 a0.Gen)], .cell (.p (.int .i64 a1))] (fun r ios => r = .cell (.p (.bool res)) ∧ ios = []) := by
  rw [btree_validRoot] at h
  refine spec_of Tryz.mixed Tryz.func41 rfl rfl (by simp only [List.length]; decide +kernel) ?_
  refine swp_fresh (fun g => stL [(0, (.agg [(.p (.int .i64 a0.Line)), (.p (.int .i64 a0.Gen))])), (1, (.c (.p (.int .i64 a1))))] [] (g + 1)) (ren_go (fun g S => []) fun g S => []) fun g => ?_
  refine seq_reg rfl (fun K hK => ?_)
  simp -implicitDefEqProofs +decide only [go_sem, Nat.reduceAdd, Int.reduceToNat]
  refine hK _ ?_
  refine swp_seq ?_
  refine seq_reg rfl (fun K hK => ?_)
  simp -implicitDefEqProofs +decide only [go_sem, Nat.reduceAdd, Int.reduceToNat, hG0]
  refine hK _ ?_
  refine bsplit h (fun hb2 h => ?_) (fun hb2 h => ?_)
  ·refine cond_t (by simp -implicitDefEqProofs +decide only [go_sem, hb2]) ?_
   refine seq_reg rfl (fun K hK => ?_)
   simp -implicitDefEqProofs +decide only [go_sem, Nat.reduceAdd, Int.reduceToNat, hb2]
   refine hK _ ?_
   refine swp_ret ?_
   with_reducible repeat first|apply nn|apply nb|apply nr|apply nc|apply ne|apply nq|apply nx rfl
   obtain rfl := some_eq h
   simp -implicitDefEqProofs +decide only [go_sem, Nat.reduceAdd, Int.reduceToNat]
   all_goals first | done | trivial | assumption | (simp [maps]; done) | (simp [maps, hb2]; done)
  ·refine cond_f (by simp -implicitDefEqProofs +decide only [go_sem, hb2]) ?_
   refine swp_skip ?_
   with_reducible repeat first|apply nn|apply nb|apply nr|apply nc|apply ne|apply nq|apply nx rfl
   refine seq_reg rfl (fun K hK => ?_)
   refine bind_of h (fun v3 hv3 h => ?_)
   simp -implicitDefEqProofs +decide only [go_sem, Nat.reduceAdd, Int.reduceToNat, hb2]
   refine call_go [0] false (pointer_Valid_ok (cG G) hG0 _ _ hv3) ?_
   rcases hb4 : v3 with _ | _
   ·replace h : some false = some res := by first | exact h | (rw [and_f hb4] at h; exact h)
    simp -implicitDefEqProofs +decide only [go_sem, Nat.reduceAdd, Int.reduceToNat, hb2, hb4]
    refine hK _ ?_
    refine swp_ret ?_
    with_reducible repeat first|apply nn|apply nb|apply nr|apply nc|apply ne|apply nq|apply nx rfl
    obtain rfl := some_eq h
    simp -implicitDefEqProofs +decide only [go_sem, Nat.reduceAdd, Int.reduceToNat]
    all_goals first | done | trivial | assumption | (simp [maps]; done) | (simp [maps, hb2, hb4]; done)
   ·replace h : some ((decide (a1 ≥ 0)) && (decide (a1 ≤ 8))) = some res := by first | exact h | (rw [and_t hb4] at h; exact h)
    rcases hb5 : (decide (a1 ≥ 0)) with _ | _
    ·replace h : some false = some res := by first | exact h | (rw [and_f hb5] at h; exact h)
     simp -implicitDefEqProofs +decide only [go_sem, Nat.reduceAdd, Int.reduceToNat, hb2, hb4, hb5]
     refine hK _ ?_
     refine swp_ret ?_
     with_reducible repeat first|apply nn|apply nb|apply nr|apply nc|apply ne|apply nq|apply nx rfl
     obtain rfl := some_eq h
     simp -implicitDefEqProofs +decide only [go_sem, Nat.reduceAdd, Int.reduceToNat]
     all_goals first | done | trivial | assumption | (simp [maps]; done) | (simp [maps, hb2, hb4, hb5]; done)
    ·replace h : some (decide (a1 ≤ 8)) = some res := by first | exact h | (rw [and_t hb5] at h; exact h)
     simp -implicitDefEqProofs +decide only [go_sem, Nat.reduceAdd, Int.reduceToNat, hb2, hb4, hb5]
     refine hK _ ?_
     refine swp_ret ?_
     with_reducible repeat first|apply nn|apply nb|apply nr|apply nc|apply ne|apply nq|apply nx rfl
     obtain rfl := some_eq h
     simp -implicitDefEqProofs +decide only [go_sem, Nat.reduceAdd, Int.reduceToNat]
     all_goals first | done | trivial | assumption | (simp [maps]; done) | (simp [maps, hb2, hb4, hb5]; done)
end Go.Sh
end
section
namespace Go.Sh
open Go.Proofs
noncomputable def btree_WriteRoot (a0 : api_Page) (a1 : pointer_Pointer) (a2 : Int) : Option (api_Page × Int) :=
  if (a0.Line != 96) = true then
    some ((⟨0, 0, (⟨0, 0, 0, 0, 0, 0, 0⟩ : (A7 Int))⟩ : api_Page), 1)
  else
    (btree_validRoot a1 a2).bind fun v5 =>
    if (!v5) = true then
      some ((⟨0, 0, (⟨0, 0, 0, 0, 0, 0, 0⟩ : (A7 Int))⟩ : api_Page), 1)
    else
      (pointer_Pack a1).bind fun v7 =>
      some ((⟨a0.Line, a0.Head, (⟨(bits .or .u64 (IntKind.u64.wrap v7) (shlV .u64 (IntKind.u64.wrap a2) 32)), a0.Data.a1, a0.Data.a2, a0.Data.a3, a0.Data.a4, a0.Data.a5, a0.Data.a6⟩ : (A7 Int))⟩ : api_Page), 0)
theorem btree_WriteRoot_ok (G : Glob) (hG0 : G.glob 0 = some [(.int .i64 0), (.int .i64 0)]) (a0 : api_Page) (a1 : pointer_Pointer) (a2 : Int) (res : (api_Page × Int)) (h : btree_WriteRoot a0 a1 a2 = some res) : Spec Tryz.prog G 17 [.agg (g_yylp a0), .agg [.p (.int .i64 a1.Line), .p (.int .i64 a1.Gen)], .cell (.p (.int .i64 a2))] (fun r ios => r = .tup [.agg (g_yylp res.1), .cell (.p (.int .i64 res.2))] ∧ ios = []) := by
  rw [btree_WriteRoot] at h
  refine spec_of Tryz.mixed Tryz.func17 rfl rfl (by simp only [List.length]; decide +kernel) ?_
  refine swp_fresh (fun g => stL [(0, (.agg (b_mq86 a0))), (1, (.agg [(.p (.int .i64 a1.Line)), (.p (.int .i64 a1.Gen))])), (2, (.c (.p (.int .i64 a2))))] [] (g + 1)) (ren_go (fun g S => []) fun g S => []) fun g => ?_
  refine seq_reg rfl (fun K hK => ?_)
  simp -implicitDefEqProofs +decide only [go_sem, Nat.reduceAdd, Int.reduceToNat]
  refine hK _ ?_
  refine swp_seq ?_
  refine seq_reg rfl (fun K hK => ?_)
  refine bsplit h (fun hb4 h => ?_) (fun hb4 h => ?_)
  ·simp -implicitDefEqProofs +decide only [go_sem, Nat.reduceAdd, Int.reduceToNat, hb4]
   refine hK _ ?_
   refine cond_t (by simp -implicitDefEqProofs +decide only [go_sem, hb4]) ?_
   refine seq_reg rfl (fun K hK => ?_)
   simp -implicitDefEqProofs +decide only [go_sem, Nat.reduceAdd, Int.reduceToNat, hb4]
   refine hK _ ?_
   refine swp_ret ?_
   with_reducible repeat first|apply nn|apply nb|apply nr|apply nc|apply ne|apply nq|apply nx rfl
   obtain rfl := some_eq h
   simp -implicitDefEqProofs +decide only [go_sem, Nat.reduceAdd, Int.reduceToNat]
   all_goals first | done | trivial | assumption | (simp [maps]; done) | (simp [maps, hb4]; done)
  ·refine bind_of h (fun v5 hv5 h => ?_)
   simp -implicitDefEqProofs +decide only [go_sem, Nat.reduceAdd, Int.reduceToNat, hb4]
   refine call_go [0, 0] false (btree_validRoot_ok (cG G) hG0 _ _ _ hv5) ?_
   simp -implicitDefEqProofs +decide only [go_sem, Nat.reduceAdd, Int.reduceToNat, hb4]
   refine hK _ ?_
   refine bsplit h (fun hb6 h => ?_) (fun hb6 h => ?_)
   ·refine cond_t (by simp -implicitDefEqProofs +decide only [go_sem, hb4, hb6]) ?_
    refine seq_reg rfl (fun K hK => ?_)
    simp -implicitDefEqProofs +decide only [go_sem, Nat.reduceAdd, Int.reduceToNat, hb4, hb6]
    refine hK _ ?_
    refine swp_ret ?_
    with_reducible repeat first|apply nn|apply nb|apply nr|apply nc|apply ne|apply nq|apply nx rfl
    obtain rfl := some_eq h
    simp -implicitDefEqProofs +decide only [go_sem, Nat.reduceAdd, Int.reduceToNat]
    all_goals first | done | trivial | assumption | (simp [maps]; done) | (simp [maps, hb4, hb6]; done)
   ·refine cond_f (by simp -implicitDefEqProofs +decide only [go_sem, hb4, hb6]) ?_
    refine swp_skip ?_
    with_reducible repeat first|apply nn|apply nb|apply nr|apply nc|apply ne|apply nq|apply nx rfl
    refine seq_reg rfl (fun K hK => ?_)
    refine bind_of h (fun v7 hv7 h => ?_)
    simp -implicitDefEqProofs +decide only [go_sem, Nat.reduceAdd, Int.reduceToNat, hb4, hb6]
    refine call_go [0] false (pointer_Pack_ok (cG G) hG0 _ _ hv7) ?_
    simp -implicitDefEqProofs +decide only [go_sem, Nat.reduceAdd, Int.reduceToNat, hb4, hb6]
    refine hK _ ?_
    refine seq_reg rfl (fun K hK => ?_)
    simp -implicitDefEqProofs +decide only [go_sem, Nat.reduceAdd, Int.reduceToNat, hb4, hb6]
    refine hK _ ?_
    refine swp_ret ?_
    with_reducible repeat first|apply nn|apply nb|apply nr|apply nc|apply ne|apply nq|apply nx rfl
    obtain rfl := some_eq h
    simp -implicitDefEqProofs +decide only [go_sem, Nat.reduceAdd, Int.reduceToNat]
    all_goals first | done | trivial | assumption | (simp [maps]; done) | (simp [maps, hb4, hb6]; done)
end Go.Sh
end
section
namespace Go.Sh
open Go.Proofs
noncomputable def btree_run_done (a0 : btree_run) (a1 : (List api_Page)) (a2 : (List Int)) : Option btree_run :=
  (btree_run_fail (⟨a0.Op, a0.Known, a0.Need, a1, (⟨a0.Out.Code, a0.Out.Found, true, a0.Out.Split, a0.Out.Unposted, a0.Out.Dead, a0.Out.More, a0.Out.To, a0.Out.Entries, a0.Out.Check, a0.Out.Hops, a0.Out.Fresh, a0.Out.Height⟩ : btree_Out), a0.RootPage, a0.Root, a0.Ended⟩ : btree_run) 0 a2).bind fun v1 =>
  some v1.2
theorem btree_run_done_ok (G : Glob) (hG0 : G.glob 0 = some [(.int .i64 0), (.int .i64 0)]) (a0 : btree_run) (a1 : (List api_Page)) (a2 : (List Int)) (res : btree_run) (h : btree_run_done a0 a1 a2 = some res) : Spec Tryz.prog G 96 [.io (g_rhlf a0), .cell (.own 9 (a1.map r_api_Page)), .cell (.own 1 (a2.map r_i64))] (fun r ios => r = .tup [] ∧ ios = [.io (g_rhlf res)]) := by
  rw [btree_run_done] at h
  refine spec_of Tryz.mixed Tryz.func96 rfl rfl (by simp only [List.length]; decide +kernel) ?_
  refine swp_fresh (fun g => stL [(0, (.c (.ptr ⟨0, 1⟩ 0 0))), (1, (.c (.ref ⟨1024000005, g⟩ 0 a1.length))), (2, (.c (.ref ⟨1024000006, g⟩ 0 a2.length)))] [(⟨0, 1⟩, .box true (b_1wfs a0 ⟨1024000001, g⟩ ⟨1024000002, g⟩ ⟨1024000003, g⟩ ⟨1024000004, g⟩)), (⟨1024000001, g⟩, .arr true 1 (a0.Need.map r_i64)), (⟨1024000002, g⟩, .arr true 9 (a0.Writes.map r_api_Page)), (⟨1024000003, g⟩, .arr true 3 (a0.Out.Entries.map r_hashindex_Entry)), (⟨1024000004, g⟩, .arr true 1 (a0.Out.Check.map r_i64)), (⟨1024000005, g⟩, .arr true 9 (a1.map r_api_Page)), (⟨1024000006, g⟩, .arr true 1 (a2.map r_i64))] (g + 1)) (ren_go (fun g S => [(⟨1024000001, g⟩, (keyB 9 (St.heap S ⟨0, 1⟩))), (⟨1024000002, g⟩, (keyB 10 (St.heap S ⟨0, 1⟩))), (⟨1024000003, g⟩, (keyB 20 (St.heap S ⟨0, 1⟩))), (⟨1024000004, g⟩, (keyB 21 (St.heap S ⟨0, 1⟩))), (⟨1024000005, g⟩, (keyT 0 (St.env S 1))), (⟨1024000006, g⟩, (keyT 0 (St.env S 2)))]) fun g S => []) fun g => ?_
  refine seq_reg rfl (fun K hK => ?_)
  simp -implicitDefEqProofs +decide only [go_sem, Nat.reduceAdd, Int.reduceToNat]
  refine hK _ ?_
  refine swp_reg rfl (fun K hK => ?_)
  refine bind_of h (fun v1 hv1 h => ?_)
  simp -implicitDefEqProofs +decide only [go_sem, Nat.reduceAdd, Int.reduceToNat]
  refine call_go [0, 0, 1] true (btree_run_fail_ok (cG G) hG0 _ _ _ _ hv1) ?_
  simp -implicitDefEqProofs +decide only [go_sem, Nat.reduceAdd, Int.reduceToNat]
  refine hK _ ?_
  with_reducible repeat first|apply nn|apply nb|apply nr|apply nc|apply ne|apply nq|apply nx rfl
  obtain rfl := some_eq h
  simp -implicitDefEqProofs +decide only [go_sem, Nat.reduceAdd, Int.reduceToNat]
  all_goals first | done | trivial | assumption | (simp [maps]; done) | (simp [maps]; done)
end Go.Sh
end
section
namespace Go.Sh
open Go.Proofs
noncomputable def pointer_tagged (a0 : api_Page) (a1 : pointer_Tag) : Option api_Page :=
  (pointer_PackTag a1).bind fun v1 =>
  some (⟨a0.Line, a0.Head, (⟨v1, 0, 0, 0, 0, 0, 0⟩ : (A7 Int))⟩ : api_Page)
theorem pointer_tagged_ok (G : Glob) (hG0 : G.glob 0 = some [(.int .i64 0), (.int .i64 0)]) (a0 : api_Page) (a1 : pointer_Tag) (res : api_Page) (h : pointer_tagged a0 a1 = some res) : Spec Tryz.prog G 124 [.agg (g_yylp a0), .agg [.p (.int .i64 a1.Kind), .p (.int .i64 a1.Gen), .p (.int .u32 a1.Aux)]] (fun r ios => r = .agg (g_yylp res) ∧ ios = []) := by
  rw [pointer_tagged] at h
  refine spec_of Tryz.mixed Tryz.func124 rfl rfl (by simp only [List.length]; decide +kernel) ?_
  refine swp_fresh (fun g => stL [(0, (.agg (b_mq86 a0))), (1, (.agg [(.p (.int .i64 a1.Kind)), (.p (.int .i64 a1.Gen)), (.p (.int .u32 a1.Aux))]))] [] (g + 1)) (ren_go (fun g S => []) fun g S => []) fun g => ?_
  refine seq_reg rfl (fun K hK => ?_)
  simp -implicitDefEqProofs +decide only [go_sem, Nat.reduceAdd, Int.reduceToNat]
  refine hK _ ?_
  refine seq_reg rfl (fun K hK => ?_)
  simp -implicitDefEqProofs +decide only [go_sem, Nat.reduceAdd, Int.reduceToNat]
  refine hK _ ?_
  refine seq_reg rfl (fun K hK => ?_)
  refine bind_of h (fun v1 hv1 h => ?_)
  simp -implicitDefEqProofs +decide only [go_sem, Nat.reduceAdd, Int.reduceToNat]
  refine call_go [0] false (pointer_PackTag_ok (cG G) hG0 _ _ hv1) ?_
  simp -implicitDefEqProofs +decide only [go_sem, Nat.reduceAdd, Int.reduceToNat]
  refine hK _ ?_
  refine seq_reg rfl (fun K hK => ?_)
  simp -implicitDefEqProofs +decide only [go_sem, Nat.reduceAdd, Int.reduceToNat]
  refine hK _ ?_
  refine swp_ret ?_
  with_reducible repeat first|apply nn|apply nb|apply nr|apply nc|apply ne|apply nq|apply nx rfl
  obtain rfl := some_eq h
  simp -implicitDefEqProofs +decide only [go_sem, Nat.reduceAdd, Int.reduceToNat]
  all_goals first | done | trivial | assumption | (simp [maps]; done) | (simp [maps]; done)
end Go.Sh
end
section
namespace Go.Sh
open Go.Proofs
noncomputable def pointer_Allocate (a0 : api_Page) (a1 : Int) (a2 : Int) : Option (api_Page × Int) :=
  (pointer_tagOf a0).bind fun v1 =>
  (pointer_inHeap a0.Line).bind fun v10 =>
  if (!v10) = true then
    some ((⟨0, 0, (⟨0, 0, 0, 0, 0, 0, 0⟩ : (A7 Int))⟩ : api_Page), 1)
  else
    if (decide (a1 < 1)) = true then
      some ((⟨0, 0, (⟨0, 0, 0, 0, 0, 0, 0⟩ : (A7 Int))⟩ : api_Page), 1)
    else
      if (decide (a1 > 4)) = true then
        some ((⟨0, 0, (⟨0, 0, 0, 0, 0, 0, 0⟩ : (A7 Int))⟩ : api_Page), 1)
      else
        (pointer_Locked a0).bind fun v14 =>
        if v14 = true then
          some ((⟨0, 0, (⟨0, 0, 0, 0, 0, 0, 0⟩ : (A7 Int))⟩ : api_Page), 3)
        else
          if (v1.Kind != 0) = true then
            some ((⟨0, 0, (⟨0, 0, 0, 0, 0, 0, 0⟩ : (A7 Int))⟩ : api_Page), 17)
          else
            if (v1.Gen == 16777215) = true then
              some ((⟨0, 0, (⟨0, 0, 0, 0, 0, 0, 0⟩ : (A7 Int))⟩ : api_Page), 18)
            else
              (pointer_tagged a0 (⟨a1, (IntKind.i64.wrap (v1.Gen + 1)), a2⟩ : pointer_Tag)).bind fun v18 =>
              some (v18, 0)
theorem pointer_Allocate_ok (G : Glob) (hG0 : G.glob 0 = some [(.int .i64 0), (.int .i64 0)]) (a0 : api_Page) (a1 : Int) (a2 : Int) (res : (api_Page × Int)) (h : pointer_Allocate a0 a1 a2 = some res) : Spec Tryz.prog G 109 [.agg (g_yylp a0), .cell (.p (.int .i64 a1)), .cell (.p (.int .u32 a2))] (fun r ios => r = .tup [.agg (g_yylp res.1), .cell (.p (.int .i64 res.2))] ∧ ios = []) := by
  rw [pointer_Allocate] at h
  refine spec_of Tryz.mixed Tryz.func109 rfl rfl (by simp only [List.length]; decide +kernel) ?_
  refine swp_fresh (fun g => stL [(0, (.agg (b_mq86 a0))), (1, (.c (.p (.int .i64 a1)))), (2, (.c (.p (.int .u32 a2))))] [] (g + 1)) (ren_go (fun g S => []) fun g S => []) fun g => ?_
  refine seq_reg rfl (fun K hK => ?_)
  simp -implicitDefEqProofs +decide only [go_sem, Nat.reduceAdd, Int.reduceToNat]
  refine hK _ ?_
  refine seq_reg rfl (fun K hK => ?_)
  refine bind_of h (fun v1 hv1 h => ?_)
  simp -implicitDefEqProofs +decide only [go_sem, Nat.reduceAdd, Int.reduceToNat]
  refine call_go [0] false (pointer_tagOf_ok (cG G) hG0 _ _ hv1) ?_
  simp -implicitDefEqProofs +decide only [go_sem, Nat.reduceAdd, Int.reduceToNat]
  refine hK _ ?_
  refine swp_seq ?_
  refine swp_block ?_
  refine seq_reg rfl (fun K hK => ?_)
  refine bind_of h (fun v10 hv10 h => ?_)
  simp -implicitDefEqProofs +decide only [go_sem, Nat.reduceAdd, Int.reduceToNat]
  refine call_go [0] false (pointer_inHeap_ok (cG G) hG0 _ _ hv10) ?_
  refine bsplit h (fun hb11 h => ?_) (fun hb11 h => ?_)
  ·simp -implicitDefEqProofs +decide only [go_sem, Nat.reduceAdd, Int.reduceToNat, hb11]
   refine hK _ ?_
   refine cond_t (by simp -implicitDefEqProofs +decide only [go_sem, hb11]) ?_
   refine seq_reg rfl (fun K hK => ?_)
   simp -implicitDefEqProofs +decide only [go_sem, Nat.reduceAdd, Int.reduceToNat, hb11]
   refine hK _ ?_
   refine swp_ret ?_
   with_reducible repeat first|apply nn|apply nb|apply nr|apply nc|apply ne|apply nq|apply nx rfl
   obtain rfl := some_eq h
   simp -implicitDefEqProofs +decide only [go_sem, Nat.reduceAdd, Int.reduceToNat]
   all_goals first | done | trivial | assumption | (simp [maps]; done) | (simp [maps, hb11]; done)
  ·refine bsplit h (fun hb12 h => ?_) (fun hb12 h => ?_)
   ·simp -implicitDefEqProofs +decide only [go_sem, Nat.reduceAdd, Int.reduceToNat, hb11, hb12]
    refine hK _ ?_
    refine cond_t (by simp -implicitDefEqProofs +decide only [go_sem, hb11, hb12]) ?_
    refine seq_reg rfl (fun K hK => ?_)
    simp -implicitDefEqProofs +decide only [go_sem, Nat.reduceAdd, Int.reduceToNat, hb11, hb12]
    refine hK _ ?_
    refine swp_ret ?_
    with_reducible repeat first|apply nn|apply nb|apply nr|apply nc|apply ne|apply nq|apply nx rfl
    obtain rfl := some_eq h
    simp -implicitDefEqProofs +decide only [go_sem, Nat.reduceAdd, Int.reduceToNat]
    all_goals first | done | trivial | assumption | (simp [maps]; done) | (simp [maps, hb11, hb12]; done)
   ·simp -implicitDefEqProofs +decide only [go_sem, Nat.reduceAdd, Int.reduceToNat, hb11, hb12]
    refine hK _ ?_
    refine bsplit h (fun hb13 h => ?_) (fun hb13 h => ?_)
    ·refine cond_t (by simp -implicitDefEqProofs +decide only [go_sem, hb11, hb12, hb13]) ?_
     refine seq_reg rfl (fun K hK => ?_)
     simp -implicitDefEqProofs +decide only [go_sem, Nat.reduceAdd, Int.reduceToNat, hb11, hb12, hb13]
     refine hK _ ?_
     refine swp_ret ?_
     with_reducible repeat first|apply nn|apply nb|apply nr|apply nc|apply ne|apply nq|apply nx rfl
     obtain rfl := some_eq h
     simp -implicitDefEqProofs +decide only [go_sem, Nat.reduceAdd, Int.reduceToNat]
     all_goals first | done | trivial | assumption | (simp [maps]; done) | (simp [maps, hb11, hb12, hb13]; done)
    ·refine cond_f (by simp -implicitDefEqProofs +decide only [go_sem, hb11, hb12, hb13]) ?_
     refine seq_reg rfl (fun K hK => ?_)
     refine bind_of h (fun v14 hv14 h => ?_)
     simp -implicitDefEqProofs +decide only [go_sem, Nat.reduceAdd, Int.reduceToNat, hb11, hb12, hb13]
     refine call_go [0] false (pointer_Locked_ok (cG G) hG0 _ _ hv14) ?_
     simp -implicitDefEqProofs +decide only [go_sem, Nat.reduceAdd, Int.reduceToNat, hb11, hb12, hb13]
     refine hK _ ?_
     refine bsplit h (fun hb15 h => ?_) (fun hb15 h => ?_)
     ·refine cond_t (by simp -implicitDefEqProofs +decide only [go_sem, hb11, hb12, hb13, hb15]) ?_
      refine seq_reg rfl (fun K hK => ?_)
      simp -implicitDefEqProofs +decide only [go_sem, Nat.reduceAdd, Int.reduceToNat, hb11, hb12, hb13, hb15]
      refine hK _ ?_
      refine swp_ret ?_
      with_reducible repeat first|apply nn|apply nb|apply nr|apply nc|apply ne|apply nq|apply nx rfl
      obtain rfl := some_eq h
      simp -implicitDefEqProofs +decide only [go_sem, Nat.reduceAdd, Int.reduceToNat]
      all_goals first | done | trivial | assumption | (simp [maps]; done) | (simp [maps, hb11, hb12, hb13, hb15]; done)
     ·refine cond_f (by simp -implicitDefEqProofs +decide only [go_sem, hb11, hb12, hb13, hb15]) ?_
      refine seq_reg rfl (fun K hK => ?_)
      simp -implicitDefEqProofs +decide only [go_sem, Nat.reduceAdd, Int.reduceToNat, hb11, hb12, hb13, hb15]
      refine hK _ ?_
      refine bsplit h (fun hb16 h => ?_) (fun hb16 h => ?_)
      ·refine cond_t (by simp -implicitDefEqProofs +decide only [go_sem, hb11, hb12, hb13, hb15, hb16]) ?_
       refine seq_reg rfl (fun K hK => ?_)
       simp -implicitDefEqProofs +decide only [go_sem, Nat.reduceAdd, Int.reduceToNat, hb11, hb12, hb13, hb15, hb16]
       refine hK _ ?_
       refine swp_ret ?_
       with_reducible repeat first|apply nn|apply nb|apply nr|apply nc|apply ne|apply nq|apply nx rfl
       obtain rfl := some_eq h
       simp -implicitDefEqProofs +decide only [go_sem, Nat.reduceAdd, Int.reduceToNat]
       all_goals first | done | trivial | assumption | (simp [maps]; done) | (simp [maps, hb11, hb12, hb13, hb15, hb16]; done)
      ·refine cond_f (by simp -implicitDefEqProofs +decide only [go_sem, hb11, hb12, hb13, hb15, hb16]) ?_
       refine seq_reg rfl (fun K hK => ?_)
       simp -implicitDefEqProofs +decide only [go_sem, Nat.reduceAdd, Int.reduceToNat, hb11, hb12, hb13, hb15, hb16]
       refine hK _ ?_
       refine bsplit h (fun hb17 h => ?_) (fun hb17 h => ?_)
       ·refine cond_t (by simp -implicitDefEqProofs +decide only [go_sem, hb11, hb12, hb13, hb15, hb16, hb17]) ?_
        refine seq_reg rfl (fun K hK => ?_)
        simp -implicitDefEqProofs +decide only [go_sem, Nat.reduceAdd, Int.reduceToNat, hb11, hb12, hb13, hb15, hb16, hb17]
        refine hK _ ?_
        refine swp_ret ?_
        with_reducible repeat first|apply nn|apply nb|apply nr|apply nc|apply ne|apply nq|apply nx rfl
        obtain rfl := some_eq h
        simp -implicitDefEqProofs +decide only [go_sem, Nat.reduceAdd, Int.reduceToNat]
        all_goals first | done | trivial | assumption | (simp [maps]; done) | (simp [maps, hb11, hb12, hb13, hb15, hb16, hb17]; done)
       ·refine cond_f (by simp -implicitDefEqProofs +decide only [go_sem, hb11, hb12, hb13, hb15, hb16, hb17]) ?_
        refine swp_skip ?_
        with_reducible repeat first|apply nn|apply nb|apply nr|apply nc|apply ne|apply nq|apply nx rfl
        refine seq_reg rfl (fun K hK => ?_)
        refine bind_of h (fun v18 hv18 h => ?_)
        simp -implicitDefEqProofs +decide only [go_sem, Nat.reduceAdd, Int.reduceToNat, hb11, hb12, hb13, hb15, hb16, hb17]
        refine call_go [0, 0] false (pointer_tagged_ok (cG G) hG0 _ _ _ hv18) ?_
        simp -implicitDefEqProofs +decide only [go_sem, Nat.reduceAdd, Int.reduceToNat, hb11, hb12, hb13, hb15, hb16, hb17]
        refine hK _ ?_
        refine swp_ret ?_
        with_reducible repeat first|apply nn|apply nb|apply nr|apply nc|apply ne|apply nq|apply nx rfl
        obtain rfl := some_eq h
        simp -implicitDefEqProofs +decide only [go_sem, Nat.reduceAdd, Int.reduceToNat]
        all_goals first | done | trivial | assumption | (simp [maps]; done) | (simp [maps, hb11, hb12, hb13, hb15, hb16, hb17]; done)
end Go.Sh
end
section
namespace Go.Sh
open Go.Proofs
noncomputable def slices_Index_L1 (a0 : (List Int)) (a1 : Int) (x12 : Int) : Option (Int ⊕ Int) :=
    if (decide (x12 < (a0.length : Int))) = true then
      (idx a0 x12).bind fun e15 =>
      if (a1 == e15) = true then
        Option.map Sum.inr (
          some x12)
      else
        some (.inl (IntKind.i64.wrap (x12 + 1)))
    else
      Option.map Sum.inr (
        some (-1))
noncomputable def slices_Index (a0 : (List Int)) (a1 : Int) : Option Int :=
  iter (slices_Index_L1 a0 a1) 0
theorem slices_Index_ok (G : Glob) (hG0 : G.glob 0 = some [(.int .i64 0), (.int .i64 0)]) (a0 : (List Int)) (a1 : Int) (res : Int) (h : slices_Index a0 a1 = some res) : Spec Tryz.prog G 125 [.cell (.p (.rows (a0.map r_i64))), .cell (.p (.int .i64 a1))] (fun r ios => r = .cell (.p (.int .i64 res)) ∧ ios = []) := by
  rw [slices_Index] at h
  refine spec_of Tryz.mixed Tryz.func125 rfl rfl (by simp only [List.length]; decide +kernel) ?_
  refine swp_fresh (fun g => stL [(0, (.c (.p (.rows (a0.map r_i64))))), (1, (.c (.p (.int .i64 a1))))] [] (g + 1)) (ren_go (fun g S => []) fun g S => []) fun g => ?_
  refine seq_reg rfl (fun K hK => ?_)
  simp -implicitDefEqProofs +decide only [go_sem, Nat.reduceAdd, Int.reduceToNat]
  refine hK _ ?_
  refine swp_seq ?_
  refine seq_reg rfl (fun K hK => ?_)
  simp -implicitDefEqProofs +decide only [go_sem, Nat.reduceAdd, Int.reduceToNat]
  refine hK _ ?_
  refine swp_block ?_
  refine swp_iter (fun g x12 => stL [(0, (.c (.p (.rows (a0.map r_i64))))), (1, (.c (.p (.int .i64 a1)))), (7, (.c (.p (.int .i64 (a0.length : Int))))), (8, (.c (.p (.int .i64 x12))))] [] (g + 1)) h (enter_of (ren_go (fun g S => []) fun g S => [])) ?_
  rintro g x12 s1 h hd1
  rw [slices_Index_L1] at h
  try dsimp only
  refine seq_reg rfl (fun K hK => ?_)
  simp -implicitDefEqProofs +decide only [go_sem, Nat.reduceAdd, Int.reduceToNat]
  refine hK _ ?_
  refine swp_seq ?_
  refine bsplit h (fun hb14 h => ?_) (fun hb14 h => ?_)
  ·refine cond_t (by simp -implicitDefEqProofs +decide only [go_sem, hb14]) ?_
   refine swp_skip ?_
   with_reducible repeat first|apply nn|apply nb|apply nr|apply nc|apply ne|apply nq|apply nx rfl
   refine swp_seq ?_
   refine swp_block ?_
   refine seq_reg rfl (fun K hK => ?_)
   simp -implicitDefEqProofs +decide only [go_sem, Nat.reduceAdd, Int.reduceToNat, hb14]
   refine hK _ ?_
   refine seq_reg rfl (fun K hK => ?_)
   refine bind_of h (fun e15 he15 h => ?_)
   obtain ⟨he15_0, he15_1, he15_2⟩ := idx_some he15
   simp -implicitDefEqProofs +decide only [go_sem, Nat.reduceAdd, Int.reduceToNat, he15_0, he15_1, he15_2, hb14]
   refine hK _ ?_
   refine bsplit h (fun hb16 h => ?_) (fun hb16 h => ?_)
   ·refine cond_t (by simp -implicitDefEqProofs +decide only [go_sem, hb14, hb16]) ?_
    refine seq_reg rfl (fun K hK => ?_)
    simp -implicitDefEqProofs +decide only [go_sem, Nat.reduceAdd, Int.reduceToNat, hb14, hb16]
    refine hK _ ?_
    refine swp_ret ?_
    with_reducible repeat first|apply nn|apply nb|apply nr|apply nc|apply ne|apply nq|apply nx rfl
    obtain ⟨h, hs1⟩ := exit_of h hd1
    refine ⟨hs1, ?_⟩
    with_reducible repeat first|apply nn|apply nb|apply nr|apply nc|apply ne|apply nq|apply nx rfl
    obtain rfl := some_eq h
    simp -implicitDefEqProofs +decide only [go_sem, Nat.reduceAdd, Int.reduceToNat]
    all_goals first | done | trivial | assumption | (simp [maps]; done) | (simp [maps, hb14, hb16]; done)
   ·refine cond_f (by simp -implicitDefEqProofs +decide only [go_sem, hb14, hb16]) ?_
    refine swp_skip ?_
    with_reducible repeat first|apply nn|apply nb|apply nr|apply nc|apply ne|apply nq|apply nx rfl
    refine swp_reg rfl (fun K hK => ?_)
    simp -implicitDefEqProofs +decide only [go_sem, Nat.reduceAdd, Int.reduceToNat, hb14, hb16]
    refine hK _ ?_
    with_reducible repeat first|apply nn|apply nb|apply nr|apply nc|apply ne|apply nq|apply nx rfl
    exact back_of h (ren_go (fun g S => []) fun g S => [])
  ·refine cond_f (by simp -implicitDefEqProofs +decide only [go_sem, hb14]) ?_
   refine swp_exit ?_
   with_reducible repeat first|apply nn|apply nb|apply nr|apply nc|apply ne|apply nq|apply nx rfl
   obtain ⟨h, hs1⟩ := exit_of h hd1
   with_reducible repeat first|apply nn|apply nb|apply nr|apply nc|apply ne|apply nq|apply nx rfl
   refine ⟨hs1, ?_⟩
   with_reducible repeat first|apply nn|apply nb|apply nr|apply nc|apply ne|apply nq|apply nx rfl
   refine seq_reg rfl (fun K hK => ?_)
   simp -implicitDefEqProofs +decide only [go_sem, Nat.reduceAdd, Int.reduceToNat, hb14]
   refine hK _ ?_
   refine swp_ret ?_
   with_reducible repeat first|apply nn|apply nb|apply nr|apply nc|apply ne|apply nq|apply nx rfl
   obtain rfl := some_eq h
   simp -implicitDefEqProofs +decide only [go_sem, Nat.reduceAdd, Int.reduceToNat]
   all_goals first | done | trivial | assumption | (simp [maps]; done) | (simp [maps, hb14]; done)
end Go.Sh
end
section
namespace Go.Sh
open Go.Proofs
noncomputable def slices_Contains (a0 : (List Int)) (a1 : Int) : Option Bool :=
  (slices_Index a0 a1).bind fun v1 =>
  some (decide (v1 ≥ 0))
theorem slices_Contains_ok (G : Glob) (hG0 : G.glob 0 = some [(.int .i64 0), (.int .i64 0)]) (a0 : (List Int)) (a1 : Int) (res : Bool) (h : slices_Contains a0 a1 = some res) : Spec Tryz.prog G 110 [.cell (.p (.rows (a0.map r_i64))), .cell (.p (.int .i64 a1))] (fun r ios => r = .cell (.p (.bool res)) ∧ ios = []) := by
  rw [slices_Contains] at h
  refine spec_of Tryz.mixed Tryz.func110 rfl rfl (by simp only [List.length]; decide +kernel) ?_
  refine swp_fresh (fun g => stL [(0, (.c (.p (.rows (a0.map r_i64))))), (1, (.c (.p (.int .i64 a1))))] [] (g + 1)) (ren_go (fun g S => []) fun g S => []) fun g => ?_
  refine seq_reg rfl (fun K hK => ?_)
  simp -implicitDefEqProofs +decide only [go_sem, Nat.reduceAdd, Int.reduceToNat]
  refine hK _ ?_
  refine seq_reg rfl (fun K hK => ?_)
  refine bind_of h (fun v1 hv1 h => ?_)
  simp -implicitDefEqProofs +decide only [go_sem, Nat.reduceAdd, Int.reduceToNat]
  refine call_go [0, 0] false (slices_Index_ok (cG G) hG0 _ _ _ hv1) ?_
  simp -implicitDefEqProofs +decide only [go_sem, Nat.reduceAdd, Int.reduceToNat]
  refine hK _ ?_
  refine swp_ret ?_
  with_reducible repeat first|apply nn|apply nb|apply nr|apply nc|apply ne|apply nq|apply nx rfl
  obtain rfl := some_eq h
  simp -implicitDefEqProofs +decide only [go_sem, Nat.reduceAdd, Int.reduceToNat]
  all_goals first | done | trivial | assumption | (simp [maps]; done) | (simp [maps]; done)
end Go.Sh
end
section
namespace Go.Sh
open Go.Proofs
noncomputable def btree_run_fresh (a0 : btree_run) (a1 : (List Int)) : Option (api_Page × Bool × btree_run) :=
  if ((a0.Op.Fresh.length : Int) == 0) = true then
    (btree_run_fail (⟨a0.Op, a0.Known, a0.Need, a0.Writes, (⟨a0.Out.Code, a0.Out.Found, a0.Out.Done, a0.Out.Split, a0.Out.Unposted, a0.Out.Dead, a0.Out.More, a0.Out.To, a0.Out.Entries, a0.Out.Check, a0.Out.Hops, 1, a0.Out.Height⟩ : btree_Out), a0.RootPage, a0.Root, a0.Ended⟩ : btree_run) 18 ([] : List Int)).bind fun v4 =>
    some ((⟨0, 0, (⟨0, 0, 0, 0, 0, 0, 0⟩ : (A7 Int))⟩ : api_Page), v4.1, v4.2)
  else
    (idx a0.Op.Fresh 0).bind fun e5 =>
    (pointer_Allocate e5 4 0).bind fun v6 =>
    if (v6.2 != 0) = true then
      (btree_run_fail a0 1 ([] : List Int)).bind fun v8 =>
      some ((⟨0, 0, (⟨0, 0, 0, 0, 0, 0, 0⟩ : (A7 Int))⟩ : api_Page), v8.1, v8.2)
    else
      (slices_Contains a1 v6.1.Line).bind fun v9 =>
      if v9 = true then
        (btree_run_fail a0 1 ([] : List Int)).bind fun v11 =>
        some ((⟨0, 0, (⟨0, 0, 0, 0, 0, 0, 0⟩ : (A7 Int))⟩ : api_Page), v11.1, v11.2)
      else
        some (v6.1, true, a0)
theorem btree_run_fresh_ok (G : Glob) (hG0 : G.glob 0 = some [(.int .i64 0), (.int .i64 0)]) (a0 : btree_run) (a1 : (List Int)) (res : (api_Page × Bool × btree_run)) (h : btree_run_fresh a0 a1 = some res) : Spec Tryz.prog G 95 [.io (g_rhlf a0), .cell (.p (.rows (a1.map r_i64)))] (fun r ios => r = .tup [.agg (g_yylp res.1), .cell (.p (.bool res.2.1))] ∧ ios = [.io (g_rhlf res.2.2)]) := by
  rw [btree_run_fresh] at h
  refine spec_of Tryz.mixed Tryz.func95 rfl rfl (by simp only [List.length]; decide +kernel) ?_
  refine swp_fresh (fun g => stL [(0, (.c (.ptr ⟨0, 1⟩ 0 0))), (1, (.c (.p (.rows (a1.map r_i64)))))] [(⟨0, 1⟩, .box true (b_1wfs a0 ⟨1024000001, g⟩ ⟨1024000002, g⟩ ⟨1024000003, g⟩ ⟨1024000004, g⟩)), (⟨1024000001, g⟩, .arr true 1 (a0.Need.map r_i64)), (⟨1024000002, g⟩, .arr true 9 (a0.Writes.map r_api_Page)), (⟨1024000003, g⟩, .arr true 3 (a0.Out.Entries.map r_hashindex_Entry)), (⟨1024000004, g⟩, .arr true 1 (a0.Out.Check.map r_i64))] (g + 1)) (ren_go (fun g S => [(⟨1024000001, g⟩, (keyB 9 (St.heap S ⟨0, 1⟩))), (⟨1024000002, g⟩, (keyB 10 (St.heap S ⟨0, 1⟩))), (⟨1024000003, g⟩, (keyB 20 (St.heap S ⟨0, 1⟩))), (⟨1024000004, g⟩, (keyB 21 (St.heap S ⟨0, 1⟩)))]) fun g S => []) fun g => ?_
  refine seq_reg rfl (fun K hK => ?_)
  simp -implicitDefEqProofs +decide only [go_sem, Nat.reduceAdd, Int.reduceToNat]
  refine hK _ ?_
  refine swp_seq ?_
  refine seq_reg rfl (fun K hK => ?_)
  simp -implicitDefEqProofs +decide only [go_sem, Nat.reduceAdd, Int.reduceToNat]
  refine hK _ ?_
  refine bsplit h (fun hb3 h => ?_) (fun hb3 h => ?_)
  ·refine cond_t (by simp -implicitDefEqProofs +decide only [go_sem, hb3]) ?_
   refine seq_reg rfl (fun K hK => ?_)
   simp -implicitDefEqProofs +decide only [go_sem, Nat.reduceAdd, Int.reduceToNat, hb3]
   refine hK _ ?_
   refine seq_reg rfl (fun K hK => ?_)
   refine bind_of h (fun v4 hv4 h => ?_)
   simp -implicitDefEqProofs +decide only [go_sem, Nat.reduceAdd, Int.reduceToNat, hb3]
   refine call_nil [0, 0, 1] true (btree_run_fail_ok (cG G) hG0 _ _ _ _ hv4) ?_
   simp -implicitDefEqProofs +decide only [go_sem, Nat.reduceAdd, Int.reduceToNat, hb3]
   refine hK _ ?_
   refine swp_ret ?_
   with_reducible repeat first|apply nn|apply nb|apply nr|apply nc|apply ne|apply nq|apply nx rfl
   obtain rfl := some_eq h
   simp -implicitDefEqProofs +decide only [go_sem, Nat.reduceAdd, Int.reduceToNat]
   all_goals first | done | trivial | assumption | (simp [maps]; done) | (simp [maps, hb3]; done)
  ·refine cond_f (by simp -implicitDefEqProofs +decide only [go_sem, hb3]) ?_
   refine swp_skip ?_
   with_reducible repeat first|apply nn|apply nb|apply nr|apply nc|apply ne|apply nq|apply nx rfl
   refine seq_reg rfl (fun K hK => ?_)
   refine bind_of h (fun e5 he5 h => ?_)
   obtain ⟨he5_0, he5_1, he5_2⟩ := idx_some he5
   replace he5_2 : (a0.Op.Fresh)[0]? = some e5 := he5_2
   refine bind_of h (fun v6 hv6 h => ?_)
   simp -implicitDefEqProofs +decide only [go_sem, Nat.reduceAdd, Int.reduceToNat, he5_0, he5_1, he5_2, hb3]
   refine call_go [0, 0, 0] false (pointer_Allocate_ok (cG G) hG0 _ _ _ _ hv6) ?_
   simp -implicitDefEqProofs +decide only [go_sem, Nat.reduceAdd, Int.reduceToNat, hb3]
   refine hK _ ?_
   refine swp_seq ?_
   refine seq_reg rfl (fun K hK => ?_)
   refine bsplit h (fun hb7 h => ?_) (fun hb7 h => ?_)
   ·simp -implicitDefEqProofs +decide only [go_sem, Nat.reduceAdd, Int.reduceToNat, hb3, hb7]
    refine hK _ ?_
    refine cond_t (by simp -implicitDefEqProofs +decide only [go_sem, hb3, hb7]) ?_
    refine seq_reg rfl (fun K hK => ?_)
    refine bind_of h (fun v8 hv8 h => ?_)
    simp -implicitDefEqProofs +decide only [go_sem, Nat.reduceAdd, Int.reduceToNat, hb3, hb7]
    refine call_nil [0, 0, 1] true (btree_run_fail_ok (cG G) hG0 _ _ _ _ hv8) ?_
    simp -implicitDefEqProofs +decide only [go_sem, Nat.reduceAdd, Int.reduceToNat, hb3, hb7]
    refine hK _ ?_
    refine swp_ret ?_
    with_reducible repeat first|apply nn|apply nb|apply nr|apply nc|apply ne|apply nq|apply nx rfl
    obtain rfl := some_eq h
    simp -implicitDefEqProofs +decide only [go_sem, Nat.reduceAdd, Int.reduceToNat]
    all_goals first | done | trivial | assumption | (simp [maps]; done) | (simp [maps, hb3, hb7]; done)
   ·refine bind_of h (fun v9 hv9 h => ?_)
    simp -implicitDefEqProofs +decide only [go_sem, Nat.reduceAdd, Int.reduceToNat, hb3, hb7]
    refine call_go [0, 0] false (slices_Contains_ok (cG G) hG0 _ _ _ hv9) ?_
    simp -implicitDefEqProofs +decide only [go_sem, Nat.reduceAdd, Int.reduceToNat, hb3, hb7]
    refine hK _ ?_
    refine bsplit h (fun hb10 h => ?_) (fun hb10 h => ?_)
    ·refine cond_t (by simp -implicitDefEqProofs +decide only [go_sem, hb3, hb7, hb10]) ?_
     refine seq_reg rfl (fun K hK => ?_)
     refine bind_of h (fun v11 hv11 h => ?_)
     simp -implicitDefEqProofs +decide only [go_sem, Nat.reduceAdd, Int.reduceToNat, hb3, hb7, hb10]
     refine call_nil [0, 0, 1] true (btree_run_fail_ok (cG G) hG0 _ _ _ _ hv11) ?_
     simp -implicitDefEqProofs +decide only [go_sem, Nat.reduceAdd, Int.reduceToNat, hb3, hb7, hb10]
     refine hK _ ?_
     refine swp_ret ?_
     with_reducible repeat first|apply nn|apply nb|apply nr|apply nc|apply ne|apply nq|apply nx rfl
     obtain rfl := some_eq h
     simp -implicitDefEqProofs +decide only [go_sem, Nat.reduceAdd, Int.reduceToNat]
     all_goals first | done | trivial | assumption | (simp [maps]; done) | (simp [maps, hb3, hb7, hb10]; done)
    ·refine cond_f (by simp -implicitDefEqProofs +decide only [go_sem, hb3, hb7, hb10]) ?_
     refine swp_skip ?_
     with_reducible repeat first|apply nn|apply nb|apply nr|apply nc|apply ne|apply nq|apply nx rfl
     refine seq_reg rfl (fun K hK => ?_)
     simp -implicitDefEqProofs +decide only [go_sem, Nat.reduceAdd, Int.reduceToNat, hb3, hb7, hb10]
     refine hK _ ?_
     refine swp_ret ?_
     with_reducible repeat first|apply nn|apply nb|apply nr|apply nc|apply ne|apply nq|apply nx rfl
     obtain rfl := some_eq h
     simp -implicitDefEqProofs +decide only [go_sem, Nat.reduceAdd, Int.reduceToNat]
     all_goals first | done | trivial | assumption | (simp [maps]; done) | (simp [maps, hb3, hb7, hb10]; done)
end Go.Sh
end
section
namespace Go.Sh
open Go.Proofs
noncomputable def pointer_At (a0 : api_Page) : Option pointer_Pointer :=
  (pointer_tagOf a0).bind fun v1 =>
  some (⟨a0.Line, v1.Gen⟩ : pointer_Pointer)
theorem pointer_At_ok (G : Glob) (hG0 : G.glob 0 = some [(.int .i64 0), (.int .i64 0)]) (a0 : api_Page) (res : pointer_Pointer) (h : pointer_At a0 = some res) : Spec Tryz.prog G 38 [.agg (g_yylp a0)] (fun r ios => r = .agg [.p (.int .i64 res.Line), .p (.int .i64 res.Gen)] ∧ ios = []) := by
  rw [pointer_At] at h
  refine spec_of Tryz.mixed Tryz.func38 rfl rfl (by simp only [List.length]; decide +kernel) ?_
  refine swp_fresh (fun g => stL [(0, (.agg (b_mq86 a0)))] [] (g + 1)) (ren_go (fun g S => []) fun g S => []) fun g => ?_
  refine seq_reg rfl (fun K hK => ?_)
  simp -implicitDefEqProofs +decide only [go_sem, Nat.reduceAdd, Int.reduceToNat]
  refine hK _ ?_
  refine seq_drw rfl (fun K hK => ?_)
  refine bind_of h (fun v1 hv1 h => ?_)
  simp -implicitDefEqProofs +decide only [go_sem, Nat.reduceAdd, Int.reduceToNat]
  refine call_go [0] false (pointer_tagOf_ok (cG G) hG0 _ _ hv1) ?_
  simp -implicitDefEqProofs +decide only [go_sem, Nat.reduceAdd, Int.reduceToNat]
  refine draw_go (by kernel_rfl) ?_
  refine hK _ ?_
  refine swp_ret ?_
  with_reducible repeat first|apply nn|apply nb|apply nr|apply nc|apply ne|apply nq|apply nx rfl
  obtain rfl := some_eq h
  simp -implicitDefEqProofs +decide only [go_sem, Nat.reduceAdd, Int.reduceToNat]
  all_goals first | done | trivial | assumption | (simp [maps]; done) | (simp [maps]; done)
end Go.Sh
end
section
namespace Go.Sh
open Go.Proofs
noncomputable def btree_run_plant (a0 : btree_run) (a1 : hashindex_Entry) : Option btree_run :=
  (pointer_Locked a0.RootPage).bind fun v4 =>
  if v4 = true then
    (btree_run_fail a0 3 ([] : List Int)).bind fun v6 =>
    some v6.2
  else
    (btree_run_fresh a0 []).bind fun v7 =>
    if (!v7.2.1) = true then
      some v7.2.2
    else
      (pointer_At v7.1).bind fun v10 =>
      (btree_WriteRoot v7.2.2.RootPage v10 0).bind fun v11 =>
      (btree_Node_fill (⟨0, true, false, 4294967295, (⟨0, 0⟩ : pointer_Pointer), ([a1] : List hashindex_Entry)⟩ : btree_Node) v7.1).bind fun v12 =>
      (btree_run_done v7.2.2 ([v11.1, v12] : List api_Page) ([] : List Int)).bind fun v13 =>
      some v13
theorem btree_run_plant_ok (G : Glob) (hG0 : G.glob 0 = some [(.int .i64 0), (.int .i64 0)]) (a0 : btree_run) (a1 : hashindex_Entry) (res : btree_run) (h : btree_run_plant a0 a1 = some res) : Spec Tryz.prog G 87 [.io (g_rhlf a0), .agg [.p (.int .u32 a1.Key), .p (.int .i64 a1.To.Line), .p (.int .i64 a1.To.Gen)]] (fun r ios => r = .tup [] ∧ ios = [.io (g_rhlf res)]) := by
  rw [btree_run_plant] at h
  refine spec_of Tryz.mixed Tryz.func87 rfl rfl (by simp only [List.length]; decide +kernel) ?_
  refine swp_fresh (fun g => stL [(0, (.c (.ptr ⟨0, 1⟩ 0 0))), (1, (.agg [(.p (.int .u32 a1.Key)), (.p (.int .i64 a1.To.Line)), (.p (.int .i64 a1.To.Gen))]))] [(⟨0, 1⟩, .box true (b_1wfs a0 ⟨1024000001, g⟩ ⟨1024000002, g⟩ ⟨1024000003, g⟩ ⟨1024000004, g⟩)), (⟨1024000001, g⟩, .arr true 1 (a0.Need.map r_i64)), (⟨1024000002, g⟩, .arr true 9 (a0.Writes.map r_api_Page)), (⟨1024000003, g⟩, .arr true 3 (a0.Out.Entries.map r_hashindex_Entry)), (⟨1024000004, g⟩, .arr true 1 (a0.Out.Check.map r_i64))] (g + 1)) (ren_go (fun g S => [(⟨1024000001, g⟩, (keyB 9 (St.heap S ⟨0, 1⟩))), (⟨1024000002, g⟩, (keyB 10 (St.heap S ⟨0, 1⟩))), (⟨1024000003, g⟩, (keyB 20 (St.heap S ⟨0, 1⟩))), (⟨1024000004, g⟩, (keyB 21 (St.heap S ⟨0, 1⟩)))]) fun g S => []) fun g => ?_
  refine seq_reg rfl (fun K hK => ?_)
  simp -implicitDefEqProofs +decide only [go_sem, Nat.reduceAdd, Int.reduceToNat]
  refine hK _ ?_
  refine swp_seq ?_
  refine seq_reg rfl (fun K hK => ?_)
  refine bind_of h (fun v4 hv4 h => ?_)
  simp -implicitDefEqProofs +decide only [go_sem, Nat.reduceAdd, Int.reduceToNat]
  refine call_go [0] false (pointer_Locked_ok (cG G) hG0 _ _ hv4) ?_
  simp -implicitDefEqProofs +decide only [go_sem, Nat.reduceAdd, Int.reduceToNat]
  refine hK _ ?_
  refine bsplit h (fun hb5 h => ?_) (fun hb5 h => ?_)
  ·refine cond_t (by simp -implicitDefEqProofs +decide only [go_sem, hb5]) ?_
   refine seq_reg rfl (fun K hK => ?_)
   refine bind_of h (fun v6 hv6 h => ?_)
   simp -implicitDefEqProofs +decide only [go_sem, Nat.reduceAdd, Int.reduceToNat, hb5]
   refine call_nil [0, 0, 1] true (btree_run_fail_ok (cG G) hG0 _ _ _ _ hv6) ?_
   simp -implicitDefEqProofs +decide only [go_sem, Nat.reduceAdd, Int.reduceToNat, hb5]
   refine hK _ ?_
   refine swp_ret ?_
   with_reducible repeat first|apply nn|apply nb|apply nr|apply nc|apply ne|apply nq|apply nx rfl
   obtain rfl := some_eq h
   simp -implicitDefEqProofs +decide only [go_sem, Nat.reduceAdd, Int.reduceToNat]
   all_goals first | done | trivial | assumption | (simp [maps]; done) | (simp [maps, hb5]; done)
  ·refine cond_f (by simp -implicitDefEqProofs +decide only [go_sem, hb5]) ?_
   refine swp_skip ?_
   with_reducible repeat first|apply nn|apply nb|apply nr|apply nc|apply ne|apply nq|apply nx rfl
   refine seq_reg rfl (fun K hK => ?_)
   refine bind_of h (fun v7 hv7 h => ?_)
   simp -implicitDefEqProofs +decide only [go_sem, Nat.reduceAdd, Int.reduceToNat, hb5]
   refine call_go [0, 0] true (btree_run_fresh_ok (cG G) hG0 _ _ _ hv7) ?_
   simp -implicitDefEqProofs +decide only [go_sem, Nat.reduceAdd, Int.reduceToNat, hb5]
   refine hK _ ?_
   refine swp_seq ?_
   refine seq_reg rfl (fun K hK => ?_)
   simp -implicitDefEqProofs +decide only [go_sem, Nat.reduceAdd, Int.reduceToNat, hb5]
   refine hK _ ?_
   refine bsplit h (fun hb9 h => ?_) (fun hb9 h => ?_)
   ·refine cond_t (by simp -implicitDefEqProofs +decide only [go_sem, hb5, hb9]) ?_
    refine swp_ret ?_
    with_reducible repeat first|apply nn|apply nb|apply nr|apply nc|apply ne|apply nq|apply nx rfl
    obtain rfl := some_eq h
    simp -implicitDefEqProofs +decide only [go_sem, Nat.reduceAdd, Int.reduceToNat]
    all_goals first | done | trivial | assumption | (simp [maps]; done) | (simp [maps, hb5, hb9]; done)
   ·refine cond_f (by simp -implicitDefEqProofs +decide only [go_sem, hb5, hb9]) ?_
    refine swp_skip ?_
    with_reducible repeat first|apply nn|apply nb|apply nr|apply nc|apply ne|apply nq|apply nx rfl
    refine seq_reg rfl (fun K hK => ?_)
    simp -implicitDefEqProofs +decide only [go_sem, Nat.reduceAdd, Int.reduceToNat, hb5, hb9]
    refine hK _ ?_
    refine seq_drw rfl (fun K hK => ?_)
    refine bind_of h (fun v10 hv10 h => ?_)
    simp -implicitDefEqProofs +decide only [go_sem, Nat.reduceAdd, Int.reduceToNat, hb5, hb9]
    refine call_go [0] false (pointer_At_ok (cG G) hG0 _ _ hv10) ?_
    refine bind_of h (fun v11 hv11 h => ?_)
    simp -implicitDefEqProofs +decide only [go_sem, Nat.reduceAdd, Int.reduceToNat, hb5, hb9]
    refine call_go [0, 0, 0] false (btree_WriteRoot_ok (cG G) hG0 _ _ _ _ hv11) ?_
    simp -implicitDefEqProofs +decide only [go_sem, Nat.reduceAdd, Int.reduceToNat, hb5, hb9]
    refine draw_go (by kernel_rfl) ?_
    refine hK _ ?_
    refine swp_drw rfl (fun K hK => ?_)
    refine bind_of h (fun v12 hv12 h => ?_)
    simp -implicitDefEqProofs +decide only [go_sem, Nat.reduceAdd, Int.reduceToNat, hb5, hb9]
    refine call_go [0, 0] false (btree_Node_fill_ok (cG G) hG0 _ _ _ hv12) ?_
    refine bind_of h (fun v13 hv13 h => ?_)
    simp -implicitDefEqProofs +decide only [go_sem, Nat.reduceAdd, Int.reduceToNat, hb5, hb9]
    refine call_nil [0, 1, 1] true (btree_run_done_ok (cG G) hG0 _ _ _ _ hv13) ?_
    simp -implicitDefEqProofs +decide only [go_sem, Nat.reduceAdd, Int.reduceToNat, hb5, hb9]
    refine draw_go (by kernel_rfl) ?_
    refine hK _ ?_
    with_reducible repeat first|apply nn|apply nb|apply nr|apply nc|apply ne|apply nq|apply nx rfl
    obtain rfl := some_eq h
    simp -implicitDefEqProofs +decide only [go_sem, Nat.reduceAdd, Int.reduceToNat]
    all_goals first | done | trivial | assumption | (simp [maps]; done) | (simp [maps, hb5, hb9]; done)
end Go.Sh
end
section
namespace Go.Sh
open Go.Proofs
noncomputable def btree_run_fresh_v2 (a0 : btree_run) (a1 : (List Int)) : Option (api_Page × Bool × btree_run) :=
  if ((a0.Op.Fresh.length : Int) == 0) = true then
    (btree_run_fail (⟨a0.Op, a0.Known, a0.Need, a0.Writes, (⟨a0.Out.Code, a0.Out.Found, a0.Out.Done, a0.Out.Split, a0.Out.Unposted, a0.Out.Dead, a0.Out.More, a0.Out.To, a0.Out.Entries, a0.Out.Check, a0.Out.Hops, 1, a0.Out.Height⟩ : btree_Out), a0.RootPage, a0.Root, a0.Ended⟩ : btree_run) 18 ([] : List Int)).bind fun v4 =>
    some ((⟨0, 0, (⟨0, 0, 0, 0, 0, 0, 0⟩ : (A7 Int))⟩ : api_Page), v4.1, v4.2)
  else
    (idx a0.Op.Fresh 0).bind fun e5 =>
    (pointer_Allocate e5 4 0).bind fun v6 =>
    if (v6.2 != 0) = true then
      (btree_run_fail a0 1 ([] : List Int)).bind fun v8 =>
      some ((⟨0, 0, (⟨0, 0, 0, 0, 0, 0, 0⟩ : (A7 Int))⟩ : api_Page), v8.1, v8.2)
    else
      (slices_Contains a1 v6.1.Line).bind fun v9 =>
      if v9 = true then
        (btree_run_fail a0 1 ([] : List Int)).bind fun v11 =>
        some ((⟨0, 0, (⟨0, 0, 0, 0, 0, 0, 0⟩ : (A7 Int))⟩ : api_Page), v11.1, v11.2)
      else
        some (v6.1, true, a0)
theorem btree_run_fresh_v2_ok (G : Glob) (hG0 : G.glob 0 = some [(.int .i64 0), (.int .i64 0)]) (a0 : btree_run) (a1 : (List Int)) (res : (api_Page × Bool × btree_run)) (h : btree_run_fresh_v2 a0 a1 = some res) : Spec Tryz.prog G 95 [.io (g_rhlf a0), .els 1 (a1.map r_i64)] (fun r ios => r = .tup [.agg (g_yylp res.1), .cell (.p (.bool res.2.1))] ∧ ios = [.io (g_rhlf res.2.2), .els 1 (a1.map r_i64)]) := by
  rw [btree_run_fresh_v2] at h
  refine spec_of Tryz.mixed Tryz.func95 rfl rfl (by simp only [List.length]; decide +kernel) ?_
  refine swp_fresh (fun g => stL [(0, (.c (.ptr ⟨0, 1⟩ 0 0))), (1, (.c (.ref ⟨1025, 2⟩ 0 a1.length)))] [(⟨0, 1⟩, .box true (b_1wfs a0 ⟨1024000001, g⟩ ⟨1024000002, g⟩ ⟨1024000003, g⟩ ⟨1024000004, g⟩)), (⟨1024000001, g⟩, .arr true 1 (a0.Need.map r_i64)), (⟨1024000002, g⟩, .arr true 9 (a0.Writes.map r_api_Page)), (⟨1024000003, g⟩, .arr true 3 (a0.Out.Entries.map r_hashindex_Entry)), (⟨1024000004, g⟩, .arr true 1 (a0.Out.Check.map r_i64)), (⟨1025, 2⟩, .arr true 1 (a1.map r_i64))] (g + 1)) (ren_go (fun g S => [(⟨1024000001, g⟩, (keyB 9 (St.heap S ⟨0, 1⟩))), (⟨1024000002, g⟩, (keyB 10 (St.heap S ⟨0, 1⟩))), (⟨1024000003, g⟩, (keyB 20 (St.heap S ⟨0, 1⟩))), (⟨1024000004, g⟩, (keyB 21 (St.heap S ⟨0, 1⟩)))]) fun g S => []) fun g => ?_
  refine seq_reg rfl (fun K hK => ?_)
  simp -implicitDefEqProofs +decide only [go_sem, Nat.reduceAdd, Int.reduceToNat]
  refine hK _ ?_
  refine swp_seq ?_
  refine seq_reg rfl (fun K hK => ?_)
  simp -implicitDefEqProofs +decide only [go_sem, Nat.reduceAdd, Int.reduceToNat]
  refine hK _ ?_
  refine bsplit h (fun hb3 h => ?_) (fun hb3 h => ?_)
  ·refine cond_t (by simp -implicitDefEqProofs +decide only [go_sem, hb3]) ?_
   refine seq_reg rfl (fun K hK => ?_)
   simp -implicitDefEqProofs +decide only [go_sem, Nat.reduceAdd, Int.reduceToNat, hb3]
   refine hK _ ?_
   refine seq_reg rfl (fun K hK => ?_)
   refine bind_of h (fun v4 hv4 h => ?_)
   simp -implicitDefEqProofs +decide only [go_sem, Nat.reduceAdd, Int.reduceToNat, hb3]
   refine call_nil [0, 0, 1] true (btree_run_fail_ok (cG G) hG0 _ _ _ _ hv4) ?_
   simp -implicitDefEqProofs +decide only [go_sem, Nat.reduceAdd, Int.reduceToNat, hb3]
   refine hK _ ?_
   refine swp_ret ?_
   with_reducible repeat first|apply nn|apply nb|apply nr|apply nc|apply ne|apply nq|apply nx rfl
   obtain rfl := some_eq h
   simp -implicitDefEqProofs +decide only [go_sem, Nat.reduceAdd, Int.reduceToNat]
   all_goals first | done | trivial | assumption | (simp [maps]; done) | (simp [maps, hb3]; done)
  ·refine cond_f (by simp -implicitDefEqProofs +decide only [go_sem, hb3]) ?_
   refine swp_skip ?_
   with_reducible repeat first|apply nn|apply nb|apply nr|apply nc|apply ne|apply nq|apply nx rfl
   refine seq_reg rfl (fun K hK => ?_)
   refine bind_of h (fun e5 he5 h => ?_)
   obtain ⟨he5_0, he5_1, he5_2⟩ := idx_some he5
   replace he5_2 : (a0.Op.Fresh)[0]? = some e5 := he5_2
   refine bind_of h (fun v6 hv6 h => ?_)
   simp -implicitDefEqProofs +decide only [go_sem, Nat.reduceAdd, Int.reduceToNat, he5_0, he5_1, he5_2, hb3]
   refine call_go [0, 0, 0] false (pointer_Allocate_ok (cG G) hG0 _ _ _ _ hv6) ?_
   simp -implicitDefEqProofs +decide only [go_sem, Nat.reduceAdd, Int.reduceToNat, hb3]
   refine hK _ ?_
   refine swp_seq ?_
   refine seq_reg rfl (fun K hK => ?_)
   refine bsplit h (fun hb7 h => ?_) (fun hb7 h => ?_)
   ·simp -implicitDefEqProofs +decide only [go_sem, Nat.reduceAdd, Int.reduceToNat, hb3, hb7]
    refine hK _ ?_
    refine cond_t (by simp -implicitDefEqProofs +decide only [go_sem, hb3, hb7]) ?_
    refine seq_reg rfl (fun K hK => ?_)
    refine bind_of h (fun v8 hv8 h => ?_)
    simp -implicitDefEqProofs +decide only [go_sem, Nat.reduceAdd, Int.reduceToNat, hb3, hb7]
    refine call_nil [0, 0, 1] true (btree_run_fail_ok (cG G) hG0 _ _ _ _ hv8) ?_
    simp -implicitDefEqProofs +decide only [go_sem, Nat.reduceAdd, Int.reduceToNat, hb3, hb7]
    refine hK _ ?_
    refine swp_ret ?_
    with_reducible repeat first|apply nn|apply nb|apply nr|apply nc|apply ne|apply nq|apply nx rfl
    obtain rfl := some_eq h
    simp -implicitDefEqProofs +decide only [go_sem, Nat.reduceAdd, Int.reduceToNat]
    all_goals first | done | trivial | assumption | (simp [maps]; done) | (simp [maps, hb3, hb7]; done)
   ·refine bind_of h (fun v9 hv9 h => ?_)
    simp -implicitDefEqProofs +decide only [go_sem, Nat.reduceAdd, Int.reduceToNat, hb3, hb7]
    refine call_go [0, 0] false (slices_Contains_ok (cG G) hG0 _ _ _ hv9) ?_
    simp -implicitDefEqProofs +decide only [go_sem, Nat.reduceAdd, Int.reduceToNat, hb3, hb7]
    refine hK _ ?_
    refine bsplit h (fun hb10 h => ?_) (fun hb10 h => ?_)
    ·refine cond_t (by simp -implicitDefEqProofs +decide only [go_sem, hb3, hb7, hb10]) ?_
     refine seq_reg rfl (fun K hK => ?_)
     refine bind_of h (fun v11 hv11 h => ?_)
     simp -implicitDefEqProofs +decide only [go_sem, Nat.reduceAdd, Int.reduceToNat, hb3, hb7, hb10]
     refine call_nil [0, 0, 1] true (btree_run_fail_ok (cG G) hG0 _ _ _ _ hv11) ?_
     simp -implicitDefEqProofs +decide only [go_sem, Nat.reduceAdd, Int.reduceToNat, hb3, hb7, hb10]
     refine hK _ ?_
     refine swp_ret ?_
     with_reducible repeat first|apply nn|apply nb|apply nr|apply nc|apply ne|apply nq|apply nx rfl
     obtain rfl := some_eq h
     simp -implicitDefEqProofs +decide only [go_sem, Nat.reduceAdd, Int.reduceToNat]
     all_goals first | done | trivial | assumption | (simp [maps]; done) | (simp [maps, hb3, hb7, hb10]; done)
    ·refine cond_f (by simp -implicitDefEqProofs +decide only [go_sem, hb3, hb7, hb10]) ?_
     refine swp_skip ?_
     with_reducible repeat first|apply nn|apply nb|apply nr|apply nc|apply ne|apply nq|apply nx rfl
     refine seq_reg rfl (fun K hK => ?_)
     simp -implicitDefEqProofs +decide only [go_sem, Nat.reduceAdd, Int.reduceToNat, hb3, hb7, hb10]
     refine hK _ ?_
     refine swp_ret ?_
     with_reducible repeat first|apply nn|apply nb|apply nr|apply nc|apply ne|apply nq|apply nx rfl
     obtain rfl := some_eq h
     simp -implicitDefEqProofs +decide only [go_sem, Nat.reduceAdd, Int.reduceToNat]
     all_goals first | done | trivial | assumption | (simp [maps]; done) | (simp [maps, hb3, hb7, hb10]; done)
end Go.Sh
end
section
namespace Go.Sh
open Go.Proofs
noncomputable def btree_run_store (a0 : btree_run) (a1 : btree_found) (a2 : (List hashindex_Entry)) (a3 : (List Int)) : Option btree_run :=
  if (decide ((a2.length : Int) ≤ 5)) = true then
    (btree_Node_fill (⟨a1.Node.Level, a1.Node.Leftmost, a1.Node.Dead, a1.Node.High, a1.Node.Right, a2⟩ : btree_Node) a1.Page).bind fun v5 =>
    (btree_run_done a0 ([v5] : List api_Page) a3).bind fun v6 =>
    some v6
  else
    if (a3.length + 1) * 8 ≤ maxRows ∧ a3.length + 1 ≤ maxRows then
      (btree_run_fresh_v2 a0 (a3 ++ ([a1.Page.Line] : List Int))).bind fun v8 =>
      if (!v8.2.1) = true then
        some v8.2.2
      else
        if 0 ≤ 3 ∧ 3 ≤ (a2.length : Int) then
          (idx a2 2).bind fun e12 =>
          (pointer_At v8.1).bind fun v13 =>
          if 0 ≤ 0 ∧ 0 ≤ 3 ∧ 3 ≤ (a2.length : Int) then
            (btree_Node_fill (⟨a1.Node.Level, a1.Node.Leftmost, a1.Node.Dead, e12.Key, v13, ((a2.drop 0).take 3)⟩ : btree_Node) a1.Page).bind fun v15 =>
            (btree_Node_fill (⟨a1.Node.Level, false, false, a1.Node.High, a1.Node.Right, ((a2.drop 3).take ((a2.length : Int) - 3).toNat)⟩ : btree_Node) v8.1).bind fun v16 =>
            (btree_run_done (⟨v8.2.2.Op, v8.2.2.Known, v8.2.2.Need, v8.2.2.Writes, (⟨v8.2.2.Out.Code, v8.2.2.Out.Found, v8.2.2.Out.Done, true, v8.2.2.Out.Unposted, v8.2.2.Out.Dead, v8.2.2.Out.More, v8.2.2.Out.To, v8.2.2.Out.Entries, v8.2.2.Out.Check, v8.2.2.Out.Hops, v8.2.2.Out.Fresh, v8.2.2.Out.Height⟩ : btree_Out), v8.2.2.RootPage, v8.2.2.Root, v8.2.2.Ended⟩ : btree_run) ([v15, v16] : List api_Page) a3).bind fun v17 =>
            some v17
          else none
        else none
    else none
theorem btree_run_store_ok (G : Glob) (hG0 : G.glob 0 = some [(.int .i64 0), (.int .i64 0)]) (a0 : btree_run) (a1 : btree_found) (a2 : (List hashindex_Entry)) (a3 : (List Int)) (res : btree_run) (h : btree_run_store a0 a1 a2 a3 = some res) : Spec Tryz.prog G 88 [.io (g_rhlf a0), .agg (g_5mbx a1), .cell (.own 3 (a2.map r_hashindex_Entry)), .cell (.own 1 (a3.map r_i64))] (fun r ios => r = .tup [] ∧ ios = [.io (g_rhlf res)]) := by
  rw [btree_run_store] at h
  refine spec_room [.io (g_rhlf a0), .agg (g_5mbx a1), .cell (.own 3 (a2.map r_hashindex_Entry))] [] rfl (fun c hc => ?_)
  rcases Nat.eq_or_lt_of_le hc with hc | hc
  · subst hc
    refine spec_caps _ (capsIn_one 3 (a3.map r_i64).length rfl) Tryz.mixed Tryz.func88 rfl rfl (by simp only [List.cons_append, List.nil_append, List.length]; decide +kernel) ?_
    refine swp_fresh (fun g => stL [(0, (.c (.ptr ⟨0, 1⟩ 0 0))), (1, (.agg (b_2ism a1))), (2, (.c (.ref ⟨1024000005, g⟩ 0 a2.length))), (3, (.c (.ref ⟨3073, 6⟩ 0 a3.length)))] [(⟨0, 1⟩, .box true (b_1wfs a0 ⟨1024000001, g⟩ ⟨1024000002, g⟩ ⟨1024000003, g⟩ ⟨1024000004, g⟩)), (⟨1024000001, g⟩, .arr true 1 (a0.Need.map r_i64)), (⟨1024000002, g⟩, .arr true 9 (a0.Writes.map r_api_Page)), (⟨1024000003, g⟩, .arr true 3 (a0.Out.Entries.map r_hashindex_Entry)), (⟨1024000004, g⟩, .arr true 1 (a0.Out.Check.map r_i64)), (⟨1024000005, g⟩, .arr true 3 (a2.map r_hashindex_Entry)), (⟨3073, 6⟩, .arr true 1 (a3.map r_i64))] (g + 1)) (ren_go (fun g S => [(⟨1024000001, g⟩, (keyB 9 (St.heap S ⟨0, 1⟩))), (⟨1024000002, g⟩, (keyB 10 (St.heap S ⟨0, 1⟩))), (⟨1024000003, g⟩, (keyB 20 (St.heap S ⟨0, 1⟩))), (⟨1024000004, g⟩, (keyB 21 (St.heap S ⟨0, 1⟩))), (⟨1024000005, g⟩, (keyT 0 (St.env S 2)))]) fun g S => []) fun g => ?_
    refine seq_reg rfl (fun K hK => ?_)
    simp -implicitDefEqProofs +decide only [go_sem, Nat.reduceAdd, Int.reduceToNat]
    refine hK _ ?_
    refine seq_reg rfl (fun K hK => ?_)
    simp -implicitDefEqProofs +decide only [go_sem, Nat.reduceAdd, Int.reduceToNat]
    refine hK _ ?_
    refine seq_reg rfl (fun K hK => ?_)
    simp -implicitDefEqProofs +decide only [go_sem, Nat.reduceAdd, Int.reduceToNat]
    refine hK _ ?_
    refine swp_seq ?_
    refine seq_reg rfl (fun K hK => ?_)
    simp -implicitDefEqProofs +decide only [go_sem, Nat.reduceAdd, Int.reduceToNat]
    refine hK _ ?_
    refine bsplit h (fun hb4 h => ?_) (fun hb4 h => ?_)
    ·refine cond_t (by simp -implicitDefEqProofs +decide only [go_sem, hb4]) ?_
     refine seq_reg rfl (fun K hK => ?_)
     refine bind_of h (fun v5 hv5 h => ?_)
     simp -implicitDefEqProofs +decide only [go_sem, Nat.reduceAdd, Int.reduceToNat, hb4]
     refine call_go [0, 0] false (btree_Node_fill_ok ⟨G.glob, fun k => if k = (⟨1024 * 3 + 1, 2 * 3⟩ : Key) then some (a3.map r_i64).length else none⟩ hG0 _ _ _ hv5) ?_
     refine bind_of h (fun v6 hv6 h => ?_)
     simp -implicitDefEqProofs +decide only [go_sem, Nat.reduceAdd, Int.reduceToNat, hb4]
     refine call_go [0, 1, 1] true (btree_run_done_ok ⟨G.glob, fun k => if k = (⟨1024 * 3 + 1, 2 * 3⟩ : Key) then some (a3.map r_i64).length else none⟩ hG0 _ _ _ _ hv6) ?_
     simp -implicitDefEqProofs +decide only [go_sem, Nat.reduceAdd, Int.reduceToNat, hb4]
     refine hK _ ?_
     refine swp_ret ?_
     with_reducible repeat first|apply nn|apply nb|apply nr|apply nc|apply ne|apply nq|apply nx rfl
     obtain rfl := some_eq h
     simp -implicitDefEqProofs +decide only [go_sem, Nat.reduceAdd, Int.reduceToNat]
     all_goals first | done | trivial | assumption | (simp [maps]; done) | (simp [maps, hb4]; done)
    ·refine cond_f (by simp -implicitDefEqProofs +decide only [go_sem, hb4]) ?_
     refine swp_skip ?_
     with_reducible repeat first|apply nn|apply nb|apply nr|apply nc|apply ne|apply nq|apply nx rfl
     refine seq_reg rfl (fun K hK => ?_)
     refine psplit h (fun hp7 h => ?_)
     simp -implicitDefEqProofs +decide only [go_sem, Nat.reduceAdd, Int.reduceToNat, hp7, hb4]
     refine opt_eq (growX_full (n := a3.length) (c := (a3.map r_i64).length) (by simp) (by simp only [go_sem] <;> rfl) (by simp only [go_sem] <;> exact ⟨rfl, rfl⟩) (by simp only [go_sem] <;> rfl) (by simp -implicitDefEqProofs +decide only [go_sem] <;> rfl) (by simp -implicitDefEqProofs +decide only [go_sem]) (by simp [go_sem]) (by simp) (by simpa [go_sem] using hp7)) ?_
     refine bind_of h (fun v8 hv8 h => ?_)
     simp -implicitDefEqProofs +decide only [go_sem, Nat.reduceAdd, Int.reduceToNat, hb4]
     refine call_go [0, 2] true (btree_run_fresh_v2_ok ⟨G.glob, fun k => if k = (⟨1024 * 3 + 1, 2 * 3⟩ : Key) then some (a3.map r_i64).length else none⟩ hG0 _ _ _ hv8) ?_
     simp -implicitDefEqProofs +decide only [go_sem, Nat.reduceAdd, Int.reduceToNat, hb4]
     refine hK _ ?_
     refine swp_fresh (fun g => stL [(0, (.c (.ptr ⟨0, 1⟩ 0 0))), (2, (.c (.ref ⟨1024000010, g⟩ 0 a2.length))), (3, (.c (.ref ⟨3073, 6⟩ 0 a3.length))), (5, (.c (.ptr ⟨1024000011, g⟩ 0 0))), (8, (.c (.ptr ⟨1024000012, g⟩ 0 0))), (9, (.c (.ptr ⟨1024000013, g⟩ 0 0))), (10, (.c (.p (.bool v8.2.1))))] [(⟨0, 1⟩, .box true (b_1wfs v8.2.2 ⟨1024000006, g⟩ ⟨1024000007, g⟩ ⟨1024000008, g⟩ ⟨1024000009, g⟩)), (⟨1024000006, g⟩, .arr true 1 (v8.2.2.Need.map r_i64)), (⟨1024000007, g⟩, .arr true 9 (v8.2.2.Writes.map r_api_Page)), (⟨1024000008, g⟩, .arr true 3 (v8.2.2.Out.Entries.map r_hashindex_Entry)), (⟨1024000009, g⟩, .arr true 1 (v8.2.2.Out.Check.map r_i64)), (⟨1024000010, g⟩, .arr true 3 (a2.map r_hashindex_Entry)), (⟨3073, 6⟩, .arr true 1 (a3.map r_i64)), (⟨1024000011, g⟩, .box true (b_2ism a1)), (⟨1024000012, g⟩, .box true [(.p (.int .i64 a1.Node.Level)), (.p (.bool a1.Node.Leftmost)), (.p (.bool a1.Node.Dead)), (.p (.int .u32 a1.Node.High)), (.p (.int .i64 a1.Node.Right.Line)), (.p (.int .i64 a1.Node.Right.Gen)), (.ref ⟨1024000010, g⟩ 0 a2.length)]), (⟨1024000013, g⟩, .box true (b_mq86 v8.1))] (g + 1)) (ren_go (fun g S => [(⟨1024000006, g⟩, (keyB 9 (St.heap S ⟨0, 1⟩))), (⟨1024000007, g⟩, (keyB 10 (St.heap S ⟨0, 1⟩))), (⟨1024000008, g⟩, (keyB 20 (St.heap S ⟨0, 1⟩))), (⟨1024000009, g⟩, (keyB 21 (St.heap S ⟨0, 1⟩))), (⟨1024000010, g⟩, (keyT 0 (St.env S 2))), (⟨1024000011, g⟩, (keyT 0 (St.env S 5))), (⟨1024000012, g⟩, (keyT 0 (St.env S 8))), (⟨1024000013, g⟩, (keyT 0 (St.env S 9)))]) fun g S => []) fun g => ?_
     refine swp_seq ?_
     refine seq_reg rfl (fun K hK => ?_)
     simp -implicitDefEqProofs +decide only [go_sem, Nat.reduceAdd, Int.reduceToNat, hb4]
     refine hK _ ?_
     refine bsplit h (fun hb10 h => ?_) (fun hb10 h => ?_)
     ·refine cond_t (by simp -implicitDefEqProofs +decide only [go_sem, hb4, hb10]) ?_
      refine swp_ret ?_
      with_reducible repeat first|apply nn|apply nb|apply nr|apply nc|apply ne|apply nq|apply nx rfl
      obtain rfl := some_eq h
      simp -implicitDefEqProofs +decide only [go_sem, Nat.reduceAdd, Int.reduceToNat]
      all_goals first | done | trivial | assumption | (simp [maps]; done) | (simp [maps, hb4, hb10]; done)
     ·refine cond_f (by simp -implicitDefEqProofs +decide only [go_sem, hb4, hb10]) ?_
      refine swp_skip ?_
      with_reducible repeat first|apply nn|apply nb|apply nr|apply nc|apply ne|apply nq|apply nx rfl
      refine seq_drw rfl (fun K hK => ?_)
      refine psplit h (fun hp11 h => ?_)
      have qhp11 : 3 + ((a2.length : Int) - 3).toNat ≤ a2.length := by omega
      simp -implicitDefEqProofs +decide only [go_sem, Nat.reduceAdd, Int.reduceToNat, hp11, hb4, hb10, qhp11]
      refine draw_go (by kernel_rfl) ?_
      refine hK _ ?_
      refine seq_drw rfl (fun K hK => ?_)
      refine bind_of h (fun e12 he12 h => ?_)
      obtain ⟨he12_0, he12_1, he12_2⟩ := idx_some he12
      replace he12_2 : (a2)[2]? = some e12 := he12_2
      refine bind_of h (fun v13 hv13 h => ?_)
      simp -implicitDefEqProofs +decide only [go_sem, Nat.reduceAdd, Int.reduceToNat, he12_0, he12_1, he12_2, hb4, hb10, qhp11]
      refine call_go [0] false (pointer_At_ok ⟨G.glob, fun k => if k = (⟨1024 * 3 + 1, 2 * 3⟩ : Key) then some (a3.map r_i64).length else none⟩ hG0 _ _ hv13) ?_
      refine psplit h (fun hp14 h => ?_)
      have qhp14 : 3 ≤ a2.length := by omega
      simp -implicitDefEqProofs +decide only [go_sem, Nat.reduceAdd, Int.reduceToNat, hp14, hb4, hb10, qhp11, qhp14]
      refine draw_go (by kernel_rfl) ?_
      refine hK _ ?_
      refine seq_reg rfl (fun K hK => ?_)
      simp -implicitDefEqProofs +decide only [go_sem, Nat.reduceAdd, Int.reduceToNat, hb4, hb10, qhp11, qhp14]
      refine hK _ ?_
      refine swp_drw rfl (fun K hK => ?_)
      refine bind_of h (fun v15 hv15 h => ?_)
      simp -implicitDefEqProofs +decide only [go_sem, Nat.reduceAdd, Int.reduceToNat, hb4, hb10, qhp11, qhp14]
      refine call_go [0, 0] false (btree_Node_fill_ok ⟨G.glob, fun k => if k = (⟨1024 * 3 + 1, 2 * 3⟩ : Key) then some (a3.map r_i64).length else none⟩ hG0 _ _ _ hv15) ?_
      refine bind_of h (fun v16 hv16 h => ?_)
      simp -implicitDefEqProofs +decide only [go_sem, Nat.reduceAdd, Int.reduceToNat, hb4, hb10, qhp11, qhp14]
      refine call_go [0, 0] false (btree_Node_fill_ok ⟨G.glob, fun k => if k = (⟨1024 * 3 + 1, 2 * 3⟩ : Key) then some (a3.map r_i64).length else none⟩ hG0 _ _ _ hv16) ?_
      refine bind_of h (fun v17 hv17 h => ?_)
      simp -implicitDefEqProofs +decide only [go_sem, Nat.reduceAdd, Int.reduceToNat, hb4, hb10, qhp11, qhp14]
      refine call_go [0, 1, 1] true (btree_run_done_ok ⟨G.glob, fun k => if k = (⟨1024 * 3 + 1, 2 * 3⟩ : Key) then some (a3.map r_i64).length else none⟩ hG0 _ _ _ _ hv17) ?_
      simp -implicitDefEqProofs +decide only [go_sem, Nat.reduceAdd, Int.reduceToNat, hb4, hb10, qhp11, qhp14]
      refine draw_go (by kernel_rfl) ?_
      refine hK _ ?_
      with_reducible repeat first|apply nn|apply nb|apply nr|apply nc|apply ne|apply nq|apply nx rfl
      obtain rfl := some_eq h
      simp -implicitDefEqProofs +decide only [go_sem, Nat.reduceAdd, Int.reduceToNat]
      all_goals first | done | trivial | assumption | (simp [maps]; done) | (simp [maps, hb4, hb10, qhp11, qhp14]; done)
  · obtain ⟨m, rfl⟩ : ∃ m, c = a3.length + (m + 1) := ⟨c - a3.length - 1, by simp only [List.length_map] at hc; omega⟩
    refine spec_of Tryz.mixed Tryz.func88 rfl rfl (by simp only [List.cons_append, List.nil_append, List.length]; decide +kernel) ?_
    refine swp_fresh (fun g => stL [(0, (.c (.ptr ⟨0, 1⟩ 0 0))), (1, (.agg (b_2ism a1))), (2, (.c (.ref ⟨1024000005, g⟩ 0 a2.length))), (3, (.c (.ref ⟨3073, 6⟩ 0 a3.length)))] [(⟨0, 1⟩, .box true (b_1wfs a0 ⟨1024000001, g⟩ ⟨1024000002, g⟩ ⟨1024000003, g⟩ ⟨1024000004, g⟩)), (⟨1024000001, g⟩, .arr true 1 (a0.Need.map r_i64)), (⟨1024000002, g⟩, .arr true 9 (a0.Writes.map r_api_Page)), (⟨1024000003, g⟩, .arr true 3 (a0.Out.Entries.map r_hashindex_Entry)), (⟨1024000004, g⟩, .arr true 1 (a0.Out.Check.map r_i64)), (⟨1024000005, g⟩, .arr true 3 (a2.map r_hashindex_Entry)), (⟨3073, 6⟩, .arr true 1 (a3.map r_i64 ++ ((List.replicate 1 PV.any) :: (List.replicate m (List.replicate 1 PV.any)))))] (g + 1)) (ren_go (fun g S => [(⟨1024000001, g⟩, (keyB 9 (St.heap S ⟨0, 1⟩))), (⟨1024000002, g⟩, (keyB 10 (St.heap S ⟨0, 1⟩))), (⟨1024000003, g⟩, (keyB 20 (St.heap S ⟨0, 1⟩))), (⟨1024000004, g⟩, (keyB 21 (St.heap S ⟨0, 1⟩))), (⟨1024000005, g⟩, (keyT 0 (St.env S 2)))]) fun g S => []) fun g => ?_
    refine seq_reg rfl (fun K hK => ?_)
    simp -implicitDefEqProofs +decide only [go_sem, Nat.reduceAdd, Int.reduceToNat]
    refine hK _ ?_
    refine seq_reg rfl (fun K hK => ?_)
    simp -implicitDefEqProofs +decide only [go_sem, Nat.reduceAdd, Int.reduceToNat]
    refine hK _ ?_
    refine seq_reg rfl (fun K hK => ?_)
    simp -implicitDefEqProofs +decide only [go_sem, Nat.reduceAdd, Int.reduceToNat]
    refine hK _ ?_
    refine swp_seq ?_
    refine seq_reg rfl (fun K hK => ?_)
    simp -implicitDefEqProofs +decide only [go_sem, Nat.reduceAdd, Int.reduceToNat]
    refine hK _ ?_
    refine bsplit h (fun hb4 h => ?_) (fun hb4 h => ?_)
    ·refine cond_t (by simp -implicitDefEqProofs +decide only [go_sem, hb4]) ?_
     refine seq_reg rfl (fun K hK => ?_)
     refine bind_of h (fun v5 hv5 h => ?_)
     simp -implicitDefEqProofs +decide only [go_sem, Nat.reduceAdd, Int.reduceToNat, hb4]
     refine call_go [0, 0] false (btree_Node_fill_ok (cG G) hG0 _ _ _ hv5) ?_
     refine bind_of h (fun v6 hv6 h => ?_)
     simp -implicitDefEqProofs +decide only [go_sem, Nat.reduceAdd, Int.reduceToNat, hb4]
     refine call_go [0, 1, 1] true (btree_run_done_ok (cG G) hG0 _ _ _ _ hv6) ?_
     simp -implicitDefEqProofs +decide only [go_sem, Nat.reduceAdd, Int.reduceToNat, hb4]
     refine hK _ ?_
     refine swp_ret ?_
     with_reducible repeat first|apply nn|apply nb|apply nr|apply nc|apply ne|apply nq|apply nx rfl
     obtain rfl := some_eq h
     simp -implicitDefEqProofs +decide only [go_sem, Nat.reduceAdd, Int.reduceToNat]
     all_goals first | done | trivial | assumption | (simp [maps]; done) | (simp [maps, hb4]; done)
    ·refine cond_f (by simp -implicitDefEqProofs +decide only [go_sem, hb4]) ?_
     refine swp_skip ?_
     with_reducible repeat first|apply nn|apply nb|apply nr|apply nc|apply ne|apply nq|apply nx rfl
     refine seq_reg rfl (fun K hK => ?_)
     refine psplit h (fun hp7 h => ?_)
     simp -implicitDefEqProofs +decide only [go_sem, Nat.reduceAdd, Int.reduceToNat, hp7, hb4]
     refine opt_eq appendRef_in ?_
     refine bind_of h (fun v8 hv8 h => ?_)
     simp -implicitDefEqProofs +decide only [go_sem, Nat.reduceAdd, Int.reduceToNat, hb4]
     refine call_go [0, 2] true (btree_run_fresh_v2_ok (cG G) hG0 _ _ _ hv8) ?_
     simp -implicitDefEqProofs +decide only [go_sem, Nat.reduceAdd, Int.reduceToNat, hb4]
     refine hK _ ?_
     refine swp_fresh (fun g => stL [(0, (.c (.ptr ⟨0, 1⟩ 0 0))), (2, (.c (.ref ⟨1024000010, g⟩ 0 a2.length))), (3, (.c (.ref ⟨3073, 6⟩ 0 a3.length))), (5, (.c (.ptr ⟨1024000011, g⟩ 0 0))), (8, (.c (.ptr ⟨1024000012, g⟩ 0 0))), (9, (.c (.ptr ⟨1024000013, g⟩ 0 0))), (10, (.c (.p (.bool v8.2.1))))] [(⟨0, 1⟩, .box true (b_1wfs v8.2.2 ⟨1024000006, g⟩ ⟨1024000007, g⟩ ⟨1024000008, g⟩ ⟨1024000009, g⟩)), (⟨1024000006, g⟩, .arr true 1 (v8.2.2.Need.map r_i64)), (⟨1024000007, g⟩, .arr true 9 (v8.2.2.Writes.map r_api_Page)), (⟨1024000008, g⟩, .arr true 3 (v8.2.2.Out.Entries.map r_hashindex_Entry)), (⟨1024000009, g⟩, .arr true 1 (v8.2.2.Out.Check.map r_i64)), (⟨1024000010, g⟩, .arr true 3 (a2.map r_hashindex_Entry)), (⟨3073, 6⟩, .arr true 1 ((a3 ++ ([a1.Page.Line] : List Int)).map r_i64)), (⟨1024000011, g⟩, .box true (b_2ism a1)), (⟨1024000012, g⟩, .box true [(.p (.int .i64 a1.Node.Level)), (.p (.bool a1.Node.Leftmost)), (.p (.bool a1.Node.Dead)), (.p (.int .u32 a1.Node.High)), (.p (.int .i64 a1.Node.Right.Line)), (.p (.int .i64 a1.Node.Right.Gen)), (.ref ⟨1024000010, g⟩ 0 a2.length)]), (⟨1024000013, g⟩, .box true (b_mq86 v8.1))] (g + 1)) (ren_go (fun g S => [(⟨1024000006, g⟩, (keyB 9 (St.heap S ⟨0, 1⟩))), (⟨1024000007, g⟩, (keyB 10 (St.heap S ⟨0, 1⟩))), (⟨1024000008, g⟩, (keyB 20 (St.heap S ⟨0, 1⟩))), (⟨1024000009, g⟩, (keyB 21 (St.heap S ⟨0, 1⟩))), (⟨1024000010, g⟩, (keyT 0 (St.env S 2))), (⟨1024000011, g⟩, (keyT 0 (St.env S 5))), (⟨1024000012, g⟩, (keyT 0 (St.env S 8))), (⟨1024000013, g⟩, (keyT 0 (St.env S 9)))]) fun g S => []) fun g => ?_
     refine swp_seq ?_
     refine seq_reg rfl (fun K hK => ?_)
     simp -implicitDefEqProofs +decide only [go_sem, Nat.reduceAdd, Int.reduceToNat, hb4]
     refine hK _ ?_
     refine bsplit h (fun hb10 h => ?_) (fun hb10 h => ?_)
     ·refine cond_t (by simp -implicitDefEqProofs +decide only [go_sem, hb4, hb10]) ?_
      refine swp_ret ?_
      with_reducible repeat first|apply nn|apply nb|apply nr|apply nc|apply ne|apply nq|apply nx rfl
      obtain rfl := some_eq h
      simp -implicitDefEqProofs +decide only [go_sem, Nat.reduceAdd, Int.reduceToNat]
      all_goals first | done | trivial | assumption | (simp [maps]; done) | (simp [maps, hb4, hb10]; done)
     ·refine cond_f (by simp -implicitDefEqProofs +decide only [go_sem, hb4, hb10]) ?_
      refine swp_skip ?_
      with_reducible repeat first|apply nn|apply nb|apply nr|apply nc|apply ne|apply nq|apply nx rfl
      refine seq_drw rfl (fun K hK => ?_)
      refine psplit h (fun hp11 h => ?_)
      have qhp11 : 3 + ((a2.length : Int) - 3).toNat ≤ a2.length := by omega
      simp -implicitDefEqProofs +decide only [go_sem, Nat.reduceAdd, Int.reduceToNat, hp11, hb4, hb10, qhp11]
      refine draw_go (by kernel_rfl) ?_
      refine hK _ ?_
      refine seq_drw rfl (fun K hK => ?_)
      refine bind_of h (fun e12 he12 h => ?_)
      obtain ⟨he12_0, he12_1, he12_2⟩ := idx_some he12
      replace he12_2 : (a2)[2]? = some e12 := he12_2
      refine bind_of h (fun v13 hv13 h => ?_)
      simp -implicitDefEqProofs +decide only [go_sem, Nat.reduceAdd, Int.reduceToNat, he12_0, he12_1, he12_2, hb4, hb10, qhp11]
      refine call_go [0] false (pointer_At_ok (cG G) hG0 _ _ hv13) ?_
      refine psplit h (fun hp14 h => ?_)
      have qhp14 : 3 ≤ a2.length := by omega
      simp -implicitDefEqProofs +decide only [go_sem, Nat.reduceAdd, Int.reduceToNat, hp14, hb4, hb10, qhp11, qhp14]
      refine draw_go (by kernel_rfl) ?_
      refine hK _ ?_
      refine seq_reg rfl (fun K hK => ?_)
      simp -implicitDefEqProofs +decide only [go_sem, Nat.reduceAdd, Int.reduceToNat, hb4, hb10, qhp11, qhp14]
      refine hK _ ?_
      refine swp_drw rfl (fun K hK => ?_)
      refine bind_of h (fun v15 hv15 h => ?_)
      simp -implicitDefEqProofs +decide only [go_sem, Nat.reduceAdd, Int.reduceToNat, hb4, hb10, qhp11, qhp14]
      refine call_go [0, 0] false (btree_Node_fill_ok (cG G) hG0 _ _ _ hv15) ?_
      refine bind_of h (fun v16 hv16 h => ?_)
      simp -implicitDefEqProofs +decide only [go_sem, Nat.reduceAdd, Int.reduceToNat, hb4, hb10, qhp11, qhp14]
      refine call_go [0, 0] false (btree_Node_fill_ok (cG G) hG0 _ _ _ hv16) ?_
      refine bind_of h (fun v17 hv17 h => ?_)
      simp -implicitDefEqProofs +decide only [go_sem, Nat.reduceAdd, Int.reduceToNat, hb4, hb10, qhp11, qhp14]
      refine call_go [0, 1, 1] true (btree_run_done_ok (cG G) hG0 _ _ _ _ hv17) ?_
      simp -implicitDefEqProofs +decide only [go_sem, Nat.reduceAdd, Int.reduceToNat, hb4, hb10, qhp11, qhp14]
      refine draw_go (by kernel_rfl) ?_
      refine hK _ ?_
      with_reducible repeat first|apply nn|apply nb|apply nr|apply nc|apply ne|apply nq|apply nx rfl
      obtain rfl := some_eq h
      simp -implicitDefEqProofs +decide only [go_sem, Nat.reduceAdd, Int.reduceToNat]
      all_goals first | done | trivial | assumption | (simp [maps]; done) | (simp [maps, hb4, hb10, qhp11, qhp14]; done)
end Go.Sh
end
section
namespace Go.Sh
open Go.Proofs
noncomputable def slices_Insert (a0 : (List hashindex_Entry)) (a1 : Int) (a2 : (List hashindex_Entry)) : Option (List hashindex_Entry) :=
  if 0 ≤ a1 ∧ a1 ≤ (a0.length : Int) then
    if ((a2.length : Int) == 0) = true then
      some a0
    else
      if (a1 == (a0.length : Int)) = true then
        if (a0.length + a2.length) * 24 ≤ maxRows ∧ a0.length + a2.length ≤ maxRows then
          some (a0 ++ a2)
        else none
      else
        none
  else none
theorem slices_Insert_ok (G : Glob) (hG0 : G.glob 0 = some [(.int .i64 0), (.int .i64 0)]) (a0 : (List hashindex_Entry)) (a1 : Int) (a2 : (List hashindex_Entry)) (res : (List hashindex_Entry)) (h : slices_Insert a0 a1 a2 = some res) : Spec Tryz.prog G 89 [.cell (.own 3 (a0.map r_hashindex_Entry)), .cell (.p (.int .i64 a1)), .cell (.p (.rows (a2.map r_hashindex_Entry)))] (fun r ios => r = .cell (.own 3 (res.map r_hashindex_Entry)) ∧ ios = []) := by
  rw [slices_Insert] at h
  refine spec_of Tryz.mixed Tryz.func89 rfl rfl (by simp only [List.length]; decide +kernel) ?_
  refine swp_fresh (fun g => stL [(0, (.c (.ref ⟨1024000001, g⟩ 0 a0.length))), (1, (.c (.p (.int .i64 a1)))), (2, (.c (.p (.rows (a2.map r_hashindex_Entry)))))] [(⟨1024000001, g⟩, .arr true 3 (a0.map r_hashindex_Entry))] (g + 1)) (ren_go (fun g S => [(⟨1024000001, g⟩, (keyT 0 (St.env S 0)))]) fun g S => []) fun g => ?_
  refine seq_reg rfl (fun K hK => ?_)
  simp -implicitDefEqProofs +decide only [go_sem, Nat.reduceAdd, Int.reduceToNat]
  refine hK _ ?_
  refine seq_reg rfl (fun K hK => ?_)
  refine psplit h (fun hp1 h => ?_)
  have qhp1 : a1.toNat + ((a0.length : Int) - a1).toNat ≤ a0.length := by omega
  simp -implicitDefEqProofs +decide only [go_sem, Nat.reduceAdd, Int.reduceToNat, hp1, qhp1]
  refine hK _ ?_
  refine seq_reg rfl (fun K hK => ?_)
  simp -implicitDefEqProofs +decide only [go_sem, Nat.reduceAdd, Int.reduceToNat, qhp1]
  refine hK _ ?_
  refine swp_seq ?_
  refine seq_reg rfl (fun K hK => ?_)
  simp -implicitDefEqProofs +decide only [go_sem, Nat.reduceAdd, Int.reduceToNat, qhp1]
  refine hK _ ?_
  refine bsplit h (fun hb3 h => ?_) (fun hb3 h => ?_)
  ·refine cond_t (by simp -implicitDefEqProofs +decide only [go_sem, qhp1, hb3]) ?_
   refine seq_reg rfl (fun K hK => ?_)
   simp -implicitDefEqProofs +decide only [go_sem, Nat.reduceAdd, Int.reduceToNat, qhp1, hb3]
   refine hK _ ?_
   refine swp_ret ?_
   with_reducible repeat first|apply nn|apply nb|apply nr|apply nc|apply ne|apply nq|apply nx rfl
   obtain rfl := some_eq h
   simp -implicitDefEqProofs +decide only [go_sem, Nat.reduceAdd, Int.reduceToNat]
   all_goals first | done | trivial | assumption | (simp [maps]; done) | (simp [maps, qhp1, hb3]; done)
  ·refine cond_f (by simp -implicitDefEqProofs +decide only [go_sem, qhp1, hb3]) ?_
   refine swp_skip ?_
   with_reducible repeat first|apply nn|apply nb|apply nr|apply nc|apply ne|apply nq|apply nx rfl
   refine seq_reg rfl (fun K hK => ?_)
   simp -implicitDefEqProofs +decide only [go_sem, Nat.reduceAdd, Int.reduceToNat, qhp1, hb3]
   refine hK _ ?_
   refine swp_seq ?_
   refine seq_reg rfl (fun K hK => ?_)
   simp -implicitDefEqProofs +decide only [go_sem, Nat.reduceAdd, Int.reduceToNat, qhp1, hb3]
   refine hK _ ?_
   refine bsplit h (fun hb6 h => ?_) (fun hb6 h => ?_)
   ·refine cond_t (by simp -implicitDefEqProofs +decide only [go_sem, qhp1, hb3, hb6]) ?_
    refine seq_reg rfl (fun K hK => ?_)
    refine psplit h (fun hp7 h => ?_)
    simp -implicitDefEqProofs +decide only [go_sem, Nat.reduceAdd, Int.reduceToNat, qhp1, hb3, hb6]
    first | refine opt_eq (appendRef_n (by simp) (by simpa [maps] using hp7)) ?_ | refine opt_eq (if_pos (by simpa [maps] using hp7)) ?_
    simp -implicitDefEqProofs +decide only [go_sem, Nat.reduceAdd, Int.reduceToNat, qhp1, hb3, hb6]
    refine hK _ ?_
    refine swp_fresh (fun g => stL [(6, (.c (.ref ⟨1024000002, g⟩ 0 (a0 ++ a2).length)))] [(⟨1024000002, g⟩, .arr true 3 ((a0 ++ a2).map r_hashindex_Entry))] (g + 1)) (ren_go (fun g S => [(⟨1024000002, g⟩, (keyT 0 (St.env S 6)))]) fun g S => []) fun g => ?_
    refine swp_ret ?_
    with_reducible repeat first|apply nn|apply nb|apply nr|apply nc|apply ne|apply nq|apply nx rfl
    obtain rfl := some_eq h
    simp -implicitDefEqProofs +decide only [go_sem, Nat.reduceAdd, Int.reduceToNat]
    all_goals first | done | trivial | assumption | (simp [maps]; done) | (simp [maps, qhp1, hb3, hb6]; done)
   ·cases h
end Go.Sh
end
section
namespace Go.Sh
open Go.Proofs
noncomputable def btree_run_insert (a0 : btree_run) : Option btree_run :=
  if ((a0.Root.Line == 0) && (a0.Root.Gen == 0)) = true then
    (btree_run_plant a0 (⟨a0.Op.Key, a0.Op.To⟩ : hashindex_Entry)).bind fun v4 =>
    some v4
  else
    (btree_run_leaf a0).bind fun v5 =>
    if (!v5.2.1) = true then
      some v5.2.2
    else
      (btree_Node_search v5.1.Node v5.2.2.Op.Key).bind fun v8 =>
      if v8.2 = true then
        (btree_run_fail v5.2.2 17 ([v5.1.Page.Line] : List Int)).bind fun v12 =>
        some v12.2
      else
        (slices_Insert v5.1.Node.Entries v8.1 ([(⟨a0.Op.Key, a0.Op.To⟩ : hashindex_Entry)] : List hashindex_Entry)).bind fun v13 =>
        (btree_run_store v5.2.2 (⟨v5.1.Page, (⟨v5.1.Node.Level, v5.1.Node.Leftmost, v5.1.Node.Dead, v5.1.Node.High, v5.1.Node.Right, []⟩ : btree_Node)⟩ : btree_found) v13 ([] : List Int)).bind fun v14 =>
        some v14
theorem btree_run_insert_ok (G : Glob) (hG0 : G.glob 0 = some [(.int .i64 0), (.int .i64 0)]) (a0 : btree_run) (res : btree_run) (h : btree_run_insert a0 = some res) : Spec Tryz.prog G 62 [.io (g_rhlf a0)] (fun r ios => r = .tup [] ∧ ios = [.io (g_rhlf res)]) := by
  rw [btree_run_insert] at h
  refine spec_of Tryz.mixed Tryz.func62 rfl rfl (by simp only [List.length]; decide +kernel) ?_
  refine swp_fresh (fun g => stL [(0, (.c (.ptr ⟨0, 1⟩ 0 0)))] [(⟨0, 1⟩, .box true (b_1wfs a0 ⟨1024000001, g⟩ ⟨1024000002, g⟩ ⟨1024000003, g⟩ ⟨1024000004, g⟩)), (⟨1024000001, g⟩, .arr true 1 (a0.Need.map r_i64)), (⟨1024000002, g⟩, .arr true 9 (a0.Writes.map r_api_Page)), (⟨1024000003, g⟩, .arr true 3 (a0.Out.Entries.map r_hashindex_Entry)), (⟨1024000004, g⟩, .arr true 1 (a0.Out.Check.map r_i64))] (g + 1)) (ren_go (fun g S => [(⟨1024000001, g⟩, (keyB 9 (St.heap S ⟨0, 1⟩))), (⟨1024000002, g⟩, (keyB 10 (St.heap S ⟨0, 1⟩))), (⟨1024000003, g⟩, (keyB 20 (St.heap S ⟨0, 1⟩))), (⟨1024000004, g⟩, (keyB 21 (St.heap S ⟨0, 1⟩)))]) fun g S => []) fun g => ?_
  refine seq_drw rfl (fun K hK => ?_)
  simp -implicitDefEqProofs +decide only [go_sem, Nat.reduceAdd, Int.reduceToNat]
  refine draw_go (by kernel_rfl) ?_
  refine hK _ ?_
  refine swp_seq ?_
  refine seq_drw rfl (fun K hK => ?_)
  simp -implicitDefEqProofs +decide only [go_sem, Nat.reduceAdd, Int.reduceToNat, hG0]
  refine draw_go (by kernel_rfl) ?_
  refine hK _ ?_
  refine bsplit h (fun hb3 h => ?_) (fun hb3 h => ?_)
  ·refine cond_t (by simp -implicitDefEqProofs +decide only [go_sem, hb3]) ?_
   refine seq_reg rfl (fun K hK => ?_)
   refine bind_of h (fun v4 hv4 h => ?_)
   simp -implicitDefEqProofs +decide only [go_sem, Nat.reduceAdd, Int.reduceToNat, hb3]
   refine call_go [0, 0] true (btree_run_plant_ok (cG G) hG0 _ _ _ hv4) ?_
   simp -implicitDefEqProofs +decide only [go_sem, Nat.reduceAdd, Int.reduceToNat, hb3]
   refine hK _ ?_
   refine swp_ret ?_
   with_reducible repeat first|apply nn|apply nb|apply nr|apply nc|apply ne|apply nq|apply nx rfl
   obtain rfl := some_eq h
   simp -implicitDefEqProofs +decide only [go_sem, Nat.reduceAdd, Int.reduceToNat]
   all_goals first | done | trivial | assumption | (simp [maps]; done) | (simp [maps, hb3]; done)
  ·refine cond_f (by simp -implicitDefEqProofs +decide only [go_sem, hb3]) ?_
   refine swp_skip ?_
   with_reducible repeat first|apply nn|apply nb|apply nr|apply nc|apply ne|apply nq|apply nx rfl
   refine seq_reg rfl (fun K hK => ?_)
   refine bind_of h (fun v5 hv5 h => ?_)
   simp -implicitDefEqProofs +decide only [go_sem, Nat.reduceAdd, Int.reduceToNat, hb3]
   refine call_go [0] true (btree_run_leaf_ok (cG G) hG0 _ _ hv5) ?_
   simp -implicitDefEqProofs +decide only [go_sem, Nat.reduceAdd, Int.reduceToNat, hb3]
   refine hK _ ?_
   refine swp_seq ?_
   refine seq_reg rfl (fun K hK => ?_)
   simp -implicitDefEqProofs +decide only [go_sem, Nat.reduceAdd, Int.reduceToNat, hb3]
   refine hK _ ?_
   refine bsplit h (fun hb7 h => ?_) (fun hb7 h => ?_)
   ·refine cond_t (by simp -implicitDefEqProofs +decide only [go_sem, hb3, hb7]) ?_
    refine swp_ret ?_
    with_reducible repeat first|apply nn|apply nb|apply nr|apply nc|apply ne|apply nq|apply nx rfl
    obtain rfl := some_eq h
    simp -implicitDefEqProofs +decide only [go_sem, Nat.reduceAdd, Int.reduceToNat]
    all_goals first | done | trivial | assumption | (simp [maps]; done) | (simp [maps, hb3, hb7]; done)
   ·refine cond_f (by simp -implicitDefEqProofs +decide only [go_sem, hb3, hb7]) ?_
    refine swp_skip ?_
    with_reducible repeat first|apply nn|apply nb|apply nr|apply nc|apply ne|apply nq|apply nx rfl
    refine seq_drw rfl (fun K hK => ?_)
    refine bind_of h (fun v8 hv8 h => ?_)
    simp -implicitDefEqProofs +decide only [go_sem, Nat.reduceAdd, Int.reduceToNat, hb3, hb7]
    refine call_go [0, 0] false (btree_Node_search_ok (cG G) hG0 _ _ _ hv8) ?_
    simp -implicitDefEqProofs +decide only [go_sem, Nat.reduceAdd, Int.reduceToNat, hb3, hb7]
    refine draw_go (by kernel_rfl) ?_
    refine hK _ ?_
    refine swp_seq ?_
    refine seq_reg rfl (fun K hK => ?_)
    simp -implicitDefEqProofs +decide only [go_sem, Nat.reduceAdd, Int.reduceToNat, hb3, hb7]
    refine hK _ ?_
    refine bsplit h (fun hb11 h => ?_) (fun hb11 h => ?_)
    ·refine cond_t (by simp -implicitDefEqProofs +decide only [go_sem, hb3, hb7, hb11]) ?_
     refine seq_reg rfl (fun K hK => ?_)
     refine bind_of h (fun v12 hv12 h => ?_)
     simp -implicitDefEqProofs +decide only [go_sem, Nat.reduceAdd, Int.reduceToNat, hb3, hb7, hb11]
     refine call_go [0, 0, 1] true (btree_run_fail_ok (cG G) hG0 _ _ _ _ hv12) ?_
     simp -implicitDefEqProofs +decide only [go_sem, Nat.reduceAdd, Int.reduceToNat, hb3, hb7, hb11]
     refine hK _ ?_
     refine swp_ret ?_
     with_reducible repeat first|apply nn|apply nb|apply nr|apply nc|apply ne|apply nq|apply nx rfl
     obtain rfl := some_eq h
     simp -implicitDefEqProofs +decide only [go_sem, Nat.reduceAdd, Int.reduceToNat]
     all_goals first | done | trivial | assumption | (simp [maps]; done) | (simp [maps, hb3, hb7, hb11]; done)
    ·refine cond_f (by simp -implicitDefEqProofs +decide only [go_sem, hb3, hb7, hb11]) ?_
     refine swp_skip ?_
     with_reducible repeat first|apply nn|apply nb|apply nr|apply nc|apply ne|apply nq|apply nx rfl
     refine swp_drw rfl (fun K hK => ?_)
     refine bind_of h (fun v13 hv13 h => ?_)
     simp -implicitDefEqProofs +decide only [go_sem, Nat.reduceAdd, Int.reduceToNat, hb3, hb7, hb11]
     refine call_go [1, 0, 0] false (slices_Insert_ok (cG G) hG0 _ _ _ _ hv13) ?_
     refine bind_of h (fun v14 hv14 h => ?_)
     simp -implicitDefEqProofs +decide only [go_sem, Nat.reduceAdd, Int.reduceToNat, hb3, hb7, hb11]
     refine call_nil [0, 3, 1, 1] true (btree_run_store_ok (cG G) hG0 _ _ _ _ _ hv14) ?_
     simp -implicitDefEqProofs +decide only [go_sem, Nat.reduceAdd, Int.reduceToNat, hb3, hb7, hb11]
     refine draw_go (by kernel_rfl) ?_
     refine hK _ ?_
     with_reducible repeat first|apply nn|apply nb|apply nr|apply nc|apply ne|apply nq|apply nx rfl
     obtain rfl := some_eq h
     simp -implicitDefEqProofs +decide only [go_sem, Nat.reduceAdd, Int.reduceToNat]
     all_goals first | done | trivial | assumption | (simp [maps]; done) | (simp [maps, hb3, hb7, hb11]; done)
end Go.Sh
end
section
namespace Go.Sh
open Go.Proofs
noncomputable def pointer_Open (a0 : (List api_Page)) (a1 : pointer_Pointer) (a2 : Int) : Option (api_Page × Bool × Int) :=
  (pointer_lookup a0 a1 a2 true).bind fun v1 =>
  some (v1.1, v1.2.1, v1.2.2)
theorem pointer_Open_ok (G : Glob) (hG0 : G.glob 0 = some [(.int .i64 0), (.int .i64 0)]) (a0 : (List api_Page)) (a1 : pointer_Pointer) (a2 : Int) (res : (api_Page × Bool × Int)) (h : pointer_Open a0 a1 a2 = some res) : Spec Tryz.prog G 37 [.cell (.p (.rows (a0.map r_api_Page))), .agg [.p (.int .i64 a1.Line), .p (.int .i64 a1.Gen)], .cell (.p (.int .i64 a2))] (fun r ios => r = .tup [.agg (g_yylp res.1), .cell (.p (.bool res.2.1)), .cell (.p (.int .i64 res.2.2))] ∧ ios = []) := by
  rw [pointer_Open] at h
  refine spec_of Tryz.mixed Tryz.func37 rfl rfl (by simp only [List.length]; decide +kernel) ?_
  refine swp_fresh (fun g => stL [(0, (.c (.p (.rows (a0.map r_api_Page))))), (1, (.agg [(.p (.int .i64 a1.Line)), (.p (.int .i64 a1.Gen))])), (2, (.c (.p (.int .i64 a2))))] [] (g + 1)) (ren_go (fun g S => []) fun g S => []) fun g => ?_
  refine seq_reg rfl (fun K hK => ?_)
  simp -implicitDefEqProofs +decide only [go_sem, Nat.reduceAdd, Int.reduceToNat]
  refine hK _ ?_
  refine seq_reg rfl (fun K hK => ?_)
  refine bind_of h (fun v1 hv1 h => ?_)
  simp -implicitDefEqProofs +decide only [go_sem, Nat.reduceAdd, Int.reduceToNat]
  refine call_go [0, 0, 0, 0] false (pointer_lookup_ok (cG G) hG0 _ _ _ _ _ hv1) ?_
  simp -implicitDefEqProofs +decide only [go_sem, Nat.reduceAdd, Int.reduceToNat]
  refine hK _ ?_
  refine swp_ret ?_
  with_reducible repeat first|apply nn|apply nb|apply nr|apply nc|apply ne|apply nq|apply nx rfl
  obtain rfl := some_eq h
  simp -implicitDefEqProofs +decide only [go_sem, Nat.reduceAdd, Int.reduceToNat]
  all_goals first | done | trivial | assumption | (simp [maps]; done) | (simp [maps]; done)
end Go.Sh
end
section
namespace Go.Sh
open Go.Proofs
noncomputable def btree_run_look_v2 (a0 : btree_run) (a1 : pointer_Pointer) : Option (btree_found × Bool × btree_run) :=
  (pointer_Open a0.Known a1 4).bind fun v1 =>
  if (v1.2.2 != 0) = true then
    (btree_run_fail a0 v1.2.2 ([] : List Int)).bind fun v5 =>
    some ((⟨(⟨0, 0, (⟨0, 0, 0, 0, 0, 0, 0⟩ : (A7 Int))⟩ : api_Page), (⟨0, false, false, 0, (⟨0, 0⟩ : pointer_Pointer), ([] : List hashindex_Entry)⟩ : btree_Node)⟩ : btree_found), v5.1, v5.2)
  else
    if (!v1.2.1) = true then
      (btree_run_wait a0 a1.Line).bind fun v9 =>
      some ((⟨(⟨0, 0, (⟨0, 0, 0, 0, 0, 0, 0⟩ : (A7 Int))⟩ : api_Page), (⟨0, false, false, 0, (⟨0, 0⟩ : pointer_Pointer), ([] : List hashindex_Entry)⟩ : btree_Node)⟩ : btree_found), v9.1, v9.2)
    else
      (btree_ReadNode v1.1).bind fun v10 =>
      if (v10.2 != 0) = true then
        (btree_run_fail a0 v10.2 ([] : List Int)).bind fun v14 =>
        some ((⟨(⟨0, 0, (⟨0, 0, 0, 0, 0, 0, 0⟩ : (A7 Int))⟩ : api_Page), (⟨0, false, false, 0, (⟨0, 0⟩ : pointer_Pointer), ([] : List hashindex_Entry)⟩ : btree_Node)⟩ : btree_found), v14.1, v14.2)
      else
        some ((⟨v1.1, v10.1⟩ : btree_found), true, a0)
theorem btree_run_look_v2_ok (G : Glob) (hG0 : G.glob 0 = some [(.int .i64 0), (.int .i64 0)]) (a0 : btree_run) (a1 : pointer_Pointer) (res : (btree_found × Bool × btree_run)) (h : btree_run_look_v2 a0 a1 = some res) : Spec Tryz.prog G 94 [.io (g_rhlf a0), .agg [.p (.int .i64 a1.Line), .p (.int .i64 a1.Gen)], .cell (.p (.clo 37 []))] (fun r ios => r = .tup [.agg (g_ggvz res.1), .cell (.p (.bool res.2.1))] ∧ ios = [.io (g_rhlf res.2.2)]) := by
  rw [btree_run_look_v2] at h
  refine spec_of Tryz.mixed Tryz.func94 rfl rfl (by simp only [List.length]; decide +kernel) ?_
  refine swp_fresh (fun g => stL [(0, (.c (.ptr ⟨0, 1⟩ 0 0))), (1, (.agg [(.p (.int .i64 a1.Line)), (.p (.int .i64 a1.Gen))])), (2, (.c (.p (.clo 37 []))))] [(⟨0, 1⟩, .box true (b_1wfs a0 ⟨1024000001, g⟩ ⟨1024000002, g⟩ ⟨1024000003, g⟩ ⟨1024000004, g⟩)), (⟨1024000001, g⟩, .arr true 1 (a0.Need.map r_i64)), (⟨1024000002, g⟩, .arr true 9 (a0.Writes.map r_api_Page)), (⟨1024000003, g⟩, .arr true 3 (a0.Out.Entries.map r_hashindex_Entry)), (⟨1024000004, g⟩, .arr true 1 (a0.Out.Check.map r_i64))] (g + 1)) (ren_go (fun g S => [(⟨1024000001, g⟩, (keyB 9 (St.heap S ⟨0, 1⟩))), (⟨1024000002, g⟩, (keyB 10 (St.heap S ⟨0, 1⟩))), (⟨1024000003, g⟩, (keyB 20 (St.heap S ⟨0, 1⟩))), (⟨1024000004, g⟩, (keyB 21 (St.heap S ⟨0, 1⟩)))]) fun g S => []) fun g => ?_
  refine seq_reg rfl (fun K hK => ?_)
  simp -implicitDefEqProofs +decide only [go_sem, Nat.reduceAdd, Int.reduceToNat]
  refine hK _ ?_
  refine seq_drw rfl (fun K hK => ?_)
  refine bind_of h (fun v1 hv1 h => ?_)
  simp -implicitDefEqProofs +decide only [go_sem, Nat.reduceAdd, Int.reduceToNat]
  refine call_go [0, 0, 0] false (pointer_Open_ok (cG G) hG0 _ _ _ _ hv1) ?_
  simp -implicitDefEqProofs +decide only [go_sem, Nat.reduceAdd, Int.reduceToNat]
  refine draw_go (by kernel_rfl) ?_
  refine hK _ ?_
  refine swp_seq ?_
  refine seq_reg rfl (fun K hK => ?_)
  simp -implicitDefEqProofs +decide only [go_sem, Nat.reduceAdd, Int.reduceToNat]
  refine hK _ ?_
  refine bsplit h (fun hb4 h => ?_) (fun hb4 h => ?_)
  ·refine cond_t (by simp -implicitDefEqProofs +decide only [go_sem, hb4]) ?_
   refine seq_reg rfl (fun K hK => ?_)
   refine bind_of h (fun v5 hv5 h => ?_)
   simp -implicitDefEqProofs +decide only [go_sem, Nat.reduceAdd, Int.reduceToNat, hb4]
   refine call_nil [0, 0, 1] true (btree_run_fail_ok (cG G) hG0 _ _ _ _ hv5) ?_
   simp -implicitDefEqProofs +decide only [go_sem, Nat.reduceAdd, Int.reduceToNat, hb4]
   refine hK _ ?_
   refine swp_fresh (fun g => stL [(6, (.c (.ptr ⟨1024000005, g⟩ 0 0))), (7, (.c (.p (.bool v5.1))))] [(⟨1024000005, g⟩, .box true [(.p (.int .i64 0)), (.p (.int .u64 0)), (.p (.int .u64 0)), (.p (.int .u64 0)), (.p (.int .u64 0)), (.p (.int .u64 0)), (.p (.int .u64 0)), (.p (.int .u64 0)), (.p (.int .u64 0)), (.p (.int .i64 0)), (.p (.bool false)), (.p (.bool false)), (.p (.int .u32 0)), (.p (.int .i64 0)), (.p (.int .i64 0)), (.ref ⟨1024000006, g⟩ 0 ([] : List hashindex_Entry).length)]), (⟨1024000006, g⟩, .arr true 3 (([] : List hashindex_Entry).map r_hashindex_Entry)), (⟨0, 1⟩, .box true (b_1wfs v5.2 ⟨1024000007, g⟩ ⟨1024000008, g⟩ ⟨1024000009, g⟩ ⟨1024000010, g⟩)), (⟨1024000007, g⟩, .arr true 1 (v5.2.Need.map r_i64)), (⟨1024000008, g⟩, .arr true 9 (v5.2.Writes.map r_api_Page)), (⟨1024000009, g⟩, .arr true 3 (v5.2.Out.Entries.map r_hashindex_Entry)), (⟨1024000010, g⟩, .arr true 1 (v5.2.Out.Check.map r_i64))] (g + 1)) (ren_go (fun g S => [(⟨1024000005, g⟩, (keyT 0 (St.env S 6))), (⟨1024000007, g⟩, (keyB 9 (St.heap S ⟨0, 1⟩))), (⟨1024000008, g⟩, (keyB 10 (St.heap S ⟨0, 1⟩))), (⟨1024000009, g⟩, (keyB 20 (St.heap S ⟨0, 1⟩))), (⟨1024000010, g⟩, (keyB 21 (St.heap S ⟨0, 1⟩)))]) fun g S => [(⟨1024000006, g⟩, 3)]) fun g => ?_
   refine swp_ret ?_
   with_reducible repeat first|apply nn|apply nb|apply nr|apply nc|apply ne|apply nq|apply nx rfl
   obtain rfl := some_eq h
   simp -implicitDefEqProofs +decide only [go_sem, Nat.reduceAdd, Int.reduceToNat]
   all_goals first | done | trivial | assumption | (simp [maps]; done) | (simp [maps, hb4]; done)
  ·refine cond_f (by simp -implicitDefEqProofs +decide only [go_sem, hb4]) ?_
   refine swp_skip ?_
   with_reducible repeat first|apply nn|apply nb|apply nr|apply nc|apply ne|apply nq|apply nx rfl
   refine swp_seq ?_
   refine seq_reg rfl (fun K hK => ?_)
   simp -implicitDefEqProofs +decide only [go_sem, Nat.reduceAdd, Int.reduceToNat, hb4]
   refine hK _ ?_
   refine bsplit h (fun hb8 h => ?_) (fun hb8 h => ?_)
   ·refine cond_t (by simp -implicitDefEqProofs +decide only [go_sem, hb4, hb8]) ?_
    refine seq_reg rfl (fun K hK => ?_)
    refine bind_of h (fun v9 hv9 h => ?_)
    simp -implicitDefEqProofs +decide only [go_sem, Nat.reduceAdd, Int.reduceToNat, hb4, hb8]
    refine call_go [0, 0] true (btree_run_wait_ok (cG G) hG0 _ _ _ hv9) ?_
    simp -implicitDefEqProofs +decide only [go_sem, Nat.reduceAdd, Int.reduceToNat, hb4, hb8]
    refine hK _ ?_
    refine swp_fresh (fun g => stL [(6, (.c (.ptr ⟨1024000011, g⟩ 0 0))), (7, (.c (.p (.bool v9.1))))] [(⟨1024000011, g⟩, .box true [(.p (.int .i64 0)), (.p (.int .u64 0)), (.p (.int .u64 0)), (.p (.int .u64 0)), (.p (.int .u64 0)), (.p (.int .u64 0)), (.p (.int .u64 0)), (.p (.int .u64 0)), (.p (.int .u64 0)), (.p (.int .i64 0)), (.p (.bool false)), (.p (.bool false)), (.p (.int .u32 0)), (.p (.int .i64 0)), (.p (.int .i64 0)), (.ref ⟨1024000012, g⟩ 0 ([] : List hashindex_Entry).length)]), (⟨1024000012, g⟩, .arr true 3 (([] : List hashindex_Entry).map r_hashindex_Entry)), (⟨0, 1⟩, .box true (b_1wfs v9.2 ⟨1024000013, g⟩ ⟨1024000014, g⟩ ⟨1024000015, g⟩ ⟨1024000016, g⟩)), (⟨1024000013, g⟩, .arr true 1 (v9.2.Need.map r_i64)), (⟨1024000014, g⟩, .arr true 9 (v9.2.Writes.map r_api_Page)), (⟨1024000015, g⟩, .arr true 3 (v9.2.Out.Entries.map r_hashindex_Entry)), (⟨1024000016, g⟩, .arr true 1 (v9.2.Out.Check.map r_i64))] (g + 1)) (ren_go (fun g S => [(⟨1024000011, g⟩, (keyT 0 (St.env S 6))), (⟨1024000013, g⟩, (keyB 9 (St.heap S ⟨0, 1⟩))), (⟨1024000014, g⟩, (keyB 10 (St.heap S ⟨0, 1⟩))), (⟨1024000015, g⟩, (keyB 20 (St.heap S ⟨0, 1⟩))), (⟨1024000016, g⟩, (keyB 21 (St.heap S ⟨0, 1⟩)))]) fun g S => [(⟨1024000012, g⟩, 3)]) fun g => ?_
    refine swp_ret ?_
    with_reducible repeat first|apply nn|apply nb|apply nr|apply nc|apply ne|apply nq|apply nx rfl
    obtain rfl := some_eq h
    simp -implicitDefEqProofs +decide only [go_sem, Nat.reduceAdd, Int.reduceToNat]
    all_goals first | done | trivial | assumption | (simp [maps]; done) | (simp [maps, hb4, hb8]; done)
   ·refine cond_f (by simp -implicitDefEqProofs +decide only [go_sem, hb4, hb8]) ?_
    refine swp_skip ?_
    with_reducible repeat first|apply nn|apply nb|apply nr|apply nc|apply ne|apply nq|apply nx rfl
    refine seq_reg rfl (fun K hK => ?_)
    refine bind_of h (fun v10 hv10 h => ?_)
    simp -implicitDefEqProofs +decide only [go_sem, Nat.reduceAdd, Int.reduceToNat, hb4, hb8]
    refine call_go [0] false (btree_ReadNode_ok (cG G) hG0 _ _ hv10) ?_
    simp -implicitDefEqProofs +decide only [go_sem, Nat.reduceAdd, Int.reduceToNat, hb4, hb8]
    refine hK _ ?_
    refine swp_seq ?_
    refine seq_reg rfl (fun K hK => ?_)
    simp -implicitDefEqProofs +decide only [go_sem, Nat.reduceAdd, Int.reduceToNat, hb4, hb8]
    refine hK _ ?_
    refine bsplit h (fun hb13 h => ?_) (fun hb13 h => ?_)
    ·refine cond_t (by simp -implicitDefEqProofs +decide only [go_sem, hb4, hb8, hb13]) ?_
     refine seq_reg rfl (fun K hK => ?_)
     refine bind_of h (fun v14 hv14 h => ?_)
     simp -implicitDefEqProofs +decide only [go_sem, Nat.reduceAdd, Int.reduceToNat, hb4, hb8, hb13]
     refine call_nil [0, 0, 1] true (btree_run_fail_ok (cG G) hG0 _ _ _ _ hv14) ?_
     simp -implicitDefEqProofs +decide only [go_sem, Nat.reduceAdd, Int.reduceToNat, hb4, hb8, hb13]
     refine hK _ ?_
     refine swp_fresh (fun g => stL [(6, (.c (.ptr ⟨1024000017, g⟩ 0 0))), (7, (.c (.p (.bool v14.1))))] [(⟨1024000017, g⟩, .box true [(.p (.int .i64 0)), (.p (.int .u64 0)), (.p (.int .u64 0)), (.p (.int .u64 0)), (.p (.int .u64 0)), (.p (.int .u64 0)), (.p (.int .u64 0)), (.p (.int .u64 0)), (.p (.int .u64 0)), (.p (.int .i64 0)), (.p (.bool false)), (.p (.bool false)), (.p (.int .u32 0)), (.p (.int .i64 0)), (.p (.int .i64 0)), (.ref ⟨1024000018, g⟩ 0 ([] : List hashindex_Entry).length)]), (⟨1024000018, g⟩, .arr true 3 (([] : List hashindex_Entry).map r_hashindex_Entry)), (⟨0, 1⟩, .box true (b_1wfs v14.2 ⟨1024000019, g⟩ ⟨1024000020, g⟩ ⟨1024000021, g⟩ ⟨1024000022, g⟩)), (⟨1024000019, g⟩, .arr true 1 (v14.2.Need.map r_i64)), (⟨1024000020, g⟩, .arr true 9 (v14.2.Writes.map r_api_Page)), (⟨1024000021, g⟩, .arr true 3 (v14.2.Out.Entries.map r_hashindex_Entry)), (⟨1024000022, g⟩, .arr true 1 (v14.2.Out.Check.map r_i64))] (g + 1)) (ren_go (fun g S => [(⟨1024000017, g⟩, (keyT 0 (St.env S 6))), (⟨1024000019, g⟩, (keyB 9 (St.heap S ⟨0, 1⟩))), (⟨1024000020, g⟩, (keyB 10 (St.heap S ⟨0, 1⟩))), (⟨1024000021, g⟩, (keyB 20 (St.heap S ⟨0, 1⟩))), (⟨1024000022, g⟩, (keyB 21 (St.heap S ⟨0, 1⟩)))]) fun g S => [(⟨1024000018, g⟩, 3)]) fun g => ?_
     refine swp_ret ?_
     with_reducible repeat first|apply nn|apply nb|apply nr|apply nc|apply ne|apply nq|apply nx rfl
     obtain rfl := some_eq h
     simp -implicitDefEqProofs +decide only [go_sem, Nat.reduceAdd, Int.reduceToNat]
     all_goals first | done | trivial | assumption | (simp [maps]; done) | (simp [maps, hb4, hb8, hb13]; done)
    ·refine cond_f (by simp -implicitDefEqProofs +decide only [go_sem, hb4, hb8, hb13]) ?_
     refine swp_skip ?_
     with_reducible repeat first|apply nn|apply nb|apply nr|apply nc|apply ne|apply nq|apply nx rfl
     refine seq_reg rfl (fun K hK => ?_)
     simp -implicitDefEqProofs +decide only [go_sem, Nat.reduceAdd, Int.reduceToNat, hb4, hb8, hb13]
     refine hK _ ?_
     refine swp_ret ?_
     with_reducible repeat first|apply nn|apply nb|apply nr|apply nc|apply ne|apply nq|apply nx rfl
     obtain rfl := some_eq h
     simp -implicitDefEqProofs +decide only [go_sem, Nat.reduceAdd, Int.reduceToNat]
     all_goals first | done | trivial | assumption | (simp [maps]; done) | (simp [maps, hb4, hb8, hb13]; done)
end Go.Sh
end
section
namespace Go.Sh
open Go.Proofs
noncomputable def btree_run_raise (a0 : btree_run) : Option btree_run :=
  if ((a0.Root.Line == 0) && (a0.Root.Gen == 0)) = true then
    (btree_run_fail a0 16 ([] : List Int)).bind fun v4 =>
    some v4.2
  else
    (btree_run_look_v2 a0 a0.Root).bind fun v5 =>
    if (!v5.2.1) = true then
      some v5.2.2
    else
      if ((v5.1.Node.Right.Line == 0) && (v5.1.Node.Right.Gen == 0)) = true then
        some (⟨v5.2.2.Op, v5.2.2.Known, v5.2.2.Need, v5.2.2.Writes, (⟨v5.2.2.Out.Code, true, v5.2.2.Out.Done, v5.2.2.Out.Split, v5.2.2.Out.Unposted, v5.2.2.Out.Dead, v5.2.2.Out.More, v5.2.2.Out.To, v5.2.2.Out.Entries, v5.2.2.Out.Check, v5.2.2.Out.Hops, v5.2.2.Out.Fresh, v5.2.2.Out.Height⟩ : btree_Out), v5.2.2.RootPage, v5.2.2.Root, v5.2.2.Ended⟩ : btree_run)
      else
        if (v5.1.Node.Level == 8) = true then
          (btree_run_fail v5.2.2 12 ([] : List Int)).bind fun v13 =>
          some v13.2
        else
          (btree_run_fresh_v2 v5.2.2 ([v5.1.Page.Line] : List Int)).bind fun v14 =>
          if (!v14.2.1) = true then
            some v14.2.2
          else
            (pointer_At v14.1).bind fun v17 =>
            (btree_WriteRoot v14.2.2.RootPage v17 (IntKind.i64.wrap (v5.1.Node.Level + 1))).bind fun v18 =>
            (btree_Node_fill (⟨(IntKind.i64.wrap (v5.1.Node.Level + 1)), true, false, 4294967295, (⟨0, 0⟩ : pointer_Pointer), ([(⟨v5.1.Node.High, v14.2.2.Root⟩ : hashindex_Entry), (⟨4294967295, v5.1.Node.Right⟩ : hashindex_Entry)] : List hashindex_Entry)⟩ : btree_Node) v14.1).bind fun v19 =>
            (btree_run_done v14.2.2 ([v18.1, v19] : List api_Page) ([v5.1.Page.Line] : List Int)).bind fun v20 =>
            some v20
theorem btree_run_raise_ok (G : Glob) (hG0 : G.glob 0 = some [(.int .i64 0), (.int .i64 0)]) (a0 : btree_run) (res : btree_run) (h : btree_run_raise a0 = some res) : Spec Tryz.prog G 66 [.io (g_rhlf a0)] (fun r ios => r = .tup [] ∧ ios = [.io (g_rhlf res)]) := by
  rw [btree_run_raise] at h
  refine spec_of Tryz.mixed Tryz.func66 rfl rfl (by simp only [List.length]; decide +kernel) ?_
  refine swp_fresh (fun g => stL [(0, (.c (.ptr ⟨0, 1⟩ 0 0)))] [(⟨0, 1⟩, .box true (b_1wfs a0 ⟨1024000001, g⟩ ⟨1024000002, g⟩ ⟨1024000003, g⟩ ⟨1024000004, g⟩)), (⟨1024000001, g⟩, .arr true 1 (a0.Need.map r_i64)), (⟨1024000002, g⟩, .arr true 9 (a0.Writes.map r_api_Page)), (⟨1024000003, g⟩, .arr true 3 (a0.Out.Entries.map r_hashindex_Entry)), (⟨1024000004, g⟩, .arr true 1 (a0.Out.Check.map r_i64))] (g + 1)) (ren_go (fun g S => [(⟨1024000001, g⟩, (keyB 9 (St.heap S ⟨0, 1⟩))), (⟨1024000002, g⟩, (keyB 10 (St.heap S ⟨0, 1⟩))), (⟨1024000003, g⟩, (keyB 20 (St.heap S ⟨0, 1⟩))), (⟨1024000004, g⟩, (keyB 21 (St.heap S ⟨0, 1⟩)))]) fun g S => []) fun g => ?_
  refine swp_seq ?_
  refine seq_drw rfl (fun K hK => ?_)
  simp -implicitDefEqProofs +decide only [go_sem, Nat.reduceAdd, Int.reduceToNat, hG0]
  refine draw_go (by kernel_rfl) ?_
  refine hK _ ?_
  refine bsplit h (fun hb3 h => ?_) (fun hb3 h => ?_)
  ·refine cond_t (by simp -implicitDefEqProofs +decide only [go_sem, hb3]) ?_
   refine seq_reg rfl (fun K hK => ?_)
   refine bind_of h (fun v4 hv4 h => ?_)
   simp -implicitDefEqProofs +decide only [go_sem, Nat.reduceAdd, Int.reduceToNat, hb3]
   refine call_nil [0, 0, 1] true (btree_run_fail_ok (cG G) hG0 _ _ _ _ hv4) ?_
   simp -implicitDefEqProofs +decide only [go_sem, Nat.reduceAdd, Int.reduceToNat, hb3]
   refine hK _ ?_
   refine swp_ret ?_
   with_reducible repeat first|apply nn|apply nb|apply nr|apply nc|apply ne|apply nq|apply nx rfl
   obtain rfl := some_eq h
   simp -implicitDefEqProofs +decide only [go_sem, Nat.reduceAdd, Int.reduceToNat]
   all_goals first | done | trivial | assumption | (simp [maps]; done) | (simp [maps, hb3]; done)
  ·refine cond_f (by simp -implicitDefEqProofs +decide only [go_sem, hb3]) ?_
   refine swp_skip ?_
   with_reducible repeat first|apply nn|apply nb|apply nr|apply nc|apply ne|apply nq|apply nx rfl
   refine seq_reg rfl (fun K hK => ?_)
   refine bind_of h (fun v5 hv5 h => ?_)
   simp -implicitDefEqProofs +decide only [go_sem, Nat.reduceAdd, Int.reduceToNat, hb3]
   refine call_go [0, 0, 0] true (btree_run_look_v2_ok (cG G) hG0 _ _ _ hv5) ?_
   simp -implicitDefEqProofs +decide only [go_sem, Nat.reduceAdd, Int.reduceToNat, hb3]
   refine hK _ ?_
   refine swp_seq ?_
   refine swp_block ?_
   refine seq_reg rfl (fun K hK => ?_)
   simp -implicitDefEqProofs +decide only [go_sem, Nat.reduceAdd, Int.reduceToNat, hb3]
   refine hK _ ?_
   refine bsplit h (fun hb10 h => ?_) (fun hb10 h => ?_)
   ·refine cond_t (by simp -implicitDefEqProofs +decide only [go_sem, hb3, hb10]) ?_
    refine swp_ret ?_
    with_reducible repeat first|apply nn|apply nb|apply nr|apply nc|apply ne|apply nq|apply nx rfl
    obtain rfl := some_eq h
    simp -implicitDefEqProofs +decide only [go_sem, Nat.reduceAdd, Int.reduceToNat]
    all_goals first | done | trivial | assumption | (simp [maps]; done) | (simp [maps, hb3, hb10]; done)
   ·refine cond_f (by simp -implicitDefEqProofs +decide only [go_sem, hb3, hb10]) ?_
    refine seq_reg rfl (fun K hK => ?_)
    simp -implicitDefEqProofs +decide only [go_sem, Nat.reduceAdd, Int.reduceToNat, hG0, hb3, hb10]
    refine hK _ ?_
    refine bsplit h (fun hb11 h => ?_) (fun hb11 h => ?_)
    ·refine cond_t (by simp -implicitDefEqProofs +decide only [go_sem, hb3, hb10, hb11]) ?_
     refine seq_reg rfl (fun K hK => ?_)
     simp -implicitDefEqProofs +decide only [go_sem, Nat.reduceAdd, Int.reduceToNat, hb3, hb10, hb11]
     refine hK _ ?_
     refine swp_ret ?_
     with_reducible repeat first|apply nn|apply nb|apply nr|apply nc|apply ne|apply nq|apply nx rfl
     obtain rfl := some_eq h
     simp -implicitDefEqProofs +decide only [go_sem, Nat.reduceAdd, Int.reduceToNat]
     all_goals first | done | trivial | assumption | (simp [maps]; done) | (simp [maps, hb3, hb10, hb11]; done)
    ·refine cond_f (by simp -implicitDefEqProofs +decide only [go_sem, hb3, hb10, hb11]) ?_
     refine seq_reg rfl (fun K hK => ?_)
     simp -implicitDefEqProofs +decide only [go_sem, Nat.reduceAdd, Int.reduceToNat, hb3, hb10, hb11]
     refine hK _ ?_
     refine bsplit h (fun hb12 h => ?_) (fun hb12 h => ?_)
     ·refine cond_t (by simp -implicitDefEqProofs +decide only [go_sem, hb3, hb10, hb11, hb12]) ?_
      refine seq_reg rfl (fun K hK => ?_)
      refine bind_of h (fun v13 hv13 h => ?_)
      simp -implicitDefEqProofs +decide only [go_sem, Nat.reduceAdd, Int.reduceToNat, hb3, hb10, hb11, hb12]
      refine call_nil [0, 0, 1] true (btree_run_fail_ok (cG G) hG0 _ _ _ _ hv13) ?_
      simp -implicitDefEqProofs +decide only [go_sem, Nat.reduceAdd, Int.reduceToNat, hb3, hb10, hb11, hb12]
      refine hK _ ?_
      refine swp_ret ?_
      with_reducible repeat first|apply nn|apply nb|apply nr|apply nc|apply ne|apply nq|apply nx rfl
      obtain rfl := some_eq h
      simp -implicitDefEqProofs +decide only [go_sem, Nat.reduceAdd, Int.reduceToNat]
      all_goals first | done | trivial | assumption | (simp [maps]; done) | (simp [maps, hb3, hb10, hb11, hb12]; done)
     ·refine cond_f (by simp -implicitDefEqProofs +decide only [go_sem, hb3, hb10, hb11, hb12]) ?_
      refine swp_skip ?_
      with_reducible repeat first|apply nn|apply nb|apply nr|apply nc|apply ne|apply nq|apply nx rfl
      refine seq_reg rfl (fun K hK => ?_)
      refine bind_of h (fun v14 hv14 h => ?_)
      simp -implicitDefEqProofs +decide only [go_sem, Nat.reduceAdd, Int.reduceToNat, hb3, hb10, hb11, hb12]
      refine call_go [0, 2] true (btree_run_fresh_v2_ok (cG G) hG0 _ _ _ hv14) ?_
      simp -implicitDefEqProofs +decide only [go_sem, Nat.reduceAdd, Int.reduceToNat, hb3, hb10, hb11, hb12]
      refine hK _ ?_
      refine swp_seq ?_
      refine seq_reg rfl (fun K hK => ?_)
      simp -implicitDefEqProofs +decide only [go_sem, Nat.reduceAdd, Int.reduceToNat, hb3, hb10, hb11, hb12]
      refine hK _ ?_
      refine bsplit h (fun hb16 h => ?_) (fun hb16 h => ?_)
      ·refine cond_t (by simp -implicitDefEqProofs +decide only [go_sem, hb3, hb10, hb11, hb12, hb16]) ?_
       refine swp_ret ?_
       with_reducible repeat first|apply nn|apply nb|apply nr|apply nc|apply ne|apply nq|apply nx rfl
       obtain rfl := some_eq h
       simp -implicitDefEqProofs +decide only [go_sem, Nat.reduceAdd, Int.reduceToNat]
       all_goals first | done | trivial | assumption | (simp [maps]; done) | (simp [maps, hb3, hb10, hb11, hb12, hb16]; done)
      ·refine cond_f (by simp -implicitDefEqProofs +decide only [go_sem, hb3, hb10, hb11, hb12, hb16]) ?_
       refine swp_skip ?_
       with_reducible repeat first|apply nn|apply nb|apply nr|apply nc|apply ne|apply nq|apply nx rfl
       refine seq_drw rfl (fun K hK => ?_)
       simp -implicitDefEqProofs +decide only [go_sem, Nat.reduceAdd, Int.reduceToNat, hb3, hb10, hb11, hb12, hb16]
       refine draw_go (by kernel_rfl) ?_
       refine hK _ ?_
       refine seq_drw rfl (fun K hK => ?_)
       refine bind_of h (fun v17 hv17 h => ?_)
       simp -implicitDefEqProofs +decide only [go_sem, Nat.reduceAdd, Int.reduceToNat, hb3, hb10, hb11, hb12, hb16]
       refine call_go [0] false (pointer_At_ok (cG G) hG0 _ _ hv17) ?_
       refine bind_of h (fun v18 hv18 h => ?_)
       simp -implicitDefEqProofs +decide only [go_sem, Nat.reduceAdd, Int.reduceToNat, hb3, hb10, hb11, hb12, hb16]
       refine call_go [0, 0, 0] false (btree_WriteRoot_ok (cG G) hG0 _ _ _ _ hv18) ?_
       simp -implicitDefEqProofs +decide only [go_sem, Nat.reduceAdd, Int.reduceToNat, hb3, hb10, hb11, hb12, hb16]
       refine draw_go (by kernel_rfl) ?_
       refine hK _ ?_
       refine swp_drw rfl (fun K hK => ?_)
       refine bind_of h (fun v19 hv19 h => ?_)
       simp -implicitDefEqProofs +decide only [go_sem, Nat.reduceAdd, Int.reduceToNat, hb3, hb10, hb11, hb12, hb16]
       refine call_go [0, 0] false (btree_Node_fill_ok (cG G) hG0 _ _ _ hv19) ?_
       refine bind_of h (fun v20 hv20 h => ?_)
       simp -implicitDefEqProofs +decide only [go_sem, Nat.reduceAdd, Int.reduceToNat, hb3, hb10, hb11, hb12, hb16]
       refine call_go [0, 1, 1] true (btree_run_done_ok (cG G) hG0 _ _ _ _ hv20) ?_
       simp -implicitDefEqProofs +decide only [go_sem, Nat.reduceAdd, Int.reduceToNat, hb3, hb10, hb11, hb12, hb16]
       refine draw_go (by kernel_rfl) ?_
       refine hK _ ?_
       with_reducible repeat first|apply nn|apply nb|apply nr|apply nc|apply ne|apply nq|apply nx rfl
       obtain rfl := some_eq h
       simp -implicitDefEqProofs +decide only [go_sem, Nat.reduceAdd, Int.reduceToNat]
       all_goals first | done | trivial | assumption | (simp [maps]; done) | (simp [maps, hb3, hb10, hb11, hb12, hb16]; done)
end Go.Sh
end
section
namespace Go.Sh
open Go.Proofs
noncomputable def btree_ReadRoot (a0 : api_Page) : Option (pointer_Pointer × Int × Int) :=
  if (a0.Line != 96) = true then
    some ((⟨0, 0⟩ : pointer_Pointer), 0, 1)
  else
    (pointer_Unpack (IntKind.u32.wrap a0.Data.a0)).bind fun v3 =>
    (btree_validRoot v3 (IntKind.i64.wrap (shrV .u64 a0.Data.a0 32))).bind fun v6 =>
    if (!v6) = true then
      some ((⟨0, 0⟩ : pointer_Pointer), 0, 14)
    else
      some (v3, (IntKind.i64.wrap (shrV .u64 a0.Data.a0 32)), 0)
theorem btree_ReadRoot_ok (G : Glob) (hG0 : G.glob 0 = some [(.int .i64 0), (.int .i64 0)]) (a0 : api_Page) (res : (pointer_Pointer × Int × Int)) (h : btree_ReadRoot a0 = some res) : Spec Tryz.prog G 15 [.agg (g_yylp a0)] (fun r ios => r = .tup [.agg [.p (.int .i64 res.1.Line), .p (.int .i64 res.1.Gen)], .cell (.p (.int .i64 res.2.1)), .cell (.p (.int .i64 res.2.2))] ∧ ios = []) := by
  rw [btree_ReadRoot] at h
  refine spec_of Tryz.mixed Tryz.func15 rfl rfl (by simp only [List.length]; decide +kernel) ?_
  refine swp_fresh (fun g => stL [(0, (.agg (b_mq86 a0)))] [] (g + 1)) (ren_go (fun g S => []) fun g S => []) fun g => ?_
  refine seq_reg rfl (fun K hK => ?_)
  simp -implicitDefEqProofs +decide only [go_sem, Nat.reduceAdd, Int.reduceToNat]
  refine hK _ ?_
  refine swp_seq ?_
  refine seq_reg rfl (fun K hK => ?_)
  simp -implicitDefEqProofs +decide only [go_sem, Nat.reduceAdd, Int.reduceToNat]
  refine hK _ ?_
  refine bsplit h (fun hb2 h => ?_) (fun hb2 h => ?_)
  ·refine cond_t (by simp -implicitDefEqProofs +decide only [go_sem, hb2]) ?_
   refine seq_reg rfl (fun K hK => ?_)
   simp -implicitDefEqProofs +decide only [go_sem, Nat.reduceAdd, Int.reduceToNat, hG0, hb2]
   refine hK _ ?_
   refine swp_ret ?_
   with_reducible repeat first|apply nn|apply nb|apply nr|apply nc|apply ne|apply nq|apply nx rfl
   obtain rfl := some_eq h
   simp -implicitDefEqProofs +decide only [go_sem, Nat.reduceAdd, Int.reduceToNat]
   all_goals first | done | trivial | assumption | (simp [maps]; done) | (simp [maps, hb2]; done)
  ·refine cond_f (by simp -implicitDefEqProofs +decide only [go_sem, hb2]) ?_
   refine swp_skip ?_
   with_reducible repeat first|apply nn|apply nb|apply nr|apply nc|apply ne|apply nq|apply nx rfl
   refine seq_drw rfl (fun K hK => ?_)
   refine bind_of h (fun v3 hv3 h => ?_)
   simp -implicitDefEqProofs +decide only [go_sem, Nat.reduceAdd, Int.reduceToNat, hb2]
   refine call_go [0] false (pointer_Unpack_ok (cG G) hG0 _ _ hv3) ?_
   simp -implicitDefEqProofs +decide only [go_sem, Nat.reduceAdd, Int.reduceToNat, hb2]
   refine draw_go (by kernel_rfl) ?_
   refine hK _ ?_
   refine swp_seq ?_
   refine seq_reg rfl (fun K hK => ?_)
   refine bind_of h (fun v6 hv6 h => ?_)
   simp -implicitDefEqProofs +decide only [go_sem, Nat.reduceAdd, Int.reduceToNat, hb2]
   refine call_go [0, 0] false (btree_validRoot_ok (cG G) hG0 _ _ _ hv6) ?_
   simp -implicitDefEqProofs +decide only [go_sem, Nat.reduceAdd, Int.reduceToNat, hb2]
   refine hK _ ?_
   refine bsplit h (fun hb7 h => ?_) (fun hb7 h => ?_)
   ·refine cond_t (by simp -implicitDefEqProofs +decide only [go_sem, hb2, hb7]) ?_
    refine seq_reg rfl (fun K hK => ?_)
    simp -implicitDefEqProofs +decide only [go_sem, Nat.reduceAdd, Int.reduceToNat, hG0, hb2, hb7]
    refine hK _ ?_
    refine swp_ret ?_
    with_reducible repeat first|apply nn|apply nb|apply nr|apply nc|apply ne|apply nq|apply nx rfl
    obtain rfl := some_eq h
    simp -implicitDefEqProofs +decide only [go_sem, Nat.reduceAdd, Int.reduceToNat]
    all_goals first | done | trivial | assumption | (simp [maps]; done) | (simp [maps, hb2, hb7]; done)
   ·refine cond_f (by simp -implicitDefEqProofs +decide only [go_sem, hb2, hb7]) ?_
    refine swp_skip ?_
    with_reducible repeat first|apply nn|apply nb|apply nr|apply nc|apply ne|apply nq|apply nx rfl
    refine seq_reg rfl (fun K hK => ?_)
    simp -implicitDefEqProofs +decide only [go_sem, Nat.reduceAdd, Int.reduceToNat, hb2, hb7]
    refine hK _ ?_
    refine swp_ret ?_
    with_reducible repeat first|apply nn|apply nb|apply nr|apply nc|apply ne|apply nq|apply nx rfl
    obtain rfl := some_eq h
    simp -implicitDefEqProofs +decide only [go_sem, Nat.reduceAdd, Int.reduceToNat]
    all_goals first | done | trivial | assumption | (simp [maps]; done) | (simp [maps, hb2, hb7]; done)
end Go.Sh
end
