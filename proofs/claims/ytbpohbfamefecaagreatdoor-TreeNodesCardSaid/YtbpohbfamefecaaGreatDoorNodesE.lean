/- Part 5 of 6 of the proof: bodegalaw24.TreeNodes returns true for every input, with the package variable bodega/btree.none as the program lays it. -/
import Derived.Test.YtbpohbfamefecaaGreatDoorNodesD
set_option linter.all false
set_option maxRecDepth 100000
set_option maxHeartbeats 4000000
section
namespace Go.Sh
open Go.Proofs
noncomputable def bodegalaw24_TreeRoots_J2 : Unit → Option Bool
  | () =>
    (bodegalaw24_awake).bind fun v35 =>
    some v35
noncomputable def bodegalaw24_TreeRoots_J1 (a0 : api_Page) : (Int × Int × Int × pointer_Pointer) → Option Bool
  | (x5, x6, x7, x8) =>
    (btree_ReadRoot (⟨x6, a0.Head, (⟨x7, a0.Data.a1, a0.Data.a2, a0.Data.a3, a0.Data.a4, a0.Data.a5, a0.Data.a6⟩ : (A7 Int))⟩ : api_Page)).bind fun v9 =>
    (bodegaref24_ReadRoot (⟨x6, a0.Head, (⟨x7, a0.Data.a1, a0.Data.a2, a0.Data.a3, a0.Data.a4, a0.Data.a5, a0.Data.a6⟩ : (A7 Int))⟩ : api_Page)).bind fun v10 =>
    (btree_WriteRoot (⟨x6, a0.Head, (⟨x7, a0.Data.a1, a0.Data.a2, a0.Data.a3, a0.Data.a4, a0.Data.a5, a0.Data.a6⟩ : (A7 Int))⟩ : api_Page) x8 x5).bind fun v11 =>
    (bodegalaw24_ref x8).bind fun v12 =>
    (bodegaref24_WriteRoot (⟨x6, a0.Head, (⟨x7, a0.Data.a1, a0.Data.a2, a0.Data.a3, a0.Data.a4, a0.Data.a5, a0.Data.a6⟩ : (A7 Int))⟩ : api_Page) v12 x5).bind fun v13 =>
    (bodegalaw24_ref v9.1).bind fun v21 =>
    if (!((v21.Line == v10.1.Line) && (v21.Gen == v10.1.Gen))) = true then
      some false
    else
      if (v9.2.1 != v10.2.1) = true then
        some false
      else
        if (v9.2.2 != v10.2.2) = true then
          some false
        else
          (bodegalaw24_same v11.1 v13.1).bind fun v25 =>
          if (!v25) = true then
            some false
          else
            if (v11.2 != v13.2) = true then
              some false
            else
              if (v11.2 == 0) = true then
                (btree_ReadRoot v11.1).bind fun v37 =>
                if (!((v37.1.Line == x8.Line) && (v37.1.Gen == x8.Gen))) = true then
                  some false
                else
                  if (v37.2.1 != x5) = true then
                    some false
                  else
                    if (v37.2.2 != 0) = true then
                      some false
                    else
                      if (v11.1.Data.a1 != a0.Data.a1) = true then
                        some false
                      else
                        if (v11.1.Data.a6 != a0.Data.a6) = true then
                          some false
                        else
                          bodegalaw24_TreeRoots_J2 ()
              else
                bodegalaw24_TreeRoots_J2 ()
noncomputable def bodegalaw24_TreeRoots (a0 : api_Page) (a1 : pointer_Pointer) (a2 : Int) (a3 : Int) : Option Bool :=
  (bodegahand_Pick a3 6).bind fun v43 =>
  if (decide (v43 > 0)) = true then
    (bodegalaw24_aim a1).bind fun v45 =>
    (bodegahand_Pick a2 12).bind fun v46 =>
    bodegalaw24_TreeRoots_J1 a0 ((IntKind.i64.wrap (v46 - 1)), 96, (IntKind.u64.wrap ((IntKind.u64.wrap ((Int.tmod a0.Data.a0 3) * (IntKind.u64.wrap ((IntKind.u64.wrap (104 + (Int.tmod (IntKind.u64.wrap (Int.tdiv a0.Data.a0 3)) 160))) + (IntKind.u64.wrap ((Int.tmod (IntKind.u64.wrap (Int.tdiv a0.Data.a0 600)) 3) * 256)))))) + (shlV .u64 (Int.tmod (IntKind.u64.wrap (Int.tdiv a0.Data.a0 9999)) 10) 32))), v45)
  else
    bodegalaw24_TreeRoots_J1 a0 (a2, a0.Line, a0.Data.a0, a1)
theorem bodegalaw24_TreeRoots_ok (G : Glob) (hG0 : G.glob 0 = some [(.int .i64 0), (.int .i64 0)]) (a0 : api_Page) (a1 : pointer_Pointer) (a2 : Int) (a3 : Int) (res : Bool) (h : bodegalaw24_TreeRoots a0 a1 a2 a3 = some res) : Spec Tryz.prog G 3 [.agg (g_yylp a0), .agg [.p (.int .i64 a1.Line), .p (.int .i64 a1.Gen)], .cell (.p (.int .i64 a2)), .cell (.p (.int .i64 a3))] (fun r ios => r = .cell (.p (.bool res)) ∧ ios = []) := by
  rw [bodegalaw24_TreeRoots] at h
  refine spec_of Tryz.mixed Tryz.func3 rfl rfl (by simp only [List.length]; decide +kernel) ?_
  refine swp_fresh (fun g => stL [(0, (.agg (b_mq86 a0))), (1, (.agg [(.p (.int .i64 a1.Line)), (.p (.int .i64 a1.Gen))])), (2, (.c (.p (.int .i64 a2)))), (3, (.c (.p (.int .i64 a3))))] [] (g + 1)) (ren_go (fun g S => []) fun g S => []) fun g => ?_
  refine go_seq ?_
  refine cut1 (Joins (bodegalaw24_TreeRoots_J1 a0) (fun g x => match x with | (x5, x6, x7, x8) => stL [(2, (.c (.p (.int .i64 x5)))), (4, (.c (.ptr ⟨1024000001, g⟩ 0 0))), (5, (.c (.ptr ⟨1024000002, g⟩ 0 0)))] [(⟨1024000001, g⟩, .box true [(.p (.int .i64 x6)), (.p (.int .u64 a0.Head)), (.p (.int .u64 x7)), (.p (.int .u64 a0.Data.a1)), (.p (.int .u64 a0.Data.a2)), (.p (.int .u64 a0.Data.a3)), (.p (.int .u64 a0.Data.a4)), (.p (.int .u64 a0.Data.a5)), (.p (.int .u64 a0.Data.a6))]), (⟨1024000002, g⟩, .box true [(.p (.int .i64 x8.Line)), (.p (.int .i64 x8.Gen))])] (g + 1)) res) ?_ (fun hj1 => ?_)
  ·refine join_of ?_
   rintro g ⟨x5, x6, x7, x8⟩ h
   rw [bodegalaw24_TreeRoots_J1] at h
   try dsimp only
   refine seq_reg rfl (fun K hK => ?_)
   refine bind_of h (fun v9 hv9 h => ?_)
   simp -implicitDefEqProofs +decide only [go_sem, Nat.reduceAdd, Int.reduceToNat]
   refine call_go [0] false (btree_ReadRoot_ok (cG G) hG0 _ _ hv9) ?_
   simp -implicitDefEqProofs +decide only [go_sem, Nat.reduceAdd, Int.reduceToNat]
   refine hK _ ?_
   refine seq_reg rfl (fun K hK => ?_)
   refine bind_of h (fun v10 hv10 h => ?_)
   simp -implicitDefEqProofs +decide only [go_sem, Nat.reduceAdd, Int.reduceToNat]
   refine call_go [0] false (bodegaref24_ReadRoot_ok (cG G) hG0 _ _ hv10) ?_
   simp -implicitDefEqProofs +decide only [go_sem, Nat.reduceAdd, Int.reduceToNat]
   refine hK _ ?_
   refine seq_reg rfl (fun K hK => ?_)
   refine bind_of h (fun v11 hv11 h => ?_)
   simp -implicitDefEqProofs +decide only [go_sem, Nat.reduceAdd, Int.reduceToNat]
   refine call_go [0, 0, 0] false (btree_WriteRoot_ok (cG G) hG0 _ _ _ _ hv11) ?_
   simp -implicitDefEqProofs +decide only [go_sem, Nat.reduceAdd, Int.reduceToNat]
   refine hK _ ?_
   refine seq_drw rfl (fun K hK => ?_)
   refine bind_of h (fun v12 hv12 h => ?_)
   simp -implicitDefEqProofs +decide only [go_sem, Nat.reduceAdd, Int.reduceToNat]
   refine call_go [0] false (bodegalaw24_ref_ok (cG G) hG0 _ _ hv12) ?_
   refine bind_of h (fun v13 hv13 h => ?_)
   simp -implicitDefEqProofs +decide only [go_sem, Nat.reduceAdd, Int.reduceToNat]
   refine call_go [0, 0, 0] false (bodegaref24_WriteRoot_ok (cG G) hG0 _ _ _ _ hv13) ?_
   simp -implicitDefEqProofs +decide only [go_sem, Nat.reduceAdd, Int.reduceToNat]
   refine draw_go (by kernel_rfl) ?_
   refine hK _ ?_
   refine swp_seq ?_
   refine seq_drw rfl (fun K hK => ?_)
   refine bind_of h (fun v21 hv21 h => ?_)
   simp -implicitDefEqProofs +decide only [go_sem, Nat.reduceAdd, Int.reduceToNat]
   refine call_go [0] false (bodegalaw24_ref_ok (cG G) hG0 _ _ hv21) ?_
   refine bsplit h (fun hb22 h => ?_) (fun hb22 h => ?_)
   ·simp -implicitDefEqProofs +decide only [go_sem, Nat.reduceAdd, Int.reduceToNat, hb22]
    refine draw_go (by kernel_rfl) ?_
    refine hK _ ?_
    refine if_go ?_
    refine go_seq ?_
    refine swp_ret ?_
    with_reducible repeat first|apply nn|apply nb|apply nr|apply nc|apply ne|apply nq|apply nx rfl
    obtain rfl := some_eq h
    exact rt
   ·refine bsplit h (fun hb23 h => ?_) (fun hb23 h => ?_)
    ·simp -implicitDefEqProofs +decide only [go_sem, Nat.reduceAdd, Int.reduceToNat, hb22, hb23]
     refine draw_go (by kernel_rfl) ?_
     refine hK _ ?_
     refine if_go ?_
     refine go_seq ?_
     refine swp_ret ?_
     with_reducible repeat first|apply nn|apply nb|apply nr|apply nc|apply ne|apply nq|apply nx rfl
     obtain rfl := some_eq h
     exact rt
    ·refine bsplit h (fun hb24 h => ?_) (fun hb24 h => ?_)
     ·simp -implicitDefEqProofs +decide only [go_sem, Nat.reduceAdd, Int.reduceToNat, hb22, hb23, hb24]
      refine draw_go (by kernel_rfl) ?_
      refine hK _ ?_
      refine if_go ?_
      refine go_seq ?_
      refine swp_ret ?_
      with_reducible repeat first|apply nn|apply nb|apply nr|apply nc|apply ne|apply nq|apply nx rfl
      obtain rfl := some_eq h
      exact rt
     ·refine bind_of h (fun v25 hv25 h => ?_)
      simp -implicitDefEqProofs +decide only [go_sem, Nat.reduceAdd, Int.reduceToNat, hb22, hb23, hb24]
      refine call_go [0, 0] false (bodegalaw24_same_ok (cG G) hG0 _ _ _ hv25) ?_
      refine bsplit h (fun hb26 h => ?_) (fun hb26 h => ?_)
      ·simp -implicitDefEqProofs +decide only [go_sem, Nat.reduceAdd, Int.reduceToNat, hb22, hb23, hb24, hb26]
       refine draw_go (by kernel_rfl) ?_
       refine hK _ ?_
       refine if_go ?_
       refine go_seq ?_
       refine swp_ret ?_
       with_reducible repeat first|apply nn|apply nb|apply nr|apply nc|apply ne|apply nq|apply nx rfl
       obtain rfl := some_eq h
       exact rt
      ·simp -implicitDefEqProofs +decide only [go_sem, Nat.reduceAdd, Int.reduceToNat, hb22, hb23, hb24, hb26]
       refine draw_go (by kernel_rfl) ?_
       refine hK _ ?_
       refine bsplit h (fun hb27 h => ?_) (fun hb27 h => ?_)
       ·refine if_go ?_
        refine go_seq ?_
        refine swp_ret ?_
        with_reducible repeat first|apply nn|apply nb|apply nr|apply nc|apply ne|apply nq|apply nx rfl
        obtain rfl := some_eq h
        exact rt
       ·refine el_go ?_
        refine swp_skip ?_
        with_reducible repeat first|apply nn|apply nb|apply nr|apply nc|apply ne|apply nq|apply nx rfl
        refine cut1 (Joins (bodegalaw24_TreeRoots_J2) (fun g _ => stL [] [] (g + 1)) res) ?_ (fun hj2 => ?_)
        ·refine join_of ?_
         rintro g ⟨⟩ h
         rw [bodegalaw24_TreeRoots_J2] at h
         try dsimp only
         refine seq_reg rfl (fun K hK => ?_)
         refine bind_of h (fun v35 hv35 h => ?_)
         simp -implicitDefEqProofs +decide only [go_sem, Nat.reduceAdd, Int.reduceToNat, hb22, hb23, hb24, hb26, hb27]
         refine call_go [] false (bodegalaw24_awake_ok (cG G) hG0 _ hv35) ?_
         simp -implicitDefEqProofs +decide only [go_sem, Nat.reduceAdd, Int.reduceToNat, hb22, hb23, hb24, hb26, hb27]
         refine hK _ ?_
         refine swp_ret ?_
         with_reducible repeat first|apply nn|apply nb|apply nr|apply nc|apply ne|apply nq|apply nx rfl
         obtain rfl := some_eq h
         exact rt
        refine swp_seq ?_
        refine go_seq ?_
        refine bsplit h (fun hb36 h => ?_) (fun hb36 h => ?_)
        ·refine if_go ?_
         refine seq_reg rfl (fun K hK => ?_)
         refine bind_of h (fun v37 hv37 h => ?_)
         simp -implicitDefEqProofs +decide only [go_sem, Nat.reduceAdd, Int.reduceToNat, hb22, hb23, hb24, hb26, hb27, hb36]
         refine call_go [0] false (btree_ReadRoot_ok (cG G) hG0 _ _ hv37) ?_
         simp -implicitDefEqProofs +decide only [go_sem, Nat.reduceAdd, Int.reduceToNat, hb22, hb23, hb24, hb26, hb27, hb36]
         refine hK _ ?_
         refine seq_reg rfl (fun K hK => ?_)
         refine bsplit h (fun hb38 h => ?_) (fun hb38 h => ?_)
         ·simp -implicitDefEqProofs +decide only [go_sem, Nat.reduceAdd, Int.reduceToNat, hb22, hb23, hb24, hb26, hb27, hb36, hb38]
          refine hK _ ?_
          refine if_go ?_
          refine go_seq ?_
          refine swp_ret ?_
          with_reducible repeat first|apply nn|apply nb|apply nr|apply nc|apply ne|apply nq|apply nx rfl
          obtain rfl := some_eq h
          exact rt
         ·refine bsplit h (fun hb39 h => ?_) (fun hb39 h => ?_)
          ·simp -implicitDefEqProofs +decide only [go_sem, Nat.reduceAdd, Int.reduceToNat, hb22, hb23, hb24, hb26, hb27, hb36, hb38, hb39]
           refine hK _ ?_
           refine if_go ?_
           refine go_seq ?_
           refine swp_ret ?_
           with_reducible repeat first|apply nn|apply nb|apply nr|apply nc|apply ne|apply nq|apply nx rfl
           obtain rfl := some_eq h
           exact rt
          ·refine bsplit h (fun hb40 h => ?_) (fun hb40 h => ?_)
           ·simp -implicitDefEqProofs +decide only [go_sem, Nat.reduceAdd, Int.reduceToNat, hb22, hb23, hb24, hb26, hb27, hb36, hb38, hb39, hb40]
            refine hK _ ?_
            refine if_go ?_
            refine go_seq ?_
            refine swp_ret ?_
            with_reducible repeat first|apply nn|apply nb|apply nr|apply nc|apply ne|apply nq|apply nx rfl
            obtain rfl := some_eq h
            exact rt
           ·refine bsplit h (fun hb41 h => ?_) (fun hb41 h => ?_)
            ·simp -implicitDefEqProofs +decide only [go_sem, Nat.reduceAdd, Int.reduceToNat, hb22, hb23, hb24, hb26, hb27, hb36, hb38, hb39, hb40, hb41]
             refine hK _ ?_
             refine if_go ?_
             refine go_seq ?_
             refine swp_ret ?_
             with_reducible repeat first|apply nn|apply nb|apply nr|apply nc|apply ne|apply nq|apply nx rfl
             obtain rfl := some_eq h
             exact rt
            ·simp -implicitDefEqProofs +decide only [go_sem, Nat.reduceAdd, Int.reduceToNat, hb22, hb23, hb24, hb26, hb27, hb36, hb38, hb39, hb40, hb41]
             refine hK _ ?_
             refine bsplit h (fun hb42 h => ?_) (fun hb42 h => ?_)
             ·refine if_go ?_
              refine go_seq ?_
              refine swp_ret ?_
              with_reducible repeat first|apply nn|apply nb|apply nr|apply nc|apply ne|apply nq|apply nx rfl
              obtain rfl := some_eq h
              exact rt
             ·refine el_go ?_
              refine swp_skip ?_
              with_reducible repeat first|apply nn|apply nb|apply nr|apply nc|apply ne|apply nq|apply nx rfl
              exact jump_of hj2 h (ren_go (fun g S => []) fun g S => [])
        ·refine el_go ?_
         refine swp_skip ?_
         with_reducible repeat first|apply nn|apply nb|apply nr|apply nc|apply ne|apply nq|apply nx rfl
         exact jump_of hj2 h (ren_go (fun g S => []) fun g S => [])
  refine swp_seq ?_
  refine seq_reg rfl (fun K hK => ?_)
  refine bind_of h (fun v43 hv43 h => ?_)
  simp -implicitDefEqProofs +decide only [go_sem, Nat.reduceAdd, Int.reduceToNat]
  refine call_go [0, 0] false (bodegahand_Pick_ok (cG G) hG0 _ _ _ hv43) ?_
  simp -implicitDefEqProofs +decide only [go_sem, Nat.reduceAdd, Int.reduceToNat]
  refine hK _ ?_
  refine bsplit h (fun hb44 h => ?_) (fun hb44 h => ?_)
  ·refine if_go ?_
   refine go_seq ?_
   refine seq_reg rfl (fun K hK => ?_)
   refine bind_of h (fun v45 hv45 h => ?_)
   simp -implicitDefEqProofs +decide only [go_sem, Nat.reduceAdd, Int.reduceToNat, hb44]
   refine call_go [0] false (bodegalaw24_aim_ok (cG G) hG0 _ _ hv45) ?_
   simp -implicitDefEqProofs +decide only [go_sem, Nat.reduceAdd, Int.reduceToNat, hb44]
   refine hK _ ?_
   refine seq_reg rfl (fun K hK => ?_)
   refine bind_of h (fun v46 hv46 h => ?_)
   simp -implicitDefEqProofs +decide only [go_sem, Nat.reduceAdd, Int.reduceToNat, hb44]
   refine call_go [0, 0] false (bodegahand_Pick_ok (cG G) hG0 _ _ _ hv46) ?_
   simp -implicitDefEqProofs +decide only [go_sem, Nat.reduceAdd, Int.reduceToNat, hb44]
   refine hK _ ?_
   refine go_swp ?_
   with_reducible repeat first|apply nn|apply nb|apply nr|apply nc|apply ne|apply nq|apply nx rfl
   exact jump_of hj1 h (ren_go (fun g S => [(⟨1024000001, g⟩, (keyT 0 (St.env S 4))), (⟨1024000002, g⟩, (keyT 0 (St.env S 5)))]) fun g S => [])
  ·refine el_go ?_
   refine swp_skip ?_
   with_reducible repeat first|apply nn|apply nb|apply nr|apply nc|apply ne|apply nq|apply nx rfl
   exact jump_of hj1 h (ren_go (fun g S => [(⟨1024000001, g⟩, (keyT 0 (St.env S 4))), (⟨1024000002, g⟩, (keyT 0 (St.env S 5)))]) fun g S => [])
end Go.Sh
end
section
namespace Go.Sh

def lo (w : Int) : Int := w % 4294967296
def hi (w : Int) : Int := w / 4294967296
theorem lo_r {w : Int} : 0 ≤ lo w ∧ lo w < 4294967296 := by unfold lo; omega
theorem hi_r {w : Int} (h : 0 ≤ w ∧ w ≤ 18446744073709551615) : 0 ≤ hi w ∧ hi w < 4294967296 := by unfold hi; omega
theorem u32_lo {w : Int} : IntKind.u32.wrap w = lo w := u32_mod
def dp (w : Int) : pointer_Pointer := ⟨w % 256, w / 256⟩
def two (a b : Int) : Int := a + b * 4294967296
def zeroPg : api_Page := ⟨0, 0, ⟨0, 0, 0, 0, 0, 0, 0⟩⟩
def pkP (p : pointer_Pointer) : Int := pk p.Line p.Gen
theorem pkP_r (p : pointer_Pointer) : 0 ≤ pkP p ∧ pkP p < 4294967296 := pk_range _ _
theorem PackP_eq (p : pointer_Pointer) : pointer_Pack p = some (pkP p) := Pack_eq p
theorem PackC_eq (p : pointer_Pointer) : bodegaref19_Pack (cP p) = some (pkP p) := PackR_eq _
theorem two_or {a b : Int} (h : 0 ≤ a ∧ a < 4294967296) (h' : 0 ≤ b ∧ b < 4294967296) : bits .or .u64 (IntKind.u64.wrap a) (shlV .u64 (IntKind.u64.wrap b) 32) = two a b := by
  rw [u64_in' (x := a) (by omega), u64_in' (x := b) (by omega), shl_u64_32, u64_in' (by omega), or64_lo32 (by omega) (by omega) (by omega)]; rfl
theorem two_add {a b : Int} (h : 0 ≤ a ∧ a < 4294967296) (h' : 0 ≤ b ∧ b < 4294967296) : IntKind.u64.wrap (IntKind.u64.wrap a + shlV .u64 (IntKind.u64.wrap b) 32) = two a b := by
  rw [u64_in' (x := a) (by omega), u64_in' (x := b) (by omega), shl_u64_32, u64_in' (x := b * 4294967296) (by omega), u64_in' (by omega)]; rfl
theorem two_lo {a b : Int} (h : 0 ≤ a ∧ a < 4294967296) : lo (two a b) = a := by unfold lo two; omega
theorem two_hi {a b : Int} (h : 0 ≤ a ∧ a < 4294967296) : hi (two a b) = b := by unfold hi two; omega
theorem two_k {a b : Int} (h : 0 ≤ a ∧ a < 4294967296) (h' : 0 ≤ b ∧ b < 4294967296) : k_u64 (two a b) := by unfold k_u64 two; omega
theorem two_eq {w : Int} : two (lo w) (hi w) = w := by unfold two lo hi; omega
theorem two_z {a b : Int} (h : 0 ≤ a ∧ a < 4294967296) (h' : 0 ≤ b ∧ b < 4294967296) : two a b = 0 ↔ a = 0 ∧ b = 0 := by unfold two; omega

/-- Can a root pointer and its level be stored? -/
def vr (p : pointer_Pointer) (l : Int) : Bool := if p.Line = 0 ∧ p.Gen = 0 then l == 0 else vp p.Line p.Gen && (decide (l ≥ 0) && decide (l ≤ 8))
theorem validRoot_eq (p : pointer_Pointer) (l : Int) : btree_validRoot p l = some (vr p l) := by
  unfold btree_validRoot vr
  by_cases h : p.Line = 0 ∧ p.Gen = 0
  · obtain ⟨h1, h2⟩ := h; simp [h1, h2]
  · have : (p.Line == 0 && p.Gen == 0) = false := by simpa using h
    simp only [this, h, if_false, Bool.false_eq_true, Valid_eq, bind_s]
def rdRoot (p : api_Page) : pointer_Pointer × Int × Int :=
  if p.Line ≠ 96 then (⟨0, 0⟩, 0, 1) else if vr (dp (lo p.Data.a0)) (hi p.Data.a0) = true then (dp (lo p.Data.a0), hi p.Data.a0, 0) else (⟨0, 0⟩, 0, 14)
theorem ReadRoot_eq (p : api_Page) (h : k_u64 p.Data.a0) : btree_ReadRoot p = some (rdRoot p) := by
  unfold btree_ReadRoot rdRoot
  have hh := hi_r h
  by_cases hl : p.Line = 96
  · rw [u32_lo, Unpack_eq lo_r, shr_u64_32, show p.Data.a0 / 4294967296 = hi p.Data.a0 from rfl, i64_in' (by omega)]
    simp only [hl, bne_self_eq_false, Bool.false_eq_true, if_false, ne_eq, not_true_eq_false, bind_s, validRoot_eq]
    rw [show (⟨lo p.Data.a0 % 256, lo p.Data.a0 / 256⟩ : pointer_Pointer) = dp (lo p.Data.a0) from rfl]
    rcases Bool.eq_false_or_eq_true (vr (dp (lo p.Data.a0)) (hi p.Data.a0)) with hv | hv <;> simp [hv]
  · have : (p.Line != 96) = true := by simp [hl]
    simp only [this, if_true, hl, ne_eq, not_false_eq_true]
theorem dp0 {w : Int} (h : 0 ≤ w ∧ w < 4294967296) : (dp w).Line = 0 ∧ (dp w).Gen = 0 ↔ w = 0 := by unfold dp; simp only; omega
theorem ReadRootR_eq (p : api_Page) (h : k_u64 p.Data.a0) : bodegaref24_ReadRoot p = some (cP (rdRoot p).1, (rdRoot p).2) := by
  unfold bodegaref24_ReadRoot rdRoot
  have hh := hi_r h
  have hlo := @lo_r p.Data.a0
  have h2 := @two_eq p.Data.a0
  by_cases hl : p.Line = 96
  · rw [u32_lo, UnpackR_eq lo_r, shr_u64_32, show p.Data.a0 / 4294967296 = hi p.Data.a0 from rfl, i64_in' (by omega)]
    simp only [hl, bne_self_eq_false, Bool.false_eq_true, if_false, ne_eq, not_true_eq_false, bind_s, ValidR_eq]
    by_cases hz : p.Data.a0 = 0
    · have e1 : lo p.Data.a0 = 0 := by rw [hz]; rfl
      have e2 : hi p.Data.a0 = 0 := by rw [hz]; rfl
      rw [hz] at e1 e2 ⊢
      simp [e1, e2, vr, dp, cP]
    · have hz' : (p.Data.a0 == 0) = false := by simpa using hz
      simp only [hz', Bool.false_eq_true, if_false]
      unfold vr
      by_cases h0 : (dp (lo p.Data.a0)).Line = 0 ∧ (dp (lo p.Data.a0)).Gen = 0
      · have hw := (dp0 hlo).1 h0
        have hh0 : ¬ hi p.Data.a0 = 0 := fun e => hz (by rw [← h2, hw, e]; rfl)
        have hvp : vp (lo p.Data.a0 % 256) (lo p.Data.a0 / 256) = false := by rw [hw]; decide
        simp only [h0, and_self, if_true, hvp, Bool.not_false, beq_iff_eq, hh0, if_false]
        rfl
      · simp only [h0, if_false]
        rw [show (dp (lo p.Data.a0)).Line = lo p.Data.a0 % 256 from rfl, show (dp (lo p.Data.a0)).Gen = lo p.Data.a0 / 256 from rfl]
        have hge : (p.Data.a0 ≥ 38654705664) = ¬ (hi p.Data.a0 ≤ 8) := by
          unfold hi; simp only [ge_iff_le, Int.not_le, eq_iff_iff]; omega
        have h0' : hi p.Data.a0 ≥ 0 := hh.1
        rcases Bool.eq_false_or_eq_true (vp (lo p.Data.a0 % 256) (lo p.Data.a0 / 256)) with hv | hv <;> by_cases h8 : hi p.Data.a0 ≤ 8 <;> simp [hv, hge, h8, h0', cP, dp]
  · have : (p.Line != 96) = true := by simp [hl]
    simp only [this, if_true, hl, ne_eq, not_false_eq_true]
    rfl
def wrPg (p : api_Page) (r : pointer_Pointer) (l : Int) : api_Page := ⟨p.Line, p.Head, ⟨two (pkP r) l, p.Data.a1, p.Data.a2, p.Data.a3, p.Data.a4, p.Data.a5, p.Data.a6⟩⟩
def wrRoot (p : api_Page) (r : pointer_Pointer) (l : Int) : api_Page × Int := if p.Line = 96 ∧ vr r l = true then (wrPg p r l, 0) else (zeroPg, 1)
theorem vr_level {r : pointer_Pointer} {l : Int} (h : vr r l = true) : 0 ≤ l ∧ l ≤ 8 ∧ good r.Line r.Gen = true := by
  unfold vr at h
  split at h
  · rename_i h0; obtain ⟨e1, e2⟩ := h0
    have : l = 0 := by simpa using h
    subst this; rw [e1, e2]; decide
  · simp only [Bool.and_eq_true, decide_eq_true_eq] at h
    exact ⟨h.2.1, h.2.2, by unfold good; rw [h.1]; simp⟩
theorem WriteRoot_eq (p : api_Page) (r : pointer_Pointer) (l : Int) : btree_WriteRoot p r l = some (wrRoot p r l) := by
  unfold btree_WriteRoot wrRoot
  by_cases hl : p.Line = 96
  · rcases Bool.eq_false_or_eq_true (vr r l) with hv | hv
    · have := vr_level hv
      simp only [hl, bne_self_eq_false, Bool.false_eq_true, if_false, validRoot_eq, bind_s, hv, Bool.not_true, PackP_eq, and_self, if_true]
      rw [two_or (pkP_r _) (by omega)]
      simp [wrPg, hl]
    · simp [hl, hv, validRoot_eq, zeroPg]
  · have : (p.Line != 96) = true := by simp [hl]
    simp only [this, if_true, hl, false_and, if_false]
    rfl
theorem WriteRootR_eq (p : api_Page) (r : pointer_Pointer) (l : Int) : bodegaref24_WriteRoot p (cP r) l = some (wrRoot p r l) := by
  unfold bodegaref24_WriteRoot wrRoot
  by_cases hl : p.Line = 96
  · simp only [hl, bne_self_eq_false, Bool.false_eq_true, if_false, true_and]
    have hJ : (0 ≤ l ∧ l ≤ 8) → bodegaref24_WriteRoot_J1 (cP r) p l () = some (wrPg p r l, 0) := fun h => by
      unfold bodegaref24_WriteRoot_J1
      simp only [PackC_eq, bind_s]
      rw [two_add (pkP_r _) (by omega)]
      rfl
    unfold vr
    by_cases h0 : l < 0
    · have hb : ¬ (0 ≤ l) := by omega
      have hne : ¬ l = 0 := by omega
      simp only [h0, decide_true, if_true, hb, ge_iff_le, decide_false, Bool.false_and, Bool.and_false, Bool.false_eq_true, if_false, beq_iff_eq, hne, ite_self]
      rw [if_neg (by split <;> simp [hne])]
      rfl
    · by_cases h8 : l > 8
      · have hb : ¬ (l ≤ 8) := by omega
        have hne : ¬ l = 0 := by omega
        simp only [h0, h8, decide_true, decide_false, Bool.false_eq_true, if_false, if_true]
        rw [if_neg (by split <;> simp [hne, hb])]
        rfl
      · simp only [h0, h8, decide_false, Bool.false_eq_true, if_false]
        rw [show (cP r).Line = r.Line from rfl, show (cP r).Gen = r.Gen from rfl]
        by_cases hz : r.Line = 0 ∧ r.Gen = 0
        · obtain ⟨e1, e2⟩ := hz
          simp only [e1, e2, beq_self_eq_true, Bool.and_self, if_true, and_self]
          by_cases hl0 : l = 0
          · subst hl0; simp [hJ]
          · have : (l != 0) = true := by simp [hl0]
            simp only [this, if_true, beq_iff_eq, hl0, if_false]; rfl
        · have : (r.Line == 0 && r.Gen == 0) = false := by simpa using hz
          simp only [this, Bool.false_eq_true, if_false, hz, ValidR_eq, bind_s]
          rw [show (cP r).Line = r.Line from rfl, show (cP r).Gen = r.Gen from rfl]
          have h1 : l ≥ 0 := by omega
          have h2 : l ≤ 8 := by omega
          rcases Bool.eq_false_or_eq_true (vp r.Line r.Gen) with hv | hv
          · simp [hv, h1, h2, hJ (by omega)]
          · simp [hv, zeroPg]
  · have : (p.Line != 96) = true := by simp [hl]
    simp only [this, if_true, hl, false_and, if_false]
    rfl
theorem dp_pk {p : pointer_Pointer} (h : good p.Line p.Gen = true) : dp (pkP p) = p := by
  obtain ⟨h1, h2, h3⟩ := pk_dec h
  unfold dp pkP
  rw [h1, h2]
theorem rd_wr {p : api_Page} {r : pointer_Pointer} {l : Int} (hl : p.Line = 96) (hv : vr r l = true) : rdRoot (wrPg p r l) = (r, l, 0) := by
  have h3 := vr_level hv
  unfold rdRoot
  rw [show (wrPg p r l).Line = p.Line from rfl, show (wrPg p r l).Data.a0 = two (pkP r) l from rfl, two_lo (pkP_r _), two_hi (pkP_r _), dp_pk h3.2.2, hl, hv]
  simp
theorem J1_roots (hA : bodegalaw24_awake = some true) (p : api_Page) (x6 x7 x5 : Int) (to : pointer_Pointer) (hx : k_u64 x7) : bodegalaw24_TreeRoots_J1 p (x5, x6, x7, to) = some true := by
  unfold bodegalaw24_TreeRoots_J1
  have h2 : bodegalaw24_TreeRoots_J2 () = some true := by unfold bodegalaw24_TreeRoots_J2; rw [hA]; rfl
  simp only [ref_eq, bind_s, WriteRoot_eq, WriteRootR_eq]
  generalize hq : (⟨x6, p.Head, ⟨x7, p.Data.a1, p.Data.a2, p.Data.a3, p.Data.a4, p.Data.a5, p.Data.a6⟩⟩ : api_Page) = q
  have hqk : k_u64 q.Data.a0 := by rw [← hq]; exact hx
  have hq1 : q.Data.a1 = p.Data.a1 := by rw [← hq]
  have hq6 : q.Data.a6 = p.Data.a6 := by rw [← hq]
  rw [ReadRoot_eq q hqk, ReadRootR_eq q hqk]
  simp only [bind_s, bodegalaw24_same, h2]
  by_cases hw : q.Line = 96 ∧ vr to x5 = true
  · have e : wrRoot q to x5 = (wrPg q to x5, 0) := by unfold wrRoot; rw [if_pos hw]
    have h3 := vr_level hw.2
    have hk : k_u64 (wrPg q to x5).Data.a0 := two_k (pkP_r _) (by omega)
    rw [e]
    simp only [ReadRoot_eq _ hk, rd_wr hw.1 hw.2, bind_s]
    rw [show (wrPg q to x5).Data.a1 = p.Data.a1 from hq1, show (wrPg q to x5).Data.a6 = p.Data.a6 from hq6]
    simp [cP]
  · have e : wrRoot q to x5 = (zeroPg, 1) := by unfold wrRoot; rw [if_neg hw]
    rw [e]
    simp [cP]
theorem wrap_k (x : Int) : k_u64 (IntKind.u64.wrap x) := by have := wf_wrap .u64 x; simp [Lit.wf, IntKind.min, IntKind.max, IntKind.signed, IntKind.bits] at this; unfold k_u64; omega
theorem TreeRoots_of (hA : bodegalaw24_awake = some true) (p : api_Page) (to : pointer_Pointer) (l n : Int) (k0 : k_api_Page p) (k1 : k_pointer_Pointer to) (k2 : k_i64 l) (k3 : k_i64 n) : bodegalaw24_TreeRoots p to l n = some true := by
  unfold bodegalaw24_TreeRoots
  obtain ⟨v, ev, _⟩ := Pick_eq (a := n) (n := 6) (by omega)
  obtain ⟨d, ed, _⟩ := Pick_eq (a := l) (n := 12) (by omega)
  obtain ⟨f, ef⟩ := aim_eq to
  simp only [ev, ed, ef, bind_s]
  split
  · exact J1_roots hA _ _ _ _ _ (wrap_k _)
  · exact J1_roots hA _ _ _ _ _ k0.2.2.1
end Go.Sh
end
section
namespace Go.Sh
open Go.Proofs
noncomputable def bodegalaw24_entries_L1 (a0 : (List hashindex_Entry)) : (List bodegaref23_Entry × Int) → Option ((List bodegaref23_Entry × Int) ⊕ (List bodegaref23_Entry))
  | (l16, x17) =>
    if (decide (x17 < (a0.length : Int))) = true then
      (idx a0 x17).bind fun e20 =>
      (bodegalaw24_ref e20.To).bind fun v21 =>
      if (l16.length + 1) * 24 ≤ maxRows ∧ l16.length + 1 ≤ maxRows then
        some (.inl ((l16 ++ ([(⟨e20.Key, v21⟩ : bodegaref23_Entry)] : List bodegaref23_Entry)), (IntKind.i64.wrap (x17 + 1))))
      else none
    else
      Option.map Sum.inr (
        some l16)
noncomputable def bodegalaw24_entries (a0 : (List hashindex_Entry)) : Option (List bodegaref23_Entry) :=
  iter (bodegalaw24_entries_L1 a0) (([] : List bodegaref23_Entry), 0)
theorem bodegalaw24_entries_ok (G : Glob) (hG0 : G.glob 0 = some [(.int .i64 0), (.int .i64 0)]) (a0 : (List hashindex_Entry)) (res : (List bodegaref23_Entry)) (h : bodegalaw24_entries a0 = some res) : Spec Tryz.prog G 55 [.cell (.p (.rows (a0.map r_hashindex_Entry)))] (fun r ios => r = .cell (.own 3 (res.map r_bodegaref23_Entry)) ∧ ios = []) := by
  rw [bodegalaw24_entries] at h
  refine spec_of Tryz.mixed Tryz.func55 rfl rfl (by simp only [List.length]; decide +kernel) ?_
  refine swp_fresh (fun g => stL [(0, (.c (.p (.rows (a0.map r_hashindex_Entry)))))] [] (g + 1)) (ren_go (fun g S => []) fun g S => []) fun g => ?_
  refine go_seq ?_
  refine go_seq ?_
  refine swp_seq ?_
  refine go_seq ?_
  refine swp_block ?_
  refine swp_iter (fun g x => match x with | (l16, x17) => stL [(0, (.c (.p (.rows (a0.map r_hashindex_Entry))))), (3, (.c (.ref ⟨1024000001, g⟩ 0 l16.length))), (4, (.c (.p (.int .i64 x17))))] [(⟨1024000001, g⟩, .arr true 3 (l16.map r_bodegaref23_Entry))] (g + 1)) h (enter_of (ren_go (fun g S => []) fun g S => [(⟨1024000001, g⟩, 3)])) ?_
  rintro g ⟨l16, x17⟩ s1 h hd1
  rw [bodegalaw24_entries_L1] at h
  try dsimp only
  refine swp_seq ?_
  refine go_seq ?_
  refine bsplit h (fun hb19 h => ?_) (fun hb19 h => ?_)
  ·refine if_go ?_
   refine swp_skip ?_
   with_reducible repeat first|apply nn|apply nb|apply nr|apply nc|apply ne|apply nq|apply nx rfl
   refine swp_seq ?_
   refine swp_block ?_
   refine swp_drw rfl (fun K hK => ?_)
   refine bind_of h (fun e20 he20 h => ?_)
   obtain ⟨he20_0, he20_1, he20_2⟩ := idx_some he20
   refine bind_of h (fun v21 hv21 h => ?_)
   simp -implicitDefEqProofs +decide only [go_sem, Nat.reduceAdd, Int.reduceToNat, he20_0, he20_1, he20_2, hb19]
   refine call_go [0] false (bodegalaw24_ref_ok (cG G) hG0 _ _ hv21) ?_
   refine psplit h (fun hp22 h => ?_)
   simp -implicitDefEqProofs +decide only [go_sem, Nat.reduceAdd, Int.reduceToNat, hp22, hb19]
   refine draw_go (by kernel_rfl) ?_
   refine hK _ ?_
   with_reducible repeat first|apply nn|apply nb|apply nr|apply nc|apply ne|apply nq|apply nx rfl
   refine swp_fresh (fun g => stL [(0, (.c (.p (.rows (a0.map r_hashindex_Entry))))), (3, (.c (.ref ⟨1024000002, g⟩ 0 (l16 ++ ([(⟨e20.Key, v21⟩ : bodegaref23_Entry)] : List bodegaref23_Entry)).length))), (4, (.c (.p (.int .i64 x17))))] [(⟨1024000002, g⟩, .arr true 3 ((l16 ++ ([(⟨e20.Key, v21⟩ : bodegaref23_Entry)] : List bodegaref23_Entry)).map r_bodegaref23_Entry))] (g + 1)) (ren_go (fun g S => [(⟨1024000002, g⟩, (keyT 0 (St.env S 3)))]) fun g S => []) fun g => ?_
   refine go_swp ?_
   with_reducible repeat first|apply nn|apply nb|apply nr|apply nc|apply ne|apply nq|apply nx rfl
   exact back_of h (ren_go (fun g S => [(⟨1024000001, g⟩, (keyT 0 (St.env S 3)))]) fun g S => [])
  ·refine el_go ?_
   refine swp_exit ?_
   with_reducible repeat first|apply nn|apply nb|apply nr|apply nc|apply ne|apply nq|apply nx rfl
   obtain ⟨h, hs1⟩ := exit_of h hd1
   with_reducible repeat first|apply nn|apply nb|apply nr|apply nc|apply ne|apply nq|apply nx rfl
   refine ⟨hs1, ?_⟩
   with_reducible repeat first|apply nn|apply nb|apply nr|apply nc|apply ne|apply nq|apply nx rfl
   refine go_seq ?_
   refine swp_ret ?_
   with_reducible repeat first|apply nn|apply nb|apply nr|apply nc|apply ne|apply nq|apply nx rfl
   obtain rfl := some_eq h
   exact rt
end Go.Sh
end
section
namespace Go.Sh
open Go.Proofs
noncomputable def bodegalaw24_node (a0 : btree_Node) : Option bodegaref24_Node :=
  (bodegalaw24_ref a0.Right).bind fun v1 =>
  (bodegalaw24_entries a0.Entries).bind fun v2 =>
  some (⟨a0.Level, a0.Leftmost, a0.Dead, a0.High, v1, v2⟩ : bodegaref24_Node)
theorem bodegalaw24_node_ok (G : Glob) (hG0 : G.glob 0 = some [(.int .i64 0), (.int .i64 0)]) (a0 : btree_Node) (res : bodegaref24_Node) (h : bodegalaw24_node a0 = some res) : Spec Tryz.prog G 26 [.agg (g_kkcs a0)] (fun r ios => r = .agg (g_wqqx res) ∧ ios = []) := by
  rw [bodegalaw24_node] at h
  refine spec_of Tryz.mixed Tryz.func26 rfl rfl (by simp only [List.length]; decide +kernel) ?_
  refine swp_fresh (fun g => stL [(0, (.agg (b_kfil a0)))] [] (g + 1)) (ren_go (fun g S => []) fun g S => []) fun g => ?_
  refine go_seq ?_
  refine seq_drw rfl (fun K hK => ?_)
  refine bind_of h (fun v1 hv1 h => ?_)
  simp -implicitDefEqProofs +decide only [go_sem, Nat.reduceAdd, Int.reduceToNat]
  refine call_go [0] false (bodegalaw24_ref_ok (cG G) hG0 _ _ hv1) ?_
  refine bind_of h (fun v2 hv2 h => ?_)
  simp -implicitDefEqProofs +decide only [go_sem, Nat.reduceAdd, Int.reduceToNat]
  refine call_go [0] false (bodegalaw24_entries_ok (cG G) hG0 _ _ hv2) ?_
  simp -implicitDefEqProofs +decide only [go_sem, Nat.reduceAdd, Int.reduceToNat]
  refine draw_go (by kernel_rfl) ?_
  refine hK _ ?_
  refine swp_ret ?_
  with_reducible repeat first|apply nn|apply nb|apply nr|apply nc|apply ne|apply nq|apply nx rfl
  obtain rfl := some_eq h
  exact rt
end Go.Sh
end
section
namespace Go.Sh
open Go.Proofs
noncomputable def bodegalaw24_sameEntries_L1 (a0 : (List bodegaref23_Entry)) (a1 : (List bodegaref23_Entry)) (x16 : Int) : Option (Int ⊕ Bool) :=
    if (decide (x16 < (a0.length : Int))) = true then
      (idx a0 x16).bind fun e19 =>
      (idx a1 x16).bind fun e20 =>
      if (!((e19.Key == e20.Key) && ((e19.To.Line == e20.To.Line) && (e19.To.Gen == e20.To.Gen)))) = true then
        Option.map Sum.inr (
          some false)
      else
        some (.inl (IntKind.i64.wrap (x16 + 1)))
    else
      Option.map Sum.inr (
        some true)
noncomputable def bodegalaw24_sameEntries (a0 : (List bodegaref23_Entry)) (a1 : (List bodegaref23_Entry)) : Option Bool :=
  if ((a0.length : Int) != (a1.length : Int)) = true then
    some false
  else
    iter (bodegalaw24_sameEntries_L1 a0 a1) 0
theorem bodegalaw24_sameEntries_ok (G : Glob) (hG0 : G.glob 0 = some [(.int .i64 0), (.int .i64 0)]) (a0 : (List bodegaref23_Entry)) (a1 : (List bodegaref23_Entry)) (res : Bool) (h : bodegalaw24_sameEntries a0 a1 = some res) : Spec Tryz.prog G 56 [.cell (.p (.rows (a0.map r_bodegaref23_Entry))), .cell (.p (.rows (a1.map r_bodegaref23_Entry)))] (fun r ios => r = .cell (.p (.bool res)) ∧ ios = []) := by
  rw [bodegalaw24_sameEntries] at h
  refine spec_of Tryz.mixed Tryz.func56 rfl rfl (by simp only [List.length]; decide +kernel) ?_
  refine swp_fresh (fun g => stL [(0, (.c (.p (.rows (a0.map r_bodegaref23_Entry))))), (1, (.c (.p (.rows (a1.map r_bodegaref23_Entry)))))] [] (g + 1)) (ren_go (fun g S => []) fun g S => []) fun g => ?_
  refine go_seq ?_
  refine swp_seq ?_
  refine go_seq ?_
  refine bsplit h (fun hb2 h => ?_) (fun hb2 h => ?_)
  ·refine if_go ?_
   refine go_seq ?_
   refine swp_ret ?_
   with_reducible repeat first|apply nn|apply nb|apply nr|apply nc|apply ne|apply nq|apply nx rfl
   obtain rfl := some_eq h
   exact rt
  ·refine el_go ?_
   refine swp_skip ?_
   with_reducible repeat first|apply nn|apply nb|apply nr|apply nc|apply ne|apply nq|apply nx rfl
   refine swp_seq ?_
   refine go_seq ?_
   refine swp_block ?_
   refine swp_iter (fun g x16 => stL [(0, (.c (.p (.rows (a0.map r_bodegaref23_Entry))))), (1, (.c (.p (.rows (a1.map r_bodegaref23_Entry))))), (5, (.c (.p (.int .i64 x16))))] [] (g + 1)) h (enter_of (ren_go (fun g S => []) fun g S => [])) ?_
   rintro g x16 s1 h hd1
   rw [bodegalaw24_sameEntries_L1] at h
   try dsimp only
   refine swp_seq ?_
   refine go_seq ?_
   refine bsplit h (fun hb18 h => ?_) (fun hb18 h => ?_)
   ·refine if_go ?_
    refine swp_skip ?_
    with_reducible repeat first|apply nn|apply nb|apply nr|apply nc|apply ne|apply nq|apply nx rfl
    refine swp_seq ?_
    refine swp_block ?_
    refine seq_drw rfl (fun K hK => ?_)
    refine bind_of h (fun e19 he19 h => ?_)
    obtain ⟨he19_0, he19_1, he19_2⟩ := idx_some he19
    refine bind_of h (fun e20 he20 h => ?_)
    obtain ⟨he20_0, he20_1, he20_2⟩ := idx_some he20
    simp -implicitDefEqProofs +decide only [go_sem, Nat.reduceAdd, Int.reduceToNat, he19_0, he19_1, he19_2, he20_0, he20_1, he20_2, hb18]
    refine draw_go (by kernel_rfl) ?_
    refine hK _ ?_
    refine bsplit h (fun hb21 h => ?_) (fun hb21 h => ?_)
    ·refine if_go ?_
     refine go_seq ?_
     refine swp_ret ?_
     with_reducible repeat first|apply nn|apply nb|apply nr|apply nc|apply ne|apply nq|apply nx rfl
     obtain ⟨h, hs1⟩ := exit_of h hd1
     refine ⟨hs1, ?_⟩
     with_reducible repeat first|apply nn|apply nb|apply nr|apply nc|apply ne|apply nq|apply nx rfl
     obtain rfl := some_eq h
     exact rt
    ·refine el_go ?_
     refine swp_skip ?_
     with_reducible repeat first|apply nn|apply nb|apply nr|apply nc|apply ne|apply nq|apply nx rfl
     refine go_swp ?_
     with_reducible repeat first|apply nn|apply nb|apply nr|apply nc|apply ne|apply nq|apply nx rfl
     exact back_of h (ren_go (fun g S => []) fun g S => [])
   ·refine el_go ?_
    refine swp_exit ?_
    with_reducible repeat first|apply nn|apply nb|apply nr|apply nc|apply ne|apply nq|apply nx rfl
    obtain ⟨h, hs1⟩ := exit_of h hd1
    with_reducible repeat first|apply nn|apply nb|apply nr|apply nc|apply ne|apply nq|apply nx rfl
    refine ⟨hs1, ?_⟩
    with_reducible repeat first|apply nn|apply nb|apply nr|apply nc|apply ne|apply nq|apply nx rfl
    refine go_seq ?_
    refine swp_ret ?_
    with_reducible repeat first|apply nn|apply nb|apply nr|apply nc|apply ne|apply nq|apply nx rfl
    obtain rfl := some_eq h
    exact rt
end Go.Sh
end
section
namespace Go.Sh
open Go.Proofs
noncomputable def bodegalaw24_sameNode (a0 : bodegaref24_Node) (a1 : bodegaref24_Node) : Option Bool :=
  if (a0.Level == a1.Level) = true then
    if (a0.Leftmost == a1.Leftmost) = true then
      if (a0.Dead == a1.Dead) = true then
        if (a0.High == a1.High) = true then
          if ((a0.Right.Line == a1.Right.Line) && (a0.Right.Gen == a1.Right.Gen)) = true then
            (bodegalaw24_sameEntries a0.Entries a1.Entries).bind fun v6 =>
            some v6
          else
            some false
        else
          some false
      else
        some false
    else
      some false
  else
    some false
theorem bodegalaw24_sameNode_ok (G : Glob) (hG0 : G.glob 0 = some [(.int .i64 0), (.int .i64 0)]) (a0 : bodegaref24_Node) (a1 : bodegaref24_Node) (res : Bool) (h : bodegalaw24_sameNode a0 a1 = some res) : Spec Tryz.prog G 27 [.agg (g_dzp5 a0), .agg (g_dzp5 a1)] (fun r ios => r = .cell (.p (.bool res)) ∧ ios = []) := by
  rw [bodegalaw24_sameNode] at h
  refine spec_of Tryz.mixed Tryz.func27 rfl rfl (by simp only [List.length]; decide +kernel) ?_
  refine swp_fresh (fun g => stL [(0, (.agg (b_dt2w a0))), (1, (.agg (b_dt2w a1)))] [] (g + 1)) (ren_go (fun g S => []) fun g S => []) fun g => ?_
  refine go_seq ?_
  refine seq_reg rfl (fun K hK => ?_)
  refine bsplit h (fun hb1 h => ?_) (fun hb1 h => ?_)
  ·refine bsplit h (fun hb2 h => ?_) (fun hb2 h => ?_)
   ·refine bsplit h (fun hb3 h => ?_) (fun hb3 h => ?_)
    ·refine bsplit h (fun hb4 h => ?_) (fun hb4 h => ?_)
     ·refine bsplit h (fun hb5 h => ?_) (fun hb5 h => ?_)
      ·refine bind_of h (fun v6 hv6 h => ?_)
       simp -implicitDefEqProofs +decide only [go_sem, Nat.reduceAdd, Int.reduceToNat, hb1, hb2, hb3, hb4, hb5]
       refine call_go [0, 0] false (bodegalaw24_sameEntries_ok (cG G) hG0 _ _ _ hv6) ?_
       simp -implicitDefEqProofs +decide only [go_sem, Nat.reduceAdd, Int.reduceToNat, hb1, hb2, hb3, hb4, hb5]
       refine hK _ ?_
       refine swp_ret ?_
       with_reducible repeat first|apply nn|apply nb|apply nr|apply nc|apply ne|apply nq|apply nx rfl
       obtain rfl := some_eq h
       exact rt
      ·simp -implicitDefEqProofs +decide only [go_sem, Nat.reduceAdd, Int.reduceToNat, hb1, hb2, hb3, hb4, hb5]
       refine hK _ ?_
       refine swp_ret ?_
       with_reducible repeat first|apply nn|apply nb|apply nr|apply nc|apply ne|apply nq|apply nx rfl
       obtain rfl := some_eq h
       exact rt
     ·simp -implicitDefEqProofs +decide only [go_sem, Nat.reduceAdd, Int.reduceToNat, hb1, hb2, hb3, hb4]
      refine hK _ ?_
      refine swp_ret ?_
      with_reducible repeat first|apply nn|apply nb|apply nr|apply nc|apply ne|apply nq|apply nx rfl
      obtain rfl := some_eq h
      exact rt
    ·simp -implicitDefEqProofs +decide only [go_sem, Nat.reduceAdd, Int.reduceToNat, hb1, hb2, hb3]
     refine hK _ ?_
     refine swp_ret ?_
     with_reducible repeat first|apply nn|apply nb|apply nr|apply nc|apply ne|apply nq|apply nx rfl
     obtain rfl := some_eq h
     exact rt
   ·simp -implicitDefEqProofs +decide only [go_sem, Nat.reduceAdd, Int.reduceToNat, hb1, hb2]
    refine hK _ ?_
    refine swp_ret ?_
    with_reducible repeat first|apply nn|apply nb|apply nr|apply nc|apply ne|apply nq|apply nx rfl
    obtain rfl := some_eq h
    exact rt
  ·simp -implicitDefEqProofs +decide only [go_sem, Nat.reduceAdd, Int.reduceToNat, hb1]
   refine hK _ ?_
   refine swp_ret ?_
   with_reducible repeat first|apply nn|apply nb|apply nr|apply nc|apply ne|apply nq|apply nx rfl
   obtain rfl := some_eq h
   exact rt
end Go.Sh
end
section
namespace Go.Sh
open Go.Proofs
noncomputable def bodegaref19_Aux (a0 : api_Page) : Option Int :=
  some (IntKind.u32.wrap (shrV .u64 a0.Data.a0 32))
theorem bodegaref19_Aux_ok (G : Glob) (hG0 : G.glob 0 = some [(.int .i64 0), (.int .i64 0)]) (a0 : api_Page) (res : Int) (h : bodegaref19_Aux a0 = some res) : Spec Tryz.prog G 50 [.agg (g_yylp a0)] (fun r ios => r = .cell (.p (.int .u32 res)) ∧ ios = []) := by
  rw [bodegaref19_Aux] at h
  refine spec_of Tryz.mixed Tryz.func50 rfl rfl (by simp only [List.length]; decide +kernel) ?_
  refine swp_fresh (fun g => stL [(0, (.agg (b_mq86 a0)))] [] (g + 1)) (ren_go (fun g S => []) fun g S => []) fun g => ?_
  refine go_seq ?_
  refine go_seq ?_
  refine swp_ret ?_
  with_reducible repeat first|apply nn|apply nb|apply nr|apply nc|apply ne|apply nq|apply nx rfl
  obtain rfl := some_eq h
  exact rt
end Go.Sh
end
section
namespace Go.Sh
open Go.Proofs
noncomputable def bodegaref19_Kind (a0 : api_Page) : Option Int :=
  some (IntKind.i64.wrap (Int.tmod a0.Data.a0 256))
theorem bodegaref19_Kind_ok (G : Glob) (hG0 : G.glob 0 = some [(.int .i64 0), (.int .i64 0)]) (a0 : api_Page) (res : Int) (h : bodegaref19_Kind a0 = some res) : Spec Tryz.prog G 51 [.agg (g_yylp a0)] (fun r ios => r = .cell (.p (.int .i64 res)) ∧ ios = []) := by
  rw [bodegaref19_Kind] at h
  refine spec_of Tryz.mixed Tryz.func51 rfl rfl (by simp only [List.length]; decide +kernel) ?_
  refine swp_fresh (fun g => stL [(0, (.agg (b_mq86 a0)))] [] (g + 1)) (ren_go (fun g S => []) fun g S => []) fun g => ?_
  refine go_seq ?_
  refine go_seq ?_
  refine swp_ret ?_
  with_reducible repeat first|apply nn|apply nb|apply nr|apply nc|apply ne|apply nq|apply nx rfl
  obtain rfl := some_eq h
  exact rt
end Go.Sh
end
section
namespace Go.Sh
open Go.Proofs
noncomputable def bodegaref24_ValidNode_J3 (a0 : bodegaref24_Node) : Unit → Option Bool
  | () =>
    some ((!a0.Dead) || ((a0.Level == 0) && (((a0.Entries.length : Int) == 0) && ((!a0.Leftmost) && (!((a0.Right.Line == 0) && (a0.Right.Gen == 0)))))))
noncomputable def bodegaref24_ValidNode_J2 (a0 : bodegaref24_Node) : Unit → Option Bool
  | () =>
    if (decide (a0.Level > 0)) = true then
      if ((a0.Entries.length : Int) == 0) = true then
        some false
      else
        (idx a0.Entries (IntKind.i64.wrap ((a0.Entries.length : Int) - 1))).bind fun e69 =>
        if (e69.Key != a0.High) = true then
          some false
        else
          bodegaref24_ValidNode_J3 a0 ()
    else
      bodegaref24_ValidNode_J3 a0 ()
noncomputable def bodegaref24_ValidNode_L1 (a0 : bodegaref24_Node) (x104 : Int) : Option (Int ⊕ Bool) :=
    if (decide (x104 < (a0.Entries.length : Int))) = true then
      (idx a0.Entries x104).bind fun e107 =>
      if (decide (e107.Key < 1)) = true then
        Option.map Sum.inr (
          some false)
      else
        if (decide (e107.Key > a0.High)) = true then
          Option.map Sum.inr (
            some false)
        else
          (bodegaref19_ValidPointer e107.To).bind fun v110 =>
          if (!v110) = true then
            Option.map Sum.inr (
              some false)
          else
            if (a0.Level == 0) = true then
              if (decide (e107.Key > 4294967294)) = true then
                Option.map Sum.inr (
                  some false)
              else
                if (decide (x104 > 0)) = true then
                  (idx a0.Entries (IntKind.i64.wrap (x104 - 1))).bind fun e115 =>
                  if (decide (e115.Key ≥ e107.Key)) = true then
                    Option.map Sum.inr (
                      some false)
                  else
                    some (.inl (IntKind.i64.wrap (x104 + 1)))
                else
                  some (.inl (IntKind.i64.wrap (x104 + 1)))
            else
              if (decide (x104 > 0)) = true then
                (idx a0.Entries (IntKind.i64.wrap (x104 - 1))).bind fun e120 =>
                if (decide (e120.Key ≥ e107.Key)) = true then
                  Option.map Sum.inr (
                    some false)
                else
                  some (.inl (IntKind.i64.wrap (x104 + 1)))
              else
                some (.inl (IntKind.i64.wrap (x104 + 1)))
    else
      Option.map Sum.inr (
        bodegaref24_ValidNode_J2 a0 ())
noncomputable def bodegaref24_ValidNode_J1 (a0 : bodegaref24_Node) : Unit → Option Bool
  | () =>
    iter (bodegaref24_ValidNode_L1 a0) 0
noncomputable def bodegaref24_ValidNode (a0 : bodegaref24_Node) : Option Bool :=
  if (decide (a0.Level < 0)) = true then
    some false
  else
    if (decide (a0.Level > 8)) = true then
      some false
    else
      if (decide (a0.High < 1)) = true then
        some false
      else
        if (!(((a0.Right.Line == 0) && (a0.Right.Gen == 0)) == (a0.High == 4294967295))) = true then
          some false
        else
          if (!((a0.Right.Line == 0) && (a0.Right.Gen == 0))) = true then
            (bodegaref19_ValidPointer a0.Right).bind fun v130 =>
            if (!v130) = true then
              some false
            else
              if (decide ((a0.Entries.length : Int) > 5)) = true then
                some false
              else
                bodegaref24_ValidNode_J1 a0 ()
          else
            if (decide ((a0.Entries.length : Int) > 5)) = true then
              some false
            else
              bodegaref24_ValidNode_J1 a0 ()
theorem bodegaref24_ValidNode_ok (G : Glob) (hG0 : G.glob 0 = some [(.int .i64 0), (.int .i64 0)]) (a0 : bodegaref24_Node) (res : Bool) (h : bodegaref24_ValidNode a0 = some res) : Spec Tryz.prog G 52 [.agg (g_dzp5 a0)] (fun r ios => r = .cell (.p (.bool res)) ∧ ios = []) := by
  rw [bodegaref24_ValidNode] at h
  refine spec_of Tryz.mixed Tryz.func52 rfl rfl (by simp only [List.length]; decide +kernel) ?_
  refine swp_fresh (fun g => stL [(0, (.agg (b_dt2w a0)))] [] (g + 1)) (ren_go (fun g S => []) fun g S => []) fun g => ?_
  refine go_seq ?_
  refine go_seq ?_
  refine cut1 (Joins (bodegaref24_ValidNode_J1 a0) (fun g _ => stL [(1, (.c (.ptr ⟨1024000001, g⟩ 0 0))), (3, (.c (.p (.bool ((a0.Right.Line == 0) && (a0.Right.Gen == 0))))))] [(⟨1024000001, g⟩, .box true (b_dt2w a0))] (g + 1)) res) ?_ (fun hj1 => ?_)
  ·refine join_of ?_
   rintro g ⟨⟩ h
   rw [bodegaref24_ValidNode_J1] at h
   try dsimp only
   refine cut1 (Joins (bodegaref24_ValidNode_J2 a0) (fun g _ => stL [(1, (.c (.ptr ⟨1024000002, g⟩ 0 0))), (3, (.c (.p (.bool ((a0.Right.Line == 0) && (a0.Right.Gen == 0))))))] [(⟨1024000002, g⟩, .box true (b_dt2w a0))] (g + 1)) res) ?_ (fun hj2 => ?_)
   ·refine join_of ?_
    rintro g ⟨⟩ h
    rw [bodegaref24_ValidNode_J2] at h
    try dsimp only
    refine cut1 (Joins (bodegaref24_ValidNode_J3 a0) (fun g _ => stL [(1, (.c (.ptr ⟨1024000003, g⟩ 0 0))), (3, (.c (.p (.bool ((a0.Right.Line == 0) && (a0.Right.Gen == 0))))))] [(⟨1024000003, g⟩, .box true (b_dt2w a0))] (g + 1)) res) ?_ (fun hj3 => ?_)
    ·refine join_of ?_
     rintro g ⟨⟩ h
     rw [bodegaref24_ValidNode_J3] at h
     try dsimp only
     refine seq_reg rfl (fun K hK => ?_)
     rcases hb63 : (!a0.Dead) with _ | _
     ·replace h : some ((a0.Level == 0) && (((a0.Entries.length : Int) == 0) && ((!a0.Leftmost) && (!((a0.Right.Line == 0) && (a0.Right.Gen == 0)))))) = some res := by first | exact h | (rw [or_f hb63] at h; exact h)
      rcases hb64 : (a0.Level == 0) with _ | _
      ·replace h : some false = some res := by first | exact h | (rw [and_f hb64] at h; exact h)
       simp -implicitDefEqProofs +decide only [go_sem, Nat.reduceAdd, Int.reduceToNat, hb63, hb64]
       refine hK _ ?_
       refine swp_ret ?_
       with_reducible repeat first|apply nn|apply nb|apply nr|apply nc|apply ne|apply nq|apply nx rfl
       obtain rfl := some_eq h
       exact rt
      ·replace h : some (((a0.Entries.length : Int) == 0) && ((!a0.Leftmost) && (!((a0.Right.Line == 0) && (a0.Right.Gen == 0))))) = some res := by first | exact h | (rw [and_t hb64] at h; exact h)
       rcases hb65 : ((a0.Entries.length : Int) == 0) with _ | _
       ·replace h : some false = some res := by first | exact h | (rw [and_f hb65] at h; exact h)
        simp -implicitDefEqProofs +decide only [go_sem, Nat.reduceAdd, Int.reduceToNat, hb63, hb64, hb65]
        refine hK _ ?_
        refine swp_ret ?_
        with_reducible repeat first|apply nn|apply nb|apply nr|apply nc|apply ne|apply nq|apply nx rfl
        obtain rfl := some_eq h
        exact rt
       ·replace h : some ((!a0.Leftmost) && (!((a0.Right.Line == 0) && (a0.Right.Gen == 0)))) = some res := by first | exact h | (rw [and_t hb65] at h; exact h)
        rcases hb66 : (!a0.Leftmost) with _ | _
        ·replace h : some false = some res := by first | exact h | (rw [and_f hb66] at h; exact h)
         simp -implicitDefEqProofs +decide only [go_sem, Nat.reduceAdd, Int.reduceToNat, hb63, hb64, hb65, hb66]
         refine hK _ ?_
         refine swp_ret ?_
         with_reducible repeat first|apply nn|apply nb|apply nr|apply nc|apply ne|apply nq|apply nx rfl
         obtain rfl := some_eq h
         exact rt
        ·replace h : some (!((a0.Right.Line == 0) && (a0.Right.Gen == 0))) = some res := by first | exact h | (rw [and_t hb66] at h; exact h)
         simp -implicitDefEqProofs +decide only [go_sem, Nat.reduceAdd, Int.reduceToNat, hb63, hb64, hb65, hb66]
         refine hK _ ?_
         refine swp_ret ?_
         with_reducible repeat first|apply nn|apply nb|apply nr|apply nc|apply ne|apply nq|apply nx rfl
         obtain rfl := some_eq h
         exact rt
     ·replace h : some true = some res := by first | exact h | (rw [or_t hb63] at h; exact h)
      simp -implicitDefEqProofs +decide only [go_sem, Nat.reduceAdd, Int.reduceToNat, hb63]
      refine hK _ ?_
      refine swp_ret ?_
      with_reducible repeat first|apply nn|apply nb|apply nr|apply nc|apply ne|apply nq|apply nx rfl
      obtain rfl := some_eq h
      exact rt
    refine swp_seq ?_
    refine seq_drw rfl (fun K hK => ?_)
    refine bsplit h (fun hb67 h => ?_) (fun hb67 h => ?_)
    ·refine bsplit h (fun hb68 h => ?_) (fun hb68 h => ?_)
     ·simp -implicitDefEqProofs +decide only [go_sem, Nat.reduceAdd, Int.reduceToNat, hb67, hb68]
      refine draw_go (by kernel_rfl) ?_
      refine hK _ ?_
      refine if_go ?_
      refine go_seq ?_
      refine swp_ret ?_
      with_reducible repeat first|apply nn|apply nb|apply nr|apply nc|apply ne|apply nq|apply nx rfl
      obtain rfl := some_eq h
      exact rt
     ·refine bind_of h (fun e69 he69 h => ?_)
      obtain ⟨he69_0, he69_1, he69_2⟩ := idx_some he69
      simp -implicitDefEqProofs +decide only [go_sem, Nat.reduceAdd, Int.reduceToNat, he69_0, he69_1, he69_2, hb67, hb68]
      refine draw_go (by kernel_rfl) ?_
      refine hK _ ?_
      refine bsplit h (fun hb70 h => ?_) (fun hb70 h => ?_)
      ·refine if_go ?_
       refine go_seq ?_
       refine swp_ret ?_
       with_reducible repeat first|apply nn|apply nb|apply nr|apply nc|apply ne|apply nq|apply nx rfl
       obtain rfl := some_eq h
       exact rt
      ·refine el_go ?_
       refine swp_skip ?_
       with_reducible repeat first|apply nn|apply nb|apply nr|apply nc|apply ne|apply nq|apply nx rfl
       exact jump_of hj3 h (ren_go (fun g S => [(⟨1024000003, g⟩, (keyT 0 (St.env S 1)))]) fun g S => [])
    ·simp -implicitDefEqProofs +decide only [go_sem, Nat.reduceAdd, Int.reduceToNat, hb67]
     refine draw_go (by kernel_rfl) ?_
     refine hK _ ?_
     refine el_go ?_
     refine swp_skip ?_
     with_reducible repeat first|apply nn|apply nb|apply nr|apply nc|apply ne|apply nq|apply nx rfl
     exact jump_of hj3 h (ren_go (fun g S => [(⟨1024000003, g⟩, (keyT 0 (St.env S 1)))]) fun g S => [])
   refine swp_seq ?_
   refine go_seq ?_
   refine swp_block ?_
   refine swp_iter (fun g x104 => stL [(1, (.c (.ptr ⟨1024000004, g⟩ 0 0))), (3, (.c (.p (.bool ((a0.Right.Line == 0) && (a0.Right.Gen == 0)))))), (4, (.c (.p (.int .i64 x104))))] [(⟨1024000004, g⟩, .box true (b_dt2w a0))] (g + 1)) h (enter_of (ren_go (fun g S => [(⟨1024000004, g⟩, (keyT 0 (St.env S 1)))]) fun g S => [])) ?_
   rintro g x104 s1 h hd1
   rw [bodegaref24_ValidNode_L1] at h
   try dsimp only
   refine swp_seq ?_
   refine go_seq ?_
   refine bsplit h (fun hb106 h => ?_) (fun hb106 h => ?_)
   ·refine if_go ?_
    refine swp_skip ?_
    with_reducible repeat first|apply nn|apply nb|apply nr|apply nc|apply ne|apply nq|apply nx rfl
    refine swp_seq ?_
    refine swp_block ?_
    refine seq_reg rfl (fun K hK => ?_)
    refine bind_of h (fun e107 he107 h => ?_)
    obtain ⟨he107_0, he107_1, he107_2⟩ := idx_some he107
    simp -implicitDefEqProofs +decide only [go_sem, Nat.reduceAdd, Int.reduceToNat, he107_0, he107_1, he107_2, hb106]
    refine hK _ ?_
    refine seq_drw rfl (fun K hK => ?_)
    refine bsplit h (fun hb108 h => ?_) (fun hb108 h => ?_)
    ·simp -implicitDefEqProofs +decide only [go_sem, Nat.reduceAdd, Int.reduceToNat, hb106, hb108]
     refine draw_go (by kernel_rfl) ?_
     refine hK _ ?_
     refine if_go ?_
     refine go_seq ?_
     refine swp_ret ?_
     with_reducible repeat first|apply nn|apply nb|apply nr|apply nc|apply ne|apply nq|apply nx rfl
     obtain ⟨h, hs1⟩ := exit_of h hd1
     refine ⟨hs1, ?_⟩
     with_reducible repeat first|apply nn|apply nb|apply nr|apply nc|apply ne|apply nq|apply nx rfl
     obtain rfl := some_eq h
     exact rt
    ·refine bsplit h (fun hb109 h => ?_) (fun hb109 h => ?_)
     ·simp -implicitDefEqProofs +decide only [go_sem, Nat.reduceAdd, Int.reduceToNat, hb106, hb108, hb109]
      refine draw_go (by kernel_rfl) ?_
      refine hK _ ?_
      refine if_go ?_
      refine go_seq ?_
      refine swp_ret ?_
      with_reducible repeat first|apply nn|apply nb|apply nr|apply nc|apply ne|apply nq|apply nx rfl
      obtain ⟨h, hs1⟩ := exit_of h hd1
      refine ⟨hs1, ?_⟩
      with_reducible repeat first|apply nn|apply nb|apply nr|apply nc|apply ne|apply nq|apply nx rfl
      obtain rfl := some_eq h
      exact rt
     ·refine bind_of h (fun v110 hv110 h => ?_)
      simp -implicitDefEqProofs +decide only [go_sem, Nat.reduceAdd, Int.reduceToNat, hb106, hb108, hb109]
      refine call_go [0] false (bodegaref19_ValidPointer_ok (cG G) hG0 _ _ hv110) ?_
      refine bsplit h (fun hb111 h => ?_) (fun hb111 h => ?_)
      ·simp -implicitDefEqProofs +decide only [go_sem, Nat.reduceAdd, Int.reduceToNat, hb106, hb108, hb109, hb111]
       refine draw_go (by kernel_rfl) ?_
       refine hK _ ?_
       refine if_go ?_
       refine go_seq ?_
       refine swp_ret ?_
       with_reducible repeat first|apply nn|apply nb|apply nr|apply nc|apply ne|apply nq|apply nx rfl
       obtain ⟨h, hs1⟩ := exit_of h hd1
       refine ⟨hs1, ?_⟩
       with_reducible repeat first|apply nn|apply nb|apply nr|apply nc|apply ne|apply nq|apply nx rfl
       obtain rfl := some_eq h
       exact rt
      ·refine bsplit h (fun hb112 h => ?_) (fun hb112 h => ?_)
       ·refine bsplit h (fun hb113 h => ?_) (fun hb113 h => ?_)
        ·simp -implicitDefEqProofs +decide only [go_sem, Nat.reduceAdd, Int.reduceToNat, hb106, hb108, hb109, hb111, hb112, hb113]
         refine draw_go (by kernel_rfl) ?_
         refine hK _ ?_
         refine if_go ?_
         refine go_seq ?_
         refine swp_ret ?_
         with_reducible repeat first|apply nn|apply nb|apply nr|apply nc|apply ne|apply nq|apply nx rfl
         obtain ⟨h, hs1⟩ := exit_of h hd1
         refine ⟨hs1, ?_⟩
         with_reducible repeat first|apply nn|apply nb|apply nr|apply nc|apply ne|apply nq|apply nx rfl
         obtain rfl := some_eq h
         exact rt
        ·refine bsplit h (fun hb114 h => ?_) (fun hb114 h => ?_)
         ·refine bind_of h (fun e115 he115 h => ?_)
          obtain ⟨he115_0, he115_1, he115_2⟩ := idx_some he115
          simp -implicitDefEqProofs +decide only [go_sem, Nat.reduceAdd, Int.reduceToNat, he115_0, he115_1, he115_2, hb106, hb108, hb109, hb111, hb112, hb113, hb114]
          refine draw_go (by kernel_rfl) ?_
          refine hK _ ?_
          refine bsplit h (fun hb116 h => ?_) (fun hb116 h => ?_)
          ·refine if_go ?_
           refine go_seq ?_
           refine swp_ret ?_
           with_reducible repeat first|apply nn|apply nb|apply nr|apply nc|apply ne|apply nq|apply nx rfl
           obtain ⟨h, hs1⟩ := exit_of h hd1
           refine ⟨hs1, ?_⟩
           with_reducible repeat first|apply nn|apply nb|apply nr|apply nc|apply ne|apply nq|apply nx rfl
           obtain rfl := some_eq h
           exact rt
          ·refine el_go ?_
           refine swp_skip ?_
           with_reducible repeat first|apply nn|apply nb|apply nr|apply nc|apply ne|apply nq|apply nx rfl
           refine go_swp ?_
           with_reducible repeat first|apply nn|apply nb|apply nr|apply nc|apply ne|apply nq|apply nx rfl
           exact back_of h (ren_go (fun g S => [(⟨1024000004, g⟩, (keyT 0 (St.env S 1)))]) fun g S => [])
         ·simp -implicitDefEqProofs +decide only [go_sem, Nat.reduceAdd, Int.reduceToNat, hb106, hb108, hb109, hb111, hb112, hb113, hb114]
          refine draw_go (by kernel_rfl) ?_
          refine hK _ ?_
          refine el_go ?_
          refine swp_skip ?_
          with_reducible repeat first|apply nn|apply nb|apply nr|apply nc|apply ne|apply nq|apply nx rfl
          refine go_swp ?_
          with_reducible repeat first|apply nn|apply nb|apply nr|apply nc|apply ne|apply nq|apply nx rfl
          exact back_of h (ren_go (fun g S => [(⟨1024000004, g⟩, (keyT 0 (St.env S 1)))]) fun g S => [])
       ·refine bsplit h (fun hb119 h => ?_) (fun hb119 h => ?_)
        ·refine bind_of h (fun e120 he120 h => ?_)
         obtain ⟨he120_0, he120_1, he120_2⟩ := idx_some he120
         simp -implicitDefEqProofs +decide only [go_sem, Nat.reduceAdd, Int.reduceToNat, he120_0, he120_1, he120_2, hb106, hb108, hb109, hb111, hb112, hb119]
         refine draw_go (by kernel_rfl) ?_
         refine hK _ ?_
         refine bsplit h (fun hb121 h => ?_) (fun hb121 h => ?_)
         ·refine if_go ?_
          refine go_seq ?_
          refine swp_ret ?_
          with_reducible repeat first|apply nn|apply nb|apply nr|apply nc|apply ne|apply nq|apply nx rfl
          obtain ⟨h, hs1⟩ := exit_of h hd1
          refine ⟨hs1, ?_⟩
          with_reducible repeat first|apply nn|apply nb|apply nr|apply nc|apply ne|apply nq|apply nx rfl
          obtain rfl := some_eq h
          exact rt
         ·refine el_go ?_
          refine swp_skip ?_
          with_reducible repeat first|apply nn|apply nb|apply nr|apply nc|apply ne|apply nq|apply nx rfl
          refine go_swp ?_
          with_reducible repeat first|apply nn|apply nb|apply nr|apply nc|apply ne|apply nq|apply nx rfl
          exact back_of h (ren_go (fun g S => [(⟨1024000004, g⟩, (keyT 0 (St.env S 1)))]) fun g S => [])
        ·simp -implicitDefEqProofs +decide only [go_sem, Nat.reduceAdd, Int.reduceToNat, hb106, hb108, hb109, hb111, hb112, hb119]
         refine draw_go (by kernel_rfl) ?_
         refine hK _ ?_
         refine el_go ?_
         refine swp_skip ?_
         with_reducible repeat first|apply nn|apply nb|apply nr|apply nc|apply ne|apply nq|apply nx rfl
         refine go_swp ?_
         with_reducible repeat first|apply nn|apply nb|apply nr|apply nc|apply ne|apply nq|apply nx rfl
         exact back_of h (ren_go (fun g S => [(⟨1024000004, g⟩, (keyT 0 (St.env S 1)))]) fun g S => [])
   ·refine el_go ?_
    refine swp_exit ?_
    with_reducible repeat first|apply nn|apply nb|apply nr|apply nc|apply ne|apply nq|apply nx rfl
    obtain ⟨h, hs1⟩ := exit_of h hd1
    with_reducible repeat first|apply nn|apply nb|apply nr|apply nc|apply ne|apply nq|apply nx rfl
    refine ⟨hs1, ?_⟩
    with_reducible repeat first|apply nn|apply nb|apply nr|apply nc|apply ne|apply nq|apply nx rfl
    exact jump_of hj2 h (ren_go (fun g S => [(⟨1024000002, g⟩, (keyT 0 (St.env S 1)))]) fun g S => [])
  refine swp_seq ?_
  refine seq_reg rfl (fun K hK => ?_)
  refine bsplit h (fun hb125 h => ?_) (fun hb125 h => ?_)
  ·simp -implicitDefEqProofs +decide only [go_sem, Nat.reduceAdd, Int.reduceToNat, hb125]
   refine hK _ ?_
   refine if_go ?_
   refine go_seq ?_
   refine swp_ret ?_
   with_reducible repeat first|apply nn|apply nb|apply nr|apply nc|apply ne|apply nq|apply nx rfl
   obtain rfl := some_eq h
   exact rt
  ·refine bsplit h (fun hb126 h => ?_) (fun hb126 h => ?_)
   ·simp -implicitDefEqProofs +decide only [go_sem, Nat.reduceAdd, Int.reduceToNat, hb125, hb126]
    refine hK _ ?_
    refine if_go ?_
    refine go_seq ?_
    refine swp_ret ?_
    with_reducible repeat first|apply nn|apply nb|apply nr|apply nc|apply ne|apply nq|apply nx rfl
    obtain rfl := some_eq h
    exact rt
   ·refine bsplit h (fun hb127 h => ?_) (fun hb127 h => ?_)
    ·simp -implicitDefEqProofs +decide only [go_sem, Nat.reduceAdd, Int.reduceToNat, hb125, hb126, hb127]
     refine hK _ ?_
     refine if_go ?_
     refine go_seq ?_
     refine swp_ret ?_
     with_reducible repeat first|apply nn|apply nb|apply nr|apply nc|apply ne|apply nq|apply nx rfl
     obtain rfl := some_eq h
     exact rt
    ·refine bsplit h (fun hb128 h => ?_) (fun hb128 h => ?_)
     ·simp -implicitDefEqProofs +decide only [go_sem, Nat.reduceAdd, Int.reduceToNat, hb125, hb126, hb127, hb128]
      refine hK _ ?_
      refine if_go ?_
      refine go_seq ?_
      refine swp_ret ?_
      with_reducible repeat first|apply nn|apply nb|apply nr|apply nc|apply ne|apply nq|apply nx rfl
      obtain rfl := some_eq h
      exact rt
     ·refine bsplit h (fun hb129 h => ?_) (fun hb129 h => ?_)
      ·refine bind_of h (fun v130 hv130 h => ?_)
       simp -implicitDefEqProofs +decide only [go_sem, Nat.reduceAdd, Int.reduceToNat, hb125, hb126, hb127, hb128, hb129]
       refine call_go [0] false (bodegaref19_ValidPointer_ok (cG G) hG0 _ _ hv130) ?_
       refine bsplit h (fun hb131 h => ?_) (fun hb131 h => ?_)
       ·simp -implicitDefEqProofs +decide only [go_sem, Nat.reduceAdd, Int.reduceToNat, hb125, hb126, hb127, hb128, hb129, hb131]
        refine hK _ ?_
        refine if_go ?_
        refine go_seq ?_
        refine swp_ret ?_
        with_reducible repeat first|apply nn|apply nb|apply nr|apply nc|apply ne|apply nq|apply nx rfl
        obtain rfl := some_eq h
        exact rt
       ·simp -implicitDefEqProofs +decide only [go_sem, Nat.reduceAdd, Int.reduceToNat, hb125, hb126, hb127, hb128, hb129, hb131]
        refine hK _ ?_
        refine bsplit h (fun hb132 h => ?_) (fun hb132 h => ?_)
        ·refine if_go ?_
         refine go_seq ?_
         refine swp_ret ?_
         with_reducible repeat first|apply nn|apply nb|apply nr|apply nc|apply ne|apply nq|apply nx rfl
         obtain rfl := some_eq h
         exact rt
        ·refine el_go ?_
         refine swp_skip ?_
         with_reducible repeat first|apply nn|apply nb|apply nr|apply nc|apply ne|apply nq|apply nx rfl
         exact jump_of hj1 h (ren_go (fun g S => [(⟨1024000001, g⟩, (keyT 0 (St.env S 1)))]) fun g S => [])
      ·simp -implicitDefEqProofs +decide only [go_sem, Nat.reduceAdd, Int.reduceToNat, hb125, hb126, hb127, hb128, hb129]
       refine hK _ ?_
       refine bsplit h (fun hb133 h => ?_) (fun hb133 h => ?_)
       ·refine if_go ?_
        refine go_seq ?_
        refine swp_ret ?_
        with_reducible repeat first|apply nn|apply nb|apply nr|apply nc|apply ne|apply nq|apply nx rfl
        obtain rfl := some_eq h
        exact rt
       ·refine el_go ?_
        refine swp_skip ?_
        with_reducible repeat first|apply nn|apply nb|apply nr|apply nc|apply ne|apply nq|apply nx rfl
        exact jump_of hj1 h (ren_go (fun g S => [(⟨1024000001, g⟩, (keyT 0 (St.env S 1)))]) fun g S => [])
end Go.Sh
end
section
namespace Go.Sh
open Go.Proofs
noncomputable def bodegaref24_ReadNode_J2 (v1 : Int) (a0 : api_Page) (x14 : bodegaref19_Pointer) (l52 : List bodegaref23_Entry) : Option (bodegaref24_Node × Int) :=
    (bodegaref24_ValidNode (⟨(IntKind.i64.wrap (Int.tmod v1 256)), ((bits .and .u32 (shrV .u32 v1 16) 1) == 1), ((bits .and .u32 (shrV .u32 v1 17) 1) == 1), (IntKind.u32.wrap a0.Data.a1), x14, l52⟩ : bodegaref24_Node)).bind fun v53 =>
    if (!v53) = true then
      some ((⟨0, false, false, 0, (⟨0, 0⟩ : bodegaref19_Pointer), ([] : List bodegaref23_Entry)⟩ : bodegaref24_Node), 14)
    else
      some ((⟨(IntKind.i64.wrap (Int.tmod v1 256)), ((bits .and .u32 (shrV .u32 v1 16) 1) == 1), ((bits .and .u32 (shrV .u32 v1 17) 1) == 1), (IntKind.u32.wrap a0.Data.a1), x14, l52⟩ : bodegaref24_Node), 0)
noncomputable def bodegaref24_ReadNode_J3 (x81 : Int) (v1 : Int) (a0 : api_Page) (l80 : List bodegaref23_Entry) : Unit → Option ((List bodegaref23_Entry × Int) ⊕ (bodegaref24_Node × Int))
  | () =>
    if (decide (x81 < (IntKind.i64.wrap (Int.tmod (IntKind.u32.wrap (Int.tdiv v1 256)) 256)))) = true then
      (bodegaref19_Unpack (IntKind.u32.wrap (A7.get a0.Data (IntKind.i64.wrap (2 + x81))))).bind fun v89 =>
      if (l80.length + 1) * 24 ≤ maxRows ∧ l80.length + 1 ≤ maxRows then
        some (.inl ((l80 ++ ([(⟨(IntKind.u32.wrap (shrV .u64 (A7.get a0.Data (IntKind.i64.wrap (2 + x81))) 32)), v89⟩ : bodegaref23_Entry)] : List bodegaref23_Entry)), (IntKind.i64.wrap (x81 + 1))))
      else none
    else
      some (.inl (l80, (IntKind.i64.wrap (x81 + 1))))
noncomputable def bodegaref24_ReadNode_L1 (v1 : Int) (a0 : api_Page) (x14 : bodegaref19_Pointer) : (List bodegaref23_Entry × Int) → Option ((List bodegaref23_Entry × Int) ⊕ (bodegaref24_Node × Int))
  | (l80, x81) =>
    if (decide (x81 < 5)) = true then
      if 0 ≤ (IntKind.i64.wrap (2 + x81)) ∧ (IntKind.i64.wrap (2 + x81)) < 7 then
        if (decide (x81 ≥ (IntKind.i64.wrap (Int.tmod (IntKind.u32.wrap (Int.tdiv v1 256)) 256)))) = true then
          if ((A7.get a0.Data (IntKind.i64.wrap (2 + x81))) != 0) = true then
            Option.map Sum.inr (
              some ((⟨0, false, false, 0, (⟨0, 0⟩ : bodegaref19_Pointer), ([] : List bodegaref23_Entry)⟩ : bodegaref24_Node), 14))
          else
            bodegaref24_ReadNode_J3 x81 v1 a0 l80 ()
        else
          bodegaref24_ReadNode_J3 x81 v1 a0 l80 ()
      else none
    else
      Option.map Sum.inr (
        bodegaref24_ReadNode_J2 v1 a0 x14 l80)
noncomputable def bodegaref24_ReadNode_J1 (v1 : Int) (a0 : api_Page) (x14 : bodegaref19_Pointer) : Option (bodegaref24_Node × Int) :=
    iter (bodegaref24_ReadNode_L1 v1 a0 x14) (([] : List bodegaref23_Entry), 0)
noncomputable def bodegaref24_ReadNode (a0 : api_Page) : Option (bodegaref24_Node × Int) :=
  (bodegaref19_Aux a0).bind fun v1 =>
  (bodegaref19_Kind a0).bind fun v6 =>
  if (v6 != 4) = true then
    some ((⟨0, false, false, 0, (⟨0, 0⟩ : bodegaref19_Pointer), ([] : List bodegaref23_Entry)⟩ : bodegaref24_Node), 14)
  else
    if ((shrV .u32 v1 18) != 0) = true then
      some ((⟨0, false, false, 0, (⟨0, 0⟩ : bodegaref19_Pointer), ([] : List bodegaref23_Entry)⟩ : bodegaref24_Node), 14)
    else
      if (decide ((IntKind.i64.wrap (Int.tmod (IntKind.u32.wrap (Int.tdiv v1 256)) 256)) > 5)) = true then
        some ((⟨0, false, false, 0, (⟨0, 0⟩ : bodegaref19_Pointer), ([] : List bodegaref23_Entry)⟩ : bodegaref24_Node), 14)
      else
        if ((IntKind.u32.wrap (shrV .u64 a0.Data.a1 32)) != 0) = true then
          (bodegaref19_Unpack (IntKind.u32.wrap (shrV .u64 a0.Data.a1 32))).bind fun v101 =>
          (bodegaref19_ValidPointer v101).bind fun v102 =>
          if (!v102) = true then
            some ((⟨0, false, false, 0, (⟨0, 0⟩ : bodegaref19_Pointer), ([] : List bodegaref23_Entry)⟩ : bodegaref24_Node), 14)
          else
            bodegaref24_ReadNode_J1 v1 a0 v101
        else
          bodegaref24_ReadNode_J1 v1 a0 (⟨0, 0⟩ : bodegaref19_Pointer)
theorem bodegaref24_ReadNode_ok (G : Glob) (hG0 : G.glob 0 = some [(.int .i64 0), (.int .i64 0)]) (a0 : api_Page) (res : (bodegaref24_Node × Int)) (h : bodegaref24_ReadNode a0 = some res) : Spec Tryz.prog G 23 [.agg (g_yylp a0)] (fun r ios => r = .tup [.agg (g_wqqx res.1), .cell (.p (.int .i64 res.2))] ∧ ios = []) := by
  rw [bodegaref24_ReadNode] at h
  refine spec_of Tryz.mixed Tryz.func23 rfl rfl (by simp only [List.length]; decide +kernel) ?_
  refine swp_fresh (fun g => stL [(0, (.agg (b_mq86 a0)))] [] (g + 1)) (ren_go (fun g S => []) fun g S => []) fun g => ?_
  refine go_seq ?_
  refine seq_reg rfl (fun K hK => ?_)
  refine bind_of h (fun v1 hv1 h => ?_)
  simp -implicitDefEqProofs +decide only [go_sem, Nat.reduceAdd, Int.reduceToNat]
  refine call_go [0] false (bodegaref19_Aux_ok (cG G) hG0 _ _ hv1) ?_
  simp -implicitDefEqProofs +decide only [go_sem, Nat.reduceAdd, Int.reduceToNat]
  refine hK _ ?_
  refine go_seq ?_
  refine go_seq ?_
  refine go_seq ?_
  refine swp_seq ?_
  refine seq_reg rfl (fun K hK => ?_)
  refine bind_of h (fun v6 hv6 h => ?_)
  simp -implicitDefEqProofs +decide only [go_sem, Nat.reduceAdd, Int.reduceToNat]
  refine call_go [0] false (bodegaref19_Kind_ok (cG G) hG0 _ _ hv6) ?_
  refine bsplit h (fun hb7 h => ?_) (fun hb7 h => ?_)
  ·simp -implicitDefEqProofs +decide only [go_sem, Nat.reduceAdd, Int.reduceToNat, hb7]
   refine hK _ ?_
   refine if_go ?_
   refine go_seq ?_
   refine swp_fresh (fun g => stL [(2, (.c (.ptr ⟨1024000001, g⟩ 0 0))), (3, (.c (.p (.int .i64 14))))] [(⟨1024000001, g⟩, .box true [(.p (.int .i64 0)), (.p (.bool false)), (.p (.bool false)), (.p (.int .u32 0)), (.p (.int .i64 0)), (.p (.int .i64 0)), (.ref ⟨1024000002, g⟩ 0 ([] : List bodegaref23_Entry).length)]), (⟨1024000002, g⟩, .arr true 3 (([] : List bodegaref23_Entry).map r_bodegaref23_Entry))] (g + 1)) (ren_go (fun g S => [(⟨1024000001, g⟩, (keyT 0 (St.env S 2)))]) fun g S => [(⟨1024000002, g⟩, 3)]) fun g => ?_
   refine swp_ret ?_
   with_reducible repeat first|apply nn|apply nb|apply nr|apply nc|apply ne|apply nq|apply nx rfl
   obtain rfl := some_eq h
   exact rt
  ·refine bsplit h (fun hb8 h => ?_) (fun hb8 h => ?_)
   ·simp -implicitDefEqProofs +decide only [go_sem, Nat.reduceAdd, Int.reduceToNat, hb7, hb8]
    refine hK _ ?_
    refine if_go ?_
    refine go_seq ?_
    refine swp_fresh (fun g => stL [(2, (.c (.ptr ⟨1024000003, g⟩ 0 0))), (3, (.c (.p (.int .i64 14))))] [(⟨1024000003, g⟩, .box true [(.p (.int .i64 0)), (.p (.bool false)), (.p (.bool false)), (.p (.int .u32 0)), (.p (.int .i64 0)), (.p (.int .i64 0)), (.ref ⟨1024000004, g⟩ 0 ([] : List bodegaref23_Entry).length)]), (⟨1024000004, g⟩, .arr true 3 (([] : List bodegaref23_Entry).map r_bodegaref23_Entry))] (g + 1)) (ren_go (fun g S => [(⟨1024000003, g⟩, (keyT 0 (St.env S 2)))]) fun g S => [(⟨1024000004, g⟩, 3)]) fun g => ?_
    refine swp_ret ?_
    with_reducible repeat first|apply nn|apply nb|apply nr|apply nc|apply ne|apply nq|apply nx rfl
    obtain rfl := some_eq h
    exact rt
   ·simp -implicitDefEqProofs +decide only [go_sem, Nat.reduceAdd, Int.reduceToNat, hb7, hb8]
    refine hK _ ?_
    refine bsplit h (fun hb9 h => ?_) (fun hb9 h => ?_)
    ·refine if_go ?_
     refine go_seq ?_
     refine swp_fresh (fun g => stL [(2, (.c (.ptr ⟨1024000005, g⟩ 0 0))), (3, (.c (.p (.int .i64 14))))] [(⟨1024000005, g⟩, .box true [(.p (.int .i64 0)), (.p (.bool false)), (.p (.bool false)), (.p (.int .u32 0)), (.p (.int .i64 0)), (.p (.int .i64 0)), (.ref ⟨1024000006, g⟩ 0 ([] : List bodegaref23_Entry).length)]), (⟨1024000006, g⟩, .arr true 3 (([] : List bodegaref23_Entry).map r_bodegaref23_Entry))] (g + 1)) (ren_go (fun g S => [(⟨1024000005, g⟩, (keyT 0 (St.env S 2)))]) fun g S => [(⟨1024000006, g⟩, 3)]) fun g => ?_
     refine swp_ret ?_
     with_reducible repeat first|apply nn|apply nb|apply nr|apply nc|apply ne|apply nq|apply nx rfl
     obtain rfl := some_eq h
     exact rt
    ·refine el_go ?_
     refine swp_skip ?_
     with_reducible repeat first|apply nn|apply nb|apply nr|apply nc|apply ne|apply nq|apply nx rfl
     refine cut1 (Joins (bodegaref24_ReadNode_J1 v1 a0) (fun g x14 => stL [(1, (.c (.ptr ⟨1024000007, g⟩ 0 0))), (2, (.c (.ptr ⟨1024000008, g⟩ 0 0))), (5, (.c (.p (.int .i64 (IntKind.i64.wrap (Int.tmod (IntKind.u32.wrap (Int.tdiv v1 256)) 256)))))), (6, (.c (.ptr ⟨1024000009, g⟩ 0 0)))] [(⟨1024000007, g⟩, .box true (b_mq86 a0)), (⟨1024000008, g⟩, .box true [(.p (.int .i64 0)), (.p (.bool false)), (.p (.bool false)), (.p (.int .u32 0)), (.p (.int .i64 0)), (.p (.int .i64 0)), .nilS]), (⟨1024000009, g⟩, .box true [(.p (.int .i64 (IntKind.i64.wrap (Int.tmod v1 256)))), (.p (.bool ((bits .and .u32 (shrV .u32 v1 16) 1) == 1))), (.p (.bool ((bits .and .u32 (shrV .u32 v1 17) 1) == 1))), (.p (.int .u32 (IntKind.u32.wrap a0.Data.a1))), (.p (.int .i64 x14.Line)), (.p (.int .i64 x14.Gen)), .nilS])] (g + 1)) res) ?_ (fun hj1 => ?_)
     ·refine join_of ?_
      rintro g x14 h
      rw [bodegaref24_ReadNode_J1] at h
      try dsimp only
      refine cut1 (Joins (bodegaref24_ReadNode_J2 v1 a0 x14) (fun g l52 => stL [(2, (.c (.ptr ⟨1024000010, g⟩ 0 0))), (6, (.c (.ptr ⟨1024000011, g⟩ 0 0)))] [(⟨1024000010, g⟩, .box true [(.p (.int .i64 0)), (.p (.bool false)), (.p (.bool false)), (.p (.int .u32 0)), (.p (.int .i64 0)), (.p (.int .i64 0)), .nilS]), (⟨1024000011, g⟩, .box true [(.p (.int .i64 (IntKind.i64.wrap (Int.tmod v1 256)))), (.p (.bool ((bits .and .u32 (shrV .u32 v1 16) 1) == 1))), (.p (.bool ((bits .and .u32 (shrV .u32 v1 17) 1) == 1))), (.p (.int .u32 (IntKind.u32.wrap a0.Data.a1))), (.p (.int .i64 x14.Line)), (.p (.int .i64 x14.Gen)), (.ref ⟨1024000012, g⟩ 0 l52.length)]), (⟨1024000012, g⟩, .arr true 3 (l52.map r_bodegaref23_Entry))] (g + 1)) res) ?_ (fun hj2 => ?_)
      ·refine join_of ?_
       rintro g l52 h
       rw [bodegaref24_ReadNode_J2] at h
       try dsimp only
       refine swp_seq ?_
       refine seq_reg rfl (fun K hK => ?_)
       refine bind_of h (fun v53 hv53 h => ?_)
       simp -implicitDefEqProofs +decide only [go_sem, Nat.reduceAdd, Int.reduceToNat, hb7, hb8, hb9]
       refine call_go [0] false (bodegaref24_ValidNode_ok (cG G) hG0 _ _ hv53) ?_
       simp -implicitDefEqProofs +decide only [go_sem, Nat.reduceAdd, Int.reduceToNat, hb7, hb8, hb9]
       refine hK _ ?_
       refine bsplit h (fun hb54 h => ?_) (fun hb54 h => ?_)
       ·refine if_go ?_
        refine go_seq ?_
        refine swp_fresh (fun g => stL [(2, (.c (.ptr ⟨1024000013, g⟩ 0 0))), (3, (.c (.p (.int .i64 14))))] [(⟨1024000013, g⟩, .box true [(.p (.int .i64 0)), (.p (.bool false)), (.p (.bool false)), (.p (.int .u32 0)), (.p (.int .i64 0)), (.p (.int .i64 0)), (.ref ⟨1024000014, g⟩ 0 ([] : List bodegaref23_Entry).length)]), (⟨1024000014, g⟩, .arr true 3 (([] : List bodegaref23_Entry).map r_bodegaref23_Entry))] (g + 1)) (ren_go (fun g S => [(⟨1024000013, g⟩, (keyT 0 (St.env S 2)))]) fun g S => [(⟨1024000014, g⟩, 3)]) fun g => ?_
        refine swp_ret ?_
        with_reducible repeat first|apply nn|apply nb|apply nr|apply nc|apply ne|apply nq|apply nx rfl
        obtain rfl := some_eq h
        exact rt
       ·refine el_go ?_
        refine swp_skip ?_
        with_reducible repeat first|apply nn|apply nb|apply nr|apply nc|apply ne|apply nq|apply nx rfl
        refine go_seq ?_
        refine swp_ret ?_
        with_reducible repeat first|apply nn|apply nb|apply nr|apply nc|apply ne|apply nq|apply nx rfl
        obtain rfl := some_eq h
        exact rt
      refine swp_seq ?_
      refine go_seq ?_
      refine swp_block ?_
      refine swp_iter (fun g x => match x with | (l80, x81) => stL [(1, (.c (.ptr ⟨1024000015, g⟩ 0 0))), (2, (.c (.ptr ⟨1024000016, g⟩ 0 0))), (5, (.c (.p (.int .i64 (IntKind.i64.wrap (Int.tmod (IntKind.u32.wrap (Int.tdiv v1 256)) 256)))))), (6, (.c (.ptr ⟨1024000017, g⟩ 0 0))), (8, (.c (.p (.int .i64 x81))))] [(⟨1024000015, g⟩, .box true (b_mq86 a0)), (⟨1024000016, g⟩, .box true [(.p (.int .i64 0)), (.p (.bool false)), (.p (.bool false)), (.p (.int .u32 0)), (.p (.int .i64 0)), (.p (.int .i64 0)), .nilS]), (⟨1024000017, g⟩, .box true [(.p (.int .i64 (IntKind.i64.wrap (Int.tmod v1 256)))), (.p (.bool ((bits .and .u32 (shrV .u32 v1 16) 1) == 1))), (.p (.bool ((bits .and .u32 (shrV .u32 v1 17) 1) == 1))), (.p (.int .u32 (IntKind.u32.wrap a0.Data.a1))), (.p (.int .i64 x14.Line)), (.p (.int .i64 x14.Gen)), (.ref ⟨1024000018, g⟩ 0 l80.length)]), (⟨1024000018, g⟩, .arr true 3 (l80.map r_bodegaref23_Entry))] (g + 1)) h (enter_of (ren_go (fun g S => [(⟨1024000015, g⟩, (keyT 0 (St.env S 1))), (⟨1024000016, g⟩, (keyT 0 (St.env S 2))), (⟨1024000017, g⟩, (keyT 0 (St.env S 6)))]) fun g S => [(⟨1024000018, g⟩, 3)])) ?_
      rintro g ⟨l80, x81⟩ s1 h hd1
      rw [bodegaref24_ReadNode_L1] at h
      try dsimp only
      refine swp_seq ?_
      refine go_seq ?_
      refine bsplit h (fun hb84 h => ?_) (fun hb84 h => ?_)
      ·refine if_go ?_
       refine swp_skip ?_
       with_reducible repeat first|apply nn|apply nb|apply nr|apply nc|apply ne|apply nq|apply nx rfl
       refine swp_seq ?_
       refine swp_block ?_
       refine seq_reg rfl (fun K hK => ?_)
       refine psplit h (fun hp85 h => ?_)
       simp -implicitDefEqProofs +decide only [go_sem, Nat.reduceAdd, Int.reduceToNat, hp85, hb84]
       first | refine opt_get (x := (.p (.int .u64 (A7.get a0.Data (IntKind.i64.wrap (2 + x81)))))) (by rcases cases7 hp85.1 hp85.2 with hc | hc | hc | hc | hc | hc | hc <;> simp [hc, A7.get]) ?_ | refine opt_get' (x := (.p (.int .u64 (A7.get a0.Data (IntKind.i64.wrap (2 + x81)))))) (by rcases cases7 hp85.1 hp85.2 with hc | hc | hc | hc | hc | hc | hc <;> simp [hc, A7.get]) ?_
       simp -implicitDefEqProofs +decide only [go_sem, Nat.reduceAdd, Int.reduceToNat, hb84]
       refine hK _ ?_
       refine cut1 (Joins (bodegaref24_ReadNode_J3 x81 v1 a0 l80) (fun g _ => stL [(1, (.c (.ptr ⟨1024000019, g⟩ 0 0))), (2, (.c (.ptr ⟨1024000020, g⟩ 0 0))), (5, (.c (.p (.int .i64 (IntKind.i64.wrap (Int.tmod (IntKind.u32.wrap (Int.tdiv v1 256)) 256)))))), (6, (.c (.ptr ⟨1024000021, g⟩ 0 0))), (8, (.c (.p (.int .i64 x81)))), (9, (.c (.p (.int .u64 (A7.get a0.Data (IntKind.i64.wrap (2 + x81)))))))] [(⟨1024000019, g⟩, .box true (b_mq86 a0)), (⟨1024000020, g⟩, .box true [(.p (.int .i64 0)), (.p (.bool false)), (.p (.bool false)), (.p (.int .u32 0)), (.p (.int .i64 0)), (.p (.int .i64 0)), .nilS]), (⟨1024000021, g⟩, .box true [(.p (.int .i64 (IntKind.i64.wrap (Int.tmod v1 256)))), (.p (.bool ((bits .and .u32 (shrV .u32 v1 16) 1) == 1))), (.p (.bool ((bits .and .u32 (shrV .u32 v1 17) 1) == 1))), (.p (.int .u32 (IntKind.u32.wrap a0.Data.a1))), (.p (.int .i64 x14.Line)), (.p (.int .i64 x14.Gen)), (.ref ⟨1024000022, g⟩ 0 l80.length)]), (⟨1024000022, g⟩, .arr true 3 (l80.map r_bodegaref23_Entry))] (g + 1)) s1) ?_ (fun hj3 => ?_)
       ·refine join_of ?_
        rintro g ⟨⟩ h
        rw [bodegaref24_ReadNode_J3] at h
        try dsimp only
        refine go_seq ?_
        refine bsplit h (fun hb88 h => ?_) (fun hb88 h => ?_)
        ·refine if_go ?_
         refine swp_drw rfl (fun K hK => ?_)
         refine bind_of h (fun v89 hv89 h => ?_)
         simp -implicitDefEqProofs +decide only [go_sem, Nat.reduceAdd, Int.reduceToNat, hb84, hb88]
         refine call_go [0] false (bodegaref19_Unpack_ok (cG G) hG0 _ _ hv89) ?_
         refine psplit h (fun hp90 h => ?_)
         simp -implicitDefEqProofs +decide only [go_sem, Nat.reduceAdd, Int.reduceToNat, hp90, hb84, hb88]
         refine draw_go (by kernel_rfl) ?_
         refine hK _ ?_
         with_reducible repeat first|apply nn|apply nb|apply nr|apply nc|apply ne|apply nq|apply nx rfl
         refine swp_fresh (fun g => stL [(1, (.c (.ptr ⟨1024000023, g⟩ 0 0))), (2, (.c (.ptr ⟨1024000024, g⟩ 0 0))), (5, (.c (.p (.int .i64 (IntKind.i64.wrap (Int.tmod (IntKind.u32.wrap (Int.tdiv v1 256)) 256)))))), (6, (.c (.ptr ⟨1024000025, g⟩ 0 0))), (8, (.c (.p (.int .i64 x81))))] [(⟨1024000023, g⟩, .box true (b_mq86 a0)), (⟨1024000024, g⟩, .box true [(.p (.int .i64 0)), (.p (.bool false)), (.p (.bool false)), (.p (.int .u32 0)), (.p (.int .i64 0)), (.p (.int .i64 0)), .nilS]), (⟨1024000025, g⟩, .box true [(.p (.int .i64 (IntKind.i64.wrap (Int.tmod v1 256)))), (.p (.bool ((bits .and .u32 (shrV .u32 v1 16) 1) == 1))), (.p (.bool ((bits .and .u32 (shrV .u32 v1 17) 1) == 1))), (.p (.int .u32 (IntKind.u32.wrap a0.Data.a1))), (.p (.int .i64 x14.Line)), (.p (.int .i64 x14.Gen)), (.ref ⟨1024000026, g⟩ 0 (l80 ++ ([(⟨(IntKind.u32.wrap (shrV .u64 (A7.get a0.Data (IntKind.i64.wrap (2 + x81))) 32)), v89⟩ : bodegaref23_Entry)] : List bodegaref23_Entry)).length)]), (⟨1024000026, g⟩, .arr true 3 ((l80 ++ ([(⟨(IntKind.u32.wrap (shrV .u64 (A7.get a0.Data (IntKind.i64.wrap (2 + x81))) 32)), v89⟩ : bodegaref23_Entry)] : List bodegaref23_Entry)).map r_bodegaref23_Entry))] (g + 1)) (ren_go (fun g S => [(⟨1024000023, g⟩, (keyT 0 (St.env S 1))), (⟨1024000024, g⟩, (keyT 0 (St.env S 2))), (⟨1024000025, g⟩, (keyT 0 (St.env S 6))), (⟨1024000026, g⟩, (keyB 6 (St.heap S (keyT 0 (St.env S 6)))))]) fun g S => []) fun g => ?_
         refine go_swp ?_
         with_reducible repeat first|apply nn|apply nb|apply nr|apply nc|apply ne|apply nq|apply nx rfl
         exact back_of h (ren_go (fun g S => [(⟨1024000015, g⟩, (keyT 0 (St.env S 1))), (⟨1024000016, g⟩, (keyT 0 (St.env S 2))), (⟨1024000017, g⟩, (keyT 0 (St.env S 6))), (⟨1024000018, g⟩, (keyB 6 (St.heap S (keyT 0 (St.env S 6)))))]) fun g S => [])
        ·refine el_go ?_
         refine swp_skip ?_
         with_reducible repeat first|apply nn|apply nb|apply nr|apply nc|apply ne|apply nq|apply nx rfl
         refine go_swp ?_
         with_reducible repeat first|apply nn|apply nb|apply nr|apply nc|apply ne|apply nq|apply nx rfl
         exact back_of h (ren_go (fun g S => [(⟨1024000015, g⟩, (keyT 0 (St.env S 1))), (⟨1024000016, g⟩, (keyT 0 (St.env S 2))), (⟨1024000017, g⟩, (keyT 0 (St.env S 6))), (⟨1024000018, g⟩, (keyB 6 (St.heap S (keyT 0 (St.env S 6)))))]) fun g S => [])
       refine swp_seq ?_
       refine seq_reg rfl (fun K hK => ?_)
       refine bsplit h (fun hb95 h => ?_) (fun hb95 h => ?_)
       ·simp -implicitDefEqProofs +decide only [go_sem, Nat.reduceAdd, Int.reduceToNat, hb84, hb95]
        refine hK _ ?_
        refine bsplit h (fun hb96 h => ?_) (fun hb96 h => ?_)
        ·refine if_go ?_
         refine go_seq ?_
         refine swp_fresh (fun g => stL [(2, (.c (.ptr ⟨1024000027, g⟩ 0 0))), (3, (.c (.p (.int .i64 14))))] [(⟨1024000027, g⟩, .box true [(.p (.int .i64 0)), (.p (.bool false)), (.p (.bool false)), (.p (.int .u32 0)), (.p (.int .i64 0)), (.p (.int .i64 0)), (.ref ⟨1024000028, g⟩ 0 ([] : List bodegaref23_Entry).length)]), (⟨1024000028, g⟩, .arr true 3 (([] : List bodegaref23_Entry).map r_bodegaref23_Entry))] (g + 1)) (ren_go (fun g S => [(⟨1024000027, g⟩, (keyT 0 (St.env S 2)))]) fun g S => [(⟨1024000028, g⟩, 3)]) fun g => ?_
         refine swp_ret ?_
         with_reducible repeat first|apply nn|apply nb|apply nr|apply nc|apply ne|apply nq|apply nx rfl
         obtain ⟨h, hs1⟩ := exit_of h hd1
         refine ⟨hs1, ?_⟩
         with_reducible repeat first|apply nn|apply nb|apply nr|apply nc|apply ne|apply nq|apply nx rfl
         obtain rfl := some_eq h
         exact rt
        ·refine el_go ?_
         refine swp_skip ?_
         with_reducible repeat first|apply nn|apply nb|apply nr|apply nc|apply ne|apply nq|apply nx rfl
         exact jump_of hj3 h (ren_go (fun g S => [(⟨1024000019, g⟩, (keyT 0 (St.env S 1))), (⟨1024000020, g⟩, (keyT 0 (St.env S 2))), (⟨1024000021, g⟩, (keyT 0 (St.env S 6))), (⟨1024000022, g⟩, (keyB 6 (St.heap S (keyT 0 (St.env S 6)))))]) fun g S => [])
       ·simp -implicitDefEqProofs +decide only [go_sem, Nat.reduceAdd, Int.reduceToNat, hb84, hb95]
        refine hK _ ?_
        refine el_go ?_
        refine swp_skip ?_
        with_reducible repeat first|apply nn|apply nb|apply nr|apply nc|apply ne|apply nq|apply nx rfl
        exact jump_of hj3 h (ren_go (fun g S => [(⟨1024000019, g⟩, (keyT 0 (St.env S 1))), (⟨1024000020, g⟩, (keyT 0 (St.env S 2))), (⟨1024000021, g⟩, (keyT 0 (St.env S 6))), (⟨1024000022, g⟩, (keyB 6 (St.heap S (keyT 0 (St.env S 6)))))]) fun g S => [])
      ·refine el_go ?_
       refine swp_exit ?_
       with_reducible repeat first|apply nn|apply nb|apply nr|apply nc|apply ne|apply nq|apply nx rfl
       obtain ⟨h, hs1⟩ := exit_of h hd1
       with_reducible repeat first|apply nn|apply nb|apply nr|apply nc|apply ne|apply nq|apply nx rfl
       refine ⟨hs1, ?_⟩
       with_reducible repeat first|apply nn|apply nb|apply nr|apply nc|apply ne|apply nq|apply nx rfl
       exact jump_of hj2 h (ren_go (fun g S => [(⟨1024000010, g⟩, (keyT 0 (St.env S 2))), (⟨1024000011, g⟩, (keyT 0 (St.env S 6))), (⟨1024000012, g⟩, (keyB 6 (St.heap S (keyT 0 (St.env S 6)))))]) fun g S => [])
     refine swp_seq ?_
     refine go_seq ?_
     refine bsplit h (fun hb100 h => ?_) (fun hb100 h => ?_)
     ·refine if_go ?_
      refine seq_reg rfl (fun K hK => ?_)
      refine bind_of h (fun v101 hv101 h => ?_)
      simp -implicitDefEqProofs +decide only [go_sem, Nat.reduceAdd, Int.reduceToNat, hb7, hb8, hb9, hb100]
      refine call_go [0] false (bodegaref19_Unpack_ok (cG G) hG0 _ _ hv101) ?_
      simp -implicitDefEqProofs +decide only [go_sem, Nat.reduceAdd, Int.reduceToNat, hb7, hb8, hb9, hb100]
      refine hK _ ?_
      refine seq_reg rfl (fun K hK => ?_)
      refine bind_of h (fun v102 hv102 h => ?_)
      simp -implicitDefEqProofs +decide only [go_sem, Nat.reduceAdd, Int.reduceToNat, hb7, hb8, hb9, hb100]
      refine call_go [0] false (bodegaref19_ValidPointer_ok (cG G) hG0 _ _ hv102) ?_
      simp -implicitDefEqProofs +decide only [go_sem, Nat.reduceAdd, Int.reduceToNat, hb7, hb8, hb9, hb100]
      refine hK _ ?_
      refine bsplit h (fun hb103 h => ?_) (fun hb103 h => ?_)
      ·refine if_go ?_
       refine go_seq ?_
       refine swp_fresh (fun g => stL [(2, (.c (.ptr ⟨1024000029, g⟩ 0 0))), (3, (.c (.p (.int .i64 14))))] [(⟨1024000029, g⟩, .box true [(.p (.int .i64 0)), (.p (.bool false)), (.p (.bool false)), (.p (.int .u32 0)), (.p (.int .i64 0)), (.p (.int .i64 0)), (.ref ⟨1024000030, g⟩ 0 ([] : List bodegaref23_Entry).length)]), (⟨1024000030, g⟩, .arr true 3 (([] : List bodegaref23_Entry).map r_bodegaref23_Entry))] (g + 1)) (ren_go (fun g S => [(⟨1024000029, g⟩, (keyT 0 (St.env S 2)))]) fun g S => [(⟨1024000030, g⟩, 3)]) fun g => ?_
       refine swp_ret ?_
       with_reducible repeat first|apply nn|apply nb|apply nr|apply nc|apply ne|apply nq|apply nx rfl
       obtain rfl := some_eq h
       exact rt
      ·refine el_go ?_
       refine swp_skip ?_
       with_reducible repeat first|apply nn|apply nb|apply nr|apply nc|apply ne|apply nq|apply nx rfl
       exact jump_of hj1 h (ren_go (fun g S => [(⟨1024000007, g⟩, (keyT 0 (St.env S 1))), (⟨1024000008, g⟩, (keyT 0 (St.env S 2))), (⟨1024000009, g⟩, (keyT 0 (St.env S 6)))]) fun g S => [])
     ·refine el_go ?_
      refine swp_skip ?_
      with_reducible repeat first|apply nn|apply nb|apply nr|apply nc|apply ne|apply nq|apply nx rfl
      exact jump_of hj1 h (ren_go (fun g S => [(⟨1024000007, g⟩, (keyT 0 (St.env S 1))), (⟨1024000008, g⟩, (keyT 0 (St.env S 2))), (⟨1024000009, g⟩, (keyT 0 (St.env S 6)))]) fun g S => [])
end Go.Sh
end
section
namespace Go.Sh
open Go.Proofs
noncomputable def bodegaref19_Gen (a0 : api_Page) : Option Int :=
  some (IntKind.i64.wrap (Int.tmod (IntKind.u64.wrap (Int.tdiv a0.Data.a0 256)) 16777216))
theorem bodegaref19_Gen_ok (G : Glob) (hG0 : G.glob 0 = some [(.int .i64 0), (.int .i64 0)]) (a0 : api_Page) (res : Int) (h : bodegaref19_Gen a0 = some res) : Spec Tryz.prog G 54 [.agg (g_yylp a0)] (fun r ios => r = .cell (.p (.int .i64 res)) ∧ ios = []) := by
  rw [bodegaref19_Gen] at h
  refine spec_of Tryz.mixed Tryz.func54 rfl rfl (by simp only [List.length]; decide +kernel) ?_
  refine swp_fresh (fun g => stL [(0, (.agg (b_mq86 a0)))] [] (g + 1)) (ren_go (fun g S => []) fun g S => []) fun g => ?_
  refine go_seq ?_
  refine go_seq ?_
  refine swp_ret ?_
  with_reducible repeat first|apply nn|apply nb|apply nr|apply nc|apply ne|apply nq|apply nx rfl
  obtain rfl := some_eq h
  exact rt
end Go.Sh
end
section
namespace Go.Sh
open Go.Proofs
noncomputable def bodegaref19_Tag (a0 : Int) (a1 : Int) (a2 : Int) : Option Int :=
  some (IntKind.u64.wrap ((IntKind.u64.wrap ((Int.tmod (IntKind.u64.wrap a0) 256) + (IntKind.u64.wrap ((Int.tmod (IntKind.u64.wrap a1) 16777216) * 256)))) + (shlV .u64 (IntKind.u64.wrap a2) 32)))
theorem bodegaref19_Tag_ok (G : Glob) (hG0 : G.glob 0 = some [(.int .i64 0), (.int .i64 0)]) (a0 : Int) (a1 : Int) (a2 : Int) (res : Int) (h : bodegaref19_Tag a0 a1 a2 = some res) : Spec Tryz.prog G 53 [.cell (.p (.int .i64 a0)), .cell (.p (.int .i64 a1)), .cell (.p (.int .u32 a2))] (fun r ios => r = .cell (.p (.int .u64 res)) ∧ ios = []) := by
  rw [bodegaref19_Tag] at h
  refine spec_of Tryz.mixed Tryz.func53 rfl rfl (by simp only [List.length]; decide +kernel) ?_
  refine swp_fresh (fun g => stL [(0, (.c (.p (.int .i64 a0)))), (1, (.c (.p (.int .i64 a1)))), (2, (.c (.p (.int .u32 a2))))] [] (g + 1)) (ren_go (fun g S => []) fun g S => []) fun g => ?_
  refine go_seq ?_
  refine go_seq ?_
  refine swp_ret ?_
  with_reducible repeat first|apply nn|apply nb|apply nr|apply nc|apply ne|apply nq|apply nx rfl
  obtain rfl := some_eq h
  exact rt
end Go.Sh
end
section
namespace Go.Sh
open Go.Proofs
noncomputable def bodegaref24_WriteNode_L1 (a1 : bodegaref24_Node) (a0 : api_Page) : ((A7 Int) × Int) → Option (((A7 Int) × Int) ⊕ (api_Page × Int))
  | (x32, x33) =>
    if (decide (x33 < (a1.Entries.length : Int))) = true then
      (idx a1.Entries x33).bind fun e36 =>
      (bodegaref19_Pack e36.To).bind fun v37 =>
      if 0 ≤ (IntKind.i64.wrap (2 + x33)) ∧ (IntKind.i64.wrap (2 + x33)) < 7 then
        some (.inl ((A7.set x32 (IntKind.i64.wrap (2 + x33)) (IntKind.u64.wrap ((shlV .u64 (IntKind.u64.wrap e36.Key) 32) + (IntKind.u64.wrap v37)))), (IntKind.i64.wrap (x33 + 1))))
      else none
    else
      Option.map Sum.inr (
        some ((⟨a0.Line, a0.Head, x32⟩ : api_Page), 0))
noncomputable def bodegaref24_WriteNode_J2 (a0 : api_Page) (a1 : bodegaref24_Node) (x12 : Int) : Option (api_Page × Int) :=
    (bodegaref19_Gen a0).bind fun v13 =>
    (bodegaref19_Tag 4 v13 x12).bind fun v14 =>
    (bodegaref19_Pack a1.Right).bind fun v15 =>
    iter (bodegaref24_WriteNode_L1 a1 a0) ((⟨v14, (IntKind.u64.wrap ((IntKind.u64.wrap a1.High) + (shlV .u64 (IntKind.u64.wrap v15) 32))), 0, 0, 0, 0, 0⟩ : (A7 Int)), 0)
noncomputable def bodegaref24_WriteNode_J1 (a0 : api_Page) (a1 : bodegaref24_Node) (x10 : Int) : Option (api_Page × Int) :=
    bodegaref24_WriteNode_J2 a0 a1 (if a1.Dead = true then (IntKind.u32.wrap (x10 + 131072)) else x10)
noncomputable def bodegaref24_WriteNode (a0 : api_Page) (a1 : bodegaref24_Node) : Option (api_Page × Int) :=
  (bodegaref19_Kind a0).bind fun v5 =>
  if (v5 != 4) = true then
    some ((⟨0, 0, (⟨0, 0, 0, 0, 0, 0, 0⟩ : (A7 Int))⟩ : api_Page), 1)
  else
    (bodegaref24_ValidNode a1).bind fun v7 =>
    if (!v7) = true then
      some ((⟨0, 0, (⟨0, 0, 0, 0, 0, 0, 0⟩ : (A7 Int))⟩ : api_Page), 1)
    else
      if a1.Leftmost = true then
        bodegaref24_WriteNode_J1 a0 a1 (IntKind.u32.wrap ((IntKind.u32.wrap ((IntKind.u32.wrap a1.Level) + (IntKind.u32.wrap (256 * (IntKind.u32.wrap (a1.Entries.length : Int)))))) + 65536))
      else
        bodegaref24_WriteNode_J1 a0 a1 (IntKind.u32.wrap ((IntKind.u32.wrap a1.Level) + (IntKind.u32.wrap (256 * (IntKind.u32.wrap (a1.Entries.length : Int))))))
theorem bodegaref24_WriteNode_ok (G : Glob) (hG0 : G.glob 0 = some [(.int .i64 0), (.int .i64 0)]) (a0 : api_Page) (a1 : bodegaref24_Node) (res : (api_Page × Int)) (h : bodegaref24_WriteNode a0 a1 = some res) : Spec Tryz.prog G 25 [.agg (g_yylp a0), .agg (g_dzp5 a1)] (fun r ios => r = .tup [.agg (g_yylp res.1), .cell (.p (.int .i64 res.2))] ∧ ios = []) := by
  rw [bodegaref24_WriteNode] at h
  refine spec_of Tryz.mixed Tryz.func25 rfl rfl (by simp only [List.length]; decide +kernel) ?_
  refine swp_fresh (fun g => stL [(0, (.agg (b_mq86 a0))), (1, (.agg (b_dt2w a1)))] [] (g + 1)) (ren_go (fun g S => []) fun g S => []) fun g => ?_
  refine go_seq ?_
  refine swp_seq ?_
  refine seq_reg rfl (fun K hK => ?_)
  refine bind_of h (fun v5 hv5 h => ?_)
  simp -implicitDefEqProofs +decide only [go_sem, Nat.reduceAdd, Int.reduceToNat]
  refine call_go [0] false (bodegaref19_Kind_ok (cG G) hG0 _ _ hv5) ?_
  refine bsplit h (fun hb6 h => ?_) (fun hb6 h => ?_)
  ·simp -implicitDefEqProofs +decide only [go_sem, Nat.reduceAdd, Int.reduceToNat, hb6]
   refine hK _ ?_
   refine if_go ?_
   refine go_seq ?_
   refine swp_ret ?_
   with_reducible repeat first|apply nn|apply nb|apply nr|apply nc|apply ne|apply nq|apply nx rfl
   obtain rfl := some_eq h
   exact rt
  ·refine bind_of h (fun v7 hv7 h => ?_)
   simp -implicitDefEqProofs +decide only [go_sem, Nat.reduceAdd, Int.reduceToNat, hb6]
   refine call_go [0] false (bodegaref24_ValidNode_ok (cG G) hG0 _ _ hv7) ?_
   simp -implicitDefEqProofs +decide only [go_sem, Nat.reduceAdd, Int.reduceToNat, hb6]
   refine hK _ ?_
   refine bsplit h (fun hb8 h => ?_) (fun hb8 h => ?_)
   ·refine if_go ?_
    refine go_seq ?_
    refine swp_ret ?_
    with_reducible repeat first|apply nn|apply nb|apply nr|apply nc|apply ne|apply nq|apply nx rfl
    obtain rfl := some_eq h
    exact rt
   ·refine el_go ?_
    refine swp_skip ?_
    with_reducible repeat first|apply nn|apply nb|apply nr|apply nc|apply ne|apply nq|apply nx rfl
    refine go_seq ?_
    refine cut1 (Joins (bodegaref24_WriteNode_J1 a0 a1) (fun g x10 => stL [(2, (.c (.ptr ⟨1024000001, g⟩ 0 0))), (3, (.c (.ptr ⟨1024000002, g⟩ 0 0))), (4, (.c (.ptr ⟨1024000003, g⟩ 0 0))), (6, (.c (.p (.int .u32 x10))))] [(⟨1024000001, g⟩, .box true (b_mq86 a0)), (⟨1024000002, g⟩, .box true (b_dt2w a1)), (⟨1024000003, g⟩, .box true [(.p (.int .i64 0)), (.p (.int .u64 0)), (.p (.int .u64 0)), (.p (.int .u64 0)), (.p (.int .u64 0)), (.p (.int .u64 0)), (.p (.int .u64 0)), (.p (.int .u64 0)), (.p (.int .u64 0))])] (g + 1)) res) ?_ (fun hj1 => ?_)
    ·refine join_of ?_
     rintro g x10 h
     rw [bodegaref24_WriteNode_J1] at h
     try dsimp only
     refine cut1 (Joins (bodegaref24_WriteNode_J2 a0 a1) (fun g x12 => stL [(2, (.c (.ptr ⟨1024000004, g⟩ 0 0))), (3, (.c (.ptr ⟨1024000005, g⟩ 0 0))), (4, (.c (.ptr ⟨1024000006, g⟩ 0 0))), (6, (.c (.p (.int .u32 x12))))] [(⟨1024000004, g⟩, .box true (b_mq86 a0)), (⟨1024000005, g⟩, .box true (b_dt2w a1)), (⟨1024000006, g⟩, .box true [(.p (.int .i64 0)), (.p (.int .u64 0)), (.p (.int .u64 0)), (.p (.int .u64 0)), (.p (.int .u64 0)), (.p (.int .u64 0)), (.p (.int .u64 0)), (.p (.int .u64 0)), (.p (.int .u64 0))])] (g + 1)) res) ?_ (fun hj2 => ?_)
     ·refine join_of ?_
      rintro g x12 h
      rw [bodegaref24_WriteNode_J2] at h
      try dsimp only
      refine go_seq ?_
      refine seq_reg rfl (fun K hK => ?_)
      refine bind_of h (fun v13 hv13 h => ?_)
      simp -implicitDefEqProofs +decide only [go_sem, Nat.reduceAdd, Int.reduceToNat, hb6, hb8]
      refine call_go [0] false (bodegaref19_Gen_ok (cG G) hG0 _ _ hv13) ?_
      refine bind_of h (fun v14 hv14 h => ?_)
      simp -implicitDefEqProofs +decide only [go_sem, Nat.reduceAdd, Int.reduceToNat, hb6, hb8]
      refine call_go [0, 0, 0] false (bodegaref19_Tag_ok (cG G) hG0 _ _ _ _ hv14) ?_
      simp -implicitDefEqProofs +decide only [go_sem, Nat.reduceAdd, Int.reduceToNat, hb6, hb8]
      refine hK _ ?_
      refine seq_drw rfl (fun K hK => ?_)
      refine bind_of h (fun v15 hv15 h => ?_)
      simp -implicitDefEqProofs +decide only [go_sem, Nat.reduceAdd, Int.reduceToNat, hb6, hb8]
      refine call_go [0] false (bodegaref19_Pack_ok (cG G) hG0 _ _ hv15) ?_
      simp -implicitDefEqProofs +decide only [go_sem, Nat.reduceAdd, Int.reduceToNat, hb6, hb8]
      refine draw_go (by kernel_rfl) ?_
      refine hK _ ?_
      refine swp_seq ?_
      refine go_seq ?_
      refine swp_block ?_
      refine swp_iter (fun g x => match x with | (x32, x33) => stL [(3, (.c (.ptr ⟨1024000007, g⟩ 0 0))), (4, (.c (.ptr ⟨1024000008, g⟩ 0 0))), (7, (.c (.ptr ⟨1024000009, g⟩ 0 0))), (8, (.c (.p (.int .i64 x33))))] [(⟨1024000007, g⟩, .box true (b_dt2w a1)), (⟨1024000008, g⟩, .box true [(.p (.int .i64 0)), (.p (.int .u64 0)), (.p (.int .u64 0)), (.p (.int .u64 0)), (.p (.int .u64 0)), (.p (.int .u64 0)), (.p (.int .u64 0)), (.p (.int .u64 0)), (.p (.int .u64 0))]), (⟨1024000009, g⟩, .box true [(.p (.int .i64 a0.Line)), (.p (.int .u64 a0.Head)), (.p (.int .u64 x32.a0)), (.p (.int .u64 x32.a1)), (.p (.int .u64 x32.a2)), (.p (.int .u64 x32.a3)), (.p (.int .u64 x32.a4)), (.p (.int .u64 x32.a5)), (.p (.int .u64 x32.a6))])] (g + 1)) h (enter_of (ren_go (fun g S => [(⟨1024000007, g⟩, (keyT 0 (St.env S 3))), (⟨1024000008, g⟩, (keyT 0 (St.env S 4))), (⟨1024000009, g⟩, (keyT 0 (St.env S 7)))]) fun g S => [])) ?_
      rintro g ⟨x32, x33⟩ s1 h hd1
      rw [bodegaref24_WriteNode_L1] at h
      try dsimp only
      refine swp_seq ?_
      refine go_seq ?_
      refine bsplit h (fun hb35 h => ?_) (fun hb35 h => ?_)
      ·refine if_go ?_
       refine swp_skip ?_
       with_reducible repeat first|apply nn|apply nb|apply nr|apply nc|apply ne|apply nq|apply nx rfl
       refine swp_seq ?_
       refine swp_block ?_
       refine swp_drw rfl (fun K hK => ?_)
       refine bind_of h (fun e36 he36 h => ?_)
       obtain ⟨he36_0, he36_1, he36_2⟩ := idx_some he36
       refine bind_of h (fun v37 hv37 h => ?_)
       simp -implicitDefEqProofs +decide only [go_sem, Nat.reduceAdd, Int.reduceToNat, he36_0, he36_1, he36_2, hb35]
       refine call_go [0] false (bodegaref19_Pack_ok (cG G) hG0 _ _ hv37) ?_
       refine psplit h (fun hp38 h => ?_)
       simp -implicitDefEqProofs +decide only [go_sem, Nat.reduceAdd, Int.reduceToNat, hp38, hb35]
       refine opt_ite (by rcases cases7 hp38.1 hp38.2 with hc | hc | hc | hc | hc | hc | hc <;> simp [hc]) ?_
       refine opt_wr (l' := [(.p (.int .i64 a0.Line)), (.p (.int .u64 a0.Head)), (.p (.int .u64 (A7.set x32 (IntKind.i64.wrap (2 + x33)) (IntKind.u64.wrap ((shlV .u64 (IntKind.u64.wrap e36.Key) 32) + (IntKind.u64.wrap v37)))).a0)), (.p (.int .u64 (A7.set x32 (IntKind.i64.wrap (2 + x33)) (IntKind.u64.wrap ((shlV .u64 (IntKind.u64.wrap e36.Key) 32) + (IntKind.u64.wrap v37)))).a1)), (.p (.int .u64 (A7.set x32 (IntKind.i64.wrap (2 + x33)) (IntKind.u64.wrap ((shlV .u64 (IntKind.u64.wrap e36.Key) 32) + (IntKind.u64.wrap v37)))).a2)), (.p (.int .u64 (A7.set x32 (IntKind.i64.wrap (2 + x33)) (IntKind.u64.wrap ((shlV .u64 (IntKind.u64.wrap e36.Key) 32) + (IntKind.u64.wrap v37)))).a3)), (.p (.int .u64 (A7.set x32 (IntKind.i64.wrap (2 + x33)) (IntKind.u64.wrap ((shlV .u64 (IntKind.u64.wrap e36.Key) 32) + (IntKind.u64.wrap v37)))).a4)), (.p (.int .u64 (A7.set x32 (IntKind.i64.wrap (2 + x33)) (IntKind.u64.wrap ((shlV .u64 (IntKind.u64.wrap e36.Key) 32) + (IntKind.u64.wrap v37)))).a5)), (.p (.int .u64 (A7.set x32 (IntKind.i64.wrap (2 + x33)) (IntKind.u64.wrap ((shlV .u64 (IntKind.u64.wrap e36.Key) 32) + (IntKind.u64.wrap v37)))).a6))]) (by rcases cases7 hp38.1 hp38.2 with hc | hc | hc | hc | hc | hc | hc <;> simp [hc, A7.get, A7.set]) ?_
       simp -implicitDefEqProofs +decide only [go_sem, Nat.reduceAdd, Int.reduceToNat, hb35]
       refine draw_go (by kernel_rfl) ?_
       refine hK _ ?_
       with_reducible repeat first|apply nn|apply nb|apply nr|apply nc|apply ne|apply nq|apply nx rfl
       refine go_swp ?_
       with_reducible repeat first|apply nn|apply nb|apply nr|apply nc|apply ne|apply nq|apply nx rfl
       exact back_of h (ren_go (fun g S => [(⟨1024000007, g⟩, (keyT 0 (St.env S 3))), (⟨1024000008, g⟩, (keyT 0 (St.env S 4))), (⟨1024000009, g⟩, (keyT 0 (St.env S 7)))]) fun g S => [])
      ·refine el_go ?_
       refine swp_exit ?_
       with_reducible repeat first|apply nn|apply nb|apply nr|apply nc|apply ne|apply nq|apply nx rfl
       obtain ⟨h, hs1⟩ := exit_of h hd1
       with_reducible repeat first|apply nn|apply nb|apply nr|apply nc|apply ne|apply nq|apply nx rfl
       refine ⟨hs1, ?_⟩
       with_reducible repeat first|apply nn|apply nb|apply nr|apply nc|apply ne|apply nq|apply nx rfl
       refine go_seq ?_
       refine swp_ret ?_
       with_reducible repeat first|apply nn|apply nb|apply nr|apply nc|apply ne|apply nq|apply nx rfl
       obtain rfl := some_eq h
       exact rt
     refine swp_seq ?_
     refine go_seq ?_
     rcases hb43 : a1.Dead with _ | _
     ·replace h : bodegaref24_WriteNode_J2 a0 a1 x10 = some res := by first | exact h | (rw [if_f hb43] at h; exact h)
      refine el_go ?_
      refine swp_skip ?_
      with_reducible repeat first|apply nn|apply nb|apply nr|apply nc|apply ne|apply nq|apply nx rfl
      exact jump_of hj2 h (ren_go (fun g S => [(⟨1024000004, g⟩, (keyT 0 (St.env S 2))), (⟨1024000005, g⟩, (keyT 0 (St.env S 3))), (⟨1024000006, g⟩, (keyT 0 (St.env S 4)))]) fun g S => [])
     ·replace h : bodegaref24_WriteNode_J2 a0 a1 (IntKind.u32.wrap (x10 + 131072)) = some res := by first | exact h | (rw [if_t hb43] at h; exact h)
      refine if_go ?_
      refine go_swp ?_
      with_reducible repeat first|apply nn|apply nb|apply nr|apply nc|apply ne|apply nq|apply nx rfl
      exact jump_of hj2 h (ren_go (fun g S => [(⟨1024000004, g⟩, (keyT 0 (St.env S 2))), (⟨1024000005, g⟩, (keyT 0 (St.env S 3))), (⟨1024000006, g⟩, (keyT 0 (St.env S 4)))]) fun g S => [])
    refine swp_seq ?_
    refine go_seq ?_
    refine bsplit h (fun hb46 h => ?_) (fun hb46 h => ?_)
    ·refine if_go ?_
     refine go_swp ?_
     with_reducible repeat first|apply nn|apply nb|apply nr|apply nc|apply ne|apply nq|apply nx rfl
     exact jump_of hj1 h (ren_go (fun g S => [(⟨1024000001, g⟩, (keyT 0 (St.env S 2))), (⟨1024000002, g⟩, (keyT 0 (St.env S 3))), (⟨1024000003, g⟩, (keyT 0 (St.env S 4)))]) fun g S => [])
    ·refine el_go ?_
     refine swp_skip ?_
     with_reducible repeat first|apply nn|apply nb|apply nr|apply nc|apply ne|apply nq|apply nx rfl
     exact jump_of hj1 h (ren_go (fun g S => [(⟨1024000001, g⟩, (keyT 0 (St.env S 2))), (⟨1024000002, g⟩, (keyT 0 (St.env S 3))), (⟨1024000003, g⟩, (keyT 0 (St.env S 4)))]) fun g S => [])
end Go.Sh
end
section
namespace Go.Sh
open Go.Proofs
noncomputable def btree_WriteNode (a0 : api_Page) (a1 : btree_Node) : Option (api_Page × Int) :=
  (pointer_UnpackTag a0.Data.a0).bind fun v5 =>
  if (v5.Kind != 4) = true then
    some ((⟨0, 0, (⟨0, 0, 0, 0, 0, 0, 0⟩ : (A7 Int))⟩ : api_Page), 1)
  else
    (btree_Node_valid a1).bind fun v7 =>
    if (!v7) = true then
      some ((⟨0, 0, (⟨0, 0, 0, 0, 0, 0, 0⟩ : (A7 Int))⟩ : api_Page), 1)
    else
      (btree_Node_fill a1 a0).bind fun v9 =>
      some (v9, 0)
theorem btree_WriteNode_ok (G : Glob) (hG0 : G.glob 0 = some [(.int .i64 0), (.int .i64 0)]) (a0 : api_Page) (a1 : btree_Node) (res : (api_Page × Int)) (h : btree_WriteNode a0 a1 = some res) : Spec Tryz.prog G 24 [.agg (g_yylp a0), .agg (g_kkcs a1)] (fun r ios => r = .tup [.agg (g_yylp res.1), .cell (.p (.int .i64 res.2))] ∧ ios = []) := by
  rw [btree_WriteNode] at h
  refine spec_of Tryz.mixed Tryz.func24 rfl rfl (by simp only [List.length]; decide +kernel) ?_
  refine swp_fresh (fun g => stL [(0, (.agg (b_mq86 a0))), (1, (.agg (b_kfil a1)))] [] (g + 1)) (ren_go (fun g S => []) fun g S => []) fun g => ?_
  refine go_seq ?_
  refine swp_seq ?_
  refine seq_reg rfl (fun K hK => ?_)
  refine bind_of h (fun v5 hv5 h => ?_)
  simp -implicitDefEqProofs +decide only [go_sem, Nat.reduceAdd, Int.reduceToNat]
  refine call_go [0] false (pointer_UnpackTag_ok (cG G) hG0 _ _ hv5) ?_
  refine bsplit h (fun hb6 h => ?_) (fun hb6 h => ?_)
  ·simp -implicitDefEqProofs +decide only [go_sem, Nat.reduceAdd, Int.reduceToNat, hb6]
   refine hK _ ?_
   refine if_go ?_
   refine go_seq ?_
   refine swp_ret ?_
   with_reducible repeat first|apply nn|apply nb|apply nr|apply nc|apply ne|apply nq|apply nx rfl
   obtain rfl := some_eq h
   exact rt
  ·refine bind_of h (fun v7 hv7 h => ?_)
   simp -implicitDefEqProofs +decide only [go_sem, Nat.reduceAdd, Int.reduceToNat, hb6]
   refine call_go [0] false (btree_Node_valid_ok (cG G) hG0 _ _ hv7) ?_
   simp -implicitDefEqProofs +decide only [go_sem, Nat.reduceAdd, Int.reduceToNat, hb6]
   refine hK _ ?_
   refine bsplit h (fun hb8 h => ?_) (fun hb8 h => ?_)
   ·refine if_go ?_
    refine go_seq ?_
    refine swp_ret ?_
    with_reducible repeat first|apply nn|apply nb|apply nr|apply nc|apply ne|apply nq|apply nx rfl
    obtain rfl := some_eq h
    exact rt
   ·refine el_go ?_
    refine swp_skip ?_
    with_reducible repeat first|apply nn|apply nb|apply nr|apply nc|apply ne|apply nq|apply nx rfl
    refine seq_reg rfl (fun K hK => ?_)
    refine bind_of h (fun v9 hv9 h => ?_)
    simp -implicitDefEqProofs +decide only [go_sem, Nat.reduceAdd, Int.reduceToNat, hb6, hb8]
    refine call_go [0, 0] false (btree_Node_fill_ok (cG G) hG0 _ _ _ hv9) ?_
    simp -implicitDefEqProofs +decide only [go_sem, Nat.reduceAdd, Int.reduceToNat, hb6, hb8]
    refine hK _ ?_
    refine swp_ret ?_
    with_reducible repeat first|apply nn|apply nb|apply nr|apply nc|apply ne|apply nq|apply nx rfl
    obtain rfl := some_eq h
    exact rt
end Go.Sh
end
section
namespace Go.Sh
open Go.Proofs
noncomputable def bodegalaw24_TreeNodes_J4 (a0 : api_Page) (x16 : Int) (x17 : Int) (a1 : btree_Node) (x65 : Int) (x19 : pointer_Pointer) (a2 : Int) (l71 : List hashindex_Entry) : Option Bool :=
    (btree_ReadNode (⟨a0.Line, a0.Head, (⟨x16, a0.Data.a1, a0.Data.a2, a0.Data.a3, a0.Data.a4, a0.Data.a5, a0.Data.a6⟩ : (A7 Int))⟩ : api_Page)).bind fun v72 =>
    (bodegaref24_ReadNode (⟨a0.Line, a0.Head, (⟨x16, a0.Data.a1, a0.Data.a2, a0.Data.a3, a0.Data.a4, a0.Data.a5, a0.Data.a6⟩ : (A7 Int))⟩ : api_Page)).bind fun v73 =>
    (btree_WriteNode (⟨a0.Line, a0.Head, (⟨x16, a0.Data.a1, a0.Data.a2, a0.Data.a3, a0.Data.a4, a0.Data.a5, a0.Data.a6⟩ : (A7 Int))⟩ : api_Page) (⟨x17, a1.Leftmost, a1.Dead, x65, x19, l71⟩ : btree_Node)).bind fun v74 =>
    (bodegalaw24_node (⟨x17, a1.Leftmost, a1.Dead, x65, x19, l71⟩ : btree_Node)).bind fun v75 =>
    (bodegaref24_WriteNode (⟨a0.Line, a0.Head, (⟨x16, a0.Data.a1, a0.Data.a2, a0.Data.a3, a0.Data.a4, a0.Data.a5, a0.Data.a6⟩ : (A7 Int))⟩ : api_Page) v75).bind fun v76 =>
    (bodegalaw24_node v72.1).bind fun v84 =>
    (bodegalaw24_sameNode v84 v73.1).bind fun v85 =>
    if (!v85) = true then
      some false
    else
      if (v72.2 != v73.2) = true then
        some false
      else
        (bodegalaw24_same v74.1 v76.1).bind fun v88 =>
        if (!v88) = true then
          some false
        else
          if (v74.2 != v76.2) = true then
            some false
          else
            if (v74.2 != 0) = true then
              (bodegalaw24_awake).bind fun v94 =>
              some v94
            else
              (btree_ReadNode v74.1).bind fun v95 =>
              if (v95.2 != 0) = true then
                some false
              else
                (bodegalaw24_node v95.1).bind fun v104 =>
                (bodegalaw24_node (⟨x17, a1.Leftmost, a1.Dead, x65, x19, l71⟩ : btree_Node)).bind fun v105 =>
                (bodegalaw24_sameNode v104 v105).bind fun v106 =>
                if (!v106) = true then
                  some false
                else
                  if (v74.1.Line != a0.Line) = true then
                    some false
                  else
                    if (v74.1.Head != a0.Head) = true then
                      some false
                    else
                      (bodegahand_Pick (IntKind.i64.wrap (Int.tdiv a2 45)) 7).bind fun v110 =>
                      if 0 ≤ v110 ∧ v110 < 7 then
                        (bodegahand_Pick (IntKind.i64.wrap (Int.tdiv a2 315)) 64).bind fun v112 =>
                        if 0 ≤ v110 ∧ v110 < 7 then
                          (btree_ReadNode (⟨v74.1.Line, v74.1.Head, (A7.set v74.1.Data v110 (bits .xor .u64 (A7.get v74.1.Data v110) (shlV .u64 1 (IntKind.u64.wrap v112))))⟩ : api_Page)).bind fun v114 =>
                          (bodegaref24_ReadNode (⟨v74.1.Line, v74.1.Head, (A7.set v74.1.Data v110 (bits .xor .u64 (A7.get v74.1.Data v110) (shlV .u64 1 (IntKind.u64.wrap v112))))⟩ : api_Page)).bind fun v115 =>
                          (bodegalaw24_awake).bind fun v116 =>
                          if v116 = true then
                            (bodegalaw24_node v114.1).bind fun v118 =>
                            (bodegalaw24_sameNode v118 v115.1).bind fun v119 =>
                            some (v119 && (v114.2 == v115.2))
                          else
                            some false
                        else none
                      else none
noncomputable def bodegalaw24_TreeNodes_J3 (v3 : Int) (l60 : List hashindex_Entry) (x17 : Int) (x19 : pointer_Pointer) (a0 : api_Page) (x16 : Int) (a1 : btree_Node) (a2 : Int) (x65 : Int) : Option Bool :=
    if (decide (v3 > 1)) = true then
      if (decide ((l60.length : Int) > 0)) = true then
        if (decide (x17 > 0)) = true then
          if ((x19.Line == 0) && (x19.Gen == 0)) = true then
            (idx l60 (IntKind.i64.wrap ((l60.length : Int) - 1))).bind fun e125 =>
            bodegalaw24_TreeNodes_J4 a0 x16 x17 a1 x65 x19 a2 (l60.set (IntKind.i64.wrap ((l60.length : Int) - 1)).toNat (⟨4294967295, e125.To⟩ : hashindex_Entry))
          else
            bodegalaw24_TreeNodes_J4 a0 x16 x17 a1 x65 x19 a2 l60
        else
          bodegalaw24_TreeNodes_J4 a0 x16 x17 a1 x65 x19 a2 l60
      else
        bodegalaw24_TreeNodes_J4 a0 x16 x17 a1 x65 x19 a2 l60
    else
      bodegalaw24_TreeNodes_J4 a0 x16 x17 a1 x65 x19 a2 l60
noncomputable def bodegalaw24_TreeNodes_J2 (v3 : Int) (x19 : pointer_Pointer) (x17 : Int) (a0 : api_Page) (x16 : Int) (a1 : btree_Node) (a2 : Int) (x18 : Int) (l60 : List hashindex_Entry) : Option Bool :=
    if (decide (v3 > 1)) = true then
      if (decide ((l60.length : Int) > 0)) = true then
        if (!((x19.Line == 0) && (x19.Gen == 0))) = true then
          (idx l60 (IntKind.i64.wrap ((l60.length : Int) - 1))).bind fun e134 =>
          bodegalaw24_TreeNodes_J3 v3 l60 x17 x19 a0 x16 a1 a2 (IntKind.u32.wrap (e134.Key + (IntKind.u32.wrap (Int.tdiv (IntKind.u32.wrap (Int.tmod a2 3)) 2))))
        else
          bodegalaw24_TreeNodes_J3 v3 l60 x17 x19 a0 x16 a1 a2 x18
      else
        bodegalaw24_TreeNodes_J3 v3 l60 x17 x19 a0 x16 a1 a2 x18
    else
      bodegalaw24_TreeNodes_J3 v3 l60 x17 x19 a0 x16 a1 a2 x18
noncomputable def bodegalaw24_TreeNodes_J5 (l166 : List hashindex_Entry) (x167 : Int) (x175 : hashindex_Entry) : Option ((List hashindex_Entry × Int) ⊕ Bool) :=
    if (l166.length + 1) * 24 ≤ maxRows ∧ l166.length + 1 ≤ maxRows then
      some (.inl ((l166 ++ ([x175] : List hashindex_Entry)), (IntKind.i64.wrap (x167 + 1))))
    else none
noncomputable def bodegalaw24_TreeNodes_L1 (a1 : btree_Node) (v3 : Int) (x19 : pointer_Pointer) (x17 : Int) (a0 : api_Page) (x16 : Int) (a2 : Int) (x18 : Int) : (List hashindex_Entry × Int) → Option ((List hashindex_Entry × Int) ⊕ Bool)
  | (l166, x167) =>
    if (decide (x167 < (a1.Entries.length : Int))) = true then
      (idx a1.Entries x167).bind fun e171 =>
      if (decide (v3 > 0)) = true then
        (bodegahand_Pick e171.To.Line 152).bind fun v180 =>
        (bodegahand_Pick e171.To.Gen 9).bind fun v181 =>
        bodegalaw24_TreeNodes_J5 l166 x167 (⟨(IntKind.u32.wrap ((IntKind.u32.wrap ((Int.tmod e171.Key 3) + (IntKind.u32.wrap ((IntKind.u32.wrap x167) * 3)))) + 1)), (⟨(IntKind.i64.wrap (104 + v180)), (IntKind.i64.wrap (1 + v181))⟩ : pointer_Pointer)⟩ : hashindex_Entry)
      else
        bodegalaw24_TreeNodes_J5 l166 x167 e171
    else
      Option.map Sum.inr (
        bodegalaw24_TreeNodes_J2 v3 x19 x17 a0 x16 a1 a2 x18 l166)
noncomputable def bodegalaw24_TreeNodes_J1 (a1 : btree_Node) (v3 : Int) (a0 : api_Page) (a2 : Int) : (Int × Int × Int × pointer_Pointer) → Option Bool
  | (x16, x17, x18, x19) =>
    iter (bodegalaw24_TreeNodes_L1 a1 v3 x19 x17 a0 x16 a2 x18) (([] : List hashindex_Entry), 0)
noncomputable def bodegalaw24_TreeNodes_J7 (a2 : Int) (a1 : btree_Node) (v3 : Int) (a0 : api_Page) (x190 : Int) (v191 : pointer_Pointer) (x194 : Int) : Option Bool :=
    (bodegahand_Pick (IntKind.i64.wrap (Int.tdiv a2 5)) 9).bind fun v195 =>
    bodegalaw24_TreeNodes_J1 a1 v3 a0 a2 ((IntKind.u64.wrap ((IntKind.u64.wrap (4 + (IntKind.u64.wrap (Int.tdiv (Int.tmod a0.Data.a0 7) 6)))) + (IntKind.u64.wrap ((IntKind.u64.wrap v195) * 256)))), x190, x194, v191)
noncomputable def bodegalaw24_TreeNodes_J6 (a1 : btree_Node) (a2 : Int) (v3 : Int) (a0 : api_Page) (x190 : Int) : Option Bool :=
    (bodegalaw24_aim a1.Right).bind fun v191 =>
    if ((v191.Line == 0) && (v191.Gen == 0)) = true then
      bodegalaw24_TreeNodes_J7 a2 a1 v3 a0 x190 v191 (if (decide (v3 > 1)) = true then 4294967295 else a1.High)
    else
      bodegalaw24_TreeNodes_J7 a2 a1 v3 a0 x190 v191 a1.High
noncomputable def bodegalaw24_TreeNodes (a0 : api_Page) (a1 : btree_Node) (a2 : Int) : Option Bool :=
  if (decide ((a1.Entries.length : Int) > 9)) = true then
    some true
  else
    (bodegahand_Pick a2 5).bind fun v3 =>
    if (decide (v3 > 0)) = true then
      (bodegahand_Pick a1.Level 12).bind fun v188 =>
      if (decide (v3 > 2)) = true then
        bodegalaw24_TreeNodes_J6 a1 a2 v3 a0 (Int.tmod (IntKind.i64.wrap (v188 - 1)) 3)
      else
        bodegalaw24_TreeNodes_J6 a1 a2 v3 a0 (IntKind.i64.wrap (v188 - 1))
    else
      bodegalaw24_TreeNodes_J1 a1 v3 a0 a2 (a0.Data.a0, a1.Level, a1.High, a1.Right)
theorem bodegalaw24_TreeNodes_ok (G : Glob) (hG0 : G.glob 0 = some [(.int .i64 0), (.int .i64 0)]) (a0 : api_Page) (a1 : btree_Node) (a2 : Int) (res : Bool) (h : bodegalaw24_TreeNodes a0 a1 a2 = some res) : Spec Tryz.prog G 4 [.agg (g_yylp a0), .agg (g_kkcs a1), .cell (.p (.int .i64 a2))] (fun r ios => r = .cell (.p (.bool res)) ∧ ios = []) := by
  rw [bodegalaw24_TreeNodes] at h
  refine spec_of Tryz.mixed Tryz.func4 rfl rfl (by simp only [List.length]; decide +kernel) ?_
  refine swp_fresh (fun g => stL [(0, (.agg (b_mq86 a0))), (1, (.agg (b_kfil a1))), (2, (.c (.p (.int .i64 a2))))] [] (g + 1)) (ren_go (fun g S => []) fun g S => []) fun g => ?_
  refine go_seq ?_
  refine swp_seq ?_
  refine go_seq ?_
  refine bsplit h (fun hb2 h => ?_) (fun hb2 h => ?_)
  ·refine if_go ?_
   refine go_seq ?_
   refine swp_ret ?_
   with_reducible repeat first|apply nn|apply nb|apply nr|apply nc|apply ne|apply nq|apply nx rfl
   obtain rfl := some_eq h
   exact rt
  ·refine el_go ?_
   refine swp_skip ?_
   with_reducible repeat first|apply nn|apply nb|apply nr|apply nc|apply ne|apply nq|apply nx rfl
   refine go_seq ?_
   refine seq_reg rfl (fun K hK => ?_)
   refine bind_of h (fun v3 hv3 h => ?_)
   simp -implicitDefEqProofs +decide only [go_sem, Nat.reduceAdd, Int.reduceToNat, hb2]
   refine call_go [0, 0] false (bodegahand_Pick_ok (cG G) hG0 _ _ _ hv3) ?_
   simp -implicitDefEqProofs +decide only [go_sem, Nat.reduceAdd, Int.reduceToNat, hb2]
   refine hK _ ?_
   refine cut1 (Joins (bodegalaw24_TreeNodes_J1 a1 v3 a0 a2) (fun g x => match x with | (x16, x17, x18, x19) => stL [(2, (.c (.p (.int .i64 a2)))), (3, (.c (.ptr ⟨1024000001, g⟩ 0 0))), (4, (.c (.ptr ⟨1024000002, g⟩ 0 0))), (7, (.c (.ptr ⟨1024000003, g⟩ 0 0))), (8, (.c (.p (.int .i64 v3))))] [(⟨1024000001, g⟩, .box true [(.p (.int .i64 a0.Line)), (.p (.int .u64 a0.Head)), (.p (.int .u64 x16)), (.p (.int .u64 a0.Data.a1)), (.p (.int .u64 a0.Data.a2)), (.p (.int .u64 a0.Data.a3)), (.p (.int .u64 a0.Data.a4)), (.p (.int .u64 a0.Data.a5)), (.p (.int .u64 a0.Data.a6))]), (⟨1024000002, g⟩, .box true (b_kfil a1)), (⟨1024000003, g⟩, .box true [(.p (.int .i64 x17)), (.p (.bool a1.Leftmost)), (.p (.bool a1.Dead)), (.p (.int .u32 x18)), (.p (.int .i64 x19.Line)), (.p (.int .i64 x19.Gen)), .nilS])] (g + 1)) res) ?_ (fun hj1 => ?_)
   ·refine join_of ?_
    rintro g ⟨x16, x17, x18, x19⟩ h
    rw [bodegalaw24_TreeNodes_J1] at h
    try dsimp only
    refine cut1 (Joins (bodegalaw24_TreeNodes_J2 v3 x19 x17 a0 x16 a1 a2 x18) (fun g l60 => stL [(2, (.c (.p (.int .i64 a2)))), (3, (.c (.ptr ⟨1024000004, g⟩ 0 0))), (7, (.c (.ptr ⟨1024000005, g⟩ 0 0))), (8, (.c (.p (.int .i64 v3))))] [(⟨1024000004, g⟩, .box true [(.p (.int .i64 a0.Line)), (.p (.int .u64 a0.Head)), (.p (.int .u64 x16)), (.p (.int .u64 a0.Data.a1)), (.p (.int .u64 a0.Data.a2)), (.p (.int .u64 a0.Data.a3)), (.p (.int .u64 a0.Data.a4)), (.p (.int .u64 a0.Data.a5)), (.p (.int .u64 a0.Data.a6))]), (⟨1024000005, g⟩, .box true [(.p (.int .i64 x17)), (.p (.bool a1.Leftmost)), (.p (.bool a1.Dead)), (.p (.int .u32 x18)), (.p (.int .i64 x19.Line)), (.p (.int .i64 x19.Gen)), (.ref ⟨1024000006, g⟩ 0 l60.length)]), (⟨1024000006, g⟩, .arr true 3 (l60.map r_hashindex_Entry))] (g + 1)) res) ?_ (fun hj2 => ?_)
    ·refine join_of ?_
     rintro g l60 h
     rw [bodegalaw24_TreeNodes_J2] at h
     try dsimp only
     refine cut1 (Joins (bodegalaw24_TreeNodes_J3 v3 l60 x17 x19 a0 x16 a1 a2) (fun g x65 => stL [(2, (.c (.p (.int .i64 a2)))), (3, (.c (.ptr ⟨1024000007, g⟩ 0 0))), (7, (.c (.ptr ⟨1024000008, g⟩ 0 0))), (8, (.c (.p (.int .i64 v3))))] [(⟨1024000007, g⟩, .box true [(.p (.int .i64 a0.Line)), (.p (.int .u64 a0.Head)), (.p (.int .u64 x16)), (.p (.int .u64 a0.Data.a1)), (.p (.int .u64 a0.Data.a2)), (.p (.int .u64 a0.Data.a3)), (.p (.int .u64 a0.Data.a4)), (.p (.int .u64 a0.Data.a5)), (.p (.int .u64 a0.Data.a6))]), (⟨1024000008, g⟩, .box true [(.p (.int .i64 x17)), (.p (.bool a1.Leftmost)), (.p (.bool a1.Dead)), (.p (.int .u32 x65)), (.p (.int .i64 x19.Line)), (.p (.int .i64 x19.Gen)), (.ref ⟨1024000009, g⟩ 0 l60.length)]), (⟨1024000009, g⟩, .arr true 3 (l60.map r_hashindex_Entry))] (g + 1)) res) ?_ (fun hj3 => ?_)
     ·refine join_of ?_
      rintro g x65 h
      rw [bodegalaw24_TreeNodes_J3] at h
      try dsimp only
      refine cut1 (Joins (bodegalaw24_TreeNodes_J4 a0 x16 x17 a1 x65 x19 a2) (fun g l71 => stL [(2, (.c (.p (.int .i64 a2)))), (3, (.c (.ptr ⟨1024000010, g⟩ 0 0))), (7, (.c (.ptr ⟨1024000011, g⟩ 0 0)))] [(⟨1024000010, g⟩, .box true [(.p (.int .i64 a0.Line)), (.p (.int .u64 a0.Head)), (.p (.int .u64 x16)), (.p (.int .u64 a0.Data.a1)), (.p (.int .u64 a0.Data.a2)), (.p (.int .u64 a0.Data.a3)), (.p (.int .u64 a0.Data.a4)), (.p (.int .u64 a0.Data.a5)), (.p (.int .u64 a0.Data.a6))]), (⟨1024000011, g⟩, .box true [(.p (.int .i64 x17)), (.p (.bool a1.Leftmost)), (.p (.bool a1.Dead)), (.p (.int .u32 x65)), (.p (.int .i64 x19.Line)), (.p (.int .i64 x19.Gen)), (.ref ⟨1024000012, g⟩ 0 l71.length)]), (⟨1024000012, g⟩, .arr true 3 (l71.map r_hashindex_Entry))] (g + 1)) res) ?_ (fun hj4 => ?_)
      ·refine join_of ?_
       rintro g l71 h
       rw [bodegalaw24_TreeNodes_J4] at h
       try dsimp only
       refine seq_reg rfl (fun K hK => ?_)
       refine bind_of h (fun v72 hv72 h => ?_)
       simp -implicitDefEqProofs +decide only [go_sem, Nat.reduceAdd, Int.reduceToNat, hb2]
       refine call_go [0] false (btree_ReadNode_ok (cG G) hG0 _ _ hv72) ?_
       simp -implicitDefEqProofs +decide only [go_sem, Nat.reduceAdd, Int.reduceToNat, hb2]
       refine hK _ ?_
       refine seq_reg rfl (fun K hK => ?_)
       refine bind_of h (fun v73 hv73 h => ?_)
       simp -implicitDefEqProofs +decide only [go_sem, Nat.reduceAdd, Int.reduceToNat, hb2]
       refine call_go [0] false (bodegaref24_ReadNode_ok (cG G) hG0 _ _ hv73) ?_
       simp -implicitDefEqProofs +decide only [go_sem, Nat.reduceAdd, Int.reduceToNat, hb2]
       refine hK _ ?_
       refine seq_reg rfl (fun K hK => ?_)
       refine bind_of h (fun v74 hv74 h => ?_)
       simp -implicitDefEqProofs +decide only [go_sem, Nat.reduceAdd, Int.reduceToNat, hb2]
       refine call_go [0, 0] false (btree_WriteNode_ok (cG G) hG0 _ _ _ hv74) ?_
       simp -implicitDefEqProofs +decide only [go_sem, Nat.reduceAdd, Int.reduceToNat, hb2]
       refine hK _ ?_
       refine seq_drw rfl (fun K hK => ?_)
       refine bind_of h (fun v75 hv75 h => ?_)
       simp -implicitDefEqProofs +decide only [go_sem, Nat.reduceAdd, Int.reduceToNat, hb2]
       refine call_go [0] false (bodegalaw24_node_ok (cG G) hG0 _ _ hv75) ?_
       refine bind_of h (fun v76 hv76 h => ?_)
       simp -implicitDefEqProofs +decide only [go_sem, Nat.reduceAdd, Int.reduceToNat, hb2]
       refine call_go [0, 0] false (bodegaref24_WriteNode_ok (cG G) hG0 _ _ _ hv76) ?_
       simp -implicitDefEqProofs +decide only [go_sem, Nat.reduceAdd, Int.reduceToNat, hb2]
       refine draw_go (by kernel_rfl) ?_
       refine hK _ ?_
       refine swp_seq ?_
       refine seq_drw rfl (fun K hK => ?_)
       refine bind_of h (fun v84 hv84 h => ?_)
       simp -implicitDefEqProofs +decide only [go_sem, Nat.reduceAdd, Int.reduceToNat, hb2]
       refine call_go [0] false (bodegalaw24_node_ok (cG G) hG0 _ _ hv84) ?_
       refine bind_of h (fun v85 hv85 h => ?_)
       simp -implicitDefEqProofs +decide only [go_sem, Nat.reduceAdd, Int.reduceToNat, hb2]
       refine call_go [0, 0] false (bodegalaw24_sameNode_ok (cG G) hG0 _ _ _ hv85) ?_
       refine bsplit h (fun hb86 h => ?_) (fun hb86 h => ?_)
       ·simp -implicitDefEqProofs +decide only [go_sem, Nat.reduceAdd, Int.reduceToNat, hb2, hb86]
        refine draw_go (by kernel_rfl) ?_
        refine hK _ ?_
        refine if_go ?_
        refine go_seq ?_
        refine swp_ret ?_
        with_reducible repeat first|apply nn|apply nb|apply nr|apply nc|apply ne|apply nq|apply nx rfl
        obtain rfl := some_eq h
        exact rt
       ·refine bsplit h (fun hb87 h => ?_) (fun hb87 h => ?_)
        ·simp -implicitDefEqProofs +decide only [go_sem, Nat.reduceAdd, Int.reduceToNat, hb2, hb86, hb87]
         refine draw_go (by kernel_rfl) ?_
         refine hK _ ?_
         refine if_go ?_
         refine go_seq ?_
         refine swp_ret ?_
         with_reducible repeat first|apply nn|apply nb|apply nr|apply nc|apply ne|apply nq|apply nx rfl
         obtain rfl := some_eq h
         exact rt
        ·refine bind_of h (fun v88 hv88 h => ?_)
         simp -implicitDefEqProofs +decide only [go_sem, Nat.reduceAdd, Int.reduceToNat, hb2, hb86, hb87]
         refine call_go [0, 0] false (bodegalaw24_same_ok (cG G) hG0 _ _ _ hv88) ?_
         refine bsplit h (fun hb89 h => ?_) (fun hb89 h => ?_)
         ·simp -implicitDefEqProofs +decide only [go_sem, Nat.reduceAdd, Int.reduceToNat, hb2, hb86, hb87, hb89]
          refine draw_go (by kernel_rfl) ?_
          refine hK _ ?_
          refine if_go ?_
          refine go_seq ?_
          refine swp_ret ?_
          with_reducible repeat first|apply nn|apply nb|apply nr|apply nc|apply ne|apply nq|apply nx rfl
          obtain rfl := some_eq h
          exact rt
         ·simp -implicitDefEqProofs +decide only [go_sem, Nat.reduceAdd, Int.reduceToNat, hb2, hb86, hb87, hb89]
          refine draw_go (by kernel_rfl) ?_
          refine hK _ ?_
          refine bsplit h (fun hb90 h => ?_) (fun hb90 h => ?_)
          ·refine if_go ?_
           refine go_seq ?_
           refine swp_ret ?_
           with_reducible repeat first|apply nn|apply nb|apply nr|apply nc|apply ne|apply nq|apply nx rfl
           obtain rfl := some_eq h
           exact rt
          ·refine el_go ?_
           refine swp_skip ?_
           with_reducible repeat first|apply nn|apply nb|apply nr|apply nc|apply ne|apply nq|apply nx rfl
           refine swp_seq ?_
           refine go_seq ?_
           refine bsplit h (fun hb93 h => ?_) (fun hb93 h => ?_)
           ·refine if_go ?_
            refine seq_reg rfl (fun K hK => ?_)
            refine bind_of h (fun v94 hv94 h => ?_)
            simp -implicitDefEqProofs +decide only [go_sem, Nat.reduceAdd, Int.reduceToNat, hb2, hb86, hb87, hb89, hb90, hb93]
            refine call_go [] false (bodegalaw24_awake_ok (cG G) hG0 _ hv94) ?_
            simp -implicitDefEqProofs +decide only [go_sem, Nat.reduceAdd, Int.reduceToNat, hb2, hb86, hb87, hb89, hb90, hb93]
            refine hK _ ?_
            refine swp_ret ?_
            with_reducible repeat first|apply nn|apply nb|apply nr|apply nc|apply ne|apply nq|apply nx rfl
            obtain rfl := some_eq h
            exact rt
           ·refine el_go ?_
            refine swp_skip ?_
            with_reducible repeat first|apply nn|apply nb|apply nr|apply nc|apply ne|apply nq|apply nx rfl
            refine seq_reg rfl (fun K hK => ?_)
            refine bind_of h (fun v95 hv95 h => ?_)
            simp -implicitDefEqProofs +decide only [go_sem, Nat.reduceAdd, Int.reduceToNat, hb2, hb86, hb87, hb89, hb90, hb93]
            refine call_go [0] false (btree_ReadNode_ok (cG G) hG0 _ _ hv95) ?_
            simp -implicitDefEqProofs +decide only [go_sem, Nat.reduceAdd, Int.reduceToNat, hb2, hb86, hb87, hb89, hb90, hb93]
            refine hK _ ?_
            refine swp_seq ?_
            refine seq_drw rfl (fun K hK => ?_)
            refine bsplit h (fun hb103 h => ?_) (fun hb103 h => ?_)
            ·simp -implicitDefEqProofs +decide only [go_sem, Nat.reduceAdd, Int.reduceToNat, hb2, hb86, hb87, hb89, hb90, hb93, hb103]
             refine draw_go (by kernel_rfl) ?_
             refine hK _ ?_
             refine if_go ?_
             refine go_seq ?_
             refine swp_ret ?_
             with_reducible repeat first|apply nn|apply nb|apply nr|apply nc|apply ne|apply nq|apply nx rfl
             obtain rfl := some_eq h
             exact rt
            ·refine bind_of h (fun v104 hv104 h => ?_)
             simp -implicitDefEqProofs +decide only [go_sem, Nat.reduceAdd, Int.reduceToNat, hb2, hb86, hb87, hb89, hb90, hb93, hb103]
             refine call_go [0] false (bodegalaw24_node_ok (cG G) hG0 _ _ hv104) ?_
             refine bind_of h (fun v105 hv105 h => ?_)
             simp -implicitDefEqProofs +decide only [go_sem, Nat.reduceAdd, Int.reduceToNat, hb2, hb86, hb87, hb89, hb90, hb93, hb103]
             refine call_go [0] false (bodegalaw24_node_ok (cG G) hG0 _ _ hv105) ?_
             refine bind_of h (fun v106 hv106 h => ?_)
             simp -implicitDefEqProofs +decide only [go_sem, Nat.reduceAdd, Int.reduceToNat, hb2, hb86, hb87, hb89, hb90, hb93, hb103]
             refine call_go [0, 0] false (bodegalaw24_sameNode_ok (cG G) hG0 _ _ _ hv106) ?_
             refine bsplit h (fun hb107 h => ?_) (fun hb107 h => ?_)
             ·simp -implicitDefEqProofs +decide only [go_sem, Nat.reduceAdd, Int.reduceToNat, hb2, hb86, hb87, hb89, hb90, hb93, hb103, hb107]
              refine draw_go (by kernel_rfl) ?_
              refine hK _ ?_
              refine if_go ?_
              refine go_seq ?_
              refine swp_ret ?_
              with_reducible repeat first|apply nn|apply nb|apply nr|apply nc|apply ne|apply nq|apply nx rfl
              obtain rfl := some_eq h
              exact rt
             ·refine bsplit h (fun hb108 h => ?_) (fun hb108 h => ?_)
              ·simp -implicitDefEqProofs +decide only [go_sem, Nat.reduceAdd, Int.reduceToNat, hb2, hb86, hb87, hb89, hb90, hb93, hb103, hb107, hb108]
               refine draw_go (by kernel_rfl) ?_
               refine hK _ ?_
               refine if_go ?_
               refine go_seq ?_
               refine swp_ret ?_
               with_reducible repeat first|apply nn|apply nb|apply nr|apply nc|apply ne|apply nq|apply nx rfl
               obtain rfl := some_eq h
               exact rt
              ·simp -implicitDefEqProofs +decide only [go_sem, Nat.reduceAdd, Int.reduceToNat, hb2, hb86, hb87, hb89, hb90, hb93, hb103, hb107, hb108]
               refine draw_go (by kernel_rfl) ?_
               refine hK _ ?_
               refine bsplit h (fun hb109 h => ?_) (fun hb109 h => ?_)
               ·refine if_go ?_
                refine go_seq ?_
                refine swp_ret ?_
                with_reducible repeat first|apply nn|apply nb|apply nr|apply nc|apply ne|apply nq|apply nx rfl
                obtain rfl := some_eq h
                exact rt
               ·refine el_go ?_
                refine swp_skip ?_
                with_reducible repeat first|apply nn|apply nb|apply nr|apply nc|apply ne|apply nq|apply nx rfl
                refine seq_drw rfl (fun K hK => ?_)
                refine bind_of h (fun v110 hv110 h => ?_)
                simp -implicitDefEqProofs +decide only [go_sem, Nat.reduceAdd, Int.reduceToNat, hb2, hb86, hb87, hb89, hb90, hb93, hb103, hb107, hb108, hb109]
                refine call_go [0, 0] false (bodegahand_Pick_ok (cG G) hG0 _ _ _ hv110) ?_
                refine psplit h (fun hp111 h => ?_)
                simp -implicitDefEqProofs +decide only [go_sem, Nat.reduceAdd, Int.reduceToNat, hp111, hb2, hb86, hb87, hb89, hb90, hb93, hb103, hb107, hb108, hb109]
                first | refine opt_get (x := (.p (.int .u64 (A7.get v74.1.Data v110)))) (by rcases cases7 hp111.1 hp111.2 with hc | hc | hc | hc | hc | hc | hc <;> simp [hc, A7.get]) ?_ | refine opt_get' (x := (.p (.int .u64 (A7.get v74.1.Data v110)))) (by rcases cases7 hp111.1 hp111.2 with hc | hc | hc | hc | hc | hc | hc <;> simp [hc, A7.get]) ?_
                refine bind_of h (fun v112 hv112 h => ?_)
                simp -implicitDefEqProofs +decide only [go_sem, Nat.reduceAdd, Int.reduceToNat, hb2, hb86, hb87, hb89, hb90, hb93, hb103, hb107, hb108, hb109]
                refine call_go [0, 0] false (bodegahand_Pick_ok (cG G) hG0 _ _ _ hv112) ?_
                refine psplit h (fun hp113 h => ?_)
                simp -implicitDefEqProofs +decide only [go_sem, Nat.reduceAdd, Int.reduceToNat, hp113, hb2, hb86, hb87, hb89, hb90, hb93, hb103, hb107, hb108, hb109]
                refine opt_ite (by rcases cases7 hp113.1 hp113.2 with hc | hc | hc | hc | hc | hc | hc <;> simp [hc]) ?_
                refine opt_wr (l' := [(.p (.int .i64 v74.1.Line)), (.p (.int .u64 v74.1.Head)), (.p (.int .u64 (A7.set v74.1.Data v110 (bits .xor .u64 (A7.get v74.1.Data v110) (shlV .u64 1 (IntKind.u64.wrap v112)))).a0)), (.p (.int .u64 (A7.set v74.1.Data v110 (bits .xor .u64 (A7.get v74.1.Data v110) (shlV .u64 1 (IntKind.u64.wrap v112)))).a1)), (.p (.int .u64 (A7.set v74.1.Data v110 (bits .xor .u64 (A7.get v74.1.Data v110) (shlV .u64 1 (IntKind.u64.wrap v112)))).a2)), (.p (.int .u64 (A7.set v74.1.Data v110 (bits .xor .u64 (A7.get v74.1.Data v110) (shlV .u64 1 (IntKind.u64.wrap v112)))).a3)), (.p (.int .u64 (A7.set v74.1.Data v110 (bits .xor .u64 (A7.get v74.1.Data v110) (shlV .u64 1 (IntKind.u64.wrap v112)))).a4)), (.p (.int .u64 (A7.set v74.1.Data v110 (bits .xor .u64 (A7.get v74.1.Data v110) (shlV .u64 1 (IntKind.u64.wrap v112)))).a5)), (.p (.int .u64 (A7.set v74.1.Data v110 (bits .xor .u64 (A7.get v74.1.Data v110) (shlV .u64 1 (IntKind.u64.wrap v112)))).a6))]) (by rcases cases7 hp113.1 hp113.2 with hc | hc | hc | hc | hc | hc | hc <;> simp [hc, A7.get, A7.set]) ?_
                simp -implicitDefEqProofs +decide only [go_sem, Nat.reduceAdd, Int.reduceToNat, hb2, hb86, hb87, hb89, hb90, hb93, hb103, hb107, hb108, hb109]
                refine draw_go (by kernel_rfl) ?_
                refine hK _ ?_
                refine seq_reg rfl (fun K hK => ?_)
                refine bind_of h (fun v114 hv114 h => ?_)
                simp -implicitDefEqProofs +decide only [go_sem, Nat.reduceAdd, Int.reduceToNat, hb2, hb86, hb87, hb89, hb90, hb93, hb103, hb107, hb108, hb109]
                refine call_go [0] false (btree_ReadNode_ok (cG G) hG0 _ _ hv114) ?_
                simp -implicitDefEqProofs +decide only [go_sem, Nat.reduceAdd, Int.reduceToNat, hb2, hb86, hb87, hb89, hb90, hb93, hb103, hb107, hb108, hb109]
                refine hK _ ?_
                refine seq_reg rfl (fun K hK => ?_)
                refine bind_of h (fun v115 hv115 h => ?_)
                simp -implicitDefEqProofs +decide only [go_sem, Nat.reduceAdd, Int.reduceToNat, hb2, hb86, hb87, hb89, hb90, hb93, hb103, hb107, hb108, hb109]
                refine call_go [0] false (bodegaref24_ReadNode_ok (cG G) hG0 _ _ hv115) ?_
                simp -implicitDefEqProofs +decide only [go_sem, Nat.reduceAdd, Int.reduceToNat, hb2, hb86, hb87, hb89, hb90, hb93, hb103, hb107, hb108, hb109]
                refine hK _ ?_
                refine seq_drw rfl (fun K hK => ?_)
                refine bind_of h (fun v116 hv116 h => ?_)
                simp -implicitDefEqProofs +decide only [go_sem, Nat.reduceAdd, Int.reduceToNat, hb2, hb86, hb87, hb89, hb90, hb93, hb103, hb107, hb108, hb109]
                refine call_go [] false (bodegalaw24_awake_ok (cG G) hG0 _ hv116) ?_
                refine bsplit h (fun hb117 h => ?_) (fun hb117 h => ?_)
                ·refine bind_of h (fun v118 hv118 h => ?_)
                 simp -implicitDefEqProofs +decide only [go_sem, Nat.reduceAdd, Int.reduceToNat, hb2, hb86, hb87, hb89, hb90, hb93, hb103, hb107, hb108, hb109, hb117]
                 refine call_go [0] false (bodegalaw24_node_ok (cG G) hG0 _ _ hv118) ?_
                 refine bind_of h (fun v119 hv119 h => ?_)
                 simp -implicitDefEqProofs +decide only [go_sem, Nat.reduceAdd, Int.reduceToNat, hb2, hb86, hb87, hb89, hb90, hb93, hb103, hb107, hb108, hb109, hb117]
                 refine call_go [0, 0] false (bodegalaw24_sameNode_ok (cG G) hG0 _ _ _ hv119) ?_
                 rcases hb120 : v119 with _ | _
                 ·replace h : some false = some res := by first | exact h | (rw [and_f hb120] at h; exact h)
                  simp -implicitDefEqProofs +decide only [go_sem, Nat.reduceAdd, Int.reduceToNat, hb2, hb86, hb87, hb89, hb90, hb93, hb103, hb107, hb108, hb109, hb117, hb120]
                  refine draw_go (by kernel_rfl) ?_
                  refine hK _ ?_
                  refine swp_ret ?_
                  with_reducible repeat first|apply nn|apply nb|apply nr|apply nc|apply ne|apply nq|apply nx rfl
                  obtain rfl := some_eq h
                  exact rt
                 ·replace h : some (v114.2 == v115.2) = some res := by first | exact h | (rw [and_t hb120] at h; exact h)
                  simp -implicitDefEqProofs +decide only [go_sem, Nat.reduceAdd, Int.reduceToNat, hb2, hb86, hb87, hb89, hb90, hb93, hb103, hb107, hb108, hb109, hb117, hb120]
                  refine draw_go (by kernel_rfl) ?_
                  refine hK _ ?_
                  refine swp_ret ?_
                  with_reducible repeat first|apply nn|apply nb|apply nr|apply nc|apply ne|apply nq|apply nx rfl
                  obtain rfl := some_eq h
                  exact rt
                ·simp -implicitDefEqProofs +decide only [go_sem, Nat.reduceAdd, Int.reduceToNat, hb2, hb86, hb87, hb89, hb90, hb93, hb103, hb107, hb108, hb109, hb117]
                 refine draw_go (by kernel_rfl) ?_
                 refine hK _ ?_
                 refine swp_ret ?_
                 with_reducible repeat first|apply nn|apply nb|apply nr|apply nc|apply ne|apply nq|apply nx rfl
                 obtain rfl := some_eq h
                 exact rt
      refine swp_seq ?_
      refine seq_reg rfl (fun K hK => ?_)
      refine bsplit h (fun hb121 h => ?_) (fun hb121 h => ?_)
      ·refine bsplit h (fun hb122 h => ?_) (fun hb122 h => ?_)
       ·refine bsplit h (fun hb123 h => ?_) (fun hb123 h => ?_)
        ·simp -implicitDefEqProofs +decide only [go_sem, Nat.reduceAdd, Int.reduceToNat, hb2, hb121, hb122, hb123]
         refine hK _ ?_
         refine bsplit h (fun hb124 h => ?_) (fun hb124 h => ?_)
         ·refine if_go ?_
          refine swp_reg rfl (fun K hK => ?_)
          refine bind_of h (fun e125 he125 h => ?_)
          obtain ⟨he125_0, he125_1, he125_2⟩ := idx_some he125
          simp -implicitDefEqProofs +decide only [go_sem, Nat.reduceAdd, Int.reduceToNat, he125_0, he125_1, he125_2, hb2, hb121, hb122, hb123, hb124]
          refine hK _ ?_
          with_reducible repeat first|apply nn|apply nb|apply nr|apply nc|apply ne|apply nq|apply nx rfl
          exact jump_of hj4 h (ren_go (fun g S => [(⟨1024000010, g⟩, (keyT 0 (St.env S 3))), (⟨1024000011, g⟩, (keyT 0 (St.env S 7))), (⟨1024000012, g⟩, (keyB 6 (St.heap S (keyT 0 (St.env S 7)))))]) fun g S => [])
         ·refine el_go ?_
          refine swp_skip ?_
          with_reducible repeat first|apply nn|apply nb|apply nr|apply nc|apply ne|apply nq|apply nx rfl
          exact jump_of hj4 h (ren_go (fun g S => [(⟨1024000010, g⟩, (keyT 0 (St.env S 3))), (⟨1024000011, g⟩, (keyT 0 (St.env S 7))), (⟨1024000012, g⟩, (keyB 6 (St.heap S (keyT 0 (St.env S 7)))))]) fun g S => [])
        ·simp -implicitDefEqProofs +decide only [go_sem, Nat.reduceAdd, Int.reduceToNat, hb2, hb121, hb122, hb123]
         refine hK _ ?_
         refine el_go ?_
         refine swp_skip ?_
         with_reducible repeat first|apply nn|apply nb|apply nr|apply nc|apply ne|apply nq|apply nx rfl
         exact jump_of hj4 h (ren_go (fun g S => [(⟨1024000010, g⟩, (keyT 0 (St.env S 3))), (⟨1024000011, g⟩, (keyT 0 (St.env S 7))), (⟨1024000012, g⟩, (keyB 6 (St.heap S (keyT 0 (St.env S 7)))))]) fun g S => [])
       ·simp -implicitDefEqProofs +decide only [go_sem, Nat.reduceAdd, Int.reduceToNat, hb2, hb121, hb122]
        refine hK _ ?_
        refine el_go ?_
        refine swp_skip ?_
        with_reducible repeat first|apply nn|apply nb|apply nr|apply nc|apply ne|apply nq|apply nx rfl
        exact jump_of hj4 h (ren_go (fun g S => [(⟨1024000010, g⟩, (keyT 0 (St.env S 3))), (⟨1024000011, g⟩, (keyT 0 (St.env S 7))), (⟨1024000012, g⟩, (keyB 6 (St.heap S (keyT 0 (St.env S 7)))))]) fun g S => [])
      ·simp -implicitDefEqProofs +decide only [go_sem, Nat.reduceAdd, Int.reduceToNat, hb2, hb121]
       refine hK _ ?_
       refine el_go ?_
       refine swp_skip ?_
       with_reducible repeat first|apply nn|apply nb|apply nr|apply nc|apply ne|apply nq|apply nx rfl
       exact jump_of hj4 h (ren_go (fun g S => [(⟨1024000010, g⟩, (keyT 0 (St.env S 3))), (⟨1024000011, g⟩, (keyT 0 (St.env S 7))), (⟨1024000012, g⟩, (keyB 6 (St.heap S (keyT 0 (St.env S 7)))))]) fun g S => [])
     refine swp_seq ?_
     refine seq_reg rfl (fun K hK => ?_)
     refine bsplit h (fun hb131 h => ?_) (fun hb131 h => ?_)
     ·refine bsplit h (fun hb132 h => ?_) (fun hb132 h => ?_)
      ·simp -implicitDefEqProofs +decide only [go_sem, Nat.reduceAdd, Int.reduceToNat, hb2, hb131, hb132]
       refine hK _ ?_
       refine bsplit h (fun hb133 h => ?_) (fun hb133 h => ?_)
       ·refine if_go ?_
        refine swp_reg rfl (fun K hK => ?_)
        refine bind_of h (fun e134 he134 h => ?_)
        obtain ⟨he134_0, he134_1, he134_2⟩ := idx_some he134
        simp -implicitDefEqProofs +decide only [go_sem, Nat.reduceAdd, Int.reduceToNat, he134_0, he134_1, he134_2, hb2, hb131, hb132, hb133]
        refine hK _ ?_
        with_reducible repeat first|apply nn|apply nb|apply nr|apply nc|apply ne|apply nq|apply nx rfl
        exact jump_of hj3 h (ren_go (fun g S => [(⟨1024000007, g⟩, (keyT 0 (St.env S 3))), (⟨1024000008, g⟩, (keyT 0 (St.env S 7))), (⟨1024000009, g⟩, (keyB 6 (St.heap S (keyT 0 (St.env S 7)))))]) fun g S => [])
       ·refine el_go ?_
        refine swp_skip ?_
        with_reducible repeat first|apply nn|apply nb|apply nr|apply nc|apply ne|apply nq|apply nx rfl
        exact jump_of hj3 h (ren_go (fun g S => [(⟨1024000007, g⟩, (keyT 0 (St.env S 3))), (⟨1024000008, g⟩, (keyT 0 (St.env S 7))), (⟨1024000009, g⟩, (keyB 6 (St.heap S (keyT 0 (St.env S 7)))))]) fun g S => [])
      ·simp -implicitDefEqProofs +decide only [go_sem, Nat.reduceAdd, Int.reduceToNat, hb2, hb131, hb132]
       refine hK _ ?_
       refine el_go ?_
       refine swp_skip ?_
       with_reducible repeat first|apply nn|apply nb|apply nr|apply nc|apply ne|apply nq|apply nx rfl
       exact jump_of hj3 h (ren_go (fun g S => [(⟨1024000007, g⟩, (keyT 0 (St.env S 3))), (⟨1024000008, g⟩, (keyT 0 (St.env S 7))), (⟨1024000009, g⟩, (keyB 6 (St.heap S (keyT 0 (St.env S 7)))))]) fun g S => [])
     ·simp -implicitDefEqProofs +decide only [go_sem, Nat.reduceAdd, Int.reduceToNat, hb2, hb131]
      refine hK _ ?_
      refine el_go ?_
      refine swp_skip ?_
      with_reducible repeat first|apply nn|apply nb|apply nr|apply nc|apply ne|apply nq|apply nx rfl
      exact jump_of hj3 h (ren_go (fun g S => [(⟨1024000007, g⟩, (keyT 0 (St.env S 3))), (⟨1024000008, g⟩, (keyT 0 (St.env S 7))), (⟨1024000009, g⟩, (keyB 6 (St.heap S (keyT 0 (St.env S 7)))))]) fun g S => [])
    refine swp_seq ?_
    refine go_seq ?_
    refine swp_block ?_
    refine swp_iter (fun g x => match x with | (l166, x167) => stL [(2, (.c (.p (.int .i64 a2)))), (3, (.c (.ptr ⟨1024000013, g⟩ 0 0))), (4, (.c (.ptr ⟨1024000014, g⟩ 0 0))), (7, (.c (.ptr ⟨1024000015, g⟩ 0 0))), (8, (.c (.p (.int .i64 v3)))), (9, (.c (.p (.int .i64 x167))))] [(⟨1024000013, g⟩, .box true [(.p (.int .i64 a0.Line)), (.p (.int .u64 a0.Head)), (.p (.int .u64 x16)), (.p (.int .u64 a0.Data.a1)), (.p (.int .u64 a0.Data.a2)), (.p (.int .u64 a0.Data.a3)), (.p (.int .u64 a0.Data.a4)), (.p (.int .u64 a0.Data.a5)), (.p (.int .u64 a0.Data.a6))]), (⟨1024000014, g⟩, .box true (b_kfil a1)), (⟨1024000015, g⟩, .box true [(.p (.int .i64 x17)), (.p (.bool a1.Leftmost)), (.p (.bool a1.Dead)), (.p (.int .u32 x18)), (.p (.int .i64 x19.Line)), (.p (.int .i64 x19.Gen)), (.ref ⟨1024000016, g⟩ 0 l166.length)]), (⟨1024000016, g⟩, .arr true 3 (l166.map r_hashindex_Entry))] (g + 1)) h (enter_of (ren_go (fun g S => [(⟨1024000013, g⟩, (keyT 0 (St.env S 3))), (⟨1024000014, g⟩, (keyT 0 (St.env S 4))), (⟨1024000015, g⟩, (keyT 0 (St.env S 7)))]) fun g S => [(⟨1024000016, g⟩, 3)])) ?_
    rintro g ⟨l166, x167⟩ s1 h hd1
    rw [bodegalaw24_TreeNodes_L1] at h
    try dsimp only
    refine swp_seq ?_
    refine go_seq ?_
    refine bsplit h (fun hb170 h => ?_) (fun hb170 h => ?_)
    ·refine if_go ?_
     refine swp_skip ?_
     with_reducible repeat first|apply nn|apply nb|apply nr|apply nc|apply ne|apply nq|apply nx rfl
     refine swp_seq ?_
     refine swp_block ?_
     refine seq_reg rfl (fun K hK => ?_)
     refine bind_of h (fun e171 he171 h => ?_)
     obtain ⟨he171_0, he171_1, he171_2⟩ := idx_some he171
     simp -implicitDefEqProofs +decide only [go_sem, Nat.reduceAdd, Int.reduceToNat, he171_0, he171_1, he171_2, hb170]
     refine hK _ ?_
     refine cut1 (Joins (bodegalaw24_TreeNodes_J5 l166 x167) (fun g x175 => stL [(2, (.c (.p (.int .i64 a2)))), (3, (.c (.ptr ⟨1024000017, g⟩ 0 0))), (4, (.c (.ptr ⟨1024000018, g⟩ 0 0))), (7, (.c (.ptr ⟨1024000019, g⟩ 0 0))), (8, (.c (.p (.int .i64 v3)))), (9, (.c (.p (.int .i64 x167)))), (10, (.c (.ptr ⟨1024000021, g⟩ 0 0)))] [(⟨1024000017, g⟩, .box true [(.p (.int .i64 a0.Line)), (.p (.int .u64 a0.Head)), (.p (.int .u64 x16)), (.p (.int .u64 a0.Data.a1)), (.p (.int .u64 a0.Data.a2)), (.p (.int .u64 a0.Data.a3)), (.p (.int .u64 a0.Data.a4)), (.p (.int .u64 a0.Data.a5)), (.p (.int .u64 a0.Data.a6))]), (⟨1024000018, g⟩, .box true (b_kfil a1)), (⟨1024000019, g⟩, .box true [(.p (.int .i64 x17)), (.p (.bool a1.Leftmost)), (.p (.bool a1.Dead)), (.p (.int .u32 x18)), (.p (.int .i64 x19.Line)), (.p (.int .i64 x19.Gen)), (.ref ⟨1024000020, g⟩ 0 l166.length)]), (⟨1024000020, g⟩, .arr true 3 (l166.map r_hashindex_Entry)), (⟨1024000021, g⟩, .box true [(.p (.int .u32 x175.Key)), (.p (.int .i64 x175.To.Line)), (.p (.int .i64 x175.To.Gen))])] (g + 1)) s1) ?_ (fun hj5 => ?_)
     ·refine join_of ?_
      rintro g x175 h
      rw [bodegalaw24_TreeNodes_J5] at h
      try dsimp only
      refine swp_reg rfl (fun K hK => ?_)
      refine psplit h (fun hp176 h => ?_)
      simp -implicitDefEqProofs +decide only [go_sem, Nat.reduceAdd, Int.reduceToNat, hp176, hb170]
      refine hK _ ?_
      with_reducible repeat first|apply nn|apply nb|apply nr|apply nc|apply ne|apply nq|apply nx rfl
      refine swp_fresh (fun g => stL [(2, (.c (.p (.int .i64 a2)))), (3, (.c (.ptr ⟨1024000022, g⟩ 0 0))), (4, (.c (.ptr ⟨1024000023, g⟩ 0 0))), (7, (.c (.ptr ⟨1024000024, g⟩ 0 0))), (8, (.c (.p (.int .i64 v3)))), (9, (.c (.p (.int .i64 x167))))] [(⟨1024000022, g⟩, .box true [(.p (.int .i64 a0.Line)), (.p (.int .u64 a0.Head)), (.p (.int .u64 x16)), (.p (.int .u64 a0.Data.a1)), (.p (.int .u64 a0.Data.a2)), (.p (.int .u64 a0.Data.a3)), (.p (.int .u64 a0.Data.a4)), (.p (.int .u64 a0.Data.a5)), (.p (.int .u64 a0.Data.a6))]), (⟨1024000023, g⟩, .box true (b_kfil a1)), (⟨1024000024, g⟩, .box true [(.p (.int .i64 x17)), (.p (.bool a1.Leftmost)), (.p (.bool a1.Dead)), (.p (.int .u32 x18)), (.p (.int .i64 x19.Line)), (.p (.int .i64 x19.Gen)), (.ref ⟨1024000025, g⟩ 0 (l166 ++ ([x175] : List hashindex_Entry)).length)]), (⟨1024000025, g⟩, .arr true 3 ((l166 ++ ([x175] : List hashindex_Entry)).map r_hashindex_Entry))] (g + 1)) (ren_go (fun g S => [(⟨1024000022, g⟩, (keyT 0 (St.env S 3))), (⟨1024000023, g⟩, (keyT 0 (St.env S 4))), (⟨1024000024, g⟩, (keyT 0 (St.env S 7))), (⟨1024000025, g⟩, (keyB 6 (St.heap S (keyT 0 (St.env S 7)))))]) fun g S => []) fun g => ?_
      refine go_swp ?_
      with_reducible repeat first|apply nn|apply nb|apply nr|apply nc|apply ne|apply nq|apply nx rfl
      exact back_of h (ren_go (fun g S => [(⟨1024000013, g⟩, (keyT 0 (St.env S 3))), (⟨1024000014, g⟩, (keyT 0 (St.env S 4))), (⟨1024000015, g⟩, (keyT 0 (St.env S 7))), (⟨1024000016, g⟩, (keyB 6 (St.heap S (keyT 0 (St.env S 7)))))]) fun g S => [])
     refine swp_seq ?_
     refine go_seq ?_
     refine bsplit h (fun hb179 h => ?_) (fun hb179 h => ?_)
     ·refine if_go ?_
      refine go_seq ?_
      refine swp_drw rfl (fun K hK => ?_)
      refine bind_of h (fun v180 hv180 h => ?_)
      simp -implicitDefEqProofs +decide only [go_sem, Nat.reduceAdd, Int.reduceToNat, hb170, hb179]
      refine call_go [0, 0] false (bodegahand_Pick_ok (cG G) hG0 _ _ _ hv180) ?_
      refine bind_of h (fun v181 hv181 h => ?_)
      simp -implicitDefEqProofs +decide only [go_sem, Nat.reduceAdd, Int.reduceToNat, hb170, hb179]
      refine call_go [0, 0] false (bodegahand_Pick_ok (cG G) hG0 _ _ _ hv181) ?_
      simp -implicitDefEqProofs +decide only [go_sem, Nat.reduceAdd, Int.reduceToNat, hb170, hb179]
      refine draw_go (by kernel_rfl) ?_
      refine hK _ ?_
      with_reducible repeat first|apply nn|apply nb|apply nr|apply nc|apply ne|apply nq|apply nx rfl
      exact jump_of hj5 h (ren_go (fun g S => [(⟨1024000017, g⟩, (keyT 0 (St.env S 3))), (⟨1024000018, g⟩, (keyT 0 (St.env S 4))), (⟨1024000019, g⟩, (keyT 0 (St.env S 7))), (⟨1024000020, g⟩, (keyB 6 (St.heap S (keyT 0 (St.env S 7))))), (⟨1024000021, g⟩, (keyT 0 (St.env S 10)))]) fun g S => [])
     ·refine el_go ?_
      refine swp_skip ?_
      with_reducible repeat first|apply nn|apply nb|apply nr|apply nc|apply ne|apply nq|apply nx rfl
      exact jump_of hj5 h (ren_go (fun g S => [(⟨1024000017, g⟩, (keyT 0 (St.env S 3))), (⟨1024000018, g⟩, (keyT 0 (St.env S 4))), (⟨1024000019, g⟩, (keyT 0 (St.env S 7))), (⟨1024000020, g⟩, (keyB 6 (St.heap S (keyT 0 (St.env S 7))))), (⟨1024000021, g⟩, (keyT 0 (St.env S 10)))]) fun g S => [])
    ·refine el_go ?_
     refine swp_exit ?_
     with_reducible repeat first|apply nn|apply nb|apply nr|apply nc|apply ne|apply nq|apply nx rfl
     obtain ⟨h, hs1⟩ := exit_of h hd1
     with_reducible repeat first|apply nn|apply nb|apply nr|apply nc|apply ne|apply nq|apply nx rfl
     refine ⟨hs1, ?_⟩
     with_reducible repeat first|apply nn|apply nb|apply nr|apply nc|apply ne|apply nq|apply nx rfl
     exact jump_of hj2 h (ren_go (fun g S => [(⟨1024000004, g⟩, (keyT 0 (St.env S 3))), (⟨1024000005, g⟩, (keyT 0 (St.env S 7))), (⟨1024000006, g⟩, (keyB 6 (St.heap S (keyT 0 (St.env S 7)))))]) fun g S => [])
   refine swp_seq ?_
   refine go_seq ?_
   refine bsplit h (fun hb187 h => ?_) (fun hb187 h => ?_)
   ·refine if_go ?_
    refine seq_reg rfl (fun K hK => ?_)
    refine bind_of h (fun v188 hv188 h => ?_)
    simp -implicitDefEqProofs +decide only [go_sem, Nat.reduceAdd, Int.reduceToNat, hb2, hb187]
    refine call_go [0, 0] false (bodegahand_Pick_ok (cG G) hG0 _ _ _ hv188) ?_
    simp -implicitDefEqProofs +decide only [go_sem, Nat.reduceAdd, Int.reduceToNat, hb2, hb187]
    refine hK _ ?_
    refine cut1 (Joins (bodegalaw24_TreeNodes_J6 a1 a2 v3 a0) (fun g x190 => stL [(2, (.c (.p (.int .i64 a2)))), (3, (.c (.ptr ⟨1024000026, g⟩ 0 0))), (4, (.c (.ptr ⟨1024000027, g⟩ 0 0))), (7, (.c (.ptr ⟨1024000028, g⟩ 0 0))), (8, (.c (.p (.int .i64 v3))))] [(⟨1024000026, g⟩, .box true (b_mq86 a0)), (⟨1024000027, g⟩, .box true (b_kfil a1)), (⟨1024000028, g⟩, .box true [(.p (.int .i64 x190)), (.p (.bool a1.Leftmost)), (.p (.bool a1.Dead)), (.p (.int .u32 a1.High)), (.p (.int .i64 a1.Right.Line)), (.p (.int .i64 a1.Right.Gen)), .nilS])] (g + 1)) res) ?_ (fun hj6 => ?_)
    ·refine join_of ?_
     rintro g x190 h
     rw [bodegalaw24_TreeNodes_J6] at h
     try dsimp only
     refine seq_reg rfl (fun K hK => ?_)
     refine bind_of h (fun v191 hv191 h => ?_)
     simp -implicitDefEqProofs +decide only [go_sem, Nat.reduceAdd, Int.reduceToNat, hb2, hb187]
     refine call_go [0] false (bodegalaw24_aim_ok (cG G) hG0 _ _ hv191) ?_
     simp -implicitDefEqProofs +decide only [go_sem, Nat.reduceAdd, Int.reduceToNat, hb2, hb187]
     refine hK _ ?_
     refine cut1 (Joins (bodegalaw24_TreeNodes_J7 a2 a1 v3 a0 x190 v191) (fun g x194 => stL [(2, (.c (.p (.int .i64 a2)))), (3, (.c (.ptr ⟨1024000029, g⟩ 0 0))), (4, (.c (.ptr ⟨1024000030, g⟩ 0 0))), (7, (.c (.ptr ⟨1024000031, g⟩ 0 0))), (8, (.c (.p (.int .i64 v3))))] [(⟨1024000029, g⟩, .box true (b_mq86 a0)), (⟨1024000030, g⟩, .box true (b_kfil a1)), (⟨1024000031, g⟩, .box true [(.p (.int .i64 x190)), (.p (.bool a1.Leftmost)), (.p (.bool a1.Dead)), (.p (.int .u32 x194)), (.p (.int .i64 v191.Line)), (.p (.int .i64 v191.Gen)), .nilS])] (g + 1)) res) ?_ (fun hj7 => ?_)
     ·refine join_of ?_
      rintro g x194 h
      rw [bodegalaw24_TreeNodes_J7] at h
      try dsimp only
      refine swp_drw rfl (fun K hK => ?_)
      refine bind_of h (fun v195 hv195 h => ?_)
      simp -implicitDefEqProofs +decide only [go_sem, Nat.reduceAdd, Int.reduceToNat, hb2, hb187]
      refine call_go [0, 0] false (bodegahand_Pick_ok (cG G) hG0 _ _ _ hv195) ?_
      simp -implicitDefEqProofs +decide only [go_sem, Nat.reduceAdd, Int.reduceToNat, hb2, hb187]
      refine draw_go (by kernel_rfl) ?_
      refine hK _ ?_
      with_reducible repeat first|apply nn|apply nb|apply nr|apply nc|apply ne|apply nq|apply nx rfl
      exact jump_of hj1 h (ren_go (fun g S => [(⟨1024000001, g⟩, (keyT 0 (St.env S 3))), (⟨1024000002, g⟩, (keyT 0 (St.env S 4))), (⟨1024000003, g⟩, (keyT 0 (St.env S 7)))]) fun g S => [])
     refine swp_seq ?_
     refine seq_reg rfl (fun K hK => ?_)
     refine bsplit h (fun hb200 h => ?_) (fun hb200 h => ?_)
     ·simp -implicitDefEqProofs +decide only [go_sem, Nat.reduceAdd, Int.reduceToNat, hb2, hb187, hb200]
      refine hK _ ?_
      rcases hb201 : (decide (v3 > 1)) with _ | _
      ·replace h : bodegalaw24_TreeNodes_J7 a2 a1 v3 a0 x190 v191 a1.High = some res := by first | exact h | (rw [if_f hb201] at h; exact h)
       refine el_go ?_
       refine swp_skip ?_
       with_reducible repeat first|apply nn|apply nb|apply nr|apply nc|apply ne|apply nq|apply nx rfl
       exact jump_of hj7 h (ren_go (fun g S => [(⟨1024000029, g⟩, (keyT 0 (St.env S 3))), (⟨1024000030, g⟩, (keyT 0 (St.env S 4))), (⟨1024000031, g⟩, (keyT 0 (St.env S 7)))]) fun g S => [])
      ·replace h : bodegalaw24_TreeNodes_J7 a2 a1 v3 a0 x190 v191 4294967295 = some res := by first | exact h | (rw [if_t hb201] at h; exact h)
       refine if_go ?_
       refine go_swp ?_
       with_reducible repeat first|apply nn|apply nb|apply nr|apply nc|apply ne|apply nq|apply nx rfl
       exact jump_of hj7 h (ren_go (fun g S => [(⟨1024000029, g⟩, (keyT 0 (St.env S 3))), (⟨1024000030, g⟩, (keyT 0 (St.env S 4))), (⟨1024000031, g⟩, (keyT 0 (St.env S 7)))]) fun g S => [])
     ·simp -implicitDefEqProofs +decide only [go_sem, Nat.reduceAdd, Int.reduceToNat, hb2, hb187, hb200]
      refine hK _ ?_
      refine el_go ?_
      refine swp_skip ?_
      with_reducible repeat first|apply nn|apply nb|apply nr|apply nc|apply ne|apply nq|apply nx rfl
      exact jump_of hj7 h (ren_go (fun g S => [(⟨1024000029, g⟩, (keyT 0 (St.env S 3))), (⟨1024000030, g⟩, (keyT 0 (St.env S 4))), (⟨1024000031, g⟩, (keyT 0 (St.env S 7)))]) fun g S => [])
    refine swp_seq ?_
    refine go_seq ?_
    refine bsplit h (fun hb205 h => ?_) (fun hb205 h => ?_)
    ·refine if_go ?_
     refine go_swp ?_
     with_reducible repeat first|apply nn|apply nb|apply nr|apply nc|apply ne|apply nq|apply nx rfl
     exact jump_of hj6 h (ren_go (fun g S => [(⟨1024000026, g⟩, (keyT 0 (St.env S 3))), (⟨1024000027, g⟩, (keyT 0 (St.env S 4))), (⟨1024000028, g⟩, (keyT 0 (St.env S 7)))]) fun g S => [])
    ·refine el_go ?_
     refine swp_skip ?_
     with_reducible repeat first|apply nn|apply nb|apply nr|apply nc|apply ne|apply nq|apply nx rfl
     exact jump_of hj6 h (ren_go (fun g S => [(⟨1024000026, g⟩, (keyT 0 (St.env S 3))), (⟨1024000027, g⟩, (keyT 0 (St.env S 4))), (⟨1024000028, g⟩, (keyT 0 (St.env S 7)))]) fun g S => [])
   ·refine el_go ?_
    refine swp_skip ?_
    with_reducible repeat first|apply nn|apply nb|apply nr|apply nc|apply ne|apply nq|apply nx rfl
    exact jump_of hj1 h (ren_go (fun g S => [(⟨1024000001, g⟩, (keyT 0 (St.env S 3))), (⟨1024000002, g⟩, (keyT 0 (St.env S 4))), (⟨1024000003, g⟩, (keyT 0 (St.env S 7)))]) fun g S => [])
end Go.Sh
end
section
namespace Go.Sh

def cE (e : hashindex_Entry) : bodegaref23_Entry := ⟨e.Key, cP e.To⟩
def cN (n : btree_Node) : bodegaref24_Node := ⟨n.Level, n.Leftmost, n.Dead, n.High, cP n.Right, n.Entries.map cE⟩
theorem idx_nat {α : Type} (l : List α) (i : Nat) : idx l (i : Int) = l[i]? := by unfold idx; simp
theorem idx_at {α : Type} {pre post : List α} {e : α} : idx (pre ++ e :: post) (pre.length : Int) = some e := by rw [idx_nat]; simp
theorem inc_eq {n : Nat} (h : n ≤ 1000000) : IntKind.i64.wrap ((n : Int) + 1) = (n : Int) + 1 := i64_in' (by omega)

theorem entries_loop (b : List hashindex_Entry) (hl : b.length ≤ 1000) : ∀ (post pre : List hashindex_Entry), b = pre ++ post →
    iter (bodegalaw24_entries_L1 b) (pre.map cE, (pre.length : Int)) = some (b.map cE)
  | [], pre, h => by
    rw [iter_eq]
    rw [List.append_nil] at h
    simp only [bodegalaw24_entries_L1, h, Int.lt_irrefl, decide_false, Bool.false_eq_true, if_false, Option.map_some, bind_s]
  | e :: post, pre, h => by
    rw [iter_eq]
    have hlt : (pre.length : Int) < (b.length : Int) := by rw [h]; simp; omega
    have hle : pre.length ≤ 1000 := by omega
    have hi : idx b (pre.length : Int) = some e := by rw [h]; exact idx_at
    have ih := entries_loop b hl post (pre ++ [e]) (by rw [h]; simp)
    simp only [List.map_append, List.map_cons, List.map_nil, List.length_append, List.length_cons, List.length_nil, Nat.zero_add, Int.natCast_add, Int.natCast_one] at ih
    have hm : ((pre.map cE).length + 1) * 24 ≤ maxRows ∧ (pre.map cE).length + 1 ≤ maxRows := by rw [List.length_map]; unfold maxRows; omega
    simp only [bodegalaw24_entries_L1, hlt, decide_true, if_true, hi, ref_eq, bind_s, hm, and_self, inc_eq (show pre.length ≤ 1000000 by omega)]
    exact ih
theorem node_eq {b : btree_Node} (hl : b.Entries.length ≤ 1000) : bodegalaw24_node b = some (cN b) := by
  unfold bodegalaw24_node
  have h : bodegalaw24_entries b.Entries = some (b.Entries.map cE) := entries_loop b.Entries hl b.Entries [] rfl
  rw [ref_eq, bind_s, h, bind_s]
  rfl
theorem same_loop (b : List bodegaref23_Entry) (hl : b.length ≤ 1000) : ∀ (post pre : List bodegaref23_Entry), b = pre ++ post → iter (bodegalaw24_sameEntries_L1 b b) (pre.length : Int) = some true
  | [], pre, h => by
    rw [iter_eq]
    rw [List.append_nil] at h
    simp only [bodegalaw24_sameEntries_L1, h, Int.lt_irrefl, decide_false, Bool.false_eq_true, if_false, Option.map_some, bind_s]
  | e :: post, pre, h => by
    rw [iter_eq]
    have hlt : (pre.length : Int) < (b.length : Int) := by rw [h]; simp; omega
    have hi : idx b (pre.length : Int) = some e := by rw [h]; exact idx_at
    have ih := same_loop b hl post (pre ++ [e]) (by rw [h]; simp)
    simp only [List.length_append, List.length_cons, List.length_nil, Nat.zero_add, Int.natCast_add, Int.natCast_one] at ih
    simp only [bodegalaw24_sameEntries_L1, hlt, decide_true, if_true, hi, bind_s, beq_self_eq_true, Bool.and_self, Bool.not_true, Bool.false_eq_true, if_false, inc_eq (show pre.length ≤ 1000000 by omega)]
    exact ih
theorem same_eq (b : bodegaref24_Node) (hl : b.Entries.length ≤ 1000) : bodegalaw24_sameNode b b = some true := by
  unfold bodegalaw24_sameNode
  have h : bodegalaw24_sameEntries b.Entries b.Entries = some true := by
    unfold bodegalaw24_sameEntries
    simp only [bne_self_eq_false, Bool.false_eq_true, if_false]
    exact same_loop b.Entries hl b.Entries [] rfl
  simp only [beq_self_eq_true, Bool.and_self, if_true, h, bind_s]

/-- The keys ascend from a number on; the pointers are valid. -/
def rise : Int → List hashindex_Entry → Bool
  | _, [] => true
  | prev, e :: es => decide (prev < e.Key) && (vp e.To.Line e.To.Gen && rise e.Key es)
/-- The last key. -/
def lk : Int → List hashindex_Entry → Int
  | prev, [] => prev
  | _, e :: es => lk e.Key es
theorem rise_lk : ∀ {es : List hashindex_Entry} {prev : Int}, rise prev es = true → prev ≤ lk prev es
  | [], _, _ => Int.le_refl _
  | e :: es, prev, h => by
    simp only [rise, Bool.and_eq_true, decide_eq_true_eq] at h
    have := rise_lk h.2.2
    show prev ≤ lk e.Key es
    omega
theorem lk_last : ∀ (es : List hashindex_Entry) (prev : Int) (e : hashindex_Entry), es.getLast? = some e → lk prev es = e.Key
  | [], _, _, h => by simp at h
  | [a], _, _, h => by simp at h; subst h; rfl
  | a :: b :: r, prev, e, h => by
    show lk a.Key (b :: r) = e.Key
    exact lk_last (b :: r) a.Key e (by simpa using h)
theorem rising_loop (b : List hashindex_Entry) (hl : b.length ≤ 1000) : ∀ (post pre : List hashindex_Entry) (prev : Int), b = pre ++ post → iter (btree_rising_L1 b) (prev, (pre.length : Int)) = some (rise prev post)
  | [], pre, prev, h => by
    rw [iter_eq]
    rw [List.append_nil] at h
    simp only [btree_rising_L1, h, Int.lt_irrefl, decide_false, Bool.false_eq_true, if_false, Option.map_some, bind_s, rise]
  | e :: post, pre, prev, h => by
    rw [iter_eq]
    have hlt : (pre.length : Int) < (b.length : Int) := by rw [h]; simp; omega
    have hi : idx b (pre.length : Int) = some e := by rw [h]; exact idx_at
    have ih := rising_loop b hl post (pre ++ [e]) e.Key (by rw [h]; simp)
    simp only [List.length_append, List.length_cons, List.length_nil, Nat.zero_add, Int.natCast_add, Int.natCast_one] at ih
    simp only [btree_rising_L1, hlt, decide_true, if_true, hi, bind_s, Valid_eq, rise, inc_eq (show pre.length ≤ 1000000 by omega)]
    by_cases c1 : prev < e.Key
    · have c1' : ¬ e.Key ≤ prev := by omega
      rcases Bool.eq_false_or_eq_true (vp e.To.Line e.To.Gen) with c3 | c3 <;>
        simp only [c1, c1', c3, decide_true, decide_false, Bool.not_true, Bool.not_false, Bool.false_eq_true, if_true, if_false, Bool.true_and, Bool.false_and, Option.map_some, bind_s, ih]
    · have c1' : e.Key ≤ prev := by omega
      simp only [c1, c1', decide_true, decide_false, if_true, Bool.false_and, Option.map_some, bind_s]
theorem rising_eq (b : List hashindex_Entry) (hl : b.length ≤ 1000) : btree_rising b = some (rise 0 b) := rising_loop b hl b [] 0 rfl

def rn (n : btree_Node) : Bool := n.Right.Line == 0 && n.Right.Gen == 0
/-- What is asked of the last key. -/
def nvLast (n : btree_Node) (last : Int) : Bool :=
  if n.Level > 0 then (!n.Dead && (last == n.High)) else (!n.Dead || (n.Entries.isEmpty && (!n.Leftmost && !rn n))) && (decide (last ≤ n.High) && decide (last ≤ 4294967294))
def nv (n : btree_Node) : Bool :=
  (decide (0 ≤ n.Level) && decide (n.Level ≤ 8)) && (decide (n.Entries.length ≤ 5) && (rise 0 n.Entries && ((n.High != 0) && ((rn n || vp n.Right.Line n.Right.Gen) && (((n.High == 4294967295) == rn n) && nvLast n (lk 0 n.Entries))))))
theorem vJ2 (n : btree_Node) (x : Int) : btree_Node_valid_J2 n x = some (nvLast n x) := by
  unfold btree_Node_valid_J2 nvLast btree_Node_valid_J3
  by_cases h : n.Level > 0
  · simp [h]
  · simp only [h, decide_false, Bool.false_eq_true, if_false]
    cases hd : n.Dead
    · simp
    · simp only [Bool.not_true, Bool.false_or, if_true]
      by_cases he : (n.Entries.length : Int) > 0
      · have : n.Entries.isEmpty = false := by cases hE : n.Entries with
          | nil => rw [hE] at he; simp at he
          | cons => rfl
        simp only [he, this, decide_true, if_true, Bool.false_and]
      · have : n.Entries.isEmpty = true := by cases hE : n.Entries with
          | nil => rfl
          | cons => rw [hE] at he; simp at he <;> omega
        simp only [he, this, decide_false, Bool.false_eq_true, if_false, Bool.true_and]
        rw [show (n.Right.Line == 0 && n.Right.Gen == 0) = rn n from rfl]
        cases n.Leftmost <;> cases rn n <;> simp
theorem last_idx (l : List hashindex_Entry) (hl : l.length ≤ 1000) (h : (l.length : Int) > 0) : ∃ e, idx l (IntKind.i64.wrap ((l.length : Int) - 1)) = some e ∧ e.Key = lk 0 l := by
  rw [i64_in' (by omega), show (l.length : Int) - 1 = ((l.length - 1 : Nat) : Int) by omega, idx_nat]
  have hlt : l.length - 1 < l.length := by omega
  refine ⟨_, List.getElem?_eq_getElem hlt, ?_⟩
  refine (lk_last l 0 _ ?_).symm
  rw [List.getLast?_eq_getElem?, List.getElem?_eq_getElem hlt]
theorem vJ1 (n : btree_Node) (hl : n.Entries.length ≤ 1000) : btree_Node_valid_J1 n () = some (nvLast n (lk 0 n.Entries)) := by
  unfold btree_Node_valid_J1
  by_cases he : (n.Entries.length : Int) > 0
  · obtain ⟨e, h1, h2⟩ := last_idx n.Entries hl he
    simp only [he, decide_true, if_true, h1, bind_s, vJ2, h2]
  · have : n.Entries = [] := by cases hE : n.Entries with
      | nil => rfl
      | cons => rw [hE] at he; simp at he <;> omega
    simp only [he, decide_false, Bool.false_eq_true, if_false, vJ2]
    rw [this]; rfl
theorem valid_eq (n : btree_Node) (hl : n.Entries.length ≤ 1000) : btree_Node_valid n = some (nv n) := by
  unfold btree_Node_valid nv
  by_cases h1 : n.Level < 0
  · have : ¬ 0 ≤ n.Level := by omega
    simp [h1, this]
  · by_cases h2 : n.Level > 8
    · have : ¬ n.Level ≤ 8 := by omega
      simp [h1, h2, this]
    · by_cases h5 : n.Entries.length ≤ 5
      · have a1 : 0 ≤ n.Level := by omega
        have a2 : n.Level ≤ 8 := by omega
        have a3 : ¬ (n.Entries.length : Int) > 5 := by omega
        simp only [h1, h2, a1, a2, a3, h5, decide_true, decide_false, Bool.false_eq_true, if_false, rising_eq n.Entries hl, bind_s, vJ1 n hl, Valid_eq, Bool.true_and, Bool.and_self]
        rw [show (n.Right.Line == 0 && n.Right.Gen == 0) = rn n from rfl]
        by_cases h6 : n.High = 0
        · cases rise 0 n.Entries <;> simp [h6]
        · have h6' : (n.High == 0) = false := by simpa using h6
          have h6'' : (n.High != 0) = true := by simpa using h6
          simp only [h6', h6'', Bool.true_and]
          cases rise 0 n.Entries <;> cases rn n <;> cases vp n.Right.Line n.Right.Gen <;> cases (n.High == 4294967295) <;> simp
      · have a3 : (n.Entries.length : Int) > 5 := by omega
        simp [h1, h2, a3, h5]

/-- What the reference asks of the entries. -/
def rR (n : btree_Node) : Int → List hashindex_Entry → Bool
  | _, [] => true
  | prev, e :: es => decide (prev < e.Key) && (decide (e.Key ≤ n.High) && (vp e.To.Line e.To.Gen && ((!(n.Level == 0) || decide (e.Key ≤ 4294967294)) && rR n e.Key es)))
theorem rR_eq (n : btree_Node) : ∀ (es : List hashindex_Entry) (prev : Int), prev ≤ n.High → (n.Level = 0 → prev ≤ 4294967294) →
    rR n prev es = (rise prev es && (decide (lk prev es ≤ n.High) && (!(n.Level == 0) || decide (lk prev es ≤ 4294967294))))
  | [], prev, h1, h2 => by
    simp only [rR, rise, lk, h1, decide_true, Bool.true_and]
    by_cases h : n.Level = 0
    · simp [h, h2 h]
    · simp [h]
  | e :: es, prev, h1, h2 => by
    show rR n prev (e :: es) = (rise prev (e :: es) && (decide (lk e.Key es ≤ n.High) && (!(n.Level == 0) || decide (lk e.Key es ≤ 4294967294))))
    simp only [rR, rise]
    by_cases c1 : prev < e.Key
    · by_cases c2 : e.Key ≤ n.High
      · by_cases c3 : n.Level = 0 → e.Key ≤ 4294967294
        · have ih := rR_eq n es e.Key c2 c3
          have : (!(n.Level == 0) || decide (e.Key ≤ 4294967294)) = true := by
            by_cases h : n.Level = 0
            · simp [h, c3 h]
            · simp [h]
          rw [this, ih]
          simp [c1, c2, Bool.and_assoc]
        · have hL : n.Level = 0 := Classical.not_imp.1 c3 |>.1
          have hk : ¬ e.Key ≤ 4294967294 := Classical.not_imp.1 c3 |>.2
          simp only [hL, beq_self_eq_true, Bool.not_true, Bool.false_or, hk, decide_false, Bool.false_and, Bool.and_false]
          cases hr : rise e.Key es
          · simp
          · have := rise_lk hr
            have : ¬ lk e.Key es ≤ 4294967294 := by omega
            simp [this]
      · cases hr : rise e.Key es
        · simp [c2]
        · have := rise_lk hr
          have h3 : ¬ lk e.Key es ≤ n.High := by omega
          simp [c2, h3]
    · simp [c1]
def rvLast (n : btree_Node) : Bool := (decide (n.Level ≤ 0) || (!n.Entries.isEmpty && (lk 0 n.Entries == n.High))) && (!n.Dead || ((n.Level == 0) && (n.Entries.isEmpty && (!n.Leftmost && !rn n))))
theorem emp_len (l : List hashindex_Entry) : ((l.length : Int) == 0) = l.isEmpty := by
  cases l with
  | nil => rfl
  | cons a r => simp only [List.length_cons, List.isEmpty_cons, beq_eq_false_iff_ne, ne_eq]; omega
theorem vrJ3 (n : btree_Node) : bodegaref24_ValidNode_J3 (cN n) () = some (!n.Dead || ((n.Level == 0) && (n.Entries.isEmpty && (!n.Leftmost && !rn n)))) := by
  unfold bodegaref24_ValidNode_J3
  show some (!n.Dead || ((n.Level == 0) && ((((n.Entries.map cE).length : Int) == 0) && ((!n.Leftmost) && (!((n.Right.Line == 0) && (n.Right.Gen == 0))))))) = _
  rw [List.length_map, emp_len]
  rfl
theorem vrJ2 (n : btree_Node) (hl : n.Entries.length ≤ 1000) : bodegaref24_ValidNode_J2 (cN n) () = some (rvLast n) := by
  unfold bodegaref24_ValidNode_J2 rvLast
  rw [vrJ3]
  show (if (decide (n.Level > 0)) = true then if (((n.Entries.map cE).length : Int) == 0) = true then some false else (idx (n.Entries.map cE) (IntKind.i64.wrap (((n.Entries.map cE).length : Int) - 1))).bind fun e69 => if (e69.Key != n.High) = true then some false else _ else _) = _
  rw [List.length_map, emp_len]
  by_cases h : n.Level > 0
  · have h' : ¬ n.Level ≤ 0 := by omega
    cases hE : n.Entries with
    | nil => simp [h, h']
    | cons a r =>
      have he : (n.Entries.length : Int) > 0 := by rw [hE]; simp only [List.length_cons]; omega
      obtain ⟨e, h1, h2⟩ := last_idx n.Entries hl he
      have h1' : idx (n.Entries.map cE) (IntKind.i64.wrap ((n.Entries.length : Int) - 1)) = some (cE e) := by
        rw [i64_in' (by omega), show (n.Entries.length : Int) - 1 = ((n.Entries.length - 1 : Nat) : Int) by omega, idx_nat] at h1 ⊢
        rw [List.getElem?_map, h1]; rfl
      rw [← hE, h1', ← h2]
      have hne : n.Entries.isEmpty = false := by rw [hE]; rfl
      simp only [h, h', hne, decide_true, decide_false, if_true, Bool.false_eq_true, if_false, bind_s, Bool.false_or, Bool.not_false, Bool.true_and]
      rw [show (cE e).Key = e.Key from rfl]
      by_cases hk : e.Key = n.High <;> simp [hk]
  · have h' : n.Level ≤ 0 := by omega
    simp [h, h']
theorem vr_loop (n : btree_Node) (hl : n.Entries.length ≤ 1000) (hk : ∀ e ∈ n.Entries, 0 ≤ e.Key) : ∀ (post pre : List hashindex_Entry) (prev : Int), n.Entries = pre ++ post → (∀ e, pre.getLast? = some e → e.Key = prev) → (pre = [] → prev = 0) → 0 ≤ prev →
    iter (bodegaref24_ValidNode_L1 (cN n)) (pre.length : Int) = some (rR n prev post && rvLast n)
  | [], pre, prev, h, _, _, _ => by
    rw [iter_eq]
    rw [List.append_nil] at h
    have hlen : ((cN n).Entries.length : Int) = (pre.length : Int) := by show (((n.Entries.map cE).length : Nat) : Int) = _; rw [List.length_map, h]
    simp only [bodegaref24_ValidNode_L1, hlen, Int.lt_irrefl, decide_false, Bool.false_eq_true, if_false, vrJ2 n hl, Option.map_some, bind_s, rR, Bool.true_and]
  | e :: post, pre, prev, h, hp, hz, h0 => by
    rw [iter_eq]
    have hlt : (pre.length : Int) < ((cN n).Entries.length : Int) := by show (pre.length : Int) < ((n.Entries.map cE).length : Int); rw [List.length_map, h]; simp; omega
    have hi : idx (cN n).Entries (pre.length : Int) = some (cE e) := by
      show idx (n.Entries.map cE) _ = _
      rw [h, List.map_append, List.map_cons]
      have := @idx_at _ (pre.map cE) (post.map cE) (cE e)
      rwa [List.length_map] at this
    have hll : pre.length ≤ 1000 := by rw [h] at hl; simp at hl; omega
    have hprev : (pre.length : Int) > 0 → idx (cN n).Entries (IntKind.i64.wrap ((pre.length : Int) - 1)) = some (cE (pre.getLast?.getD e)) ∧ (pre.getLast?.getD e).Key = prev := fun hpos => by
      rw [i64_in' (x := (pre.length : Int) - 1) (by omega)]
      cases hg : pre.getLast? with
      | none => rw [List.getLast?_eq_none_iff] at hg; subst hg; simp at hpos
      | some y =>
        refine ⟨?_, hp y hg⟩
        show idx (n.Entries.map cE) _ = _
        rw [show (pre.length : Int) - 1 = ((pre.length - 1 : Nat) : Int) by omega, idx_nat, h, List.getElem?_map, List.getElem?_append_left (by omega)]
        rw [List.getLast?_eq_getElem?] at hg
        rw [hg]; rfl
    have k1 : (cE e).Key = e.Key := rfl
    have k2 : (cE e).To = cP e.To := rfl
    have vR : bodegaref19_ValidPointer (cP e.To) = some (vp e.To.Line e.To.Gen) := rfl
    have kh : (cN n).High = n.High := rfl
    have kl : (cN n).Level = n.Level := rfl
    have hke : 0 ≤ e.Key := hk e (by rw [h]; simp)
    have ih := vr_loop n hl hk post (pre ++ [e]) e.Key (by rw [h]; simp) (by simp) (by simp) hke
    simp only [List.length_append, List.length_cons, List.length_nil, Nat.zero_add, Int.natCast_add, Int.natCast_one] at ih
    simp only [bodegaref24_ValidNode_L1, hlt, decide_true, if_true, hi, bind_s, k1, k2, kh, kl, vR, rR, inc_eq (show pre.length ≤ 1000000 by omega)]
    have hstep : ∀ X : Bool, (if (decide ((pre.length : Int) > 0)) = true then (idx (cN n).Entries (IntKind.i64.wrap ((pre.length : Int) - 1))).bind fun e120 => if (decide (e120.Key ≥ e.Key)) = true then Option.map Sum.inr (some false) else some (.inl ((pre.length : Int) + 1)) else some (.inl ((pre.length : Int) + 1))) =
        if e.Key ≤ prev ∧ (pre.length : Int) > 0 then (some (.inr false) : Option (Int ⊕ Bool)) else some (.inl ((pre.length : Int) + 1)) := fun _ => by
      by_cases hpos : (pre.length : Int) > 0
      · obtain ⟨hq, hqk⟩ := hprev hpos
        have k3 : (cE (pre.getLast?.getD e)).Key = prev := hqk
        by_cases c : e.Key ≤ prev
        · have : prev ≥ e.Key := c
          simp [hpos, hq, k3, c, this]
        · have : ¬ prev ≥ e.Key := c
          simp [hpos, hq, k3, c, this]
      · have hp0 : pre.length = 0 := by omega
        simp [hp0]
    simp only [hstep true]
    by_cases c0 : e.Key < 1
    · have c1 : ¬ prev < e.Key := by omega
      simp only [c0, c1, decide_true, decide_false, if_true, Bool.false_and, Option.map_some, bind_s]
    · by_cases c2 : e.Key > n.High
      · have c2' : ¬ e.Key ≤ n.High := by omega
        simp only [c0, c2, c2', decide_true, decide_false, Bool.false_eq_true, if_true, if_false, Bool.false_and, Bool.and_false, Option.map_some, bind_s]
      · have c2' : e.Key ≤ n.High := by omega
        rcases Bool.eq_false_or_eq_true (vp e.To.Line e.To.Gen) with c3 | c3
        · by_cases c1 : prev < e.Key
          · have c1' : ¬ (e.Key ≤ prev ∧ (pre.length : Int) > 0) := by omega
            by_cases c4 : n.Level = 0
            · by_cases c5 : e.Key > 4294967294
              · have c5' : ¬ e.Key ≤ 4294967294 := by omega
                simp only [c0, c1, c2, c2', c3, c4, c5, c5', beq_self_eq_true, Bool.not_true, decide_true, decide_false, Bool.false_eq_true, if_true, if_false, Bool.true_and, Bool.false_and, Bool.false_or, Option.map_some, bind_s]
              · have c5' : e.Key ≤ 4294967294 := by omega
                simp only [c0, c1, c1', c2, c2', c3, c4, c5, c5', beq_self_eq_true, Bool.not_true, decide_true, decide_false, Bool.false_eq_true, if_true, if_false, Bool.true_and, Bool.false_or, bind_s, ih]
            · have c4' : (n.Level == 0) = false := by simpa using c4
              simp only [c0, c1, c1', c2, c2', c3, c4', Bool.not_true, Bool.not_false, decide_true, decide_false, Bool.false_eq_true, if_true, if_false, Bool.true_and, Bool.true_or, bind_s, ih]
          · have hpos : (pre.length : Int) > 0 := by
              rcases Nat.eq_zero_or_pos pre.length with hp0 | hp0
              · have := hz (List.eq_nil_of_length_eq_zero hp0); omega
              · omega
            have c1' : e.Key ≤ prev ∧ (pre.length : Int) > 0 := ⟨by omega, hpos⟩
            by_cases c4 : n.Level = 0
            · by_cases c5 : e.Key > 4294967294
              · simp only [c0, c1, c2, c3, c4, c5, beq_self_eq_true, Bool.not_true, decide_true, decide_false, Bool.false_eq_true, if_true, if_false, Bool.false_and, Option.map_some, bind_s]
              · simp only [c0, c1, c1', c2, c3, c4, c5, beq_self_eq_true, Bool.not_true, decide_true, decide_false, Bool.false_eq_true, if_true, if_false, Bool.false_and, and_self, bind_s]
            · have c4' : (n.Level == 0) = false := by simpa using c4
              simp only [c0, c1, c1', c2, c3, c4', Bool.not_true, decide_true, decide_false, Bool.false_eq_true, if_true, if_false, Bool.false_and, and_self, bind_s]
        · simp only [c0, c2, c3, decide_true, decide_false, Bool.not_false, Bool.false_eq_true, if_true, if_false, Bool.false_and, Bool.and_false, Option.map_some, bind_s]
/-- A node's numbers are within their kinds. -/
def nk (n : btree_Node) : Prop := k_u32 n.High ∧ (∀ e ∈ n.Entries, k_u32 e.Key) ∧ n.Entries.length ≤ 1000
theorem validR_eq (n : btree_Node) (h : nk n) : bodegaref24_ValidNode (cN n) = some (nv n) := by
  obtain ⟨hH, hE, hl⟩ := h
  have hloop := vr_loop n hl (fun e he => (hE e he).1) n.Entries [] 0 rfl (by simp) (fun _ => rfl) (by omega)
  rw [rR_eq n n.Entries 0 hH.1 (fun _ => by omega)] at hloop
  simp only [List.length_nil, Int.natCast_zero] at hloop
  unfold bodegaref24_ValidNode bodegaref24_ValidNode_J1 nv nvLast
  have hlen : ((cN n).Entries.length : Int) = (n.Entries.length : Int) := by show (((n.Entries.map cE).length : Nat) : Int) = _; rw [List.length_map]
  rw [hlen, show (cN n).Level = n.Level from rfl, show (cN n).High = n.High from rfl, show ((cN n).Right.Line == 0 && (cN n).Right.Gen == 0) = rn n from rfl, show bodegaref19_ValidPointer (cN n).Right = some (vp n.Right.Line n.Right.Gen) from rfl, hloop]
  unfold rvLast
  by_cases h1 : n.Level < 0
  · have : ¬ 0 ≤ n.Level := by omega
    simp [h1, this]
  · by_cases h2 : n.Level > 8
    · have : ¬ n.Level ≤ 8 := by omega
      simp [h1, h2, this]
    · have a1 : 0 ≤ n.Level := by omega
      have a2 : n.Level ≤ 8 := by omega
      by_cases h6 : n.High = 0
      · have : n.High < 1 := by omega
        simp [h1, h2, this, h6]
      · have h6' : ¬ n.High < 1 := by have := hH.1; omega
        have h6'' : (n.High != 0) = true := by simpa using h6
        by_cases h5 : n.Entries.length ≤ 5
        · have a3 : ¬ (n.Entries.length : Int) > 5 := by omega
          simp only [h1, h2, h6', h6'', a1, a2, a3, h5, decide_true, decide_false, Bool.false_eq_true, if_false, Bool.true_and, Bool.and_self, bind_s]
          have e5 : (rn n == (n.High == 4294967295)) = ((n.High == 4294967295) == rn n) := by cases rn n <;> cases (n.High == 4294967295) <;> rfl
          rw [e5]
          by_cases hL : n.Level > 0
          · have hL1 : ¬ n.Level ≤ 0 := by omega
            have hL2 : ¬ n.Level = 0 := by omega
            have hL3 : (n.Level == 0) = false := by simpa using hL2
            by_cases hlast : lk 0 n.Entries = n.High
            · have hle : lk 0 n.Entries ≤ n.High := by omega
              have hne : n.Entries.isEmpty = false := by cases hE' : n.Entries with
                | nil => rw [hE'] at hlast; exact absurd hlast.symm h6
                | cons => rfl
              simp only [hL, hL1, hL3, hlast, hle, hne, Int.le_refl, beq_self_eq_true, decide_true, decide_false, Bool.not_false, Bool.true_or, Bool.false_or, Bool.true_and, Bool.and_true, Bool.false_and, Bool.or_false, if_true]
              cases rise 0 n.Entries <;> cases rn n <;> cases vp n.Right.Line n.Right.Gen <;> cases (n.High == 4294967295) <;> cases n.Dead <;> simp
            · have hlast' : (lk 0 n.Entries == n.High) = false := by simpa using hlast
              simp only [hL, hL1, hlast', decide_false, Bool.false_or, Bool.and_false, Bool.false_and, if_true]
              cases rn n <;> cases vp n.Right.Line n.Right.Gen <;> cases (n.High == 4294967295) <;> simp
          · have hL1 : n.Level ≤ 0 := by omega
            have hL2 : n.Level = 0 := by omega
            simp only [hL, hL1, hL2, beq_self_eq_true, decide_true, decide_false, Bool.not_true, Bool.true_or, Bool.false_or, Bool.true_and, Bool.false_eq_true, if_false]
            generalize (!n.Dead || (n.Entries.isEmpty && (!n.Leftmost && !rn n))) = D
            cases rise 0 n.Entries <;> cases rn n <;> cases vp n.Right.Line n.Right.Gen <;> cases (n.High == 4294967295) <;> cases D <;> simp
        · have a3 : (n.Entries.length : Int) > 5 := by omega
          simp only [h1, h2, h6', h6'', a1, a2, a3, h5, decide_true, decide_false, Bool.false_eq_true, if_false, if_true, Bool.true_and, Bool.and_self, Bool.false_and, Bool.and_false, bind_s, ite_self]
end Go.Sh
end
section
namespace Go.Sh

theorem nv_facts {n : btree_Node} (hn : nk n) (h : nv n = true) : (0 ≤ n.Level ∧ n.Level ≤ 8) ∧ n.Entries.length ≤ 5 ∧ rise 0 n.Entries = true ∧ (n.High ≠ 0) ∧ (rn n = true ∨ vp n.Right.Line n.Right.Gen = true) ∧ nvLast n (lk 0 n.Entries) = true := by
  unfold nv at h
  simp only [Bool.and_eq_true, decide_eq_true_eq, Bool.or_eq_true, bne_iff_ne, ne_eq] at h
  obtain ⟨h1, h2, h3, h4, h5, h6, h7⟩ := h
  exact ⟨h1, h2, h3, h4, h5, h7⟩
theorem rn_good {n : btree_Node} (h : rn n = true ∨ vp n.Right.Line n.Right.Gen = true) : good n.Right.Line n.Right.Gen = true := by
  unfold good
  rcases h with h | h
  · rw [show (n.Right.Line == 0 && n.Right.Gen == 0) = rn n from rfl, h]; rfl
  · rw [h]; simp
def okE (e : hashindex_Entry) : Prop := (1 ≤ e.Key ∧ e.Key ≤ 4294967295) ∧ vp e.To.Line e.To.Gen = true
theorem rise_all : ∀ {es : List hashindex_Entry} {prev : Int}, 0 ≤ prev → rise prev es = true → (∀ e ∈ es, k_u32 e.Key) → ∀ e ∈ es, okE e
  | [], _, _, _, _ => by simp
  | e :: es, prev, h0, h, hk => by
    simp only [rise, Bool.and_eq_true, decide_eq_true_eq] at h
    intro y hy
    rcases List.mem_cons.1 hy with rfl | hy
    · exact ⟨⟨by omega, (hk _ (by simp)).2⟩, h.2.1⟩
    · exact rise_all (by omega) h.2.2 (fun e he => hk e (by simp [he])) y hy
def b2i (b : Bool) : Int := if b = true then 1 else 0
def aux (n : btree_Node) : Int := n.Level + (n.Entries.length : Int) * 256 + b2i n.Leftmost * 65536 + b2i n.Dead * 131072
def we (e : hashindex_Entry) : Int := two (pkP e.To) e.Key
def wd (es : List hashindex_Entry) (i : Nat) : Int := match es[i]? with | some e => we e | none => 0
def fillN (b : btree_Node) (p : api_Page) : api_Page := ⟨p.Line, p.Head, ⟨two (lo p.Data.a0) (aux b), two b.High (pkP b.Right), wd b.Entries 0, wd b.Entries 1, wd b.Entries 2, wd b.Entries 3, wd b.Entries 4⟩⟩
theorem or32_low {x y : Int} (n : Nat) (hn : n ≤ 32) (h1 : 0 ≤ x ∧ x < 4294967296) (h2 : x % 2 ^ n = 0) (h3 : 0 ≤ y ∧ y < 2 ^ n) (h4 : y < 4294967296) (h5 : x + y < 4294967296) : bits .or .u32 y x = y + x := by
  rw [bits_or_comm32 ⟨h3.1, h4⟩ h1, bits_join .u32 32 (by decide) wraps_u32 n x y h1.1 h2 (by omega) h3.1 h3.2 (by omega)]; omega
theorem aux_or {n : btree_Node} (hn : nk n) (h : nv n = true) :
    (if n.Dead = true then bits .or .u32 (if n.Leftmost = true then bits .or .u32 (bits .or .u32 (IntKind.u32.wrap n.Level) (shlV .u32 (IntKind.u32.wrap (n.Entries.length : Int)) 8)) 65536 else bits .or .u32 (IntKind.u32.wrap n.Level) (shlV .u32 (IntKind.u32.wrap (n.Entries.length : Int)) 8)) 131072
      else (if n.Leftmost = true then bits .or .u32 (bits .or .u32 (IntKind.u32.wrap n.Level) (shlV .u32 (IntKind.u32.wrap (n.Entries.length : Int)) 8)) 65536 else bits .or .u32 (IntKind.u32.wrap n.Level) (shlV .u32 (IntKind.u32.wrap (n.Entries.length : Int)) 8))) = aux n := by
  obtain ⟨h1, h2, _⟩ := nv_facts hn h
  have e0 : bits .or .u32 (IntKind.u32.wrap n.Level) (shlV .u32 (IntKind.u32.wrap (n.Entries.length : Int)) 8) = n.Level + (n.Entries.length : Int) * 256 := by
    rw [u32_in' (x := n.Level) (by omega), u32_in' (x := (n.Entries.length : Int)) (by omega), shl_u32_8, u32_in' (x := (n.Entries.length : Int) * 256) (by omega), or32_lo8 (x := (n.Entries.length : Int) * 256) (by omega) (by omega) (by omega)]
  rw [e0]
  have e1 : bits .or .u32 (n.Level + (n.Entries.length : Int) * 256) 65536 = n.Level + (n.Entries.length : Int) * 256 + 65536 := or32_low 16 (by omega) (by omega) (by decide) (by omega) (by omega) (by omega)
  have e2 : bits .or .u32 (n.Level + (n.Entries.length : Int) * 256) 131072 = n.Level + (n.Entries.length : Int) * 256 + 131072 := or32_low 17 (by omega) (by omega) (by decide) (by omega) (by omega) (by omega)
  have e3 : bits .or .u32 (n.Level + (n.Entries.length : Int) * 256 + 65536) 131072 = n.Level + (n.Entries.length : Int) * 256 + 65536 + 131072 := or32_low 17 (by omega) (by omega) (by decide) (by omega) (by omega) (by omega)
  unfold aux b2i
  cases n.Leftmost <;> cases n.Dead <;> simp only [Bool.false_eq_true, if_true, if_false, e1, e2, e3] <;> omega
theorem aux_r {n : btree_Node} (hn : nk n) (h : nv n = true) : 0 ≤ aux n ∧ aux n < 262144 := by
  obtain ⟨h1, h2, _⟩ := nv_facts hn h
  unfold aux b2i
  cases n.Leftmost <;> cases n.Dead <;> simp <;> omega
theorem u32_hi {w : Int} (h : 0 ≤ w ∧ w ≤ 18446744073709551615) : IntKind.u32.wrap (w / 4294967296) = hi w := by rw [u32_in' (by omega)]; rfl
theorem tagOf {a : Int} (h : k_u64 a) : pointer_UnpackTag a = some ⟨a % 256, a / 256 % 16777216, hi a⟩ := by
  unfold k_u64 at h
  unfold pointer_UnpackTag
  rw [and64_255 (x := a) (by omega), i64_in' (x := a % 256) (by omega), shr_u64_8, and64_gen (x := a / 256) (by omega), i64_in' (x := a / 256 % 16777216) (by omega), shr_u64_32, u32_hi h]
theorem packTag {a x : Int} (h : k_u64 a) (hx : 0 ≤ x ∧ x < 4294967296) : pointer_PackTag ⟨a % 256, a / 256 % 16777216, x⟩ = some (two (lo a) x) := by
  unfold k_u64 at h
  unfold pointer_PackTag
  simp only
  rw [u64_in' (x := a % 256) (by omega), and64_255 (x := a % 256) (by omega),
    u64_in' (x := a / 256 % 16777216) (by omega), and64_gen (x := a / 256 % 16777216) (by omega), shl_u64_8, u64_in' (x := a / 256 % 16777216 % 16777216 * 256) (by omega),
    or64_lo8 (x := a / 256 % 16777216 % 16777216 * 256) (by omega) (by omega) (by omega), u64_in' (x := x) (by omega), shl_u64_32, u64_in' (x := x * 4294967296) (by omega), or64_lo32 (by omega) (by omega) (by omega)]
  congr 1
  unfold lo two
  omega
def setAll : A7 Int → Int → List hashindex_Entry → A7 Int
  | x, _, [] => x
  | x, i, e :: es => setAll (A7.set x (2 + i) (we e)) (i + 1) es
theorem we_or {e : hashindex_Entry} (h : okE e) : bits .or .u64 (shlV .u64 (IntKind.u64.wrap e.Key) 32) (IntKind.u64.wrap (pkP e.To)) = we e := by
  obtain ⟨h1, _⟩ := h
  have := pkP_r e.To
  rw [u64_in' (x := e.Key) (by omega), u64_in' (x := pkP e.To) (by omega), shl_u64_32, u64_in' (x := e.Key * 4294967296) (by omega), or64_hi32 (by omega) (by omega) (by omega)]
  unfold we two; omega
theorem we_add {e : hashindex_Entry} (h : okE e) : IntKind.u64.wrap (shlV .u64 (IntKind.u64.wrap e.Key) 32 + IntKind.u64.wrap (pkP e.To)) = we e := by
  obtain ⟨h1, _⟩ := h
  have := pkP_r e.To
  rw [u64_in' (x := e.Key) (by omega), u64_in' (x := pkP e.To) (by omega), shl_u64_32, u64_in' (x := e.Key * 4294967296) (by omega), u64_in' (by omega)]
  unfold we two; omega
theorem fill_loop (b : btree_Node) (p : api_Page) (hl : b.Entries.length ≤ 5) (ha : ∀ e ∈ b.Entries, okE e) : ∀ (post pre : List hashindex_Entry) (x : A7 Int), b.Entries = pre ++ post →
    iter (btree_Node_fill_L1 b p) (x, (pre.length : Int)) = some ⟨p.Line, p.Head, setAll x (pre.length : Int) post⟩
  | [], pre, x, h => by
    rw [iter_eq]
    rw [List.append_nil] at h
    simp only [btree_Node_fill_L1, h, Int.lt_irrefl, decide_false, Bool.false_eq_true, if_false, Option.map_some, bind_s, setAll]
  | e :: post, pre, x, h => by
    rw [iter_eq]
    have hlt : (pre.length : Int) < (b.Entries.length : Int) := by rw [h]; simp; omega
    have hi : idx b.Entries (pre.length : Int) = some e := by rw [h]; exact idx_at
    have ih := fill_loop b p hl ha post (pre ++ [e]) (A7.set x (2 + (pre.length : Int)) (we e)) (by rw [h]; simp)
    simp only [List.length_append, List.length_cons, List.length_nil, Nat.zero_add, Int.natCast_add, Int.natCast_one] at ih
    have he := ha e (by rw [h]; simp)
    have hb : 0 ≤ 2 + (pre.length : Int) ∧ 2 + (pre.length : Int) < 7 := by omega
    simp only [btree_Node_fill_L1, hlt, decide_true, if_true, hi, PackP_eq, bind_s, we_or he, i64_in' (show -9223372036854775808 ≤ (pre.length : Int) + 1 ∧ (pre.length : Int) + 1 < 9223372036854775808 by omega), i64_in' (show -9223372036854775808 ≤ 2 + (pre.length : Int) ∧ 2 + (pre.length : Int) < 9223372036854775808 by omega), hb, and_self]
    exact ih
theorem fillR_loop (b : btree_Node) (p : api_Page) (hl : b.Entries.length ≤ 5) (ha : ∀ e ∈ b.Entries, okE e) : ∀ (post pre : List hashindex_Entry) (x : A7 Int), b.Entries = pre ++ post →
    iter (bodegaref24_WriteNode_L1 (cN b) p) (x, (pre.length : Int)) = some (⟨p.Line, p.Head, setAll x (pre.length : Int) post⟩, 0)
  | [], pre, x, h => by
    rw [iter_eq]
    rw [List.append_nil] at h
    simp only [bodegaref24_WriteNode_L1, cN, List.length_map, h, Int.lt_irrefl, decide_false, Bool.false_eq_true, if_false, Option.map_some, bind_s, setAll]
  | e :: post, pre, x, h => by
    rw [iter_eq]
    have hlt : (pre.length : Int) < ((cN b).Entries.length : Int) := by show (pre.length : Int) < ((b.Entries.map cE).length : Int); rw [List.length_map, h]; simp; omega
    have hi : idx (cN b).Entries (pre.length : Int) = some (cE e) := by
      show idx (b.Entries.map cE) _ = _
      rw [h, List.map_append, List.map_cons]
      have := @idx_at _ (pre.map cE) (post.map cE) (cE e)
      rwa [List.length_map] at this
    have hll : pre.length + 1 ≤ 5 := by rw [h] at hl; simp at hl; omega
    have ih := fillR_loop b p hl ha post (pre ++ [e]) (A7.set x (2 + (pre.length : Int)) (we e)) (by rw [h]; simp)
    simp only [List.length_append, List.length_cons, List.length_nil, Nat.zero_add, Int.natCast_add, Int.natCast_one] at ih
    have he := ha e (by rw [h]; simp)
    have hb : 0 ≤ 2 + (pre.length : Int) ∧ 2 + (pre.length : Int) < 7 := by omega
    have k1 : (cE e).Key = e.Key := rfl
    have k2 : (cE e).To = cP e.To := rfl
    simp only [bodegaref24_WriteNode_L1, hlt, decide_true, if_true, hi, bind_s, k1, k2, PackC_eq, we_add he, i64_in' (show -9223372036854775808 ≤ (pre.length : Int) + 1 ∧ (pre.length : Int) + 1 < 9223372036854775808 by omega), i64_in' (show -9223372036854775808 ≤ 2 + (pre.length : Int) ∧ 2 + (pre.length : Int) < 9223372036854775808 by omega), hb, and_self]
    exact ih
theorem setAll_eq (t n : Int) : ∀ (es : List hashindex_Entry), es.length ≤ 5 → setAll ⟨t, n, 0, 0, 0, 0, 0⟩ 0 es = ⟨t, n, wd es 0, wd es 1, wd es 2, wd es 3, wd es 4⟩
  | [], _ => rfl
  | [a], _ => rfl
  | [a, b], _ => rfl
  | [a, b, c], _ => rfl
  | [a, b, c, d], _ => rfl
  | [a, b, c, d, e], _ => rfl
  | a :: b :: c :: d :: e :: f :: r, h => by simp at h
theorem ite_app {α β : Type} {c : Prop} [Decidable c] (f : α → β) (x y : α) : (if c then f x else f y) = f (if c then x else y) := by split <;> rfl
theorem fill_eq (b : btree_Node) (p : api_Page) (hn : nk b) (h : nv b = true) (h0 : k_u64 p.Data.a0) : btree_Node_fill b p = some (fillN b p) := by
  obtain ⟨h1, h2, h3, h4, h5, _⟩ := nv_facts hn h
  unfold btree_Node_fill
  rw [tagOf h0, bind_s]
  simp only [btree_Node_fill_J1]
  rw [ite_app (btree_Node_fill_J2 (⟨p.Data.a0 % 256, p.Data.a0 / 256 % 16777216, hi p.Data.a0⟩ : pointer_Tag) b p)]
  have e : (if b.Leftmost = true then (if b.Dead = true then bits .or .u32 (bits .or .u32 (bits .or .u32 (IntKind.u32.wrap b.Level) (shlV .u32 (IntKind.u32.wrap (b.Entries.length : Int)) 8)) 65536) 131072 else bits .or .u32 (bits .or .u32 (IntKind.u32.wrap b.Level) (shlV .u32 (IntKind.u32.wrap (b.Entries.length : Int)) 8)) 65536)
      else (if b.Dead = true then bits .or .u32 (bits .or .u32 (IntKind.u32.wrap b.Level) (shlV .u32 (IntKind.u32.wrap (b.Entries.length : Int)) 8)) 131072 else bits .or .u32 (IntKind.u32.wrap b.Level) (shlV .u32 (IntKind.u32.wrap (b.Entries.length : Int)) 8))) = aux b := by
    rw [← aux_or hn h]
    cases b.Leftmost <;> cases b.Dead <;> rfl
  rw [e]
  have ha := aux_r hn h
  have hH := hn.1
  unfold k_u32 at hH
  unfold btree_Node_fill_J2
  simp only
  rw [packTag h0 (by omega), bind_s, PackP_eq, bind_s, two_or (by omega) (pkP_r _)]
  have hloop := fill_loop b p h2 (rise_all (by omega) h3 hn.2.1) b.Entries [] ⟨two (lo p.Data.a0) (aux b), two b.High (pkP b.Right), 0, 0, 0, 0, 0⟩ rfl
  simp only [List.length_nil, Int.natCast_zero] at hloop
  rw [hloop, setAll_eq _ _ _ h2]
  rfl
def wrN (p : api_Page) (b : btree_Node) : api_Page × Int := if p.Data.a0 % 256 = 4 ∧ nv b = true then (fillN b p, 0) else (zeroPg, 1)
theorem WriteNode_eq (p : api_Page) (b : btree_Node) (hn : nk b) (h0 : k_u64 p.Data.a0) : btree_WriteNode p b = some (wrN p b) := by
  unfold btree_WriteNode wrN
  rw [tagOf h0, bind_s, valid_eq b hn.2.2, bind_s]
  simp only
  by_cases hk : p.Data.a0 % 256 = 4
  · rcases Bool.eq_false_or_eq_true (nv b) with hb | hb
    · simp [hk, hb, fill_eq b p hn hb h0]
    · simp [hk, hb, zeroPg]
  · simp [hk, zeroPg]
theorem tag2R {a x : Int} (h : k_u64 a) (hx : 0 ≤ x ∧ x < 4294967296) (h3 : a % 256 = 4) : (bodegaref19_Tag 4 (IntKind.i64.wrap (Int.tmod (IntKind.u64.wrap (Int.tdiv a 256)) 16777216)) x) = some (two (lo a) x) := by
  unfold k_u64 at h
  unfold bodegaref19_Tag
  rw [tdiv_pos h.1, u64_in' (x := a / 256) (by omega), tmod_pos (x := a / 256) (by omega), i64_in' (x := a / 256 % 16777216) (by omega), u64_in' (x := a / 256 % 16777216) (by omega), u64_in' (x := 4) (by omega), u64_in' (x := x) (by omega), shl_u64_32, u64_in' (x := x * 4294967296) (by omega),
    tmod_pos (x := a / 256 % 16777216) (by omega), u64_in' (x := a / 256 % 16777216 % 16777216 * 256) (by omega), tmod_pos (x := 4) (by omega), u64_in' (x := 4 % 256 + a / 256 % 16777216 % 16777216 * 256) (by omega), u64_in' (by omega)]
  congr 1
  unfold lo two
  omega
theorem WriteNodeR_eq (p : api_Page) (b : btree_Node) (hn : nk b) (h0 : k_u64 p.Data.a0) : bodegaref24_WriteNode p (cN b) = some (wrN p b) := by
  have hh := h0
  unfold k_u64 at h0
  unfold bodegaref24_WriteNode bodegaref19_Kind wrN
  rw [bind_s, tmod_pos (x := p.Data.a0) h0.1, i64_in' (x := p.Data.a0 % 256) (by omega), validR_eq b hn, bind_s]
  by_cases hk : p.Data.a0 % 256 = 4
  · rcases Bool.eq_false_or_eq_true (nv b) with hb | hb
    · obtain ⟨h1, h2, h3, h4, h5, _⟩ := nv_facts hn hb
      have ha := aux_r hn hb
      have hH := hn.1
      unfold k_u32 at hH
      have hlen : ((cN b).Entries.length : Int) = (b.Entries.length : Int) := by show (((b.Entries.map cE).length : Nat) : Int) = _; rw [List.length_map]
      have e0 : IntKind.u32.wrap (IntKind.u32.wrap b.Level + IntKind.u32.wrap (256 * IntKind.u32.wrap (b.Entries.length : Int))) = b.Level + 256 * (b.Entries.length : Int) := by
        rw [u32_in' (x := b.Level) (by omega), u32_in' (x := (b.Entries.length : Int)) (by omega), u32_in' (x := 256 * (b.Entries.length : Int)) (by omega), u32_in' (by omega)]
      have e1 : IntKind.u32.wrap (b.Level + 256 * (b.Entries.length : Int) + 65536) = b.Level + 256 * (b.Entries.length : Int) + 65536 := u32_in' (by omega)
      have e2 : IntKind.u32.wrap (b.Level + 256 * (b.Entries.length : Int) + 131072) = b.Level + 256 * (b.Entries.length : Int) + 131072 := u32_in' (by omega)
      have e3 : IntKind.u32.wrap (b.Level + 256 * (b.Entries.length : Int) + 65536 + 131072) = b.Level + 256 * (b.Entries.length : Int) + 65536 + 131072 := u32_in' (by omega)
      have hloop := fillR_loop b p h2 (rise_all (by omega) h3 hn.2.1) b.Entries [] ⟨two (lo p.Data.a0) (aux b), two b.High (pkP b.Right), 0, 0, 0, 0, 0⟩ rfl
      simp only [List.length_nil, Int.natCast_zero] at hloop
      have hJ2 : bodegaref24_WriteNode_J2 p (cN b) (aux b) = some (fillN b p, 0) := by
        unfold bodegaref24_WriteNode_J2 bodegaref19_Gen
        rw [bind_s, tag2R hh (by omega) hk, bind_s, show (cN b).Right = cP b.Right from rfl, PackC_eq, bind_s, show (cN b).High = b.High from rfl, two_add (by omega) (pkP_r _), hloop, setAll_eq _ _ _ h2]
        rfl
      have hJ : ∀ x, (if b.Dead = true then IntKind.u32.wrap (x + 131072) else x) = aux b → bodegaref24_WriteNode_J1 p (cN b) x = some (fillN b p, 0) := fun x hx => by
        unfold bodegaref24_WriteNode_J1
        rw [show (cN b).Dead = b.Dead from rfl, hx, hJ2]
      rw [hlen, show (cN b).Level = b.Level from rfl, show (cN b).Leftmost = b.Leftmost from rfl, e0, e1]
      simp only [hk, hb, bne_self_eq_false, Bool.not_true, Bool.false_eq_true, if_false, and_self, if_true]
      cases hLm : b.Leftmost
      · rw [if_neg (by simp)]
        refine hJ _ ?_
        unfold aux b2i
        rw [hLm]
        cases b.Dead
        · simp only [Bool.false_eq_true, if_false]; omega
        · simp only [Bool.false_eq_true, if_true, if_false, e2]; omega
      · rw [if_pos rfl]
        refine hJ _ ?_
        unfold aux b2i
        rw [hLm]
        cases b.Dead
        · simp only [Bool.false_eq_true, if_true, if_false]; omega
        · simp only [if_true, e3]; omega
    · simp [hk, hb, zeroPg]
  · simp [hk, zeroPg]
end Go.Sh
end
section
namespace Go.Sh

def ent (w : Int) : hashindex_Entry := ⟨hi w, dp (lo w)⟩
def ents (p : api_Page) : List hashindex_Entry := [ent p.Data.a2, ent p.Data.a3, ent p.Data.a4, ent p.Data.a5, ent p.Data.a6]
def cn (p : api_Page) : Int := hi p.Data.a0 / 256 % 256
def bt (x : Int) (n : Nat) : Bool := x / 2 ^ n % 2 == 1
def nd (p : api_Page) : btree_Node := ⟨hi p.Data.a0 % 256, bt (hi p.Data.a0) 16, bt (hi p.Data.a0) 17, lo p.Data.a1, dp (hi p.Data.a1), (ents p).take (cn p).toNat⟩
def zeroN : btree_Node := ⟨0, false, false, 0, ⟨0, 0⟩, []⟩
def tzc (c : Int) (p : api_Page) : Prop := (c ≤ 0 → p.Data.a2 = 0) ∧ (c ≤ 1 → p.Data.a3 = 0) ∧ (c ≤ 2 → p.Data.a4 = 0) ∧ (c ≤ 3 → p.Data.a5 = 0) ∧ (c ≤ 4 → p.Data.a6 = 0)
def tz (p : api_Page) : Prop := (cn p ≤ 0 → p.Data.a2 = 0) ∧ (cn p ≤ 1 → p.Data.a3 = 0) ∧ (cn p ≤ 2 → p.Data.a4 = 0) ∧ (cn p ≤ 3 → p.Data.a5 = 0) ∧ (cn p ≤ 4 → p.Data.a6 = 0)
instance (p : api_Page) : Decidable (tz p) := by unfold tz; infer_instance
def rdN (p : api_Page) : btree_Node × Int := if p.Data.a0 % 256 = 4 ∧ cn p ≤ 5 ∧ hi p.Data.a0 < 262144 ∧ nv (nd p) = true ∧ tz p then (nd p, 0) else (zeroN, 14)
theorem and8 {x : Int} (h : 0 ≤ x ∧ x < 4294967296) : IntKind.i64.wrap (bits .and .u32 (shrV .u32 x 8) 255) = x / 256 % 256 := by
  rw [shr_u32_8, and32_255 (x := x / 256) (by omega), i64_in' (by omega)]
theorem and_bit {x : Int} (h : 0 ≤ x ∧ x < 4294967296) (n : Nat) (hn : n < 32) : ((bits .and .u32 x (2 ^ n)) != 0) = bt x n := by
  obtain ⟨m, rfl⟩ := Int.eq_ofNat_of_zero_le h.1
  have hp : 2 ^ n < 2 ^ 32 := Nat.pow_lt_pow_right (by omega) hn
  have e1 : bits .and .u32 (m : Int) (2 ^ n) = ((m &&& 2 ^ n : Nat) : Int) := by
    rw [show ((2 : Int) ^ n) = ((2 ^ n : Nat) : Int) by simp]
    exact u32_and_nat m (2 ^ n) (by omega) (by omega)
  have e2 : m &&& 2 ^ n = (m.testBit n).toNat * 2 ^ n := by
    apply Nat.eq_of_testBit_eq
    intro i
    rw [Nat.testBit_and, Nat.testBit_two_pow]
    by_cases h : n = i
    · subst h
      cases hb : m.testBit n <;> simp [Nat.testBit_two_pow]
    · cases hb : m.testBit n <;> simp [h, Nat.testBit_two_pow]
  have e3 : m.testBit n = decide (m / 2 ^ n % 2 = 1) := Nat.testBit_eq_decide_div_mod_eq
  have e4 : ((m : Int) / 2 ^ n % 2) = ((m / 2 ^ n % 2 : Nat) : Int) := by simp
  have h0 : 0 < 2 ^ n := Nat.two_pow_pos n
  rw [e1, e2, e3]
  unfold bt
  rw [e4]
  by_cases hb : m / 2 ^ n % 2 = 1
  · have hne : ¬ ((1 * 2 ^ n : Nat) : Int) = 0 := by omega
    simp only [hb, decide_true, Bool.toNat_true]
    rw [show (((1 * 2 ^ n : Nat) : Int) != 0) = true by simpa using hne]
    rfl
  · have hb0 : m / 2 ^ n % 2 = 0 := by omega
    simp [hb0]
theorem shr_bit {x : Int} (h : 0 ≤ x ∧ x < 4294967296) (n : Nat) (k : Int) (hk : min k.toNat 32 = n) : ((bits .and .u32 (shrV .u32 x k) 1) == 1) = bt x n := by
  rw [shr_ (k := .u32) n hk]
  have hp : (0 : Int) < 2 ^ n := Int.pow_pos (by decide)
  have h1 : 0 ≤ x / 2 ^ n := Int.ediv_nonneg h.1 (by omega)
  have h2 : x / 2 ^ n ≤ x := Int.ediv_le_self _ h.1
  have := bits_mask .u32 32 (by decide) wraps_u32 1 (by decide) (x / 2 ^ n) h1 (by omega)
  rw [show ((2 : Int) ^ 1 - 1) = 1 from rfl, show ((2 : Int) ^ 1) = 2 from rfl] at this
  rw [this]; rfl
theorem rb_step (p : api_Page) (h : k_A7 k_u64 p.Data) (t : pointer_Tag) (v) (l : List hashindex_Entry) (i c : Int) (hc : IntKind.i64.wrap (bits .and .u32 (shrV .u32 t.Aux 8) 255) = c) (hc5 : 0 ≤ c ∧ c ≤ 5) (hi' : 0 ≤ i ∧ i < c) (hl : l.length ≤ 5) :
    iter (btree_ReadNode_L1 t p v) (l, i) = iter (btree_ReadNode_L1 t p v) (l ++ [ent (A5.get ⟨p.Data.a2, p.Data.a3, p.Data.a4, p.Data.a5, p.Data.a6⟩ i)], i + 1) := by
  rw [iter_eq]
  obtain ⟨_, _, h2, h3, h4, h5, h6⟩ := h
  have hw : k_u64 (A5.get ⟨p.Data.a2, p.Data.a3, p.Data.a4, p.Data.a5, p.Data.a6⟩ i) := by unfold A5.get; split <;> (try assumption); split <;> (try assumption); split <;> (try assumption); split <;> assumption
  have e1 : IntKind.i64.wrap (2 + c) = 2 + c := i64_in' (by omega)
  have e1' : (2 + c - 2 : Int) = c := by omega
  have e2 : ((c.toNat : Nat) : Int) = c := by omega
  have e3 : IntKind.i64.wrap (i + 1) = i + 1 := i64_in' (by omega)
  have hm : (l.length + 1) * 24 ≤ maxRows ∧ l.length + 1 ≤ maxRows := by unfold maxRows; omega
  have hb : 0 ≤ i ∧ i < c ∧ i < 5 := by omega
  simp only [btree_ReadNode_L1, hc, e1, e1', e2, e3, hi'.2, hb, decide_true, if_true, and_self]
  generalize A5.get ⟨p.Data.a2, p.Data.a3, p.Data.a4, p.Data.a5, p.Data.a6⟩ i = w at hw
  unfold k_u64 at hw
  simp only [u32_lo, Unpack_eq lo_r, bind_s, hm, and_self, if_true, shr_u64_32]
  rw [← u32_lo, u32_hi hw]
  rfl
theorem rb_end (p : api_Page) (t : pointer_Tag) (v) (l : List hashindex_Entry) (c : Int) (hc : IntKind.i64.wrap (bits .and .u32 (shrV .u32 t.Aux 8) 255) = c) (hc5 : 0 ≤ c ∧ c ≤ 5) :
    iter (btree_ReadNode_L1 t p v) (l, c) = btree_ReadNode_J1 t p v l := by
  rw [iter_eq]
  have e1 : IntKind.i64.wrap (2 + c) - 2 = c := by rw [i64_in' (by omega)]; omega
  have e2 : ((c.toNat : Nat) : Int) = c := by omega
  simp only [btree_ReadNode_L1, hc, e1, e2, Int.lt_irrefl, decide_false, Bool.false_eq_true, if_false]
  cases btree_ReadNode_J1 t p v l <;> rfl
theorem rb_all (p : api_Page) (h : k_A7 k_u64 p.Data) (t : pointer_Tag) (v) (c : Int) (hc : IntKind.i64.wrap (bits .and .u32 (shrV .u32 t.Aux 8) 255) = c) (hc5 : 0 ≤ c ∧ c ≤ 5) :
    iter (btree_ReadNode_L1 t p v) ([], 0) = btree_ReadNode_J1 t p v ((ents p).take c.toNat) := by
  have hcs : c = 0 ∨ c = 1 ∨ c = 2 ∨ c = 3 ∨ c = 4 ∨ c = 5 := by omega
  rcases hcs with e | e | e | e | e | e <;> subst e
  · rw [rb_end p t v _ _ hc hc5]
    rfl
  · rw [rb_step p h t v _ (0) _ hc hc5 (by omega) (by simp), show (0+1 : Int) = 1 from rfl, rb_end p t v _ _ hc hc5]
    rfl
  · rw [rb_step p h t v _ (0) _ hc hc5 (by omega) (by simp), rb_step p h t v _ (0+1) _ hc hc5 (by omega) (by simp), show (0+1+1 : Int) = 2 from rfl, rb_end p t v _ _ hc hc5]
    rfl
  · rw [rb_step p h t v _ (0) _ hc hc5 (by omega) (by simp), rb_step p h t v _ (0+1) _ hc hc5 (by omega) (by simp), rb_step p h t v _ (0+1+1) _ hc hc5 (by omega) (by simp), show (0+1+1+1 : Int) = 3 from rfl, rb_end p t v _ _ hc hc5]
    rfl
  · rw [rb_step p h t v _ (0) _ hc hc5 (by omega) (by simp), rb_step p h t v _ (0+1) _ hc hc5 (by omega) (by simp), rb_step p h t v _ (0+1+1) _ hc hc5 (by omega) (by simp), rb_step p h t v _ (0+1+1+1) _ hc hc5 (by omega) (by simp), show (0+1+1+1+1 : Int) = 4 from rfl, rb_end p t v _ _ hc hc5]
    rfl
  · rw [rb_step p h t v _ (0) _ hc hc5 (by omega) (by simp), rb_step p h t v _ (0+1) _ hc hc5 (by omega) (by simp), rb_step p h t v _ (0+1+1) _ hc hc5 (by omega) (by simp), rb_step p h t v _ (0+1+1+1) _ hc hc5 (by omega) (by simp), rb_step p h t v _ (0+1+1+1+1) _ hc hc5 (by omega) (by simp), show (0+1+1+1+1+1 : Int) = 5 from rfl, rb_end p t v _ _ hc hc5]
    rfl

theorem ite0 {c : Prop} [Decidable c] {b : Int} (h : c → b = 0) : (if c then 0 else b) = b := by
  by_cases hc : c
  · rw [if_pos hc, h hc]
  · rw [if_neg hc]
theorem nd_k {p : api_Page} (h : k_A7 k_u64 p.Data) : nk (nd p) := by
  obtain ⟨h0, h1, h2, h3, h4, h5, h6⟩ := h
  have hk : ∀ w, k_u64 w → k_u32 (ent w).Key := fun w hw => by have := hi_r hw; show k_u32 (hi w); unfold k_u32; omega
  refine ⟨by show k_u32 (lo p.Data.a1); have := @lo_r p.Data.a1; unfold k_u32; omega, fun e he => ?_, ?_⟩
  · have : e ∈ ents p := List.mem_of_mem_take he
    simp only [ents, List.mem_cons, List.not_mem_nil, or_false] at this
    rcases this with rfl | rfl | rfl | rfl | rfl
    · exact hk _ h2
    · exact hk _ h3
    · exact hk _ h4
    · exact hk _ h5
    · exact hk _ h6
  · show ((ents p).take (cn p).toNat).length ≤ 1000
    rw [List.length_take]
    show min (cn p).toNat 5 ≤ 1000
    omega
theorem two_lohi {w : Int} : two (lo w) (hi w) = w := two_eq
theorem pk_dpv {w : Int} (h0 : 0 ≤ w) (h : vp (w % 256) (w / 256) = true) : pkP (dp w) = w := by
  unfold pkP dp pk
  simp only [h, if_true]
  omega
theorem pk_dp0 {w : Int} (h : (dp w).Line = 0 ∧ (dp w).Gen = 0) (hw : 0 ≤ w ∧ w < 4294967296) : pkP (dp w) = w := by
  have := (dp0 hw).1 h
  subst this
  decide
theorem right_ok {p : api_Page} (h : k_u64 p.Data.a1) (hr : rn (nd p) = true ∨ vp (nd p).Right.Line (nd p).Right.Gen = true) : pkP (nd p).Right = hi p.Data.a1 := by
  have hh := hi_r h
  rcases hr with hr | hr
  · unfold rn at hr
    simp only [Bool.and_eq_true, beq_iff_eq] at hr
    exact pk_dp0 hr hh
  · exact pk_dpv hh.1 hr
theorem aux_nd {p : api_Page} (h : k_u64 p.Data.a0) (hc : cn p ≤ 5) : (hi p.Data.a0 < 262144 → aux (nd p) = hi p.Data.a0) ∧ aux (nd p) < 524288 ∧ (¬ hi p.Data.a0 < 262144 → aux (nd p) ≠ hi p.Data.a0) := by
  have hh := hi_r h
  have hc0 : 0 ≤ cn p := by unfold cn; omega
  have hlen : ((nd p).Entries.length : Int) = cn p := by
    show (((ents p).take (cn p).toNat).length : Int) = cn p
    rw [List.length_take]
    show ((min (cn p).toNat 5 : Nat) : Int) = cn p
    omega
  unfold aux
  rw [hlen]
  rw [show (nd p).Level = hi p.Data.a0 % 256 from rfl, show (nd p).Leftmost = bt (hi p.Data.a0) 16 from rfl, show (nd p).Dead = bt (hi p.Data.a0) 17 from rfl]
  have e16 : b2i (bt (hi p.Data.a0) 16) = hi p.Data.a0 / 65536 % 2 := by
    unfold b2i bt
    rw [show ((2 : Int) ^ 16) = 65536 from rfl]
    by_cases hb : hi p.Data.a0 / 65536 % 2 = 1
    · simp [hb]
    · have : hi p.Data.a0 / 65536 % 2 = 0 := by omega
      simp [this]
  have e17 : b2i (bt (hi p.Data.a0) 17) = hi p.Data.a0 / 131072 % 2 := by
    unfold b2i bt
    rw [show ((2 : Int) ^ 17) = 131072 from rfl]
    by_cases hb : hi p.Data.a0 / 131072 % 2 = 1
    · simp [hb]
    · have : hi p.Data.a0 / 131072 % 2 = 0 := by omega
      simp [this]
  rw [e16, e17]
  unfold cn at hc hc0 ⊢
  omega
theorem we_ent {w : Int} (h : okE (ent w)) (hw : 0 ≤ w) : we (ent w) = w := by
  unfold we
  show two (pkP (dp (lo w))) (hi w) = w
  rw [pk_dpv lo_r.1 h.2, two_lohi]
theorem fill_nd (p : api_Page) (h : k_A7 k_u64 p.Data) (hc : cn p ≤ 5) (hv : nv (nd p) = true) :
    (fillN (nd p) p).Data = ⟨two (lo p.Data.a0) (aux (nd p)), p.Data.a1, if cn p ≤ 0 then 0 else p.Data.a2, if cn p ≤ 1 then 0 else p.Data.a3, if cn p ≤ 2 then 0 else p.Data.a4, if cn p ≤ 3 then 0 else p.Data.a5, if cn p ≤ 4 then 0 else p.Data.a6⟩ := by
  have hn := nd_k h
  obtain ⟨h0, h1, h2, h3, h4, h5, h6⟩ := h
  obtain ⟨_, _, hr, _, hR, _⟩ := nv_facts hn hv
  have hall := rise_all (by omega) hr hn.2.1
  have hc0 : 0 ≤ cn p := by unfold cn; omega
  have e1 : two (nd p).High (pkP (nd p).Right) = p.Data.a1 := by
    rw [right_ok h1 hR]
    exact two_lohi
  unfold fillN
  rw [e1]
  have hE : (nd p).Entries = (ents p).take (cn p).toNat := rfl
  unfold k_u64 at h2 h3 h4 h5 h6
  rw [hE] at hall ⊢
  have hcs : cn p = 0 ∨ cn p = 1 ∨ cn p = 2 ∨ cn p = 3 ∨ cn p = 4 ∨ cn p = 5 := by omega
  rcases hcs with e | e | e | e | e | e <;> rw [e] at hall ⊢ <;> simp only [ents, Int.toNat_zero, Int.reduceToNat, List.take_zero, List.take_succ_cons, List.mem_cons, List.not_mem_nil, or_false, forall_eq_or_imp, forall_eq] at hall ⊢ <;> simp only [wd, List.getElem?_nil, List.getElem?_cons_zero, List.getElem?_cons_succ, Int.reduceLE, if_true, if_false]
  · rw [we_ent hall h2.1]
  · obtain ⟨x0, x1⟩ := hall
    rw [we_ent x0 h2.1, we_ent x1 h3.1]
  · obtain ⟨x0, x1, x2⟩ := hall
    rw [we_ent x0 h2.1, we_ent x1 h3.1, we_ent x2 h4.1]
  · obtain ⟨x0, x1, x2, x3⟩ := hall
    rw [we_ent x0 h2.1, we_ent x1 h3.1, we_ent x2 h4.1, we_ent x3 h5.1]
  · obtain ⟨x0, x1, x2, x3, x4⟩ := hall
    rw [we_ent x0 h2.1, we_ent x1 h3.1, we_ent x2 h4.1, we_ent x3 h5.1, we_ent x4 h6.1]
theorem ReadNode_eq (p : api_Page) (h : k_A7 k_u64 p.Data) : btree_ReadNode p = some (rdN p) := by
  have hh := h
  have hn := nd_k h
  unfold btree_ReadNode rdN
  rw [tagOf h.1, bind_s]
  obtain ⟨h0, h1, _⟩ := h
  have h0k := h0
  have h1k := h1
  unfold k_u64 at h0 h1
  have ha := hi_r h0
  have hb1 := hi_r h1
  have hcn : IntKind.i64.wrap (bits .and .u32 (shrV .u32 (hi p.Data.a0) 8) 255) = cn p := and8 ha
  have hc0 : 0 ≤ cn p := by unfold cn; omega
  have hru : IntKind.u32.wrap (shrV .u64 p.Data.a1 32) = hi p.Data.a1 := by rw [shr_u64_32, u32_hi h1]
  simp only [hcn, hru, Unpack_eq hb1, bind_s]
  by_cases hk : p.Data.a0 % 256 = 4
  · by_cases hc : cn p ≤ 5
    · have hc' : ¬ cn p > 5 := by omega
      have hb : 2 ≤ IntKind.i64.wrap (2 + cn p) ∧ IntKind.i64.wrap (2 + cn p) ≤ 7 := by rw [i64_in' (by omega)]; omega
      simp only [hk, hc, hc', hb, bne_self_eq_false, decide_false, Bool.false_eq_true, if_false, and_self, if_true, true_and]
      rw [rb_all p hh (⟨4, p.Data.a0 / 256 % 16777216, hi p.Data.a0⟩ : pointer_Tag) _ (cn p) hcn ⟨hc0, hc⟩]
      unfold btree_ReadNode_J1
      have eb : (⟨IntKind.i64.wrap (bits .and .u32 (hi p.Data.a0) 255), (bits .and .u32 (hi p.Data.a0) 65536) != 0, (bits .and .u32 (hi p.Data.a0) 131072) != 0, IntKind.u32.wrap p.Data.a1, ⟨hi p.Data.a1 % 256, hi p.Data.a1 / 256⟩, (ents p).take (cn p).toNat⟩ : btree_Node) = nd p := by
        unfold nd dp
        rw [and32_255 (x := hi p.Data.a0) ha, i64_in' (x := hi p.Data.a0 % 256) (by omega), u32_lo]
        have a1 := and_bit ha 16 (by omega)
        have a2 := and_bit ha 17 (by omega)
        rw [show ((2 : Int) ^ 16) = 65536 from rfl] at a1
        rw [show ((2 : Int) ^ 17) = 131072 from rfl] at a2
        rw [a1, a2]
      simp only [eb, valid_eq _ hn.2.2, bind_s]
      rcases Bool.eq_false_or_eq_true (nv (nd p)) with hv | hv
      · obtain ⟨x1, x2, x3⟩ := aux_nd h0k hc
        simp only [hv, Bool.not_true, Bool.false_eq_true, if_false, fill_eq (nd p) p hn hv h0k, bind_s, fill_nd p hh hc hv, true_and]
        by_cases ht : hi p.Data.a0 < 262144 ∧ tz p
        · obtain ⟨hlt, t2, t3, t4, t5, t6⟩ := ht
          have f2 : (if cn p ≤ 0 then 0 else p.Data.a2) = p.Data.a2 := ite0 t2
          have f3 : (if cn p ≤ 1 then 0 else p.Data.a3) = p.Data.a3 := ite0 t3
          have f4 : (if cn p ≤ 2 then 0 else p.Data.a4) = p.Data.a4 := ite0 t4
          have f5 : (if cn p ≤ 3 then 0 else p.Data.a5) = p.Data.a5 := ite0 t5
          have f6 : (if cn p ≤ 4 then 0 else p.Data.a6) = p.Data.a6 := ite0 t6
          have hT : hi p.Data.a0 < 262144 ∧ tz p := ⟨hlt, t2, t3, t4, t5, t6⟩
          rw [if_pos hT]
          simp only [x1 hlt, two_lohi, f2, f3, f4, f5, f6, beq_self_eq_true, Bool.and_self, Bool.not_true, Bool.false_eq_true, if_false]
        · rw [if_neg ht]
          have e' : ((two (lo p.Data.a0) (aux (nd p)) == p.Data.a0) && ((p.Data.a1 == p.Data.a1) && (((if cn p ≤ 0 then 0 else p.Data.a2) == p.Data.a2) && (((if cn p ≤ 1 then 0 else p.Data.a3) == p.Data.a3) && (((if cn p ≤ 2 then 0 else p.Data.a4) == p.Data.a4) && (((if cn p ≤ 3 then 0 else p.Data.a5) == p.Data.a5) && ((if cn p ≤ 4 then 0 else p.Data.a6) == p.Data.a6))))))) = false := by
            rw [Bool.eq_false_iff]
            intro hx
            simp only [Bool.and_eq_true, beq_iff_eq] at hx
            obtain ⟨y0, _, y2, y3, y4, y5, y6⟩ := hx
            have hlt : hi p.Data.a0 < 262144 := by
              rcases Int.lt_or_le (hi p.Data.a0) 262144 with hl | hl
              · exact hl
              · refine absurd ?_ (x3 (by omega))
                have := @two_lohi p.Data.a0
                unfold two at y0 this
                omega
            refine ht ⟨hlt, ?_, ?_, ?_, ?_, ?_⟩
            · intro hle; rw [if_pos hle] at y2; exact y2.symm
            · intro hle; rw [if_pos hle] at y3; exact y3.symm
            · intro hle; rw [if_pos hle] at y4; exact y4.symm
            · intro hle; rw [if_pos hle] at y5; exact y5.symm
            · intro hle; rw [if_pos hle] at y6; exact y6.symm
          simp only [e', Bool.not_false, if_true]
          rfl
      · simp only [hv, Bool.not_false, if_true, Bool.false_eq_true, false_and, and_false, if_false]
        rfl
    · have hc' : cn p > 5 := by omega
      simp only [hk, hc, hc', bne_self_eq_false, decide_true, Bool.false_eq_true, if_false, if_true, false_and, and_false]
      rfl
  · have : (p.Data.a0 % 256 != 4) = true := by simp [hk]
    simp only [this, if_true, hk, false_and, if_false]
    rfl
theorem rc_step (p : api_Page) (h : k_A7 k_u64 p.Data) (x : Int) (v) (l : List hashindex_Entry) (i c : Int) (hc : IntKind.i64.wrap (Int.tmod (IntKind.u32.wrap (Int.tdiv x 256)) 256) = c) (hi' : 0 ≤ i ∧ i < 5) (hl : l.length ≤ 5) :
    iter (bodegaref24_ReadNode_L1 x p v) (l.map cE, i) = if c ≤ i then (if A7.get p.Data (2 + i) = 0 then iter (bodegaref24_ReadNode_L1 x p v) (l.map cE, i + 1) else some (cN zeroN, 14)) else iter (bodegaref24_ReadNode_L1 x p v) ((l ++ [ent (A7.get p.Data (2 + i))]).map cE, i + 1) := by
  rw [iter_eq]
  have hw : k_u64 (A7.get p.Data (2 + i)) := by
    obtain ⟨h0, h1, h2, h3, h4, h5, h6⟩ := h
    unfold A7.get; split <;> (try assumption); split <;> (try assumption); split <;> (try assumption); split <;> (try assumption); split <;> (try assumption); split <;> assumption
  have e2 : IntKind.i64.wrap (2 + i) = 2 + i := i64_in' (by omega)
  have e3 : IntKind.i64.wrap (i + 1) = i + 1 := i64_in' (by omega)
  have hm : ((l.map cE).length + 1) * 24 ≤ maxRows ∧ (l.map cE).length + 1 ≤ maxRows := by rw [List.length_map]; unfold maxRows; omega
  have hb : 0 ≤ 2 + i ∧ 2 + i < 7 := by omega
  have i5 : i < 5 := hi'.2
  simp only [bodegaref24_ReadNode_L1, bodegaref24_ReadNode_J3, i5, e2, e3, hb, hc, decide_true, if_true, and_self]
  generalize A7.get p.Data (2 + i) = w at hw
  unfold k_u64 at hw
  by_cases hci : c ≤ i
  · have h1 : i ≥ c := hci
    have h2 : ¬ i < c := by omega
    simp only [h1, h2, hci, decide_true, decide_false, Bool.false_eq_true, if_true, if_false]
    by_cases hw0 : w = 0
    · simp only [hw0, bne_self_eq_false, Bool.false_eq_true, if_false, bind_s, if_true]
    · have hw1 : (w != 0) = true := by simp [hw0]
      simp only [hw1, hw0, if_true, Option.map_some, bind_s, if_false]
      rfl
  · have h1 : ¬ i ≥ c := hci
    have h2 : i < c := by omega
    simp only [h1, h2, hci, decide_true, decide_false, Bool.false_eq_true, if_true, if_false, u32_lo, UnpackR_eq lo_r, bind_s, hm, and_self, shr_u64_32, List.map_append]
    rw [← u32_lo, u32_hi hw]
    rfl
theorem rc_end (p : api_Page) (x : Int) (v) (l : List hashindex_Entry) : iter (bodegaref24_ReadNode_L1 x p v) (l.map cE, 5) = bodegaref24_ReadNode_J2 x p v (l.map cE) := by
  rw [iter_eq]
  simp only [bodegaref24_ReadNode_L1, Int.lt_irrefl, decide_false, Bool.false_eq_true, if_false]
  cases bodegaref24_ReadNode_J2 x p v (l.map cE) <;> rfl
theorem rc_all' (p : api_Page) (h : k_A7 k_u64 p.Data) (x : Int) (v) (c : Int) (hc : IntKind.i64.wrap (Int.tmod (IntKind.u32.wrap (Int.tdiv x 256)) 256) = c) (hc0 : 0 ≤ c) (hc5 : c ≤ 5) :
    (tzc c p → iter (bodegaref24_ReadNode_L1 x p v) (([] : List hashindex_Entry).map cE, 0) = bodegaref24_ReadNode_J2 x p v (((ents p).take c.toNat).map cE)) ∧ (¬ tzc c p → iter (bodegaref24_ReadNode_L1 x p v) (([] : List hashindex_Entry).map cE, 0) = some (cN zeroN, 14)) := by
  have hcs : c = 0 ∨ c = 1 ∨ c = 2 ∨ c = 3 ∨ c = 4 ∨ c = 5 := by omega
  unfold tzc
  rcases hcs with e | e | e | e | e | e <;> subst e
  · rw [rc_step p h x v _ (0) _ hc (by omega) (by simp), if_pos (by omega)]
    rw [show A7.get p.Data (2 + (0)) = p.Data.a2 from rfl]
    by_cases z0 : p.Data.a2 = 0
    rotate_left
    · rw [if_neg z0]
      exact ⟨fun t => absurd (by obtain ⟨t0, t1, t2, t3, t4⟩ := t; exact t0 (by omega)) z0, fun _ => rfl⟩
    rw [if_pos z0]
    rw [rc_step p h x v _ (0+1) _ hc (by omega) (by simp), if_pos (by omega)]
    rw [show A7.get p.Data (2 + (0+1)) = p.Data.a3 from rfl]
    by_cases z1 : p.Data.a3 = 0
    rotate_left
    · rw [if_neg z1]
      exact ⟨fun t => absurd (by obtain ⟨t0, t1, t2, t3, t4⟩ := t; exact t1 (by omega)) z1, fun _ => rfl⟩
    rw [if_pos z1]
    rw [rc_step p h x v _ (0+1+1) _ hc (by omega) (by simp), if_pos (by omega)]
    rw [show A7.get p.Data (2 + (0+1+1)) = p.Data.a4 from rfl]
    by_cases z2 : p.Data.a4 = 0
    rotate_left
    · rw [if_neg z2]
      exact ⟨fun t => absurd (by obtain ⟨t0, t1, t2, t3, t4⟩ := t; exact t2 (by omega)) z2, fun _ => rfl⟩
    rw [if_pos z2]
    rw [rc_step p h x v _ (0+1+1+1) _ hc (by omega) (by simp), if_pos (by omega)]
    rw [show A7.get p.Data (2 + (0+1+1+1)) = p.Data.a5 from rfl]
    by_cases z3 : p.Data.a5 = 0
    rotate_left
    · rw [if_neg z3]
      exact ⟨fun t => absurd (by obtain ⟨t0, t1, t2, t3, t4⟩ := t; exact t3 (by omega)) z3, fun _ => rfl⟩
    rw [if_pos z3]
    rw [rc_step p h x v _ (0+1+1+1+1) _ hc (by omega) (by simp), if_pos (by omega)]
    rw [show A7.get p.Data (2 + (0+1+1+1+1)) = p.Data.a6 from rfl]
    by_cases z4 : p.Data.a6 = 0
    rotate_left
    · rw [if_neg z4]
      exact ⟨fun t => absurd (by obtain ⟨t0, t1, t2, t3, t4⟩ := t; exact t4 (by omega)) z4, fun _ => rfl⟩
    rw [if_pos z4]
    rw [show (0+1+1+1+1+1 : Int) = 5 from rfl, rc_end]
    exact ⟨fun _ => rfl, fun h => absurd ⟨fun _ => z0, fun _ => z1, fun _ => z2, fun _ => z3, fun _ => z4⟩ h⟩
  · rw [rc_step p h x v _ (0) _ hc (by omega) (by simp), if_neg (by omega)]
    rw [rc_step p h x v _ (0+1) _ hc (by omega) (by simp), if_pos (by omega)]
    rw [show A7.get p.Data (2 + (0+1)) = p.Data.a3 from rfl]
    by_cases z1 : p.Data.a3 = 0
    rotate_left
    · rw [if_neg z1]
      exact ⟨fun t => absurd (by obtain ⟨t0, t1, t2, t3, t4⟩ := t; exact t1 (by omega)) z1, fun _ => rfl⟩
    rw [if_pos z1]
    rw [rc_step p h x v _ (0+1+1) _ hc (by omega) (by simp), if_pos (by omega)]
    rw [show A7.get p.Data (2 + (0+1+1)) = p.Data.a4 from rfl]
    by_cases z2 : p.Data.a4 = 0
    rotate_left
    · rw [if_neg z2]
      exact ⟨fun t => absurd (by obtain ⟨t0, t1, t2, t3, t4⟩ := t; exact t2 (by omega)) z2, fun _ => rfl⟩
    rw [if_pos z2]
    rw [rc_step p h x v _ (0+1+1+1) _ hc (by omega) (by simp), if_pos (by omega)]
    rw [show A7.get p.Data (2 + (0+1+1+1)) = p.Data.a5 from rfl]
    by_cases z3 : p.Data.a5 = 0
    rotate_left
    · rw [if_neg z3]
      exact ⟨fun t => absurd (by obtain ⟨t0, t1, t2, t3, t4⟩ := t; exact t3 (by omega)) z3, fun _ => rfl⟩
    rw [if_pos z3]
    rw [rc_step p h x v _ (0+1+1+1+1) _ hc (by omega) (by simp), if_pos (by omega)]
    rw [show A7.get p.Data (2 + (0+1+1+1+1)) = p.Data.a6 from rfl]
    by_cases z4 : p.Data.a6 = 0
    rotate_left
    · rw [if_neg z4]
      exact ⟨fun t => absurd (by obtain ⟨t0, t1, t2, t3, t4⟩ := t; exact t4 (by omega)) z4, fun _ => rfl⟩
    rw [if_pos z4]
    rw [show (0+1+1+1+1+1 : Int) = 5 from rfl, rc_end]
    exact ⟨fun _ => rfl, fun h => absurd ⟨fun hh => absurd hh (by omega), fun _ => z1, fun _ => z2, fun _ => z3, fun _ => z4⟩ h⟩
  · rw [rc_step p h x v _ (0) _ hc (by omega) (by simp), if_neg (by omega), rc_step p h x v _ (0+1) _ hc (by omega) (by simp), if_neg (by omega)]
    rw [rc_step p h x v _ (0+1+1) _ hc (by omega) (by simp), if_pos (by omega)]
    rw [show A7.get p.Data (2 + (0+1+1)) = p.Data.a4 from rfl]
    by_cases z2 : p.Data.a4 = 0
    rotate_left
    · rw [if_neg z2]
      exact ⟨fun t => absurd (by obtain ⟨t0, t1, t2, t3, t4⟩ := t; exact t2 (by omega)) z2, fun _ => rfl⟩
    rw [if_pos z2]
    rw [rc_step p h x v _ (0+1+1+1) _ hc (by omega) (by simp), if_pos (by omega)]
    rw [show A7.get p.Data (2 + (0+1+1+1)) = p.Data.a5 from rfl]
    by_cases z3 : p.Data.a5 = 0
    rotate_left
    · rw [if_neg z3]
      exact ⟨fun t => absurd (by obtain ⟨t0, t1, t2, t3, t4⟩ := t; exact t3 (by omega)) z3, fun _ => rfl⟩
    rw [if_pos z3]
    rw [rc_step p h x v _ (0+1+1+1+1) _ hc (by omega) (by simp), if_pos (by omega)]
    rw [show A7.get p.Data (2 + (0+1+1+1+1)) = p.Data.a6 from rfl]
    by_cases z4 : p.Data.a6 = 0
    rotate_left
    · rw [if_neg z4]
      exact ⟨fun t => absurd (by obtain ⟨t0, t1, t2, t3, t4⟩ := t; exact t4 (by omega)) z4, fun _ => rfl⟩
    rw [if_pos z4]
    rw [show (0+1+1+1+1+1 : Int) = 5 from rfl, rc_end]
    exact ⟨fun _ => rfl, fun h => absurd ⟨fun hh => absurd hh (by omega), fun hh => absurd hh (by omega), fun _ => z2, fun _ => z3, fun _ => z4⟩ h⟩
  · rw [rc_step p h x v _ (0) _ hc (by omega) (by simp), if_neg (by omega), rc_step p h x v _ (0+1) _ hc (by omega) (by simp), if_neg (by omega), rc_step p h x v _ (0+1+1) _ hc (by omega) (by simp), if_neg (by omega)]
    rw [rc_step p h x v _ (0+1+1+1) _ hc (by omega) (by simp), if_pos (by omega)]
    rw [show A7.get p.Data (2 + (0+1+1+1)) = p.Data.a5 from rfl]
    by_cases z3 : p.Data.a5 = 0
    rotate_left
    · rw [if_neg z3]
      exact ⟨fun t => absurd (by obtain ⟨t0, t1, t2, t3, t4⟩ := t; exact t3 (by omega)) z3, fun _ => rfl⟩
    rw [if_pos z3]
    rw [rc_step p h x v _ (0+1+1+1+1) _ hc (by omega) (by simp), if_pos (by omega)]
    rw [show A7.get p.Data (2 + (0+1+1+1+1)) = p.Data.a6 from rfl]
    by_cases z4 : p.Data.a6 = 0
    rotate_left
    · rw [if_neg z4]
      exact ⟨fun t => absurd (by obtain ⟨t0, t1, t2, t3, t4⟩ := t; exact t4 (by omega)) z4, fun _ => rfl⟩
    rw [if_pos z4]
    rw [show (0+1+1+1+1+1 : Int) = 5 from rfl, rc_end]
    exact ⟨fun _ => rfl, fun h => absurd ⟨fun hh => absurd hh (by omega), fun hh => absurd hh (by omega), fun hh => absurd hh (by omega), fun _ => z3, fun _ => z4⟩ h⟩
  · rw [rc_step p h x v _ (0) _ hc (by omega) (by simp), if_neg (by omega), rc_step p h x v _ (0+1) _ hc (by omega) (by simp), if_neg (by omega), rc_step p h x v _ (0+1+1) _ hc (by omega) (by simp), if_neg (by omega), rc_step p h x v _ (0+1+1+1) _ hc (by omega) (by simp), if_neg (by omega)]
    rw [rc_step p h x v _ (0+1+1+1+1) _ hc (by omega) (by simp), if_pos (by omega)]
    rw [show A7.get p.Data (2 + (0+1+1+1+1)) = p.Data.a6 from rfl]
    by_cases z4 : p.Data.a6 = 0
    rotate_left
    · rw [if_neg z4]
      exact ⟨fun t => absurd (by obtain ⟨t0, t1, t2, t3, t4⟩ := t; exact t4 (by omega)) z4, fun _ => rfl⟩
    rw [if_pos z4]
    rw [show (0+1+1+1+1+1 : Int) = 5 from rfl, rc_end]
    exact ⟨fun _ => rfl, fun h => absurd ⟨fun hh => absurd hh (by omega), fun hh => absurd hh (by omega), fun hh => absurd hh (by omega), fun hh => absurd hh (by omega), fun _ => z4⟩ h⟩
  · rw [rc_step p h x v _ (0) _ hc (by omega) (by simp), if_neg (by omega), rc_step p h x v _ (0+1) _ hc (by omega) (by simp), if_neg (by omega), rc_step p h x v _ (0+1+1) _ hc (by omega) (by simp), if_neg (by omega), rc_step p h x v _ (0+1+1+1) _ hc (by omega) (by simp), if_neg (by omega), rc_step p h x v _ (0+1+1+1+1) _ hc (by omega) (by simp), if_neg (by omega)]
    rw [show (0+1+1+1+1+1 : Int) = 5 from rfl, rc_end]
    exact ⟨fun _ => rfl, fun h => absurd ⟨fun hh => absurd hh (by omega), fun hh => absurd hh (by omega), fun hh => absurd hh (by omega), fun hh => absurd hh (by omega), fun hh => absurd hh (by omega)⟩ h⟩
theorem rc_all (p : api_Page) (h : k_A7 k_u64 p.Data) (x : Int) (v) (hc : IntKind.i64.wrap (Int.tmod (IntKind.u32.wrap (Int.tdiv x 256)) 256) = cn p) (hc5 : cn p ≤ 5) :
    iter (bodegaref24_ReadNode_L1 x p v) ([], 0) = if tz p then bodegaref24_ReadNode_J2 x p v (((ents p).take (cn p).toNat).map cE) else some (cN zeroN, 14) := by
  have hc0 : 0 ≤ cn p := by unfold cn; omega
  have := rc_all' p h x v (cn p) hc hc0 hc5
  by_cases ht : tz p
  · rw [if_pos ht]; exact this.1 ht
  · rw [if_neg ht]; exact this.2 ht

theorem ReadNodeR_eq (p : api_Page) (h : k_A7 k_u64 p.Data) : bodegaref24_ReadNode p = some (cN (rdN p).1, (rdN p).2) := by
  have hh := h
  have hn := nd_k h
  obtain ⟨h0, h1, _⟩ := h
  unfold k_u64 at h0 h1
  have ha := hi_r h0
  have hb1 := hi_r h1
  unfold bodegaref24_ReadNode bodegaref19_Aux bodegaref19_Kind bodegaref24_ReadNode_J1 rdN
  have hau : IntKind.u32.wrap (shrV .u64 p.Data.a0 32) = hi p.Data.a0 := by rw [shr_u64_32, u32_hi h0]
  have hru : IntKind.u32.wrap (shrV .u64 p.Data.a1 32) = hi p.Data.a1 := by rw [shr_u64_32, u32_hi h1]
  rw [hau, bind_s, bind_s, hru, tmod_pos (x := p.Data.a0) h0.1, i64_in' (x := p.Data.a0 % 256) (by omega)]
  have hcn : IntKind.i64.wrap (Int.tmod (IntKind.u32.wrap (Int.tdiv (hi p.Data.a0) 256)) 256) = cn p := by
    rw [tdiv_pos ha.1, u32_in' (x := hi p.Data.a0 / 256) (by omega), tmod_pos (x := hi p.Data.a0 / 256) (by omega), i64_in' (by omega)]; rfl
  have hsh : shrV .u32 (hi p.Data.a0) 18 = hi p.Data.a0 / 262144 := shr_ 18
  have hc0 : 0 ≤ cn p := by unfold cn; omega
  simp only [hcn, hsh]
  by_cases hk : p.Data.a0 % 256 = 4
  · by_cases h18 : hi p.Data.a0 < 262144
    · have h18' : (hi p.Data.a0 / 262144 != 0) = false := by
        have : hi p.Data.a0 / 262144 = 0 := by omega
        rw [this]; rfl
      by_cases hc : cn p ≤ 5
      · have hc' : ¬ cn p > 5 := by omega
        have fin : ∀ v, v = cP (dp (hi p.Data.a1)) → iter (bodegaref24_ReadNode_L1 (hi p.Data.a0) p v) (([] : List bodegaref23_Entry), 0) = if nv (nd p) = true ∧ tz p then some (cN (nd p), 0) else some (cN zeroN, 14) := fun v hv => by
          have := rc_all p hh (hi p.Data.a0) v hcn hc
          rw [this]
          by_cases ht : tz p
          · rw [if_pos ht]
            unfold bodegaref24_ReadNode_J2
            have eb : (⟨IntKind.i64.wrap (Int.tmod (hi p.Data.a0) 256), (bits .and .u32 (shrV .u32 (hi p.Data.a0) 16) 1) == 1, (bits .and .u32 (shrV .u32 (hi p.Data.a0) 17) 1) == 1, IntKind.u32.wrap p.Data.a1, v, ((ents p).take (cn p).toNat).map cE⟩ : bodegaref24_Node) = cN (nd p) := by
              rw [tmod_pos ha.1, i64_in' (x := hi p.Data.a0 % 256) (by omega), shr_bit ha 16 16 rfl, shr_bit ha 17 17 rfl, u32_lo, hv]
              rfl
            simp only [eb, validR_eq (nd p) hn, bind_s]
            rcases Bool.eq_false_or_eq_true (nv (nd p)) with hv | hv
            · simp [hv, ht]
            · simp [hv, ht]; rfl
          · rw [if_neg ht, if_neg (fun h => ht h.2)]
        simp only [hk, h18, h18', hc, hc', bne_self_eq_false, decide_false, Bool.false_eq_true, if_false, true_and]
        by_cases hr : hi p.Data.a1 = 0
        · have e0 : (hi p.Data.a1 != 0) = false := by rw [hr]; rfl
          simp only [e0, Bool.false_eq_true, if_false]
          rw [fin _ (by rw [hr]; rfl)]
          split <;> rfl
        · have e0 : (hi p.Data.a1 != 0) = true := by simpa using hr
          simp only [e0, if_true, UnpackR_eq hb1, bind_s, ValidR_eq]
          rcases Bool.eq_false_or_eq_true (vp (hi p.Data.a1 % 256) (hi p.Data.a1 / 256)) with hv | hv
          · simp only [hv, Bool.not_true, Bool.false_eq_true, if_false]
            have := fin (⟨hi p.Data.a1 % 256, hi p.Data.a1 / 256⟩ : bodegaref19_Pointer) rfl
            rw [this]
            split <;> rfl
          · have hnv : nv (nd p) = false := by
              have hrn : rn (nd p) = false := by
                rw [Bool.eq_false_iff]
                intro hx
                unfold rn at hx
                simp only [Bool.and_eq_true, beq_iff_eq] at hx
                exact hr ((dp0 hb1).1 hx)
              have hvv : vp (nd p).Right.Line (nd p).Right.Gen = false := hv
              unfold nv
              simp [hrn, hvv]
            simp only [hv, hnv, Bool.not_false, if_true, Bool.false_eq_true, false_and, if_false]
            rfl
      · have hc' : cn p > 5 := by omega
        simp only [hk, h18', hc, hc', bne_self_eq_false, decide_true, Bool.false_eq_true, if_false, if_true, false_and, and_false]
        rfl
    · have h18' : (hi p.Data.a0 / 262144 != 0) = true := by
        have : ¬ hi p.Data.a0 / 262144 = 0 := by omega
        simpa using this
      simp only [hk, h18, h18', bne_self_eq_false, Bool.false_eq_true, if_false, if_true, false_and, and_false]
      rfl
  · have : (p.Data.a0 % 256 != 4) = true := by simp [hk]
    simp only [this, if_true, hk, false_and, if_false]
    rfl
end Go.Sh
end
section
namespace Go.Sh
def LeO {α : Type} (a b : Option α) : Prop := ∀ r, a = some r → b = some r
namespace LeO
variable {α β : Type}
theorem refl (a : Option α) : LeO a a := fun _ h => h
theorem none (b : Option α) : LeO .none b := fun _ h => by cases h
theorem bind {a a' : Option α} {f f' : α → Option β} (h : LeO a a') (k : ∀ x, LeO (f x) (f' x)) : LeO (a.bind f) (a'.bind f') := by
  intro r hr
  obtain ⟨x, h1, h2⟩ := Option.bind_eq_some_iff.1 hr
  rw [h x h1]; exact k x r h2
theorem ite {c : Prop} [Decidable c] {a a' b b' : Option α} (h1 : LeO a a') (h2 : LeO b b') : LeO (if c then a else b) (if c then a' else b') := by
  split
  · exact h1
  · exact h2
theorem map {a a' : Option α} {f : α → β} (h : LeO a a') : LeO (Option.map f a) (Option.map f a') := by
  intro r hr
  obtain ⟨x, h1, h2⟩ := Option.map_eq_some_iff.1 hr
  rw [h x h1]; exact congrArg some h2
end LeO
/-- A loop of not more than 4096 rounds. -/
def iterF {σ ρ : Type} (f : σ → Option (σ ⊕ ρ)) (x : σ) : Option ρ := iterN f 4096 x
theorem iterN_mono {σ ρ : Type} {f g : σ → Option (σ ⊕ ρ)} (h : ∀ x, LeO (f x) (g x)) : ∀ (n : Nat) (x : σ) (r : ρ), iterN f n x = some r → iterN g n x = some r
  | 0, x, r, e => by simp [iterN] at e
  | n + 1, x, r, e => by
    unfold iterN at e ⊢
    obtain ⟨s, hs, e⟩ := Option.bind_eq_some_iff.1 e
    rw [h x s hs, Option.bind_some]
    cases s with
    | inl y => exact iterN_mono h n y r e
    | inr q => exact e
theorem LeO.iter {σ ρ : Type} {f g : σ → Option (σ ⊕ ρ)} {x : σ} (h : ∀ x, LeO (f x) (g x)) : LeO (iterF f x) (Go.Sh.iter g x) := fun r hr => iter_of (iterN_mono h _ x r hr)
end Go.Sh
end
