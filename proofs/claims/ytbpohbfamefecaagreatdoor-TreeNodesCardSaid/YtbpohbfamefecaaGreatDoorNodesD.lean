/- Part 4 of 6 of the proof: bodegalaw24.TreeNodes returns true for every input, with the package variable bodega/btree.none as the program lays it. -/
import Derived.Test.YtbpohbfamefecaaGreatDoorNodesC
set_option linter.all false
set_option maxRecDepth 100000
set_option maxHeartbeats 4000000
section
namespace Go.Sh
open Go.Proofs
noncomputable def btree_run_descend_J2 (x219 : Int) (x186 : Int) (x187 : Int) (x188 : Int) (x189 : pointer_Pointer) (x190 : Int) (x191 : Int) (l192 : List api_Page) (l193 : List api_Page) (l194 : List Int) (l195 : List api_Page) (x196 : Int) (b197 : Bool) (b198 : Bool) (b199 : Bool) (b222 : Bool) (b202 : Bool) (x203 : pointer_Pointer) (l204 : List hashindex_Entry) (l205 : List Int) (x206 : Int) (x207 : Int) (x208 : Int) (x209 : api_Page) (x210 : pointer_Pointer) (b211 : Bool) (x212 : api_Page) (x213 : Int) (b214 : Bool) (b215 : Bool) (x216 : Int) (x217 : pointer_Pointer) (l218 : List hashindex_Entry) (b224 : Bool) : Option ((Int × Int × Int × pointer_Pointer × Int × Int × List api_Page × List api_Page × List Int × List api_Page × Int × Bool × Bool × Bool × Bool × Bool × Bool × pointer_Pointer × List hashindex_Entry × List Int × Int × Int × Int × api_Page × pointer_Pointer × Bool × api_Page × Int × Bool × Bool × Int × pointer_Pointer × List hashindex_Entry × Int) ⊕ (btree_found × Bool × Bool × btree_run)) :=
    if (decide ((IntKind.i64.wrap (x219 + 1)) > 256)) = true then
      (btree_run_fail (⟨(⟨x186, x187, x188, x189, x190, x191, l192⟩ : btree_Op), l193, l194, l195, (⟨x196, b197, b198, b199, b224, b222, b202, x203, l204, l205, (IntKind.i64.wrap (x206 + 1)), x207, x208⟩ : btree_Out), x209, x210, b211⟩ : btree_run) 14 ([] : List Int)).bind fun v228 =>
      Option.map Sum.inr (
        some ((⟨x212, (⟨x213, b214, b215, x216, x217, l218⟩ : btree_Node)⟩ : btree_found), false, v228.1, v228.2))
    else
      (btree_run_neighbour (⟨(⟨x186, x187, x188, x189, x190, x191, l192⟩ : btree_Op), l193, l194, l195, (⟨x196, b197, b198, b199, b224, b222, b202, x203, l204, l205, (IntKind.i64.wrap (x206 + 1)), x207, x208⟩ : btree_Out), x209, x210, b211⟩ : btree_run) (⟨x213, b214, b215, x216, x217, l218⟩ : btree_Node)).bind fun v229 =>
      if (!v229.2.1) = true then
        Option.map Sum.inr (
          some (v229.1, false, false, v229.2.2))
      else
        some (.inl (v229.2.2.Op.Kind, v229.2.2.Op.Key, v229.2.2.Op.Last, v229.2.2.Op.To, v229.2.2.Op.Level, v229.2.2.Op.Limit, v229.2.2.Op.Fresh, v229.2.2.Known, v229.2.2.Need, v229.2.2.Writes, v229.2.2.Out.Code, v229.2.2.Out.Found, v229.2.2.Out.Done, v229.2.2.Out.Split, v229.2.2.Out.Unposted, v229.2.2.Out.Dead, v229.2.2.Out.More, v229.2.2.Out.To, v229.2.2.Out.Entries, v229.2.2.Out.Check, v229.2.2.Out.Hops, v229.2.2.Out.Fresh, v229.2.2.Out.Height, v229.2.2.RootPage, v229.2.2.Root, v229.2.2.Ended, v229.1.Page, v229.1.Node.Level, v229.1.Node.Leftmost, v229.1.Node.Dead, v229.1.Node.High, v229.1.Node.Right, v229.1.Node.Entries, (IntKind.i64.wrap (x219 + 1))))
noncomputable def btree_run_descend_J1 (x219 : Int) (x186 : Int) (x187 : Int) (x188 : Int) (x189 : pointer_Pointer) (x190 : Int) (x191 : Int) (l192 : List api_Page) (l193 : List api_Page) (l194 : List Int) (l195 : List api_Page) (x196 : Int) (b197 : Bool) (b198 : Bool) (b199 : Bool) (b202 : Bool) (x203 : pointer_Pointer) (l204 : List hashindex_Entry) (l205 : List Int) (x206 : Int) (x207 : Int) (x208 : Int) (x209 : api_Page) (x210 : pointer_Pointer) (b211 : Bool) (x212 : api_Page) (x213 : Int) (b214 : Bool) (b215 : Bool) (x216 : Int) (x217 : pointer_Pointer) (l218 : List hashindex_Entry) (b200 : Bool) (b222 : Bool) : Option ((Int × Int × Int × pointer_Pointer × Int × Int × List api_Page × List api_Page × List Int × List api_Page × Int × Bool × Bool × Bool × Bool × Bool × Bool × pointer_Pointer × List hashindex_Entry × List Int × Int × Int × Int × api_Page × pointer_Pointer × Bool × api_Page × Int × Bool × Bool × Int × pointer_Pointer × List hashindex_Entry × Int) ⊕ (btree_found × Bool × Bool × btree_run)) :=
    btree_run_descend_J2 x219 x186 x187 x188 x189 x190 x191 l192 l193 l194 l195 x196 b197 b198 b199 b222 b202 x203 l204 l205 x206 x207 x208 x209 x210 b211 x212 x213 b214 b215 x216 x217 l218 (b200 || false)
noncomputable def btree_run_descend_J4 (x219 : Int) (x186 : Int) (x187 : Int) (x188 : Int) (x189 : pointer_Pointer) (x190 : Int) (x191 : Int) (l192 : List api_Page) (l193 : List api_Page) (l194 : List Int) (l195 : List api_Page) (x196 : Int) (b197 : Bool) (b198 : Bool) (b199 : Bool) (b273 : Bool) (b202 : Bool) (x203 : pointer_Pointer) (l204 : List hashindex_Entry) (l205 : List Int) (x206 : Int) (x207 : Int) (x208 : Int) (x209 : api_Page) (x210 : pointer_Pointer) (b211 : Bool) (x212 : api_Page) (x213 : Int) (b214 : Bool) (b215 : Bool) (x216 : Int) (x217 : pointer_Pointer) (l218 : List hashindex_Entry) : Unit → Option ((Int × Int × Int × pointer_Pointer × Int × Int × List api_Page × List api_Page × List Int × List api_Page × Int × Bool × Bool × Bool × Bool × Bool × Bool × pointer_Pointer × List hashindex_Entry × List Int × Int × Int × Int × api_Page × pointer_Pointer × Bool × api_Page × Int × Bool × Bool × Int × pointer_Pointer × List hashindex_Entry × Int) ⊕ (btree_found × Bool × Bool × btree_run))
  | () =>
    if (decide ((IntKind.i64.wrap (x219 + 1)) > 256)) = true then
      (btree_run_fail (⟨(⟨x186, x187, x188, x189, x190, x191, l192⟩ : btree_Op), l193, l194, l195, (⟨x196, b197, b198, b199, true, b273, b202, x203, l204, l205, (IntKind.i64.wrap (x206 + 1)), x207, x208⟩ : btree_Out), x209, x210, b211⟩ : btree_run) 14 ([] : List Int)).bind fun v278 =>
      Option.map Sum.inr (
        some ((⟨x212, (⟨x213, b214, b215, x216, x217, l218⟩ : btree_Node)⟩ : btree_found), false, v278.1, v278.2))
    else
      (btree_run_neighbour (⟨(⟨x186, x187, x188, x189, x190, x191, l192⟩ : btree_Op), l193, l194, l195, (⟨x196, b197, b198, b199, true, b273, b202, x203, l204, l205, (IntKind.i64.wrap (x206 + 1)), x207, x208⟩ : btree_Out), x209, x210, b211⟩ : btree_run) (⟨x213, b214, b215, x216, x217, l218⟩ : btree_Node)).bind fun v279 =>
      if (!v279.2.1) = true then
        Option.map Sum.inr (
          some (v279.1, false, false, v279.2.2))
      else
        some (.inl (v279.2.2.Op.Kind, v279.2.2.Op.Key, v279.2.2.Op.Last, v279.2.2.Op.To, v279.2.2.Op.Level, v279.2.2.Op.Limit, v279.2.2.Op.Fresh, v279.2.2.Known, v279.2.2.Need, v279.2.2.Writes, v279.2.2.Out.Code, v279.2.2.Out.Found, v279.2.2.Out.Done, v279.2.2.Out.Split, v279.2.2.Out.Unposted, v279.2.2.Out.Dead, v279.2.2.Out.More, v279.2.2.Out.To, v279.2.2.Out.Entries, v279.2.2.Out.Check, v279.2.2.Out.Hops, v279.2.2.Out.Fresh, v279.2.2.Out.Height, v279.2.2.RootPage, v279.2.2.Root, v279.2.2.Ended, v279.1.Page, v279.1.Node.Level, v279.1.Node.Leftmost, v279.1.Node.Dead, v279.1.Node.High, v279.1.Node.Right, v279.1.Node.Entries, (IntKind.i64.wrap (x219 + 1))))
noncomputable def btree_run_descend_J3 (x219 : Int) (x186 : Int) (x187 : Int) (x188 : Int) (x189 : pointer_Pointer) (x190 : Int) (x191 : Int) (l192 : List api_Page) (l193 : List api_Page) (l194 : List Int) (l195 : List api_Page) (x196 : Int) (b197 : Bool) (b198 : Bool) (b199 : Bool) (b202 : Bool) (x203 : pointer_Pointer) (l204 : List hashindex_Entry) (l205 : List Int) (x206 : Int) (x207 : Int) (x208 : Int) (x209 : api_Page) (x210 : pointer_Pointer) (b211 : Bool) (x212 : api_Page) (x213 : Int) (b214 : Bool) (b215 : Bool) (x216 : Int) (x217 : pointer_Pointer) (l218 : List hashindex_Entry) (b273 : Bool) : Option ((Int × Int × Int × pointer_Pointer × Int × Int × List api_Page × List api_Page × List Int × List api_Page × Int × Bool × Bool × Bool × Bool × Bool × Bool × pointer_Pointer × List hashindex_Entry × List Int × Int × Int × Int × api_Page × pointer_Pointer × Bool × api_Page × Int × Bool × Bool × Int × pointer_Pointer × List hashindex_Entry × Int) ⊕ (btree_found × Bool × Bool × btree_run)) :=
    btree_run_descend_J4 x219 x186 x187 x188 x189 x190 x191 l192 l193 l194 l195 x196 b197 b198 b199 b273 b202 x203 l204 l205 x206 x207 x208 x209 x210 b211 x212 x213 b214 b215 x216 x217 l218 ()
noncomputable def btree_run_descend_L1 (a2 : Int) (a1 : Int) (v1 : (btree_found × Bool × btree_run)) : (Int × Int × Int × pointer_Pointer × Int × Int × List api_Page × List api_Page × List Int × List api_Page × Int × Bool × Bool × Bool × Bool × Bool × Bool × pointer_Pointer × List hashindex_Entry × List Int × Int × Int × Int × api_Page × pointer_Pointer × Bool × api_Page × Int × Bool × Bool × Int × pointer_Pointer × List hashindex_Entry × Int) → Option ((Int × Int × Int × pointer_Pointer × Int × Int × List api_Page × List api_Page × List Int × List api_Page × Int × Bool × Bool × Bool × Bool × Bool × Bool × pointer_Pointer × List hashindex_Entry × List Int × Int × Int × Int × api_Page × pointer_Pointer × Bool × api_Page × Int × Bool × Bool × Int × pointer_Pointer × List hashindex_Entry × Int) ⊕ (btree_found × Bool × Bool × btree_run))
  | (x186, x187, x188, x189, x190, x191, l192, l193, l194, l195, x196, b197, b198, b199, b200, b201, b202, x203, l204, l205, x206, x207, x208, x209, x210, b211, x212, x213, b214, b215, x216, x217, l218, x219) =>
    if b215 = true then
      btree_run_descend_J1 x219 x186 x187 x188 x189 x190 x191 l192 l193 l194 l195 x196 b197 b198 b199 b202 x203 l204 l205 x206 x207 x208 x209 x210 b211 x212 x213 b214 b215 x216 x217 l218 b200 (b201 || b215)
    else
      if (decide (a2 > x216)) = true then
        btree_run_descend_J3 x219 x186 x187 x188 x189 x190 x191 l192 l193 l194 l195 x196 b197 b198 b199 b202 x203 l204 l205 x206 x207 x208 x209 x210 b211 x212 x213 b214 b215 x216 x217 l218 (b201 || b215)
      else
        if (x213 == a1) = true then
          (pointer_Locked x212).bind fun v320 =>
          if v320 = true then
            (btree_run_fail (⟨(⟨x186, x187, x188, x189, x190, x191, l192⟩ : btree_Op), l193, l194, l195, (⟨x196, b197, b198, b199, b200, b201, b202, x203, l204, l205, x206, x207, (IntKind.i64.wrap (v1.1.Node.Level + 1))⟩ : btree_Out), x209, x210, true⟩ : btree_run) 3 ([] : List Int)).bind fun v322 =>
            Option.map Sum.inr (
              some ((⟨x212, (⟨x213, b214, b215, x216, x217, l218⟩ : btree_Node)⟩ : btree_found), false, v322.1, v322.2))
          else
            Option.map Sum.inr (
              some ((⟨x212, (⟨x213, b214, b215, x216, x217, l218⟩ : btree_Node)⟩ : btree_found), false, true, (⟨(⟨x186, x187, x188, x189, x190, x191, l192⟩ : btree_Op), l193, l194, l195, (⟨x196, b197, b198, b199, b200, b201, b202, x203, l204, l205, x206, x207, (IntKind.i64.wrap (v1.1.Node.Level + 1))⟩ : btree_Out), x209, x210, true⟩ : btree_run)))
        else
          (btree_Node_child (⟨x213, b214, b215, x216, x217, l218⟩ : btree_Node) a2).bind fun v327 =>
          (idx l218 v327).bind fun e328 =>
          (btree_run_look (⟨(⟨x186, x187, x188, x189, x190, x191, l192⟩ : btree_Op), l193, l194, l195, (⟨x196, b197, b198, b199, b200, b201, b202, x203, l204, l205, x206, x207, x208⟩ : btree_Out), x209, x210, b211⟩ : btree_run) e328.To).bind fun v329 =>
          if (!v329.2.1) = true then
            Option.map Sum.inr (
              some (v329.1, false, false, v329.2.2))
          else
            if (v329.1.Node.Level != (IntKind.i64.wrap (x213 - 1))) = true then
              (btree_run_fail v329.2.2 14 ([] : List Int)).bind fun v332 =>
              Option.map Sum.inr (
                some (v329.1, false, v332.1, v332.2))
            else
              some (.inl (v329.2.2.Op.Kind, v329.2.2.Op.Key, v329.2.2.Op.Last, v329.2.2.Op.To, v329.2.2.Op.Level, v329.2.2.Op.Limit, v329.2.2.Op.Fresh, v329.2.2.Known, v329.2.2.Need, v329.2.2.Writes, v329.2.2.Out.Code, v329.2.2.Out.Found, v329.2.2.Out.Done, v329.2.2.Out.Split, v329.2.2.Out.Unposted, v329.2.2.Out.Dead, v329.2.2.Out.More, v329.2.2.Out.To, v329.2.2.Out.Entries, v329.2.2.Out.Check, v329.2.2.Out.Hops, v329.2.2.Out.Fresh, v329.2.2.Out.Height, v329.2.2.RootPage, v329.2.2.Root, v329.2.2.Ended, v329.1.Page, v329.1.Node.Level, v329.1.Node.Leftmost, v329.1.Node.Dead, v329.1.Node.High, v329.1.Node.Right, v329.1.Node.Entries, x219))
noncomputable def btree_run_descend (a0 : btree_run) (a1 : Int) (a2 : Int) : Option (btree_found × Bool × Bool × btree_run) :=
  (btree_run_look a0 a0.Root).bind fun v1 =>
  if (!v1.2.1) = true then
    some (v1.1, false, false, v1.2.2)
  else
    if (decide (v1.1.Node.Level < a1)) = true then
      some ((⟨(⟨0, 0, (⟨0, 0, 0, 0, 0, 0, 0⟩ : (A7 Int))⟩ : api_Page), (⟨0, false, false, 0, (⟨0, 0⟩ : pointer_Pointer), ([] : List hashindex_Entry)⟩ : btree_Node)⟩ : btree_found), true, false, v1.2.2)
    else
      iter (btree_run_descend_L1 a2 a1 v1) (v1.2.2.Op.Kind, v1.2.2.Op.Key, v1.2.2.Op.Last, v1.2.2.Op.To, v1.2.2.Op.Level, v1.2.2.Op.Limit, v1.2.2.Op.Fresh, v1.2.2.Known, v1.2.2.Need, v1.2.2.Writes, v1.2.2.Out.Code, v1.2.2.Out.Found, v1.2.2.Out.Done, v1.2.2.Out.Split, v1.2.2.Out.Unposted, v1.2.2.Out.Dead, v1.2.2.Out.More, v1.2.2.Out.To, v1.2.2.Out.Entries, v1.2.2.Out.Check, v1.2.2.Out.Hops, v1.2.2.Out.Fresh, v1.2.2.Out.Height, v1.2.2.RootPage, v1.2.2.Root, v1.2.2.Ended, v1.1.Page, v1.1.Node.Level, v1.1.Node.Leftmost, v1.1.Node.Dead, v1.1.Node.High, v1.1.Node.Right, v1.1.Node.Entries, 0)
theorem btree_run_descend_ok (G : Glob) (hG0 : G.glob 0 = some [(.int .i64 0), (.int .i64 0)]) (a0 : btree_run) (a1 : Int) (a2 : Int) (res : (btree_found × Bool × Bool × btree_run)) (h : btree_run_descend a0 a1 a2 = some res) : Spec Tryz.prog G 92 [.io (g_rhlf a0), .cell (.p (.int .i64 a1)), .cell (.p (.int .u32 a2))] (fun r ios => r = .tup [.agg (g_ggvz res.1), .cell (.p (.bool res.2.1)), .cell (.p (.bool res.2.2.1))] ∧ ios = [.io (g_rhlf res.2.2.2)]) := by
  rw [btree_run_descend] at h
  refine spec_of Tryz.mixed Tryz.func92 rfl rfl (by simp only [List.length]; decide +kernel) ?_
  refine swp_fresh (fun g => stL [(0, (.c (.ptr ⟨0, 1⟩ 0 0))), (1, (.c (.p (.int .i64 a1)))), (2, (.c (.p (.int .u32 a2))))] [(⟨0, 1⟩, .box true (b_1wfs a0 ⟨1024000001, g⟩ ⟨1024000002, g⟩ ⟨1024000003, g⟩ ⟨1024000004, g⟩)), (⟨1024000001, g⟩, .arr true 1 (a0.Need.map r_i64)), (⟨1024000002, g⟩, .arr true 9 (a0.Writes.map r_api_Page)), (⟨1024000003, g⟩, .arr true 3 (a0.Out.Entries.map r_hashindex_Entry)), (⟨1024000004, g⟩, .arr true 1 (a0.Out.Check.map r_i64))] (g + 1)) (ren_go (fun g S => [(⟨1024000001, g⟩, (keyB 9 (St.heap S ⟨0, 1⟩))), (⟨1024000002, g⟩, (keyB 10 (St.heap S ⟨0, 1⟩))), (⟨1024000003, g⟩, (keyB 20 (St.heap S ⟨0, 1⟩))), (⟨1024000004, g⟩, (keyB 21 (St.heap S ⟨0, 1⟩)))]) fun g S => []) fun g => ?_
  refine go_seq ?_
  refine seq_reg rfl (fun K hK => ?_)
  refine bind_of h (fun v1 hv1 h => ?_)
  simp -implicitDefEqProofs +decide only [go_sem, Nat.reduceAdd, Int.reduceToNat]
  refine call_go [0, 0, 0] true (btree_run_look_ok (cG G) hG0 _ _ _ hv1) ?_
  simp -implicitDefEqProofs +decide only [go_sem, Nat.reduceAdd, Int.reduceToNat]
  refine hK _ ?_
  refine swp_seq ?_
  refine go_seq ?_
  refine bsplit h (fun hb3 h => ?_) (fun hb3 h => ?_)
  ·refine if_go ?_
   refine go_seq ?_
   refine swp_ret ?_
   with_reducible repeat first|apply nn|apply nb|apply nr|apply nc|apply ne|apply nq|apply nx rfl
   obtain rfl := some_eq h
   exact rt
  ·refine el_go ?_
   refine swp_skip ?_
   with_reducible repeat first|apply nn|apply nb|apply nr|apply nc|apply ne|apply nq|apply nx rfl
   refine swp_seq ?_
   refine go_seq ?_
   refine bsplit h (fun hb5 h => ?_) (fun hb5 h => ?_)
   ·refine if_go ?_
    refine go_seq ?_
    refine swp_fresh (fun g => stL [(6, (.c (.ptr ⟨1024000005, g⟩ 0 0))), (7, (.c (.p (.bool true)))), (8, (.c (.p (.bool false))))] [(⟨1024000005, g⟩, .box true [(.p (.int .i64 0)), (.p (.int .u64 0)), (.p (.int .u64 0)), (.p (.int .u64 0)), (.p (.int .u64 0)), (.p (.int .u64 0)), (.p (.int .u64 0)), (.p (.int .u64 0)), (.p (.int .u64 0)), (.p (.int .i64 0)), (.p (.bool false)), (.p (.bool false)), (.p (.int .u32 0)), (.p (.int .i64 0)), (.p (.int .i64 0)), (.ref ⟨1024000006, g⟩ 0 ([] : List hashindex_Entry).length)]), (⟨1024000006, g⟩, .arr true 3 (([] : List hashindex_Entry).map r_hashindex_Entry)), (⟨0, 1⟩, .box true (b_1wfs v1.2.2 ⟨1024000007, g⟩ ⟨1024000008, g⟩ ⟨1024000009, g⟩ ⟨1024000010, g⟩)), (⟨1024000007, g⟩, .arr true 1 (v1.2.2.Need.map r_i64)), (⟨1024000008, g⟩, .arr true 9 (v1.2.2.Writes.map r_api_Page)), (⟨1024000009, g⟩, .arr true 3 (v1.2.2.Out.Entries.map r_hashindex_Entry)), (⟨1024000010, g⟩, .arr true 1 (v1.2.2.Out.Check.map r_i64))] (g + 1)) (ren_go (fun g S => [(⟨1024000005, g⟩, (keyT 0 (St.env S 6))), (⟨1024000007, g⟩, (keyB 9 (St.heap S ⟨0, 1⟩))), (⟨1024000008, g⟩, (keyB 10 (St.heap S ⟨0, 1⟩))), (⟨1024000009, g⟩, (keyB 20 (St.heap S ⟨0, 1⟩))), (⟨1024000010, g⟩, (keyB 21 (St.heap S ⟨0, 1⟩)))]) fun g S => [(⟨1024000006, g⟩, 3)]) fun g => ?_
    refine swp_ret ?_
    with_reducible repeat first|apply nn|apply nb|apply nr|apply nc|apply ne|apply nq|apply nx rfl
    obtain rfl := some_eq h
    exact rt
   ·refine el_go ?_
    refine swp_skip ?_
    with_reducible repeat first|apply nn|apply nb|apply nr|apply nc|apply ne|apply nq|apply nx rfl
    refine go_seq ?_
    refine go_seq ?_
    refine swp_block ?_
    refine swp_iter (fun g x => match x with | (x186, x187, x188, x189, x190, x191, l192, l193, l194, l195, x196, b197, b198, b199, b200, b201, b202, x203, l204, l205, x206, x207, x208, x209, x210, b211, x212, x213, b214, b215, x216, x217, l218, x219) => stL [(0, (.c (.ptr ⟨0, 1⟩ 0 0))), (1, (.c (.p (.int .i64 a1)))), (2, (.c (.p (.int .u32 a2)))), (6, (.c (.ptr ⟨1024000015, g⟩ 0 0))), (9, (.c (.p (.int .i64 (IntKind.i64.wrap (v1.1.Node.Level + 1)))))), (10, (.c (.p (.int .i64 x219))))] [(⟨0, 1⟩, .box true [(.p (.int .i64 x186)), (.p (.int .u32 x187)), (.p (.int .u32 x188)), (.p (.int .i64 x189.Line)), (.p (.int .i64 x189.Gen)), (.p (.int .i64 x190)), (.p (.int .i64 x191)), (.p (.rows (l192.map r_api_Page))), (.p (.rows (l193.map r_api_Page))), (.ref ⟨1024000011, g⟩ 0 l194.length), (.ref ⟨1024000012, g⟩ 0 l195.length), (.p (.int .i64 x196)), (.p (.bool b197)), (.p (.bool b198)), (.p (.bool b199)), (.p (.bool b200)), (.p (.bool b201)), (.p (.bool b202)), (.p (.int .i64 x203.Line)), (.p (.int .i64 x203.Gen)), (.ref ⟨1024000013, g⟩ 0 l204.length), (.ref ⟨1024000014, g⟩ 0 l205.length), (.p (.int .i64 x206)), (.p (.int .i64 x207)), (.p (.int .i64 x208)), (.p (.int .i64 x209.Line)), (.p (.int .u64 x209.Head)), (.p (.int .u64 x209.Data.a0)), (.p (.int .u64 x209.Data.a1)), (.p (.int .u64 x209.Data.a2)), (.p (.int .u64 x209.Data.a3)), (.p (.int .u64 x209.Data.a4)), (.p (.int .u64 x209.Data.a5)), (.p (.int .u64 x209.Data.a6)), (.p (.int .i64 x210.Line)), (.p (.int .i64 x210.Gen)), (.p (.bool b211))]), (⟨1024000011, g⟩, .arr true 1 (l194.map r_i64)), (⟨1024000012, g⟩, .arr true 9 (l195.map r_api_Page)), (⟨1024000013, g⟩, .arr true 3 (l204.map r_hashindex_Entry)), (⟨1024000014, g⟩, .arr true 1 (l205.map r_i64)), (⟨1024000015, g⟩, .box true [(.p (.int .i64 x212.Line)), (.p (.int .u64 x212.Head)), (.p (.int .u64 x212.Data.a0)), (.p (.int .u64 x212.Data.a1)), (.p (.int .u64 x212.Data.a2)), (.p (.int .u64 x212.Data.a3)), (.p (.int .u64 x212.Data.a4)), (.p (.int .u64 x212.Data.a5)), (.p (.int .u64 x212.Data.a6)), (.p (.int .i64 x213)), (.p (.bool b214)), (.p (.bool b215)), (.p (.int .u32 x216)), (.p (.int .i64 x217.Line)), (.p (.int .i64 x217.Gen)), (.ref ⟨1024000016, g⟩ 0 l218.length)]), (⟨1024000016, g⟩, .arr true 3 (l218.map r_hashindex_Entry))] (g + 1)) h (enter_of (ren_go (fun g S => [(⟨1024000011, g⟩, (keyB 9 (St.heap S ⟨0, 1⟩))), (⟨1024000012, g⟩, (keyB 10 (St.heap S ⟨0, 1⟩))), (⟨1024000013, g⟩, (keyB 20 (St.heap S ⟨0, 1⟩))), (⟨1024000014, g⟩, (keyB 21 (St.heap S ⟨0, 1⟩))), (⟨1024000015, g⟩, (keyT 0 (St.env S 6))), (⟨1024000016, g⟩, (keyB 15 (St.heap S (keyT 0 (St.env S 6)))))]) fun g S => [])) ?_
    rintro g ⟨x186, x187, x188, x189, x190, x191, l192, l193, l194, l195, x196, b197, b198, b199, b200, b201, b202, x203, l204, l205, x206, x207, x208, x209, x210, b211, x212, x213, b214, b215, x216, x217, l218, x219⟩ s1 h hd1
    rw [btree_run_descend_L1] at h
    try dsimp only
    refine swp_block ?_
    refine go_seq ?_
    refine swp_block ?_
    refine seq_reg rfl (fun K hK => ?_)
    refine bsplit h (fun hb220 h => ?_) (fun hb220 h => ?_)
    ·simp -implicitDefEqProofs +decide only [go_sem, Nat.reduceAdd, Int.reduceToNat, hb220]
     refine hK _ ?_
     refine if_go ?_
     refine go_seq ?_
     refine cut1 (Joins (btree_run_descend_J1 x219 x186 x187 x188 x189 x190 x191 l192 l193 l194 l195 x196 b197 b198 b199 b202 x203 l204 l205 x206 x207 x208 x209 x210 b211 x212 x213 b214 b215 x216 x217 l218 b200) (fun g b222 => stL [(0, (.c (.ptr ⟨0, 1⟩ 0 0))), (1, (.c (.p (.int .i64 a1)))), (2, (.c (.p (.int .u32 a2)))), (6, (.c (.ptr ⟨1024000021, g⟩ 0 0))), (9, (.c (.p (.int .i64 (IntKind.i64.wrap (v1.1.Node.Level + 1)))))), (10, (.c (.p (.int .i64 x219)))), (11, (.c (.ptr ⟨1024000023, g⟩ 0 0)))] [(⟨0, 1⟩, .box true [(.p (.int .i64 x186)), (.p (.int .u32 x187)), (.p (.int .u32 x188)), (.p (.int .i64 x189.Line)), (.p (.int .i64 x189.Gen)), (.p (.int .i64 x190)), (.p (.int .i64 x191)), (.p (.rows (l192.map r_api_Page))), (.p (.rows (l193.map r_api_Page))), (.ref ⟨1024000017, g⟩ 0 l194.length), (.ref ⟨1024000018, g⟩ 0 l195.length), (.p (.int .i64 x196)), (.p (.bool b197)), (.p (.bool b198)), (.p (.bool b199)), (.p (.bool b200)), (.p (.bool b222)), (.p (.bool b202)), (.p (.int .i64 x203.Line)), (.p (.int .i64 x203.Gen)), (.ref ⟨1024000019, g⟩ 0 l204.length), (.ref ⟨1024000020, g⟩ 0 l205.length), (.p (.int .i64 (IntKind.i64.wrap (x206 + 1)))), (.p (.int .i64 x207)), (.p (.int .i64 x208)), (.p (.int .i64 x209.Line)), (.p (.int .u64 x209.Head)), (.p (.int .u64 x209.Data.a0)), (.p (.int .u64 x209.Data.a1)), (.p (.int .u64 x209.Data.a2)), (.p (.int .u64 x209.Data.a3)), (.p (.int .u64 x209.Data.a4)), (.p (.int .u64 x209.Data.a5)), (.p (.int .u64 x209.Data.a6)), (.p (.int .i64 x210.Line)), (.p (.int .i64 x210.Gen)), (.p (.bool b211))]), (⟨1024000017, g⟩, .arr true 1 (l194.map r_i64)), (⟨1024000018, g⟩, .arr true 9 (l195.map r_api_Page)), (⟨1024000019, g⟩, .arr true 3 (l204.map r_hashindex_Entry)), (⟨1024000020, g⟩, .arr true 1 (l205.map r_i64)), (⟨1024000021, g⟩, .box true [(.p (.int .i64 x212.Line)), (.p (.int .u64 x212.Head)), (.p (.int .u64 x212.Data.a0)), (.p (.int .u64 x212.Data.a1)), (.p (.int .u64 x212.Data.a2)), (.p (.int .u64 x212.Data.a3)), (.p (.int .u64 x212.Data.a4)), (.p (.int .u64 x212.Data.a5)), (.p (.int .u64 x212.Data.a6)), (.p (.int .i64 x213)), (.p (.bool b214)), (.p (.bool b215)), (.p (.int .u32 x216)), (.p (.int .i64 x217.Line)), (.p (.int .i64 x217.Gen)), (.ref ⟨1024000022, g⟩ 0 l218.length)]), (⟨1024000022, g⟩, .arr true 3 (l218.map r_hashindex_Entry)), (⟨1024000023, g⟩, .box true [(.p (.int .i64 x213)), (.p (.bool b214)), (.p (.bool b215)), (.p (.int .u32 x216)), (.p (.int .i64 x217.Line)), (.p (.int .i64 x217.Gen)), (.ref ⟨1024000022, g⟩ 0 l218.length)])] (g + 1)) s1) ?_ (fun hj1 => ?_)
     ·refine join_of ?_
      rintro g b222 h
      rw [btree_run_descend_J1] at h
      try dsimp only
      refine cut1 (Joins (btree_run_descend_J2 x219 x186 x187 x188 x189 x190 x191 l192 l193 l194 l195 x196 b197 b198 b199 b222 b202 x203 l204 l205 x206 x207 x208 x209 x210 b211 x212 x213 b214 b215 x216 x217 l218) (fun g b224 => stL [(0, (.c (.ptr ⟨0, 1⟩ 0 0))), (1, (.c (.p (.int .i64 a1)))), (2, (.c (.p (.int .u32 a2)))), (6, (.c (.ptr ⟨1024000028, g⟩ 0 0))), (9, (.c (.p (.int .i64 (IntKind.i64.wrap (v1.1.Node.Level + 1)))))), (10, (.c (.p (.int .i64 x219)))), (11, (.c (.ptr ⟨1024000030, g⟩ 0 0)))] [(⟨0, 1⟩, .box true [(.p (.int .i64 x186)), (.p (.int .u32 x187)), (.p (.int .u32 x188)), (.p (.int .i64 x189.Line)), (.p (.int .i64 x189.Gen)), (.p (.int .i64 x190)), (.p (.int .i64 x191)), (.p (.rows (l192.map r_api_Page))), (.p (.rows (l193.map r_api_Page))), (.ref ⟨1024000024, g⟩ 0 l194.length), (.ref ⟨1024000025, g⟩ 0 l195.length), (.p (.int .i64 x196)), (.p (.bool b197)), (.p (.bool b198)), (.p (.bool b199)), (.p (.bool b224)), (.p (.bool b222)), (.p (.bool b202)), (.p (.int .i64 x203.Line)), (.p (.int .i64 x203.Gen)), (.ref ⟨1024000026, g⟩ 0 l204.length), (.ref ⟨1024000027, g⟩ 0 l205.length), (.p (.int .i64 (IntKind.i64.wrap (x206 + 1)))), (.p (.int .i64 x207)), (.p (.int .i64 x208)), (.p (.int .i64 x209.Line)), (.p (.int .u64 x209.Head)), (.p (.int .u64 x209.Data.a0)), (.p (.int .u64 x209.Data.a1)), (.p (.int .u64 x209.Data.a2)), (.p (.int .u64 x209.Data.a3)), (.p (.int .u64 x209.Data.a4)), (.p (.int .u64 x209.Data.a5)), (.p (.int .u64 x209.Data.a6)), (.p (.int .i64 x210.Line)), (.p (.int .i64 x210.Gen)), (.p (.bool b211))]), (⟨1024000024, g⟩, .arr true 1 (l194.map r_i64)), (⟨1024000025, g⟩, .arr true 9 (l195.map r_api_Page)), (⟨1024000026, g⟩, .arr true 3 (l204.map r_hashindex_Entry)), (⟨1024000027, g⟩, .arr true 1 (l205.map r_i64)), (⟨1024000028, g⟩, .box true [(.p (.int .i64 x212.Line)), (.p (.int .u64 x212.Head)), (.p (.int .u64 x212.Data.a0)), (.p (.int .u64 x212.Data.a1)), (.p (.int .u64 x212.Data.a2)), (.p (.int .u64 x212.Data.a3)), (.p (.int .u64 x212.Data.a4)), (.p (.int .u64 x212.Data.a5)), (.p (.int .u64 x212.Data.a6)), (.p (.int .i64 x213)), (.p (.bool b214)), (.p (.bool b215)), (.p (.int .u32 x216)), (.p (.int .i64 x217.Line)), (.p (.int .i64 x217.Gen)), (.ref ⟨1024000029, g⟩ 0 l218.length)]), (⟨1024000029, g⟩, .arr true 3 (l218.map r_hashindex_Entry)), (⟨1024000030, g⟩, .box true [(.p (.int .i64 x213)), (.p (.bool b214)), (.p (.bool b215)), (.p (.int .u32 x216)), (.p (.int .i64 x217.Line)), (.p (.int .i64 x217.Gen)), (.ref ⟨1024000029, g⟩ 0 l218.length)])] (g + 1)) s1) ?_ (fun hj2 => ?_)
      ·refine join_of ?_
       rintro g b224 h
       rw [btree_run_descend_J2] at h
       try dsimp only
       refine swp_seq ?_
       refine go_seq ?_
       refine go_seq ?_
       refine bsplit h (fun hb227 h => ?_) (fun hb227 h => ?_)
       ·refine if_go ?_
        refine seq_drw rfl (fun K hK => ?_)
        refine bind_of h (fun v228 hv228 h => ?_)
        simp -implicitDefEqProofs +decide only [go_sem, Nat.reduceAdd, Int.reduceToNat, hb220, hb227]
        refine call_nil [0, 0, 1] true (btree_run_fail_ok (cG G) hG0 _ _ _ _ hv228) ?_
        simp -implicitDefEqProofs +decide only [go_sem, Nat.reduceAdd, Int.reduceToNat, hb220, hb227]
        refine draw_go (by kernel_rfl) ?_
        refine hK _ ?_
        refine swp_ret ?_
        with_reducible repeat first|apply nn|apply nb|apply nr|apply nc|apply ne|apply nq|apply nx rfl
        obtain ⟨h, hs1⟩ := exit_of h hd1
        refine ⟨hs1, ?_⟩
        with_reducible repeat first|apply nn|apply nb|apply nr|apply nc|apply ne|apply nq|apply nx rfl
        obtain rfl := some_eq h
        exact rt
       ·refine el_go ?_
        refine swp_skip ?_
        with_reducible repeat first|apply nn|apply nb|apply nr|apply nc|apply ne|apply nq|apply nx rfl
        refine seq_reg rfl (fun K hK => ?_)
        refine bind_of h (fun v229 hv229 h => ?_)
        simp -implicitDefEqProofs +decide only [go_sem, Nat.reduceAdd, Int.reduceToNat, hb220, hb227]
        refine call_go [0, 0] true (btree_run_neighbour_ok (cG G) hG0 _ _ _ hv229) ?_
        simp -implicitDefEqProofs +decide only [go_sem, Nat.reduceAdd, Int.reduceToNat, hb220, hb227]
        refine hK _ ?_
        refine go_seq ?_
        refine bsplit h (fun hb230 h => ?_) (fun hb230 h => ?_)
        ·refine if_go ?_
         refine go_seq ?_
         refine swp_ret ?_
         with_reducible repeat first|apply nn|apply nb|apply nr|apply nc|apply ne|apply nq|apply nx rfl
         obtain ⟨h, hs1⟩ := exit_of h hd1
         refine ⟨hs1, ?_⟩
         with_reducible repeat first|apply nn|apply nb|apply nr|apply nc|apply ne|apply nq|apply nx rfl
         obtain rfl := some_eq h
         exact rt
        ·refine el_go ?_
         refine swp_skip ?_
         with_reducible repeat first|apply nn|apply nb|apply nr|apply nc|apply ne|apply nq|apply nx rfl
         exact back_of h (ren_go (fun g S => [(⟨1024000011, g⟩, (keyB 9 (St.heap S ⟨0, 1⟩))), (⟨1024000012, g⟩, (keyB 10 (St.heap S ⟨0, 1⟩))), (⟨1024000013, g⟩, (keyB 20 (St.heap S ⟨0, 1⟩))), (⟨1024000014, g⟩, (keyB 21 (St.heap S ⟨0, 1⟩))), (⟨1024000015, g⟩, (keyT 0 (St.env S 6))), (⟨1024000016, g⟩, (keyB 15 (St.heap S (keyT 0 (St.env S 6)))))]) fun g S => [])
      refine seq_reg rfl (fun K hK => ?_)
      rcases hb265 : b200 with _ | _
      ·replace h : btree_run_descend_J2 x219 x186 x187 x188 x189 x190 x191 l192 l193 l194 l195 x196 b197 b198 b199 b222 b202 x203 l204 l205 x206 x207 x208 x209 x210 b211 x212 x213 b214 b215 x216 x217 l218 false = some s1 := by first | exact h | (rw [or_f hb265] at h; exact h)
       simp -implicitDefEqProofs +decide only [go_sem, Nat.reduceAdd, Int.reduceToNat, hb220, hb265]
       refine hK _ ?_
       exact jump_of hj2 h (ren_go (fun g S => [(⟨1024000024, g⟩, (keyB 9 (St.heap S ⟨0, 1⟩))), (⟨1024000025, g⟩, (keyB 10 (St.heap S ⟨0, 1⟩))), (⟨1024000026, g⟩, (keyB 20 (St.heap S ⟨0, 1⟩))), (⟨1024000027, g⟩, (keyB 21 (St.heap S ⟨0, 1⟩))), (⟨1024000028, g⟩, (keyT 0 (St.env S 6))), (⟨1024000029, g⟩, (keyB 15 (St.heap S (keyT 0 (St.env S 6))))), (⟨1024000030, g⟩, (keyT 0 (St.env S 11)))]) fun g S => [])
      ·replace h : btree_run_descend_J2 x219 x186 x187 x188 x189 x190 x191 l192 l193 l194 l195 x196 b197 b198 b199 b222 b202 x203 l204 l205 x206 x207 x208 x209 x210 b211 x212 x213 b214 b215 x216 x217 l218 true = some s1 := by first | exact h | (rw [or_t hb265] at h; exact h)
       simp -implicitDefEqProofs +decide only [go_sem, Nat.reduceAdd, Int.reduceToNat, hb220, hb265]
       refine hK _ ?_
       exact jump_of hj2 h (ren_go (fun g S => [(⟨1024000024, g⟩, (keyB 9 (St.heap S ⟨0, 1⟩))), (⟨1024000025, g⟩, (keyB 10 (St.heap S ⟨0, 1⟩))), (⟨1024000026, g⟩, (keyB 20 (St.heap S ⟨0, 1⟩))), (⟨1024000027, g⟩, (keyB 21 (St.heap S ⟨0, 1⟩))), (⟨1024000028, g⟩, (keyT 0 (St.env S 6))), (⟨1024000029, g⟩, (keyB 15 (St.heap S (keyT 0 (St.env S 6))))), (⟨1024000030, g⟩, (keyT 0 (St.env S 11)))]) fun g S => [])
     refine seq_reg rfl (fun K hK => ?_)
     rcases hb268 : b201 with _ | _
     ·replace h : btree_run_descend_J1 x219 x186 x187 x188 x189 x190 x191 l192 l193 l194 l195 x196 b197 b198 b199 b202 x203 l204 l205 x206 x207 x208 x209 x210 b211 x212 x213 b214 b215 x216 x217 l218 b200 b215 = some s1 := by first | exact h | (rw [or_f hb268] at h; exact h)
      simp -implicitDefEqProofs +decide only [go_sem, Nat.reduceAdd, Int.reduceToNat, hb220, hb268]
      refine hK _ ?_
      exact jump_of hj1 h (ren_go (fun g S => [(⟨1024000017, g⟩, (keyB 9 (St.heap S ⟨0, 1⟩))), (⟨1024000018, g⟩, (keyB 10 (St.heap S ⟨0, 1⟩))), (⟨1024000019, g⟩, (keyB 20 (St.heap S ⟨0, 1⟩))), (⟨1024000020, g⟩, (keyB 21 (St.heap S ⟨0, 1⟩))), (⟨1024000021, g⟩, (keyT 0 (St.env S 6))), (⟨1024000022, g⟩, (keyB 15 (St.heap S (keyT 0 (St.env S 6))))), (⟨1024000023, g⟩, (keyT 0 (St.env S 11)))]) fun g S => [])
     ·replace h : btree_run_descend_J1 x219 x186 x187 x188 x189 x190 x191 l192 l193 l194 l195 x196 b197 b198 b199 b202 x203 l204 l205 x206 x207 x208 x209 x210 b211 x212 x213 b214 b215 x216 x217 l218 b200 true = some s1 := by first | exact h | (rw [or_t hb268] at h; exact h)
      simp -implicitDefEqProofs +decide only [go_sem, Nat.reduceAdd, Int.reduceToNat, hb220, hb268]
      refine hK _ ?_
      exact jump_of hj1 h (ren_go (fun g S => [(⟨1024000017, g⟩, (keyB 9 (St.heap S ⟨0, 1⟩))), (⟨1024000018, g⟩, (keyB 10 (St.heap S ⟨0, 1⟩))), (⟨1024000019, g⟩, (keyB 20 (St.heap S ⟨0, 1⟩))), (⟨1024000020, g⟩, (keyB 21 (St.heap S ⟨0, 1⟩))), (⟨1024000021, g⟩, (keyT 0 (St.env S 6))), (⟨1024000022, g⟩, (keyB 15 (St.heap S (keyT 0 (St.env S 6))))), (⟨1024000023, g⟩, (keyT 0 (St.env S 11)))]) fun g S => [])
    ·simp -implicitDefEqProofs +decide only [go_sem, Nat.reduceAdd, Int.reduceToNat, hb220]
     refine hK _ ?_
     refine bsplit h (fun hb271 h => ?_) (fun hb271 h => ?_)
     ·refine if_go ?_
      refine go_seq ?_
      refine cut1 (Joins (btree_run_descend_J3 x219 x186 x187 x188 x189 x190 x191 l192 l193 l194 l195 x196 b197 b198 b199 b202 x203 l204 l205 x206 x207 x208 x209 x210 b211 x212 x213 b214 b215 x216 x217 l218) (fun g b273 => stL [(0, (.c (.ptr ⟨0, 1⟩ 0 0))), (1, (.c (.p (.int .i64 a1)))), (2, (.c (.p (.int .u32 a2)))), (6, (.c (.ptr ⟨1024000035, g⟩ 0 0))), (9, (.c (.p (.int .i64 (IntKind.i64.wrap (v1.1.Node.Level + 1)))))), (10, (.c (.p (.int .i64 x219)))), (11, (.c (.ptr ⟨1024000037, g⟩ 0 0)))] [(⟨0, 1⟩, .box true [(.p (.int .i64 x186)), (.p (.int .u32 x187)), (.p (.int .u32 x188)), (.p (.int .i64 x189.Line)), (.p (.int .i64 x189.Gen)), (.p (.int .i64 x190)), (.p (.int .i64 x191)), (.p (.rows (l192.map r_api_Page))), (.p (.rows (l193.map r_api_Page))), (.ref ⟨1024000031, g⟩ 0 l194.length), (.ref ⟨1024000032, g⟩ 0 l195.length), (.p (.int .i64 x196)), (.p (.bool b197)), (.p (.bool b198)), (.p (.bool b199)), (.p (.bool b200)), (.p (.bool b273)), (.p (.bool b202)), (.p (.int .i64 x203.Line)), (.p (.int .i64 x203.Gen)), (.ref ⟨1024000033, g⟩ 0 l204.length), (.ref ⟨1024000034, g⟩ 0 l205.length), (.p (.int .i64 (IntKind.i64.wrap (x206 + 1)))), (.p (.int .i64 x207)), (.p (.int .i64 x208)), (.p (.int .i64 x209.Line)), (.p (.int .u64 x209.Head)), (.p (.int .u64 x209.Data.a0)), (.p (.int .u64 x209.Data.a1)), (.p (.int .u64 x209.Data.a2)), (.p (.int .u64 x209.Data.a3)), (.p (.int .u64 x209.Data.a4)), (.p (.int .u64 x209.Data.a5)), (.p (.int .u64 x209.Data.a6)), (.p (.int .i64 x210.Line)), (.p (.int .i64 x210.Gen)), (.p (.bool b211))]), (⟨1024000031, g⟩, .arr true 1 (l194.map r_i64)), (⟨1024000032, g⟩, .arr true 9 (l195.map r_api_Page)), (⟨1024000033, g⟩, .arr true 3 (l204.map r_hashindex_Entry)), (⟨1024000034, g⟩, .arr true 1 (l205.map r_i64)), (⟨1024000035, g⟩, .box true [(.p (.int .i64 x212.Line)), (.p (.int .u64 x212.Head)), (.p (.int .u64 x212.Data.a0)), (.p (.int .u64 x212.Data.a1)), (.p (.int .u64 x212.Data.a2)), (.p (.int .u64 x212.Data.a3)), (.p (.int .u64 x212.Data.a4)), (.p (.int .u64 x212.Data.a5)), (.p (.int .u64 x212.Data.a6)), (.p (.int .i64 x213)), (.p (.bool b214)), (.p (.bool b215)), (.p (.int .u32 x216)), (.p (.int .i64 x217.Line)), (.p (.int .i64 x217.Gen)), (.ref ⟨1024000036, g⟩ 0 l218.length)]), (⟨1024000036, g⟩, .arr true 3 (l218.map r_hashindex_Entry)), (⟨1024000037, g⟩, .box true [(.p (.int .i64 x213)), (.p (.bool b214)), (.p (.bool b215)), (.p (.int .u32 x216)), (.p (.int .i64 x217.Line)), (.p (.int .i64 x217.Gen)), (.ref ⟨1024000036, g⟩ 0 l218.length)])] (g + 1)) s1) ?_ (fun hj3 => ?_)
      ·refine join_of ?_
       rintro g b273 h
       rw [btree_run_descend_J3] at h
       try dsimp only
       refine cut1 (Joins (btree_run_descend_J4 x219 x186 x187 x188 x189 x190 x191 l192 l193 l194 l195 x196 b197 b198 b199 b273 b202 x203 l204 l205 x206 x207 x208 x209 x210 b211 x212 x213 b214 b215 x216 x217 l218) (fun g _ => stL [(0, (.c (.ptr ⟨0, 1⟩ 0 0))), (1, (.c (.p (.int .i64 a1)))), (2, (.c (.p (.int .u32 a2)))), (6, (.c (.ptr ⟨1024000042, g⟩ 0 0))), (9, (.c (.p (.int .i64 (IntKind.i64.wrap (v1.1.Node.Level + 1)))))), (10, (.c (.p (.int .i64 x219)))), (11, (.c (.ptr ⟨1024000044, g⟩ 0 0)))] [(⟨0, 1⟩, .box true [(.p (.int .i64 x186)), (.p (.int .u32 x187)), (.p (.int .u32 x188)), (.p (.int .i64 x189.Line)), (.p (.int .i64 x189.Gen)), (.p (.int .i64 x190)), (.p (.int .i64 x191)), (.p (.rows (l192.map r_api_Page))), (.p (.rows (l193.map r_api_Page))), (.ref ⟨1024000038, g⟩ 0 l194.length), (.ref ⟨1024000039, g⟩ 0 l195.length), (.p (.int .i64 x196)), (.p (.bool b197)), (.p (.bool b198)), (.p (.bool b199)), (.p (.bool true)), (.p (.bool b273)), (.p (.bool b202)), (.p (.int .i64 x203.Line)), (.p (.int .i64 x203.Gen)), (.ref ⟨1024000040, g⟩ 0 l204.length), (.ref ⟨1024000041, g⟩ 0 l205.length), (.p (.int .i64 (IntKind.i64.wrap (x206 + 1)))), (.p (.int .i64 x207)), (.p (.int .i64 x208)), (.p (.int .i64 x209.Line)), (.p (.int .u64 x209.Head)), (.p (.int .u64 x209.Data.a0)), (.p (.int .u64 x209.Data.a1)), (.p (.int .u64 x209.Data.a2)), (.p (.int .u64 x209.Data.a3)), (.p (.int .u64 x209.Data.a4)), (.p (.int .u64 x209.Data.a5)), (.p (.int .u64 x209.Data.a6)), (.p (.int .i64 x210.Line)), (.p (.int .i64 x210.Gen)), (.p (.bool b211))]), (⟨1024000038, g⟩, .arr true 1 (l194.map r_i64)), (⟨1024000039, g⟩, .arr true 9 (l195.map r_api_Page)), (⟨1024000040, g⟩, .arr true 3 (l204.map r_hashindex_Entry)), (⟨1024000041, g⟩, .arr true 1 (l205.map r_i64)), (⟨1024000042, g⟩, .box true [(.p (.int .i64 x212.Line)), (.p (.int .u64 x212.Head)), (.p (.int .u64 x212.Data.a0)), (.p (.int .u64 x212.Data.a1)), (.p (.int .u64 x212.Data.a2)), (.p (.int .u64 x212.Data.a3)), (.p (.int .u64 x212.Data.a4)), (.p (.int .u64 x212.Data.a5)), (.p (.int .u64 x212.Data.a6)), (.p (.int .i64 x213)), (.p (.bool b214)), (.p (.bool b215)), (.p (.int .u32 x216)), (.p (.int .i64 x217.Line)), (.p (.int .i64 x217.Gen)), (.ref ⟨1024000043, g⟩ 0 l218.length)]), (⟨1024000043, g⟩, .arr true 3 (l218.map r_hashindex_Entry)), (⟨1024000044, g⟩, .box true [(.p (.int .i64 x213)), (.p (.bool b214)), (.p (.bool b215)), (.p (.int .u32 x216)), (.p (.int .i64 x217.Line)), (.p (.int .i64 x217.Gen)), (.ref ⟨1024000043, g⟩ 0 l218.length)])] (g + 1)) s1) ?_ (fun hj4 => ?_)
       ·refine join_of ?_
        rintro g ⟨⟩ h
        rw [btree_run_descend_J4] at h
        try dsimp only
        refine swp_seq ?_
        refine go_seq ?_
        refine go_seq ?_
        refine bsplit h (fun hb277 h => ?_) (fun hb277 h => ?_)
        ·refine if_go ?_
         refine seq_drw rfl (fun K hK => ?_)
         refine bind_of h (fun v278 hv278 h => ?_)
         simp -implicitDefEqProofs +decide only [go_sem, Nat.reduceAdd, Int.reduceToNat, hb220, hb271, hb277]
         refine call_nil [0, 0, 1] true (btree_run_fail_ok (cG G) hG0 _ _ _ _ hv278) ?_
         simp -implicitDefEqProofs +decide only [go_sem, Nat.reduceAdd, Int.reduceToNat, hb220, hb271, hb277]
         refine draw_go (by kernel_rfl) ?_
         refine hK _ ?_
         refine swp_ret ?_
         with_reducible repeat first|apply nn|apply nb|apply nr|apply nc|apply ne|apply nq|apply nx rfl
         obtain ⟨h, hs1⟩ := exit_of h hd1
         refine ⟨hs1, ?_⟩
         with_reducible repeat first|apply nn|apply nb|apply nr|apply nc|apply ne|apply nq|apply nx rfl
         obtain rfl := some_eq h
         exact rt
        ·refine el_go ?_
         refine swp_skip ?_
         with_reducible repeat first|apply nn|apply nb|apply nr|apply nc|apply ne|apply nq|apply nx rfl
         refine seq_reg rfl (fun K hK => ?_)
         refine bind_of h (fun v279 hv279 h => ?_)
         simp -implicitDefEqProofs +decide only [go_sem, Nat.reduceAdd, Int.reduceToNat, hb220, hb271, hb277]
         refine call_go [0, 0] true (btree_run_neighbour_ok (cG G) hG0 _ _ _ hv279) ?_
         simp -implicitDefEqProofs +decide only [go_sem, Nat.reduceAdd, Int.reduceToNat, hb220, hb271, hb277]
         refine hK _ ?_
         refine go_seq ?_
         refine bsplit h (fun hb280 h => ?_) (fun hb280 h => ?_)
         ·refine if_go ?_
          refine go_seq ?_
          refine swp_ret ?_
          with_reducible repeat first|apply nn|apply nb|apply nr|apply nc|apply ne|apply nq|apply nx rfl
          obtain ⟨h, hs1⟩ := exit_of h hd1
          refine ⟨hs1, ?_⟩
          with_reducible repeat first|apply nn|apply nb|apply nr|apply nc|apply ne|apply nq|apply nx rfl
          obtain rfl := some_eq h
          exact rt
         ·refine el_go ?_
          refine swp_skip ?_
          with_reducible repeat first|apply nn|apply nb|apply nr|apply nc|apply ne|apply nq|apply nx rfl
          exact back_of h (ren_go (fun g S => [(⟨1024000011, g⟩, (keyB 9 (St.heap S ⟨0, 1⟩))), (⟨1024000012, g⟩, (keyB 10 (St.heap S ⟨0, 1⟩))), (⟨1024000013, g⟩, (keyB 20 (St.heap S ⟨0, 1⟩))), (⟨1024000014, g⟩, (keyB 21 (St.heap S ⟨0, 1⟩))), (⟨1024000015, g⟩, (keyT 0 (St.env S 6))), (⟨1024000016, g⟩, (keyB 15 (St.heap S (keyT 0 (St.env S 6)))))]) fun g S => [])
       refine seq_reg rfl (fun K hK => ?_)
       rcases hb315 : b200 with _ | _
       ·simp -implicitDefEqProofs +decide only [go_sem, Nat.reduceAdd, Int.reduceToNat, hb220, hb271, hb315]
        refine hK _ ?_
        exact jump_of hj4 h (ren_go (fun g S => [(⟨1024000038, g⟩, (keyB 9 (St.heap S ⟨0, 1⟩))), (⟨1024000039, g⟩, (keyB 10 (St.heap S ⟨0, 1⟩))), (⟨1024000040, g⟩, (keyB 20 (St.heap S ⟨0, 1⟩))), (⟨1024000041, g⟩, (keyB 21 (St.heap S ⟨0, 1⟩))), (⟨1024000042, g⟩, (keyT 0 (St.env S 6))), (⟨1024000043, g⟩, (keyB 15 (St.heap S (keyT 0 (St.env S 6))))), (⟨1024000044, g⟩, (keyT 0 (St.env S 11)))]) fun g S => [])
       ·simp -implicitDefEqProofs +decide only [go_sem, Nat.reduceAdd, Int.reduceToNat, hb220, hb271, hb315]
        refine hK _ ?_
        exact jump_of hj4 h (ren_go (fun g S => [(⟨1024000038, g⟩, (keyB 9 (St.heap S ⟨0, 1⟩))), (⟨1024000039, g⟩, (keyB 10 (St.heap S ⟨0, 1⟩))), (⟨1024000040, g⟩, (keyB 20 (St.heap S ⟨0, 1⟩))), (⟨1024000041, g⟩, (keyB 21 (St.heap S ⟨0, 1⟩))), (⟨1024000042, g⟩, (keyT 0 (St.env S 6))), (⟨1024000043, g⟩, (keyB 15 (St.heap S (keyT 0 (St.env S 6))))), (⟨1024000044, g⟩, (keyT 0 (St.env S 11)))]) fun g S => [])
      refine seq_reg rfl (fun K hK => ?_)
      rcases hb316 : b201 with _ | _
      ·replace h : btree_run_descend_J3 x219 x186 x187 x188 x189 x190 x191 l192 l193 l194 l195 x196 b197 b198 b199 b202 x203 l204 l205 x206 x207 x208 x209 x210 b211 x212 x213 b214 b215 x216 x217 l218 b215 = some s1 := by first | exact h | (rw [or_f hb316] at h; exact h)
       simp -implicitDefEqProofs +decide only [go_sem, Nat.reduceAdd, Int.reduceToNat, hb220, hb271, hb316]
       refine hK _ ?_
       exact jump_of hj3 h (ren_go (fun g S => [(⟨1024000031, g⟩, (keyB 9 (St.heap S ⟨0, 1⟩))), (⟨1024000032, g⟩, (keyB 10 (St.heap S ⟨0, 1⟩))), (⟨1024000033, g⟩, (keyB 20 (St.heap S ⟨0, 1⟩))), (⟨1024000034, g⟩, (keyB 21 (St.heap S ⟨0, 1⟩))), (⟨1024000035, g⟩, (keyT 0 (St.env S 6))), (⟨1024000036, g⟩, (keyB 15 (St.heap S (keyT 0 (St.env S 6))))), (⟨1024000037, g⟩, (keyT 0 (St.env S 11)))]) fun g S => [])
      ·replace h : btree_run_descend_J3 x219 x186 x187 x188 x189 x190 x191 l192 l193 l194 l195 x196 b197 b198 b199 b202 x203 l204 l205 x206 x207 x208 x209 x210 b211 x212 x213 b214 b215 x216 x217 l218 true = some s1 := by first | exact h | (rw [or_t hb316] at h; exact h)
       simp -implicitDefEqProofs +decide only [go_sem, Nat.reduceAdd, Int.reduceToNat, hb220, hb271, hb316]
       refine hK _ ?_
       exact jump_of hj3 h (ren_go (fun g S => [(⟨1024000031, g⟩, (keyB 9 (St.heap S ⟨0, 1⟩))), (⟨1024000032, g⟩, (keyB 10 (St.heap S ⟨0, 1⟩))), (⟨1024000033, g⟩, (keyB 20 (St.heap S ⟨0, 1⟩))), (⟨1024000034, g⟩, (keyB 21 (St.heap S ⟨0, 1⟩))), (⟨1024000035, g⟩, (keyT 0 (St.env S 6))), (⟨1024000036, g⟩, (keyB 15 (St.heap S (keyT 0 (St.env S 6))))), (⟨1024000037, g⟩, (keyT 0 (St.env S 11)))]) fun g S => [])
     ·refine el_go ?_
      refine go_seq ?_
      refine bsplit h (fun hb319 h => ?_) (fun hb319 h => ?_)
      ·refine if_go ?_
       refine go_seq ?_
       refine swp_seq ?_
       refine seq_reg rfl (fun K hK => ?_)
       refine bind_of h (fun v320 hv320 h => ?_)
       simp -implicitDefEqProofs +decide only [go_sem, Nat.reduceAdd, Int.reduceToNat, hb220, hb271, hb319]
       refine call_go [0] false (pointer_Locked_ok (cG G) hG0 _ _ hv320) ?_
       simp -implicitDefEqProofs +decide only [go_sem, Nat.reduceAdd, Int.reduceToNat, hb220, hb271, hb319]
       refine hK _ ?_
       refine bsplit h (fun hb321 h => ?_) (fun hb321 h => ?_)
       ·refine if_go ?_
        refine seq_drw rfl (fun K hK => ?_)
        refine bind_of h (fun v322 hv322 h => ?_)
        simp -implicitDefEqProofs +decide only [go_sem, Nat.reduceAdd, Int.reduceToNat, hb220, hb271, hb319, hb321]
        refine call_nil [0, 0, 1] true (btree_run_fail_ok (cG G) hG0 _ _ _ _ hv322) ?_
        simp -implicitDefEqProofs +decide only [go_sem, Nat.reduceAdd, Int.reduceToNat, hb220, hb271, hb319, hb321]
        refine draw_go (by kernel_rfl) ?_
        refine hK _ ?_
        refine swp_ret ?_
        with_reducible repeat first|apply nn|apply nb|apply nr|apply nc|apply ne|apply nq|apply nx rfl
        obtain ⟨h, hs1⟩ := exit_of h hd1
        refine ⟨hs1, ?_⟩
        with_reducible repeat first|apply nn|apply nb|apply nr|apply nc|apply ne|apply nq|apply nx rfl
        obtain rfl := some_eq h
        exact rt
       ·refine el_go ?_
        refine swp_skip ?_
        with_reducible repeat first|apply nn|apply nb|apply nr|apply nc|apply ne|apply nq|apply nx rfl
        refine go_seq ?_
        refine swp_ret ?_
        with_reducible repeat first|apply nn|apply nb|apply nr|apply nc|apply ne|apply nq|apply nx rfl
        obtain ⟨h, hs1⟩ := exit_of h hd1
        refine ⟨hs1, ?_⟩
        with_reducible repeat first|apply nn|apply nb|apply nr|apply nc|apply ne|apply nq|apply nx rfl
        obtain rfl := some_eq h
        exact rt
      ·refine el_go ?_
       refine swp_seq ?_
       refine seq_drw rfl (fun K hK => ?_)
       refine bind_of h (fun v327 hv327 h => ?_)
       simp -implicitDefEqProofs +decide only [go_sem, Nat.reduceAdd, Int.reduceToNat, hb220, hb271, hb319]
       refine call_go [0, 0] false (btree_Node_child_ok (cG G) hG0 _ _ _ hv327) ?_
       refine bind_of h (fun e328 he328 h => ?_)
       obtain ⟨he328_0, he328_1, he328_2⟩ := idx_some he328
       refine bind_of h (fun v329 hv329 h => ?_)
       simp -implicitDefEqProofs +decide only [go_sem, Nat.reduceAdd, Int.reduceToNat, he328_0, he328_1, he328_2, hb220, hb271, hb319]
       refine call_go [0, 0, 0] true (btree_run_look_ok (cG G) hG0 _ _ _ hv329) ?_
       simp -implicitDefEqProofs +decide only [go_sem, Nat.reduceAdd, Int.reduceToNat, hb220, hb271, hb319]
       refine draw_go (by kernel_rfl) ?_
       refine hK _ ?_
       refine go_seq ?_
       refine bsplit h (fun hb330 h => ?_) (fun hb330 h => ?_)
       ·refine if_go ?_
        refine go_seq ?_
        refine swp_ret ?_
        with_reducible repeat first|apply nn|apply nb|apply nr|apply nc|apply ne|apply nq|apply nx rfl
        obtain ⟨h, hs1⟩ := exit_of h hd1
        refine ⟨hs1, ?_⟩
        with_reducible repeat first|apply nn|apply nb|apply nr|apply nc|apply ne|apply nq|apply nx rfl
        obtain rfl := some_eq h
        exact rt
       ·refine el_go ?_
        refine swp_skip ?_
        with_reducible repeat first|apply nn|apply nb|apply nr|apply nc|apply ne|apply nq|apply nx rfl
        refine go_seq ?_
        refine bsplit h (fun hb331 h => ?_) (fun hb331 h => ?_)
        ·refine if_go ?_
         refine seq_drw rfl (fun K hK => ?_)
         refine bind_of h (fun v332 hv332 h => ?_)
         simp -implicitDefEqProofs +decide only [go_sem, Nat.reduceAdd, Int.reduceToNat, hb220, hb271, hb319, hb330, hb331]
         refine call_nil [0, 0, 1] true (btree_run_fail_ok (cG G) hG0 _ _ _ _ hv332) ?_
         simp -implicitDefEqProofs +decide only [go_sem, Nat.reduceAdd, Int.reduceToNat, hb220, hb271, hb319, hb330, hb331]
         refine draw_go (by kernel_rfl) ?_
         refine hK _ ?_
         refine swp_ret ?_
         with_reducible repeat first|apply nn|apply nb|apply nr|apply nc|apply ne|apply nq|apply nx rfl
         obtain ⟨h, hs1⟩ := exit_of h hd1
         refine ⟨hs1, ?_⟩
         with_reducible repeat first|apply nn|apply nb|apply nr|apply nc|apply ne|apply nq|apply nx rfl
         obtain rfl := some_eq h
         exact rt
        ·refine el_go ?_
         refine swp_skip ?_
         with_reducible repeat first|apply nn|apply nb|apply nr|apply nc|apply ne|apply nq|apply nx rfl
         exact back_of h (ren_go (fun g S => [(⟨1024000011, g⟩, (keyB 9 (St.heap S ⟨0, 1⟩))), (⟨1024000012, g⟩, (keyB 10 (St.heap S ⟨0, 1⟩))), (⟨1024000013, g⟩, (keyB 20 (St.heap S ⟨0, 1⟩))), (⟨1024000014, g⟩, (keyB 21 (St.heap S ⟨0, 1⟩))), (⟨1024000015, g⟩, (keyT 0 (St.env S 6))), (⟨1024000016, g⟩, (keyB 15 (St.heap S (keyT 0 (St.env S 6)))))]) fun g S => [])
end Go.Sh
end
section
namespace Go.Sh
open Go.Proofs
noncomputable def btree_run_leaf (a0 : btree_run) : Option (btree_found × Bool × btree_run) :=
  (btree_run_descend a0 0 a0.Op.Key).bind fun v1 =>
  some (v1.1, v1.2.2.1, v1.2.2.2)
theorem btree_run_leaf_ok (G : Glob) (hG0 : G.glob 0 = some [(.int .i64 0), (.int .i64 0)]) (a0 : btree_run) (res : (btree_found × Bool × btree_run)) (h : btree_run_leaf a0 = some res) : Spec Tryz.prog G 85 [.io (g_rhlf a0)] (fun r ios => r = .tup [.agg (g_ggvz res.1), .cell (.p (.bool res.2.1))] ∧ ios = [.io (g_rhlf res.2.2)]) := by
  rw [btree_run_leaf] at h
  refine spec_of Tryz.mixed Tryz.func85 rfl rfl (by simp only [List.length]; decide +kernel) ?_
  refine swp_fresh (fun g => stL [(0, (.c (.ptr ⟨0, 1⟩ 0 0)))] [(⟨0, 1⟩, .box true (b_1wfs a0 ⟨1024000001, g⟩ ⟨1024000002, g⟩ ⟨1024000003, g⟩ ⟨1024000004, g⟩)), (⟨1024000001, g⟩, .arr true 1 (a0.Need.map r_i64)), (⟨1024000002, g⟩, .arr true 9 (a0.Writes.map r_api_Page)), (⟨1024000003, g⟩, .arr true 3 (a0.Out.Entries.map r_hashindex_Entry)), (⟨1024000004, g⟩, .arr true 1 (a0.Out.Check.map r_i64))] (g + 1)) (ren_go (fun g S => [(⟨1024000001, g⟩, (keyB 9 (St.heap S ⟨0, 1⟩))), (⟨1024000002, g⟩, (keyB 10 (St.heap S ⟨0, 1⟩))), (⟨1024000003, g⟩, (keyB 20 (St.heap S ⟨0, 1⟩))), (⟨1024000004, g⟩, (keyB 21 (St.heap S ⟨0, 1⟩)))]) fun g S => []) fun g => ?_
  refine go_seq ?_
  refine seq_reg rfl (fun K hK => ?_)
  refine bind_of h (fun v1 hv1 h => ?_)
  simp -implicitDefEqProofs +decide only [go_sem, Nat.reduceAdd, Int.reduceToNat]
  refine call_go [0, 0, 0] true (btree_run_descend_ok (cG G) hG0 _ _ _ _ hv1) ?_
  simp -implicitDefEqProofs +decide only [go_sem, Nat.reduceAdd, Int.reduceToNat]
  refine hK _ ?_
  refine go_seq ?_
  refine swp_ret ?_
  with_reducible repeat first|apply nn|apply nb|apply nr|apply nc|apply ne|apply nq|apply nx rfl
  obtain rfl := some_eq h
  exact rt
end Go.Sh
end
section
namespace Go.Sh
open Go.Proofs
noncomputable def btree_validRoot (a0 : pointer_Pointer) (a1 : Int) : Option Bool :=
  if ((a0.Line == 0) && (a0.Gen == 0)) = true then
    some (a1 == 0)
  else
    (pointer_Valid a0).bind fun v3 =>
    some (v3 && ((decide (a1 ≥ 0)) && (decide (a1 ≤ 8))))
theorem btree_validRoot_ok (G : Glob) (hG0 : G.glob 0 = some [(.int .i64 0), (.int .i64 0)]) (a0 : pointer_Pointer) (a1 : Int) (res : Bool) (h : btree_validRoot a0 a1 = some res) : Spec Tryz.prog G 41 [.agg [.p (.int .i64 a0.Line), .p (.int .i64 a0.Gen)], .cell (.p (.int .i64 a1))] (fun r ios => r = .cell (.p (.bool res)) ∧ ios = []) := by
  rw [btree_validRoot] at h
  refine spec_of Tryz.mixed Tryz.func41 rfl rfl (by simp only [List.length]; decide +kernel) ?_
  refine swp_fresh (fun g => stL [(0, (.agg [(.p (.int .i64 a0.Line)), (.p (.int .i64 a0.Gen))])), (1, (.c (.p (.int .i64 a1))))] [] (g + 1)) (ren_go (fun g S => []) fun g S => []) fun g => ?_
  refine go_seq ?_
  refine swp_seq ?_
  refine seq_reg rfl (fun K hK => ?_)
  simp -implicitDefEqProofs +decide only [go_sem, Nat.reduceAdd, Int.reduceToNat, hG0]
  refine hK _ ?_
  refine bsplit h (fun hb2 h => ?_) (fun hb2 h => ?_)
  ·refine if_go ?_
   refine go_seq ?_
   refine swp_ret ?_
   with_reducible repeat first|apply nn|apply nb|apply nr|apply nc|apply ne|apply nq|apply nx rfl
   obtain rfl := some_eq h
   exact rt
  ·refine el_go ?_
   refine swp_skip ?_
   with_reducible repeat first|apply nn|apply nb|apply nr|apply nc|apply ne|apply nq|apply nx rfl
   refine seq_reg rfl (fun K hK => ?_)
   refine bind_of h (fun v3 hv3 h => ?_)
   simp -implicitDefEqProofs +decide only [go_sem, Nat.reduceAdd, Int.reduceToNat, hb2]
   refine call_go [0] false (pointer_Valid_ok (cG G) hG0 _ _ hv3) ?_
   rcases hb4 : v3 with _ | _
   ·replace h : some false = some res := by first | exact h | (rw [and_f hb4] at h; exact h)
    simp -implicitDefEqProofs +decide only [go_sem, Nat.reduceAdd, Int.reduceToNat, hb2, hb4]
    refine hK _ ?_
    refine swp_ret ?_
    with_reducible repeat first|apply nn|apply nb|apply nr|apply nc|apply ne|apply nq|apply nx rfl
    obtain rfl := some_eq h
    exact rt
   ·replace h : some ((decide (a1 ≥ 0)) && (decide (a1 ≤ 8))) = some res := by first | exact h | (rw [and_t hb4] at h; exact h)
    rcases hb5 : (decide (a1 ≥ 0)) with _ | _
    ·replace h : some false = some res := by first | exact h | (rw [and_f hb5] at h; exact h)
     simp -implicitDefEqProofs +decide only [go_sem, Nat.reduceAdd, Int.reduceToNat, hb2, hb4, hb5]
     refine hK _ ?_
     refine swp_ret ?_
     with_reducible repeat first|apply nn|apply nb|apply nr|apply nc|apply ne|apply nq|apply nx rfl
     obtain rfl := some_eq h
     exact rt
    ·replace h : some (decide (a1 ≤ 8)) = some res := by first | exact h | (rw [and_t hb5] at h; exact h)
     simp -implicitDefEqProofs +decide only [go_sem, Nat.reduceAdd, Int.reduceToNat, hb2, hb4, hb5]
     refine hK _ ?_
     refine swp_ret ?_
     with_reducible repeat first|apply nn|apply nb|apply nr|apply nc|apply ne|apply nq|apply nx rfl
     obtain rfl := some_eq h
     exact rt
end Go.Sh
end
section
namespace Go.Sh
open Go.Proofs
noncomputable def btree_WriteRoot (a0 : api_Page) (a1 : pointer_Pointer) (a2 : Int) : Option (api_Page × Int) :=
  if (a0.Line != 96) = true then
    some ((⟨0, 0, (⟨0, 0, 0, 0, 0, 0, 0⟩ : (A7 Int))⟩ : api_Page), 1)
  else
    (btree_validRoot a1 a2).bind fun v5 =>
    if (!v5) = true then
      some ((⟨0, 0, (⟨0, 0, 0, 0, 0, 0, 0⟩ : (A7 Int))⟩ : api_Page), 1)
    else
      (pointer_Pack a1).bind fun v7 =>
      some ((⟨a0.Line, a0.Head, (⟨(bits .or .u64 (IntKind.u64.wrap v7) (shlV .u64 (IntKind.u64.wrap a2) 32)), a0.Data.a1, a0.Data.a2, a0.Data.a3, a0.Data.a4, a0.Data.a5, a0.Data.a6⟩ : (A7 Int))⟩ : api_Page), 0)
theorem btree_WriteRoot_ok (G : Glob) (hG0 : G.glob 0 = some [(.int .i64 0), (.int .i64 0)]) (a0 : api_Page) (a1 : pointer_Pointer) (a2 : Int) (res : (api_Page × Int)) (h : btree_WriteRoot a0 a1 a2 = some res) : Spec Tryz.prog G 17 [.agg (g_yylp a0), .agg [.p (.int .i64 a1.Line), .p (.int .i64 a1.Gen)], .cell (.p (.int .i64 a2))] (fun r ios => r = .tup [.agg (g_yylp res.1), .cell (.p (.int .i64 res.2))] ∧ ios = []) := by
  rw [btree_WriteRoot] at h
  refine spec_of Tryz.mixed Tryz.func17 rfl rfl (by simp only [List.length]; decide +kernel) ?_
  refine swp_fresh (fun g => stL [(0, (.agg (b_mq86 a0))), (1, (.agg [(.p (.int .i64 a1.Line)), (.p (.int .i64 a1.Gen))])), (2, (.c (.p (.int .i64 a2))))] [] (g + 1)) (ren_go (fun g S => []) fun g S => []) fun g => ?_
  refine go_seq ?_
  refine swp_seq ?_
  refine seq_reg rfl (fun K hK => ?_)
  refine bsplit h (fun hb4 h => ?_) (fun hb4 h => ?_)
  ·simp -implicitDefEqProofs +decide only [go_sem, Nat.reduceAdd, Int.reduceToNat, hb4]
   refine hK _ ?_
   refine if_go ?_
   refine go_seq ?_
   refine swp_ret ?_
   with_reducible repeat first|apply nn|apply nb|apply nr|apply nc|apply ne|apply nq|apply nx rfl
   obtain rfl := some_eq h
   exact rt
  ·refine bind_of h (fun v5 hv5 h => ?_)
   simp -implicitDefEqProofs +decide only [go_sem, Nat.reduceAdd, Int.reduceToNat, hb4]
   refine call_go [0, 0] false (btree_validRoot_ok (cG G) hG0 _ _ _ hv5) ?_
   simp -implicitDefEqProofs +decide only [go_sem, Nat.reduceAdd, Int.reduceToNat, hb4]
   refine hK _ ?_
   refine bsplit h (fun hb6 h => ?_) (fun hb6 h => ?_)
   ·refine if_go ?_
    refine go_seq ?_
    refine swp_ret ?_
    with_reducible repeat first|apply nn|apply nb|apply nr|apply nc|apply ne|apply nq|apply nx rfl
    obtain rfl := some_eq h
    exact rt
   ·refine el_go ?_
    refine swp_skip ?_
    with_reducible repeat first|apply nn|apply nb|apply nr|apply nc|apply ne|apply nq|apply nx rfl
    refine seq_reg rfl (fun K hK => ?_)
    refine bind_of h (fun v7 hv7 h => ?_)
    simp -implicitDefEqProofs +decide only [go_sem, Nat.reduceAdd, Int.reduceToNat, hb4, hb6]
    refine call_go [0] false (pointer_Pack_ok (cG G) hG0 _ _ hv7) ?_
    simp -implicitDefEqProofs +decide only [go_sem, Nat.reduceAdd, Int.reduceToNat, hb4, hb6]
    refine hK _ ?_
    refine go_seq ?_
    refine swp_ret ?_
    with_reducible repeat first|apply nn|apply nb|apply nr|apply nc|apply ne|apply nq|apply nx rfl
    obtain rfl := some_eq h
    exact rt
end Go.Sh
end
section
namespace Go.Sh
open Go.Proofs
noncomputable def btree_run_done (a0 : btree_run) (a1 : (List api_Page)) (a2 : (List Int)) : Option btree_run :=
  (btree_run_fail (⟨a0.Op, a0.Known, a0.Need, a1, (⟨a0.Out.Code, a0.Out.Found, true, a0.Out.Split, a0.Out.Unposted, a0.Out.Dead, a0.Out.More, a0.Out.To, a0.Out.Entries, a0.Out.Check, a0.Out.Hops, a0.Out.Fresh, a0.Out.Height⟩ : btree_Out), a0.RootPage, a0.Root, a0.Ended⟩ : btree_run) 0 a2).bind fun v1 =>
  some v1.2
theorem btree_run_done_ok (G : Glob) (hG0 : G.glob 0 = some [(.int .i64 0), (.int .i64 0)]) (a0 : btree_run) (a1 : (List api_Page)) (a2 : (List Int)) (res : btree_run) (h : btree_run_done a0 a1 a2 = some res) : Spec Tryz.prog G 96 [.io (g_rhlf a0), .cell (.own 9 (a1.map r_api_Page)), .cell (.own 1 (a2.map r_i64))] (fun r ios => r = .tup [] ∧ ios = [.io (g_rhlf res)]) := by
  rw [btree_run_done] at h
  refine spec_of Tryz.mixed Tryz.func96 rfl rfl (by simp only [List.length]; decide +kernel) ?_
  refine swp_fresh (fun g => stL [(0, (.c (.ptr ⟨0, 1⟩ 0 0))), (1, (.c (.ref ⟨1024000005, g⟩ 0 a1.length))), (2, (.c (.ref ⟨1024000006, g⟩ 0 a2.length)))] [(⟨0, 1⟩, .box true (b_1wfs a0 ⟨1024000001, g⟩ ⟨1024000002, g⟩ ⟨1024000003, g⟩ ⟨1024000004, g⟩)), (⟨1024000001, g⟩, .arr true 1 (a0.Need.map r_i64)), (⟨1024000002, g⟩, .arr true 9 (a0.Writes.map r_api_Page)), (⟨1024000003, g⟩, .arr true 3 (a0.Out.Entries.map r_hashindex_Entry)), (⟨1024000004, g⟩, .arr true 1 (a0.Out.Check.map r_i64)), (⟨1024000005, g⟩, .arr true 9 (a1.map r_api_Page)), (⟨1024000006, g⟩, .arr true 1 (a2.map r_i64))] (g + 1)) (ren_go (fun g S => [(⟨1024000001, g⟩, (keyB 9 (St.heap S ⟨0, 1⟩))), (⟨1024000002, g⟩, (keyB 10 (St.heap S ⟨0, 1⟩))), (⟨1024000003, g⟩, (keyB 20 (St.heap S ⟨0, 1⟩))), (⟨1024000004, g⟩, (keyB 21 (St.heap S ⟨0, 1⟩))), (⟨1024000005, g⟩, (keyT 0 (St.env S 1))), (⟨1024000006, g⟩, (keyT 0 (St.env S 2)))]) fun g S => []) fun g => ?_
  refine go_seq ?_
  refine swp_reg rfl (fun K hK => ?_)
  refine bind_of h (fun v1 hv1 h => ?_)
  simp -implicitDefEqProofs +decide only [go_sem, Nat.reduceAdd, Int.reduceToNat]
  refine call_go [0, 0, 1] true (btree_run_fail_ok (cG G) hG0 _ _ _ _ hv1) ?_
  simp -implicitDefEqProofs +decide only [go_sem, Nat.reduceAdd, Int.reduceToNat]
  refine hK _ ?_
  with_reducible repeat first|apply nn|apply nb|apply nr|apply nc|apply ne|apply nq|apply nx rfl
  obtain rfl := some_eq h
  exact rt
end Go.Sh
end
section
namespace Go.Sh
open Go.Proofs
noncomputable def pointer_tagged (a0 : api_Page) (a1 : pointer_Tag) : Option api_Page :=
  (pointer_PackTag a1).bind fun v1 =>
  some (⟨a0.Line, a0.Head, (⟨v1, 0, 0, 0, 0, 0, 0⟩ : (A7 Int))⟩ : api_Page)
theorem pointer_tagged_ok (G : Glob) (hG0 : G.glob 0 = some [(.int .i64 0), (.int .i64 0)]) (a0 : api_Page) (a1 : pointer_Tag) (res : api_Page) (h : pointer_tagged a0 a1 = some res) : Spec Tryz.prog G 124 [.agg (g_yylp a0), .agg [.p (.int .i64 a1.Kind), .p (.int .i64 a1.Gen), .p (.int .u32 a1.Aux)]] (fun r ios => r = .agg (g_yylp res) ∧ ios = []) := by
  rw [pointer_tagged] at h
  refine spec_of Tryz.mixed Tryz.func124 rfl rfl (by simp only [List.length]; decide +kernel) ?_
  refine swp_fresh (fun g => stL [(0, (.agg (b_mq86 a0))), (1, (.agg [(.p (.int .i64 a1.Kind)), (.p (.int .i64 a1.Gen)), (.p (.int .u32 a1.Aux))]))] [] (g + 1)) (ren_go (fun g S => []) fun g S => []) fun g => ?_
  refine go_seq ?_
  refine go_seq ?_
  refine seq_reg rfl (fun K hK => ?_)
  refine bind_of h (fun v1 hv1 h => ?_)
  simp -implicitDefEqProofs +decide only [go_sem, Nat.reduceAdd, Int.reduceToNat]
  refine call_go [0] false (pointer_PackTag_ok (cG G) hG0 _ _ hv1) ?_
  simp -implicitDefEqProofs +decide only [go_sem, Nat.reduceAdd, Int.reduceToNat]
  refine hK _ ?_
  refine go_seq ?_
  refine swp_ret ?_
  with_reducible repeat first|apply nn|apply nb|apply nr|apply nc|apply ne|apply nq|apply nx rfl
  obtain rfl := some_eq h
  exact rt
end Go.Sh
end
section
namespace Go.Sh
open Go.Proofs
noncomputable def pointer_Allocate (a0 : api_Page) (a1 : Int) (a2 : Int) : Option (api_Page × Int) :=
  (pointer_tagOf a0).bind fun v1 =>
  (pointer_inHeap a0.Line).bind fun v10 =>
  if (!v10) = true then
    some ((⟨0, 0, (⟨0, 0, 0, 0, 0, 0, 0⟩ : (A7 Int))⟩ : api_Page), 1)
  else
    if (decide (a1 < 1)) = true then
      some ((⟨0, 0, (⟨0, 0, 0, 0, 0, 0, 0⟩ : (A7 Int))⟩ : api_Page), 1)
    else
      if (decide (a1 > 4)) = true then
        some ((⟨0, 0, (⟨0, 0, 0, 0, 0, 0, 0⟩ : (A7 Int))⟩ : api_Page), 1)
      else
        (pointer_Locked a0).bind fun v14 =>
        if v14 = true then
          some ((⟨0, 0, (⟨0, 0, 0, 0, 0, 0, 0⟩ : (A7 Int))⟩ : api_Page), 3)
        else
          if (v1.Kind != 0) = true then
            some ((⟨0, 0, (⟨0, 0, 0, 0, 0, 0, 0⟩ : (A7 Int))⟩ : api_Page), 17)
          else
            if (v1.Gen == 16777215) = true then
              some ((⟨0, 0, (⟨0, 0, 0, 0, 0, 0, 0⟩ : (A7 Int))⟩ : api_Page), 18)
            else
              (pointer_tagged a0 (⟨a1, (IntKind.i64.wrap (v1.Gen + 1)), a2⟩ : pointer_Tag)).bind fun v18 =>
              some (v18, 0)
theorem pointer_Allocate_ok (G : Glob) (hG0 : G.glob 0 = some [(.int .i64 0), (.int .i64 0)]) (a0 : api_Page) (a1 : Int) (a2 : Int) (res : (api_Page × Int)) (h : pointer_Allocate a0 a1 a2 = some res) : Spec Tryz.prog G 109 [.agg (g_yylp a0), .cell (.p (.int .i64 a1)), .cell (.p (.int .u32 a2))] (fun r ios => r = .tup [.agg (g_yylp res.1), .cell (.p (.int .i64 res.2))] ∧ ios = []) := by
  rw [pointer_Allocate] at h
  refine spec_of Tryz.mixed Tryz.func109 rfl rfl (by simp only [List.length]; decide +kernel) ?_
  refine swp_fresh (fun g => stL [(0, (.agg (b_mq86 a0))), (1, (.c (.p (.int .i64 a1)))), (2, (.c (.p (.int .u32 a2))))] [] (g + 1)) (ren_go (fun g S => []) fun g S => []) fun g => ?_
  refine go_seq ?_
  refine seq_reg rfl (fun K hK => ?_)
  refine bind_of h (fun v1 hv1 h => ?_)
  simp -implicitDefEqProofs +decide only [go_sem, Nat.reduceAdd, Int.reduceToNat]
  refine call_go [0] false (pointer_tagOf_ok (cG G) hG0 _ _ hv1) ?_
  simp -implicitDefEqProofs +decide only [go_sem, Nat.reduceAdd, Int.reduceToNat]
  refine hK _ ?_
  refine swp_seq ?_
  refine swp_block ?_
  refine seq_reg rfl (fun K hK => ?_)
  refine bind_of h (fun v10 hv10 h => ?_)
  simp -implicitDefEqProofs +decide only [go_sem, Nat.reduceAdd, Int.reduceToNat]
  refine call_go [0] false (pointer_inHeap_ok (cG G) hG0 _ _ hv10) ?_
  refine bsplit h (fun hb11 h => ?_) (fun hb11 h => ?_)
  ·simp -implicitDefEqProofs +decide only [go_sem, Nat.reduceAdd, Int.reduceToNat, hb11]
   refine hK _ ?_
   refine if_go ?_
   refine go_seq ?_
   refine swp_ret ?_
   with_reducible repeat first|apply nn|apply nb|apply nr|apply nc|apply ne|apply nq|apply nx rfl
   obtain rfl := some_eq h
   exact rt
  ·refine bsplit h (fun hb12 h => ?_) (fun hb12 h => ?_)
   ·simp -implicitDefEqProofs +decide only [go_sem, Nat.reduceAdd, Int.reduceToNat, hb11, hb12]
    refine hK _ ?_
    refine if_go ?_
    refine go_seq ?_
    refine swp_ret ?_
    with_reducible repeat first|apply nn|apply nb|apply nr|apply nc|apply ne|apply nq|apply nx rfl
    obtain rfl := some_eq h
    exact rt
   ·simp -implicitDefEqProofs +decide only [go_sem, Nat.reduceAdd, Int.reduceToNat, hb11, hb12]
    refine hK _ ?_
    refine bsplit h (fun hb13 h => ?_) (fun hb13 h => ?_)
    ·refine if_go ?_
     refine go_seq ?_
     refine swp_ret ?_
     with_reducible repeat first|apply nn|apply nb|apply nr|apply nc|apply ne|apply nq|apply nx rfl
     obtain rfl := some_eq h
     exact rt
    ·refine el_go ?_
     refine seq_reg rfl (fun K hK => ?_)
     refine bind_of h (fun v14 hv14 h => ?_)
     simp -implicitDefEqProofs +decide only [go_sem, Nat.reduceAdd, Int.reduceToNat, hb11, hb12, hb13]
     refine call_go [0] false (pointer_Locked_ok (cG G) hG0 _ _ hv14) ?_
     simp -implicitDefEqProofs +decide only [go_sem, Nat.reduceAdd, Int.reduceToNat, hb11, hb12, hb13]
     refine hK _ ?_
     refine bsplit h (fun hb15 h => ?_) (fun hb15 h => ?_)
     ·refine if_go ?_
      refine go_seq ?_
      refine swp_ret ?_
      with_reducible repeat first|apply nn|apply nb|apply nr|apply nc|apply ne|apply nq|apply nx rfl
      obtain rfl := some_eq h
      exact rt
     ·refine el_go ?_
      refine go_seq ?_
      refine bsplit h (fun hb16 h => ?_) (fun hb16 h => ?_)
      ·refine if_go ?_
       refine go_seq ?_
       refine swp_ret ?_
       with_reducible repeat first|apply nn|apply nb|apply nr|apply nc|apply ne|apply nq|apply nx rfl
       obtain rfl := some_eq h
       exact rt
      ·refine el_go ?_
       refine go_seq ?_
       refine bsplit h (fun hb17 h => ?_) (fun hb17 h => ?_)
       ·refine if_go ?_
        refine go_seq ?_
        refine swp_ret ?_
        with_reducible repeat first|apply nn|apply nb|apply nr|apply nc|apply ne|apply nq|apply nx rfl
        obtain rfl := some_eq h
        exact rt
       ·refine el_go ?_
        refine swp_skip ?_
        with_reducible repeat first|apply nn|apply nb|apply nr|apply nc|apply ne|apply nq|apply nx rfl
        refine seq_reg rfl (fun K hK => ?_)
        refine bind_of h (fun v18 hv18 h => ?_)
        simp -implicitDefEqProofs +decide only [go_sem, Nat.reduceAdd, Int.reduceToNat, hb11, hb12, hb13, hb15, hb16, hb17]
        refine call_go [0, 0] false (pointer_tagged_ok (cG G) hG0 _ _ _ hv18) ?_
        simp -implicitDefEqProofs +decide only [go_sem, Nat.reduceAdd, Int.reduceToNat, hb11, hb12, hb13, hb15, hb16, hb17]
        refine hK _ ?_
        refine swp_ret ?_
        with_reducible repeat first|apply nn|apply nb|apply nr|apply nc|apply ne|apply nq|apply nx rfl
        obtain rfl := some_eq h
        exact rt
end Go.Sh
end
section
namespace Go.Sh
open Go.Proofs
noncomputable def slices_Index_L1 (a0 : (List Int)) (a1 : Int) (x12 : Int) : Option (Int ⊕ Int) :=
    if (decide (x12 < (a0.length : Int))) = true then
      (idx a0 x12).bind fun e15 =>
      if (a1 == e15) = true then
        Option.map Sum.inr (
          some x12)
      else
        some (.inl (IntKind.i64.wrap (x12 + 1)))
    else
      Option.map Sum.inr (
        some (-1))
noncomputable def slices_Index (a0 : (List Int)) (a1 : Int) : Option Int :=
  iter (slices_Index_L1 a0 a1) 0
theorem slices_Index_ok (G : Glob) (hG0 : G.glob 0 = some [(.int .i64 0), (.int .i64 0)]) (a0 : (List Int)) (a1 : Int) (res : Int) (h : slices_Index a0 a1 = some res) : Spec Tryz.prog G 125 [.cell (.p (.rows (a0.map r_i64))), .cell (.p (.int .i64 a1))] (fun r ios => r = .cell (.p (.int .i64 res)) ∧ ios = []) := by
  rw [slices_Index] at h
  refine spec_of Tryz.mixed Tryz.func125 rfl rfl (by simp only [List.length]; decide +kernel) ?_
  refine swp_fresh (fun g => stL [(0, (.c (.p (.rows (a0.map r_i64))))), (1, (.c (.p (.int .i64 a1))))] [] (g + 1)) (ren_go (fun g S => []) fun g S => []) fun g => ?_
  refine go_seq ?_
  refine swp_seq ?_
  refine go_seq ?_
  refine swp_block ?_
  refine swp_iter (fun g x12 => stL [(0, (.c (.p (.rows (a0.map r_i64))))), (1, (.c (.p (.int .i64 a1)))), (7, (.c (.p (.int .i64 (a0.length : Int))))), (8, (.c (.p (.int .i64 x12))))] [] (g + 1)) h (enter_of (ren_go (fun g S => []) fun g S => [])) ?_
  rintro g x12 s1 h hd1
  rw [slices_Index_L1] at h
  try dsimp only
  refine go_seq ?_
  refine swp_seq ?_
  refine bsplit h (fun hb14 h => ?_) (fun hb14 h => ?_)
  ·refine if_go ?_
   refine swp_skip ?_
   with_reducible repeat first|apply nn|apply nb|apply nr|apply nc|apply ne|apply nq|apply nx rfl
   refine swp_seq ?_
   refine swp_block ?_
   refine go_seq ?_
   refine seq_reg rfl (fun K hK => ?_)
   refine bind_of h (fun e15 he15 h => ?_)
   obtain ⟨he15_0, he15_1, he15_2⟩ := idx_some he15
   simp -implicitDefEqProofs +decide only [go_sem, Nat.reduceAdd, Int.reduceToNat, he15_0, he15_1, he15_2, hb14]
   refine hK _ ?_
   refine bsplit h (fun hb16 h => ?_) (fun hb16 h => ?_)
   ·refine if_go ?_
    refine go_seq ?_
    refine swp_ret ?_
    with_reducible repeat first|apply nn|apply nb|apply nr|apply nc|apply ne|apply nq|apply nx rfl
    obtain ⟨h, hs1⟩ := exit_of h hd1
    refine ⟨hs1, ?_⟩
    with_reducible repeat first|apply nn|apply nb|apply nr|apply nc|apply ne|apply nq|apply nx rfl
    obtain rfl := some_eq h
    exact rt
   ·refine el_go ?_
    refine swp_skip ?_
    with_reducible repeat first|apply nn|apply nb|apply nr|apply nc|apply ne|apply nq|apply nx rfl
    refine go_swp ?_
    with_reducible repeat first|apply nn|apply nb|apply nr|apply nc|apply ne|apply nq|apply nx rfl
    exact back_of h (ren_go (fun g S => []) fun g S => [])
  ·refine el_go ?_
   refine swp_exit ?_
   with_reducible repeat first|apply nn|apply nb|apply nr|apply nc|apply ne|apply nq|apply nx rfl
   obtain ⟨h, hs1⟩ := exit_of h hd1
   with_reducible repeat first|apply nn|apply nb|apply nr|apply nc|apply ne|apply nq|apply nx rfl
   refine ⟨hs1, ?_⟩
   with_reducible repeat first|apply nn|apply nb|apply nr|apply nc|apply ne|apply nq|apply nx rfl
   refine go_seq ?_
   refine swp_ret ?_
   with_reducible repeat first|apply nn|apply nb|apply nr|apply nc|apply ne|apply nq|apply nx rfl
   obtain rfl := some_eq h
   exact rt
end Go.Sh
end
section
namespace Go.Sh
open Go.Proofs
noncomputable def slices_Contains (a0 : (List Int)) (a1 : Int) : Option Bool :=
  (slices_Index a0 a1).bind fun v1 =>
  some (decide (v1 ≥ 0))
theorem slices_Contains_ok (G : Glob) (hG0 : G.glob 0 = some [(.int .i64 0), (.int .i64 0)]) (a0 : (List Int)) (a1 : Int) (res : Bool) (h : slices_Contains a0 a1 = some res) : Spec Tryz.prog G 110 [.cell (.p (.rows (a0.map r_i64))), .cell (.p (.int .i64 a1))] (fun r ios => r = .cell (.p (.bool res)) ∧ ios = []) := by
  rw [slices_Contains] at h
  refine spec_of Tryz.mixed Tryz.func110 rfl rfl (by simp only [List.length]; decide +kernel) ?_
  refine swp_fresh (fun g => stL [(0, (.c (.p (.rows (a0.map r_i64))))), (1, (.c (.p (.int .i64 a1))))] [] (g + 1)) (ren_go (fun g S => []) fun g S => []) fun g => ?_
  refine go_seq ?_
  refine seq_reg rfl (fun K hK => ?_)
  refine bind_of h (fun v1 hv1 h => ?_)
  simp -implicitDefEqProofs +decide only [go_sem, Nat.reduceAdd, Int.reduceToNat]
  refine call_go [0, 0] false (slices_Index_ok (cG G) hG0 _ _ _ hv1) ?_
  simp -implicitDefEqProofs +decide only [go_sem, Nat.reduceAdd, Int.reduceToNat]
  refine hK _ ?_
  refine swp_ret ?_
  with_reducible repeat first|apply nn|apply nb|apply nr|apply nc|apply ne|apply nq|apply nx rfl
  obtain rfl := some_eq h
  exact rt
end Go.Sh
end
section
namespace Go.Sh
open Go.Proofs
noncomputable def btree_run_fresh (a0 : btree_run) (a1 : (List Int)) : Option (api_Page × Bool × btree_run) :=
  if ((a0.Op.Fresh.length : Int) == 0) = true then
    (btree_run_fail (⟨a0.Op, a0.Known, a0.Need, a0.Writes, (⟨a0.Out.Code, a0.Out.Found, a0.Out.Done, a0.Out.Split, a0.Out.Unposted, a0.Out.Dead, a0.Out.More, a0.Out.To, a0.Out.Entries, a0.Out.Check, a0.Out.Hops, 1, a0.Out.Height⟩ : btree_Out), a0.RootPage, a0.Root, a0.Ended⟩ : btree_run) 18 ([] : List Int)).bind fun v4 =>
    some ((⟨0, 0, (⟨0, 0, 0, 0, 0, 0, 0⟩ : (A7 Int))⟩ : api_Page), v4.1, v4.2)
  else
    (idx a0.Op.Fresh 0).bind fun e5 =>
    (pointer_Allocate e5 4 0).bind fun v6 =>
    if (v6.2 != 0) = true then
      (btree_run_fail a0 1 ([] : List Int)).bind fun v8 =>
      some ((⟨0, 0, (⟨0, 0, 0, 0, 0, 0, 0⟩ : (A7 Int))⟩ : api_Page), v8.1, v8.2)
    else
      (slices_Contains a1 v6.1.Line).bind fun v9 =>
      if v9 = true then
        (btree_run_fail a0 1 ([] : List Int)).bind fun v11 =>
        some ((⟨0, 0, (⟨0, 0, 0, 0, 0, 0, 0⟩ : (A7 Int))⟩ : api_Page), v11.1, v11.2)
      else
        some (v6.1, true, a0)
theorem btree_run_fresh_ok (G : Glob) (hG0 : G.glob 0 = some [(.int .i64 0), (.int .i64 0)]) (a0 : btree_run) (a1 : (List Int)) (res : (api_Page × Bool × btree_run)) (h : btree_run_fresh a0 a1 = some res) : Spec Tryz.prog G 95 [.io (g_rhlf a0), .cell (.p (.rows (a1.map r_i64)))] (fun r ios => r = .tup [.agg (g_yylp res.1), .cell (.p (.bool res.2.1))] ∧ ios = [.io (g_rhlf res.2.2)]) := by
  rw [btree_run_fresh] at h
  refine spec_of Tryz.mixed Tryz.func95 rfl rfl (by simp only [List.length]; decide +kernel) ?_
  refine swp_fresh (fun g => stL [(0, (.c (.ptr ⟨0, 1⟩ 0 0))), (1, (.c (.p (.rows (a1.map r_i64)))))] [(⟨0, 1⟩, .box true (b_1wfs a0 ⟨1024000001, g⟩ ⟨1024000002, g⟩ ⟨1024000003, g⟩ ⟨1024000004, g⟩)), (⟨1024000001, g⟩, .arr true 1 (a0.Need.map r_i64)), (⟨1024000002, g⟩, .arr true 9 (a0.Writes.map r_api_Page)), (⟨1024000003, g⟩, .arr true 3 (a0.Out.Entries.map r_hashindex_Entry)), (⟨1024000004, g⟩, .arr true 1 (a0.Out.Check.map r_i64))] (g + 1)) (ren_go (fun g S => [(⟨1024000001, g⟩, (keyB 9 (St.heap S ⟨0, 1⟩))), (⟨1024000002, g⟩, (keyB 10 (St.heap S ⟨0, 1⟩))), (⟨1024000003, g⟩, (keyB 20 (St.heap S ⟨0, 1⟩))), (⟨1024000004, g⟩, (keyB 21 (St.heap S ⟨0, 1⟩)))]) fun g S => []) fun g => ?_
  refine go_seq ?_
  refine swp_seq ?_
  refine go_seq ?_
  refine bsplit h (fun hb3 h => ?_) (fun hb3 h => ?_)
  ·refine if_go ?_
   refine go_seq ?_
   refine seq_reg rfl (fun K hK => ?_)
   refine bind_of h (fun v4 hv4 h => ?_)
   simp -implicitDefEqProofs +decide only [go_sem, Nat.reduceAdd, Int.reduceToNat, hb3]
   refine call_nil [0, 0, 1] true (btree_run_fail_ok (cG G) hG0 _ _ _ _ hv4) ?_
   simp -implicitDefEqProofs +decide only [go_sem, Nat.reduceAdd, Int.reduceToNat, hb3]
   refine hK _ ?_
   refine swp_ret ?_
   with_reducible repeat first|apply nn|apply nb|apply nr|apply nc|apply ne|apply nq|apply nx rfl
   obtain rfl := some_eq h
   exact rt
  ·refine el_go ?_
   refine swp_skip ?_
   with_reducible repeat first|apply nn|apply nb|apply nr|apply nc|apply ne|apply nq|apply nx rfl
   refine seq_reg rfl (fun K hK => ?_)
   refine bind_of h (fun e5 he5 h => ?_)
   obtain ⟨he5_0, he5_1, he5_2⟩ := idx_some he5
   replace he5_2 : (a0.Op.Fresh)[0]? = some e5 := he5_2
   refine bind_of h (fun v6 hv6 h => ?_)
   simp -implicitDefEqProofs +decide only [go_sem, Nat.reduceAdd, Int.reduceToNat, he5_0, he5_1, he5_2, hb3]
   refine call_go [0, 0, 0] false (pointer_Allocate_ok (cG G) hG0 _ _ _ _ hv6) ?_
   simp -implicitDefEqProofs +decide only [go_sem, Nat.reduceAdd, Int.reduceToNat, hb3]
   refine hK _ ?_
   refine swp_seq ?_
   refine seq_reg rfl (fun K hK => ?_)
   refine bsplit h (fun hb7 h => ?_) (fun hb7 h => ?_)
   ·simp -implicitDefEqProofs +decide only [go_sem, Nat.reduceAdd, Int.reduceToNat, hb3, hb7]
    refine hK _ ?_
    refine if_go ?_
    refine seq_reg rfl (fun K hK => ?_)
    refine bind_of h (fun v8 hv8 h => ?_)
    simp -implicitDefEqProofs +decide only [go_sem, Nat.reduceAdd, Int.reduceToNat, hb3, hb7]
    refine call_nil [0, 0, 1] true (btree_run_fail_ok (cG G) hG0 _ _ _ _ hv8) ?_
    simp -implicitDefEqProofs +decide only [go_sem, Nat.reduceAdd, Int.reduceToNat, hb3, hb7]
    refine hK _ ?_
    refine swp_ret ?_
    with_reducible repeat first|apply nn|apply nb|apply nr|apply nc|apply ne|apply nq|apply nx rfl
    obtain rfl := some_eq h
    exact rt
   ·refine bind_of h (fun v9 hv9 h => ?_)
    simp -implicitDefEqProofs +decide only [go_sem, Nat.reduceAdd, Int.reduceToNat, hb3, hb7]
    refine call_go [0, 0] false (slices_Contains_ok (cG G) hG0 _ _ _ hv9) ?_
    simp -implicitDefEqProofs +decide only [go_sem, Nat.reduceAdd, Int.reduceToNat, hb3, hb7]
    refine hK _ ?_
    refine bsplit h (fun hb10 h => ?_) (fun hb10 h => ?_)
    ·refine if_go ?_
     refine seq_reg rfl (fun K hK => ?_)
     refine bind_of h (fun v11 hv11 h => ?_)
     simp -implicitDefEqProofs +decide only [go_sem, Nat.reduceAdd, Int.reduceToNat, hb3, hb7, hb10]
     refine call_nil [0, 0, 1] true (btree_run_fail_ok (cG G) hG0 _ _ _ _ hv11) ?_
     simp -implicitDefEqProofs +decide only [go_sem, Nat.reduceAdd, Int.reduceToNat, hb3, hb7, hb10]
     refine hK _ ?_
     refine swp_ret ?_
     with_reducible repeat first|apply nn|apply nb|apply nr|apply nc|apply ne|apply nq|apply nx rfl
     obtain rfl := some_eq h
     exact rt
    ·refine el_go ?_
     refine swp_skip ?_
     with_reducible repeat first|apply nn|apply nb|apply nr|apply nc|apply ne|apply nq|apply nx rfl
     refine go_seq ?_
     refine swp_ret ?_
     with_reducible repeat first|apply nn|apply nb|apply nr|apply nc|apply ne|apply nq|apply nx rfl
     obtain rfl := some_eq h
     exact rt
end Go.Sh
end
section
namespace Go.Sh
open Go.Proofs
noncomputable def pointer_At (a0 : api_Page) : Option pointer_Pointer :=
  (pointer_tagOf a0).bind fun v1 =>
  some (⟨a0.Line, v1.Gen⟩ : pointer_Pointer)
theorem pointer_At_ok (G : Glob) (hG0 : G.glob 0 = some [(.int .i64 0), (.int .i64 0)]) (a0 : api_Page) (res : pointer_Pointer) (h : pointer_At a0 = some res) : Spec Tryz.prog G 38 [.agg (g_yylp a0)] (fun r ios => r = .agg [.p (.int .i64 res.Line), .p (.int .i64 res.Gen)] ∧ ios = []) := by
  rw [pointer_At] at h
  refine spec_of Tryz.mixed Tryz.func38 rfl rfl (by simp only [List.length]; decide +kernel) ?_
  refine swp_fresh (fun g => stL [(0, (.agg (b_mq86 a0)))] [] (g + 1)) (ren_go (fun g S => []) fun g S => []) fun g => ?_
  refine go_seq ?_
  refine seq_drw rfl (fun K hK => ?_)
  refine bind_of h (fun v1 hv1 h => ?_)
  simp -implicitDefEqProofs +decide only [go_sem, Nat.reduceAdd, Int.reduceToNat]
  refine call_go [0] false (pointer_tagOf_ok (cG G) hG0 _ _ hv1) ?_
  simp -implicitDefEqProofs +decide only [go_sem, Nat.reduceAdd, Int.reduceToNat]
  refine draw_go (by kernel_rfl) ?_
  refine hK _ ?_
  refine swp_ret ?_
  with_reducible repeat first|apply nn|apply nb|apply nr|apply nc|apply ne|apply nq|apply nx rfl
  obtain rfl := some_eq h
  exact rt
end Go.Sh
end
section
namespace Go.Sh
open Go.Proofs
noncomputable def btree_run_plant (a0 : btree_run) (a1 : hashindex_Entry) : Option btree_run :=
  (pointer_Locked a0.RootPage).bind fun v4 =>
  if v4 = true then
    (btree_run_fail a0 3 ([] : List Int)).bind fun v6 =>
    some v6.2
  else
    (btree_run_fresh a0 []).bind fun v7 =>
    if (!v7.2.1) = true then
      some v7.2.2
    else
      (pointer_At v7.1).bind fun v10 =>
      (btree_WriteRoot v7.2.2.RootPage v10 0).bind fun v11 =>
      (btree_Node_fill (⟨0, true, false, 4294967295, (⟨0, 0⟩ : pointer_Pointer), ([a1] : List hashindex_Entry)⟩ : btree_Node) v7.1).bind fun v12 =>
      (btree_run_done v7.2.2 ([v11.1, v12] : List api_Page) ([] : List Int)).bind fun v13 =>
      some v13
theorem btree_run_plant_ok (G : Glob) (hG0 : G.glob 0 = some [(.int .i64 0), (.int .i64 0)]) (a0 : btree_run) (a1 : hashindex_Entry) (res : btree_run) (h : btree_run_plant a0 a1 = some res) : Spec Tryz.prog G 87 [.io (g_rhlf a0), .agg [.p (.int .u32 a1.Key), .p (.int .i64 a1.To.Line), .p (.int .i64 a1.To.Gen)]] (fun r ios => r = .tup [] ∧ ios = [.io (g_rhlf res)]) := by
  rw [btree_run_plant] at h
  refine spec_of Tryz.mixed Tryz.func87 rfl rfl (by simp only [List.length]; decide +kernel) ?_
  refine swp_fresh (fun g => stL [(0, (.c (.ptr ⟨0, 1⟩ 0 0))), (1, (.agg [(.p (.int .u32 a1.Key)), (.p (.int .i64 a1.To.Line)), (.p (.int .i64 a1.To.Gen))]))] [(⟨0, 1⟩, .box true (b_1wfs a0 ⟨1024000001, g⟩ ⟨1024000002, g⟩ ⟨1024000003, g⟩ ⟨1024000004, g⟩)), (⟨1024000001, g⟩, .arr true 1 (a0.Need.map r_i64)), (⟨1024000002, g⟩, .arr true 9 (a0.Writes.map r_api_Page)), (⟨1024000003, g⟩, .arr true 3 (a0.Out.Entries.map r_hashindex_Entry)), (⟨1024000004, g⟩, .arr true 1 (a0.Out.Check.map r_i64))] (g + 1)) (ren_go (fun g S => [(⟨1024000001, g⟩, (keyB 9 (St.heap S ⟨0, 1⟩))), (⟨1024000002, g⟩, (keyB 10 (St.heap S ⟨0, 1⟩))), (⟨1024000003, g⟩, (keyB 20 (St.heap S ⟨0, 1⟩))), (⟨1024000004, g⟩, (keyB 21 (St.heap S ⟨0, 1⟩)))]) fun g S => []) fun g => ?_
  refine go_seq ?_
  refine swp_seq ?_
  refine seq_reg rfl (fun K hK => ?_)
  refine bind_of h (fun v4 hv4 h => ?_)
  simp -implicitDefEqProofs +decide only [go_sem, Nat.reduceAdd, Int.reduceToNat]
  refine call_go [0] false (pointer_Locked_ok (cG G) hG0 _ _ hv4) ?_
  simp -implicitDefEqProofs +decide only [go_sem, Nat.reduceAdd, Int.reduceToNat]
  refine hK _ ?_
  refine bsplit h (fun hb5 h => ?_) (fun hb5 h => ?_)
  ·refine if_go ?_
   refine seq_reg rfl (fun K hK => ?_)
   refine bind_of h (fun v6 hv6 h => ?_)
   simp -implicitDefEqProofs +decide only [go_sem, Nat.reduceAdd, Int.reduceToNat, hb5]
   refine call_nil [0, 0, 1] true (btree_run_fail_ok (cG G) hG0 _ _ _ _ hv6) ?_
   simp -implicitDefEqProofs +decide only [go_sem, Nat.reduceAdd, Int.reduceToNat, hb5]
   refine hK _ ?_
   refine swp_ret ?_
   with_reducible repeat first|apply nn|apply nb|apply nr|apply nc|apply ne|apply nq|apply nx rfl
   obtain rfl := some_eq h
   exact rt
  ·refine el_go ?_
   refine swp_skip ?_
   with_reducible repeat first|apply nn|apply nb|apply nr|apply nc|apply ne|apply nq|apply nx rfl
   refine seq_reg rfl (fun K hK => ?_)
   refine bind_of h (fun v7 hv7 h => ?_)
   simp -implicitDefEqProofs +decide only [go_sem, Nat.reduceAdd, Int.reduceToNat, hb5]
   refine call_go [0, 0] true (btree_run_fresh_ok (cG G) hG0 _ _ _ hv7) ?_
   simp -implicitDefEqProofs +decide only [go_sem, Nat.reduceAdd, Int.reduceToNat, hb5]
   refine hK _ ?_
   refine swp_seq ?_
   refine go_seq ?_
   refine bsplit h (fun hb9 h => ?_) (fun hb9 h => ?_)
   ·refine if_go ?_
    refine swp_ret ?_
    with_reducible repeat first|apply nn|apply nb|apply nr|apply nc|apply ne|apply nq|apply nx rfl
    obtain rfl := some_eq h
    exact rt
   ·refine el_go ?_
    refine swp_skip ?_
    with_reducible repeat first|apply nn|apply nb|apply nr|apply nc|apply ne|apply nq|apply nx rfl
    refine go_seq ?_
    refine seq_drw rfl (fun K hK => ?_)
    refine bind_of h (fun v10 hv10 h => ?_)
    simp -implicitDefEqProofs +decide only [go_sem, Nat.reduceAdd, Int.reduceToNat, hb5, hb9]
    refine call_go [0] false (pointer_At_ok (cG G) hG0 _ _ hv10) ?_
    refine bind_of h (fun v11 hv11 h => ?_)
    simp -implicitDefEqProofs +decide only [go_sem, Nat.reduceAdd, Int.reduceToNat, hb5, hb9]
    refine call_go [0, 0, 0] false (btree_WriteRoot_ok (cG G) hG0 _ _ _ _ hv11) ?_
    simp -implicitDefEqProofs +decide only [go_sem, Nat.reduceAdd, Int.reduceToNat, hb5, hb9]
    refine draw_go (by kernel_rfl) ?_
    refine hK _ ?_
    refine swp_drw rfl (fun K hK => ?_)
    refine bind_of h (fun v12 hv12 h => ?_)
    simp -implicitDefEqProofs +decide only [go_sem, Nat.reduceAdd, Int.reduceToNat, hb5, hb9]
    refine call_go [0, 0] false (btree_Node_fill_ok (cG G) hG0 _ _ _ hv12) ?_
    refine bind_of h (fun v13 hv13 h => ?_)
    simp -implicitDefEqProofs +decide only [go_sem, Nat.reduceAdd, Int.reduceToNat, hb5, hb9]
    refine call_nil [0, 1, 1] true (btree_run_done_ok (cG G) hG0 _ _ _ _ hv13) ?_
    simp -implicitDefEqProofs +decide only [go_sem, Nat.reduceAdd, Int.reduceToNat, hb5, hb9]
    refine draw_go (by kernel_rfl) ?_
    refine hK _ ?_
    with_reducible repeat first|apply nn|apply nb|apply nr|apply nc|apply ne|apply nq|apply nx rfl
    obtain rfl := some_eq h
    exact rt
end Go.Sh
end
section
namespace Go.Sh
open Go.Proofs
noncomputable def btree_run_fresh_v2 (a0 : btree_run) (a1 : (List Int)) : Option (api_Page × Bool × btree_run) :=
  if ((a0.Op.Fresh.length : Int) == 0) = true then
    (btree_run_fail (⟨a0.Op, a0.Known, a0.Need, a0.Writes, (⟨a0.Out.Code, a0.Out.Found, a0.Out.Done, a0.Out.Split, a0.Out.Unposted, a0.Out.Dead, a0.Out.More, a0.Out.To, a0.Out.Entries, a0.Out.Check, a0.Out.Hops, 1, a0.Out.Height⟩ : btree_Out), a0.RootPage, a0.Root, a0.Ended⟩ : btree_run) 18 ([] : List Int)).bind fun v4 =>
    some ((⟨0, 0, (⟨0, 0, 0, 0, 0, 0, 0⟩ : (A7 Int))⟩ : api_Page), v4.1, v4.2)
  else
    (idx a0.Op.Fresh 0).bind fun e5 =>
    (pointer_Allocate e5 4 0).bind fun v6 =>
    if (v6.2 != 0) = true then
      (btree_run_fail a0 1 ([] : List Int)).bind fun v8 =>
      some ((⟨0, 0, (⟨0, 0, 0, 0, 0, 0, 0⟩ : (A7 Int))⟩ : api_Page), v8.1, v8.2)
    else
      (slices_Contains a1 v6.1.Line).bind fun v9 =>
      if v9 = true then
        (btree_run_fail a0 1 ([] : List Int)).bind fun v11 =>
        some ((⟨0, 0, (⟨0, 0, 0, 0, 0, 0, 0⟩ : (A7 Int))⟩ : api_Page), v11.1, v11.2)
      else
        some (v6.1, true, a0)
theorem btree_run_fresh_v2_ok (G : Glob) (hG0 : G.glob 0 = some [(.int .i64 0), (.int .i64 0)]) (a0 : btree_run) (a1 : (List Int)) (res : (api_Page × Bool × btree_run)) (h : btree_run_fresh_v2 a0 a1 = some res) : Spec Tryz.prog G 95 [.io (g_rhlf a0), .els 1 (a1.map r_i64)] (fun r ios => r = .tup [.agg (g_yylp res.1), .cell (.p (.bool res.2.1))] ∧ ios = [.io (g_rhlf res.2.2), .els 1 (a1.map r_i64)]) := by
  rw [btree_run_fresh_v2] at h
  refine spec_of Tryz.mixed Tryz.func95 rfl rfl (by simp only [List.length]; decide +kernel) ?_
  refine swp_fresh (fun g => stL [(0, (.c (.ptr ⟨0, 1⟩ 0 0))), (1, (.c (.ref ⟨1025, 2⟩ 0 a1.length)))] [(⟨0, 1⟩, .box true (b_1wfs a0 ⟨1024000001, g⟩ ⟨1024000002, g⟩ ⟨1024000003, g⟩ ⟨1024000004, g⟩)), (⟨1024000001, g⟩, .arr true 1 (a0.Need.map r_i64)), (⟨1024000002, g⟩, .arr true 9 (a0.Writes.map r_api_Page)), (⟨1024000003, g⟩, .arr true 3 (a0.Out.Entries.map r_hashindex_Entry)), (⟨1024000004, g⟩, .arr true 1 (a0.Out.Check.map r_i64)), (⟨1025, 2⟩, .arr true 1 (a1.map r_i64))] (g + 1)) (ren_go (fun g S => [(⟨1024000001, g⟩, (keyB 9 (St.heap S ⟨0, 1⟩))), (⟨1024000002, g⟩, (keyB 10 (St.heap S ⟨0, 1⟩))), (⟨1024000003, g⟩, (keyB 20 (St.heap S ⟨0, 1⟩))), (⟨1024000004, g⟩, (keyB 21 (St.heap S ⟨0, 1⟩)))]) fun g S => []) fun g => ?_
  refine go_seq ?_
  refine swp_seq ?_
  refine go_seq ?_
  refine bsplit h (fun hb3 h => ?_) (fun hb3 h => ?_)
  ·refine if_go ?_
   refine go_seq ?_
   refine seq_reg rfl (fun K hK => ?_)
   refine bind_of h (fun v4 hv4 h => ?_)
   simp -implicitDefEqProofs +decide only [go_sem, Nat.reduceAdd, Int.reduceToNat, hb3]
   refine call_nil [0, 0, 1] true (btree_run_fail_ok (cG G) hG0 _ _ _ _ hv4) ?_
   simp -implicitDefEqProofs +decide only [go_sem, Nat.reduceAdd, Int.reduceToNat, hb3]
   refine hK _ ?_
   refine swp_ret ?_
   with_reducible repeat first|apply nn|apply nb|apply nr|apply nc|apply ne|apply nq|apply nx rfl
   obtain rfl := some_eq h
   exact rt
  ·refine el_go ?_
   refine swp_skip ?_
   with_reducible repeat first|apply nn|apply nb|apply nr|apply nc|apply ne|apply nq|apply nx rfl
   refine seq_reg rfl (fun K hK => ?_)
   refine bind_of h (fun e5 he5 h => ?_)
   obtain ⟨he5_0, he5_1, he5_2⟩ := idx_some he5
   replace he5_2 : (a0.Op.Fresh)[0]? = some e5 := he5_2
   refine bind_of h (fun v6 hv6 h => ?_)
   simp -implicitDefEqProofs +decide only [go_sem, Nat.reduceAdd, Int.reduceToNat, he5_0, he5_1, he5_2, hb3]
   refine call_go [0, 0, 0] false (pointer_Allocate_ok (cG G) hG0 _ _ _ _ hv6) ?_
   simp -implicitDefEqProofs +decide only [go_sem, Nat.reduceAdd, Int.reduceToNat, hb3]
   refine hK _ ?_
   refine swp_seq ?_
   refine seq_reg rfl (fun K hK => ?_)
   refine bsplit h (fun hb7 h => ?_) (fun hb7 h => ?_)
   ·simp -implicitDefEqProofs +decide only [go_sem, Nat.reduceAdd, Int.reduceToNat, hb3, hb7]
    refine hK _ ?_
    refine if_go ?_
    refine seq_reg rfl (fun K hK => ?_)
    refine bind_of h (fun v8 hv8 h => ?_)
    simp -implicitDefEqProofs +decide only [go_sem, Nat.reduceAdd, Int.reduceToNat, hb3, hb7]
    refine call_nil [0, 0, 1] true (btree_run_fail_ok (cG G) hG0 _ _ _ _ hv8) ?_
    simp -implicitDefEqProofs +decide only [go_sem, Nat.reduceAdd, Int.reduceToNat, hb3, hb7]
    refine hK _ ?_
    refine swp_ret ?_
    with_reducible repeat first|apply nn|apply nb|apply nr|apply nc|apply ne|apply nq|apply nx rfl
    obtain rfl := some_eq h
    exact rt
   ·refine bind_of h (fun v9 hv9 h => ?_)
    simp -implicitDefEqProofs +decide only [go_sem, Nat.reduceAdd, Int.reduceToNat, hb3, hb7]
    refine call_go [0, 0] false (slices_Contains_ok (cG G) hG0 _ _ _ hv9) ?_
    simp -implicitDefEqProofs +decide only [go_sem, Nat.reduceAdd, Int.reduceToNat, hb3, hb7]
    refine hK _ ?_
    refine bsplit h (fun hb10 h => ?_) (fun hb10 h => ?_)
    ·refine if_go ?_
     refine seq_reg rfl (fun K hK => ?_)
     refine bind_of h (fun v11 hv11 h => ?_)
     simp -implicitDefEqProofs +decide only [go_sem, Nat.reduceAdd, Int.reduceToNat, hb3, hb7, hb10]
     refine call_nil [0, 0, 1] true (btree_run_fail_ok (cG G) hG0 _ _ _ _ hv11) ?_
     simp -implicitDefEqProofs +decide only [go_sem, Nat.reduceAdd, Int.reduceToNat, hb3, hb7, hb10]
     refine hK _ ?_
     refine swp_ret ?_
     with_reducible repeat first|apply nn|apply nb|apply nr|apply nc|apply ne|apply nq|apply nx rfl
     obtain rfl := some_eq h
     exact rt
    ·refine el_go ?_
     refine swp_skip ?_
     with_reducible repeat first|apply nn|apply nb|apply nr|apply nc|apply ne|apply nq|apply nx rfl
     refine go_seq ?_
     refine swp_ret ?_
     with_reducible repeat first|apply nn|apply nb|apply nr|apply nc|apply ne|apply nq|apply nx rfl
     obtain rfl := some_eq h
     exact rt
end Go.Sh
end
section
namespace Go.Sh
open Go.Proofs
noncomputable def btree_run_store (a0 : btree_run) (a1 : btree_found) (a2 : (List hashindex_Entry)) (a3 : (List Int)) : Option btree_run :=
  if (decide ((a2.length : Int) ≤ 5)) = true then
    (btree_Node_fill (⟨a1.Node.Level, a1.Node.Leftmost, a1.Node.Dead, a1.Node.High, a1.Node.Right, a2⟩ : btree_Node) a1.Page).bind fun v5 =>
    (btree_run_done a0 ([v5] : List api_Page) a3).bind fun v6 =>
    some v6
  else
    if (a3.length + 1) * 8 ≤ maxRows ∧ a3.length + 1 ≤ maxRows then
      (btree_run_fresh_v2 a0 (a3 ++ ([a1.Page.Line] : List Int))).bind fun v8 =>
      if (!v8.2.1) = true then
        some v8.2.2
      else
        if 0 ≤ 3 ∧ 3 ≤ (a2.length : Int) then
          (idx a2 2).bind fun e12 =>
          (pointer_At v8.1).bind fun v13 =>
          if 0 ≤ 0 ∧ 0 ≤ 3 ∧ 3 ≤ (a2.length : Int) then
            (btree_Node_fill (⟨a1.Node.Level, a1.Node.Leftmost, a1.Node.Dead, e12.Key, v13, ((a2.drop 0).take 3)⟩ : btree_Node) a1.Page).bind fun v15 =>
            (btree_Node_fill (⟨a1.Node.Level, false, false, a1.Node.High, a1.Node.Right, ((a2.drop 3).take ((a2.length : Int) - 3).toNat)⟩ : btree_Node) v8.1).bind fun v16 =>
            (btree_run_done (⟨v8.2.2.Op, v8.2.2.Known, v8.2.2.Need, v8.2.2.Writes, (⟨v8.2.2.Out.Code, v8.2.2.Out.Found, v8.2.2.Out.Done, true, v8.2.2.Out.Unposted, v8.2.2.Out.Dead, v8.2.2.Out.More, v8.2.2.Out.To, v8.2.2.Out.Entries, v8.2.2.Out.Check, v8.2.2.Out.Hops, v8.2.2.Out.Fresh, v8.2.2.Out.Height⟩ : btree_Out), v8.2.2.RootPage, v8.2.2.Root, v8.2.2.Ended⟩ : btree_run) ([v15, v16] : List api_Page) a3).bind fun v17 =>
            some v17
          else none
        else none
    else none
theorem btree_run_store_ok (G : Glob) (hG0 : G.glob 0 = some [(.int .i64 0), (.int .i64 0)]) (a0 : btree_run) (a1 : btree_found) (a2 : (List hashindex_Entry)) (a3 : (List Int)) (res : btree_run) (h : btree_run_store a0 a1 a2 a3 = some res) : Spec Tryz.prog G 88 [.io (g_rhlf a0), .agg (g_5mbx a1), .cell (.own 3 (a2.map r_hashindex_Entry)), .cell (.own 1 (a3.map r_i64))] (fun r ios => r = .tup [] ∧ ios = [.io (g_rhlf res)]) := by
  rw [btree_run_store] at h
  refine spec_room [.io (g_rhlf a0), .agg (g_5mbx a1), .cell (.own 3 (a2.map r_hashindex_Entry))] [] rfl (fun c hc => ?_)
  rcases Nat.eq_or_lt_of_le hc with hc | hc
  · subst hc
    refine spec_caps _ (capsIn_one 3 (a3.map r_i64).length rfl) Tryz.mixed Tryz.func88 rfl rfl (by simp only [List.cons_append, List.nil_append, List.length]; decide +kernel) ?_
    refine swp_fresh (fun g => stL [(0, (.c (.ptr ⟨0, 1⟩ 0 0))), (1, (.agg (b_2ism a1))), (2, (.c (.ref ⟨1024000005, g⟩ 0 a2.length))), (3, (.c (.ref ⟨3073, 6⟩ 0 a3.length)))] [(⟨0, 1⟩, .box true (b_1wfs a0 ⟨1024000001, g⟩ ⟨1024000002, g⟩ ⟨1024000003, g⟩ ⟨1024000004, g⟩)), (⟨1024000001, g⟩, .arr true 1 (a0.Need.map r_i64)), (⟨1024000002, g⟩, .arr true 9 (a0.Writes.map r_api_Page)), (⟨1024000003, g⟩, .arr true 3 (a0.Out.Entries.map r_hashindex_Entry)), (⟨1024000004, g⟩, .arr true 1 (a0.Out.Check.map r_i64)), (⟨1024000005, g⟩, .arr true 3 (a2.map r_hashindex_Entry)), (⟨3073, 6⟩, .arr true 1 (a3.map r_i64))] (g + 1)) (ren_go (fun g S => [(⟨1024000001, g⟩, (keyB 9 (St.heap S ⟨0, 1⟩))), (⟨1024000002, g⟩, (keyB 10 (St.heap S ⟨0, 1⟩))), (⟨1024000003, g⟩, (keyB 20 (St.heap S ⟨0, 1⟩))), (⟨1024000004, g⟩, (keyB 21 (St.heap S ⟨0, 1⟩))), (⟨1024000005, g⟩, (keyT 0 (St.env S 2)))]) fun g S => []) fun g => ?_
    refine go_seq ?_
    refine go_seq ?_
    refine go_seq ?_
    refine swp_seq ?_
    refine go_seq ?_
    refine bsplit h (fun hb4 h => ?_) (fun hb4 h => ?_)
    ·refine if_go ?_
     refine seq_reg rfl (fun K hK => ?_)
     refine bind_of h (fun v5 hv5 h => ?_)
     simp -implicitDefEqProofs +decide only [go_sem, Nat.reduceAdd, Int.reduceToNat, hb4]
     refine call_go [0, 0] false (btree_Node_fill_ok ⟨G.glob, fun k => if k = (⟨1024 * 3 + 1, 2 * 3⟩ : Key) then some (a3.map r_i64).length else none⟩ hG0 _ _ _ hv5) ?_
     refine bind_of h (fun v6 hv6 h => ?_)
     simp -implicitDefEqProofs +decide only [go_sem, Nat.reduceAdd, Int.reduceToNat, hb4]
     refine call_go [0, 1, 1] true (btree_run_done_ok ⟨G.glob, fun k => if k = (⟨1024 * 3 + 1, 2 * 3⟩ : Key) then some (a3.map r_i64).length else none⟩ hG0 _ _ _ _ hv6) ?_
     simp -implicitDefEqProofs +decide only [go_sem, Nat.reduceAdd, Int.reduceToNat, hb4]
     refine hK _ ?_
     refine swp_ret ?_
     with_reducible repeat first|apply nn|apply nb|apply nr|apply nc|apply ne|apply nq|apply nx rfl
     obtain rfl := some_eq h
     exact rt
    ·refine el_go ?_
     refine swp_skip ?_
     with_reducible repeat first|apply nn|apply nb|apply nr|apply nc|apply ne|apply nq|apply nx rfl
     refine seq_reg rfl (fun K hK => ?_)
     refine psplit h (fun hp7 h => ?_)
     simp -implicitDefEqProofs +decide only [go_sem, Nat.reduceAdd, Int.reduceToNat, hp7, hb4]
     refine opt_eq (growX_full (n := a3.length) (c := (a3.map r_i64).length) (by simp) (by simp only [go_sem] <;> rfl) (by simp only [go_sem] <;> exact ⟨rfl, rfl⟩) (by simp only [go_sem] <;> rfl) (by simp -implicitDefEqProofs +decide only [go_sem] <;> rfl) (by simp -implicitDefEqProofs +decide only [go_sem]) (by simp [go_sem]) (by simp) (by simpa [go_sem] using hp7)) ?_
     refine bind_of h (fun v8 hv8 h => ?_)
     simp -implicitDefEqProofs +decide only [go_sem, Nat.reduceAdd, Int.reduceToNat, hb4]
     refine call_go [0, 2] true (btree_run_fresh_v2_ok ⟨G.glob, fun k => if k = (⟨1024 * 3 + 1, 2 * 3⟩ : Key) then some (a3.map r_i64).length else none⟩ hG0 _ _ _ hv8) ?_
     simp -implicitDefEqProofs +decide only [go_sem, Nat.reduceAdd, Int.reduceToNat, hb4]
     refine hK _ ?_
     refine swp_fresh (fun g => stL [(0, (.c (.ptr ⟨0, 1⟩ 0 0))), (2, (.c (.ref ⟨1024000010, g⟩ 0 a2.length))), (3, (.c (.ref ⟨3073, 6⟩ 0 a3.length))), (5, (.c (.ptr ⟨1024000011, g⟩ 0 0))), (8, (.c (.ptr ⟨1024000012, g⟩ 0 0))), (9, (.c (.ptr ⟨1024000013, g⟩ 0 0))), (10, (.c (.p (.bool v8.2.1))))] [(⟨0, 1⟩, .box true (b_1wfs v8.2.2 ⟨1024000006, g⟩ ⟨1024000007, g⟩ ⟨1024000008, g⟩ ⟨1024000009, g⟩)), (⟨1024000006, g⟩, .arr true 1 (v8.2.2.Need.map r_i64)), (⟨1024000007, g⟩, .arr true 9 (v8.2.2.Writes.map r_api_Page)), (⟨1024000008, g⟩, .arr true 3 (v8.2.2.Out.Entries.map r_hashindex_Entry)), (⟨1024000009, g⟩, .arr true 1 (v8.2.2.Out.Check.map r_i64)), (⟨1024000010, g⟩, .arr true 3 (a2.map r_hashindex_Entry)), (⟨3073, 6⟩, .arr true 1 (a3.map r_i64)), (⟨1024000011, g⟩, .box true (b_2ism a1)), (⟨1024000012, g⟩, .box true [(.p (.int .i64 a1.Node.Level)), (.p (.bool a1.Node.Leftmost)), (.p (.bool a1.Node.Dead)), (.p (.int .u32 a1.Node.High)), (.p (.int .i64 a1.Node.Right.Line)), (.p (.int .i64 a1.Node.Right.Gen)), (.ref ⟨1024000010, g⟩ 0 a2.length)]), (⟨1024000013, g⟩, .box true (b_mq86 v8.1))] (g + 1)) (ren_go (fun g S => [(⟨1024000006, g⟩, (keyB 9 (St.heap S ⟨0, 1⟩))), (⟨1024000007, g⟩, (keyB 10 (St.heap S ⟨0, 1⟩))), (⟨1024000008, g⟩, (keyB 20 (St.heap S ⟨0, 1⟩))), (⟨1024000009, g⟩, (keyB 21 (St.heap S ⟨0, 1⟩))), (⟨1024000010, g⟩, (keyT 0 (St.env S 2))), (⟨1024000011, g⟩, (keyT 0 (St.env S 5))), (⟨1024000012, g⟩, (keyT 0 (St.env S 8))), (⟨1024000013, g⟩, (keyT 0 (St.env S 9)))]) fun g S => []) fun g => ?_
     refine swp_seq ?_
     refine go_seq ?_
     refine bsplit h (fun hb10 h => ?_) (fun hb10 h => ?_)
     ·refine if_go ?_
      refine swp_ret ?_
      with_reducible repeat first|apply nn|apply nb|apply nr|apply nc|apply ne|apply nq|apply nx rfl
      obtain rfl := some_eq h
      exact rt
     ·refine el_go ?_
      refine swp_skip ?_
      with_reducible repeat first|apply nn|apply nb|apply nr|apply nc|apply ne|apply nq|apply nx rfl
      refine seq_drw rfl (fun K hK => ?_)
      refine psplit h (fun hp11 h => ?_)
      have qhp11 : 3 + ((a2.length : Int) - 3).toNat ≤ a2.length := by omega
      simp -implicitDefEqProofs +decide only [go_sem, Nat.reduceAdd, Int.reduceToNat, hp11, hb4, hb10, qhp11]
      refine draw_go (by kernel_rfl) ?_
      refine hK _ ?_
      refine seq_drw rfl (fun K hK => ?_)
      refine bind_of h (fun e12 he12 h => ?_)
      obtain ⟨he12_0, he12_1, he12_2⟩ := idx_some he12
      replace he12_2 : (a2)[2]? = some e12 := he12_2
      refine bind_of h (fun v13 hv13 h => ?_)
      simp -implicitDefEqProofs +decide only [go_sem, Nat.reduceAdd, Int.reduceToNat, he12_0, he12_1, he12_2, hb4, hb10, qhp11]
      refine call_go [0] false (pointer_At_ok ⟨G.glob, fun k => if k = (⟨1024 * 3 + 1, 2 * 3⟩ : Key) then some (a3.map r_i64).length else none⟩ hG0 _ _ hv13) ?_
      refine psplit h (fun hp14 h => ?_)
      have qhp14 : 3 ≤ a2.length := by omega
      simp -implicitDefEqProofs +decide only [go_sem, Nat.reduceAdd, Int.reduceToNat, hp14, hb4, hb10, qhp11, qhp14]
      refine draw_go (by kernel_rfl) ?_
      refine hK _ ?_
      refine go_seq ?_
      refine swp_drw rfl (fun K hK => ?_)
      refine bind_of h (fun v15 hv15 h => ?_)
      simp -implicitDefEqProofs +decide only [go_sem, Nat.reduceAdd, Int.reduceToNat, hb4, hb10, qhp11, qhp14]
      refine call_go [0, 0] false (btree_Node_fill_ok ⟨G.glob, fun k => if k = (⟨1024 * 3 + 1, 2 * 3⟩ : Key) then some (a3.map r_i64).length else none⟩ hG0 _ _ _ hv15) ?_
      refine bind_of h (fun v16 hv16 h => ?_)
      simp -implicitDefEqProofs +decide only [go_sem, Nat.reduceAdd, Int.reduceToNat, hb4, hb10, qhp11, qhp14]
      refine call_go [0, 0] false (btree_Node_fill_ok ⟨G.glob, fun k => if k = (⟨1024 * 3 + 1, 2 * 3⟩ : Key) then some (a3.map r_i64).length else none⟩ hG0 _ _ _ hv16) ?_
      refine bind_of h (fun v17 hv17 h => ?_)
      simp -implicitDefEqProofs +decide only [go_sem, Nat.reduceAdd, Int.reduceToNat, hb4, hb10, qhp11, qhp14]
      refine call_go [0, 1, 1] true (btree_run_done_ok ⟨G.glob, fun k => if k = (⟨1024 * 3 + 1, 2 * 3⟩ : Key) then some (a3.map r_i64).length else none⟩ hG0 _ _ _ _ hv17) ?_
      simp -implicitDefEqProofs +decide only [go_sem, Nat.reduceAdd, Int.reduceToNat, hb4, hb10, qhp11, qhp14]
      refine draw_go (by kernel_rfl) ?_
      refine hK _ ?_
      with_reducible repeat first|apply nn|apply nb|apply nr|apply nc|apply ne|apply nq|apply nx rfl
      obtain rfl := some_eq h
      exact rt
  · obtain ⟨m, rfl⟩ : ∃ m, c = a3.length + (m + 1) := ⟨c - a3.length - 1, by simp only [List.length_map] at hc; omega⟩
    refine spec_of Tryz.mixed Tryz.func88 rfl rfl (by simp only [List.cons_append, List.nil_append, List.length]; decide +kernel) ?_
    refine swp_fresh (fun g => stL [(0, (.c (.ptr ⟨0, 1⟩ 0 0))), (1, (.agg (b_2ism a1))), (2, (.c (.ref ⟨1024000005, g⟩ 0 a2.length))), (3, (.c (.ref ⟨3073, 6⟩ 0 a3.length)))] [(⟨0, 1⟩, .box true (b_1wfs a0 ⟨1024000001, g⟩ ⟨1024000002, g⟩ ⟨1024000003, g⟩ ⟨1024000004, g⟩)), (⟨1024000001, g⟩, .arr true 1 (a0.Need.map r_i64)), (⟨1024000002, g⟩, .arr true 9 (a0.Writes.map r_api_Page)), (⟨1024000003, g⟩, .arr true 3 (a0.Out.Entries.map r_hashindex_Entry)), (⟨1024000004, g⟩, .arr true 1 (a0.Out.Check.map r_i64)), (⟨1024000005, g⟩, .arr true 3 (a2.map r_hashindex_Entry)), (⟨3073, 6⟩, .arr true 1 (a3.map r_i64 ++ ((List.replicate 1 PV.any) :: (List.replicate m (List.replicate 1 PV.any)))))] (g + 1)) (ren_go (fun g S => [(⟨1024000001, g⟩, (keyB 9 (St.heap S ⟨0, 1⟩))), (⟨1024000002, g⟩, (keyB 10 (St.heap S ⟨0, 1⟩))), (⟨1024000003, g⟩, (keyB 20 (St.heap S ⟨0, 1⟩))), (⟨1024000004, g⟩, (keyB 21 (St.heap S ⟨0, 1⟩))), (⟨1024000005, g⟩, (keyT 0 (St.env S 2)))]) fun g S => []) fun g => ?_
    refine go_seq ?_
    refine go_seq ?_
    refine go_seq ?_
    refine swp_seq ?_
    refine go_seq ?_
    refine bsplit h (fun hb4 h => ?_) (fun hb4 h => ?_)
    ·refine if_go ?_
     refine seq_reg rfl (fun K hK => ?_)
     refine bind_of h (fun v5 hv5 h => ?_)
     simp -implicitDefEqProofs +decide only [go_sem, Nat.reduceAdd, Int.reduceToNat, hb4]
     refine call_go [0, 0] false (btree_Node_fill_ok (cG G) hG0 _ _ _ hv5) ?_
     refine bind_of h (fun v6 hv6 h => ?_)
     simp -implicitDefEqProofs +decide only [go_sem, Nat.reduceAdd, Int.reduceToNat, hb4]
     refine call_go [0, 1, 1] true (btree_run_done_ok (cG G) hG0 _ _ _ _ hv6) ?_
     simp -implicitDefEqProofs +decide only [go_sem, Nat.reduceAdd, Int.reduceToNat, hb4]
     refine hK _ ?_
     refine swp_ret ?_
     with_reducible repeat first|apply nn|apply nb|apply nr|apply nc|apply ne|apply nq|apply nx rfl
     obtain rfl := some_eq h
     exact rt
    ·refine el_go ?_
     refine swp_skip ?_
     with_reducible repeat first|apply nn|apply nb|apply nr|apply nc|apply ne|apply nq|apply nx rfl
     refine seq_reg rfl (fun K hK => ?_)
     refine psplit h (fun hp7 h => ?_)
     simp -implicitDefEqProofs +decide only [go_sem, Nat.reduceAdd, Int.reduceToNat, hp7, hb4]
     refine opt_eq appendRef_in ?_
     refine bind_of h (fun v8 hv8 h => ?_)
     simp -implicitDefEqProofs +decide only [go_sem, Nat.reduceAdd, Int.reduceToNat, hb4]
     refine call_go [0, 2] true (btree_run_fresh_v2_ok (cG G) hG0 _ _ _ hv8) ?_
     simp -implicitDefEqProofs +decide only [go_sem, Nat.reduceAdd, Int.reduceToNat, hb4]
     refine hK _ ?_
     refine swp_fresh (fun g => stL [(0, (.c (.ptr ⟨0, 1⟩ 0 0))), (2, (.c (.ref ⟨1024000010, g⟩ 0 a2.length))), (3, (.c (.ref ⟨3073, 6⟩ 0 a3.length))), (5, (.c (.ptr ⟨1024000011, g⟩ 0 0))), (8, (.c (.ptr ⟨1024000012, g⟩ 0 0))), (9, (.c (.ptr ⟨1024000013, g⟩ 0 0))), (10, (.c (.p (.bool v8.2.1))))] [(⟨0, 1⟩, .box true (b_1wfs v8.2.2 ⟨1024000006, g⟩ ⟨1024000007, g⟩ ⟨1024000008, g⟩ ⟨1024000009, g⟩)), (⟨1024000006, g⟩, .arr true 1 (v8.2.2.Need.map r_i64)), (⟨1024000007, g⟩, .arr true 9 (v8.2.2.Writes.map r_api_Page)), (⟨1024000008, g⟩, .arr true 3 (v8.2.2.Out.Entries.map r_hashindex_Entry)), (⟨1024000009, g⟩, .arr true 1 (v8.2.2.Out.Check.map r_i64)), (⟨1024000010, g⟩, .arr true 3 (a2.map r_hashindex_Entry)), (⟨3073, 6⟩, .arr true 1 ((a3 ++ ([a1.Page.Line] : List Int)).map r_i64)), (⟨1024000011, g⟩, .box true (b_2ism a1)), (⟨1024000012, g⟩, .box true [(.p (.int .i64 a1.Node.Level)), (.p (.bool a1.Node.Leftmost)), (.p (.bool a1.Node.Dead)), (.p (.int .u32 a1.Node.High)), (.p (.int .i64 a1.Node.Right.Line)), (.p (.int .i64 a1.Node.Right.Gen)), (.ref ⟨1024000010, g⟩ 0 a2.length)]), (⟨1024000013, g⟩, .box true (b_mq86 v8.1))] (g + 1)) (ren_go (fun g S => [(⟨1024000006, g⟩, (keyB 9 (St.heap S ⟨0, 1⟩))), (⟨1024000007, g⟩, (keyB 10 (St.heap S ⟨0, 1⟩))), (⟨1024000008, g⟩, (keyB 20 (St.heap S ⟨0, 1⟩))), (⟨1024000009, g⟩, (keyB 21 (St.heap S ⟨0, 1⟩))), (⟨1024000010, g⟩, (keyT 0 (St.env S 2))), (⟨1024000011, g⟩, (keyT 0 (St.env S 5))), (⟨1024000012, g⟩, (keyT 0 (St.env S 8))), (⟨1024000013, g⟩, (keyT 0 (St.env S 9)))]) fun g S => []) fun g => ?_
     refine swp_seq ?_
     refine go_seq ?_
     refine bsplit h (fun hb10 h => ?_) (fun hb10 h => ?_)
     ·refine if_go ?_
      refine swp_ret ?_
      with_reducible repeat first|apply nn|apply nb|apply nr|apply nc|apply ne|apply nq|apply nx rfl
      obtain rfl := some_eq h
      exact rt
     ·refine el_go ?_
      refine swp_skip ?_
      with_reducible repeat first|apply nn|apply nb|apply nr|apply nc|apply ne|apply nq|apply nx rfl
      refine seq_drw rfl (fun K hK => ?_)
      refine psplit h (fun hp11 h => ?_)
      have qhp11 : 3 + ((a2.length : Int) - 3).toNat ≤ a2.length := by omega
      simp -implicitDefEqProofs +decide only [go_sem, Nat.reduceAdd, Int.reduceToNat, hp11, hb4, hb10, qhp11]
      refine draw_go (by kernel_rfl) ?_
      refine hK _ ?_
      refine seq_drw rfl (fun K hK => ?_)
      refine bind_of h (fun e12 he12 h => ?_)
      obtain ⟨he12_0, he12_1, he12_2⟩ := idx_some he12
      replace he12_2 : (a2)[2]? = some e12 := he12_2
      refine bind_of h (fun v13 hv13 h => ?_)
      simp -implicitDefEqProofs +decide only [go_sem, Nat.reduceAdd, Int.reduceToNat, he12_0, he12_1, he12_2, hb4, hb10, qhp11]
      refine call_go [0] false (pointer_At_ok (cG G) hG0 _ _ hv13) ?_
      refine psplit h (fun hp14 h => ?_)
      have qhp14 : 3 ≤ a2.length := by omega
      simp -implicitDefEqProofs +decide only [go_sem, Nat.reduceAdd, Int.reduceToNat, hp14, hb4, hb10, qhp11, qhp14]
      refine draw_go (by kernel_rfl) ?_
      refine hK _ ?_
      refine go_seq ?_
      refine swp_drw rfl (fun K hK => ?_)
      refine bind_of h (fun v15 hv15 h => ?_)
      simp -implicitDefEqProofs +decide only [go_sem, Nat.reduceAdd, Int.reduceToNat, hb4, hb10, qhp11, qhp14]
      refine call_go [0, 0] false (btree_Node_fill_ok (cG G) hG0 _ _ _ hv15) ?_
      refine bind_of h (fun v16 hv16 h => ?_)
      simp -implicitDefEqProofs +decide only [go_sem, Nat.reduceAdd, Int.reduceToNat, hb4, hb10, qhp11, qhp14]
      refine call_go [0, 0] false (btree_Node_fill_ok (cG G) hG0 _ _ _ hv16) ?_
      refine bind_of h (fun v17 hv17 h => ?_)
      simp -implicitDefEqProofs +decide only [go_sem, Nat.reduceAdd, Int.reduceToNat, hb4, hb10, qhp11, qhp14]
      refine call_go [0, 1, 1] true (btree_run_done_ok (cG G) hG0 _ _ _ _ hv17) ?_
      simp -implicitDefEqProofs +decide only [go_sem, Nat.reduceAdd, Int.reduceToNat, hb4, hb10, qhp11, qhp14]
      refine draw_go (by kernel_rfl) ?_
      refine hK _ ?_
      with_reducible repeat first|apply nn|apply nb|apply nr|apply nc|apply ne|apply nq|apply nx rfl
      obtain rfl := some_eq h
      exact rt
end Go.Sh
end
section
namespace Go.Sh
open Go.Proofs
noncomputable def slices_Insert (a0 : (List hashindex_Entry)) (a1 : Int) (a2 : (List hashindex_Entry)) : Option (List hashindex_Entry) :=
  if 0 ≤ a1 ∧ a1 ≤ (a0.length : Int) then
    if ((a2.length : Int) == 0) = true then
      some a0
    else
      if (a1 == (a0.length : Int)) = true then
        if (a0.length + a2.length) * 24 ≤ maxRows ∧ a0.length + a2.length ≤ maxRows then
          some (a0 ++ a2)
        else none
      else
        none
  else none
theorem slices_Insert_ok (G : Glob) (hG0 : G.glob 0 = some [(.int .i64 0), (.int .i64 0)]) (a0 : (List hashindex_Entry)) (a1 : Int) (a2 : (List hashindex_Entry)) (res : (List hashindex_Entry)) (h : slices_Insert a0 a1 a2 = some res) : Spec Tryz.prog G 89 [.cell (.own 3 (a0.map r_hashindex_Entry)), .cell (.p (.int .i64 a1)), .cell (.p (.rows (a2.map r_hashindex_Entry)))] (fun r ios => r = .cell (.own 3 (res.map r_hashindex_Entry)) ∧ ios = []) := by
  rw [slices_Insert] at h
  refine spec_of Tryz.mixed Tryz.func89 rfl rfl (by simp only [List.length]; decide +kernel) ?_
  refine swp_fresh (fun g => stL [(0, (.c (.ref ⟨1024000001, g⟩ 0 a0.length))), (1, (.c (.p (.int .i64 a1)))), (2, (.c (.p (.rows (a2.map r_hashindex_Entry)))))] [(⟨1024000001, g⟩, .arr true 3 (a0.map r_hashindex_Entry))] (g + 1)) (ren_go (fun g S => [(⟨1024000001, g⟩, (keyT 0 (St.env S 0)))]) fun g S => []) fun g => ?_
  refine go_seq ?_
  refine seq_reg rfl (fun K hK => ?_)
  refine psplit h (fun hp1 h => ?_)
  have qhp1 : a1.toNat + ((a0.length : Int) - a1).toNat ≤ a0.length := by omega
  simp -implicitDefEqProofs +decide only [go_sem, Nat.reduceAdd, Int.reduceToNat, hp1, qhp1]
  refine hK _ ?_
  refine go_seq ?_
  refine swp_seq ?_
  refine go_seq ?_
  refine bsplit h (fun hb3 h => ?_) (fun hb3 h => ?_)
  ·refine if_go ?_
   refine go_seq ?_
   refine swp_ret ?_
   with_reducible repeat first|apply nn|apply nb|apply nr|apply nc|apply ne|apply nq|apply nx rfl
   obtain rfl := some_eq h
   exact rt
  ·refine el_go ?_
   refine swp_skip ?_
   with_reducible repeat first|apply nn|apply nb|apply nr|apply nc|apply ne|apply nq|apply nx rfl
   refine go_seq ?_
   refine swp_seq ?_
   refine go_seq ?_
   refine bsplit h (fun hb6 h => ?_) (fun hb6 h => ?_)
   ·refine if_go ?_
    refine seq_reg rfl (fun K hK => ?_)
    refine psplit h (fun hp7 h => ?_)
    simp -implicitDefEqProofs +decide only [go_sem, Nat.reduceAdd, Int.reduceToNat, qhp1, hb3, hb6]
    first | refine opt_eq (appendRef_n (by simp) (by simpa [maps] using hp7)) ?_ | refine opt_eq (if_pos (by simpa [maps] using hp7)) ?_
    simp -implicitDefEqProofs +decide only [go_sem, Nat.reduceAdd, Int.reduceToNat, qhp1, hb3, hb6]
    refine hK _ ?_
    refine swp_fresh (fun g => stL [(6, (.c (.ref ⟨1024000002, g⟩ 0 (a0 ++ a2).length)))] [(⟨1024000002, g⟩, .arr true 3 ((a0 ++ a2).map r_hashindex_Entry))] (g + 1)) (ren_go (fun g S => [(⟨1024000002, g⟩, (keyT 0 (St.env S 6)))]) fun g S => []) fun g => ?_
    refine swp_ret ?_
    with_reducible repeat first|apply nn|apply nb|apply nr|apply nc|apply ne|apply nq|apply nx rfl
    obtain rfl := some_eq h
    exact rt
   ·cases h
end Go.Sh
end
section
namespace Go.Sh
open Go.Proofs
noncomputable def btree_run_insert (a0 : btree_run) : Option btree_run :=
  if ((a0.Root.Line == 0) && (a0.Root.Gen == 0)) = true then
    (btree_run_plant a0 (⟨a0.Op.Key, a0.Op.To⟩ : hashindex_Entry)).bind fun v4 =>
    some v4
  else
    (btree_run_leaf a0).bind fun v5 =>
    if (!v5.2.1) = true then
      some v5.2.2
    else
      (btree_Node_search v5.1.Node v5.2.2.Op.Key).bind fun v8 =>
      if v8.2 = true then
        (btree_run_fail v5.2.2 17 ([v5.1.Page.Line] : List Int)).bind fun v12 =>
        some v12.2
      else
        (slices_Insert v5.1.Node.Entries v8.1 ([(⟨a0.Op.Key, a0.Op.To⟩ : hashindex_Entry)] : List hashindex_Entry)).bind fun v13 =>
        (btree_run_store v5.2.2 (⟨v5.1.Page, (⟨v5.1.Node.Level, v5.1.Node.Leftmost, v5.1.Node.Dead, v5.1.Node.High, v5.1.Node.Right, []⟩ : btree_Node)⟩ : btree_found) v13 ([] : List Int)).bind fun v14 =>
        some v14
theorem btree_run_insert_ok (G : Glob) (hG0 : G.glob 0 = some [(.int .i64 0), (.int .i64 0)]) (a0 : btree_run) (res : btree_run) (h : btree_run_insert a0 = some res) : Spec Tryz.prog G 62 [.io (g_rhlf a0)] (fun r ios => r = .tup [] ∧ ios = [.io (g_rhlf res)]) := by
  rw [btree_run_insert] at h
  refine spec_of Tryz.mixed Tryz.func62 rfl rfl (by simp only [List.length]; decide +kernel) ?_
  refine swp_fresh (fun g => stL [(0, (.c (.ptr ⟨0, 1⟩ 0 0)))] [(⟨0, 1⟩, .box true (b_1wfs a0 ⟨1024000001, g⟩ ⟨1024000002, g⟩ ⟨1024000003, g⟩ ⟨1024000004, g⟩)), (⟨1024000001, g⟩, .arr true 1 (a0.Need.map r_i64)), (⟨1024000002, g⟩, .arr true 9 (a0.Writes.map r_api_Page)), (⟨1024000003, g⟩, .arr true 3 (a0.Out.Entries.map r_hashindex_Entry)), (⟨1024000004, g⟩, .arr true 1 (a0.Out.Check.map r_i64))] (g + 1)) (ren_go (fun g S => [(⟨1024000001, g⟩, (keyB 9 (St.heap S ⟨0, 1⟩))), (⟨1024000002, g⟩, (keyB 10 (St.heap S ⟨0, 1⟩))), (⟨1024000003, g⟩, (keyB 20 (St.heap S ⟨0, 1⟩))), (⟨1024000004, g⟩, (keyB 21 (St.heap S ⟨0, 1⟩)))]) fun g S => []) fun g => ?_
  refine go_seqD ?_
  refine swp_seq ?_
  refine seq_drw rfl (fun K hK => ?_)
  simp -implicitDefEqProofs +decide only [go_sem, Nat.reduceAdd, Int.reduceToNat, hG0]
  refine draw_go (by kernel_rfl) ?_
  refine hK _ ?_
  refine bsplit h (fun hb3 h => ?_) (fun hb3 h => ?_)
  ·refine if_go ?_
   refine seq_reg rfl (fun K hK => ?_)
   refine bind_of h (fun v4 hv4 h => ?_)
   simp -implicitDefEqProofs +decide only [go_sem, Nat.reduceAdd, Int.reduceToNat, hb3]
   refine call_go [0, 0] true (btree_run_plant_ok (cG G) hG0 _ _ _ hv4) ?_
   simp -implicitDefEqProofs +decide only [go_sem, Nat.reduceAdd, Int.reduceToNat, hb3]
   refine hK _ ?_
   refine swp_ret ?_
   with_reducible repeat first|apply nn|apply nb|apply nr|apply nc|apply ne|apply nq|apply nx rfl
   obtain rfl := some_eq h
   exact rt
  ·refine el_go ?_
   refine swp_skip ?_
   with_reducible repeat first|apply nn|apply nb|apply nr|apply nc|apply ne|apply nq|apply nx rfl
   refine seq_reg rfl (fun K hK => ?_)
   refine bind_of h (fun v5 hv5 h => ?_)
   simp -implicitDefEqProofs +decide only [go_sem, Nat.reduceAdd, Int.reduceToNat, hb3]
   refine call_go [0] true (btree_run_leaf_ok (cG G) hG0 _ _ hv5) ?_
   simp -implicitDefEqProofs +decide only [go_sem, Nat.reduceAdd, Int.reduceToNat, hb3]
   refine hK _ ?_
   refine swp_seq ?_
   refine go_seq ?_
   refine bsplit h (fun hb7 h => ?_) (fun hb7 h => ?_)
   ·refine if_go ?_
    refine swp_ret ?_
    with_reducible repeat first|apply nn|apply nb|apply nr|apply nc|apply ne|apply nq|apply nx rfl
    obtain rfl := some_eq h
    exact rt
   ·refine el_go ?_
    refine swp_skip ?_
    with_reducible repeat first|apply nn|apply nb|apply nr|apply nc|apply ne|apply nq|apply nx rfl
    refine seq_drw rfl (fun K hK => ?_)
    refine bind_of h (fun v8 hv8 h => ?_)
    simp -implicitDefEqProofs +decide only [go_sem, Nat.reduceAdd, Int.reduceToNat, hb3, hb7]
    refine call_go [0, 0] false (btree_Node_search_ok (cG G) hG0 _ _ _ hv8) ?_
    simp -implicitDefEqProofs +decide only [go_sem, Nat.reduceAdd, Int.reduceToNat, hb3, hb7]
    refine draw_go (by kernel_rfl) ?_
    refine hK _ ?_
    refine swp_seq ?_
    refine go_seq ?_
    refine bsplit h (fun hb11 h => ?_) (fun hb11 h => ?_)
    ·refine if_go ?_
     refine seq_reg rfl (fun K hK => ?_)
     refine bind_of h (fun v12 hv12 h => ?_)
     simp -implicitDefEqProofs +decide only [go_sem, Nat.reduceAdd, Int.reduceToNat, hb3, hb7, hb11]
     refine call_go [0, 0, 1] true (btree_run_fail_ok (cG G) hG0 _ _ _ _ hv12) ?_
     simp -implicitDefEqProofs +decide only [go_sem, Nat.reduceAdd, Int.reduceToNat, hb3, hb7, hb11]
     refine hK _ ?_
     refine swp_ret ?_
     with_reducible repeat first|apply nn|apply nb|apply nr|apply nc|apply ne|apply nq|apply nx rfl
     obtain rfl := some_eq h
     exact rt
    ·refine el_go ?_
     refine swp_skip ?_
     with_reducible repeat first|apply nn|apply nb|apply nr|apply nc|apply ne|apply nq|apply nx rfl
     refine swp_drw rfl (fun K hK => ?_)
     refine bind_of h (fun v13 hv13 h => ?_)
     simp -implicitDefEqProofs +decide only [go_sem, Nat.reduceAdd, Int.reduceToNat, hb3, hb7, hb11]
     refine call_go [1, 0, 0] false (slices_Insert_ok (cG G) hG0 _ _ _ _ hv13) ?_
     refine bind_of h (fun v14 hv14 h => ?_)
     simp -implicitDefEqProofs +decide only [go_sem, Nat.reduceAdd, Int.reduceToNat, hb3, hb7, hb11]
     refine call_nil [0, 3, 1, 1] true (btree_run_store_ok (cG G) hG0 _ _ _ _ _ hv14) ?_
     simp -implicitDefEqProofs +decide only [go_sem, Nat.reduceAdd, Int.reduceToNat, hb3, hb7, hb11]
     refine draw_go (by kernel_rfl) ?_
     refine hK _ ?_
     with_reducible repeat first|apply nn|apply nb|apply nr|apply nc|apply ne|apply nq|apply nx rfl
     obtain rfl := some_eq h
     exact rt
end Go.Sh
end
section
namespace Go.Sh
open Go.Proofs
noncomputable def pointer_Open (a0 : (List api_Page)) (a1 : pointer_Pointer) (a2 : Int) : Option (api_Page × Bool × Int) :=
  (pointer_lookup a0 a1 a2 true).bind fun v1 =>
  some (v1.1, v1.2.1, v1.2.2)
theorem pointer_Open_ok (G : Glob) (hG0 : G.glob 0 = some [(.int .i64 0), (.int .i64 0)]) (a0 : (List api_Page)) (a1 : pointer_Pointer) (a2 : Int) (res : (api_Page × Bool × Int)) (h : pointer_Open a0 a1 a2 = some res) : Spec Tryz.prog G 37 [.cell (.p (.rows (a0.map r_api_Page))), .agg [.p (.int .i64 a1.Line), .p (.int .i64 a1.Gen)], .cell (.p (.int .i64 a2))] (fun r ios => r = .tup [.agg (g_yylp res.1), .cell (.p (.bool res.2.1)), .cell (.p (.int .i64 res.2.2))] ∧ ios = []) := by
  rw [pointer_Open] at h
  refine spec_of Tryz.mixed Tryz.func37 rfl rfl (by simp only [List.length]; decide +kernel) ?_
  refine swp_fresh (fun g => stL [(0, (.c (.p (.rows (a0.map r_api_Page))))), (1, (.agg [(.p (.int .i64 a1.Line)), (.p (.int .i64 a1.Gen))])), (2, (.c (.p (.int .i64 a2))))] [] (g + 1)) (ren_go (fun g S => []) fun g S => []) fun g => ?_
  refine go_seq ?_
  refine seq_reg rfl (fun K hK => ?_)
  refine bind_of h (fun v1 hv1 h => ?_)
  simp -implicitDefEqProofs +decide only [go_sem, Nat.reduceAdd, Int.reduceToNat]
  refine call_go [0, 0, 0, 0] false (pointer_lookup_ok (cG G) hG0 _ _ _ _ _ hv1) ?_
  simp -implicitDefEqProofs +decide only [go_sem, Nat.reduceAdd, Int.reduceToNat]
  refine hK _ ?_
  refine swp_ret ?_
  with_reducible repeat first|apply nn|apply nb|apply nr|apply nc|apply ne|apply nq|apply nx rfl
  obtain rfl := some_eq h
  exact rt
end Go.Sh
end
section
namespace Go.Sh
open Go.Proofs
noncomputable def btree_run_look_v2 (a0 : btree_run) (a1 : pointer_Pointer) : Option (btree_found × Bool × btree_run) :=
  (pointer_Open a0.Known a1 4).bind fun v1 =>
  if (v1.2.2 != 0) = true then
    (btree_run_fail a0 v1.2.2 ([] : List Int)).bind fun v5 =>
    some ((⟨(⟨0, 0, (⟨0, 0, 0, 0, 0, 0, 0⟩ : (A7 Int))⟩ : api_Page), (⟨0, false, false, 0, (⟨0, 0⟩ : pointer_Pointer), ([] : List hashindex_Entry)⟩ : btree_Node)⟩ : btree_found), v5.1, v5.2)
  else
    if (!v1.2.1) = true then
      (btree_run_wait a0 a1.Line).bind fun v9 =>
      some ((⟨(⟨0, 0, (⟨0, 0, 0, 0, 0, 0, 0⟩ : (A7 Int))⟩ : api_Page), (⟨0, false, false, 0, (⟨0, 0⟩ : pointer_Pointer), ([] : List hashindex_Entry)⟩ : btree_Node)⟩ : btree_found), v9.1, v9.2)
    else
      (btree_ReadNode v1.1).bind fun v10 =>
      if (v10.2 != 0) = true then
        (btree_run_fail a0 v10.2 ([] : List Int)).bind fun v14 =>
        some ((⟨(⟨0, 0, (⟨0, 0, 0, 0, 0, 0, 0⟩ : (A7 Int))⟩ : api_Page), (⟨0, false, false, 0, (⟨0, 0⟩ : pointer_Pointer), ([] : List hashindex_Entry)⟩ : btree_Node)⟩ : btree_found), v14.1, v14.2)
      else
        some ((⟨v1.1, v10.1⟩ : btree_found), true, a0)
theorem btree_run_look_v2_ok (G : Glob) (hG0 : G.glob 0 = some [(.int .i64 0), (.int .i64 0)]) (a0 : btree_run) (a1 : pointer_Pointer) (res : (btree_found × Bool × btree_run)) (h : btree_run_look_v2 a0 a1 = some res) : Spec Tryz.prog G 94 [.io (g_rhlf a0), .agg [.p (.int .i64 a1.Line), .p (.int .i64 a1.Gen)], .cell (.p (.clo 37 []))] (fun r ios => r = .tup [.agg (g_ggvz res.1), .cell (.p (.bool res.2.1))] ∧ ios = [.io (g_rhlf res.2.2)]) := by
  rw [btree_run_look_v2] at h
  refine spec_of Tryz.mixed Tryz.func94 rfl rfl (by simp only [List.length]; decide +kernel) ?_
  refine swp_fresh (fun g => stL [(0, (.c (.ptr ⟨0, 1⟩ 0 0))), (1, (.agg [(.p (.int .i64 a1.Line)), (.p (.int .i64 a1.Gen))])), (2, (.c (.p (.clo 37 []))))] [(⟨0, 1⟩, .box true (b_1wfs a0 ⟨1024000001, g⟩ ⟨1024000002, g⟩ ⟨1024000003, g⟩ ⟨1024000004, g⟩)), (⟨1024000001, g⟩, .arr true 1 (a0.Need.map r_i64)), (⟨1024000002, g⟩, .arr true 9 (a0.Writes.map r_api_Page)), (⟨1024000003, g⟩, .arr true 3 (a0.Out.Entries.map r_hashindex_Entry)), (⟨1024000004, g⟩, .arr true 1 (a0.Out.Check.map r_i64))] (g + 1)) (ren_go (fun g S => [(⟨1024000001, g⟩, (keyB 9 (St.heap S ⟨0, 1⟩))), (⟨1024000002, g⟩, (keyB 10 (St.heap S ⟨0, 1⟩))), (⟨1024000003, g⟩, (keyB 20 (St.heap S ⟨0, 1⟩))), (⟨1024000004, g⟩, (keyB 21 (St.heap S ⟨0, 1⟩)))]) fun g S => []) fun g => ?_
  refine go_seq ?_
  refine seq_drw rfl (fun K hK => ?_)
  refine bind_of h (fun v1 hv1 h => ?_)
  simp -implicitDefEqProofs +decide only [go_sem, Nat.reduceAdd, Int.reduceToNat]
  refine call_go [0, 0, 0] false (pointer_Open_ok (cG G) hG0 _ _ _ _ hv1) ?_
  simp -implicitDefEqProofs +decide only [go_sem, Nat.reduceAdd, Int.reduceToNat]
  refine draw_go (by kernel_rfl) ?_
  refine hK _ ?_
  refine swp_seq ?_
  refine go_seq ?_
  refine bsplit h (fun hb4 h => ?_) (fun hb4 h => ?_)
  ·refine if_go ?_
   refine seq_reg rfl (fun K hK => ?_)
   refine bind_of h (fun v5 hv5 h => ?_)
   simp -implicitDefEqProofs +decide only [go_sem, Nat.reduceAdd, Int.reduceToNat, hb4]
   refine call_nil [0, 0, 1] true (btree_run_fail_ok (cG G) hG0 _ _ _ _ hv5) ?_
   simp -implicitDefEqProofs +decide only [go_sem, Nat.reduceAdd, Int.reduceToNat, hb4]
   refine hK _ ?_
   refine swp_fresh (fun g => stL [(6, (.c (.ptr ⟨1024000005, g⟩ 0 0))), (7, (.c (.p (.bool v5.1))))] [(⟨1024000005, g⟩, .box true [(.p (.int .i64 0)), (.p (.int .u64 0)), (.p (.int .u64 0)), (.p (.int .u64 0)), (.p (.int .u64 0)), (.p (.int .u64 0)), (.p (.int .u64 0)), (.p (.int .u64 0)), (.p (.int .u64 0)), (.p (.int .i64 0)), (.p (.bool false)), (.p (.bool false)), (.p (.int .u32 0)), (.p (.int .i64 0)), (.p (.int .i64 0)), (.ref ⟨1024000006, g⟩ 0 ([] : List hashindex_Entry).length)]), (⟨1024000006, g⟩, .arr true 3 (([] : List hashindex_Entry).map r_hashindex_Entry)), (⟨0, 1⟩, .box true (b_1wfs v5.2 ⟨1024000007, g⟩ ⟨1024000008, g⟩ ⟨1024000009, g⟩ ⟨1024000010, g⟩)), (⟨1024000007, g⟩, .arr true 1 (v5.2.Need.map r_i64)), (⟨1024000008, g⟩, .arr true 9 (v5.2.Writes.map r_api_Page)), (⟨1024000009, g⟩, .arr true 3 (v5.2.Out.Entries.map r_hashindex_Entry)), (⟨1024000010, g⟩, .arr true 1 (v5.2.Out.Check.map r_i64))] (g + 1)) (ren_go (fun g S => [(⟨1024000005, g⟩, (keyT 0 (St.env S 6))), (⟨1024000007, g⟩, (keyB 9 (St.heap S ⟨0, 1⟩))), (⟨1024000008, g⟩, (keyB 10 (St.heap S ⟨0, 1⟩))), (⟨1024000009, g⟩, (keyB 20 (St.heap S ⟨0, 1⟩))), (⟨1024000010, g⟩, (keyB 21 (St.heap S ⟨0, 1⟩)))]) fun g S => [(⟨1024000006, g⟩, 3)]) fun g => ?_
   refine swp_ret ?_
   with_reducible repeat first|apply nn|apply nb|apply nr|apply nc|apply ne|apply nq|apply nx rfl
   obtain rfl := some_eq h
   exact rt
  ·refine el_go ?_
   refine swp_skip ?_
   with_reducible repeat first|apply nn|apply nb|apply nr|apply nc|apply ne|apply nq|apply nx rfl
   refine swp_seq ?_
   refine go_seq ?_
   refine bsplit h (fun hb8 h => ?_) (fun hb8 h => ?_)
   ·refine if_go ?_
    refine seq_reg rfl (fun K hK => ?_)
    refine bind_of h (fun v9 hv9 h => ?_)
    simp -implicitDefEqProofs +decide only [go_sem, Nat.reduceAdd, Int.reduceToNat, hb4, hb8]
    refine call_go [0, 0] true (btree_run_wait_ok (cG G) hG0 _ _ _ hv9) ?_
    simp -implicitDefEqProofs +decide only [go_sem, Nat.reduceAdd, Int.reduceToNat, hb4, hb8]
    refine hK _ ?_
    refine swp_fresh (fun g => stL [(6, (.c (.ptr ⟨1024000011, g⟩ 0 0))), (7, (.c (.p (.bool v9.1))))] [(⟨1024000011, g⟩, .box true [(.p (.int .i64 0)), (.p (.int .u64 0)), (.p (.int .u64 0)), (.p (.int .u64 0)), (.p (.int .u64 0)), (.p (.int .u64 0)), (.p (.int .u64 0)), (.p (.int .u64 0)), (.p (.int .u64 0)), (.p (.int .i64 0)), (.p (.bool false)), (.p (.bool false)), (.p (.int .u32 0)), (.p (.int .i64 0)), (.p (.int .i64 0)), (.ref ⟨1024000012, g⟩ 0 ([] : List hashindex_Entry).length)]), (⟨1024000012, g⟩, .arr true 3 (([] : List hashindex_Entry).map r_hashindex_Entry)), (⟨0, 1⟩, .box true (b_1wfs v9.2 ⟨1024000013, g⟩ ⟨1024000014, g⟩ ⟨1024000015, g⟩ ⟨1024000016, g⟩)), (⟨1024000013, g⟩, .arr true 1 (v9.2.Need.map r_i64)), (⟨1024000014, g⟩, .arr true 9 (v9.2.Writes.map r_api_Page)), (⟨1024000015, g⟩, .arr true 3 (v9.2.Out.Entries.map r_hashindex_Entry)), (⟨1024000016, g⟩, .arr true 1 (v9.2.Out.Check.map r_i64))] (g + 1)) (ren_go (fun g S => [(⟨1024000011, g⟩, (keyT 0 (St.env S 6))), (⟨1024000013, g⟩, (keyB 9 (St.heap S ⟨0, 1⟩))), (⟨1024000014, g⟩, (keyB 10 (St.heap S ⟨0, 1⟩))), (⟨1024000015, g⟩, (keyB 20 (St.heap S ⟨0, 1⟩))), (⟨1024000016, g⟩, (keyB 21 (St.heap S ⟨0, 1⟩)))]) fun g S => [(⟨1024000012, g⟩, 3)]) fun g => ?_
    refine swp_ret ?_
    with_reducible repeat first|apply nn|apply nb|apply nr|apply nc|apply ne|apply nq|apply nx rfl
    obtain rfl := some_eq h
    exact rt
   ·refine el_go ?_
    refine swp_skip ?_
    with_reducible repeat first|apply nn|apply nb|apply nr|apply nc|apply ne|apply nq|apply nx rfl
    refine seq_reg rfl (fun K hK => ?_)
    refine bind_of h (fun v10 hv10 h => ?_)
    simp -implicitDefEqProofs +decide only [go_sem, Nat.reduceAdd, Int.reduceToNat, hb4, hb8]
    refine call_go [0] false (btree_ReadNode_ok (cG G) hG0 _ _ hv10) ?_
    simp -implicitDefEqProofs +decide only [go_sem, Nat.reduceAdd, Int.reduceToNat, hb4, hb8]
    refine hK _ ?_
    refine swp_seq ?_
    refine go_seq ?_
    refine bsplit h (fun hb13 h => ?_) (fun hb13 h => ?_)
    ·refine if_go ?_
     refine seq_reg rfl (fun K hK => ?_)
     refine bind_of h (fun v14 hv14 h => ?_)
     simp -implicitDefEqProofs +decide only [go_sem, Nat.reduceAdd, Int.reduceToNat, hb4, hb8, hb13]
     refine call_nil [0, 0, 1] true (btree_run_fail_ok (cG G) hG0 _ _ _ _ hv14) ?_
     simp -implicitDefEqProofs +decide only [go_sem, Nat.reduceAdd, Int.reduceToNat, hb4, hb8, hb13]
     refine hK _ ?_
     refine swp_fresh (fun g => stL [(6, (.c (.ptr ⟨1024000017, g⟩ 0 0))), (7, (.c (.p (.bool v14.1))))] [(⟨1024000017, g⟩, .box true [(.p (.int .i64 0)), (.p (.int .u64 0)), (.p (.int .u64 0)), (.p (.int .u64 0)), (.p (.int .u64 0)), (.p (.int .u64 0)), (.p (.int .u64 0)), (.p (.int .u64 0)), (.p (.int .u64 0)), (.p (.int .i64 0)), (.p (.bool false)), (.p (.bool false)), (.p (.int .u32 0)), (.p (.int .i64 0)), (.p (.int .i64 0)), (.ref ⟨1024000018, g⟩ 0 ([] : List hashindex_Entry).length)]), (⟨1024000018, g⟩, .arr true 3 (([] : List hashindex_Entry).map r_hashindex_Entry)), (⟨0, 1⟩, .box true (b_1wfs v14.2 ⟨1024000019, g⟩ ⟨1024000020, g⟩ ⟨1024000021, g⟩ ⟨1024000022, g⟩)), (⟨1024000019, g⟩, .arr true 1 (v14.2.Need.map r_i64)), (⟨1024000020, g⟩, .arr true 9 (v14.2.Writes.map r_api_Page)), (⟨1024000021, g⟩, .arr true 3 (v14.2.Out.Entries.map r_hashindex_Entry)), (⟨1024000022, g⟩, .arr true 1 (v14.2.Out.Check.map r_i64))] (g + 1)) (ren_go (fun g S => [(⟨1024000017, g⟩, (keyT 0 (St.env S 6))), (⟨1024000019, g⟩, (keyB 9 (St.heap S ⟨0, 1⟩))), (⟨1024000020, g⟩, (keyB 10 (St.heap S ⟨0, 1⟩))), (⟨1024000021, g⟩, (keyB 20 (St.heap S ⟨0, 1⟩))), (⟨1024000022, g⟩, (keyB 21 (St.heap S ⟨0, 1⟩)))]) fun g S => [(⟨1024000018, g⟩, 3)]) fun g => ?_
     refine swp_ret ?_
     with_reducible repeat first|apply nn|apply nb|apply nr|apply nc|apply ne|apply nq|apply nx rfl
     obtain rfl := some_eq h
     exact rt
    ·refine el_go ?_
     refine swp_skip ?_
     with_reducible repeat first|apply nn|apply nb|apply nr|apply nc|apply ne|apply nq|apply nx rfl
     refine go_seq ?_
     refine swp_ret ?_
     with_reducible repeat first|apply nn|apply nb|apply nr|apply nc|apply ne|apply nq|apply nx rfl
     obtain rfl := some_eq h
     exact rt
end Go.Sh
end
section
namespace Go.Sh
open Go.Proofs
noncomputable def btree_run_raise (a0 : btree_run) : Option btree_run :=
  if ((a0.Root.Line == 0) && (a0.Root.Gen == 0)) = true then
    (btree_run_fail a0 16 ([] : List Int)).bind fun v4 =>
    some v4.2
  else
    (btree_run_look_v2 a0 a0.Root).bind fun v5 =>
    if (!v5.2.1) = true then
      some v5.2.2
    else
      if ((v5.1.Node.Right.Line == 0) && (v5.1.Node.Right.Gen == 0)) = true then
        some (⟨v5.2.2.Op, v5.2.2.Known, v5.2.2.Need, v5.2.2.Writes, (⟨v5.2.2.Out.Code, true, v5.2.2.Out.Done, v5.2.2.Out.Split, v5.2.2.Out.Unposted, v5.2.2.Out.Dead, v5.2.2.Out.More, v5.2.2.Out.To, v5.2.2.Out.Entries, v5.2.2.Out.Check, v5.2.2.Out.Hops, v5.2.2.Out.Fresh, v5.2.2.Out.Height⟩ : btree_Out), v5.2.2.RootPage, v5.2.2.Root, v5.2.2.Ended⟩ : btree_run)
      else
        if (v5.1.Node.Level == 8) = true then
          (btree_run_fail v5.2.2 12 ([] : List Int)).bind fun v13 =>
          some v13.2
        else
          (btree_run_fresh_v2 v5.2.2 ([v5.1.Page.Line] : List Int)).bind fun v14 =>
          if (!v14.2.1) = true then
            some v14.2.2
          else
            (pointer_At v14.1).bind fun v17 =>
            (btree_WriteRoot v14.2.2.RootPage v17 (IntKind.i64.wrap (v5.1.Node.Level + 1))).bind fun v18 =>
            (btree_Node_fill (⟨(IntKind.i64.wrap (v5.1.Node.Level + 1)), true, false, 4294967295, (⟨0, 0⟩ : pointer_Pointer), ([(⟨v5.1.Node.High, v14.2.2.Root⟩ : hashindex_Entry), (⟨4294967295, v5.1.Node.Right⟩ : hashindex_Entry)] : List hashindex_Entry)⟩ : btree_Node) v14.1).bind fun v19 =>
            (btree_run_done v14.2.2 ([v18.1, v19] : List api_Page) ([v5.1.Page.Line] : List Int)).bind fun v20 =>
            some v20
theorem btree_run_raise_ok (G : Glob) (hG0 : G.glob 0 = some [(.int .i64 0), (.int .i64 0)]) (a0 : btree_run) (res : btree_run) (h : btree_run_raise a0 = some res) : Spec Tryz.prog G 66 [.io (g_rhlf a0)] (fun r ios => r = .tup [] ∧ ios = [.io (g_rhlf res)]) := by
  rw [btree_run_raise] at h
  refine spec_of Tryz.mixed Tryz.func66 rfl rfl (by simp only [List.length]; decide +kernel) ?_
  refine swp_fresh (fun g => stL [(0, (.c (.ptr ⟨0, 1⟩ 0 0)))] [(⟨0, 1⟩, .box true (b_1wfs a0 ⟨1024000001, g⟩ ⟨1024000002, g⟩ ⟨1024000003, g⟩ ⟨1024000004, g⟩)), (⟨1024000001, g⟩, .arr true 1 (a0.Need.map r_i64)), (⟨1024000002, g⟩, .arr true 9 (a0.Writes.map r_api_Page)), (⟨1024000003, g⟩, .arr true 3 (a0.Out.Entries.map r_hashindex_Entry)), (⟨1024000004, g⟩, .arr true 1 (a0.Out.Check.map r_i64))] (g + 1)) (ren_go (fun g S => [(⟨1024000001, g⟩, (keyB 9 (St.heap S ⟨0, 1⟩))), (⟨1024000002, g⟩, (keyB 10 (St.heap S ⟨0, 1⟩))), (⟨1024000003, g⟩, (keyB 20 (St.heap S ⟨0, 1⟩))), (⟨1024000004, g⟩, (keyB 21 (St.heap S ⟨0, 1⟩)))]) fun g S => []) fun g => ?_
  refine swp_seq ?_
  refine seq_drw rfl (fun K hK => ?_)
  simp -implicitDefEqProofs +decide only [go_sem, Nat.reduceAdd, Int.reduceToNat, hG0]
  refine draw_go (by kernel_rfl) ?_
  refine hK _ ?_
  refine bsplit h (fun hb3 h => ?_) (fun hb3 h => ?_)
  ·refine if_go ?_
   refine seq_reg rfl (fun K hK => ?_)
   refine bind_of h (fun v4 hv4 h => ?_)
   simp -implicitDefEqProofs +decide only [go_sem, Nat.reduceAdd, Int.reduceToNat, hb3]
   refine call_nil [0, 0, 1] true (btree_run_fail_ok (cG G) hG0 _ _ _ _ hv4) ?_
   simp -implicitDefEqProofs +decide only [go_sem, Nat.reduceAdd, Int.reduceToNat, hb3]
   refine hK _ ?_
   refine swp_ret ?_
   with_reducible repeat first|apply nn|apply nb|apply nr|apply nc|apply ne|apply nq|apply nx rfl
   obtain rfl := some_eq h
   exact rt
  ·refine el_go ?_
   refine swp_skip ?_
   with_reducible repeat first|apply nn|apply nb|apply nr|apply nc|apply ne|apply nq|apply nx rfl
   refine seq_reg rfl (fun K hK => ?_)
   refine bind_of h (fun v5 hv5 h => ?_)
   simp -implicitDefEqProofs +decide only [go_sem, Nat.reduceAdd, Int.reduceToNat, hb3]
   refine call_go [0, 0, 0] true (btree_run_look_v2_ok (cG G) hG0 _ _ _ hv5) ?_
   simp -implicitDefEqProofs +decide only [go_sem, Nat.reduceAdd, Int.reduceToNat, hb3]
   refine hK _ ?_
   refine swp_seq ?_
   refine swp_block ?_
   refine go_seq ?_
   refine bsplit h (fun hb10 h => ?_) (fun hb10 h => ?_)
   ·refine if_go ?_
    refine swp_ret ?_
    with_reducible repeat first|apply nn|apply nb|apply nr|apply nc|apply ne|apply nq|apply nx rfl
    obtain rfl := some_eq h
    exact rt
   ·refine el_go ?_
    refine seq_reg rfl (fun K hK => ?_)
    simp -implicitDefEqProofs +decide only [go_sem, Nat.reduceAdd, Int.reduceToNat, hG0, hb3, hb10]
    refine hK _ ?_
    refine bsplit h (fun hb11 h => ?_) (fun hb11 h => ?_)
    ·refine if_go ?_
     refine go_seq ?_
     refine swp_ret ?_
     with_reducible repeat first|apply nn|apply nb|apply nr|apply nc|apply ne|apply nq|apply nx rfl
     obtain rfl := some_eq h
     exact rt
    ·refine el_go ?_
     refine go_seq ?_
     refine bsplit h (fun hb12 h => ?_) (fun hb12 h => ?_)
     ·refine if_go ?_
      refine seq_reg rfl (fun K hK => ?_)
      refine bind_of h (fun v13 hv13 h => ?_)
      simp -implicitDefEqProofs +decide only [go_sem, Nat.reduceAdd, Int.reduceToNat, hb3, hb10, hb11, hb12]
      refine call_nil [0, 0, 1] true (btree_run_fail_ok (cG G) hG0 _ _ _ _ hv13) ?_
      simp -implicitDefEqProofs +decide only [go_sem, Nat.reduceAdd, Int.reduceToNat, hb3, hb10, hb11, hb12]
      refine hK _ ?_
      refine swp_ret ?_
      with_reducible repeat first|apply nn|apply nb|apply nr|apply nc|apply ne|apply nq|apply nx rfl
      obtain rfl := some_eq h
      exact rt
     ·refine el_go ?_
      refine swp_skip ?_
      with_reducible repeat first|apply nn|apply nb|apply nr|apply nc|apply ne|apply nq|apply nx rfl
      refine seq_reg rfl (fun K hK => ?_)
      refine bind_of h (fun v14 hv14 h => ?_)
      simp -implicitDefEqProofs +decide only [go_sem, Nat.reduceAdd, Int.reduceToNat, hb3, hb10, hb11, hb12]
      refine call_go [0, 2] true (btree_run_fresh_v2_ok (cG G) hG0 _ _ _ hv14) ?_
      simp -implicitDefEqProofs +decide only [go_sem, Nat.reduceAdd, Int.reduceToNat, hb3, hb10, hb11, hb12]
      refine hK _ ?_
      refine swp_seq ?_
      refine go_seq ?_
      refine bsplit h (fun hb16 h => ?_) (fun hb16 h => ?_)
      ·refine if_go ?_
       refine swp_ret ?_
       with_reducible repeat first|apply nn|apply nb|apply nr|apply nc|apply ne|apply nq|apply nx rfl
       obtain rfl := some_eq h
       exact rt
      ·refine el_go ?_
       refine swp_skip ?_
       with_reducible repeat first|apply nn|apply nb|apply nr|apply nc|apply ne|apply nq|apply nx rfl
       refine go_seqD ?_
       refine seq_drw rfl (fun K hK => ?_)
       refine bind_of h (fun v17 hv17 h => ?_)
       simp -implicitDefEqProofs +decide only [go_sem, Nat.reduceAdd, Int.reduceToNat, hb3, hb10, hb11, hb12, hb16]
       refine call_go [0] false (pointer_At_ok (cG G) hG0 _ _ hv17) ?_
       refine bind_of h (fun v18 hv18 h => ?_)
       simp -implicitDefEqProofs +decide only [go_sem, Nat.reduceAdd, Int.reduceToNat, hb3, hb10, hb11, hb12, hb16]
       refine call_go [0, 0, 0] false (btree_WriteRoot_ok (cG G) hG0 _ _ _ _ hv18) ?_
       simp -implicitDefEqProofs +decide only [go_sem, Nat.reduceAdd, Int.reduceToNat, hb3, hb10, hb11, hb12, hb16]
       refine draw_go (by kernel_rfl) ?_
       refine hK _ ?_
       refine swp_drw rfl (fun K hK => ?_)
       refine bind_of h (fun v19 hv19 h => ?_)
       simp -implicitDefEqProofs +decide only [go_sem, Nat.reduceAdd, Int.reduceToNat, hb3, hb10, hb11, hb12, hb16]
       refine call_go [0, 0] false (btree_Node_fill_ok (cG G) hG0 _ _ _ hv19) ?_
       refine bind_of h (fun v20 hv20 h => ?_)
       simp -implicitDefEqProofs +decide only [go_sem, Nat.reduceAdd, Int.reduceToNat, hb3, hb10, hb11, hb12, hb16]
       refine call_go [0, 1, 1] true (btree_run_done_ok (cG G) hG0 _ _ _ _ hv20) ?_
       simp -implicitDefEqProofs +decide only [go_sem, Nat.reduceAdd, Int.reduceToNat, hb3, hb10, hb11, hb12, hb16]
       refine draw_go (by kernel_rfl) ?_
       refine hK _ ?_
       with_reducible repeat first|apply nn|apply nb|apply nr|apply nc|apply ne|apply nq|apply nx rfl
       obtain rfl := some_eq h
       exact rt
end Go.Sh
end
section
namespace Go.Sh
open Go.Proofs
noncomputable def btree_ReadRoot (a0 : api_Page) : Option (pointer_Pointer × Int × Int) :=
  if (a0.Line != 96) = true then
    some ((⟨0, 0⟩ : pointer_Pointer), 0, 1)
  else
    (pointer_Unpack (IntKind.u32.wrap a0.Data.a0)).bind fun v3 =>
    (btree_validRoot v3 (IntKind.i64.wrap (shrV .u64 a0.Data.a0 32))).bind fun v6 =>
    if (!v6) = true then
      some ((⟨0, 0⟩ : pointer_Pointer), 0, 14)
    else
      some (v3, (IntKind.i64.wrap (shrV .u64 a0.Data.a0 32)), 0)
theorem btree_ReadRoot_ok (G : Glob) (hG0 : G.glob 0 = some [(.int .i64 0), (.int .i64 0)]) (a0 : api_Page) (res : (pointer_Pointer × Int × Int)) (h : btree_ReadRoot a0 = some res) : Spec Tryz.prog G 15 [.agg (g_yylp a0)] (fun r ios => r = .tup [.agg [.p (.int .i64 res.1.Line), .p (.int .i64 res.1.Gen)], .cell (.p (.int .i64 res.2.1)), .cell (.p (.int .i64 res.2.2))] ∧ ios = []) := by
  rw [btree_ReadRoot] at h
  refine spec_of Tryz.mixed Tryz.func15 rfl rfl (by simp only [List.length]; decide +kernel) ?_
  refine swp_fresh (fun g => stL [(0, (.agg (b_mq86 a0)))] [] (g + 1)) (ren_go (fun g S => []) fun g S => []) fun g => ?_
  refine go_seq ?_
  refine swp_seq ?_
  refine go_seq ?_
  refine bsplit h (fun hb2 h => ?_) (fun hb2 h => ?_)
  ·refine if_go ?_
   refine seq_reg rfl (fun K hK => ?_)
   simp -implicitDefEqProofs +decide only [go_sem, Nat.reduceAdd, Int.reduceToNat, hG0, hb2]
   refine hK _ ?_
   refine swp_ret ?_
   with_reducible repeat first|apply nn|apply nb|apply nr|apply nc|apply ne|apply nq|apply nx rfl
   obtain rfl := some_eq h
   exact rt
  ·refine el_go ?_
   refine swp_skip ?_
   with_reducible repeat first|apply nn|apply nb|apply nr|apply nc|apply ne|apply nq|apply nx rfl
   refine seq_drw rfl (fun K hK => ?_)
   refine bind_of h (fun v3 hv3 h => ?_)
   simp -implicitDefEqProofs +decide only [go_sem, Nat.reduceAdd, Int.reduceToNat, hb2]
   refine call_go [0] false (pointer_Unpack_ok (cG G) hG0 _ _ hv3) ?_
   simp -implicitDefEqProofs +decide only [go_sem, Nat.reduceAdd, Int.reduceToNat, hb2]
   refine draw_go (by kernel_rfl) ?_
   refine hK _ ?_
   refine swp_seq ?_
   refine seq_reg rfl (fun K hK => ?_)
   refine bind_of h (fun v6 hv6 h => ?_)
   simp -implicitDefEqProofs +decide only [go_sem, Nat.reduceAdd, Int.reduceToNat, hb2]
   refine call_go [0, 0] false (btree_validRoot_ok (cG G) hG0 _ _ _ hv6) ?_
   simp -implicitDefEqProofs +decide only [go_sem, Nat.reduceAdd, Int.reduceToNat, hb2]
   refine hK _ ?_
   refine bsplit h (fun hb7 h => ?_) (fun hb7 h => ?_)
   ·refine if_go ?_
    refine seq_reg rfl (fun K hK => ?_)
    simp -implicitDefEqProofs +decide only [go_sem, Nat.reduceAdd, Int.reduceToNat, hG0, hb2, hb7]
    refine hK _ ?_
    refine swp_ret ?_
    with_reducible repeat first|apply nn|apply nb|apply nr|apply nc|apply ne|apply nq|apply nx rfl
    obtain rfl := some_eq h
    exact rt
   ·refine el_go ?_
    refine swp_skip ?_
    with_reducible repeat first|apply nn|apply nb|apply nr|apply nc|apply ne|apply nq|apply nx rfl
    refine go_seq ?_
    refine swp_ret ?_
    with_reducible repeat first|apply nn|apply nb|apply nr|apply nc|apply ne|apply nq|apply nx rfl
    obtain rfl := some_eq h
    exact rt
end Go.Sh
end
section
namespace Go.Sh
open Go.Proofs
noncomputable def btree_run_readRoot_J1 (v1 : (api_Page × Bool)) (a0 : btree_run) : Unit → Option (Bool × btree_run)
  | () =>
    (btree_ReadRoot v1.1).bind fun v10 =>
    if (v10.2.2 != 0) = true then
      (btree_run_fail a0 v10.2.2 ([] : List Int)).bind fun v14 =>
      some (v14.1, v14.2)
    else
      some (true, (⟨a0.Op, a0.Known, a0.Need, a0.Writes, a0.Out, v1.1, v10.1, a0.Ended⟩ : btree_run))
noncomputable def btree_run_readRoot (a0 : btree_run) : Option (Bool × btree_run) :=
  (pointer_Latest a0.Known 96).bind fun v1 =>
  if (!v1.2) = true then
    (btree_run_wait a0 96).bind fun v5 =>
    some (v5.1, v5.2)
  else
    if (a0.Op.Kind == 6) = true then
      (pointer_Locked v1.1).bind fun v16 =>
      if v16 = true then
        (btree_run_fail a0 3 ([] : List Int)).bind fun v18 =>
        some (v18.1, v18.2)
      else
        btree_run_readRoot_J1 v1 a0 ()
    else
      btree_run_readRoot_J1 v1 a0 ()
theorem btree_run_readRoot_ok (G : Glob) (hG0 : G.glob 0 = some [(.int .i64 0), (.int .i64 0)]) (a0 : btree_run) (res : (Bool × btree_run)) (h : btree_run_readRoot a0 = some res) : Spec Tryz.prog G 60 [.io (g_rhlf a0)] (fun r ios => r = .cell (.p (.bool res.1)) ∧ ios = [.io (g_rhlf res.2)]) := by
  rw [btree_run_readRoot] at h
  refine spec_of Tryz.mixed Tryz.func60 rfl rfl (by simp only [List.length]; decide +kernel) ?_
  refine swp_fresh (fun g => stL [(0, (.c (.ptr ⟨0, 1⟩ 0 0)))] [(⟨0, 1⟩, .box true (b_1wfs a0 ⟨1024000001, g⟩ ⟨1024000002, g⟩ ⟨1024000003, g⟩ ⟨1024000004, g⟩)), (⟨1024000001, g⟩, .arr true 1 (a0.Need.map r_i64)), (⟨1024000002, g⟩, .arr true 9 (a0.Writes.map r_api_Page)), (⟨1024000003, g⟩, .arr true 3 (a0.Out.Entries.map r_hashindex_Entry)), (⟨1024000004, g⟩, .arr true 1 (a0.Out.Check.map r_i64))] (g + 1)) (ren_go (fun g S => [(⟨1024000001, g⟩, (keyB 9 (St.heap S ⟨0, 1⟩))), (⟨1024000002, g⟩, (keyB 10 (St.heap S ⟨0, 1⟩))), (⟨1024000003, g⟩, (keyB 20 (St.heap S ⟨0, 1⟩))), (⟨1024000004, g⟩, (keyB 21 (St.heap S ⟨0, 1⟩)))]) fun g S => []) fun g => ?_
  refine go_seq ?_
  refine seq_reg rfl (fun K hK => ?_)
  refine bind_of h (fun v1 hv1 h => ?_)
  simp -implicitDefEqProofs +decide only [go_sem, Nat.reduceAdd, Int.reduceToNat]
  refine call_go [0, 0] false (pointer_Latest_ok (cG G) hG0 _ _ _ hv1) ?_
  simp -implicitDefEqProofs +decide only [go_sem, Nat.reduceAdd, Int.reduceToNat]
  refine hK _ ?_
  refine swp_seq ?_
  refine go_seq ?_
  refine bsplit h (fun hb4 h => ?_) (fun hb4 h => ?_)
  ·refine if_go ?_
   refine seq_reg rfl (fun K hK => ?_)
   refine bind_of h (fun v5 hv5 h => ?_)
   simp -implicitDefEqProofs +decide only [go_sem, Nat.reduceAdd, Int.reduceToNat, hb4]
   refine call_go [0, 0] true (btree_run_wait_ok (cG G) hG0 _ _ _ hv5) ?_
   simp -implicitDefEqProofs +decide only [go_sem, Nat.reduceAdd, Int.reduceToNat, hb4]
   refine hK _ ?_
   refine swp_ret ?_
   with_reducible repeat first|apply nn|apply nb|apply nr|apply nc|apply ne|apply nq|apply nx rfl
   obtain rfl := some_eq h
   exact rt
  ·refine el_go ?_
   refine swp_skip ?_
   with_reducible repeat first|apply nn|apply nb|apply nr|apply nc|apply ne|apply nq|apply nx rfl
   refine cut1 (Joins (btree_run_readRoot_J1 v1 a0) (fun g _ => stL [(0, (.c (.ptr ⟨0, 1⟩ 0 0))), (3, (.c (.ptr ⟨1024000009, g⟩ 0 0)))] [(⟨0, 1⟩, .box true (b_1wfs a0 ⟨1024000005, g⟩ ⟨1024000006, g⟩ ⟨1024000007, g⟩ ⟨1024000008, g⟩)), (⟨1024000005, g⟩, .arr true 1 (a0.Need.map r_i64)), (⟨1024000006, g⟩, .arr true 9 (a0.Writes.map r_api_Page)), (⟨1024000007, g⟩, .arr true 3 (a0.Out.Entries.map r_hashindex_Entry)), (⟨1024000008, g⟩, .arr true 1 (a0.Out.Check.map r_i64)), (⟨1024000009, g⟩, .box true (b_mq86 v1.1))] (g + 1)) res) ?_ (fun hj1 => ?_)
   ·refine join_of ?_
    rintro g ⟨⟩ h
    rw [btree_run_readRoot_J1] at h
    try dsimp only
    refine seq_reg rfl (fun K hK => ?_)
    refine bind_of h (fun v10 hv10 h => ?_)
    simp -implicitDefEqProofs +decide only [go_sem, Nat.reduceAdd, Int.reduceToNat, hb4]
    refine call_go [0] false (btree_ReadRoot_ok (cG G) hG0 _ _ hv10) ?_
    simp -implicitDefEqProofs +decide only [go_sem, Nat.reduceAdd, Int.reduceToNat, hb4]
    refine hK _ ?_
    refine swp_seq ?_
    refine go_seq ?_
    refine bsplit h (fun hb13 h => ?_) (fun hb13 h => ?_)
    ·refine if_go ?_
     refine seq_reg rfl (fun K hK => ?_)
     refine bind_of h (fun v14 hv14 h => ?_)
     simp -implicitDefEqProofs +decide only [go_sem, Nat.reduceAdd, Int.reduceToNat, hb4, hb13]
     refine call_nil [0, 0, 1] true (btree_run_fail_ok (cG G) hG0 _ _ _ _ hv14) ?_
     simp -implicitDefEqProofs +decide only [go_sem, Nat.reduceAdd, Int.reduceToNat, hb4, hb13]
     refine hK _ ?_
     refine swp_ret ?_
     with_reducible repeat first|apply nn|apply nb|apply nr|apply nc|apply ne|apply nq|apply nx rfl
     obtain rfl := some_eq h
     exact rt
    ·refine el_go ?_
     refine swp_skip ?_
     with_reducible repeat first|apply nn|apply nb|apply nr|apply nc|apply ne|apply nq|apply nx rfl
     refine go_seqD ?_
     refine go_seq ?_
     refine swp_ret ?_
     with_reducible repeat first|apply nn|apply nb|apply nr|apply nc|apply ne|apply nq|apply nx rfl
     obtain rfl := some_eq h
     exact rt
   refine swp_seq ?_
   refine seq_reg rfl (fun K hK => ?_)
   refine bsplit h (fun hb15 h => ?_) (fun hb15 h => ?_)
   ·refine bind_of h (fun v16 hv16 h => ?_)
    simp -implicitDefEqProofs +decide only [go_sem, Nat.reduceAdd, Int.reduceToNat, hb4, hb15]
    refine call_go [0] false (pointer_Locked_ok (cG G) hG0 _ _ hv16) ?_
    simp -implicitDefEqProofs +decide only [go_sem, Nat.reduceAdd, Int.reduceToNat, hb4, hb15]
    refine hK _ ?_
    refine bsplit h (fun hb17 h => ?_) (fun hb17 h => ?_)
    ·refine if_go ?_
     refine seq_reg rfl (fun K hK => ?_)
     refine bind_of h (fun v18 hv18 h => ?_)
     simp -implicitDefEqProofs +decide only [go_sem, Nat.reduceAdd, Int.reduceToNat, hb4, hb15, hb17]
     refine call_nil [0, 0, 1] true (btree_run_fail_ok (cG G) hG0 _ _ _ _ hv18) ?_
     simp -implicitDefEqProofs +decide only [go_sem, Nat.reduceAdd, Int.reduceToNat, hb4, hb15, hb17]
     refine hK _ ?_
     refine swp_ret ?_
     with_reducible repeat first|apply nn|apply nb|apply nr|apply nc|apply ne|apply nq|apply nx rfl
     obtain rfl := some_eq h
     exact rt
    ·refine el_go ?_
     refine swp_skip ?_
     with_reducible repeat first|apply nn|apply nb|apply nr|apply nc|apply ne|apply nq|apply nx rfl
     exact jump_of hj1 h (ren_go (fun g S => [(⟨1024000005, g⟩, (keyB 9 (St.heap S ⟨0, 1⟩))), (⟨1024000006, g⟩, (keyB 10 (St.heap S ⟨0, 1⟩))), (⟨1024000007, g⟩, (keyB 20 (St.heap S ⟨0, 1⟩))), (⟨1024000008, g⟩, (keyB 21 (St.heap S ⟨0, 1⟩))), (⟨1024000009, g⟩, (keyT 0 (St.env S 3)))]) fun g S => [])
   ·simp -implicitDefEqProofs +decide only [go_sem, Nat.reduceAdd, Int.reduceToNat, hb4, hb15]
    refine hK _ ?_
    refine el_go ?_
    refine swp_skip ?_
    with_reducible repeat first|apply nn|apply nb|apply nr|apply nc|apply ne|apply nq|apply nx rfl
    exact jump_of hj1 h (ren_go (fun g S => [(⟨1024000005, g⟩, (keyB 9 (St.heap S ⟨0, 1⟩))), (⟨1024000006, g⟩, (keyB 10 (St.heap S ⟨0, 1⟩))), (⟨1024000007, g⟩, (keyB 20 (St.heap S ⟨0, 1⟩))), (⟨1024000008, g⟩, (keyB 21 (St.heap S ⟨0, 1⟩))), (⟨1024000009, g⟩, (keyT 0 (St.env S 3)))]) fun g S => [])
end Go.Sh
end
section
namespace Go.Sh
open Go.Proofs
noncomputable def cmp_Compare_v2 (a0 : Int) (a1 : Int) : Option Int :=
  (cmp_isNaN a0).bind fun v1 =>
  (cmp_isNaN a1).bind fun v2 =>
  if v1 = true then
    some (if v2 = true then 0 else (-1))
  else
    if v2 = true then
      some 1
    else
      if (decide (a0 < a1)) = true then
        some (-1)
      else
        some (if (decide (a0 > a1)) = true then 1 else 0)
theorem cmp_Compare_v2_ok (G : Glob) (hG0 : G.glob 0 = some [(.int .i64 0), (.int .i64 0)]) (a0 : Int) (a1 : Int) (res : Int) (h : cmp_Compare_v2 a0 a1 = some res) : Spec Tryz.prog G 71 [.cell (.p (.int .i64 a0)), .cell (.p (.int .i64 a1))] (fun r ios => r = .cell (.p (.int .i64 res)) ∧ ios = []) := by
  rw [cmp_Compare_v2] at h
  refine spec_of Tryz.mixed Tryz.func71 rfl rfl (by simp only [List.length]; decide +kernel) ?_
  refine swp_fresh (fun g => stL [(0, (.c (.p (.int .i64 a0)))), (1, (.c (.p (.int .i64 a1))))] [] (g + 1)) (ren_go (fun g S => []) fun g S => []) fun g => ?_
  refine go_seq ?_
  refine seq_reg rfl (fun K hK => ?_)
  refine bind_of h (fun v1 hv1 h => ?_)
  simp -implicitDefEqProofs +decide only [go_sem, Nat.reduceAdd, Int.reduceToNat]
  refine call_go [0] false (cmp_isNaN_ok (cG G) hG0 _ _ hv1) ?_
  simp -implicitDefEqProofs +decide only [go_sem, Nat.reduceAdd, Int.reduceToNat]
  refine hK _ ?_
  refine seq_reg rfl (fun K hK => ?_)
  refine bind_of h (fun v2 hv2 h => ?_)
  simp -implicitDefEqProofs +decide only [go_sem, Nat.reduceAdd, Int.reduceToNat]
  refine call_go [0] false (cmp_isNaN_ok (cG G) hG0 _ _ hv2) ?_
  simp -implicitDefEqProofs +decide only [go_sem, Nat.reduceAdd, Int.reduceToNat]
  refine hK _ ?_
  refine swp_seq ?_
  refine go_seq ?_
  refine bsplit h (fun hb5 h => ?_) (fun hb5 h => ?_)
  ·refine if_go ?_
   refine swp_seq ?_
   refine go_seq ?_
   rcases hb6 : v2 with _ | _
   ·replace h : some (-1) = some res := by first | exact h | (rw [if_f hb6] at h; exact h)
    refine el_go ?_
    refine swp_skip ?_
    with_reducible repeat first|apply nn|apply nb|apply nr|apply nc|apply ne|apply nq|apply nx rfl
    refine go_seq ?_
    refine swp_ret ?_
    with_reducible repeat first|apply nn|apply nb|apply nr|apply nc|apply ne|apply nq|apply nx rfl
    obtain rfl := some_eq h
    exact rt
   ·replace h : some 0 = some res := by first | exact h | (rw [if_t hb6] at h; exact h)
    refine if_go ?_
    refine go_seq ?_
    refine swp_ret ?_
    with_reducible repeat first|apply nn|apply nb|apply nr|apply nc|apply ne|apply nq|apply nx rfl
    obtain rfl := some_eq h
    exact rt
  ·refine el_go ?_
   refine swp_skip ?_
   with_reducible repeat first|apply nn|apply nb|apply nr|apply nc|apply ne|apply nq|apply nx rfl
   refine swp_seq ?_
   refine go_seq ?_
   refine bsplit h (fun hb8 h => ?_) (fun hb8 h => ?_)
   ·refine if_go ?_
    refine go_seq ?_
    refine swp_ret ?_
    with_reducible repeat first|apply nn|apply nb|apply nr|apply nc|apply ne|apply nq|apply nx rfl
    obtain rfl := some_eq h
    exact rt
   ·refine el_go ?_
    refine swp_skip ?_
    with_reducible repeat first|apply nn|apply nb|apply nr|apply nc|apply ne|apply nq|apply nx rfl
    refine swp_seq ?_
    refine go_seq ?_
    refine bsplit h (fun hb10 h => ?_) (fun hb10 h => ?_)
    ·refine if_go ?_
     refine go_seq ?_
     refine swp_ret ?_
     with_reducible repeat first|apply nn|apply nb|apply nr|apply nc|apply ne|apply nq|apply nx rfl
     obtain rfl := some_eq h
     exact rt
    ·refine el_go ?_
     refine swp_skip ?_
     with_reducible repeat first|apply nn|apply nb|apply nr|apply nc|apply ne|apply nq|apply nx rfl
     refine swp_seq ?_
     refine go_seq ?_
     rcases hb11 : (decide (a0 > a1)) with _ | _
     ·replace h : some 0 = some res := by first | exact h | (rw [if_f hb11] at h; exact h)
      refine el_go ?_
      refine swp_skip ?_
      with_reducible repeat first|apply nn|apply nb|apply nr|apply nc|apply ne|apply nq|apply nx rfl
      refine go_seq ?_
      refine swp_ret ?_
      with_reducible repeat first|apply nn|apply nb|apply nr|apply nc|apply ne|apply nq|apply nx rfl
      obtain rfl := some_eq h
      exact rt
     ·replace h : some 1 = some res := by first | exact h | (rw [if_t hb11] at h; exact h)
      refine if_go ?_
      refine go_seq ?_
      refine swp_ret ?_
      with_reducible repeat first|apply nn|apply nb|apply nr|apply nc|apply ne|apply nq|apply nx rfl
      obtain rfl := some_eq h
      exact rt
end Go.Sh
end
section
namespace Go.Sh
open Go.Proofs
noncomputable def btree_Next_c1 (a0 : api_Page) (a1 : api_Page) : Option Int :=
  (cmp_Compare_v2 a0.Line a1.Line).bind fun v1 =>
  some v1
theorem btree_Next_c1_ok (G : Glob) (hG0 : G.glob 0 = some [(.int .i64 0), (.int .i64 0)]) (a0 : api_Page) (a1 : api_Page) (res : Int) (h : btree_Next_c1 a0 a1 = some res) : Spec Tryz.prog G 70 [.agg (g_yylp a0), .agg (g_yylp a1)] (fun r ios => r = .cell (.p (.int .i64 res)) ∧ ios = []) := by
  rw [btree_Next_c1] at h
  refine spec_of Tryz.mixed Tryz.func70 rfl rfl (by simp only [List.length]; decide +kernel) ?_
  refine swp_fresh (fun g => stL [(0, (.agg (b_mq86 a0))), (1, (.agg (b_mq86 a1)))] [] (g + 1)) (ren_go (fun g S => []) fun g S => []) fun g => ?_
  refine go_seq ?_
  refine seq_reg rfl (fun K hK => ?_)
  refine bind_of h (fun v1 hv1 h => ?_)
  simp -implicitDefEqProofs +decide only [go_sem, Nat.reduceAdd, Int.reduceToNat]
  refine call_go [0, 0] false (cmp_Compare_v2_ok (cG G) hG0 _ _ _ hv1) ?_
  simp -implicitDefEqProofs +decide only [go_sem, Nat.reduceAdd, Int.reduceToNat]
  refine hK _ ?_
  refine swp_ret ?_
  with_reducible repeat first|apply nn|apply nb|apply nr|apply nc|apply ne|apply nq|apply nx rfl
  obtain rfl := some_eq h
  exact rt
end Go.Sh
end
section
namespace Go.Sh
open Go.Proofs
noncomputable def slices_insertionSortCmpFunc_L2 (a1 : Int) (x94 : Int) : ((List api_Page) × Int) → Option (((List api_Page) × Int) ⊕ (((List api_Page) × Int) ⊕ (List api_Page)))
  | (l125, x126) =>
    if (decide (x126 > a1)) = true then
      (idx l125 x126).bind fun e137 =>
      (idx l125 (IntKind.i64.wrap (x126 - 1))).bind fun e138 =>
      (btree_Next_c1 e137 e138).bind fun v139 =>
      if (decide (v139 < 0)) = true then
        (idx (l125.set x126.toNat e138) (IntKind.i64.wrap (x126 - 1))).bind fun e141 =>
        some (.inl (((l125.set x126.toNat e138).set (IntKind.i64.wrap (x126 - 1)).toNat e137), (IntKind.i64.wrap (x126 - 1))))
      else
        Option.map Sum.inr (
          some (.inl (l125, (IntKind.i64.wrap (x94 + 1)))))
    else
      Option.map Sum.inr (
        some (.inl (l125, (IntKind.i64.wrap (x94 + 1)))))
noncomputable def slices_insertionSortCmpFunc_L1 (a2 : Int) (a1 : Int) (a0 : (List api_Page)) : ((List api_Page) × Int) → Option (((List api_Page) × Int) ⊕ (List api_Page))
  | (l93, x94) =>
    if (decide (x94 < a2)) = true then
      iter (slices_insertionSortCmpFunc_L2 a1 x94) (l93, x94)
    else
      Option.map Sum.inr (
        if l93.length = a0.length then
          some l93
        else none)
noncomputable def slices_insertionSortCmpFunc (a0 : (List api_Page)) (a1 : Int) (a2 : Int) : Option (List api_Page) :=
  iter (slices_insertionSortCmpFunc_L1 a2 a1 a0) (a0, (IntKind.i64.wrap (a1 + 1)))
theorem slices_insertionSortCmpFunc_ok (G : Glob) (hG0 : G.glob 0 = some [(.int .i64 0), (.int .i64 0)]) (a0 : (List api_Page)) (a1 : Int) (a2 : Int) (res : (List api_Page)) (h : slices_insertionSortCmpFunc a0 a1 a2 = some res) : Spec Tryz.prog G 111 [.els 9 (a0.map r_api_Page), .cell (.p (.int .i64 a1)), .cell (.p (.int .i64 a2)), .cell (.p (.clo 70 []))] (fun r ios => r = .tup [] ∧ ios = [.els 9 (res.map r_api_Page)]) := by
  rw [slices_insertionSortCmpFunc] at h
  refine spec_of Tryz.mixed Tryz.func111 rfl rfl (by simp only [List.length]; decide +kernel) ?_
  refine swp_fresh (fun g => stL [(0, (.c (.ref ⟨1, 0⟩ 0 a0.length))), (1, (.c (.p (.int .i64 a1)))), (2, (.c (.p (.int .i64 a2)))), (3, (.c (.p (.clo 70 []))))] [(⟨1, 0⟩, .arr true 9 (a0.map r_api_Page))] (g + 1)) (ren_go (fun g S => []) fun g S => []) fun g => ?_
  refine go_seq ?_
  refine swp_block ?_
  refine swp_iter (fun g x => match x with | (l93, x94) => stL [(0, (.c (.ref ⟨1, 0⟩ 0 l93.length))), (1, (.c (.p (.int .i64 a1)))), (2, (.c (.p (.int .i64 a2)))), (3, (.c (.p (.clo 70 [])))), (8, (.c (.p (.int .i64 x94))))] [(⟨1, 0⟩, .arr true 9 (l93.map r_api_Page))] (g + 1)) h (enter_of (ren_go (fun g S => []) fun g S => [])) ?_
  rintro g ⟨l93, x94⟩ s1 h hd1
  rw [slices_insertionSortCmpFunc_L1] at h
  try dsimp only
  refine swp_seq ?_
  refine go_seq ?_
  refine bsplit h (fun hb96 h => ?_) (fun hb96 h => ?_)
  ·refine if_go ?_
   refine swp_skip ?_
   with_reducible repeat first|apply nn|apply nb|apply nr|apply nc|apply ne|apply nq|apply nx rfl
   refine swp_seq ?_
   refine swp_block ?_
   refine go_seq ?_
   refine swp_block ?_
   refine swp_iter (fun g x => match x with | (l125, x126) => stL [(0, (.c (.ref ⟨1, 0⟩ 0 l125.length))), (1, (.c (.p (.int .i64 a1)))), (2, (.c (.p (.int .i64 a2)))), (3, (.c (.p (.clo 70 [])))), (8, (.c (.p (.int .i64 x94)))), (9, (.c (.p (.int .i64 x126))))] [(⟨1, 0⟩, .arr true 9 (l125.map r_api_Page))] (g + 1)) h (enter_of (ren_go (fun g S => []) fun g S => [])) ?_
   rintro g ⟨l125, x126⟩ s2 h hd2
   rw [slices_insertionSortCmpFunc_L2] at h
   try dsimp only
   refine swp_seq ?_
   refine seq_drw rfl (fun K hK => ?_)
   refine bsplit h (fun hb136 h => ?_) (fun hb136 h => ?_)
   ·refine bind_of h (fun e137 he137 h => ?_)
    obtain ⟨he137_0, he137_1, he137_2⟩ := idx_some he137
    refine bind_of h (fun e138 he138 h => ?_)
    obtain ⟨he138_0, he138_1, he138_2⟩ := idx_some he138
    refine bind_of h (fun v139 hv139 h => ?_)
    simp -implicitDefEqProofs +decide only [go_sem, Nat.reduceAdd, Int.reduceToNat, he137_0, he137_1, he137_2, he138_0, he138_1, he138_2, hb136]
    refine call_go [0, 0] false (btree_Next_c1_ok (cG G) hG0 _ _ _ hv139) ?_
    simp -implicitDefEqProofs +decide only [go_sem, Nat.reduceAdd, Int.reduceToNat, hb136]
    refine draw_go (by kernel_rfl) ?_
    refine hK _ ?_
    refine bsplit h (fun hb140 h => ?_) (fun hb140 h => ?_)
    ·refine if_go ?_
     refine swp_skip ?_
     with_reducible repeat first|apply nn|apply nb|apply nr|apply nc|apply ne|apply nq|apply nx rfl
     refine swp_seq ?_
     refine swp_block ?_
     refine swp_drw rfl (fun K hK => ?_)
     refine bind_of h (fun e141 he141 h => ?_)
     obtain ⟨he141_0, he141_1, he141_2⟩ := idx_some he141
     simp -implicitDefEqProofs +decide only [go_sem, Nat.reduceAdd, Int.reduceToNat, he138_0, he138_1, he138_2, he137_0, he137_1, he137_2, he141_0, he141_1, he141_2, hb136, hb140]
     refine draw_go (by kernel_rfl) ?_
     refine hK _ ?_
     with_reducible repeat first|apply nn|apply nb|apply nr|apply nc|apply ne|apply nq|apply nx rfl
     refine swp_fresh (fun g => stL [(0, (.c (.ref ⟨1, 0⟩ 0 ((l125.set x126.toNat e138).set (IntKind.i64.wrap (x126 - 1)).toNat e137).length))), (1, (.c (.p (.int .i64 a1)))), (2, (.c (.p (.int .i64 a2)))), (3, (.c (.p (.clo 70 [])))), (8, (.c (.p (.int .i64 x94)))), (9, (.c (.p (.int .i64 x126))))] [(⟨1, 0⟩, .arr true 9 (((l125.set x126.toNat e138).set (IntKind.i64.wrap (x126 - 1)).toNat e137).map r_api_Page))] (g + 1)) (ren_go (fun g S => []) fun g S => []) fun g => ?_
     refine go_swp ?_
     with_reducible repeat first|apply nn|apply nb|apply nr|apply nc|apply ne|apply nq|apply nx rfl
     exact back_of h (ren_go (fun g S => []) fun g S => [])
    ·refine el_go ?_
     refine swp_exit ?_
     with_reducible repeat first|apply nn|apply nb|apply nr|apply nc|apply ne|apply nq|apply nx rfl
     obtain ⟨h, hs2⟩ := exit_of h hd2
     with_reducible repeat first|apply nn|apply nb|apply nr|apply nc|apply ne|apply nq|apply nx rfl
     refine ⟨hs2, ?_⟩
     with_reducible repeat first|apply nn|apply nb|apply nr|apply nc|apply ne|apply nq|apply nx rfl
     refine go_swp ?_
     with_reducible repeat first|apply nn|apply nb|apply nr|apply nc|apply ne|apply nq|apply nx rfl
     exact back_of h (ren_go (fun g S => []) fun g S => [])
   ·simp -implicitDefEqProofs +decide only [go_sem, Nat.reduceAdd, Int.reduceToNat, hb136]
    refine draw_go (by kernel_rfl) ?_
    refine hK _ ?_
    refine el_go ?_
    refine swp_exit ?_
    with_reducible repeat first|apply nn|apply nb|apply nr|apply nc|apply ne|apply nq|apply nx rfl
    obtain ⟨h, hs2⟩ := exit_of h hd2
    with_reducible repeat first|apply nn|apply nb|apply nr|apply nc|apply ne|apply nq|apply nx rfl
    refine ⟨hs2, ?_⟩
    with_reducible repeat first|apply nn|apply nb|apply nr|apply nc|apply ne|apply nq|apply nx rfl
    refine go_swp ?_
    with_reducible repeat first|apply nn|apply nb|apply nr|apply nc|apply ne|apply nq|apply nx rfl
    exact back_of h (ren_go (fun g S => []) fun g S => [])
  ·refine el_go ?_
   refine swp_exit ?_
   with_reducible repeat first|apply nn|apply nb|apply nr|apply nc|apply ne|apply nq|apply nx rfl
   obtain ⟨h, hs1⟩ := exit_of h hd1
   with_reducible repeat first|apply nn|apply nb|apply nr|apply nc|apply ne|apply nq|apply nx rfl
   refine ⟨hs1, ?_⟩
   with_reducible repeat first|apply nn|apply nb|apply nr|apply nc|apply ne|apply nq|apply nx rfl
   refine psplit h (fun hp150 h => ?_)
   obtain rfl := some_eq h
   simp -implicitDefEqProofs +decide only [go_sem, Nat.reduceAdd, Int.reduceToNat, hp150]
   all_goals first | done | trivial | assumption | (simp [maps]; done) | (simp [maps, hb96]; done)
end Go.Sh
end
section
namespace Go.Sh
open Go.Proofs
noncomputable def slices_pdqsortCmpFunc_L1 (a2 : Int) (a1 : Int) (a0 : (List api_Page)) (a3 : Int) : Unit → Option (Unit ⊕ (List api_Page))
  | () =>
    if (decide ((IntKind.i64.wrap (a2 - a1)) ≤ 12)) = true then
      (slices_insertionSortCmpFunc a0 a1 a2).bind fun v13 =>
      if v13.length = a0.length then
        Option.map Sum.inr (
          if v13.length = a0.length then
            some v13
          else none)
      else none
    else
      if (a3 == 0) = true then
        none
      else
        none
noncomputable def slices_pdqsortCmpFunc (a0 : (List api_Page)) (a1 : Int) (a2 : Int) (a3 : Int) : Option (List api_Page) :=
  iter (slices_pdqsortCmpFunc_L1 a2 a1 a0 a3) ()
theorem slices_pdqsortCmpFunc_ok (G : Glob) (hG0 : G.glob 0 = some [(.int .i64 0), (.int .i64 0)]) (a0 : (List api_Page)) (a1 : Int) (a2 : Int) (a3 : Int) (res : (List api_Page)) (h : slices_pdqsortCmpFunc a0 a1 a2 a3 = some res) : Spec Tryz.prog G 97 [.els 9 (a0.map r_api_Page), .cell (.p (.int .i64 a1)), .cell (.p (.int .i64 a2)), .cell (.p (.int .i64 a3)), .cell (.p (.clo 70 []))] (fun r ios => r = .tup [] ∧ ios = [.els 9 (res.map r_api_Page)]) := by
  rw [slices_pdqsortCmpFunc] at h
  refine spec_of Tryz.mixed Tryz.func97 rfl rfl (by simp only [List.length]; decide +kernel) ?_
  refine swp_fresh (fun g => stL [(0, (.c (.ref ⟨1, 0⟩ 0 a0.length))), (1, (.c (.p (.int .i64 a1)))), (2, (.c (.p (.int .i64 a2)))), (3, (.c (.p (.int .i64 a3)))), (4, (.c (.p (.clo 70 []))))] [(⟨1, 0⟩, .arr true 9 (a0.map r_api_Page))] (g + 1)) (ren_go (fun g S => []) fun g S => []) fun g => ?_
  refine go_seq ?_
  refine go_seq ?_
  refine swp_block ?_
  refine swp_iter (fun g _ => stL [(0, (.c (.ref ⟨1, 0⟩ 0 a0.length))), (1, (.c (.p (.int .i64 a1)))), (2, (.c (.p (.int .i64 a2)))), (3, (.c (.p (.int .i64 a3)))), (4, (.c (.p (.clo 70 [])))), (10, (.c (.p (.bool true)))), (11, (.c (.p (.bool true))))] [(⟨1, 0⟩, .arr true 9 (a0.map r_api_Page))] (g + 1)) h (enter_of (ren_go (fun g S => []) fun g S => [])) ?_
  rintro g ⟨⟩ s1 h hd1
  rw [slices_pdqsortCmpFunc_L1] at h
  try dsimp only
  refine swp_block ?_
  refine go_seq ?_
  refine swp_seq ?_
  refine go_seq ?_
  refine bsplit h (fun hb12 h => ?_) (fun hb12 h => ?_)
  ·refine if_go ?_
   refine seq_reg rfl (fun K hK => ?_)
   refine bind_of h (fun v13 hv13 h => ?_)
   refine psplit h (fun hp14 h => ?_)
   have qhp14 := hp14.symm
   simp -implicitDefEqProofs +decide only [go_sem, Nat.reduceAdd, Int.reduceToNat, hb12]
   refine call_go [2, 0, 0, 0] false (slices_insertionSortCmpFunc_ok (cG G) hG0 _ _ _ _ hv13) ?_
   simp -implicitDefEqProofs +decide only [go_sem, Nat.reduceAdd, Int.reduceToNat, hb12, qhp14]
   refine hK _ ?_
   refine swp_ret ?_
   with_reducible repeat first|apply nn|apply nb|apply nr|apply nc|apply ne|apply nq|apply nx rfl
   obtain ⟨h, hs1⟩ := exit_of h hd1
   refine ⟨hs1, ?_⟩
   with_reducible repeat first|apply nn|apply nb|apply nr|apply nc|apply ne|apply nq|apply nx rfl
   refine psplit h (fun hp15 h => ?_)
   obtain rfl := some_eq h
   simp -implicitDefEqProofs +decide only [go_sem, Nat.reduceAdd, Int.reduceToNat, hp15]
   all_goals first | done | trivial | assumption | (simp [maps]; done) | (simp [maps, hb12, qhp14]; done)
  ·refine el_go ?_
   refine swp_skip ?_
   with_reducible repeat first|apply nn|apply nb|apply nr|apply nc|apply ne|apply nq|apply nx rfl
   refine swp_seq ?_
   refine go_seq ?_
   refine bsplit h (fun hb17 h => ?_) (fun hb17 h => ?_)
   ·cases h
   ·refine el_go ?_
    refine swp_skip ?_
    with_reducible repeat first|apply nn|apply nb|apply nr|apply nc|apply ne|apply nq|apply nx rfl
    refine swp_seq ?_
    refine go_seq ?_
    cases h
end Go.Sh
end
section
namespace Go.Sh
open Go.Proofs
noncomputable def slices_SortFunc (a0 : (List api_Page)) : Option (List api_Page) :=
  (math_bits_Len (IntKind.u64.wrap (a0.length : Int))).bind fun v1 =>
  (slices_pdqsortCmpFunc a0 0 (a0.length : Int) v1).bind fun v2 =>
  if v2.length = a0.length then
    if v2.length = a0.length then
      some v2
    else none
  else none
theorem slices_SortFunc_ok (G : Glob) (hG0 : G.glob 0 = some [(.int .i64 0), (.int .i64 0)]) (a0 : (List api_Page)) (res : (List api_Page)) (h : slices_SortFunc a0 = some res) : Spec Tryz.prog G 69 [.els 9 (a0.map r_api_Page), .cell (.p (.clo 70 []))] (fun r ios => r = .tup [] ∧ ios = [.els 9 (res.map r_api_Page)]) := by
  rw [slices_SortFunc] at h
  refine spec_of Tryz.mixed Tryz.func69 rfl rfl (by simp only [List.length]; decide +kernel) ?_
  refine swp_fresh (fun g => stL [(0, (.c (.ref ⟨1, 0⟩ 0 a0.length))), (1, (.c (.p (.clo 70 []))))] [(⟨1, 0⟩, .arr true 9 (a0.map r_api_Page))] (g + 1)) (ren_go (fun g S => []) fun g S => []) fun g => ?_
  refine go_seq ?_
  refine swp_reg rfl (fun K hK => ?_)
  refine bind_of h (fun v1 hv1 h => ?_)
  simp -implicitDefEqProofs +decide only [go_sem, Nat.reduceAdd, Int.reduceToNat]
  refine call_go [0] false (math_bits_Len_ok (cG G) hG0 _ _ hv1) ?_
  refine bind_of h (fun v2 hv2 h => ?_)
  refine psplit h (fun hp3 h => ?_)
  have qhp3 := hp3.symm
  simp -implicitDefEqProofs +decide only [go_sem, Nat.reduceAdd, Int.reduceToNat]
  refine call_go [2, 0, 0, 0, 0] false (slices_pdqsortCmpFunc_ok (cG G) hG0 _ _ _ _ _ hv2) ?_
  simp -implicitDefEqProofs +decide only [go_sem, Nat.reduceAdd, Int.reduceToNat, qhp3]
  refine hK _ ?_
  with_reducible repeat first|apply nn|apply nb|apply nr|apply nc|apply ne|apply nq|apply nx rfl
  refine psplit h (fun hp4 h => ?_)
  obtain rfl := some_eq h
  simp -implicitDefEqProofs +decide only [go_sem, Nat.reduceAdd, Int.reduceToNat, hp4]
  all_goals first | done | trivial | assumption | (simp [maps]; done) | (simp [maps, qhp3]; done)
end Go.Sh
end
section
namespace Go.Sh
open Go.Proofs
noncomputable def btree_Next_J2 (l26 : List api_Page) (x27 : Int) (b28 : Bool) (b29 : Bool) (b30 : Bool) (b33 : Bool) (x34 : pointer_Pointer) (l35 : List hashindex_Entry) (l36 : List Int) (x38 : Int) : (Bool × Bool × Int × Int) → Option ((List Int) × (List api_Page) × btree_Out × Bool)
  | (b46, b47, x48, x49) =>
    (slices_SortFunc l26).bind fun v50 =>
    if v50.length = l26.length then
      some (([] : List Int), v50, (⟨x27, b28, b29, b30, b46, b47, b33, x34, l35, l36, x48, x38, x49⟩ : btree_Out), true)
    else none
noncomputable def btree_Next_J1 : (Int × Int × Int × pointer_Pointer × Int × Int × List api_Page × List api_Page × List Int × List api_Page × Int × Bool × Bool × Bool × Bool × Bool × Bool × pointer_Pointer × List hashindex_Entry × List Int × Int × Int × Int × api_Page × pointer_Pointer × Bool) → Option ((List Int) × (List api_Page) × btree_Out × Bool)
  | (x17, x18, x19, x20, x21, x22, l23, l24, l25, l26, x27, b28, b29, b30, b31, b32, b33, x34, l35, l36, x37, x38, x39, x40, x41, b42) =>
    if (decide ((l25.length : Int) > 0)) = true then
      some (l25, ([] : List api_Page), (⟨0, false, false, false, false, false, false, (⟨0, 0⟩ : pointer_Pointer), ([] : List hashindex_Entry), ([] : List Int), 0, 0, 0⟩ : btree_Out), false)
    else
      if (!b42) = true then
        btree_Next_J2 l26 x27 b28 b29 b30 b33 x34 l35 l36 x38 (false, false, 0, 0)
      else
        btree_Next_J2 l26 x27 b28 b29 b30 b33 x34 l35 l36 x38 (b31, b32, x37, x39)
noncomputable def btree_Next (a0 : btree_Op) (a1 : (List api_Page)) : Option ((List Int) × (List api_Page) × btree_Out × Bool) :=
  (btree_Op_isValid a0).bind fun v3 =>
  if (!v3) = true then
    some (([] : List Int), ([] : List api_Page), (⟨1, false, false, false, false, false, false, (⟨0, 0⟩ : pointer_Pointer), ([] : List hashindex_Entry), ([] : List Int), 0, 0, 0⟩ : btree_Out), true)
  else
    (btree_run_readRoot (⟨a0, a1, [], [], (⟨0, false, false, false, false, false, false, (⟨0, 0⟩ : pointer_Pointer), [], [], 0, 0, 0⟩ : btree_Out), (⟨0, 0, (⟨0, 0, 0, 0, 0, 0, 0⟩ : (A7 Int))⟩ : api_Page), (⟨0, 0⟩ : pointer_Pointer), false⟩ : btree_run)).bind fun v61 =>
    if v61.1 = true then
      if (a0.Kind == 1) = true then
        none
      else
        if (a0.Kind == 2) = true then
          (btree_run_insert v61.2).bind fun v65 =>
          btree_Next_J1 (v65.Op.Kind, v65.Op.Key, v65.Op.Last, v65.Op.To, v65.Op.Level, v65.Op.Limit, v65.Op.Fresh, v65.Known, v65.Need, v65.Writes, v65.Out.Code, v65.Out.Found, v65.Out.Done, v65.Out.Split, v65.Out.Unposted, v65.Out.Dead, v65.Out.More, v65.Out.To, v65.Out.Entries, v65.Out.Check, v65.Out.Hops, v65.Out.Fresh, v65.Out.Height, v65.RootPage, v65.Root, v65.Ended)
        else
          if (a0.Kind == 3) = true then
            none
          else
            if (a0.Kind == 4) = true then
              none
            else
              if (a0.Kind == 5) = true then
                none
              else
                if (a0.Kind == 6) = true then
                  (btree_run_raise v61.2).bind fun v96 =>
                  btree_Next_J1 (v96.Op.Kind, v96.Op.Key, v96.Op.Last, v96.Op.To, v96.Op.Level, v96.Op.Limit, v96.Op.Fresh, v96.Known, v96.Need, v96.Writes, v96.Out.Code, v96.Out.Found, v96.Out.Done, v96.Out.Split, v96.Out.Unposted, v96.Out.Dead, v96.Out.More, v96.Out.To, v96.Out.Entries, v96.Out.Check, v96.Out.Hops, v96.Out.Fresh, v96.Out.Height, v96.RootPage, v96.Root, v96.Ended)
                else
                  if (a0.Kind == 7) = true then
                    none
                  else
                    if (a0.Kind == 8) = true then
                      none
                    else
                      btree_Next_J1 (v61.2.Op.Kind, v61.2.Op.Key, v61.2.Op.Last, v61.2.Op.To, v61.2.Op.Level, v61.2.Op.Limit, v61.2.Op.Fresh, v61.2.Known, v61.2.Need, v61.2.Writes, v61.2.Out.Code, v61.2.Out.Found, v61.2.Out.Done, v61.2.Out.Split, v61.2.Out.Unposted, v61.2.Out.Dead, v61.2.Out.More, v61.2.Out.To, v61.2.Out.Entries, v61.2.Out.Check, v61.2.Out.Hops, v61.2.Out.Fresh, v61.2.Out.Height, v61.2.RootPage, v61.2.Root, v61.2.Ended)
    else
      btree_Next_J1 (v61.2.Op.Kind, v61.2.Op.Key, v61.2.Op.Last, v61.2.Op.To, v61.2.Op.Level, v61.2.Op.Limit, v61.2.Op.Fresh, v61.2.Known, v61.2.Need, v61.2.Writes, v61.2.Out.Code, v61.2.Out.Found, v61.2.Out.Done, v61.2.Out.Split, v61.2.Out.Unposted, v61.2.Out.Dead, v61.2.Out.More, v61.2.Out.To, v61.2.Out.Entries, v61.2.Out.Check, v61.2.Out.Hops, v61.2.Out.Fresh, v61.2.Out.Height, v61.2.RootPage, v61.2.Root, v61.2.Ended)
theorem btree_Next_ok (G : Glob) (hG0 : G.glob 0 = some [(.int .i64 0), (.int .i64 0)]) (a0 : btree_Op) (a1 : (List api_Page)) (res : ((List Int) × (List api_Page) × btree_Out × Bool)) (h : btree_Next a0 a1 = some res) : Spec Tryz.prog G 33 [.agg (g_e29e a0), .cell (.p (.rows (a1.map r_api_Page)))] (fun r ios => r = .tup [.cell (.own 1 (res.1.map r_i64)), .cell (.own 9 (res.2.1.map r_api_Page)), .agg (g_pyye res.2.2.1), .cell (.p (.bool res.2.2.2))] ∧ ios = []) := by
  rw [btree_Next] at h
  refine spec_of Tryz.mixed Tryz.func33 rfl rfl (by simp only [List.length]; decide +kernel) ?_
  refine swp_fresh (fun g => stL [(0, (.agg (b_8lf7 a0))), (1, (.c (.p (.rows (a1.map r_api_Page)))))] [] (g + 1)) (ren_go (fun g S => []) fun g S => []) fun g => ?_
  refine go_seq ?_
  refine swp_seq ?_
  refine seq_reg rfl (fun K hK => ?_)
  refine bind_of h (fun v3 hv3 h => ?_)
  simp -implicitDefEqProofs +decide only [go_sem, Nat.reduceAdd, Int.reduceToNat]
  refine call_go [0] false (btree_Op_isValid_ok (cG G) hG0 _ _ hv3) ?_
  simp -implicitDefEqProofs +decide only [go_sem, Nat.reduceAdd, Int.reduceToNat]
  refine hK _ ?_
  refine bsplit h (fun hb4 h => ?_) (fun hb4 h => ?_)
  ·refine if_go ?_
   refine go_seq ?_
   refine swp_fresh (fun g => stL [(4, (.c (.ref ⟨1024000001, g⟩ 0 ([] : List Int).length))), (5, (.c (.ref ⟨1024000002, g⟩ 0 ([] : List api_Page).length))), (6, (.c (.ptr ⟨1024000003, g⟩ 0 0))), (7, (.c (.p (.bool true))))] [(⟨1024000001, g⟩, .arr true 1 (([] : List Int).map r_i64)), (⟨1024000002, g⟩, .arr true 9 (([] : List api_Page).map r_api_Page)), (⟨1024000003, g⟩, .box true [(.p (.int .i64 1)), (.p (.bool false)), (.p (.bool false)), (.p (.bool false)), (.p (.bool false)), (.p (.bool false)), (.p (.bool false)), (.p (.int .i64 0)), (.p (.int .i64 0)), (.ref ⟨1024000004, g⟩ 0 ([] : List hashindex_Entry).length), (.ref ⟨1024000005, g⟩ 0 ([] : List Int).length), (.p (.int .i64 0)), (.p (.int .i64 0)), (.p (.int .i64 0))]), (⟨1024000004, g⟩, .arr true 3 (([] : List hashindex_Entry).map r_hashindex_Entry)), (⟨1024000005, g⟩, .arr true 1 (([] : List Int).map r_i64))] (g + 1)) (ren_go (fun g S => [(⟨1024000003, g⟩, (keyT 0 (St.env S 6)))]) fun g S => [(⟨1024000001, g⟩, 1), (⟨1024000002, g⟩, 9), (⟨1024000004, g⟩, 3), (⟨1024000005, g⟩, 1)]) fun g => ?_
   refine swp_ret ?_
   with_reducible repeat first|apply nn|apply nb|apply nr|apply nc|apply ne|apply nq|apply nx rfl
   obtain rfl := some_eq h
   exact rt
  ·refine el_go ?_
   refine swp_skip ?_
   with_reducible repeat first|apply nn|apply nb|apply nr|apply nc|apply ne|apply nq|apply nx rfl
   refine go_seq ?_
   refine cut1 (Joins (btree_Next_J1) (fun g x => match x with | (x17, x18, x19, x20, x21, x22, l23, l24, l25, l26, x27, b28, b29, b30, b31, b32, b33, x34, l35, l36, x37, x38, x39, x40, x41, b42) => stL [(6, (.c (.ptr ⟨1024000006, g⟩ 0 0))), (8, (.c (.ptr ⟨1024000007, g⟩ 0 0)))] [(⟨1024000006, g⟩, .box true [(.p (.int .i64 0)), (.p (.bool false)), (.p (.bool false)), (.p (.bool false)), (.p (.bool false)), (.p (.bool false)), (.p (.bool false)), (.p (.int .i64 0)), (.p (.int .i64 0)), .nilS, .nilS, (.p (.int .i64 0)), (.p (.int .i64 0)), (.p (.int .i64 0))]), (⟨1024000007, g⟩, .box true [(.p (.int .i64 x17)), (.p (.int .u32 x18)), (.p (.int .u32 x19)), (.p (.int .i64 x20.Line)), (.p (.int .i64 x20.Gen)), (.p (.int .i64 x21)), (.p (.int .i64 x22)), (.p (.rows (l23.map r_api_Page))), (.p (.rows (l24.map r_api_Page))), (.ref ⟨1024000008, g⟩ 0 l25.length), (.ref ⟨1024000009, g⟩ 0 l26.length), (.p (.int .i64 x27)), (.p (.bool b28)), (.p (.bool b29)), (.p (.bool b30)), (.p (.bool b31)), (.p (.bool b32)), (.p (.bool b33)), (.p (.int .i64 x34.Line)), (.p (.int .i64 x34.Gen)), (.ref ⟨1024000010, g⟩ 0 l35.length), (.ref ⟨1024000011, g⟩ 0 l36.length), (.p (.int .i64 x37)), (.p (.int .i64 x38)), (.p (.int .i64 x39)), (.p (.int .i64 x40.Line)), (.p (.int .u64 x40.Head)), (.p (.int .u64 x40.Data.a0)), (.p (.int .u64 x40.Data.a1)), (.p (.int .u64 x40.Data.a2)), (.p (.int .u64 x40.Data.a3)), (.p (.int .u64 x40.Data.a4)), (.p (.int .u64 x40.Data.a5)), (.p (.int .u64 x40.Data.a6)), (.p (.int .i64 x41.Line)), (.p (.int .i64 x41.Gen)), (.p (.bool b42))]), (⟨1024000008, g⟩, .arr true 1 (l25.map r_i64)), (⟨1024000009, g⟩, .arr true 9 (l26.map r_api_Page)), (⟨1024000010, g⟩, .arr true 3 (l35.map r_hashindex_Entry)), (⟨1024000011, g⟩, .arr true 1 (l36.map r_i64))] (g + 1)) res) ?_ (fun hj1 => ?_)
   ·refine join_of ?_
    rintro g ⟨x17, x18, x19, x20, x21, x22, l23, l24, l25, l26, x27, b28, b29, b30, b31, b32, b33, x34, l35, l36, x37, x38, x39, x40, x41, b42⟩ h
    rw [btree_Next_J1] at h
    try dsimp only
    refine swp_seq ?_
    refine go_seq ?_
    refine bsplit h (fun hb44 h => ?_) (fun hb44 h => ?_)
    ·refine if_go ?_
     refine go_seq ?_
     refine swp_fresh (fun g => stL [(4, (.c (.ref ⟨1024000012, g⟩ 0 l25.length))), (5, (.c (.ref ⟨1024000013, g⟩ 0 ([] : List api_Page).length))), (6, (.c (.ptr ⟨1024000014, g⟩ 0 0))), (7, (.c (.p (.bool false))))] [(⟨1024000012, g⟩, .arr true 1 (l25.map r_i64)), (⟨1024000013, g⟩, .arr true 9 (([] : List api_Page).map r_api_Page)), (⟨1024000014, g⟩, .box true [(.p (.int .i64 0)), (.p (.bool false)), (.p (.bool false)), (.p (.bool false)), (.p (.bool false)), (.p (.bool false)), (.p (.bool false)), (.p (.int .i64 0)), (.p (.int .i64 0)), (.ref ⟨1024000015, g⟩ 0 ([] : List hashindex_Entry).length), (.ref ⟨1024000016, g⟩ 0 ([] : List Int).length), (.p (.int .i64 0)), (.p (.int .i64 0)), (.p (.int .i64 0))]), (⟨1024000015, g⟩, .arr true 3 (([] : List hashindex_Entry).map r_hashindex_Entry)), (⟨1024000016, g⟩, .arr true 1 (([] : List Int).map r_i64))] (g + 1)) (ren_go (fun g S => [(⟨1024000012, g⟩, (keyT 0 (St.env S 4))), (⟨1024000014, g⟩, (keyT 0 (St.env S 6)))]) fun g S => [(⟨1024000013, g⟩, 9), (⟨1024000015, g⟩, 3), (⟨1024000016, g⟩, 1)]) fun g => ?_
     refine swp_ret ?_
     with_reducible repeat first|apply nn|apply nb|apply nr|apply nc|apply ne|apply nq|apply nx rfl
     obtain rfl := some_eq h
     exact rt
    ·refine el_go ?_
     refine swp_skip ?_
     with_reducible repeat first|apply nn|apply nb|apply nr|apply nc|apply ne|apply nq|apply nx rfl
     refine cut1 (Joins (btree_Next_J2 l26 x27 b28 b29 b30 b33 x34 l35 l36 x38) (fun g x => match x with | (b46, b47, x48, x49) => stL [(6, (.c (.ptr ⟨1024000017, g⟩ 0 0))), (8, (.c (.ptr ⟨1024000018, g⟩ 0 0)))] [(⟨1024000017, g⟩, .box true [(.p (.int .i64 0)), (.p (.bool false)), (.p (.bool false)), (.p (.bool false)), (.p (.bool false)), (.p (.bool false)), (.p (.bool false)), (.p (.int .i64 0)), (.p (.int .i64 0)), .nilS, .nilS, (.p (.int .i64 0)), (.p (.int .i64 0)), (.p (.int .i64 0))]), (⟨1024000018, g⟩, .box true [(.p (.int .i64 x17)), (.p (.int .u32 x18)), (.p (.int .u32 x19)), (.p (.int .i64 x20.Line)), (.p (.int .i64 x20.Gen)), (.p (.int .i64 x21)), (.p (.int .i64 x22)), (.p (.rows (l23.map r_api_Page))), (.p (.rows (l24.map r_api_Page))), (.ref ⟨1024000019, g⟩ 0 l25.length), (.ref ⟨1024000020, g⟩ 0 l26.length), (.p (.int .i64 x27)), (.p (.bool b28)), (.p (.bool b29)), (.p (.bool b30)), (.p (.bool b46)), (.p (.bool b47)), (.p (.bool b33)), (.p (.int .i64 x34.Line)), (.p (.int .i64 x34.Gen)), (.ref ⟨1024000021, g⟩ 0 l35.length), (.ref ⟨1024000022, g⟩ 0 l36.length), (.p (.int .i64 x48)), (.p (.int .i64 x38)), (.p (.int .i64 x49)), (.p (.int .i64 x40.Line)), (.p (.int .u64 x40.Head)), (.p (.int .u64 x40.Data.a0)), (.p (.int .u64 x40.Data.a1)), (.p (.int .u64 x40.Data.a2)), (.p (.int .u64 x40.Data.a3)), (.p (.int .u64 x40.Data.a4)), (.p (.int .u64 x40.Data.a5)), (.p (.int .u64 x40.Data.a6)), (.p (.int .i64 x41.Line)), (.p (.int .i64 x41.Gen)), (.p (.bool b42))]), (⟨1024000019, g⟩, .arr true 1 (l25.map r_i64)), (⟨1024000020, g⟩, .arr true 9 (l26.map r_api_Page)), (⟨1024000021, g⟩, .arr true 3 (l35.map r_hashindex_Entry)), (⟨1024000022, g⟩, .arr true 1 (l36.map r_i64))] (g + 1)) res) ?_ (fun hj2 => ?_)
     ·refine join_of ?_
      rintro g ⟨b46, b47, x48, x49⟩ h
      rw [btree_Next_J2] at h
      try dsimp only
      refine seq_reg rfl (fun K hK => ?_)
      refine bind_of h (fun v50 hv50 h => ?_)
      refine psplit h (fun hp51 h => ?_)
      have qhp51 := hp51.symm
      simp -implicitDefEqProofs +decide only [go_sem, Nat.reduceAdd, Int.reduceToNat, hb4, hb44]
      refine call_go [2, 0] false (slices_SortFunc_ok (cG G) hG0 _ _ hv50) ?_
      simp -implicitDefEqProofs +decide only [go_sem, Nat.reduceAdd, Int.reduceToNat, hb4, hb44, qhp51]
      refine hK _ ?_
      refine go_seqD ?_
      refine swp_fresh (fun g => stL [(4, (.c (.ref ⟨1024000023, g⟩ 0 ([] : List Int).length))), (5, (.c (.ref ⟨1024000024, g⟩ 0 v50.length))), (6, (.c (.ptr ⟨1024000025, g⟩ 0 0))), (7, (.c (.p (.bool true))))] [(⟨1024000023, g⟩, .arr true 1 (([] : List Int).map r_i64)), (⟨1024000024, g⟩, .arr true 9 (v50.map r_api_Page)), (⟨1024000025, g⟩, .box true [(.p (.int .i64 x27)), (.p (.bool b28)), (.p (.bool b29)), (.p (.bool b30)), (.p (.bool b46)), (.p (.bool b47)), (.p (.bool b33)), (.p (.int .i64 x34.Line)), (.p (.int .i64 x34.Gen)), (.ref ⟨1024000026, g⟩ 0 l35.length), (.ref ⟨1024000027, g⟩ 0 l36.length), (.p (.int .i64 x48)), (.p (.int .i64 x38)), (.p (.int .i64 x49))]), (⟨1024000026, g⟩, .arr true 3 (l35.map r_hashindex_Entry)), (⟨1024000027, g⟩, .arr true 1 (l36.map r_i64))] (g + 1)) (ren_go (fun g S => [(⟨1024000024, g⟩, (keyT 0 (St.env S 5))), (⟨1024000025, g⟩, (keyT 0 (St.env S 6))), (⟨1024000026, g⟩, (keyB 9 (St.heap S (keyT 0 (St.env S 6))))), (⟨1024000027, g⟩, (keyB 10 (St.heap S (keyT 0 (St.env S 6)))))]) fun g S => [(⟨1024000023, g⟩, 1)]) fun g => ?_
      refine swp_ret ?_
      with_reducible repeat first|apply nn|apply nb|apply nr|apply nc|apply ne|apply nq|apply nx rfl
      obtain rfl := some_eq h
      exact rt
     refine swp_seq ?_
     refine go_seq ?_
     refine bsplit h (fun hb52 h => ?_) (fun hb52 h => ?_)
     ·refine if_go ?_
      refine go_swp ?_
      with_reducible repeat first|apply nn|apply nb|apply nr|apply nc|apply ne|apply nq|apply nx rfl
      exact jump_of hj2 h (ren_go (fun g S => [(⟨1024000017, g⟩, (keyT 0 (St.env S 6))), (⟨1024000018, g⟩, (keyT 0 (St.env S 8))), (⟨1024000019, g⟩, (keyB 9 (St.heap S (keyT 0 (St.env S 8))))), (⟨1024000020, g⟩, (keyB 10 (St.heap S (keyT 0 (St.env S 8))))), (⟨1024000021, g⟩, (keyB 20 (St.heap S (keyT 0 (St.env S 8))))), (⟨1024000022, g⟩, (keyB 21 (St.heap S (keyT 0 (St.env S 8)))))]) fun g S => [])
     ·refine el_go ?_
      refine swp_skip ?_
      with_reducible repeat first|apply nn|apply nb|apply nr|apply nc|apply ne|apply nq|apply nx rfl
      exact jump_of hj2 h (ren_go (fun g S => [(⟨1024000017, g⟩, (keyT 0 (St.env S 6))), (⟨1024000018, g⟩, (keyT 0 (St.env S 8))), (⟨1024000019, g⟩, (keyB 9 (St.heap S (keyT 0 (St.env S 8))))), (⟨1024000020, g⟩, (keyB 10 (St.heap S (keyT 0 (St.env S 8))))), (⟨1024000021, g⟩, (keyB 20 (St.heap S (keyT 0 (St.env S 8))))), (⟨1024000022, g⟩, (keyB 21 (St.heap S (keyT 0 (St.env S 8)))))]) fun g S => [])
   refine swp_seq ?_
   refine seq_reg rfl (fun K hK => ?_)
   refine bind_of h (fun v61 hv61 h => ?_)
   simp -implicitDefEqProofs +decide only [go_sem, Nat.reduceAdd, Int.reduceToNat, hb4]
   refine call_nil [0] true (btree_run_readRoot_ok (cG G) hG0 _ _ hv61) ?_
   simp -implicitDefEqProofs +decide only [go_sem, Nat.reduceAdd, Int.reduceToNat, hb4]
   refine hK _ ?_
   refine bsplit h (fun hb62 h => ?_) (fun hb62 h => ?_)
   ·refine if_go ?_
    refine go_seq ?_
    refine swp_block ?_
    refine go_seq ?_
    refine bsplit h (fun hb63 h => ?_) (fun hb63 h => ?_)
    ·cases h
    ·refine el_go ?_
     refine go_seq ?_
     refine bsplit h (fun hb64 h => ?_) (fun hb64 h => ?_)
     ·refine if_go ?_
      refine swp_reg rfl (fun K hK => ?_)
      refine bind_of h (fun v65 hv65 h => ?_)
      simp -implicitDefEqProofs +decide only [go_sem, Nat.reduceAdd, Int.reduceToNat, hb4, hb62, hb63, hb64]
      refine call_go [0] true (btree_run_insert_ok (cG G) hG0 _ _ hv65) ?_
      simp -implicitDefEqProofs +decide only [go_sem, Nat.reduceAdd, Int.reduceToNat, hb4, hb62, hb63, hb64]
      refine hK _ ?_
      with_reducible repeat first|apply nn|apply nb|apply nr|apply nc|apply ne|apply nq|apply nx rfl
      exact jump_of hj1 h (ren_go (fun g S => [(⟨1024000006, g⟩, (keyT 0 (St.env S 6))), (⟨1024000007, g⟩, (keyT 0 (St.env S 8))), (⟨1024000008, g⟩, (keyB 9 (St.heap S (keyT 0 (St.env S 8))))), (⟨1024000009, g⟩, (keyB 10 (St.heap S (keyT 0 (St.env S 8))))), (⟨1024000010, g⟩, (keyB 20 (St.heap S (keyT 0 (St.env S 8))))), (⟨1024000011, g⟩, (keyB 21 (St.heap S (keyT 0 (St.env S 8)))))]) fun g S => [])
     ·refine el_go ?_
      refine go_seq ?_
      refine bsplit h (fun hb92 h => ?_) (fun hb92 h => ?_)
      ·cases h
      ·refine el_go ?_
       refine go_seq ?_
       refine bsplit h (fun hb93 h => ?_) (fun hb93 h => ?_)
       ·cases h
       ·refine el_go ?_
        refine go_seq ?_
        refine bsplit h (fun hb94 h => ?_) (fun hb94 h => ?_)
        ·cases h
        ·refine el_go ?_
         refine go_seq ?_
         refine bsplit h (fun hb95 h => ?_) (fun hb95 h => ?_)
         ·refine if_go ?_
          refine swp_reg rfl (fun K hK => ?_)
          refine bind_of h (fun v96 hv96 h => ?_)
          simp -implicitDefEqProofs +decide only [go_sem, Nat.reduceAdd, Int.reduceToNat, hb4, hb62, hb63, hb64, hb92, hb93, hb94, hb95]
          refine call_go [0] true (btree_run_raise_ok (cG G) hG0 _ _ hv96) ?_
          simp -implicitDefEqProofs +decide only [go_sem, Nat.reduceAdd, Int.reduceToNat, hb4, hb62, hb63, hb64, hb92, hb93, hb94, hb95]
          refine hK _ ?_
          with_reducible repeat first|apply nn|apply nb|apply nr|apply nc|apply ne|apply nq|apply nx rfl
          exact jump_of hj1 h (ren_go (fun g S => [(⟨1024000006, g⟩, (keyT 0 (St.env S 6))), (⟨1024000007, g⟩, (keyT 0 (St.env S 8))), (⟨1024000008, g⟩, (keyB 9 (St.heap S (keyT 0 (St.env S 8))))), (⟨1024000009, g⟩, (keyB 10 (St.heap S (keyT 0 (St.env S 8))))), (⟨1024000010, g⟩, (keyB 20 (St.heap S (keyT 0 (St.env S 8))))), (⟨1024000011, g⟩, (keyB 21 (St.heap S (keyT 0 (St.env S 8)))))]) fun g S => [])
         ·refine el_go ?_
          refine go_seq ?_
          refine bsplit h (fun hb123 h => ?_) (fun hb123 h => ?_)
          ·cases h
          ·refine el_go ?_
           refine go_seq ?_
           refine bsplit h (fun hb124 h => ?_) (fun hb124 h => ?_)
           ·cases h
           ·refine el_go ?_
            refine swp_skip ?_
            with_reducible repeat first|apply nn|apply nb|apply nr|apply nc|apply ne|apply nq|apply nx rfl
            exact jump_of hj1 h (ren_go (fun g S => [(⟨1024000006, g⟩, (keyT 0 (St.env S 6))), (⟨1024000007, g⟩, (keyT 0 (St.env S 8))), (⟨1024000008, g⟩, (keyB 9 (St.heap S (keyT 0 (St.env S 8))))), (⟨1024000009, g⟩, (keyB 10 (St.heap S (keyT 0 (St.env S 8))))), (⟨1024000010, g⟩, (keyB 20 (St.heap S (keyT 0 (St.env S 8))))), (⟨1024000011, g⟩, (keyB 21 (St.heap S (keyT 0 (St.env S 8)))))]) fun g S => [])
   ·refine el_go ?_
    refine swp_skip ?_
    with_reducible repeat first|apply nn|apply nb|apply nr|apply nc|apply ne|apply nq|apply nx rfl
    exact jump_of hj1 h (ren_go (fun g S => [(⟨1024000006, g⟩, (keyT 0 (St.env S 6))), (⟨1024000007, g⟩, (keyT 0 (St.env S 8))), (⟨1024000008, g⟩, (keyB 9 (St.heap S (keyT 0 (St.env S 8))))), (⟨1024000009, g⟩, (keyB 10 (St.heap S (keyT 0 (St.env S 8))))), (⟨1024000010, g⟩, (keyB 20 (St.heap S (keyT 0 (St.env S 8))))), (⟨1024000011, g⟩, (keyB 21 (St.heap S (keyT 0 (St.env S 8)))))]) fun g S => [])
end Go.Sh
end
section
namespace Go.Sh
open Go.Proofs
noncomputable def bodegalaw24_index_run_J3 (l69 : List api_Page) (x135 : Int) (l134 : List api_Page) (e138 : api_Page) : Unit → Option ((List api_Page × Int) ⊕ (btree_Out × Bool × bodegalaw24_index))
  | () =>
    (idx l69 x135).bind fun e146 =>
    (idx l134 (IntKind.i64.wrap (e138.Line - 96))).bind fun e147 =>
    (idx (l134.set (IntKind.i64.wrap (e138.Line - 96)).toNat e146) (IntKind.i64.wrap (e138.Line - 96))).bind fun e148 =>
    some (.inl (((l134.set (IntKind.i64.wrap (e138.Line - 96)).toNat e146).set (IntKind.i64.wrap (e138.Line - 96)).toNat (⟨e148.Line, (IntKind.u64.wrap (e148.Head + 256)), e148.Data⟩ : api_Page)), (IntKind.i64.wrap (x135 + 1))))
noncomputable def bodegalaw24_index_run_L1 (l69 : List api_Page) (x70 : Int) (b71 : Bool) (b72 : Bool) (b73 : Bool) (b74 : Bool) (b75 : Bool) (b76 : Bool) (x77 : pointer_Pointer) (l78 : List hashindex_Entry) (l79 : List Int) (x80 : Int) (x81 : Int) (x82 : Int) (x67 : Int) (a0 : bodegalaw24_index) : (List api_Page × Int) → Option ((List api_Page × Int) ⊕ (btree_Out × Bool × bodegalaw24_index))
  | (l134, x135) =>
    if (decide (x135 < (l69.length : Int))) = true then
      (idx l69 x135).bind fun e138 =>
      if (decide ((IntKind.i64.wrap (e138.Line - 96)) < 0)) = true then
        Option.map Sum.inr (
          some ((⟨x70, b71, b72, b73, b74, b75, b76, x77, l78, l79, x80, x81, x82⟩ : btree_Out), false, (⟨l134, x67, a0.Keys, a0.To, a0.Gone⟩ : bodegalaw24_index)))
      else
        if (decide ((IntKind.i64.wrap (e138.Line - 96)) ≥ (l134.length : Int))) = true then
          Option.map Sum.inr (
            some ((⟨x70, b71, b72, b73, b74, b75, b76, x77, l78, l79, x80, x81, x82⟩ : btree_Out), false, (⟨l134, x67, a0.Keys, a0.To, a0.Gone⟩ : bodegalaw24_index)))
        else
          (idx l134 (IntKind.i64.wrap (e138.Line - 96))).bind fun e153 =>
          if (e153.Head != e138.Head) = true then
            Option.map Sum.inr (
              some ((⟨x70, b71, b72, b73, b74, b75, b76, x77, l78, l79, x80, x81, x82⟩ : btree_Out), false, (⟨l134, x67, a0.Keys, a0.To, a0.Gone⟩ : bodegalaw24_index)))
          else
            if (decide (x135 > 0)) = true then
              (idx l69 (IntKind.i64.wrap (x135 - 1))).bind fun e156 =>
              if (decide (e156.Line ≥ e138.Line)) = true then
                Option.map Sum.inr (
                  some ((⟨x70, b71, b72, b73, b74, b75, b76, x77, l78, l79, x80, x81, x82⟩ : btree_Out), false, (⟨l134, x67, a0.Keys, a0.To, a0.Gone⟩ : bodegalaw24_index)))
              else
                bodegalaw24_index_run_J3 l69 x135 l134 e138 ()
            else
              bodegalaw24_index_run_J3 l69 x135 l134 e138 ()
    else
      Option.map Sum.inr (
        some ((⟨x70, b71, b72, b73, b74, b75, b76, x77, l78, l79, x80, x81, x82⟩ : btree_Out), true, (⟨l134, x67, a0.Keys, a0.To, a0.Gone⟩ : bodegalaw24_index)))
noncomputable def bodegalaw24_index_run_J2 (l69 : List api_Page) (x70 : Int) (b71 : Bool) (b72 : Bool) (b73 : Bool) (b74 : Bool) (b75 : Bool) (b76 : Bool) (x77 : pointer_Pointer) (l78 : List hashindex_Entry) (l79 : List Int) (x80 : Int) (x81 : Int) (x82 : Int) (x67 : Int) (a0 : bodegalaw24_index) : Unit → Option (btree_Out × Bool × bodegalaw24_index)
  | () =>
    iter (bodegalaw24_index_run_L1 l69 x70 b71 b72 b73 b74 b75 b76 x77 l78 l79 x80 x81 x82 x67 a0) (a0.Pages, 0)
noncomputable def bodegalaw24_index_run_J1 (a0 : bodegalaw24_index) : (Int × List Int × List api_Page × Int × Bool × Bool × Bool × Bool × Bool × Bool × pointer_Pointer × List hashindex_Entry × List Int × Int × Int × Int × Bool) → Option (btree_Out × Bool × bodegalaw24_index)
  | (x67, l68, l69, x70, b71, b72, b73, b74, b75, b76, x77, l78, l79, x80, x81, x82, b83) =>
    if (!b83) = true then
      some ((⟨x70, b71, b72, b73, b74, b75, b76, x77, l78, l79, x80, x81, x82⟩ : btree_Out), false, (⟨a0.Pages, x67, a0.Keys, a0.To, a0.Gone⟩ : bodegalaw24_index))
    else
      if (decide ((l68.length : Int) > 0)) = true then
        some ((⟨x70, b71, b72, b73, b74, b75, b76, x77, l78, l79, x80, x81, x82⟩ : btree_Out), false, (⟨a0.Pages, x67, a0.Keys, a0.To, a0.Gone⟩ : bodegalaw24_index))
      else
        if (x70 != 0) = true then
          if (decide ((l69.length : Int) > 0)) = true then
            some ((⟨x70, b71, b72, b73, b74, b75, b76, x77, l78, l79, x80, x81, x82⟩ : btree_Out), false, (⟨a0.Pages, x67, a0.Keys, a0.To, a0.Gone⟩ : bodegalaw24_index))
          else
            bodegalaw24_index_run_J2 l69 x70 b71 b72 b73 b74 b75 b76 x77 l78 l79 x80 x81 x82 x67 a0 ()
        else
          bodegalaw24_index_run_J2 l69 x70 b71 b72 b73 b74 b75 b76 x77 l78 l79 x80 x81 x82 x67 a0 ()
noncomputable def bodegalaw24_index_run_J4 (a1 : btree_Op) (a0 : bodegalaw24_index) : (Int × List api_Page) → Option (btree_Out × Bool × bodegalaw24_index)
  | (x196, l197) =>
    (btree_Next (⟨a1.Kind, a1.Key, a1.Last, a1.To, a1.Level, a1.Limit, l197⟩ : btree_Op) a0.Pages).bind fun v198 =>
    bodegalaw24_index_run_J1 a0 (x196, v198.1, v198.2.1, v198.2.2.1.Code, v198.2.2.1.Found, v198.2.2.1.Done, v198.2.2.1.Split, v198.2.2.1.Unposted, v198.2.2.1.Dead, v198.2.2.1.More, v198.2.2.1.To, v198.2.2.1.Entries, v198.2.2.1.Check, v198.2.2.1.Hops, v198.2.2.1.Fresh, v198.2.2.1.Height, v198.2.2.2)
noncomputable def bodegalaw24_index_run_L2 (v1 : ((List Int) × (List api_Page) × btree_Out × Bool)) (a0 : bodegalaw24_index) (a1 : btree_Op) : (Int × List api_Page × Int) → Option ((Int × List api_Page × Int) ⊕ (btree_Out × Bool × bodegalaw24_index))
  | (x237, l238, x239) =>
    if (decide (x239 < v1.2.2.1.Fresh)) = true then
      if (decide (x237 < 256)) = true then
        (idx a0.Pages (IntKind.i64.wrap (x237 - 96))).bind fun e248 =>
        if (l238.length + 1) * 72 ≤ maxRows ∧ l238.length + 1 ≤ maxRows then
          some (.inl ((IntKind.i64.wrap (x237 + 1)), (l238 ++ ([e248] : List api_Page)), (IntKind.i64.wrap (x239 + 1))))
        else none
      else
        Option.map Sum.inr (
          bodegalaw24_index_run_J4 a1 a0 (x237, l238))
    else
      Option.map Sum.inr (
        bodegalaw24_index_run_J4 a1 a0 (x237, l238))
noncomputable def bodegalaw24_index_run (a0 : bodegalaw24_index) (a1 : btree_Op) : Option (btree_Out × Bool × bodegalaw24_index) :=
  (btree_Next a1 a0.Pages).bind fun v1 =>
  if v1.2.2.2 = true then
    if (v1.2.2.1.Code == 18) = true then
      iter (bodegalaw24_index_run_L2 v1 a0 a1) (a0.Next, a1.Fresh, 0)
    else
      bodegalaw24_index_run_J1 a0 (a0.Next, v1.1, v1.2.1, v1.2.2.1.Code, v1.2.2.1.Found, v1.2.2.1.Done, v1.2.2.1.Split, v1.2.2.1.Unposted, v1.2.2.1.Dead, v1.2.2.1.More, v1.2.2.1.To, v1.2.2.1.Entries, v1.2.2.1.Check, v1.2.2.1.Hops, v1.2.2.1.Fresh, v1.2.2.1.Height, v1.2.2.2)
  else
    bodegalaw24_index_run_J1 a0 (a0.Next, v1.1, v1.2.1, v1.2.2.1.Code, v1.2.2.1.Found, v1.2.2.1.Done, v1.2.2.1.Split, v1.2.2.1.Unposted, v1.2.2.1.Dead, v1.2.2.1.More, v1.2.2.1.To, v1.2.2.1.Entries, v1.2.2.1.Check, v1.2.2.1.Hops, v1.2.2.1.Fresh, v1.2.2.1.Height, v1.2.2.2)
theorem bodegalaw24_index_run_ok (G : Glob) (hG0 : G.glob 0 = some [(.int .i64 0), (.int .i64 0)]) (a0 : bodegalaw24_index) (a1 : btree_Op) (res : (btree_Out × Bool × bodegalaw24_index)) (h : bodegalaw24_index_run a0 a1 = some res) : Spec Tryz.prog G 36 [.io (g_kpb5 a0), .agg (g_vplu a1)] (fun r ios => r = .tup [.agg (g_pyye res.1), .cell (.p (.bool res.2.1))] ∧ ios = [.io (g_kpb5 res.2.2)]) := by
  rw [bodegalaw24_index_run] at h
  refine spec_of Tryz.mixed Tryz.func36 rfl rfl (by simp only [List.length]; decide +kernel) ?_
  refine swp_fresh (fun g => stL [(0, (.c (.ptr ⟨0, 1⟩ 0 0))), (1, (.agg (b_mpop a1 ⟨1024000005, g⟩)))] [(⟨0, 1⟩, .box true (b_rlqi a0 ⟨1024000001, g⟩ ⟨1024000002, g⟩ ⟨1024000003, g⟩ ⟨1024000004, g⟩)), (⟨1024000001, g⟩, .arr true 9 (a0.Pages.map r_api_Page)), (⟨1024000002, g⟩, .arr true 1 (a0.Keys.map r_u32)), (⟨1024000003, g⟩, .arr true 2 (a0.To.map r_pointer_Pointer)), (⟨1024000004, g⟩, .arr true 2 (a0.Gone.map r_pointer_Pointer)), (⟨1024000005, g⟩, .arr true 9 (a1.Fresh.map r_api_Page))] (g + 1)) (ren_go (fun g S => [(⟨1024000001, g⟩, (keyB 0 (St.heap S ⟨0, 1⟩))), (⟨1024000002, g⟩, (keyB 2 (St.heap S ⟨0, 1⟩))), (⟨1024000003, g⟩, (keyB 3 (St.heap S ⟨0, 1⟩))), (⟨1024000004, g⟩, (keyB 4 (St.heap S ⟨0, 1⟩))), (⟨1024000005, g⟩, (keyT 7 (St.env S 1)))]) fun g S => []) fun g => ?_
  refine go_seq ?_
  refine seq_drw rfl (fun K hK => ?_)
  refine bind_of h (fun v1 hv1 h => ?_)
  simp -implicitDefEqProofs +decide only [go_sem, Nat.reduceAdd, Int.reduceToNat]
  refine call_go [0, 0] false (btree_Next_ok (cG G) hG0 _ _ _ hv1) ?_
  simp -implicitDefEqProofs +decide only [go_sem, Nat.reduceAdd, Int.reduceToNat]
  refine draw_go (by kernel_rfl) ?_
  refine hK _ ?_
  refine cut1 (Joins (bodegalaw24_index_run_J1 a0) (fun g x => match x with | (x67, l68, l69, x70, b71, b72, b73, b74, b75, b76, x77, l78, l79, x80, x81, x82, b83) => stL [(0, (.c (.ptr ⟨0, 1⟩ 0 0))), (4, (.c (.ptr ⟨1024000010, g⟩ 0 0))), (6, (.c (.ref ⟨1024000011, g⟩ 0 l68.length))), (7, (.c (.ref ⟨1024000012, g⟩ 0 l69.length))), (8, (.c (.ptr ⟨1024000013, g⟩ 0 0))), (9, (.c (.p (.bool b83))))] [(⟨0, 1⟩, .box true [(.ref ⟨1024000006, g⟩ 0 a0.Pages.length), (.p (.int .i64 x67)), (.ref ⟨1024000007, g⟩ 0 a0.Keys.length), (.ref ⟨1024000008, g⟩ 0 a0.To.length), (.ref ⟨1024000009, g⟩ 0 a0.Gone.length)]), (⟨1024000006, g⟩, .arr true 9 (a0.Pages.map r_api_Page)), (⟨1024000007, g⟩, .arr true 1 (a0.Keys.map r_u32)), (⟨1024000008, g⟩, .arr true 2 (a0.To.map r_pointer_Pointer)), (⟨1024000009, g⟩, .arr true 2 (a0.Gone.map r_pointer_Pointer)), (⟨1024000010, g⟩, .box true [(.p (.int .i64 0)), (.p (.bool false)), (.p (.bool false)), (.p (.bool false)), (.p (.bool false)), (.p (.bool false)), (.p (.bool false)), (.p (.int .i64 0)), (.p (.int .i64 0)), .nilS, .nilS, (.p (.int .i64 0)), (.p (.int .i64 0)), (.p (.int .i64 0))]), (⟨1024000011, g⟩, .arr true 1 (l68.map r_i64)), (⟨1024000012, g⟩, .arr true 9 (l69.map r_api_Page)), (⟨1024000013, g⟩, .box true [(.p (.int .i64 x70)), (.p (.bool b71)), (.p (.bool b72)), (.p (.bool b73)), (.p (.bool b74)), (.p (.bool b75)), (.p (.bool b76)), (.p (.int .i64 x77.Line)), (.p (.int .i64 x77.Gen)), (.ref ⟨1024000014, g⟩ 0 l78.length), (.ref ⟨1024000015, g⟩ 0 l79.length), (.p (.int .i64 x80)), (.p (.int .i64 x81)), (.p (.int .i64 x82))]), (⟨1024000014, g⟩, .arr true 3 (l78.map r_hashindex_Entry)), (⟨1024000015, g⟩, .arr true 1 (l79.map r_i64))] (g + 1)) res) ?_ (fun hj1 => ?_)
  ·refine join_of ?_
   rintro g ⟨x67, l68, l69, x70, b71, b72, b73, b74, b75, b76, x77, l78, l79, x80, x81, x82, b83⟩ h
   rw [bodegalaw24_index_run_J1] at h
   try dsimp only
   refine cut1 (Joins (bodegalaw24_index_run_J2 l69 x70 b71 b72 b73 b74 b75 b76 x77 l78 l79 x80 x81 x82 x67 a0) (fun g _ => stL [(0, (.c (.ptr ⟨0, 1⟩ 0 0))), (4, (.c (.ptr ⟨1024000020, g⟩ 0 0))), (7, (.c (.ref ⟨1024000021, g⟩ 0 l69.length))), (8, (.c (.ptr ⟨1024000022, g⟩ 0 0)))] [(⟨0, 1⟩, .box true [(.ref ⟨1024000016, g⟩ 0 a0.Pages.length), (.p (.int .i64 x67)), (.ref ⟨1024000017, g⟩ 0 a0.Keys.length), (.ref ⟨1024000018, g⟩ 0 a0.To.length), (.ref ⟨1024000019, g⟩ 0 a0.Gone.length)]), (⟨1024000016, g⟩, .arr true 9 (a0.Pages.map r_api_Page)), (⟨1024000017, g⟩, .arr true 1 (a0.Keys.map r_u32)), (⟨1024000018, g⟩, .arr true 2 (a0.To.map r_pointer_Pointer)), (⟨1024000019, g⟩, .arr true 2 (a0.Gone.map r_pointer_Pointer)), (⟨1024000020, g⟩, .box true [(.p (.int .i64 0)), (.p (.bool false)), (.p (.bool false)), (.p (.bool false)), (.p (.bool false)), (.p (.bool false)), (.p (.bool false)), (.p (.int .i64 0)), (.p (.int .i64 0)), .nilS, .nilS, (.p (.int .i64 0)), (.p (.int .i64 0)), (.p (.int .i64 0))]), (⟨1024000021, g⟩, .arr true 9 (l69.map r_api_Page)), (⟨1024000022, g⟩, .box true [(.p (.int .i64 x70)), (.p (.bool b71)), (.p (.bool b72)), (.p (.bool b73)), (.p (.bool b74)), (.p (.bool b75)), (.p (.bool b76)), (.p (.int .i64 x77.Line)), (.p (.int .i64 x77.Gen)), (.ref ⟨1024000023, g⟩ 0 l78.length), (.ref ⟨1024000024, g⟩ 0 l79.length), (.p (.int .i64 x80)), (.p (.int .i64 x81)), (.p (.int .i64 x82))]), (⟨1024000023, g⟩, .arr true 3 (l78.map r_hashindex_Entry)), (⟨1024000024, g⟩, .arr true 1 (l79.map r_i64))] (g + 1)) res) ?_ (fun hj2 => ?_)
   ·refine join_of ?_
    rintro g ⟨⟩ h
    rw [bodegalaw24_index_run_J2] at h
    try dsimp only
    refine swp_seq ?_
    refine go_seq ?_
    refine swp_block ?_
    refine swp_iter (fun g x => match x with | (l134, x135) => stL [(0, (.c (.ptr ⟨0, 1⟩ 0 0))), (4, (.c (.ptr ⟨1024000029, g⟩ 0 0))), (7, (.c (.ref ⟨1024000030, g⟩ 0 l69.length))), (8, (.c (.ptr ⟨1024000031, g⟩ 0 0))), (11, (.c (.p (.int .i64 x135))))] [(⟨0, 1⟩, .box true [(.ref ⟨1024000025, g⟩ 0 l134.length), (.p (.int .i64 x67)), (.ref ⟨1024000026, g⟩ 0 a0.Keys.length), (.ref ⟨1024000027, g⟩ 0 a0.To.length), (.ref ⟨1024000028, g⟩ 0 a0.Gone.length)]), (⟨1024000025, g⟩, .arr true 9 (l134.map r_api_Page)), (⟨1024000026, g⟩, .arr true 1 (a0.Keys.map r_u32)), (⟨1024000027, g⟩, .arr true 2 (a0.To.map r_pointer_Pointer)), (⟨1024000028, g⟩, .arr true 2 (a0.Gone.map r_pointer_Pointer)), (⟨1024000029, g⟩, .box true [(.p (.int .i64 0)), (.p (.bool false)), (.p (.bool false)), (.p (.bool false)), (.p (.bool false)), (.p (.bool false)), (.p (.bool false)), (.p (.int .i64 0)), (.p (.int .i64 0)), .nilS, .nilS, (.p (.int .i64 0)), (.p (.int .i64 0)), (.p (.int .i64 0))]), (⟨1024000030, g⟩, .arr true 9 (l69.map r_api_Page)), (⟨1024000031, g⟩, .box true [(.p (.int .i64 x70)), (.p (.bool b71)), (.p (.bool b72)), (.p (.bool b73)), (.p (.bool b74)), (.p (.bool b75)), (.p (.bool b76)), (.p (.int .i64 x77.Line)), (.p (.int .i64 x77.Gen)), (.ref ⟨1024000032, g⟩ 0 l78.length), (.ref ⟨1024000033, g⟩ 0 l79.length), (.p (.int .i64 x80)), (.p (.int .i64 x81)), (.p (.int .i64 x82))]), (⟨1024000032, g⟩, .arr true 3 (l78.map r_hashindex_Entry)), (⟨1024000033, g⟩, .arr true 1 (l79.map r_i64))] (g + 1)) h (enter_of (ren_go (fun g S => [(⟨1024000025, g⟩, (keyB 0 (St.heap S ⟨0, 1⟩))), (⟨1024000026, g⟩, (keyB 2 (St.heap S ⟨0, 1⟩))), (⟨1024000027, g⟩, (keyB 3 (St.heap S ⟨0, 1⟩))), (⟨1024000028, g⟩, (keyB 4 (St.heap S ⟨0, 1⟩))), (⟨1024000029, g⟩, (keyT 0 (St.env S 4))), (⟨1024000030, g⟩, (keyT 0 (St.env S 7))), (⟨1024000031, g⟩, (keyT 0 (St.env S 8))), (⟨1024000032, g⟩, (keyB 9 (St.heap S (keyT 0 (St.env S 8))))), (⟨1024000033, g⟩, (keyB 10 (St.heap S (keyT 0 (St.env S 8)))))]) fun g S => [])) ?_
    rintro g ⟨l134, x135⟩ s1 h hd1
    rw [bodegalaw24_index_run_L1] at h
    try dsimp only
    refine swp_seq ?_
    refine go_seq ?_
    refine bsplit h (fun hb137 h => ?_) (fun hb137 h => ?_)
    ·refine if_go ?_
     refine swp_skip ?_
     with_reducible repeat first|apply nn|apply nb|apply nr|apply nc|apply ne|apply nq|apply nx rfl
     refine swp_seq ?_
     refine swp_block ?_
     refine seq_reg rfl (fun K hK => ?_)
     refine bind_of h (fun e138 he138 h => ?_)
     obtain ⟨he138_0, he138_1, he138_2⟩ := idx_some he138
     simp -implicitDefEqProofs +decide only [go_sem, Nat.reduceAdd, Int.reduceToNat, he138_0, he138_1, he138_2, hb137]
     refine hK _ ?_
     refine cut1 (Joins (bodegalaw24_index_run_J3 l69 x135 l134 e138) (fun g _ => stL [(0, (.c (.ptr ⟨0, 1⟩ 0 0))), (4, (.c (.ptr ⟨1024000038, g⟩ 0 0))), (7, (.c (.ref ⟨1024000039, g⟩ 0 l69.length))), (8, (.c (.ptr ⟨1024000040, g⟩ 0 0))), (11, (.c (.p (.int .i64 x135)))), (12, (.c (.p (.int .i64 (IntKind.i64.wrap (e138.Line - 96))))))] [(⟨0, 1⟩, .box true [(.ref ⟨1024000034, g⟩ 0 l134.length), (.p (.int .i64 x67)), (.ref ⟨1024000035, g⟩ 0 a0.Keys.length), (.ref ⟨1024000036, g⟩ 0 a0.To.length), (.ref ⟨1024000037, g⟩ 0 a0.Gone.length)]), (⟨1024000034, g⟩, .arr true 9 (l134.map r_api_Page)), (⟨1024000035, g⟩, .arr true 1 (a0.Keys.map r_u32)), (⟨1024000036, g⟩, .arr true 2 (a0.To.map r_pointer_Pointer)), (⟨1024000037, g⟩, .arr true 2 (a0.Gone.map r_pointer_Pointer)), (⟨1024000038, g⟩, .box true [(.p (.int .i64 0)), (.p (.bool false)), (.p (.bool false)), (.p (.bool false)), (.p (.bool false)), (.p (.bool false)), (.p (.bool false)), (.p (.int .i64 0)), (.p (.int .i64 0)), .nilS, .nilS, (.p (.int .i64 0)), (.p (.int .i64 0)), (.p (.int .i64 0))]), (⟨1024000039, g⟩, .arr true 9 (l69.map r_api_Page)), (⟨1024000040, g⟩, .box true [(.p (.int .i64 x70)), (.p (.bool b71)), (.p (.bool b72)), (.p (.bool b73)), (.p (.bool b74)), (.p (.bool b75)), (.p (.bool b76)), (.p (.int .i64 x77.Line)), (.p (.int .i64 x77.Gen)), (.ref ⟨1024000041, g⟩ 0 l78.length), (.ref ⟨1024000042, g⟩ 0 l79.length), (.p (.int .i64 x80)), (.p (.int .i64 x81)), (.p (.int .i64 x82))]), (⟨1024000041, g⟩, .arr true 3 (l78.map r_hashindex_Entry)), (⟨1024000042, g⟩, .arr true 1 (l79.map r_i64))] (g + 1)) s1) ?_ (fun hj3 => ?_)
     ·refine join_of ?_
      rintro g ⟨⟩ h
      rw [bodegalaw24_index_run_J3] at h
      try dsimp only
      refine seq_drw rfl (fun K hK => ?_)
      refine bind_of h (fun e146 he146 h => ?_)
      obtain ⟨he146_0, he146_1, he146_2⟩ := idx_some he146
      refine bind_of h (fun e147 he147 h => ?_)
      obtain ⟨he147_0, he147_1, he147_2⟩ := idx_some he147
      simp -implicitDefEqProofs +decide only [go_sem, Nat.reduceAdd, Int.reduceToNat, he146_0, he146_1, he146_2, he147_0, he147_1, he147_2, hb137]
      refine draw_go (by kernel_rfl) ?_
      refine hK _ ?_
      refine swp_fresh (fun g => stL [(0, (.c (.ptr ⟨0, 1⟩ 0 0))), (4, (.c (.ptr ⟨1024000047, g⟩ 0 0))), (7, (.c (.ref ⟨1024000048, g⟩ 0 l69.length))), (8, (.c (.ptr ⟨1024000049, g⟩ 0 0))), (11, (.c (.p (.int .i64 x135)))), (12, (.c (.p (.int .i64 (IntKind.i64.wrap (e138.Line - 96))))))] [(⟨0, 1⟩, .box true [(.ref ⟨1024000043, g⟩ 0 (l134.set (IntKind.i64.wrap (e138.Line - 96)).toNat e146).length), (.p (.int .i64 x67)), (.ref ⟨1024000044, g⟩ 0 a0.Keys.length), (.ref ⟨1024000045, g⟩ 0 a0.To.length), (.ref ⟨1024000046, g⟩ 0 a0.Gone.length)]), (⟨1024000043, g⟩, .arr true 9 ((l134.set (IntKind.i64.wrap (e138.Line - 96)).toNat e146).map r_api_Page)), (⟨1024000044, g⟩, .arr true 1 (a0.Keys.map r_u32)), (⟨1024000045, g⟩, .arr true 2 (a0.To.map r_pointer_Pointer)), (⟨1024000046, g⟩, .arr true 2 (a0.Gone.map r_pointer_Pointer)), (⟨1024000047, g⟩, .box true [(.p (.int .i64 0)), (.p (.bool false)), (.p (.bool false)), (.p (.bool false)), (.p (.bool false)), (.p (.bool false)), (.p (.bool false)), (.p (.int .i64 0)), (.p (.int .i64 0)), .nilS, .nilS, (.p (.int .i64 0)), (.p (.int .i64 0)), (.p (.int .i64 0))]), (⟨1024000048, g⟩, .arr true 9 (l69.map r_api_Page)), (⟨1024000049, g⟩, .box true [(.p (.int .i64 x70)), (.p (.bool b71)), (.p (.bool b72)), (.p (.bool b73)), (.p (.bool b74)), (.p (.bool b75)), (.p (.bool b76)), (.p (.int .i64 x77.Line)), (.p (.int .i64 x77.Gen)), (.ref ⟨1024000050, g⟩ 0 l78.length), (.ref ⟨1024000051, g⟩ 0 l79.length), (.p (.int .i64 x80)), (.p (.int .i64 x81)), (.p (.int .i64 x82))]), (⟨1024000050, g⟩, .arr true 3 (l78.map r_hashindex_Entry)), (⟨1024000051, g⟩, .arr true 1 (l79.map r_i64))] (g + 1)) (ren_go (fun g S => [(⟨1024000043, g⟩, (keyB 0 (St.heap S ⟨0, 1⟩))), (⟨1024000044, g⟩, (keyB 2 (St.heap S ⟨0, 1⟩))), (⟨1024000045, g⟩, (keyB 3 (St.heap S ⟨0, 1⟩))), (⟨1024000046, g⟩, (keyB 4 (St.heap S ⟨0, 1⟩))), (⟨1024000047, g⟩, (keyT 0 (St.env S 4))), (⟨1024000048, g⟩, (keyT 0 (St.env S 7))), (⟨1024000049, g⟩, (keyT 0 (St.env S 8))), (⟨1024000050, g⟩, (keyB 9 (St.heap S (keyT 0 (St.env S 8))))), (⟨1024000051, g⟩, (keyB 10 (St.heap S (keyT 0 (St.env S 8)))))]) fun g S => []) fun g => ?_
      refine swp_reg rfl (fun K hK => ?_)
      refine bind_of h (fun e148 he148 h => ?_)
      obtain ⟨he148_0, he148_1, he148_2⟩ := idx_some he148
      simp -implicitDefEqProofs +decide only [go_sem, Nat.reduceAdd, Int.reduceToNat, he148_0, he148_1, he148_2, hb137]
      refine hK _ ?_
      with_reducible repeat first|apply nn|apply nb|apply nr|apply nc|apply ne|apply nq|apply nx rfl
      refine swp_fresh (fun g => stL [(0, (.c (.ptr ⟨0, 1⟩ 0 0))), (4, (.c (.ptr ⟨1024000056, g⟩ 0 0))), (7, (.c (.ref ⟨1024000057, g⟩ 0 l69.length))), (8, (.c (.ptr ⟨1024000058, g⟩ 0 0))), (11, (.c (.p (.int .i64 x135))))] [(⟨0, 1⟩, .box true [(.ref ⟨1024000052, g⟩ 0 ((l134.set (IntKind.i64.wrap (e138.Line - 96)).toNat e146).set (IntKind.i64.wrap (e138.Line - 96)).toNat (⟨e148.Line, (IntKind.u64.wrap (e148.Head + 256)), e148.Data⟩ : api_Page)).length), (.p (.int .i64 x67)), (.ref ⟨1024000053, g⟩ 0 a0.Keys.length), (.ref ⟨1024000054, g⟩ 0 a0.To.length), (.ref ⟨1024000055, g⟩ 0 a0.Gone.length)]), (⟨1024000052, g⟩, .arr true 9 (((l134.set (IntKind.i64.wrap (e138.Line - 96)).toNat e146).set (IntKind.i64.wrap (e138.Line - 96)).toNat (⟨e148.Line, (IntKind.u64.wrap (e148.Head + 256)), e148.Data⟩ : api_Page)).map r_api_Page)), (⟨1024000053, g⟩, .arr true 1 (a0.Keys.map r_u32)), (⟨1024000054, g⟩, .arr true 2 (a0.To.map r_pointer_Pointer)), (⟨1024000055, g⟩, .arr true 2 (a0.Gone.map r_pointer_Pointer)), (⟨1024000056, g⟩, .box true [(.p (.int .i64 0)), (.p (.bool false)), (.p (.bool false)), (.p (.bool false)), (.p (.bool false)), (.p (.bool false)), (.p (.bool false)), (.p (.int .i64 0)), (.p (.int .i64 0)), .nilS, .nilS, (.p (.int .i64 0)), (.p (.int .i64 0)), (.p (.int .i64 0))]), (⟨1024000057, g⟩, .arr true 9 (l69.map r_api_Page)), (⟨1024000058, g⟩, .box true [(.p (.int .i64 x70)), (.p (.bool b71)), (.p (.bool b72)), (.p (.bool b73)), (.p (.bool b74)), (.p (.bool b75)), (.p (.bool b76)), (.p (.int .i64 x77.Line)), (.p (.int .i64 x77.Gen)), (.ref ⟨1024000059, g⟩ 0 l78.length), (.ref ⟨1024000060, g⟩ 0 l79.length), (.p (.int .i64 x80)), (.p (.int .i64 x81)), (.p (.int .i64 x82))]), (⟨1024000059, g⟩, .arr true 3 (l78.map r_hashindex_Entry)), (⟨1024000060, g⟩, .arr true 1 (l79.map r_i64))] (g + 1)) (ren_go (fun g S => [(⟨1024000052, g⟩, (keyB 0 (St.heap S ⟨0, 1⟩))), (⟨1024000053, g⟩, (keyB 2 (St.heap S ⟨0, 1⟩))), (⟨1024000054, g⟩, (keyB 3 (St.heap S ⟨0, 1⟩))), (⟨1024000055, g⟩, (keyB 4 (St.heap S ⟨0, 1⟩))), (⟨1024000056, g⟩, (keyT 0 (St.env S 4))), (⟨1024000057, g⟩, (keyT 0 (St.env S 7))), (⟨1024000058, g⟩, (keyT 0 (St.env S 8))), (⟨1024000059, g⟩, (keyB 9 (St.heap S (keyT 0 (St.env S 8))))), (⟨1024000060, g⟩, (keyB 10 (St.heap S (keyT 0 (St.env S 8)))))]) fun g S => []) fun g => ?_
      refine go_swp ?_
      with_reducible repeat first|apply nn|apply nb|apply nr|apply nc|apply ne|apply nq|apply nx rfl
      exact back_of h (ren_go (fun g S => [(⟨1024000025, g⟩, (keyB 0 (St.heap S ⟨0, 1⟩))), (⟨1024000026, g⟩, (keyB 2 (St.heap S ⟨0, 1⟩))), (⟨1024000027, g⟩, (keyB 3 (St.heap S ⟨0, 1⟩))), (⟨1024000028, g⟩, (keyB 4 (St.heap S ⟨0, 1⟩))), (⟨1024000029, g⟩, (keyT 0 (St.env S 4))), (⟨1024000030, g⟩, (keyT 0 (St.env S 7))), (⟨1024000031, g⟩, (keyT 0 (St.env S 8))), (⟨1024000032, g⟩, (keyB 9 (St.heap S (keyT 0 (St.env S 8))))), (⟨1024000033, g⟩, (keyB 10 (St.heap S (keyT 0 (St.env S 8)))))]) fun g S => [])
     refine swp_seq ?_
     refine seq_drw rfl (fun K hK => ?_)
     refine bsplit h (fun hb151 h => ?_) (fun hb151 h => ?_)
     ·simp -implicitDefEqProofs +decide only [go_sem, Nat.reduceAdd, Int.reduceToNat, hb137, hb151]
      refine draw_go (by kernel_rfl) ?_
      refine hK _ ?_
      refine if_go ?_
      refine go_seq ?_
      refine swp_ret ?_
      with_reducible repeat first|apply nn|apply nb|apply nr|apply nc|apply ne|apply nq|apply nx rfl
      obtain ⟨h, hs1⟩ := exit_of h hd1
      refine ⟨hs1, ?_⟩
      with_reducible repeat first|apply nn|apply nb|apply nr|apply nc|apply ne|apply nq|apply nx rfl
      obtain rfl := some_eq h
      exact rt
     ·refine bsplit h (fun hb152 h => ?_) (fun hb152 h => ?_)
      ·simp -implicitDefEqProofs +decide only [go_sem, Nat.reduceAdd, Int.reduceToNat, hb137, hb151, hb152]
       refine draw_go (by kernel_rfl) ?_
       refine hK _ ?_
       refine if_go ?_
       refine go_seq ?_
       refine swp_ret ?_
       with_reducible repeat first|apply nn|apply nb|apply nr|apply nc|apply ne|apply nq|apply nx rfl
       obtain ⟨h, hs1⟩ := exit_of h hd1
       refine ⟨hs1, ?_⟩
       with_reducible repeat first|apply nn|apply nb|apply nr|apply nc|apply ne|apply nq|apply nx rfl
       obtain rfl := some_eq h
       exact rt
      ·refine bind_of h (fun e153 he153 h => ?_)
       obtain ⟨he153_0, he153_1, he153_2⟩ := idx_some he153
       refine bsplit h (fun hb154 h => ?_) (fun hb154 h => ?_)
       ·simp -implicitDefEqProofs +decide only [go_sem, Nat.reduceAdd, Int.reduceToNat, he153_0, he153_1, he153_2, he138_0, he138_1, he138_2, hb137, hb151, hb152, hb154]
        refine draw_go (by kernel_rfl) ?_
        refine hK _ ?_
        refine if_go ?_
        refine go_seq ?_
        refine swp_ret ?_
        with_reducible repeat first|apply nn|apply nb|apply nr|apply nc|apply ne|apply nq|apply nx rfl
        obtain ⟨h, hs1⟩ := exit_of h hd1
        refine ⟨hs1, ?_⟩
        with_reducible repeat first|apply nn|apply nb|apply nr|apply nc|apply ne|apply nq|apply nx rfl
        obtain rfl := some_eq h
        exact rt
       ·refine bsplit h (fun hb155 h => ?_) (fun hb155 h => ?_)
        ·refine bind_of h (fun e156 he156 h => ?_)
         obtain ⟨he156_0, he156_1, he156_2⟩ := idx_some he156
         simp -implicitDefEqProofs +decide only [go_sem, Nat.reduceAdd, Int.reduceToNat, he153_0, he153_1, he153_2, he138_0, he138_1, he138_2, he156_0, he156_1, he156_2, hb137, hb151, hb152, hb154, hb155]
         refine draw_go (by kernel_rfl) ?_
         refine hK _ ?_
         refine bsplit h (fun hb157 h => ?_) (fun hb157 h => ?_)
         ·refine if_go ?_
          refine go_seq ?_
          refine swp_ret ?_
          with_reducible repeat first|apply nn|apply nb|apply nr|apply nc|apply ne|apply nq|apply nx rfl
          obtain ⟨h, hs1⟩ := exit_of h hd1
          refine ⟨hs1, ?_⟩
          with_reducible repeat first|apply nn|apply nb|apply nr|apply nc|apply ne|apply nq|apply nx rfl
          obtain rfl := some_eq h
          exact rt
         ·refine el_go ?_
          refine swp_skip ?_
          with_reducible repeat first|apply nn|apply nb|apply nr|apply nc|apply ne|apply nq|apply nx rfl
          exact jump_of hj3 h (ren_go (fun g S => [(⟨1024000034, g⟩, (keyB 0 (St.heap S ⟨0, 1⟩))), (⟨1024000035, g⟩, (keyB 2 (St.heap S ⟨0, 1⟩))), (⟨1024000036, g⟩, (keyB 3 (St.heap S ⟨0, 1⟩))), (⟨1024000037, g⟩, (keyB 4 (St.heap S ⟨0, 1⟩))), (⟨1024000038, g⟩, (keyT 0 (St.env S 4))), (⟨1024000039, g⟩, (keyT 0 (St.env S 7))), (⟨1024000040, g⟩, (keyT 0 (St.env S 8))), (⟨1024000041, g⟩, (keyB 9 (St.heap S (keyT 0 (St.env S 8))))), (⟨1024000042, g⟩, (keyB 10 (St.heap S (keyT 0 (St.env S 8)))))]) fun g S => [])
        ·simp -implicitDefEqProofs +decide only [go_sem, Nat.reduceAdd, Int.reduceToNat, he153_0, he153_1, he153_2, he138_0, he138_1, he138_2, hb137, hb151, hb152, hb154, hb155]
         refine draw_go (by kernel_rfl) ?_
         refine hK _ ?_
         refine el_go ?_
         refine swp_skip ?_
         with_reducible repeat first|apply nn|apply nb|apply nr|apply nc|apply ne|apply nq|apply nx rfl
         exact jump_of hj3 h (ren_go (fun g S => [(⟨1024000034, g⟩, (keyB 0 (St.heap S ⟨0, 1⟩))), (⟨1024000035, g⟩, (keyB 2 (St.heap S ⟨0, 1⟩))), (⟨1024000036, g⟩, (keyB 3 (St.heap S ⟨0, 1⟩))), (⟨1024000037, g⟩, (keyB 4 (St.heap S ⟨0, 1⟩))), (⟨1024000038, g⟩, (keyT 0 (St.env S 4))), (⟨1024000039, g⟩, (keyT 0 (St.env S 7))), (⟨1024000040, g⟩, (keyT 0 (St.env S 8))), (⟨1024000041, g⟩, (keyB 9 (St.heap S (keyT 0 (St.env S 8))))), (⟨1024000042, g⟩, (keyB 10 (St.heap S (keyT 0 (St.env S 8)))))]) fun g S => [])
    ·refine el_go ?_
     refine swp_exit ?_
     with_reducible repeat first|apply nn|apply nb|apply nr|apply nc|apply ne|apply nq|apply nx rfl
     obtain ⟨h, hs1⟩ := exit_of h hd1
     with_reducible repeat first|apply nn|apply nb|apply nr|apply nc|apply ne|apply nq|apply nx rfl
     refine ⟨hs1, ?_⟩
     with_reducible repeat first|apply nn|apply nb|apply nr|apply nc|apply ne|apply nq|apply nx rfl
     refine go_seq ?_
     refine swp_ret ?_
     with_reducible repeat first|apply nn|apply nb|apply nr|apply nc|apply ne|apply nq|apply nx rfl
     obtain rfl := some_eq h
     exact rt
   refine swp_seq ?_
   refine seq_reg rfl (fun K hK => ?_)
   refine bsplit h (fun hb160 h => ?_) (fun hb160 h => ?_)
   ·simp -implicitDefEqProofs +decide only [go_sem, Nat.reduceAdd, Int.reduceToNat, hb160]
    refine hK _ ?_
    refine if_go ?_
    refine go_seq ?_
    refine swp_ret ?_
    with_reducible repeat first|apply nn|apply nb|apply nr|apply nc|apply ne|apply nq|apply nx rfl
    obtain rfl := some_eq h
    exact rt
   ·refine bsplit h (fun hb161 h => ?_) (fun hb161 h => ?_)
    ·simp -implicitDefEqProofs +decide only [go_sem, Nat.reduceAdd, Int.reduceToNat, hb160, hb161]
     refine hK _ ?_
     refine if_go ?_
     refine go_seq ?_
     refine swp_ret ?_
     with_reducible repeat first|apply nn|apply nb|apply nr|apply nc|apply ne|apply nq|apply nx rfl
     obtain rfl := some_eq h
     exact rt
    ·refine bsplit h (fun hb162 h => ?_) (fun hb162 h => ?_)
     ·simp -implicitDefEqProofs +decide only [go_sem, Nat.reduceAdd, Int.reduceToNat, hb160, hb161, hb162]
      refine hK _ ?_
      refine bsplit h (fun hb163 h => ?_) (fun hb163 h => ?_)
      ·refine if_go ?_
       refine go_seq ?_
       refine swp_ret ?_
       with_reducible repeat first|apply nn|apply nb|apply nr|apply nc|apply ne|apply nq|apply nx rfl
       obtain rfl := some_eq h
       exact rt
      ·refine el_go ?_
       refine swp_skip ?_
       with_reducible repeat first|apply nn|apply nb|apply nr|apply nc|apply ne|apply nq|apply nx rfl
       exact jump_of hj2 h (ren_go (fun g S => [(⟨1024000016, g⟩, (keyB 0 (St.heap S ⟨0, 1⟩))), (⟨1024000017, g⟩, (keyB 2 (St.heap S ⟨0, 1⟩))), (⟨1024000018, g⟩, (keyB 3 (St.heap S ⟨0, 1⟩))), (⟨1024000019, g⟩, (keyB 4 (St.heap S ⟨0, 1⟩))), (⟨1024000020, g⟩, (keyT 0 (St.env S 4))), (⟨1024000021, g⟩, (keyT 0 (St.env S 7))), (⟨1024000022, g⟩, (keyT 0 (St.env S 8))), (⟨1024000023, g⟩, (keyB 9 (St.heap S (keyT 0 (St.env S 8))))), (⟨1024000024, g⟩, (keyB 10 (St.heap S (keyT 0 (St.env S 8)))))]) fun g S => [])
     ·simp -implicitDefEqProofs +decide only [go_sem, Nat.reduceAdd, Int.reduceToNat, hb160, hb161, hb162]
      refine hK _ ?_
      refine el_go ?_
      refine swp_skip ?_
      with_reducible repeat first|apply nn|apply nb|apply nr|apply nc|apply ne|apply nq|apply nx rfl
      exact jump_of hj2 h (ren_go (fun g S => [(⟨1024000016, g⟩, (keyB 0 (St.heap S ⟨0, 1⟩))), (⟨1024000017, g⟩, (keyB 2 (St.heap S ⟨0, 1⟩))), (⟨1024000018, g⟩, (keyB 3 (St.heap S ⟨0, 1⟩))), (⟨1024000019, g⟩, (keyB 4 (St.heap S ⟨0, 1⟩))), (⟨1024000020, g⟩, (keyT 0 (St.env S 4))), (⟨1024000021, g⟩, (keyT 0 (St.env S 7))), (⟨1024000022, g⟩, (keyT 0 (St.env S 8))), (⟨1024000023, g⟩, (keyB 9 (St.heap S (keyT 0 (St.env S 8))))), (⟨1024000024, g⟩, (keyB 10 (St.heap S (keyT 0 (St.env S 8)))))]) fun g S => [])
  refine swp_seq ?_
  refine seq_reg rfl (fun K hK => ?_)
  refine bsplit h (fun hb164 h => ?_) (fun hb164 h => ?_)
  ·simp -implicitDefEqProofs +decide only [go_sem, Nat.reduceAdd, Int.reduceToNat, hb164]
   refine hK _ ?_
   refine bsplit h (fun hb165 h => ?_) (fun hb165 h => ?_)
   ·refine if_go ?_
    refine cut1 (Joins (bodegalaw24_index_run_J4 a1 a0) (fun g x => match x with | (x196, l197) => stL [(0, (.c (.ptr ⟨0, 1⟩ 0 0))), (3, (.c (.ptr ⟨1024000065, g⟩ 0 0))), (4, (.c (.ptr ⟨1024000067, g⟩ 0 0))), (8, (.c (.ptr ⟨1024000068, g⟩ 0 0)))] [(⟨0, 1⟩, .box true [(.ref ⟨1024000061, g⟩ 0 a0.Pages.length), (.p (.int .i64 x196)), (.ref ⟨1024000062, g⟩ 0 a0.Keys.length), (.ref ⟨1024000063, g⟩ 0 a0.To.length), (.ref ⟨1024000064, g⟩ 0 a0.Gone.length)]), (⟨1024000061, g⟩, .arr true 9 (a0.Pages.map r_api_Page)), (⟨1024000062, g⟩, .arr true 1 (a0.Keys.map r_u32)), (⟨1024000063, g⟩, .arr true 2 (a0.To.map r_pointer_Pointer)), (⟨1024000064, g⟩, .arr true 2 (a0.Gone.map r_pointer_Pointer)), (⟨1024000065, g⟩, .box true [(.p (.int .i64 a1.Kind)), (.p (.int .u32 a1.Key)), (.p (.int .u32 a1.Last)), (.p (.int .i64 a1.To.Line)), (.p (.int .i64 a1.To.Gen)), (.p (.int .i64 a1.Level)), (.p (.int .i64 a1.Limit)), (.ref ⟨1024000066, g⟩ 0 l197.length)]), (⟨1024000066, g⟩, .arr true 9 (l197.map r_api_Page)), (⟨1024000067, g⟩, .box true [(.p (.int .i64 0)), (.p (.bool false)), (.p (.bool false)), (.p (.bool false)), (.p (.bool false)), (.p (.bool false)), (.p (.bool false)), (.p (.int .i64 0)), (.p (.int .i64 0)), .nilS, .nilS, (.p (.int .i64 0)), (.p (.int .i64 0)), (.p (.int .i64 0))]), (⟨1024000068, g⟩, .box true (b_uztp v1.2.2.1 ⟨1024000069, g⟩ ⟨1024000070, g⟩)), (⟨1024000069, g⟩, .arr true 3 (v1.2.2.1.Entries.map r_hashindex_Entry)), (⟨1024000070, g⟩, .arr true 1 (v1.2.2.1.Check.map r_i64))] (g + 1)) res) ?_ (fun hj4 => ?_)
    ·refine join_of ?_
     rintro g ⟨x196, l197⟩ h
     rw [bodegalaw24_index_run_J4] at h
     try dsimp only
     refine swp_drw rfl (fun K hK => ?_)
     refine bind_of h (fun v198 hv198 h => ?_)
     simp -implicitDefEqProofs +decide only [go_sem, Nat.reduceAdd, Int.reduceToNat, hb164, hb165]
     refine call_go [0, 0] false (btree_Next_ok (cG G) hG0 _ _ _ hv198) ?_
     simp -implicitDefEqProofs +decide only [go_sem, Nat.reduceAdd, Int.reduceToNat, hb164, hb165]
     refine draw_go (by kernel_rfl) ?_
     refine hK _ ?_
     with_reducible repeat first|apply nn|apply nb|apply nr|apply nc|apply ne|apply nq|apply nx rfl
     exact jump_of hj1 h (ren_go (fun g S => [(⟨1024000006, g⟩, (keyB 0 (St.heap S ⟨0, 1⟩))), (⟨1024000007, g⟩, (keyB 2 (St.heap S ⟨0, 1⟩))), (⟨1024000008, g⟩, (keyB 3 (St.heap S ⟨0, 1⟩))), (⟨1024000009, g⟩, (keyB 4 (St.heap S ⟨0, 1⟩))), (⟨1024000010, g⟩, (keyT 0 (St.env S 4))), (⟨1024000011, g⟩, (keyT 0 (St.env S 6))), (⟨1024000012, g⟩, (keyT 0 (St.env S 7))), (⟨1024000013, g⟩, (keyT 0 (St.env S 8))), (⟨1024000014, g⟩, (keyB 9 (St.heap S (keyT 0 (St.env S 8))))), (⟨1024000015, g⟩, (keyB 10 (St.heap S (keyT 0 (St.env S 8)))))]) fun g S => [])
    refine swp_seq ?_
    refine go_seq ?_
    refine swp_block ?_
    refine swp_iter (fun g x => match x with | (x237, l238, x239) => stL [(0, (.c (.ptr ⟨0, 1⟩ 0 0))), (3, (.c (.ptr ⟨1024000075, g⟩ 0 0))), (4, (.c (.ptr ⟨1024000077, g⟩ 0 0))), (8, (.c (.ptr ⟨1024000078, g⟩ 0 0))), (10, (.c (.p (.int .i64 x239))))] [(⟨0, 1⟩, .box true [(.ref ⟨1024000071, g⟩ 0 a0.Pages.length), (.p (.int .i64 x237)), (.ref ⟨1024000072, g⟩ 0 a0.Keys.length), (.ref ⟨1024000073, g⟩ 0 a0.To.length), (.ref ⟨1024000074, g⟩ 0 a0.Gone.length)]), (⟨1024000071, g⟩, .arr true 9 (a0.Pages.map r_api_Page)), (⟨1024000072, g⟩, .arr true 1 (a0.Keys.map r_u32)), (⟨1024000073, g⟩, .arr true 2 (a0.To.map r_pointer_Pointer)), (⟨1024000074, g⟩, .arr true 2 (a0.Gone.map r_pointer_Pointer)), (⟨1024000075, g⟩, .box true [(.p (.int .i64 a1.Kind)), (.p (.int .u32 a1.Key)), (.p (.int .u32 a1.Last)), (.p (.int .i64 a1.To.Line)), (.p (.int .i64 a1.To.Gen)), (.p (.int .i64 a1.Level)), (.p (.int .i64 a1.Limit)), (.ref ⟨1024000076, g⟩ 0 l238.length)]), (⟨1024000076, g⟩, .arr true 9 (l238.map r_api_Page)), (⟨1024000077, g⟩, .box true [(.p (.int .i64 0)), (.p (.bool false)), (.p (.bool false)), (.p (.bool false)), (.p (.bool false)), (.p (.bool false)), (.p (.bool false)), (.p (.int .i64 0)), (.p (.int .i64 0)), .nilS, .nilS, (.p (.int .i64 0)), (.p (.int .i64 0)), (.p (.int .i64 0))]), (⟨1024000078, g⟩, .box true (b_uztp v1.2.2.1 ⟨1024000079, g⟩ ⟨1024000080, g⟩)), (⟨1024000079, g⟩, .arr true 3 (v1.2.2.1.Entries.map r_hashindex_Entry)), (⟨1024000080, g⟩, .arr true 1 (v1.2.2.1.Check.map r_i64))] (g + 1)) h (enter_of (ren_go (fun g S => [(⟨1024000071, g⟩, (keyB 0 (St.heap S ⟨0, 1⟩))), (⟨1024000072, g⟩, (keyB 2 (St.heap S ⟨0, 1⟩))), (⟨1024000073, g⟩, (keyB 3 (St.heap S ⟨0, 1⟩))), (⟨1024000074, g⟩, (keyB 4 (St.heap S ⟨0, 1⟩))), (⟨1024000075, g⟩, (keyT 0 (St.env S 3))), (⟨1024000076, g⟩, (keyB 7 (St.heap S (keyT 0 (St.env S 3))))), (⟨1024000077, g⟩, (keyT 0 (St.env S 4))), (⟨1024000078, g⟩, (keyT 0 (St.env S 8))), (⟨1024000079, g⟩, (keyB 9 (St.heap S (keyT 0 (St.env S 8))))), (⟨1024000080, g⟩, (keyB 10 (St.heap S (keyT 0 (St.env S 8)))))]) fun g S => [])) ?_
    rintro g ⟨x237, l238, x239⟩ s2 h hd2
    rw [bodegalaw24_index_run_L2] at h
    try dsimp only
    refine swp_seq ?_
    refine seq_reg rfl (fun K hK => ?_)
    refine bsplit h (fun hb246 h => ?_) (fun hb246 h => ?_)
    ·simp -implicitDefEqProofs +decide only [go_sem, Nat.reduceAdd, Int.reduceToNat, hb246]
     refine hK _ ?_
     refine bsplit h (fun hb247 h => ?_) (fun hb247 h => ?_)
     ·refine if_go ?_
      refine swp_skip ?_
      with_reducible repeat first|apply nn|apply nb|apply nr|apply nc|apply ne|apply nq|apply nx rfl
      refine swp_seq ?_
      refine swp_block ?_
      refine seq_drw rfl (fun K hK => ?_)
      refine bind_of h (fun e248 he248 h => ?_)
      obtain ⟨he248_0, he248_1, he248_2⟩ := idx_some he248
      refine psplit h (fun hp249 h => ?_)
      simp -implicitDefEqProofs +decide only [go_sem, Nat.reduceAdd, Int.reduceToNat, he248_0, he248_1, he248_2, hp249, hb246, hb247]
      refine draw_go (by kernel_rfl) ?_
      refine hK _ ?_
      refine swp_fresh (fun g => stL [(0, (.c (.ptr ⟨0, 1⟩ 0 0))), (3, (.c (.ptr ⟨1024000085, g⟩ 0 0))), (4, (.c (.ptr ⟨1024000087, g⟩ 0 0))), (8, (.c (.ptr ⟨1024000088, g⟩ 0 0))), (10, (.c (.p (.int .i64 x239))))] [(⟨0, 1⟩, .box true [(.ref ⟨1024000081, g⟩ 0 a0.Pages.length), (.p (.int .i64 x237)), (.ref ⟨1024000082, g⟩ 0 a0.Keys.length), (.ref ⟨1024000083, g⟩ 0 a0.To.length), (.ref ⟨1024000084, g⟩ 0 a0.Gone.length)]), (⟨1024000081, g⟩, .arr true 9 (a0.Pages.map r_api_Page)), (⟨1024000082, g⟩, .arr true 1 (a0.Keys.map r_u32)), (⟨1024000083, g⟩, .arr true 2 (a0.To.map r_pointer_Pointer)), (⟨1024000084, g⟩, .arr true 2 (a0.Gone.map r_pointer_Pointer)), (⟨1024000085, g⟩, .box true [(.p (.int .i64 a1.Kind)), (.p (.int .u32 a1.Key)), (.p (.int .u32 a1.Last)), (.p (.int .i64 a1.To.Line)), (.p (.int .i64 a1.To.Gen)), (.p (.int .i64 a1.Level)), (.p (.int .i64 a1.Limit)), (.ref ⟨1024000086, g⟩ 0 (l238 ++ ([e248] : List api_Page)).length)]), (⟨1024000086, g⟩, .arr true 9 ((l238 ++ ([e248] : List api_Page)).map r_api_Page)), (⟨1024000087, g⟩, .box true [(.p (.int .i64 0)), (.p (.bool false)), (.p (.bool false)), (.p (.bool false)), (.p (.bool false)), (.p (.bool false)), (.p (.bool false)), (.p (.int .i64 0)), (.p (.int .i64 0)), .nilS, .nilS, (.p (.int .i64 0)), (.p (.int .i64 0)), (.p (.int .i64 0))]), (⟨1024000088, g⟩, .box true (b_uztp v1.2.2.1 ⟨1024000089, g⟩ ⟨1024000090, g⟩)), (⟨1024000089, g⟩, .arr true 3 (v1.2.2.1.Entries.map r_hashindex_Entry)), (⟨1024000090, g⟩, .arr true 1 (v1.2.2.1.Check.map r_i64))] (g + 1)) (ren_go (fun g S => [(⟨1024000081, g⟩, (keyB 0 (St.heap S ⟨0, 1⟩))), (⟨1024000082, g⟩, (keyB 2 (St.heap S ⟨0, 1⟩))), (⟨1024000083, g⟩, (keyB 3 (St.heap S ⟨0, 1⟩))), (⟨1024000084, g⟩, (keyB 4 (St.heap S ⟨0, 1⟩))), (⟨1024000085, g⟩, (keyT 0 (St.env S 3))), (⟨1024000086, g⟩, (keyB 7 (St.heap S (keyT 0 (St.env S 3))))), (⟨1024000087, g⟩, (keyT 0 (St.env S 4))), (⟨1024000088, g⟩, (keyT 0 (St.env S 8))), (⟨1024000089, g⟩, (keyB 9 (St.heap S (keyT 0 (St.env S 8))))), (⟨1024000090, g⟩, (keyB 10 (St.heap S (keyT 0 (St.env S 8)))))]) fun g S => []) fun g => ?_
      refine go_swp ?_
      with_reducible repeat first|apply nn|apply nb|apply nr|apply nc|apply ne|apply nq|apply nx rfl
      refine go_swp ?_
      with_reducible repeat first|apply nn|apply nb|apply nr|apply nc|apply ne|apply nq|apply nx rfl
      exact back_of h (ren_go (fun g S => [(⟨1024000071, g⟩, (keyB 0 (St.heap S ⟨0, 1⟩))), (⟨1024000072, g⟩, (keyB 2 (St.heap S ⟨0, 1⟩))), (⟨1024000073, g⟩, (keyB 3 (St.heap S ⟨0, 1⟩))), (⟨1024000074, g⟩, (keyB 4 (St.heap S ⟨0, 1⟩))), (⟨1024000075, g⟩, (keyT 0 (St.env S 3))), (⟨1024000076, g⟩, (keyB 7 (St.heap S (keyT 0 (St.env S 3))))), (⟨1024000077, g⟩, (keyT 0 (St.env S 4))), (⟨1024000078, g⟩, (keyT 0 (St.env S 8))), (⟨1024000079, g⟩, (keyB 9 (St.heap S (keyT 0 (St.env S 8))))), (⟨1024000080, g⟩, (keyB 10 (St.heap S (keyT 0 (St.env S 8)))))]) fun g S => [])
     ·refine el_go ?_
      refine swp_exit ?_
      with_reducible repeat first|apply nn|apply nb|apply nr|apply nc|apply ne|apply nq|apply nx rfl
      obtain ⟨h, hs2⟩ := exit_of h hd2
      with_reducible repeat first|apply nn|apply nb|apply nr|apply nc|apply ne|apply nq|apply nx rfl
      refine ⟨hs2, ?_⟩
      with_reducible repeat first|apply nn|apply nb|apply nr|apply nc|apply ne|apply nq|apply nx rfl
      exact jump_of hj4 h (ren_go (fun g S => [(⟨1024000061, g⟩, (keyB 0 (St.heap S ⟨0, 1⟩))), (⟨1024000062, g⟩, (keyB 2 (St.heap S ⟨0, 1⟩))), (⟨1024000063, g⟩, (keyB 3 (St.heap S ⟨0, 1⟩))), (⟨1024000064, g⟩, (keyB 4 (St.heap S ⟨0, 1⟩))), (⟨1024000065, g⟩, (keyT 0 (St.env S 3))), (⟨1024000066, g⟩, (keyB 7 (St.heap S (keyT 0 (St.env S 3))))), (⟨1024000067, g⟩, (keyT 0 (St.env S 4))), (⟨1024000068, g⟩, (keyT 0 (St.env S 8))), (⟨1024000069, g⟩, (keyB 9 (St.heap S (keyT 0 (St.env S 8))))), (⟨1024000070, g⟩, (keyB 10 (St.heap S (keyT 0 (St.env S 8)))))]) fun g S => [])
    ·simp -implicitDefEqProofs +decide only [go_sem, Nat.reduceAdd, Int.reduceToNat, hb246]
     refine hK _ ?_
     refine el_go ?_
     refine swp_exit ?_
     with_reducible repeat first|apply nn|apply nb|apply nr|apply nc|apply ne|apply nq|apply nx rfl
     obtain ⟨h, hs2⟩ := exit_of h hd2
     with_reducible repeat first|apply nn|apply nb|apply nr|apply nc|apply ne|apply nq|apply nx rfl
     refine ⟨hs2, ?_⟩
     with_reducible repeat first|apply nn|apply nb|apply nr|apply nc|apply ne|apply nq|apply nx rfl
     exact jump_of hj4 h (ren_go (fun g S => [(⟨1024000061, g⟩, (keyB 0 (St.heap S ⟨0, 1⟩))), (⟨1024000062, g⟩, (keyB 2 (St.heap S ⟨0, 1⟩))), (⟨1024000063, g⟩, (keyB 3 (St.heap S ⟨0, 1⟩))), (⟨1024000064, g⟩, (keyB 4 (St.heap S ⟨0, 1⟩))), (⟨1024000065, g⟩, (keyT 0 (St.env S 3))), (⟨1024000066, g⟩, (keyB 7 (St.heap S (keyT 0 (St.env S 3))))), (⟨1024000067, g⟩, (keyT 0 (St.env S 4))), (⟨1024000068, g⟩, (keyT 0 (St.env S 8))), (⟨1024000069, g⟩, (keyB 9 (St.heap S (keyT 0 (St.env S 8))))), (⟨1024000070, g⟩, (keyB 10 (St.heap S (keyT 0 (St.env S 8)))))]) fun g S => [])
   ·refine el_go ?_
    refine swp_skip ?_
    with_reducible repeat first|apply nn|apply nb|apply nr|apply nc|apply ne|apply nq|apply nx rfl
    exact jump_of hj1 h (ren_go (fun g S => [(⟨1024000006, g⟩, (keyB 0 (St.heap S ⟨0, 1⟩))), (⟨1024000007, g⟩, (keyB 2 (St.heap S ⟨0, 1⟩))), (⟨1024000008, g⟩, (keyB 3 (St.heap S ⟨0, 1⟩))), (⟨1024000009, g⟩, (keyB 4 (St.heap S ⟨0, 1⟩))), (⟨1024000010, g⟩, (keyT 0 (St.env S 4))), (⟨1024000011, g⟩, (keyT 0 (St.env S 6))), (⟨1024000012, g⟩, (keyT 0 (St.env S 7))), (⟨1024000013, g⟩, (keyT 0 (St.env S 8))), (⟨1024000014, g⟩, (keyB 9 (St.heap S (keyT 0 (St.env S 8))))), (⟨1024000015, g⟩, (keyB 10 (St.heap S (keyT 0 (St.env S 8)))))]) fun g S => [])
  ·simp -implicitDefEqProofs +decide only [go_sem, Nat.reduceAdd, Int.reduceToNat, hb164]
   refine hK _ ?_
   refine el_go ?_
   refine swp_skip ?_
   with_reducible repeat first|apply nn|apply nb|apply nr|apply nc|apply ne|apply nq|apply nx rfl
   exact jump_of hj1 h (ren_go (fun g S => [(⟨1024000006, g⟩, (keyB 0 (St.heap S ⟨0, 1⟩))), (⟨1024000007, g⟩, (keyB 2 (St.heap S ⟨0, 1⟩))), (⟨1024000008, g⟩, (keyB 3 (St.heap S ⟨0, 1⟩))), (⟨1024000009, g⟩, (keyB 4 (St.heap S ⟨0, 1⟩))), (⟨1024000010, g⟩, (keyT 0 (St.env S 4))), (⟨1024000011, g⟩, (keyT 0 (St.env S 6))), (⟨1024000012, g⟩, (keyT 0 (St.env S 7))), (⟨1024000013, g⟩, (keyT 0 (St.env S 8))), (⟨1024000014, g⟩, (keyB 9 (St.heap S (keyT 0 (St.env S 8))))), (⟨1024000015, g⟩, (keyB 10 (St.heap S (keyT 0 (St.env S 8)))))]) fun g S => [])
end Go.Sh
end
section
namespace Go.Sh
open Go.Proofs
noncomputable def bodegalaw24_index_insert (a0 : bodegalaw24_index) (a1 : Int) (a2 : pointer_Pointer) : Option (Bool × bodegalaw24_index) :=
  (bodegalaw24_index_place a0 a1).bind fun v1 =>
  (bodegalaw24_index_run v1.2.2 (⟨2, a1, 0, a2, 0, 0, []⟩ : btree_Op)).bind fun v2 =>
  if (!v2.2.1) = true then
    some ((v2.2.1 && ((v2.1.Code == 17) && ((v2.1.Check.length : Int) == 1))), v2.2.2)
  else
    if v1.2.1 = true then
      some ((v2.2.1 && ((v2.1.Code == 17) && ((v2.1.Check.length : Int) == 1))), v2.2.2)
    else
      if 0 ≤ 0 ∧ 0 ≤ v1.1 ∧ v1.1 ≤ (v2.2.2.Keys.length : Int) then
        if (([] : List Int).length + ((v2.2.2.Keys.drop 0).take v1.1.toNat).length) * 4 ≤ maxRows ∧ ([] : List Int).length + ((v2.2.2.Keys.drop 0).take v1.1.toNat).length ≤ maxRows then
          if (((v2.2.2.Keys.drop 0).take v1.1.toNat).length + 1) * 4 ≤ maxRows ∧ ((v2.2.2.Keys.drop 0).take v1.1.toNat).length + 1 ≤ maxRows then
            if 0 ≤ v1.1 ∧ v1.1 ≤ (v2.2.2.Keys.length : Int) then
              if ((((v2.2.2.Keys.drop 0).take v1.1.toNat) ++ ([a1] : List Int)).length + ((v2.2.2.Keys.drop v1.1.toNat).take ((v2.2.2.Keys.length : Int) - v1.1).toNat).length) * 4 ≤ maxRows ∧ (((v2.2.2.Keys.drop 0).take v1.1.toNat) ++ ([a1] : List Int)).length + ((v2.2.2.Keys.drop v1.1.toNat).take ((v2.2.2.Keys.length : Int) - v1.1).toNat).length ≤ maxRows then
                if 0 ≤ 0 ∧ 0 ≤ v1.1 ∧ v1.1 ≤ (v2.2.2.To.length : Int) then
                  if (([] : List pointer_Pointer).length + ((v2.2.2.To.drop 0).take v1.1.toNat).length) * 16 ≤ maxRows ∧ ([] : List pointer_Pointer).length + ((v2.2.2.To.drop 0).take v1.1.toNat).length ≤ maxRows then
                    if (((v2.2.2.To.drop 0).take v1.1.toNat).length + 1) * 16 ≤ maxRows ∧ ((v2.2.2.To.drop 0).take v1.1.toNat).length + 1 ≤ maxRows then
                      if 0 ≤ v1.1 ∧ v1.1 ≤ (v2.2.2.To.length : Int) then
                        if ((((v2.2.2.To.drop 0).take v1.1.toNat) ++ ([a2] : List pointer_Pointer)).length + ((v2.2.2.To.drop v1.1.toNat).take ((v2.2.2.To.length : Int) - v1.1).toNat).length) * 16 ≤ maxRows ∧ (((v2.2.2.To.drop 0).take v1.1.toNat) ++ ([a2] : List pointer_Pointer)).length + ((v2.2.2.To.drop v1.1.toNat).take ((v2.2.2.To.length : Int) - v1.1).toNat).length ≤ maxRows then
                          some (((v2.1.Code == 0) && v2.1.Done), (⟨v2.2.2.Pages, v2.2.2.Next, ((((v2.2.2.Keys.drop 0).take v1.1.toNat) ++ ([a1] : List Int)) ++ ((v2.2.2.Keys.drop v1.1.toNat).take ((v2.2.2.Keys.length : Int) - v1.1).toNat)), ((((v2.2.2.To.drop 0).take v1.1.toNat) ++ ([a2] : List pointer_Pointer)) ++ ((v2.2.2.To.drop v1.1.toNat).take ((v2.2.2.To.length : Int) - v1.1).toNat)), v2.2.2.Gone⟩ : bodegalaw24_index))
                        else none
                      else none
                    else none
                  else none
                else none
              else none
            else none
          else none
        else none
      else none
theorem bodegalaw24_index_insert_ok (G : Glob) (hG0 : G.glob 0 = some [(.int .i64 0), (.int .i64 0)]) (a0 : bodegalaw24_index) (a1 : Int) (a2 : pointer_Pointer) (res : (Bool × bodegalaw24_index)) (h : bodegalaw24_index_insert a0 a1 a2 = some res) : Spec Tryz.prog G 46 [.io (g_kpb5 a0), .cell (.p (.int .u32 a1)), .agg [.p (.int .i64 a2.Line), .p (.int .i64 a2.Gen)]] (fun r ios => r = .cell (.p (.bool res.1)) ∧ ios = [.io (g_kpb5 res.2)]) := by
  rw [bodegalaw24_index_insert] at h
  refine spec_of Tryz.mixed Tryz.func46 rfl rfl (by simp only [List.length]; decide +kernel) ?_
  refine swp_fresh (fun g => stL [(0, (.c (.ptr ⟨0, 1⟩ 0 0))), (1, (.c (.p (.int .u32 a1)))), (2, (.agg [(.p (.int .i64 a2.Line)), (.p (.int .i64 a2.Gen))]))] [(⟨0, 1⟩, .box true (b_rlqi a0 ⟨1024000001, g⟩ ⟨1024000002, g⟩ ⟨1024000003, g⟩ ⟨1024000004, g⟩)), (⟨1024000001, g⟩, .arr true 9 (a0.Pages.map r_api_Page)), (⟨1024000002, g⟩, .arr true 1 (a0.Keys.map r_u32)), (⟨1024000003, g⟩, .arr true 2 (a0.To.map r_pointer_Pointer)), (⟨1024000004, g⟩, .arr true 2 (a0.Gone.map r_pointer_Pointer))] (g + 1)) (ren_go (fun g S => [(⟨1024000001, g⟩, (keyB 0 (St.heap S ⟨0, 1⟩))), (⟨1024000002, g⟩, (keyB 2 (St.heap S ⟨0, 1⟩))), (⟨1024000003, g⟩, (keyB 3 (St.heap S ⟨0, 1⟩))), (⟨1024000004, g⟩, (keyB 4 (St.heap S ⟨0, 1⟩)))]) fun g S => []) fun g => ?_
  refine go_seq ?_
  refine seq_reg rfl (fun K hK => ?_)
  refine bind_of h (fun v1 hv1 h => ?_)
  simp -implicitDefEqProofs +decide only [go_sem, Nat.reduceAdd, Int.reduceToNat]
  refine call_go [0, 0] false (bodegalaw24_index_place_ok (cG G) hG0 _ _ _ hv1) ?_
  simp -implicitDefEqProofs +decide only [go_sem, Nat.reduceAdd, Int.reduceToNat]
  refine hK _ ?_
  refine seq_reg rfl (fun K hK => ?_)
  refine bind_of h (fun v2 hv2 h => ?_)
  simp -implicitDefEqProofs +decide only [go_sem, Nat.reduceAdd, Int.reduceToNat]
  refine call_nil [0, 1] false (bodegalaw24_index_run_ok (cG G) hG0 _ _ _ hv2) ?_
  simp -implicitDefEqProofs +decide only [go_sem, Nat.reduceAdd, Int.reduceToNat]
  refine hK _ ?_
  refine swp_seq ?_
  refine seq_reg rfl (fun K hK => ?_)
  refine bsplit h (fun hb9 h => ?_) (fun hb9 h => ?_)
  ·simp -implicitDefEqProofs +decide only [go_sem, Nat.reduceAdd, Int.reduceToNat, hb9]
   refine hK _ ?_
   refine if_go ?_
   refine seq_reg rfl (fun K hK => ?_)
   rcases hb10 : v2.2.1 with _ | _
   ·replace h : some (false, v2.2.2) = some res := by first | exact h | (rw [and_f hb10] at h; exact h)
    simp -implicitDefEqProofs +decide only [go_sem, Nat.reduceAdd, Int.reduceToNat, hb9, hb10]
    refine hK _ ?_
    refine swp_ret ?_
    with_reducible repeat first|apply nn|apply nb|apply nr|apply nc|apply ne|apply nq|apply nx rfl
    obtain rfl := some_eq h
    exact rt
   ·replace h : some (((v2.1.Code == 17) && ((v2.1.Check.length : Int) == 1)), v2.2.2) = some res := by first | exact h | (rw [and_t hb10] at h; exact h)
    rcases hb11 : (v2.1.Code == 17) with _ | _
    ·replace h : some (false, v2.2.2) = some res := by first | exact h | (rw [and_f hb11] at h; exact h)
     simp -implicitDefEqProofs +decide only [go_sem, Nat.reduceAdd, Int.reduceToNat, hb9, hb10, hb11]
     refine hK _ ?_
     refine swp_ret ?_
     with_reducible repeat first|apply nn|apply nb|apply nr|apply nc|apply ne|apply nq|apply nx rfl
     obtain rfl := some_eq h
     exact rt
    ·replace h : some (((v2.1.Check.length : Int) == 1), v2.2.2) = some res := by first | exact h | (rw [and_t hb11] at h; exact h)
     simp -implicitDefEqProofs +decide only [go_sem, Nat.reduceAdd, Int.reduceToNat, hb9, hb10, hb11]
     refine hK _ ?_
     refine swp_ret ?_
     with_reducible repeat first|apply nn|apply nb|apply nr|apply nc|apply ne|apply nq|apply nx rfl
     obtain rfl := some_eq h
     exact rt
  ·simp -implicitDefEqProofs +decide only [go_sem, Nat.reduceAdd, Int.reduceToNat, hb9]
   refine hK _ ?_
   refine bsplit h (fun hb12 h => ?_) (fun hb12 h => ?_)
   ·refine if_go ?_
    refine seq_reg rfl (fun K hK => ?_)
    rcases hb13 : v2.2.1 with _ | _
    ·replace h : some (false, v2.2.2) = some res := by first | exact h | (rw [and_f hb13] at h; exact h)
     simp -implicitDefEqProofs +decide only [go_sem, Nat.reduceAdd, Int.reduceToNat, hb9, hb12, hb13]
     refine hK _ ?_
     refine swp_ret ?_
     with_reducible repeat first|apply nn|apply nb|apply nr|apply nc|apply ne|apply nq|apply nx rfl
     obtain rfl := some_eq h
     exact rt
    ·replace h : some (((v2.1.Code == 17) && ((v2.1.Check.length : Int) == 1)), v2.2.2) = some res := by first | exact h | (rw [and_t hb13] at h; exact h)
     rcases hb14 : (v2.1.Code == 17) with _ | _
     ·replace h : some (false, v2.2.2) = some res := by first | exact h | (rw [and_f hb14] at h; exact h)
      simp -implicitDefEqProofs +decide only [go_sem, Nat.reduceAdd, Int.reduceToNat, hb9, hb12, hb13, hb14]
      refine hK _ ?_
      refine swp_ret ?_
      with_reducible repeat first|apply nn|apply nb|apply nr|apply nc|apply ne|apply nq|apply nx rfl
      obtain rfl := some_eq h
      exact rt
     ·replace h : some (((v2.1.Check.length : Int) == 1), v2.2.2) = some res := by first | exact h | (rw [and_t hb14] at h; exact h)
      simp -implicitDefEqProofs +decide only [go_sem, Nat.reduceAdd, Int.reduceToNat, hb9, hb12, hb13, hb14]
      refine hK _ ?_
      refine swp_ret ?_
      with_reducible repeat first|apply nn|apply nb|apply nr|apply nc|apply ne|apply nq|apply nx rfl
      obtain rfl := some_eq h
      exact rt
   ·refine el_go ?_
    refine swp_skip ?_
    with_reducible repeat first|apply nn|apply nb|apply nr|apply nc|apply ne|apply nq|apply nx rfl
    refine seq_drw rfl (fun K hK => ?_)
    refine psplit h (fun hp15 h => ?_)
    have qhp15 : v1.1.toNat ≤ v2.2.2.Keys.length := by omega
    refine psplit h (fun hp16 h => ?_)
    simp -implicitDefEqProofs +decide only [go_sem, Nat.reduceAdd, Int.reduceToNat, hp15, hb9, hb12, qhp15]
    first | refine opt_eq (appendRef_n (by simp) (by simpa [maps] using hp16)) ?_ | refine opt_eq (if_pos (by simpa [maps] using hp16)) ?_
    refine psplit h (fun hp17 h => ?_)
    simp -implicitDefEqProofs +decide only [go_sem, Nat.reduceAdd, Int.reduceToNat, hb9, hb12, qhp15]
    first | refine opt_eq (appendRef_n (by simp) (by simpa [maps] using hp17)) ?_ | refine opt_eq (if_pos (by simpa [maps] using hp17)) ?_
    refine psplit h (fun hp18 h => ?_)
    have qhp18 : v1.1.toNat + ((v2.2.2.Keys.length : Int) - v1.1).toNat ≤ v2.2.2.Keys.length := by omega
    refine psplit h (fun hp19 h => ?_)
    simp -implicitDefEqProofs +decide only [go_sem, Nat.reduceAdd, Int.reduceToNat, hp18, hb9, hb12, qhp15, qhp18]
    first | refine opt_eq (appendRef_n (by simp) (by simpa [maps] using hp19)) ?_ | refine opt_eq (if_pos (by simpa [maps] using hp19)) ?_
    simp -implicitDefEqProofs +decide only [go_sem, Nat.reduceAdd, Int.reduceToNat, hb9, hb12, qhp15, qhp18]
    refine draw_go (by kernel_rfl) ?_
    refine hK _ ?_
    refine swp_fresh (fun g => stL [(0, (.c (.ptr ⟨0, 1⟩ 0 0))), (5, (.c (.ptr ⟨1024000009, g⟩ 0 0))), (7, (.c (.p (.int .i64 v1.1)))), (9, (.c (.ptr ⟨1024000010, g⟩ 0 0)))] [(⟨0, 1⟩, .box true [(.ref ⟨1024000005, g⟩ 0 v2.2.2.Pages.length), (.p (.int .i64 v2.2.2.Next)), (.ref ⟨1024000006, g⟩ 0 ((((v2.2.2.Keys.drop 0).take v1.1.toNat) ++ ([a1] : List Int)) ++ ((v2.2.2.Keys.drop v1.1.toNat).take ((v2.2.2.Keys.length : Int) - v1.1).toNat)).length), (.ref ⟨1024000007, g⟩ 0 v2.2.2.To.length), (.ref ⟨1024000008, g⟩ 0 v2.2.2.Gone.length)]), (⟨1024000005, g⟩, .arr true 9 (v2.2.2.Pages.map r_api_Page)), (⟨1024000006, g⟩, .arr true 1 (((((v2.2.2.Keys.drop 0).take v1.1.toNat) ++ ([a1] : List Int)) ++ ((v2.2.2.Keys.drop v1.1.toNat).take ((v2.2.2.Keys.length : Int) - v1.1).toNat)).map r_u32)), (⟨1024000007, g⟩, .arr true 2 (v2.2.2.To.map r_pointer_Pointer)), (⟨1024000008, g⟩, .arr true 2 (v2.2.2.Gone.map r_pointer_Pointer)), (⟨1024000009, g⟩, .box true [(.p (.int .i64 a2.Line)), (.p (.int .i64 a2.Gen))]), (⟨1024000010, g⟩, .box true (b_uztp v2.1 ⟨1024000011, g⟩ ⟨1024000012, g⟩)), (⟨1024000011, g⟩, .arr true 3 (v2.1.Entries.map r_hashindex_Entry)), (⟨1024000012, g⟩, .arr true 1 (v2.1.Check.map r_i64))] (g + 1)) (ren_go (fun g S => [(⟨1024000005, g⟩, (keyB 0 (St.heap S ⟨0, 1⟩))), (⟨1024000006, g⟩, (keyB 2 (St.heap S ⟨0, 1⟩))), (⟨1024000007, g⟩, (keyB 3 (St.heap S ⟨0, 1⟩))), (⟨1024000008, g⟩, (keyB 4 (St.heap S ⟨0, 1⟩))), (⟨1024000009, g⟩, (keyT 0 (St.env S 5))), (⟨1024000010, g⟩, (keyT 0 (St.env S 9))), (⟨1024000011, g⟩, (keyB 9 (St.heap S (keyT 0 (St.env S 9))))), (⟨1024000012, g⟩, (keyB 10 (St.heap S (keyT 0 (St.env S 9)))))]) fun g S => []) fun g => ?_
    refine seq_drw rfl (fun K hK => ?_)
    refine psplit h (fun hp20 h => ?_)
    have qhp20 : v1.1.toNat ≤ v2.2.2.To.length := by omega
    refine psplit h (fun hp21 h => ?_)
    simp -implicitDefEqProofs +decide only [go_sem, Nat.reduceAdd, Int.reduceToNat, hp20, hb9, hb12, qhp15, qhp18, qhp20]
    first | refine opt_eq (appendRef_n (by simp) (by simpa [maps] using hp21)) ?_ | refine opt_eq (if_pos (by simpa [maps] using hp21)) ?_
    refine psplit h (fun hp22 h => ?_)
    simp -implicitDefEqProofs +decide only [go_sem, Nat.reduceAdd, Int.reduceToNat, hb9, hb12, qhp15, qhp18, qhp20]
    first | refine opt_eq (appendRef_n (by simp) (by simpa [maps] using hp22)) ?_ | refine opt_eq (if_pos (by simpa [maps] using hp22)) ?_
    refine psplit h (fun hp23 h => ?_)
    have qhp23 : v1.1.toNat + ((v2.2.2.To.length : Int) - v1.1).toNat ≤ v2.2.2.To.length := by omega
    refine psplit h (fun hp24 h => ?_)
    simp -implicitDefEqProofs +decide only [go_sem, Nat.reduceAdd, Int.reduceToNat, hp23, hb9, hb12, qhp15, qhp18, qhp20, qhp23]
    first | refine opt_eq (appendRef_n (by simp) (by simpa [maps] using hp24)) ?_ | refine opt_eq (if_pos (by simpa [maps] using hp24)) ?_
    simp -implicitDefEqProofs +decide only [go_sem, Nat.reduceAdd, Int.reduceToNat, hb9, hb12, qhp15, qhp18, qhp20, qhp23]
    refine draw_go (by kernel_rfl) ?_
    refine hK _ ?_
    refine swp_fresh (fun g => stL [(9, (.c (.ptr ⟨1024000013, g⟩ 0 0)))] [(⟨1024000013, g⟩, .box true (b_uztp v2.1 ⟨1024000014, g⟩ ⟨1024000015, g⟩)), (⟨1024000014, g⟩, .arr true 3 (v2.1.Entries.map r_hashindex_Entry)), (⟨1024000015, g⟩, .arr true 1 (v2.1.Check.map r_i64)), (⟨0, 1⟩, .box true [(.ref ⟨1024000016, g⟩ 0 v2.2.2.Pages.length), (.p (.int .i64 v2.2.2.Next)), (.ref ⟨1024000017, g⟩ 0 ((((v2.2.2.Keys.drop 0).take v1.1.toNat) ++ ([a1] : List Int)) ++ ((v2.2.2.Keys.drop v1.1.toNat).take ((v2.2.2.Keys.length : Int) - v1.1).toNat)).length), (.ref ⟨1024000018, g⟩ 0 ((((v2.2.2.To.drop 0).take v1.1.toNat) ++ ([a2] : List pointer_Pointer)) ++ ((v2.2.2.To.drop v1.1.toNat).take ((v2.2.2.To.length : Int) - v1.1).toNat)).length), (.ref ⟨1024000019, g⟩ 0 v2.2.2.Gone.length)]), (⟨1024000016, g⟩, .arr true 9 (v2.2.2.Pages.map r_api_Page)), (⟨1024000017, g⟩, .arr true 1 (((((v2.2.2.Keys.drop 0).take v1.1.toNat) ++ ([a1] : List Int)) ++ ((v2.2.2.Keys.drop v1.1.toNat).take ((v2.2.2.Keys.length : Int) - v1.1).toNat)).map r_u32)), (⟨1024000018, g⟩, .arr true 2 (((((v2.2.2.To.drop 0).take v1.1.toNat) ++ ([a2] : List pointer_Pointer)) ++ ((v2.2.2.To.drop v1.1.toNat).take ((v2.2.2.To.length : Int) - v1.1).toNat)).map r_pointer_Pointer)), (⟨1024000019, g⟩, .arr true 2 (v2.2.2.Gone.map r_pointer_Pointer))] (g + 1)) (ren_go (fun g S => [(⟨1024000013, g⟩, (keyT 0 (St.env S 9))), (⟨1024000014, g⟩, (keyB 9 (St.heap S (keyT 0 (St.env S 9))))), (⟨1024000015, g⟩, (keyB 10 (St.heap S (keyT 0 (St.env S 9))))), (⟨1024000016, g⟩, (keyB 0 (St.heap S ⟨0, 1⟩))), (⟨1024000017, g⟩, (keyB 2 (St.heap S ⟨0, 1⟩))), (⟨1024000018, g⟩, (keyB 3 (St.heap S ⟨0, 1⟩))), (⟨1024000019, g⟩, (keyB 4 (St.heap S ⟨0, 1⟩)))]) fun g S => []) fun g => ?_
    refine seq_reg rfl (fun K hK => ?_)
    rcases hb25 : (v2.1.Code == 0) with _ | _
    ·replace h : some (false, (⟨v2.2.2.Pages, v2.2.2.Next, ((((v2.2.2.Keys.drop 0).take v1.1.toNat) ++ ([a1] : List Int)) ++ ((v2.2.2.Keys.drop v1.1.toNat).take ((v2.2.2.Keys.length : Int) - v1.1).toNat)), ((((v2.2.2.To.drop 0).take v1.1.toNat) ++ ([a2] : List pointer_Pointer)) ++ ((v2.2.2.To.drop v1.1.toNat).take ((v2.2.2.To.length : Int) - v1.1).toNat)), v2.2.2.Gone⟩ : bodegalaw24_index)) = some res := by first | exact h | (rw [and_f hb25] at h; exact h)
     simp -implicitDefEqProofs +decide only [go_sem, Nat.reduceAdd, Int.reduceToNat, hb9, hb12, qhp15, qhp18, qhp20, qhp23, hb25]
     refine hK _ ?_
     refine swp_ret ?_
     with_reducible repeat first|apply nn|apply nb|apply nr|apply nc|apply ne|apply nq|apply nx rfl
     obtain rfl := some_eq h
     exact rt
    ·replace h : some (v2.1.Done, (⟨v2.2.2.Pages, v2.2.2.Next, ((((v2.2.2.Keys.drop 0).take v1.1.toNat) ++ ([a1] : List Int)) ++ ((v2.2.2.Keys.drop v1.1.toNat).take ((v2.2.2.Keys.length : Int) - v1.1).toNat)), ((((v2.2.2.To.drop 0).take v1.1.toNat) ++ ([a2] : List pointer_Pointer)) ++ ((v2.2.2.To.drop v1.1.toNat).take ((v2.2.2.To.length : Int) - v1.1).toNat)), v2.2.2.Gone⟩ : bodegalaw24_index)) = some res := by first | exact h | (rw [and_t hb25] at h; exact h)
     simp -implicitDefEqProofs +decide only [go_sem, Nat.reduceAdd, Int.reduceToNat, hb9, hb12, qhp15, qhp18, qhp20, qhp23, hb25]
     refine hK _ ?_
     refine swp_ret ?_
     with_reducible repeat first|apply nn|apply nb|apply nr|apply nc|apply ne|apply nq|apply nx rfl
     obtain rfl := some_eq h
     exact rt
end Go.Sh
end
section
namespace Go.Sh
open Go.Proofs
noncomputable def bodegalaw24_awake_J1 : (List api_Page × Int × List Int × List pointer_Pointer × List pointer_Pointer) → Option Bool
  | (l38, x39, l40, l41, l42) =>
    (bodegalaw24_index_run (⟨l38, x39, l40, l41, l42⟩ : bodegalaw24_index) (⟨6, 0, 0, (⟨0, 0⟩ : pointer_Pointer), 0, 0, []⟩ : btree_Op)).bind fun v43 =>
    (idx v43.2.2.Pages 9).bind fun e44 =>
    (btree_ReadNode e44).bind fun v45 =>
    some (v43.2.1 && (v43.1.Done && ((v45.2 == 0) && ((v45.1.High == 3) && ((v45.1.Entries.length : Int) == 3)))))
noncomputable def bodegalaw24_awake_L1 : (List api_Page × Int × List Int × List pointer_Pointer × List pointer_Pointer × Int) → Option ((List api_Page × Int × List Int × List pointer_Pointer × List pointer_Pointer × Int) ⊕ Bool)
  | (l76, x77, l78, l79, l80, x81) =>
    if (decide (x81 ≤ 6)) = true then
      (bodegalaw24_index_insert (⟨l76, x77, l78, l79, l80⟩ : bodegalaw24_index) x81 (⟨200, (IntKind.i64.wrap x81)⟩ : pointer_Pointer)).bind fun v89 =>
      if (!v89.1) = true then
        Option.map Sum.inr (
          some false)
      else
        some (.inl (v89.2.Pages, v89.2.Next, v89.2.Keys, v89.2.To, v89.2.Gone, (IntKind.u32.wrap (x81 + 1))))
    else
      Option.map Sum.inr (
        bodegalaw24_awake_J1 (l76, x77, l78, l79, l80))
noncomputable def bodegalaw24_awake : Option Bool :=
  (bodegalaw24_begin).bind fun v1 =>
  iter (bodegalaw24_awake_L1) (v1.Pages, v1.Next, v1.Keys, v1.To, v1.Gone, 1)
theorem bodegalaw24_awake_ok (G : Glob) (hG0 : G.glob 0 = some [(.int .i64 0), (.int .i64 0)])  (res : Bool) (h : bodegalaw24_awake = some res) : Spec Tryz.prog G 21 [] (fun r ios => r = .cell (.p (.bool res)) ∧ ios = []) := by
  rw [bodegalaw24_awake] at h
  refine spec_of Tryz.mixed Tryz.func21 rfl rfl (by simp only [List.length]; decide +kernel) ?_
  refine swp_fresh (fun g => stL [] [] (g + 1)) (ren_go (fun g S => []) fun g S => []) fun g => ?_
  refine go_seq ?_
  refine seq_reg rfl (fun K hK => ?_)
  refine bind_of h (fun v1 hv1 h => ?_)
  simp -implicitDefEqProofs +decide only [go_sem, Nat.reduceAdd, Int.reduceToNat]
  refine call_go [] false (bodegalaw24_begin_ok (cG G) hG0 _ hv1) ?_
  simp -implicitDefEqProofs +decide only [go_sem, Nat.reduceAdd, Int.reduceToNat]
  refine hK _ ?_
  refine cut1 (Joins (bodegalaw24_awake_J1) (fun g x => match x with | (l38, x39, l40, l41, l42) => stL [(1, (.c (.ptr ⟨1024000001, g⟩ 0 0)))] [(⟨1024000001, g⟩, .box true [(.ref ⟨1024000002, g⟩ 0 l38.length), (.p (.int .i64 x39)), (.ref ⟨1024000003, g⟩ 0 l40.length), (.ref ⟨1024000004, g⟩ 0 l41.length), (.ref ⟨1024000005, g⟩ 0 l42.length)]), (⟨1024000002, g⟩, .arr true 9 (l38.map r_api_Page)), (⟨1024000003, g⟩, .arr true 1 (l40.map r_u32)), (⟨1024000004, g⟩, .arr true 2 (l41.map r_pointer_Pointer)), (⟨1024000005, g⟩, .arr true 2 (l42.map r_pointer_Pointer))] (g + 1)) res) ?_ (fun hj1 => ?_)
  ·refine join_of ?_
   rintro g ⟨l38, x39, l40, l41, l42⟩ h
   rw [bodegalaw24_awake_J1] at h
   try dsimp only
   refine seq_reg rfl (fun K hK => ?_)
   refine bind_of h (fun v43 hv43 h => ?_)
   simp -implicitDefEqProofs +decide only [go_sem, Nat.reduceAdd, Int.reduceToNat]
   refine call_nil [0, 1] false (bodegalaw24_index_run_ok (cG G) hG0 _ _ _ hv43) ?_
   simp -implicitDefEqProofs +decide only [go_sem, Nat.reduceAdd, Int.reduceToNat]
   refine hK _ ?_
   refine seq_reg rfl (fun K hK => ?_)
   refine bind_of h (fun e44 he44 h => ?_)
   obtain ⟨he44_0, he44_1, he44_2⟩ := idx_some he44
   replace he44_2 : (v43.2.2.Pages)[9]? = some e44 := he44_2
   refine bind_of h (fun v45 hv45 h => ?_)
   simp -implicitDefEqProofs +decide only [go_sem, Nat.reduceAdd, Int.reduceToNat, he44_0, he44_1, he44_2]
   refine call_go [0] false (btree_ReadNode_ok (cG G) hG0 _ _ hv45) ?_
   simp -implicitDefEqProofs +decide only [go_sem, Nat.reduceAdd, Int.reduceToNat]
   refine hK _ ?_
   refine seq_reg rfl (fun K hK => ?_)
   rcases hb46 : v43.2.1 with _ | _
   ·replace h : some false = some res := by first | exact h | (rw [and_f hb46] at h; exact h)
    simp -implicitDefEqProofs +decide only [go_sem, Nat.reduceAdd, Int.reduceToNat, hb46]
    refine hK _ ?_
    refine swp_ret ?_
    with_reducible repeat first|apply nn|apply nb|apply nr|apply nc|apply ne|apply nq|apply nx rfl
    obtain rfl := some_eq h
    exact rt
   ·replace h : some (v43.1.Done && ((v45.2 == 0) && ((v45.1.High == 3) && ((v45.1.Entries.length : Int) == 3)))) = some res := by first | exact h | (rw [and_t hb46] at h; exact h)
    rcases hb47 : v43.1.Done with _ | _
    ·replace h : some false = some res := by first | exact h | (rw [and_f hb47] at h; exact h)
     simp -implicitDefEqProofs +decide only [go_sem, Nat.reduceAdd, Int.reduceToNat, hb46, hb47]
     refine hK _ ?_
     refine swp_ret ?_
     with_reducible repeat first|apply nn|apply nb|apply nr|apply nc|apply ne|apply nq|apply nx rfl
     obtain rfl := some_eq h
     exact rt
    ·replace h : some ((v45.2 == 0) && ((v45.1.High == 3) && ((v45.1.Entries.length : Int) == 3))) = some res := by first | exact h | (rw [and_t hb47] at h; exact h)
     rcases hb48 : (v45.2 == 0) with _ | _
     ·replace h : some false = some res := by first | exact h | (rw [and_f hb48] at h; exact h)
      simp -implicitDefEqProofs +decide only [go_sem, Nat.reduceAdd, Int.reduceToNat, hb46, hb47, hb48]
      refine hK _ ?_
      refine swp_ret ?_
      with_reducible repeat first|apply nn|apply nb|apply nr|apply nc|apply ne|apply nq|apply nx rfl
      obtain rfl := some_eq h
      exact rt
     ·replace h : some ((v45.1.High == 3) && ((v45.1.Entries.length : Int) == 3)) = some res := by first | exact h | (rw [and_t hb48] at h; exact h)
      rcases hb49 : (v45.1.High == 3) with _ | _
      ·replace h : some false = some res := by first | exact h | (rw [and_f hb49] at h; exact h)
       simp -implicitDefEqProofs +decide only [go_sem, Nat.reduceAdd, Int.reduceToNat, hb46, hb47, hb48, hb49]
       refine hK _ ?_
       refine swp_ret ?_
       with_reducible repeat first|apply nn|apply nb|apply nr|apply nc|apply ne|apply nq|apply nx rfl
       obtain rfl := some_eq h
       exact rt
      ·replace h : some ((v45.1.Entries.length : Int) == 3) = some res := by first | exact h | (rw [and_t hb49] at h; exact h)
       simp -implicitDefEqProofs +decide only [go_sem, Nat.reduceAdd, Int.reduceToNat, hb46, hb47, hb48, hb49]
       refine hK _ ?_
       refine swp_ret ?_
       with_reducible repeat first|apply nn|apply nb|apply nr|apply nc|apply ne|apply nq|apply nx rfl
       obtain rfl := some_eq h
       exact rt
  refine swp_seq ?_
  refine go_seq ?_
  refine swp_block ?_
  refine swp_iter (fun g x => match x with | (l76, x77, l78, l79, l80, x81) => stL [(1, (.c (.ptr ⟨1024000006, g⟩ 0 0))), (2, (.c (.p (.int .u32 x81))))] [(⟨1024000006, g⟩, .box true [(.ref ⟨1024000007, g⟩ 0 l76.length), (.p (.int .i64 x77)), (.ref ⟨1024000008, g⟩ 0 l78.length), (.ref ⟨1024000009, g⟩ 0 l79.length), (.ref ⟨1024000010, g⟩ 0 l80.length)]), (⟨1024000007, g⟩, .arr true 9 (l76.map r_api_Page)), (⟨1024000008, g⟩, .arr true 1 (l78.map r_u32)), (⟨1024000009, g⟩, .arr true 2 (l79.map r_pointer_Pointer)), (⟨1024000010, g⟩, .arr true 2 (l80.map r_pointer_Pointer))] (g + 1)) h (enter_of (ren_go (fun g S => [(⟨1024000006, g⟩, (keyT 0 (St.env S 1))), (⟨1024000007, g⟩, (keyB 0 (St.heap S (keyT 0 (St.env S 1))))), (⟨1024000008, g⟩, (keyB 2 (St.heap S (keyT 0 (St.env S 1))))), (⟨1024000009, g⟩, (keyB 3 (St.heap S (keyT 0 (St.env S 1))))), (⟨1024000010, g⟩, (keyB 4 (St.heap S (keyT 0 (St.env S 1)))))]) fun g S => [])) ?_
  rintro g ⟨l76, x77, l78, l79, l80, x81⟩ s1 h hd1
  rw [bodegalaw24_awake_L1] at h
  try dsimp only
  refine swp_seq ?_
  refine go_seq ?_
  refine bsplit h (fun hb88 h => ?_) (fun hb88 h => ?_)
  ·refine if_go ?_
   refine swp_skip ?_
   with_reducible repeat first|apply nn|apply nb|apply nr|apply nc|apply ne|apply nq|apply nx rfl
   refine swp_seq ?_
   refine swp_block ?_
   refine seq_reg rfl (fun K hK => ?_)
   refine bind_of h (fun v89 hv89 h => ?_)
   simp -implicitDefEqProofs +decide only [go_sem, Nat.reduceAdd, Int.reduceToNat, hb88]
   refine call_go [0, 0, 0] false (bodegalaw24_index_insert_ok (cG G) hG0 _ _ _ _ hv89) ?_
   simp -implicitDefEqProofs +decide only [go_sem, Nat.reduceAdd, Int.reduceToNat, hb88]
   refine hK _ ?_
   refine bsplit h (fun hb90 h => ?_) (fun hb90 h => ?_)
   ·refine if_go ?_
    refine go_seq ?_
    refine swp_ret ?_
    with_reducible repeat first|apply nn|apply nb|apply nr|apply nc|apply ne|apply nq|apply nx rfl
    obtain ⟨h, hs1⟩ := exit_of h hd1
    refine ⟨hs1, ?_⟩
    with_reducible repeat first|apply nn|apply nb|apply nr|apply nc|apply ne|apply nq|apply nx rfl
    obtain rfl := some_eq h
    exact rt
   ·refine el_go ?_
    refine swp_skip ?_
    with_reducible repeat first|apply nn|apply nb|apply nr|apply nc|apply ne|apply nq|apply nx rfl
    refine go_swp ?_
    with_reducible repeat first|apply nn|apply nb|apply nr|apply nc|apply ne|apply nq|apply nx rfl
    exact back_of h (ren_go (fun g S => [(⟨1024000006, g⟩, (keyT 0 (St.env S 1))), (⟨1024000007, g⟩, (keyB 0 (St.heap S (keyT 0 (St.env S 1))))), (⟨1024000008, g⟩, (keyB 2 (St.heap S (keyT 0 (St.env S 1))))), (⟨1024000009, g⟩, (keyB 3 (St.heap S (keyT 0 (St.env S 1))))), (⟨1024000010, g⟩, (keyB 4 (St.heap S (keyT 0 (St.env S 1)))))]) fun g S => [])
  ·refine el_go ?_
   refine swp_exit ?_
   with_reducible repeat first|apply nn|apply nb|apply nr|apply nc|apply ne|apply nq|apply nx rfl
   obtain ⟨h, hs1⟩ := exit_of h hd1
   with_reducible repeat first|apply nn|apply nb|apply nr|apply nc|apply ne|apply nq|apply nx rfl
   refine ⟨hs1, ?_⟩
   with_reducible repeat first|apply nn|apply nb|apply nr|apply nc|apply ne|apply nq|apply nx rfl
   exact jump_of hj1 h (ren_go (fun g S => [(⟨1024000001, g⟩, (keyT 0 (St.env S 1))), (⟨1024000002, g⟩, (keyB 0 (St.heap S (keyT 0 (St.env S 1))))), (⟨1024000003, g⟩, (keyB 2 (St.heap S (keyT 0 (St.env S 1))))), (⟨1024000004, g⟩, (keyB 3 (St.heap S (keyT 0 (St.env S 1))))), (⟨1024000005, g⟩, (keyB 4 (St.heap S (keyT 0 (St.env S 1)))))]) fun g S => [])
end Go.Sh
end
section
namespace Go.Sh
open Go.Proofs
noncomputable def bodegalaw24_same (a0 : api_Page) (a1 : api_Page) : Option Bool :=
  some ((a0.Line == a1.Line) && ((a0.Head == a1.Head) && ((a0.Data.a0 == a1.Data.a0) && ((a0.Data.a1 == a1.Data.a1) && ((a0.Data.a2 == a1.Data.a2) && ((a0.Data.a3 == a1.Data.a3) && ((a0.Data.a4 == a1.Data.a4) && ((a0.Data.a5 == a1.Data.a5) && (a0.Data.a6 == a1.Data.a6)))))))))
theorem bodegalaw24_same_ok (G : Glob) (hG0 : G.glob 0 = some [(.int .i64 0), (.int .i64 0)]) (a0 : api_Page) (a1 : api_Page) (res : Bool) (h : bodegalaw24_same a0 a1 = some res) : Spec Tryz.prog G 20 [.agg (g_yylp a0), .agg (g_yylp a1)] (fun r ios => r = .cell (.p (.bool res)) ∧ ios = []) := by
  rw [bodegalaw24_same] at h
  refine spec_of Tryz.mixed Tryz.func20 rfl rfl (by simp only [List.length]; decide +kernel) ?_
  refine swp_fresh (fun g => stL [(0, (.agg (b_mq86 a0))), (1, (.agg (b_mq86 a1)))] [] (g + 1)) (ren_go (fun g S => []) fun g S => []) fun g => ?_
  refine go_seq ?_
  refine seq_reg rfl (fun K hK => ?_)
  rcases hb1 : (a0.Line == a1.Line) with _ | _
  ·replace h : some false = some res := by first | exact h | (rw [and_f hb1] at h; exact h)
   simp -implicitDefEqProofs +decide only [go_sem, Nat.reduceAdd, Int.reduceToNat, hb1]
   refine hK _ ?_
   refine swp_ret ?_
   with_reducible repeat first|apply nn|apply nb|apply nr|apply nc|apply ne|apply nq|apply nx rfl
   obtain rfl := some_eq h
   exact rt
  ·replace h : some ((a0.Head == a1.Head) && ((a0.Data.a0 == a1.Data.a0) && ((a0.Data.a1 == a1.Data.a1) && ((a0.Data.a2 == a1.Data.a2) && ((a0.Data.a3 == a1.Data.a3) && ((a0.Data.a4 == a1.Data.a4) && ((a0.Data.a5 == a1.Data.a5) && (a0.Data.a6 == a1.Data.a6)))))))) = some res := by first | exact h | (rw [and_t hb1] at h; exact h)
   rcases hb2 : (a0.Head == a1.Head) with _ | _
   ·replace h : some false = some res := by first | exact h | (rw [and_f hb2] at h; exact h)
    simp -implicitDefEqProofs +decide only [go_sem, Nat.reduceAdd, Int.reduceToNat, hb1, hb2]
    refine hK _ ?_
    refine swp_ret ?_
    with_reducible repeat first|apply nn|apply nb|apply nr|apply nc|apply ne|apply nq|apply nx rfl
    obtain rfl := some_eq h
    exact rt
   ·replace h : some ((a0.Data.a0 == a1.Data.a0) && ((a0.Data.a1 == a1.Data.a1) && ((a0.Data.a2 == a1.Data.a2) && ((a0.Data.a3 == a1.Data.a3) && ((a0.Data.a4 == a1.Data.a4) && ((a0.Data.a5 == a1.Data.a5) && (a0.Data.a6 == a1.Data.a6))))))) = some res := by first | exact h | (rw [and_t hb2] at h; exact h)
    simp -implicitDefEqProofs +decide only [go_sem, Nat.reduceAdd, Int.reduceToNat, hb1, hb2]
    refine hK _ ?_
    refine swp_ret ?_
    with_reducible repeat first|apply nn|apply nb|apply nr|apply nc|apply ne|apply nq|apply nx rfl
    obtain rfl := some_eq h
    exact rt
end Go.Sh
end
section
namespace Go.Sh
open Go.Proofs
noncomputable def bodegaref24_ReadRoot (a0 : api_Page) : Option (bodegaref19_Pointer × Int × Int) :=
  if (a0.Line != 96) = true then
    some ((⟨0, 0⟩ : bodegaref19_Pointer), 0, 1)
  else
    if (a0.Data.a0 == 0) = true then
      some ((⟨0, 0⟩ : bodegaref19_Pointer), 0, 0)
    else
      (bodegaref19_Unpack (IntKind.u32.wrap a0.Data.a0)).bind fun v5 =>
      (bodegaref19_ValidPointer v5).bind fun v9 =>
      if (!v9) = true then
        some ((⟨0, 0⟩ : bodegaref19_Pointer), 0, 14)
      else
        if (decide (a0.Data.a0 ≥ 38654705664)) = true then
          some ((⟨0, 0⟩ : bodegaref19_Pointer), 0, 14)
        else
          some (v5, (IntKind.i64.wrap (shrV .u64 a0.Data.a0 32)), 0)
theorem bodegaref24_ReadRoot_ok (G : Glob) (hG0 : G.glob 0 = some [(.int .i64 0), (.int .i64 0)]) (a0 : api_Page) (res : (bodegaref19_Pointer × Int × Int)) (h : bodegaref24_ReadRoot a0 = some res) : Spec Tryz.prog G 16 [.agg (g_yylp a0)] (fun r ios => r = .tup [.agg [.p (.int .i64 res.1.Line), .p (.int .i64 res.1.Gen)], .cell (.p (.int .i64 res.2.1)), .cell (.p (.int .i64 res.2.2))] ∧ ios = []) := by
  rw [bodegaref24_ReadRoot] at h
  refine spec_of Tryz.mixed Tryz.func16 rfl rfl (by simp only [List.length]; decide +kernel) ?_
  refine swp_fresh (fun g => stL [(0, (.agg (b_mq86 a0)))] [] (g + 1)) (ren_go (fun g S => []) fun g S => []) fun g => ?_
  refine go_seq ?_
  refine swp_seq ?_
  refine go_seq ?_
  refine bsplit h (fun hb2 h => ?_) (fun hb2 h => ?_)
  ·refine if_go ?_
   refine go_seq ?_
   refine swp_ret ?_
   with_reducible repeat first|apply nn|apply nb|apply nr|apply nc|apply ne|apply nq|apply nx rfl
   obtain rfl := some_eq h
   exact rt
  ·refine el_go ?_
   refine swp_skip ?_
   with_reducible repeat first|apply nn|apply nb|apply nr|apply nc|apply ne|apply nq|apply nx rfl
   refine swp_seq ?_
   refine go_seq ?_
   refine bsplit h (fun hb4 h => ?_) (fun hb4 h => ?_)
   ·refine if_go ?_
    refine go_seq ?_
    refine swp_ret ?_
    with_reducible repeat first|apply nn|apply nb|apply nr|apply nc|apply ne|apply nq|apply nx rfl
    obtain rfl := some_eq h
    exact rt
   ·refine el_go ?_
    refine swp_skip ?_
    with_reducible repeat first|apply nn|apply nb|apply nr|apply nc|apply ne|apply nq|apply nx rfl
    refine seq_reg rfl (fun K hK => ?_)
    refine bind_of h (fun v5 hv5 h => ?_)
    simp -implicitDefEqProofs +decide only [go_sem, Nat.reduceAdd, Int.reduceToNat, hb2, hb4]
    refine call_go [0] false (bodegaref19_Unpack_ok (cG G) hG0 _ _ hv5) ?_
    simp -implicitDefEqProofs +decide only [go_sem, Nat.reduceAdd, Int.reduceToNat, hb2, hb4]
    refine hK _ ?_
    refine swp_seq ?_
    refine seq_reg rfl (fun K hK => ?_)
    refine bind_of h (fun v9 hv9 h => ?_)
    simp -implicitDefEqProofs +decide only [go_sem, Nat.reduceAdd, Int.reduceToNat, hb2, hb4]
    refine call_go [0] false (bodegaref19_ValidPointer_ok (cG G) hG0 _ _ hv9) ?_
    refine bsplit h (fun hb10 h => ?_) (fun hb10 h => ?_)
    ·simp -implicitDefEqProofs +decide only [go_sem, Nat.reduceAdd, Int.reduceToNat, hb2, hb4, hb10]
     refine hK _ ?_
     refine if_go ?_
     refine go_seq ?_
     refine swp_ret ?_
     with_reducible repeat first|apply nn|apply nb|apply nr|apply nc|apply ne|apply nq|apply nx rfl
     obtain rfl := some_eq h
     exact rt
    ·simp -implicitDefEqProofs +decide only [go_sem, Nat.reduceAdd, Int.reduceToNat, hb2, hb4, hb10]
     refine hK _ ?_
     refine bsplit h (fun hb11 h => ?_) (fun hb11 h => ?_)
     ·refine if_go ?_
      refine go_seq ?_
      refine swp_ret ?_
      with_reducible repeat first|apply nn|apply nb|apply nr|apply nc|apply ne|apply nq|apply nx rfl
      obtain rfl := some_eq h
      exact rt
     ·refine el_go ?_
      refine swp_skip ?_
      with_reducible repeat first|apply nn|apply nb|apply nr|apply nc|apply ne|apply nq|apply nx rfl
      refine go_seqD ?_
      refine swp_ret ?_
      with_reducible repeat first|apply nn|apply nb|apply nr|apply nc|apply ne|apply nq|apply nx rfl
      obtain rfl := some_eq h
      exact rt
end Go.Sh
end
section
namespace Go.Sh
open Go.Proofs
noncomputable def bodegaref24_WriteRoot_J1 (a1 : bodegaref19_Pointer) (a0 : api_Page) (a2 : Int) : Unit → Option (api_Page × Int)
  | () =>
    (bodegaref19_Pack a1).bind fun v8 =>
    some ((⟨a0.Line, a0.Head, (⟨(IntKind.u64.wrap ((IntKind.u64.wrap v8) + (shlV .u64 (IntKind.u64.wrap a2) 32))), a0.Data.a1, a0.Data.a2, a0.Data.a3, a0.Data.a4, a0.Data.a5, a0.Data.a6⟩ : (A7 Int))⟩ : api_Page), 0)
noncomputable def bodegaref24_WriteRoot (a0 : api_Page) (a1 : bodegaref19_Pointer) (a2 : Int) : Option (api_Page × Int) :=
  if (a0.Line != 96) = true then
    some ((⟨0, 0, (⟨0, 0, 0, 0, 0, 0, 0⟩ : (A7 Int))⟩ : api_Page), 1)
  else
    if (decide (a2 < 0)) = true then
      some ((⟨0, 0, (⟨0, 0, 0, 0, 0, 0, 0⟩ : (A7 Int))⟩ : api_Page), 1)
    else
      if (decide (a2 > 8)) = true then
        some ((⟨0, 0, (⟨0, 0, 0, 0, 0, 0, 0⟩ : (A7 Int))⟩ : api_Page), 1)
      else
        if ((a1.Line == 0) && (a1.Gen == 0)) = true then
          if (a2 != 0) = true then
            some ((⟨0, 0, (⟨0, 0, 0, 0, 0, 0, 0⟩ : (A7 Int))⟩ : api_Page), 1)
          else
            bodegaref24_WriteRoot_J1 a1 a0 a2 ()
        else
          (bodegaref19_ValidPointer a1).bind fun v14 =>
          if (!v14) = true then
            some ((⟨0, 0, (⟨0, 0, 0, 0, 0, 0, 0⟩ : (A7 Int))⟩ : api_Page), 1)
          else
            bodegaref24_WriteRoot_J1 a1 a0 a2 ()
theorem bodegaref24_WriteRoot_ok (G : Glob) (hG0 : G.glob 0 = some [(.int .i64 0), (.int .i64 0)]) (a0 : api_Page) (a1 : bodegaref19_Pointer) (a2 : Int) (res : (api_Page × Int)) (h : bodegaref24_WriteRoot a0 a1 a2 = some res) : Spec Tryz.prog G 18 [.agg (g_yylp a0), .agg [.p (.int .i64 a1.Line), .p (.int .i64 a1.Gen)], .cell (.p (.int .i64 a2))] (fun r ios => r = .tup [.agg (g_yylp res.1), .cell (.p (.int .i64 res.2))] ∧ ios = []) := by
  rw [bodegaref24_WriteRoot] at h
  refine spec_of Tryz.mixed Tryz.func18 rfl rfl (by simp only [List.length]; decide +kernel) ?_
  refine swp_fresh (fun g => stL [(0, (.agg (b_mq86 a0))), (1, (.agg [(.p (.int .i64 a1.Line)), (.p (.int .i64 a1.Gen))])), (2, (.c (.p (.int .i64 a2))))] [] (g + 1)) (ren_go (fun g S => []) fun g S => []) fun g => ?_
  refine go_seq ?_
  refine go_seq ?_
  refine cut1 (Joins (bodegaref24_WriteRoot_J1 a1 a0 a2) (fun g _ => stL [(2, (.c (.p (.int .i64 a2)))), (3, (.c (.ptr ⟨1024000001, g⟩ 0 0))), (4, (.c (.ptr ⟨1024000002, g⟩ 0 0))), (6, (.c (.ptr ⟨1024000003, g⟩ 0 0)))] [(⟨1024000001, g⟩, .box true (b_mq86 a0)), (⟨1024000002, g⟩, .box true [(.p (.int .i64 a1.Line)), (.p (.int .i64 a1.Gen))]), (⟨1024000003, g⟩, .box true [(.p (.int .i64 0)), (.p (.int .u64 0)), (.p (.int .u64 0)), (.p (.int .u64 0)), (.p (.int .u64 0)), (.p (.int .u64 0)), (.p (.int .u64 0)), (.p (.int .u64 0)), (.p (.int .u64 0))])] (g + 1)) res) ?_ (fun hj1 => ?_)
  ·refine join_of ?_
   rintro g ⟨⟩ h
   rw [bodegaref24_WriteRoot_J1] at h
   try dsimp only
   refine go_seq ?_
   refine seq_reg rfl (fun K hK => ?_)
   refine bind_of h (fun v8 hv8 h => ?_)
   simp -implicitDefEqProofs +decide only [go_sem, Nat.reduceAdd, Int.reduceToNat]
   refine call_go [0] false (bodegaref19_Pack_ok (cG G) hG0 _ _ hv8) ?_
   simp -implicitDefEqProofs +decide only [go_sem, Nat.reduceAdd, Int.reduceToNat]
   refine hK _ ?_
   refine go_seq ?_
   refine swp_ret ?_
   with_reducible repeat first|apply nn|apply nb|apply nr|apply nc|apply ne|apply nq|apply nx rfl
   obtain rfl := some_eq h
   exact rt
  refine swp_seq ?_
  refine seq_reg rfl (fun K hK => ?_)
  refine bsplit h (fun hb9 h => ?_) (fun hb9 h => ?_)
  ·simp -implicitDefEqProofs +decide only [go_sem, Nat.reduceAdd, Int.reduceToNat, hb9]
   refine hK _ ?_
   refine if_go ?_
   refine go_seq ?_
   refine swp_ret ?_
   with_reducible repeat first|apply nn|apply nb|apply nr|apply nc|apply ne|apply nq|apply nx rfl
   obtain rfl := some_eq h
   exact rt
  ·refine bsplit h (fun hb10 h => ?_) (fun hb10 h => ?_)
   ·simp -implicitDefEqProofs +decide only [go_sem, Nat.reduceAdd, Int.reduceToNat, hb9, hb10]
    refine hK _ ?_
    refine if_go ?_
    refine go_seq ?_
    refine swp_ret ?_
    with_reducible repeat first|apply nn|apply nb|apply nr|apply nc|apply ne|apply nq|apply nx rfl
    obtain rfl := some_eq h
    exact rt
   ·refine bsplit h (fun hb11 h => ?_) (fun hb11 h => ?_)
    ·simp -implicitDefEqProofs +decide only [go_sem, Nat.reduceAdd, Int.reduceToNat, hb9, hb10, hb11]
     refine hK _ ?_
     refine if_go ?_
     refine go_seq ?_
     refine swp_ret ?_
     with_reducible repeat first|apply nn|apply nb|apply nr|apply nc|apply ne|apply nq|apply nx rfl
     obtain rfl := some_eq h
     exact rt
    ·refine bsplit h (fun hb12 h => ?_) (fun hb12 h => ?_)
     ·refine bsplit h (fun hb13 h => ?_) (fun hb13 h => ?_)
      ·simp -implicitDefEqProofs +decide only [go_sem, Nat.reduceAdd, Int.reduceToNat, hb9, hb10, hb11, hb12, hb13]
       refine hK _ ?_
       refine if_go ?_
       refine go_seq ?_
       refine swp_ret ?_
       with_reducible repeat first|apply nn|apply nb|apply nr|apply nc|apply ne|apply nq|apply nx rfl
       obtain rfl := some_eq h
       exact rt
      ·simp -implicitDefEqProofs +decide only [go_sem, Nat.reduceAdd, Int.reduceToNat, hb9, hb10, hb11, hb12, hb13]
       refine hK _ ?_
       refine el_go ?_
       refine swp_skip ?_
       with_reducible repeat first|apply nn|apply nb|apply nr|apply nc|apply ne|apply nq|apply nx rfl
       exact jump_of hj1 h (ren_go (fun g S => [(⟨1024000001, g⟩, (keyT 0 (St.env S 3))), (⟨1024000002, g⟩, (keyT 0 (St.env S 4))), (⟨1024000003, g⟩, (keyT 0 (St.env S 6)))]) fun g S => [])
     ·refine bind_of h (fun v14 hv14 h => ?_)
      simp -implicitDefEqProofs +decide only [go_sem, Nat.reduceAdd, Int.reduceToNat, hb9, hb10, hb11, hb12]
      refine call_go [0] false (bodegaref19_ValidPointer_ok (cG G) hG0 _ _ hv14) ?_
      simp -implicitDefEqProofs +decide only [go_sem, Nat.reduceAdd, Int.reduceToNat, hb9, hb10, hb11, hb12]
      refine hK _ ?_
      refine bsplit h (fun hb15 h => ?_) (fun hb15 h => ?_)
      ·refine if_go ?_
       refine go_seq ?_
       refine swp_ret ?_
       with_reducible repeat first|apply nn|apply nb|apply nr|apply nc|apply ne|apply nq|apply nx rfl
       obtain rfl := some_eq h
       exact rt
      ·refine el_go ?_
       refine swp_skip ?_
       with_reducible repeat first|apply nn|apply nb|apply nr|apply nc|apply ne|apply nq|apply nx rfl
       exact jump_of hj1 h (ren_go (fun g S => [(⟨1024000001, g⟩, (keyT 0 (St.env S 3))), (⟨1024000002, g⟩, (keyT 0 (St.env S 4))), (⟨1024000003, g⟩, (keyT 0 (St.env S 6)))]) fun g S => [])
end Go.Sh
end
