/- Part 7 of 7 of the proof: own texts joined by a program. -/
import Derived.Test.YthambbjjolieaaaDoorBucketsF
import Derived.Test.YthambbjjolieaaaDoorRows
import Derived.Test.YthambbjjolieaaaDoorCards
import Derived.Test.YthambbjjolieaaaDoorTie
import Derived.ProofKit
import Derived.LaidMore
import Derived.OpenShut
import Derived.Stop.Joined
import Derived.SevenTiedAt
set_option linter.all false
section
namespace Go.Sh
open Go.Proofs
set_option linter.unusedVariables false
set_option linter.unusedSimpArgs false
set_option maxRecDepth 100000
set_option maxHeartbeats 4000000
noncomputable def hashindex_ReadBucket_J1 (v6 : (pointer_Pointer × Bool)) (v1 : pointer_Tag) (a0 : api_Page) (l30 : List hashindex_Entry) : Option (hashindex_Bucket × Int) :=
    if (!v6.2) = true then
      some ((⟨0, 0, (⟨0, 0⟩ : pointer_Pointer), ([] : List hashindex_Entry)⟩ : hashindex_Bucket), 14)
    else
      (hashindex_Bucket_valid (⟨(IntKind.i64.wrap (bits .and .u32 v1.Aux 255)), (shrV .u32 v1.Aux 16), v6.1, l30⟩ : hashindex_Bucket)).bind fun v32 =>
      if (!v32) = true then
        some ((⟨0, 0, (⟨0, 0⟩ : pointer_Pointer), ([] : List hashindex_Entry)⟩ : hashindex_Bucket), 14)
      else
        (hashindex_Bucket_fill (⟨(IntKind.i64.wrap (bits .and .u32 v1.Aux 255)), (shrV .u32 v1.Aux 16), v6.1, l30⟩ : hashindex_Bucket) a0).bind fun v34 =>
        if (!((v34.Data.a0 == a0.Data.a0) && ((v34.Data.a1 == a0.Data.a1) && ((v34.Data.a2 == a0.Data.a2) && ((v34.Data.a3 == a0.Data.a3) && ((v34.Data.a4 == a0.Data.a4) && ((v34.Data.a5 == a0.Data.a5) && (v34.Data.a6 == a0.Data.a6)))))))) = true then
          some ((⟨0, 0, (⟨0, 0⟩ : pointer_Pointer), ([] : List hashindex_Entry)⟩ : hashindex_Bucket), 14)
        else
          some ((⟨(IntKind.i64.wrap (bits .and .u32 v1.Aux 255)), (shrV .u32 v1.Aux 16), v6.1, l30⟩ : hashindex_Bucket), 0)
noncomputable def hashindex_ReadBucket_L1 (v1 : pointer_Tag) (a0 : api_Page) (v6 : (pointer_Pointer × Bool)) : (List hashindex_Entry × Int) → Option ((List hashindex_Entry × Int) ⊕ (hashindex_Bucket × Int))
  | (l52, x53) =>
    if (decide (x53 < (((IntKind.i64.wrap (2 + (IntKind.i64.wrap (bits .and .u32 (shrV .u32 v1.Aux 8) 255)))) - 2).toNat : Int))) = true then
      if 0 ≤ x53 ∧ x53 < ((IntKind.i64.wrap (2 + (IntKind.i64.wrap (bits .and .u32 (shrV .u32 v1.Aux 8) 255)))) - 2).toNat ∧ x53 < 5 then
        (pointer_Unpack (IntKind.u32.wrap (A5.get (⟨a0.Data.a2, a0.Data.a3, a0.Data.a4, a0.Data.a5, a0.Data.a6⟩ : A5 Int) x53))).bind fun v58 =>
        if (l52.length + 1) * 24 ≤ maxRows ∧ l52.length + 1 ≤ maxRows then
          some (.inl ((l52 ++ ([(⟨(IntKind.u32.wrap (shrV .u64 (A5.get (⟨a0.Data.a2, a0.Data.a3, a0.Data.a4, a0.Data.a5, a0.Data.a6⟩ : A5 Int) x53) 32)), v58⟩ : hashindex_Entry)] : List hashindex_Entry)), (IntKind.i64.wrap (x53 + 1))))
        else none
      else none
    else
      Option.map Sum.inr (
        hashindex_ReadBucket_J1 v6 v1 a0 l52)
noncomputable def hashindex_ReadBucket (a0 : api_Page) : Option (hashindex_Bucket × Int) :=
  (pointer_UnpackTag a0.Data.a0).bind fun v1 =>
  if (v1.Kind != 2) = true then
    some ((⟨0, 0, (⟨0, 0⟩ : pointer_Pointer), ([] : List hashindex_Entry)⟩ : hashindex_Bucket), 14)
  else
    if (decide ((IntKind.i64.wrap (bits .and .u32 (shrV .u32 v1.Aux 8) 255)) > 5)) = true then
      some ((⟨0, 0, (⟨0, 0⟩ : pointer_Pointer), ([] : List hashindex_Entry)⟩ : hashindex_Bucket), 14)
    else
      (hashindex_unpack (IntKind.u32.wrap a0.Data.a1)).bind fun v6 =>
      if 2 ≤ (IntKind.i64.wrap (2 + (IntKind.i64.wrap (bits .and .u32 (shrV .u32 v1.Aux 8) 255)))) ∧ (IntKind.i64.wrap (2 + (IntKind.i64.wrap (bits .and .u32 (shrV .u32 v1.Aux 8) 255)))) ≤ 7 then
        iter (hashindex_ReadBucket_L1 v1 a0 v6) (([] : List hashindex_Entry), 0)
      else none
theorem hashindex_ReadBucket_ok (G : Glob) (hG0 : G.glob 0 = some [(.int .i64 0), (.int .i64 0)]) (a0 : api_Page) (res : (hashindex_Bucket × Int)) (h : hashindex_ReadBucket a0 = some res) : Spec Tryd.prog G 21 [.agg [.p (.int .i64 a0.Line), .p (.int .u64 a0.Head), .p (.int .u64 a0.Data.a0), .p (.int .u64 a0.Data.a1), .p (.int .u64 a0.Data.a2), .p (.int .u64 a0.Data.a3), .p (.int .u64 a0.Data.a4), .p (.int .u64 a0.Data.a5), .p (.int .u64 a0.Data.a6)]] (fun r ios => r = .tup [.agg [.p (.int .i64 res.1.Depth), .p (.int .u32 res.1.Pattern), .p (.int .i64 res.1.Next.Line), .p (.int .i64 res.1.Next.Gen), .own 3 (res.1.Entries.map r_hashindex_Entry)], .cell (.p (.int .i64 res.2))] ∧ ios = []) := by
  rw [hashindex_ReadBucket] at h
  refine spec_of Tryd.mixed Tryd.func21 rfl rfl (by simp only [List.length]; decide +kernel) ?_
  refine swp_fresh (fun g => stL [(0, (.agg [(.p (.int .i64 a0.Line)), (.p (.int .u64 a0.Head)), (.p (.int .u64 a0.Data.a0)), (.p (.int .u64 a0.Data.a1)), (.p (.int .u64 a0.Data.a2)), (.p (.int .u64 a0.Data.a3)), (.p (.int .u64 a0.Data.a4)), (.p (.int .u64 a0.Data.a5)), (.p (.int .u64 a0.Data.a6))]))] [] (g + 1)) ?_ (fun g => ?_)
  · refine ren_go (fun g S => []) (fun g S => []) ?_ ?_ ?_ ?_ ?_
    all_goals try simp -implicitDefEqProofs +decide only [go_sem, Nat.reduceAdd, Int.reduceToNat]
    all_goals first | done | trivial | omega | (simp [maps, go_sem]; done) | (simp [maps, go_sem] <;> omega)
  refine seq_reg rfl (fun K hK => ?_)
  simp -implicitDefEqProofs +decide only [go_sem, Nat.reduceAdd, Int.reduceToNat]
  refine hK _ ?_
  refine seq_reg rfl (fun K hK => ?_)
  refine bind_of h (fun v1 hv1 h => ?_)
  simp -implicitDefEqProofs +decide only [go_sem, Nat.reduceAdd, Int.reduceToNat]
  refine call_go [0] false (pointer_UnpackTag_ok ⟨G.glob, noCaps⟩ hG0 a0.Data.a0 _ hv1) (by simp -implicitDefEqProofs +decide only [go_sem, Nat.reduceAdd, Int.reduceToNat]; rfl) (by first | rfl | (simp [maps]; done)) ?_
  simp -implicitDefEqProofs +decide only [go_sem, Nat.reduceAdd, Int.reduceToNat]
  refine hK _ ?_
  refine seq_reg rfl (fun K hK => ?_)
  simp -implicitDefEqProofs +decide only [go_sem, Nat.reduceAdd, Int.reduceToNat]
  refine hK _ ?_
  refine swp_seq ?_
  refine seq_reg rfl (fun K hK => ?_)
  refine bsplit h (fun hb4 h => ?_) (fun hb4 h => ?_)
  · simp -implicitDefEqProofs +decide only [go_sem, Nat.reduceAdd, Int.reduceToNat, hb4]
    refine hK _ ?_
    refine cond_t (by simp -implicitDefEqProofs +decide only [go_sem, hb4]) ?_
    refine seq_reg rfl (fun K hK => ?_)
    simp -implicitDefEqProofs +decide only [go_sem, Nat.reduceAdd, Int.reduceToNat, hb4]
    refine hK _ ?_
    refine swp_fresh (fun g => stL [(2, (.c (.ptr ⟨1024000001, g⟩ 0 0))), (3, (.c (.p (.int .i64 14))))] [(⟨1024000001, g⟩, .box true [(.p (.int .i64 0)), (.p (.int .u32 0)), (.p (.int .i64 0)), (.p (.int .i64 0)), (.ref ⟨1024000002, g⟩ 0 ([] : List hashindex_Entry).length)]), (⟨1024000002, g⟩, .arr true 3 (([] : List hashindex_Entry).map r_hashindex_Entry))] (g + 1)) ?_ (fun g => ?_)
    · refine ren_go (fun g S => [(⟨1024000001, g⟩, (keyT 0 (St.env S 2)))]) (fun g S => [(⟨1024000002, g⟩, 3)]) ?_ ?_ ?_ ?_ ?_
      all_goals try simp -implicitDefEqProofs +decide only [go_sem, Nat.reduceAdd, Int.reduceToNat]
      all_goals first | done | trivial | omega | (simp [maps, go_sem]; done) | (simp [maps, go_sem] <;> omega)
    refine swp_ret ?_
    with_reducible repeat (first | refine nn ?_ | refine nb ?_ | refine nr ?_ | refine nc ?_ | refine ne ?_ | refine nq ?_ | refine nx rfl ?_)
    obtain rfl := some_eq h
    simp -implicitDefEqProofs +decide only [go_sem, Nat.reduceAdd, Int.reduceToNat]
    all_goals first | done | trivial | (simp [maps]; done)
  · simp -implicitDefEqProofs +decide only [go_sem, Nat.reduceAdd, Int.reduceToNat, hb4]
    refine hK _ ?_
    refine bsplit h (fun hb5 h => ?_) (fun hb5 h => ?_)
    · refine cond_t (by simp -implicitDefEqProofs +decide only [go_sem, hb4, hb5]) ?_
      refine seq_reg rfl (fun K hK => ?_)
      simp -implicitDefEqProofs +decide only [go_sem, Nat.reduceAdd, Int.reduceToNat, hb4, hb5]
      refine hK _ ?_
      refine swp_fresh (fun g => stL [(2, (.c (.ptr ⟨1024000003, g⟩ 0 0))), (3, (.c (.p (.int .i64 14))))] [(⟨1024000003, g⟩, .box true [(.p (.int .i64 0)), (.p (.int .u32 0)), (.p (.int .i64 0)), (.p (.int .i64 0)), (.ref ⟨1024000004, g⟩ 0 ([] : List hashindex_Entry).length)]), (⟨1024000004, g⟩, .arr true 3 (([] : List hashindex_Entry).map r_hashindex_Entry))] (g + 1)) ?_ (fun g => ?_)
      · refine ren_go (fun g S => [(⟨1024000003, g⟩, (keyT 0 (St.env S 2)))]) (fun g S => [(⟨1024000004, g⟩, 3)]) ?_ ?_ ?_ ?_ ?_
        all_goals try simp -implicitDefEqProofs +decide only [go_sem, Nat.reduceAdd, Int.reduceToNat]
        all_goals first | done | trivial | omega | (simp [maps, go_sem]; done) | (simp [maps, go_sem] <;> omega)
      refine swp_ret ?_
      with_reducible repeat (first | refine nn ?_ | refine nb ?_ | refine nr ?_ | refine nc ?_ | refine ne ?_ | refine nq ?_ | refine nx rfl ?_)
      obtain rfl := some_eq h
      simp -implicitDefEqProofs +decide only [go_sem, Nat.reduceAdd, Int.reduceToNat]
      all_goals first | done | trivial | (simp [maps]; done)
    · refine cond_f (by simp -implicitDefEqProofs +decide only [go_sem, hb4, hb5]) ?_
      refine swp_skip ?_
      with_reducible repeat (first | refine nn ?_ | refine nb ?_ | refine nr ?_ | refine nc ?_ | refine ne ?_ | refine nq ?_ | refine nx rfl ?_)
      refine seq_reg rfl (fun K hK => ?_)
      refine bind_of h (fun v6 hv6 h => ?_)
      simp -implicitDefEqProofs +decide only [go_sem, Nat.reduceAdd, Int.reduceToNat, hb4, hb5]
      refine call_go [0] false (hashindex_unpack_ok ⟨G.glob, noCaps⟩ hG0 (IntKind.u32.wrap a0.Data.a1) _ hv6) (by simp -implicitDefEqProofs +decide only [go_sem, Nat.reduceAdd, Int.reduceToNat, hb4, hb5]; rfl) (by first | rfl | (simp [maps, hb4, hb5]; done)) ?_
      simp -implicitDefEqProofs +decide only [go_sem, Nat.reduceAdd, Int.reduceToNat, hb4, hb5]
      refine hK _ ?_
      refine seq_reg rfl (fun K hK => ?_)
      simp -implicitDefEqProofs +decide only [go_sem, Nat.reduceAdd, Int.reduceToNat, hb4, hb5]
      refine hK _ ?_
      refine cut1 (Joins (hashindex_ReadBucket_J1 v6 v1 a0) (fun g l30 => stL [(1, (.c (.ptr ⟨1024000005, g⟩ 0 0))), (2, (.c (.ptr ⟨1024000006, g⟩ 0 0))), (7, (.c (.p (.bool v6.2)))), (8, (.c (.ptr ⟨1024000007, g⟩ 0 0)))] [(⟨1024000005, g⟩, .box true [(.p (.int .i64 a0.Line)), (.p (.int .u64 a0.Head)), (.p (.int .u64 a0.Data.a0)), (.p (.int .u64 a0.Data.a1)), (.p (.int .u64 a0.Data.a2)), (.p (.int .u64 a0.Data.a3)), (.p (.int .u64 a0.Data.a4)), (.p (.int .u64 a0.Data.a5)), (.p (.int .u64 a0.Data.a6))]), (⟨1024000006, g⟩, .box true [(.p (.int .i64 0)), (.p (.int .u32 0)), (.p (.int .i64 0)), (.p (.int .i64 0)), .nilS]), (⟨1024000007, g⟩, .box true [(.p (.int .i64 (IntKind.i64.wrap (bits .and .u32 v1.Aux 255)))), (.p (.int .u32 (shrV .u32 v1.Aux 16))), (.p (.int .i64 v6.1.Line)), (.p (.int .i64 v6.1.Gen)), (.ref ⟨1024000008, g⟩ 0 l30.length)]), (⟨1024000008, g⟩, .arr true 3 (l30.map r_hashindex_Entry))] (g + 1)) res) ?_ (fun hj1 => ?_)
      · refine join_of ?_
        rintro g l30 h
        rw [hashindex_ReadBucket_J1] at h
        try dsimp only
        refine swp_seq ?_
        refine seq_drw rfl (fun K hK => ?_)
        refine bsplit h (fun hb31 h => ?_) (fun hb31 h => ?_)
        · simp -implicitDefEqProofs +decide only [go_sem, Nat.reduceAdd, Int.reduceToNat, hb4, hb5, hb31]
          refine draw_go (by kernel_rfl) ?_
          refine hK _ ?_
          refine cond_t (by simp -implicitDefEqProofs +decide only [go_sem, hb4, hb5, hb31]) ?_
          refine seq_reg rfl (fun K hK => ?_)
          simp -implicitDefEqProofs +decide only [go_sem, Nat.reduceAdd, Int.reduceToNat, hb4, hb5, hb31]
          refine hK _ ?_
          refine swp_fresh (fun g => stL [(2, (.c (.ptr ⟨1024000009, g⟩ 0 0))), (3, (.c (.p (.int .i64 14))))] [(⟨1024000009, g⟩, .box true [(.p (.int .i64 0)), (.p (.int .u32 0)), (.p (.int .i64 0)), (.p (.int .i64 0)), (.ref ⟨1024000010, g⟩ 0 ([] : List hashindex_Entry).length)]), (⟨1024000010, g⟩, .arr true 3 (([] : List hashindex_Entry).map r_hashindex_Entry))] (g + 1)) ?_ (fun g => ?_)
          · refine ren_go (fun g S => [(⟨1024000009, g⟩, (keyT 0 (St.env S 2)))]) (fun g S => [(⟨1024000010, g⟩, 3)]) ?_ ?_ ?_ ?_ ?_
            all_goals try simp -implicitDefEqProofs +decide only [go_sem, Nat.reduceAdd, Int.reduceToNat]
            all_goals first | done | trivial | omega | (simp [maps, go_sem]; done) | (simp [maps, go_sem] <;> omega)
          refine swp_ret ?_
          with_reducible repeat (first | refine nn ?_ | refine nb ?_ | refine nr ?_ | refine nc ?_ | refine ne ?_ | refine nq ?_ | refine nx rfl ?_)
          obtain rfl := some_eq h
          simp -implicitDefEqProofs +decide only [go_sem, Nat.reduceAdd, Int.reduceToNat]
          all_goals first | done | trivial | (simp [maps]; done)
        · refine bind_of h (fun v32 hv32 h => ?_)
          simp -implicitDefEqProofs +decide only [go_sem, Nat.reduceAdd, Int.reduceToNat, hb4, hb5, hb31]
          refine call_go [0] false (hashindex_Bucket_valid_ok ⟨G.glob, noCaps⟩ hG0 (⟨(IntKind.i64.wrap (bits .and .u32 v1.Aux 255)), (shrV .u32 v1.Aux 16), v6.1, l30⟩ : hashindex_Bucket) _ hv32) (by simp -implicitDefEqProofs +decide only [go_sem, Nat.reduceAdd, Int.reduceToNat, hb4, hb5, hb31]; rfl) (by first | rfl | (simp [maps, hb4, hb5, hb31]; done)) ?_
          refine bsplit h (fun hb33 h => ?_) (fun hb33 h => ?_)
          · simp -implicitDefEqProofs +decide only [go_sem, Nat.reduceAdd, Int.reduceToNat, hb4, hb5, hb31, hb33]
            refine draw_go (by kernel_rfl) ?_
            refine hK _ ?_
            refine cond_t (by simp -implicitDefEqProofs +decide only [go_sem, hb4, hb5, hb31, hb33]) ?_
            refine seq_reg rfl (fun K hK => ?_)
            simp -implicitDefEqProofs +decide only [go_sem, Nat.reduceAdd, Int.reduceToNat, hb4, hb5, hb31, hb33]
            refine hK _ ?_
            refine swp_fresh (fun g => stL [(2, (.c (.ptr ⟨1024000011, g⟩ 0 0))), (3, (.c (.p (.int .i64 14))))] [(⟨1024000011, g⟩, .box true [(.p (.int .i64 0)), (.p (.int .u32 0)), (.p (.int .i64 0)), (.p (.int .i64 0)), (.ref ⟨1024000012, g⟩ 0 ([] : List hashindex_Entry).length)]), (⟨1024000012, g⟩, .arr true 3 (([] : List hashindex_Entry).map r_hashindex_Entry))] (g + 1)) ?_ (fun g => ?_)
            · refine ren_go (fun g S => [(⟨1024000011, g⟩, (keyT 0 (St.env S 2)))]) (fun g S => [(⟨1024000012, g⟩, 3)]) ?_ ?_ ?_ ?_ ?_
              all_goals try simp -implicitDefEqProofs +decide only [go_sem, Nat.reduceAdd, Int.reduceToNat]
              all_goals first | done | trivial | omega | (simp [maps, go_sem]; done) | (simp [maps, go_sem] <;> omega)
            refine swp_ret ?_
            with_reducible repeat (first | refine nn ?_ | refine nb ?_ | refine nr ?_ | refine nc ?_ | refine ne ?_ | refine nq ?_ | refine nx rfl ?_)
            obtain rfl := some_eq h
            simp -implicitDefEqProofs +decide only [go_sem, Nat.reduceAdd, Int.reduceToNat]
            all_goals first | done | trivial | (simp [maps]; done)
          · refine bind_of h (fun v34 hv34 h => ?_)
            simp -implicitDefEqProofs +decide only [go_sem, Nat.reduceAdd, Int.reduceToNat, hb4, hb5, hb31, hb33]
            refine call_go [0, 0] false (hashindex_Bucket_fill_ok ⟨G.glob, noCaps⟩ hG0 (⟨(IntKind.i64.wrap (bits .and .u32 v1.Aux 255)), (shrV .u32 v1.Aux 16), v6.1, l30⟩ : hashindex_Bucket) a0 _ hv34) (by simp -implicitDefEqProofs +decide only [go_sem, Nat.reduceAdd, Int.reduceToNat, hb4, hb5, hb31, hb33]; rfl) (by first | rfl | (simp [maps, hb4, hb5, hb31, hb33]; done)) ?_
            simp -implicitDefEqProofs +decide only [go_sem, Nat.reduceAdd, Int.reduceToNat, hb4, hb5, hb31, hb33]
            refine draw_go (by kernel_rfl) ?_
            refine hK _ ?_
            refine bsplit h (fun hb35 h => ?_) (fun hb35 h => ?_)
            · refine cond_t (by simp -implicitDefEqProofs +decide only [go_sem, hb4, hb5, hb31, hb33, hb35]) ?_
              refine seq_reg rfl (fun K hK => ?_)
              simp -implicitDefEqProofs +decide only [go_sem, Nat.reduceAdd, Int.reduceToNat, hb4, hb5, hb31, hb33, hb35]
              refine hK _ ?_
              refine swp_fresh (fun g => stL [(2, (.c (.ptr ⟨1024000013, g⟩ 0 0))), (3, (.c (.p (.int .i64 14))))] [(⟨1024000013, g⟩, .box true [(.p (.int .i64 0)), (.p (.int .u32 0)), (.p (.int .i64 0)), (.p (.int .i64 0)), (.ref ⟨1024000014, g⟩ 0 ([] : List hashindex_Entry).length)]), (⟨1024000014, g⟩, .arr true 3 (([] : List hashindex_Entry).map r_hashindex_Entry))] (g + 1)) ?_ (fun g => ?_)
              · refine ren_go (fun g S => [(⟨1024000013, g⟩, (keyT 0 (St.env S 2)))]) (fun g S => [(⟨1024000014, g⟩, 3)]) ?_ ?_ ?_ ?_ ?_
                all_goals try simp -implicitDefEqProofs +decide only [go_sem, Nat.reduceAdd, Int.reduceToNat]
                all_goals first | done | trivial | omega | (simp [maps, go_sem]; done) | (simp [maps, go_sem] <;> omega)
              refine swp_ret ?_
              with_reducible repeat (first | refine nn ?_ | refine nb ?_ | refine nr ?_ | refine nc ?_ | refine ne ?_ | refine nq ?_ | refine nx rfl ?_)
              obtain rfl := some_eq h
              simp -implicitDefEqProofs +decide only [go_sem, Nat.reduceAdd, Int.reduceToNat]
              all_goals first | done | trivial | (simp [maps]; done)
            · refine cond_f (by simp -implicitDefEqProofs +decide only [go_sem, hb4, hb5, hb31, hb33, hb35]) ?_
              refine swp_skip ?_
              with_reducible repeat (first | refine nn ?_ | refine nb ?_ | refine nr ?_ | refine nc ?_ | refine ne ?_ | refine nq ?_ | refine nx rfl ?_)
              refine seq_reg rfl (fun K hK => ?_)
              simp -implicitDefEqProofs +decide only [go_sem, Nat.reduceAdd, Int.reduceToNat, hb4, hb5, hb31, hb33, hb35]
              refine hK _ ?_
              refine swp_ret ?_
              with_reducible repeat (first | refine nn ?_ | refine nb ?_ | refine nr ?_ | refine nc ?_ | refine ne ?_ | refine nq ?_ | refine nx rfl ?_)
              obtain rfl := some_eq h
              simp -implicitDefEqProofs +decide only [go_sem, Nat.reduceAdd, Int.reduceToNat]
              all_goals first | done | trivial | (simp [maps]; done)
      refine swp_seq ?_
      refine seq_reg rfl (fun K hK => ?_)
      refine psplit h (fun hp36 h => ?_)
      simp -implicitDefEqProofs +decide only [go_sem, Nat.reduceAdd, Int.reduceToNat, hp36, hb4, hb5]
      refine hK _ ?_
      refine swp_block ?_
      refine swp_iter (fun g x => match x with | (l52, x53) => stL [(1, (.c (.ptr ⟨1024000015, g⟩ 0 0))), (2, (.c (.ptr ⟨1024000016, g⟩ 0 0))), (7, (.c (.p (.bool v6.2)))), (8, (.c (.ptr ⟨1024000017, g⟩ 0 0))), (48, (.c (.cref ⟨1024000015, g⟩ 4 ((IntKind.i64.wrap (2 + (IntKind.i64.wrap (bits .and .u32 (shrV .u32 v1.Aux 8) 255)))) - 2).toNat 1))), (49, (.c (.p (.int .i64 (((IntKind.i64.wrap (2 + (IntKind.i64.wrap (bits .and .u32 (shrV .u32 v1.Aux 8) 255)))) - 2).toNat : Int))))), (50, (.c (.p (.int .i64 x53))))] [(⟨1024000015, g⟩, .box true [(.p (.int .i64 a0.Line)), (.p (.int .u64 a0.Head)), (.p (.int .u64 a0.Data.a0)), (.p (.int .u64 a0.Data.a1)), (.p (.int .u64 a0.Data.a2)), (.p (.int .u64 a0.Data.a3)), (.p (.int .u64 a0.Data.a4)), (.p (.int .u64 a0.Data.a5)), (.p (.int .u64 a0.Data.a6))]), (⟨1024000016, g⟩, .box true [(.p (.int .i64 0)), (.p (.int .u32 0)), (.p (.int .i64 0)), (.p (.int .i64 0)), .nilS]), (⟨1024000017, g⟩, .box true [(.p (.int .i64 (IntKind.i64.wrap (bits .and .u32 v1.Aux 255)))), (.p (.int .u32 (shrV .u32 v1.Aux 16))), (.p (.int .i64 v6.1.Line)), (.p (.int .i64 v6.1.Gen)), (.ref ⟨1024000018, g⟩ 0 l52.length)]), (⟨1024000018, g⟩, .arr true 3 (l52.map r_hashindex_Entry))] (g + 1)) h (enter_of ?_) ?_
      · refine ren_go (fun g S => [(⟨1024000015, g⟩, (keyT 0 (St.env S 1))), (⟨1024000016, g⟩, (keyT 0 (St.env S 2))), (⟨1024000017, g⟩, (keyT 0 (St.env S 8)))]) (fun g S => [(⟨1024000018, g⟩, 3)]) ?_ ?_ ?_ ?_ ?_
        all_goals try simp -implicitDefEqProofs +decide only [go_sem, Nat.reduceAdd, Int.reduceToNat, hb4, hb5]
        all_goals first | done | trivial | omega | (simp [maps, go_sem, hb4, hb5]; done) | (simp [maps, go_sem, hb4, hb5] <;> omega)
      rintro g ⟨l52, x53⟩ s1 h hd1
      rw [hashindex_ReadBucket_L1] at h
      try dsimp only
      refine seq_reg rfl (fun K hK => ?_)
      simp -implicitDefEqProofs +decide only [go_sem, Nat.reduceAdd, Int.reduceToNat]
      refine hK _ ?_
      refine swp_seq ?_
      refine bsplit h (fun hb56 h => ?_) (fun hb56 h => ?_)
      · refine cond_t (by simp -implicitDefEqProofs +decide only [go_sem, hb56]) ?_
        refine swp_skip ?_
        with_reducible repeat (first | refine nn ?_ | refine nb ?_ | refine nr ?_ | refine nc ?_ | refine ne ?_ | refine nq ?_ | refine nx rfl ?_)
        refine swp_seq ?_
        refine swp_block ?_
        refine seq_reg rfl (fun K hK => ?_)
        refine psplit h (fun hp57 h => ?_)
        simp -implicitDefEqProofs +decide only [go_sem, Nat.reduceAdd, Int.reduceToNat, hp57, hb56]
        first | refine opt_get (x := (.p (.int .u64 (A5.get (⟨a0.Data.a2, a0.Data.a3, a0.Data.a4, a0.Data.a5, a0.Data.a6⟩ : A5 Int) x53)))) (by rcases cases5 (And.intro hp57.1 hp57.2.2).1 (And.intro hp57.1 hp57.2.2).2 with hc | hc | hc | hc | hc <;> simp [hc, A5.get]) ?_ | refine opt_get' (x := (.p (.int .u64 (A5.get (⟨a0.Data.a2, a0.Data.a3, a0.Data.a4, a0.Data.a5, a0.Data.a6⟩ : A5 Int) x53)))) (by rcases cases5 (And.intro hp57.1 hp57.2.2).1 (And.intro hp57.1 hp57.2.2).2 with hc | hc | hc | hc | hc <;> simp [hc, A5.get]) ?_
        simp -implicitDefEqProofs +decide only [go_sem, Nat.reduceAdd, Int.reduceToNat, hb56]
        refine hK _ ?_
        refine swp_drw rfl (fun K hK => ?_)
        refine bind_of h (fun v58 hv58 h => ?_)
        simp -implicitDefEqProofs +decide only [go_sem, Nat.reduceAdd, Int.reduceToNat, hb56]
        refine call_go [0] false (pointer_Unpack_ok ⟨G.glob, noCaps⟩ hG0 (IntKind.u32.wrap (A5.get (⟨a0.Data.a2, a0.Data.a3, a0.Data.a4, a0.Data.a5, a0.Data.a6⟩ : A5 Int) x53)) _ hv58) (by simp -implicitDefEqProofs +decide only [go_sem, Nat.reduceAdd, Int.reduceToNat, hb56]; rfl) (by first | rfl | (simp [maps, hb56]; done)) ?_
        refine psplit h (fun hp59 h => ?_)
        simp -implicitDefEqProofs +decide only [go_sem, Nat.reduceAdd, Int.reduceToNat, hp59, hb56]
        refine draw_go (by kernel_rfl) ?_
        refine hK _ ?_
        with_reducible repeat (first | refine nn ?_ | refine nb ?_ | refine nr ?_ | refine nc ?_ | refine ne ?_ | refine nq ?_ | refine nx rfl ?_)
        refine swp_fresh (fun g => stL [(1, (.c (.ptr ⟨1024000019, g⟩ 0 0))), (2, (.c (.ptr ⟨1024000020, g⟩ 0 0))), (7, (.c (.p (.bool v6.2)))), (8, (.c (.ptr ⟨1024000021, g⟩ 0 0))), (48, (.c (.cref ⟨1024000019, g⟩ 4 ((IntKind.i64.wrap (2 + (IntKind.i64.wrap (bits .and .u32 (shrV .u32 v1.Aux 8) 255)))) - 2).toNat 1))), (49, (.c (.p (.int .i64 (((IntKind.i64.wrap (2 + (IntKind.i64.wrap (bits .and .u32 (shrV .u32 v1.Aux 8) 255)))) - 2).toNat : Int))))), (50, (.c (.p (.int .i64 x53))))] [(⟨1024000019, g⟩, .box true [(.p (.int .i64 a0.Line)), (.p (.int .u64 a0.Head)), (.p (.int .u64 a0.Data.a0)), (.p (.int .u64 a0.Data.a1)), (.p (.int .u64 a0.Data.a2)), (.p (.int .u64 a0.Data.a3)), (.p (.int .u64 a0.Data.a4)), (.p (.int .u64 a0.Data.a5)), (.p (.int .u64 a0.Data.a6))]), (⟨1024000020, g⟩, .box true [(.p (.int .i64 0)), (.p (.int .u32 0)), (.p (.int .i64 0)), (.p (.int .i64 0)), .nilS]), (⟨1024000021, g⟩, .box true [(.p (.int .i64 (IntKind.i64.wrap (bits .and .u32 v1.Aux 255)))), (.p (.int .u32 (shrV .u32 v1.Aux 16))), (.p (.int .i64 v6.1.Line)), (.p (.int .i64 v6.1.Gen)), (.ref ⟨1024000022, g⟩ 0 (l52 ++ ([(⟨(IntKind.u32.wrap (shrV .u64 (A5.get (⟨a0.Data.a2, a0.Data.a3, a0.Data.a4, a0.Data.a5, a0.Data.a6⟩ : A5 Int) x53) 32)), v58⟩ : hashindex_Entry)] : List hashindex_Entry)).length)]), (⟨1024000022, g⟩, .arr true 3 ((l52 ++ ([(⟨(IntKind.u32.wrap (shrV .u64 (A5.get (⟨a0.Data.a2, a0.Data.a3, a0.Data.a4, a0.Data.a5, a0.Data.a6⟩ : A5 Int) x53) 32)), v58⟩ : hashindex_Entry)] : List hashindex_Entry)).map r_hashindex_Entry))] (g + 1)) ?_ (fun g => ?_)
        · refine ren_go (fun g S => [(⟨1024000019, g⟩, (keyT 0 (St.env S 1))), (⟨1024000020, g⟩, (keyT 0 (St.env S 2))), (⟨1024000021, g⟩, (keyT 0 (St.env S 8))), (⟨1024000022, g⟩, (keyB 4 (St.heap S (keyT 0 (St.env S 8)))))]) (fun g S => []) ?_ ?_ ?_ ?_ ?_
          all_goals try simp -implicitDefEqProofs +decide only [go_sem, Nat.reduceAdd, Int.reduceToNat]
          all_goals first | done | trivial | omega | (simp [maps, go_sem]; done) | (simp [maps, go_sem] <;> omega)
        refine swp_reg rfl (fun K hK => ?_)
        simp -implicitDefEqProofs +decide only [go_sem, Nat.reduceAdd, Int.reduceToNat, hb56]
        refine hK _ ?_
        with_reducible repeat (first | refine nn ?_ | refine nb ?_ | refine nr ?_ | refine nc ?_ | refine ne ?_ | refine nq ?_ | refine nx rfl ?_)
        refine back_of h ?_
        refine ren_go (fun g S => [(⟨1024000015, g⟩, (keyT 0 (St.env S 1))), (⟨1024000016, g⟩, (keyT 0 (St.env S 2))), (⟨1024000017, g⟩, (keyT 0 (St.env S 8))), (⟨1024000018, g⟩, (keyB 4 (St.heap S (keyT 0 (St.env S 8)))))]) (fun g S => []) ?_ ?_ ?_ ?_ ?_
        all_goals try simp -implicitDefEqProofs +decide only [go_sem, Nat.reduceAdd, Int.reduceToNat, hb56]
        all_goals first | done | trivial | omega | (simp [maps, go_sem, hb56]; done) | (simp [maps, go_sem, hb56] <;> omega)
      · refine cond_f (by simp -implicitDefEqProofs +decide only [go_sem, hb56]) ?_
        refine swp_exit ?_
        with_reducible repeat (first | refine nn ?_ | refine nb ?_ | refine nr ?_ | refine nc ?_ | refine ne ?_ | refine nq ?_ | refine nx rfl ?_)
        obtain ⟨h, hs1⟩ := exit_of h hd1
        with_reducible repeat (first | refine nn ?_ | refine nb ?_ | refine nr ?_ | refine nc ?_ | refine ne ?_ | refine nq ?_ | refine nx rfl ?_)
        refine ⟨hs1, ?_⟩
        with_reducible repeat (first | refine nn ?_ | refine nb ?_ | refine nr ?_ | refine nc ?_ | refine ne ?_ | refine nq ?_ | refine nx rfl ?_)
        refine jump_of hj1 h ?_
        refine ren_go (fun g S => [(⟨1024000005, g⟩, (keyT 0 (St.env S 1))), (⟨1024000006, g⟩, (keyT 0 (St.env S 2))), (⟨1024000007, g⟩, (keyT 0 (St.env S 8))), (⟨1024000008, g⟩, (keyB 4 (St.heap S (keyT 0 (St.env S 8)))))]) (fun g S => []) ?_ ?_ ?_ ?_ ?_
        all_goals try simp -implicitDefEqProofs +decide only [go_sem, Nat.reduceAdd, Int.reduceToNat, hb56]
        all_goals first | done | trivial | omega | (simp [maps, go_sem, hb56]; done) | (simp [maps, go_sem, hb56] <;> omega)
end Go.Sh
end
section
namespace Go.Sh
open Go.Proofs
set_option linter.unusedVariables false
set_option linter.unusedSimpArgs false
set_option maxRecDepth 100000
set_option maxHeartbeats 4000000
noncomputable def hashindex_WriteBucket (a0 : api_Page) (a1 : hashindex_Bucket) : Option (api_Page × Int) :=
  (hashindex_isKind a0 2).bind fun v5 =>
  if (!v5) = true then
    some ((⟨0, 0, (⟨0, 0, 0, 0, 0, 0, 0⟩ : (A7 Int))⟩ : api_Page), 1)
  else
    (hashindex_Bucket_valid a1).bind fun v7 =>
    if (!v7) = true then
      some ((⟨0, 0, (⟨0, 0, 0, 0, 0, 0, 0⟩ : (A7 Int))⟩ : api_Page), 1)
    else
      (hashindex_Bucket_fill a1 a0).bind fun v9 =>
      some (v9, 0)
theorem hashindex_WriteBucket_ok (G : Glob) (hG0 : G.glob 0 = some [(.int .i64 0), (.int .i64 0)]) (a0 : api_Page) (a1 : hashindex_Bucket) (res : (api_Page × Int)) (h : hashindex_WriteBucket a0 a1 = some res) : Spec Tryd.prog G 23 [.agg [.p (.int .i64 a0.Line), .p (.int .u64 a0.Head), .p (.int .u64 a0.Data.a0), .p (.int .u64 a0.Data.a1), .p (.int .u64 a0.Data.a2), .p (.int .u64 a0.Data.a3), .p (.int .u64 a0.Data.a4), .p (.int .u64 a0.Data.a5), .p (.int .u64 a0.Data.a6)], .agg [.p (.int .i64 a1.Depth), .p (.int .u32 a1.Pattern), .p (.int .i64 a1.Next.Line), .p (.int .i64 a1.Next.Gen), .p (.rows (a1.Entries.map r_hashindex_Entry))]] (fun r ios => r = .tup [.agg [.p (.int .i64 res.1.Line), .p (.int .u64 res.1.Head), .p (.int .u64 res.1.Data.a0), .p (.int .u64 res.1.Data.a1), .p (.int .u64 res.1.Data.a2), .p (.int .u64 res.1.Data.a3), .p (.int .u64 res.1.Data.a4), .p (.int .u64 res.1.Data.a5), .p (.int .u64 res.1.Data.a6)], .cell (.p (.int .i64 res.2))] ∧ ios = []) := by
  rw [hashindex_WriteBucket] at h
  refine spec_of Tryd.mixed Tryd.func23 rfl rfl (by simp only [List.length]; decide +kernel) ?_
  refine swp_fresh (fun g => stL [(0, (.agg [(.p (.int .i64 a0.Line)), (.p (.int .u64 a0.Head)), (.p (.int .u64 a0.Data.a0)), (.p (.int .u64 a0.Data.a1)), (.p (.int .u64 a0.Data.a2)), (.p (.int .u64 a0.Data.a3)), (.p (.int .u64 a0.Data.a4)), (.p (.int .u64 a0.Data.a5)), (.p (.int .u64 a0.Data.a6))])), (1, (.agg [(.p (.int .i64 a1.Depth)), (.p (.int .u32 a1.Pattern)), (.p (.int .i64 a1.Next.Line)), (.p (.int .i64 a1.Next.Gen)), (.p (.rows (a1.Entries.map r_hashindex_Entry)))]))] [] (g + 1)) ?_ (fun g => ?_)
  · refine ren_go (fun g S => []) (fun g S => []) ?_ ?_ ?_ ?_ ?_
    all_goals try simp -implicitDefEqProofs +decide only [go_sem, Nat.reduceAdd, Int.reduceToNat]
    all_goals first | done | trivial | omega | (simp [maps, go_sem]; done) | (simp [maps, go_sem] <;> omega)
  refine seq_reg rfl (fun K hK => ?_)
  simp -implicitDefEqProofs +decide only [go_sem, Nat.reduceAdd, Int.reduceToNat]
  refine hK _ ?_
  refine swp_seq ?_
  refine seq_reg rfl (fun K hK => ?_)
  refine bind_of h (fun v5 hv5 h => ?_)
  simp -implicitDefEqProofs +decide only [go_sem, Nat.reduceAdd, Int.reduceToNat]
  refine call_go [0, 0] false (hashindex_isKind_ok ⟨G.glob, noCaps⟩ hG0 a0 2 _ hv5) (by simp -implicitDefEqProofs +decide only [go_sem, Nat.reduceAdd, Int.reduceToNat]; rfl) (by first | rfl | (simp [maps]; done)) ?_
  refine bsplit h (fun hb6 h => ?_) (fun hb6 h => ?_)
  · simp -implicitDefEqProofs +decide only [go_sem, Nat.reduceAdd, Int.reduceToNat, hb6]
    refine hK _ ?_
    refine cond_t (by simp -implicitDefEqProofs +decide only [go_sem, hb6]) ?_
    refine seq_reg rfl (fun K hK => ?_)
    simp -implicitDefEqProofs +decide only [go_sem, Nat.reduceAdd, Int.reduceToNat, hb6]
    refine hK _ ?_
    refine swp_ret ?_
    with_reducible repeat (first | refine nn ?_ | refine nb ?_ | refine nr ?_ | refine nc ?_ | refine ne ?_ | refine nq ?_ | refine nx rfl ?_)
    obtain rfl := some_eq h
    simp -implicitDefEqProofs +decide only [go_sem, Nat.reduceAdd, Int.reduceToNat]
    all_goals first | done | trivial | (simp [maps]; done)
  · refine bind_of h (fun v7 hv7 h => ?_)
    simp -implicitDefEqProofs +decide only [go_sem, Nat.reduceAdd, Int.reduceToNat, hb6]
    refine call_go [0] false (hashindex_Bucket_valid_ok ⟨G.glob, noCaps⟩ hG0 a1 _ hv7) (by simp -implicitDefEqProofs +decide only [go_sem, Nat.reduceAdd, Int.reduceToNat, hb6]; rfl) (by first | rfl | (simp [maps, hb6]; done)) ?_
    simp -implicitDefEqProofs +decide only [go_sem, Nat.reduceAdd, Int.reduceToNat, hb6]
    refine hK _ ?_
    refine bsplit h (fun hb8 h => ?_) (fun hb8 h => ?_)
    · refine cond_t (by simp -implicitDefEqProofs +decide only [go_sem, hb6, hb8]) ?_
      refine seq_reg rfl (fun K hK => ?_)
      simp -implicitDefEqProofs +decide only [go_sem, Nat.reduceAdd, Int.reduceToNat, hb6, hb8]
      refine hK _ ?_
      refine swp_ret ?_
      with_reducible repeat (first | refine nn ?_ | refine nb ?_ | refine nr ?_ | refine nc ?_ | refine ne ?_ | refine nq ?_ | refine nx rfl ?_)
      obtain rfl := some_eq h
      simp -implicitDefEqProofs +decide only [go_sem, Nat.reduceAdd, Int.reduceToNat]
      all_goals first | done | trivial | (simp [maps]; done)
    · refine cond_f (by simp -implicitDefEqProofs +decide only [go_sem, hb6, hb8]) ?_
      refine swp_skip ?_
      with_reducible repeat (first | refine nn ?_ | refine nb ?_ | refine nr ?_ | refine nc ?_ | refine ne ?_ | refine nq ?_ | refine nx rfl ?_)
      refine seq_reg rfl (fun K hK => ?_)
      refine bind_of h (fun v9 hv9 h => ?_)
      simp -implicitDefEqProofs +decide only [go_sem, Nat.reduceAdd, Int.reduceToNat, hb6, hb8]
      refine call_go [0, 0] false (hashindex_Bucket_fill_ok ⟨G.glob, noCaps⟩ hG0 a1 a0 _ hv9) (by simp -implicitDefEqProofs +decide only [go_sem, Nat.reduceAdd, Int.reduceToNat, hb6, hb8]; rfl) (by first | rfl | (simp [maps, hb6, hb8]; done)) ?_
      simp -implicitDefEqProofs +decide only [go_sem, Nat.reduceAdd, Int.reduceToNat, hb6, hb8]
      refine hK _ ?_
      refine swp_ret ?_
      with_reducible repeat (first | refine nn ?_ | refine nb ?_ | refine nr ?_ | refine nc ?_ | refine ne ?_ | refine nq ?_ | refine nx rfl ?_)
      obtain rfl := some_eq h
      simp -implicitDefEqProofs +decide only [go_sem, Nat.reduceAdd, Int.reduceToNat]
      all_goals first | done | trivial | (simp [maps]; done)
end Go.Sh
end
section
namespace Go.Sh
open Go.Proofs
set_option linter.unusedVariables false
set_option linter.unusedSimpArgs false
set_option maxRecDepth 100000
set_option maxHeartbeats 4000000
noncomputable def bodegalaw23_HashBuckets_J2 (a0 : api_Page) (x13 : Int) (x14 : Int) (x15 : pointer_Pointer) (a2 : Int) : (Int × List hashindex_Entry) → Option Bool
  | (x87, l88) =>
    (hashindex_ReadBucket (⟨a0.Line, a0.Head, (⟨x13, a0.Data.a1, a0.Data.a2, a0.Data.a3, a0.Data.a4, a0.Data.a5, a0.Data.a6⟩ : (A7 Int))⟩ : api_Page)).bind fun v89 =>
    (bodegaref23_ReadBucket (⟨a0.Line, a0.Head, (⟨x13, a0.Data.a1, a0.Data.a2, a0.Data.a3, a0.Data.a4, a0.Data.a5, a0.Data.a6⟩ : (A7 Int))⟩ : api_Page)).bind fun v90 =>
    (hashindex_WriteBucket (⟨a0.Line, a0.Head, (⟨x13, a0.Data.a1, a0.Data.a2, a0.Data.a3, a0.Data.a4, a0.Data.a5, a0.Data.a6⟩ : (A7 Int))⟩ : api_Page) (⟨x14, x87, x15, l88⟩ : hashindex_Bucket)).bind fun v91 =>
    (bodegalaw23_bucket (⟨x14, x87, x15, l88⟩ : hashindex_Bucket)).bind fun v92 =>
    (bodegaref23_WriteBucket (⟨a0.Line, a0.Head, (⟨x13, a0.Data.a1, a0.Data.a2, a0.Data.a3, a0.Data.a4, a0.Data.a5, a0.Data.a6⟩ : (A7 Int))⟩ : api_Page) v92).bind fun v93 =>
    (bodegalaw23_awake).bind fun v103 =>
    if (!v103) = true then
      some false
    else
      (bodegalaw23_bucket v89.1).bind fun v105 =>
      (bodegalaw23_sameBucket v105 v90.1).bind fun v106 =>
      if (!v106) = true then
        some false
      else
        if (v89.2 != v90.2) = true then
          some false
        else
          (bodegalaw23_same v91.1 v93.1).bind fun v109 =>
          if (!v109) = true then
            some false
          else
            if (v91.2 != v93.2) = true then
              some false
            else
              if (v91.2 != 0) = true then
                some true
              else
                (hashindex_ReadBucket v91.1).bind fun v114 =>
                if (v114.2 != 0) = true then
                  some false
                else
                  (bodegalaw23_bucket v114.1).bind fun v123 =>
                  (bodegalaw23_bucket (⟨x14, x87, x15, l88⟩ : hashindex_Bucket)).bind fun v124 =>
                  (bodegalaw23_sameBucket v123 v124).bind fun v125 =>
                  if (!v125) = true then
                    some false
                  else
                    if (v91.1.Line != a0.Line) = true then
                      some false
                    else
                      if (v91.1.Head != a0.Head) = true then
                        some false
                      else
                        (bodegahand_Pick (IntKind.i64.wrap (Int.tdiv a2 64)) 7).bind fun v129 =>
                        if 0 ≤ v129 ∧ v129 < 7 then
                          (bodegahand_Pick (IntKind.i64.wrap (Int.tdiv a2 512)) 64).bind fun v131 =>
                          if 0 ≤ v129 ∧ v129 < 7 then
                            (hashindex_ReadBucket (⟨v91.1.Line, v91.1.Head, (A7.set v91.1.Data v129 (bits .xor .u64 (A7.get v91.1.Data v129) (shlV .u64 1 (IntKind.u64.wrap v131))))⟩ : api_Page)).bind fun v133 =>
                            (bodegaref23_ReadBucket (⟨v91.1.Line, v91.1.Head, (A7.set v91.1.Data v129 (bits .xor .u64 (A7.get v91.1.Data v129) (shlV .u64 1 (IntKind.u64.wrap v131))))⟩ : api_Page)).bind fun v134 =>
                            (bodegalaw23_bucket v133.1).bind fun v135 =>
                            (bodegalaw23_sameBucket v135 v134.1).bind fun v136 =>
                            some (v136 && (v133.2 == v134.2))
                          else none
                        else none
noncomputable def bodegalaw23_HashBuckets_J3 (l187 : List hashindex_Entry) (x188 : Int) : (Int × hashindex_Entry) → Option ((Int × List hashindex_Entry × Int) ⊕ Bool)
  | (x201, x202) =>
    if (l187.length + 1) * 24 ≤ maxRows ∧ l187.length + 1 ≤ maxRows then
      some (.inl (x201, (l187 ++ ([x202] : List hashindex_Entry)), (IntKind.i64.wrap (x188 + 1))))
    else none
noncomputable def bodegalaw23_HashBuckets_L1 (a1 : hashindex_Bucket) (a2 : Int) (x14 : Int) (a0 : api_Page) (x13 : Int) (x15 : pointer_Pointer) : (Int × List hashindex_Entry × Int) → Option ((Int × List hashindex_Entry × Int) ⊕ Bool)
  | (x186, l187, x188) =>
    if (decide (x188 < (a1.Entries.length : Int))) = true then
      (idx a1.Entries x188).bind fun e193 =>
      (bodegahand_Pick (IntKind.i64.wrap (Int.tdiv a2 4)) 4).bind fun v207 =>
      if (decide (v207 > 0)) = true then
        (bodegalaw23_aim e193.To).bind fun v209 =>
        if (decide (x14 ≥ 0)) = true then
          if (decide (x14 < 20)) = true then
            (hashindex_Hash (IntKind.u32.wrap ((Int.tmod e193.Key 4) + (IntKind.u32.wrap ((IntKind.u32.wrap x188) * 3))))).bind fun v212 =>
            if ¬ (shlV .u32 1 (IntKind.u64.wrap x14)) = 0 then
              bodegalaw23_HashBuckets_J3 l187 x188 ((Int.tmod v212 (shlV .u32 1 (IntKind.u64.wrap x14))), (⟨(IntKind.u32.wrap ((Int.tmod e193.Key 4) + (IntKind.u32.wrap ((IntKind.u32.wrap x188) * 3)))), v209⟩ : hashindex_Entry))
            else none
          else
            bodegalaw23_HashBuckets_J3 l187 x188 (x186, (⟨(IntKind.u32.wrap ((Int.tmod e193.Key 4) + (IntKind.u32.wrap ((IntKind.u32.wrap x188) * 3)))), v209⟩ : hashindex_Entry))
        else
          bodegalaw23_HashBuckets_J3 l187 x188 (x186, (⟨(IntKind.u32.wrap ((Int.tmod e193.Key 4) + (IntKind.u32.wrap ((IntKind.u32.wrap x188) * 3)))), v209⟩ : hashindex_Entry))
      else
        bodegalaw23_HashBuckets_J3 l187 x188 (x186, e193)
    else
      Option.map Sum.inr (
        bodegalaw23_HashBuckets_J2 a0 x13 x14 x15 a2 (x186, l187))
noncomputable def bodegalaw23_HashBuckets_J1 (a1 : hashindex_Bucket) (a2 : Int) (a0 : api_Page) : (Int × Int × pointer_Pointer) → Option Bool
  | (x13, x14, x15) =>
    iter (bodegalaw23_HashBuckets_L1 a1 a2 x14 a0 x13 x15) (a1.Pattern, ([] : List hashindex_Entry), 0)
noncomputable def bodegalaw23_HashBuckets_J4 (a1 : hashindex_Bucket) (a2 : Int) (a0 : api_Page) (x232 : Int) : Option Bool :=
    (bodegalaw23_aim a1.Next).bind fun v233 =>
    (bodegahand_Pick (IntKind.i64.wrap (Int.tdiv a2 16)) 9).bind fun v234 =>
    bodegalaw23_HashBuckets_J1 a1 a2 a0 ((IntKind.u64.wrap ((IntKind.u64.wrap (2 + (IntKind.u64.wrap (Int.tdiv (Int.tmod a0.Data.a0 5) 4)))) + (IntKind.u64.wrap ((IntKind.u64.wrap v234) * 256)))), x232, v233)
noncomputable def bodegalaw23_HashBuckets (a0 : api_Page) (a1 : hashindex_Bucket) (a2 : Int) : Option Bool :=
  if (decide ((a1.Entries.length : Int) > 9)) = true then
    some true
  else
    (bodegahand_Pick a2 4).bind fun v227 =>
    if (decide (v227 > 0)) = true then
      (bodegahand_Pick a1.Depth 19).bind fun v229 =>
      if (decide ((IntKind.i64.wrap (v229 - 1)) > 3)) = true then
        if ((Int.tmod a2 3) == 0) = true then
          bodegalaw23_HashBuckets_J4 a1 a2 a0 (Int.tmod (IntKind.i64.wrap (v229 - 1)) 3)
        else
          bodegalaw23_HashBuckets_J4 a1 a2 a0 (IntKind.i64.wrap (v229 - 1))
      else
        bodegalaw23_HashBuckets_J4 a1 a2 a0 (IntKind.i64.wrap (v229 - 1))
    else
      bodegalaw23_HashBuckets_J1 a1 a2 a0 (a0.Data.a0, a1.Depth, a1.Next)
theorem bodegalaw23_HashBuckets_ok (G : Glob) (hG0 : G.glob 0 = some [(.int .i64 0), (.int .i64 0)]) (a0 : api_Page) (a1 : hashindex_Bucket) (a2 : Int) (res : Bool) (h : bodegalaw23_HashBuckets a0 a1 a2 = some res) : Spec Tryd.prog G 5 [.agg [.p (.int .i64 a0.Line), .p (.int .u64 a0.Head), .p (.int .u64 a0.Data.a0), .p (.int .u64 a0.Data.a1), .p (.int .u64 a0.Data.a2), .p (.int .u64 a0.Data.a3), .p (.int .u64 a0.Data.a4), .p (.int .u64 a0.Data.a5), .p (.int .u64 a0.Data.a6)], .agg [.p (.int .i64 a1.Depth), .p (.int .u32 a1.Pattern), .p (.int .i64 a1.Next.Line), .p (.int .i64 a1.Next.Gen), .p (.rows (a1.Entries.map r_hashindex_Entry))], .cell (.p (.int .i64 a2))] (fun r ios => r = .cell (.p (.bool res)) ∧ ios = []) := by
  rw [bodegalaw23_HashBuckets] at h
  refine spec_of Tryd.mixed Tryd.func5 rfl rfl (by simp only [List.length]; decide +kernel) ?_
  refine swp_fresh (fun g => stL [(0, (.agg [(.p (.int .i64 a0.Line)), (.p (.int .u64 a0.Head)), (.p (.int .u64 a0.Data.a0)), (.p (.int .u64 a0.Data.a1)), (.p (.int .u64 a0.Data.a2)), (.p (.int .u64 a0.Data.a3)), (.p (.int .u64 a0.Data.a4)), (.p (.int .u64 a0.Data.a5)), (.p (.int .u64 a0.Data.a6))])), (1, (.agg [(.p (.int .i64 a1.Depth)), (.p (.int .u32 a1.Pattern)), (.p (.int .i64 a1.Next.Line)), (.p (.int .i64 a1.Next.Gen)), (.p (.rows (a1.Entries.map r_hashindex_Entry)))])), (2, (.c (.p (.int .i64 a2))))] [] (g + 1)) ?_ (fun g => ?_)
  · refine ren_go (fun g S => []) (fun g S => []) ?_ ?_ ?_ ?_ ?_
    all_goals try simp -implicitDefEqProofs +decide only [go_sem, Nat.reduceAdd, Int.reduceToNat]
    all_goals first | done | trivial | omega | (simp [maps, go_sem]; done) | (simp [maps, go_sem] <;> omega)
  refine seq_reg rfl (fun K hK => ?_)
  simp -implicitDefEqProofs +decide only [go_sem, Nat.reduceAdd, Int.reduceToNat]
  refine hK _ ?_
  refine swp_seq ?_
  refine seq_reg rfl (fun K hK => ?_)
  simp -implicitDefEqProofs +decide only [go_sem, Nat.reduceAdd, Int.reduceToNat]
  refine hK _ ?_
  refine bsplit h (fun hb2 h => ?_) (fun hb2 h => ?_)
  · refine cond_t (by simp -implicitDefEqProofs +decide only [go_sem, hb2]) ?_
    refine seq_reg rfl (fun K hK => ?_)
    simp -implicitDefEqProofs +decide only [go_sem, Nat.reduceAdd, Int.reduceToNat, hb2]
    refine hK _ ?_
    refine swp_ret ?_
    with_reducible repeat (first | refine nn ?_ | refine nb ?_ | refine nr ?_ | refine nc ?_ | refine ne ?_ | refine nq ?_ | refine nx rfl ?_)
    obtain rfl := some_eq h
    simp -implicitDefEqProofs +decide only [go_sem, Nat.reduceAdd, Int.reduceToNat]
    all_goals first | done | trivial | (simp [maps]; done)
  · refine cond_f (by simp -implicitDefEqProofs +decide only [go_sem, hb2]) ?_
    refine swp_skip ?_
    with_reducible repeat (first | refine nn ?_ | refine nb ?_ | refine nr ?_ | refine nc ?_ | refine ne ?_ | refine nq ?_ | refine nx rfl ?_)
    refine seq_reg rfl (fun K hK => ?_)
    simp -implicitDefEqProofs +decide only [go_sem, Nat.reduceAdd, Int.reduceToNat, hb2]
    refine hK _ ?_
    refine cut1 (Joins (bodegalaw23_HashBuckets_J1 a1 a2 a0) (fun g x => match x with | (x13, x14, x15) => stL [(2, (.c (.p (.int .i64 a2)))), (3, (.c (.ptr ⟨1024000001, g⟩ 0 0))), (4, (.c (.ptr ⟨1024000002, g⟩ 0 0))), (7, (.c (.ptr ⟨1024000003, g⟩ 0 0)))] [(⟨1024000001, g⟩, .box true [(.p (.int .i64 a0.Line)), (.p (.int .u64 a0.Head)), (.p (.int .u64 x13)), (.p (.int .u64 a0.Data.a1)), (.p (.int .u64 a0.Data.a2)), (.p (.int .u64 a0.Data.a3)), (.p (.int .u64 a0.Data.a4)), (.p (.int .u64 a0.Data.a5)), (.p (.int .u64 a0.Data.a6))]), (⟨1024000002, g⟩, .box true [(.p (.int .i64 a1.Depth)), (.p (.int .u32 a1.Pattern)), (.p (.int .i64 a1.Next.Line)), (.p (.int .i64 a1.Next.Gen)), (.p (.rows (a1.Entries.map r_hashindex_Entry)))]), (⟨1024000003, g⟩, .box true [(.p (.int .i64 x14)), (.p (.int .u32 a1.Pattern)), (.p (.int .i64 x15.Line)), (.p (.int .i64 x15.Gen)), .nilS])] (g + 1)) res) ?_ (fun hj1 => ?_)
    · refine join_of ?_
      rintro g ⟨x13, x14, x15⟩ h
      rw [bodegalaw23_HashBuckets_J1] at h
      try dsimp only
      refine cut1 (Joins (bodegalaw23_HashBuckets_J2 a0 x13 x14 x15 a2) (fun g x => match x with | (x87, l88) => stL [(2, (.c (.p (.int .i64 a2)))), (3, (.c (.ptr ⟨1024000004, g⟩ 0 0))), (7, (.c (.ptr ⟨1024000005, g⟩ 0 0)))] [(⟨1024000004, g⟩, .box true [(.p (.int .i64 a0.Line)), (.p (.int .u64 a0.Head)), (.p (.int .u64 x13)), (.p (.int .u64 a0.Data.a1)), (.p (.int .u64 a0.Data.a2)), (.p (.int .u64 a0.Data.a3)), (.p (.int .u64 a0.Data.a4)), (.p (.int .u64 a0.Data.a5)), (.p (.int .u64 a0.Data.a6))]), (⟨1024000005, g⟩, .box true [(.p (.int .i64 x14)), (.p (.int .u32 x87)), (.p (.int .i64 x15.Line)), (.p (.int .i64 x15.Gen)), (.ref ⟨1024000006, g⟩ 0 l88.length)]), (⟨1024000006, g⟩, .arr true 3 (l88.map r_hashindex_Entry))] (g + 1)) res) ?_ (fun hj2 => ?_)
      · refine join_of ?_
        rintro g ⟨x87, l88⟩ h
        rw [bodegalaw23_HashBuckets_J2] at h
        try dsimp only
        refine seq_reg rfl (fun K hK => ?_)
        refine bind_of h (fun v89 hv89 h => ?_)
        simp -implicitDefEqProofs +decide only [go_sem, Nat.reduceAdd, Int.reduceToNat, hb2]
        refine call_go [0] false (hashindex_ReadBucket_ok ⟨G.glob, noCaps⟩ hG0 (⟨a0.Line, a0.Head, (⟨x13, a0.Data.a1, a0.Data.a2, a0.Data.a3, a0.Data.a4, a0.Data.a5, a0.Data.a6⟩ : (A7 Int))⟩ : api_Page) _ hv89) (by simp -implicitDefEqProofs +decide only [go_sem, Nat.reduceAdd, Int.reduceToNat, hb2]; rfl) (by first | rfl | (simp [maps, hb2]; done)) ?_
        simp -implicitDefEqProofs +decide only [go_sem, Nat.reduceAdd, Int.reduceToNat, hb2]
        refine hK _ ?_
        refine seq_reg rfl (fun K hK => ?_)
        refine bind_of h (fun v90 hv90 h => ?_)
        simp -implicitDefEqProofs +decide only [go_sem, Nat.reduceAdd, Int.reduceToNat, hb2]
        refine call_go [0] false (bodegaref23_ReadBucket_ok ⟨G.glob, noCaps⟩ hG0 (⟨a0.Line, a0.Head, (⟨x13, a0.Data.a1, a0.Data.a2, a0.Data.a3, a0.Data.a4, a0.Data.a5, a0.Data.a6⟩ : (A7 Int))⟩ : api_Page) _ hv90) (by simp -implicitDefEqProofs +decide only [go_sem, Nat.reduceAdd, Int.reduceToNat, hb2]; rfl) (by first | rfl | (simp [maps, hb2]; done)) ?_
        simp -implicitDefEqProofs +decide only [go_sem, Nat.reduceAdd, Int.reduceToNat, hb2]
        refine hK _ ?_
        refine seq_reg rfl (fun K hK => ?_)
        refine bind_of h (fun v91 hv91 h => ?_)
        simp -implicitDefEqProofs +decide only [go_sem, Nat.reduceAdd, Int.reduceToNat, hb2]
        refine call_go [0, 0] false (hashindex_WriteBucket_ok ⟨G.glob, noCaps⟩ hG0 (⟨a0.Line, a0.Head, (⟨x13, a0.Data.a1, a0.Data.a2, a0.Data.a3, a0.Data.a4, a0.Data.a5, a0.Data.a6⟩ : (A7 Int))⟩ : api_Page) (⟨x14, x87, x15, l88⟩ : hashindex_Bucket) _ hv91) (by simp -implicitDefEqProofs +decide only [go_sem, Nat.reduceAdd, Int.reduceToNat, hb2]; rfl) (by first | rfl | (simp [maps, hb2]; done)) ?_
        simp -implicitDefEqProofs +decide only [go_sem, Nat.reduceAdd, Int.reduceToNat, hb2]
        refine hK _ ?_
        refine seq_drw rfl (fun K hK => ?_)
        refine bind_of h (fun v92 hv92 h => ?_)
        simp -implicitDefEqProofs +decide only [go_sem, Nat.reduceAdd, Int.reduceToNat, hb2]
        refine call_go [0] false (bodegalaw23_bucket_ok ⟨G.glob, noCaps⟩ hG0 (⟨x14, x87, x15, l88⟩ : hashindex_Bucket) _ hv92) (by simp -implicitDefEqProofs +decide only [go_sem, Nat.reduceAdd, Int.reduceToNat, hb2]; rfl) (by first | rfl | (simp [maps, hb2]; done)) ?_
        refine bind_of h (fun v93 hv93 h => ?_)
        simp -implicitDefEqProofs +decide only [go_sem, Nat.reduceAdd, Int.reduceToNat, hb2]
        refine call_go [0, 0] false (bodegaref23_WriteBucket_ok ⟨G.glob, noCaps⟩ hG0 (⟨a0.Line, a0.Head, (⟨x13, a0.Data.a1, a0.Data.a2, a0.Data.a3, a0.Data.a4, a0.Data.a5, a0.Data.a6⟩ : (A7 Int))⟩ : api_Page) v92 _ hv93) (by simp -implicitDefEqProofs +decide only [go_sem, Nat.reduceAdd, Int.reduceToNat, hb2]; rfl) (by first | rfl | (simp [maps, hb2]; done)) ?_
        simp -implicitDefEqProofs +decide only [go_sem, Nat.reduceAdd, Int.reduceToNat, hb2]
        refine draw_go (by kernel_rfl) ?_
        refine hK _ ?_
        refine swp_seq ?_
        refine seq_drw rfl (fun K hK => ?_)
        refine bind_of h (fun v103 hv103 h => ?_)
        simp -implicitDefEqProofs +decide only [go_sem, Nat.reduceAdd, Int.reduceToNat, hb2]
        refine call_go [] false (bodegalaw23_awake_ok ⟨G.glob, noCaps⟩ hG0  _ hv103) (by simp -implicitDefEqProofs +decide only [go_sem, Nat.reduceAdd, Int.reduceToNat, hb2]; rfl) (by first | rfl | (simp [maps, hb2]; done)) ?_
        refine bsplit h (fun hb104 h => ?_) (fun hb104 h => ?_)
        · simp -implicitDefEqProofs +decide only [go_sem, Nat.reduceAdd, Int.reduceToNat, hb2, hb104]
          refine draw_go (by kernel_rfl) ?_
          refine hK _ ?_
          refine cond_t (by simp -implicitDefEqProofs +decide only [go_sem, hb2, hb104]) ?_
          refine seq_reg rfl (fun K hK => ?_)
          simp -implicitDefEqProofs +decide only [go_sem, Nat.reduceAdd, Int.reduceToNat, hb2, hb104]
          refine hK _ ?_
          refine swp_ret ?_
          with_reducible repeat (first | refine nn ?_ | refine nb ?_ | refine nr ?_ | refine nc ?_ | refine ne ?_ | refine nq ?_ | refine nx rfl ?_)
          obtain rfl := some_eq h
          simp -implicitDefEqProofs +decide only [go_sem, Nat.reduceAdd, Int.reduceToNat]
          all_goals first | done | trivial | (simp [maps]; done)
        · refine bind_of h (fun v105 hv105 h => ?_)
          simp -implicitDefEqProofs +decide only [go_sem, Nat.reduceAdd, Int.reduceToNat, hb2, hb104]
          refine call_go [0] false (bodegalaw23_bucket_ok ⟨G.glob, noCaps⟩ hG0 v89.1 _ hv105) (by simp -implicitDefEqProofs +decide only [go_sem, Nat.reduceAdd, Int.reduceToNat, hb2, hb104]; rfl) (by first | rfl | (simp [maps, hb2, hb104]; done)) ?_
          refine bind_of h (fun v106 hv106 h => ?_)
          simp -implicitDefEqProofs +decide only [go_sem, Nat.reduceAdd, Int.reduceToNat, hb2, hb104]
          refine call_go [0, 0] false (bodegalaw23_sameBucket_ok ⟨G.glob, noCaps⟩ hG0 v105 v90.1 _ hv106) (by simp -implicitDefEqProofs +decide only [go_sem, Nat.reduceAdd, Int.reduceToNat, hb2, hb104]; rfl) (by first | rfl | (simp [maps, hb2, hb104]; done)) ?_
          refine bsplit h (fun hb107 h => ?_) (fun hb107 h => ?_)
          · simp -implicitDefEqProofs +decide only [go_sem, Nat.reduceAdd, Int.reduceToNat, hb2, hb104, hb107]
            refine draw_go (by kernel_rfl) ?_
            refine hK _ ?_
            refine cond_t (by simp -implicitDefEqProofs +decide only [go_sem, hb2, hb104, hb107]) ?_
            refine seq_reg rfl (fun K hK => ?_)
            simp -implicitDefEqProofs +decide only [go_sem, Nat.reduceAdd, Int.reduceToNat, hb2, hb104, hb107]
            refine hK _ ?_
            refine swp_ret ?_
            with_reducible repeat (first | refine nn ?_ | refine nb ?_ | refine nr ?_ | refine nc ?_ | refine ne ?_ | refine nq ?_ | refine nx rfl ?_)
            obtain rfl := some_eq h
            simp -implicitDefEqProofs +decide only [go_sem, Nat.reduceAdd, Int.reduceToNat]
            all_goals first | done | trivial | (simp [maps]; done)
          · refine bsplit h (fun hb108 h => ?_) (fun hb108 h => ?_)
            · simp -implicitDefEqProofs +decide only [go_sem, Nat.reduceAdd, Int.reduceToNat, hb2, hb104, hb107, hb108]
              refine draw_go (by kernel_rfl) ?_
              refine hK _ ?_
              refine cond_t (by simp -implicitDefEqProofs +decide only [go_sem, hb2, hb104, hb107, hb108]) ?_
              refine seq_reg rfl (fun K hK => ?_)
              simp -implicitDefEqProofs +decide only [go_sem, Nat.reduceAdd, Int.reduceToNat, hb2, hb104, hb107, hb108]
              refine hK _ ?_
              refine swp_ret ?_
              with_reducible repeat (first | refine nn ?_ | refine nb ?_ | refine nr ?_ | refine nc ?_ | refine ne ?_ | refine nq ?_ | refine nx rfl ?_)
              obtain rfl := some_eq h
              simp -implicitDefEqProofs +decide only [go_sem, Nat.reduceAdd, Int.reduceToNat]
              all_goals first | done | trivial | (simp [maps]; done)
            · refine bind_of h (fun v109 hv109 h => ?_)
              simp -implicitDefEqProofs +decide only [go_sem, Nat.reduceAdd, Int.reduceToNat, hb2, hb104, hb107, hb108]
              refine call_go [0, 0] false (bodegalaw23_same_ok ⟨G.glob, noCaps⟩ hG0 v91.1 v93.1 _ hv109) (by simp -implicitDefEqProofs +decide only [go_sem, Nat.reduceAdd, Int.reduceToNat, hb2, hb104, hb107, hb108]; rfl) (by first | rfl | (simp [maps, hb2, hb104, hb107, hb108]; done)) ?_
              refine bsplit h (fun hb110 h => ?_) (fun hb110 h => ?_)
              · simp -implicitDefEqProofs +decide only [go_sem, Nat.reduceAdd, Int.reduceToNat, hb2, hb104, hb107, hb108, hb110]
                refine draw_go (by kernel_rfl) ?_
                refine hK _ ?_
                refine cond_t (by simp -implicitDefEqProofs +decide only [go_sem, hb2, hb104, hb107, hb108, hb110]) ?_
                refine seq_reg rfl (fun K hK => ?_)
                simp -implicitDefEqProofs +decide only [go_sem, Nat.reduceAdd, Int.reduceToNat, hb2, hb104, hb107, hb108, hb110]
                refine hK _ ?_
                refine swp_ret ?_
                with_reducible repeat (first | refine nn ?_ | refine nb ?_ | refine nr ?_ | refine nc ?_ | refine ne ?_ | refine nq ?_ | refine nx rfl ?_)
                obtain rfl := some_eq h
                simp -implicitDefEqProofs +decide only [go_sem, Nat.reduceAdd, Int.reduceToNat]
                all_goals first | done | trivial | (simp [maps]; done)
              · simp -implicitDefEqProofs +decide only [go_sem, Nat.reduceAdd, Int.reduceToNat, hb2, hb104, hb107, hb108, hb110]
                refine draw_go (by kernel_rfl) ?_
                refine hK _ ?_
                refine bsplit h (fun hb111 h => ?_) (fun hb111 h => ?_)
                · refine cond_t (by simp -implicitDefEqProofs +decide only [go_sem, hb2, hb104, hb107, hb108, hb110, hb111]) ?_
                  refine seq_reg rfl (fun K hK => ?_)
                  simp -implicitDefEqProofs +decide only [go_sem, Nat.reduceAdd, Int.reduceToNat, hb2, hb104, hb107, hb108, hb110, hb111]
                  refine hK _ ?_
                  refine swp_ret ?_
                  with_reducible repeat (first | refine nn ?_ | refine nb ?_ | refine nr ?_ | refine nc ?_ | refine ne ?_ | refine nq ?_ | refine nx rfl ?_)
                  obtain rfl := some_eq h
                  simp -implicitDefEqProofs +decide only [go_sem, Nat.reduceAdd, Int.reduceToNat]
                  all_goals first | done | trivial | (simp [maps]; done)
                · refine cond_f (by simp -implicitDefEqProofs +decide only [go_sem, hb2, hb104, hb107, hb108, hb110, hb111]) ?_
                  refine swp_skip ?_
                  with_reducible repeat (first | refine nn ?_ | refine nb ?_ | refine nr ?_ | refine nc ?_ | refine ne ?_ | refine nq ?_ | refine nx rfl ?_)
                  refine swp_seq ?_
                  refine seq_reg rfl (fun K hK => ?_)
                  simp -implicitDefEqProofs +decide only [go_sem, Nat.reduceAdd, Int.reduceToNat, hb2, hb104, hb107, hb108, hb110, hb111]
                  refine hK _ ?_
                  refine bsplit h (fun hb113 h => ?_) (fun hb113 h => ?_)
                  · refine cond_t (by simp -implicitDefEqProofs +decide only [go_sem, hb2, hb104, hb107, hb108, hb110, hb111, hb113]) ?_
                    refine seq_reg rfl (fun K hK => ?_)
                    simp -implicitDefEqProofs +decide only [go_sem, Nat.reduceAdd, Int.reduceToNat, hb2, hb104, hb107, hb108, hb110, hb111, hb113]
                    refine hK _ ?_
                    refine swp_ret ?_
                    with_reducible repeat (first | refine nn ?_ | refine nb ?_ | refine nr ?_ | refine nc ?_ | refine ne ?_ | refine nq ?_ | refine nx rfl ?_)
                    obtain rfl := some_eq h
                    simp -implicitDefEqProofs +decide only [go_sem, Nat.reduceAdd, Int.reduceToNat]
                    all_goals first | done | trivial | (simp [maps]; done)
                  · refine cond_f (by simp -implicitDefEqProofs +decide only [go_sem, hb2, hb104, hb107, hb108, hb110, hb111, hb113]) ?_
                    refine swp_skip ?_
                    with_reducible repeat (first | refine nn ?_ | refine nb ?_ | refine nr ?_ | refine nc ?_ | refine ne ?_ | refine nq ?_ | refine nx rfl ?_)
                    refine seq_reg rfl (fun K hK => ?_)
                    refine bind_of h (fun v114 hv114 h => ?_)
                    simp -implicitDefEqProofs +decide only [go_sem, Nat.reduceAdd, Int.reduceToNat, hb2, hb104, hb107, hb108, hb110, hb111, hb113]
                    refine call_go [0] false (hashindex_ReadBucket_ok ⟨G.glob, noCaps⟩ hG0 v91.1 _ hv114) (by simp -implicitDefEqProofs +decide only [go_sem, Nat.reduceAdd, Int.reduceToNat, hb2, hb104, hb107, hb108, hb110, hb111, hb113]; rfl) (by first | rfl | (simp [maps, hb2, hb104, hb107, hb108, hb110, hb111, hb113]; done)) ?_
                    simp -implicitDefEqProofs +decide only [go_sem, Nat.reduceAdd, Int.reduceToNat, hb2, hb104, hb107, hb108, hb110, hb111, hb113]
                    refine hK _ ?_
                    refine swp_seq ?_
                    refine seq_drw rfl (fun K hK => ?_)
                    refine bsplit h (fun hb122 h => ?_) (fun hb122 h => ?_)
                    · simp -implicitDefEqProofs +decide only [go_sem, Nat.reduceAdd, Int.reduceToNat, hb2, hb104, hb107, hb108, hb110, hb111, hb113, hb122]
                      refine draw_go (by kernel_rfl) ?_
                      refine hK _ ?_
                      refine cond_t (by simp -implicitDefEqProofs +decide only [go_sem, hb2, hb104, hb107, hb108, hb110, hb111, hb113, hb122]) ?_
                      refine seq_reg rfl (fun K hK => ?_)
                      simp -implicitDefEqProofs +decide only [go_sem, Nat.reduceAdd, Int.reduceToNat, hb2, hb104, hb107, hb108, hb110, hb111, hb113, hb122]
                      refine hK _ ?_
                      refine swp_ret ?_
                      with_reducible repeat (first | refine nn ?_ | refine nb ?_ | refine nr ?_ | refine nc ?_ | refine ne ?_ | refine nq ?_ | refine nx rfl ?_)
                      obtain rfl := some_eq h
                      simp -implicitDefEqProofs +decide only [go_sem, Nat.reduceAdd, Int.reduceToNat]
                      all_goals first | done | trivial | (simp [maps]; done)
                    · refine bind_of h (fun v123 hv123 h => ?_)
                      simp -implicitDefEqProofs +decide only [go_sem, Nat.reduceAdd, Int.reduceToNat, hb2, hb104, hb107, hb108, hb110, hb111, hb113, hb122]
                      refine call_go [0] false (bodegalaw23_bucket_ok ⟨G.glob, noCaps⟩ hG0 v114.1 _ hv123) (by simp -implicitDefEqProofs +decide only [go_sem, Nat.reduceAdd, Int.reduceToNat, hb2, hb104, hb107, hb108, hb110, hb111, hb113, hb122]; rfl) (by first | rfl | (simp [maps, hb2, hb104, hb107, hb108, hb110, hb111, hb113, hb122]; done)) ?_
                      refine bind_of h (fun v124 hv124 h => ?_)
                      simp -implicitDefEqProofs +decide only [go_sem, Nat.reduceAdd, Int.reduceToNat, hb2, hb104, hb107, hb108, hb110, hb111, hb113, hb122]
                      refine call_go [0] false (bodegalaw23_bucket_ok ⟨G.glob, noCaps⟩ hG0 (⟨x14, x87, x15, l88⟩ : hashindex_Bucket) _ hv124) (by simp -implicitDefEqProofs +decide only [go_sem, Nat.reduceAdd, Int.reduceToNat, hb2, hb104, hb107, hb108, hb110, hb111, hb113, hb122]; rfl) (by first | rfl | (simp [maps, hb2, hb104, hb107, hb108, hb110, hb111, hb113, hb122]; done)) ?_
                      refine bind_of h (fun v125 hv125 h => ?_)
                      simp -implicitDefEqProofs +decide only [go_sem, Nat.reduceAdd, Int.reduceToNat, hb2, hb104, hb107, hb108, hb110, hb111, hb113, hb122]
                      refine call_go [0, 0] false (bodegalaw23_sameBucket_ok ⟨G.glob, noCaps⟩ hG0 v123 v124 _ hv125) (by simp -implicitDefEqProofs +decide only [go_sem, Nat.reduceAdd, Int.reduceToNat, hb2, hb104, hb107, hb108, hb110, hb111, hb113, hb122]; rfl) (by first | rfl | (simp [maps, hb2, hb104, hb107, hb108, hb110, hb111, hb113, hb122]; done)) ?_
                      refine bsplit h (fun hb126 h => ?_) (fun hb126 h => ?_)
                      · simp -implicitDefEqProofs +decide only [go_sem, Nat.reduceAdd, Int.reduceToNat, hb2, hb104, hb107, hb108, hb110, hb111, hb113, hb122, hb126]
                        refine draw_go (by kernel_rfl) ?_
                        refine hK _ ?_
                        refine cond_t (by simp -implicitDefEqProofs +decide only [go_sem, hb2, hb104, hb107, hb108, hb110, hb111, hb113, hb122, hb126]) ?_
                        refine seq_reg rfl (fun K hK => ?_)
                        simp -implicitDefEqProofs +decide only [go_sem, Nat.reduceAdd, Int.reduceToNat, hb2, hb104, hb107, hb108, hb110, hb111, hb113, hb122, hb126]
                        refine hK _ ?_
                        refine swp_ret ?_
                        with_reducible repeat (first | refine nn ?_ | refine nb ?_ | refine nr ?_ | refine nc ?_ | refine ne ?_ | refine nq ?_ | refine nx rfl ?_)
                        obtain rfl := some_eq h
                        simp -implicitDefEqProofs +decide only [go_sem, Nat.reduceAdd, Int.reduceToNat]
                        all_goals first | done | trivial | (simp [maps]; done)
                      · refine bsplit h (fun hb127 h => ?_) (fun hb127 h => ?_)
                        · simp -implicitDefEqProofs +decide only [go_sem, Nat.reduceAdd, Int.reduceToNat, hb2, hb104, hb107, hb108, hb110, hb111, hb113, hb122, hb126, hb127]
                          refine draw_go (by kernel_rfl) ?_
                          refine hK _ ?_
                          refine cond_t (by simp -implicitDefEqProofs +decide only [go_sem, hb2, hb104, hb107, hb108, hb110, hb111, hb113, hb122, hb126, hb127]) ?_
                          refine seq_reg rfl (fun K hK => ?_)
                          simp -implicitDefEqProofs +decide only [go_sem, Nat.reduceAdd, Int.reduceToNat, hb2, hb104, hb107, hb108, hb110, hb111, hb113, hb122, hb126, hb127]
                          refine hK _ ?_
                          refine swp_ret ?_
                          with_reducible repeat (first | refine nn ?_ | refine nb ?_ | refine nr ?_ | refine nc ?_ | refine ne ?_ | refine nq ?_ | refine nx rfl ?_)
                          obtain rfl := some_eq h
                          simp -implicitDefEqProofs +decide only [go_sem, Nat.reduceAdd, Int.reduceToNat]
                          all_goals first | done | trivial | (simp [maps]; done)
                        · simp -implicitDefEqProofs +decide only [go_sem, Nat.reduceAdd, Int.reduceToNat, hb2, hb104, hb107, hb108, hb110, hb111, hb113, hb122, hb126, hb127]
                          refine draw_go (by kernel_rfl) ?_
                          refine hK _ ?_
                          refine bsplit h (fun hb128 h => ?_) (fun hb128 h => ?_)
                          · refine cond_t (by simp -implicitDefEqProofs +decide only [go_sem, hb2, hb104, hb107, hb108, hb110, hb111, hb113, hb122, hb126, hb127, hb128]) ?_
                            refine seq_reg rfl (fun K hK => ?_)
                            simp -implicitDefEqProofs +decide only [go_sem, Nat.reduceAdd, Int.reduceToNat, hb2, hb104, hb107, hb108, hb110, hb111, hb113, hb122, hb126, hb127, hb128]
                            refine hK _ ?_
                            refine swp_ret ?_
                            with_reducible repeat (first | refine nn ?_ | refine nb ?_ | refine nr ?_ | refine nc ?_ | refine ne ?_ | refine nq ?_ | refine nx rfl ?_)
                            obtain rfl := some_eq h
                            simp -implicitDefEqProofs +decide only [go_sem, Nat.reduceAdd, Int.reduceToNat]
                            all_goals first | done | trivial | (simp [maps]; done)
                          · refine cond_f (by simp -implicitDefEqProofs +decide only [go_sem, hb2, hb104, hb107, hb108, hb110, hb111, hb113, hb122, hb126, hb127, hb128]) ?_
                            refine swp_skip ?_
                            with_reducible repeat (first | refine nn ?_ | refine nb ?_ | refine nr ?_ | refine nc ?_ | refine ne ?_ | refine nq ?_ | refine nx rfl ?_)
                            refine seq_drw rfl (fun K hK => ?_)
                            refine bind_of h (fun v129 hv129 h => ?_)
                            simp -implicitDefEqProofs +decide only [go_sem, Nat.reduceAdd, Int.reduceToNat, hb2, hb104, hb107, hb108, hb110, hb111, hb113, hb122, hb126, hb127, hb128]
                            refine call_go [0, 0] false (bodegahand_Pick_ok ⟨G.glob, noCaps⟩ hG0 (IntKind.i64.wrap (Int.tdiv a2 64)) 7 _ hv129) (by simp -implicitDefEqProofs +decide only [go_sem, Nat.reduceAdd, Int.reduceToNat, hb2, hb104, hb107, hb108, hb110, hb111, hb113, hb122, hb126, hb127, hb128]; rfl) (by first | rfl | (simp [maps, hb2, hb104, hb107, hb108, hb110, hb111, hb113, hb122, hb126, hb127, hb128]; done)) ?_
                            refine psplit h (fun hp130 h => ?_)
                            simp -implicitDefEqProofs +decide only [go_sem, Nat.reduceAdd, Int.reduceToNat, hp130, hb2, hb104, hb107, hb108, hb110, hb111, hb113, hb122, hb126, hb127, hb128]
                            first | refine opt_get (x := (.p (.int .u64 (A7.get v91.1.Data v129)))) (by rcases cases7 hp130.1 hp130.2 with hc | hc | hc | hc | hc | hc | hc <;> simp [hc, A7.get]) ?_ | refine opt_get' (x := (.p (.int .u64 (A7.get v91.1.Data v129)))) (by rcases cases7 hp130.1 hp130.2 with hc | hc | hc | hc | hc | hc | hc <;> simp [hc, A7.get]) ?_
                            refine bind_of h (fun v131 hv131 h => ?_)
                            simp -implicitDefEqProofs +decide only [go_sem, Nat.reduceAdd, Int.reduceToNat, hb2, hb104, hb107, hb108, hb110, hb111, hb113, hb122, hb126, hb127, hb128]
                            refine call_go [0, 0] false (bodegahand_Pick_ok ⟨G.glob, noCaps⟩ hG0 (IntKind.i64.wrap (Int.tdiv a2 512)) 64 _ hv131) (by simp -implicitDefEqProofs +decide only [go_sem, Nat.reduceAdd, Int.reduceToNat, hb2, hb104, hb107, hb108, hb110, hb111, hb113, hb122, hb126, hb127, hb128]; rfl) (by first | rfl | (simp [maps, hb2, hb104, hb107, hb108, hb110, hb111, hb113, hb122, hb126, hb127, hb128]; done)) ?_
                            refine psplit h (fun hp132 h => ?_)
                            simp -implicitDefEqProofs +decide only [go_sem, Nat.reduceAdd, Int.reduceToNat, hp132, hb2, hb104, hb107, hb108, hb110, hb111, hb113, hb122, hb126, hb127, hb128]
                            refine opt_ite (by rcases cases7 hp132.1 hp132.2 with hc | hc | hc | hc | hc | hc | hc <;> simp [hc]) ?_
                            refine opt_wr (l' := [(.p (.int .i64 v91.1.Line)), (.p (.int .u64 v91.1.Head)), (.p (.int .u64 (A7.set v91.1.Data v129 (bits .xor .u64 (A7.get v91.1.Data v129) (shlV .u64 1 (IntKind.u64.wrap v131)))).a0)), (.p (.int .u64 (A7.set v91.1.Data v129 (bits .xor .u64 (A7.get v91.1.Data v129) (shlV .u64 1 (IntKind.u64.wrap v131)))).a1)), (.p (.int .u64 (A7.set v91.1.Data v129 (bits .xor .u64 (A7.get v91.1.Data v129) (shlV .u64 1 (IntKind.u64.wrap v131)))).a2)), (.p (.int .u64 (A7.set v91.1.Data v129 (bits .xor .u64 (A7.get v91.1.Data v129) (shlV .u64 1 (IntKind.u64.wrap v131)))).a3)), (.p (.int .u64 (A7.set v91.1.Data v129 (bits .xor .u64 (A7.get v91.1.Data v129) (shlV .u64 1 (IntKind.u64.wrap v131)))).a4)), (.p (.int .u64 (A7.set v91.1.Data v129 (bits .xor .u64 (A7.get v91.1.Data v129) (shlV .u64 1 (IntKind.u64.wrap v131)))).a5)), (.p (.int .u64 (A7.set v91.1.Data v129 (bits .xor .u64 (A7.get v91.1.Data v129) (shlV .u64 1 (IntKind.u64.wrap v131)))).a6))]) (by rcases cases7 hp132.1 hp132.2 with hc | hc | hc | hc | hc | hc | hc <;> simp [hc, A7.get, A7.set]) ?_
                            simp -implicitDefEqProofs +decide only [go_sem, Nat.reduceAdd, Int.reduceToNat, hb2, hb104, hb107, hb108, hb110, hb111, hb113, hb122, hb126, hb127, hb128]
                            refine draw_go (by kernel_rfl) ?_
                            refine hK _ ?_
                            refine seq_reg rfl (fun K hK => ?_)
                            refine bind_of h (fun v133 hv133 h => ?_)
                            simp -implicitDefEqProofs +decide only [go_sem, Nat.reduceAdd, Int.reduceToNat, hb2, hb104, hb107, hb108, hb110, hb111, hb113, hb122, hb126, hb127, hb128]
                            refine call_go [0] false (hashindex_ReadBucket_ok ⟨G.glob, noCaps⟩ hG0 (⟨v91.1.Line, v91.1.Head, (A7.set v91.1.Data v129 (bits .xor .u64 (A7.get v91.1.Data v129) (shlV .u64 1 (IntKind.u64.wrap v131))))⟩ : api_Page) _ hv133) (by simp -implicitDefEqProofs +decide only [go_sem, Nat.reduceAdd, Int.reduceToNat, hb2, hb104, hb107, hb108, hb110, hb111, hb113, hb122, hb126, hb127, hb128]; rfl) (by first | rfl | (simp [maps, hb2, hb104, hb107, hb108, hb110, hb111, hb113, hb122, hb126, hb127, hb128]; done)) ?_
                            simp -implicitDefEqProofs +decide only [go_sem, Nat.reduceAdd, Int.reduceToNat, hb2, hb104, hb107, hb108, hb110, hb111, hb113, hb122, hb126, hb127, hb128]
                            refine hK _ ?_
                            refine seq_reg rfl (fun K hK => ?_)
                            refine bind_of h (fun v134 hv134 h => ?_)
                            simp -implicitDefEqProofs +decide only [go_sem, Nat.reduceAdd, Int.reduceToNat, hb2, hb104, hb107, hb108, hb110, hb111, hb113, hb122, hb126, hb127, hb128]
                            refine call_go [0] false (bodegaref23_ReadBucket_ok ⟨G.glob, noCaps⟩ hG0 (⟨v91.1.Line, v91.1.Head, (A7.set v91.1.Data v129 (bits .xor .u64 (A7.get v91.1.Data v129) (shlV .u64 1 (IntKind.u64.wrap v131))))⟩ : api_Page) _ hv134) (by simp -implicitDefEqProofs +decide only [go_sem, Nat.reduceAdd, Int.reduceToNat, hb2, hb104, hb107, hb108, hb110, hb111, hb113, hb122, hb126, hb127, hb128]; rfl) (by first | rfl | (simp [maps, hb2, hb104, hb107, hb108, hb110, hb111, hb113, hb122, hb126, hb127, hb128]; done)) ?_
                            simp -implicitDefEqProofs +decide only [go_sem, Nat.reduceAdd, Int.reduceToNat, hb2, hb104, hb107, hb108, hb110, hb111, hb113, hb122, hb126, hb127, hb128]
                            refine hK _ ?_
                            refine seq_drw rfl (fun K hK => ?_)
                            refine bind_of h (fun v135 hv135 h => ?_)
                            simp -implicitDefEqProofs +decide only [go_sem, Nat.reduceAdd, Int.reduceToNat, hb2, hb104, hb107, hb108, hb110, hb111, hb113, hb122, hb126, hb127, hb128]
                            refine call_go [0] false (bodegalaw23_bucket_ok ⟨G.glob, noCaps⟩ hG0 v133.1 _ hv135) (by simp -implicitDefEqProofs +decide only [go_sem, Nat.reduceAdd, Int.reduceToNat, hb2, hb104, hb107, hb108, hb110, hb111, hb113, hb122, hb126, hb127, hb128]; rfl) (by first | rfl | (simp [maps, hb2, hb104, hb107, hb108, hb110, hb111, hb113, hb122, hb126, hb127, hb128]; done)) ?_
                            refine bind_of h (fun v136 hv136 h => ?_)
                            simp -implicitDefEqProofs +decide only [go_sem, Nat.reduceAdd, Int.reduceToNat, hb2, hb104, hb107, hb108, hb110, hb111, hb113, hb122, hb126, hb127, hb128]
                            refine call_go [0, 0] false (bodegalaw23_sameBucket_ok ⟨G.glob, noCaps⟩ hG0 v135 v134.1 _ hv136) (by simp -implicitDefEqProofs +decide only [go_sem, Nat.reduceAdd, Int.reduceToNat, hb2, hb104, hb107, hb108, hb110, hb111, hb113, hb122, hb126, hb127, hb128]; rfl) (by first | rfl | (simp [maps, hb2, hb104, hb107, hb108, hb110, hb111, hb113, hb122, hb126, hb127, hb128]; done)) ?_
                            rcases hb137 : v136 with _ | _
                            · replace h : some false = some res := by first | exact h | (rw [and_f hb137] at h; exact h)
                              simp -implicitDefEqProofs +decide only [go_sem, Nat.reduceAdd, Int.reduceToNat, hb2, hb104, hb107, hb108, hb110, hb111, hb113, hb122, hb126, hb127, hb128, hb137]
                              refine draw_go (by kernel_rfl) ?_
                              refine hK _ ?_
                              refine swp_ret ?_
                              with_reducible repeat (first | refine nn ?_ | refine nb ?_ | refine nr ?_ | refine nc ?_ | refine ne ?_ | refine nq ?_ | refine nx rfl ?_)
                              obtain rfl := some_eq h
                              simp -implicitDefEqProofs +decide only [go_sem, Nat.reduceAdd, Int.reduceToNat]
                              all_goals first | done | trivial | (simp [maps]; done)
                            · replace h : some (v133.2 == v134.2) = some res := by first | exact h | (rw [and_t hb137] at h; exact h)
                              simp -implicitDefEqProofs +decide only [go_sem, Nat.reduceAdd, Int.reduceToNat, hb2, hb104, hb107, hb108, hb110, hb111, hb113, hb122, hb126, hb127, hb128, hb137]
                              refine draw_go (by kernel_rfl) ?_
                              refine hK _ ?_
                              refine swp_ret ?_
                              with_reducible repeat (first | refine nn ?_ | refine nb ?_ | refine nr ?_ | refine nc ?_ | refine ne ?_ | refine nq ?_ | refine nx rfl ?_)
                              obtain rfl := some_eq h
                              simp -implicitDefEqProofs +decide only [go_sem, Nat.reduceAdd, Int.reduceToNat]
                              all_goals first | done | trivial | (simp [maps]; done)
      refine swp_seq ?_
      refine seq_reg rfl (fun K hK => ?_)
      simp -implicitDefEqProofs +decide only [go_sem, Nat.reduceAdd, Int.reduceToNat, hb2]
      refine hK _ ?_
      refine swp_block ?_
      refine swp_iter (fun g x => match x with | (x186, l187, x188) => stL [(2, (.c (.p (.int .i64 a2)))), (3, (.c (.ptr ⟨1024000007, g⟩ 0 0))), (4, (.c (.ptr ⟨1024000008, g⟩ 0 0))), (7, (.c (.ptr ⟨1024000009, g⟩ 0 0))), (8, (.c (.p (.int .i64 x188))))] [(⟨1024000007, g⟩, .box true [(.p (.int .i64 a0.Line)), (.p (.int .u64 a0.Head)), (.p (.int .u64 x13)), (.p (.int .u64 a0.Data.a1)), (.p (.int .u64 a0.Data.a2)), (.p (.int .u64 a0.Data.a3)), (.p (.int .u64 a0.Data.a4)), (.p (.int .u64 a0.Data.a5)), (.p (.int .u64 a0.Data.a6))]), (⟨1024000008, g⟩, .box true [(.p (.int .i64 a1.Depth)), (.p (.int .u32 a1.Pattern)), (.p (.int .i64 a1.Next.Line)), (.p (.int .i64 a1.Next.Gen)), (.p (.rows (a1.Entries.map r_hashindex_Entry)))]), (⟨1024000009, g⟩, .box true [(.p (.int .i64 x14)), (.p (.int .u32 x186)), (.p (.int .i64 x15.Line)), (.p (.int .i64 x15.Gen)), (.ref ⟨1024000010, g⟩ 0 l187.length)]), (⟨1024000010, g⟩, .arr true 3 (l187.map r_hashindex_Entry))] (g + 1)) h (enter_of ?_) ?_
      · refine ren_go (fun g S => [(⟨1024000007, g⟩, (keyT 0 (St.env S 3))), (⟨1024000008, g⟩, (keyT 0 (St.env S 4))), (⟨1024000009, g⟩, (keyT 0 (St.env S 7)))]) (fun g S => [(⟨1024000010, g⟩, 3)]) ?_ ?_ ?_ ?_ ?_
        all_goals try simp -implicitDefEqProofs +decide only [go_sem, Nat.reduceAdd, Int.reduceToNat, hb2]
        all_goals first | done | trivial | omega | (simp [maps, go_sem, hb2]; done) | (simp [maps, go_sem, hb2] <;> omega)
      rintro g ⟨x186, l187, x188⟩ s1 h hd1
      rw [bodegalaw23_HashBuckets_L1] at h
      try dsimp only
      refine swp_seq ?_
      refine seq_reg rfl (fun K hK => ?_)
      simp -implicitDefEqProofs +decide only [go_sem, Nat.reduceAdd, Int.reduceToNat]
      refine hK _ ?_
      refine bsplit h (fun hb192 h => ?_) (fun hb192 h => ?_)
      · refine cond_t (by simp -implicitDefEqProofs +decide only [go_sem, hb192]) ?_
        refine swp_skip ?_
        with_reducible repeat (first | refine nn ?_ | refine nb ?_ | refine nr ?_ | refine nc ?_ | refine ne ?_ | refine nq ?_ | refine nx rfl ?_)
        refine swp_seq ?_
        refine swp_block ?_
        refine seq_reg rfl (fun K hK => ?_)
        refine bind_of h (fun e193 he193 h => ?_)
        obtain ⟨he193_0, he193_1, he193_2⟩ := idx_some he193
        simp -implicitDefEqProofs +decide only [go_sem, Nat.reduceAdd, Int.reduceToNat, he193_0, he193_1, he193_2, hb192]
        refine hK _ ?_
        refine cut1 (Joins (bodegalaw23_HashBuckets_J3 l187 x188) (fun g x => match x with | (x201, x202) => stL [(2, (.c (.p (.int .i64 a2)))), (3, (.c (.ptr ⟨1024000011, g⟩ 0 0))), (4, (.c (.ptr ⟨1024000012, g⟩ 0 0))), (7, (.c (.ptr ⟨1024000013, g⟩ 0 0))), (8, (.c (.p (.int .i64 x188)))), (9, (.c (.ptr ⟨1024000015, g⟩ 0 0)))] [(⟨1024000011, g⟩, .box true [(.p (.int .i64 a0.Line)), (.p (.int .u64 a0.Head)), (.p (.int .u64 x13)), (.p (.int .u64 a0.Data.a1)), (.p (.int .u64 a0.Data.a2)), (.p (.int .u64 a0.Data.a3)), (.p (.int .u64 a0.Data.a4)), (.p (.int .u64 a0.Data.a5)), (.p (.int .u64 a0.Data.a6))]), (⟨1024000012, g⟩, .box true [(.p (.int .i64 a1.Depth)), (.p (.int .u32 a1.Pattern)), (.p (.int .i64 a1.Next.Line)), (.p (.int .i64 a1.Next.Gen)), (.p (.rows (a1.Entries.map r_hashindex_Entry)))]), (⟨1024000013, g⟩, .box true [(.p (.int .i64 x14)), (.p (.int .u32 x201)), (.p (.int .i64 x15.Line)), (.p (.int .i64 x15.Gen)), (.ref ⟨1024000014, g⟩ 0 l187.length)]), (⟨1024000014, g⟩, .arr true 3 (l187.map r_hashindex_Entry)), (⟨1024000015, g⟩, .box true [(.p (.int .u32 x202.Key)), (.p (.int .i64 x202.To.Line)), (.p (.int .i64 x202.To.Gen))])] (g + 1)) s1) ?_ (fun hj3 => ?_)
        · refine join_of ?_
          rintro g ⟨x201, x202⟩ h
          rw [bodegalaw23_HashBuckets_J3] at h
          try dsimp only
          refine swp_reg rfl (fun K hK => ?_)
          refine psplit h (fun hp203 h => ?_)
          simp -implicitDefEqProofs +decide only [go_sem, Nat.reduceAdd, Int.reduceToNat, hp203, hb192]
          refine hK _ ?_
          with_reducible repeat (first | refine nn ?_ | refine nb ?_ | refine nr ?_ | refine nc ?_ | refine ne ?_ | refine nq ?_ | refine nx rfl ?_)
          refine swp_fresh (fun g => stL [(2, (.c (.p (.int .i64 a2)))), (3, (.c (.ptr ⟨1024000016, g⟩ 0 0))), (4, (.c (.ptr ⟨1024000017, g⟩ 0 0))), (7, (.c (.ptr ⟨1024000018, g⟩ 0 0))), (8, (.c (.p (.int .i64 x188))))] [(⟨1024000016, g⟩, .box true [(.p (.int .i64 a0.Line)), (.p (.int .u64 a0.Head)), (.p (.int .u64 x13)), (.p (.int .u64 a0.Data.a1)), (.p (.int .u64 a0.Data.a2)), (.p (.int .u64 a0.Data.a3)), (.p (.int .u64 a0.Data.a4)), (.p (.int .u64 a0.Data.a5)), (.p (.int .u64 a0.Data.a6))]), (⟨1024000017, g⟩, .box true [(.p (.int .i64 a1.Depth)), (.p (.int .u32 a1.Pattern)), (.p (.int .i64 a1.Next.Line)), (.p (.int .i64 a1.Next.Gen)), (.p (.rows (a1.Entries.map r_hashindex_Entry)))]), (⟨1024000018, g⟩, .box true [(.p (.int .i64 x14)), (.p (.int .u32 x201)), (.p (.int .i64 x15.Line)), (.p (.int .i64 x15.Gen)), (.ref ⟨1024000019, g⟩ 0 (l187 ++ ([x202] : List hashindex_Entry)).length)]), (⟨1024000019, g⟩, .arr true 3 ((l187 ++ ([x202] : List hashindex_Entry)).map r_hashindex_Entry))] (g + 1)) ?_ (fun g => ?_)
          · refine ren_go (fun g S => [(⟨1024000016, g⟩, (keyT 0 (St.env S 3))), (⟨1024000017, g⟩, (keyT 0 (St.env S 4))), (⟨1024000018, g⟩, (keyT 0 (St.env S 7))), (⟨1024000019, g⟩, (keyB 4 (St.heap S (keyT 0 (St.env S 7)))))]) (fun g S => []) ?_ ?_ ?_ ?_ ?_
            all_goals try simp -implicitDefEqProofs +decide only [go_sem, Nat.reduceAdd, Int.reduceToNat]
            all_goals first | done | trivial | omega | (simp [maps, go_sem]; done) | (simp [maps, go_sem] <;> omega)
          refine swp_reg rfl (fun K hK => ?_)
          simp -implicitDefEqProofs +decide only [go_sem, Nat.reduceAdd, Int.reduceToNat, hb192]
          refine hK _ ?_
          with_reducible repeat (first | refine nn ?_ | refine nb ?_ | refine nr ?_ | refine nc ?_ | refine ne ?_ | refine nq ?_ | refine nx rfl ?_)
          refine back_of h ?_
          refine ren_go (fun g S => [(⟨1024000007, g⟩, (keyT 0 (St.env S 3))), (⟨1024000008, g⟩, (keyT 0 (St.env S 4))), (⟨1024000009, g⟩, (keyT 0 (St.env S 7))), (⟨1024000010, g⟩, (keyB 4 (St.heap S (keyT 0 (St.env S 7)))))]) (fun g S => []) ?_ ?_ ?_ ?_ ?_
          all_goals try simp -implicitDefEqProofs +decide only [go_sem, Nat.reduceAdd, Int.reduceToNat, hb192]
          all_goals first | done | trivial | omega | (simp [maps, go_sem, hb192]; done) | (simp [maps, go_sem, hb192] <;> omega)
        refine swp_seq ?_
        refine seq_reg rfl (fun K hK => ?_)
        refine bind_of h (fun v207 hv207 h => ?_)
        simp -implicitDefEqProofs +decide only [go_sem, Nat.reduceAdd, Int.reduceToNat, hb192]
        refine call_go [0, 0] false (bodegahand_Pick_ok ⟨G.glob, noCaps⟩ hG0 (IntKind.i64.wrap (Int.tdiv a2 4)) 4 _ hv207) (by simp -implicitDefEqProofs +decide only [go_sem, Nat.reduceAdd, Int.reduceToNat, hb192]; rfl) (by first | rfl | (simp [maps, hb192]; done)) ?_
        simp -implicitDefEqProofs +decide only [go_sem, Nat.reduceAdd, Int.reduceToNat, hb192]
        refine hK _ ?_
        refine bsplit h (fun hb208 h => ?_) (fun hb208 h => ?_)
        · refine cond_t (by simp -implicitDefEqProofs +decide only [go_sem, hb192, hb208]) ?_
          refine seq_reg rfl (fun K hK => ?_)
          simp -implicitDefEqProofs +decide only [go_sem, Nat.reduceAdd, Int.reduceToNat, hb192, hb208]
          refine hK _ ?_
          refine seq_reg rfl (fun K hK => ?_)
          refine bind_of h (fun v209 hv209 h => ?_)
          simp -implicitDefEqProofs +decide only [go_sem, Nat.reduceAdd, Int.reduceToNat, hb192, hb208]
          refine call_go [0] false (bodegalaw23_aim_ok ⟨G.glob, noCaps⟩ hG0 e193.To _ hv209) (by simp -implicitDefEqProofs +decide only [go_sem, Nat.reduceAdd, Int.reduceToNat, hb192, hb208]; rfl) (by first | rfl | (simp [maps, hb192, hb208]; done)) ?_
          simp -implicitDefEqProofs +decide only [go_sem, Nat.reduceAdd, Int.reduceToNat, hb192, hb208]
          refine hK _ ?_
          refine seq_reg rfl (fun K hK => ?_)
          refine bsplit h (fun hb210 h => ?_) (fun hb210 h => ?_)
          · simp -implicitDefEqProofs +decide only [go_sem, Nat.reduceAdd, Int.reduceToNat, hb192, hb208, hb210]
            refine hK _ ?_
            refine bsplit h (fun hb211 h => ?_) (fun hb211 h => ?_)
            · refine cond_t (by simp -implicitDefEqProofs +decide only [go_sem, hb192, hb208, hb210, hb211]) ?_
              refine swp_drw rfl (fun K hK => ?_)
              refine bind_of h (fun v212 hv212 h => ?_)
              simp -implicitDefEqProofs +decide only [go_sem, Nat.reduceAdd, Int.reduceToNat, hb192, hb208, hb210, hb211]
              refine call_go [0] false (hashindex_Hash_ok ⟨G.glob, noCaps⟩ hG0 (IntKind.u32.wrap ((Int.tmod e193.Key 4) + (IntKind.u32.wrap ((IntKind.u32.wrap x188) * 3)))) _ hv212) (by simp -implicitDefEqProofs +decide only [go_sem, Nat.reduceAdd, Int.reduceToNat, hb192, hb208, hb210, hb211]; rfl) (by first | rfl | (simp [maps, hb192, hb208, hb210, hb211]; done)) ?_
              refine psplit h (fun hp213 h => ?_)
              simp -implicitDefEqProofs +decide only [go_sem, Nat.reduceAdd, Int.reduceToNat, hp213, hb192, hb208, hb210, hb211]
              refine draw_go (by kernel_rfl) ?_
              refine hK _ ?_
              with_reducible repeat (first | refine nn ?_ | refine nb ?_ | refine nr ?_ | refine nc ?_ | refine ne ?_ | refine nq ?_ | refine nx rfl ?_)
              refine jump_of hj3 h ?_
              refine ren_go (fun g S => [(⟨1024000011, g⟩, (keyT 0 (St.env S 3))), (⟨1024000012, g⟩, (keyT 0 (St.env S 4))), (⟨1024000013, g⟩, (keyT 0 (St.env S 7))), (⟨1024000014, g⟩, (keyB 4 (St.heap S (keyT 0 (St.env S 7))))), (⟨1024000015, g⟩, (keyT 0 (St.env S 9)))]) (fun g S => []) ?_ ?_ ?_ ?_ ?_
              all_goals try simp -implicitDefEqProofs +decide only [go_sem, Nat.reduceAdd, Int.reduceToNat, hb192, hb208, hb210, hb211]
              all_goals first | done | trivial | omega | (simp [maps, go_sem, hb192, hb208, hb210, hb211]; done) | (simp [maps, go_sem, hb192, hb208, hb210, hb211] <;> omega)
            · refine cond_f (by simp -implicitDefEqProofs +decide only [go_sem, hb192, hb208, hb210, hb211]) ?_
              refine swp_skip ?_
              with_reducible repeat (first | refine nn ?_ | refine nb ?_ | refine nr ?_ | refine nc ?_ | refine ne ?_ | refine nq ?_ | refine nx rfl ?_)
              refine jump_of hj3 h ?_
              refine ren_go (fun g S => [(⟨1024000011, g⟩, (keyT 0 (St.env S 3))), (⟨1024000012, g⟩, (keyT 0 (St.env S 4))), (⟨1024000013, g⟩, (keyT 0 (St.env S 7))), (⟨1024000014, g⟩, (keyB 4 (St.heap S (keyT 0 (St.env S 7))))), (⟨1024000015, g⟩, (keyT 0 (St.env S 9)))]) (fun g S => []) ?_ ?_ ?_ ?_ ?_
              all_goals try simp -implicitDefEqProofs +decide only [go_sem, Nat.reduceAdd, Int.reduceToNat, hb192, hb208, hb210, hb211]
              all_goals first | done | trivial | omega | (simp [maps, go_sem, hb192, hb208, hb210, hb211]; done) | (simp [maps, go_sem, hb192, hb208, hb210, hb211] <;> omega)
          · simp -implicitDefEqProofs +decide only [go_sem, Nat.reduceAdd, Int.reduceToNat, hb192, hb208, hb210]
            refine hK _ ?_
            refine cond_f (by simp -implicitDefEqProofs +decide only [go_sem, hb192, hb208, hb210]) ?_
            refine swp_skip ?_
            with_reducible repeat (first | refine nn ?_ | refine nb ?_ | refine nr ?_ | refine nc ?_ | refine ne ?_ | refine nq ?_ | refine nx rfl ?_)
            refine jump_of hj3 h ?_
            refine ren_go (fun g S => [(⟨1024000011, g⟩, (keyT 0 (St.env S 3))), (⟨1024000012, g⟩, (keyT 0 (St.env S 4))), (⟨1024000013, g⟩, (keyT 0 (St.env S 7))), (⟨1024000014, g⟩, (keyB 4 (St.heap S (keyT 0 (St.env S 7))))), (⟨1024000015, g⟩, (keyT 0 (St.env S 9)))]) (fun g S => []) ?_ ?_ ?_ ?_ ?_
            all_goals try simp -implicitDefEqProofs +decide only [go_sem, Nat.reduceAdd, Int.reduceToNat, hb192, hb208, hb210]
            all_goals first | done | trivial | omega | (simp [maps, go_sem, hb192, hb208, hb210]; done) | (simp [maps, go_sem, hb192, hb208, hb210] <;> omega)
        · refine cond_f (by simp -implicitDefEqProofs +decide only [go_sem, hb192, hb208]) ?_
          refine swp_skip ?_
          with_reducible repeat (first | refine nn ?_ | refine nb ?_ | refine nr ?_ | refine nc ?_ | refine ne ?_ | refine nq ?_ | refine nx rfl ?_)
          refine jump_of hj3 h ?_
          refine ren_go (fun g S => [(⟨1024000011, g⟩, (keyT 0 (St.env S 3))), (⟨1024000012, g⟩, (keyT 0 (St.env S 4))), (⟨1024000013, g⟩, (keyT 0 (St.env S 7))), (⟨1024000014, g⟩, (keyB 4 (St.heap S (keyT 0 (St.env S 7))))), (⟨1024000015, g⟩, (keyT 0 (St.env S 9)))]) (fun g S => []) ?_ ?_ ?_ ?_ ?_
          all_goals try simp -implicitDefEqProofs +decide only [go_sem, Nat.reduceAdd, Int.reduceToNat, hb192, hb208]
          all_goals first | done | trivial | omega | (simp [maps, go_sem, hb192, hb208]; done) | (simp [maps, go_sem, hb192, hb208] <;> omega)
      · refine cond_f (by simp -implicitDefEqProofs +decide only [go_sem, hb192]) ?_
        refine swp_exit ?_
        with_reducible repeat (first | refine nn ?_ | refine nb ?_ | refine nr ?_ | refine nc ?_ | refine ne ?_ | refine nq ?_ | refine nx rfl ?_)
        obtain ⟨h, hs1⟩ := exit_of h hd1
        with_reducible repeat (first | refine nn ?_ | refine nb ?_ | refine nr ?_ | refine nc ?_ | refine ne ?_ | refine nq ?_ | refine nx rfl ?_)
        refine ⟨hs1, ?_⟩
        with_reducible repeat (first | refine nn ?_ | refine nb ?_ | refine nr ?_ | refine nc ?_ | refine ne ?_ | refine nq ?_ | refine nx rfl ?_)
        refine jump_of hj2 h ?_
        refine ren_go (fun g S => [(⟨1024000004, g⟩, (keyT 0 (St.env S 3))), (⟨1024000005, g⟩, (keyT 0 (St.env S 7))), (⟨1024000006, g⟩, (keyB 4 (St.heap S (keyT 0 (St.env S 7)))))]) (fun g S => []) ?_ ?_ ?_ ?_ ?_
        all_goals try simp -implicitDefEqProofs +decide only [go_sem, Nat.reduceAdd, Int.reduceToNat, hb192]
        all_goals first | done | trivial | omega | (simp [maps, go_sem, hb192]; done) | (simp [maps, go_sem, hb192] <;> omega)
    refine swp_seq ?_
    refine seq_reg rfl (fun K hK => ?_)
    refine bind_of h (fun v227 hv227 h => ?_)
    simp -implicitDefEqProofs +decide only [go_sem, Nat.reduceAdd, Int.reduceToNat, hb2]
    refine call_go [0, 0] false (bodegahand_Pick_ok ⟨G.glob, noCaps⟩ hG0 a2 4 _ hv227) (by simp -implicitDefEqProofs +decide only [go_sem, Nat.reduceAdd, Int.reduceToNat, hb2]; rfl) (by first | rfl | (simp [maps, hb2]; done)) ?_
    simp -implicitDefEqProofs +decide only [go_sem, Nat.reduceAdd, Int.reduceToNat, hb2]
    refine hK _ ?_
    refine bsplit h (fun hb228 h => ?_) (fun hb228 h => ?_)
    · refine cond_t (by simp -implicitDefEqProofs +decide only [go_sem, hb2, hb228]) ?_
      refine seq_reg rfl (fun K hK => ?_)
      refine bind_of h (fun v229 hv229 h => ?_)
      simp -implicitDefEqProofs +decide only [go_sem, Nat.reduceAdd, Int.reduceToNat, hb2, hb228]
      refine call_go [0, 0] false (bodegahand_Pick_ok ⟨G.glob, noCaps⟩ hG0 a1.Depth 19 _ hv229) (by simp -implicitDefEqProofs +decide only [go_sem, Nat.reduceAdd, Int.reduceToNat, hb2, hb228]; rfl) (by first | rfl | (simp [maps, hb2, hb228]; done)) ?_
      simp -implicitDefEqProofs +decide only [go_sem, Nat.reduceAdd, Int.reduceToNat, hb2, hb228]
      refine hK _ ?_
      refine cut1 (Joins (bodegalaw23_HashBuckets_J4 a1 a2 a0) (fun g x232 => stL [(2, (.c (.p (.int .i64 a2)))), (3, (.c (.ptr ⟨1024000020, g⟩ 0 0))), (4, (.c (.ptr ⟨1024000021, g⟩ 0 0))), (7, (.c (.ptr ⟨1024000022, g⟩ 0 0)))] [(⟨1024000020, g⟩, .box true [(.p (.int .i64 a0.Line)), (.p (.int .u64 a0.Head)), (.p (.int .u64 a0.Data.a0)), (.p (.int .u64 a0.Data.a1)), (.p (.int .u64 a0.Data.a2)), (.p (.int .u64 a0.Data.a3)), (.p (.int .u64 a0.Data.a4)), (.p (.int .u64 a0.Data.a5)), (.p (.int .u64 a0.Data.a6))]), (⟨1024000021, g⟩, .box true [(.p (.int .i64 a1.Depth)), (.p (.int .u32 a1.Pattern)), (.p (.int .i64 a1.Next.Line)), (.p (.int .i64 a1.Next.Gen)), (.p (.rows (a1.Entries.map r_hashindex_Entry)))]), (⟨1024000022, g⟩, .box true [(.p (.int .i64 x232)), (.p (.int .u32 a1.Pattern)), (.p (.int .i64 a1.Next.Line)), (.p (.int .i64 a1.Next.Gen)), .nilS])] (g + 1)) res) ?_ (fun hj4 => ?_)
      · refine join_of ?_
        rintro g x232 h
        rw [bodegalaw23_HashBuckets_J4] at h
        try dsimp only
        refine seq_reg rfl (fun K hK => ?_)
        refine bind_of h (fun v233 hv233 h => ?_)
        simp -implicitDefEqProofs +decide only [go_sem, Nat.reduceAdd, Int.reduceToNat, hb2, hb228]
        refine call_go [0] false (bodegalaw23_aim_ok ⟨G.glob, noCaps⟩ hG0 a1.Next _ hv233) (by simp -implicitDefEqProofs +decide only [go_sem, Nat.reduceAdd, Int.reduceToNat, hb2, hb228]; rfl) (by first | rfl | (simp [maps, hb2, hb228]; done)) ?_
        simp -implicitDefEqProofs +decide only [go_sem, Nat.reduceAdd, Int.reduceToNat, hb2, hb228]
        refine hK _ ?_
        refine swp_drw rfl (fun K hK => ?_)
        refine bind_of h (fun v234 hv234 h => ?_)
        simp -implicitDefEqProofs +decide only [go_sem, Nat.reduceAdd, Int.reduceToNat, hb2, hb228]
        refine call_go [0, 0] false (bodegahand_Pick_ok ⟨G.glob, noCaps⟩ hG0 (IntKind.i64.wrap (Int.tdiv a2 16)) 9 _ hv234) (by simp -implicitDefEqProofs +decide only [go_sem, Nat.reduceAdd, Int.reduceToNat, hb2, hb228]; rfl) (by first | rfl | (simp [maps, hb2, hb228]; done)) ?_
        simp -implicitDefEqProofs +decide only [go_sem, Nat.reduceAdd, Int.reduceToNat, hb2, hb228]
        refine draw_go (by kernel_rfl) ?_
        refine hK _ ?_
        with_reducible repeat (first | refine nn ?_ | refine nb ?_ | refine nr ?_ | refine nc ?_ | refine ne ?_ | refine nq ?_ | refine nx rfl ?_)
        refine jump_of hj1 h ?_
        refine ren_go (fun g S => [(⟨1024000001, g⟩, (keyT 0 (St.env S 3))), (⟨1024000002, g⟩, (keyT 0 (St.env S 4))), (⟨1024000003, g⟩, (keyT 0 (St.env S 7)))]) (fun g S => []) ?_ ?_ ?_ ?_ ?_
        all_goals try simp -implicitDefEqProofs +decide only [go_sem, Nat.reduceAdd, Int.reduceToNat, hb2, hb228]
        all_goals first | done | trivial | omega | (simp [maps, go_sem, hb2, hb228]; done) | (simp [maps, go_sem, hb2, hb228] <;> omega)
      refine swp_seq ?_
      refine seq_reg rfl (fun K hK => ?_)
      refine bsplit h (fun hb238 h => ?_) (fun hb238 h => ?_)
      · simp -implicitDefEqProofs +decide only [go_sem, Nat.reduceAdd, Int.reduceToNat, hb2, hb228, hb238]
        refine hK _ ?_
        refine bsplit h (fun hb239 h => ?_) (fun hb239 h => ?_)
        · refine cond_t (by simp -implicitDefEqProofs +decide only [go_sem, hb2, hb228, hb238, hb239]) ?_
          refine swp_reg rfl (fun K hK => ?_)
          simp -implicitDefEqProofs +decide only [go_sem, Nat.reduceAdd, Int.reduceToNat, hb2, hb228, hb238, hb239]
          refine hK _ ?_
          with_reducible repeat (first | refine nn ?_ | refine nb ?_ | refine nr ?_ | refine nc ?_ | refine ne ?_ | refine nq ?_ | refine nx rfl ?_)
          refine jump_of hj4 h ?_
          refine ren_go (fun g S => [(⟨1024000020, g⟩, (keyT 0 (St.env S 3))), (⟨1024000021, g⟩, (keyT 0 (St.env S 4))), (⟨1024000022, g⟩, (keyT 0 (St.env S 7)))]) (fun g S => []) ?_ ?_ ?_ ?_ ?_
          all_goals try simp -implicitDefEqProofs +decide only [go_sem, Nat.reduceAdd, Int.reduceToNat, hb2, hb228, hb238, hb239]
          all_goals first | done | trivial | omega | (simp [maps, go_sem, hb2, hb228, hb238, hb239]; done) | (simp [maps, go_sem, hb2, hb228, hb238, hb239] <;> omega)
        · refine cond_f (by simp -implicitDefEqProofs +decide only [go_sem, hb2, hb228, hb238, hb239]) ?_
          refine swp_skip ?_
          with_reducible repeat (first | refine nn ?_ | refine nb ?_ | refine nr ?_ | refine nc ?_ | refine ne ?_ | refine nq ?_ | refine nx rfl ?_)
          refine jump_of hj4 h ?_
          refine ren_go (fun g S => [(⟨1024000020, g⟩, (keyT 0 (St.env S 3))), (⟨1024000021, g⟩, (keyT 0 (St.env S 4))), (⟨1024000022, g⟩, (keyT 0 (St.env S 7)))]) (fun g S => []) ?_ ?_ ?_ ?_ ?_
          all_goals try simp -implicitDefEqProofs +decide only [go_sem, Nat.reduceAdd, Int.reduceToNat, hb2, hb228, hb238, hb239]
          all_goals first | done | trivial | omega | (simp [maps, go_sem, hb2, hb228, hb238, hb239]; done) | (simp [maps, go_sem, hb2, hb228, hb238, hb239] <;> omega)
      · simp -implicitDefEqProofs +decide only [go_sem, Nat.reduceAdd, Int.reduceToNat, hb2, hb228, hb238]
        refine hK _ ?_
        refine cond_f (by simp -implicitDefEqProofs +decide only [go_sem, hb2, hb228, hb238]) ?_
        refine swp_skip ?_
        with_reducible repeat (first | refine nn ?_ | refine nb ?_ | refine nr ?_ | refine nc ?_ | refine ne ?_ | refine nq ?_ | refine nx rfl ?_)
        refine jump_of hj4 h ?_
        refine ren_go (fun g S => [(⟨1024000020, g⟩, (keyT 0 (St.env S 3))), (⟨1024000021, g⟩, (keyT 0 (St.env S 4))), (⟨1024000022, g⟩, (keyT 0 (St.env S 7)))]) (fun g S => []) ?_ ?_ ?_ ?_ ?_
        all_goals try simp -implicitDefEqProofs +decide only [go_sem, Nat.reduceAdd, Int.reduceToNat, hb2, hb228, hb238]
        all_goals first | done | trivial | omega | (simp [maps, go_sem, hb2, hb228, hb238]; done) | (simp [maps, go_sem, hb2, hb228, hb238] <;> omega)
    · refine cond_f (by simp -implicitDefEqProofs +decide only [go_sem, hb2, hb228]) ?_
      refine swp_skip ?_
      with_reducible repeat (first | refine nn ?_ | refine nb ?_ | refine nr ?_ | refine nc ?_ | refine ne ?_ | refine nq ?_ | refine nx rfl ?_)
      refine jump_of hj1 h ?_
      refine ren_go (fun g S => [(⟨1024000001, g⟩, (keyT 0 (St.env S 3))), (⟨1024000002, g⟩, (keyT 0 (St.env S 4))), (⟨1024000003, g⟩, (keyT 0 (St.env S 7)))]) (fun g S => []) ?_ ?_ ?_ ?_ ?_
      all_goals try simp -implicitDefEqProofs +decide only [go_sem, Nat.reduceAdd, Int.reduceToNat, hb2, hb228]
      all_goals first | done | trivial | omega | (simp [maps, go_sem, hb2, hb228]; done) | (simp [maps, go_sem, hb2, hb228] <;> omega)
end Go.Sh
end
section
namespace Go.Sh
set_option linter.unusedSimpArgs false
set_option linter.unusedVariables false
set_option maxRecDepth 10000

def cE (e : hashindex_Entry) : bodegaref23_Entry := ⟨e.Key, cP e.To⟩
def cB (b : hashindex_Bucket) : bodegaref23_Bucket := ⟨b.Depth, b.Pattern, cP b.Next, b.Entries.map cE⟩
theorem idx_nat {α : Type} (l : List α) (i : Nat) : idx l (i : Int) = l[i]? := by unfold idx; simp
theorem idx_at {α : Type} {pre post : List α} {e : α} : idx (pre ++ e :: post) (pre.length : Int) = some e := by rw [idx_nat]; simp
theorem bucket_loop (b : hashindex_Bucket) (v : bodegaref19_Pointer) (hl : b.Entries.length ≤ 1000) : ∀ (post pre : List hashindex_Entry), b.Entries = pre ++ post →
    iter (bodegalaw23_bucket_L1 b v) (pre.map cE, (pre.length : Int)) = some ⟨b.Depth, b.Pattern, v, b.Entries.map cE⟩
  | [], pre, h => by
    rw [iter_eq]
    rw [List.append_nil] at h
    simp only [bodegalaw23_bucket_L1, h, Int.lt_irrefl, decide_false, Bool.false_eq_true, if_false, Option.map_some, bind_s]
  | e :: post, pre, h => by
    rw [iter_eq]
    have hlt : (pre.length : Int) < (b.Entries.length : Int) := by rw [h]; simp; omega
    have hle : pre.length ≤ 1000 := by omega
    have hi : idx b.Entries (pre.length : Int) = some e := by rw [h]; exact idx_at
    have ih := bucket_loop b v hl post (pre ++ [e]) (by rw [h]; simp)
    simp only [List.map_append, List.map_cons, List.map_nil, List.length_append, List.length_cons, List.length_nil, Nat.zero_add, Int.natCast_add, Int.natCast_one] at ih
    have hm : ((pre.map cE).length + 1) * 24 ≤ maxRows ∧ (pre.map cE).length + 1 ≤ maxRows := by rw [List.length_map]; unfold maxRows; omega
    simp only [bodegalaw23_bucket_L1, hlt, decide_true, if_true, hi, ref_eq, bind_s, hm, and_self, i64_in' (show -9223372036854775808 ≤ (pre.length : Int) + 1 ∧ (pre.length : Int) + 1 < 9223372036854775808 by omega)]
    exact ih
theorem bucket_eq {b : hashindex_Bucket} (hl : b.Entries.length ≤ 1000) : bodegalaw23_bucket b = some (cB b) := by
  unfold bodegalaw23_bucket
  rw [ref_eq, bind_s]
  exact bucket_loop b _ hl b.Entries [] rfl
theorem same_loop (b : bodegaref23_Bucket) (hl : b.Entries.length ≤ 1000) : ∀ (post pre : List bodegaref23_Entry), b.Entries = pre ++ post →
    iter (bodegalaw23_sameBucket_L1 b b) (pre.length : Int) = some true
  | [], pre, h => by
    rw [iter_eq]
    rw [List.append_nil] at h
    simp only [bodegalaw23_sameBucket_L1, h, Int.lt_irrefl, decide_false, Bool.false_eq_true, if_false, Option.map_some, bind_s]
  | e :: post, pre, h => by
    rw [iter_eq]
    have hlt : (pre.length : Int) < (b.Entries.length : Int) := by rw [h]; simp; omega
    have hi : idx b.Entries (pre.length : Int) = some e := by rw [h]; exact idx_at
    have ih := same_loop b hl post (pre ++ [e]) (by rw [h]; simp)
    simp only [List.length_append, List.length_cons, List.length_nil, Nat.zero_add, Int.natCast_add, Int.natCast_one] at ih
    simp only [bodegalaw23_sameBucket_L1, hlt, decide_true, if_true, hi, bind_s, beq_self_eq_true, Bool.and_self, Bool.not_true, Bool.false_eq_true, if_false, i64_in' (show -9223372036854775808 ≤ (pre.length : Int) + 1 ∧ (pre.length : Int) + 1 < 9223372036854775808 by omega)]
    exact ih
theorem same_eq (b : bodegaref23_Bucket) (hl : b.Entries.length ≤ 1000) : bodegalaw23_sameBucket b b = some true := by
  unfold bodegalaw23_sameBucket
  simp only [bne_self_eq_false, beq_self_eq_true, Bool.and_self, Bool.not_true, Bool.false_eq_true, if_false]
  exact same_loop b hl b.Entries [] rfl

def hs (k : Int) : Int := bits .xor .u32 (IntKind.u32.wrap (k * 2654435769)) (shrV .u32 (IntKind.u32.wrap (k * 2654435769)) 16)
theorem wrap32_k (x : Int) : 0 ≤ IntKind.u32.wrap x ∧ IntKind.u32.wrap x < 4294967296 := by rw [u32_mod]; omega
theorem hs_k (k : Int) : 0 ≤ hs k ∧ hs k < 4294967296 := by
  unfold hs bits
  split <;> exact wrap32_k _
theorem Hash_eq (k : Int) : hashindex_Hash k = some (hs k) := rfl
theorem HashR_eq (k : Int) : bodegaref23_Hash k = some (hs k) := rfl
theorem pow16 (n : Nat) (h : n ≤ 16) : (1 : Int) ≤ 2 ^ n ∧ (2 : Int) ^ n ≤ 65536 := by
  have h1 : 1 ≤ 2 ^ n := Nat.one_le_two_pow
  have h2 : 2 ^ n ≤ 2 ^ 16 := Nat.pow_le_pow_right (by omega) h
  have h3 : ((2 : Int) ^ n) = ((2 ^ n : Nat) : Int) := by simp
  rw [h3]; omega
theorem low_eq {a : Int} (ha : 0 ≤ a ∧ a < 4294967296) (n : Nat) (h : n ≤ 16) : hashindex_low a (n : Int) = some (a % 2 ^ n) := by
  have hp := pow16 n h
  unfold hashindex_low
  rw [u64_in' (x := (n : Int)) (by omega), shl_ (k := .u32) (x := 1) (n := (n : Int)) n (by simp [IntKind.bits]; omega), Int.one_mul, u32_in' (x := 2 ^ n) (by omega), u32_in' (x := 2 ^ n - 1) (by omega)]
  rw [bits_mask .u32 32 (by decide) wraps_u32 n (by omega) a ha.1 (by omega)]
theorem lowR_eq {a : Int} (ha : 0 ≤ a ∧ a < 4294967296) (n : Nat) (h : n ≤ 16) : bodegaref23_low a (n : Int) = some (a % 2 ^ n) := by
  have hp := pow16 n h
  unfold bodegaref23_low
  rw [u64_in' (x := (n : Int)) (by omega), shl_ (k := .u64) (x := 1) (n := (n : Int)) n (by simp [IntKind.bits]; omega), Int.one_mul, u64_in' (x := 2 ^ n) (by omega), u64_in' (x := a) (by omega), tmod_pos ha.1]
  have := Int.emod_nonneg a (show (2 : Int) ^ n ≠ 0 by omega)
  have := Int.emod_lt_of_pos a (show (0 : Int) < 2 ^ n by omega)
  rw [if_pos (by omega), u32_in' (by omega)]

def vEs (n : Nat) (pat : Int) : Int → List hashindex_Entry → Bool
  | _, [] => true
  | prev, e :: es => decide (prev < e.Key) && (decide (e.Key ≤ 4294967294) && (vp e.To.Line e.To.Gen && ((hs e.Key % 2 ^ n == pat) && vEs n pat e.Key es)))
theorem valid_loop (b : hashindex_Bucket) (n : Nat) (hn : n ≤ 16) (hd : b.Depth = n) (hl : b.Entries.length ≤ 1000) : ∀ (post pre : List hashindex_Entry) (prev : Int), b.Entries = pre ++ post →
    iter (hashindex_Bucket_valid_L1 b) (prev, (pre.length : Int)) = some (vEs n b.Pattern prev post)
  | [], pre, prev, h => by
    rw [iter_eq]
    rw [List.append_nil] at h
    simp only [hashindex_Bucket_valid_L1, h, Int.lt_irrefl, decide_false, Bool.false_eq_true, if_false, Option.map_some, bind_s, vEs]
  | e :: post, pre, prev, h => by
    rw [iter_eq]
    have hlt : (pre.length : Int) < (b.Entries.length : Int) := by rw [h]; simp; omega
    have hi : idx b.Entries (pre.length : Int) = some e := by rw [h]; exact idx_at
    have ih := valid_loop b n hn hd hl post (pre ++ [e]) e.Key (by rw [h]; simp)
    simp only [List.length_append, List.length_cons, List.length_nil, Nat.zero_add, Int.natCast_add, Int.natCast_one] at ih
    have hc : hashindex_Bucket_covers b (hs e.Key) = some (hs e.Key % 2 ^ n == b.Pattern) := by
      unfold hashindex_Bucket_covers
      rw [hd, low_eq (hs_k _) n hn, bind_s]
    simp only [hashindex_Bucket_valid_L1, hlt, decide_true, if_true, hi, bind_s, Valid_eq, Hash_eq, hc, vEs, i64_in' (show -9223372036854775808 ≤ (pre.length : Int) + 1 ∧ (pre.length : Int) + 1 < 9223372036854775808 by omega)]
    by_cases c1 : prev < e.Key
    · have c1' : ¬ e.Key ≤ prev := by omega
      by_cases c2 : e.Key ≤ 4294967294
      · have c2' : ¬ e.Key > 4294967294 := by omega
        rcases Bool.eq_false_or_eq_true (vp e.To.Line e.To.Gen) with c3 | c3 <;> rcases Bool.eq_false_or_eq_true (hs e.Key % 2 ^ n == b.Pattern) with c4 | c4 <;>
          simp only [c1, c1', c2, c2', c3, c4, decide_true, decide_false, Bool.not_true, Bool.not_false, Bool.false_eq_true, if_true, if_false, Bool.true_and, Bool.false_and, Option.map_some, bind_s, ih]
      · have c2' : e.Key > 4294967294 := by omega
        simp only [c1, c1', c2, c2', decide_true, decide_false, Bool.false_eq_true, if_true, if_false, Bool.true_and, Bool.false_and, Option.map_some, bind_s]
    · have c1' : e.Key ≤ prev := by omega
      simp only [c1, c1', decide_true, decide_false, Bool.false_eq_true, if_true, if_false, Bool.true_and, Bool.false_and, Option.map_some, bind_s]
theorem validR_loop (b : hashindex_Bucket) (n : Nat) (hn : n ≤ 16) (hd : b.Depth = n) (hl : b.Entries.length ≤ 1000) : ∀ (post pre : List hashindex_Entry) (prev : Int), b.Entries = pre ++ post → (∀ e, pre.getLast? = some e → e.Key = prev) → (pre = [] → prev = 0) → 0 ≤ prev →
    iter (bodegaref23_ValidBucket_L1 (cB b)) (pre.length : Int) = some (vEs n b.Pattern prev post)
  | [], pre, prev, h, _, _, _ => by
    rw [iter_eq]
    rw [List.append_nil] at h
    simp only [bodegaref23_ValidBucket_L1, cB, List.length_map, h, Int.lt_irrefl, decide_false, Bool.false_eq_true, if_false, Option.map_some, bind_s, vEs]
  | e :: post, pre, prev, h, hp, hz, h0 => by
    rw [iter_eq]
    have hlt : (pre.length : Int) < ((cB b).Entries.length : Int) := by show (pre.length : Int) < ((b.Entries.map cE).length : Int); rw [List.length_map, h]; simp; omega
    have hi : idx (cB b).Entries (pre.length : Int) = some (cE e) := by
      show idx (b.Entries.map cE) _ = _
      rw [h, List.map_append, List.map_cons]
      have := @idx_at _ (pre.map cE) (post.map cE) (cE e)
      rwa [List.length_map] at this
    have hll : pre.length ≤ 1000 := by rw [h] at hl; simp at hl; omega
    have hc : bodegaref23_low (hs e.Key) (cB b).Depth = some (hs e.Key % 2 ^ n) := by
      show bodegaref23_low _ b.Depth = _
      rw [hd, lowR_eq (hs_k _) n hn]
    have hprev : (pre.length : Int) > 0 → idx (cB b).Entries (IntKind.i64.wrap ((pre.length : Int) - 1)) = some (cE (pre.getLast?.getD e)) ∧ (pre.getLast?.getD e).Key = prev := fun hpos => by
      rw [i64_in' (x := (pre.length : Int) - 1) (by omega)]
      cases hg : pre.getLast? with
      | none => rw [List.getLast?_eq_none_iff] at hg; subst hg; simp at hpos
      | some y =>
        refine ⟨?_, hp y hg⟩
        show idx (b.Entries.map cE) _ = _
        rw [show (pre.length : Int) - 1 = ((pre.length - 1 : Nat) : Int) by omega, idx_nat, h, List.getElem?_map, List.getElem?_append_left (by omega)]
        rw [List.getLast?_eq_getElem?] at hg
        rw [hg]; rfl
    have k1 : (cE e).Key = e.Key := rfl
    have k2 : (cE e).To = cP e.To := rfl
    have vR : bodegaref19_ValidPointer (cP e.To) = some (vp e.To.Line e.To.Gen) := rfl
    have kp : (cB b).Pattern = b.Pattern := rfl
    by_cases hk : 0 ≤ e.Key
    · have ih := validR_loop b n hn hd hl post (pre ++ [e]) e.Key (by rw [h]; simp) (by simp) (by simp) hk
      simp only [List.length_append, List.length_cons, List.length_nil, Nat.zero_add, Int.natCast_add, Int.natCast_one] at ih
      simp only [bodegaref23_ValidBucket_L1, hlt, decide_true, if_true, hi, bind_s, k1, k2, kp, vR, HashR_eq, hc, vEs, i64_in' (show -9223372036854775808 ≤ (pre.length : Int) + 1 ∧ (pre.length : Int) + 1 < 9223372036854775808 by omega)]
      by_cases hpos : (pre.length : Int) > 0
      · obtain ⟨hq, hqk⟩ := hprev hpos
        have k3 : (cE (pre.getLast?.getD e)).Key = prev := hqk
        simp only [hpos, decide_true, if_true, hq, bind_s, k3]
        by_cases c1 : prev < e.Key
        · have c1' : ¬ prev ≥ e.Key := by omega
          have c1'' : ¬ e.Key < 1 := by omega
          by_cases c2 : e.Key ≤ 4294967294
          · have c2' : ¬ e.Key > 4294967294 := by omega
            rcases Bool.eq_false_or_eq_true (vp e.To.Line e.To.Gen) with c3 | c3 <;> rcases Bool.eq_false_or_eq_true (hs e.Key % 2 ^ n == b.Pattern) with c4 | c4 <;>
              simp only [c1, c1', c1'', c2, c2', c3, c4, bne, decide_true, decide_false, Bool.not_true, Bool.not_false, Bool.false_eq_true, if_true, if_false, Bool.true_and, Bool.false_and, Option.map_some, bind_s, ih]
          · have c2' : e.Key > 4294967294 := by omega
            simp only [c1, c1', c1'', c2, c2', decide_true, decide_false, Bool.false_eq_true, if_true, if_false, Bool.true_and, Bool.false_and, Option.map_some, bind_s]
        · have c1' : prev ≥ e.Key := by omega
          simp only [c1, c1', decide_true, decide_false, if_true, Bool.false_and]
          by_cases d1 : e.Key < 1 <;> by_cases d2 : e.Key > 4294967294 <;> rcases Bool.eq_false_or_eq_true (vp e.To.Line e.To.Gen) with c3 | c3 <;> rcases Bool.eq_false_or_eq_true (hs e.Key % 2 ^ n == b.Pattern) with c4 | c4 <;>
            simp only [d1, d2, c3, c4, bne, decide_true, decide_false, Bool.not_true, Bool.not_false, Bool.false_eq_true, if_true, if_false, Option.map_some, bind_s]
      · have hpe : pre = [] := by have : pre.length = 0 := by omega
                                  exact List.eq_nil_of_length_eq_zero this
        have hp0 := hz hpe
        subst hp0
        simp only [hpos, decide_false, Bool.false_eq_true, if_false]
        by_cases c1 : 0 < e.Key
        · have c1'' : ¬ e.Key < 1 := by omega
          by_cases c2 : e.Key ≤ 4294967294
          · have c2' : ¬ e.Key > 4294967294 := by omega
            rcases Bool.eq_false_or_eq_true (vp e.To.Line e.To.Gen) with c3 | c3 <;> rcases Bool.eq_false_or_eq_true (hs e.Key % 2 ^ n == b.Pattern) with c4 | c4 <;>
              simp only [c1, c1'', c2, c2', c3, c4, bne, decide_true, decide_false, Bool.not_true, Bool.not_false, Bool.false_eq_true, if_true, if_false, Bool.true_and, Bool.false_and, Option.map_some, bind_s, ih]
          · have c2' : e.Key > 4294967294 := by omega
            simp only [c1, c1'', c2, c2', decide_true, decide_false, Bool.false_eq_true, if_true, if_false, Bool.true_and, Bool.false_and, Option.map_some, bind_s]
        · have c1'' : e.Key < 1 := by omega
          simp only [c1, c1'', decide_true, decide_false, if_true, Bool.false_and, Option.map_some, bind_s]
    · have c1'' : e.Key < 1 := by omega
      have c1 : ¬ prev < e.Key := by omega
      simp only [bodegaref23_ValidBucket_L1, hlt, decide_true, if_true, hi, bind_s, k1, c1'', Option.map_some, vEs, c1, decide_false, Bool.false_and]
end Go.Sh
end
section
namespace Go.Sh
set_option linter.unusedSimpArgs false
set_option linter.unusedVariables false
set_option maxRecDepth 10000

def bv (b : hashindex_Bucket) : Bool := decide (0 ≤ b.Depth) && (decide (b.Depth ≤ 16) && ((b.Pattern % 2 ^ b.Depth.toNat == b.Pattern) && (good b.Next.Line b.Next.Gen && (decide (b.Entries.length ≤ 5) && vEs b.Depth.toNat b.Pattern 0 b.Entries))))
theorem Bucket_valid_eq (b : hashindex_Bucket) (hP : k_u32 b.Pattern) (hl : b.Entries.length ≤ 1000) : hashindex_Bucket_valid b = some (bv b) := by
  unfold k_u32 at hP
  unfold hashindex_Bucket_valid bv
  by_cases h1 : b.Depth < 0
  · have : ¬ 0 ≤ b.Depth := by omega
    simp [h1, this]
  · by_cases h2 : b.Depth > 16
    · have : ¬ b.Depth ≤ 16 := by omega
      simp [h1, h2, this]
    · obtain ⟨n, hn⟩ : ∃ n : Nat, b.Depth = n := ⟨b.Depth.toNat, by omega⟩
      have hn16 : n ≤ 16 := by omega
      have e1 : 0 ≤ b.Depth := by omega
      have e2 : b.Depth ≤ 16 := by omega
      have hlow : hashindex_low b.Pattern b.Depth = some (b.Pattern % 2 ^ n) := by rw [hn]; exact low_eq (by omega) n hn16
      have hloop := valid_loop b n hn16 hn hl b.Entries [] 0 rfl
      simp only [List.length_nil, Int.natCast_zero] at hloop
      have hnn : b.Depth.toNat = n := by omega
      simp only [h1, h2, e1, e2, decide_true, decide_false, Bool.false_eq_true, if_false, hlow, bind_s, isField_eq, hnn, Bool.true_and]
      by_cases hp : b.Pattern % 2 ^ n = b.Pattern
      · rcases Bool.eq_false_or_eq_true (good b.Next.Line b.Next.Gen) with g | g
        · by_cases h5 : b.Entries.length ≤ 5
          · have h5' : ¬ (b.Entries.length : Int) > 5 := by omega
            simp only [hp, g, h5, h5', bne_self_eq_false, beq_self_eq_true, decide_true, decide_false, Bool.not_true, Bool.false_eq_true, if_false, Bool.true_and, hloop]
          · have h5' : (b.Entries.length : Int) > 5 := by omega
            simp only [hp, g, h5, h5', bne_self_eq_false, beq_self_eq_true, decide_true, decide_false, Bool.not_true, Bool.false_eq_true, if_false, if_true, Bool.true_and, Bool.false_and]
        · simp [hp, g]
      · have hb : (b.Pattern != b.Pattern % 2 ^ n) = true := by rw [bne_iff_ne]; exact fun e => hp e.symm
        have hb' : (b.Pattern % 2 ^ n == b.Pattern) = false := by rw [beq_eq_false_iff_ne]; exact hp
        simp only [hb, hb', if_true, Bool.false_and]
theorem ValidBucket_eq (b : hashindex_Bucket) (hP : k_u32 b.Pattern) (hl : b.Entries.length ≤ 1000) : bodegaref23_ValidBucket (cB b) = some (bv b) := by
  unfold k_u32 at hP
  unfold bodegaref23_ValidBucket bv
  have d1 : (cB b).Depth = b.Depth := rfl
  have d2 : (cB b).Pattern = b.Pattern := rfl
  have d3 : (cB b).Next = cP b.Next := rfl
  have d4 : (cB b).Entries.length = b.Entries.length := by show (b.Entries.map cE).length = _; rw [List.length_map]
  have d5 : bodegaref23_good (cP b.Next) = some (good b.Next.Line b.Next.Gen) := good_eq _
  rw [d1, d2, d3, d4, d5]
  by_cases h1 : b.Depth < 0
  · have : ¬ 0 ≤ b.Depth := by omega
    simp [h1, this]
  · by_cases h2 : b.Depth > 16
    · have : ¬ b.Depth ≤ 16 := by omega
      simp [h1, h2, this]
    · obtain ⟨n, hn⟩ : ∃ n : Nat, b.Depth = n := ⟨b.Depth.toNat, by omega⟩
      have hn16 : n ≤ 16 := by omega
      have e1 : 0 ≤ b.Depth := by omega
      have e2 : b.Depth ≤ 16 := by omega
      have hpw := pow16 n hn16
      have hsh : shlV .u64 1 (IntKind.u64.wrap b.Depth) = 2 ^ n := by
        rw [hn, u64_in' (x := (n : Int)) (by omega), shl_ (k := .u64) (x := 1) (n := (n : Int)) n (by simp [IntKind.bits]; omega), Int.one_mul, u64_in' (x := 2 ^ n) (by omega)]
      have hloop := validR_loop b n hn16 hn hl b.Entries [] 0 rfl (by simp) (fun _ => rfl) (by omega)
      simp only [List.length_nil, Int.natCast_zero] at hloop
      have hnn : b.Depth.toNat = n := by omega
      simp only [h1, h2, e1, e2, decide_true, decide_false, Bool.false_eq_true, if_false, hsh, u64_in' (show 0 ≤ b.Pattern ∧ b.Pattern < 18446744073709551616 by omega), bind_s, hnn, Bool.true_and]
      by_cases hp : b.Pattern % 2 ^ n = b.Pattern
      · have hp' : ¬ b.Pattern ≥ 2 ^ n := by have := Int.emod_lt_of_pos b.Pattern (show (0 : Int) < 2 ^ n by omega); omega
        rcases Bool.eq_false_or_eq_true (good b.Next.Line b.Next.Gen) with g | g
        · by_cases h5 : b.Entries.length ≤ 5
          · have h5' : ¬ (b.Entries.length : Int) > 5 := by omega
            simp only [hp, hp', g, h5, h5', beq_self_eq_true, decide_true, decide_false, Bool.not_true, Bool.false_eq_true, if_false, Bool.true_and, hloop]
          · have h5' : (b.Entries.length : Int) > 5 := by omega
            simp only [hp, hp', g, h5, h5', beq_self_eq_true, decide_true, decide_false, Bool.not_true, Bool.false_eq_true, if_false, if_true, Bool.true_and, Bool.false_and]
        · simp [hp, hp', g]
      · have hp' : b.Pattern ≥ 2 ^ n := by
          by_cases h : b.Pattern < 2 ^ n
          · exact (hp (Int.emod_eq_of_lt hP.1 h)).elim
          · exact Int.not_lt.1 h
        have hb' : (b.Pattern % 2 ^ n == b.Pattern) = false := by rw [beq_eq_false_iff_ne]; exact hp
        simp only [hp', hb', decide_true, if_true, Bool.false_and]
theorem bv_facts {b : hashindex_Bucket} (hP : k_u32 b.Pattern) (h : bv b = true) : (0 ≤ b.Depth ∧ b.Depth ≤ 16) ∧ (0 ≤ b.Pattern ∧ b.Pattern < 65536) ∧ good b.Next.Line b.Next.Gen = true ∧ b.Entries.length ≤ 5 ∧ vEs b.Depth.toNat b.Pattern 0 b.Entries = true := by
  unfold k_u32 at hP
  unfold bv at h
  simp only [Bool.and_eq_true, decide_eq_true_eq, beq_iff_eq] at h
  obtain ⟨h1, h2, h3, h4, h5, h6⟩ := h
  have hpw := pow16 b.Depth.toNat (by omega)
  have := Int.emod_lt_of_pos b.Pattern (show (0 : Int) < 2 ^ b.Depth.toNat by omega)
  exact ⟨⟨h1, h2⟩, by omega, h4, h5, h6⟩
def okE (e : hashindex_Entry) : Prop := (1 ≤ e.Key ∧ e.Key ≤ 4294967294) ∧ vp e.To.Line e.To.Gen = true
theorem vEs_all {n : Nat} {pat : Int} : ∀ {es : List hashindex_Entry} {prev : Int}, 0 ≤ prev → vEs n pat prev es = true → ∀ e ∈ es, okE e
  | [], _, _, _ => by simp
  | e :: es, prev, h0, h => by
    simp only [vEs, Bool.and_eq_true, decide_eq_true_eq] at h
    intro y hy
    rcases List.mem_cons.1 hy with rfl | hy
    · exact ⟨⟨by omega, h.2.1⟩, h.2.2.1⟩
    · exact vEs_all (by omega) h.2.2.2.2 y hy

def aux (b : hashindex_Bucket) : Int := b.Depth + (b.Entries.length : Int) * 256 + b.Pattern * 65536
def we (e : hashindex_Entry) : Int := two (pkP e.To) e.Key
def wd (es : List hashindex_Entry) (i : Nat) : Int := match es[i]? with | some e => we e | none => 0
def fillB (b : hashindex_Bucket) (p : api_Page) : api_Page := ⟨p.Line, p.Head, ⟨two (lo p.Data.a0) (aux b), pkP b.Next, wd b.Entries 0, wd b.Entries 1, wd b.Entries 2, wd b.Entries 3, wd b.Entries 4⟩⟩
theorem or32_lo16 {x y : Int} (h1 : 0 ≤ x ∧ x < 4294967296) (h2 : x % 65536 = 0) (h3 : 0 ≤ y ∧ y < 65536) : bits .or .u32 y x = y + x := by
  rw [bits_or_comm32 (by omega) h1, bits_join .u32 32 (by decide) wraps_u32 16 x y h1.1 h2 (by omega) h3.1 (by omega) (by omega)]; omega
theorem aux_or {b : hashindex_Bucket} (hP : k_u32 b.Pattern) (h : bv b = true) : bits .or .u32 (bits .or .u32 (IntKind.u32.wrap b.Depth) (shlV .u32 (IntKind.u32.wrap (b.Entries.length : Int)) 8)) (shlV .u32 b.Pattern 16) = aux b := by
  obtain ⟨h1, h2, _, h4, _⟩ := bv_facts hP h
  rw [u32_in' (x := b.Depth) (by omega), u32_in' (x := (b.Entries.length : Int)) (by omega), shl_u32_8, shl_u32_16, u32_in' (x := (b.Entries.length : Int) * 256) (by omega), u32_in' (x := b.Pattern * 65536) (by omega),
    or32_lo8 (x := (b.Entries.length : Int) * 256) (by omega) (by omega) (by omega), or32_lo16 (by omega) (by omega) (by omega)]
  rfl
theorem aux_r {b : hashindex_Bucket} (hP : k_u32 b.Pattern) (h : bv b = true) : 0 ≤ aux b ∧ aux b < 4294967296 := by
  obtain ⟨h1, h2, _, h4, _⟩ := bv_facts hP h
  unfold aux; omega
theorem tag2_eq {a x : Int} (h : k_u64 a) (hx : 0 ≤ x ∧ x < 4294967296) : (pointer_UnpackTag a).bind (fun v => pointer_PackTag ⟨v.Kind, v.Gen, x⟩) = some (two (lo a) x) := by
  unfold k_u64 at h
  unfold pointer_UnpackTag pointer_PackTag
  rw [bind_s]
  simp only
  rw [and64_255 (x := a) (by omega), i64_in' (x := a % 256) (by omega), u64_in' (x := a % 256) (by omega), and64_255 (x := a % 256) (by omega), shr_u64_8, and64_gen (x := a / 256) (by omega), i64_in' (x := a / 256 % 16777216) (by omega),
    u64_in' (x := a / 256 % 16777216) (by omega), and64_gen (x := a / 256 % 16777216) (by omega), shl_u64_8, u64_in' (x := a / 256 % 16777216 % 16777216 * 256) (by omega),
    or64_lo8 (x := a / 256 % 16777216 % 16777216 * 256) (by omega) (by omega) (by omega), u64_in' (x := x) (by omega), shl_u64_32, u64_in' (x := x * 4294967296) (by omega), or64_lo32 (by omega) (by omega) (by omega)]
  congr 1
  unfold lo two
  omega
def setAll : A7 Int → Int → List hashindex_Entry → A7 Int
  | x, _, [] => x
  | x, i, e :: es => setAll (A7.set x (2 + i) (we e)) (i + 1) es
theorem we_or {e : hashindex_Entry} (h : okE e) : bits .or .u64 (shlV .u64 (IntKind.u64.wrap e.Key) 32) (IntKind.u64.wrap (pkP e.To)) = we e := by
  obtain ⟨h1, _⟩ := h
  have := pkP_r e.To
  rw [u64_in' (x := e.Key) (by omega), u64_in' (x := pkP e.To) (by omega), shl_u64_32, u64_in' (x := e.Key * 4294967296) (by omega), or64_hi32 (by omega) (by omega) (by omega)]
  unfold we two; omega
theorem we_add {e : hashindex_Entry} (h : okE e) : IntKind.u64.wrap (shlV .u64 (IntKind.u64.wrap e.Key) 32 + IntKind.u64.wrap (pkP e.To)) = we e := by
  obtain ⟨h1, _⟩ := h
  have := pkP_r e.To
  rw [u64_in' (x := e.Key) (by omega), u64_in' (x := pkP e.To) (by omega), shl_u64_32, u64_in' (x := e.Key * 4294967296) (by omega), u64_in' (by omega)]
  unfold we two; omega
theorem fill_loop (b : hashindex_Bucket) (p : api_Page) (hl : b.Entries.length ≤ 5) (ha : ∀ e ∈ b.Entries, okE e) : ∀ (post pre : List hashindex_Entry) (x : A7 Int), b.Entries = pre ++ post →
    iter (hashindex_Bucket_fill_L1 b p) (x, (pre.length : Int)) = some ⟨p.Line, p.Head, setAll x (pre.length : Int) post⟩
  | [], pre, x, h => by
    rw [iter_eq]
    rw [List.append_nil] at h
    simp only [hashindex_Bucket_fill_L1, h, Int.lt_irrefl, decide_false, Bool.false_eq_true, if_false, Option.map_some, bind_s, setAll]
  | e :: post, pre, x, h => by
    rw [iter_eq]
    have hlt : (pre.length : Int) < (b.Entries.length : Int) := by rw [h]; simp; omega
    have hi : idx b.Entries (pre.length : Int) = some e := by rw [h]; exact idx_at
    have ih := fill_loop b p hl ha post (pre ++ [e]) (A7.set x (2 + (pre.length : Int)) (we e)) (by rw [h]; simp)
    simp only [List.length_append, List.length_cons, List.length_nil, Nat.zero_add, Int.natCast_add, Int.natCast_one] at ih
    have he := ha e (by rw [h]; simp)
    have hb : 0 ≤ 2 + (pre.length : Int) ∧ 2 + (pre.length : Int) < 7 := by omega
    simp only [hashindex_Bucket_fill_L1, hlt, decide_true, if_true, hi, PackP_eq, bind_s, we_or he, i64_in' (show -9223372036854775808 ≤ (pre.length : Int) + 1 ∧ (pre.length : Int) + 1 < 9223372036854775808 by omega), i64_in' (show -9223372036854775808 ≤ 2 + (pre.length : Int) ∧ 2 + (pre.length : Int) < 9223372036854775808 by omega), hb, and_self]
    exact ih
theorem fillR_loop (b : hashindex_Bucket) (p : api_Page) (hl : b.Entries.length ≤ 5) (ha : ∀ e ∈ b.Entries, okE e) : ∀ (post pre : List hashindex_Entry) (x : A7 Int), b.Entries = pre ++ post →
    iter (bodegaref23_WriteBucket_L1 (cB b) p) (x, (pre.length : Int)) = some (⟨p.Line, p.Head, setAll x (pre.length : Int) post⟩, 0)
  | [], pre, x, h => by
    rw [iter_eq]
    rw [List.append_nil] at h
    simp only [bodegaref23_WriteBucket_L1, cB, List.length_map, h, Int.lt_irrefl, decide_false, Bool.false_eq_true, if_false, Option.map_some, bind_s, setAll]
  | e :: post, pre, x, h => by
    rw [iter_eq]
    have hlt : (pre.length : Int) < ((cB b).Entries.length : Int) := by show (pre.length : Int) < ((b.Entries.map cE).length : Int); rw [List.length_map, h]; simp; omega
    have hi : idx (cB b).Entries (pre.length : Int) = some (cE e) := by
      show idx (b.Entries.map cE) _ = _
      rw [h, List.map_append, List.map_cons]
      have := @idx_at _ (pre.map cE) (post.map cE) (cE e)
      rwa [List.length_map] at this
    have hll : pre.length + 1 ≤ 5 := by rw [h] at hl; simp at hl; omega
    have ih := fillR_loop b p hl ha post (pre ++ [e]) (A7.set x (2 + (pre.length : Int)) (we e)) (by rw [h]; simp)
    simp only [List.length_append, List.length_cons, List.length_nil, Nat.zero_add, Int.natCast_add, Int.natCast_one] at ih
    have he := ha e (by rw [h]; simp)
    have hb : 0 ≤ 2 + (pre.length : Int) ∧ 2 + (pre.length : Int) < 7 := by omega
    have k1 : (cE e).Key = e.Key := rfl
    have k2 : (cE e).To = cP e.To := rfl
    simp only [bodegaref23_WriteBucket_L1, hlt, decide_true, if_true, hi, bind_s, k1, k2, PackC_eq, we_add he, i64_in' (show -9223372036854775808 ≤ (pre.length : Int) + 1 ∧ (pre.length : Int) + 1 < 9223372036854775808 by omega), i64_in' (show -9223372036854775808 ≤ 2 + (pre.length : Int) ∧ 2 + (pre.length : Int) < 9223372036854775808 by omega), hb, and_self]
    exact ih
theorem setAll_eq (t n : Int) : ∀ (es : List hashindex_Entry), es.length ≤ 5 → setAll ⟨t, n, 0, 0, 0, 0, 0⟩ 0 es = ⟨t, n, wd es 0, wd es 1, wd es 2, wd es 3, wd es 4⟩
  | [], _ => rfl
  | [a], _ => rfl
  | [a, b], _ => rfl
  | [a, b, c], _ => rfl
  | [a, b, c, d], _ => rfl
  | [a, b, c, d, e], _ => rfl
  | a :: b :: c :: d :: e :: f :: r, h => by simp at h
theorem fillB_eq (b : hashindex_Bucket) (p : api_Page) (hP : k_u32 b.Pattern) (h : bv b = true) (h0 : k_u64 p.Data.a0) : hashindex_Bucket_fill b p = some (fillB b p) := by
  obtain ⟨h1, h2, h3, h4, h5⟩ := bv_facts hP h
  unfold hashindex_Bucket_fill
  rw [aux_or hP h]
  have ht := tag2_eq (x := aux b) h0 (aux_r hP h)
  rw [show ((pointer_UnpackTag p.Data.a0).bind fun v1 => (pointer_PackTag (⟨v1.Kind, v1.Gen, aux b⟩ : pointer_Tag)).bind fun v2 => (pointer_Pack b.Next).bind fun v3 => iter (hashindex_Bucket_fill_L1 b p) ((⟨v2, (IntKind.u64.wrap v3), 0, 0, 0, 0, 0⟩ : (A7 Int)), 0)) =
    (((pointer_UnpackTag p.Data.a0).bind fun v1 => pointer_PackTag (⟨v1.Kind, v1.Gen, aux b⟩ : pointer_Tag)).bind fun v2 => (pointer_Pack b.Next).bind fun v3 => iter (hashindex_Bucket_fill_L1 b p) ((⟨v2, (IntKind.u64.wrap v3), 0, 0, 0, 0, 0⟩ : (A7 Int)), 0)) from by rw [Option.bind_assoc], ht, bind_s, PackP_eq, bind_s]
  have := pkP_r b.Next
  rw [u64_in' (x := pkP b.Next) (by omega)]
  have hloop := fill_loop b p h4 (vEs_all (by omega) h5) b.Entries [] ⟨two (lo p.Data.a0) (aux b), pkP b.Next, 0, 0, 0, 0, 0⟩ rfl
  simp only [List.length_nil, Int.natCast_zero] at hloop
  rw [hloop, setAll_eq _ _ _ h4]
  rfl
def wrB (p : api_Page) (b : hashindex_Bucket) : api_Page × Int := if p.Data.a0 % 256 = 2 ∧ bv b = true then (fillB b p, 0) else (zeroPg, 1)
theorem WriteBucket_eq (p : api_Page) (b : hashindex_Bucket) (hP : k_u32 b.Pattern) (hl : b.Entries.length ≤ 1000) (h0 : k_u64 p.Data.a0) : hashindex_WriteBucket p b = some (wrB p b) := by
  unfold hashindex_WriteBucket wrB
  rw [isKind_eq h0, bind_s, Bucket_valid_eq b hP hl, bind_s]
  by_cases hk : p.Data.a0 % 256 = 2
  · rcases Bool.eq_false_or_eq_true (bv b) with hb | hb
    · simp [hk, hb, fillB_eq b p hP hb h0]
    · simp [hk, hb, zeroPg]
  · simp [hk, zeroPg]
theorem tag2R {a x : Int} (h : k_u64 a) (hx : 0 ≤ x ∧ x < 4294967296) (h3 : a % 256 = 2) : (bodegaref19_Tag 2 (IntKind.i64.wrap (Int.tmod (IntKind.u64.wrap (Int.tdiv a 256)) 16777216)) x) = some (two (lo a) x) := by
  unfold k_u64 at h
  unfold bodegaref19_Tag
  rw [tdiv_pos h.1, u64_in' (x := a / 256) (by omega), tmod_pos (x := a / 256) (by omega), i64_in' (x := a / 256 % 16777216) (by omega), u64_in' (x := a / 256 % 16777216) (by omega), u64_in' (x := 2) (by omega), u64_in' (x := x) (by omega), shl_u64_32, u64_in' (x := x * 4294967296) (by omega),
    tmod_pos (x := a / 256 % 16777216) (by omega), u64_in' (x := a / 256 % 16777216 % 16777216 * 256) (by omega), tmod_pos (x := 2) (by omega), u64_in' (x := 2 % 256 + a / 256 % 16777216 % 16777216 * 256) (by omega), u64_in' (by omega)]
  congr 1
  unfold lo two
  omega
theorem WriteBucketR_eq (p : api_Page) (b : hashindex_Bucket) (hP : k_u32 b.Pattern) (hl : b.Entries.length ≤ 1000) (h0 : k_u64 p.Data.a0) : bodegaref23_WriteBucket p (cB b) = some (wrB p b) := by
  have hh := h0
  unfold k_u64 at h0
  unfold bodegaref23_WriteBucket bodegaref19_Kind bodegaref19_Gen wrB
  rw [bind_s, tmod_pos (x := p.Data.a0) h0.1, i64_in' (x := p.Data.a0 % 256) (by omega), ValidBucket_eq b hP hl, bind_s, bind_s]
  by_cases hk : p.Data.a0 % 256 = 2
  · rcases Bool.eq_false_or_eq_true (bv b) with hb | hb
    · obtain ⟨h1, h2, h3, h4, h5⟩ := bv_facts hP hb
      have ea : IntKind.u32.wrap (IntKind.u32.wrap (IntKind.u32.wrap (cB b).Depth + IntKind.u32.wrap (256 * IntKind.u32.wrap ((cB b).Entries.length : Int))) + shlV .u32 (cB b).Pattern 16) = aux b := by
        show IntKind.u32.wrap (IntKind.u32.wrap (IntKind.u32.wrap b.Depth + IntKind.u32.wrap (256 * IntKind.u32.wrap ((b.Entries.map cE).length : Int))) + shlV .u32 b.Pattern 16) = aux b
        rw [List.length_map, u32_in' (x := b.Depth) (by omega), u32_in' (x := (b.Entries.length : Int)) (by omega), u32_in' (x := 256 * (b.Entries.length : Int)) (by omega), u32_in' (x := b.Depth + 256 * (b.Entries.length : Int)) (by omega), shl_u32_16, u32_in' (x := b.Pattern * 65536) (by omega), u32_in' (by omega)]
        unfold aux; omega
      have hloop := fillR_loop b p h4 (vEs_all (by omega) h5) b.Entries [] ⟨two (lo p.Data.a0) (aux b), pkP b.Next, 0, 0, 0, 0, 0⟩ rfl
      simp only [List.length_nil, Int.natCast_zero] at hloop
      have hn := pkP_r b.Next
      have d3 : (cB b).Next = cP b.Next := rfl
      simp only [hk, hb, bne_self_eq_false, Bool.not_true, Bool.false_eq_true, if_false, and_self, if_true, ea, tag2R hh (aux_r hP hb) hk, bind_s, d3, PackC_eq, u64_in' (show 0 ≤ pkP b.Next ∧ pkP b.Next < 18446744073709551616 by omega), hloop, setAll_eq _ _ _ h4]
      rfl
    · simp [hk, hb, zeroPg]
  · simp [hk, zeroPg]
end Go.Sh
end
section
namespace Go.Sh
set_option linter.unusedSimpArgs false
set_option linter.unusedVariables false
set_option maxRecDepth 10000
set_option maxHeartbeats 1000000

def ent (w : Int) : hashindex_Entry := ⟨hi w, dp (lo w)⟩
def ents (p : api_Page) : List hashindex_Entry := [ent p.Data.a2, ent p.Data.a3, ent p.Data.a4, ent p.Data.a5, ent p.Data.a6]
def cn (p : api_Page) : Int := hi p.Data.a0 / 256 % 256
def bk (p : api_Page) : hashindex_Bucket := ⟨hi p.Data.a0 % 256, hi p.Data.a0 / 65536, dp (lo p.Data.a1), (ents p).take (cn p).toNat⟩
def zeroB : hashindex_Bucket := ⟨0, 0, ⟨0, 0⟩, []⟩
def tzc (c : Int) (p : api_Page) : Prop := (c ≤ 0 → p.Data.a2 = 0) ∧ (c ≤ 1 → p.Data.a3 = 0) ∧ (c ≤ 2 → p.Data.a4 = 0) ∧ (c ≤ 3 → p.Data.a5 = 0) ∧ (c ≤ 4 → p.Data.a6 = 0)
def tz (p : api_Page) : Prop := (cn p ≤ 0 → p.Data.a2 = 0) ∧ (cn p ≤ 1 → p.Data.a3 = 0) ∧ (cn p ≤ 2 → p.Data.a4 = 0) ∧ (cn p ≤ 3 → p.Data.a5 = 0) ∧ (cn p ≤ 4 → p.Data.a6 = 0)
instance (p : api_Page) : Decidable (tz p) := by unfold tz; infer_instance
def rdBk (p : api_Page) : hashindex_Bucket × Int := if p.Data.a0 % 256 = 2 ∧ cn p ≤ 5 ∧ okw (lo p.Data.a1) = true ∧ bv (bk p) = true ∧ hi p.Data.a1 = 0 ∧ tz p then (bk p, 0) else (zeroB, 14)

theorem and8 {x : Int} (h : 0 ≤ x ∧ x < 4294967296) : IntKind.i64.wrap (bits .and .u32 (shrV .u32 x 8) 255) = x / 256 % 256 := by
  rw [shr_u32_8, and32_255 (x := x / 256) (by omega), i64_in' (by omega)]
theorem tagOf {a : Int} (h : k_u64 a) : pointer_UnpackTag a = some ⟨a % 256, a / 256 % 16777216, hi a⟩ := by
  unfold k_u64 at h
  unfold pointer_UnpackTag
  rw [and64_255 (x := a) (by omega), i64_in' (x := a % 256) (by omega), shr_u64_8, and64_gen (x := a / 256) (by omega), i64_in' (x := a / 256 % 16777216) (by omega), shr_u64_32, u32_hi h]
theorem rb_step (p : api_Page) (h : k_A7 k_u64 p.Data) (t : pointer_Tag) (v) (l : List hashindex_Entry) (i c : Int) (hc : IntKind.i64.wrap (bits .and .u32 (shrV .u32 t.Aux 8) 255) = c) (hc5 : 0 ≤ c ∧ c ≤ 5) (hi' : 0 ≤ i ∧ i < c) (hl : l.length ≤ 5) :
    iter (hashindex_ReadBucket_L1 t p v) (l, i) = iter (hashindex_ReadBucket_L1 t p v) (l ++ [ent (A5.get ⟨p.Data.a2, p.Data.a3, p.Data.a4, p.Data.a5, p.Data.a6⟩ i)], i + 1) := by
  rw [iter_eq]
  obtain ⟨_, _, h2, h3, h4, h5, h6⟩ := h
  have hw : k_u64 (A5.get ⟨p.Data.a2, p.Data.a3, p.Data.a4, p.Data.a5, p.Data.a6⟩ i) := by unfold A5.get; split <;> (try assumption); split <;> (try assumption); split <;> (try assumption); split <;> assumption
  have e1 : IntKind.i64.wrap (2 + c) = 2 + c := i64_in' (by omega)
  have e1' : (2 + c - 2 : Int) = c := by omega
  have e2 : ((c.toNat : Nat) : Int) = c := by omega
  have e3 : IntKind.i64.wrap (i + 1) = i + 1 := i64_in' (by omega)
  have hm : (l.length + 1) * 24 ≤ maxRows ∧ l.length + 1 ≤ maxRows := by unfold maxRows; omega
  have hb : 0 ≤ i ∧ i < c ∧ i < 5 := by omega
  simp only [hashindex_ReadBucket_L1, hc, e1, e1', e2, e3, hi'.2, hb, decide_true, if_true, and_self]
  generalize A5.get ⟨p.Data.a2, p.Data.a3, p.Data.a4, p.Data.a5, p.Data.a6⟩ i = w at hw
  unfold k_u64 at hw
  simp only [u32_lo, Unpack_eq lo_r, bind_s, hm, and_self, if_true, shr_u64_32]
  rw [← u32_lo, u32_hi hw]
  rfl
theorem rb_end (p : api_Page) (t : pointer_Tag) (v) (l : List hashindex_Entry) (c : Int) (hc : IntKind.i64.wrap (bits .and .u32 (shrV .u32 t.Aux 8) 255) = c) (hc5 : 0 ≤ c ∧ c ≤ 5) :
    iter (hashindex_ReadBucket_L1 t p v) (l, c) = hashindex_ReadBucket_J1 v t p l := by
  rw [iter_eq]
  have e1 : IntKind.i64.wrap (2 + c) - 2 = c := by rw [i64_in' (by omega)]; omega
  have e2 : ((c.toNat : Nat) : Int) = c := by omega
  simp only [hashindex_ReadBucket_L1, hc, e1, e2, Int.lt_irrefl, decide_false, Bool.false_eq_true, if_false]
  cases hashindex_ReadBucket_J1 v t p l <;> rfl
theorem rb_all (p : api_Page) (h : k_A7 k_u64 p.Data) (t : pointer_Tag) (v) (c : Int) (hc : IntKind.i64.wrap (bits .and .u32 (shrV .u32 t.Aux 8) 255) = c) (hc5 : 0 ≤ c ∧ c ≤ 5) :
    iter (hashindex_ReadBucket_L1 t p v) ([], 0) = hashindex_ReadBucket_J1 v t p ((ents p).take c.toNat) := by
  have hcs : c = 0 ∨ c = 1 ∨ c = 2 ∨ c = 3 ∨ c = 4 ∨ c = 5 := by omega
  rcases hcs with e | e | e | e | e | e <;> subst e
  · rw [rb_end p t v _ _ hc hc5]
    rfl
  · rw [rb_step p h t v _ (0) _ hc hc5 (by omega) (by simp), show (0+1 : Int) = 1 from rfl, rb_end p t v _ _ hc hc5]
    rfl
  · rw [rb_step p h t v _ (0) _ hc hc5 (by omega) (by simp), rb_step p h t v _ (0+1) _ hc hc5 (by omega) (by simp), show (0+1+1 : Int) = 2 from rfl, rb_end p t v _ _ hc hc5]
    rfl
  · rw [rb_step p h t v _ (0) _ hc hc5 (by omega) (by simp), rb_step p h t v _ (0+1) _ hc hc5 (by omega) (by simp), rb_step p h t v _ (0+1+1) _ hc hc5 (by omega) (by simp), show (0+1+1+1 : Int) = 3 from rfl, rb_end p t v _ _ hc hc5]
    rfl
  · rw [rb_step p h t v _ (0) _ hc hc5 (by omega) (by simp), rb_step p h t v _ (0+1) _ hc hc5 (by omega) (by simp), rb_step p h t v _ (0+1+1) _ hc hc5 (by omega) (by simp), rb_step p h t v _ (0+1+1+1) _ hc hc5 (by omega) (by simp), show (0+1+1+1+1 : Int) = 4 from rfl, rb_end p t v _ _ hc hc5]
    rfl
  · rw [rb_step p h t v _ (0) _ hc hc5 (by omega) (by simp), rb_step p h t v _ (0+1) _ hc hc5 (by omega) (by simp), rb_step p h t v _ (0+1+1) _ hc hc5 (by omega) (by simp), rb_step p h t v _ (0+1+1+1) _ hc hc5 (by omega) (by simp), rb_step p h t v _ (0+1+1+1+1) _ hc hc5 (by omega) (by simp), show (0+1+1+1+1+1 : Int) = 5 from rfl, rb_end p t v _ _ hc hc5]
    rfl
theorem fill_bk (p : api_Page) (h : k_A7 k_u64 p.Data) (hc : cn p ≤ 5) (ho : okw (lo p.Data.a1) = true) (hv : bv (bk p) = true) :
    (fillB (bk p) p).Data = ⟨p.Data.a0, lo p.Data.a1, if cn p ≤ 0 then 0 else p.Data.a2, if cn p ≤ 1 then 0 else p.Data.a3, if cn p ≤ 2 then 0 else p.Data.a4, if cn p ≤ 3 then 0 else p.Data.a5, if cn p ≤ 4 then 0 else p.Data.a6⟩ := by
  obtain ⟨h0, h1, h2, h3, h4, h5, h6⟩ := h
  unfold k_u64 at h0 h1 h2 h3 h4 h5 h6
  have hP : k_u32 (bk p).Pattern := by show k_u32 (hi p.Data.a0 / 65536); have := hi_r h0; unfold k_u32; omega
  obtain ⟨_, _, _, _, hes⟩ := bv_facts hP hv
  have hall := vEs_all (by omega) hes
  have hc0 : 0 ≤ cn p := by unfold cn; omega
  have hh := hi_r h0
  have hn : pkP (bk p).Next = lo p.Data.a1 := pk_dp ho lo_r
  have hlen : ((bk p).Entries.length : Int) = cn p := by
    show (((ents p).take (cn p).toNat).length : Int) = cn p
    rw [List.length_take]
    show ((min (cn p).toNat 5 : Nat) : Int) = cn p
    omega
  have haux : aux (bk p) = hi p.Data.a0 := by
    unfold aux
    rw [hlen]
    show hi p.Data.a0 % 256 + cn p * 256 + hi p.Data.a0 / 65536 * 65536 = hi p.Data.a0
    unfold cn
    omega
  have hw : ∀ w, okE (ent w) → 0 ≤ w ∧ w ≤ 18446744073709551615 → we (ent w) = w := fun w hk hw => by
    unfold we
    show two (pkP (dp (lo w))) (hi w) = w
    have : okw (lo w) = true := by unfold okw; rw [show vp (lo w % 256) (lo w / 256) = true from hk.2]; simp
    rw [pk_dp this lo_r, two_lohi]
  unfold fillB
  rw [haux, two_lohi, hn]
  have hE : (bk p).Entries = (ents p).take (cn p).toNat := rfl
  rw [hE] at hall ⊢
  have hcs : cn p = 0 ∨ cn p = 1 ∨ cn p = 2 ∨ cn p = 3 ∨ cn p = 4 ∨ cn p = 5 := by omega
  rcases hcs with e | e | e | e | e | e <;> rw [e] at hall ⊢ <;> simp only [ents, Int.toNat_zero, Int.reduceToNat, List.take_zero, List.take_succ_cons, List.mem_cons, List.not_mem_nil, or_false, forall_eq_or_imp, forall_eq] at hall ⊢ <;> simp only [wd, List.getElem?_nil, List.getElem?_cons_zero, List.getElem?_cons_succ, Int.reduceLE, if_true, if_false]
  · rw [hw _ hall h2]
  · obtain ⟨x0, x1⟩ := hall
    rw [hw _ x0 h2, hw _ x1 h3]
  · obtain ⟨x0, x1, x2⟩ := hall
    rw [hw _ x0 h2, hw _ x1 h3, hw _ x2 h4]
  · obtain ⟨x0, x1, x2, x3⟩ := hall
    rw [hw _ x0 h2, hw _ x1 h3, hw _ x2 h4, hw _ x3 h5]
  · obtain ⟨x0, x1, x2, x3, x4⟩ := hall
    rw [hw _ x0 h2, hw _ x1 h3, hw _ x2 h4, hw _ x3 h5, hw _ x4 h6]
theorem pat_k {p : api_Page} (h : k_A7 k_u64 p.Data) : k_u32 (bk p).Pattern := by
  obtain ⟨h0, _⟩ := h
  unfold k_u64 at h0
  show k_u32 (hi p.Data.a0 / 65536); have := hi_r h0; unfold k_u32; omega
theorem bk_len (p : api_Page) : (bk p).Entries.length ≤ 1000 := by
  show ((ents p).take (cn p).toNat).length ≤ 1000
  rw [List.length_take]
  show min (cn p).toNat 5 ≤ 1000
  omega
theorem ite0 {c : Prop} [Decidable c] {b : Int} (h : c → b = 0) : (if c then 0 else b) = b := by
  by_cases hc : c
  · rw [if_pos hc, h hc]
  · rw [if_neg hc]
theorem ReadBucket_eq (p : api_Page) (h : k_A7 k_u64 p.Data) : hashindex_ReadBucket p = some (rdBk p) := by
  have hh := h
  unfold hashindex_ReadBucket rdBk
  rw [tagOf h.1, bind_s]
  obtain ⟨h0, h1, _⟩ := h
  have h0k := h0
  unfold k_u64 at h0 h1
  have ha := hi_r h0
  have hcn : IntKind.i64.wrap (bits .and .u32 (shrV .u32 (hi p.Data.a0) 8) 255) = cn p := and8 ha
  have hc0 : 0 ≤ cn p := by unfold cn; omega
  simp only [hcn, u32_lo, unpack_eq lo_r, bind_s]
  by_cases hk : p.Data.a0 % 256 = 2
  · by_cases hc : cn p ≤ 5
    · have hc' : ¬ cn p > 5 := by omega
      have hb : 2 ≤ IntKind.i64.wrap (2 + cn p) ∧ IntKind.i64.wrap (2 + cn p) ≤ 7 := by rw [i64_in' (by omega)]; omega
      simp only [hk, hc, hc', hb, bne_self_eq_false, decide_false, Bool.false_eq_true, if_false, and_self, if_true, true_and]
      rw [rb_all p hh (⟨2, p.Data.a0 / 256 % 16777216, hi p.Data.a0⟩ : pointer_Tag) _ (cn p) hcn ⟨hc0, hc⟩]
      unfold hashindex_ReadBucket_J1
      have eb : (⟨IntKind.i64.wrap (bits .and .u32 (hi p.Data.a0) 255), shrV .u32 (hi p.Data.a0) 16, ⟨lo p.Data.a1 % 256, lo p.Data.a1 / 256⟩, (ents p).take (cn p).toNat⟩ : hashindex_Bucket) = bk p := by
        unfold bk dp
        rw [and32_255 (x := hi p.Data.a0) ha, i64_in' (x := hi p.Data.a0 % 256) (by omega), shr_u32_16 (x := hi p.Data.a0)]
      simp only [eb, Bucket_valid_eq _ (pat_k hh) (bk_len p), bind_s]
      rcases Bool.eq_false_or_eq_true (okw (lo p.Data.a1)) with ho | ho
      · rcases Bool.eq_false_or_eq_true (bv (bk p)) with hv | hv
        · simp only [ho, hv, Bool.not_true, Bool.false_eq_true, if_false, fillB_eq (bk p) p (pat_k hh) hv h0k, bind_s, fill_bk p hh hc ho hv, true_and]
          by_cases ht : hi p.Data.a1 = 0 ∧ tz p
          · have e1 : lo p.Data.a1 = p.Data.a1 := by have := ht.1; unfold lo; unfold hi at this; omega
            obtain ⟨_, t2, t3, t4, t5, t6⟩ := ht
            have f2 : (if cn p ≤ 0 then 0 else p.Data.a2) = p.Data.a2 := ite0 t2
            have f3 : (if cn p ≤ 1 then 0 else p.Data.a3) = p.Data.a3 := ite0 t3
            have f4 : (if cn p ≤ 2 then 0 else p.Data.a4) = p.Data.a4 := ite0 t4
            have f5 : (if cn p ≤ 3 then 0 else p.Data.a5) = p.Data.a5 := ite0 t5
            have f6 : (if cn p ≤ 4 then 0 else p.Data.a6) = p.Data.a6 := ite0 t6
            have hT : hi p.Data.a1 = 0 ∧ tz p := ⟨by assumption, t2, t3, t4, t5, t6⟩
            rw [if_pos hT]
            simp only [e1, f2, f3, f4, f5, f6, beq_self_eq_true, Bool.and_self, Bool.not_true, Bool.false_eq_true, if_false]
          · rw [if_neg ht]
            have e' : ((p.Data.a0 == p.Data.a0) && ((lo p.Data.a1 == p.Data.a1) && (((if cn p ≤ 0 then 0 else p.Data.a2) == p.Data.a2) && (((if cn p ≤ 1 then 0 else p.Data.a3) == p.Data.a3) && (((if cn p ≤ 2 then 0 else p.Data.a4) == p.Data.a4) && (((if cn p ≤ 3 then 0 else p.Data.a5) == p.Data.a5) && ((if cn p ≤ 4 then 0 else p.Data.a6) == p.Data.a6))))))) = false := by
              rw [Bool.eq_false_iff]
              intro hx
              simp only [Bool.and_eq_true, beq_iff_eq] at hx
              obtain ⟨_, x1, x2, x3, x4, x5, x6⟩ := hx
              refine ht ⟨?_, ?_, ?_, ?_, ?_, ?_⟩
              · unfold lo at x1; unfold hi; omega
              · intro hle; rw [if_pos hle] at x2; exact x2.symm
              · intro hle; rw [if_pos hle] at x3; exact x3.symm
              · intro hle; rw [if_pos hle] at x4; exact x4.symm
              · intro hle; rw [if_pos hle] at x5; exact x5.symm
              · intro hle; rw [if_pos hle] at x6; exact x6.symm
            simp only [e', Bool.not_false, if_true]
            rfl
        · simp only [ho, hv, Bool.not_true, Bool.not_false, Bool.false_eq_true, if_false, if_true, false_and, and_false]
          rfl
      · simp only [ho, Bool.not_false, if_true, Bool.false_eq_true, false_and, if_false]
        rfl
    · have hc' : cn p > 5 := by omega
      simp only [hk, hc, hc', bne_self_eq_false, decide_true, Bool.false_eq_true, if_false, if_true, false_and, and_false]
      rfl
  · have : (p.Data.a0 % 256 != 2) = true := by simp [hk]
    simp only [this, if_true, hk, false_and, if_false]
    rfl
theorem rc_step (p : api_Page) (h : k_A7 k_u64 p.Data) (x : Int) (v) (l : List hashindex_Entry) (i c : Int) (hc : IntKind.i64.wrap (Int.tmod (IntKind.u32.wrap (Int.tdiv x 256)) 256) = c) (hi' : 0 ≤ i ∧ i < 5) (hl : l.length ≤ 5) :
    iter (bodegaref23_ReadBucket_L1 x p v) (l.map cE, i) = if c ≤ i then (if A7.get p.Data (2 + i) = 0 then iter (bodegaref23_ReadBucket_L1 x p v) (l.map cE, i + 1) else some (cB zeroB, 14)) else iter (bodegaref23_ReadBucket_L1 x p v) ((l ++ [ent (A7.get p.Data (2 + i))]).map cE, i + 1) := by
  rw [iter_eq]
  have hw : k_u64 (A7.get p.Data (2 + i)) := by
    obtain ⟨h0, h1, h2, h3, h4, h5, h6⟩ := h
    unfold A7.get; split <;> (try assumption); split <;> (try assumption); split <;> (try assumption); split <;> (try assumption); split <;> (try assumption); split <;> assumption
  have e2 : IntKind.i64.wrap (2 + i) = 2 + i := i64_in' (by omega)
  have e3 : IntKind.i64.wrap (i + 1) = i + 1 := i64_in' (by omega)
  have hm : ((l.map cE).length + 1) * 24 ≤ maxRows ∧ (l.map cE).length + 1 ≤ maxRows := by rw [List.length_map]; unfold maxRows; omega
  have hb : 0 ≤ 2 + i ∧ 2 + i < 7 := by omega
  have i5 : i < 5 := hi'.2
  simp only [bodegaref23_ReadBucket_L1, i5, e2, e3, hb, hc, decide_true, if_true, and_self]
  generalize A7.get p.Data (2 + i) = w at hw
  unfold k_u64 at hw
  by_cases hci : c ≤ i
  · have : i ≥ c := hci
    simp only [this, decide_true, if_true]
    by_cases hw0 : w = 0
    · simp only [hw0, bne_self_eq_false, Bool.false_eq_true, if_false, bind_s, if_true]
    · have hw1 : (w != 0) = true := by simp [hw0]
      simp only [hw1, hw0, if_true, Option.map_some, bind_s, if_false]
      rfl
  · have : ¬ i ≥ c := hci
    simp only [this, hci, decide_false, Bool.false_eq_true, if_false, u32_lo, UnpackR_eq lo_r, bind_s, hm, and_self, if_true, shr_u64_32, u32_hi hw, List.map_append]
    rfl
theorem rc_end (p : api_Page) (x : Int) (v) (l : List hashindex_Entry) : iter (bodegaref23_ReadBucket_L1 x p v) (l.map cE, 5) = bodegaref23_ReadBucket_J1 x v (l.map cE) := by
  rw [iter_eq]
  simp only [bodegaref23_ReadBucket_L1, Int.lt_irrefl, decide_false, Bool.false_eq_true, if_false]
  cases bodegaref23_ReadBucket_J1 x v (l.map cE) <;> rfl
theorem rc_all' (p : api_Page) (h : k_A7 k_u64 p.Data) (x : Int) (v) (c : Int) (hc : IntKind.i64.wrap (Int.tmod (IntKind.u32.wrap (Int.tdiv x 256)) 256) = c) (hc0 : 0 ≤ c) (hc5 : c ≤ 5) :
    (tzc c p → iter (bodegaref23_ReadBucket_L1 x p v) (([] : List hashindex_Entry).map cE, 0) = bodegaref23_ReadBucket_J1 x v (((ents p).take c.toNat).map cE)) ∧ (¬ tzc c p → iter (bodegaref23_ReadBucket_L1 x p v) (([] : List hashindex_Entry).map cE, 0) = some (cB zeroB, 14)) := by
  have hcs : c = 0 ∨ c = 1 ∨ c = 2 ∨ c = 3 ∨ c = 4 ∨ c = 5 := by omega
  unfold tzc
  rcases hcs with e | e | e | e | e | e <;> subst e
  · rw [rc_step p h x v _ (0) _ hc (by omega) (by simp), if_pos (by omega)]
    rw [show A7.get p.Data (2 + (0)) = p.Data.a2 from rfl]
    by_cases z0 : p.Data.a2 = 0
    rotate_left
    · rw [if_neg z0]
      exact ⟨fun t => absurd (by obtain ⟨t0, t1, t2, t3, t4⟩ := t; exact t0 (by omega)) z0, fun _ => rfl⟩
    rw [if_pos z0]
    rw [rc_step p h x v _ (0+1) _ hc (by omega) (by simp), if_pos (by omega)]
    rw [show A7.get p.Data (2 + (0+1)) = p.Data.a3 from rfl]
    by_cases z1 : p.Data.a3 = 0
    rotate_left
    · rw [if_neg z1]
      exact ⟨fun t => absurd (by obtain ⟨t0, t1, t2, t3, t4⟩ := t; exact t1 (by omega)) z1, fun _ => rfl⟩
    rw [if_pos z1]
    rw [rc_step p h x v _ (0+1+1) _ hc (by omega) (by simp), if_pos (by omega)]
    rw [show A7.get p.Data (2 + (0+1+1)) = p.Data.a4 from rfl]
    by_cases z2 : p.Data.a4 = 0
    rotate_left
    · rw [if_neg z2]
      exact ⟨fun t => absurd (by obtain ⟨t0, t1, t2, t3, t4⟩ := t; exact t2 (by omega)) z2, fun _ => rfl⟩
    rw [if_pos z2]
    rw [rc_step p h x v _ (0+1+1+1) _ hc (by omega) (by simp), if_pos (by omega)]
    rw [show A7.get p.Data (2 + (0+1+1+1)) = p.Data.a5 from rfl]
    by_cases z3 : p.Data.a5 = 0
    rotate_left
    · rw [if_neg z3]
      exact ⟨fun t => absurd (by obtain ⟨t0, t1, t2, t3, t4⟩ := t; exact t3 (by omega)) z3, fun _ => rfl⟩
    rw [if_pos z3]
    rw [rc_step p h x v _ (0+1+1+1+1) _ hc (by omega) (by simp), if_pos (by omega)]
    rw [show A7.get p.Data (2 + (0+1+1+1+1)) = p.Data.a6 from rfl]
    by_cases z4 : p.Data.a6 = 0
    rotate_left
    · rw [if_neg z4]
      exact ⟨fun t => absurd (by obtain ⟨t0, t1, t2, t3, t4⟩ := t; exact t4 (by omega)) z4, fun _ => rfl⟩
    rw [if_pos z4]
    rw [show (0+1+1+1+1+1 : Int) = 5 from rfl, rc_end]
    exact ⟨fun _ => rfl, fun h => absurd ⟨fun _ => z0, fun _ => z1, fun _ => z2, fun _ => z3, fun _ => z4⟩ h⟩
  · rw [rc_step p h x v _ (0) _ hc (by omega) (by simp), if_neg (by omega)]
    rw [rc_step p h x v _ (0+1) _ hc (by omega) (by simp), if_pos (by omega)]
    rw [show A7.get p.Data (2 + (0+1)) = p.Data.a3 from rfl]
    by_cases z1 : p.Data.a3 = 0
    rotate_left
    · rw [if_neg z1]
      exact ⟨fun t => absurd (by obtain ⟨t0, t1, t2, t3, t4⟩ := t; exact t1 (by omega)) z1, fun _ => rfl⟩
    rw [if_pos z1]
    rw [rc_step p h x v _ (0+1+1) _ hc (by omega) (by simp), if_pos (by omega)]
    rw [show A7.get p.Data (2 + (0+1+1)) = p.Data.a4 from rfl]
    by_cases z2 : p.Data.a4 = 0
    rotate_left
    · rw [if_neg z2]
      exact ⟨fun t => absurd (by obtain ⟨t0, t1, t2, t3, t4⟩ := t; exact t2 (by omega)) z2, fun _ => rfl⟩
    rw [if_pos z2]
    rw [rc_step p h x v _ (0+1+1+1) _ hc (by omega) (by simp), if_pos (by omega)]
    rw [show A7.get p.Data (2 + (0+1+1+1)) = p.Data.a5 from rfl]
    by_cases z3 : p.Data.a5 = 0
    rotate_left
    · rw [if_neg z3]
      exact ⟨fun t => absurd (by obtain ⟨t0, t1, t2, t3, t4⟩ := t; exact t3 (by omega)) z3, fun _ => rfl⟩
    rw [if_pos z3]
    rw [rc_step p h x v _ (0+1+1+1+1) _ hc (by omega) (by simp), if_pos (by omega)]
    rw [show A7.get p.Data (2 + (0+1+1+1+1)) = p.Data.a6 from rfl]
    by_cases z4 : p.Data.a6 = 0
    rotate_left
    · rw [if_neg z4]
      exact ⟨fun t => absurd (by obtain ⟨t0, t1, t2, t3, t4⟩ := t; exact t4 (by omega)) z4, fun _ => rfl⟩
    rw [if_pos z4]
    rw [show (0+1+1+1+1+1 : Int) = 5 from rfl, rc_end]
    exact ⟨fun _ => rfl, fun h => absurd ⟨fun hh => absurd hh (by omega), fun _ => z1, fun _ => z2, fun _ => z3, fun _ => z4⟩ h⟩
  · rw [rc_step p h x v _ (0) _ hc (by omega) (by simp), if_neg (by omega), rc_step p h x v _ (0+1) _ hc (by omega) (by simp), if_neg (by omega)]
    rw [rc_step p h x v _ (0+1+1) _ hc (by omega) (by simp), if_pos (by omega)]
    rw [show A7.get p.Data (2 + (0+1+1)) = p.Data.a4 from rfl]
    by_cases z2 : p.Data.a4 = 0
    rotate_left
    · rw [if_neg z2]
      exact ⟨fun t => absurd (by obtain ⟨t0, t1, t2, t3, t4⟩ := t; exact t2 (by omega)) z2, fun _ => rfl⟩
    rw [if_pos z2]
    rw [rc_step p h x v _ (0+1+1+1) _ hc (by omega) (by simp), if_pos (by omega)]
    rw [show A7.get p.Data (2 + (0+1+1+1)) = p.Data.a5 from rfl]
    by_cases z3 : p.Data.a5 = 0
    rotate_left
    · rw [if_neg z3]
      exact ⟨fun t => absurd (by obtain ⟨t0, t1, t2, t3, t4⟩ := t; exact t3 (by omega)) z3, fun _ => rfl⟩
    rw [if_pos z3]
    rw [rc_step p h x v _ (0+1+1+1+1) _ hc (by omega) (by simp), if_pos (by omega)]
    rw [show A7.get p.Data (2 + (0+1+1+1+1)) = p.Data.a6 from rfl]
    by_cases z4 : p.Data.a6 = 0
    rotate_left
    · rw [if_neg z4]
      exact ⟨fun t => absurd (by obtain ⟨t0, t1, t2, t3, t4⟩ := t; exact t4 (by omega)) z4, fun _ => rfl⟩
    rw [if_pos z4]
    rw [show (0+1+1+1+1+1 : Int) = 5 from rfl, rc_end]
    exact ⟨fun _ => rfl, fun h => absurd ⟨fun hh => absurd hh (by omega), fun hh => absurd hh (by omega), fun _ => z2, fun _ => z3, fun _ => z4⟩ h⟩
  · rw [rc_step p h x v _ (0) _ hc (by omega) (by simp), if_neg (by omega), rc_step p h x v _ (0+1) _ hc (by omega) (by simp), if_neg (by omega), rc_step p h x v _ (0+1+1) _ hc (by omega) (by simp), if_neg (by omega)]
    rw [rc_step p h x v _ (0+1+1+1) _ hc (by omega) (by simp), if_pos (by omega)]
    rw [show A7.get p.Data (2 + (0+1+1+1)) = p.Data.a5 from rfl]
    by_cases z3 : p.Data.a5 = 0
    rotate_left
    · rw [if_neg z3]
      exact ⟨fun t => absurd (by obtain ⟨t0, t1, t2, t3, t4⟩ := t; exact t3 (by omega)) z3, fun _ => rfl⟩
    rw [if_pos z3]
    rw [rc_step p h x v _ (0+1+1+1+1) _ hc (by omega) (by simp), if_pos (by omega)]
    rw [show A7.get p.Data (2 + (0+1+1+1+1)) = p.Data.a6 from rfl]
    by_cases z4 : p.Data.a6 = 0
    rotate_left
    · rw [if_neg z4]
      exact ⟨fun t => absurd (by obtain ⟨t0, t1, t2, t3, t4⟩ := t; exact t4 (by omega)) z4, fun _ => rfl⟩
    rw [if_pos z4]
    rw [show (0+1+1+1+1+1 : Int) = 5 from rfl, rc_end]
    exact ⟨fun _ => rfl, fun h => absurd ⟨fun hh => absurd hh (by omega), fun hh => absurd hh (by omega), fun hh => absurd hh (by omega), fun _ => z3, fun _ => z4⟩ h⟩
  · rw [rc_step p h x v _ (0) _ hc (by omega) (by simp), if_neg (by omega), rc_step p h x v _ (0+1) _ hc (by omega) (by simp), if_neg (by omega), rc_step p h x v _ (0+1+1) _ hc (by omega) (by simp), if_neg (by omega), rc_step p h x v _ (0+1+1+1) _ hc (by omega) (by simp), if_neg (by omega)]
    rw [rc_step p h x v _ (0+1+1+1+1) _ hc (by omega) (by simp), if_pos (by omega)]
    rw [show A7.get p.Data (2 + (0+1+1+1+1)) = p.Data.a6 from rfl]
    by_cases z4 : p.Data.a6 = 0
    rotate_left
    · rw [if_neg z4]
      exact ⟨fun t => absurd (by obtain ⟨t0, t1, t2, t3, t4⟩ := t; exact t4 (by omega)) z4, fun _ => rfl⟩
    rw [if_pos z4]
    rw [show (0+1+1+1+1+1 : Int) = 5 from rfl, rc_end]
    exact ⟨fun _ => rfl, fun h => absurd ⟨fun hh => absurd hh (by omega), fun hh => absurd hh (by omega), fun hh => absurd hh (by omega), fun hh => absurd hh (by omega), fun _ => z4⟩ h⟩
  · rw [rc_step p h x v _ (0) _ hc (by omega) (by simp), if_neg (by omega), rc_step p h x v _ (0+1) _ hc (by omega) (by simp), if_neg (by omega), rc_step p h x v _ (0+1+1) _ hc (by omega) (by simp), if_neg (by omega), rc_step p h x v _ (0+1+1+1) _ hc (by omega) (by simp), if_neg (by omega), rc_step p h x v _ (0+1+1+1+1) _ hc (by omega) (by simp), if_neg (by omega)]
    rw [show (0+1+1+1+1+1 : Int) = 5 from rfl, rc_end]
    exact ⟨fun _ => rfl, fun h => absurd ⟨fun hh => absurd hh (by omega), fun hh => absurd hh (by omega), fun hh => absurd hh (by omega), fun hh => absurd hh (by omega), fun hh => absurd hh (by omega)⟩ h⟩
theorem rc_all (p : api_Page) (h : k_A7 k_u64 p.Data) (x : Int) (v) (hc : IntKind.i64.wrap (Int.tmod (IntKind.u32.wrap (Int.tdiv x 256)) 256) = cn p) (hc5 : cn p ≤ 5) :
    iter (bodegaref23_ReadBucket_L1 x p v) ([], 0) = if tz p then bodegaref23_ReadBucket_J1 x v (((ents p).take (cn p).toNat).map cE) else some (cB zeroB, 14) := by
  have hc0 : 0 ≤ cn p := by unfold cn; omega
  have := rc_all' p h x v (cn p) hc hc0 hc5
  by_cases ht : tz p
  · rw [if_pos ht]; exact this.1 ht
  · rw [if_neg ht]; exact this.2 ht
theorem ReadBucketR_eq (p : api_Page) (h : k_A7 k_u64 p.Data) : bodegaref23_ReadBucket p = some (cB (rdBk p).1, (rdBk p).2) := by
  have hh := h
  unfold bodegaref23_ReadBucket bodegaref19_Aux bodegaref19_Kind rdBk
  obtain ⟨h0, h1, _⟩ := h
  unfold k_u64 at h0 h1
  have ha := hi_r h0
  have hw32 : bodegaref23_pointer p.Data.a1 = some (cP (dp (lo p.Data.a1)), okw (lo p.Data.a1)) := by
    have := pointer_eq (@lo_r p.Data.a1)
    unfold bodegaref23_pointer at this ⊢
    rw [u32_in' (@lo_r p.Data.a1)] at this
    rw [u32_lo]
    exact this
  rw [bind_s, shr_u64_32, u32_hi h0, hw32, bind_s, bind_s, tmod_pos (x := p.Data.a0) h0.1, i64_in' (x := p.Data.a0 % 256) (by omega)]
  have hcn : IntKind.i64.wrap (Int.tmod (IntKind.u32.wrap (Int.tdiv (hi p.Data.a0) 256)) 256) = cn p := by
    rw [tdiv_pos ha.1, u32_in' (x := hi p.Data.a0 / 256) (by omega), tmod_pos (x := hi p.Data.a0 / 256) (by omega), i64_in' (by omega)]; rfl
  have hd : Int.tmod (hi p.Data.a0) 256 = hi p.Data.a0 % 256 := tmod_pos ha.1
  have hc0 : 0 ≤ cn p := by unfold cn; omega
  simp only [hcn, hd]
  by_cases hk : p.Data.a0 % 256 = 2
  · by_cases hdd : hi p.Data.a0 % 256 > 16
    · have hv : bv (bk p) = false := by
        have : ¬ (bk p).Depth ≤ 16 := by show ¬ hi p.Data.a0 % 256 ≤ 16; omega
        unfold bv; simp [this]
      simp only [hk, hdd, hv, bne_self_eq_false, decide_true, Bool.false_eq_true, if_false, if_true, false_and, and_false]
      rfl
    · by_cases hc : cn p ≤ 5
      · have hc' : ¬ cn p > 5 := by omega
        rcases Bool.eq_false_or_eq_true (okw (lo p.Data.a1)) with ho | ho
        · by_cases h4 : p.Data.a1 ≥ 4294967296
          · have hne : ¬ hi p.Data.a1 = 0 := by unfold hi; omega
            simp only [hk, hdd, hc, hc', ho, h4, hne, bne_self_eq_false, decide_true, decide_false, Bool.not_true, Bool.false_eq_true, if_false, if_true, false_and, and_false]
            rfl
          · have he : hi p.Data.a1 = 0 := by unfold hi; omega
            simp only [hk, hdd, hc, hc', ho, h4, he, bne_self_eq_false, decide_true, decide_false, Bool.not_true, Bool.false_eq_true, if_false, true_and]
            rw [rc_all p hh _ _ hcn hc]
            by_cases ht : tz p
            · rw [if_pos ht]
              unfold bodegaref23_ReadBucket_J1
              have hvb := ValidBucket_eq (bk p) (pat_k hh) (bk_len p)
              have eb : (⟨IntKind.i64.wrap (Int.tmod (hi p.Data.a0) 256), shrV .u32 (hi p.Data.a0) 16, cP (dp (lo p.Data.a1)), ((ents p).take (cn p).toNat).map cE⟩ : bodegaref23_Bucket) = cB (bk p) := by
                rw [hd, i64_in' (by omega), shr_ (k := .u32) 16]; rfl
              simp only [eb, hvb, bind_s]
              rcases Bool.eq_false_or_eq_true (bv (bk p)) with hv | hv
              · simp only [hv, ht, Bool.not_true, Bool.false_eq_true, if_false, and_self, if_true]
              · simp only [hv, Bool.not_false, if_true, Bool.false_eq_true, false_and, if_false]; rfl
            · rw [if_neg ht]
              simp only [ht, and_false, if_false]
        · simp only [hk, hdd, hc, hc', ho, bne_self_eq_false, decide_false, Bool.not_false, Bool.false_eq_true, if_false, if_true, false_and, and_false]
          rfl
      · have hc' : cn p > 5 := by omega
        simp only [hk, hdd, hc, hc', bne_self_eq_false, decide_true, decide_false, Bool.false_eq_true, if_false, if_true, false_and, and_false]
        rfl
  · have : (p.Data.a0 % 256 != 2) = true := by simp [hk]
    simp only [this, if_true, hk, false_and, if_false]
    rfl
end Go.Sh
end
section
namespace Go.Sh
set_option linter.unusedSimpArgs false
set_option linter.unusedVariables false
set_option maxRecDepth 10000
set_option maxHeartbeats 1000000

theorem vp_good {e : hashindex_Entry} (h : okE e) : ent (we e) = e := by
  unfold ent we
  rw [two_lo (pkP_r _), two_hi (pkP_r _), (dp_pk (good_vp h.2)).1]
theorem ents_fill : ∀ (es : List hashindex_Entry), es.length ≤ 5 → (∀ e ∈ es, okE e) → [ent (wd es 0), ent (wd es 1), ent (wd es 2), ent (wd es 3), ent (wd es 4)].take es.length = es
  | [], _, _ => rfl
  | [a], _, h => by
    simp only [List.mem_cons, List.not_mem_nil, or_false, forall_eq] at h
    show [ent (we a)] = _
    rw [vp_good h]
  | [a, b], _, h => by
    simp only [List.mem_cons, List.not_mem_nil, or_false, forall_eq_or_imp, forall_eq] at h
    show [ent (we a), ent (we b)] = _
    rw [vp_good h.1, vp_good h.2]
  | [a, b, c], _, h => by
    simp only [List.mem_cons, List.not_mem_nil, or_false, forall_eq_or_imp, forall_eq] at h
    show [ent (we a), ent (we b), ent (we c)] = _
    rw [vp_good h.1, vp_good h.2.1, vp_good h.2.2]
  | [a, b, c, d], _, h => by
    simp only [List.mem_cons, List.not_mem_nil, or_false, forall_eq_or_imp, forall_eq] at h
    show [ent (we a), ent (we b), ent (we c), ent (we d)] = _
    rw [vp_good h.1, vp_good h.2.1, vp_good h.2.2.1, vp_good h.2.2.2]
  | [a, b, c, d, e], _, h => by
    simp only [List.mem_cons, List.not_mem_nil, or_false, forall_eq_or_imp, forall_eq] at h
    show [ent (we a), ent (we b), ent (we c), ent (we d), ent (we e)] = _
    rw [vp_good h.1, vp_good h.2.1, vp_good h.2.2.1, vp_good h.2.2.2.1, vp_good h.2.2.2.2]
  | a :: b :: c :: d :: e :: f :: r, h, _ => by simp at h
theorem wd_none {es : List hashindex_Entry} {i : Nat} (h : es.length ≤ i) : wd es i = 0 := by unfold wd; rw [List.getElem?_eq_none h]
theorem rdBk_fill {p : api_Page} {b : hashindex_Bucket} (hk : p.Data.a0 % 256 = 2) (hP : k_u32 b.Pattern) (hv : bv b = true) : rdBk (fillB b p) = (b, 0) := by
  obtain ⟨h1, h2, h3, h4, h5⟩ := bv_facts hP hv
  have hax := aux_r hP hv
  have hall := vEs_all (by omega) h5
  have d0 : (fillB b p).Data.a0 = two (lo p.Data.a0) (aux b) := rfl
  have e0 : hi (fillB b p).Data.a0 = aux b := by rw [d0]; exact two_hi lo_r
  have ek : (fillB b p).Data.a0 % 256 = 2 := by rw [d0]; unfold two lo; omega
  have ec : cn (fillB b p) = (b.Entries.length : Int) := by unfold cn; rw [e0]; unfold aux; omega
  have d1 : (fillB b p).Data.a1 = pkP b.Next := rfl
  have hn := pkP_r b.Next
  have el : lo (fillB b p).Data.a1 = pkP b.Next := by rw [d1]; unfold lo; omega
  have eh : hi (fillB b p).Data.a1 = 0 := by rw [d1]; unfold hi; omega
  have eb : bk (fillB b p) = b := by
    unfold bk
    rw [e0, el, (dp_pk h3).1, ec]
    have a1 : aux b % 256 = b.Depth := by unfold aux; omega
    have a2 : aux b / 65536 = b.Pattern := by unfold aux; omega
    have a3 : (ents (fillB b p)).take ((b.Entries.length : Int)).toNat = b.Entries := by
      rw [Int.toNat_natCast]
      exact ents_fill b.Entries h4 hall
    rw [a1, a2, a3]
  have et : tz (fillB b p) := by
    unfold tz
    rw [ec]
    exact ⟨fun h => wd_none (by omega), fun h => wd_none (by omega), fun h => wd_none (by omega), fun h => wd_none (by omega), fun h => wd_none (by omega)⟩
  unfold rdBk
  rw [if_pos ⟨ek, by rw [ec]; omega, by rw [el]; exact (dp_pk h3).2, by rw [eb]; exact hv, eh, et⟩, eb]
theorem we_k {e : hashindex_Entry} (h : okE e) : k_u64 (we e) := two_k (pkP_r _) (by have := h.1; omega)
theorem wd_k {es : List hashindex_Entry} (h : ∀ e ∈ es, okE e) (i : Nat) : k_u64 (wd es i) := by
  unfold wd
  split
  · rename_i e he; exact we_k (h e (List.mem_of_getElem? he))
  · unfold k_u64; omega
theorem fillB_k {p : api_Page} {b : hashindex_Bucket} (hP : k_u32 b.Pattern) (hv : bv b = true) : k_A7 k_u64 (fillB b p).Data := by
  obtain ⟨h1, h2, h3, h4, h5⟩ := bv_facts hP hv
  have hall := vEs_all (by omega) h5
  exact ⟨two_k lo_r (aux_r hP hv), by show k_u64 (pkP b.Next); have := pkP_r b.Next; unfold k_u64; omega, wd_k hall 0, wd_k hall 1, wd_k hall 2, wd_k hall 3, wd_k hall 4⟩
theorem rdBk_len (p : api_Page) : (rdBk p).1.Entries.length ≤ 1000 := by
  unfold rdBk
  split
  · exact bk_len p
  · show 0 ≤ 1000; omega
theorem cB_len {b : hashindex_Bucket} (h : b.Entries.length ≤ 1000) : (cB b).Entries.length ≤ 1000 := by show (b.Entries.map cE).length ≤ 1000; rw [List.length_map]; exact h

theorem BJ2_true (p : api_Page) (hp : k_api_Page p) (d : Int) (hd : k_u64 d) (dep : Int) (nx : pointer_Pointer) (n pat : Int) (hpat : k_u32 pat) (l : List hashindex_Entry) (hl : l.length ≤ 9) : bodegalaw23_HashBuckets_J2 p d dep nx n (pat, l) = some true := by
  obtain ⟨_, _, hD⟩ := hp
  unfold bodegalaw23_HashBuckets_J2
  simp only
  generalize hq : (⟨p.Line, p.Head, ⟨d, p.Data.a1, p.Data.a2, p.Data.a3, p.Data.a4, p.Data.a5, p.Data.a6⟩⟩ : api_Page) = q
  have hqk : k_A7 k_u64 q.Data := by rw [← hq]; exact ⟨hd, hD.2⟩
  have hqL : q.Line = p.Line := by rw [← hq]
  have hqH : q.Head = p.Head := by rw [← hq]
  generalize hb : (⟨dep, pat, nx, l⟩ : hashindex_Bucket) = b
  have hbP : k_u32 b.Pattern := by rw [← hb]; exact hpat
  have hbl : b.Entries.length ≤ 1000 := by rw [← hb]; show l.length ≤ 1000; omega
  have hr := rdBk_len q
  simp only [ReadBucket_eq _ hqk, ReadBucketR_eq _ hqk, WriteBucket_eq q b hbP hbl hqk.1, WriteBucketR_eq q b hbP hbl hqk.1, bucket_eq hbl, bucket_eq hr, same_eq _ (cB_len hr), awake_eq, bind_s, bodegalaw23_same]
  by_cases hw : q.Data.a0 % 256 = 2 ∧ bv b = true
  · have e : wrB q b = (fillB b q, 0) := by unfold wrB; rw [if_pos hw]
    have hk := @fillB_k q b hbP hw.2
    obtain ⟨v, ev, hv0, hv1⟩ := Pick_eq (a := IntKind.i64.wrap (Int.tdiv n 64)) (n := 7) (by omega)
    obtain ⟨u, eu, hu0, hu1⟩ := Pick_eq (a := IntKind.i64.wrap (Int.tdiv n 512)) (n := 64) (by omega)
    rw [e]
    have hi : 0 ≤ v ∧ v < 7 := ⟨hv0, hv1⟩
    have L1 : (fillB b q).Line = p.Line := hqL
    have L2 : (fillB b q).Head = p.Head := hqH
    simp only [beq_self_eq_true, Bool.true_and, Bool.and_self, Bool.not_true, Bool.false_eq_true, if_false, bne_self_eq_false, ReadBucket_eq _ hk, rdBk_fill hw.1 hbP hw.2, bucket_eq hbl, same_eq _ (cB_len hbl), bind_s, ev, eu, hi, and_self, if_true, L1, L2]
    generalize hg : (⟨p.Line, p.Head, A7.set (fillB b q).Data v (bits .xor .u64 (A7.get (fillB b q).Data v) (shlV .u64 1 (IntKind.u64.wrap u)))⟩ : api_Page) = z
    have hz : k_A7 k_u64 z.Data := by rw [← hg]; exact set7_k hk (xor_k _ _)
    have hrz := rdBk_len z
    simp only [ReadBucket_eq _ hz, ReadBucketR_eq _ hz, bucket_eq hrz, same_eq _ (cB_len hrz), bind_s, beq_self_eq_true, Bool.and_self]
  · have e : wrB q b = (zeroPg, 1) := by unfold wrB; rw [if_neg hw]
    rw [e]
    simp
theorem BJ3_eq (l : List hashindex_Entry) (i pat : Int) (e : hashindex_Entry) (hl : l.length ≤ 9) (hi : 0 ≤ i ∧ i ≤ 9) : bodegalaw23_HashBuckets_J3 l i (pat, e) = some (.inl (pat, l ++ [e], i + 1)) := by
  unfold bodegalaw23_HashBuckets_J3
  have hm : (l.length + 1) * 24 ≤ maxRows ∧ l.length + 1 ≤ maxRows := by unfold maxRows; omega
  simp only [hm, and_self, if_true]
  rw [i64_in' (by omega)]
theorem pow20 (n : Nat) (h : n ≤ 19) : (1 : Int) ≤ 2 ^ n ∧ (2 : Int) ^ n ≤ 524288 := by
  have h1 : 1 ≤ 2 ^ n := Nat.one_le_two_pow
  have h2 : 2 ^ n ≤ 2 ^ 19 := Nat.pow_le_pow_right (by omega) h
  have h3 : ((2 : Int) ^ n) = ((2 ^ n : Nat) : Int) := by simp
  rw [h3]; omega
theorem BL_true (p : api_Page) (hp : k_api_Page p) (b : hashindex_Bucket) (n : Int) (d : Int) (hd : k_u64 d) (dep : Int) (nx : pointer_Pointer) (hb : b.Entries.length ≤ 9) : ∀ (m : Nat) (pat : Int) (l : List hashindex_Entry), k_u32 pat → l.length + m = b.Entries.length →
    iter (bodegalaw23_HashBuckets_L1 b n dep p d nx) (pat, l, (l.length : Int)) = some true
  | 0, pat, l, hpat, hl => by
    rw [iter_eq]
    have : ¬ (l.length : Int) < (b.Entries.length : Int) := by omega
    simp only [bodegalaw23_HashBuckets_L1, this, decide_false, Bool.false_eq_true, if_false, BJ2_true p hp d hd dep nx n pat hpat l (by omega), Option.map_some, bind_s]
  | m + 1, pat, l, hpat, hl => by
    rw [iter_eq]
    have hlt : (l.length : Int) < (b.Entries.length : Int) := by omega
    obtain ⟨e, he⟩ : ∃ e, idx b.Entries (l.length : Int) = some e := by rw [idx_nat]; exact ⟨_, List.getElem?_eq_getElem (by omega)⟩
    obtain ⟨v, ev, _⟩ := Pick_eq (a := IntKind.i64.wrap (Int.tdiv n 4)) (n := 4) (by omega)
    obtain ⟨g, eg⟩ := aim_eq e.To
    have hn : ∀ (x : Int) (y : hashindex_Entry), k_u32 x → iter (bodegalaw23_HashBuckets_L1 b n dep p d nx) (x, l ++ [y], (l.length : Int) + 1) = some true := fun x y hx => by
      have ih := BL_true p hp b n d hd dep nx hb m x (l ++ [y]) hx (by simp; omega)
      simp only [List.length_append, List.length_cons, List.length_nil, Nat.zero_add, Int.natCast_add, Int.natCast_one] at ih
      exact ih
    simp only [bodegalaw23_HashBuckets_L1, hlt, decide_true, if_true, he, ev, eg, bind_s, Hash_eq]
    by_cases h1 : v > 0
    · by_cases h2 : dep ≥ 0
      · by_cases h3 : dep < 20
        · obtain ⟨k, hk⟩ : ∃ k : Nat, dep = k := ⟨dep.toNat, by omega⟩
          have hpw := pow20 k (by omega)
          have hs' : shlV .u32 1 (IntKind.u64.wrap dep) = 2 ^ k := by
            rw [hk, u64_in' (x := (k : Int)) (by omega), shl_ (k := .u32) (x := 1) (n := (k : Int)) k (by simp [IntKind.bits]; omega), Int.one_mul, u32_in' (x := 2 ^ k) (by omega)]
          have hne : ¬ (2 : Int) ^ k = 0 := by omega
          simp only [h1, h2, h3, decide_true, if_true, hs', hne, not_false_eq_true]
          rw [BJ3_eq l _ _ _ (by omega) (by omega), bind_s]
          refine hn _ _ ?_
          have hh := hs_k (IntKind.u32.wrap ((Int.tmod e.Key 4) + (IntKind.u32.wrap ((IntKind.u32.wrap (l.length : Int)) * 3))))
          rw [tmod_pos hh.1]
          have := Int.emod_nonneg (hs (IntKind.u32.wrap ((Int.tmod e.Key 4) + (IntKind.u32.wrap ((IntKind.u32.wrap (l.length : Int)) * 3))))) hne
          have := Int.emod_lt_of_pos (hs (IntKind.u32.wrap ((Int.tmod e.Key 4) + (IntKind.u32.wrap ((IntKind.u32.wrap (l.length : Int)) * 3))))) (show (0 : Int) < 2 ^ k by omega)
          unfold k_u32; omega
        · simp only [h1, h2, h3, decide_true, decide_false, Bool.false_eq_true, if_true, if_false]
          rw [BJ3_eq l _ _ _ (by omega) (by omega), bind_s]
          exact hn _ _ hpat
      · simp only [h1, h2, decide_true, decide_false, Bool.false_eq_true, if_true, if_false]
        rw [BJ3_eq l _ _ _ (by omega) (by omega), bind_s]
        exact hn _ _ hpat
    · simp only [h1, decide_false, Bool.false_eq_true, if_false]
      rw [BJ3_eq l _ _ _ (by omega) (by omega), bind_s]
      exact hn _ _ hpat
theorem BJ1_true (p : api_Page) (hp : k_api_Page p) (b : hashindex_Bucket) (hbk : k_hashindex_Bucket b) (n : Int) (d : Int) (hd : k_u64 d) (dep : Int) (nx : pointer_Pointer) (hb : b.Entries.length ≤ 9) : bodegalaw23_HashBuckets_J1 b n p (d, dep, nx) = some true :=
  BL_true p hp b n d hd dep nx hb b.Entries.length b.Pattern [] hbk.2.1 (by simp)
theorem wrap64_k (x : Int) : k_u64 (IntKind.u64.wrap x) := by have := wf_wrap .u64 x; simp [Lit.wf, IntKind.min, IntKind.max, IntKind.signed, IntKind.bits] at this; unfold k_u64; omega
theorem HashBuckets_law (p : api_Page) (b : hashindex_Bucket) (n : Int) (k0 : k_api_Page p) (k1 : k_hashindex_Bucket b) (k2 : k_i64 n) : bodegalaw23_HashBuckets p b n = some true := by
  unfold bodegalaw23_HashBuckets
  by_cases h9 : (b.Entries.length : Int) > 9
  · simp only [h9, decide_true, if_true]
  · have hb : b.Entries.length ≤ 9 := by omega
    obtain ⟨v, ev, _⟩ := Pick_eq (a := n) (n := 4) (by omega)
    obtain ⟨u, eu, _⟩ := Pick_eq (a := b.Depth) (n := 19) (by omega)
    have hJ4 : ∀ x, bodegalaw23_HashBuckets_J4 b n p x = some true := fun x => by
      unfold bodegalaw23_HashBuckets_J4
      obtain ⟨g, eg⟩ := aim_eq b.Next
      obtain ⟨w, ew, _⟩ := Pick_eq (a := IntKind.i64.wrap (Int.tdiv n 16)) (n := 9) (by omega)
      rw [eg, bind_s, ew, bind_s]
      exact BJ1_true p k0 b k1 n _ (wrap64_k _) _ _ hb
    simp only [h9, decide_false, Bool.false_eq_true, if_false, ev, eu, bind_s, hJ4, BJ1_true p k0 b k1 n _ k0.2.2.1 _ _ hb, ite_self]
end Go.Sh
end
section
namespace Go.Sh
open Go.Proofs Go.ChangeShapes
set_option maxRecDepth 100000
theorem List.head_eq_of_cons_eq {α : Type} {a b : α} {l m : List α} (h : a :: l = b :: m) : a = b := by cases h; rfl
theorem own : ownKnob Tryd.prog.godebug = none := by kernel_rfl
theorem laidOut : laidOutB Tryd.prog = true := by kernel_rfl
theorem gNone : Tryd.prog.globalNamed "bodega/hashindex.none" = some 0 := by kernel_rfl
theorem tNone : (Tryd.prog.globals[0]?).map (·.type) = some 27 := by kernel_rfl
abbrev laidL : List (String × DataW Unit) := [("bodega/hashindex.none", YthambbjjolieaaaDoor.Rows.laid_bodega_hashindex_none)]
theorem door_met (os : Os) (args : Array Value) : laidMetH Tryd.prog laidL ((World.doorLaid Tryd.prog 400 os).forCall (fun _ _ => 0) ⟨#[], args, []⟩).memory :=
  laidMetH_of_parts3 (fuel := 8) (laidMet_of_run' 8 (by kernel_rfl) (by kernel_rfl)) (by kernel_rfl) (by kernel_rfl)
def laidG : Glob := ⟨fun g => if g = 0 then some [.int .i64 0, .int .i64 0] else none, fun _ => none⟩
theorem of_laid {W : World} (h : laidMetH Tryd.prog laidL W) : GlobRep (· < W.heap.size) W laidG := by
  rw [MakeChecks.laidMetH_plain _ _ _ (by kernel_rfl)] at h
  obtain ⟨ps, ⟨g0, t0, cs0, f0, p0, q0, hg0, ht0, hv0, hd0, _, _⟩, _, _⟩ := h
  obtain rfl := Option.some.inj (gNone.symm.trans hg0)
  obtain rfl := Option.some.inj (tNone.symm.trans ht0)
  obtain ⟨xs, n, _, hx, hl, hn, hf⟩ := DataW.trod_struct Tryd.underlying27 hd0
  have hlen : cs0.size = 2 := by simpa using hl.trans (show Tryd.prog.cellsOf 27 = 2 by kernel_rfl)
  match xs, hn, hx, hf with
  | [y0, y1], _, hx, hf =>
    have h0 := hf 0 _ rfl
    have h1 := hf 1 _ rfl
    obtain ⟨n0, e0, z0, _⟩ := DataW.trod_int Tryd.underlying3 (show DataW.trod _ Tryd.prog W 0 _ _ n 3 _ = some y0 from h0)
    obtain ⟨n1, e1, z1, _⟩ := DataW.trod_int Tryd.underlying3 (show DataW.trod _ Tryd.prog W 0 _ _ n 3 _ = some y1 from h1)
    subst z0; subst z1
    have hx' : ((.agg [.lit (.int .i64 0), .lit (.int .i64 0)] : DataW _), p0) = (.agg [.lit (.int .i64 n0), .lit (.int .i64 n1)], []) := hx
    simp at hx'
    obtain ⟨⟨rfl, rfl⟩, _⟩ := hx'
    have hc := World.var?_cell hg0 hv0
    obtain ⟨l⟩ := cs0
    match l, hlen with
    | [a, b], _ =>
      have ea : [a] = [Value.int .i64 0] := e0
      have eb : [b] = [Value.int .i64 0] := e1
      cases ea; cases eb
      intro g cells hg
      simp only [laidG] at hg
      split at hg
      · rename_i hgz
        subst hgz
        cases hg
        have hc0 : W.cell? ⟨0, 0, none⟩ = some (.int .i64 0) := by have := hc 0; simpa using this
        refine ⟨cell_lt hc0, fun _ => .int .i64 0, fun j hj => ?_, fun j c hjc => ?_⟩
        · match j, hj with
          | 0, _ => exact hc0
          | 1, _ => have := hc 1; simpa using this
        · match j, hjc with
          | 0, hjc => cases hjc; exact .int _ _
          | 1, hjc => cases hjc; exact .int _ _
      · cases hg
end Go.Sh
end
section
namespace Go.Proofs.YthambbjjolieaaaDoor
open Go.Sh Go.ChangeShapes Go.RowKit
set_option maxRecDepth 100000
set_option linter.unusedSimpArgs false
set_option linter.unusedVariables false
set_option maxHeartbeats 4000000 in
theorem hashBuckets_lifted (os : Os) (started : os.Started) (H : Type) (enc : TypeId × Value → H) :
    ReturnsInHanded {} Tryd.checked os 5 .any (fun w args => (Rows.hashBucketsSpec.pre enc Tryd.prog Tryd.f5 [] false w args ∧ laidMetH Tryd.prog Rows.hashBucketsRow.laid w) ∧ sizedMet enc Tryd.prog Tryd.f5 (OpenSpec.ofChange Rows.hashBucketsSpec) false w args)
      (Rows.hashBucketsSpec.post enc Tryd.prog Tryd.f5 false true false false) := by
  refine returnsInHanded_of_change_and (C := Tryd.checked) (X := fun w _ => laidMetH Tryd.prog Rows.hashBucketsRow.laid w) (fun _ _ _ hh h => h.of_heap hh) Sh.own started (by kernel_rfl) Tryd.func5
    (ChangeSpec.witness_shaped (enc := enc) (C := Tryd.checked) (os := os) (X := fun w _ => laidMetH Tryd.prog Rows.hashBucketsRow.laid w) false (World.doorLaid Tryd.prog 400 os) #[(.agg #[.int .i64 0, .int .u64 0, .int .u64 0, .int .u64 0, .int .u64 0, .int .u64 0, .int .u64 0, .int .u64 0, .int .u64 0]), (.agg #[.int .i64 0, .int .u32 0, .int .i64 0, .int .i64 0, .slice none 0 0]), (.int .i64 0)] 8 rfl (World.shaped_of_RefB (by kernel_rfl) (by kernel_rfl)) (by kernel_rfl) (by kernel_rfl) (by kernel_rfl) (Sh.door_met os _)) ?_
  intro W base args ds gs before hval0 hW _ _ hL _
  have hval : ∀ (j : Nat) t v, Tryd.f5.params[j]? = some t → args[j]? = some v → Value.okWide Tryd.prog W .any base t v := hval0
  have hW' := hW
  obtain ⟨p, q, hA0, hV, rfl, hfz, hnd⟩ := hW
  have hA : DataW.TrodAll enc Tryd.prog W 0 (fun _ => true) true Tryd.f5.params.toList args.toList ds p := hA0
  rw [Tryd.params5] at hA hval
  obtain ⟨v0, vs0, d0, ds0, p0, q0, hargs, rfl, rfl, h0, r0⟩ := trodAll_cons hA
  obtain ⟨v1, vs1, d1, ds1, p1, q1, rfl, rfl, rfl, h1, r1⟩ := trodAll_cons r0
  obtain ⟨v2, vs2, d2, ds2, p2, q2, rfl, rfl, rfl, h2, r2⟩ := trodAll_cons r1
  obtain ⟨rfl, rfl, rfl⟩ := trodAll_nil r2
  obtain rfl : args = #[v0, v1, v2] := by cases args; simp_all
  obtain ⟨c0, b0, f0⟩ := open_agg (D := 8) (t := 25) (by kernel_rfl) (.inl ⟨_, Tryd.underlying25⟩) (hval 0 25 v0 rfl rfl) h0
  obtain ⟨x0, e0, k0⟩ := conf_t25 f0
  subst e0
  obtain ⟨c1, b1, f1⟩ := open_agg (D := 8) (t := 63) (by kernel_rfl) (.inl ⟨_, Tryd.underlying63⟩) (hval 1 63 v1 rfl rfl) h1
  obtain ⟨x1, e1, k1⟩ := conf_t63 f1
  subst e1
  obtain ⟨c2, b2, f2⟩ := open_cell (D := 8) (t := 3) (by kernel_rfl) (.inr (.inl ⟨_, Tryd.underlying3⟩)) (hval 2 3 v2 rfl rfl) h2
  obtain ⟨x2, e2, k2⟩ := conf_t3 f2
  obtain rfl := List.head_eq_of_cons_eq e2
  have hB : BsRep (· < W.heap.size) W #[v0, v1, v2].toList [BV.agg ((r_api_Page x0).map .p), BV.agg ((r_hashindex_Bucket x1).map .p), BV.cell (.p (.int .i64 x2))] [] := .cons (L := []) (M := []) b0 (.cons (L := []) (M := []) b1 (.cons (L := []) (M := []) b2 (.nil)))
  refine (ends (Sh.bodegalaw23_HashBuckets_ok Sh.laidG rfl x0 x1 x2 true (HashBuckets_law x0 x1 x2 k0 k1 k2)) hB (Sh.of_laid hL)).mono fun e W' ⟨he, hb⟩ => ?_
  subst he
  exact ⟨_, rfl, end_post (tb := 4) Sh.laidOut (by intro t ht; have ht' : t ∈ [25, 63, 3] := by { rw [Tryd.params5] at ht; exact ht }; simp only [List.mem_cons, List.not_mem_nil, or_false] at ht'; rcases ht' with rfl | rfl | rfl <;> exact ⟨by kernel_rfl, of_decide_eq_true (by kernel_rfl)⟩) rfl Tryd.underlying4 rfl hW' rfl hb⟩
theorem hashBuckets_holds : Rows.HashBucketsSaid :=
  OpenClaim.holds_of_wide 5 Tryd.f5 rfl rfl rfl rfl rfl rfl rfl ⟨rfl, rfl, rfl, rfl, rfl⟩ rfl rfl rfl rfl rfl (by kernel_rfl) Tryd.func5 (by kernel_rfl)
    (of_decide_eq_true (by kernel_rfl)) (by unfold Func.isWrapper; first | (rw [if_pos (by decide +kernel)]; kernel_rfl) | (rw [if_neg (by decide +kernel)]; exact ⟨rfl, rfl⟩))
    (fun os started H enc _ => hashBuckets_lifted os started H enc)
theorem hashBuckets_card : Rows.HashBucketsCardSaid :=
  Claim7.holds_tied_plain_at .later [] [.data] true (true, "c8ee203320d6b1350c36f47ea5b325345d11c9dad6bc4fdf3a24ffda5f8e3d63") false
    hashBuckets_holds (fun _ h => by cases h) (by kernel_rfl) (fun _ h => by cases h) hashBuckets_row_tie rfl ⟨rfl, rfl⟩ (by kernel_rfl) rfl
    (fun f fn hf hfn => by
      obtain rfl : f = 5 := Option.some.inj ((show Tryd.prog.funcNamed "bodega/bodegalaw23.HashBuckets" = some 5 by kernel_rfl).symm.trans hf) |>.symm
      obtain rfl : fn = Tryd.f5 := (Option.some.inj (Tryd.func5.symm.trans hfn)).symm
      exact ⟨by kernel_rfl, fun j t ht => by
        rw [Tryd.params5] at ht
        have h3 : t = 25 ∨ t = 63 ∨ t = 3 := by
          match j, ht with
          | 0, ht => obtain rfl : 25 = t := Option.some.inj ht; simp
          | 1, ht => obtain rfl : 63 = t := Option.some.inj ht; simp
          | 2, ht => obtain rfl : 3 = t := Option.some.inj ht; simp
          | j + 3, ht => simp at ht
        rcases h3 with rfl | rfl | rfl
        · exact (show Tryd.prog.wantsStandIn 25 = false by kernel_rfl)
        · exact (show Tryd.prog.wantsStandIn 63 = false by kernel_rfl)
        · exact (show Tryd.prog.wantsStandIn 3 = false by kernel_rfl)⟩)
    (by kernel_rfl)
#print axioms hashBuckets_card
end Go.Proofs.YthambbjjolieaaaDoor
end
