/- Part 3 of 6 of the proof: bodegalaw24.TreeNodes returns true for every input, with the package variable bodega/btree.none as the program lays it. -/
import Derived.Test.YtbpohbfamefecaaGreatDoorNodesB
import Derived.Test.YtbpohbfamefecaaGreatDoorProg
import Derived.ProofKit
import Derived.LaidMore
import Derived.OpenShut
import Derived.ChangeArms
import Derived.Below
import Derived.RowKit
import Derived.Carry
set_option linter.all false
set_option maxRecDepth 100000
set_option maxHeartbeats 4000000
section
namespace Go.Sh
open Go.Proofs
theorem Tryz.mixed : Tryz.prog.follows .mixedOrders = true := by kernel_rfl
@[go_sem ↓] theorem ti_2 : ti Tryz.prog 2 = { ok := true, size := 1, bytes := 8, agg := false, eqv := true, kind := .int .i64, zero := [.p (.int .i64 0)] } := by kernel_rfl
@[go_sem ↓] theorem ti_3 : ti Tryz.prog 3 = { ok := true, size := 1, bytes := 8, agg := false, eqv := true, kind := .int .i64, zero := [.p (.int .i64 0)] } := by kernel_rfl
@[go_sem ↓] theorem ti_4 : ti Tryz.prog 4 = { ok := true, size := 1, bytes := 1, agg := false, eqv := false, kind := .bool, zero := [.p (.bool false)] } := by kernel_rfl
@[go_sem ↓] theorem ti_5 : ti Tryz.prog 5 = { ok := true, size := 1, bytes := 1, agg := false, eqv := true, kind := .int .u8, zero := [.p (.int .u8 0)] } := by kernel_rfl
@[go_sem ↓] theorem ti_6 : ti Tryz.prog 6 = { ok := true, size := 1, bytes := 1, agg := false, eqv := true, kind := .int .u8, zero := [.p (.int .u8 0)] } := by kernel_rfl
@[go_sem ↓] theorem ti_7 : ti Tryz.prog 7 = { ok := true, size := 4, bytes := 24, agg := true, eqv := false, kind := .struct [(0, 2, 1), (1, 3, 1), (2, 4, 1), (3, 6, 1)], zero := [.p (.int .i64 0), .p (.int .i64 0), .p (.bool false), .p (.int .u8 0)] } := by kernel_rfl
@[go_sem ↓] theorem ti_8 : ti Tryz.prog 8 = { ok := true, size := 4, bytes := 24, agg := true, eqv := false, kind := .struct [(0, 2, 1), (1, 3, 1), (2, 4, 1), (3, 6, 1)], zero := [.p (.int .i64 0), .p (.int .i64 0), .p (.bool false), .p (.int .u8 0)] } := by kernel_rfl
@[go_sem ↓] theorem ti_12 : ti Tryz.prog 12 = { ok := true, size := 1, bytes := 8, agg := false, eqv := true, kind := .int .u64, zero := [.p (.int .u64 0)] } := by kernel_rfl
@[go_sem ↓] theorem ti_15 : ti Tryz.prog 15 = { ok := true, size := 1, bytes := 8, agg := false, eqv := false, kind := .ptr 204, zero := [.p .nilp] } := by kernel_rfl
@[go_sem ↓] theorem ti_16 : ti Tryz.prog 16 = { ok := true, size := 1, bytes := 8, agg := false, eqv := false, kind := .ptr 207, zero := [.p .nilp] } := by kernel_rfl
@[go_sem ↓] theorem ti_17 : ti Tryz.prog 17 = { ok := true, size := 1, bytes := 8, agg := false, eqv := false, kind := .ptr 216, zero := [.p .nilp] } := by kernel_rfl
@[go_sem ↓] theorem ti_18 : ti Tryz.prog 18 = { ok := true, size := 1, bytes := 8, agg := true, eqv := false, kind := .struct [(0, 17, 1)], zero := [.p .nilp] } := by kernel_rfl
@[go_sem ↓] theorem ti_19 : ti Tryz.prog 19 = { ok := true, size := 1, bytes := 8, agg := true, eqv := false, kind := .struct [(0, 17, 1)], zero := [.p .nilp] } := by kernel_rfl
@[go_sem ↓] theorem ti_21 : ti Tryz.prog 21 = { ok := true, size := 1, bytes := 4, agg := false, eqv := true, kind := .int .i32, zero := [.p (.int .i32 0)] } := by kernel_rfl
@[go_sem ↓] theorem ti_22 : ti Tryz.prog 22 = { ok := true, size := 1, bytes := 8, agg := false, eqv := true, kind := .int .u64, zero := [.p (.int .u64 0)] } := by kernel_rfl
@[go_sem ↓] theorem ti_23 : ti Tryz.prog 23 = { ok := true, size := 7, bytes := 56, agg := true, eqv := true, kind := .array 7 22, zero := [.p (.int .u64 0), .p (.int .u64 0), .p (.int .u64 0), .p (.int .u64 0), .p (.int .u64 0), .p (.int .u64 0), .p (.int .u64 0)] } := by kernel_rfl
@[go_sem ↓] theorem ti_24 : ti Tryz.prog 24 = { ok := true, size := 9, bytes := 72, agg := true, eqv := true, kind := .struct [(0, 3, 1), (1, 22, 1), (2, 23, 7)], zero := [.p (.int .i64 0), .p (.int .u64 0), .p (.int .u64 0), .p (.int .u64 0), .p (.int .u64 0), .p (.int .u64 0), .p (.int .u64 0), .p (.int .u64 0), .p (.int .u64 0)] } := by kernel_rfl
@[go_sem ↓] theorem ti_25 : ti Tryz.prog 25 = { ok := true, size := 9, bytes := 72, agg := true, eqv := true, kind := .struct [(0, 3, 1), (1, 22, 1), (2, 23, 7)], zero := [.p (.int .i64 0), .p (.int .u64 0), .p (.int .u64 0), .p (.int .u64 0), .p (.int .u64 0), .p (.int .u64 0), .p (.int .u64 0), .p (.int .u64 0), .p (.int .u64 0)] } := by kernel_rfl
@[go_sem ↓] theorem ti_26 : ti Tryz.prog 26 = { ok := true, size := 2, bytes := 16, agg := true, eqv := true, kind := .struct [(0, 3, 1), (1, 3, 1)], zero := [.p (.int .i64 0), .p (.int .i64 0)] } := by kernel_rfl
@[go_sem ↓] theorem ti_27 : ti Tryz.prog 27 = { ok := true, size := 2, bytes := 16, agg := true, eqv := true, kind := .struct [(0, 3, 1), (1, 3, 1)], zero := [.p (.int .i64 0), .p (.int .i64 0)] } := by kernel_rfl
@[go_sem ↓] theorem ti_30 : ti Tryz.prog 30 = { ok := true, size := 1, bytes := 8, agg := false, eqv := true, kind := .int .u64, zero := [.p (.int .u64 0)] } := by kernel_rfl
@[go_sem ↓] theorem ti_31 : ti Tryz.prog 31 = { ok := true, size := 1, bytes := 8, agg := false, eqv := true, kind := .int .i64, zero := [.p (.int .i64 0)] } := by kernel_rfl
@[go_sem ↓] theorem ti_34 : ti Tryz.prog 34 = { ok := true, size := 2, bytes := 16, agg := true, eqv := true, kind := .struct [(0, 3, 1), (1, 3, 1)], zero := [.p (.int .i64 0), .p (.int .i64 0)] } := by kernel_rfl
@[go_sem ↓] theorem ti_44 : ti Tryz.prog 44 = { ok := true, size := 1, bytes := 4, agg := false, eqv := true, kind := .int .u32, zero := [.p (.int .u32 0)] } := by kernel_rfl
@[go_sem ↓] theorem ti_45 : ti Tryz.prog 45 = { ok := true, size := 1, bytes := 24, agg := false, eqv := false, kind := .slice 49, zero := [.nilS] } := by kernel_rfl
@[go_sem ↓] theorem ti_46 : ti Tryz.prog 46 = { ok := true, size := 7, bytes := 56, agg := true, eqv := false, kind := .struct [(0, 3, 1), (1, 4, 1), (2, 4, 1), (3, 44, 1), (4, 27, 2), (6, 45, 1)], zero := [.p (.int .i64 0), .p (.bool false), .p (.bool false), .p (.int .u32 0), .p (.int .i64 0), .p (.int .i64 0), .nilS] } := by kernel_rfl
@[go_sem ↓] theorem ti_47 : ti Tryz.prog 47 = { ok := true, size := 7, bytes := 56, agg := true, eqv := false, kind := .struct [(0, 3, 1), (1, 4, 1), (2, 4, 1), (3, 44, 1), (4, 27, 2), (6, 45, 1)], zero := [.p (.int .i64 0), .p (.bool false), .p (.bool false), .p (.int .u32 0), .p (.int .i64 0), .p (.int .i64 0), .nilS] } := by kernel_rfl
@[go_sem ↓] theorem ti_48 : ti Tryz.prog 48 = { ok := true, size := 3, bytes := 24, agg := true, eqv := true, kind := .struct [(0, 44, 1), (1, 27, 2)], zero := [.p (.int .u32 0), .p (.int .i64 0), .p (.int .i64 0)] } := by kernel_rfl
@[go_sem ↓] theorem ti_49 : ti Tryz.prog 49 = { ok := true, size := 3, bytes := 24, agg := true, eqv := true, kind := .struct [(0, 44, 1), (1, 27, 2)], zero := [.p (.int .u32 0), .p (.int .i64 0), .p (.int .i64 0)] } := by kernel_rfl
@[go_sem ↓] theorem ti_52 : ti Tryz.prog 52 = { ok := true, size := 1, bytes := 24, agg := false, eqv := false, kind := .slice 114, zero := [.nilS] } := by kernel_rfl
@[go_sem ↓] theorem ti_53 : ti Tryz.prog 53 = { ok := true, size := 7, bytes := 56, agg := true, eqv := false, kind := .struct [(0, 3, 1), (1, 4, 1), (2, 4, 1), (3, 44, 1), (4, 34, 2), (6, 52, 1)], zero := [.p (.int .i64 0), .p (.bool false), .p (.bool false), .p (.int .u32 0), .p (.int .i64 0), .p (.int .i64 0), .nilS] } := by kernel_rfl
@[go_sem ↓] theorem ti_54 : ti Tryz.prog 54 = { ok := true, size := 7, bytes := 56, agg := true, eqv := false, kind := .struct [(0, 3, 1), (1, 4, 1), (2, 4, 1), (3, 44, 1), (4, 34, 2), (6, 52, 1)], zero := [.p (.int .i64 0), .p (.bool false), .p (.bool false), .p (.int .u32 0), .p (.int .i64 0), .p (.int .i64 0), .nilS] } := by kernel_rfl
@[go_sem ↓] theorem ti_62 : ti Tryz.prog 62 = { ok := true, size := 1, bytes := 24, agg := false, eqv := false, kind := .slice 68, zero := [.nilS] } := by kernel_rfl
@[go_sem ↓] theorem ti_63 : ti Tryz.prog 63 = { ok := true, size := 1, bytes := 24, agg := false, eqv := false, kind := .slice 3, zero := [.nilS] } := by kernel_rfl
@[go_sem ↓] theorem ti_64 : ti Tryz.prog 64 = { ok := true, size := 1, bytes := 8, agg := false, eqv := false, kind := .ptr 75, zero := [.p .nilp] } := by kernel_rfl
@[go_sem ↓] theorem ti_67 : ti Tryz.prog 67 = { ok := true, size := 3, bytes := 24, agg := true, eqv := true, kind := .struct [(0, 3, 1), (1, 3, 1), (2, 3, 1)], zero := [.p (.int .i64 0), .p (.int .i64 0), .p (.int .i64 0)] } := by kernel_rfl
@[go_sem ↓] theorem ti_68 : ti Tryz.prog 68 = { ok := true, size := 3, bytes := 24, agg := true, eqv := true, kind := .struct [(0, 3, 1), (1, 3, 1), (2, 3, 1)], zero := [.p (.int .i64 0), .p (.int .i64 0), .p (.int .i64 0)] } := by kernel_rfl
@[go_sem ↓] theorem ti_71 : ti Tryz.prog 71 = { ok := true, size := 1, bytes := 24, agg := false, eqv := false, kind := .slice 25, zero := [.nilS] } := by kernel_rfl
@[go_sem ↓] theorem ti_72 : ti Tryz.prog 72 = { ok := true, size := 1, bytes := 24, agg := false, eqv := false, kind := .slice 44, zero := [.nilS] } := by kernel_rfl
@[go_sem ↓] theorem ti_73 : ti Tryz.prog 73 = { ok := true, size := 1, bytes := 24, agg := false, eqv := false, kind := .slice 27, zero := [.nilS] } := by kernel_rfl
@[go_sem ↓] theorem ti_74 : ti Tryz.prog 74 = { ok := true, size := 5, bytes := 104, agg := true, eqv := false, kind := .struct [(0, 71, 1), (1, 3, 1), (2, 72, 1), (3, 73, 1), (4, 73, 1)], zero := [.nilS, .p (.int .i64 0), .nilS, .nilS, .nilS] } := by kernel_rfl
@[go_sem ↓] theorem ti_75 : ti Tryz.prog 75 = { ok := true, size := 5, bytes := 104, agg := true, eqv := false, kind := .struct [(0, 71, 1), (1, 3, 1), (2, 72, 1), (3, 73, 1), (4, 73, 1)], zero := [.nilS, .p (.int .i64 0), .nilS, .nilS, .nilS] } := by kernel_rfl
@[go_sem ↓] theorem ti_78 : ti Tryz.prog 78 = { ok := true, size := 14, bytes := 104, agg := true, eqv := false, kind := .struct [(0, 31, 1), (1, 4, 1), (2, 4, 1), (3, 4, 1), (4, 4, 1), (5, 4, 1), (6, 4, 1), (7, 27, 2), (9, 45, 1), (10, 63, 1), (11, 3, 1), (12, 3, 1), (13, 3, 1)], zero := [.p (.int .i64 0), .p (.bool false), .p (.bool false), .p (.bool false), .p (.bool false), .p (.bool false), .p (.bool false), .p (.int .i64 0), .p (.int .i64 0), .nilS, .nilS, .p (.int .i64 0), .p (.int .i64 0), .p (.int .i64 0)] } := by kernel_rfl
@[go_sem ↓] theorem ti_79 : ti Tryz.prog 79 = { ok := true, size := 14, bytes := 104, agg := true, eqv := false, kind := .struct [(0, 31, 1), (1, 4, 1), (2, 4, 1), (3, 4, 1), (4, 4, 1), (5, 4, 1), (6, 4, 1), (7, 27, 2), (9, 45, 1), (10, 63, 1), (11, 3, 1), (12, 3, 1), (13, 3, 1)], zero := [.p (.int .i64 0), .p (.bool false), .p (.bool false), .p (.bool false), .p (.bool false), .p (.bool false), .p (.bool false), .p (.int .i64 0), .p (.int .i64 0), .nilS, .nilS, .p (.int .i64 0), .p (.int .i64 0), .p (.int .i64 0)] } := by kernel_rfl
@[go_sem ↓] theorem ti_82 : ti Tryz.prog 82 = { ok := true, size := 8, bytes := 72, agg := true, eqv := false, kind := .struct [(0, 3, 1), (1, 44, 1), (2, 44, 1), (3, 27, 2), (5, 3, 1), (6, 3, 1), (7, 71, 1)], zero := [.p (.int .i64 0), .p (.int .u32 0), .p (.int .u32 0), .p (.int .i64 0), .p (.int .i64 0), .p (.int .i64 0), .p (.int .i64 0), .nilS] } := by kernel_rfl
@[go_sem ↓] theorem ti_83 : ti Tryz.prog 83 = { ok := true, size := 8, bytes := 72, agg := true, eqv := false, kind := .struct [(0, 3, 1), (1, 44, 1), (2, 44, 1), (3, 27, 2), (5, 3, 1), (6, 3, 1), (7, 71, 1)], zero := [.p (.int .i64 0), .p (.int .u32 0), .p (.int .u32 0), .p (.int .i64 0), .p (.int .i64 0), .p (.int .i64 0), .p (.int .i64 0), .nilS] } := by kernel_rfl
@[go_sem ↓] theorem ti_85 : ti Tryz.prog 85 = { ok := true, size := 1, bytes := 24, agg := false, eqv := false, kind := .slice 71, zero := [.nilS] } := by kernel_rfl
@[go_sem ↓] theorem ti_87 : ti Tryz.prog 87 = { ok := true, size := 1, bytes := 24, agg := false, eqv := false, kind := .slice 47, zero := [.nilS] } := by kernel_rfl
@[go_sem ↓] theorem ti_106 : ti Tryz.prog 106 = { ok := true, size := 3, bytes := 24, agg := true, eqv := true, kind := .struct [(0, 3, 1), (1, 3, 1), (2, 44, 1)], zero := [.p (.int .i64 0), .p (.int .i64 0), .p (.int .u32 0)] } := by kernel_rfl
@[go_sem ↓] theorem ti_107 : ti Tryz.prog 107 = { ok := true, size := 3, bytes := 24, agg := true, eqv := true, kind := .struct [(0, 3, 1), (1, 3, 1), (2, 44, 1)], zero := [.p (.int .i64 0), .p (.int .i64 0), .p (.int .u32 0)] } := by kernel_rfl
@[go_sem ↓] theorem ti_109 : ti Tryz.prog 109 = { ok := true, size := 1, bytes := 24, agg := false, eqv := false, kind := .slice 22, zero := [.nilS] } := by kernel_rfl
@[go_sem ↓] theorem ti_113 : ti Tryz.prog 113 = { ok := true, size := 3, bytes := 24, agg := true, eqv := true, kind := .struct [(0, 44, 1), (1, 34, 2)], zero := [.p (.int .u32 0), .p (.int .i64 0), .p (.int .i64 0)] } := by kernel_rfl
@[go_sem ↓] theorem ti_114 : ti Tryz.prog 114 = { ok := true, size := 3, bytes := 24, agg := true, eqv := true, kind := .struct [(0, 44, 1), (1, 34, 2)], zero := [.p (.int .u32 0), .p (.int .i64 0), .p (.int .i64 0)] } := by kernel_rfl
@[go_sem ↓] theorem ti_119 : ti Tryz.prog 119 = { ok := true, size := 1, bytes := 24, agg := false, eqv := false, kind := .slice 219, zero := [.nilS] } := by kernel_rfl
@[go_sem ↓] theorem ti_120 : ti Tryz.prog 120 = { ok := true, size := 1, bytes := 24, agg := false, eqv := false, kind := .slice 219, zero := [.nilS] } := by kernel_rfl
@[go_sem ↓] theorem ti_121 : ti Tryz.prog 121 = { ok := true, size := 3, bytes := 24, agg := true, eqv := true, kind := .struct [(0, 3, 1), (1, 3, 1), (2, 44, 1)], zero := [.p (.int .i64 0), .p (.int .i64 0), .p (.int .u32 0)] } := by kernel_rfl
@[go_sem ↓] theorem ti_122 : ti Tryz.prog 122 = { ok := true, size := 3, bytes := 24, agg := true, eqv := true, kind := .struct [(0, 3, 1), (1, 3, 1), (2, 44, 1)], zero := [.p (.int .i64 0), .p (.int .i64 0), .p (.int .u32 0)] } := by kernel_rfl
@[go_sem ↓] theorem ti_123 : ti Tryz.prog 123 = { ok := true, size := 7, bytes := 88, agg := true, eqv := false, kind := .struct [(0, 71, 1), (1, 3, 1), (2, 3, 1), (3, 120, 1), (4, 122, 3)], zero := [.nilS, .p (.int .i64 0), .p (.int .i64 0), .nilS, .p (.int .i64 0), .p (.int .i64 0), .p (.int .u32 0)] } := by kernel_rfl
@[go_sem ↓] theorem ti_124 : ti Tryz.prog 124 = { ok := true, size := 7, bytes := 88, agg := true, eqv := false, kind := .struct [(0, 71, 1), (1, 3, 1), (2, 3, 1), (3, 120, 1), (4, 122, 3)], zero := [.nilS, .p (.int .i64 0), .p (.int .i64 0), .nilS, .p (.int .i64 0), .p (.int .i64 0), .p (.int .u32 0)] } := by kernel_rfl
@[go_sem ↓] theorem ti_125 : ti Tryz.prog 125 = { ok := true, size := 1, bytes := 8, agg := false, eqv := false, kind := .ptr 124, zero := [.p .nilp] } := by kernel_rfl
@[go_sem ↓] theorem ti_129 : ti Tryz.prog 129 = { ok := true, size := 1, bytes := 8, agg := false, eqv := false, kind := .ptr 131, zero := [.p .nilp] } := by kernel_rfl
@[go_sem ↓] theorem ti_130 : ti Tryz.prog 130 = { ok := true, size := 37, bytes := 344, agg := true, eqv := false, kind := .struct [(0, 83, 8), (8, 71, 1), (9, 63, 1), (10, 71, 1), (11, 79, 14), (25, 25, 9), (34, 27, 2), (36, 4, 1)], zero := [.p (.int .i64 0), .p (.int .u32 0), .p (.int .u32 0), .p (.int .i64 0), .p (.int .i64 0), .p (.int .i64 0), .p (.int .i64 0), .nilS, .nilS, .nilS, .nilS, .p (.int .i64 0), .p (.bool false), .p (.bool false), .p (.bool false), .p (.bool false), .p (.bool false), .p (.bool false), .p (.int .i64 0), .p (.int .i64 0), .nilS, .nilS, .p (.int .i64 0), .p (.int .i64 0), .p (.int .i64 0), .p (.int .i64 0), .p (.int .u64 0), .p (.int .u64 0), .p (.int .u64 0), .p (.int .u64 0), .p (.int .u64 0), .p (.int .u64 0), .p (.int .u64 0), .p (.int .u64 0), .p (.int .i64 0), .p (.int .i64 0), .p (.bool false)] } := by kernel_rfl
@[go_sem ↓] theorem ti_131 : ti Tryz.prog 131 = { ok := true, size := 37, bytes := 344, agg := true, eqv := false, kind := .struct [(0, 83, 8), (8, 71, 1), (9, 63, 1), (10, 71, 1), (11, 79, 14), (25, 25, 9), (34, 27, 2), (36, 4, 1)], zero := [.p (.int .i64 0), .p (.int .u32 0), .p (.int .u32 0), .p (.int .i64 0), .p (.int .i64 0), .p (.int .i64 0), .p (.int .i64 0), .nilS, .nilS, .nilS, .nilS, .p (.int .i64 0), .p (.bool false), .p (.bool false), .p (.bool false), .p (.bool false), .p (.bool false), .p (.bool false), .p (.int .i64 0), .p (.int .i64 0), .nilS, .nilS, .p (.int .i64 0), .p (.int .i64 0), .p (.int .i64 0), .p (.int .i64 0), .p (.int .u64 0), .p (.int .u64 0), .p (.int .u64 0), .p (.int .u64 0), .p (.int .u64 0), .p (.int .u64 0), .p (.int .u64 0), .p (.int .u64 0), .p (.int .i64 0), .p (.int .i64 0), .p (.bool false)] } := by kernel_rfl
@[go_sem ↓] theorem ti_146 : ti Tryz.prog 146 = { ok := true, size := 16, bytes := 128, agg := true, eqv := false, kind := .struct [(0, 25, 9), (9, 47, 7)], zero := [.p (.int .i64 0), .p (.int .u64 0), .p (.int .u64 0), .p (.int .u64 0), .p (.int .u64 0), .p (.int .u64 0), .p (.int .u64 0), .p (.int .u64 0), .p (.int .u64 0), .p (.int .i64 0), .p (.bool false), .p (.bool false), .p (.int .u32 0), .p (.int .i64 0), .p (.int .i64 0), .nilS] } := by kernel_rfl
@[go_sem ↓] theorem ti_147 : ti Tryz.prog 147 = { ok := true, size := 16, bytes := 128, agg := true, eqv := false, kind := .struct [(0, 25, 9), (9, 47, 7)], zero := [.p (.int .i64 0), .p (.int .u64 0), .p (.int .u64 0), .p (.int .u64 0), .p (.int .u64 0), .p (.int .u64 0), .p (.int .u64 0), .p (.int .u64 0), .p (.int .u64 0), .p (.int .i64 0), .p (.bool false), .p (.bool false), .p (.int .u32 0), .p (.int .i64 0), .p (.int .i64 0), .nilS] } := by kernel_rfl
@[go_sem ↓] theorem ti_173 : ti Tryz.prog 173 = { ok := true, size := 1, bytes := 8, agg := false, eqv := true, kind := .int .i64, zero := [.p (.int .i64 0)] } := by kernel_rfl
@[go_sem ↓] theorem ti_183 : ti Tryz.prog 183 = { ok := true, size := 1, bytes := 8, agg := false, eqv := true, kind := .int .u64, zero := [.p (.int .u64 0)] } := by kernel_rfl
@[go_sem ↓] theorem ti_187 : ti Tryz.prog 187 = { ok := true, size := 1, bytes := 8, agg := false, eqv := false, kind := .ptr 3, zero := [.p .nilp] } := by kernel_rfl
@[go_sem ↓] theorem ti_196 : ti Tryz.prog 196 = { ok := true, size := 1, bytes := 8, agg := false, eqv := false, kind := .ptr 183, zero := [.p .nilp] } := by kernel_rfl
@[go_sem ↓] theorem ti_205 : ti Tryz.prog 205 = { ok := true, size := 0, bytes := 0, agg := true, eqv := false, kind := .array 0 16, zero := [] } := by kernel_rfl
@[go_sem ↓] theorem ti_206 : ti Tryz.prog 206 = { ok := true, size := 0, bytes := 0, agg := true, eqv := false, kind := .struct [(0, 205, 0)], zero := [] } := by kernel_rfl
@[go_sem ↓] theorem ti_207 : ti Tryz.prog 207 = { ok := true, size := 0, bytes := 0, agg := true, eqv := false, kind := .struct [(0, 205, 0)], zero := [] } := by kernel_rfl
@[go_sem ↓] theorem ti_209 : ti Tryz.prog 209 = { ok := true, size := 1, bytes := 1, agg := false, eqv := true, kind := .int .u8, zero := [.p (.int .u8 0)] } := by kernel_rfl
@[go_sem ↓] theorem ti_210 : ti Tryz.prog 210 = { ok := true, size := 1, bytes := 1, agg := false, eqv := true, kind := .int .u8, zero := [.p (.int .u8 0)] } := by kernel_rfl
@[go_sem ↓] theorem ti_212 : ti Tryz.prog 212 = { ok := true, size := 1, bytes := 8, agg := false, eqv := false, kind := .ptr 5, zero := [.p .nilp] } := by kernel_rfl
@[go_sem ↓] theorem ti_213 : ti Tryz.prog 213 = { ok := true, size := 1, bytes := 4, agg := false, eqv := true, kind := .int .i32, zero := [.p (.int .i32 0)] } := by kernel_rfl
@[go_sem ↓] theorem ti_214 : ti Tryz.prog 214 = { ok := true, size := 1, bytes := 4, agg := false, eqv := true, kind := .int .i32, zero := [.p (.int .i32 0)] } := by kernel_rfl
@[go_sem ↓] theorem ti_217 : ti Tryz.prog 217 = { ok := true, size := 3, bytes := 24, agg := true, eqv := true, kind := .array 3 2, zero := [.p (.int .i64 0), .p (.int .i64 0), .p (.int .i64 0)] } := by kernel_rfl
@[go_sem ↓] theorem ti_218 : ti Tryz.prog 218 = { ok := true, size := 4, bytes := 32, agg := true, eqv := true, kind := .struct [(0, 44, 1), (1, 217, 3)], zero := [.p (.int .u32 0), .p (.int .i64 0), .p (.int .i64 0), .p (.int .i64 0)] } := by kernel_rfl
@[go_sem ↓] theorem ti_219 : ti Tryz.prog 219 = { ok := true, size := 4, bytes := 32, agg := true, eqv := true, kind := .struct [(0, 44, 1), (1, 217, 3)], zero := [.p (.int .u32 0), .p (.int .i64 0), .p (.int .i64 0), .p (.int .i64 0)] } := by kernel_rfl
end Go.Sh
end
section
namespace Go.Sh
open Go.Proofs
structure api_Page where
  Line : Int
  Head : Int
  Data : (A7 Int)

abbrev r_api_Page (x : api_Page) : List PV := r_i64 x.Line ++ r_u64 x.Head ++ (r_A7 r_u64) x.Data
attribute [go_sem] r_api_Page

structure pointer_Pointer where
  Line : Int
  Gen : Int

abbrev r_pointer_Pointer (x : pointer_Pointer) : List PV := r_i64 x.Line ++ r_i64 x.Gen
attribute [go_sem] r_pointer_Pointer

structure bodegaref19_Pointer where
  Line : Int
  Gen : Int

abbrev r_bodegaref19_Pointer (x : bodegaref19_Pointer) : List PV := r_i64 x.Line ++ r_i64 x.Gen
attribute [go_sem] r_bodegaref19_Pointer

structure bodegaref26_Cursor where
  Phase : Int
  Level : Int
  Key : Int

abbrev r_bodegaref26_Cursor (x : bodegaref26_Cursor) : List PV := r_i64 x.Phase ++ r_i64 x.Level ++ r_u32 x.Key
attribute [go_sem] r_bodegaref26_Cursor

structure bodegaref19_Row where
  Key : Int
  Cols : (A3 Int)

abbrev r_bodegaref19_Row (x : bodegaref19_Row) : List PV := r_u32 x.Key ++ (r_A3 r_i64) x.Cols
attribute [go_sem] r_bodegaref19_Row

structure bodegaheap_Heap where
  Pages : (List api_Page)
  Lines : Int
  Seq : Int
  Table : (List bodegaref19_Row)
  Cursor : bodegaref26_Cursor

abbrev r_bodegaheap_Heap (x : bodegaheap_Heap) : List PV := (r_S r_api_Page) x.Pages ++ r_i64 x.Lines ++ r_i64 x.Seq ++ (r_S r_bodegaref19_Row) x.Table ++ r_bodegaref26_Cursor x.Cursor
attribute [go_sem] r_bodegaheap_Heap

structure bodegalaw24_index where
  Pages : (List api_Page)
  Next : Int
  Keys : (List Int)
  To : (List pointer_Pointer)
  Gone : (List pointer_Pointer)

abbrev r_bodegalaw24_index (x : bodegalaw24_index) : List PV := (r_S r_api_Page) x.Pages ++ r_i64 x.Next ++ (r_S r_u32) x.Keys ++ (r_S r_pointer_Pointer) x.To ++ (r_S r_pointer_Pointer) x.Gone
attribute [go_sem] r_bodegalaw24_index

structure btree_Op where
  Kind : Int
  Key : Int
  Last : Int
  To : pointer_Pointer
  Level : Int
  Limit : Int
  Fresh : (List api_Page)

abbrev r_btree_Op (x : btree_Op) : List PV := r_i64 x.Kind ++ r_u32 x.Key ++ r_u32 x.Last ++ r_pointer_Pointer x.To ++ r_i64 x.Level ++ r_i64 x.Limit ++ (r_S r_api_Page) x.Fresh
attribute [go_sem] r_btree_Op

structure hashindex_Entry where
  Key : Int
  To : pointer_Pointer

abbrev r_hashindex_Entry (x : hashindex_Entry) : List PV := r_u32 x.Key ++ r_pointer_Pointer x.To
attribute [go_sem] r_hashindex_Entry

structure btree_Out where
  Code : Int
  Found : Bool
  Done : Bool
  Split : Bool
  Unposted : Bool
  Dead : Bool
  More : Bool
  To : pointer_Pointer
  Entries : (List hashindex_Entry)
  Check : (List Int)
  Hops : Int
  Fresh : Int
  Height : Int

abbrev r_btree_Out (x : btree_Out) : List PV := r_i64 x.Code ++ r_bool x.Found ++ r_bool x.Done ++ r_bool x.Split ++ r_bool x.Unposted ++ r_bool x.Dead ++ r_bool x.More ++ r_pointer_Pointer x.To ++ (r_S r_hashindex_Entry) x.Entries ++ (r_S r_i64) x.Check ++ r_i64 x.Hops ++ r_i64 x.Fresh ++ r_i64 x.Height
attribute [go_sem] r_btree_Out

structure btree_run where
  Op : btree_Op
  Known : (List api_Page)
  Need : (List Int)
  Writes : (List api_Page)
  Out : btree_Out
  RootPage : api_Page
  Root : pointer_Pointer
  Ended : Bool

abbrev r_btree_run (x : btree_run) : List PV := r_btree_Op x.Op ++ (r_S r_api_Page) x.Known ++ (r_S r_i64) x.Need ++ (r_S r_api_Page) x.Writes ++ r_btree_Out x.Out ++ r_api_Page x.RootPage ++ r_pointer_Pointer x.Root ++ r_bool x.Ended
attribute [go_sem] r_btree_run

structure pointer_Tag where
  Kind : Int
  Gen : Int
  Aux : Int

abbrev r_pointer_Tag (x : pointer_Tag) : List PV := r_i64 x.Kind ++ r_i64 x.Gen ++ r_u32 x.Aux
attribute [go_sem] r_pointer_Tag

structure btree_Node where
  Level : Int
  Leftmost : Bool
  Dead : Bool
  High : Int
  Right : pointer_Pointer
  Entries : (List hashindex_Entry)

abbrev r_btree_Node (x : btree_Node) : List PV := r_i64 x.Level ++ r_bool x.Leftmost ++ r_bool x.Dead ++ r_u32 x.High ++ r_pointer_Pointer x.Right ++ (r_S r_hashindex_Entry) x.Entries
attribute [go_sem] r_btree_Node

structure btree_found where
  Page : api_Page
  Node : btree_Node

abbrev r_btree_found (x : btree_found) : List PV := r_api_Page x.Page ++ r_btree_Node x.Node
attribute [go_sem] r_btree_found

structure bodegaref23_Entry where
  Key : Int
  To : bodegaref19_Pointer

abbrev r_bodegaref23_Entry (x : bodegaref23_Entry) : List PV := r_u32 x.Key ++ r_bodegaref19_Pointer x.To
attribute [go_sem] r_bodegaref23_Entry

structure bodegaref24_Node where
  Level : Int
  Leftmost : Bool
  Dead : Bool
  High : Int
  Right : bodegaref19_Pointer
  Entries : (List bodegaref23_Entry)

abbrev r_bodegaref24_Node (x : bodegaref24_Node) : List PV := r_i64 x.Level ++ r_bool x.Leftmost ++ r_bool x.Dead ++ r_u32 x.High ++ r_bodegaref19_Pointer x.Right ++ (r_S r_bodegaref23_Entry) x.Entries
attribute [go_sem] r_bodegaref24_Node

abbrev g_yylp (x : api_Page) : List BC := [.p (.int .i64 x.Line), .p (.int .u64 x.Head), .p (.int .u64 x.Data.a0), .p (.int .u64 x.Data.a1), .p (.int .u64 x.Data.a2), .p (.int .u64 x.Data.a3), .p (.int .u64 x.Data.a4), .p (.int .u64 x.Data.a5), .p (.int .u64 x.Data.a6)]
attribute [go_sem] g_yylp
abbrev b_mq86 (x : api_Page) : List AV := [.p (.int .i64 x.Line), .p (.int .u64 x.Head), .p (.int .u64 x.Data.a0), .p (.int .u64 x.Data.a1), .p (.int .u64 x.Data.a2), .p (.int .u64 x.Data.a3), .p (.int .u64 x.Data.a4), .p (.int .u64 x.Data.a5), .p (.int .u64 x.Data.a6)]
attribute [go_sem] b_mq86
abbrev g_deik (x : bodegaheap_Heap) : List BC := [.own 9 (x.Pages.map r_api_Page), .p (.int .i64 x.Lines), .p (.int .i64 x.Seq), .own 4 (x.Table.map r_bodegaref19_Row), .p (.int .i64 x.Cursor.Phase), .p (.int .i64 x.Cursor.Level), .p (.int .u32 x.Cursor.Key)]
attribute [go_sem] g_deik
abbrev g_kpb5 (x : bodegalaw24_index) : List BC := [.own 9 (x.Pages.map r_api_Page), .p (.int .i64 x.Next), .own 1 (x.Keys.map r_u32), .own 2 (x.To.map r_pointer_Pointer), .own 2 (x.Gone.map r_pointer_Pointer)]
attribute [go_sem] g_kpb5
abbrev b_rlqi (x : bodegalaw24_index) (k0 k1 k2 k3 : Key) : List AV := [.ref k0 0 x.Pages.length, .p (.int .i64 x.Next), .ref k1 0 x.Keys.length, .ref k2 0 x.To.length, .ref k3 0 x.Gone.length]
attribute [go_sem] b_rlqi
abbrev g_vplu (x : btree_Op) : List BC := [.p (.int .i64 x.Kind), .p (.int .u32 x.Key), .p (.int .u32 x.Last), .p (.int .i64 x.To.Line), .p (.int .i64 x.To.Gen), .p (.int .i64 x.Level), .p (.int .i64 x.Limit), .own 9 (x.Fresh.map r_api_Page)]
attribute [go_sem] g_vplu
abbrev g_e29e (x : btree_Op) : List BC := [.p (.int .i64 x.Kind), .p (.int .u32 x.Key), .p (.int .u32 x.Last), .p (.int .i64 x.To.Line), .p (.int .i64 x.To.Gen), .p (.int .i64 x.Level), .p (.int .i64 x.Limit), .p (.rows (x.Fresh.map r_api_Page))]
attribute [go_sem] g_e29e
abbrev b_8lf7 (x : btree_Op) : List AV := [.p (.int .i64 x.Kind), .p (.int .u32 x.Key), .p (.int .u32 x.Last), .p (.int .i64 x.To.Line), .p (.int .i64 x.To.Gen), .p (.int .i64 x.Level), .p (.int .i64 x.Limit), .p (.rows (x.Fresh.map r_api_Page))]
attribute [go_sem] b_8lf7
abbrev g_rhlf (x : btree_run) : List BC := [.p (.int .i64 x.Op.Kind), .p (.int .u32 x.Op.Key), .p (.int .u32 x.Op.Last), .p (.int .i64 x.Op.To.Line), .p (.int .i64 x.Op.To.Gen), .p (.int .i64 x.Op.Level), .p (.int .i64 x.Op.Limit), .p (.rows (x.Op.Fresh.map r_api_Page)), .p (.rows (x.Known.map r_api_Page)), .own 1 (x.Need.map r_i64), .own 9 (x.Writes.map r_api_Page), .p (.int .i64 x.Out.Code), .p (.bool x.Out.Found), .p (.bool x.Out.Done), .p (.bool x.Out.Split), .p (.bool x.Out.Unposted), .p (.bool x.Out.Dead), .p (.bool x.Out.More), .p (.int .i64 x.Out.To.Line), .p (.int .i64 x.Out.To.Gen), .own 3 (x.Out.Entries.map r_hashindex_Entry), .own 1 (x.Out.Check.map r_i64), .p (.int .i64 x.Out.Hops), .p (.int .i64 x.Out.Fresh), .p (.int .i64 x.Out.Height), .p (.int .i64 x.RootPage.Line), .p (.int .u64 x.RootPage.Head), .p (.int .u64 x.RootPage.Data.a0), .p (.int .u64 x.RootPage.Data.a1), .p (.int .u64 x.RootPage.Data.a2), .p (.int .u64 x.RootPage.Data.a3), .p (.int .u64 x.RootPage.Data.a4), .p (.int .u64 x.RootPage.Data.a5), .p (.int .u64 x.RootPage.Data.a6), .p (.int .i64 x.Root.Line), .p (.int .i64 x.Root.Gen), .p (.bool x.Ended)]
attribute [go_sem] g_rhlf
abbrev b_1wfs (x : btree_run) (k0 k1 k2 k3 : Key) : List AV := [.p (.int .i64 x.Op.Kind), .p (.int .u32 x.Op.Key), .p (.int .u32 x.Op.Last), .p (.int .i64 x.Op.To.Line), .p (.int .i64 x.Op.To.Gen), .p (.int .i64 x.Op.Level), .p (.int .i64 x.Op.Limit), .p (.rows (x.Op.Fresh.map r_api_Page)), .p (.rows (x.Known.map r_api_Page)), .ref k0 0 x.Need.length, .ref k1 0 x.Writes.length, .p (.int .i64 x.Out.Code), .p (.bool x.Out.Found), .p (.bool x.Out.Done), .p (.bool x.Out.Split), .p (.bool x.Out.Unposted), .p (.bool x.Out.Dead), .p (.bool x.Out.More), .p (.int .i64 x.Out.To.Line), .p (.int .i64 x.Out.To.Gen), .ref k2 0 x.Out.Entries.length, .ref k3 0 x.Out.Check.length, .p (.int .i64 x.Out.Hops), .p (.int .i64 x.Out.Fresh), .p (.int .i64 x.Out.Height), .p (.int .i64 x.RootPage.Line), .p (.int .u64 x.RootPage.Head), .p (.int .u64 x.RootPage.Data.a0), .p (.int .u64 x.RootPage.Data.a1), .p (.int .u64 x.RootPage.Data.a2), .p (.int .u64 x.RootPage.Data.a3), .p (.int .u64 x.RootPage.Data.a4), .p (.int .u64 x.RootPage.Data.a5), .p (.int .u64 x.RootPage.Data.a6), .p (.int .i64 x.Root.Line), .p (.int .i64 x.Root.Gen), .p (.bool x.Ended)]
attribute [go_sem] b_1wfs
abbrev g_kkcs (x : btree_Node) : List BC := [.p (.int .i64 x.Level), .p (.bool x.Leftmost), .p (.bool x.Dead), .p (.int .u32 x.High), .p (.int .i64 x.Right.Line), .p (.int .i64 x.Right.Gen), .p (.rows (x.Entries.map r_hashindex_Entry))]
attribute [go_sem] g_kkcs
abbrev b_kfil (x : btree_Node) : List AV := [.p (.int .i64 x.Level), .p (.bool x.Leftmost), .p (.bool x.Dead), .p (.int .u32 x.High), .p (.int .i64 x.Right.Line), .p (.int .i64 x.Right.Gen), .p (.rows (x.Entries.map r_hashindex_Entry))]
attribute [go_sem] b_kfil
abbrev g_3f6k (x : btree_Node) : List BC := [.p (.int .i64 x.Level), .p (.bool x.Leftmost), .p (.bool x.Dead), .p (.int .u32 x.High), .p (.int .i64 x.Right.Line), .p (.int .i64 x.Right.Gen), .own 3 (x.Entries.map r_hashindex_Entry)]
attribute [go_sem] g_3f6k
abbrev g_ggvz (x : btree_found) : List BC := [.p (.int .i64 x.Page.Line), .p (.int .u64 x.Page.Head), .p (.int .u64 x.Page.Data.a0), .p (.int .u64 x.Page.Data.a1), .p (.int .u64 x.Page.Data.a2), .p (.int .u64 x.Page.Data.a3), .p (.int .u64 x.Page.Data.a4), .p (.int .u64 x.Page.Data.a5), .p (.int .u64 x.Page.Data.a6), .p (.int .i64 x.Node.Level), .p (.bool x.Node.Leftmost), .p (.bool x.Node.Dead), .p (.int .u32 x.Node.High), .p (.int .i64 x.Node.Right.Line), .p (.int .i64 x.Node.Right.Gen), .own 3 (x.Node.Entries.map r_hashindex_Entry)]
attribute [go_sem] g_ggvz
abbrev g_5mbx (x : btree_found) : List BC := [.p (.int .i64 x.Page.Line), .p (.int .u64 x.Page.Head), .p (.int .u64 x.Page.Data.a0), .p (.int .u64 x.Page.Data.a1), .p (.int .u64 x.Page.Data.a2), .p (.int .u64 x.Page.Data.a3), .p (.int .u64 x.Page.Data.a4), .p (.int .u64 x.Page.Data.a5), .p (.int .u64 x.Page.Data.a6), .p (.int .i64 x.Node.Level), .p (.bool x.Node.Leftmost), .p (.bool x.Node.Dead), .p (.int .u32 x.Node.High), .p (.int .i64 x.Node.Right.Line), .p (.int .i64 x.Node.Right.Gen), .p .any]
attribute [go_sem] g_5mbx
abbrev b_2ism (x : btree_found) : List AV := [.p (.int .i64 x.Page.Line), .p (.int .u64 x.Page.Head), .p (.int .u64 x.Page.Data.a0), .p (.int .u64 x.Page.Data.a1), .p (.int .u64 x.Page.Data.a2), .p (.int .u64 x.Page.Data.a3), .p (.int .u64 x.Page.Data.a4), .p (.int .u64 x.Page.Data.a5), .p (.int .u64 x.Page.Data.a6), .p (.int .i64 x.Node.Level), .p (.bool x.Node.Leftmost), .p (.bool x.Node.Dead), .p (.int .u32 x.Node.High), .p (.int .i64 x.Node.Right.Line), .p (.int .i64 x.Node.Right.Gen), .p .any]
attribute [go_sem] b_2ism
abbrev g_pyye (x : btree_Out) : List BC := [.p (.int .i64 x.Code), .p (.bool x.Found), .p (.bool x.Done), .p (.bool x.Split), .p (.bool x.Unposted), .p (.bool x.Dead), .p (.bool x.More), .p (.int .i64 x.To.Line), .p (.int .i64 x.To.Gen), .own 3 (x.Entries.map r_hashindex_Entry), .own 1 (x.Check.map r_i64), .p (.int .i64 x.Hops), .p (.int .i64 x.Fresh), .p (.int .i64 x.Height)]
attribute [go_sem] g_pyye
abbrev b_mpop (x : btree_Op) (k0 : Key) : List AV := [.p (.int .i64 x.Kind), .p (.int .u32 x.Key), .p (.int .u32 x.Last), .p (.int .i64 x.To.Line), .p (.int .i64 x.To.Gen), .p (.int .i64 x.Level), .p (.int .i64 x.Limit), .ref k0 0 x.Fresh.length]
attribute [go_sem] b_mpop
abbrev b_uztp (x : btree_Out) (k0 k1 : Key) : List AV := [.p (.int .i64 x.Code), .p (.bool x.Found), .p (.bool x.Done), .p (.bool x.Split), .p (.bool x.Unposted), .p (.bool x.Dead), .p (.bool x.More), .p (.int .i64 x.To.Line), .p (.int .i64 x.To.Gen), .ref k0 0 x.Entries.length, .ref k1 0 x.Check.length, .p (.int .i64 x.Hops), .p (.int .i64 x.Fresh), .p (.int .i64 x.Height)]
attribute [go_sem] b_uztp
abbrev g_dzp5 (x : bodegaref24_Node) : List BC := [.p (.int .i64 x.Level), .p (.bool x.Leftmost), .p (.bool x.Dead), .p (.int .u32 x.High), .p (.int .i64 x.Right.Line), .p (.int .i64 x.Right.Gen), .p (.rows (x.Entries.map r_bodegaref23_Entry))]
attribute [go_sem] g_dzp5
abbrev b_dt2w (x : bodegaref24_Node) : List AV := [.p (.int .i64 x.Level), .p (.bool x.Leftmost), .p (.bool x.Dead), .p (.int .u32 x.High), .p (.int .i64 x.Right.Line), .p (.int .i64 x.Right.Gen), .p (.rows (x.Entries.map r_bodegaref23_Entry))]
attribute [go_sem] b_dt2w
abbrev g_wqqx (x : bodegaref24_Node) : List BC := [.p (.int .i64 x.Level), .p (.bool x.Leftmost), .p (.bool x.Dead), .p (.int .u32 x.High), .p (.int .i64 x.Right.Line), .p (.int .i64 x.Right.Gen), .own 3 (x.Entries.map r_bodegaref23_Entry)]
attribute [go_sem] g_wqqx
end Go.Sh
end
section
namespace Go.Sh

theorem PsRep.app {V w} {vs : List Value} {ps : List PV} (h : PsRep V w vs ps) {vs' ps'} (h' : PsRep V w vs' ps') : PsRep V w (vs ++ vs') (ps ++ ps') := by
  induction h with
  | nil => exact h'
  | cons a _ ih => exact .cons a ih

theorem PsRep.len {V w} {vs : List Value} {ps : List PV} (h : PsRep V w vs ps) : ps.length = vs.length := h.length.symm

inductive Conf (P : Program) : TypeId → List PV → Prop where
  | bool {t b} (h : P.underlying t = some .bool) : Conf P t [.bool b]
  | int {t k n} (h : P.underlying t = some (.int k)) (hw : (Lit.int k n).wf = true) : Conf P t [.int k n]
  | slice {t e l} (h : P.underlying t = some (.slice e)) (hl : l.length ≤ maxLen) (hr : ∀ row ∈ l, Conf P e row) : Conf P t [.rows l]
  | struct {t fs} (ps : Nat → List PV) (h : P.underlying t = some (.struct fs)) (hp : ∀ (i : Nat) (f : Field), fs[i]? = some f → Conf P f.type (ps i)) : Conf P t ((List.range fs.size).flatMap ps)
  | array {t n e} (ps : Nat → List PV) (h : P.underlying t = some (.array n e)) (hp : ∀ i, i < n → Conf P e (ps i)) : Conf P t ((List.range n).flatMap ps)

/-- The fields lie one behind the other. -/
def tiles (P : Program) : Nat → List Field → Nat → Bool
  | o, [], n => o == n
  | o, f :: fs, n => f.offset == o && tiles P (o + P.cellsOf f.type) fs n

/-- A type of integers, truths, rows, records and slices of such. -/
def plainT (P : Program) : Nat → TypeId → Bool
  | 0, _ => false
  | d + 1, t => match P.underlying t with
    | some .bool => P.cellsOf t == 1
    | some (.int _) => P.cellsOf t == 1
    | some (.slice e) => P.cellsOf t == 1 && plainT P d e && (P.cellsOf e != 0)
    | some (.struct fs) => tiles P 0 fs.toList (P.cellsOf t) && fs.toList.all fun f => plainT P d f.type
    | some (.array n e) => P.cellsOf t == n * P.cellsOf e && plainT P d e
    | _ => false

theorem range_flat {α : Type} (f : Nat → List α) (n : Nat) : (List.range (n + 1)).flatMap f = f 0 ++ (List.range n).flatMap fun i => f (i + 1) := by
  rw [List.range_succ_eq_map]
  simp [List.flatMap_map]

section
variable {H : Type} {enc : TypeId × Value → H} {P : Program} {w : World}

theorem tiles_rep {V : Nat → Prop} : ∀ (fs : List Field) (o n : Nat) (cs : List Value), tiles P o fs n = true → cs.length = n →
    (∀ (i : Nat) (f : Field), fs[i]? = some f → ∃ ps, PsRep V w ((cs.drop f.offset).take (P.cellsOf f.type)) ps ∧ Conf P f.type ps) →
    ∃ ps : Nat → List PV, PsRep V w (cs.drop o) ((List.range fs.length).flatMap ps) ∧ ∀ (i : Nat) (f : Field), fs[i]? = some f → Conf P f.type (ps i)
  | [], o, n, cs, ht, hl, _ => by
    simp [tiles] at ht
    subst ht
    refine ⟨fun _ => [], ?_, by intro i f h; simp at h⟩
    rw [← hl, List.drop_length]
    exact .nil
  | f :: fs, o, n, cs, ht, hl, h => by
    simp only [tiles, Bool.and_eq_true, beq_iff_eq] at ht
    obtain ⟨ps0, h0, c0⟩ := h 0 f rfl
    obtain ⟨ps, h1, c1⟩ := tiles_rep fs (o + P.cellsOf f.type) n cs ht.2 hl (fun i g hg => h (i + 1) g (by simpa using hg))
    refine ⟨fun i => match i with | 0 => ps0 | i + 1 => ps i, ?_, ?_⟩
    · rw [List.length_cons, range_flat]
      rw [ht.1] at h0
      have : cs.drop o = (cs.drop o).take (P.cellsOf f.type) ++ cs.drop (o + P.cellsOf f.type) := by
        rw [← List.drop_drop, List.take_append_drop]
      rw [this]
      exact h0.app h1
    · intro i g hg
      cases i with
      | zero => simp at hg; subst hg; exact c0
      | succ i => exact c1 i g (by simpa using hg)

theorem arr_rep {V : Nat → Prop} (e : TypeId) (z : Nat) : ∀ (n o : Nat) (cs : List Value), cs.length = (o + n) * z →
    (∀ i, i < n → ∃ ps, PsRep V w ((cs.drop ((o + i) * z)).take z) ps ∧ Conf P e ps) →
    ∃ ps : Nat → List PV, PsRep V w (cs.drop (o * z)) ((List.range n).flatMap ps) ∧ ∀ i, i < n → Conf P e (ps i)
  | 0, o, cs, hl, _ => by
    refine ⟨fun _ => [], ?_, by intro i h; omega⟩
    have : cs.drop (o * z) = [] := by rw [List.drop_eq_nil_iff]; simp at hl; omega
    rw [this]
    exact .nil
  | n + 1, o, cs, hl, h => by
    obtain ⟨ps0, h0, c0⟩ := h 0 (by omega)
    obtain ⟨ps, h1, c1⟩ := arr_rep e z n (o + 1) cs (by rw [hl]; congr 1; omega) (fun i hi => by have := h (i + 1) (by omega); rwa [show o + (i + 1) = o + 1 + i by omega] at this)
    refine ⟨fun i => match i with | 0 => ps0 | i + 1 => ps i, ?_, ?_⟩
    · rw [range_flat]
      have : cs.drop (o * z) = (cs.drop (o * z)).take z ++ cs.drop ((o + 1) * z) := by
        rw [show (o + 1) * z = o * z + z by rw [Nat.succ_mul], ← List.drop_drop, List.take_append_drop]
      rw [this]
      exact PsRep.app (by simpa using h0) h1
    · intro i hi
      cases i with
      | zero => exact c0
      | succ i => exact c1 i (by omega)

theorem cell_lt {a : Addr} {v : Value} (h : w.cell? a = some v) : a.block < w.heap.size := by
  by_cases hb : a.block < w.heap.size
  · exact hb
  · unfold World.cell? at h
    rw [Array.getElem?_eq_none (by omega)] at h
    simp at h

theorem trod_rep : ∀ (fuel d : Nat) (t : TypeId) (cs : List Value) (x : DataW H × List MemPlace), plainT P d t = true →
    DataW.trod enc P w 0 (fun _ => true) true fuel t cs = some x → ∃ ps, PsRep (· < w.heap.size) w cs ps ∧ Conf P t ps
  | 0, _, _, _, _, _, h => by simp [DataW.trod] at h
  | _ + 1, 0, _, _, _, hp, _ => by simp [plainT] at hp
  | fuel + 1, d + 1, t, cs, x, hp, h => by
    unfold plainT at hp
    split at hp
    · rename_i hu
      obtain ⟨b, rfl, _⟩ := DataW.trod_bool hu h
      exact ⟨_, .cons (.bool b) .nil, .bool hu⟩
    · rename_i k hu
      obtain ⟨n, rfl, _, hw⟩ := DataW.trod_int hu h
      exact ⟨_, .cons (.int k n) .nil, .int hu hw⟩
    · rename_i e hu
      simp only [Bool.and_eq_true, bne_iff_ne, ne_eq] at hp
      obtain ⟨⟨_, hpe⟩, hz⟩ := hp
      rcases DataW.trod_slice hu h with ⟨rfl, _⟩ | ⟨a, len, cap, elems, rest, n, hf, rfl, _, _, hl, hc, hel, hget, _⟩
      · exact ⟨_, .cons (.nil none 0) .nil, .slice hu (by simp) (by simp)⟩
      · obtain rfl : fuel = n := by omega
        have hrow : ∀ i, ∃ (cs' : List Value) (row : List PV), i < len → w.cells? 0 (a.add (i * P.cellsOf e)) (P.cellsOf e) = some cs' ∧ PsRep (· < w.heap.size) w cs' row ∧ Conf P e row := by
          intro i
          by_cases hi : i < len
          · have := hget i hi
            rw [List.getElem?_eq_getElem (by omega), Option.bind_eq_some_iff] at this
            obtain ⟨cs', h1, h2⟩ := this
            obtain ⟨row, h3, h4⟩ := trod_rep fuel d e cs' _ hpe h2
            exact ⟨cs', row, fun _ => ⟨h1, h3, h4⟩⟩
          · exact ⟨[], [], fun h => (hi h).elim⟩
        let cf := fun i => (hrow i).choose
        have hcf := fun i => (hrow i).choose_spec
        let g := fun i => (hcf i).choose
        have hg := fun i => (hcf i).choose_spec
        rcases Nat.eq_zero_or_pos len with h0 | h0
        · subst h0
          exact ⟨_, .cons (.nil (some a) cap) .nil, .slice hu (by simp) (by simp)⟩
        · have hcell : ∀ i j, i < len → j < P.cellsOf e → w.cell? ((a.add (i * P.cellsOf e)).add j) = (cf i)[j]? := fun i j hi hj => (World.cells?_some (hg i hi).1).2.2 j hj
          have hlen : ∀ i, i < len → (cf i).length = P.cellsOf e := fun i hi => (World.cells?_some (hg i hi).1).2.1
          have hsome : ∀ i j, i < len → j < P.cellsOf e → ∃ v, w.cell? ((a.add (i * P.cellsOf e)).add j) = some v := fun i j hi hj => by
            rw [hcell i j hi hj]
            exact ⟨_, List.getElem?_eq_getElem (by rw [hlen i hi]; exact hj)⟩
          obtain ⟨v0, hv0⟩ := hsome 0 0 h0 (by omega)
          obtain ⟨b, o, sp⟩ := a
          have hv0' : w.cell? ⟨b, o, sp⟩ = some v0 := by simpa [Addr.add] using hv0
          have hsp : sp = none := World.cell?_spot hv0'
          subst hsp
          have hb : b < w.heap.size := cell_lt hv0'
          have hlr : len = ((List.range len).map g).length := by simp
          refine ⟨[.rows ((List.range len).map g)], .cons ?_ .nil, .slice hu (by simp; omega) ?_⟩
          · have key := PRep.rows (V := (· < w.heap.size)) (w := w) b o ((List.range len).map g) cap (P.cellsOf e) (fun i j => ((cf i)[j]?).getD .nilFunc) hb (by simp; omega) (fun i row hr => by
                rw [List.getElem?_map] at hr
                by_cases hi : i < len
                · rw [List.getElem?_range hi] at hr
                  simp at hr
                  subst hr
                  rw [(hg i hi).2.1.len, hlen i hi]
                · rw [List.getElem?_eq_none (by simp; omega)] at hr
                  simp at hr) (fun i j hi hj => by
                have hi' : i < len := by simpa using hi
                have := hcell i j hi' hj
                rw [add_none, add_none] at this
                rw [this, List.getElem?_eq_getElem (by rw [hlen i hi']; exact hj)]
                rfl) (fun i j row c hr hc => by
                rw [List.getElem?_map] at hr
                by_cases hi : i < len
                · rw [List.getElem?_range hi] at hr
                  simp at hr
                  subst hr
                  obtain ⟨v, e1, e2⟩ := (hg i hi).2.1.get j c hc
                  have e1' : (cf i)[j]? = some v := e1
                  rw [e1']
                  exact e2
                · rw [List.getElem?_eq_none (by simp; omega)] at hr
                  simp at hr)
            rw [← hlr] at key
            exact key
          · intro row hr
            simp only [List.mem_map, List.mem_range] at hr
            obtain ⟨i, hi, rfl⟩ := hr
            exact (hg i hi).2.2
    · rename_i fs hu
      simp only [Bool.and_eq_true] at hp
      obtain ⟨xs, n, hf, _, hl, hxl, hget⟩ := DataW.trod_struct hu h
      obtain rfl : fuel = n := by omega
      obtain ⟨ps, h1, h2⟩ := tiles_rep (P := P) (w := w) (V := (· < w.heap.size)) fs.toList 0 (P.cellsOf t) cs hp.1 hl (fun i f hfi => by
        have hfi' : fs[i]? = some f := by simpa using hfi
        have hi : i < fs.size := by
          by_cases hi : i < fs.size
          · exact hi
          · rw [Array.getElem?_eq_none (by omega)] at hfi'; simp at hfi'
        have := hget i f hfi'
        rw [List.getElem?_eq_getElem (by omega)] at this
        exact trod_rep fuel d f.type _ _ (List.all_eq_true.1 hp.2 f (List.mem_of_getElem? hfi)) this)
      refine ⟨_, by simpa using h1, ?_⟩
      exact .struct ps hu (fun i f hfi => h2 i f (by simpa using hfi))
    · rename_i n e hu
      simp only [Bool.and_eq_true, beq_iff_eq] at hp
      obtain ⟨xs, m, hf, _, hl, hxl, hget⟩ := DataW.trod_array hu h
      obtain rfl : fuel = m := by omega
      obtain ⟨ps, h1, h2⟩ := arr_rep (P := P) (w := w) (V := (· < w.heap.size)) e (P.cellsOf e) n 0 cs (by rw [hl, hp.1]; simp) (fun i hi => by
        have := hget i hi
        rw [List.getElem?_eq_getElem (by omega)] at this
        rw [Nat.zero_add]
        exact trod_rep fuel d e _ _ hp.2 this)
      exact ⟨_, by simpa using h1, .array ps hu h2⟩
    · cases hp
end
end Go.Sh
end
section
namespace Go.Sh
open Go.RowKit Go.ChangeShapes

section
variable {H : Type} {enc : TypeId × Value → H} {P : Program} {W : World}

theorem PsRep.bl {V w} {vs : List Value} {ps : List PV} (h : PsRep V w vs ps) : BLRep V w vs (ps.map .p) [] := by
  induction h with
  | nil => exact .nil
  | cons a _ ih => exact .cons (.p a) ih

theorem open_agg {D : Nat} {t : TypeId} {v : Value} {d : DataW H} {p : List MemPlace} {base : Nat} (hp : plainT P D t = true)
    (hu : (∃ fs, P.underlying t = some (.struct fs)) ∨ ∃ n e, P.underlying t = some (.array n e)) (hv : Value.okWide P W .any base t v)
    (h : DataW.Trod enc P W 0 (fun _ => true) true t v d p) : ∃ ps, BRep (· < W.heap.size) W v (.agg (ps.map .p)) [] ∧ Conf P t ps := by
  obtain ⟨fuel, h⟩ := h
  obtain ⟨ps, h1, h2⟩ := trod_rep _ _ _ _ _ hp h
  have : ∃ cs, v = .agg cs := by
    rcases hu with ⟨fs, hu⟩ | ⟨n, e, hu⟩ <;> (simp only [Value.okWide, hu] at hv; obtain ⟨cs, rfl, _⟩ := hv; exact ⟨cs, rfl⟩)
  obtain ⟨cs, rfl⟩ := this
  exact ⟨ps, .agg (show BLRep _ _ cs.toList _ _ from h1.bl), h2⟩

theorem open_cell {D : Nat} {t : TypeId} {v : Value} {d : DataW H} {p : List MemPlace} {base : Nat} (hp : plainT P D t = true)
    (hu : P.underlying t = some .bool ∨ (∃ k, P.underlying t = some (.int k)) ∨ ∃ e, P.underlying t = some (.slice e)) (hv : Value.okWide P W .any base t v)
    (h : DataW.Trod enc P W 0 (fun _ => true) true t v d p) : ∃ c, BRep (· < W.heap.size) W v (.cell (.p c)) [] ∧ Conf P t [c] := by
  obtain ⟨fuel, h⟩ := h
  obtain ⟨ps, h1, h2⟩ := trod_rep _ _ _ _ _ hp h
  have hc : v.cells.toList = [v] := by
    rcases hu with hu | ⟨k, hu⟩ | ⟨e, hu⟩ <;> (cases v <;> first | rfl | simp [Value.okWide, Cell.okWide, Cell.ok, hu] at hv)
  rw [hc] at h1
  match ps, h1 with
  | [c], .cons a .nil => exact ⟨c, .cell (.p a), h2⟩

theorem trodAll_stays {W' : World} (hl : laidOutB P = true) (hb : Below W.heap.size W W') : ∀ (ts : List TypeId) (vs : List Value) (ds : List (DataW H)) (ps : List MemPlace),
    (∀ t ∈ ts, P.readableRec t = true ∧ t < P.types.size) → DataW.TrodAll enc P W 0 (fun _ => true) true ts vs ds ps → (∀ x ∈ ps, x.block < W.heap.size) →
    DataW.TrodAll enc P W' 0 (fun b => decide (b < W.heap.size)) true ts vs ds ps
  | [], vs, ds, ps, _, h, _ => by
    obtain ⟨rfl, rfl, rfl⟩ := trodAll_nil h
    exact rfl
  | t :: ts, vs, ds, ps, hr, h, hlt => by
    obtain ⟨v, vs', d, ds', p, q, rfl, rfl, rfl, h1, h2⟩ := trodAll_cons h
    have := hr t (by simp)
    exact ⟨p, q, Below.trod hl this.1 this.2 h1 hb (fun x hx => hlt x (by simp [hx])), trodAll_stays hl hb ts vs' ds' q (fun t ht => hr t (by simp [ht])) h2 (fun x hx => hlt x (by simp [hx])), rfl⟩

theorem Frm.below {w w' : World} (h : Frm w w' []) : Below w.heap.size w w' :=
  ⟨h.os, h.tape, h.output, h.size, fun k hk => h.same k hk (by simp)⟩

theorem ends {f : Nat} {G : Glob} {args : Array Value} {bs : List BV} (hs : Spec P G f bs (fun r ios => r = .cell (.p (.bool true)) ∧ ios = []))
    (hb : BsRep (· < W.heap.size) W args.toList bs []) (hG : GlobRep (· < W.heap.size) W G) :
    Calls P f args W fun e W' => e = .returned (.bool true) ∧ Below W.heap.size W W' := by
  obtain ⟨r, ios, ⟨rfl, rfl⟩, _, hc⟩ := hs
  have := hc (· < W.heap.size) W args.toList [] hb (by simp) (by simp) (fun _ h => h) hG
  rw [Array.toArray_toList] at this
  refine this.mono fun e W' ⟨v, V', L', he, hr, _, _, _, _, hf⟩ => ⟨?_, hf.below⟩
  subst he
  generalize hvv : v :: ioVals bs args.toList = vv at hr
  generalize hbb : [BV.cell (BC.p (PV.bool true))] = bb at hr
  cases hr with
  | nil => cases hvv
  | cons a t =>
    cases hvv
    cases hbb
    cases a with
    | cell a =>
      cases a with
      | p a => cases a with
        | bool => rfl

theorem end_post {f : Func} {s : ChangeSpec} {apart : Bool} {W' : World} {args : Array Value} {ds gs : List (DataW H)} {before : List MemPlace} (hl : laidOutB P = true)
    (hr : ∀ t ∈ f.params.toList, P.readableRec t = true ∧ t < P.types.size) {tb : TypeId} (hres : f.resultTypes.toList = [tb]) (htb : P.underlying tb = some .bool) (hsv : s.vars = [])
    (hW : DataW.Whole enc P f.params.toList s.vars apart W args.toList ds gs before) (hfn : s.fn H ds = { results := [.lit (.bool true)], args := ds }) (hb : Below W.heap.size W W') :
    s.post enc P f apart true false false W args (.bool true) W' := by
  have hlt := hW.lt
  have hW' := hW
  obtain ⟨p, q, hA, hV, rfl, hfz, hnd⟩ := hW
  rw [hsv] at hV
  obtain ⟨rfl, rfl⟩ := trodVars_none hV
  have hz : f.resultTypes.size = 1 := by rw [← Array.length_toList, hres]; rfl
  refine ⟨ds, [], _, [], p, [], hW', ?_, ?_, ?_, hb.frame _, fun h => by cases h⟩
  · rw [List.append_nil, hfn, hres, hz]
    exact trodAll_mk1 (Go.RowKit.shut_bool htb _)
  · rw [List.append_nil, hfn]
    exact trodAll_stays hl hb _ _ _ _ hr hA (fun x hx => hlt x (by simp [hx]))
  · rw [List.append_nil, hfn, hsv]
    exact rfl
end
end Go.Sh
end
section
namespace Go.Sh
def k_i64 (n : Int) : Prop := -9223372036854775808 ≤ n ∧ n ≤ 9223372036854775807
def k_i32 (n : Int) : Prop := -2147483648 ≤ n ∧ n ≤ 2147483647
def k_u64 (n : Int) : Prop := 0 ≤ n ∧ n ≤ 18446744073709551615
def k_u32 (n : Int) : Prop := 0 ≤ n ∧ n ≤ 4294967295
def k_u8 (n : Int) : Prop := 0 ≤ n ∧ n ≤ 255
def k_bool (_ : Bool) : Prop := True
def k_S {α : Type} (f : α → Prop) (l : List α) : Prop := l.length ≤ maxLen ∧ ∀ x ∈ l, f x
section
variable {P : Program} {t : TypeId} {ps : List PV} {α : Type}
theorem conf_struct {fs : Array Field} (hu : P.underlying t = some (.struct fs)) (h : Conf P t ps) : ∃ qs : Nat → List PV, ps = (List.range fs.size).flatMap qs ∧ ∀ (i : Nat) (f : Field), fs[i]? = some f → Conf P f.type (qs i) := by
  cases h with
  | struct qs h hp => rw [hu] at h; cases h; exact ⟨qs, rfl, hp⟩
  | _ => simp_all
theorem conf_array {n : Nat} {e : TypeId} (hu : P.underlying t = some (.array n e)) (h : Conf P t ps) : ∃ qs : Nat → List PV, ps = (List.range n).flatMap qs ∧ ∀ i, i < n → Conf P e (qs i) := by
  cases h with
  | array qs h hp => rw [hu] at h; cases h; exact ⟨qs, rfl, hp⟩
  | _ => simp_all
theorem conf_bool (hu : P.underlying t = some .bool) (h : Conf P t ps) : ∃ x, ps = r_bool x ∧ k_bool x := by
  cases h with
  | bool h => exact ⟨_, rfl, trivial⟩
  | _ => simp_all
theorem conf_int {k : IntKind} (hu : P.underlying t = some (.int k)) (h : Conf P t ps) : ∃ n, ps = [.int k n] ∧ (Lit.int k n).wf = true := by
  cases h with
  | int h hw => rw [hu] at h; cases h; exact ⟨_, rfl, hw⟩
  | _ => simp_all
theorem conf_S {e : TypeId} {f : α → List PV} {k : α → Prop} (hu : P.underlying t = some (.slice e)) (ih : ∀ qs, Conf P e qs → ∃ x, qs = f x ∧ k x) (h : Conf P t ps) : ∃ l, ps = r_S f l ∧ k_S k l := by
  cases h with
  | @slice _ _ l h hl hr =>
    rw [hu] at h; cases h
    have : ∀ l : List (List PV), (∀ row ∈ l, Conf P e row) → ∃ xs : List α, l = xs.map f ∧ ∀ x ∈ xs, k x := by
      intro l
      induction l with
      | nil => intro _; exact ⟨[], rfl, by simp⟩
      | cons a l ihl =>
        intro hr
        obtain ⟨x, rfl, hx⟩ := ih a (hr a (by simp))
        obtain ⟨xs, rfl, hxs⟩ := ihl (fun r hr' => hr r (by simp [hr']))
        exact ⟨x :: xs, rfl, by simpa using ⟨hx, hxs⟩⟩
    obtain ⟨xs, rfl, hx⟩ := this l hr
    exact ⟨xs, rfl, by simpa using hl, hx⟩
  | _ => simp_all
theorem conf_i64 (hu : P.underlying t = some (.int .i64)) (h : Conf P t ps) : ∃ x, ps = r_i64 x ∧ k_i64 x := by
  obtain ⟨n, rfl, hw⟩ := conf_int hu h
  simp [Lit.wf, IntKind.min, IntKind.max, IntKind.signed, IntKind.bits] at hw
  exact ⟨n, rfl, by unfold k_i64; omega⟩
theorem conf_i32 (hu : P.underlying t = some (.int .i32)) (h : Conf P t ps) : ∃ x, ps = r_i32 x ∧ k_i32 x := by
  obtain ⟨n, rfl, hw⟩ := conf_int hu h
  simp [Lit.wf, IntKind.min, IntKind.max, IntKind.signed, IntKind.bits] at hw
  exact ⟨n, rfl, by unfold k_i32; omega⟩
theorem conf_u64 (hu : P.underlying t = some (.int .u64)) (h : Conf P t ps) : ∃ x, ps = r_u64 x ∧ k_u64 x := by
  obtain ⟨n, rfl, hw⟩ := conf_int hu h
  simp [Lit.wf, IntKind.min, IntKind.max, IntKind.signed, IntKind.bits] at hw
  exact ⟨n, rfl, by unfold k_u64; omega⟩
theorem conf_u32 (hu : P.underlying t = some (.int .u32)) (h : Conf P t ps) : ∃ x, ps = r_u32 x ∧ k_u32 x := by
  obtain ⟨n, rfl, hw⟩ := conf_int hu h
  simp [Lit.wf, IntKind.min, IntKind.max, IntKind.signed, IntKind.bits] at hw
  exact ⟨n, rfl, by unfold k_u32; omega⟩
theorem conf_u8 (hu : P.underlying t = some (.int .u8)) (h : Conf P t ps) : ∃ x, ps = r_u8 x ∧ k_u8 x := by
  obtain ⟨n, rfl, hw⟩ := conf_int hu h
  simp [Lit.wf, IntKind.min, IntKind.max, IntKind.signed, IntKind.bits] at hw
  exact ⟨n, rfl, by unfold k_u8; omega⟩
def k_A2 (k : α → Prop) (x : A2 α) : Prop := k x.a0 ∧ k x.a1
theorem conf_A2 {e : TypeId} {f : α → List PV} {k : α → Prop} (hu : P.underlying t = some (.array 2 e)) (ih : ∀ qs, Conf P e qs → ∃ x, qs = f x ∧ k x) (h : Conf P t ps) : ∃ x, ps = r_A2 f x ∧ k_A2 k x := by
  obtain ⟨qs, rfl, hq⟩ := conf_array hu h
  obtain ⟨x0, e0, k0⟩ := ih _ (hq 0 (by decide))
  obtain ⟨x1, e1, k1⟩ := ih _ (hq 1 (by decide))
  refine ⟨⟨x0, x1⟩, ?_, k0, k1⟩
  show qs 0 ++ (qs 1 ++ []) = _
  rw [e0, e1]; simp [r_A2]
def k_A3 (k : α → Prop) (x : A3 α) : Prop := k x.a0 ∧ k x.a1 ∧ k x.a2
theorem conf_A3 {e : TypeId} {f : α → List PV} {k : α → Prop} (hu : P.underlying t = some (.array 3 e)) (ih : ∀ qs, Conf P e qs → ∃ x, qs = f x ∧ k x) (h : Conf P t ps) : ∃ x, ps = r_A3 f x ∧ k_A3 k x := by
  obtain ⟨qs, rfl, hq⟩ := conf_array hu h
  obtain ⟨x0, e0, k0⟩ := ih _ (hq 0 (by decide))
  obtain ⟨x1, e1, k1⟩ := ih _ (hq 1 (by decide))
  obtain ⟨x2, e2, k2⟩ := ih _ (hq 2 (by decide))
  refine ⟨⟨x0, x1, x2⟩, ?_, k0, k1, k2⟩
  show qs 0 ++ (qs 1 ++ (qs 2 ++ [])) = _
  rw [e0, e1, e2]; simp [r_A3]
def k_A4 (k : α → Prop) (x : A4 α) : Prop := k x.a0 ∧ k x.a1 ∧ k x.a2 ∧ k x.a3
theorem conf_A4 {e : TypeId} {f : α → List PV} {k : α → Prop} (hu : P.underlying t = some (.array 4 e)) (ih : ∀ qs, Conf P e qs → ∃ x, qs = f x ∧ k x) (h : Conf P t ps) : ∃ x, ps = r_A4 f x ∧ k_A4 k x := by
  obtain ⟨qs, rfl, hq⟩ := conf_array hu h
  obtain ⟨x0, e0, k0⟩ := ih _ (hq 0 (by decide))
  obtain ⟨x1, e1, k1⟩ := ih _ (hq 1 (by decide))
  obtain ⟨x2, e2, k2⟩ := ih _ (hq 2 (by decide))
  obtain ⟨x3, e3, k3⟩ := ih _ (hq 3 (by decide))
  refine ⟨⟨x0, x1, x2, x3⟩, ?_, k0, k1, k2, k3⟩
  show qs 0 ++ (qs 1 ++ (qs 2 ++ (qs 3 ++ []))) = _
  rw [e0, e1, e2, e3]; simp [r_A4]
def k_A5 (k : α → Prop) (x : A5 α) : Prop := k x.a0 ∧ k x.a1 ∧ k x.a2 ∧ k x.a3 ∧ k x.a4
theorem conf_A5 {e : TypeId} {f : α → List PV} {k : α → Prop} (hu : P.underlying t = some (.array 5 e)) (ih : ∀ qs, Conf P e qs → ∃ x, qs = f x ∧ k x) (h : Conf P t ps) : ∃ x, ps = r_A5 f x ∧ k_A5 k x := by
  obtain ⟨qs, rfl, hq⟩ := conf_array hu h
  obtain ⟨x0, e0, k0⟩ := ih _ (hq 0 (by decide))
  obtain ⟨x1, e1, k1⟩ := ih _ (hq 1 (by decide))
  obtain ⟨x2, e2, k2⟩ := ih _ (hq 2 (by decide))
  obtain ⟨x3, e3, k3⟩ := ih _ (hq 3 (by decide))
  obtain ⟨x4, e4, k4⟩ := ih _ (hq 4 (by decide))
  refine ⟨⟨x0, x1, x2, x3, x4⟩, ?_, k0, k1, k2, k3, k4⟩
  show qs 0 ++ (qs 1 ++ (qs 2 ++ (qs 3 ++ (qs 4 ++ [])))) = _
  rw [e0, e1, e2, e3, e4]; simp [r_A5]
def k_A7 (k : α → Prop) (x : A7 α) : Prop := k x.a0 ∧ k x.a1 ∧ k x.a2 ∧ k x.a3 ∧ k x.a4 ∧ k x.a5 ∧ k x.a6
theorem conf_A7 {e : TypeId} {f : α → List PV} {k : α → Prop} (hu : P.underlying t = some (.array 7 e)) (ih : ∀ qs, Conf P e qs → ∃ x, qs = f x ∧ k x) (h : Conf P t ps) : ∃ x, ps = r_A7 f x ∧ k_A7 k x := by
  obtain ⟨qs, rfl, hq⟩ := conf_array hu h
  obtain ⟨x0, e0, k0⟩ := ih _ (hq 0 (by decide))
  obtain ⟨x1, e1, k1⟩ := ih _ (hq 1 (by decide))
  obtain ⟨x2, e2, k2⟩ := ih _ (hq 2 (by decide))
  obtain ⟨x3, e3, k3⟩ := ih _ (hq 3 (by decide))
  obtain ⟨x4, e4, k4⟩ := ih _ (hq 4 (by decide))
  obtain ⟨x5, e5, k5⟩ := ih _ (hq 5 (by decide))
  obtain ⟨x6, e6, k6⟩ := ih _ (hq 6 (by decide))
  refine ⟨⟨x0, x1, x2, x3, x4, x5, x6⟩, ?_, k0, k1, k2, k3, k4, k5, k6⟩
  show qs 0 ++ (qs 1 ++ (qs 2 ++ (qs 3 ++ (qs 4 ++ (qs 5 ++ (qs 6 ++ [])))))) = _
  rw [e0, e1, e2, e3, e4, e5, e6]; simp [r_A7]
def k_A8 (k : α → Prop) (x : A8 α) : Prop := k x.a0 ∧ k x.a1 ∧ k x.a2 ∧ k x.a3 ∧ k x.a4 ∧ k x.a5 ∧ k x.a6 ∧ k x.a7
theorem conf_A8 {e : TypeId} {f : α → List PV} {k : α → Prop} (hu : P.underlying t = some (.array 8 e)) (ih : ∀ qs, Conf P e qs → ∃ x, qs = f x ∧ k x) (h : Conf P t ps) : ∃ x, ps = r_A8 f x ∧ k_A8 k x := by
  obtain ⟨qs, rfl, hq⟩ := conf_array hu h
  obtain ⟨x0, e0, k0⟩ := ih _ (hq 0 (by decide))
  obtain ⟨x1, e1, k1⟩ := ih _ (hq 1 (by decide))
  obtain ⟨x2, e2, k2⟩ := ih _ (hq 2 (by decide))
  obtain ⟨x3, e3, k3⟩ := ih _ (hq 3 (by decide))
  obtain ⟨x4, e4, k4⟩ := ih _ (hq 4 (by decide))
  obtain ⟨x5, e5, k5⟩ := ih _ (hq 5 (by decide))
  obtain ⟨x6, e6, k6⟩ := ih _ (hq 6 (by decide))
  obtain ⟨x7, e7, k7⟩ := ih _ (hq 7 (by decide))
  refine ⟨⟨x0, x1, x2, x3, x4, x5, x6, x7⟩, ?_, k0, k1, k2, k3, k4, k5, k6, k7⟩
  show qs 0 ++ (qs 1 ++ (qs 2 ++ (qs 3 ++ (qs 4 ++ (qs 5 ++ (qs 6 ++ (qs 7 ++ []))))))) = _
  rw [e0, e1, e2, e3, e4, e5, e6, e7]; simp [r_A8]
end
end Go.Sh
end
section
namespace Go.Sh
open Go.Proofs
theorem conf_t3 {ps : List PV} (h : Conf Tryz.prog 3 ps) : ∃ x : Int, ps = r_i64 x ∧ k_i64 x := conf_i64 Tryz.underlying3 h
theorem conf_t22 {ps : List PV} (h : Conf Tryz.prog 22 ps) : ∃ x : Int, ps = r_u64 x ∧ k_u64 x := conf_u64 Tryz.underlying22 h
theorem conf_t23 {ps : List PV} (h : Conf Tryz.prog 23 ps) : ∃ x : (A7 Int), ps = (r_A7 r_u64) x ∧ (k_A7 k_u64) x := conf_A7 Tryz.underlying23 (fun _ h => conf_t22 h) h
def k_api_Page (x : api_Page) : Prop := k_i64 x.Line ∧ k_u64 x.Head ∧ (k_A7 k_u64) x.Data
theorem conf_t25 {ps : List PV} (h : Conf Tryz.prog 25 ps) : ∃ x : api_Page, ps = r_api_Page x ∧ k_api_Page x := by
  obtain ⟨qs, rfl, hq⟩ := conf_struct Tryz.underlying25 h
  obtain ⟨x0, e0, k0⟩ := conf_t3 (hq 0 _ rfl)
  obtain ⟨x1, e1, k1⟩ := conf_t22 (hq 1 _ rfl)
  obtain ⟨x2, e2, k2⟩ := conf_t23 (hq 2 _ rfl)
  refine ⟨⟨x0, x1, x2⟩, ?_, k0, k1, k2⟩
  show qs 0 ++ (qs 1 ++ (qs 2 ++ [])) = _
  rw [e0, e1, e2]; simp [r_api_Page]
def k_pointer_Pointer (x : pointer_Pointer) : Prop := k_i64 x.Line ∧ k_i64 x.Gen
theorem conf_t27 {ps : List PV} (h : Conf Tryz.prog 27 ps) : ∃ x : pointer_Pointer, ps = r_pointer_Pointer x ∧ k_pointer_Pointer x := by
  obtain ⟨qs, rfl, hq⟩ := conf_struct Tryz.underlying27 h
  obtain ⟨x0, e0, k0⟩ := conf_t3 (hq 0 _ rfl)
  obtain ⟨x1, e1, k1⟩ := conf_t3 (hq 1 _ rfl)
  refine ⟨⟨x0, x1⟩, ?_, k0, k1⟩
  show qs 0 ++ (qs 1 ++ []) = _
  rw [e0, e1]; simp [r_pointer_Pointer]
theorem conf_t4 {ps : List PV} (h : Conf Tryz.prog 4 ps) : ∃ x : Bool, ps = r_bool x ∧ k_bool x := conf_bool Tryz.underlying4 h
theorem conf_t44 {ps : List PV} (h : Conf Tryz.prog 44 ps) : ∃ x : Int, ps = r_u32 x ∧ k_u32 x := conf_u32 Tryz.underlying44 h
def k_hashindex_Entry (x : hashindex_Entry) : Prop := k_u32 x.Key ∧ k_pointer_Pointer x.To
theorem conf_t49 {ps : List PV} (h : Conf Tryz.prog 49 ps) : ∃ x : hashindex_Entry, ps = r_hashindex_Entry x ∧ k_hashindex_Entry x := by
  obtain ⟨qs, rfl, hq⟩ := conf_struct Tryz.underlying49 h
  obtain ⟨x0, e0, k0⟩ := conf_t44 (hq 0 _ rfl)
  obtain ⟨x1, e1, k1⟩ := conf_t27 (hq 1 _ rfl)
  refine ⟨⟨x0, x1⟩, ?_, k0, k1⟩
  show qs 0 ++ (qs 1 ++ []) = _
  rw [e0, e1]; simp [r_hashindex_Entry]
theorem conf_t45 {ps : List PV} (h : Conf Tryz.prog 45 ps) : ∃ x : (List hashindex_Entry), ps = (r_S r_hashindex_Entry) x ∧ (k_S k_hashindex_Entry) x := conf_S Tryz.underlying45 (fun _ h => conf_t49 h) h
def k_btree_Node (x : btree_Node) : Prop := k_i64 x.Level ∧ k_bool x.Leftmost ∧ k_bool x.Dead ∧ k_u32 x.High ∧ k_pointer_Pointer x.Right ∧ (k_S k_hashindex_Entry) x.Entries
theorem conf_t47 {ps : List PV} (h : Conf Tryz.prog 47 ps) : ∃ x : btree_Node, ps = r_btree_Node x ∧ k_btree_Node x := by
  obtain ⟨qs, rfl, hq⟩ := conf_struct Tryz.underlying47 h
  obtain ⟨x0, e0, k0⟩ := conf_t3 (hq 0 _ rfl)
  obtain ⟨x1, e1, k1⟩ := conf_t4 (hq 1 _ rfl)
  obtain ⟨x2, e2, k2⟩ := conf_t4 (hq 2 _ rfl)
  obtain ⟨x3, e3, k3⟩ := conf_t44 (hq 3 _ rfl)
  obtain ⟨x4, e4, k4⟩ := conf_t27 (hq 4 _ rfl)
  obtain ⟨x5, e5, k5⟩ := conf_t45 (hq 5 _ rfl)
  refine ⟨⟨x0, x1, x2, x3, x4, x5⟩, ?_, k0, k1, k2, k3, k4, k5⟩
  show qs 0 ++ (qs 1 ++ (qs 2 ++ (qs 3 ++ (qs 4 ++ (qs 5 ++ []))))) = _
  rw [e0, e1, e2, e3, e4, e5]; simp [r_btree_Node]
end Go.Sh
end
section
namespace Go.Sh
open Go.Proofs
noncomputable def pointer_inHeap (a0 : Int) : Option Bool :=
  some ((decide (a0 ≥ 104)) && (decide (a0 < 256)))
theorem pointer_inHeap_ok (G : Glob) (hG0 : G.glob 0 = some [(.int .i64 0), (.int .i64 0)]) (a0 : Int) (res : Bool) (h : pointer_inHeap a0 = some res) : Spec Tryz.prog G 100 [.cell (.p (.int .i64 a0))] (fun r ios => r = .cell (.p (.bool res)) ∧ ios = []) := by
  rw [pointer_inHeap] at h
  refine spec_of Tryz.mixed Tryz.func100 rfl rfl (by simp only [List.length]; decide +kernel) ?_
  refine swp_fresh (fun g => stL [(0, (.c (.p (.int .i64 a0))))] [] (g + 1)) (ren_go (fun g S => []) fun g S => []) fun g => ?_
  refine go_seq ?_
  refine seq_reg rfl (fun K hK => ?_)
  rcases hb1 : (decide (a0 ≥ 104)) with _ | _
  ·replace h : some false = some res := by first | exact h | (rw [and_f hb1] at h; exact h)
   simp -implicitDefEqProofs +decide only [go_sem, Nat.reduceAdd, Int.reduceToNat, hb1]
   refine hK _ ?_
   refine swp_ret ?_
   with_reducible repeat first|apply nn|apply nb|apply nr|apply nc|apply ne|apply nq|apply nx rfl
   obtain rfl := some_eq h
   exact rt
  ·replace h : some (decide (a0 < 256)) = some res := by first | exact h | (rw [and_t hb1] at h; exact h)
   simp -implicitDefEqProofs +decide only [go_sem, Nat.reduceAdd, Int.reduceToNat, hb1]
   refine hK _ ?_
   refine swp_ret ?_
   with_reducible repeat first|apply nn|apply nb|apply nr|apply nc|apply ne|apply nq|apply nx rfl
   obtain rfl := some_eq h
   exact rt
end Go.Sh
end
section
namespace Go.Sh
open Go.Proofs
noncomputable def pointer_Valid (a0 : pointer_Pointer) : Option Bool :=
  (pointer_inHeap a0.Line).bind fun v1 =>
  some (v1 && ((decide (a0.Gen ≥ 1)) && (decide (a0.Gen ≤ 16777215))))
theorem pointer_Valid_ok (G : Glob) (hG0 : G.glob 0 = some [(.int .i64 0), (.int .i64 0)]) (a0 : pointer_Pointer) (res : Bool) (h : pointer_Valid a0 = some res) : Spec Tryz.prog G 75 [.agg [.p (.int .i64 a0.Line), .p (.int .i64 a0.Gen)]] (fun r ios => r = .cell (.p (.bool res)) ∧ ios = []) := by
  rw [pointer_Valid] at h
  refine spec_of Tryz.mixed Tryz.func75 rfl rfl (by simp only [List.length]; decide +kernel) ?_
  refine swp_fresh (fun g => stL [(0, (.agg [(.p (.int .i64 a0.Line)), (.p (.int .i64 a0.Gen))]))] [] (g + 1)) (ren_go (fun g S => []) fun g S => []) fun g => ?_
  refine go_seq ?_
  refine seq_reg rfl (fun K hK => ?_)
  refine bind_of h (fun v1 hv1 h => ?_)
  simp -implicitDefEqProofs +decide only [go_sem, Nat.reduceAdd, Int.reduceToNat]
  refine call_go [0] false (pointer_inHeap_ok (cG G) hG0 _ _ hv1) ?_
  rcases hb2 : v1 with _ | _
  ·replace h : some false = some res := by first | exact h | (rw [and_f hb2] at h; exact h)
   simp -implicitDefEqProofs +decide only [go_sem, Nat.reduceAdd, Int.reduceToNat, hb2]
   refine hK _ ?_
   refine swp_ret ?_
   with_reducible repeat first|apply nn|apply nb|apply nr|apply nc|apply ne|apply nq|apply nx rfl
   obtain rfl := some_eq h
   exact rt
  ·replace h : some ((decide (a0.Gen ≥ 1)) && (decide (a0.Gen ≤ 16777215))) = some res := by first | exact h | (rw [and_t hb2] at h; exact h)
   rcases hb3 : (decide (a0.Gen ≥ 1)) with _ | _
   ·replace h : some false = some res := by first | exact h | (rw [and_f hb3] at h; exact h)
    simp -implicitDefEqProofs +decide only [go_sem, Nat.reduceAdd, Int.reduceToNat, hb2, hb3]
    refine hK _ ?_
    refine swp_ret ?_
    with_reducible repeat first|apply nn|apply nb|apply nr|apply nc|apply ne|apply nq|apply nx rfl
    obtain rfl := some_eq h
    exact rt
   ·replace h : some (decide (a0.Gen ≤ 16777215)) = some res := by first | exact h | (rw [and_t hb3] at h; exact h)
    simp -implicitDefEqProofs +decide only [go_sem, Nat.reduceAdd, Int.reduceToNat, hb2, hb3]
    refine hK _ ?_
    refine swp_ret ?_
    with_reducible repeat first|apply nn|apply nb|apply nr|apply nc|apply ne|apply nq|apply nx rfl
    obtain rfl := some_eq h
    exact rt
end Go.Sh
end
section
namespace Go.Sh
open Go.Proofs
noncomputable def pointer_Pack (a0 : pointer_Pointer) : Option Int :=
  (pointer_Valid a0).bind fun v3 =>
  if (!v3) = true then
    some 0
  else
    some (bits .or .u32 (shlV .u32 (IntKind.u32.wrap a0.Gen) 8) (IntKind.u32.wrap a0.Line))
theorem pointer_Pack_ok (G : Glob) (hG0 : G.glob 0 = some [(.int .i64 0), (.int .i64 0)]) (a0 : pointer_Pointer) (res : Int) (h : pointer_Pack a0 = some res) : Spec Tryz.prog G 44 [.agg [.p (.int .i64 a0.Line), .p (.int .i64 a0.Gen)]] (fun r ios => r = .cell (.p (.int .u32 res)) ∧ ios = []) := by
  rw [pointer_Pack] at h
  refine spec_of Tryz.mixed Tryz.func44 rfl rfl (by simp only [List.length]; decide +kernel) ?_
  refine swp_fresh (fun g => stL [(0, (.agg [(.p (.int .i64 a0.Line)), (.p (.int .i64 a0.Gen))]))] [] (g + 1)) (ren_go (fun g S => []) fun g S => []) fun g => ?_
  refine go_seq ?_
  refine swp_seq ?_
  refine seq_reg rfl (fun K hK => ?_)
  refine bind_of h (fun v3 hv3 h => ?_)
  simp -implicitDefEqProofs +decide only [go_sem, Nat.reduceAdd, Int.reduceToNat]
  refine call_go [0] false (pointer_Valid_ok (cG G) hG0 _ _ hv3) ?_
  simp -implicitDefEqProofs +decide only [go_sem, Nat.reduceAdd, Int.reduceToNat]
  refine hK _ ?_
  refine bsplit h (fun hb4 h => ?_) (fun hb4 h => ?_)
  ·refine if_go ?_
   refine go_seq ?_
   refine swp_ret ?_
   with_reducible repeat first|apply nn|apply nb|apply nr|apply nc|apply ne|apply nq|apply nx rfl
   obtain rfl := some_eq h
   exact rt
  ·refine el_go ?_
   refine swp_skip ?_
   with_reducible repeat first|apply nn|apply nb|apply nr|apply nc|apply ne|apply nq|apply nx rfl
   refine go_seq ?_
   refine swp_ret ?_
   with_reducible repeat first|apply nn|apply nb|apply nr|apply nc|apply ne|apply nq|apply nx rfl
   obtain rfl := some_eq h
   exact rt
end Go.Sh
end
section
namespace Go.Sh
open Go.Proofs
noncomputable def pointer_Unpack (a0 : Int) : Option pointer_Pointer :=
  some (⟨(IntKind.i64.wrap (bits .and .u32 a0 255)), (IntKind.i64.wrap (shrV .u32 a0 8))⟩ : pointer_Pointer)
theorem pointer_Unpack_ok (G : Glob) (hG0 : G.glob 0 = some [(.int .i64 0), (.int .i64 0)]) (a0 : Int) (res : pointer_Pointer) (h : pointer_Unpack a0 = some res) : Spec Tryz.prog G 40 [.cell (.p (.int .u32 a0))] (fun r ios => r = .agg [.p (.int .i64 res.Line), .p (.int .i64 res.Gen)] ∧ ios = []) := by
  rw [pointer_Unpack] at h
  refine spec_of Tryz.mixed Tryz.func40 rfl rfl (by simp only [List.length]; decide +kernel) ?_
  refine swp_fresh (fun g => stL [(0, (.c (.p (.int .u32 a0))))] [] (g + 1)) (ren_go (fun g S => []) fun g S => []) fun g => ?_
  refine go_seq ?_
  refine go_seq ?_
  refine swp_ret ?_
  with_reducible repeat first|apply nn|apply nb|apply nr|apply nc|apply ne|apply nq|apply nx rfl
  obtain rfl := some_eq h
  exact rt
end Go.Sh
end
section
namespace Go.Sh
open Go.Proofs
noncomputable def bodegaref19_heapLine (a0 : Int) : Option Bool :=
  some ((decide (a0 ≥ 104)) && (decide (a0 < 256)))
theorem bodegaref19_heapLine_ok (G : Glob) (hG0 : G.glob 0 = some [(.int .i64 0), (.int .i64 0)]) (a0 : Int) (res : Bool) (h : bodegaref19_heapLine a0 = some res) : Spec Tryz.prog G 76 [.cell (.p (.int .i64 a0))] (fun r ios => r = .cell (.p (.bool res)) ∧ ios = []) := by
  rw [bodegaref19_heapLine] at h
  refine spec_of Tryz.mixed Tryz.func76 rfl rfl (by simp only [List.length]; decide +kernel) ?_
  refine swp_fresh (fun g => stL [(0, (.c (.p (.int .i64 a0))))] [] (g + 1)) (ren_go (fun g S => []) fun g S => []) fun g => ?_
  refine go_seq ?_
  refine seq_reg rfl (fun K hK => ?_)
  rcases hb1 : (decide (a0 ≥ 104)) with _ | _
  ·replace h : some false = some res := by first | exact h | (rw [and_f hb1] at h; exact h)
   simp -implicitDefEqProofs +decide only [go_sem, Nat.reduceAdd, Int.reduceToNat, hb1]
   refine hK _ ?_
   refine swp_ret ?_
   with_reducible repeat first|apply nn|apply nb|apply nr|apply nc|apply ne|apply nq|apply nx rfl
   obtain rfl := some_eq h
   exact rt
  ·replace h : some (decide (a0 < 256)) = some res := by first | exact h | (rw [and_t hb1] at h; exact h)
   simp -implicitDefEqProofs +decide only [go_sem, Nat.reduceAdd, Int.reduceToNat, hb1]
   refine hK _ ?_
   refine swp_ret ?_
   with_reducible repeat first|apply nn|apply nb|apply nr|apply nc|apply ne|apply nq|apply nx rfl
   obtain rfl := some_eq h
   exact rt
end Go.Sh
end
section
namespace Go.Sh
open Go.Proofs
noncomputable def bodegaref19_ValidPointer (a0 : bodegaref19_Pointer) : Option Bool :=
  (bodegaref19_heapLine a0.Line).bind fun v1 =>
  some (v1 && ((decide (a0.Gen ≥ 1)) && (decide (a0.Gen ≤ 16777215))))
theorem bodegaref19_ValidPointer_ok (G : Glob) (hG0 : G.glob 0 = some [(.int .i64 0), (.int .i64 0)]) (a0 : bodegaref19_Pointer) (res : Bool) (h : bodegaref19_ValidPointer a0 = some res) : Spec Tryz.prog G 43 [.agg [.p (.int .i64 a0.Line), .p (.int .i64 a0.Gen)]] (fun r ios => r = .cell (.p (.bool res)) ∧ ios = []) := by
  rw [bodegaref19_ValidPointer] at h
  refine spec_of Tryz.mixed Tryz.func43 rfl rfl (by simp only [List.length]; decide +kernel) ?_
  refine swp_fresh (fun g => stL [(0, (.agg [(.p (.int .i64 a0.Line)), (.p (.int .i64 a0.Gen))]))] [] (g + 1)) (ren_go (fun g S => []) fun g S => []) fun g => ?_
  refine go_seq ?_
  refine seq_reg rfl (fun K hK => ?_)
  refine bind_of h (fun v1 hv1 h => ?_)
  simp -implicitDefEqProofs +decide only [go_sem, Nat.reduceAdd, Int.reduceToNat]
  refine call_go [0] false (bodegaref19_heapLine_ok (cG G) hG0 _ _ hv1) ?_
  rcases hb2 : v1 with _ | _
  ·replace h : some false = some res := by first | exact h | (rw [and_f hb2] at h; exact h)
   simp -implicitDefEqProofs +decide only [go_sem, Nat.reduceAdd, Int.reduceToNat, hb2]
   refine hK _ ?_
   refine swp_ret ?_
   with_reducible repeat first|apply nn|apply nb|apply nr|apply nc|apply ne|apply nq|apply nx rfl
   obtain rfl := some_eq h
   exact rt
  ·replace h : some ((decide (a0.Gen ≥ 1)) && (decide (a0.Gen ≤ 16777215))) = some res := by first | exact h | (rw [and_t hb2] at h; exact h)
   rcases hb3 : (decide (a0.Gen ≥ 1)) with _ | _
   ·replace h : some false = some res := by first | exact h | (rw [and_f hb3] at h; exact h)
    simp -implicitDefEqProofs +decide only [go_sem, Nat.reduceAdd, Int.reduceToNat, hb2, hb3]
    refine hK _ ?_
    refine swp_ret ?_
    with_reducible repeat first|apply nn|apply nb|apply nr|apply nc|apply ne|apply nq|apply nx rfl
    obtain rfl := some_eq h
    exact rt
   ·replace h : some (decide (a0.Gen ≤ 16777215)) = some res := by first | exact h | (rw [and_t hb3] at h; exact h)
    simp -implicitDefEqProofs +decide only [go_sem, Nat.reduceAdd, Int.reduceToNat, hb2, hb3]
    refine hK _ ?_
    refine swp_ret ?_
    with_reducible repeat first|apply nn|apply nb|apply nr|apply nc|apply ne|apply nq|apply nx rfl
    obtain rfl := some_eq h
    exact rt
end Go.Sh
end
section
namespace Go.Sh
open Go.Proofs
noncomputable def bodegaref19_Pack (a0 : bodegaref19_Pointer) : Option Int :=
  (bodegaref19_ValidPointer a0).bind fun v3 =>
  if (!v3) = true then
    some 0
  else
    some (IntKind.u32.wrap ((IntKind.u32.wrap a0.Line) + (IntKind.u32.wrap (256 * (IntKind.u32.wrap a0.Gen)))))
theorem bodegaref19_Pack_ok (G : Glob) (hG0 : G.glob 0 = some [(.int .i64 0), (.int .i64 0)]) (a0 : bodegaref19_Pointer) (res : Int) (h : bodegaref19_Pack a0 = some res) : Spec Tryz.prog G 45 [.agg [.p (.int .i64 a0.Line), .p (.int .i64 a0.Gen)]] (fun r ios => r = .cell (.p (.int .u32 res)) ∧ ios = []) := by
  rw [bodegaref19_Pack] at h
  refine spec_of Tryz.mixed Tryz.func45 rfl rfl (by simp only [List.length]; decide +kernel) ?_
  refine swp_fresh (fun g => stL [(0, (.agg [(.p (.int .i64 a0.Line)), (.p (.int .i64 a0.Gen))]))] [] (g + 1)) (ren_go (fun g S => []) fun g S => []) fun g => ?_
  refine go_seq ?_
  refine swp_seq ?_
  refine seq_reg rfl (fun K hK => ?_)
  refine bind_of h (fun v3 hv3 h => ?_)
  simp -implicitDefEqProofs +decide only [go_sem, Nat.reduceAdd, Int.reduceToNat]
  refine call_go [0] false (bodegaref19_ValidPointer_ok (cG G) hG0 _ _ hv3) ?_
  simp -implicitDefEqProofs +decide only [go_sem, Nat.reduceAdd, Int.reduceToNat]
  refine hK _ ?_
  refine bsplit h (fun hb4 h => ?_) (fun hb4 h => ?_)
  ·refine if_go ?_
   refine go_seq ?_
   refine swp_ret ?_
   with_reducible repeat first|apply nn|apply nb|apply nr|apply nc|apply ne|apply nq|apply nx rfl
   obtain rfl := some_eq h
   exact rt
  ·refine el_go ?_
   refine swp_skip ?_
   with_reducible repeat first|apply nn|apply nb|apply nr|apply nc|apply ne|apply nq|apply nx rfl
   refine go_seq ?_
   refine swp_ret ?_
   with_reducible repeat first|apply nn|apply nb|apply nr|apply nc|apply ne|apply nq|apply nx rfl
   obtain rfl := some_eq h
   exact rt
end Go.Sh
end
section
namespace Go.Sh
open Go.Proofs
noncomputable def bodegaref19_Unpack (a0 : Int) : Option bodegaref19_Pointer :=
  some (⟨(IntKind.i64.wrap (Int.tmod a0 256)), (IntKind.i64.wrap (IntKind.u32.wrap (Int.tdiv a0 256)))⟩ : bodegaref19_Pointer)
theorem bodegaref19_Unpack_ok (G : Glob) (hG0 : G.glob 0 = some [(.int .i64 0), (.int .i64 0)]) (a0 : Int) (res : bodegaref19_Pointer) (h : bodegaref19_Unpack a0 = some res) : Spec Tryz.prog G 42 [.cell (.p (.int .u32 a0))] (fun r ios => r = .agg [.p (.int .i64 res.Line), .p (.int .i64 res.Gen)] ∧ ios = []) := by
  rw [bodegaref19_Unpack] at h
  refine spec_of Tryz.mixed Tryz.func42 rfl rfl (by simp only [List.length]; decide +kernel) ?_
  refine swp_fresh (fun g => stL [(0, (.c (.p (.int .u32 a0))))] [] (g + 1)) (ren_go (fun g S => []) fun g S => []) fun g => ?_
  refine go_seq ?_
  refine go_seq ?_
  refine swp_ret ?_
  with_reducible repeat first|apply nn|apply nb|apply nr|apply nc|apply ne|apply nq|apply nx rfl
  obtain rfl := some_eq h
  exact rt
end Go.Sh
end
section
namespace Go.Sh
open Go.Proofs
noncomputable def bodegahand_Pick (a0 : Int) (a1 : Int) : Option Int :=
  if (decide (a1 < 1)) = true then
    some 0
  else
    if ¬ a1 = 0 then
      if ¬ a1 = 0 then
        some (Int.tmod (IntKind.i64.wrap ((Int.tmod a0 a1) + a1)) a1)
      else none
    else none
theorem bodegahand_Pick_ok (G : Glob) (hG0 : G.glob 0 = some [(.int .i64 0), (.int .i64 0)]) (a0 : Int) (a1 : Int) (res : Int) (h : bodegahand_Pick a0 a1 = some res) : Spec Tryz.prog G 13 [.cell (.p (.int .i64 a0)), .cell (.p (.int .i64 a1))] (fun r ios => r = .cell (.p (.int .i64 res)) ∧ ios = []) := by
  rw [bodegahand_Pick] at h
  refine spec_of Tryz.mixed Tryz.func13 rfl rfl (by simp only [List.length]; decide +kernel) ?_
  refine swp_fresh (fun g => stL [(0, (.c (.p (.int .i64 a0)))), (1, (.c (.p (.int .i64 a1))))] [] (g + 1)) (ren_go (fun g S => []) fun g S => []) fun g => ?_
  refine go_seq ?_
  refine swp_seq ?_
  refine go_seq ?_
  refine bsplit h (fun hb2 h => ?_) (fun hb2 h => ?_)
  ·refine if_go ?_
   refine go_seq ?_
   refine swp_ret ?_
   with_reducible repeat first|apply nn|apply nb|apply nr|apply nc|apply ne|apply nq|apply nx rfl
   obtain rfl := some_eq h
   exact rt
  ·refine el_go ?_
   refine swp_skip ?_
   with_reducible repeat first|apply nn|apply nb|apply nr|apply nc|apply ne|apply nq|apply nx rfl
   refine seq_reg rfl (fun K hK => ?_)
   refine psplit h (fun hp3 h => ?_)
   refine psplit h (fun hp4 h => ?_)
   simp -implicitDefEqProofs +decide only [go_sem, Nat.reduceAdd, Int.reduceToNat, hp3, hp4, hb2]
   refine hK _ ?_
   refine swp_ret ?_
   with_reducible repeat first|apply nn|apply nb|apply nr|apply nc|apply ne|apply nq|apply nx rfl
   obtain rfl := some_eq h
   exact rt
end Go.Sh
end
section
namespace Go.Sh
open Go.Proofs
noncomputable def bodegalaw24_aim (a0 : pointer_Pointer) : Option pointer_Pointer :=
  if ((Int.tmod a0.Gen 7) == 0) = true then
    some (⟨0, 0⟩ : pointer_Pointer)
  else
    (bodegahand_Pick a0.Line 154).bind fun v3 =>
    (bodegahand_Pick a0.Gen 8).bind fun v4 =>
    some (⟨(IntKind.i64.wrap (103 + v3)), v4⟩ : pointer_Pointer)
theorem bodegalaw24_aim_ok (G : Glob) (hG0 : G.glob 0 = some [(.int .i64 0), (.int .i64 0)]) (a0 : pointer_Pointer) (res : pointer_Pointer) (h : bodegalaw24_aim a0 = some res) : Spec Tryz.prog G 14 [.agg [.p (.int .i64 a0.Line), .p (.int .i64 a0.Gen)]] (fun r ios => r = .agg [.p (.int .i64 res.Line), .p (.int .i64 res.Gen)] ∧ ios = []) := by
  rw [bodegalaw24_aim] at h
  refine spec_of Tryz.mixed Tryz.func14 rfl rfl (by simp only [List.length]; decide +kernel) ?_
  refine swp_fresh (fun g => stL [(0, (.agg [(.p (.int .i64 a0.Line)), (.p (.int .i64 a0.Gen))]))] [] (g + 1)) (ren_go (fun g S => []) fun g S => []) fun g => ?_
  refine go_seq ?_
  refine swp_seq ?_
  refine go_seq ?_
  refine bsplit h (fun hb2 h => ?_) (fun hb2 h => ?_)
  ·refine if_go ?_
   refine go_seq ?_
   refine swp_ret ?_
   with_reducible repeat first|apply nn|apply nb|apply nr|apply nc|apply ne|apply nq|apply nx rfl
   obtain rfl := some_eq h
   exact rt
  ·refine el_go ?_
   refine swp_skip ?_
   with_reducible repeat first|apply nn|apply nb|apply nr|apply nc|apply ne|apply nq|apply nx rfl
   refine seq_drw rfl (fun K hK => ?_)
   refine bind_of h (fun v3 hv3 h => ?_)
   simp -implicitDefEqProofs +decide only [go_sem, Nat.reduceAdd, Int.reduceToNat, hb2]
   refine call_go [0, 0] false (bodegahand_Pick_ok (cG G) hG0 _ _ _ hv3) ?_
   refine bind_of h (fun v4 hv4 h => ?_)
   simp -implicitDefEqProofs +decide only [go_sem, Nat.reduceAdd, Int.reduceToNat, hb2]
   refine call_go [0, 0] false (bodegahand_Pick_ok (cG G) hG0 _ _ _ hv4) ?_
   simp -implicitDefEqProofs +decide only [go_sem, Nat.reduceAdd, Int.reduceToNat, hb2]
   refine draw_go (by kernel_rfl) ?_
   refine hK _ ?_
   refine swp_ret ?_
   with_reducible repeat first|apply nn|apply nb|apply nr|apply nc|apply ne|apply nq|apply nx rfl
   obtain rfl := some_eq h
   exact rt
end Go.Sh
end
section
namespace Go.Sh
open Go.Proofs
noncomputable def bodegalaw24_ref (a0 : pointer_Pointer) : Option bodegaref19_Pointer :=
  some (⟨a0.Line, a0.Gen⟩ : bodegaref19_Pointer)
theorem bodegalaw24_ref_ok (G : Glob) (hG0 : G.glob 0 = some [(.int .i64 0), (.int .i64 0)]) (a0 : pointer_Pointer) (res : bodegaref19_Pointer) (h : bodegalaw24_ref a0 = some res) : Spec Tryz.prog G 19 [.agg [.p (.int .i64 a0.Line), .p (.int .i64 a0.Gen)]] (fun r ios => r = .agg [.p (.int .i64 res.Line), .p (.int .i64 res.Gen)] ∧ ios = []) := by
  rw [bodegalaw24_ref] at h
  refine spec_of Tryz.mixed Tryz.func19 rfl rfl (by simp only [List.length]; decide +kernel) ?_
  refine swp_fresh (fun g => stL [(0, (.agg [(.p (.int .i64 a0.Line)), (.p (.int .i64 a0.Gen))]))] [] (g + 1)) (ren_go (fun g S => []) fun g S => []) fun g => ?_
  refine go_seq ?_
  refine go_seq ?_
  refine swp_ret ?_
  with_reducible repeat first|apply nn|apply nb|apply nr|apply nc|apply ne|apply nq|apply nx rfl
  obtain rfl := some_eq h
  exact rt
end Go.Sh
end
section
namespace Go.Sh

theorem bind_s {α β : Type} (a : α) (f : α → Option β) : (some a).bind f = f a := rfl

def vp (l g : Int) : Bool := (decide (l ≥ 104) && decide (l < 256)) && (decide (g ≥ 1) && decide (g ≤ 16777215))
theorem vp_iff {l g : Int} : vp l g = true ↔ (104 ≤ l ∧ l < 256) ∧ 1 ≤ g ∧ g ≤ 16777215 := by simp [vp]
theorem Valid_eq (p : pointer_Pointer) : pointer_Valid p = some (vp p.Line p.Gen) := rfl
theorem ValidR_eq (p : bodegaref19_Pointer) : bodegaref19_ValidPointer p = some (vp p.Line p.Gen) := rfl
def pk (l g : Int) : Int := if vp l g = true then l + 256 * g else 0
theorem pk_range (l g : Int) : 0 ≤ pk l g ∧ pk l g < 4294967296 := by
  unfold pk; split
  · rename_i h; rw [vp_iff] at h; omega
  · omega
theorem Pack_eq (p : pointer_Pointer) : pointer_Pack p = some (pk p.Line p.Gen) := by
  unfold pointer_Pack pk
  rw [Valid_eq, bind_s]
  cases h : vp p.Line p.Gen
  · rfl
  · rw [vp_iff] at h
    simp only [Bool.not_true, Bool.false_eq_true, if_false, if_true]
    rw [u32_in' (x := p.Gen) (by omega), u32_in' (x := p.Line) (by omega), shl_u32_8, u32_in' (x := p.Gen * 256) (by omega), or32_hi8 (by omega) (by omega) (by omega)]
    congr 1; omega
theorem PackR_eq (p : bodegaref19_Pointer) : bodegaref19_Pack p = some (pk p.Line p.Gen) := by
  unfold bodegaref19_Pack pk
  rw [ValidR_eq, bind_s]
  cases h : vp p.Line p.Gen
  · rfl
  · rw [vp_iff] at h
    simp only [Bool.not_true, Bool.false_eq_true, if_false, if_true]
    rw [u32_in' (x := p.Gen) (by omega), u32_in' (x := p.Line) (by omega), u32_in' (x := 256 * p.Gen) (by omega), u32_in' (by omega)]
theorem Unpack_eq {a : Int} (h : 0 ≤ a ∧ a < 4294967296) : pointer_Unpack a = some ⟨a % 256, a / 256⟩ := by
  unfold pointer_Unpack
  rw [and32_255 h, shr_u32_8, i64_in' (by omega), i64_in' (by omega)]
theorem UnpackR_eq {a : Int} (h : 0 ≤ a ∧ a < 4294967296) : bodegaref19_Unpack a = some ⟨a % 256, a / 256⟩ := by
  unfold bodegaref19_Unpack
  rw [tmod_pos h.1, tdiv_pos h.1, i64_in' (by omega), u32_in' (by omega), i64_in' (by omega)]
def okw (a : Int) : Bool := a == 0 || vp (a % 256) (a / 256)
def good (l g : Int) : Bool := (l == 0 && g == 0) || vp l g
theorem pk_dec {l g : Int} (h : good l g = true) : pk l g % 256 = l ∧ pk l g / 256 = g ∧ okw (pk l g) = true := by
  unfold good at h
  cases hv : vp l g
  · rw [hv] at h
    simp at h
    obtain ⟨rfl, rfl⟩ := h
    decide
  · have h1 : pk l g = l + 256 * g := by simp [pk, hv]
    have hv' := hv
    rw [vp_iff] at hv'
    have e1 : (l + 256 * g) % 256 = l := by omega
    have e2 : (l + 256 * g) / 256 = g := by omega
    rw [h1, e1, e2]
    refine ⟨rfl, rfl, ?_⟩
    unfold okw
    rw [e1, e2, hv]; simp
theorem Pick_eq {a n : Int} (hn : 1 ≤ n ∧ n < 4611686018427387904) : ∃ v, bodegahand_Pick a n = some v ∧ 0 ≤ v ∧ v < n := by
  unfold bodegahand_Pick
  have h1 : ¬ n < 1 := by omega
  have h2 : ¬ n = 0 := by omega
  simp only [h1, h2, decide_false, Bool.false_eq_true, if_false, not_false_eq_true, if_true]
  have h3 : -n < Int.tmod a n ∧ Int.tmod a n < n := by
    rcases Int.le_total 0 a with h | h
    · rw [tmod_pos h]; have := Int.emod_nonneg a h2; have := Int.emod_lt_of_pos a (show 0 < n by omega); omega
    · have e : Int.tmod a n = - ((-a) % n) := by
        rw [← tmod_pos (show 0 ≤ -a by omega), Int.neg_tmod, Int.neg_neg]
      rw [e]; have := Int.emod_nonneg (-a) h2; have := Int.emod_lt_of_pos (-a) (show 0 < n by omega); omega
  rw [i64_in' (by omega), tmod_pos (by omega)]
  exact ⟨_, rfl, Int.emod_nonneg _ h2, Int.emod_lt_of_pos _ (by omega)⟩
theorem aim_eq (p : pointer_Pointer) : ∃ q, bodegalaw24_aim p = some q := by
  unfold bodegalaw24_aim
  split
  · exact ⟨_, rfl⟩
  · obtain ⟨v, e, _⟩ := Pick_eq (a := p.Line) (n := 154) (by omega)
    obtain ⟨u, e', _⟩ := Pick_eq (a := p.Gen) (n := 8) (by omega)
    rw [e, bind_s, e', bind_s]
    exact ⟨_, rfl⟩
def cP (p : pointer_Pointer) : bodegaref19_Pointer := ⟨p.Line, p.Gen⟩
theorem ref_eq (p : pointer_Pointer) : bodegalaw24_ref p = some (cP p) := rfl
end Go.Sh
end
section
namespace Go.Sh
open Go.Proofs
noncomputable def bodegaheap_New_L1 (a0 : Int) : (List api_Page × Int) → Option ((List api_Page × Int) ⊕ bodegaheap_Heap)
  | (l12, x13) =>
    if (decide (x13 < a0)) = true then
      if (l12.length + 1) * 72 ≤ maxRows ∧ l12.length + 1 ≤ maxRows then
        some (.inl ((l12 ++ ([(⟨x13, 256, (⟨0, 0, 0, 0, 0, 0, 0⟩ : (A7 Int))⟩ : api_Page)] : List api_Page)), (IntKind.i64.wrap (x13 + 1))))
      else none
    else
      Option.map Sum.inr (
        some (⟨l12, a0, 0, ([] : List bodegaref19_Row), (⟨1, 0, 1⟩ : bodegaref26_Cursor)⟩ : bodegaheap_Heap))
noncomputable def bodegaheap_New (a0 : Int) : Option bodegaheap_Heap :=
  iter (bodegaheap_New_L1 a0) (([] : List api_Page), 96)
theorem bodegaheap_New_ok (G : Glob) (hG0 : G.glob 0 = some [(.int .i64 0), (.int .i64 0)]) (a0 : Int) (res : bodegaheap_Heap) (h : bodegaheap_New a0 = some res) : Spec Tryz.prog G 57 [.cell (.p (.int .i64 a0))] (fun r ios => r = .io (g_deik res) ∧ ios = []) := by
  rw [bodegaheap_New] at h
  refine spec_of Tryz.mixed Tryz.func57 rfl rfl (by simp only [List.length]; decide +kernel) ?_
  refine swp_fresh (fun g => stL [(0, (.c (.p (.int .i64 a0))))] [] (g + 1)) (ren_go (fun g S => []) fun g S => []) fun g => ?_
  refine go_seq ?_
  refine go_seq ?_
  refine swp_seq ?_
  refine go_seq ?_
  refine swp_block ?_
  refine swp_iter (fun g x => match x with | (l12, x13) => stL [(0, (.c (.p (.int .i64 a0)))), (3, (.c (.ptr ⟨1024000001, g⟩ 0 0))), (4, (.c (.p (.int .i64 x13))))] [(⟨1024000001, g⟩, .box true [(.ref ⟨1024000002, g⟩ 0 l12.length), (.p (.int .i64 a0)), (.p (.int .i64 0)), .nilS, (.p (.int .i64 1)), (.p (.int .i64 0)), (.p (.int .u32 1))]), (⟨1024000002, g⟩, .arr true 9 (l12.map r_api_Page))] (g + 1)) h (enter_of (ren_go (fun g S => [(⟨1024000001, g⟩, (keyT 0 (St.env S 3)))]) fun g S => [(⟨1024000002, g⟩, 9)])) ?_
  rintro g ⟨l12, x13⟩ s1 h hd1
  rw [bodegaheap_New_L1] at h
  try dsimp only
  refine swp_seq ?_
  refine go_seq ?_
  refine bsplit h (fun hb15 h => ?_) (fun hb15 h => ?_)
  ·refine if_go ?_
   refine swp_skip ?_
   with_reducible repeat first|apply nn|apply nb|apply nr|apply nc|apply ne|apply nq|apply nx rfl
   refine swp_seq ?_
   refine swp_block ?_
   refine swp_reg rfl (fun K hK => ?_)
   refine psplit h (fun hp16 h => ?_)
   simp -implicitDefEqProofs +decide only [go_sem, Nat.reduceAdd, Int.reduceToNat, hp16, hb15]
   refine hK _ ?_
   with_reducible repeat first|apply nn|apply nb|apply nr|apply nc|apply ne|apply nq|apply nx rfl
   refine swp_fresh (fun g => stL [(0, (.c (.p (.int .i64 a0)))), (3, (.c (.ptr ⟨1024000003, g⟩ 0 0))), (4, (.c (.p (.int .i64 x13))))] [(⟨1024000003, g⟩, .box true [(.ref ⟨1024000004, g⟩ 0 (l12 ++ ([(⟨x13, 256, (⟨0, 0, 0, 0, 0, 0, 0⟩ : (A7 Int))⟩ : api_Page)] : List api_Page)).length), (.p (.int .i64 a0)), (.p (.int .i64 0)), .nilS, (.p (.int .i64 1)), (.p (.int .i64 0)), (.p (.int .u32 1))]), (⟨1024000004, g⟩, .arr true 9 ((l12 ++ ([(⟨x13, 256, (⟨0, 0, 0, 0, 0, 0, 0⟩ : (A7 Int))⟩ : api_Page)] : List api_Page)).map r_api_Page))] (g + 1)) (ren_go (fun g S => [(⟨1024000003, g⟩, (keyT 0 (St.env S 3))), (⟨1024000004, g⟩, (keyB 0 (St.heap S (keyT 0 (St.env S 3)))))]) fun g S => []) fun g => ?_
   refine go_swp ?_
   with_reducible repeat first|apply nn|apply nb|apply nr|apply nc|apply ne|apply nq|apply nx rfl
   exact back_of h (ren_go (fun g S => [(⟨1024000001, g⟩, (keyT 0 (St.env S 3))), (⟨1024000002, g⟩, (keyB 0 (St.heap S (keyT 0 (St.env S 3)))))]) fun g S => [])
  ·refine el_go ?_
   refine swp_exit ?_
   with_reducible repeat first|apply nn|apply nb|apply nr|apply nc|apply ne|apply nq|apply nx rfl
   obtain ⟨h, hs1⟩ := exit_of h hd1
   with_reducible repeat first|apply nn|apply nb|apply nr|apply nc|apply ne|apply nq|apply nx rfl
   refine ⟨hs1, ?_⟩
   with_reducible repeat first|apply nn|apply nb|apply nr|apply nc|apply ne|apply nq|apply nx rfl
   refine go_seq ?_
   refine swp_fresh (fun g => stL [(2, (.c (.ptr ⟨1024000005, g⟩ 0 0)))] [(⟨1024000005, g⟩, .box true [(.ref ⟨1024000006, g⟩ 0 l12.length), (.p (.int .i64 a0)), (.p (.int .i64 0)), (.ref ⟨1024000007, g⟩ 0 ([] : List bodegaref19_Row).length), (.p (.int .i64 1)), (.p (.int .i64 0)), (.p (.int .u32 1))]), (⟨1024000006, g⟩, .arr true 9 (l12.map r_api_Page)), (⟨1024000007, g⟩, .arr true 4 (([] : List bodegaref19_Row).map r_bodegaref19_Row))] (g + 1)) (ren_go (fun g S => [(⟨1024000005, g⟩, (keyT 0 (St.env S 2))), (⟨1024000006, g⟩, (keyB 0 (St.heap S (keyT 0 (St.env S 2)))))]) fun g S => [(⟨1024000007, g⟩, 4)]) fun g => ?_
   refine swp_ret ?_
   with_reducible repeat first|apply nn|apply nb|apply nr|apply nc|apply ne|apply nq|apply nx rfl
   obtain rfl := some_eq h
   exact rt
end Go.Sh
end
section
namespace Go.Sh
open Go.Proofs
noncomputable def bodegalaw24_begin : Option bodegalaw24_index :=
  (bodegaheap_New 256).bind fun v1 =>
  some (⟨v1.Pages, 105, ([] : List Int), ([] : List pointer_Pointer), ([] : List pointer_Pointer)⟩ : bodegalaw24_index)
theorem bodegalaw24_begin_ok (G : Glob) (hG0 : G.glob 0 = some [(.int .i64 0), (.int .i64 0)])  (res : bodegalaw24_index) (h : bodegalaw24_begin = some res) : Spec Tryz.prog G 28 [] (fun r ios => r = .io (g_kpb5 res) ∧ ios = []) := by
  rw [bodegalaw24_begin] at h
  refine spec_of Tryz.mixed Tryz.func28 rfl rfl (by simp only [List.length]; decide +kernel) ?_
  refine swp_fresh (fun g => stL [] [] (g + 1)) (ren_go (fun g S => []) fun g S => []) fun g => ?_
  refine go_seq ?_
  refine seq_reg rfl (fun K hK => ?_)
  refine bind_of h (fun v1 hv1 h => ?_)
  simp -implicitDefEqProofs +decide only [go_sem, Nat.reduceAdd, Int.reduceToNat]
  refine call_go [0] false (bodegaheap_New_ok (cG G) hG0 _ _ hv1) ?_
  simp -implicitDefEqProofs +decide only [go_sem, Nat.reduceAdd, Int.reduceToNat]
  refine hK _ ?_
  refine swp_fresh (fun g => stL [(0, (.c (.ptr ⟨1024000001, g⟩ 0 0)))] [(⟨1024000001, g⟩, .box true [(.ref ⟨1024000002, g⟩ 0 v1.Pages.length), (.p (.int .i64 105)), (.ref ⟨1024000003, g⟩ 0 ([] : List Int).length), (.ref ⟨1024000004, g⟩ 0 ([] : List pointer_Pointer).length), (.ref ⟨1024000005, g⟩ 0 ([] : List pointer_Pointer).length)]), (⟨1024000002, g⟩, .arr true 9 (v1.Pages.map r_api_Page)), (⟨1024000003, g⟩, .arr true 1 (([] : List Int).map r_u32)), (⟨1024000004, g⟩, .arr true 2 (([] : List pointer_Pointer).map r_pointer_Pointer)), (⟨1024000005, g⟩, .arr true 2 (([] : List pointer_Pointer).map r_pointer_Pointer))] (g + 1)) (ren_go (fun g S => [(⟨1024000001, g⟩, (keyT 0 (St.env S 0))), (⟨1024000002, g⟩, (keyB 0 (St.heap S (keyT 0 (St.env S 0)))))]) fun g S => [(⟨1024000003, g⟩, 1), (⟨1024000004, g⟩, 2), (⟨1024000005, g⟩, 2)]) fun g => ?_
  refine swp_ret ?_
  with_reducible repeat first|apply nn|apply nb|apply nr|apply nc|apply ne|apply nq|apply nx rfl
  obtain rfl := some_eq h
  exact rt
end Go.Sh
end
section
namespace Go.Sh
open Go.Proofs
noncomputable def bodegalaw24_index_place_J1 (a0 : bodegalaw24_index) : Unit → Option (Int × Bool × bodegalaw24_index)
  | () =>
    some ((a0.Keys.length : Int), false, a0)
noncomputable def bodegalaw24_index_place_L1 (a0 : bodegalaw24_index) (a1 : Int) (x28 : Int) : Option (Int ⊕ (Int × Bool × bodegalaw24_index)) :=
    if (decide (x28 < (a0.Keys.length : Int))) = true then
      (idx a0.Keys x28).bind fun e31 =>
      if (decide (e31 ≥ a1)) = true then
        Option.map Sum.inr (
          some (x28, (e31 == a1), a0))
      else
        some (.inl (IntKind.i64.wrap (x28 + 1)))
    else
      Option.map Sum.inr (
        bodegalaw24_index_place_J1 a0 ())
noncomputable def bodegalaw24_index_place (a0 : bodegalaw24_index) (a1 : Int) : Option (Int × Bool × bodegalaw24_index) :=
  iter (bodegalaw24_index_place_L1 a0 a1) 0
theorem bodegalaw24_index_place_ok (G : Glob) (hG0 : G.glob 0 = some [(.int .i64 0), (.int .i64 0)]) (a0 : bodegalaw24_index) (a1 : Int) (res : (Int × Bool × bodegalaw24_index)) (h : bodegalaw24_index_place a0 a1 = some res) : Spec Tryz.prog G 58 [.io (g_kpb5 a0), .cell (.p (.int .u32 a1))] (fun r ios => r = .tup [.cell (.p (.int .i64 res.1)), .cell (.p (.bool res.2.1))] ∧ ios = [.io (g_kpb5 res.2.2)]) := by
  rw [bodegalaw24_index_place] at h
  refine spec_of Tryz.mixed Tryz.func58 rfl rfl (by simp only [List.length]; decide +kernel) ?_
  refine swp_fresh (fun g => stL [(0, (.c (.ptr ⟨0, 1⟩ 0 0))), (1, (.c (.p (.int .u32 a1))))] [(⟨0, 1⟩, .box true (b_rlqi a0 ⟨1024000001, g⟩ ⟨1024000002, g⟩ ⟨1024000003, g⟩ ⟨1024000004, g⟩)), (⟨1024000001, g⟩, .arr true 9 (a0.Pages.map r_api_Page)), (⟨1024000002, g⟩, .arr true 1 (a0.Keys.map r_u32)), (⟨1024000003, g⟩, .arr true 2 (a0.To.map r_pointer_Pointer)), (⟨1024000004, g⟩, .arr true 2 (a0.Gone.map r_pointer_Pointer))] (g + 1)) (ren_go (fun g S => [(⟨1024000001, g⟩, (keyB 0 (St.heap S ⟨0, 1⟩))), (⟨1024000002, g⟩, (keyB 2 (St.heap S ⟨0, 1⟩))), (⟨1024000003, g⟩, (keyB 3 (St.heap S ⟨0, 1⟩))), (⟨1024000004, g⟩, (keyB 4 (St.heap S ⟨0, 1⟩)))]) fun g S => []) fun g => ?_
  refine go_seq ?_
  refine cut1 (Joins (bodegalaw24_index_place_J1 a0) (fun g _ => stL [(0, (.c (.ptr ⟨0, 1⟩ 0 0)))] [(⟨0, 1⟩, .box true (b_rlqi a0 ⟨1024000005, g⟩ ⟨1024000006, g⟩ ⟨1024000007, g⟩ ⟨1024000008, g⟩)), (⟨1024000005, g⟩, .arr true 9 (a0.Pages.map r_api_Page)), (⟨1024000006, g⟩, .arr true 1 (a0.Keys.map r_u32)), (⟨1024000007, g⟩, .arr true 2 (a0.To.map r_pointer_Pointer)), (⟨1024000008, g⟩, .arr true 2 (a0.Gone.map r_pointer_Pointer))] (g + 1)) res) ?_ (fun hj1 => ?_)
  ·refine join_of ?_
   rintro g ⟨⟩ h
   rw [bodegalaw24_index_place_J1] at h
   try dsimp only
   refine go_seq ?_
   refine swp_ret ?_
   with_reducible repeat first|apply nn|apply nb|apply nr|apply nc|apply ne|apply nq|apply nx rfl
   obtain rfl := some_eq h
   exact rt
  refine swp_seq ?_
  refine go_seq ?_
  refine swp_block ?_
  refine swp_iter (fun g x28 => stL [(0, (.c (.ptr ⟨0, 1⟩ 0 0))), (1, (.c (.p (.int .u32 a1)))), (6, (.c (.p (.int .i64 x28))))] [(⟨0, 1⟩, .box true (b_rlqi a0 ⟨1024000009, g⟩ ⟨1024000010, g⟩ ⟨1024000011, g⟩ ⟨1024000012, g⟩)), (⟨1024000009, g⟩, .arr true 9 (a0.Pages.map r_api_Page)), (⟨1024000010, g⟩, .arr true 1 (a0.Keys.map r_u32)), (⟨1024000011, g⟩, .arr true 2 (a0.To.map r_pointer_Pointer)), (⟨1024000012, g⟩, .arr true 2 (a0.Gone.map r_pointer_Pointer))] (g + 1)) h (enter_of (ren_go (fun g S => [(⟨1024000009, g⟩, (keyB 0 (St.heap S ⟨0, 1⟩))), (⟨1024000010, g⟩, (keyB 2 (St.heap S ⟨0, 1⟩))), (⟨1024000011, g⟩, (keyB 3 (St.heap S ⟨0, 1⟩))), (⟨1024000012, g⟩, (keyB 4 (St.heap S ⟨0, 1⟩)))]) fun g S => [])) ?_
  rintro g x28 s1 h hd1
  rw [bodegalaw24_index_place_L1] at h
  try dsimp only
  refine swp_seq ?_
  refine go_seq ?_
  refine bsplit h (fun hb30 h => ?_) (fun hb30 h => ?_)
  ·refine if_go ?_
   refine swp_skip ?_
   with_reducible repeat first|apply nn|apply nb|apply nr|apply nc|apply ne|apply nq|apply nx rfl
   refine swp_seq ?_
   refine swp_block ?_
   refine seq_reg rfl (fun K hK => ?_)
   refine bind_of h (fun e31 he31 h => ?_)
   obtain ⟨he31_0, he31_1, he31_2⟩ := idx_some he31
   simp -implicitDefEqProofs +decide only [go_sem, Nat.reduceAdd, Int.reduceToNat, he31_0, he31_1, he31_2, hb30]
   refine hK _ ?_
   refine bsplit h (fun hb32 h => ?_) (fun hb32 h => ?_)
   ·refine if_go ?_
    refine seq_drw rfl (fun K hK => ?_)
    simp -implicitDefEqProofs +decide only [go_sem, Nat.reduceAdd, Int.reduceToNat, he31_0, he31_1, he31_2, hb30, hb32]
    refine draw_go (by kernel_rfl) ?_
    refine hK _ ?_
    refine swp_ret ?_
    with_reducible repeat first|apply nn|apply nb|apply nr|apply nc|apply ne|apply nq|apply nx rfl
    obtain ⟨h, hs1⟩ := exit_of h hd1
    refine ⟨hs1, ?_⟩
    with_reducible repeat first|apply nn|apply nb|apply nr|apply nc|apply ne|apply nq|apply nx rfl
    obtain rfl := some_eq h
    exact rt
   ·refine el_go ?_
    refine swp_skip ?_
    with_reducible repeat first|apply nn|apply nb|apply nr|apply nc|apply ne|apply nq|apply nx rfl
    refine go_swp ?_
    with_reducible repeat first|apply nn|apply nb|apply nr|apply nc|apply ne|apply nq|apply nx rfl
    exact back_of h (ren_go (fun g S => [(⟨1024000009, g⟩, (keyB 0 (St.heap S ⟨0, 1⟩))), (⟨1024000010, g⟩, (keyB 2 (St.heap S ⟨0, 1⟩))), (⟨1024000011, g⟩, (keyB 3 (St.heap S ⟨0, 1⟩))), (⟨1024000012, g⟩, (keyB 4 (St.heap S ⟨0, 1⟩)))]) fun g S => [])
  ·refine el_go ?_
   refine swp_exit ?_
   with_reducible repeat first|apply nn|apply nb|apply nr|apply nc|apply ne|apply nq|apply nx rfl
   obtain ⟨h, hs1⟩ := exit_of h hd1
   with_reducible repeat first|apply nn|apply nb|apply nr|apply nc|apply ne|apply nq|apply nx rfl
   refine ⟨hs1, ?_⟩
   with_reducible repeat first|apply nn|apply nb|apply nr|apply nc|apply ne|apply nq|apply nx rfl
   exact jump_of hj1 h (ren_go (fun g S => [(⟨1024000005, g⟩, (keyB 0 (St.heap S ⟨0, 1⟩))), (⟨1024000006, g⟩, (keyB 2 (St.heap S ⟨0, 1⟩))), (⟨1024000007, g⟩, (keyB 3 (St.heap S ⟨0, 1⟩))), (⟨1024000008, g⟩, (keyB 4 (St.heap S ⟨0, 1⟩)))]) fun g S => [])
end Go.Sh
end
section
namespace Go.Sh
open Go.Proofs
noncomputable def btree_isKey (a0 : Int) : Option Bool :=
  some ((decide (a0 ≥ 1)) && (decide (a0 ≤ 4294967294)))
theorem btree_isKey_ok (G : Glob) (hG0 : G.glob 0 = some [(.int .i64 0), (.int .i64 0)]) (a0 : Int) (res : Bool) (h : btree_isKey a0 = some res) : Spec Tryz.prog G 79 [.cell (.p (.int .u32 a0))] (fun r ios => r = .cell (.p (.bool res)) ∧ ios = []) := by
  rw [btree_isKey] at h
  refine spec_of Tryz.mixed Tryz.func79 rfl rfl (by simp only [List.length]; decide +kernel) ?_
  refine swp_fresh (fun g => stL [(0, (.c (.p (.int .u32 a0))))] [] (g + 1)) (ren_go (fun g S => []) fun g S => []) fun g => ?_
  refine go_seq ?_
  refine seq_reg rfl (fun K hK => ?_)
  rcases hb1 : (decide (a0 ≥ 1)) with _ | _
  ·replace h : some false = some res := by first | exact h | (rw [and_f hb1] at h; exact h)
   simp -implicitDefEqProofs +decide only [go_sem, Nat.reduceAdd, Int.reduceToNat, hb1]
   refine hK _ ?_
   refine swp_ret ?_
   with_reducible repeat first|apply nn|apply nb|apply nr|apply nc|apply ne|apply nq|apply nx rfl
   obtain rfl := some_eq h
   exact rt
  ·replace h : some (decide (a0 ≤ 4294967294)) = some res := by first | exact h | (rw [and_t hb1] at h; exact h)
   simp -implicitDefEqProofs +decide only [go_sem, Nat.reduceAdd, Int.reduceToNat, hb1]
   refine hK _ ?_
   refine swp_ret ?_
   with_reducible repeat first|apply nn|apply nb|apply nr|apply nc|apply ne|apply nq|apply nx rfl
   obtain rfl := some_eq h
   exact rt
end Go.Sh
end
section
namespace Go.Sh
open Go.Proofs
noncomputable def btree_Op_isValid_J1 (a0 : btree_Op) (b19 : Bool) : Option Bool :=
    if b19 = true then
      (btree_isKey a0.Key).bind fun v21 =>
      some v21
    else
      some false
noncomputable def btree_Op_isValid (a0 : btree_Op) : Option Bool :=
  if (a0.Kind == 6) = true then
    some true
  else
    if (a0.Kind == 5) = true then
      some ((decide (a0.Key ≥ 1)) && ((decide (a0.Level ≥ 0)) && (decide (a0.Level < 8))))
    else
      if (a0.Kind == 2) = true then
        (btree_isKey a0.Key).bind fun v6 =>
        if v6 = true then
          (pointer_Valid a0.To).bind fun v8 =>
          some v8
        else
          some false
      else
        if (a0.Kind == 4) = true then
          (btree_isKey a0.Key).bind fun v10 =>
          if v10 = true then
            (btree_isKey a0.Last).bind fun v12 =>
            some (v12 && ((decide (a0.Key ≤ a0.Last)) && ((decide (a0.Limit ≥ 1)) && (decide (a0.Limit ≤ 64)))))
          else
            some false
        else
          if (a0.Kind == 1) = true then
            btree_Op_isValid_J1 a0 (a0.Kind == 1)
          else
            if (a0.Kind == 3) = true then
              btree_Op_isValid_J1 a0 (a0.Kind == 3)
            else
              if (a0.Kind == 7) = true then
                btree_Op_isValid_J1 a0 (a0.Kind == 7)
              else
                btree_Op_isValid_J1 a0 (a0.Kind == 8)
theorem btree_Op_isValid_ok (G : Glob) (hG0 : G.glob 0 = some [(.int .i64 0), (.int .i64 0)]) (a0 : btree_Op) (res : Bool) (h : btree_Op_isValid a0 = some res) : Spec Tryz.prog G 59 [.agg (g_e29e a0)] (fun r ios => r = .cell (.p (.bool res)) ∧ ios = []) := by
  rw [btree_Op_isValid] at h
  refine spec_of Tryz.mixed Tryz.func59 rfl rfl (by simp only [List.length]; decide +kernel) ?_
  refine swp_fresh (fun g => stL [(0, (.agg (b_8lf7 a0)))] [] (g + 1)) (ren_go (fun g S => []) fun g S => []) fun g => ?_
  refine go_seq ?_
  refine swp_seq ?_
  refine go_seq ?_
  refine swp_block ?_
  refine go_seq ?_
  refine bsplit h (fun hb1 h => ?_) (fun hb1 h => ?_)
  ·refine if_go ?_
   refine go_seq ?_
   refine swp_ret ?_
   with_reducible repeat first|apply nn|apply nb|apply nr|apply nc|apply ne|apply nq|apply nx rfl
   obtain rfl := some_eq h
   exact rt
  ·refine el_go ?_
   refine go_seq ?_
   refine bsplit h (fun hb2 h => ?_) (fun hb2 h => ?_)
   ·refine if_go ?_
    refine seq_reg rfl (fun K hK => ?_)
    rcases hb3 : (decide (a0.Key ≥ 1)) with _ | _
    ·replace h : some false = some res := by first | exact h | (rw [and_f hb3] at h; exact h)
     simp -implicitDefEqProofs +decide only [go_sem, Nat.reduceAdd, Int.reduceToNat, hb1, hb2, hb3]
     refine hK _ ?_
     refine swp_ret ?_
     with_reducible repeat first|apply nn|apply nb|apply nr|apply nc|apply ne|apply nq|apply nx rfl
     obtain rfl := some_eq h
     exact rt
    ·replace h : some ((decide (a0.Level ≥ 0)) && (decide (a0.Level < 8))) = some res := by first | exact h | (rw [and_t hb3] at h; exact h)
     rcases hb4 : (decide (a0.Level ≥ 0)) with _ | _
     ·replace h : some false = some res := by first | exact h | (rw [and_f hb4] at h; exact h)
      simp -implicitDefEqProofs +decide only [go_sem, Nat.reduceAdd, Int.reduceToNat, hb1, hb2, hb3, hb4]
      refine hK _ ?_
      refine swp_ret ?_
      with_reducible repeat first|apply nn|apply nb|apply nr|apply nc|apply ne|apply nq|apply nx rfl
      obtain rfl := some_eq h
      exact rt
     ·replace h : some (decide (a0.Level < 8)) = some res := by first | exact h | (rw [and_t hb4] at h; exact h)
      simp -implicitDefEqProofs +decide only [go_sem, Nat.reduceAdd, Int.reduceToNat, hb1, hb2, hb3, hb4]
      refine hK _ ?_
      refine swp_ret ?_
      with_reducible repeat first|apply nn|apply nb|apply nr|apply nc|apply ne|apply nq|apply nx rfl
      obtain rfl := some_eq h
      exact rt
   ·refine el_go ?_
    refine go_seq ?_
    refine bsplit h (fun hb5 h => ?_) (fun hb5 h => ?_)
    ·refine if_go ?_
     refine seq_reg rfl (fun K hK => ?_)
     refine bind_of h (fun v6 hv6 h => ?_)
     simp -implicitDefEqProofs +decide only [go_sem, Nat.reduceAdd, Int.reduceToNat, hb1, hb2, hb5]
     refine call_go [0] false (btree_isKey_ok (cG G) hG0 _ _ hv6) ?_
     refine bsplit h (fun hb7 h => ?_) (fun hb7 h => ?_)
     ·refine bind_of h (fun v8 hv8 h => ?_)
      simp -implicitDefEqProofs +decide only [go_sem, Nat.reduceAdd, Int.reduceToNat, hb1, hb2, hb5, hb7]
      refine call_go [0] false (pointer_Valid_ok (cG G) hG0 _ _ hv8) ?_
      simp -implicitDefEqProofs +decide only [go_sem, Nat.reduceAdd, Int.reduceToNat, hb1, hb2, hb5, hb7]
      refine hK _ ?_
      refine swp_ret ?_
      with_reducible repeat first|apply nn|apply nb|apply nr|apply nc|apply ne|apply nq|apply nx rfl
      obtain rfl := some_eq h
      exact rt
     ·simp -implicitDefEqProofs +decide only [go_sem, Nat.reduceAdd, Int.reduceToNat, hb1, hb2, hb5, hb7]
      refine hK _ ?_
      refine swp_ret ?_
      with_reducible repeat first|apply nn|apply nb|apply nr|apply nc|apply ne|apply nq|apply nx rfl
      obtain rfl := some_eq h
      exact rt
    ·refine el_go ?_
     refine go_seq ?_
     refine bsplit h (fun hb9 h => ?_) (fun hb9 h => ?_)
     ·refine if_go ?_
      refine seq_reg rfl (fun K hK => ?_)
      refine bind_of h (fun v10 hv10 h => ?_)
      simp -implicitDefEqProofs +decide only [go_sem, Nat.reduceAdd, Int.reduceToNat, hb1, hb2, hb5, hb9]
      refine call_go [0] false (btree_isKey_ok (cG G) hG0 _ _ hv10) ?_
      refine bsplit h (fun hb11 h => ?_) (fun hb11 h => ?_)
      ·refine bind_of h (fun v12 hv12 h => ?_)
       simp -implicitDefEqProofs +decide only [go_sem, Nat.reduceAdd, Int.reduceToNat, hb1, hb2, hb5, hb9, hb11]
       refine call_go [0] false (btree_isKey_ok (cG G) hG0 _ _ hv12) ?_
       rcases hb13 : v12 with _ | _
       ·replace h : some false = some res := by first | exact h | (rw [and_f hb13] at h; exact h)
        simp -implicitDefEqProofs +decide only [go_sem, Nat.reduceAdd, Int.reduceToNat, hb1, hb2, hb5, hb9, hb11, hb13]
        refine hK _ ?_
        refine swp_ret ?_
        with_reducible repeat first|apply nn|apply nb|apply nr|apply nc|apply ne|apply nq|apply nx rfl
        obtain rfl := some_eq h
        exact rt
       ·replace h : some ((decide (a0.Key ≤ a0.Last)) && ((decide (a0.Limit ≥ 1)) && (decide (a0.Limit ≤ 64)))) = some res := by first | exact h | (rw [and_t hb13] at h; exact h)
        rcases hb14 : (decide (a0.Key ≤ a0.Last)) with _ | _
        ·replace h : some false = some res := by first | exact h | (rw [and_f hb14] at h; exact h)
         simp -implicitDefEqProofs +decide only [go_sem, Nat.reduceAdd, Int.reduceToNat, hb1, hb2, hb5, hb9, hb11, hb13, hb14]
         refine hK _ ?_
         refine swp_ret ?_
         with_reducible repeat first|apply nn|apply nb|apply nr|apply nc|apply ne|apply nq|apply nx rfl
         obtain rfl := some_eq h
         exact rt
        ·replace h : some ((decide (a0.Limit ≥ 1)) && (decide (a0.Limit ≤ 64))) = some res := by first | exact h | (rw [and_t hb14] at h; exact h)
         rcases hb15 : (decide (a0.Limit ≥ 1)) with _ | _
         ·replace h : some false = some res := by first | exact h | (rw [and_f hb15] at h; exact h)
          simp -implicitDefEqProofs +decide only [go_sem, Nat.reduceAdd, Int.reduceToNat, hb1, hb2, hb5, hb9, hb11, hb13, hb14, hb15]
          refine hK _ ?_
          refine swp_ret ?_
          with_reducible repeat first|apply nn|apply nb|apply nr|apply nc|apply ne|apply nq|apply nx rfl
          obtain rfl := some_eq h
          exact rt
         ·replace h : some (decide (a0.Limit ≤ 64)) = some res := by first | exact h | (rw [and_t hb15] at h; exact h)
          simp -implicitDefEqProofs +decide only [go_sem, Nat.reduceAdd, Int.reduceToNat, hb1, hb2, hb5, hb9, hb11, hb13, hb14, hb15]
          refine hK _ ?_
          refine swp_ret ?_
          with_reducible repeat first|apply nn|apply nb|apply nr|apply nc|apply ne|apply nq|apply nx rfl
          obtain rfl := some_eq h
          exact rt
      ·simp -implicitDefEqProofs +decide only [go_sem, Nat.reduceAdd, Int.reduceToNat, hb1, hb2, hb5, hb9, hb11]
       refine hK _ ?_
       refine swp_ret ?_
       with_reducible repeat first|apply nn|apply nb|apply nr|apply nc|apply ne|apply nq|apply nx rfl
       obtain rfl := some_eq h
       exact rt
     ·refine el_go ?_
      refine cut1 (Joins (btree_Op_isValid_J1 a0) (fun g b19 => stL [(1, (.c (.ptr ⟨1024000001, g⟩ 0 0))), (59, (.c (.p (.bool b19))))] [(⟨1024000001, g⟩, .box true (b_8lf7 a0))] (g + 1)) res) ?_ (fun hj1 => ?_)
      ·refine join_of ?_
       rintro g b19 h
       rw [btree_Op_isValid_J1] at h
       try dsimp only
       refine bsplit h (fun hb20 h => ?_) (fun hb20 h => ?_)
       ·refine if_go ?_
        refine seq_reg rfl (fun K hK => ?_)
        refine bind_of h (fun v21 hv21 h => ?_)
        simp -implicitDefEqProofs +decide only [go_sem, Nat.reduceAdd, Int.reduceToNat, hb1, hb2, hb5, hb9, hb20]
        refine call_go [0] false (btree_isKey_ok (cG G) hG0 _ _ hv21) ?_
        simp -implicitDefEqProofs +decide only [go_sem, Nat.reduceAdd, Int.reduceToNat, hb1, hb2, hb5, hb9, hb20]
        refine hK _ ?_
        refine swp_ret ?_
        with_reducible repeat first|apply nn|apply nb|apply nr|apply nc|apply ne|apply nq|apply nx rfl
        obtain rfl := some_eq h
        exact rt
       ·refine el_go ?_
        refine swp_skip ?_
        with_reducible repeat first|apply nn|apply nb|apply nr|apply nc|apply ne|apply nq|apply nx rfl
        refine go_seq ?_
        refine swp_ret ?_
        with_reducible repeat first|apply nn|apply nb|apply nr|apply nc|apply ne|apply nq|apply nx rfl
        obtain rfl := some_eq h
        exact rt
      refine swp_seq ?_
      refine go_seq ?_
      refine bsplit h (fun hb22 h => ?_) (fun hb22 h => ?_)
      ·refine if_go ?_
       refine swp_skip ?_
       with_reducible repeat first|apply nn|apply nb|apply nr|apply nc|apply ne|apply nq|apply nx rfl
       exact jump_of hj1 h (ren_go (fun g S => [(⟨1024000001, g⟩, (keyT 0 (St.env S 1)))]) fun g S => [])
      ·refine el_go ?_
       refine go_seq ?_
       refine bsplit h (fun hb24 h => ?_) (fun hb24 h => ?_)
       ·refine if_go ?_
        refine swp_skip ?_
        with_reducible repeat first|apply nn|apply nb|apply nr|apply nc|apply ne|apply nq|apply nx rfl
        exact jump_of hj1 h (ren_go (fun g S => [(⟨1024000001, g⟩, (keyT 0 (St.env S 1)))]) fun g S => [])
       ·refine el_go ?_
        refine go_seq ?_
        refine bsplit h (fun hb26 h => ?_) (fun hb26 h => ?_)
        ·refine if_go ?_
         refine swp_skip ?_
         with_reducible repeat first|apply nn|apply nb|apply nr|apply nc|apply ne|apply nq|apply nx rfl
         exact jump_of hj1 h (ren_go (fun g S => [(⟨1024000001, g⟩, (keyT 0 (St.env S 1)))]) fun g S => [])
        ·refine el_go ?_
         refine go_swp ?_
         with_reducible repeat first|apply nn|apply nb|apply nr|apply nc|apply ne|apply nq|apply nx rfl
         exact jump_of hj1 h (ren_go (fun g S => [(⟨1024000001, g⟩, (keyT 0 (St.env S 1)))]) fun g S => [])
end Go.Sh
end
section
namespace Go.Sh
open Go.Proofs
noncomputable def cmp_isNaN_v2 (a0 : Int) : Option Bool :=
  some (a0 != a0)
theorem cmp_isNaN_v2_ok (G : Glob) (hG0 : G.glob 0 = some [(.int .i64 0), (.int .i64 0)]) (a0 : Int) (res : Bool) (h : cmp_isNaN_v2 a0 = some res) : Spec Tryz.prog G 123 [.cell (.p (.int .u32 a0))] (fun r ios => r = .cell (.p (.bool res)) ∧ ios = []) := by
  rw [cmp_isNaN_v2] at h
  refine spec_of Tryz.mixed Tryz.func123 rfl rfl (by simp only [List.length]; decide +kernel) ?_
  refine swp_fresh (fun g => stL [(0, (.c (.p (.int .u32 a0))))] [] (g + 1)) (ren_go (fun g S => []) fun g S => []) fun g => ?_
  refine go_seq ?_
  refine go_seq ?_
  refine swp_ret ?_
  with_reducible repeat first|apply nn|apply nb|apply nr|apply nc|apply ne|apply nq|apply nx rfl
  obtain rfl := some_eq h
  exact rt
end Go.Sh
end
section
namespace Go.Sh
open Go.Proofs
noncomputable def cmp_Compare (a0 : Int) (a1 : Int) : Option Int :=
  (cmp_isNaN_v2 a0).bind fun v1 =>
  (cmp_isNaN_v2 a1).bind fun v2 =>
  if v1 = true then
    some (if v2 = true then 0 else (-1))
  else
    if v2 = true then
      some 1
    else
      if (decide (a0 < a1)) = true then
        some (-1)
      else
        some (if (decide (a0 > a1)) = true then 1 else 0)
theorem cmp_Compare_ok (G : Glob) (hG0 : G.glob 0 = some [(.int .i64 0), (.int .i64 0)]) (a0 : Int) (a1 : Int) (res : Int) (h : cmp_Compare a0 a1 = some res) : Spec Tryz.prog G 108 [.cell (.p (.int .u32 a0)), .cell (.p (.int .u32 a1))] (fun r ios => r = .cell (.p (.int .i64 res)) ∧ ios = []) := by
  rw [cmp_Compare] at h
  refine spec_of Tryz.mixed Tryz.func108 rfl rfl (by simp only [List.length]; decide +kernel) ?_
  refine swp_fresh (fun g => stL [(0, (.c (.p (.int .u32 a0)))), (1, (.c (.p (.int .u32 a1))))] [] (g + 1)) (ren_go (fun g S => []) fun g S => []) fun g => ?_
  refine go_seq ?_
  refine seq_reg rfl (fun K hK => ?_)
  refine bind_of h (fun v1 hv1 h => ?_)
  simp -implicitDefEqProofs +decide only [go_sem, Nat.reduceAdd, Int.reduceToNat]
  refine call_go [0] false (cmp_isNaN_v2_ok (cG G) hG0 _ _ hv1) ?_
  simp -implicitDefEqProofs +decide only [go_sem, Nat.reduceAdd, Int.reduceToNat]
  refine hK _ ?_
  refine seq_reg rfl (fun K hK => ?_)
  refine bind_of h (fun v2 hv2 h => ?_)
  simp -implicitDefEqProofs +decide only [go_sem, Nat.reduceAdd, Int.reduceToNat]
  refine call_go [0] false (cmp_isNaN_v2_ok (cG G) hG0 _ _ hv2) ?_
  simp -implicitDefEqProofs +decide only [go_sem, Nat.reduceAdd, Int.reduceToNat]
  refine hK _ ?_
  refine swp_seq ?_
  refine go_seq ?_
  refine bsplit h (fun hb5 h => ?_) (fun hb5 h => ?_)
  ·refine if_go ?_
   refine swp_seq ?_
   refine go_seq ?_
   rcases hb6 : v2 with _ | _
   ·replace h : some (-1) = some res := by first | exact h | (rw [if_f hb6] at h; exact h)
    refine el_go ?_
    refine swp_skip ?_
    with_reducible repeat first|apply nn|apply nb|apply nr|apply nc|apply ne|apply nq|apply nx rfl
    refine go_seq ?_
    refine swp_ret ?_
    with_reducible repeat first|apply nn|apply nb|apply nr|apply nc|apply ne|apply nq|apply nx rfl
    obtain rfl := some_eq h
    exact rt
   ·replace h : some 0 = some res := by first | exact h | (rw [if_t hb6] at h; exact h)
    refine if_go ?_
    refine go_seq ?_
    refine swp_ret ?_
    with_reducible repeat first|apply nn|apply nb|apply nr|apply nc|apply ne|apply nq|apply nx rfl
    obtain rfl := some_eq h
    exact rt
  ·refine el_go ?_
   refine swp_skip ?_
   with_reducible repeat first|apply nn|apply nb|apply nr|apply nc|apply ne|apply nq|apply nx rfl
   refine swp_seq ?_
   refine go_seq ?_
   refine bsplit h (fun hb8 h => ?_) (fun hb8 h => ?_)
   ·refine if_go ?_
    refine go_seq ?_
    refine swp_ret ?_
    with_reducible repeat first|apply nn|apply nb|apply nr|apply nc|apply ne|apply nq|apply nx rfl
    obtain rfl := some_eq h
    exact rt
   ·refine el_go ?_
    refine swp_skip ?_
    with_reducible repeat first|apply nn|apply nb|apply nr|apply nc|apply ne|apply nq|apply nx rfl
    refine swp_seq ?_
    refine go_seq ?_
    refine bsplit h (fun hb10 h => ?_) (fun hb10 h => ?_)
    ·refine if_go ?_
     refine go_seq ?_
     refine swp_ret ?_
     with_reducible repeat first|apply nn|apply nb|apply nr|apply nc|apply ne|apply nq|apply nx rfl
     obtain rfl := some_eq h
     exact rt
    ·refine el_go ?_
     refine swp_skip ?_
     with_reducible repeat first|apply nn|apply nb|apply nr|apply nc|apply ne|apply nq|apply nx rfl
     refine swp_seq ?_
     refine go_seq ?_
     rcases hb11 : (decide (a0 > a1)) with _ | _
     ·replace h : some 0 = some res := by first | exact h | (rw [if_f hb11] at h; exact h)
      refine el_go ?_
      refine swp_skip ?_
      with_reducible repeat first|apply nn|apply nb|apply nr|apply nc|apply ne|apply nq|apply nx rfl
      refine go_seq ?_
      refine swp_ret ?_
      with_reducible repeat first|apply nn|apply nb|apply nr|apply nc|apply ne|apply nq|apply nx rfl
      obtain rfl := some_eq h
      exact rt
     ·replace h : some 1 = some res := by first | exact h | (rw [if_t hb11] at h; exact h)
      refine if_go ?_
      refine go_seq ?_
      refine swp_ret ?_
      with_reducible repeat first|apply nn|apply nb|apply nr|apply nc|apply ne|apply nq|apply nx rfl
      obtain rfl := some_eq h
      exact rt
end Go.Sh
end
section
namespace Go.Sh
open Go.Proofs
noncomputable def btree_Node_child_c1 (a0 : hashindex_Entry) (a1 : Int) : Option Int :=
  (cmp_Compare a0.Key a1).bind fun v1 =>
  some v1
theorem btree_Node_child_c1_ok (G : Glob) (hG0 : G.glob 0 = some [(.int .i64 0), (.int .i64 0)]) (a0 : hashindex_Entry) (a1 : Int) (res : Int) (h : btree_Node_child_c1 a0 a1 = some res) : Spec Tryz.prog G 107 [.agg [.p (.int .u32 a0.Key), .p (.int .i64 a0.To.Line), .p (.int .i64 a0.To.Gen)], .cell (.p (.int .u32 a1))] (fun r ios => r = .cell (.p (.int .i64 res)) ∧ ios = []) := by
  rw [btree_Node_child_c1] at h
  refine spec_of Tryz.mixed Tryz.func107 rfl rfl (by simp only [List.length]; decide +kernel) ?_
  refine swp_fresh (fun g => stL [(0, (.agg [(.p (.int .u32 a0.Key)), (.p (.int .i64 a0.To.Line)), (.p (.int .i64 a0.To.Gen))])), (1, (.c (.p (.int .u32 a1))))] [] (g + 1)) (ren_go (fun g S => []) fun g S => []) fun g => ?_
  refine go_seq ?_
  refine seq_reg rfl (fun K hK => ?_)
  refine bind_of h (fun v1 hv1 h => ?_)
  simp -implicitDefEqProofs +decide only [go_sem, Nat.reduceAdd, Int.reduceToNat]
  refine call_go [0, 0] false (cmp_Compare_ok (cG G) hG0 _ _ _ hv1) ?_
  simp -implicitDefEqProofs +decide only [go_sem, Nat.reduceAdd, Int.reduceToNat]
  refine hK _ ?_
  refine swp_ret ?_
  with_reducible repeat first|apply nn|apply nb|apply nr|apply nc|apply ne|apply nq|apply nx rfl
  obtain rfl := some_eq h
  exact rt
end Go.Sh
end
section
namespace Go.Sh
open Go.Proofs
noncomputable def slices_BinarySearchFunc_J1 (a0 : (List hashindex_Entry)) (a1 : Int) (x24 : Int) : Option (Int × Bool) :=
    if (decide (x24 < (a0.length : Int))) = true then
      (idx a0 x24).bind fun e26 =>
      (btree_Node_child_c1 e26 a1).bind fun v27 =>
      some (x24, (v27 == 0))
    else
      some (x24, false)
noncomputable def slices_BinarySearchFunc_L1 (a0 : (List hashindex_Entry)) (a1 : Int) : (Int × Int) → Option ((Int × Int) ⊕ (Int × Bool))
  | (x44, x45) =>
    if (decide (x44 < x45)) = true then
      (idx a0 (IntKind.i64.wrap (shrV .u64 (IntKind.u64.wrap (IntKind.i64.wrap (x44 + x45))) 1))).bind fun e49 =>
      (btree_Node_child_c1 e49 a1).bind fun v50 =>
      if (decide (v50 < 0)) = true then
        some (.inl ((IntKind.i64.wrap ((IntKind.i64.wrap (shrV .u64 (IntKind.u64.wrap (IntKind.i64.wrap (x44 + x45))) 1)) + 1)), x45))
      else
        some (.inl (x44, (IntKind.i64.wrap (shrV .u64 (IntKind.u64.wrap (IntKind.i64.wrap (x44 + x45))) 1))))
    else
      Option.map Sum.inr (
        slices_BinarySearchFunc_J1 a0 a1 x44)
noncomputable def slices_BinarySearchFunc (a0 : (List hashindex_Entry)) (a1 : Int) : Option (Int × Bool) :=
  iter (slices_BinarySearchFunc_L1 a0 a1) (0, (a0.length : Int))
theorem slices_BinarySearchFunc_ok (G : Glob) (hG0 : G.glob 0 = some [(.int .i64 0), (.int .i64 0)]) (a0 : (List hashindex_Entry)) (a1 : Int) (res : (Int × Bool)) (h : slices_BinarySearchFunc a0 a1 = some res) : Spec Tryz.prog G 106 [.cell (.p (.rows (a0.map r_hashindex_Entry))), .cell (.p (.int .u32 a1)), .cell (.p (.clo 107 []))] (fun r ios => r = .tup [.cell (.p (.int .i64 res.1)), .cell (.p (.bool res.2))] ∧ ios = []) := by
  rw [slices_BinarySearchFunc] at h
  refine spec_of Tryz.mixed Tryz.func106 rfl rfl (by simp only [List.length]; decide +kernel) ?_
  refine swp_fresh (fun g => stL [(0, (.c (.p (.rows (a0.map r_hashindex_Entry))))), (1, (.c (.p (.int .u32 a1)))), (2, (.c (.p (.clo 107 []))))] [] (g + 1)) (ren_go (fun g S => []) fun g S => []) fun g => ?_
  refine go_seq ?_
  refine go_seq ?_
  refine go_seq ?_
  refine cut1 (Joins (slices_BinarySearchFunc_J1 a0 a1) (fun g x24 => stL [(0, (.c (.p (.rows (a0.map r_hashindex_Entry))))), (1, (.c (.p (.int .u32 a1)))), (2, (.c (.p (.clo 107 [])))), (8, (.c (.p (.int .i64 (a0.length : Int))))), (9, (.c (.p (.int .i64 x24))))] [] (g + 1)) res) ?_ (fun hj1 => ?_)
  ·refine join_of ?_
   rintro g x24 h
   rw [slices_BinarySearchFunc_J1] at h
   try dsimp only
   refine seq_reg rfl (fun K hK => ?_)
   refine bsplit h (fun hb25 h => ?_) (fun hb25 h => ?_)
   ·refine bind_of h (fun e26 he26 h => ?_)
    obtain ⟨he26_0, he26_1, he26_2⟩ := idx_some he26
    refine bind_of h (fun v27 hv27 h => ?_)
    simp -implicitDefEqProofs +decide only [go_sem, Nat.reduceAdd, Int.reduceToNat, he26_0, he26_1, he26_2, hb25]
    refine call_go [0, 0] false (btree_Node_child_c1_ok (cG G) hG0 _ _ _ hv27) ?_
    simp -implicitDefEqProofs +decide only [go_sem, Nat.reduceAdd, Int.reduceToNat, hb25]
    refine hK _ ?_
    refine swp_ret ?_
    with_reducible repeat first|apply nn|apply nb|apply nr|apply nc|apply ne|apply nq|apply nx rfl
    obtain rfl := some_eq h
    exact rt
   ·simp -implicitDefEqProofs +decide only [go_sem, Nat.reduceAdd, Int.reduceToNat, hb25]
    refine hK _ ?_
    refine swp_ret ?_
    with_reducible repeat first|apply nn|apply nb|apply nr|apply nc|apply ne|apply nq|apply nx rfl
    obtain rfl := some_eq h
    exact rt
  refine swp_seq ?_
  refine swp_block ?_
  refine swp_iter (fun g x => match x with | (x44, x45) => stL [(0, (.c (.p (.rows (a0.map r_hashindex_Entry))))), (1, (.c (.p (.int .u32 a1)))), (2, (.c (.p (.clo 107 [])))), (8, (.c (.p (.int .i64 (a0.length : Int))))), (9, (.c (.p (.int .i64 x44)))), (10, (.c (.p (.int .i64 x45))))] [] (g + 1)) h (enter_of (ren_go (fun g S => []) fun g S => [])) ?_
  rintro g ⟨x44, x45⟩ s1 h hd1
  rw [slices_BinarySearchFunc_L1] at h
  try dsimp only
  refine swp_seq ?_
  refine go_seq ?_
  refine bsplit h (fun hb48 h => ?_) (fun hb48 h => ?_)
  ·refine if_go ?_
   refine swp_skip ?_
   with_reducible repeat first|apply nn|apply nb|apply nr|apply nc|apply ne|apply nq|apply nx rfl
   refine swp_block ?_
   refine go_seq ?_
   refine seq_reg rfl (fun K hK => ?_)
   refine bind_of h (fun e49 he49 h => ?_)
   obtain ⟨he49_0, he49_1, he49_2⟩ := idx_some he49
   refine bind_of h (fun v50 hv50 h => ?_)
   simp -implicitDefEqProofs +decide only [go_sem, Nat.reduceAdd, Int.reduceToNat, he49_0, he49_1, he49_2, hb48]
   refine call_go [0, 0] false (btree_Node_child_c1_ok (cG G) hG0 _ _ _ hv50) ?_
   simp -implicitDefEqProofs +decide only [go_sem, Nat.reduceAdd, Int.reduceToNat, hb48]
   refine hK _ ?_
   refine bsplit h (fun hb51 h => ?_) (fun hb51 h => ?_)
   ·refine if_go ?_
    refine go_swp ?_
    with_reducible repeat first|apply nn|apply nb|apply nr|apply nc|apply ne|apply nq|apply nx rfl
    exact back_of h (ren_go (fun g S => []) fun g S => [])
   ·refine el_go ?_
    refine go_swp ?_
    with_reducible repeat first|apply nn|apply nb|apply nr|apply nc|apply ne|apply nq|apply nx rfl
    exact back_of h (ren_go (fun g S => []) fun g S => [])
  ·refine el_go ?_
   refine swp_exit ?_
   with_reducible repeat first|apply nn|apply nb|apply nr|apply nc|apply ne|apply nq|apply nx rfl
   obtain ⟨h, hs1⟩ := exit_of h hd1
   with_reducible repeat first|apply nn|apply nb|apply nr|apply nc|apply ne|apply nq|apply nx rfl
   refine ⟨hs1, ?_⟩
   with_reducible repeat first|apply nn|apply nb|apply nr|apply nc|apply ne|apply nq|apply nx rfl
   exact jump_of hj1 h (ren_go (fun g S => []) fun g S => [])
end Go.Sh
end
section
namespace Go.Sh
open Go.Proofs
noncomputable def btree_Node_child (a0 : btree_Node) (a1 : Int) : Option Int :=
  (slices_BinarySearchFunc a0.Entries a1).bind fun v1 =>
  some v1.1
theorem btree_Node_child_ok (G : Glob) (hG0 : G.glob 0 = some [(.int .i64 0), (.int .i64 0)]) (a0 : btree_Node) (a1 : Int) (res : Int) (h : btree_Node_child a0 a1 = some res) : Spec Tryz.prog G 93 [.agg (g_kkcs a0), .cell (.p (.int .u32 a1))] (fun r ios => r = .cell (.p (.int .i64 res)) ∧ ios = []) := by
  rw [btree_Node_child] at h
  refine spec_of Tryz.mixed Tryz.func93 rfl rfl (by simp only [List.length]; decide +kernel) ?_
  refine swp_fresh (fun g => stL [(0, (.agg (b_kfil a0))), (1, (.c (.p (.int .u32 a1))))] [] (g + 1)) (ren_go (fun g S => []) fun g S => []) fun g => ?_
  refine go_seq ?_
  refine seq_reg rfl (fun K hK => ?_)
  refine bind_of h (fun v1 hv1 h => ?_)
  simp -implicitDefEqProofs +decide only [go_sem, Nat.reduceAdd, Int.reduceToNat]
  refine call_go [0, 0, 0] false (slices_BinarySearchFunc_ok (cG G) hG0 _ _ _ hv1) ?_
  simp -implicitDefEqProofs +decide only [go_sem, Nat.reduceAdd, Int.reduceToNat]
  refine hK _ ?_
  refine go_seq ?_
  refine swp_ret ?_
  with_reducible repeat first|apply nn|apply nb|apply nr|apply nc|apply ne|apply nq|apply nx rfl
  obtain rfl := some_eq h
  exact rt
end Go.Sh
end
section
namespace Go.Sh
open Go.Proofs
noncomputable def btree_Node_search (a0 : btree_Node) (a1 : Int) : Option (Int × Bool) :=
  (btree_Node_child a0 a1).bind fun v1 =>
  if (decide (v1 < (a0.Entries.length : Int))) = true then
    (idx a0.Entries v1).bind fun e3 =>
    some (v1, (e3.Key == a1))
  else
    some (v1, false)
theorem btree_Node_search_ok (G : Glob) (hG0 : G.glob 0 = some [(.int .i64 0), (.int .i64 0)]) (a0 : btree_Node) (a1 : Int) (res : (Int × Bool)) (h : btree_Node_search a0 a1 = some res) : Spec Tryz.prog G 86 [.agg (g_kkcs a0), .cell (.p (.int .u32 a1))] (fun r ios => r = .tup [.cell (.p (.int .i64 res.1)), .cell (.p (.bool res.2))] ∧ ios = []) := by
  rw [btree_Node_search] at h
  refine spec_of Tryz.mixed Tryz.func86 rfl rfl (by simp only [List.length]; decide +kernel) ?_
  refine swp_fresh (fun g => stL [(0, (.agg (b_kfil a0))), (1, (.c (.p (.int .u32 a1))))] [] (g + 1)) (ren_go (fun g S => []) fun g S => []) fun g => ?_
  refine go_seq ?_
  refine seq_reg rfl (fun K hK => ?_)
  refine bind_of h (fun v1 hv1 h => ?_)
  simp -implicitDefEqProofs +decide only [go_sem, Nat.reduceAdd, Int.reduceToNat]
  refine call_go [0, 0] false (btree_Node_child_ok (cG G) hG0 _ _ _ hv1) ?_
  simp -implicitDefEqProofs +decide only [go_sem, Nat.reduceAdd, Int.reduceToNat]
  refine hK _ ?_
  refine seq_drw rfl (fun K hK => ?_)
  refine bsplit h (fun hb2 h => ?_) (fun hb2 h => ?_)
  ·refine bind_of h (fun e3 he3 h => ?_)
   obtain ⟨he3_0, he3_1, he3_2⟩ := idx_some he3
   simp -implicitDefEqProofs +decide only [go_sem, Nat.reduceAdd, Int.reduceToNat, he3_0, he3_1, he3_2, hb2]
   refine draw_go (by kernel_rfl) ?_
   refine hK _ ?_
   refine swp_ret ?_
   with_reducible repeat first|apply nn|apply nb|apply nr|apply nc|apply ne|apply nq|apply nx rfl
   obtain rfl := some_eq h
   exact rt
  ·simp -implicitDefEqProofs +decide only [go_sem, Nat.reduceAdd, Int.reduceToNat, hb2]
   refine draw_go (by kernel_rfl) ?_
   refine hK _ ?_
   refine swp_ret ?_
   with_reducible repeat first|apply nn|apply nb|apply nr|apply nc|apply ne|apply nq|apply nx rfl
   obtain rfl := some_eq h
   exact rt
end Go.Sh
end
section
namespace Go.Sh
open Go.Proofs
noncomputable def slices_Compact_L1 (a0 : (List Int)) (x28 : Int) : Option (Int ⊕ (List Int)) :=
    if (decide (x28 < (a0.length : Int))) = true then
      (idx a0 x28).bind fun e31 =>
      (idx a0 (IntKind.i64.wrap (x28 - 1))).bind fun e32 =>
      if (e31 == e32) = true then
        none
      else
        some (.inl (IntKind.i64.wrap (x28 + 1)))
    else
      Option.map Sum.inr (
        some a0)
noncomputable def slices_Compact (a0 : (List Int)) : Option (List Int) :=
  if (decide ((a0.length : Int) < 2)) = true then
    some a0
  else
    iter (slices_Compact_L1 a0) 1
theorem slices_Compact_ok (G : Glob) (hG0 : G.glob 0 = some [(.int .i64 0), (.int .i64 0)]) (a0 : (List Int)) (res : (List Int)) (h : slices_Compact a0 = some res) : Spec Tryz.prog G 102 [.cell (.own 1 (a0.map r_i64))] (fun r ios => r = .cell (.own 1 (res.map r_i64)) ∧ ios = []) := by
  rw [slices_Compact] at h
  refine spec_of Tryz.mixed Tryz.func102 rfl rfl (by simp only [List.length]; decide +kernel) ?_
  refine swp_fresh (fun g => stL [(0, (.c (.ref ⟨1024000001, g⟩ 0 a0.length)))] [(⟨1024000001, g⟩, .arr true 1 (a0.map r_i64))] (g + 1)) (ren_go (fun g S => [(⟨1024000001, g⟩, (keyT 0 (St.env S 0)))]) fun g S => []) fun g => ?_
  refine go_seq ?_
  refine swp_seq ?_
  refine go_seq ?_
  refine bsplit h (fun hb2 h => ?_) (fun hb2 h => ?_)
  ·refine if_go ?_
   refine go_seq ?_
   refine swp_ret ?_
   with_reducible repeat first|apply nn|apply nb|apply nr|apply nc|apply ne|apply nq|apply nx rfl
   obtain rfl := some_eq h
   exact rt
  ·refine el_go ?_
   refine swp_skip ?_
   with_reducible repeat first|apply nn|apply nb|apply nr|apply nc|apply ne|apply nq|apply nx rfl
   refine swp_seq ?_
   refine go_seq ?_
   refine swp_block ?_
   refine swp_iter (fun g x28 => stL [(0, (.c (.ref ⟨1024000002, g⟩ 0 a0.length))), (3, (.c (.p (.int .i64 x28))))] [(⟨1024000002, g⟩, .arr true 1 (a0.map r_i64))] (g + 1)) h (enter_of (ren_go (fun g S => [(⟨1024000002, g⟩, (keyT 0 (St.env S 0)))]) fun g S => [])) ?_
   rintro g x28 s1 h hd1
   rw [slices_Compact_L1] at h
   try dsimp only
   refine swp_seq ?_
   refine go_seq ?_
   refine bsplit h (fun hb30 h => ?_) (fun hb30 h => ?_)
   ·refine if_go ?_
    refine swp_skip ?_
    with_reducible repeat first|apply nn|apply nb|apply nr|apply nc|apply ne|apply nq|apply nx rfl
    refine swp_seq ?_
    refine swp_block ?_
    refine seq_drw rfl (fun K hK => ?_)
    refine bind_of h (fun e31 he31 h => ?_)
    obtain ⟨he31_0, he31_1, he31_2⟩ := idx_some he31
    refine bind_of h (fun e32 he32 h => ?_)
    obtain ⟨he32_0, he32_1, he32_2⟩ := idx_some he32
    simp -implicitDefEqProofs +decide only [go_sem, Nat.reduceAdd, Int.reduceToNat, he31_0, he31_1, he31_2, he32_0, he32_1, he32_2, hb30]
    refine draw_go (by kernel_rfl) ?_
    refine hK _ ?_
    refine bsplit h (fun hb33 h => ?_) (fun hb33 h => ?_)
    ·cases h
    ·refine el_go ?_
     refine swp_skip ?_
     with_reducible repeat first|apply nn|apply nb|apply nr|apply nc|apply ne|apply nq|apply nx rfl
     refine go_swp ?_
     with_reducible repeat first|apply nn|apply nb|apply nr|apply nc|apply ne|apply nq|apply nx rfl
     exact back_of h (ren_go (fun g S => [(⟨1024000002, g⟩, (keyT 0 (St.env S 0)))]) fun g S => [])
   ·refine el_go ?_
    refine swp_exit ?_
    with_reducible repeat first|apply nn|apply nb|apply nr|apply nc|apply ne|apply nq|apply nx rfl
    obtain ⟨h, hs1⟩ := exit_of h hd1
    with_reducible repeat first|apply nn|apply nb|apply nr|apply nc|apply ne|apply nq|apply nx rfl
    refine ⟨hs1, ?_⟩
    with_reducible repeat first|apply nn|apply nb|apply nr|apply nc|apply ne|apply nq|apply nx rfl
    refine go_seq ?_
    refine swp_ret ?_
    with_reducible repeat first|apply nn|apply nb|apply nr|apply nc|apply ne|apply nq|apply nx rfl
    obtain rfl := some_eq h
    exact rt
end Go.Sh
end
section
namespace Go.Sh
open Go.Proofs
noncomputable def math_bits_Len64_J3 : (Int × Int) → Option Int
  | (x8, x9) =>
    if 0 ≤ (IntKind.u8.wrap x8) ∧ (IntKind.u8.wrap x8) < (ByteArray.size (ByteArray.mk (List.toArray (List.append (List.append [0, 1, 2, 2, 3, 3, 3, 3, 4, 4, 4, 4, 4, 4, 4, 4, 5, 5, 5, 5, 5, 5, 5, 5, 5, 5, 5, 5, 5, 5, 5, 5, 6, 6, 6, 6, 6, 6, 6, 6, 6, 6, 6, 6, 6, 6, 6, 6, 6, 6, 6, 6, 6, 6, 6, 6, 6, 6, 6, 6, 6, 6, 6, 6] [7, 7, 7, 7, 7, 7, 7, 7, 7, 7, 7, 7, 7, 7, 7, 7, 7, 7, 7, 7, 7, 7, 7, 7, 7, 7, 7, 7, 7, 7, 7, 7, 7, 7, 7, 7, 7, 7, 7, 7, 7, 7, 7, 7, 7, 7, 7, 7, 7, 7, 7, 7, 7, 7, 7, 7, 7, 7, 7, 7, 7, 7, 7, 7]) (List.append [8, 8, 8, 8, 8, 8, 8, 8, 8, 8, 8, 8, 8, 8, 8, 8, 8, 8, 8, 8, 8, 8, 8, 8, 8, 8, 8, 8, 8, 8, 8, 8, 8, 8, 8, 8, 8, 8, 8, 8, 8, 8, 8, 8, 8, 8, 8, 8, 8, 8, 8, 8, 8, 8, 8, 8, 8, 8, 8, 8, 8, 8, 8, 8] [8, 8, 8, 8, 8, 8, 8, 8, 8, 8, 8, 8, 8, 8, 8, 8, 8, 8, 8, 8, 8, 8, 8, 8, 8, 8, 8, 8, 8, 8, 8, 8, 8, 8, 8, 8, 8, 8, 8, 8, 8, 8, 8, 8, 8, 8, 8, 8, 8, 8, 8, 8, 8, 8, 8, 8, 8, 8, 8, 8, 8, 8, 8, 8])))) : Int) then
      some (IntKind.i64.wrap (x9 + (IntKind.i64.wrap (strAt (ByteArray.mk (List.toArray (List.append (List.append [0, 1, 2, 2, 3, 3, 3, 3, 4, 4, 4, 4, 4, 4, 4, 4, 5, 5, 5, 5, 5, 5, 5, 5, 5, 5, 5, 5, 5, 5, 5, 5, 6, 6, 6, 6, 6, 6, 6, 6, 6, 6, 6, 6, 6, 6, 6, 6, 6, 6, 6, 6, 6, 6, 6, 6, 6, 6, 6, 6, 6, 6, 6, 6] [7, 7, 7, 7, 7, 7, 7, 7, 7, 7, 7, 7, 7, 7, 7, 7, 7, 7, 7, 7, 7, 7, 7, 7, 7, 7, 7, 7, 7, 7, 7, 7, 7, 7, 7, 7, 7, 7, 7, 7, 7, 7, 7, 7, 7, 7, 7, 7, 7, 7, 7, 7, 7, 7, 7, 7, 7, 7, 7, 7, 7, 7, 7, 7]) (List.append [8, 8, 8, 8, 8, 8, 8, 8, 8, 8, 8, 8, 8, 8, 8, 8, 8, 8, 8, 8, 8, 8, 8, 8, 8, 8, 8, 8, 8, 8, 8, 8, 8, 8, 8, 8, 8, 8, 8, 8, 8, 8, 8, 8, 8, 8, 8, 8, 8, 8, 8, 8, 8, 8, 8, 8, 8, 8, 8, 8, 8, 8, 8, 8] [8, 8, 8, 8, 8, 8, 8, 8, 8, 8, 8, 8, 8, 8, 8, 8, 8, 8, 8, 8, 8, 8, 8, 8, 8, 8, 8, 8, 8, 8, 8, 8, 8, 8, 8, 8, 8, 8, 8, 8, 8, 8, 8, 8, 8, 8, 8, 8, 8, 8, 8, 8, 8, 8, 8, 8, 8, 8, 8, 8, 8, 8, 8, 8])))) (IntKind.u8.wrap x8)))))
    else none
noncomputable def math_bits_Len64_J2 : (Int × Int) → Option Int
  | (x5, x6) =>
    if (decide (x5 ≥ 256)) = true then
      math_bits_Len64_J3 ((shrV .u64 x5 8), (IntKind.i64.wrap (x6 + 8)))
    else
      math_bits_Len64_J3 (x5, x6)
noncomputable def math_bits_Len64_J1 : (Int × Int) → Option Int
  | (x2, x3) =>
    if (decide (x2 ≥ 65536)) = true then
      math_bits_Len64_J2 ((shrV .u64 x2 16), (IntKind.i64.wrap (x3 + 16)))
    else
      math_bits_Len64_J2 (x2, x3)
noncomputable def math_bits_Len64 (a0 : Int) : Option Int :=
  if (decide (a0 ≥ 4294967296)) = true then
    math_bits_Len64_J1 ((shrV .u64 a0 32), 32)
  else
    math_bits_Len64_J1 (a0, 0)
theorem math_bits_Len64_ok (G : Glob) (hG0 : G.glob 0 = some [(.int .i64 0), (.int .i64 0)]) (a0 : Int) (res : Int) (h : math_bits_Len64 a0 = some res) : Spec Tryz.prog G 120 [.cell (.p (.int .u64 a0))] (fun r ios => r = .cell (.p (.int .i64 res)) ∧ ios = []) := by
  rw [math_bits_Len64] at h
  refine spec_of Tryz.mixed Tryz.func120 rfl rfl (by simp only [List.length]; decide +kernel) ?_
  refine swp_fresh (fun g => stL [(0, (.c (.p (.int .u64 a0))))] [] (g + 1)) (ren_go (fun g S => []) fun g S => []) fun g => ?_
  refine go_seq ?_
  refine cut1 (Joins (math_bits_Len64_J1) (fun g x => match x with | (x2, x3) => stL [(0, (.c (.p (.int .u64 x2)))), (2, (.c (.p (.int .i64 x3))))] [] (g + 1)) res) ?_ (fun hj1 => ?_)
  ·refine join_of ?_
   rintro g ⟨x2, x3⟩ h
   rw [math_bits_Len64_J1] at h
   try dsimp only
   refine cut1 (Joins (math_bits_Len64_J2) (fun g x => match x with | (x5, x6) => stL [(0, (.c (.p (.int .u64 x5)))), (2, (.c (.p (.int .i64 x6))))] [] (g + 1)) res) ?_ (fun hj2 => ?_)
   ·refine join_of ?_
    rintro g ⟨x5, x6⟩ h
    rw [math_bits_Len64_J2] at h
    try dsimp only
    refine cut1 (Joins (math_bits_Len64_J3) (fun g x => match x with | (x8, x9) => stL [(0, (.c (.p (.int .u64 x8)))), (2, (.c (.p (.int .i64 x9))))] [] (g + 1)) res) ?_ (fun hj3 => ?_)
    ·refine join_of ?_
     rintro g ⟨x8, x9⟩ h
     rw [math_bits_Len64_J3] at h
     try dsimp only
     refine seq_reg rfl (fun K hK => ?_)
     refine psplit h (fun hp10 h => ?_)
     simp -implicitDefEqProofs +decide only [go_sem, Nat.reduceAdd, Int.reduceToNat, Tryz.underlying9, hp10, Tryz.underlying9]
     refine hK _ ?_
     refine swp_ret ?_
     with_reducible repeat first|apply nn|apply nb|apply nr|apply nc|apply ne|apply nq|apply nx rfl
     obtain rfl := some_eq h
     exact rt
    refine swp_seq ?_
    refine go_seq ?_
    refine bsplit h (fun hb11 h => ?_) (fun hb11 h => ?_)
    ·refine if_go ?_
     refine go_seq ?_
     refine go_swp ?_
     with_reducible repeat first|apply nn|apply nb|apply nr|apply nc|apply ne|apply nq|apply nx rfl
     exact jump_of hj3 h (ren_go (fun g S => []) fun g S => [])
    ·refine el_go ?_
     refine swp_skip ?_
     with_reducible repeat first|apply nn|apply nb|apply nr|apply nc|apply ne|apply nq|apply nx rfl
     exact jump_of hj3 h (ren_go (fun g S => []) fun g S => [])
   refine swp_seq ?_
   refine go_seq ?_
   refine bsplit h (fun hb16 h => ?_) (fun hb16 h => ?_)
   ·refine if_go ?_
    refine go_seq ?_
    refine go_swp ?_
    with_reducible repeat first|apply nn|apply nb|apply nr|apply nc|apply ne|apply nq|apply nx rfl
    exact jump_of hj2 h (ren_go (fun g S => []) fun g S => [])
   ·refine el_go ?_
    refine swp_skip ?_
    with_reducible repeat first|apply nn|apply nb|apply nr|apply nc|apply ne|apply nq|apply nx rfl
    exact jump_of hj2 h (ren_go (fun g S => []) fun g S => [])
  refine swp_seq ?_
  refine go_seq ?_
  refine bsplit h (fun hb21 h => ?_) (fun hb21 h => ?_)
  ·refine if_go ?_
   refine go_seq ?_
   refine go_swp ?_
   with_reducible repeat first|apply nn|apply nb|apply nr|apply nc|apply ne|apply nq|apply nx rfl
   exact jump_of hj1 h (ren_go (fun g S => []) fun g S => [])
  ·refine el_go ?_
   refine swp_skip ?_
   with_reducible repeat first|apply nn|apply nb|apply nr|apply nc|apply ne|apply nq|apply nx rfl
   exact jump_of hj1 h (ren_go (fun g S => []) fun g S => [])
end Go.Sh
end
section
namespace Go.Sh
open Go.Proofs
noncomputable def math_bits_Len (a0 : Int) : Option Int :=
  (math_bits_Len64 a0).bind fun v1 =>
  some v1
theorem math_bits_Len_ok (G : Glob) (hG0 : G.glob 0 = some [(.int .i64 0), (.int .i64 0)]) (a0 : Int) (res : Int) (h : math_bits_Len a0 = some res) : Spec Tryz.prog G 98 [.cell (.p (.int .u64 a0))] (fun r ios => r = .cell (.p (.int .i64 res)) ∧ ios = []) := by
  rw [math_bits_Len] at h
  refine spec_of Tryz.mixed Tryz.func98 rfl rfl (by simp only [List.length]; decide +kernel) ?_
  refine swp_fresh (fun g => stL [(0, (.c (.p (.int .u64 a0))))] [] (g + 1)) (ren_go (fun g S => []) fun g S => []) fun g => ?_
  refine go_seq ?_
  refine swp_seq ?_
  refine el_go ?_
  refine swp_skip ?_
  with_reducible repeat first|apply nn|apply nb|apply nr|apply nc|apply ne|apply nq|apply nx rfl
  refine seq_reg rfl (fun K hK => ?_)
  refine bind_of h (fun v1 hv1 h => ?_)
  simp -implicitDefEqProofs +decide only [go_sem, Nat.reduceAdd, Int.reduceToNat]
  refine call_go [0] false (math_bits_Len64_ok (cG G) hG0 _ _ hv1) ?_
  simp -implicitDefEqProofs +decide only [go_sem, Nat.reduceAdd, Int.reduceToNat]
  refine hK _ ?_
  refine swp_ret ?_
  with_reducible repeat first|apply nn|apply nb|apply nr|apply nc|apply ne|apply nq|apply nx rfl
  obtain rfl := some_eq h
  exact rt
end Go.Sh
end
section
namespace Go.Sh
open Go.Proofs
noncomputable def cmp_isNaN (a0 : Int) : Option Bool :=
  some (a0 != a0)
theorem cmp_isNaN_ok (G : Glob) (hG0 : G.glob 0 = some [(.int .i64 0), (.int .i64 0)]) (a0 : Int) (res : Bool) (h : cmp_isNaN a0 = some res) : Spec Tryz.prog G 99 [.cell (.p (.int .i64 a0))] (fun r ios => r = .cell (.p (.bool res)) ∧ ios = []) := by
  rw [cmp_isNaN] at h
  refine spec_of Tryz.mixed Tryz.func99 rfl rfl (by simp only [List.length]; decide +kernel) ?_
  refine swp_fresh (fun g => stL [(0, (.c (.p (.int .i64 a0))))] [] (g + 1)) (ren_go (fun g S => []) fun g S => []) fun g => ?_
  refine go_seq ?_
  refine go_seq ?_
  refine swp_ret ?_
  with_reducible repeat first|apply nn|apply nb|apply nr|apply nc|apply ne|apply nq|apply nx rfl
  obtain rfl := some_eq h
  exact rt
end Go.Sh
end
section
namespace Go.Sh
open Go.Proofs
noncomputable def cmp_Less (a0 : Int) (a1 : Int) : Option Bool :=
  (cmp_isNaN a0).bind fun v1 =>
  if v1 = true then
    (cmp_isNaN a1).bind fun v3 =>
    some ((!v3) || (decide (a0 < a1)))
  else
    some (decide (a0 < a1))
theorem cmp_Less_ok (G : Glob) (hG0 : G.glob 0 = some [(.int .i64 0), (.int .i64 0)]) (a0 : Int) (a1 : Int) (res : Bool) (h : cmp_Less a0 a1 = some res) : Spec Tryz.prog G 137 [.cell (.p (.int .i64 a0)), .cell (.p (.int .i64 a1))] (fun r ios => r = .cell (.p (.bool res)) ∧ ios = []) := by
  rw [cmp_Less] at h
  refine spec_of Tryz.mixed Tryz.func137 rfl rfl (by simp only [List.length]; decide +kernel) ?_
  refine swp_fresh (fun g => stL [(0, (.c (.p (.int .i64 a0)))), (1, (.c (.p (.int .i64 a1))))] [] (g + 1)) (ren_go (fun g S => []) fun g S => []) fun g => ?_
  refine go_seq ?_
  refine seq_reg rfl (fun K hK => ?_)
  refine bind_of h (fun v1 hv1 h => ?_)
  simp -implicitDefEqProofs +decide only [go_sem, Nat.reduceAdd, Int.reduceToNat]
  refine call_go [0] false (cmp_isNaN_ok (cG G) hG0 _ _ hv1) ?_
  refine bsplit h (fun hb2 h => ?_) (fun hb2 h => ?_)
  ·refine bind_of h (fun v3 hv3 h => ?_)
   simp -implicitDefEqProofs +decide only [go_sem, Nat.reduceAdd, Int.reduceToNat, hb2]
   refine call_go [0] false (cmp_isNaN_ok (cG G) hG0 _ _ hv3) ?_
   rcases hb4 : (!v3) with _ | _
   ·replace h : some (decide (a0 < a1)) = some res := by first | exact h | (rw [or_f hb4] at h; exact h)
    simp -implicitDefEqProofs +decide only [go_sem, Nat.reduceAdd, Int.reduceToNat, hb2, hb4]
    refine hK _ ?_
    refine swp_ret ?_
    with_reducible repeat first|apply nn|apply nb|apply nr|apply nc|apply ne|apply nq|apply nx rfl
    obtain rfl := some_eq h
    exact rt
   ·replace h : some true = some res := by first | exact h | (rw [or_t hb4] at h; exact h)
    simp -implicitDefEqProofs +decide only [go_sem, Nat.reduceAdd, Int.reduceToNat, hb2, hb4]
    refine hK _ ?_
    refine swp_ret ?_
    with_reducible repeat first|apply nn|apply nb|apply nr|apply nc|apply ne|apply nq|apply nx rfl
    obtain rfl := some_eq h
    exact rt
  ·simp -implicitDefEqProofs +decide only [go_sem, Nat.reduceAdd, Int.reduceToNat, hb2]
   refine hK _ ?_
   refine swp_ret ?_
   with_reducible repeat first|apply nn|apply nb|apply nr|apply nc|apply ne|apply nq|apply nx rfl
   obtain rfl := some_eq h
   exact rt
end Go.Sh
end
section
namespace Go.Sh
open Go.Proofs
noncomputable def slices_insertionSortOrdered_L2 (a1 : Int) (x94 : Int) : ((List Int) × Int) → Option (((List Int) × Int) ⊕ (((List Int) × Int) ⊕ (List Int)))
  | (l125, x126) =>
    if (decide (x126 > a1)) = true then
      (idx l125 x126).bind fun e137 =>
      (idx l125 (IntKind.i64.wrap (x126 - 1))).bind fun e138 =>
      (cmp_Less e137 e138).bind fun v139 =>
      if v139 = true then
        (idx (l125.set x126.toNat e138) (IntKind.i64.wrap (x126 - 1))).bind fun e141 =>
        some (.inl (((l125.set x126.toNat e138).set (IntKind.i64.wrap (x126 - 1)).toNat e137), (IntKind.i64.wrap (x126 - 1))))
      else
        Option.map Sum.inr (
          some (.inl (l125, (IntKind.i64.wrap (x94 + 1)))))
    else
      Option.map Sum.inr (
        some (.inl (l125, (IntKind.i64.wrap (x94 + 1)))))
noncomputable def slices_insertionSortOrdered_L1 (a2 : Int) (a1 : Int) (a0 : (List Int)) : ((List Int) × Int) → Option (((List Int) × Int) ⊕ (List Int))
  | (l93, x94) =>
    if (decide (x94 < a2)) = true then
      iter (slices_insertionSortOrdered_L2 a1 x94) (l93, x94)
    else
      Option.map Sum.inr (
        if l93.length = a0.length then
          some l93
        else none)
noncomputable def slices_insertionSortOrdered (a0 : (List Int)) (a1 : Int) (a2 : Int) : Option (List Int) :=
  iter (slices_insertionSortOrdered_L1 a2 a1 a0) (a0, (IntKind.i64.wrap (a1 + 1)))
theorem slices_insertionSortOrdered_ok (G : Glob) (hG0 : G.glob 0 = some [(.int .i64 0), (.int .i64 0)]) (a0 : (List Int)) (a1 : Int) (a2 : Int) (res : (List Int)) (h : slices_insertionSortOrdered a0 a1 a2 = some res) : Spec Tryz.prog G 131 [.els 1 (a0.map r_i64), .cell (.p (.int .i64 a1)), .cell (.p (.int .i64 a2))] (fun r ios => r = .tup [] ∧ ios = [.els 1 (res.map r_i64)]) := by
  rw [slices_insertionSortOrdered] at h
  refine spec_of Tryz.mixed Tryz.func131 rfl rfl (by simp only [List.length]; decide +kernel) ?_
  refine swp_fresh (fun g => stL [(0, (.c (.ref ⟨1, 0⟩ 0 a0.length))), (1, (.c (.p (.int .i64 a1)))), (2, (.c (.p (.int .i64 a2))))] [(⟨1, 0⟩, .arr true 1 (a0.map r_i64))] (g + 1)) (ren_go (fun g S => []) fun g S => []) fun g => ?_
  refine go_seq ?_
  refine swp_block ?_
  refine swp_iter (fun g x => match x with | (l93, x94) => stL [(0, (.c (.ref ⟨1, 0⟩ 0 l93.length))), (1, (.c (.p (.int .i64 a1)))), (2, (.c (.p (.int .i64 a2)))), (6, (.c (.p (.int .i64 x94))))] [(⟨1, 0⟩, .arr true 1 (l93.map r_i64))] (g + 1)) h (enter_of (ren_go (fun g S => []) fun g S => [])) ?_
  rintro g ⟨l93, x94⟩ s1 h hd1
  rw [slices_insertionSortOrdered_L1] at h
  try dsimp only
  refine swp_seq ?_
  refine go_seq ?_
  refine bsplit h (fun hb96 h => ?_) (fun hb96 h => ?_)
  ·refine if_go ?_
   refine swp_skip ?_
   with_reducible repeat first|apply nn|apply nb|apply nr|apply nc|apply ne|apply nq|apply nx rfl
   refine swp_seq ?_
   refine swp_block ?_
   refine go_seq ?_
   refine swp_block ?_
   refine swp_iter (fun g x => match x with | (l125, x126) => stL [(0, (.c (.ref ⟨1, 0⟩ 0 l125.length))), (1, (.c (.p (.int .i64 a1)))), (2, (.c (.p (.int .i64 a2)))), (6, (.c (.p (.int .i64 x94)))), (7, (.c (.p (.int .i64 x126))))] [(⟨1, 0⟩, .arr true 1 (l125.map r_i64))] (g + 1)) h (enter_of (ren_go (fun g S => []) fun g S => [])) ?_
   rintro g ⟨l125, x126⟩ s2 h hd2
   rw [slices_insertionSortOrdered_L2] at h
   try dsimp only
   refine swp_seq ?_
   refine seq_drw rfl (fun K hK => ?_)
   refine bsplit h (fun hb136 h => ?_) (fun hb136 h => ?_)
   ·refine bind_of h (fun e137 he137 h => ?_)
    obtain ⟨he137_0, he137_1, he137_2⟩ := idx_some he137
    refine bind_of h (fun e138 he138 h => ?_)
    obtain ⟨he138_0, he138_1, he138_2⟩ := idx_some he138
    refine bind_of h (fun v139 hv139 h => ?_)
    simp -implicitDefEqProofs +decide only [go_sem, Nat.reduceAdd, Int.reduceToNat, he137_0, he137_1, he137_2, he138_0, he138_1, he138_2, hb136]
    refine call_go [0, 0] false (cmp_Less_ok (cG G) hG0 _ _ _ hv139) ?_
    simp -implicitDefEqProofs +decide only [go_sem, Nat.reduceAdd, Int.reduceToNat, hb136]
    refine draw_go (by kernel_rfl) ?_
    refine hK _ ?_
    refine bsplit h (fun hb140 h => ?_) (fun hb140 h => ?_)
    ·refine if_go ?_
     refine swp_skip ?_
     with_reducible repeat first|apply nn|apply nb|apply nr|apply nc|apply ne|apply nq|apply nx rfl
     refine swp_seq ?_
     refine swp_block ?_
     refine swp_drw rfl (fun K hK => ?_)
     refine bind_of h (fun e141 he141 h => ?_)
     obtain ⟨he141_0, he141_1, he141_2⟩ := idx_some he141
     simp -implicitDefEqProofs +decide only [go_sem, Nat.reduceAdd, Int.reduceToNat, he138_0, he138_1, he138_2, he137_0, he137_1, he137_2, he141_0, he141_1, he141_2, hb136, hb140]
     refine draw_go (by kernel_rfl) ?_
     refine hK _ ?_
     with_reducible repeat first|apply nn|apply nb|apply nr|apply nc|apply ne|apply nq|apply nx rfl
     refine swp_fresh (fun g => stL [(0, (.c (.ref ⟨1, 0⟩ 0 ((l125.set x126.toNat e138).set (IntKind.i64.wrap (x126 - 1)).toNat e137).length))), (1, (.c (.p (.int .i64 a1)))), (2, (.c (.p (.int .i64 a2)))), (6, (.c (.p (.int .i64 x94)))), (7, (.c (.p (.int .i64 x126))))] [(⟨1, 0⟩, .arr true 1 (((l125.set x126.toNat e138).set (IntKind.i64.wrap (x126 - 1)).toNat e137).map r_i64))] (g + 1)) (ren_go (fun g S => []) fun g S => []) fun g => ?_
     refine go_swp ?_
     with_reducible repeat first|apply nn|apply nb|apply nr|apply nc|apply ne|apply nq|apply nx rfl
     exact back_of h (ren_go (fun g S => []) fun g S => [])
    ·refine el_go ?_
     refine swp_exit ?_
     with_reducible repeat first|apply nn|apply nb|apply nr|apply nc|apply ne|apply nq|apply nx rfl
     obtain ⟨h, hs2⟩ := exit_of h hd2
     with_reducible repeat first|apply nn|apply nb|apply nr|apply nc|apply ne|apply nq|apply nx rfl
     refine ⟨hs2, ?_⟩
     with_reducible repeat first|apply nn|apply nb|apply nr|apply nc|apply ne|apply nq|apply nx rfl
     refine go_swp ?_
     with_reducible repeat first|apply nn|apply nb|apply nr|apply nc|apply ne|apply nq|apply nx rfl
     exact back_of h (ren_go (fun g S => []) fun g S => [])
   ·simp -implicitDefEqProofs +decide only [go_sem, Nat.reduceAdd, Int.reduceToNat, hb136]
    refine draw_go (by kernel_rfl) ?_
    refine hK _ ?_
    refine el_go ?_
    refine swp_exit ?_
    with_reducible repeat first|apply nn|apply nb|apply nr|apply nc|apply ne|apply nq|apply nx rfl
    obtain ⟨h, hs2⟩ := exit_of h hd2
    with_reducible repeat first|apply nn|apply nb|apply nr|apply nc|apply ne|apply nq|apply nx rfl
    refine ⟨hs2, ?_⟩
    with_reducible repeat first|apply nn|apply nb|apply nr|apply nc|apply ne|apply nq|apply nx rfl
    refine go_swp ?_
    with_reducible repeat first|apply nn|apply nb|apply nr|apply nc|apply ne|apply nq|apply nx rfl
    exact back_of h (ren_go (fun g S => []) fun g S => [])
  ·refine el_go ?_
   refine swp_exit ?_
   with_reducible repeat first|apply nn|apply nb|apply nr|apply nc|apply ne|apply nq|apply nx rfl
   obtain ⟨h, hs1⟩ := exit_of h hd1
   with_reducible repeat first|apply nn|apply nb|apply nr|apply nc|apply ne|apply nq|apply nx rfl
   refine ⟨hs1, ?_⟩
   with_reducible repeat first|apply nn|apply nb|apply nr|apply nc|apply ne|apply nq|apply nx rfl
   refine psplit h (fun hp150 h => ?_)
   obtain rfl := some_eq h
   simp -implicitDefEqProofs +decide only [go_sem, Nat.reduceAdd, Int.reduceToNat, hp150]
   all_goals first | done | trivial | assumption | (simp [maps]; done) | (simp [maps, hb96]; done)
end Go.Sh
end
section
namespace Go.Sh
open Go.Proofs
noncomputable def slices_pdqsortOrdered_L1 (a2 : Int) (a1 : Int) (a0 : (List Int)) (a3 : Int) : Unit → Option (Unit ⊕ (List Int))
  | () =>
    if (decide ((IntKind.i64.wrap (a2 - a1)) ≤ 12)) = true then
      (slices_insertionSortOrdered a0 a1 a2).bind fun v13 =>
      if v13.length = a0.length then
        Option.map Sum.inr (
          if v13.length = a0.length then
            some v13
          else none)
      else none
    else
      if (a3 == 0) = true then
        none
      else
        none
noncomputable def slices_pdqsortOrdered (a0 : (List Int)) (a1 : Int) (a2 : Int) (a3 : Int) : Option (List Int) :=
  iter (slices_pdqsortOrdered_L1 a2 a1 a0 a3) ()
theorem slices_pdqsortOrdered_ok (G : Glob) (hG0 : G.glob 0 = some [(.int .i64 0), (.int .i64 0)]) (a0 : (List Int)) (a1 : Int) (a2 : Int) (a3 : Int) (res : (List Int)) (h : slices_pdqsortOrdered a0 a1 a2 a3 = some res) : Spec Tryz.prog G 121 [.els 1 (a0.map r_i64), .cell (.p (.int .i64 a1)), .cell (.p (.int .i64 a2)), .cell (.p (.int .i64 a3))] (fun r ios => r = .tup [] ∧ ios = [.els 1 (res.map r_i64)]) := by
  rw [slices_pdqsortOrdered] at h
  refine spec_of Tryz.mixed Tryz.func121 rfl rfl (by simp only [List.length]; decide +kernel) ?_
  refine swp_fresh (fun g => stL [(0, (.c (.ref ⟨1, 0⟩ 0 a0.length))), (1, (.c (.p (.int .i64 a1)))), (2, (.c (.p (.int .i64 a2)))), (3, (.c (.p (.int .i64 a3))))] [(⟨1, 0⟩, .arr true 1 (a0.map r_i64))] (g + 1)) (ren_go (fun g S => []) fun g S => []) fun g => ?_
  refine go_seq ?_
  refine go_seq ?_
  refine swp_block ?_
  refine swp_iter (fun g _ => stL [(0, (.c (.ref ⟨1, 0⟩ 0 a0.length))), (1, (.c (.p (.int .i64 a1)))), (2, (.c (.p (.int .i64 a2)))), (3, (.c (.p (.int .i64 a3)))), (8, (.c (.p (.bool true)))), (9, (.c (.p (.bool true))))] [(⟨1, 0⟩, .arr true 1 (a0.map r_i64))] (g + 1)) h (enter_of (ren_go (fun g S => []) fun g S => [])) ?_
  rintro g ⟨⟩ s1 h hd1
  rw [slices_pdqsortOrdered_L1] at h
  try dsimp only
  refine swp_block ?_
  refine go_seq ?_
  refine swp_seq ?_
  refine go_seq ?_
  refine bsplit h (fun hb12 h => ?_) (fun hb12 h => ?_)
  ·refine if_go ?_
   refine seq_reg rfl (fun K hK => ?_)
   refine bind_of h (fun v13 hv13 h => ?_)
   refine psplit h (fun hp14 h => ?_)
   have qhp14 := hp14.symm
   simp -implicitDefEqProofs +decide only [go_sem, Nat.reduceAdd, Int.reduceToNat, hb12]
   refine call_go [2, 0, 0] false (slices_insertionSortOrdered_ok (cG G) hG0 _ _ _ _ hv13) ?_
   simp -implicitDefEqProofs +decide only [go_sem, Nat.reduceAdd, Int.reduceToNat, hb12, qhp14]
   refine hK _ ?_
   refine swp_ret ?_
   with_reducible repeat first|apply nn|apply nb|apply nr|apply nc|apply ne|apply nq|apply nx rfl
   obtain ⟨h, hs1⟩ := exit_of h hd1
   refine ⟨hs1, ?_⟩
   with_reducible repeat first|apply nn|apply nb|apply nr|apply nc|apply ne|apply nq|apply nx rfl
   refine psplit h (fun hp15 h => ?_)
   obtain rfl := some_eq h
   simp -implicitDefEqProofs +decide only [go_sem, Nat.reduceAdd, Int.reduceToNat, hp15]
   all_goals first | done | trivial | assumption | (simp [maps]; done) | (simp [maps, hb12, qhp14]; done)
  ·refine el_go ?_
   refine swp_skip ?_
   with_reducible repeat first|apply nn|apply nb|apply nr|apply nc|apply ne|apply nq|apply nx rfl
   refine swp_seq ?_
   refine go_seq ?_
   refine bsplit h (fun hb17 h => ?_) (fun hb17 h => ?_)
   ·cases h
   ·refine el_go ?_
    refine swp_skip ?_
    with_reducible repeat first|apply nn|apply nb|apply nr|apply nc|apply ne|apply nq|apply nx rfl
    refine swp_seq ?_
    refine go_seq ?_
    cases h
end Go.Sh
end
section
namespace Go.Sh
open Go.Proofs
noncomputable def slices_Sort (a0 : (List Int)) : Option (List Int) :=
  (math_bits_Len (IntKind.u64.wrap (a0.length : Int))).bind fun v1 =>
  (slices_pdqsortOrdered a0 0 (a0.length : Int) v1).bind fun v2 =>
  if v2.length = a0.length then
    if v2.length = a0.length then
      some v2
    else none
  else none
theorem slices_Sort_ok (G : Glob) (hG0 : G.glob 0 = some [(.int .i64 0), (.int .i64 0)]) (a0 : (List Int)) (res : (List Int)) (h : slices_Sort a0 = some res) : Spec Tryz.prog G 101 [.els 1 (a0.map r_i64)] (fun r ios => r = .tup [] ∧ ios = [.els 1 (res.map r_i64)]) := by
  rw [slices_Sort] at h
  refine spec_of Tryz.mixed Tryz.func101 rfl rfl (by simp only [List.length]; decide +kernel) ?_
  refine swp_fresh (fun g => stL [(0, (.c (.ref ⟨1, 0⟩ 0 a0.length)))] [(⟨1, 0⟩, .arr true 1 (a0.map r_i64))] (g + 1)) (ren_go (fun g S => []) fun g S => []) fun g => ?_
  refine go_seq ?_
  refine swp_reg rfl (fun K hK => ?_)
  refine bind_of h (fun v1 hv1 h => ?_)
  simp -implicitDefEqProofs +decide only [go_sem, Nat.reduceAdd, Int.reduceToNat]
  refine call_go [0] false (math_bits_Len_ok (cG G) hG0 _ _ hv1) ?_
  refine bind_of h (fun v2 hv2 h => ?_)
  refine psplit h (fun hp3 h => ?_)
  have qhp3 := hp3.symm
  simp -implicitDefEqProofs +decide only [go_sem, Nat.reduceAdd, Int.reduceToNat]
  refine call_go [2, 0, 0, 0] false (slices_pdqsortOrdered_ok (cG G) hG0 _ _ _ _ _ hv2) ?_
  simp -implicitDefEqProofs +decide only [go_sem, Nat.reduceAdd, Int.reduceToNat, qhp3]
  refine hK _ ?_
  with_reducible repeat first|apply nn|apply nb|apply nr|apply nc|apply ne|apply nq|apply nx rfl
  refine psplit h (fun hp4 h => ?_)
  obtain rfl := some_eq h
  simp -implicitDefEqProofs +decide only [go_sem, Nat.reduceAdd, Int.reduceToNat, hp4]
  all_goals first | done | trivial | assumption | (simp [maps]; done) | (simp [maps, qhp3]; done)
end Go.Sh
end
section
namespace Go.Sh
open Go.Proofs
noncomputable def btree_run_fail (a0 : btree_run) (a1 : Int) (a2 : (List Int)) : Option (Bool × btree_run) :=
  (slices_Sort a2).bind fun v1 =>
  if v1.length = a2.length then
    (slices_Compact v1).bind fun v3 =>
    some (false, (⟨a0.Op, a0.Known, a0.Need, a0.Writes, (⟨a1, a0.Out.Found, a0.Out.Done, a0.Out.Split, a0.Out.Unposted, a0.Out.Dead, a0.Out.More, a0.Out.To, a0.Out.Entries, v3, a0.Out.Hops, a0.Out.Fresh, a0.Out.Height⟩ : btree_Out), a0.RootPage, a0.Root, a0.Ended⟩ : btree_run))
  else none
theorem btree_run_fail_ok (G : Glob) (hG0 : G.glob 0 = some [(.int .i64 0), (.int .i64 0)]) (a0 : btree_run) (a1 : Int) (a2 : (List Int)) (res : (Bool × btree_run)) (h : btree_run_fail a0 a1 a2 = some res) : Spec Tryz.prog G 83 [.io (g_rhlf a0), .cell (.p (.int .i64 a1)), .cell (.own 1 (a2.map r_i64))] (fun r ios => r = .cell (.p (.bool res.1)) ∧ ios = [.io (g_rhlf res.2)]) := by
  rw [btree_run_fail] at h
  refine spec_of Tryz.mixed Tryz.func83 rfl rfl (by simp only [List.length]; decide +kernel) ?_
  refine swp_fresh (fun g => stL [(0, (.c (.ptr ⟨0, 1⟩ 0 0))), (1, (.c (.p (.int .i64 a1)))), (2, (.c (.ref ⟨1024000005, g⟩ 0 a2.length)))] [(⟨0, 1⟩, .box true (b_1wfs a0 ⟨1024000001, g⟩ ⟨1024000002, g⟩ ⟨1024000003, g⟩ ⟨1024000004, g⟩)), (⟨1024000001, g⟩, .arr true 1 (a0.Need.map r_i64)), (⟨1024000002, g⟩, .arr true 9 (a0.Writes.map r_api_Page)), (⟨1024000003, g⟩, .arr true 3 (a0.Out.Entries.map r_hashindex_Entry)), (⟨1024000004, g⟩, .arr true 1 (a0.Out.Check.map r_i64)), (⟨1024000005, g⟩, .arr true 1 (a2.map r_i64))] (g + 1)) (ren_go (fun g S => [(⟨1024000001, g⟩, (keyB 9 (St.heap S ⟨0, 1⟩))), (⟨1024000002, g⟩, (keyB 10 (St.heap S ⟨0, 1⟩))), (⟨1024000003, g⟩, (keyB 20 (St.heap S ⟨0, 1⟩))), (⟨1024000004, g⟩, (keyB 21 (St.heap S ⟨0, 1⟩))), (⟨1024000005, g⟩, (keyT 0 (St.env S 2)))]) fun g S => []) fun g => ?_
  refine go_seq ?_
  refine seq_reg rfl (fun K hK => ?_)
  refine bind_of h (fun v1 hv1 h => ?_)
  refine psplit h (fun hp2 h => ?_)
  have qhp2 := hp2.symm
  simp -implicitDefEqProofs +decide only [go_sem, Nat.reduceAdd, Int.reduceToNat]
  refine call_go [2] false (slices_Sort_ok (cG G) hG0 _ _ hv1) ?_
  simp -implicitDefEqProofs +decide only [go_sem, Nat.reduceAdd, Int.reduceToNat, qhp2]
  refine hK _ ?_
  refine seq_reg rfl (fun K hK => ?_)
  refine bind_of h (fun v3 hv3 h => ?_)
  simp -implicitDefEqProofs +decide only [go_sem, Nat.reduceAdd, Int.reduceToNat, qhp2]
  refine call_go [1] false (slices_Compact_ok (cG G) hG0 _ _ hv3) ?_
  simp -implicitDefEqProofs +decide only [go_sem, Nat.reduceAdd, Int.reduceToNat, qhp2]
  refine hK _ ?_
  refine go_seq ?_
  refine swp_ret ?_
  with_reducible repeat first|apply nn|apply nb|apply nr|apply nc|apply ne|apply nq|apply nx rfl
  obtain rfl := some_eq h
  exact rt
end Go.Sh
end
section
namespace Go.Sh
open Go.Proofs
noncomputable def pointer_PackTag (a0 : pointer_Tag) : Option Int :=
  some (bits .or .u64 (bits .or .u64 (bits .and .u64 (IntKind.u64.wrap a0.Kind) 255) (shlV .u64 (bits .and .u64 (IntKind.u64.wrap a0.Gen) 16777215) 8)) (shlV .u64 (IntKind.u64.wrap a0.Aux) 32))
theorem pointer_PackTag_ok (G : Glob) (hG0 : G.glob 0 = some [(.int .i64 0), (.int .i64 0)]) (a0 : pointer_Tag) (res : Int) (h : pointer_PackTag a0 = some res) : Spec Tryz.prog G 78 [.agg [.p (.int .i64 a0.Kind), .p (.int .i64 a0.Gen), .p (.int .u32 a0.Aux)]] (fun r ios => r = .cell (.p (.int .u64 res)) ∧ ios = []) := by
  rw [pointer_PackTag] at h
  refine spec_of Tryz.mixed Tryz.func78 rfl rfl (by simp only [List.length]; decide +kernel) ?_
  refine swp_fresh (fun g => stL [(0, (.agg [(.p (.int .i64 a0.Kind)), (.p (.int .i64 a0.Gen)), (.p (.int .u32 a0.Aux))]))] [] (g + 1)) (ren_go (fun g S => []) fun g S => []) fun g => ?_
  refine go_seq ?_
  refine go_seq ?_
  refine go_seq ?_
  refine go_seq ?_
  refine swp_ret ?_
  with_reducible repeat first|apply nn|apply nb|apply nr|apply nc|apply ne|apply nq|apply nx rfl
  obtain rfl := some_eq h
  exact rt
end Go.Sh
end
section
namespace Go.Sh
open Go.Proofs
noncomputable def pointer_UnpackTag (a0 : Int) : Option pointer_Tag :=
  some (⟨(IntKind.i64.wrap (bits .and .u64 a0 255)), (IntKind.i64.wrap (bits .and .u64 (shrV .u64 a0 8) 16777215)), (IntKind.u32.wrap (shrV .u64 a0 32))⟩ : pointer_Tag)
theorem pointer_UnpackTag_ok (G : Glob) (hG0 : G.glob 0 = some [(.int .i64 0), (.int .i64 0)]) (a0 : Int) (res : pointer_Tag) (h : pointer_UnpackTag a0 = some res) : Spec Tryz.prog G 47 [.cell (.p (.int .u64 a0))] (fun r ios => r = .agg [.p (.int .i64 res.Kind), .p (.int .i64 res.Gen), .p (.int .u32 res.Aux)] ∧ ios = []) := by
  rw [pointer_UnpackTag] at h
  refine spec_of Tryz.mixed Tryz.func47 rfl rfl (by simp only [List.length]; decide +kernel) ?_
  refine swp_fresh (fun g => stL [(0, (.c (.p (.int .u64 a0))))] [] (g + 1)) (ren_go (fun g S => []) fun g S => []) fun g => ?_
  refine go_seq ?_
  refine go_seq ?_
  refine swp_ret ?_
  with_reducible repeat first|apply nn|apply nb|apply nr|apply nc|apply ne|apply nq|apply nx rfl
  obtain rfl := some_eq h
  exact rt
end Go.Sh
end
section
namespace Go.Sh
open Go.Proofs
noncomputable def btree_Node_fill_L1 (a0 : btree_Node) (a1 : api_Page) : ((A7 Int) × Int) → Option (((A7 Int) × Int) ⊕ api_Page)
  | (x24, x25) =>
    if (decide (x25 < (a0.Entries.length : Int))) = true then
      (idx a0.Entries x25).bind fun e28 =>
      (pointer_Pack e28.To).bind fun v29 =>
      if 0 ≤ (IntKind.i64.wrap (2 + x25)) ∧ (IntKind.i64.wrap (2 + x25)) < 7 then
        some (.inl ((A7.set x24 (IntKind.i64.wrap (2 + x25)) (bits .or .u64 (shlV .u64 (IntKind.u64.wrap e28.Key) 32) (IntKind.u64.wrap v29))), (IntKind.i64.wrap (x25 + 1))))
      else none
    else
      Option.map Sum.inr (
        some (⟨a1.Line, a1.Head, x24⟩ : api_Page))
noncomputable def btree_Node_fill_J2 (v1 : pointer_Tag) (a0 : btree_Node) (a1 : api_Page) (x5 : Int) : Option api_Page :=
    (pointer_PackTag (⟨v1.Kind, v1.Gen, x5⟩ : pointer_Tag)).bind fun v6 =>
    (pointer_Pack a0.Right).bind fun v7 =>
    iter (btree_Node_fill_L1 a0 a1) ((⟨v6, (bits .or .u64 (IntKind.u64.wrap a0.High) (shlV .u64 (IntKind.u64.wrap v7) 32)), 0, 0, 0, 0, 0⟩ : (A7 Int)), 0)
noncomputable def btree_Node_fill_J1 (v1 : pointer_Tag) (a0 : btree_Node) (a1 : api_Page) (x3 : Int) : Option api_Page :=
    btree_Node_fill_J2 v1 a0 a1 (if a0.Dead = true then (bits .or .u32 x3 131072) else x3)
noncomputable def btree_Node_fill (a0 : btree_Node) (a1 : api_Page) : Option api_Page :=
  (pointer_UnpackTag a1.Data.a0).bind fun v1 =>
  if a0.Leftmost = true then
    btree_Node_fill_J1 v1 a0 a1 (bits .or .u32 (bits .or .u32 (IntKind.u32.wrap a0.Level) (shlV .u32 (IntKind.u32.wrap (a0.Entries.length : Int)) 8)) 65536)
  else
    btree_Node_fill_J1 v1 a0 a1 (bits .or .u32 (IntKind.u32.wrap a0.Level) (shlV .u32 (IntKind.u32.wrap (a0.Entries.length : Int)) 8))
theorem btree_Node_fill_ok (G : Glob) (hG0 : G.glob 0 = some [(.int .i64 0), (.int .i64 0)]) (a0 : btree_Node) (a1 : api_Page) (res : api_Page) (h : btree_Node_fill a0 a1 = some res) : Spec Tryz.prog G 49 [.agg (g_kkcs a0), .agg (g_yylp a1)] (fun r ios => r = .agg (g_yylp res) ∧ ios = []) := by
  rw [btree_Node_fill] at h
  refine spec_of Tryz.mixed Tryz.func49 rfl rfl (by simp only [List.length]; decide +kernel) ?_
  refine swp_fresh (fun g => stL [(0, (.agg (b_kfil a0))), (1, (.agg (b_mq86 a1)))] [] (g + 1)) (ren_go (fun g S => []) fun g S => []) fun g => ?_
  refine go_seq ?_
  refine seq_reg rfl (fun K hK => ?_)
  refine bind_of h (fun v1 hv1 h => ?_)
  simp -implicitDefEqProofs +decide only [go_sem, Nat.reduceAdd, Int.reduceToNat]
  refine call_go [0] false (pointer_UnpackTag_ok (cG G) hG0 _ _ hv1) ?_
  simp -implicitDefEqProofs +decide only [go_sem, Nat.reduceAdd, Int.reduceToNat]
  refine hK _ ?_
  refine go_seq ?_
  refine cut1 (Joins (btree_Node_fill_J1 v1 a0 a1) (fun g x3 => stL [(2, (.c (.ptr ⟨1024000001, g⟩ 0 0))), (3, (.c (.ptr ⟨1024000002, g⟩ 0 0))), (4, (.c (.ptr ⟨1024000003, g⟩ 0 0))), (5, (.c (.ptr ⟨1024000004, g⟩ 0 0)))] [(⟨1024000001, g⟩, .box true (b_kfil a0)), (⟨1024000002, g⟩, .box true (b_mq86 a1)), (⟨1024000003, g⟩, .box true [(.p (.int .i64 0)), (.p (.int .u64 0)), (.p (.int .u64 0)), (.p (.int .u64 0)), (.p (.int .u64 0)), (.p (.int .u64 0)), (.p (.int .u64 0)), (.p (.int .u64 0)), (.p (.int .u64 0))]), (⟨1024000004, g⟩, .box true [(.p (.int .i64 v1.Kind)), (.p (.int .i64 v1.Gen)), (.p (.int .u32 x3))])] (g + 1)) res) ?_ (fun hj1 => ?_)
  ·refine join_of ?_
   rintro g x3 h
   rw [btree_Node_fill_J1] at h
   try dsimp only
   refine cut1 (Joins (btree_Node_fill_J2 v1 a0 a1) (fun g x5 => stL [(2, (.c (.ptr ⟨1024000005, g⟩ 0 0))), (3, (.c (.ptr ⟨1024000006, g⟩ 0 0))), (4, (.c (.ptr ⟨1024000007, g⟩ 0 0))), (5, (.c (.ptr ⟨1024000008, g⟩ 0 0)))] [(⟨1024000005, g⟩, .box true (b_kfil a0)), (⟨1024000006, g⟩, .box true (b_mq86 a1)), (⟨1024000007, g⟩, .box true [(.p (.int .i64 0)), (.p (.int .u64 0)), (.p (.int .u64 0)), (.p (.int .u64 0)), (.p (.int .u64 0)), (.p (.int .u64 0)), (.p (.int .u64 0)), (.p (.int .u64 0)), (.p (.int .u64 0))]), (⟨1024000008, g⟩, .box true [(.p (.int .i64 v1.Kind)), (.p (.int .i64 v1.Gen)), (.p (.int .u32 x5))])] (g + 1)) res) ?_ (fun hj2 => ?_)
   ·refine join_of ?_
    rintro g x5 h
    rw [btree_Node_fill_J2] at h
    try dsimp only
    refine seq_drw rfl (fun K hK => ?_)
    refine bind_of h (fun v6 hv6 h => ?_)
    simp -implicitDefEqProofs +decide only [go_sem, Nat.reduceAdd, Int.reduceToNat]
    refine call_go [0] false (pointer_PackTag_ok (cG G) hG0 _ _ hv6) ?_
    refine bind_of h (fun v7 hv7 h => ?_)
    simp -implicitDefEqProofs +decide only [go_sem, Nat.reduceAdd, Int.reduceToNat]
    refine call_go [0] false (pointer_Pack_ok (cG G) hG0 _ _ hv7) ?_
    simp -implicitDefEqProofs +decide only [go_sem, Nat.reduceAdd, Int.reduceToNat]
    refine draw_go (by kernel_rfl) ?_
    refine hK _ ?_
    refine swp_seq ?_
    refine go_seq ?_
    refine swp_block ?_
    refine swp_iter (fun g x => match x with | (x24, x25) => stL [(3, (.c (.ptr ⟨1024000009, g⟩ 0 0))), (4, (.c (.ptr ⟨1024000010, g⟩ 0 0))), (48, (.c (.p (.rows (a0.Entries.map r_hashindex_Entry))))), (49, (.c (.p (.int .i64 (a0.Entries.length : Int))))), (50, (.c (.p (.int .i64 x25))))] [(⟨1024000009, g⟩, .box true [(.p (.int .i64 a1.Line)), (.p (.int .u64 a1.Head)), (.p (.int .u64 x24.a0)), (.p (.int .u64 x24.a1)), (.p (.int .u64 x24.a2)), (.p (.int .u64 x24.a3)), (.p (.int .u64 x24.a4)), (.p (.int .u64 x24.a5)), (.p (.int .u64 x24.a6))]), (⟨1024000010, g⟩, .box true [(.p (.int .i64 0)), (.p (.int .u64 0)), (.p (.int .u64 0)), (.p (.int .u64 0)), (.p (.int .u64 0)), (.p (.int .u64 0)), (.p (.int .u64 0)), (.p (.int .u64 0)), (.p (.int .u64 0))])] (g + 1)) h (enter_of (ren_go (fun g S => [(⟨1024000009, g⟩, (keyT 0 (St.env S 3))), (⟨1024000010, g⟩, (keyT 0 (St.env S 4)))]) fun g S => [])) ?_
    rintro g ⟨x24, x25⟩ s1 h hd1
    rw [btree_Node_fill_L1] at h
    try dsimp only
    refine go_seq ?_
    refine swp_seq ?_
    refine bsplit h (fun hb27 h => ?_) (fun hb27 h => ?_)
    ·refine if_go ?_
     refine swp_skip ?_
     with_reducible repeat first|apply nn|apply nb|apply nr|apply nc|apply ne|apply nq|apply nx rfl
     refine swp_seq ?_
     refine swp_block ?_
     refine seq_reg rfl (fun K hK => ?_)
     refine bind_of h (fun e28 he28 h => ?_)
     obtain ⟨he28_0, he28_1, he28_2⟩ := idx_some he28
     simp -implicitDefEqProofs +decide only [go_sem, Nat.reduceAdd, Int.reduceToNat, he28_0, he28_1, he28_2, hb27]
     refine hK _ ?_
     refine swp_drw rfl (fun K hK => ?_)
     refine bind_of h (fun v29 hv29 h => ?_)
     simp -implicitDefEqProofs +decide only [go_sem, Nat.reduceAdd, Int.reduceToNat, hb27]
     refine call_go [0] false (pointer_Pack_ok (cG G) hG0 _ _ hv29) ?_
     refine psplit h (fun hp30 h => ?_)
     simp -implicitDefEqProofs +decide only [go_sem, Nat.reduceAdd, Int.reduceToNat, hp30, hb27]
     refine opt_ite (by rcases cases7 hp30.1 hp30.2 with hc | hc | hc | hc | hc | hc | hc <;> simp [hc]) ?_
     refine opt_wr (l' := [(.p (.int .i64 a1.Line)), (.p (.int .u64 a1.Head)), (.p (.int .u64 (A7.set x24 (IntKind.i64.wrap (2 + x25)) (bits .or .u64 (shlV .u64 (IntKind.u64.wrap e28.Key) 32) (IntKind.u64.wrap v29))).a0)), (.p (.int .u64 (A7.set x24 (IntKind.i64.wrap (2 + x25)) (bits .or .u64 (shlV .u64 (IntKind.u64.wrap e28.Key) 32) (IntKind.u64.wrap v29))).a1)), (.p (.int .u64 (A7.set x24 (IntKind.i64.wrap (2 + x25)) (bits .or .u64 (shlV .u64 (IntKind.u64.wrap e28.Key) 32) (IntKind.u64.wrap v29))).a2)), (.p (.int .u64 (A7.set x24 (IntKind.i64.wrap (2 + x25)) (bits .or .u64 (shlV .u64 (IntKind.u64.wrap e28.Key) 32) (IntKind.u64.wrap v29))).a3)), (.p (.int .u64 (A7.set x24 (IntKind.i64.wrap (2 + x25)) (bits .or .u64 (shlV .u64 (IntKind.u64.wrap e28.Key) 32) (IntKind.u64.wrap v29))).a4)), (.p (.int .u64 (A7.set x24 (IntKind.i64.wrap (2 + x25)) (bits .or .u64 (shlV .u64 (IntKind.u64.wrap e28.Key) 32) (IntKind.u64.wrap v29))).a5)), (.p (.int .u64 (A7.set x24 (IntKind.i64.wrap (2 + x25)) (bits .or .u64 (shlV .u64 (IntKind.u64.wrap e28.Key) 32) (IntKind.u64.wrap v29))).a6))]) (by rcases cases7 hp30.1 hp30.2 with hc | hc | hc | hc | hc | hc | hc <;> simp [hc, A7.get, A7.set]) ?_
     simp -implicitDefEqProofs +decide only [go_sem, Nat.reduceAdd, Int.reduceToNat, hb27]
     refine draw_go (by kernel_rfl) ?_
     refine hK _ ?_
     with_reducible repeat first|apply nn|apply nb|apply nr|apply nc|apply ne|apply nq|apply nx rfl
     refine go_swp ?_
     with_reducible repeat first|apply nn|apply nb|apply nr|apply nc|apply ne|apply nq|apply nx rfl
     exact back_of h (ren_go (fun g S => [(⟨1024000009, g⟩, (keyT 0 (St.env S 3))), (⟨1024000010, g⟩, (keyT 0 (St.env S 4)))]) fun g S => [])
    ·refine el_go ?_
     refine swp_exit ?_
     with_reducible repeat first|apply nn|apply nb|apply nr|apply nc|apply ne|apply nq|apply nx rfl
     obtain ⟨h, hs1⟩ := exit_of h hd1
     with_reducible repeat first|apply nn|apply nb|apply nr|apply nc|apply ne|apply nq|apply nx rfl
     refine ⟨hs1, ?_⟩
     with_reducible repeat first|apply nn|apply nb|apply nr|apply nc|apply ne|apply nq|apply nx rfl
     refine go_seq ?_
     refine swp_ret ?_
     with_reducible repeat first|apply nn|apply nb|apply nr|apply nc|apply ne|apply nq|apply nx rfl
     obtain rfl := some_eq h
     exact rt
   refine swp_seq ?_
   refine go_seq ?_
   rcases hb35 : a0.Dead with _ | _
   ·replace h : btree_Node_fill_J2 v1 a0 a1 x3 = some res := by first | exact h | (rw [if_f hb35] at h; exact h)
    refine el_go ?_
    refine swp_skip ?_
    with_reducible repeat first|apply nn|apply nb|apply nr|apply nc|apply ne|apply nq|apply nx rfl
    exact jump_of hj2 h (ren_go (fun g S => [(⟨1024000005, g⟩, (keyT 0 (St.env S 2))), (⟨1024000006, g⟩, (keyT 0 (St.env S 3))), (⟨1024000007, g⟩, (keyT 0 (St.env S 4))), (⟨1024000008, g⟩, (keyT 0 (St.env S 5)))]) fun g S => [])
   ·replace h : btree_Node_fill_J2 v1 a0 a1 (bits .or .u32 x3 131072) = some res := by first | exact h | (rw [if_t hb35] at h; exact h)
    refine if_go ?_
    refine go_swp ?_
    with_reducible repeat first|apply nn|apply nb|apply nr|apply nc|apply ne|apply nq|apply nx rfl
    exact jump_of hj2 h (ren_go (fun g S => [(⟨1024000005, g⟩, (keyT 0 (St.env S 2))), (⟨1024000006, g⟩, (keyT 0 (St.env S 3))), (⟨1024000007, g⟩, (keyT 0 (St.env S 4))), (⟨1024000008, g⟩, (keyT 0 (St.env S 5)))]) fun g S => [])
  refine swp_seq ?_
  refine go_seq ?_
  refine bsplit h (fun hb38 h => ?_) (fun hb38 h => ?_)
  ·refine if_go ?_
   refine go_swp ?_
   with_reducible repeat first|apply nn|apply nb|apply nr|apply nc|apply ne|apply nq|apply nx rfl
   exact jump_of hj1 h (ren_go (fun g S => [(⟨1024000001, g⟩, (keyT 0 (St.env S 2))), (⟨1024000002, g⟩, (keyT 0 (St.env S 3))), (⟨1024000003, g⟩, (keyT 0 (St.env S 4))), (⟨1024000004, g⟩, (keyT 0 (St.env S 5)))]) fun g S => [])
  ·refine el_go ?_
   refine swp_skip ?_
   with_reducible repeat first|apply nn|apply nb|apply nr|apply nc|apply ne|apply nq|apply nx rfl
   exact jump_of hj1 h (ren_go (fun g S => [(⟨1024000001, g⟩, (keyT 0 (St.env S 2))), (⟨1024000002, g⟩, (keyT 0 (St.env S 3))), (⟨1024000003, g⟩, (keyT 0 (St.env S 4))), (⟨1024000004, g⟩, (keyT 0 (St.env S 5)))]) fun g S => [])
end Go.Sh
end
section
namespace Go.Sh
open Go.Proofs
noncomputable def btree_rising_L1 (a0 : (List hashindex_Entry)) : (Int × Int) → Option ((Int × Int) ⊕ Bool)
  | (x19, x20) =>
    if (decide (x20 < (a0.length : Int))) = true then
      (idx a0 x20).bind fun e23 =>
      if (decide (e23.Key ≤ x19)) = true then
        Option.map Sum.inr (
          some false)
      else
        (pointer_Valid e23.To).bind fun v25 =>
        if (!v25) = true then
          Option.map Sum.inr (
            some false)
        else
          some (.inl (e23.Key, (IntKind.i64.wrap (x20 + 1))))
    else
      Option.map Sum.inr (
        some true)
noncomputable def btree_rising (a0 : (List hashindex_Entry)) : Option Bool :=
  iter (btree_rising_L1 a0) (0, 0)
theorem btree_rising_ok (G : Glob) (hG0 : G.glob 0 = some [(.int .i64 0), (.int .i64 0)]) (a0 : (List hashindex_Entry)) (res : Bool) (h : btree_rising a0 = some res) : Spec Tryz.prog G 77 [.cell (.p (.rows (a0.map r_hashindex_Entry)))] (fun r ios => r = .cell (.p (.bool res)) ∧ ios = []) := by
  rw [btree_rising] at h
  refine spec_of Tryz.mixed Tryz.func77 rfl rfl (by simp only [List.length]; decide +kernel) ?_
  refine swp_fresh (fun g => stL [(0, (.c (.p (.rows (a0.map r_hashindex_Entry)))))] [] (g + 1)) (ren_go (fun g S => []) fun g S => []) fun g => ?_
  refine go_seq ?_
  refine go_seq ?_
  refine swp_seq ?_
  refine go_seq ?_
  refine swp_block ?_
  refine swp_iter (fun g x => match x with | (x19, x20) => stL [(3, (.c (.p (.int .u32 x19)))), (6, (.c (.p (.rows (a0.map r_hashindex_Entry))))), (7, (.c (.p (.int .i64 (a0.length : Int))))), (8, (.c (.p (.int .i64 x20))))] [] (g + 1)) h (enter_of (ren_go (fun g S => []) fun g S => [])) ?_
  rintro g ⟨x19, x20⟩ s1 h hd1
  rw [btree_rising_L1] at h
  try dsimp only
  refine go_seq ?_
  refine swp_seq ?_
  refine bsplit h (fun hb22 h => ?_) (fun hb22 h => ?_)
  ·refine if_go ?_
   refine swp_skip ?_
   with_reducible repeat first|apply nn|apply nb|apply nr|apply nc|apply ne|apply nq|apply nx rfl
   refine swp_seq ?_
   refine swp_block ?_
   refine seq_reg rfl (fun K hK => ?_)
   refine bind_of h (fun e23 he23 h => ?_)
   obtain ⟨he23_0, he23_1, he23_2⟩ := idx_some he23
   simp -implicitDefEqProofs +decide only [go_sem, Nat.reduceAdd, Int.reduceToNat, he23_0, he23_1, he23_2, hb22]
   refine hK _ ?_
   refine swp_seq ?_
   refine seq_reg rfl (fun K hK => ?_)
   refine bsplit h (fun hb24 h => ?_) (fun hb24 h => ?_)
   ·simp -implicitDefEqProofs +decide only [go_sem, Nat.reduceAdd, Int.reduceToNat, hb22, hb24]
    refine hK _ ?_
    refine if_go ?_
    refine go_seq ?_
    refine swp_ret ?_
    with_reducible repeat first|apply nn|apply nb|apply nr|apply nc|apply ne|apply nq|apply nx rfl
    obtain ⟨h, hs1⟩ := exit_of h hd1
    refine ⟨hs1, ?_⟩
    with_reducible repeat first|apply nn|apply nb|apply nr|apply nc|apply ne|apply nq|apply nx rfl
    obtain rfl := some_eq h
    exact rt
   ·refine bind_of h (fun v25 hv25 h => ?_)
    simp -implicitDefEqProofs +decide only [go_sem, Nat.reduceAdd, Int.reduceToNat, hb22, hb24]
    refine call_go [0] false (pointer_Valid_ok (cG G) hG0 _ _ hv25) ?_
    simp -implicitDefEqProofs +decide only [go_sem, Nat.reduceAdd, Int.reduceToNat, hb22, hb24]
    refine hK _ ?_
    refine bsplit h (fun hb26 h => ?_) (fun hb26 h => ?_)
    ·refine if_go ?_
     refine go_seq ?_
     refine swp_ret ?_
     with_reducible repeat first|apply nn|apply nb|apply nr|apply nc|apply ne|apply nq|apply nx rfl
     obtain ⟨h, hs1⟩ := exit_of h hd1
     refine ⟨hs1, ?_⟩
     with_reducible repeat first|apply nn|apply nb|apply nr|apply nc|apply ne|apply nq|apply nx rfl
     obtain rfl := some_eq h
     exact rt
    ·refine el_go ?_
     refine swp_skip ?_
     with_reducible repeat first|apply nn|apply nb|apply nr|apply nc|apply ne|apply nq|apply nx rfl
     refine go_swp ?_
     with_reducible repeat first|apply nn|apply nb|apply nr|apply nc|apply ne|apply nq|apply nx rfl
     refine go_swp ?_
     with_reducible repeat first|apply nn|apply nb|apply nr|apply nc|apply ne|apply nq|apply nx rfl
     exact back_of h (ren_go (fun g S => []) fun g S => [])
  ·refine el_go ?_
   refine swp_exit ?_
   with_reducible repeat first|apply nn|apply nb|apply nr|apply nc|apply ne|apply nq|apply nx rfl
   obtain ⟨h, hs1⟩ := exit_of h hd1
   with_reducible repeat first|apply nn|apply nb|apply nr|apply nc|apply ne|apply nq|apply nx rfl
   refine ⟨hs1, ?_⟩
   with_reducible repeat first|apply nn|apply nb|apply nr|apply nc|apply ne|apply nq|apply nx rfl
   refine go_seq ?_
   refine swp_ret ?_
   with_reducible repeat first|apply nn|apply nb|apply nr|apply nc|apply ne|apply nq|apply nx rfl
   obtain rfl := some_eq h
   exact rt
end Go.Sh
end
section
namespace Go.Sh
open Go.Proofs
noncomputable def btree_Node_valid_J3 (x20 : Int) (a0 : btree_Node) : Unit → Option Bool
  | () =>
    some ((decide (x20 ≤ a0.High)) && (decide (x20 ≤ 4294967294)))
noncomputable def btree_Node_valid_J2 (a0 : btree_Node) (x20 : Int) : Option Bool :=
    if (decide (a0.Level > 0)) = true then
      some ((!a0.Dead) && (x20 == a0.High))
    else
      if a0.Dead = true then
        if (decide ((a0.Entries.length : Int) > 0)) = true then
          some false
        else
          if a0.Leftmost = true then
            some false
          else
            if ((a0.Right.Line == 0) && (a0.Right.Gen == 0)) = true then
              some false
            else
              btree_Node_valid_J3 x20 a0 ()
      else
        btree_Node_valid_J3 x20 a0 ()
noncomputable def btree_Node_valid_J1 (a0 : btree_Node) : Unit → Option Bool
  | () =>
    if (decide ((a0.Entries.length : Int) > 0)) = true then
      (idx a0.Entries (IntKind.i64.wrap ((a0.Entries.length : Int) - 1))).bind fun e35 =>
      btree_Node_valid_J2 a0 e35.Key
    else
      btree_Node_valid_J2 a0 0
noncomputable def btree_Node_valid (a0 : btree_Node) : Option Bool :=
  if (decide (a0.Level < 0)) = true then
    some false
  else
    if (decide (a0.Level > 8)) = true then
      some false
    else
      if (decide ((a0.Entries.length : Int) > 5)) = true then
        some false
      else
        (btree_rising a0.Entries).bind fun v10 =>
        if (!v10) = true then
          some false
        else
          if (a0.High == 0) = true then
            some false
          else
            if (!((a0.Right.Line == 0) && (a0.Right.Gen == 0))) = true then
              (pointer_Valid a0.Right).bind fun v39 =>
              if (!v39) = true then
                some false
              else
                if (!((a0.High == 4294967295) == ((a0.Right.Line == 0) && (a0.Right.Gen == 0)))) = true then
                  some false
                else
                  btree_Node_valid_J1 a0 ()
            else
              if (!((a0.High == 4294967295) == ((a0.Right.Line == 0) && (a0.Right.Gen == 0)))) = true then
                some false
              else
                btree_Node_valid_J1 a0 ()
theorem btree_Node_valid_ok (G : Glob) (hG0 : G.glob 0 = some [(.int .i64 0), (.int .i64 0)]) (a0 : btree_Node) (res : Bool) (h : btree_Node_valid a0 = some res) : Spec Tryz.prog G 48 [.agg (g_kkcs a0)] (fun r ios => r = .cell (.p (.bool res)) ∧ ios = []) := by
  rw [btree_Node_valid] at h
  refine spec_of Tryz.mixed Tryz.func48 rfl rfl (by simp only [List.length]; decide +kernel) ?_
  refine swp_fresh (fun g => stL [(0, (.agg (b_kfil a0)))] [] (g + 1)) (ren_go (fun g S => []) fun g S => []) fun g => ?_
  refine go_seq ?_
  refine go_seq ?_
  refine swp_seq ?_
  refine seq_reg rfl (fun K hK => ?_)
  refine bsplit h (fun hb7 h => ?_) (fun hb7 h => ?_)
  ·simp -implicitDefEqProofs +decide only [go_sem, Nat.reduceAdd, Int.reduceToNat, hb7]
   refine hK _ ?_
   refine if_go ?_
   refine go_seq ?_
   refine swp_ret ?_
   with_reducible repeat first|apply nn|apply nb|apply nr|apply nc|apply ne|apply nq|apply nx rfl
   obtain rfl := some_eq h
   exact rt
  ·refine bsplit h (fun hb8 h => ?_) (fun hb8 h => ?_)
   ·simp -implicitDefEqProofs +decide only [go_sem, Nat.reduceAdd, Int.reduceToNat, hb7, hb8]
    refine hK _ ?_
    refine if_go ?_
    refine go_seq ?_
    refine swp_ret ?_
    with_reducible repeat first|apply nn|apply nb|apply nr|apply nc|apply ne|apply nq|apply nx rfl
    obtain rfl := some_eq h
    exact rt
   ·refine bsplit h (fun hb9 h => ?_) (fun hb9 h => ?_)
    ·simp -implicitDefEqProofs +decide only [go_sem, Nat.reduceAdd, Int.reduceToNat, hb7, hb8, hb9]
     refine hK _ ?_
     refine if_go ?_
     refine go_seq ?_
     refine swp_ret ?_
     with_reducible repeat first|apply nn|apply nb|apply nr|apply nc|apply ne|apply nq|apply nx rfl
     obtain rfl := some_eq h
     exact rt
    ·refine bind_of h (fun v10 hv10 h => ?_)
     simp -implicitDefEqProofs +decide only [go_sem, Nat.reduceAdd, Int.reduceToNat, hb7, hb8, hb9]
     refine call_go [0] false (btree_rising_ok (cG G) hG0 _ _ hv10) ?_
     refine bsplit h (fun hb11 h => ?_) (fun hb11 h => ?_)
     ·simp -implicitDefEqProofs +decide only [go_sem, Nat.reduceAdd, Int.reduceToNat, hb7, hb8, hb9, hb11]
      refine hK _ ?_
      refine if_go ?_
      refine go_seq ?_
      refine swp_ret ?_
      with_reducible repeat first|apply nn|apply nb|apply nr|apply nc|apply ne|apply nq|apply nx rfl
      obtain rfl := some_eq h
      exact rt
     ·simp -implicitDefEqProofs +decide only [go_sem, Nat.reduceAdd, Int.reduceToNat, hb7, hb8, hb9, hb11]
      refine hK _ ?_
      refine bsplit h (fun hb12 h => ?_) (fun hb12 h => ?_)
      ·refine if_go ?_
       refine go_seq ?_
       refine swp_ret ?_
       with_reducible repeat first|apply nn|apply nb|apply nr|apply nc|apply ne|apply nq|apply nx rfl
       obtain rfl := some_eq h
       exact rt
      ·refine el_go ?_
       refine swp_skip ?_
       with_reducible repeat first|apply nn|apply nb|apply nr|apply nc|apply ne|apply nq|apply nx rfl
       refine cut1 (Joins (btree_Node_valid_J1 a0) (fun g _ => stL [(1, (.c (.ptr ⟨1024000001, g⟩ 0 0))), (3, (.c (.p (.int .i64 (a0.Entries.length : Int)))))] [(⟨1024000001, g⟩, .box true (b_kfil a0))] (g + 1)) res) ?_ (fun hj1 => ?_)
       ·refine join_of ?_
        rintro g ⟨⟩ h
        rw [btree_Node_valid_J1] at h
        try dsimp only
        refine go_seq ?_
        refine cut1 (Joins (btree_Node_valid_J2 a0) (fun g x20 => stL [(1, (.c (.ptr ⟨1024000002, g⟩ 0 0))), (3, (.c (.p (.int .i64 (a0.Entries.length : Int))))), (4, (.c (.p (.int .u32 x20))))] [(⟨1024000002, g⟩, .box true (b_kfil a0))] (g + 1)) res) ?_ (fun hj2 => ?_)
        ·refine join_of ?_
         rintro g x20 h
         rw [btree_Node_valid_J2] at h
         try dsimp only
         refine swp_seq ?_
         refine go_seq ?_
         refine bsplit h (fun hb23 h => ?_) (fun hb23 h => ?_)
         ·refine if_go ?_
          refine seq_reg rfl (fun K hK => ?_)
          rcases hb24 : (!a0.Dead) with _ | _
          ·replace h : some false = some res := by first | exact h | (rw [and_f hb24] at h; exact h)
           simp -implicitDefEqProofs +decide only [go_sem, Nat.reduceAdd, Int.reduceToNat, hb7, hb8, hb9, hb11, hb12, hb23, hb24]
           refine hK _ ?_
           refine swp_ret ?_
           with_reducible repeat first|apply nn|apply nb|apply nr|apply nc|apply ne|apply nq|apply nx rfl
           obtain rfl := some_eq h
           exact rt
          ·replace h : some (x20 == a0.High) = some res := by first | exact h | (rw [and_t hb24] at h; exact h)
           simp -implicitDefEqProofs +decide only [go_sem, Nat.reduceAdd, Int.reduceToNat, hb7, hb8, hb9, hb11, hb12, hb23, hb24]
           refine hK _ ?_
           refine swp_ret ?_
           with_reducible repeat first|apply nn|apply nb|apply nr|apply nc|apply ne|apply nq|apply nx rfl
           obtain rfl := some_eq h
           exact rt
         ·refine el_go ?_
          refine swp_skip ?_
          with_reducible repeat first|apply nn|apply nb|apply nr|apply nc|apply ne|apply nq|apply nx rfl
          refine cut1 (Joins (btree_Node_valid_J3 x20 a0) (fun g _ => stL [(1, (.c (.ptr ⟨1024000003, g⟩ 0 0))), (4, (.c (.p (.int .u32 x20))))] [(⟨1024000003, g⟩, .box true (b_kfil a0))] (g + 1)) res) ?_ (fun hj3 => ?_)
          ·refine join_of ?_
           rintro g ⟨⟩ h
           rw [btree_Node_valid_J3] at h
           try dsimp only
           refine seq_reg rfl (fun K hK => ?_)
           rcases hb29 : (decide (x20 ≤ a0.High)) with _ | _
           ·replace h : some false = some res := by first | exact h | (rw [and_f hb29] at h; exact h)
            simp -implicitDefEqProofs +decide only [go_sem, Nat.reduceAdd, Int.reduceToNat, hb7, hb8, hb9, hb11, hb12, hb23, hb29]
            refine hK _ ?_
            refine swp_ret ?_
            with_reducible repeat first|apply nn|apply nb|apply nr|apply nc|apply ne|apply nq|apply nx rfl
            obtain rfl := some_eq h
            exact rt
           ·replace h : some (decide (x20 ≤ 4294967294)) = some res := by first | exact h | (rw [and_t hb29] at h; exact h)
            simp -implicitDefEqProofs +decide only [go_sem, Nat.reduceAdd, Int.reduceToNat, hb7, hb8, hb9, hb11, hb12, hb23, hb29]
            refine hK _ ?_
            refine swp_ret ?_
            with_reducible repeat first|apply nn|apply nb|apply nr|apply nc|apply ne|apply nq|apply nx rfl
            obtain rfl := some_eq h
            exact rt
          refine swp_seq ?_
          refine seq_reg rfl (fun K hK => ?_)
          refine bsplit h (fun hb30 h => ?_) (fun hb30 h => ?_)
          ·refine bsplit h (fun hb31 h => ?_) (fun hb31 h => ?_)
           ·simp -implicitDefEqProofs +decide only [go_sem, Nat.reduceAdd, Int.reduceToNat, hG0, hb7, hb8, hb9, hb11, hb12, hb23, hb30, hb31]
            refine hK _ ?_
            refine if_go ?_
            refine go_seq ?_
            refine swp_ret ?_
            with_reducible repeat first|apply nn|apply nb|apply nr|apply nc|apply ne|apply nq|apply nx rfl
            obtain rfl := some_eq h
            exact rt
           ·refine bsplit h (fun hb32 h => ?_) (fun hb32 h => ?_)
            ·simp -implicitDefEqProofs +decide only [go_sem, Nat.reduceAdd, Int.reduceToNat, hG0, hb7, hb8, hb9, hb11, hb12, hb23, hb30, hb31, hb32]
             refine hK _ ?_
             refine if_go ?_
             refine go_seq ?_
             refine swp_ret ?_
             with_reducible repeat first|apply nn|apply nb|apply nr|apply nc|apply ne|apply nq|apply nx rfl
             obtain rfl := some_eq h
             exact rt
            ·simp -implicitDefEqProofs +decide only [go_sem, Nat.reduceAdd, Int.reduceToNat, hG0, hb7, hb8, hb9, hb11, hb12, hb23, hb30, hb31, hb32]
             refine hK _ ?_
             refine bsplit h (fun hb33 h => ?_) (fun hb33 h => ?_)
             ·refine if_go ?_
              refine go_seq ?_
              refine swp_ret ?_
              with_reducible repeat first|apply nn|apply nb|apply nr|apply nc|apply ne|apply nq|apply nx rfl
              obtain rfl := some_eq h
              exact rt
             ·refine el_go ?_
              refine swp_skip ?_
              with_reducible repeat first|apply nn|apply nb|apply nr|apply nc|apply ne|apply nq|apply nx rfl
              exact jump_of hj3 h (ren_go (fun g S => [(⟨1024000003, g⟩, (keyT 0 (St.env S 1)))]) fun g S => [])
          ·simp -implicitDefEqProofs +decide only [go_sem, Nat.reduceAdd, Int.reduceToNat, hG0, hb7, hb8, hb9, hb11, hb12, hb23, hb30]
           refine hK _ ?_
           refine el_go ?_
           refine swp_skip ?_
           with_reducible repeat first|apply nn|apply nb|apply nr|apply nc|apply ne|apply nq|apply nx rfl
           exact jump_of hj3 h (ren_go (fun g S => [(⟨1024000003, g⟩, (keyT 0 (St.env S 1)))]) fun g S => [])
        refine swp_seq ?_
        refine go_seq ?_
        refine bsplit h (fun hb34 h => ?_) (fun hb34 h => ?_)
        ·refine if_go ?_
         refine swp_reg rfl (fun K hK => ?_)
         refine bind_of h (fun e35 he35 h => ?_)
         obtain ⟨he35_0, he35_1, he35_2⟩ := idx_some he35
         simp -implicitDefEqProofs +decide only [go_sem, Nat.reduceAdd, Int.reduceToNat, he35_0, he35_1, he35_2, hb7, hb8, hb9, hb11, hb12, hb34]
         refine hK _ ?_
         with_reducible repeat first|apply nn|apply nb|apply nr|apply nc|apply ne|apply nq|apply nx rfl
         exact jump_of hj2 h (ren_go (fun g S => [(⟨1024000002, g⟩, (keyT 0 (St.env S 1)))]) fun g S => [])
        ·refine el_go ?_
         refine swp_skip ?_
         with_reducible repeat first|apply nn|apply nb|apply nr|apply nc|apply ne|apply nq|apply nx rfl
         exact jump_of hj2 h (ren_go (fun g S => [(⟨1024000002, g⟩, (keyT 0 (St.env S 1)))]) fun g S => [])
       refine swp_seq ?_
       refine seq_drw rfl (fun K hK => ?_)
       refine bsplit h (fun hb38 h => ?_) (fun hb38 h => ?_)
       ·refine bind_of h (fun v39 hv39 h => ?_)
        simp -implicitDefEqProofs +decide only [go_sem, Nat.reduceAdd, Int.reduceToNat, hG0, hb7, hb8, hb9, hb11, hb12, hb38]
        refine call_go [0] false (pointer_Valid_ok (cG G) hG0 _ _ hv39) ?_
        refine bsplit h (fun hb40 h => ?_) (fun hb40 h => ?_)
        ·simp -implicitDefEqProofs +decide only [go_sem, Nat.reduceAdd, Int.reduceToNat, hG0, hb7, hb8, hb9, hb11, hb12, hb38, hb40]
         refine draw_go (by kernel_rfl) ?_
         refine hK _ ?_
         refine if_go ?_
         refine go_seq ?_
         refine swp_ret ?_
         with_reducible repeat first|apply nn|apply nb|apply nr|apply nc|apply ne|apply nq|apply nx rfl
         obtain rfl := some_eq h
         exact rt
        ·simp -implicitDefEqProofs +decide only [go_sem, Nat.reduceAdd, Int.reduceToNat, hG0, hb7, hb8, hb9, hb11, hb12, hb38, hb40]
         refine draw_go (by kernel_rfl) ?_
         refine hK _ ?_
         refine bsplit h (fun hb41 h => ?_) (fun hb41 h => ?_)
         ·refine if_go ?_
          refine go_seq ?_
          refine swp_ret ?_
          with_reducible repeat first|apply nn|apply nb|apply nr|apply nc|apply ne|apply nq|apply nx rfl
          obtain rfl := some_eq h
          exact rt
         ·refine el_go ?_
          refine swp_skip ?_
          with_reducible repeat first|apply nn|apply nb|apply nr|apply nc|apply ne|apply nq|apply nx rfl
          exact jump_of hj1 h (ren_go (fun g S => [(⟨1024000001, g⟩, (keyT 0 (St.env S 1)))]) fun g S => [])
       ·simp -implicitDefEqProofs +decide only [go_sem, Nat.reduceAdd, Int.reduceToNat, hG0, hb7, hb8, hb9, hb11, hb12, hb38]
        refine draw_go (by kernel_rfl) ?_
        refine hK _ ?_
        refine bsplit h (fun hb42 h => ?_) (fun hb42 h => ?_)
        ·refine if_go ?_
         refine go_seq ?_
         refine swp_ret ?_
         with_reducible repeat first|apply nn|apply nb|apply nr|apply nc|apply ne|apply nq|apply nx rfl
         obtain rfl := some_eq h
         exact rt
        ·refine el_go ?_
         refine swp_skip ?_
         with_reducible repeat first|apply nn|apply nb|apply nr|apply nc|apply ne|apply nq|apply nx rfl
         exact jump_of hj1 h (ren_go (fun g S => [(⟨1024000001, g⟩, (keyT 0 (St.env S 1)))]) fun g S => [])
end Go.Sh
end
section
namespace Go.Sh
open Go.Proofs
noncomputable def btree_ReadNode_J1 (v1 : pointer_Tag) (a0 : api_Page) (v6 : pointer_Pointer) (l30 : List hashindex_Entry) : Option (btree_Node × Int) :=
    (btree_Node_valid (⟨(IntKind.i64.wrap (bits .and .u32 v1.Aux 255)), ((bits .and .u32 v1.Aux 65536) != 0), ((bits .and .u32 v1.Aux 131072) != 0), (IntKind.u32.wrap a0.Data.a1), v6, l30⟩ : btree_Node)).bind fun v31 =>
    if (!v31) = true then
      some ((⟨0, false, false, 0, (⟨0, 0⟩ : pointer_Pointer), ([] : List hashindex_Entry)⟩ : btree_Node), 14)
    else
      (btree_Node_fill (⟨(IntKind.i64.wrap (bits .and .u32 v1.Aux 255)), ((bits .and .u32 v1.Aux 65536) != 0), ((bits .and .u32 v1.Aux 131072) != 0), (IntKind.u32.wrap a0.Data.a1), v6, l30⟩ : btree_Node) a0).bind fun v33 =>
      if (!((v33.Data.a0 == a0.Data.a0) && ((v33.Data.a1 == a0.Data.a1) && ((v33.Data.a2 == a0.Data.a2) && ((v33.Data.a3 == a0.Data.a3) && ((v33.Data.a4 == a0.Data.a4) && ((v33.Data.a5 == a0.Data.a5) && (v33.Data.a6 == a0.Data.a6)))))))) = true then
        some ((⟨0, false, false, 0, (⟨0, 0⟩ : pointer_Pointer), ([] : List hashindex_Entry)⟩ : btree_Node), 14)
      else
        some ((⟨(IntKind.i64.wrap (bits .and .u32 v1.Aux 255)), ((bits .and .u32 v1.Aux 65536) != 0), ((bits .and .u32 v1.Aux 131072) != 0), (IntKind.u32.wrap a0.Data.a1), v6, l30⟩ : btree_Node), 0)
noncomputable def btree_ReadNode_L1 (v1 : pointer_Tag) (a0 : api_Page) (v6 : pointer_Pointer) : (List hashindex_Entry × Int) → Option ((List hashindex_Entry × Int) ⊕ (btree_Node × Int))
  | (l51, x52) =>
    if (decide (x52 < (((IntKind.i64.wrap (2 + (IntKind.i64.wrap (bits .and .u32 (shrV .u32 v1.Aux 8) 255)))) - 2).toNat : Int))) = true then
      if 0 ≤ x52 ∧ x52 < ((IntKind.i64.wrap (2 + (IntKind.i64.wrap (bits .and .u32 (shrV .u32 v1.Aux 8) 255)))) - 2).toNat ∧ x52 < 5 then
        (pointer_Unpack (IntKind.u32.wrap (A5.get (⟨a0.Data.a2, a0.Data.a3, a0.Data.a4, a0.Data.a5, a0.Data.a6⟩ : A5 Int) x52))).bind fun v57 =>
        if (l51.length + 1) * 24 ≤ maxRows ∧ l51.length + 1 ≤ maxRows then
          some (.inl ((l51 ++ ([(⟨(IntKind.u32.wrap (shrV .u64 (A5.get (⟨a0.Data.a2, a0.Data.a3, a0.Data.a4, a0.Data.a5, a0.Data.a6⟩ : A5 Int) x52) 32)), v57⟩ : hashindex_Entry)] : List hashindex_Entry)), (IntKind.i64.wrap (x52 + 1))))
        else none
      else none
    else
      Option.map Sum.inr (
        btree_ReadNode_J1 v1 a0 v6 l51)
noncomputable def btree_ReadNode (a0 : api_Page) : Option (btree_Node × Int) :=
  (pointer_UnpackTag a0.Data.a0).bind fun v1 =>
  if (v1.Kind != 4) = true then
    some ((⟨0, false, false, 0, (⟨0, 0⟩ : pointer_Pointer), ([] : List hashindex_Entry)⟩ : btree_Node), 14)
  else
    if (decide ((IntKind.i64.wrap (bits .and .u32 (shrV .u32 v1.Aux 8) 255)) > 5)) = true then
      some ((⟨0, false, false, 0, (⟨0, 0⟩ : pointer_Pointer), ([] : List hashindex_Entry)⟩ : btree_Node), 14)
    else
      (pointer_Unpack (IntKind.u32.wrap (shrV .u64 a0.Data.a1 32))).bind fun v6 =>
      if 2 ≤ (IntKind.i64.wrap (2 + (IntKind.i64.wrap (bits .and .u32 (shrV .u32 v1.Aux 8) 255)))) ∧ (IntKind.i64.wrap (2 + (IntKind.i64.wrap (bits .and .u32 (shrV .u32 v1.Aux 8) 255)))) ≤ 7 then
        iter (btree_ReadNode_L1 v1 a0 v6) (([] : List hashindex_Entry), 0)
      else none
theorem btree_ReadNode_ok (G : Glob) (hG0 : G.glob 0 = some [(.int .i64 0), (.int .i64 0)]) (a0 : api_Page) (res : (btree_Node × Int)) (h : btree_ReadNode a0 = some res) : Spec Tryz.prog G 22 [.agg (g_yylp a0)] (fun r ios => r = .tup [.agg (g_3f6k res.1), .cell (.p (.int .i64 res.2))] ∧ ios = []) := by
  rw [btree_ReadNode] at h
  refine spec_of Tryz.mixed Tryz.func22 rfl rfl (by simp only [List.length]; decide +kernel) ?_
  refine swp_fresh (fun g => stL [(0, (.agg (b_mq86 a0)))] [] (g + 1)) (ren_go (fun g S => []) fun g S => []) fun g => ?_
  refine go_seq ?_
  refine seq_reg rfl (fun K hK => ?_)
  refine bind_of h (fun v1 hv1 h => ?_)
  simp -implicitDefEqProofs +decide only [go_sem, Nat.reduceAdd, Int.reduceToNat]
  refine call_go [0] false (pointer_UnpackTag_ok (cG G) hG0 _ _ hv1) ?_
  simp -implicitDefEqProofs +decide only [go_sem, Nat.reduceAdd, Int.reduceToNat]
  refine hK _ ?_
  refine go_seq ?_
  refine swp_seq ?_
  refine seq_reg rfl (fun K hK => ?_)
  refine bsplit h (fun hb4 h => ?_) (fun hb4 h => ?_)
  ·simp -implicitDefEqProofs +decide only [go_sem, Nat.reduceAdd, Int.reduceToNat, hb4]
   refine hK _ ?_
   refine if_go ?_
   refine go_seq ?_
   refine swp_fresh (fun g => stL [(2, (.c (.ptr ⟨1024000001, g⟩ 0 0))), (3, (.c (.p (.int .i64 14))))] [(⟨1024000001, g⟩, .box true [(.p (.int .i64 0)), (.p (.bool false)), (.p (.bool false)), (.p (.int .u32 0)), (.p (.int .i64 0)), (.p (.int .i64 0)), (.ref ⟨1024000002, g⟩ 0 ([] : List hashindex_Entry).length)]), (⟨1024000002, g⟩, .arr true 3 (([] : List hashindex_Entry).map r_hashindex_Entry))] (g + 1)) (ren_go (fun g S => [(⟨1024000001, g⟩, (keyT 0 (St.env S 2)))]) fun g S => [(⟨1024000002, g⟩, 3)]) fun g => ?_
   refine swp_ret ?_
   with_reducible repeat first|apply nn|apply nb|apply nr|apply nc|apply ne|apply nq|apply nx rfl
   obtain rfl := some_eq h
   exact rt
  ·simp -implicitDefEqProofs +decide only [go_sem, Nat.reduceAdd, Int.reduceToNat, hb4]
   refine hK _ ?_
   refine bsplit h (fun hb5 h => ?_) (fun hb5 h => ?_)
   ·refine if_go ?_
    refine go_seq ?_
    refine swp_fresh (fun g => stL [(2, (.c (.ptr ⟨1024000003, g⟩ 0 0))), (3, (.c (.p (.int .i64 14))))] [(⟨1024000003, g⟩, .box true [(.p (.int .i64 0)), (.p (.bool false)), (.p (.bool false)), (.p (.int .u32 0)), (.p (.int .i64 0)), (.p (.int .i64 0)), (.ref ⟨1024000004, g⟩ 0 ([] : List hashindex_Entry).length)]), (⟨1024000004, g⟩, .arr true 3 (([] : List hashindex_Entry).map r_hashindex_Entry))] (g + 1)) (ren_go (fun g S => [(⟨1024000003, g⟩, (keyT 0 (St.env S 2)))]) fun g S => [(⟨1024000004, g⟩, 3)]) fun g => ?_
    refine swp_ret ?_
    with_reducible repeat first|apply nn|apply nb|apply nr|apply nc|apply ne|apply nq|apply nx rfl
    obtain rfl := some_eq h
    exact rt
   ·refine el_go ?_
    refine swp_skip ?_
    with_reducible repeat first|apply nn|apply nb|apply nr|apply nc|apply ne|apply nq|apply nx rfl
    refine seq_drw rfl (fun K hK => ?_)
    refine bind_of h (fun v6 hv6 h => ?_)
    simp -implicitDefEqProofs +decide only [go_sem, Nat.reduceAdd, Int.reduceToNat, hb4, hb5]
    refine call_go [0] false (pointer_Unpack_ok (cG G) hG0 _ _ hv6) ?_
    simp -implicitDefEqProofs +decide only [go_sem, Nat.reduceAdd, Int.reduceToNat, hb4, hb5]
    refine draw_go (by kernel_rfl) ?_
    refine hK _ ?_
    refine cut1 (Joins (btree_ReadNode_J1 v1 a0 v6) (fun g l30 => stL [(1, (.c (.ptr ⟨1024000005, g⟩ 0 0))), (2, (.c (.ptr ⟨1024000006, g⟩ 0 0))), (6, (.c (.ptr ⟨1024000007, g⟩ 0 0)))] [(⟨1024000005, g⟩, .box true (b_mq86 a0)), (⟨1024000006, g⟩, .box true [(.p (.int .i64 0)), (.p (.bool false)), (.p (.bool false)), (.p (.int .u32 0)), (.p (.int .i64 0)), (.p (.int .i64 0)), .nilS]), (⟨1024000007, g⟩, .box true [(.p (.int .i64 (IntKind.i64.wrap (bits .and .u32 v1.Aux 255)))), (.p (.bool ((bits .and .u32 v1.Aux 65536) != 0))), (.p (.bool ((bits .and .u32 v1.Aux 131072) != 0))), (.p (.int .u32 (IntKind.u32.wrap a0.Data.a1))), (.p (.int .i64 v6.Line)), (.p (.int .i64 v6.Gen)), (.ref ⟨1024000008, g⟩ 0 l30.length)]), (⟨1024000008, g⟩, .arr true 3 (l30.map r_hashindex_Entry))] (g + 1)) res) ?_ (fun hj1 => ?_)
    ·refine join_of ?_
     rintro g l30 h
     rw [btree_ReadNode_J1] at h
     try dsimp only
     refine swp_seq ?_
     refine seq_drw rfl (fun K hK => ?_)
     refine bind_of h (fun v31 hv31 h => ?_)
     simp -implicitDefEqProofs +decide only [go_sem, Nat.reduceAdd, Int.reduceToNat, hb4, hb5]
     refine call_go [0] false (btree_Node_valid_ok (cG G) hG0 _ _ hv31) ?_
     refine bsplit h (fun hb32 h => ?_) (fun hb32 h => ?_)
     ·simp -implicitDefEqProofs +decide only [go_sem, Nat.reduceAdd, Int.reduceToNat, hb4, hb5, hb32]
      refine draw_go (by kernel_rfl) ?_
      refine hK _ ?_
      refine if_go ?_
      refine go_seq ?_
      refine swp_fresh (fun g => stL [(2, (.c (.ptr ⟨1024000009, g⟩ 0 0))), (3, (.c (.p (.int .i64 14))))] [(⟨1024000009, g⟩, .box true [(.p (.int .i64 0)), (.p (.bool false)), (.p (.bool false)), (.p (.int .u32 0)), (.p (.int .i64 0)), (.p (.int .i64 0)), (.ref ⟨1024000010, g⟩ 0 ([] : List hashindex_Entry).length)]), (⟨1024000010, g⟩, .arr true 3 (([] : List hashindex_Entry).map r_hashindex_Entry))] (g + 1)) (ren_go (fun g S => [(⟨1024000009, g⟩, (keyT 0 (St.env S 2)))]) fun g S => [(⟨1024000010, g⟩, 3)]) fun g => ?_
      refine swp_ret ?_
      with_reducible repeat first|apply nn|apply nb|apply nr|apply nc|apply ne|apply nq|apply nx rfl
      obtain rfl := some_eq h
      exact rt
     ·refine bind_of h (fun v33 hv33 h => ?_)
      simp -implicitDefEqProofs +decide only [go_sem, Nat.reduceAdd, Int.reduceToNat, hb4, hb5, hb32]
      refine call_go [0, 0] false (btree_Node_fill_ok (cG G) hG0 _ _ _ hv33) ?_
      simp -implicitDefEqProofs +decide only [go_sem, Nat.reduceAdd, Int.reduceToNat, hb4, hb5, hb32]
      refine draw_go (by kernel_rfl) ?_
      refine hK _ ?_
      refine bsplit h (fun hb34 h => ?_) (fun hb34 h => ?_)
      ·refine if_go ?_
       refine go_seq ?_
       refine swp_fresh (fun g => stL [(2, (.c (.ptr ⟨1024000011, g⟩ 0 0))), (3, (.c (.p (.int .i64 14))))] [(⟨1024000011, g⟩, .box true [(.p (.int .i64 0)), (.p (.bool false)), (.p (.bool false)), (.p (.int .u32 0)), (.p (.int .i64 0)), (.p (.int .i64 0)), (.ref ⟨1024000012, g⟩ 0 ([] : List hashindex_Entry).length)]), (⟨1024000012, g⟩, .arr true 3 (([] : List hashindex_Entry).map r_hashindex_Entry))] (g + 1)) (ren_go (fun g S => [(⟨1024000011, g⟩, (keyT 0 (St.env S 2)))]) fun g S => [(⟨1024000012, g⟩, 3)]) fun g => ?_
       refine swp_ret ?_
       with_reducible repeat first|apply nn|apply nb|apply nr|apply nc|apply ne|apply nq|apply nx rfl
       obtain rfl := some_eq h
       exact rt
      ·refine el_go ?_
       refine swp_skip ?_
       with_reducible repeat first|apply nn|apply nb|apply nr|apply nc|apply ne|apply nq|apply nx rfl
       refine go_seq ?_
       refine swp_ret ?_
       with_reducible repeat first|apply nn|apply nb|apply nr|apply nc|apply ne|apply nq|apply nx rfl
       obtain rfl := some_eq h
       exact rt
    refine swp_seq ?_
    refine seq_reg rfl (fun K hK => ?_)
    refine psplit h (fun hp35 h => ?_)
    simp -implicitDefEqProofs +decide only [go_sem, Nat.reduceAdd, Int.reduceToNat, hp35, hb4, hb5]
    refine hK _ ?_
    refine swp_block ?_
    refine swp_iter (fun g x => match x with | (l51, x52) => stL [(1, (.c (.ptr ⟨1024000013, g⟩ 0 0))), (2, (.c (.ptr ⟨1024000014, g⟩ 0 0))), (6, (.c (.ptr ⟨1024000015, g⟩ 0 0))), (52, (.c (.cref ⟨1024000013, g⟩ 4 ((IntKind.i64.wrap (2 + (IntKind.i64.wrap (bits .and .u32 (shrV .u32 v1.Aux 8) 255)))) - 2).toNat 1))), (53, (.c (.p (.int .i64 (((IntKind.i64.wrap (2 + (IntKind.i64.wrap (bits .and .u32 (shrV .u32 v1.Aux 8) 255)))) - 2).toNat : Int))))), (54, (.c (.p (.int .i64 x52))))] [(⟨1024000013, g⟩, .box true (b_mq86 a0)), (⟨1024000014, g⟩, .box true [(.p (.int .i64 0)), (.p (.bool false)), (.p (.bool false)), (.p (.int .u32 0)), (.p (.int .i64 0)), (.p (.int .i64 0)), .nilS]), (⟨1024000015, g⟩, .box true [(.p (.int .i64 (IntKind.i64.wrap (bits .and .u32 v1.Aux 255)))), (.p (.bool ((bits .and .u32 v1.Aux 65536) != 0))), (.p (.bool ((bits .and .u32 v1.Aux 131072) != 0))), (.p (.int .u32 (IntKind.u32.wrap a0.Data.a1))), (.p (.int .i64 v6.Line)), (.p (.int .i64 v6.Gen)), (.ref ⟨1024000016, g⟩ 0 l51.length)]), (⟨1024000016, g⟩, .arr true 3 (l51.map r_hashindex_Entry))] (g + 1)) h (enter_of (ren_go (fun g S => [(⟨1024000013, g⟩, (keyT 0 (St.env S 1))), (⟨1024000014, g⟩, (keyT 0 (St.env S 2))), (⟨1024000015, g⟩, (keyT 0 (St.env S 6)))]) fun g S => [(⟨1024000016, g⟩, 3)])) ?_
    rintro g ⟨l51, x52⟩ s1 h hd1
    rw [btree_ReadNode_L1] at h
    try dsimp only
    refine go_seq ?_
    refine swp_seq ?_
    refine bsplit h (fun hb55 h => ?_) (fun hb55 h => ?_)
    ·refine if_go ?_
     refine swp_skip ?_
     with_reducible repeat first|apply nn|apply nb|apply nr|apply nc|apply ne|apply nq|apply nx rfl
     refine swp_seq ?_
     refine swp_block ?_
     refine seq_reg rfl (fun K hK => ?_)
     refine psplit h (fun hp56 h => ?_)
     simp -implicitDefEqProofs +decide only [go_sem, Nat.reduceAdd, Int.reduceToNat, hp56, hb55]
     first | refine opt_get (x := (.p (.int .u64 (A5.get (⟨a0.Data.a2, a0.Data.a3, a0.Data.a4, a0.Data.a5, a0.Data.a6⟩ : A5 Int) x52)))) (by rcases cases5 (And.intro hp56.1 hp56.2.2).1 (And.intro hp56.1 hp56.2.2).2 with hc | hc | hc | hc | hc <;> simp [hc, A5.get]) ?_ | refine opt_get' (x := (.p (.int .u64 (A5.get (⟨a0.Data.a2, a0.Data.a3, a0.Data.a4, a0.Data.a5, a0.Data.a6⟩ : A5 Int) x52)))) (by rcases cases5 (And.intro hp56.1 hp56.2.2).1 (And.intro hp56.1 hp56.2.2).2 with hc | hc | hc | hc | hc <;> simp [hc, A5.get]) ?_
     simp -implicitDefEqProofs +decide only [go_sem, Nat.reduceAdd, Int.reduceToNat, hb55]
     refine hK _ ?_
     refine swp_drw rfl (fun K hK => ?_)
     refine bind_of h (fun v57 hv57 h => ?_)
     simp -implicitDefEqProofs +decide only [go_sem, Nat.reduceAdd, Int.reduceToNat, hb55]
     refine call_go [0] false (pointer_Unpack_ok (cG G) hG0 _ _ hv57) ?_
     refine psplit h (fun hp58 h => ?_)
     simp -implicitDefEqProofs +decide only [go_sem, Nat.reduceAdd, Int.reduceToNat, hp58, hb55]
     refine draw_go (by kernel_rfl) ?_
     refine hK _ ?_
     with_reducible repeat first|apply nn|apply nb|apply nr|apply nc|apply ne|apply nq|apply nx rfl
     refine swp_fresh (fun g => stL [(1, (.c (.ptr ⟨1024000017, g⟩ 0 0))), (2, (.c (.ptr ⟨1024000018, g⟩ 0 0))), (6, (.c (.ptr ⟨1024000019, g⟩ 0 0))), (52, (.c (.cref ⟨1024000017, g⟩ 4 ((IntKind.i64.wrap (2 + (IntKind.i64.wrap (bits .and .u32 (shrV .u32 v1.Aux 8) 255)))) - 2).toNat 1))), (53, (.c (.p (.int .i64 (((IntKind.i64.wrap (2 + (IntKind.i64.wrap (bits .and .u32 (shrV .u32 v1.Aux 8) 255)))) - 2).toNat : Int))))), (54, (.c (.p (.int .i64 x52))))] [(⟨1024000017, g⟩, .box true (b_mq86 a0)), (⟨1024000018, g⟩, .box true [(.p (.int .i64 0)), (.p (.bool false)), (.p (.bool false)), (.p (.int .u32 0)), (.p (.int .i64 0)), (.p (.int .i64 0)), .nilS]), (⟨1024000019, g⟩, .box true [(.p (.int .i64 (IntKind.i64.wrap (bits .and .u32 v1.Aux 255)))), (.p (.bool ((bits .and .u32 v1.Aux 65536) != 0))), (.p (.bool ((bits .and .u32 v1.Aux 131072) != 0))), (.p (.int .u32 (IntKind.u32.wrap a0.Data.a1))), (.p (.int .i64 v6.Line)), (.p (.int .i64 v6.Gen)), (.ref ⟨1024000020, g⟩ 0 (l51 ++ ([(⟨(IntKind.u32.wrap (shrV .u64 (A5.get (⟨a0.Data.a2, a0.Data.a3, a0.Data.a4, a0.Data.a5, a0.Data.a6⟩ : A5 Int) x52) 32)), v57⟩ : hashindex_Entry)] : List hashindex_Entry)).length)]), (⟨1024000020, g⟩, .arr true 3 ((l51 ++ ([(⟨(IntKind.u32.wrap (shrV .u64 (A5.get (⟨a0.Data.a2, a0.Data.a3, a0.Data.a4, a0.Data.a5, a0.Data.a6⟩ : A5 Int) x52) 32)), v57⟩ : hashindex_Entry)] : List hashindex_Entry)).map r_hashindex_Entry))] (g + 1)) (ren_go (fun g S => [(⟨1024000017, g⟩, (keyT 0 (St.env S 1))), (⟨1024000018, g⟩, (keyT 0 (St.env S 2))), (⟨1024000019, g⟩, (keyT 0 (St.env S 6))), (⟨1024000020, g⟩, (keyB 6 (St.heap S (keyT 0 (St.env S 6)))))]) fun g S => []) fun g => ?_
     refine go_swp ?_
     with_reducible repeat first|apply nn|apply nb|apply nr|apply nc|apply ne|apply nq|apply nx rfl
     exact back_of h (ren_go (fun g S => [(⟨1024000013, g⟩, (keyT 0 (St.env S 1))), (⟨1024000014, g⟩, (keyT 0 (St.env S 2))), (⟨1024000015, g⟩, (keyT 0 (St.env S 6))), (⟨1024000016, g⟩, (keyB 6 (St.heap S (keyT 0 (St.env S 6)))))]) fun g S => [])
    ·refine el_go ?_
     refine swp_exit ?_
     with_reducible repeat first|apply nn|apply nb|apply nr|apply nc|apply ne|apply nq|apply nx rfl
     obtain ⟨h, hs1⟩ := exit_of h hd1
     with_reducible repeat first|apply nn|apply nb|apply nr|apply nc|apply ne|apply nq|apply nx rfl
     refine ⟨hs1, ?_⟩
     with_reducible repeat first|apply nn|apply nb|apply nr|apply nc|apply ne|apply nq|apply nx rfl
     exact jump_of hj1 h (ren_go (fun g S => [(⟨1024000005, g⟩, (keyT 0 (St.env S 1))), (⟨1024000006, g⟩, (keyT 0 (St.env S 2))), (⟨1024000007, g⟩, (keyT 0 (St.env S 6))), (⟨1024000008, g⟩, (keyB 6 (St.heap S (keyT 0 (St.env S 6)))))]) fun g S => [])
end Go.Sh
end
section
namespace Go.Sh
open Go.Proofs
noncomputable def btree_run_wait (a0 : btree_run) (a1 : Int) : Option (Bool × btree_run) :=
  some (false, (⟨a0.Op, a0.Known, ([a1] : List Int), a0.Writes, a0.Out, a0.RootPage, a0.Root, a0.Ended⟩ : btree_run))
theorem btree_run_wait_ok (G : Glob) (hG0 : G.glob 0 = some [(.int .i64 0), (.int .i64 0)]) (a0 : btree_run) (a1 : Int) (res : (Bool × btree_run)) (h : btree_run_wait a0 a1 = some res) : Spec Tryz.prog G 81 [.io (g_rhlf a0), .cell (.p (.int .i64 a1))] (fun r ios => r = .cell (.p (.bool res.1)) ∧ ios = [.io (g_rhlf res.2)]) := by
  rw [btree_run_wait] at h
  refine spec_of Tryz.mixed Tryz.func81 rfl rfl (by simp only [List.length]; decide +kernel) ?_
  refine swp_fresh (fun g => stL [(0, (.c (.ptr ⟨0, 1⟩ 0 0))), (1, (.c (.p (.int .i64 a1))))] [(⟨0, 1⟩, .box true (b_1wfs a0 ⟨1024000001, g⟩ ⟨1024000002, g⟩ ⟨1024000003, g⟩ ⟨1024000004, g⟩)), (⟨1024000001, g⟩, .arr true 1 (a0.Need.map r_i64)), (⟨1024000002, g⟩, .arr true 9 (a0.Writes.map r_api_Page)), (⟨1024000003, g⟩, .arr true 3 (a0.Out.Entries.map r_hashindex_Entry)), (⟨1024000004, g⟩, .arr true 1 (a0.Out.Check.map r_i64))] (g + 1)) (ren_go (fun g S => [(⟨1024000001, g⟩, (keyB 9 (St.heap S ⟨0, 1⟩))), (⟨1024000002, g⟩, (keyB 10 (St.heap S ⟨0, 1⟩))), (⟨1024000003, g⟩, (keyB 20 (St.heap S ⟨0, 1⟩))), (⟨1024000004, g⟩, (keyB 21 (St.heap S ⟨0, 1⟩)))]) fun g S => []) fun g => ?_
  refine go_seq ?_
  refine go_seq ?_
  refine go_seq ?_
  refine swp_ret ?_
  with_reducible repeat first|apply nn|apply nb|apply nr|apply nc|apply ne|apply nq|apply nx rfl
  obtain rfl := some_eq h
  exact rt
end Go.Sh
end
section
namespace Go.Sh
open Go.Proofs
noncomputable def pointer_Latest_L1 (a0 : (List api_Page)) (a1 : Int) (x12 : Int) : Option (Int ⊕ (api_Page × Bool)) :=
    if (decide (x12 ≥ 0)) = true then
      (idx a0 x12).bind fun e15 =>
      if (e15.Line == a1) = true then
        Option.map Sum.inr (
          some (e15, true))
      else
        some (.inl (IntKind.i64.wrap (x12 - 1)))
    else
      Option.map Sum.inr (
        some ((⟨0, 0, (⟨0, 0, 0, 0, 0, 0, 0⟩ : (A7 Int))⟩ : api_Page), false))
noncomputable def pointer_Latest (a0 : (List api_Page)) (a1 : Int) : Option (api_Page × Bool) :=
  iter (pointer_Latest_L1 a0 a1) (IntKind.i64.wrap ((a0.length : Int) - 1))
theorem pointer_Latest_ok (G : Glob) (hG0 : G.glob 0 = some [(.int .i64 0), (.int .i64 0)]) (a0 : (List api_Page)) (a1 : Int) (res : (api_Page × Bool)) (h : pointer_Latest a0 a1 = some res) : Spec Tryz.prog G 80 [.cell (.p (.rows (a0.map r_api_Page))), .cell (.p (.int .i64 a1))] (fun r ios => r = .tup [.agg (g_yylp res.1), .cell (.p (.bool res.2))] ∧ ios = []) := by
  rw [pointer_Latest] at h
  refine spec_of Tryz.mixed Tryz.func80 rfl rfl (by simp only [List.length]; decide +kernel) ?_
  refine swp_fresh (fun g => stL [(0, (.c (.p (.rows (a0.map r_api_Page))))), (1, (.c (.p (.int .i64 a1))))] [] (g + 1)) (ren_go (fun g S => []) fun g S => []) fun g => ?_
  refine go_seq ?_
  refine swp_seq ?_
  refine go_seq ?_
  refine swp_block ?_
  refine swp_iter (fun g x12 => stL [(0, (.c (.p (.rows (a0.map r_api_Page))))), (1, (.c (.p (.int .i64 a1)))), (4, (.c (.ptr ⟨1024000001, g⟩ 0 0))), (6, (.c (.p (.int .i64 x12))))] [(⟨1024000001, g⟩, .box true [(.p (.int .i64 0)), (.p (.int .u64 0)), (.p (.int .u64 0)), (.p (.int .u64 0)), (.p (.int .u64 0)), (.p (.int .u64 0)), (.p (.int .u64 0)), (.p (.int .u64 0)), (.p (.int .u64 0))])] (g + 1)) h (enter_of (ren_go (fun g S => [(⟨1024000001, g⟩, (keyT 0 (St.env S 4)))]) fun g S => [])) ?_
  rintro g x12 s1 h hd1
  rw [pointer_Latest_L1] at h
  try dsimp only
  refine swp_seq ?_
  refine go_seq ?_
  refine bsplit h (fun hb14 h => ?_) (fun hb14 h => ?_)
  ·refine if_go ?_
   refine swp_skip ?_
   with_reducible repeat first|apply nn|apply nb|apply nr|apply nc|apply ne|apply nq|apply nx rfl
   refine swp_seq ?_
   refine swp_block ?_
   refine seq_reg rfl (fun K hK => ?_)
   refine bind_of h (fun e15 he15 h => ?_)
   obtain ⟨he15_0, he15_1, he15_2⟩ := idx_some he15
   simp -implicitDefEqProofs +decide only [go_sem, Nat.reduceAdd, Int.reduceToNat, he15_0, he15_1, he15_2, hb14]
   refine hK _ ?_
   refine bsplit h (fun hb16 h => ?_) (fun hb16 h => ?_)
   ·refine if_go ?_
    refine seq_reg rfl (fun K hK => ?_)
    simp -implicitDefEqProofs +decide only [go_sem, Nat.reduceAdd, Int.reduceToNat, he15_0, he15_1, he15_2, hb14, hb16]
    refine hK _ ?_
    refine swp_ret ?_
    with_reducible repeat first|apply nn|apply nb|apply nr|apply nc|apply ne|apply nq|apply nx rfl
    obtain ⟨h, hs1⟩ := exit_of h hd1
    refine ⟨hs1, ?_⟩
    with_reducible repeat first|apply nn|apply nb|apply nr|apply nc|apply ne|apply nq|apply nx rfl
    obtain rfl := some_eq h
    exact rt
   ·refine el_go ?_
    refine swp_skip ?_
    with_reducible repeat first|apply nn|apply nb|apply nr|apply nc|apply ne|apply nq|apply nx rfl
    refine go_swp ?_
    with_reducible repeat first|apply nn|apply nb|apply nr|apply nc|apply ne|apply nq|apply nx rfl
    exact back_of h (ren_go (fun g S => [(⟨1024000001, g⟩, (keyT 0 (St.env S 4)))]) fun g S => [])
  ·refine el_go ?_
   refine swp_exit ?_
   with_reducible repeat first|apply nn|apply nb|apply nr|apply nc|apply ne|apply nq|apply nx rfl
   obtain ⟨h, hs1⟩ := exit_of h hd1
   with_reducible repeat first|apply nn|apply nb|apply nr|apply nc|apply ne|apply nq|apply nx rfl
   refine ⟨hs1, ?_⟩
   with_reducible repeat first|apply nn|apply nb|apply nr|apply nc|apply ne|apply nq|apply nx rfl
   refine go_seq ?_
   refine swp_ret ?_
   with_reducible repeat first|apply nn|apply nb|apply nr|apply nc|apply ne|apply nq|apply nx rfl
   obtain rfl := some_eq h
   exact rt
end Go.Sh
end
section
namespace Go.Sh
open Go.Proofs
noncomputable def pointer_Locked (a0 : api_Page) : Option Bool :=
  some ((bits .and .u64 a0.Head 255) != 0)
theorem pointer_Locked_ok (G : Glob) (hG0 : G.glob 0 = some [(.int .i64 0), (.int .i64 0)]) (a0 : api_Page) (res : Bool) (h : pointer_Locked a0 = some res) : Spec Tryz.prog G 82 [.agg (g_yylp a0)] (fun r ios => r = .cell (.p (.bool res)) ∧ ios = []) := by
  rw [pointer_Locked] at h
  refine spec_of Tryz.mixed Tryz.func82 rfl rfl (by simp only [List.length]; decide +kernel) ?_
  refine swp_fresh (fun g => stL [(0, (.agg (b_mq86 a0)))] [] (g + 1)) (ren_go (fun g S => []) fun g S => []) fun g => ?_
  refine go_seq ?_
  refine go_seq ?_
  refine swp_ret ?_
  with_reducible repeat first|apply nn|apply nb|apply nr|apply nc|apply ne|apply nq|apply nx rfl
  obtain rfl := some_eq h
  exact rt
end Go.Sh
end
section
namespace Go.Sh
open Go.Proofs
noncomputable def pointer_tagOf (a0 : api_Page) : Option pointer_Tag :=
  (pointer_UnpackTag a0.Data.a0).bind fun v1 =>
  some v1
theorem pointer_tagOf_ok (G : Glob) (hG0 : G.glob 0 = some [(.int .i64 0), (.int .i64 0)]) (a0 : api_Page) (res : pointer_Tag) (h : pointer_tagOf a0 = some res) : Spec Tryz.prog G 73 [.agg (g_yylp a0)] (fun r ios => r = .agg [.p (.int .i64 res.Kind), .p (.int .i64 res.Gen), .p (.int .u32 res.Aux)] ∧ ios = []) := by
  rw [pointer_tagOf] at h
  refine spec_of Tryz.mixed Tryz.func73 rfl rfl (by simp only [List.length]; decide +kernel) ?_
  refine swp_fresh (fun g => stL [(0, (.agg (b_mq86 a0)))] [] (g + 1)) (ren_go (fun g S => []) fun g S => []) fun g => ?_
  refine go_seq ?_
  refine seq_reg rfl (fun K hK => ?_)
  refine bind_of h (fun v1 hv1 h => ?_)
  simp -implicitDefEqProofs +decide only [go_sem, Nat.reduceAdd, Int.reduceToNat]
  refine call_go [0] false (pointer_UnpackTag_ok (cG G) hG0 _ _ hv1) ?_
  simp -implicitDefEqProofs +decide only [go_sem, Nat.reduceAdd, Int.reduceToNat]
  refine hK _ ?_
  refine swp_ret ?_
  with_reducible repeat first|apply nn|apply nb|apply nr|apply nc|apply ne|apply nq|apply nx rfl
  obtain rfl := some_eq h
  exact rt
end Go.Sh
end
section
namespace Go.Sh
open Go.Proofs
noncomputable def pointer_lookup (a0 : (List api_Page)) (a1 : pointer_Pointer) (a2 : Int) (a3 : Bool) : Option (api_Page × Bool × Int) :=
  (pointer_Valid a1).bind fun v3 =>
  if (!v3) = true then
    some ((⟨0, 0, (⟨0, 0, 0, 0, 0, 0, 0⟩ : (A7 Int))⟩ : api_Page), false, 1)
  else
    (pointer_Latest a0 a1.Line).bind fun v5 =>
    if (!v5.2) = true then
      some ((⟨0, 0, (⟨0, 0, 0, 0, 0, 0, 0⟩ : (A7 Int))⟩ : api_Page), false, 0)
    else
      (pointer_tagOf v5.1).bind fun v8 =>
      if a3 = true then
        (pointer_Locked v5.1).bind fun v10 =>
        if v10 = true then
          some ((⟨0, 0, (⟨0, 0, 0, 0, 0, 0, 0⟩ : (A7 Int))⟩ : api_Page), false, 3)
        else
          if (v8.Kind == 0) = true then
            some ((⟨0, 0, (⟨0, 0, 0, 0, 0, 0, 0⟩ : (A7 Int))⟩ : api_Page), false, 11)
          else
            if (v8.Gen != a1.Gen) = true then
              some ((⟨0, 0, (⟨0, 0, 0, 0, 0, 0, 0⟩ : (A7 Int))⟩ : api_Page), false, 11)
            else
              if (v8.Kind != a2) = true then
                some ((⟨0, 0, (⟨0, 0, 0, 0, 0, 0, 0⟩ : (A7 Int))⟩ : api_Page), false, 14)
              else
                some (v5.1, true, 0)
      else
        if (v8.Kind == 0) = true then
          some ((⟨0, 0, (⟨0, 0, 0, 0, 0, 0, 0⟩ : (A7 Int))⟩ : api_Page), false, 11)
        else
          if (v8.Gen != a1.Gen) = true then
            some ((⟨0, 0, (⟨0, 0, 0, 0, 0, 0, 0⟩ : (A7 Int))⟩ : api_Page), false, 11)
          else
            if (v8.Kind != a2) = true then
              some ((⟨0, 0, (⟨0, 0, 0, 0, 0, 0, 0⟩ : (A7 Int))⟩ : api_Page), false, 14)
            else
              some (v5.1, true, 0)
theorem pointer_lookup_ok (G : Glob) (hG0 : G.glob 0 = some [(.int .i64 0), (.int .i64 0)]) (a0 : (List api_Page)) (a1 : pointer_Pointer) (a2 : Int) (a3 : Bool) (res : (api_Page × Bool × Int)) (h : pointer_lookup a0 a1 a2 a3 = some res) : Spec Tryz.prog G 72 [.cell (.p (.rows (a0.map r_api_Page))), .agg [.p (.int .i64 a1.Line), .p (.int .i64 a1.Gen)], .cell (.p (.int .i64 a2)), .cell (.p (.bool a3))] (fun r ios => r = .tup [.agg (g_yylp res.1), .cell (.p (.bool res.2.1)), .cell (.p (.int .i64 res.2.2))] ∧ ios = []) := by
  rw [pointer_lookup] at h
  refine spec_of Tryz.mixed Tryz.func72 rfl rfl (by simp only [List.length]; decide +kernel) ?_
  refine swp_fresh (fun g => stL [(0, (.c (.p (.rows (a0.map r_api_Page))))), (1, (.agg [(.p (.int .i64 a1.Line)), (.p (.int .i64 a1.Gen))])), (2, (.c (.p (.int .i64 a2)))), (3, (.c (.p (.bool a3))))] [] (g + 1)) (ren_go (fun g S => []) fun g S => []) fun g => ?_
  refine go_seq ?_
  refine swp_seq ?_
  refine seq_reg rfl (fun K hK => ?_)
  refine bind_of h (fun v3 hv3 h => ?_)
  simp -implicitDefEqProofs +decide only [go_sem, Nat.reduceAdd, Int.reduceToNat]
  refine call_go [0] false (pointer_Valid_ok (cG G) hG0 _ _ hv3) ?_
  simp -implicitDefEqProofs +decide only [go_sem, Nat.reduceAdd, Int.reduceToNat]
  refine hK _ ?_
  refine bsplit h (fun hb4 h => ?_) (fun hb4 h => ?_)
  ·refine if_go ?_
   refine go_seq ?_
   refine swp_ret ?_
   with_reducible repeat first|apply nn|apply nb|apply nr|apply nc|apply ne|apply nq|apply nx rfl
   obtain rfl := some_eq h
   exact rt
  ·refine el_go ?_
   refine swp_skip ?_
   with_reducible repeat first|apply nn|apply nb|apply nr|apply nc|apply ne|apply nq|apply nx rfl
   refine seq_reg rfl (fun K hK => ?_)
   refine bind_of h (fun v5 hv5 h => ?_)
   simp -implicitDefEqProofs +decide only [go_sem, Nat.reduceAdd, Int.reduceToNat, hb4]
   refine call_go [0, 0] false (pointer_Latest_ok (cG G) hG0 _ _ _ hv5) ?_
   simp -implicitDefEqProofs +decide only [go_sem, Nat.reduceAdd, Int.reduceToNat, hb4]
   refine hK _ ?_
   refine swp_seq ?_
   refine go_seq ?_
   refine bsplit h (fun hb7 h => ?_) (fun hb7 h => ?_)
   ·refine if_go ?_
    refine go_seq ?_
    refine swp_ret ?_
    with_reducible repeat first|apply nn|apply nb|apply nr|apply nc|apply ne|apply nq|apply nx rfl
    obtain rfl := some_eq h
    exact rt
   ·refine el_go ?_
    refine swp_skip ?_
    with_reducible repeat first|apply nn|apply nb|apply nr|apply nc|apply ne|apply nq|apply nx rfl
    refine seq_reg rfl (fun K hK => ?_)
    refine bind_of h (fun v8 hv8 h => ?_)
    simp -implicitDefEqProofs +decide only [go_sem, Nat.reduceAdd, Int.reduceToNat, hb4, hb7]
    refine call_go [0] false (pointer_tagOf_ok (cG G) hG0 _ _ hv8) ?_
    simp -implicitDefEqProofs +decide only [go_sem, Nat.reduceAdd, Int.reduceToNat, hb4, hb7]
    refine hK _ ?_
    refine swp_seq ?_
    refine swp_block ?_
    refine seq_reg rfl (fun K hK => ?_)
    refine bsplit h (fun hb9 h => ?_) (fun hb9 h => ?_)
    ·refine bind_of h (fun v10 hv10 h => ?_)
     simp -implicitDefEqProofs +decide only [go_sem, Nat.reduceAdd, Int.reduceToNat, hb4, hb7, hb9]
     refine call_go [0] false (pointer_Locked_ok (cG G) hG0 _ _ hv10) ?_
     simp -implicitDefEqProofs +decide only [go_sem, Nat.reduceAdd, Int.reduceToNat, hb4, hb7, hb9]
     refine hK _ ?_
     refine bsplit h (fun hb11 h => ?_) (fun hb11 h => ?_)
     ·refine if_go ?_
      refine go_seq ?_
      refine swp_ret ?_
      with_reducible repeat first|apply nn|apply nb|apply nr|apply nc|apply ne|apply nq|apply nx rfl
      obtain rfl := some_eq h
      exact rt
     ·refine el_go ?_
      refine seq_reg rfl (fun K hK => ?_)
      refine bsplit h (fun hb12 h => ?_) (fun hb12 h => ?_)
      ·simp -implicitDefEqProofs +decide only [go_sem, Nat.reduceAdd, Int.reduceToNat, hb4, hb7, hb9, hb11, hb12]
       refine hK _ ?_
       refine if_go ?_
       refine go_seq ?_
       refine swp_ret ?_
       with_reducible repeat first|apply nn|apply nb|apply nr|apply nc|apply ne|apply nq|apply nx rfl
       obtain rfl := some_eq h
       exact rt
      ·simp -implicitDefEqProofs +decide only [go_sem, Nat.reduceAdd, Int.reduceToNat, hb4, hb7, hb9, hb11, hb12]
       refine hK _ ?_
       refine bsplit h (fun hb13 h => ?_) (fun hb13 h => ?_)
       ·refine if_go ?_
        refine go_seq ?_
        refine swp_ret ?_
        with_reducible repeat first|apply nn|apply nb|apply nr|apply nc|apply ne|apply nq|apply nx rfl
        obtain rfl := some_eq h
        exact rt
       ·refine el_go ?_
        refine go_seq ?_
        refine bsplit h (fun hb14 h => ?_) (fun hb14 h => ?_)
        ·refine if_go ?_
         refine go_seq ?_
         refine swp_ret ?_
         with_reducible repeat first|apply nn|apply nb|apply nr|apply nc|apply ne|apply nq|apply nx rfl
         obtain rfl := some_eq h
         exact rt
        ·refine el_go ?_
         refine swp_skip ?_
         with_reducible repeat first|apply nn|apply nb|apply nr|apply nc|apply ne|apply nq|apply nx rfl
         refine go_seq ?_
         refine swp_ret ?_
         with_reducible repeat first|apply nn|apply nb|apply nr|apply nc|apply ne|apply nq|apply nx rfl
         obtain rfl := some_eq h
         exact rt
    ·simp -implicitDefEqProofs +decide only [go_sem, Nat.reduceAdd, Int.reduceToNat, hb4, hb7, hb9]
     refine hK _ ?_
     refine el_go ?_
     refine seq_reg rfl (fun K hK => ?_)
     refine bsplit h (fun hb15 h => ?_) (fun hb15 h => ?_)
     ·simp -implicitDefEqProofs +decide only [go_sem, Nat.reduceAdd, Int.reduceToNat, hb4, hb7, hb9, hb15]
      refine hK _ ?_
      refine if_go ?_
      refine go_seq ?_
      refine swp_ret ?_
      with_reducible repeat first|apply nn|apply nb|apply nr|apply nc|apply ne|apply nq|apply nx rfl
      obtain rfl := some_eq h
      exact rt
     ·simp -implicitDefEqProofs +decide only [go_sem, Nat.reduceAdd, Int.reduceToNat, hb4, hb7, hb9, hb15]
      refine hK _ ?_
      refine bsplit h (fun hb16 h => ?_) (fun hb16 h => ?_)
      ·refine if_go ?_
       refine go_seq ?_
       refine swp_ret ?_
       with_reducible repeat first|apply nn|apply nb|apply nr|apply nc|apply ne|apply nq|apply nx rfl
       obtain rfl := some_eq h
       exact rt
      ·refine el_go ?_
       refine go_seq ?_
       refine bsplit h (fun hb17 h => ?_) (fun hb17 h => ?_)
       ·refine if_go ?_
        refine go_seq ?_
        refine swp_ret ?_
        with_reducible repeat first|apply nn|apply nb|apply nr|apply nc|apply ne|apply nq|apply nx rfl
        obtain rfl := some_eq h
        exact rt
       ·refine el_go ?_
        refine swp_skip ?_
        with_reducible repeat first|apply nn|apply nb|apply nr|apply nc|apply ne|apply nq|apply nx rfl
        refine go_seq ?_
        refine swp_ret ?_
        with_reducible repeat first|apply nn|apply nb|apply nr|apply nc|apply ne|apply nq|apply nx rfl
        obtain rfl := some_eq h
        exact rt
end Go.Sh
end
section
namespace Go.Sh
open Go.Proofs
noncomputable def pointer_Peek (a0 : (List api_Page)) (a1 : pointer_Pointer) (a2 : Int) : Option (api_Page × Bool × Int) :=
  (pointer_lookup a0 a1 a2 false).bind fun v1 =>
  some (v1.1, v1.2.1, v1.2.2)
theorem pointer_Peek_ok (G : Glob) (hG0 : G.glob 0 = some [(.int .i64 0), (.int .i64 0)]) (a0 : (List api_Page)) (a1 : pointer_Pointer) (a2 : Int) (res : (api_Page × Bool × Int)) (h : pointer_Peek a0 a1 a2 = some res) : Spec Tryz.prog G 105 [.cell (.p (.rows (a0.map r_api_Page))), .agg [.p (.int .i64 a1.Line), .p (.int .i64 a1.Gen)], .cell (.p (.int .i64 a2))] (fun r ios => r = .tup [.agg (g_yylp res.1), .cell (.p (.bool res.2.1)), .cell (.p (.int .i64 res.2.2))] ∧ ios = []) := by
  rw [pointer_Peek] at h
  refine spec_of Tryz.mixed Tryz.func105 rfl rfl (by simp only [List.length]; decide +kernel) ?_
  refine swp_fresh (fun g => stL [(0, (.c (.p (.rows (a0.map r_api_Page))))), (1, (.agg [(.p (.int .i64 a1.Line)), (.p (.int .i64 a1.Gen))])), (2, (.c (.p (.int .i64 a2))))] [] (g + 1)) (ren_go (fun g S => []) fun g S => []) fun g => ?_
  refine go_seq ?_
  refine seq_reg rfl (fun K hK => ?_)
  refine bind_of h (fun v1 hv1 h => ?_)
  simp -implicitDefEqProofs +decide only [go_sem, Nat.reduceAdd, Int.reduceToNat]
  refine call_go [0, 0, 0, 0] false (pointer_lookup_ok (cG G) hG0 _ _ _ _ _ hv1) ?_
  simp -implicitDefEqProofs +decide only [go_sem, Nat.reduceAdd, Int.reduceToNat]
  refine hK _ ?_
  refine swp_ret ?_
  with_reducible repeat first|apply nn|apply nb|apply nr|apply nc|apply ne|apply nq|apply nx rfl
  obtain rfl := some_eq h
  exact rt
end Go.Sh
end
section
namespace Go.Sh
open Go.Proofs
noncomputable def btree_run_look (a0 : btree_run) (a1 : pointer_Pointer) : Option (btree_found × Bool × btree_run) :=
  (pointer_Peek a0.Known a1 4).bind fun v1 =>
  if (v1.2.2 != 0) = true then
    (btree_run_fail a0 v1.2.2 ([] : List Int)).bind fun v5 =>
    some ((⟨(⟨0, 0, (⟨0, 0, 0, 0, 0, 0, 0⟩ : (A7 Int))⟩ : api_Page), (⟨0, false, false, 0, (⟨0, 0⟩ : pointer_Pointer), ([] : List hashindex_Entry)⟩ : btree_Node)⟩ : btree_found), v5.1, v5.2)
  else
    if (!v1.2.1) = true then
      (btree_run_wait a0 a1.Line).bind fun v9 =>
      some ((⟨(⟨0, 0, (⟨0, 0, 0, 0, 0, 0, 0⟩ : (A7 Int))⟩ : api_Page), (⟨0, false, false, 0, (⟨0, 0⟩ : pointer_Pointer), ([] : List hashindex_Entry)⟩ : btree_Node)⟩ : btree_found), v9.1, v9.2)
    else
      (btree_ReadNode v1.1).bind fun v10 =>
      if (v10.2 != 0) = true then
        (btree_run_fail a0 v10.2 ([] : List Int)).bind fun v14 =>
        some ((⟨(⟨0, 0, (⟨0, 0, 0, 0, 0, 0, 0⟩ : (A7 Int))⟩ : api_Page), (⟨0, false, false, 0, (⟨0, 0⟩ : pointer_Pointer), ([] : List hashindex_Entry)⟩ : btree_Node)⟩ : btree_found), v14.1, v14.2)
      else
        some ((⟨v1.1, v10.1⟩ : btree_found), true, a0)
theorem btree_run_look_ok (G : Glob) (hG0 : G.glob 0 = some [(.int .i64 0), (.int .i64 0)]) (a0 : btree_run) (a1 : pointer_Pointer) (res : (btree_found × Bool × btree_run)) (h : btree_run_look a0 a1 = some res) : Spec Tryz.prog G 94 [.io (g_rhlf a0), .agg [.p (.int .i64 a1.Line), .p (.int .i64 a1.Gen)], .cell (.p (.clo 105 []))] (fun r ios => r = .tup [.agg (g_ggvz res.1), .cell (.p (.bool res.2.1))] ∧ ios = [.io (g_rhlf res.2.2)]) := by
  rw [btree_run_look] at h
  refine spec_of Tryz.mixed Tryz.func94 rfl rfl (by simp only [List.length]; decide +kernel) ?_
  refine swp_fresh (fun g => stL [(0, (.c (.ptr ⟨0, 1⟩ 0 0))), (1, (.agg [(.p (.int .i64 a1.Line)), (.p (.int .i64 a1.Gen))])), (2, (.c (.p (.clo 105 []))))] [(⟨0, 1⟩, .box true (b_1wfs a0 ⟨1024000001, g⟩ ⟨1024000002, g⟩ ⟨1024000003, g⟩ ⟨1024000004, g⟩)), (⟨1024000001, g⟩, .arr true 1 (a0.Need.map r_i64)), (⟨1024000002, g⟩, .arr true 9 (a0.Writes.map r_api_Page)), (⟨1024000003, g⟩, .arr true 3 (a0.Out.Entries.map r_hashindex_Entry)), (⟨1024000004, g⟩, .arr true 1 (a0.Out.Check.map r_i64))] (g + 1)) (ren_go (fun g S => [(⟨1024000001, g⟩, (keyB 9 (St.heap S ⟨0, 1⟩))), (⟨1024000002, g⟩, (keyB 10 (St.heap S ⟨0, 1⟩))), (⟨1024000003, g⟩, (keyB 20 (St.heap S ⟨0, 1⟩))), (⟨1024000004, g⟩, (keyB 21 (St.heap S ⟨0, 1⟩)))]) fun g S => []) fun g => ?_
  refine go_seq ?_
  refine seq_drw rfl (fun K hK => ?_)
  refine bind_of h (fun v1 hv1 h => ?_)
  simp -implicitDefEqProofs +decide only [go_sem, Nat.reduceAdd, Int.reduceToNat]
  refine call_go [0, 0, 0] false (pointer_Peek_ok (cG G) hG0 _ _ _ _ hv1) ?_
  simp -implicitDefEqProofs +decide only [go_sem, Nat.reduceAdd, Int.reduceToNat]
  refine draw_go (by kernel_rfl) ?_
  refine hK _ ?_
  refine swp_seq ?_
  refine go_seq ?_
  refine bsplit h (fun hb4 h => ?_) (fun hb4 h => ?_)
  ·refine if_go ?_
   refine seq_reg rfl (fun K hK => ?_)
   refine bind_of h (fun v5 hv5 h => ?_)
   simp -implicitDefEqProofs +decide only [go_sem, Nat.reduceAdd, Int.reduceToNat, hb4]
   refine call_nil [0, 0, 1] true (btree_run_fail_ok (cG G) hG0 _ _ _ _ hv5) ?_
   simp -implicitDefEqProofs +decide only [go_sem, Nat.reduceAdd, Int.reduceToNat, hb4]
   refine hK _ ?_
   refine swp_fresh (fun g => stL [(6, (.c (.ptr ⟨1024000005, g⟩ 0 0))), (7, (.c (.p (.bool v5.1))))] [(⟨1024000005, g⟩, .box true [(.p (.int .i64 0)), (.p (.int .u64 0)), (.p (.int .u64 0)), (.p (.int .u64 0)), (.p (.int .u64 0)), (.p (.int .u64 0)), (.p (.int .u64 0)), (.p (.int .u64 0)), (.p (.int .u64 0)), (.p (.int .i64 0)), (.p (.bool false)), (.p (.bool false)), (.p (.int .u32 0)), (.p (.int .i64 0)), (.p (.int .i64 0)), (.ref ⟨1024000006, g⟩ 0 ([] : List hashindex_Entry).length)]), (⟨1024000006, g⟩, .arr true 3 (([] : List hashindex_Entry).map r_hashindex_Entry)), (⟨0, 1⟩, .box true (b_1wfs v5.2 ⟨1024000007, g⟩ ⟨1024000008, g⟩ ⟨1024000009, g⟩ ⟨1024000010, g⟩)), (⟨1024000007, g⟩, .arr true 1 (v5.2.Need.map r_i64)), (⟨1024000008, g⟩, .arr true 9 (v5.2.Writes.map r_api_Page)), (⟨1024000009, g⟩, .arr true 3 (v5.2.Out.Entries.map r_hashindex_Entry)), (⟨1024000010, g⟩, .arr true 1 (v5.2.Out.Check.map r_i64))] (g + 1)) (ren_go (fun g S => [(⟨1024000005, g⟩, (keyT 0 (St.env S 6))), (⟨1024000007, g⟩, (keyB 9 (St.heap S ⟨0, 1⟩))), (⟨1024000008, g⟩, (keyB 10 (St.heap S ⟨0, 1⟩))), (⟨1024000009, g⟩, (keyB 20 (St.heap S ⟨0, 1⟩))), (⟨1024000010, g⟩, (keyB 21 (St.heap S ⟨0, 1⟩)))]) fun g S => [(⟨1024000006, g⟩, 3)]) fun g => ?_
   refine swp_ret ?_
   with_reducible repeat first|apply nn|apply nb|apply nr|apply nc|apply ne|apply nq|apply nx rfl
   obtain rfl := some_eq h
   exact rt
  ·refine el_go ?_
   refine swp_skip ?_
   with_reducible repeat first|apply nn|apply nb|apply nr|apply nc|apply ne|apply nq|apply nx rfl
   refine swp_seq ?_
   refine go_seq ?_
   refine bsplit h (fun hb8 h => ?_) (fun hb8 h => ?_)
   ·refine if_go ?_
    refine seq_reg rfl (fun K hK => ?_)
    refine bind_of h (fun v9 hv9 h => ?_)
    simp -implicitDefEqProofs +decide only [go_sem, Nat.reduceAdd, Int.reduceToNat, hb4, hb8]
    refine call_go [0, 0] true (btree_run_wait_ok (cG G) hG0 _ _ _ hv9) ?_
    simp -implicitDefEqProofs +decide only [go_sem, Nat.reduceAdd, Int.reduceToNat, hb4, hb8]
    refine hK _ ?_
    refine swp_fresh (fun g => stL [(6, (.c (.ptr ⟨1024000011, g⟩ 0 0))), (7, (.c (.p (.bool v9.1))))] [(⟨1024000011, g⟩, .box true [(.p (.int .i64 0)), (.p (.int .u64 0)), (.p (.int .u64 0)), (.p (.int .u64 0)), (.p (.int .u64 0)), (.p (.int .u64 0)), (.p (.int .u64 0)), (.p (.int .u64 0)), (.p (.int .u64 0)), (.p (.int .i64 0)), (.p (.bool false)), (.p (.bool false)), (.p (.int .u32 0)), (.p (.int .i64 0)), (.p (.int .i64 0)), (.ref ⟨1024000012, g⟩ 0 ([] : List hashindex_Entry).length)]), (⟨1024000012, g⟩, .arr true 3 (([] : List hashindex_Entry).map r_hashindex_Entry)), (⟨0, 1⟩, .box true (b_1wfs v9.2 ⟨1024000013, g⟩ ⟨1024000014, g⟩ ⟨1024000015, g⟩ ⟨1024000016, g⟩)), (⟨1024000013, g⟩, .arr true 1 (v9.2.Need.map r_i64)), (⟨1024000014, g⟩, .arr true 9 (v9.2.Writes.map r_api_Page)), (⟨1024000015, g⟩, .arr true 3 (v9.2.Out.Entries.map r_hashindex_Entry)), (⟨1024000016, g⟩, .arr true 1 (v9.2.Out.Check.map r_i64))] (g + 1)) (ren_go (fun g S => [(⟨1024000011, g⟩, (keyT 0 (St.env S 6))), (⟨1024000013, g⟩, (keyB 9 (St.heap S ⟨0, 1⟩))), (⟨1024000014, g⟩, (keyB 10 (St.heap S ⟨0, 1⟩))), (⟨1024000015, g⟩, (keyB 20 (St.heap S ⟨0, 1⟩))), (⟨1024000016, g⟩, (keyB 21 (St.heap S ⟨0, 1⟩)))]) fun g S => [(⟨1024000012, g⟩, 3)]) fun g => ?_
    refine swp_ret ?_
    with_reducible repeat first|apply nn|apply nb|apply nr|apply nc|apply ne|apply nq|apply nx rfl
    obtain rfl := some_eq h
    exact rt
   ·refine el_go ?_
    refine swp_skip ?_
    with_reducible repeat first|apply nn|apply nb|apply nr|apply nc|apply ne|apply nq|apply nx rfl
    refine seq_reg rfl (fun K hK => ?_)
    refine bind_of h (fun v10 hv10 h => ?_)
    simp -implicitDefEqProofs +decide only [go_sem, Nat.reduceAdd, Int.reduceToNat, hb4, hb8]
    refine call_go [0] false (btree_ReadNode_ok (cG G) hG0 _ _ hv10) ?_
    simp -implicitDefEqProofs +decide only [go_sem, Nat.reduceAdd, Int.reduceToNat, hb4, hb8]
    refine hK _ ?_
    refine swp_seq ?_
    refine go_seq ?_
    refine bsplit h (fun hb13 h => ?_) (fun hb13 h => ?_)
    ·refine if_go ?_
     refine seq_reg rfl (fun K hK => ?_)
     refine bind_of h (fun v14 hv14 h => ?_)
     simp -implicitDefEqProofs +decide only [go_sem, Nat.reduceAdd, Int.reduceToNat, hb4, hb8, hb13]
     refine call_nil [0, 0, 1] true (btree_run_fail_ok (cG G) hG0 _ _ _ _ hv14) ?_
     simp -implicitDefEqProofs +decide only [go_sem, Nat.reduceAdd, Int.reduceToNat, hb4, hb8, hb13]
     refine hK _ ?_
     refine swp_fresh (fun g => stL [(6, (.c (.ptr ⟨1024000017, g⟩ 0 0))), (7, (.c (.p (.bool v14.1))))] [(⟨1024000017, g⟩, .box true [(.p (.int .i64 0)), (.p (.int .u64 0)), (.p (.int .u64 0)), (.p (.int .u64 0)), (.p (.int .u64 0)), (.p (.int .u64 0)), (.p (.int .u64 0)), (.p (.int .u64 0)), (.p (.int .u64 0)), (.p (.int .i64 0)), (.p (.bool false)), (.p (.bool false)), (.p (.int .u32 0)), (.p (.int .i64 0)), (.p (.int .i64 0)), (.ref ⟨1024000018, g⟩ 0 ([] : List hashindex_Entry).length)]), (⟨1024000018, g⟩, .arr true 3 (([] : List hashindex_Entry).map r_hashindex_Entry)), (⟨0, 1⟩, .box true (b_1wfs v14.2 ⟨1024000019, g⟩ ⟨1024000020, g⟩ ⟨1024000021, g⟩ ⟨1024000022, g⟩)), (⟨1024000019, g⟩, .arr true 1 (v14.2.Need.map r_i64)), (⟨1024000020, g⟩, .arr true 9 (v14.2.Writes.map r_api_Page)), (⟨1024000021, g⟩, .arr true 3 (v14.2.Out.Entries.map r_hashindex_Entry)), (⟨1024000022, g⟩, .arr true 1 (v14.2.Out.Check.map r_i64))] (g + 1)) (ren_go (fun g S => [(⟨1024000017, g⟩, (keyT 0 (St.env S 6))), (⟨1024000019, g⟩, (keyB 9 (St.heap S ⟨0, 1⟩))), (⟨1024000020, g⟩, (keyB 10 (St.heap S ⟨0, 1⟩))), (⟨1024000021, g⟩, (keyB 20 (St.heap S ⟨0, 1⟩))), (⟨1024000022, g⟩, (keyB 21 (St.heap S ⟨0, 1⟩)))]) fun g S => [(⟨1024000018, g⟩, 3)]) fun g => ?_
     refine swp_ret ?_
     with_reducible repeat first|apply nn|apply nb|apply nr|apply nc|apply ne|apply nq|apply nx rfl
     obtain rfl := some_eq h
     exact rt
    ·refine el_go ?_
     refine swp_skip ?_
     with_reducible repeat first|apply nn|apply nb|apply nr|apply nc|apply ne|apply nq|apply nx rfl
     refine go_seq ?_
     refine swp_ret ?_
     with_reducible repeat first|apply nn|apply nb|apply nr|apply nc|apply ne|apply nq|apply nx rfl
     obtain rfl := some_eq h
     exact rt
end Go.Sh
end
section
namespace Go.Sh
open Go.Proofs
noncomputable def btree_run_neighbour (a0 : btree_run) (a1 : btree_Node) : Option (btree_found × Bool × btree_run) :=
  (btree_run_look a0 a1.Right).bind fun v1 =>
  if v1.2.1 = true then
    if (v1.1.Node.Level != a1.Level) = true then
      (btree_run_fail v1.2.2 14 ([] : List Int)).bind fun v4 =>
      some ((⟨(⟨0, 0, (⟨0, 0, 0, 0, 0, 0, 0⟩ : (A7 Int))⟩ : api_Page), (⟨0, false, false, 0, (⟨0, 0⟩ : pointer_Pointer), ([] : List hashindex_Entry)⟩ : btree_Node)⟩ : btree_found), v4.1, v4.2)
    else
      some (v1.1, v1.2.1, v1.2.2)
  else
    some (v1.1, v1.2.1, v1.2.2)
theorem btree_run_neighbour_ok (G : Glob) (hG0 : G.glob 0 = some [(.int .i64 0), (.int .i64 0)]) (a0 : btree_run) (a1 : btree_Node) (res : (btree_found × Bool × btree_run)) (h : btree_run_neighbour a0 a1 = some res) : Spec Tryz.prog G 91 [.io (g_rhlf a0), .agg (g_kkcs a1)] (fun r ios => r = .tup [.agg (g_ggvz res.1), .cell (.p (.bool res.2.1))] ∧ ios = [.io (g_rhlf res.2.2)]) := by
  rw [btree_run_neighbour] at h
  refine spec_of Tryz.mixed Tryz.func91 rfl rfl (by simp only [List.length]; decide +kernel) ?_
  refine swp_fresh (fun g => stL [(0, (.c (.ptr ⟨0, 1⟩ 0 0))), (1, (.agg (b_kfil a1)))] [(⟨0, 1⟩, .box true (b_1wfs a0 ⟨1024000001, g⟩ ⟨1024000002, g⟩ ⟨1024000003, g⟩ ⟨1024000004, g⟩)), (⟨1024000001, g⟩, .arr true 1 (a0.Need.map r_i64)), (⟨1024000002, g⟩, .arr true 9 (a0.Writes.map r_api_Page)), (⟨1024000003, g⟩, .arr true 3 (a0.Out.Entries.map r_hashindex_Entry)), (⟨1024000004, g⟩, .arr true 1 (a0.Out.Check.map r_i64))] (g + 1)) (ren_go (fun g S => [(⟨1024000001, g⟩, (keyB 9 (St.heap S ⟨0, 1⟩))), (⟨1024000002, g⟩, (keyB 10 (St.heap S ⟨0, 1⟩))), (⟨1024000003, g⟩, (keyB 20 (St.heap S ⟨0, 1⟩))), (⟨1024000004, g⟩, (keyB 21 (St.heap S ⟨0, 1⟩)))]) fun g S => []) fun g => ?_
  refine go_seq ?_
  refine seq_reg rfl (fun K hK => ?_)
  refine bind_of h (fun v1 hv1 h => ?_)
  simp -implicitDefEqProofs +decide only [go_sem, Nat.reduceAdd, Int.reduceToNat]
  refine call_go [0, 0, 0] true (btree_run_look_ok (cG G) hG0 _ _ _ hv1) ?_
  simp -implicitDefEqProofs +decide only [go_sem, Nat.reduceAdd, Int.reduceToNat]
  refine hK _ ?_
  refine swp_seq ?_
  refine seq_reg rfl (fun K hK => ?_)
  refine bsplit h (fun hb2 h => ?_) (fun hb2 h => ?_)
  ·simp -implicitDefEqProofs +decide only [go_sem, Nat.reduceAdd, Int.reduceToNat, hb2]
   refine hK _ ?_
   refine bsplit h (fun hb3 h => ?_) (fun hb3 h => ?_)
   ·refine if_go ?_
    refine seq_reg rfl (fun K hK => ?_)
    refine bind_of h (fun v4 hv4 h => ?_)
    simp -implicitDefEqProofs +decide only [go_sem, Nat.reduceAdd, Int.reduceToNat, hb2, hb3]
    refine call_nil [0, 0, 1] true (btree_run_fail_ok (cG G) hG0 _ _ _ _ hv4) ?_
    simp -implicitDefEqProofs +decide only [go_sem, Nat.reduceAdd, Int.reduceToNat, hb2, hb3]
    refine hK _ ?_
    refine swp_fresh (fun g => stL [(4, (.c (.ptr ⟨1024000005, g⟩ 0 0))), (5, (.c (.p (.bool v4.1))))] [(⟨1024000005, g⟩, .box true [(.p (.int .i64 0)), (.p (.int .u64 0)), (.p (.int .u64 0)), (.p (.int .u64 0)), (.p (.int .u64 0)), (.p (.int .u64 0)), (.p (.int .u64 0)), (.p (.int .u64 0)), (.p (.int .u64 0)), (.p (.int .i64 0)), (.p (.bool false)), (.p (.bool false)), (.p (.int .u32 0)), (.p (.int .i64 0)), (.p (.int .i64 0)), (.ref ⟨1024000006, g⟩ 0 ([] : List hashindex_Entry).length)]), (⟨1024000006, g⟩, .arr true 3 (([] : List hashindex_Entry).map r_hashindex_Entry)), (⟨0, 1⟩, .box true (b_1wfs v4.2 ⟨1024000007, g⟩ ⟨1024000008, g⟩ ⟨1024000009, g⟩ ⟨1024000010, g⟩)), (⟨1024000007, g⟩, .arr true 1 (v4.2.Need.map r_i64)), (⟨1024000008, g⟩, .arr true 9 (v4.2.Writes.map r_api_Page)), (⟨1024000009, g⟩, .arr true 3 (v4.2.Out.Entries.map r_hashindex_Entry)), (⟨1024000010, g⟩, .arr true 1 (v4.2.Out.Check.map r_i64))] (g + 1)) (ren_go (fun g S => [(⟨1024000005, g⟩, (keyT 0 (St.env S 4))), (⟨1024000007, g⟩, (keyB 9 (St.heap S ⟨0, 1⟩))), (⟨1024000008, g⟩, (keyB 10 (St.heap S ⟨0, 1⟩))), (⟨1024000009, g⟩, (keyB 20 (St.heap S ⟨0, 1⟩))), (⟨1024000010, g⟩, (keyB 21 (St.heap S ⟨0, 1⟩)))]) fun g S => [(⟨1024000006, g⟩, 3)]) fun g => ?_
    refine swp_ret ?_
    with_reducible repeat first|apply nn|apply nb|apply nr|apply nc|apply ne|apply nq|apply nx rfl
    obtain rfl := some_eq h
    exact rt
   ·refine el_go ?_
    refine swp_skip ?_
    with_reducible repeat first|apply nn|apply nb|apply nr|apply nc|apply ne|apply nq|apply nx rfl
    refine go_seq ?_
    refine swp_ret ?_
    with_reducible repeat first|apply nn|apply nb|apply nr|apply nc|apply ne|apply nq|apply nx rfl
    obtain rfl := some_eq h
    exact rt
  ·simp -implicitDefEqProofs +decide only [go_sem, Nat.reduceAdd, Int.reduceToNat, hb2]
   refine hK _ ?_
   refine el_go ?_
   refine swp_skip ?_
   with_reducible repeat first|apply nn|apply nb|apply nr|apply nc|apply ne|apply nq|apply nx rfl
   refine go_seq ?_
   refine swp_ret ?_
   with_reducible repeat first|apply nn|apply nb|apply nr|apply nc|apply ne|apply nq|apply nx rfl
   obtain rfl := some_eq h
   exact rt
end Go.Sh
end
