/- Part 5 of 5 of the proof: own texts joined by a program. -/
import Derived.Test.YthambbjjolieaaaDoorRootsD
import Derived.Test.YthambbjjolieaaaDoorRows
import Derived.Test.YthambbjjolieaaaDoorCards
import Derived.Test.YthambbjjolieaaaDoorTie
import Derived.ProofKit
import Derived.LaidMore
import Derived.OpenShut
import Derived.Stop.Joined
import Derived.SevenTiedAt
set_option linter.all false
section
namespace Go.Sh
set_option linter.unusedSimpArgs false
set_option linter.unusedVariables false
set_option maxRecDepth 10000

theorem fit_good {d i l g : Int} (h : fit d i l g = true) : good l g = true := by unfold fit at h; simp only [Bool.and_eq_true] at h; exact h.1
theorem good_vp {l g : Int} (h : vp l g = true) : good l g = true := by unfold good; rw [h]; simp
theorem good_0 {l g : Int} (h : l = 0 ∧ g = 0) : good l g = true := by obtain ⟨rfl, rfl⟩ := h; rfl
theorem rv_facts {r : hashindex_Root} (h : rv r = true) : good r.First.Line r.First.Gen = true ∧ (0 ≤ r.Depth ∧ r.Depth ≤ 5) ∧ good r.Pages.a0.Line r.Pages.a0.Gen = true ∧ good r.Pages.a1.Line r.Pages.a1.Gen = true ∧
    good r.Pages.a2.Line r.Pages.a2.Gen = true ∧ good r.Pages.a3.Line r.Pages.a3.Gen = true := by
  unfold rv at h
  split at h
  · unfold zr at h
    simp only [Bool.and_eq_true, beq_iff_eq] at h
    exact ⟨good_0 (by omega), by omega, good_0 (by omega), good_0 (by omega), good_0 (by omega), good_0 (by omega)⟩
  · simp only [Bool.and_eq_true, decide_eq_true_eq] at h
    obtain ⟨h1, h2, h3, h4, h5, h6, h7⟩ := h
    exact ⟨good_vp h1, ⟨h2, h3⟩, fit_good h4, fit_good h5, fit_good h6, fit_good h7⟩
def two (a b : Int) : Int := a + b * 4294967296
def zeroPg : api_Page := ⟨0, 0, ⟨0, 0, 0, 0, 0, 0, 0⟩⟩
def pkP (p : pointer_Pointer) : Int := pk p.Line p.Gen
def wrP (p : api_Page) (r : hashindex_Root) : api_Page := ⟨p.Line, p.Head, ⟨p.Data.a0, two (pkP r.First) r.Depth, two (pkP r.Pages.a0) (pkP r.Pages.a1), two (pkP r.Pages.a2) (pkP r.Pages.a3), p.Data.a4, p.Data.a5, p.Data.a6⟩⟩
def wr (p : api_Page) (r : hashindex_Root) : api_Page × Int := if p.Line = 96 ∧ rv r = true then (wrP p r, 0) else (zeroPg, 1)
theorem two_or {a b : Int} (h : 0 ≤ a ∧ a < 4294967296) (h' : 0 ≤ b ∧ b < 4294967296) : bits .or .u64 (IntKind.u64.wrap a) (shlV .u64 (IntKind.u64.wrap b) 32) = two a b := by
  rw [u64_in' (x := a) (by omega), u64_in' (x := b) (by omega), shl_u64_32, u64_in' (by omega), or64_lo32 (by omega) (by omega) (by omega)]; rfl
theorem two_add {a b : Int} (h : 0 ≤ a ∧ a < 4294967296) (h' : 0 ≤ b ∧ b < 4294967296) : IntKind.u64.wrap (IntKind.u64.wrap a + shlV .u64 (IntKind.u64.wrap b) 32) = two a b := by
  rw [u64_in' (x := a) (by omega), u64_in' (x := b) (by omega), shl_u64_32, u64_in' (x := b * 4294967296) (by omega), u64_in' (by omega)]; rfl
theorem pkP_r (p : pointer_Pointer) : 0 ≤ pkP p ∧ pkP p < 4294967296 := pk_range _ _
theorem PackP_eq (p : pointer_Pointer) : pointer_Pack p = some (pkP p) := Pack_eq p
theorem PackC_eq (p : pointer_Pointer) : bodegaref19_Pack (cP p) = some (pkP p) := PackR_eq _

theorem WriteRoot_eq (p : api_Page) (r : hashindex_Root) : hashindex_WriteRoot p r = some (wr p r) := by
  unfold hashindex_WriteRoot wr
  by_cases hl : p.Line = 96
  · rcases Bool.eq_false_or_eq_true (rv r) with hv | hv
    · obtain ⟨_, hd, _⟩ := rv_facts hv
      simp only [hl, bne_self_eq_false, Bool.false_eq_true, if_false, Root_valid_eq, bind_s, hv, Bool.not_true, PackP_eq, and_self, if_true]
      rw [iter_eq]
      simp (disch := omega) only [hashindex_WriteRoot_L1, i64_in', Int.reduceTDiv, Int.reduceTMod, Int.reduceMul, Int.reduceAdd, A4.get, A7.set, Int.reduceEq, if_true, if_false, Int.reduceLT, Int.reduceLE, and_self, decide_true, PackP_eq, bind_s]
      rw [iter_eq]
      simp (disch := omega) only [hashindex_WriteRoot_L1, i64_in', Int.reduceTDiv, Int.reduceTMod, Int.reduceMul, Int.reduceAdd, A4.get, A7.set, Int.reduceEq, if_true, if_false, Int.reduceLT, Int.reduceLE, and_self, decide_true, PackP_eq, bind_s]
      rw [iter_eq]
      simp (disch := omega) only [hashindex_WriteRoot_L1, Int.reduceLT, decide_false, Bool.false_eq_true, if_false, Option.map_some, bind_s]
      rw [two_or (pkP_r _) (pkP_r _), two_or (pkP_r _) (pkP_r _), two_or (pkP_r _) (by omega)]
      rfl
    · simp [hl, hv, Root_valid_eq, zeroPg]
  · have : (p.Line != 96) = true := by simp [hl]
    simp only [this, if_true, hl, false_and, if_false]
    rfl
theorem WriteRootR_eq (p : api_Page) (r : hashindex_Root) : bodegaref23_WriteRoot p (cR r) = some (wr p r) := by
  unfold bodegaref23_WriteRoot wr
  by_cases hl : p.Line = 96
  · rcases Bool.eq_false_or_eq_true (rv r) with hv | hv
    · obtain ⟨_, hd, _⟩ := rv_facts hv
      simp only [hl, bne_self_eq_false, Bool.false_eq_true, if_false, ValidRoot_eq, bind_s, hv, Bool.not_true, and_self, if_true]
      rw [show (cR r).First = cP r.First from rfl, PackC_eq, bind_s, iter_eq]
      simp (disch := omega) only [bodegaref23_WriteRoot_L1, i64_in', Int.reduceTDiv, Int.reduceTMod, Int.reduceMul, Int.reduceAdd, A4.get, A7.set, Int.reduceEq, if_true, if_false, Int.reduceLT, Int.reduceLE, and_self, decide_true, PackC_eq, cR, bind_s]
      rw [iter_eq]
      simp (disch := omega) only [bodegaref23_WriteRoot_L1, i64_in', Int.reduceTDiv, Int.reduceTMod, Int.reduceMul, Int.reduceAdd, A4.get, A7.set, Int.reduceEq, if_true, if_false, Int.reduceLT, Int.reduceLE, and_self, decide_true, PackC_eq, cR, bind_s]
      rw [iter_eq]
      simp (disch := omega) only [bodegaref23_WriteRoot_L1, Int.reduceLT, decide_false, Bool.false_eq_true, if_false, Option.map_some, bind_s]
      rw [two_add (pkP_r _) (pkP_r _), two_add (pkP_r _) (pkP_r _), two_add (pkP_r _) (by omega)]
      rfl
    · simp [hl, hv, ValidRoot_eq, zeroPg]
  · have : (p.Line != 96) = true := by simp [hl]
    simp only [this, if_true, hl, false_and, if_false]
    rfl
theorem two_lo {a b : Int} (h : 0 ≤ a ∧ a < 4294967296) : lo (two a b) = a := by unfold lo two; omega
theorem two_hi {a b : Int} (h : 0 ≤ a ∧ a < 4294967296) : hi (two a b) = b := by unfold hi two; omega
theorem two_k {a b : Int} (h : 0 ≤ a ∧ a < 4294967296) (h' : 0 ≤ b ∧ b < 4294967296) : k_u64 (two a b) := by unfold k_u64 two; omega
theorem dp_pk {p : pointer_Pointer} (h : good p.Line p.Gen = true) : dp (pkP p) = p ∧ okw (pkP p) = true := by
  obtain ⟨h1, h2, h3⟩ := pk_dec h
  refine ⟨?_, h3⟩
  unfold dp pkP
  rw [h1, h2]
theorem rd_wr {p : api_Page} {r : hashindex_Root} (hl : p.Line = 96) (hv : rv r = true) : rd (wrP p r) = (r, 0) := by
  obtain ⟨g, hd, g0, g1, g2, g3⟩ := rv_facts hv
  have h1 : rdR (wrP p r) = r := by
    unfold rdR wrP
    simp only [two_lo (pkP_r _), two_hi (pkP_r _), (dp_pk g).1, (dp_pk g0).1, (dp_pk g1).1, (dp_pk g2).1, (dp_pk g3).1]
  have h2 : rdB (wrP p r) = true := by
    unfold rdB wrP
    simp only [two_lo (pkP_r _), two_hi (pkP_r _), (dp_pk g).2, (dp_pk g0).2, (dp_pk g1).2, (dp_pk g2).2, (dp_pk g3).2, Bool.and_self]
  unfold rd
  rw [h1, h2, hv, show (wrP p r).Line = p.Line from rfl, hl]
  simp
theorem wr_k {p : api_Page} {r : hashindex_Root} (hp : k_A7 k_u64 p.Data) (hv : rv r = true) : k_A7 k_u64 (wrP p r).Data := by
  obtain ⟨_, hd, _⟩ := rv_facts hv
  exact ⟨hp.1, two_k (pkP_r _) (by omega), two_k (pkP_r _) (pkP_r _), two_k (pkP_r _) (pkP_r _), hp.2.2.2.2⟩

theorem xor_k (a b : Int) : k_u64 (bits .xor .u64 a b) := by
  unfold bits
  have : ∀ x : Int, k_u64 (IntKind.u64.wrap x) := fun x => by have := wf_wrap .u64 x; simp [Lit.wf, IntKind.min, IntKind.max, IntKind.signed, IntKind.bits] at this; unfold k_u64; omega
  split <;> exact this _

theorem set7_k {a : A7 Int} {i v : Int} (h : k_A7 k_u64 a) (hv : k_u64 v) : k_A7 k_u64 (A7.set a i v) := by
  obtain ⟨h0, h1, h2, h3, h4, h5, h6⟩ := h
  unfold A7.set
  repeat' split
  all_goals exact ⟨by assumption, by assumption, by assumption, by assumption, by assumption, by assumption, by assumption⟩

theorem J1_true (p : api_Page) (hp : k_api_Page p) (n : Int) (l : Int) (r : hashindex_Root) : bodegalaw23_HashRoots_J1 p n (l, r) = some true := by
  obtain ⟨_, _, hD⟩ := hp
  unfold bodegalaw23_HashRoots_J1
  simp only [ReadRoot_eq _ (show k_A7 k_u64 (⟨l, p.Head, p.Data⟩ : api_Page).Data from hD), ReadRootR_eq _ (show k_A7 k_u64 (⟨l, p.Head, p.Data⟩ : api_Page).Data from hD), WriteRoot_eq, WriteRootR_eq, root_eq, awake_eq, bind_s, bodegalaw23_same]
  generalize hq : (⟨l, p.Head, p.Data⟩ : api_Page) = q
  have hqD : q.Data = p.Data := by rw [← hq]
  have hqk : k_A7 k_u64 q.Data := by rw [hqD]; exact hD
  by_cases hw : q.Line = 96 ∧ rv r = true
  · have e : wr q r = (wrP q r, 0) := by unfold wr; rw [if_pos hw]
    have hk := wr_k hqk hw.2
    obtain ⟨v, ev, hv0, hv1⟩ := Pick_eq (a := IntKind.i64.wrap (Int.tdiv n 8)) (n := 3) (by omega)
    obtain ⟨u, eu, hu0, hu1⟩ := Pick_eq (a := IntKind.i64.wrap (Int.tdiv n 24)) (n := 64) (by omega)
    rw [e]
    simp only [beq_self_eq_true, Bool.true_and, Bool.and_self, Bool.not_true, Bool.false_eq_true, if_false, bne_self_eq_false, ReadRoot_eq _ hk, rd_wr hw.1 hw.2, bind_s, ev, eu]
    rw [show (wrP q r).Data.a0 = q.Data.a0 from rfl, show (wrP q r).Data.a4 = q.Data.a4 from rfl, show (wrP q r).Data.a5 = q.Data.a5 from rfl, show (wrP q r).Data.a6 = q.Data.a6 from rfl, hqD]
    have hi : 0 ≤ IntKind.i64.wrap (1 + v) ∧ IntKind.i64.wrap (1 + v) < 7 := by rw [i64_in' (by omega)]; omega
    simp only [hi, and_self, if_true, bne_self_eq_false, Bool.false_eq_true, if_false]
    generalize hg : (⟨(wrP q r).Line, (wrP q r).Head, A7.set (wrP q r).Data (IntKind.i64.wrap (1 + v)) (bits .xor .u64 (A7.get (wrP q r).Data (IntKind.i64.wrap (1 + v))) (shlV .u64 1 (IntKind.u64.wrap u)))⟩ : api_Page) = z
    have hz : k_A7 k_u64 z.Data := by rw [← hg]; exact set7_k hk (xor_k _ _)
    simp only [ReadRoot_eq _ hz, ReadRootR_eq _ hz, root_eq, bind_s, beq_self_eq_true, Bool.and_self]
  · have e : wr q r = (zeroPg, 1) := by unfold wr; rw [if_neg hw]
    rw [e]
    simp

theorem HashRoots_law (p : api_Page) (r : hashindex_Root) (n : Int) (k0 : k_api_Page p) (k1 : k_hashindex_Root r) (k2 : k_i64 n) : bodegalaw23_HashRoots p r n = some true := by
  unfold bodegalaw23_HashRoots
  obtain ⟨v, ev, _⟩ := Pick_eq (a := n) (n := 8) (by omega)
  obtain ⟨d, ed, _⟩ := Pick_eq (a := r.Depth) (n := 9) (by omega)
  obtain ⟨f, ef⟩ := aim_eq r.First
  rw [ev, bind_s, ed, bind_s, ef, bind_s, J1_true p k0]
  split
  · have hJ2 : ∀ x, bodegalaw23_HashRoots_J2 n p f d x = some true := fun x => by
      unfold bodegalaw23_HashRoots_J2
      rw [J1_true p k0, J1_true p k0]; simp
    have hs : ∀ (x : A4 pointer_Pointer) (i : Int), 0 ≤ i ∧ i < 4 → ∃ y, iter (bodegalaw23_HashRoots_L1 n p f d) (x, i) = iter (bodegalaw23_HashRoots_L1 n p f d) (y, i + 1) := fun x i h => by
      rw [iter_eq]
      obtain ⟨q, eq⟩ := aim_eq (A4.get x i)
      have h4 : i < 4 := h.2
      simp only [bodegalaw23_HashRoots_L1, h4, h, and_self, decide_true, if_true, eq, bind_s, i64_in' (show -9223372036854775808 ≤ i + 1 ∧ i + 1 < 9223372036854775808 by omega)]
      exact ⟨_, rfl⟩
    obtain ⟨x1, e1⟩ := hs r.Pages 0 (by omega)
    obtain ⟨x2, e2⟩ := hs x1 (0+1) (by omega)
    obtain ⟨x3, e3⟩ := hs x2 (0+1+1) (by omega)
    obtain ⟨x4, e4⟩ := hs x3 (0+1+1+1) (by omega)
    rw [e1, e2, e3, e4, iter_eq]
    simp [bodegalaw23_HashRoots_L1, hJ2]
  · rfl
end Go.Sh
end
section
namespace Go.Sh
open Go.Proofs Go.ChangeShapes
set_option maxRecDepth 100000
theorem List.head_eq_of_cons_eq {α : Type} {a b : α} {l m : List α} (h : a :: l = b :: m) : a = b := by cases h; rfl
theorem own : ownKnob Tryd.prog.godebug = none := by kernel_rfl
theorem laidOut : laidOutB Tryd.prog = true := by kernel_rfl
theorem gNone : Tryd.prog.globalNamed "bodega/hashindex.none" = some 0 := by kernel_rfl
theorem tNone : (Tryd.prog.globals[0]?).map (·.type) = some 27 := by kernel_rfl
abbrev laidL : List (String × DataW Unit) := [("bodega/hashindex.none", YthambbjjolieaaaDoor.Rows.laid_bodega_hashindex_none)]
theorem door_met (os : Os) (args : Array Value) : laidMetH Tryd.prog laidL ((World.doorLaid Tryd.prog 400 os).forCall (fun _ _ => 0) ⟨#[], args, []⟩).memory :=
  laidMetH_of_parts3 (fuel := 8) (laidMet_of_run' 8 (by kernel_rfl) (by kernel_rfl)) (by kernel_rfl) (by kernel_rfl)
def laidG : Glob := ⟨fun g => if g = 0 then some [.int .i64 0, .int .i64 0] else none, fun _ => none⟩
theorem of_laid {W : World} (h : laidMetH Tryd.prog laidL W) : GlobRep (· < W.heap.size) W laidG := by
  rw [MakeChecks.laidMetH_plain _ _ _ (by kernel_rfl)] at h
  obtain ⟨ps, ⟨g0, t0, cs0, f0, p0, q0, hg0, ht0, hv0, hd0, _, _⟩, _, _⟩ := h
  obtain rfl := Option.some.inj (gNone.symm.trans hg0)
  obtain rfl := Option.some.inj (tNone.symm.trans ht0)
  obtain ⟨xs, n, _, hx, hl, hn, hf⟩ := DataW.trod_struct Tryd.underlying27 hd0
  have hlen : cs0.size = 2 := by simpa using hl.trans (show Tryd.prog.cellsOf 27 = 2 by kernel_rfl)
  match xs, hn, hx, hf with
  | [y0, y1], _, hx, hf =>
    have h0 := hf 0 _ rfl
    have h1 := hf 1 _ rfl
    obtain ⟨n0, e0, z0, _⟩ := DataW.trod_int Tryd.underlying3 (show DataW.trod _ Tryd.prog W 0 _ _ n 3 _ = some y0 from h0)
    obtain ⟨n1, e1, z1, _⟩ := DataW.trod_int Tryd.underlying3 (show DataW.trod _ Tryd.prog W 0 _ _ n 3 _ = some y1 from h1)
    subst z0; subst z1
    have hx' : ((.agg [.lit (.int .i64 0), .lit (.int .i64 0)] : DataW _), p0) = (.agg [.lit (.int .i64 n0), .lit (.int .i64 n1)], []) := hx
    simp at hx'
    obtain ⟨⟨rfl, rfl⟩, _⟩ := hx'
    have hc := World.var?_cell hg0 hv0
    obtain ⟨l⟩ := cs0
    match l, hlen with
    | [a, b], _ =>
      have ea : [a] = [Value.int .i64 0] := e0
      have eb : [b] = [Value.int .i64 0] := e1
      cases ea; cases eb
      intro g cells hg
      simp only [laidG] at hg
      split at hg
      · rename_i hgz
        subst hgz
        cases hg
        have hc0 : W.cell? ⟨0, 0, none⟩ = some (.int .i64 0) := by have := hc 0; simpa using this
        refine ⟨cell_lt hc0, fun _ => .int .i64 0, fun j hj => ?_, fun j c hjc => ?_⟩
        · match j, hj with
          | 0, _ => exact hc0
          | 1, _ => have := hc 1; simpa using this
        · match j, hjc with
          | 0, hjc => cases hjc; exact .int _ _
          | 1, hjc => cases hjc; exact .int _ _
      · cases hg
end Go.Sh
end
section
namespace Go.Proofs.YthambbjjolieaaaDoor
open Go.Sh Go.ChangeShapes Go.RowKit
set_option maxRecDepth 100000
set_option linter.unusedSimpArgs false
set_option linter.unusedVariables false
set_option maxHeartbeats 4000000 in
theorem hashRoots_lifted (os : Os) (started : os.Started) (H : Type) (enc : TypeId × Value → H) :
    ReturnsInHanded {} Tryd.checked os 3 .any (fun w args => (Rows.hashRootsSpec.pre enc Tryd.prog Tryd.f3 [] false w args ∧ laidMetH Tryd.prog Rows.hashRootsRow.laid w) ∧ sizedMet enc Tryd.prog Tryd.f3 (OpenSpec.ofChange Rows.hashRootsSpec) false w args)
      (Rows.hashRootsSpec.post enc Tryd.prog Tryd.f3 false true false false) := by
  refine returnsInHanded_of_change_and (C := Tryd.checked) (X := fun w _ => laidMetH Tryd.prog Rows.hashRootsRow.laid w) (fun _ _ _ hh h => h.of_heap hh) Sh.own started (by kernel_rfl) Tryd.func3
    (ChangeSpec.witness_shaped (enc := enc) (C := Tryd.checked) (os := os) (X := fun w _ => laidMetH Tryd.prog Rows.hashRootsRow.laid w) false (World.doorLaid Tryd.prog 400 os) #[(.agg #[.int .i64 0, .int .u64 0, .int .u64 0, .int .u64 0, .int .u64 0, .int .u64 0, .int .u64 0, .int .u64 0, .int .u64 0]), (.agg #[.int .i64 0, .int .i64 0, .int .i64 0, .int .i64 0, .int .i64 0, .int .i64 0, .int .i64 0, .int .i64 0, .int .i64 0, .int .i64 0, .int .i64 0]), (.int .i64 0)] 8 rfl (World.shaped_of_RefB (by kernel_rfl) (by kernel_rfl)) (by kernel_rfl) (by kernel_rfl) (by kernel_rfl) (Sh.door_met os _)) ?_
  intro W base args ds gs before hval0 hW _ _ hL _
  have hval : ∀ (j : Nat) t v, Tryd.f3.params[j]? = some t → args[j]? = some v → Value.okWide Tryd.prog W .any base t v := hval0
  have hW' := hW
  obtain ⟨p, q, hA0, hV, rfl, hfz, hnd⟩ := hW
  have hA : DataW.TrodAll enc Tryd.prog W 0 (fun _ => true) true Tryd.f3.params.toList args.toList ds p := hA0
  rw [Tryd.params3] at hA hval
  obtain ⟨v0, vs0, d0, ds0, p0, q0, hargs, rfl, rfl, h0, r0⟩ := trodAll_cons hA
  obtain ⟨v1, vs1, d1, ds1, p1, q1, rfl, rfl, rfl, h1, r1⟩ := trodAll_cons r0
  obtain ⟨v2, vs2, d2, ds2, p2, q2, rfl, rfl, rfl, h2, r2⟩ := trodAll_cons r1
  obtain ⟨rfl, rfl, rfl⟩ := trodAll_nil r2
  obtain rfl : args = #[v0, v1, v2] := by cases args; simp_all
  obtain ⟨c0, b0, f0⟩ := open_agg (D := 8) (t := 25) (by kernel_rfl) (.inl ⟨_, Tryd.underlying25⟩) (hval 0 25 v0 rfl rfl) h0
  obtain ⟨x0, e0, k0⟩ := conf_t25 f0
  subst e0
  obtain ⟨c1, b1, f1⟩ := open_agg (D := 8) (t := 30) (by kernel_rfl) (.inl ⟨_, Tryd.underlying30⟩) (hval 1 30 v1 rfl rfl) h1
  obtain ⟨x1, e1, k1⟩ := conf_t30 f1
  subst e1
  obtain ⟨c2, b2, f2⟩ := open_cell (D := 8) (t := 3) (by kernel_rfl) (.inr (.inl ⟨_, Tryd.underlying3⟩)) (hval 2 3 v2 rfl rfl) h2
  obtain ⟨x2, e2, k2⟩ := conf_t3 f2
  obtain rfl := List.head_eq_of_cons_eq e2
  have hB : BsRep (· < W.heap.size) W #[v0, v1, v2].toList [BV.agg ((r_api_Page x0).map .p), BV.agg ((r_hashindex_Root x1).map .p), BV.cell (.p (.int .i64 x2))] [] := .cons (L := []) (M := []) b0 (.cons (L := []) (M := []) b1 (.cons (L := []) (M := []) b2 (.nil)))
  refine (ends (Sh.bodegalaw23_HashRoots_ok Sh.laidG rfl x0 x1 x2 true (HashRoots_law x0 x1 x2 k0 k1 k2)) hB (Sh.of_laid hL)).mono fun e W' ⟨he, hb⟩ => ?_
  subst he
  exact ⟨_, rfl, end_post (tb := 4) Sh.laidOut (by intro t ht; have ht' : t ∈ [25, 30, 3] := by { rw [Tryd.params3] at ht; exact ht }; simp only [List.mem_cons, List.not_mem_nil, or_false] at ht'; rcases ht' with rfl | rfl | rfl <;> exact ⟨by kernel_rfl, of_decide_eq_true (by kernel_rfl)⟩) rfl Tryd.underlying4 rfl hW' rfl hb⟩
theorem hashRoots_holds : Rows.HashRootsSaid :=
  OpenClaim.holds_of_wide 3 Tryd.f3 rfl rfl rfl rfl rfl rfl rfl ⟨rfl, rfl, rfl, rfl, rfl⟩ rfl rfl rfl rfl rfl (by kernel_rfl) Tryd.func3 (by kernel_rfl)
    (of_decide_eq_true (by kernel_rfl)) (by unfold Func.isWrapper; first | (rw [if_pos (by decide +kernel)]; kernel_rfl) | (rw [if_neg (by decide +kernel)]; exact ⟨rfl, rfl⟩))
    (fun os started H enc _ => hashRoots_lifted os started H enc)
theorem hashRoots_card : Rows.HashRootsCardSaid :=
  Claim7.holds_tied_plain_at .later [] [.data] true (true, "c8ee203320d6b1350c36f47ea5b325345d11c9dad6bc4fdf3a24ffda5f8e3d63") false
    hashRoots_holds (fun _ h => by cases h) (by kernel_rfl) (fun _ h => by cases h) hashRoots_row_tie rfl ⟨rfl, rfl⟩ (by kernel_rfl) rfl
    (fun f fn hf hfn => by
      obtain rfl : f = 3 := Option.some.inj ((show Tryd.prog.funcNamed "bodega/bodegalaw23.HashRoots" = some 3 by kernel_rfl).symm.trans hf) |>.symm
      obtain rfl : fn = Tryd.f3 := (Option.some.inj (Tryd.func3.symm.trans hfn)).symm
      exact ⟨by kernel_rfl, fun j t ht => by
        rw [Tryd.params3] at ht
        have h3 : t = 25 ∨ t = 30 ∨ t = 3 := by
          match j, ht with
          | 0, ht => obtain rfl : 25 = t := Option.some.inj ht; simp
          | 1, ht => obtain rfl : 30 = t := Option.some.inj ht; simp
          | 2, ht => obtain rfl : 3 = t := Option.some.inj ht; simp
          | j + 3, ht => simp at ht
        rcases h3 with rfl | rfl | rfl
        · exact (show Tryd.prog.wantsStandIn 25 = false by kernel_rfl)
        · exact (show Tryd.prog.wantsStandIn 30 = false by kernel_rfl)
        · exact (show Tryd.prog.wantsStandIn 3 = false by kernel_rfl)⟩)
    (by kernel_rfl)
#print axioms hashRoots_card
end Go.Proofs.YthambbjjolieaaaDoor
end
