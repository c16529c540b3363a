/- Part 2 of 6 of the proof: bodegalaw24.TreeNodes returns true for every input, with the package variable bodega/btree.none as the program lays it. -/
import Derived.Test.YtbpohbfamefecaaGreatDoorNodesA
import Derived.Lib.Overlaps
import Derived.Laws.BitsLemmas
import Derived.Laws.BitsAllLaws
import Derived.IntWalk
set_option linter.all false
set_option maxRecDepth 100000
set_option maxHeartbeats 4000000
section
namespace Go.Sh

section
variable {P : Program} {G : Glob} {V0 : Nat → Prop} {L0 : List Nat} {w0 : World} {U V : Nat → Prop} {m : KM} {h : Key → Option Blk} {w : World}

/-- The blocks behind keys. -/
def rbs (m : KM) (ks : List Key) : List Nat := ks.filterMap fun k => (m k).bind (·.rb)

/-- What stays while a call runs: what stays anyway, and what was lent. -/
def lentV (V : Nat → Prop) (m : KM) (lent : List Key) : Nat → Prop := fun b => V b ∨ b ∈ rbs m lent

theorem lentV_left (V : Nat → Prop) (m : KM) (l : List Key) : ∀ b, V b → lentV V m l b := fun _ h => .inl h

theorem lentV_sub {V : Nat → Prop} {m : KM} {l l' : List Key} (hs : ∀ k ∈ l, k ∈ l') : ∀ b, lentV V m l b → lentV V m l' b := by
  intro b hb
  rcases hb with hb | hb
  · exact .inl hb
  · refine .inr ?_
    simp only [rbs, List.mem_filterMap] at hb ⊢
    obtain ⟨k, hk, e⟩ := hb
    exact ⟨k, hs k hk, e⟩

theorem kept_refl (V : Nat → Prop) (w : World) : Kept V w w := ⟨fun _ _ => rfl⟩

/-- Rows in a block read as rows that stay, once the block counts as staying. -/
theorem rows_lend {V V' : Nat → Prop} {arr : Array Value} {elem : TypeId} {b o W cap : Nat} {l : List (List PV)} (hV : ∀ b, V b → V' b) (hb : V' b) (hh : w.heap[b]? = some (.cells arr elem (0, 0)))
    (hr : RowsRep V w arr o W l) (hc : l.length ≤ cap) : PRep V' w (.slice (some ⟨b, o, none⟩) l.length cap) (.rows l) := by
  refine .rows b o l cap W (fun i j => (arr[o + i * W + j]?).getD undef) hb hc (fun i row hi => (hr i row hi).1) (fun i j hi hj => ?_) fun i j row c hi hj => ?_
  · obtain ⟨row, hrow⟩ : ∃ row, l[i]? = some row := ⟨_, List.getElem?_eq_getElem hi⟩
    obtain ⟨h1, h2⟩ := hr i row hrow
    obtain ⟨c, hc⟩ : ∃ c, row[j]? = some c := ⟨_, List.getElem?_eq_getElem (by omega)⟩
    obtain ⟨v, a1, _⟩ := h2 j c hc
    rw [cell_of hh, a1]; rfl
  · obtain ⟨v, a1, a2⟩ := (hr i row hi).2 j c hj
    rw [a1]
    exact a2.mono hV (kept_refl _ _)

theorem RowsRep.sub {arr : Array Value} {o W r n : Nat} {l : List (List PV)} (hr : RowsRep V w arr o W l) : RowsRep V w arr (o + r * W) W ((l.drop r).take n) := by
  intro i row hi
  rw [List.getElem?_take] at hi
  by_cases h1 : i < n
  · rw [if_pos h1, List.getElem?_drop] at hi
    have := hr _ _ hi
    rwa [show o + (r + i) * W = o + r * W + i * W by rw [Nat.add_mul]; omega] at this
  · rw [if_neg h1] at hi; cases hi

/-- Lending a slice. -/
theorem rowsOf_lend (M : MRel G V0 L0 w0 U V m h w) {v : Value} {tx : TV} {rs : List (List PV)} {ks lent : List Key} (hx : TRep m V w v tx) (hr : rowsOf h tx = some (rs, ks)) (hks : ∀ k ∈ ks, k ∈ lent) :
    PRep (lentV V m lent) w v (.rows rs) := by
  unfold rowsOf at hr
  split at hr
  · cases hr
    cases hx with | c hx => cases hx with | p hx => exact hx.mono (lentV_left V m lent) (kept_refl _ _)
  · cases hr
    cases hx with | c hx => cases hx with | nilS => exact .nil _ _
  · rename_i k r n
    split at hr
    · rename_i mu W' l hh
      split at hr
      · rename_i hle
        cases hr
        cases hx with | c hx => cases hx with
        | @ref _ ki a _ _ hm hrc hae =>
          obtain ⟨ki', hm', hrep⟩ := M.heap _ _ hh
          rw [hm] at hm'; cases hm'
          have hlen : ((l.drop r).take n).length = n := by rw [List.length_take, List.length_drop]; omega
          by_cases hn0 : n = 0
          · subst hn0
            simp only [List.take_zero]
            exact .nil _ _
          · cases hrep with
            | nil => simp at hle; omega
            | @arr _ _ _ b arr elem hw' hb hh' hs hcap hrr =>
              have haddr := hae (by omega)
              rw [hb, hw'] at haddr
              simp only [Option.map_some] at haddr
              rw [haddr]
              have := rows_lend (V' := lentV V m lent) (b := b) (cap := ki.cap - r) (lentV_left V m lent) (.inr (by
                simp only [rbs, List.mem_filterMap]; exact ⟨k, hks k (by simp), by rw [hm]; exact hb⟩)) hh' (hrr.sub (r := r) (n := n)) (by rw [hlen]; omega)
              rwa [hlen] at this
      · cases hr
    · cases hr
  · rename_i k c n W'
    split at hr
    · rename_i mu l hh
      split at hr
      · rename_i hle
        simp only [Option.map_eq_some_iff] at hr
        obtain ⟨ps, hps, hr⟩ := hr
        cases hr
        have hpl := pureL_length _ _ hps
        rw [List.length_take, List.length_drop, Nat.min_eq_left (by omega)] at hpl
        obtain ⟨f1, f2, f3⟩ := chunk_flat W' n ps hpl
        cases hx with | c hx => cases hx with
        | @cref _ ki b a _ _ _ cap hm hb hn hae =>
          obtain ⟨ki', hm', hrep⟩ := M.heap _ _ hh
          rw [hm] at hm'; cases hm'
          by_cases hn0 : n = 0
          · subst hn0
            simp only [chunk]
            exact .nil _ _
          · cases hrep with
            | @box _ _ b' arr elem h0 hb' hh' hl =>
              rw [hb] at hb'; cases hb'
              have hp := ((hl.drop c).take (n * W')).pure hps
              have haddr := hae (by omega)
              rw [h0, Nat.zero_add] at haddr
              rw [haddr]
              have hc : CellsRep V w arr c ps := hp.cells fun j x hj => by
                rw [List.getElem?_take] at hj
                by_cases h1 : j < n * W'
                · rw [if_pos h1, List.getElem?_drop] at hj; simpa using hj
                · rw [if_neg h1] at hj; cases hj
              rw [← f1] at hc
              have := rows_lend (V' := lentV V m lent) (b := b) (cap := cap) (lentV_left V m lent) (.inr (by
                simp only [rbs, List.mem_filterMap]; exact ⟨k, hks k (by simp), by rw [hm]; exact hb⟩)) hh' (RowsRep.of_flat hc f2) (by rw [f3]; exact hn)
              rwa [f3] at this
      · cases hr
    · cases hr
  · cases hr

theorem capsOf_lend (M : MRel G V0 L0 w0 U V m h w) : ∀ {ks : List Key} {caps : List (List PV)}, capsOf h ks = some caps → caps.length = ks.length ∧
    ∀ (i : Nat) k cells, ks[i]? = some k → caps[i]? = some cells → ∃ x b arr elem, m k = some x ∧ x.rb = some b ∧ x.base = 0 ∧ w.heap[b]? = some (.cells arr elem (0, 0)) ∧ PsRep V w arr.toList cells
  | [], caps, hc => by simp [capsOf] at hc; subst hc; simp
  | k :: ks, caps, hc => by
    unfold capsOf at hc
    split at hc
    · rename_i mu l hh
      simp only [Option.bind_eq_some_iff, Option.map_eq_some_iff] at hc
      obtain ⟨ps, hps, cs, hcs, rfl⟩ := hc
      obtain ⟨ih1, ih2⟩ := capsOf_lend M hcs
      refine ⟨by simp [ih1], fun i k' cells h1 h2 => ?_⟩
      cases i with
      | zero =>
        simp at h1 h2; subst h1; subst h2
        obtain ⟨x, hx, hrep⟩ := M.heap _ _ hh
        cases hrep with
        | box h0 hb hheap hl => exact ⟨x, _, _, _, hx, hb, h0, hheap, hl.pure hps⟩
      | succ i => exact ih2 i k' cells (by simpa using h1) (by simpa using h2)
    · cases hc

/-- A cell that is lent. -/
theorem giveC_sound (M : MRel G V0 L0 w0 U V m h w) {v : Value} {a : AV} {b : BC} {t : Took} {lent : List Key} (hv : ARep m V w v a) (hg : giveC h a = some (b, t)) (hl : ∀ k ∈ t.lent, k ∈ lent) :
    BCRep (lentV V m lent) w v b [] ∧ t.own = [] ∧ t.boxes = [] := by
  cases a with
  | p x =>
    simp [giveC, noneTook] at hg
    obtain ⟨rfl, rfl⟩ := hg
    cases hv with | p hv => exact ⟨.p (hv.mono (lentV_left V m lent) (kept_refl _ _)), rfl, rfl⟩
  | nilS =>
    simp [giveC, noneTook] at hg
    obtain ⟨rfl, rfl⟩ := hg
    cases hv; exact ⟨.p (.nil _ _), rfl, rfl⟩
  | ref k r n =>
    simp only [giveC, Option.map_eq_some_iff, Prod.mk.injEq] at hg
    obtain ⟨⟨rs, ks⟩, hr, rfl, rfl⟩ := hg
    exact ⟨.p (rowsOf_lend M (.c hv) hr hl), rfl, rfl⟩
  | cref k c n e =>
    simp only [giveC, Option.map_eq_some_iff, Prod.mk.injEq] at hg
    obtain ⟨⟨rs, ks⟩, hr, rfl, rfl⟩ := hg
    exact ⟨.p (rowsOf_lend M (.c hv) hr hl), rfl, rfl⟩
  | ptr k r c => simp [giveC] at hg
  | pb cells c => simp [giveC] at hg
  | fn f ks =>
    simp only [giveC, Option.map_eq_some_iff, Prod.mk.injEq] at hg
    obtain ⟨caps, hc, rfl, rfl⟩ := hg
    obtain ⟨c1, c2⟩ := capsOf_lend M hc
    refine ⟨.p ?_, rfl, rfl⟩
    cases hv with
    | @fn _ _ cs hs hcs =>
      have key : ∀ i, i < caps.length → ∃ b arr elem, (∀ cells, caps[i]? = some cells → PsRep V w arr.toList cells) ∧ w.heap[b]? = some (.cells arr elem (0, 0)) ∧ cs[i]? = some (.pointer (some ⟨b, 0, none⟩)) ∧ lentV V m lent b := by
        intro i hi
        obtain ⟨k, hk⟩ : ∃ k, ks[i]? = some k := ⟨_, List.getElem?_eq_getElem (by omega)⟩
        obtain ⟨cells, hcell⟩ : ∃ c, caps[i]? = some c := ⟨_, List.getElem?_eq_getElem hi⟩
        obtain ⟨x, b, arr, elem, h1, h2, h3, h4, h5⟩ := c2 i k cells hk hcell
        obtain ⟨x', b', g1, g2, g3⟩ := hcs i k hk
        rw [h1] at g1; cases g1
        rw [h2] at g2; cases g2
        refine ⟨b, arr, elem, fun c' hc' => by rw [hcell] at hc'; cases hc'; exact h5, h4, by rw [g3, h3]; simp, .inr ?_⟩
        simp only [rbs, List.mem_filterMap]
        exact ⟨k, hl k (List.mem_of_getElem? hk), by rw [h1]; exact h2⟩
      have ch : ∃ (bf : Nat → Nat) (af : Nat → Array Value) (ef : Nat → TypeId), ∀ i, i < caps.length → (∀ cells, caps[i]? = some cells → PsRep V w (af i).toList cells) ∧
          w.heap[bf i]? = some (.cells (af i) (ef i) (0, 0)) ∧ cs[i]? = some (.pointer (some ⟨bf i, 0, none⟩)) ∧ lentV V m lent (bf i) := by
        refine ⟨fun i => if hi : i < caps.length then Classical.choose (key i hi) else 0, fun i => if hi : i < caps.length then Classical.choose (Classical.choose_spec (key i hi)) else #[],
          fun i => if hi : i < caps.length then Classical.choose (Classical.choose_spec (Classical.choose_spec (key i hi))) else 0, fun i hi => ?_⟩
        simp only [hi, dif_pos]
        exact Classical.choose_spec (Classical.choose_spec (Classical.choose_spec (key i hi)))
      obtain ⟨bf, af, ef, hch⟩ := ch
      have hlt : ∀ {i : Nat} {cells : List PV}, caps[i]? = some cells → i < caps.length := fun hi => (List.getElem?_eq_some_iff.1 hi).1
      refine .clo f caps bf (fun _ => 0) (fun i j => ((af i)[j]?).getD undef) cs (by omega) (fun i hi => (hch i hi).2.2.1) (fun i hi => (hch i hi).2.2.2) (fun i j cells hi hj => ?_) fun i j cells c hi hj => ?_
      · obtain ⟨a1, a2, _, _⟩ := hch i (hlt hi)
        obtain ⟨c, hc⟩ : ∃ c, cells[j]? = some c := ⟨_, List.getElem?_eq_getElem hj⟩
        obtain ⟨v, b1, _⟩ := (a1 cells hi).get j c hc
        have b1' : (af i)[j]? = some v := by simpa using b1
        rw [Nat.zero_add, cell_of a2, b1']; rfl
      · obtain ⟨a1, _⟩ := hch i (hlt hi)
        obtain ⟨v, b1, b2⟩ := (a1 cells hi).get j c hj
        have b1' : (af i)[j]? = some v := by simpa using b1
        rw [b1']
        exact b2.mono (lentV_left V m lent) (kept_refl _ _)

end
end Go.Sh
end
section
namespace Go.Sh

section
variable {P : Program} {G : Glob} {V0 : Nat → Prop} {L0 : List Nat} {w0 : World} {U V : Nat → Prop} {m : KM} {h : Key → Option Blk} {w : World}

/-- Keys of blocks that may be written. -/
def Mine (h : Key → Option Blk) (ks : List Key) : Prop := ∀ k ∈ ks, ∃ b, h k = some b ∧ b.mu = true

theorem mine_nil : Mine h [] := fun k hk => by cases hk

theorem Mine.append {a b : List Key} (ha : Mine h a) (hb : Mine h b) : Mine h (a ++ b) := fun k hk => by
  rcases List.mem_append.1 hk with h1 | h1
  · exact ha k h1
  · exact hb k h1

theorem rbs_append (a b : List Key) : rbs m (a ++ b) = rbs m a ++ rbs m b := by simp [rbs]

theorem giveIo_sound (M : MRel G V0 L0 w0 U V m h w) {v : Value} {a : AV} {b : BC} {t : Took} {lent : List Key} (hv : ARep m V w v a) (hg : giveIo h a = some (b, t)) (hl : ∀ k ∈ t.lent, k ∈ lent) :
    ∃ L, BCRep (lentV V m lent) w v b L ∧ L.Sublist (rbs m t.own) ∧ Mine h t.own ∧ t.boxes = [] := by
  cases a with
  | p x =>
    simp [giveIo, noneTook] at hg
    obtain ⟨rfl, rfl⟩ := hg
    cases hv with | p hv => exact ⟨[], .p (hv.mono (lentV_left V m lent) (kept_refl _ _)), List.nil_sublist _, mine_nil, rfl⟩
  | nilS =>
    simp [giveIo, noneTook] at hg
    obtain ⟨rfl, rfl⟩ := hg
    cases hv; exact ⟨[], .nilc _ _, List.nil_sublist _, mine_nil, rfl⟩
  | ref k r n =>
    simp only [giveIo] at hg
    split at hg
    · rename_i W l hh
      split at hg
      · rename_i hle
        simp only [Option.some.injEq, Prod.mk.injEq] at hg
        obtain ⟨rfl, rfl⟩ := hg
        have hmine : Mine h [k] := fun k' hk' => by
          simp only [List.mem_singleton] at hk'; subst hk'; exact ⟨_, hh, rfl⟩
        cases hv with
        | @ref _ ki a _ _ hm hrc hae =>
          obtain ⟨ki', hm', hrep⟩ := M.heap _ _ hh
          rw [hm] at hm'; cases hm'
          have hlen : ((l.drop r).take n).length = n := by rw [List.length_take, List.length_drop]; omega
          by_cases hcap : r < ki.cap
          · cases hrep with
            | nil _ _ hc => omega
            | @arr _ _ _ b arr elem hw' hb hh' hs hcl hrr =>
              have haddr := hae hcap
              rw [hb, hw'] at haddr
              simp only [Option.map_some] at haddr
              rw [haddr]
              refine ⟨[b], ?_, ?_, hmine, rfl⟩
              · have hsub : (ki.cap - r) * W = ki.cap * W - r * W := by rw [Nat.sub_mul]
                have hrw : r * W ≤ ki.cap * W := Nat.mul_le_mul_right _ (by omega)
                have := BCRep.own (V := lentV V m lent) b (ki.base + r * W) (ki.cap - r) W ((l.drop r).take n) arr elem hh' (by have := hs.le; omega) hs.one (by rw [hlen]; omega)
                  ((hrr.sub (r := r) (n := n)).mono (lentV_left V m lent) (kept_refl _ _))
                rwa [hlen] at this
              · simp [rbs, hm, hb]
          · have hn0 : n = 0 := by omega
            subst hn0
            have : ki.cap - r = 0 := by omega
            rw [this]
            simp only [List.take_zero]
            exact ⟨[], .nil _ _, List.nil_sublist _, hmine, trivial⟩
      · cases hg
    · rename_i W l hh
      split at hg
      · rename_i hle
        simp only [Option.some.injEq, Prod.mk.injEq] at hg
        obtain ⟨rfl, rfl⟩ := hg
        refine ⟨[], .p (rowsOf_lend (tx := .c (.ref k r n)) (ks := [k]) M (.c hv) ?_ hl), List.nil_sublist _, mine_nil, rfl⟩
        simp only [rowsOf, hh, if_pos hle]
      · cases hg
    · cases hg
  | cref k c n e => simp [giveIo] at hg
  | ptr k r c => simp [giveIo] at hg
  | pb cells c => simp [giveIo] at hg
  | fn f ks => simp [giveIo] at hg

theorem giveL_sound (M : MRel G V0 L0 w0 U V m h w) {lent : List Key} (f : AV → Option (BC × Took))
    (hf : ∀ v a b t, ARep m V w v a → f a = some (b, t) → (∀ k ∈ t.lent, k ∈ lent) → ∃ L, BCRep (lentV V m lent) w v b L ∧ L.Sublist (rbs m t.own) ∧ Mine h t.own ∧ t.boxes = []) :
    ∀ {vs : List Value} {l : List AV} {bs : List BC} {t : Took}, LRep m V w vs l → giveL f l = some (bs, t) → (∀ k ∈ t.lent, k ∈ lent) →
      ∃ L, BLRep (lentV V m lent) w vs bs L ∧ L.Sublist (rbs m t.own) ∧ Mine h t.own ∧ t.boxes = [] := by
  intro vs l bs t hl
  induction hl generalizing bs t with
  | nil =>
    intro hg _
    simp [giveL, noneTook] at hg
    obtain ⟨rfl, rfl⟩ := hg
    exact ⟨[], .nil, List.nil_sublist _, mine_nil, rfl⟩
  | cons hv _ ih =>
    intro hg hlt
    simp only [giveL, Option.bind_eq_some_iff, Option.map_eq_some_iff, Prod.mk.injEq] at hg
    obtain ⟨⟨b, t1⟩, hb, ⟨bs', t2⟩, hbs, rfl, rfl⟩ := hg
    obtain ⟨L1, a1, a2, a3, a4⟩ := hf _ _ _ _ hv hb (fun k hk => hlt k (by simp [Took.add, hk]))
    obtain ⟨L2, b1, b2, b3, b4⟩ := ih hbs (fun k hk => hlt k (by simp [Took.add, hk]))
    refine ⟨L1 ++ L2, .cons a1 b1, ?_, ?_, ?_⟩
    · simp only [Took.add, rbs_append]; exact a2.append b2
    · exact a3.append b3
    · simp [Took.add, a4, b4]

theorem giveC_sound' (M : MRel G V0 L0 w0 U V m h w) {lent : List Key} : ∀ v a b t, ARep m V w v a → giveC h a = some (b, t) → (∀ k ∈ t.lent, k ∈ lent) →
    ∃ L, BCRep (lentV V m lent) w v b L ∧ L.Sublist (rbs m t.own) ∧ Mine h t.own ∧ t.boxes = [] := fun v a b t hv hg hl =>
  let ⟨h1, h2, h3⟩ := giveC_sound M hv hg hl
  ⟨[], h1, List.nil_sublist _, (by rw [h2]; exact mine_nil), h3⟩

/-- The value that was handed over for a variable, or for a slice, that the callee may turn. -/
def IoV (m : KM) : Key × Option Nat → Value → Prop
  | (k, none), v => ∃ i r, m k = some i ∧ i.rb = some r ∧ i.base = 0 ∧ v = .pointer (some ⟨r, 0, none⟩)
  | (k, some n), v => ∃ i a, m k = some i ∧ n ≤ i.cap ∧ (0 < i.cap → a = i.rb.map fun b => ⟨b, i.base, none⟩) ∧ v = .slice a n i.cap

def IoVs (m : KM) : List (Key × Option Nat) → List Value → Prop
  | [], [] => True
  | k :: ks, v :: vs => IoV m k v ∧ IoVs m ks vs
  | _, _ => False

theorem IoV.ext {m m' : KM} (hx : Ext m m') : ∀ {k v}, IoV m k v → IoV m' k v
  | (_, none), _, ⟨i, r, a, b, c, d⟩ => ⟨i, r, hx _ _ a, b, c, d⟩
  | (_, some _), _, ⟨i, a, e, b, c, d⟩ => ⟨i, a, hx _ _ e, b, c, d⟩

theorem IoVs.ext {m m' : KM} (hx : Ext m m') : ∀ {ks vs}, IoVs m ks vs → IoVs m' ks vs
  | [], [], _ => trivial
  | _ :: _, _ :: _, h => ⟨h.1.ext hx, IoVs.ext hx h.2⟩

theorem IoVs.append {m : KM} : ∀ {ks vs ks' vs'}, IoVs m ks vs → IoVs m ks' vs' → IoVs m (ks ++ ks') (vs ++ vs')
  | [], [], _, _, _, h => h
  | _ :: _, _ :: _, _, _, h, h' => ⟨h.1, IoVs.append h.2 h'⟩

/-- The blocks behind what is handed over with variables. -/
abbrev keysB (l : List (Key × Option Nat)) : List Key := l.map (·.1)

theorem giveT_sound (M : MRel G V0 L0 w0 U V m h w) {v : Value} {tx : TV} {b : BV} {t : Took} {lent : List Key} (hv : TRep m V w v tx) (hg : giveT h tx = some (b, t)) (hl : ∀ k ∈ t.lent, k ∈ lent) :
    ∃ L, BRep (lentV V m lent) w v b L ∧ L.Sublist (rbs m t.own) ∧ Mine h t.own ∧ (keysB t.boxes).Sublist t.own ∧ IoVs m t.boxes (ioVals [b] [v]) := by
  unfold giveT at hg
  split at hg
  · rename_i k
    split at hg
    · rename_i l hh
      simp only [Option.map_eq_some_iff, Prod.mk.injEq] at hg
      obtain ⟨⟨bs, t1⟩, hbs, rfl, rfl⟩ := hg
      cases hv with | c hv => cases hv with
      | @ptr _ ki b _ _ hm hb =>
        obtain ⟨ki', hm', hrep⟩ := M.heap _ _ hh
        rw [hm] at hm'; cases hm'
        cases hrep with
        | @box _ _ b' arr elem h0 hb' hheap hlr =>
          rw [hb] at hb'; cases hb'
          obtain ⟨L, a1, a2, a3, a4⟩ := giveL_sound M (giveIo h) (fun v a b t => giveIo_sound M) hlr hbs (fun k' hk' => hl k' hk')
          refine ⟨b :: L, ?_, ?_, ?_, ?_, ?_⟩
          · have := BRep.io (V := lentV V m lent) b arr elem hheap a1
            simpa [h0] using this
          · have e : rbs m (k :: t1.own) = b :: rbs m t1.own := by simp [rbs, hm, hb]
            rw [e]; exact a2.cons_cons b
          · intro k' hk'
            rcases List.mem_cons.1 hk' with rfl | h1
            · exact ⟨_, hh, rfl⟩
            · exact a3 k' h1
          · rw [a4]; exact (List.nil_sublist _).cons_cons k
          · simp only [a4, ioVals]
            exact ⟨⟨ki, b, hm, hb, h0, by simp [h0]⟩, trivial⟩
    · cases hg
  · rename_i cells
    simp [noneTook] at hg
    obtain ⟨rfl, rfl⟩ := hg
    cases hv with | c hv => cases hv with
    | @pb b o' _ _ f h1 h2 h3 =>
      refine ⟨[], .ro b _ cells f (.inl h1) (by simpa using h2) (fun j c hc => (h3 j c hc).mono (lentV_left V m lent) (kept_refl _ _)), List.nil_sublist _, mine_nil, List.nil_sublist _, by simp [ioVals, IoVs]⟩
  · rename_i a _ _
    simp only [Option.map_eq_some_iff, Prod.mk.injEq] at hg
    obtain ⟨⟨bc, t1⟩, hbc, rfl, rfl⟩ := hg
    cases hv with | c hv =>
    obtain ⟨h1, h2, h3⟩ := giveC_sound M hv hbc hl
    exact ⟨[], .cell h1, List.nil_sublist _, (by rw [h2]; exact mine_nil), (by rw [h3]; exact List.nil_sublist _), by simp [ioVals, IoVs, h3]⟩
  · rename_i l
    simp only [Option.map_eq_some_iff, Prod.mk.injEq] at hg
    obtain ⟨⟨bs, t1⟩, hbs, rfl, rfl⟩ := hg
    cases hv with | agg hlr =>
    obtain ⟨L, a1, a2, a3, a4⟩ := giveL_sound M (giveC h) (giveC_sound' M) hlr hbs hl
    exact ⟨L, .agg a1, a2, a3, (by rw [a4]; exact List.nil_sublist _), by simp [ioVals, IoVs, a4]⟩
  · cases hg

theorem ioVals_cons (b : BV) (bs : List BV) (v : Value) (vs : List Value) : ioVals (b :: bs) (v :: vs) = ioVals [b] [v] ++ ioVals bs vs := by
  cases b <;> simp [ioVals]

theorem giveW_sound (M : MRel G V0 L0 w0 U V m h w) {v : Value} {a : AV} {b : BC} {t : Took} {lent : List Key} (hv : ARep m V w v a) (hg : giveW a = some (b, t)) (_hl : ∀ k ∈ t.lent, k ∈ lent) :
    ∃ L, BCRep (lentV V m lent) w v b L ∧ L.Sublist (rbs m t.own) ∧ Mine h t.own ∧ t.boxes = [] := by
  have hone := hv.one
  cases a with
  | p x =>
    simp [giveW, noneTook] at hg
    obtain ⟨rfl, rfl⟩ := hg
    cases hv with | p hv => exact ⟨[], .p (hv.mono (lentV_left V m lent) (kept_refl _ _)), List.nil_sublist _, mine_nil, rfl⟩
  | nilS =>
    simp [giveW, noneTook] at hg
    obtain ⟨rfl, rfl⟩ := hg
    cases hv; exact ⟨[], .p (.nil _ _), List.nil_sublist _, mine_nil, rfl⟩
  | ref k r n =>
    simp [giveW, noneTook] at hg
    obtain ⟨rfl, rfl⟩ := hg
    exact ⟨[], .p (.any _ hone), List.nil_sublist _, mine_nil, rfl⟩
  | cref k c n e =>
    simp [giveW, noneTook] at hg
    obtain ⟨rfl, rfl⟩ := hg
    exact ⟨[], .p (.any _ hone), List.nil_sublist _, mine_nil, rfl⟩
  | _ => simp [giveW] at hg

theorem giveM_sound (M : MRel G V0 L0 w0 U V m h w) {v : Value} {tx : TV} {b : BV} {t : Took} {lent : List Key} {md : Nat} (hv : TRep m V w v tx) (hg : giveM h md tx = some (b, t)) (hl : ∀ k ∈ t.lent, k ∈ lent) :
    ∃ L, BRep (lentV V m lent) w v b L ∧ L.Sublist (rbs m t.own) ∧ Mine h t.own ∧ (keysB t.boxes).Sublist t.own ∧ IoVs m t.boxes (ioVals [b] [v]) := by
  unfold giveM at hg
  split at hg
  · exact giveT_sound M hv hg hl
  · simp only [Option.map_eq_some_iff, Prod.mk.injEq] at hg
    obtain ⟨⟨bc, t1⟩, hbc, rfl, rfl⟩ := hg
    cases hv with | c hv =>
    obtain ⟨L, a1, a2, a3, a4⟩ := giveIo_sound M hv hbc hl
    exact ⟨L, .cell a1, a2, a3, (by rw [a4]; exact List.nil_sublist _), by simp [ioVals, IoVs, a4]⟩
  · simp only [Option.map_eq_some_iff, Prod.mk.injEq] at hg
    obtain ⟨⟨bs, t1⟩, hbs, rfl, rfl⟩ := hg
    cases hv with | agg hlr =>
    obtain ⟨L, a1, a2, a3, a4⟩ := giveL_sound M (giveIo h) (fun v a b t => giveIo_sound M) hlr hbs hl
    exact ⟨L, .agg a1, a2, a3, (by rw [a4]; exact List.nil_sublist _), by simp [ioVals, IoVs, a4]⟩
  · rename_i k n
    split at hg
    · rename_i W l hh
      split at hg
      · rename_i hn
        simp only [Option.some.injEq, Prod.mk.injEq] at hg
        obtain ⟨rfl, rfl⟩ := hg
        have hmine : Mine h [k] := fun k' hk' => by
          simp only [List.mem_singleton] at hk'; subst hk'; exact ⟨_, hh, rfl⟩
        cases hv with | c hv => cases hv with
        | @ref _ ki a _ _ hm hrc hae =>
          obtain ⟨ki', hm', hrep⟩ := M.heap _ _ hh
          rw [hm] at hm'; cases hm'
          have hio : IoVs m [(k, some n)] (ioVals [.els W (l.take n)] [.slice a n (ki.cap - 0)]) := by
            simp only [ioVals]
            exact ⟨⟨ki, a, hm, by omega, fun h0 => by simpa using hae h0, by simp⟩, trivial⟩
          cases hrep with
          | nil hw hb hc =>
            simp only [List.length_nil] at hn
            obtain rfl : n = 0 := by omega
            refine ⟨[], .els ?_, List.nil_sublist _, hmine, by simp [keysB], hio⟩
            rw [hc]; exact .nil _ _
          | @arr _ _ _ b arr elem hw' hb hh' hs hcl hrr =>
            have haddr := hae hs.pos
            rw [hb] at haddr
            simp only [Option.map_some, Nat.zero_mul, Nat.add_zero] at haddr
            refine ⟨[b], .els ?_, by simp [rbs, hm, hb], hmine, by simp [keysB], hio⟩
            rw [haddr]
            have hln : (l.take n).length = n := by rw [List.length_take]; omega
            have hrt : RowsRep V w arr ki.base W (l.take n) := fun i row hi => hrr i row (by
              rw [List.getElem?_take] at hi
              split at hi
              · exact hi
              · cases hi)
            have := BCRep.own (V := lentV V m lent) (w := w) b ki.base (ki.cap - 0) W (l.take n) arr elem hh' (by have := hs.le; simpa using this) hs.one (by rw [hln]; omega) (hrt.mono (lentV_left V m lent) (kept_refl _ _))
            rw [hln] at this
            exact this
      · cases hg
    · cases hg
  · simp only [Option.map_eq_some_iff, Prod.mk.injEq] at hg
    obtain ⟨⟨bc, t1⟩, hbc, rfl, rfl⟩ := hg
    cases hv with | c hv =>
    obtain ⟨L, a1, a2, a3, a4⟩ := giveW_sound M hv hbc hl
    exact ⟨L, .cell a1, a2, a3, (by rw [a4]; exact List.nil_sublist _), by simp [ioVals, IoVs, a4]⟩
  · simp only [Option.map_eq_some_iff, Prod.mk.injEq] at hg
    obtain ⟨⟨bs, t1⟩, hbs, rfl, rfl⟩ := hg
    cases hv with | agg hlr =>
    obtain ⟨L, a1, a2, a3, a4⟩ := giveL_sound M giveW (fun v a b t => giveW_sound M) hlr hbs hl
    exact ⟨L, .agg a1, a2, a3, (by rw [a4]; exact List.nil_sublist _), by simp [ioVals, IoVs, a4]⟩
  · cases hg

theorem giveTs_sound (M : MRel G V0 L0 w0 U V m h w) {lent : List Key} : ∀ {md : List Nat} {vs : List Value} {xs : List TV} {bs : List BV} {t : Took}, vs.length = xs.length → (∀ (i : Nat) v x, vs[i]? = some v → xs[i]? = some x → TRep m V w v x) →
    giveTs h md xs = some (bs, t) → (∀ k ∈ t.lent, k ∈ lent) → ∃ L, BsRep (lentV V m lent) w vs bs L ∧ L.Sublist (rbs m t.own) ∧ Mine h t.own ∧ (keysB t.boxes).Sublist t.own ∧ IoVs m t.boxes (ioVals bs vs)
  | md, [], [], bs, t, _, _, hg, _ => by
    have hg' : giveTs h md [] = some ([], noneTook) := by cases md <;> rfl
    rw [hg'] at hg
    simp [noneTook] at hg
    obtain ⟨rfl, rfl⟩ := hg
    exact ⟨[], .nil, List.nil_sublist _, mine_nil, List.nil_sublist _, by simp [ioVals, IoVs]⟩
  | _, [], _ :: _, _, _, hlen, _, _, _ => by simp at hlen
  | _, _ :: _, [], _, _, hlen, _, _, _ => by simp at hlen
  | md, v :: vs, x :: xs, bs, t, hlen, hr, hg, hl => by
    obtain ⟨d, md', hg⟩ : ∃ d md', ((giveM h d x).bind fun a => (giveTs h md' xs).map fun y => (a.1 :: y.1, a.2.add y.2)) = some (bs, t) := by
      cases md with
      | nil => exact ⟨0, [], hg⟩
      | cons d md => exact ⟨d, md, hg⟩
    simp only [Option.bind_eq_some_iff, Option.map_eq_some_iff, Prod.mk.injEq] at hg
    obtain ⟨⟨b, t1⟩, hb, ⟨bs', t2⟩, hbs, rfl, rfl⟩ := hg
    obtain ⟨L1, a1, a2, a3, a4, a5⟩ := giveM_sound M (hr 0 v x rfl rfl) hb (fun k hk => hl k (by simp [Took.add, hk]))
    obtain ⟨L2, b1, b2, b3, b4, b5⟩ := giveTs_sound M (vs := vs) (xs := xs) (by simpa using hlen) (fun i v x h1 h2 => hr (i + 1) v x (by simpa using h1) (by simpa using h2)) hbs (fun k hk => hl k (by simp [Took.add, hk]))
    refine ⟨L1 ++ L2, .cons a1 b1, ?_, a3.append b3, ?_, ?_⟩
    · simp only [Took.add, rbs_append]; exact a2.append b2
    · simp only [Took.add, keysB, List.map_append]; exact a4.append b4
    · rw [ioVals_cons]; exact a5.append b5

/-- The blocks of keys of one's own are all different. -/
theorem rbs_nodup (M : MRel G V0 L0 w0 U V m h w) : ∀ {ks : List Key}, ks.Nodup → Mine h ks → (rbs m ks).Nodup
  | [], _, _ => by simp [rbs]
  | k :: ks, hn, hm => by
    have ih := rbs_nodup M (List.nodup_cons.1 hn).2 (fun k' hk' => hm k' (by simp [hk']))
    unfold rbs at ih ⊢
    rw [List.filterMap_cons]
    split
    · exact ih
    · rename_i r hr
      refine List.nodup_cons.2 ⟨fun hmem => ?_, ih⟩
      simp only [List.mem_filterMap] at hmem
      obtain ⟨k', hk', hr'⟩ := hmem
      simp only [Option.bind_eq_some_iff] at hr hr'
      obtain ⟨i, hi, hir⟩ := hr
      obtain ⟨i', hi', hir'⟩ := hr'
      obtain ⟨b, hb, hbm⟩ := hm k (by simp)
      obtain ⟨b', hb', hbm'⟩ := hm k' (by simp [hk'])
      have := M.inj k k' b b' i i' r hb hb' hbm hbm' hi hi' hir hir'
      subst this
      exact (List.nodup_cons.1 hn).1 hk'

/-- They are not among what stays during the call. -/
theorem rbs_notLent (M : MRel G V0 L0 w0 U V m h w) {own lent : List Key} (hm : Mine h own) (hl : ∀ k ∈ lent, k ∉ own) (hlh : ∀ k ∈ lent, (h k).isSome) : ∀ b ∈ rbs m own, ¬ lentV V m lent b := by
  intro b hb
  simp only [rbs, List.mem_filterMap, Option.bind_eq_some_iff] at hb
  obtain ⟨k, hk, i, hi, hib⟩ := hb
  obtain ⟨bl, hbl, hmu⟩ := hm k hk
  rintro (hv | hv)
  · exact (M.mine k bl i b hbl hmu hi hib).1 hv
  · simp only [rbs, List.mem_filterMap, Option.bind_eq_some_iff] at hv
    obtain ⟨k', hk', i', hi', hib'⟩ := hv
    obtain ⟨bl', hbl'⟩ := Option.isSome_iff_exists.1 (hlh k' hk')
    by_cases hmu' : bl'.mu = true
    · have := M.inj k k' bl bl' i i' b hbl hbl' hmu hmu' hi hi' hib hib'
      subst this
      exact hl k hk' hk
    · exact (M.mine k bl i b hbl hmu hi hib).1 (M.imm k' bl' i' b hbl' (by simpa using hmu') hi' hib')

end
end Go.Sh
end
section
namespace Go.Sh

theorem Blk.still_mu (b : Blk) : b.still.mu = false := by cases b <;> rfl

theorem putH_append (h : Key → Option Blk) : ∀ (a b : List (Key × Option Blk)), putH h (a ++ b) = putH (putH h a) b
  | [], b => rfl
  | (k, x) :: a, b => by simp only [List.cons_append, putH]; exact putH_append _ a b

theorem putH_none (ks : List Key) : ∀ (h : Key → Option Blk) (k : Key), putH h (ks.map fun k => (k, none)) k = if k ∈ ks then none else h k := by
  induction ks with
  | nil => intro h k; simp [putH]
  | cons x ks ih =>
    intro h k
    simp only [List.map_cons, putH, ih, updH, List.mem_cons]
    by_cases h1 : k ∈ ks
    · simp [h1]
    · by_cases h2 : k = x <;> simp [h1, h2]

theorem putH_freeze (h : Key → Option Blk) (ks : List Key) : ∀ (h' : Key → Option Blk) (k : Key), (∀ j, h' j = h j ∨ h' j = (h j).map Blk.still) →
    (putH h' (freeze h ks) k = h' k ∧ k ∉ ks) ∨ (k ∈ ks ∧ putH h' (freeze h ks) k = (h k).map Blk.still) := by
  induction ks with
  | nil => intro h' k _; exact .inl ⟨rfl, by simp⟩
  | cons x ks ih =>
    intro h' k hh
    simp only [freeze]
    rw [putH_append]
    have step : ∀ h'' : Key → Option Blk, (∀ j, h'' j = h j ∨ h'' j = (h j).map Blk.still) → (h'' x = (h x).map Blk.still) → (∀ j, j ≠ x → h'' j = h' j) →
        ((putH h'' (freeze h ks) k = h' k ∧ k ∉ x :: ks) ∨ (k ∈ x :: ks ∧ putH h'' (freeze h ks) k = (h k).map Blk.still)) := by
      intro h'' hj hx hne
      rcases ih h'' k hj with ⟨a, b⟩ | ⟨a, b⟩
      · by_cases hk : k = x
        · subst hk; exact .inr ⟨by simp, by rw [a, hx]⟩
        · exact .inl ⟨by rw [a, hne k hk], by simp [hk, b]⟩
      · exact .inr ⟨by simp [a], b⟩
    split
    · rename_i l hx
      refine step _ (fun j => ?_) ?_ (fun j hj => by simp [putH, updH, hj])
      · simp only [putH, updH]
        by_cases hj : j = x
        · subst hj; right; simp [hx, Blk.still]
        · simpa [hj] using hh j
      · simp [putH, updH, hx, Blk.still]
    · rename_i w l hx
      refine step _ (fun j => ?_) ?_ (fun j hj => by simp [putH, updH, hj])
      · simp only [putH, updH]
        by_cases hj : j = x
        · subst hj; right; simp [hx, Blk.still]
        · simpa [hj] using hh j
      · simp [putH, updH, hx, Blk.still]
    · rename_i h1 h2
      refine step _ (fun j => by simpa [putH] using hh j) ?_ (fun j hj => rfl)
      simp only [putH]
      have : (h x).map Blk.still = h x := by
        cases hb : h x with
        | none => rfl
        | some b =>
          cases b with
          | box mu l => cases mu with
            | true => exact absurd hb (h1 l)
            | false => rfl
          | arr mu w l => cases mu with
            | true => exact absurd hb (h2 w l)
            | false => rfl
      rw [this]
      rcases hh x with e | e
      · exact e
      · rw [e, this]

section
variable {P : Program} {G : Glob} {V0 : Nat → Prop} {L0 : List Nat} {w0 : World} {U V : Nat → Prop} {m : KM} {h : Key → Option Blk} {w : World}

theorem BlkRep.still {i : KI} {b : Blk} (hb : BlkRep m V w i b) : BlkRep m V w i b.still := by
  cases hb with
  | box h0 hb hh hl => exact .box h0 hb hh hl
  | nil hw hb hc => exact .nil hw hb hc
  | arr hw hb hh h1 h2 h3 => exact .arr hw hb hh h1 h2 h3

/-- The world in which a call has ended, with what was handed over taken away. -/
theorem MRel.world (M : MRel G V0 L0 w0 U V m h w) {own lent : List Key} {frz : Bool} {L : List Nat} {w' : World} {V' : Nat → Prop} (hm : Mine h own) (hdis : ∀ k ∈ lent, k ∉ own) (hlh : ∀ k ∈ lent, (h k).isSome)
    (hL : L.Sublist (rbs m own)) (hf : Frm w w' L) (hV1 : ∀ b, lentV V m lent b → V' b) (hV2 : ∀ b, V' b → b < w'.heap.size ∧ (lentV V m lent b ∨ b ∈ L ∨ w.heap.size ≤ b)) :
    MRel G V0 L0 w0 U (fun b => V' b ∧ (frz = true ∨ V b ∨ b ∉ rbs m lent)) m (putH h ((if frz then freeze h lent else []) ++ own.map fun k => (k, none))) w' ∧
      Kept V w w' ∧ (∀ b ∈ L, b ∈ L0 ∨ w0.heap.size ≤ b) ∧
      ∀ k bl i r, putH h ((if frz then freeze h lent else []) ++ own.map fun k => (k, none)) k = some bl → m k = some i → i.rb = some r → r ∉ L ∧ r < w.heap.size := by
  have hLmem : ∀ b ∈ L, ∃ k i bl, k ∈ own ∧ m k = some i ∧ i.rb = some b ∧ h k = some bl ∧ bl.mu = true := by
    intro b hb
    have := hL.subset hb
    simp only [rbs, List.mem_filterMap, Option.bind_eq_some_iff] at this
    obtain ⟨k, hk, i, hi, hib⟩ := this
    obtain ⟨bl, hbl, hmu⟩ := hm k hk
    exact ⟨k, i, bl, hk, hi, hib, hbl, hmu⟩
  have hLown : ∀ b ∈ L, ¬ V b ∧ (b ∈ L0 ∨ w0.heap.size ≤ b) := fun b hb =>
    let ⟨k, i, bl, _, hi, hib, hbl, hmu⟩ := hLmem b hb
    M.mine k bl i b hbl hmu hi hib
  have hkp : Kept V w w' := ⟨fun b hb => hf.same b (M.vsz b hb).1 fun hbL => (hLown b hbL).1 hb⟩
  -- what the heap is now
  have hnow : ∀ k b, putH h ((if frz then freeze h lent else []) ++ own.map fun k => (k, none)) k = some b → k ∉ own ∧ ∃ b0, h k = some b0 ∧ ((b = b0 ∧ (frz = true → k ∉ lent)) ∨ (frz = true ∧ k ∈ lent ∧ b = b0.still)) := by
    intro k b hb
    rw [putH_append, putH_none] at hb
    split at hb
    · cases hb
    · rename_i hko
      refine ⟨hko, ?_⟩
      cases frz with
      | false => simp only [Bool.false_eq_true, if_false, putH] at hb; exact ⟨b, hb, .inl ⟨rfl, by simp⟩⟩
      | true =>
        simp only [if_true] at hb
        rcases putH_freeze h lent h k (fun j => .inl rfl) with ⟨e, e2⟩ | ⟨e, e2⟩
        · rw [e] at hb; exact ⟨b, hb, .inl ⟨rfl, fun _ => e2⟩⟩
        · rw [e2, Option.map_eq_some_iff] at hb
          obtain ⟨b0, h0, rfl⟩ := hb
          exact ⟨b0, h0, .inr ⟨rfl, e, rfl⟩⟩
  have hnotL : ∀ k b0 i r, k ∉ own → h k = some b0 → m k = some i → i.rb = some r → r ∉ L := by
    intro k b0 i r hko hb0 hi hr hrL
    obtain ⟨k', i', bl, hk', hi', hib', hbl, hmu⟩ := hLmem r hrL
    by_cases hm0 : b0.mu = true
    · have := M.inj k k' b0 bl i i' r hb0 hbl hm0 hmu hi hi' hr hib'
      subst this; exact hko hk'
    · exact (hLown r hrL).1 (M.imm k b0 i r hb0 (by simpa using hm0) hi hr)
  have hVV : ∀ b, V b → V' b ∧ (frz = true ∨ V b ∨ b ∉ rbs m lent) := fun b hb => ⟨hV1 b (.inl hb), .inr (.inl hb)⟩
  refine ⟨⟨fun k b hb => ?_, ?_, ?_, ?_, M.gen, ?_, fun b hb => hVV b (M.v0 b hb), ?_, ?_⟩, hkp, fun b hb => (hLown b hb).2, fun k bl i r hb hi hr => ?_⟩
  · obtain ⟨hko, b0, hb0, hcase⟩ := hnow k b hb
    obtain ⟨i, hi, hrep⟩ := M.heap k b0 hb0
    have hrep' : BlkRep m (fun b => V' b ∧ (frz = true ∨ V b ∨ b ∉ rbs m lent)) w' i b0 :=
      hrep.mono (fun _ _ h => h) hVV hkp fun r hr => hf.same r (hrep.lt hr) (hnotL k b0 i r hko hb0 hi hr)
    refine ⟨i, hi, ?_⟩
    rcases hcase with ⟨rfl, _⟩ | ⟨_, _, rfl⟩
    · exact hrep'
    · exact hrep'.still
  · intro k1 k2 b1 b2 i1 i2 r e1 e2 m1 m2
    obtain ⟨_, c1, f1, g1⟩ := hnow _ _ e1
    obtain ⟨_, c2, f2, g2⟩ := hnow _ _ e2
    rcases g1 with ⟨rfl, _⟩ | ⟨_, _, rfl⟩
    · rcases g2 with ⟨rfl, _⟩ | ⟨_, _, rfl⟩
      · exact M.inj k1 k2 _ _ i1 i2 r f1 f2 m1 m2
      · rw [Blk.still_mu] at m2; cases m2
    · rw [Blk.still_mu] at m1; cases m1
  · intro k b i r hb hmu hi hr
    obtain ⟨hko, b0, hb0, hcase⟩ := hnow k b hb
    rcases hcase with ⟨rfl, hnl⟩ | ⟨_, _, rfl⟩
    · obtain ⟨hnv, hown⟩ := M.mine k b i r hb0 hmu hi hr
      refine ⟨?_, hown⟩
      rintro ⟨hv', hcond⟩
      obtain ⟨i', hi', hrep⟩ := M.heap k b hb0
      rw [hi] at hi'; cases hi'
      rcases (hV2 r hv').2 with hl | hl | hl
      · rcases hl with hl | hl
        · exact hnv hl
        · rcases hcond with hc | hc | hc
          · simp only [rbs, List.mem_filterMap, Option.bind_eq_some_iff] at hl
            obtain ⟨k', hk', i', hi', hib'⟩ := hl
            obtain ⟨bl', hbl'⟩ := Option.isSome_iff_exists.1 (hlh k' hk')
            by_cases hmu' : bl'.mu = true
            · have := M.inj k k' b bl' i i' r hb0 hbl' hmu hmu' hi hi' hr hib'
              subst this; exact hnl hc hk'
            · exact hnv (M.imm k' bl' i' r hbl' (by simpa using hmu') hi' hib')
          · exact hnv hc
          · exact hc hl
      · exact hnotL k b i r hko hb0 hi hr hl
      · have := hrep.lt hr; omega
    · rw [Blk.still_mu] at hmu; cases hmu
  · intro k b i r hb hmu hi hr
    obtain ⟨hko, b0, hb0, hcase⟩ := hnow k b hb
    rcases hcase with ⟨rfl, hnl⟩ | ⟨hfz, hkl, rfl⟩
    · exact hVV r (M.imm k b i r hb0 hmu hi hr)
    · refine ⟨hV1 r (.inr ?_), .inl hfz⟩
      simp only [rbs, List.mem_filterMap, Option.bind_eq_some_iff]
      exact ⟨k, hkl, i, hi, hr⟩
  · rintro b ⟨hv', _⟩
    obtain ⟨h1, h2⟩ := hV2 b hv'
    refine ⟨h1, ?_⟩
    rcases h2 with hl | hl | hl
    · rcases hl with hl | hl
      · exact (M.vsz b hl).2
      · simp only [rbs, List.mem_filterMap, Option.bind_eq_some_iff] at hl
        obtain ⟨k', hk', i', hi', hib'⟩ := hl
        obtain ⟨bl', hbl'⟩ := Option.isSome_iff_exists.1 (hlh k' hk')
        by_cases hmu' : bl'.mu = true
        · exact .inr (M.mine k' bl' i' b hbl' hmu' hi' hib').2
        · exact (M.vsz b (M.imm k' bl' i' b hbl' (by simpa using hmu') hi' hib')).2
    · exact .inr (hLown b hl).2
    · exact .inr (.inr (Nat.le_trans M.frame.size hl))
  · intro gl cells e
    obtain ⟨a, f, b, c⟩ := M.glob gl cells e
    exact ⟨hVV gl a, f, fun j hj => by rw [cell_congr (hkp.same _ a)]; exact b j hj, fun j x hx => (c j x hx).mono hVV hkp⟩
  · refine ⟨hf.os.trans M.frame.os, hf.tape.trans M.frame.tape, hf.output.trans M.frame.output, Nat.le_trans M.frame.size hf.size, fun b hb hn => ?_⟩
    rw [hf.same b (Nat.lt_of_lt_of_le hb M.frame.size) fun hbL => by rcases (hLown b hbL).2 with h1 | h1; exact hn h1; omega]
    exact M.frame.same b hb hn
  · obtain ⟨hko, b0, hb0, _⟩ := hnow k bl hb
    obtain ⟨i', hi', hrep⟩ := M.heap k b0 hb0
    rw [hi] at hi'; cases hi'
    exact ⟨hnotL k b0 i r hko hb0 hi hr, hrep.lt hr⟩

end
end Go.Sh
end
section
namespace Go.Sh

section
variable {P : Program} {G : Glob} {V0 : Nat → Prop} {L0 : List Nat} {w0 : World} {U V : Nat → Prop} {m : KM} {h : Key → Option Blk} {w : World} {g : Nat}

/-- Blocks that nobody holds yet. -/
def Free (V : Nat → Prop) (L0 : List Nat) (w0 : World) (m : KM) (h : Key → Option Blk) (F : List Nat) : Prop :=
  F.Nodup ∧ ∀ b ∈ F, ¬ V b ∧ (b ∈ L0 ∨ w0.heap.size ≤ b) ∧ ∀ k bl i, h k = some bl → bl.mu = true → m k = some i → i.rb ≠ some b

/-- Keys that have not been given out. -/
def Unused (m : KM) (g s : Nat) : Prop := ∀ s', s ≤ s' → m ⟨s', g⟩ = none

theorem Free.right {F F' : List Nat} (hf : Free V L0 w0 m h (F ++ F')) : Free V L0 w0 m h F' :=
  ⟨(List.nodup_append.1 hf.1).2.1, fun b hb => hf.2 b (List.mem_append.2 (.inr hb))⟩

/-- A variable of one's own, back with new contents. -/
theorem MRel.readopt (M : MRel G V0 L0 w0 U V m h w) {k : Key} {i : KI} {blk : Blk} (hk : m k = some i) (hb : BlkRep m V w i blk) (hmu : blk.mu = true)
    (hfree : ∀ r, i.rb = some r → ¬ V r ∧ (r ∈ L0 ∨ w0.heap.size ≤ r) ∧ ∀ k' bl i', h k' = some bl → bl.mu = true → m k' = some i' → i'.rb ≠ some r) :
    MRel G V0 L0 w0 U V m (updH h k (some blk)) w := by
  have old : ∀ j x, j ≠ k → updH h k (some blk) j = some x → h j = some x := fun j x hne e => by simpa [updH, hne] using e
  refine ⟨fun j x e => ?_, ?_, ?_, ?_, M.gen, M.vsz, M.v0, M.glob, M.frame⟩
  · by_cases hne : j = k
    · subst hne; simp [updH] at e; subst e; exact ⟨i, hk, hb⟩
    · exact M.heap j x (old j x hne e)
  · intro k1 k2 b1 b2 i1 i2 r e1 e2 m1 m2 q1 q2 r1 r2
    by_cases h1 : k1 = k <;> by_cases h2 : k2 = k
    · rw [h1, h2]
    · subst h1; rw [hk] at q1; cases q1
      exact absurd r2 ((hfree r r1).2.2 k2 b2 i2 (old _ _ h2 e2) m2 q2)
    · subst h2; rw [hk] at q2; cases q2
      exact absurd r1 ((hfree r r2).2.2 k1 b1 i1 (old _ _ h1 e1) m1 q1)
    · exact M.inj k1 k2 b1 b2 i1 i2 r (old _ _ h1 e1) (old _ _ h2 e2) m1 m2 q1 q2 r1 r2
  · intro k1 b1 i1 r e1 m1 q1 r1
    by_cases h1 : k1 = k
    · subst h1; rw [hk] at q1; cases q1; exact ⟨(hfree r r1).1, (hfree r r1).2.1⟩
    · exact M.mine k1 b1 i1 r (old _ _ h1 e1) m1 q1 r1
  · intro k1 b1 i1 r e1 m1 q1 r1
    by_cases h1 : k1 = k
    · subst h1; simp [updH] at e1; subst e1; rw [hmu] at m1; cases m1
    · exact M.imm k1 b1 i1 r (old _ _ h1 e1) m1 q1 r1

theorem Free.add {k : Key} {i : KI} {blk : Blk} {F : List Nat} (hf : Free V L0 w0 m h F) (hk : m k = none ∨ m k = some i) (hi : ∀ r, i.rb = some r → r ∉ F) :
    Free V L0 w0 (addK m k i) (updH h k (some blk)) F := by
  refine ⟨hf.1, fun b hb => ⟨(hf.2 b hb).1, (hf.2 b hb).2.1, fun k' bl i' e m1 q e2 => ?_⟩⟩
  by_cases h1 : k' = k
  · subst h1
    simp [addK] at q
    subst q
    exact hi b e2 hb
  · simp only [addK, h1, if_false] at q
    simp only [updH, h1, if_false] at e
    exact (hf.2 b hb).2.2 k' bl i' e m1 q e2

theorem addK_self {k : Key} {i : KI} (hk : m k = some i) : addK m k i = m := by
  funext j; unfold addK; split
  · rename_i e; rw [e, hk]
  · rfl

theorem Unused.add {s : Nat} {i : KI} (hn : Unused m g s) : Unused (addK m ⟨s, g⟩ i) g (s + 1) := fun s' hs => by
  have : (⟨s', g⟩ : Key) ≠ ⟨s, g⟩ := fun e => by cases e; omega
  simp only [addK, this, if_false]
  exact hn s' (by omega)

/-- What holds while an answer is taken in. -/
structure Taken (G : Glob) (V0 : Nat → Prop) (L0 : List Nat) (w0 : World) (U V : Nat → Prop) (w : World) (g : Nat) (m : KM) (h : Key → Option Blk) (s : Nat) (F : List Nat) : Prop where
  rel : MRel G V0 L0 w0 U V m h w
  free : Free V L0 w0 m h F
  unused : Unused m g s

/-- A slice that comes: rows that are known, and rows behind them. -/
theorem slice_in (hu : U g) {b o cap W n : Nat} {l : List (List PV)} {arr : Array Value} {elem : TypeId} {F : List Nat} {s : Nat} (T : Taken G V0 L0 w0 U V w g m h s (b :: F)) (hh : w.heap[b]? = some (.cells arr elem (0, 0)))
    (hsz : o + cap * W ≤ arr.size) (h1 : ∀ v ∈ arr.toList, v.oneCell' = true) (hc : l.length ≤ cap) (hn : n ≤ cap) (hr : RowsRep V w arr o W l) :
    ∃ m', Ext m m' ∧ ARep m' V w (.slice (some ⟨b, o, none⟩) n cap) (.ref ⟨s, g⟩ 0 n) ∧ Taken G V0 L0 w0 U V w g m' (updH h ⟨s, g⟩ (some (.arr true W l))) (s + 1) F := by
  have hk := T.unused s (Nat.le_refl _)
  by_cases h0 : cap = 0
  · subst h0
    have hl : l = [] := List.length_eq_zero_iff.1 (by omega)
    subst hl
    have hn0 : n = 0 := by omega
    subst hn0
    let i : KI := ⟨none, 0, W, 0⟩
    have hfr : Free V L0 w0 m h F := (T.free.right (F := [b]))
    obtain ⟨M', hx⟩ := T.rel.adopt (k := ⟨s, g⟩) (i := i) (blk := .arr true W []) hu hk (.nil rfl rfl rfl) rfl (fun r hr => by simp [i] at hr)
    refine ⟨_, hx, ?_, ⟨M', hfr.add (.inl hk) (fun r hr => by simp [i] at hr), T.unused.add⟩⟩
    have : ARep (addK m ⟨s, g⟩ i) V w (.slice (some ⟨b, o, none⟩) 0 (i.cap - 0)) (.ref ⟨s, g⟩ 0 0) := .ref (i := i) (by simp [addK]) (by simp [i]) (fun hlt => by simp [i] at hlt)
    simpa [i] using this
  · let i : KI := ⟨some b, o, W, cap⟩
    have hf := T.free.2 b (by simp)
    obtain ⟨M', hx⟩ := T.rel.adopt (k := ⟨s, g⟩) (i := i) (blk := .arr true W l) hu hk (.arr rfl rfl hh ⟨hsz, by simp [i]; omega, h1⟩ hc hr) rfl (fun r hr' => by simp [i] at hr'; subst hr'; exact hf)
    refine ⟨_, hx, ?_, ⟨M', ?_, T.unused.add⟩⟩
    · have : ARep (addK m ⟨s, g⟩ i) V w (.slice (some ⟨b, o, none⟩) n (i.cap - 0)) (.ref ⟨s, g⟩ 0 n) := .ref (i := i) (by simp [addK]) (by simpa [i] using hn) (fun _ => by simp [i])
      simpa [i] using this
    · exact (T.free.right (F := [b])).add (k := ⟨s, g⟩) (i := i) (blk := .arr true W l) (.inl hk) (fun r hr' => by
        simp [i] at hr'; subst hr'
        exact (List.nodup_cons.1 T.free.1).1)

theorem nil_in (hu : U g) {a : Option Addr} {W : Nat} {F : List Nat} {s : Nat} (T : Taken G V0 L0 w0 U V w g m h s F) :
    ∃ m', Ext m m' ∧ ARep m' V w (.slice a 0 0) (.ref ⟨s, g⟩ 0 0) ∧ Taken G V0 L0 w0 U V w g m' (updH h ⟨s, g⟩ (some (.arr true W []))) (s + 1) F := by
  let i : KI := ⟨none, 0, W, 0⟩
  have hk := T.unused s (Nat.le_refl _)
  obtain ⟨M', hx⟩ := T.rel.adopt (k := ⟨s, g⟩) (i := i) (blk := .arr true W []) hu hk (.nil rfl rfl rfl) rfl (fun r hr => by simp [i] at hr)
  refine ⟨_, hx, ?_, ⟨M', T.free.add (.inl hk) (fun r hr => by simp [i] at hr), T.unused.add⟩⟩
  have : ARep (addK m ⟨s, g⟩ i) V w (.slice a 0 (i.cap - 0)) (.ref ⟨s, g⟩ 0 0) := .ref (i := i) (by simp [addK]) (by simp [i]) (fun hlt => by simp [i] at hlt)
  simpa [i] using this

/-- Rows of which nothing is known. -/
theorem RowsRep.junk {arr : Array Value} {o W cap : Nat} {l : List (List PV)} (hr : RowsRep V w arr o W l) (hsz : o + cap * W ≤ arr.size) (h1 : ∀ v ∈ arr.toList, v.oneCell' = true) (hc : l.length ≤ cap) :
    RowsRep V w arr o W (l ++ List.replicate (cap - l.length) (List.replicate W .any)) := by
  intro i row hi
  by_cases hlt : i < l.length
  · rw [List.getElem?_append_left hlt] at hi; exact hr i row hi
  · rw [List.getElem?_append_right (by omega), List.getElem?_replicate] at hi
    split at hi
    · rename_i hin
      cases hi
      refine ⟨by simp, fun j c hj => ?_⟩
      rw [List.getElem?_replicate] at hj
      split at hj
      · rename_i hjw
        cases hj
        have hb : i * W + W ≤ cap * W := by
          have : (i + 1) * W ≤ cap * W := Nat.mul_le_mul_right _ (by omega)
          rwa [Nat.add_mul, Nat.one_mul] at this
        have hlt' : o + i * W + j < arr.size := by omega
        exact ⟨arr[o + i * W + j], by simp [hlt'], .any _ (h1 _ (by simp))⟩
      · cases hj
    · cases hi

theorem getC_sound (hu : U g) {v : Value} {b : BC} {L F : List Nat} {s : Nat} (T : Taken G V0 L0 w0 U V w g m h s (L ++ F)) (hb : BCRep V w v b L) :
    ∃ m', Ext m m' ∧ ARep m' V w v (getC g s b).1 ∧ Taken G V0 L0 w0 U V w g m' (putH h (getC g s b).2.1) (getC g s b).2.2 F := by
  cases hb with
  | p hp => exact ⟨m, fun _ _ h => h, .p hp, ⟨T.rel, T.free.right, T.unused⟩⟩
  | nil a W => simpa [getC, putH] using nil_in (a := a) (W := W) hu T
  | own b o cap W l arr elem hh hsz h1 hc hr => simpa [getC, putH] using slice_in hu (F := F) (by simpa using T) hh hsz h1 hc hc hr
  | nilc a W => simpa [getC, putH] using nil_in (a := a) (W := W) hu T
  | ownc b o cap W l arr elem hh hsz h1 hc hr =>
    have := slice_in hu (n := l.length) (F := F) (by simpa using T) hh hsz h1 (l := l ++ List.replicate (cap - l.length) (List.replicate W .any)) (by simp; omega) hc (hr.junk hsz h1 hc)
    simpa [getC, putH] using this

theorem getL_sound (hu : U g) {vs : List Value} {bs : List BC} {L : List Nat} (hb : BLRep V w vs bs L) : ∀ {m : KM} {h : Key → Option Blk} {s : Nat} {F : List Nat}, Taken G V0 L0 w0 U V w g m h s (L ++ F) →
    ∃ m', Ext m m' ∧ LRep m' V w vs (getL g s bs).1 ∧ Taken G V0 L0 w0 U V w g m' (putH h (getL g s bs).2.1) (getL g s bs).2.2 F := by
  induction hb with
  | nil => intro m h s F T; exact ⟨m, fun _ _ h => h, .nil, by simpa [getL, putH] using T⟩
  | cons hc _ ih =>
    intro m h s F T
    rw [List.append_assoc] at T
    obtain ⟨m1, x1, r1, T1⟩ := getC_sound hu T hc
    obtain ⟨m2, x2, r2, T2⟩ := ih T1
    refine ⟨m2, fun k i e => x2 _ _ (x1 _ _ e), .cons (r1.mono x2 (fun _ h => h) (kept_refl _ _)) r2, ?_⟩
    simp only [getL]
    rw [putH_append]
    exact T2

/-- Values of a tuple. -/
def TsRep (m : KM) (V : Nat → Prop) (w : World) (vs : List Value) (ts : List TV) : Prop := vs.length = ts.length ∧ ∀ (i : Nat) t v, ts[i]? = some t → vs[i]? = some v → TRep m V w v t

mutual
theorem getT_sound (hu : U g) {v : Value} {b : BV} {L : List Nat} (hb : BRep V w v b L) : ∀ {m : KM} {h : Key → Option Blk} {s : Nat} {F : List Nat}, Taken G V0 L0 w0 U V w g m h s (L ++ F) →
    ∃ m', Ext m m' ∧ TRep m' V w v (getT g s b).1 ∧ Taken G V0 L0 w0 U V w g m' (putH h (getT g s b).2.1) (getT g s b).2.2 F := by
  intro m h s F T
  cases b with
  | cell c =>
    cases hb with | cell hc =>
    obtain ⟨m1, x1, r1, T1⟩ := getC_sound hu T hc
    exact ⟨m1, x1, .c r1, by simpa [getT] using T1⟩
  | agg l =>
    cases hb with | agg hl =>
    obtain ⟨m1, x1, r1, T1⟩ := getL_sound hu hl T
    exact ⟨m1, x1, .agg r1, by simpa [getT] using T1⟩
  | tup l =>
    cases hb with | tup hl =>
    obtain ⟨m1, x1, r1, T1⟩ := getTs_sound hu hl T
    refine ⟨m1, x1, ?_, by simpa [getT] using T1⟩
    simp only [getT]
    exact .tup (by simpa using r1.1) (fun i t v h1 h2 => r1.2 i t v h1 (by simpa using h2))
  | els W l =>
    cases hb with | els hc =>
    have := getC_sound hu T hc
    obtain ⟨m1, x1, r1, T1⟩ := this
    exact ⟨m1, x1, by simpa [getT, getC] using TRep.c r1, by simpa [getT, getC] using T1⟩
  | io l =>
    cases hb with | @io r arr elem _ L3 hh hl =>
    have T0 : Taken G V0 L0 w0 U V w g m h s (L3 ++ (r :: F)) := by
      refine ⟨T.rel, ⟨?_, fun b hb => T.free.2 b (by simp at hb ⊢; rcases hb with h1 | h1 | h1 <;> simp [h1])⟩, T.unused⟩
      have := T.free.1
      simp only [List.cons_append] at this
      exact (List.perm_middle.symm.nodup_iff).1 this
    obtain ⟨m1, x1, r1, T1⟩ := getL_sound hu hl T0
    let k : Key := ⟨(getL g s l).2.2, g⟩
    let ki : KI := ⟨some r, 0, 0, 0⟩
    have hk : m1 k = none := T1.unused _ (Nat.le_refl _)
    have hx := ext_add (i := ki) hk
    have hf := T1.free.2 r (by simp)
    obtain ⟨M2, _⟩ := T1.rel.adopt (k := k) (i := ki) (blk := .box true (getL g s l).1) hu hk
      (.box rfl rfl hh (r1.mono hx (fun _ h => h) (kept_refl _ _))) rfl (fun r' hr' => by simp [ki] at hr'; subst hr'; exact hf)
    have F2 := (T1.free.right (F := [r])).add (k := k) (i := ki) (blk := .box true (getL g s l).1) (.inl hk) (fun r' hr' => by
      simp [ki] at hr'; subst hr'
      exact (List.nodup_cons.1 T1.free.1).1)
    have mk : addK m1 k ki k = some ki := by simp [addK]
    refine ⟨addK m1 k ki, fun j x e => hx _ _ (x1 _ _ e), ?_, ⟨?_, ?_, ?_⟩⟩
    · have : ARep (addK m1 k ki) V w (.pointer (some ⟨r, ki.base + 0 * ki.w + 0, none⟩)) (.ptr k 0 0) := .ptr mk rfl
      simpa [getT, ki] using TRep.c this
    · simp only [getT]
      rw [putH_append]
      simpa [putH] using M2
    · simp only [getT]
      rw [putH_append]
      simpa [putH] using F2
    · simpa [getT] using T1.unused.add
  | ro cells =>
    cases hb with | ro b o _ f hV hcell hrep =>
    refine ⟨m, fun _ _ h => h, ?_, by simpa [getT, putH] using T⟩
    have := TRep.c (ARep.pb (m := m) (b := b) (o := o) (c := 0) f hV hcell hrep)
    simpa [getT] using this
theorem getTs_sound (hu : U g) {vs : List Value} {bs : List BV} {L : List Nat} (hb : BsRep V w vs bs L) : ∀ {m : KM} {h : Key → Option Blk} {s : Nat} {F : List Nat}, Taken G V0 L0 w0 U V w g m h s (L ++ F) →
    ∃ m', Ext m m' ∧ TsRep m' V w vs (getTs g s bs).1 ∧ Taken G V0 L0 w0 U V w g m' (putH h (getTs g s bs).2.1) (getTs g s bs).2.2 F := by
  intro m h s F T
  cases bs with
  | nil => cases hb; exact ⟨m, fun _ _ h => h, ⟨rfl, by simp [getTs]⟩, by simpa [getTs, putH] using T⟩
  | cons b bs =>
    cases hb with | @cons v _ L1 vs _ L2 hc ht =>
    rw [List.append_assoc] at T
    obtain ⟨m1, x1, r1, T1⟩ := getT_sound hu hc T
    obtain ⟨m2, x2, r2, T2⟩ := getTs_sound hu ht T1
    refine ⟨m2, fun k i e => x2 _ _ (x1 _ _ e), ⟨by simp [getTs, r2.1], fun i t v' h1 h2 => ?_⟩, ?_⟩
    · cases i with
      | zero => simp [getTs] at h1 h2; subst h1; subst h2; exact r1.mono x2 (fun _ h => h) (kept_refl _ _)
      | succ i => exact r2.2 i t v' (by simpa [getTs] using h1) (by simpa using h2)
    · simp only [getTs]
      rw [putH_append]
      exact T2
end

theorem getIos_sound (hu : U g) {h0 : Key → Option Blk} : ∀ {ks : List (Key × Option Nat)} {vs : List Value} {ls : List BV} {L : List Nat} {m : KM} {h : Key → Option Blk} {s : Nat} {wr : List (Key × Option Blk)}, BsRep V w vs ls L →
    Taken G V0 L0 w0 U V w g m h s L → getIos h0 g s ks ls = some wr → IoVs m ks vs → (keysB ks).Nodup → (∀ k n i, (k, some n) ∈ ks → m k = some i → (∀ W l, h0 k = some (.arr true W l) → i.w = W) ∧ (i.rb = none → i.cap = 0) ∧ (∀ r, i.rb = some r → 0 < i.cap)) →
      ∃ m', Ext m m' ∧ MRel G V0 L0 w0 U V m' (putH h wr) w
  | [], vs, ls, L, m, h, s, wr, hb, T, hg, hk, _, _ => by
    cases vs with
    | nil => cases hb; simp [getIos] at hg; subst hg; exact ⟨m, fun _ _ h => h, T.rel⟩
    | cons => exact hk.elim
  | (k, none) :: ks, [], _, _, _, _, _, _, _, _, _, hk, _, _ => hk.elim
  | (k, some n) :: ks, [], _, _, _, _, _, _, _, _, _, hk, _, _ => hk.elim
  | (k, none) :: ks, v :: vs, ls, L, m, h, s, wr, hb, T, hg, hk, hnd, hw => by
    cases hb with | @cons _ b L1 _ ls L2 hc ht =>
    obtain ⟨⟨i, r, hi, hir, hi0, rfl⟩, hk'⟩ := hk
    cases b with
    | io l =>
      simp only [getIos, Option.map_eq_some_iff] at hg
      obtain ⟨wr', hwr, rfl⟩ := hg
      cases hc with | @io b arr elem _ L3 hh hl =>
      -- the slices in the variable
      have T0 : Taken G V0 L0 w0 U V w g m h s (L3 ++ (r :: L2)) := by
        refine ⟨T.rel, ⟨?_, fun b hb => T.free.2 b (by simp at hb ⊢; rcases hb with h1 | h1 | h1 <;> simp [h1])⟩, T.unused⟩
        have := T.free.1
        simp only [List.cons_append] at this
        exact (List.perm_middle.symm.nodup_iff).1 this
      obtain ⟨m1, x1, r1, T1⟩ := getL_sound hu hl T0
      -- the variable
      have hmk : m1 k = some i := x1 _ _ hi
      have hf := T1.free.2 r (by simp)
      have M2 := T1.rel.readopt (k := k) (i := i) (blk := .box true (getL g s l).1) hmk (.box hi0 hir hh r1) rfl (fun r' hr' => by rw [hir] at hr'; cases hr'; exact hf)
      have F2 : Free V L0 w0 m1 (updH (putH h (getL g s l).2.1) k (some (.box true (getL g s l).1))) L2 := by
        have := (T1.free.right (F := [r])).add (k := k) (i := i) (blk := .box true (getL g s l).1) (.inr hmk) (fun r' hr' => by
          rw [hir] at hr'; cases hr'
          have := T1.free.1
          exact (List.nodup_cons.1 this).1)
        rwa [addK_self hmk] at this
      obtain ⟨m3, x3, M3⟩ := getIos_sound hu (h0 := h0) (ks := ks) (vs := vs) (ls := ls) (m := m1) ht ⟨M2, F2, T1.unused⟩ hwr (hk'.ext x1) (List.nodup_cons.1 hnd).2
        (fun k2 n2 i2 hin hi2 => by
          have : ∃ j, m k2 = some j := by
            clear hwr ht T T1 T0 F2 M2
            have key : ∀ {ks : List (Key × Option Nat)} {vs : List Value}, IoVs m ks vs → (k2, some n2) ∈ ks → ∃ j, m k2 = some j := by
              intro ks
              induction ks with
              | nil => intro vs _ hin; cases hin
              | cons x ks ih =>
                intro vs hv hin
                cases vs with
                | nil => exact hv.elim
                | cons v vs =>
                  rcases List.mem_cons.1 hin with rfl | hin
                  · obtain ⟨j, _, e, _⟩ := hv.1; exact ⟨j, e⟩
                  · exact ih hv.2 hin
            exact key hk' hin
          obtain ⟨j, hj⟩ := this
          have := x1 _ _ hj
          rw [hi2] at this; cases this
          exact hw k2 n2 i2 (by simp [hin]) hj)
      refine ⟨m3, fun k i e => x3 _ _ (x1 _ _ e), ?_⟩
      rw [putH_append]
      simpa [putH] using M3
    | cell c => simp [getIos] at hg
    | agg l => simp [getIos] at hg
    | tup l => simp [getIos] at hg
    | ro l => simp [getIos] at hg
    | els w l => simp [getIos] at hg
  | (k, some n) :: ks, v :: vs, ls, L, m, h, s, wr, hb, T, hg, hk, hnd, hw => by
    cases hb with | @cons _ b L1 _ ls L2 hc ht =>
    obtain ⟨⟨i, a, hi, hn, hae, rfl⟩, hk'⟩ := hk
    cases b with
    | els W l =>
      simp only [getIos] at hg
      split at hg
      · rename_i W0 l0 hh0
        split at hg
        · rename_i hcond
          obtain ⟨rfl, hln⟩ := hcond
          simp only [Option.map_eq_some_iff] at hg
          obtain ⟨wr', hwr, rfl⟩ := hg
          obtain ⟨hw1, hw2, hw3⟩ := hw k n i (by simp) hi
          have hiw := hw1 _ _ hh0
          cases hc with | els hc =>
          have hblk : ∃ hbk : BlkRep m V w i (.arr true W0 l), ∀ r, i.rb = some r → r ∈ L1 := by
            cases hrb : i.rb with
            | none =>
              have hc0 := hw2 hrb
              have hl0 : l = [] := List.length_eq_zero_iff.1 (by omega)
              subst hl0
              exact ⟨.nil hiw hrb hc0, fun r hr => by cases hr⟩
            | some r =>
              have hpos := hw3 r hrb
              have ha := hae hpos
              rw [hrb] at ha
              simp only [Option.map_some] at ha
              subst ha
              generalize hvv : Value.slice (some ⟨r, i.base, none⟩) n i.cap = vv at hc
              generalize hbb : BC.own W0 l = bb at hc
              cases hc with
              | p => cases hbb
              | nil a W => simp only [Value.slice.injEq] at hvv; omega
              | own b o cap W l' arr elem hh hsz h1 hcl hr =>
                cases hbb
                simp only [Value.slice.injEq, Option.some.injEq, Addr.mk.injEq] at hvv
                obtain ⟨⟨rfl, rfl, _⟩, _, rfl⟩ := hvv
                exact ⟨.arr hiw hrb hh ⟨hsz, hpos, h1⟩ hcl hr, fun r' hr' => by cases hr'; simp⟩
              | nilc => cases hbb
              | ownc => cases hbb
          obtain ⟨hbk, hin⟩ := hblk
          have M2 := T.rel.readopt (k := k) (i := i) (blk := .arr true W0 l) hi hbk rfl (fun r' hr' => T.free.2 r' (List.mem_append.2 (.inl (hin r' hr'))))
          have F2 : Free V L0 w0 m (updH h k (some (.arr true W0 l))) L2 := by
            have := (T.free.right (F := L1)).add (k := k) (i := i) (blk := .arr true W0 l) (.inr hi) (fun r' hr' hr2 => (List.nodup_append.1 T.free.1).2.2 r' (hin r' hr') r' hr2 rfl)
            rwa [addK_self hi] at this
          obtain ⟨m3, x3, M3⟩ := getIos_sound hu (h0 := h0) (ks := ks) (vs := vs) (ls := ls) (m := m) ht ⟨M2, F2, T.unused⟩ hwr hk' (List.nodup_cons.1 hnd).2 (fun k2 n2 i2 hin hi2 => hw k2 n2 i2 (by simp [hin]) hi2)
          exact ⟨m3, x3, by simpa [putH] using M3⟩
        · cases hg
      · cases hg
    | cell c => simp [getIos] at hg
    | agg l => simp [getIos] at hg
    | tup l => simp [getIos] at hg
    | ro l => simp [getIos] at hg
    | io l => simp [getIos] at hg

end
end Go.Sh
end
section
namespace Go.Sh

section
variable {P : Program} {G : Glob} {V0 : Nat → Prop} {L0 : List Nat} {w0 : World} {U V V' : Nat → Prop} {m : KM} {h : Key → Option Blk} {w : World} {g : Nat}

/-- An operation goes as the shadow says. -/
def Goes (P : Program) (G : Glob) (V0 : Nat → Prop) (L0 : List Nat) (w0 : World) (U V : Nat → Prop) (m : KM) (h : Key → Option Blk) (w : World) (a : Act) (o : Oper) (g : Nat) (d : Dl) : Prop :=
  ∀ (next : Act → World → Prop) (Q : Exit → Act → World → Prop), (∀ v w' V' m', TRep m' V' w' v d.v → MRel G V0 L0 w0 (fun x => U x ∨ x = g) V' m' (putH h d.wr) w' → Ext m m' → (∀ b, V b → V' b) →
    Kept V w w' → next (a.put o.dst v) w') → o.wp P a w next Q

theorem Does.goes {a : Act} {o : Oper} {d : Dl} (hd : Does P G V0 L0 w0 U V m h w (execOp a.eval o) g d) : Goes P G V0 L0 w0 U V m h w a o g d := by
  intro next Q k
  obtain ⟨nx, v, w', V', m', hr, hn, ht, hM, hx, hV, hk⟩ := hd
  unfold Oper.wp
  rw [hr]
  rcases hn with rfl | ⟨rfl, rfl⟩
  · exact k v w' V' m' ht hM hx hV hk
  · exact k undef w' V' m' ht hM hx hV hk


theorem PRep.near {v : Value} {c : PV} (hp : PRep V w v c) (hf : c.far = false) : PRep V' w v c := by
  cases hp with
  | int k n => exact .int k n
  | bool b => exact .bool b
  | nilp => exact .nilp
  | any v h => exact .any v h
  | nil a cap => exact .nil a cap
  | rows b o l cap W f h1 h2 h3 h4 h5 =>
    cases l with
    | nil => exact .nil _ _
    | cons x l => simp [PV.far] at hf
  | clo => simp [PV.far] at hf

theorem farRow_get : ∀ {l : List PV} {j : Nat} {c : PV}, farRow l = false → l[j]? = some c → c.far = false
  | [], _, _, _, h => by simp at h
  | x :: l, 0, c, hf, h => by simp at h; subst h; simp [farRow] at hf; exact hf.1
  | x :: l, j + 1, c, hf, h => by simp [farRow] at hf; exact farRow_get hf.2 (by simpa using h)

theorem farRows_get : ∀ {l : List (List PV)} {j : Nat} {c : List PV}, farRows l = false → l[j]? = some c → farRow c = false
  | [], _, _, _, h => by simp at h
  | x :: l, 0, c, hf, h => by simp at h; subst h; simp [farRows] at hf; exact hf.1
  | x :: l, j + 1, c, hf, h => by simp [farRows] at hf; exact farRows_get hf.2 (by simpa using h)

theorem BCRep.near {v : Value} {b : BC} {L : List Nat} (hb : BCRep V w v b L) (hf : b.far = false) : BCRep V' w v b L := by
  cases hb with
  | p hp => exact .p (hp.near hf)
  | nil a W => exact .nil a W
  | own b o cap W l arr elem hh hs h1 hc hr =>
    exact .own b o cap W l arr elem hh hs h1 hc fun i row hi => ⟨(hr i row hi).1, fun j c hj => let ⟨v, a1, a2⟩ := (hr i row hi).2 j c hj; ⟨v, a1, a2.near (farRow_get (farRows_get hf hi) hj)⟩⟩
  | nilc a W => exact .nilc a W
  | ownc b o cap W l arr elem hh hs h1 hc hr =>
    exact .ownc b o cap W l arr elem hh hs h1 hc fun i row hi => ⟨(hr i row hi).1, fun j c hj => let ⟨v, a1, a2⟩ := (hr i row hi).2 j c hj; ⟨v, a1, a2.near (farRow_get (farRows_get hf hi) hj)⟩⟩

theorem BLRep.near {vs : List Value} {bs : List BC} {L : List Nat} (hb : BLRep V w vs bs L) (hf : farL bs = false) : BLRep V' w vs bs L := by
  induction hb with
  | nil => exact .nil
  | cons hc _ ih => simp [farL] at hf; exact .cons (hc.near hf.1) (ih hf.2)

mutual
theorem BRep.near {v : Value} {b : BV} {L : List Nat} (hb : BRep V w v b L) (hf : b.far = false) : BRep V' w v b L := by
  cases b with
  | cell c => cases hb with | cell hc => exact .cell (hc.near (by simpa [BV.far] using hf))
  | agg l => cases hb with | agg hl => exact .agg (hl.near (by simpa [BV.far] using hf))
  | tup l => cases hb with | tup hl => exact .tup (hl.near (by simpa [BV.far] using hf))
  | io l => cases hb with | io b arr elem hh hl => exact .io b arr elem hh (hl.near (by simpa [BV.far] using hf))
  | ro cells => simp [BV.far] at hf
  | els W l => cases hb with | els hc => exact .els (hc.near (by simpa [BV.far, BC.far] using hf))
theorem BsRep.near {vs : List Value} {bs : List BV} {L : List Nat} (hb : BsRep V w vs bs L) (hf : farT bs = false) : BsRep V' w vs bs L := by
  cases bs with
  | nil => cases hb; exact .nil
  | cons b bs =>
    cases hb with | cons hc ht =>
    simp [farT] at hf
    exact .cons (hc.near hf.1) (ht.near hf.2)
end

theorem farL_append : ∀ (a b : List BC), farL (a ++ b) = (farL a || farL b)
  | [], b => by simp [farL]
  | x :: a, b => by simp [farL, farL_append a b, Bool.or_assoc]


theorem BCRep.mono (hV : ∀ b, V b → V' b) {v : Value} {b : BC} {L : List Nat} (hb : BCRep V w v b L) : BCRep V' w v b L := by
  cases hb with
  | p hp => exact .p (hp.mono hV (kept_refl _ _))
  | nil a W => exact .nil a W
  | own b o cap W l arr elem hh hs h1 hc hr => exact .own b o cap W l arr elem hh hs h1 hc (hr.mono hV (kept_refl _ _))
  | nilc a W => exact .nilc a W
  | ownc b o cap W l arr elem hh hs h1 hc hr => exact .ownc b o cap W l arr elem hh hs h1 hc (hr.mono hV (kept_refl _ _))

theorem BLRep.mono (hV : ∀ b, V b → V' b) {vs : List Value} {bs : List BC} {L : List Nat} (hb : BLRep V w vs bs L) : BLRep V' w vs bs L := by
  induction hb with
  | nil => exact .nil
  | cons hc _ ih => exact .cons (hc.mono hV) ih

mutual
theorem BRep.mono (hV : ∀ b, V b → V' b) {v : Value} {b : BV} {L : List Nat} (hb : BRep V w v b L) : BRep V' w v b L := by
  cases b with
  | cell c => cases hb with | cell hc => exact .cell (hc.mono hV)
  | agg l => cases hb with | agg hl => exact .agg (hl.mono hV)
  | tup l => cases hb with | tup hl => exact .tup (hl.mono hV)
  | io l => cases hb with | io b arr elem hh hl => exact .io b arr elem hh (hl.mono hV)
  | ro cells => cases hb with | ro b o _ f h1 h2 h3 => exact .ro b o cells f (hV _ h1) h2 fun j c hj => (h3 j c hj).mono hV (kept_refl _ _)
  | els W l => cases hb with | els hc => exact .els (hc.mono hV)
theorem BsRep.mono (hV : ∀ b, V b → V' b) {vs : List Value} {bs : List BV} {L : List Nat} (hb : BsRep V w vs bs L) : BsRep V' w vs bs L := by
  cases bs with
  | nil => cases hb; exact .nil
  | cons b bs => cases hb with | cons hc ht => exact .cons (hc.mono hV) (ht.mono hV)
end


theorem rowsOf_there {tx : TV} {rs ks} (hr : rowsOf h tx = some (rs, ks)) : ∀ k ∈ ks, (h k).isSome := by
  unfold rowsOf at hr
  split at hr
  · cases hr; simp
  · cases hr; simp
  · split at hr
    · rename_i hh
      split at hr
      · cases hr; intro k hk; simp at hk; subst hk; simp [hh]
      · cases hr
    · cases hr
  · split at hr
    · rename_i hh
      split at hr
      · simp only [Option.map_eq_some_iff] at hr
        obtain ⟨_, _, hr⟩ := hr
        cases hr; intro k hk; simp at hk; subst hk; simp [hh]
      · cases hr
    · cases hr
  · cases hr

theorem capsOf_there : ∀ {ks : List Key} {cs}, capsOf h ks = some cs → ∀ k ∈ ks, (h k).isSome
  | [], _, _, k, hk => by cases hk
  | x :: ks, cs, hc, k, hk => by
    unfold capsOf at hc
    split at hc
    · rename_i hh
      simp only [Option.bind_eq_some_iff, Option.map_eq_some_iff] at hc
      obtain ⟨_, _, _, hcs, _⟩ := hc
      rcases List.mem_cons.1 hk with rfl | h1
      · simp [hh]
      · exact capsOf_there hcs k h1
    · cases hc

theorem giveC_there {a : AV} {b t} (hg : giveC h a = some (b, t)) : ∀ k ∈ t.lent, (h k).isSome := by
  cases a <;> simp only [giveC, noneTook, Option.map_eq_some_iff, Prod.mk.injEq, Option.some.injEq, reduceCtorEq] at hg
  · obtain ⟨_, rfl⟩ := hg; simp
  · obtain ⟨_, rfl⟩ := hg; simp
  · obtain ⟨⟨rs, ks⟩, hr, _, rfl⟩ := hg; exact rowsOf_there hr
  · obtain ⟨⟨rs, ks⟩, hr, _, rfl⟩ := hg; exact rowsOf_there hr
  · obtain ⟨cs, hc, _, rfl⟩ := hg; exact capsOf_there hc

theorem giveIo_there {a : AV} {b t} (hg : giveIo h a = some (b, t)) : ∀ k ∈ t.lent, (h k).isSome := by
  cases a with
  | ref k r n =>
    simp only [giveIo] at hg
    split at hg
    · split at hg
      · cases hg; simp
      · cases hg
    · rename_i hh
      split at hg
      · cases hg; intro k' hk'; simp at hk'; subst hk'; simp [hh]
      · cases hg
    · cases hg
  | p x => simp [giveIo, noneTook] at hg; obtain ⟨_, rfl⟩ := hg; simp
  | nilS => simp [giveIo, noneTook] at hg; obtain ⟨_, rfl⟩ := hg; simp
  | _ => simp [giveIo] at hg

theorem giveL_there (f : AV → Option (BC × Took)) (hf : ∀ a b t, f a = some (b, t) → ∀ k ∈ t.lent, (h k).isSome) : ∀ {l : List AV} {bs t}, giveL f l = some (bs, t) → ∀ k ∈ t.lent, (h k).isSome
  | [], bs, t, hg => by simp [giveL, noneTook] at hg; obtain ⟨_, rfl⟩ := hg; simp
  | a :: l, bs, t, hg => by
    simp only [giveL, Option.bind_eq_some_iff, Option.map_eq_some_iff, Prod.mk.injEq] at hg
    obtain ⟨⟨b, t1⟩, hb, ⟨bs', t2⟩, hbs, rfl, rfl⟩ := hg
    intro k hk
    simp only [Took.add, List.mem_append] at hk
    exact hk.elim (hf _ _ _ hb k) (giveL_there f hf hbs k)

theorem giveT_there {tx : TV} {b t} (hg : giveT h tx = some (b, t)) : ∀ k ∈ t.lent, (h k).isSome := by
  unfold giveT at hg
  split at hg
  · split at hg
    · simp only [Option.map_eq_some_iff, Prod.mk.injEq] at hg
      obtain ⟨⟨bs, t1⟩, hbs, rfl, rfl⟩ := hg
      exact fun k hk => giveL_there (giveIo h) (fun _ _ _ => giveIo_there) hbs k hk
    · cases hg
  · simp [noneTook] at hg; obtain ⟨_, rfl⟩ := hg; simp
  · simp only [Option.map_eq_some_iff, Prod.mk.injEq] at hg
    obtain ⟨⟨bc, t1⟩, hbc, rfl, rfl⟩ := hg
    exact giveC_there hbc
  · simp only [Option.map_eq_some_iff, Prod.mk.injEq] at hg
    obtain ⟨⟨bs, t1⟩, hbs, rfl, rfl⟩ := hg
    exact giveL_there (giveC h) (fun _ _ _ => giveC_there) hbs
  · cases hg

theorem giveW_took : ∀ a b t, giveW a = some (b, t) → t = noneTook := by
  intro a b t hg
  cases a <;> simp [giveW] at hg <;> exact hg.2.symm
theorem giveW_there {a : AV} {b t} (hg : giveW a = some (b, t)) : ∀ k ∈ t.lent, (h k).isSome := by rw [giveW_took _ _ _ hg]; simp [noneTook]
theorem giveW_noEls : ∀ a b t, giveW a = some (b, t) → t.boxes = [] := fun a b t hg => by rw [giveW_took _ _ _ hg]; rfl

theorem giveM_there {md : Nat} {tx : TV} {b t} (hg : giveM h md tx = some (b, t)) : ∀ k ∈ t.lent, (h k).isSome := by
  unfold giveM at hg
  split at hg
  · exact giveT_there hg
  · simp only [Option.map_eq_some_iff, Prod.mk.injEq] at hg
    obtain ⟨⟨bc, t1⟩, hbc, rfl, rfl⟩ := hg
    exact giveIo_there hbc
  · simp only [Option.map_eq_some_iff, Prod.mk.injEq] at hg
    obtain ⟨⟨bs, t1⟩, hbs, rfl, rfl⟩ := hg
    exact giveL_there (giveIo h) (fun _ _ _ => giveIo_there) hbs
  · split at hg
    · split at hg
      · cases hg; simp
      · cases hg
    · cases hg
  · simp only [Option.map_eq_some_iff, Prod.mk.injEq] at hg
    obtain ⟨⟨bc, t1⟩, hbc, rfl, rfl⟩ := hg
    exact giveW_there hbc
  · simp only [Option.map_eq_some_iff, Prod.mk.injEq] at hg
    obtain ⟨⟨bs, t1⟩, hbs, rfl, rfl⟩ := hg
    exact giveL_there giveW (fun _ _ _ => giveW_there) hbs
  · cases hg

theorem giveTs_there : ∀ {md : List Nat} {xs : List TV} {bs t}, giveTs h md xs = some (bs, t) → ∀ k ∈ t.lent, (h k).isSome
  | md, [], bs, t, hg => by
    have hg' : giveTs h md [] = some ([], noneTook) := by cases md <;> rfl
    rw [hg'] at hg
    simp [noneTook] at hg; obtain ⟨_, rfl⟩ := hg; simp
  | md, x :: xs, bs, t, hg => by
    obtain ⟨d, md', hg⟩ : ∃ d md', ((giveM h d x).bind fun a => (giveTs h md' xs).map fun y => (a.1 :: y.1, a.2.add y.2)) = some (bs, t) := by
      cases md with
      | nil => exact ⟨0, [], hg⟩
      | cons d md => exact ⟨d, md, hg⟩
    simp only [Option.bind_eq_some_iff, Option.map_eq_some_iff, Prod.mk.injEq] at hg
    obtain ⟨⟨b, t1⟩, hb, ⟨bs', t2⟩, hbs, rfl, rfl⟩ := hg
    intro k hk
    simp only [Took.add, List.mem_append] at hk
    exact hk.elim (giveM_there hb k) (giveTs_there hbs k)

/-- What is handed over with its elements lies in a block of rows. -/
theorem giveL_noEls {f : AV → Option (BC × Took)} (hf : ∀ a b t, f a = some (b, t) → t.boxes = []) : ∀ {l : List AV} {bs t}, giveL f l = some (bs, t) → t.boxes = []
  | [], bs, t, hg => by simp [giveL, noneTook] at hg; obtain ⟨_, rfl⟩ := hg; rfl
  | a :: l, bs, t, hg => by
    simp only [giveL, Option.bind_eq_some_iff, Option.map_eq_some_iff, Prod.mk.injEq] at hg
    obtain ⟨⟨b, t1⟩, hb, ⟨bs', t2⟩, hbs, rfl, rfl⟩ := hg
    simp [Took.add, hf _ _ _ hb, giveL_noEls hf hbs]

theorem giveIo_noEls : ∀ a b t, giveIo h a = some (b, t) → t.boxes = [] := by
  intro a b t hg
  unfold giveIo at hg
  split at hg
  · cases hg; rfl
  · cases hg; rfl
  · split at hg
    · split at hg
      · cases hg; rfl
      · cases hg
    · split at hg
      · cases hg; rfl
      · cases hg
    · cases hg
  · cases hg

theorem giveC_noEls : ∀ a b t, giveC h a = some (b, t) → t.boxes = [] := by
  intro a b t hg
  unfold giveC at hg
  split at hg
  · cases hg; rfl
  · cases hg; rfl
  · simp only [Option.map_eq_some_iff, Prod.mk.injEq] at hg; obtain ⟨_, _, _, rfl⟩ := hg; rfl
  · simp only [Option.map_eq_some_iff, Prod.mk.injEq] at hg; obtain ⟨_, _, _, rfl⟩ := hg; rfl
  · simp only [Option.map_eq_some_iff, Prod.mk.injEq] at hg; obtain ⟨_, _, _, rfl⟩ := hg; rfl
  · cases hg

theorem giveT_els {tx : TV} {b t} (hg : giveT h tx = some (b, t)) : ∀ k n, (k, some n) ∈ t.boxes → ∃ W l, h k = some (.arr true W l) := by
  unfold giveT at hg
  split at hg
  · split at hg
    · simp only [Option.map_eq_some_iff, Prod.mk.injEq] at hg
      obtain ⟨⟨bs, t1⟩, hbs, rfl, rfl⟩ := hg
      intro k n hk
      rw [giveL_noEls giveIo_noEls hbs] at hk
      simp at hk
    · cases hg
  · simp [noneTook] at hg; obtain ⟨_, rfl⟩ := hg; simp
  · simp only [Option.map_eq_some_iff, Prod.mk.injEq] at hg
    obtain ⟨⟨bc, t1⟩, hbc, rfl, rfl⟩ := hg
    rw [giveC_noEls _ _ _ hbc]; simp
  · simp only [Option.map_eq_some_iff, Prod.mk.injEq] at hg
    obtain ⟨⟨bs, t1⟩, hbs, rfl, rfl⟩ := hg
    rw [giveL_noEls giveC_noEls hbs]; simp
  · cases hg

theorem giveTs_els : ∀ {md : List Nat} {xs : List TV} {bs t}, giveTs h md xs = some (bs, t) → ∀ k n, (k, some n) ∈ t.boxes → ∃ W l, h k = some (.arr true W l)
  | md, [], bs, t, hg => by
    have hg' : giveTs h md [] = some ([], noneTook) := by cases md <;> rfl
    rw [hg'] at hg
    simp [noneTook] at hg; obtain ⟨_, rfl⟩ := hg; simp
  | md, x :: xs, bs, t, hg => by
    obtain ⟨d, md', hg⟩ : ∃ d md', ((giveM h d x).bind fun a => (giveTs h md' xs).map fun y => (a.1 :: y.1, a.2.add y.2)) = some (bs, t) := by
      cases md with
      | nil => exact ⟨0, [], hg⟩
      | cons d md => exact ⟨d, md, hg⟩
    simp only [Option.bind_eq_some_iff, Option.map_eq_some_iff, Prod.mk.injEq] at hg
    obtain ⟨⟨b, t1⟩, hb, ⟨bs', t2⟩, hbs, rfl, rfl⟩ := hg
    intro k n hk
    simp only [Took.add, List.mem_append] at hk
    refine hk.elim (fun hk => ?_) (giveTs_els hbs k n)
    unfold giveM at hb
    split at hb
    · exact giveT_els hb k n hk
    · simp only [Option.map_eq_some_iff, Prod.mk.injEq] at hb
      obtain ⟨⟨bc, t3⟩, hbc, rfl, rfl⟩ := hb
      rw [giveIo_noEls _ _ _ hbc] at hk; simp at hk
    · simp only [Option.map_eq_some_iff, Prod.mk.injEq] at hb
      obtain ⟨⟨bs, t3⟩, hbs, rfl, rfl⟩ := hb
      rw [giveL_noEls giveIo_noEls hbs] at hk; simp at hk
    · split at hb
      · rename_i hh
        split at hb
        · cases hb
          simp only [List.mem_singleton, Prod.mk.injEq] at hk
          obtain ⟨rfl, _⟩ := hk
          exact ⟨_, _, hh⟩
        · cases hb
      · cases hb
    · simp only [Option.map_eq_some_iff, Prod.mk.injEq] at hb
      obtain ⟨⟨bc, t3⟩, hbc, rfl, rfl⟩ := hb
      rw [giveW_noEls _ _ _ hbc] at hk; simp at hk
    · simp only [Option.map_eq_some_iff, Prod.mk.injEq] at hb
      obtain ⟨⟨bs, t3⟩, hbs, rfl, rfl⟩ := hb
      rw [giveL_noEls giveW_noEls hbs] at hk; simp at hk
    · cases hb

theorem giveTs_elsOwn : ∀ {md : List Nat} {xs : List TV} {bs t}, giveTs h md xs = some (bs, t) → ∀ k n, (k, some n) ∈ t.boxes → k ∈ t.own
  | md, [], bs, t, hg => by
    have hg' : giveTs h md [] = some ([], noneTook) := by cases md <;> rfl
    rw [hg'] at hg
    simp [noneTook] at hg; obtain ⟨_, rfl⟩ := hg; simp
  | md, x :: xs, bs, t, hg => by
    obtain ⟨d, md', hg⟩ : ∃ d md', ((giveM h d x).bind fun a => (giveTs h md' xs).map fun y => (a.1 :: y.1, a.2.add y.2)) = some (bs, t) := by
      cases md with
      | nil => exact ⟨0, [], hg⟩
      | cons d md => exact ⟨d, md, hg⟩
    simp only [Option.bind_eq_some_iff, Option.map_eq_some_iff, Prod.mk.injEq] at hg
    obtain ⟨⟨b, t1⟩, hb, ⟨bs', t2⟩, hbs, rfl, rfl⟩ := hg
    intro k n hk
    simp only [Took.add, List.mem_append] at hk ⊢
    refine hk.elim (fun hk => .inl ?_) fun hk => .inr (giveTs_elsOwn hbs k n hk)
    unfold giveM at hb
    split at hb
    · unfold giveT at hb
      split at hb
      · split at hb
        · simp only [Option.map_eq_some_iff, Prod.mk.injEq] at hb
          obtain ⟨⟨bs, t1⟩, hbs, rfl, rfl⟩ := hb
          rw [giveL_noEls giveIo_noEls hbs] at hk; simp at hk
        · cases hb
      · simp [noneTook] at hb; obtain ⟨_, rfl⟩ := hb; simp at hk
      · simp only [Option.map_eq_some_iff, Prod.mk.injEq] at hb
        obtain ⟨⟨bc, t1⟩, hbc, rfl, rfl⟩ := hb
        rw [giveC_noEls _ _ _ hbc] at hk; simp at hk
      · simp only [Option.map_eq_some_iff, Prod.mk.injEq] at hb
        obtain ⟨⟨bs, t1⟩, hbs, rfl, rfl⟩ := hb
        rw [giveL_noEls giveC_noEls hbs] at hk; simp at hk
      · cases hb
    · simp only [Option.map_eq_some_iff, Prod.mk.injEq] at hb
      obtain ⟨⟨bc, t3⟩, hbc, rfl, rfl⟩ := hb
      rw [giveIo_noEls _ _ _ hbc] at hk; simp at hk
    · simp only [Option.map_eq_some_iff, Prod.mk.injEq] at hb
      obtain ⟨⟨bs, t3⟩, hbs, rfl, rfl⟩ := hb
      rw [giveL_noEls giveIo_noEls hbs] at hk; simp at hk
    · split at hb
      · split at hb
        · cases hb
          simp only [List.mem_singleton, Prod.mk.injEq] at hk
          simp [hk.1]
        · cases hb
      · cases hb
    · simp only [Option.map_eq_some_iff, Prod.mk.injEq] at hb
      obtain ⟨⟨bc, t3⟩, hbc, rfl, rfl⟩ := hb
      rw [giveW_noEls _ _ _ hbc] at hk; simp at hk
    · simp only [Option.map_eq_some_iff, Prod.mk.injEq] at hb
      obtain ⟨⟨bs, t3⟩, hbs, rfl, rfl⟩ := hb
      rw [giveL_noEls giveW_noEls hbs] at hk; simp at hk
    · cases hb

/-- An answer is taken in. -/
theorem back_sound (M : MRel G V0 L0 w0 U V m h w) (hu : ¬ U g) {t : Took} {L L' : List Nat} {w' : World} {s : Nat} {r : BV} {ios : List BV} {d : Dl} {frz : Bool} {v : Value} {vals : List Value} {bs : List BV}
    (hb : backD h s g t frz r ios = some d) (hm : Mine h t.own) (hlh : ∀ k ∈ t.lent, (h k).isSome) (hL : L.Sublist (rbs m t.own)) (hbox : (keysB t.boxes).Sublist t.own) (hio : IoVs m t.boxes (ioVals bs vals))
    (hels : ∀ k n, (k, some n) ∈ t.boxes → ∃ W l, h k = some (.arr true W l)) (hrep : BsRep V' w' (v :: ioVals bs vals) (r :: ios) L') (hnd : L'.Nodup)
    (hL' : ∀ b ∈ L', ¬ V' b ∧ (b ∈ L ∨ w.heap.size ≤ b)) (hV1 : ∀ b, lentV V m t.lent b → V' b) (hV2 : ∀ b, V' b → b < w'.heap.size ∧ (lentV V m t.lent b ∨ b ∈ L ∨ w.heap.size ≤ b)) (hf : Frm w w' L) :
    ∃ m1 V1, TRep m1 V1 w' v d.v ∧ MRel G V0 L0 w0 (fun x => U x ∨ x = g) V1 m1 (putH h d.wr) w' ∧ Ext m m1 ∧ (∀ b, V b → V1 b) ∧ Kept V w w' := by
  unfold backD at hb
  split at hb
  · rename_i hc
    obtain ⟨⟨hnown, hdis⟩, hfz⟩ := hc
    simp only [Option.map_eq_some_iff] at hb
    obtain ⟨y, hy, rfl⟩ := hb
    obtain ⟨M1, hkp, hown, hnot⟩ := M.world (frz := frz) hm hdis hlh hL hf hV1 hV2
    have hsub : ∀ b, (V' b ∧ (frz = true ∨ V b ∨ b ∉ rbs m t.lent)) → V' b := fun b hb => hb.1
    have hrep1 : BsRep (fun b => V' b ∧ (frz = true ∨ V b ∨ b ∉ rbs m t.lent)) w' (v :: ioVals bs vals) (r :: ios) L' := by
      cases frz with
      | true => exact hrep.mono fun b hb => ⟨hb, .inl rfl⟩
      | false =>
        have hfz := hfz rfl
        simp only [Bool.or_eq_false_iff] at hfz
        exact hrep.near (by simp [farT, hfz.1, hfz.2])
    cases hrep1 with | @cons _ _ La _ _ Lb hr1 hr2 =>
    have T : Taken G V0 L0 w0 (fun x => U x ∨ x = g) (fun b => V' b ∧ (frz = true ∨ V b ∨ b ∉ rbs m t.lent)) w' g m
        (putH h ((if frz then freeze h t.lent else []) ++ t.own.map fun k => (k, none))) s (La ++ Lb) := by
      refine ⟨M1.used fun _ h => .inl h, ⟨hnd, fun b hb => ?_⟩, fun s' _ => ?_⟩
      · obtain ⟨h1, h2⟩ := hL' b hb
        refine ⟨fun hv => h1 hv.1, ?_, fun k bl i e _ q e2 => ?_⟩
        · rcases h2 with h2 | h2
          · exact hown b h2
          · exact .inr (Nat.le_trans M.frame.size h2)
        · obtain ⟨n1, n2⟩ := hnot k bl i b e q e2
          rcases h2 with h2 | h2
          · exact n1 h2
          · omega
      · cases e : m ⟨s', g⟩ with
        | none => rfl
        | some i => exact absurd (M.gen _ i e) hu
    obtain ⟨m1, x1, r1, T1⟩ := getT_sound (.inr rfl) hr1 T
    obtain ⟨m2, x2, M2⟩ := getIos_sound (.inr rfl) hr2 T1 hy (hio.ext x1) (hbox.nodup hnown) (fun k n i hk hi => by
      obtain ⟨W, l, hh⟩ := hels k n hk
      obtain ⟨i0, hi0, hrep0⟩ := M.heap k _ hh
      have := x1 _ _ hi0
      rw [hi] at this; cases this
      refine ⟨fun W' l' hh' => ?_, fun hn => ?_, fun r hr => ?_⟩
      · rw [hh] at hh'; cases hh'
        cases hrep0 <;> assumption
      · cases hrep0 with
        | nil _ _ hc => exact hc
        | arr _ hb' _ _ _ _ => rw [hn] at hb'; cases hb'
      · cases hrep0 with
        | nil _ hb' _ => rw [hr] at hb'; cases hb'
        | arr _ _ _ hs _ _ => exact hs.pos)
    refine ⟨m2, _, r1.mono x2 (fun _ h => h) (kept_refl _ _), ?_, fun k i e => x2 _ _ (x1 _ _ e), fun b hb => ⟨hV1 b (.inl hb), .inr (.inl hb)⟩, hkp⟩
    simp only [putH_append] at M2 ⊢
    exact M2
  · cases hb

end
end Go.Sh
end
section
namespace Go.Sh

section
variable {P : Program} {G : Glob} {V0 : Nat → Prop} {L0 : List Nat} {w0 : World} {U V V' : Nat → Prop} {m : KM} {h : Key → Option Blk} {w : World} {g : Nat}

theorem run_callFunc_body {f : FuncId} (hf : Callable P f) (args : Array Value) (w : World) : (callFunc f args).run P w = .ok (.enter f args) w := by
  obtain ⟨fn, h1, h2, h3⟩ := hf
  have h4 : fn.name ≠ "runtime.NumGoroutine" := by simpa using h2
  have h5 : fn.body ≠ none := by intro e; simp [e] at h3
  simp [callFunc, h1, h4, h5]

theorem exec_call {ρ : Operand → Value} {o : Oper} {c : Call} {x : Operand} {f : Nat} {cs : Array Value} (ho : o.op = .call c) (hc : c.callee = .value x) (hx : ρ x = .func (.func f) #[] cs) (hf : Callable P f) (w : World) :
    (execOp ρ o).run P w = .ok (.enter f (c.args.map ρ ++ cs)) w := by
  have := run_callFunc_body hf (c.args.map ρ ++ cs) w
  simp [execOp, ho, resolve, hc, hx, Deferred.ofValue, invoke, this]

/-- The function, and what it is given. -/
theorem calleeOf_sound {e : Nat → TV} {a : Act} (hev : ∀ x, TRep m V w (a.eval x) (ev G e x)) {c : Call} {f : Nat} {xs : List TV} (hc : calleeOf G e c = some (f, xs)) :
    ∃ x cs, c.callee = .value x ∧ a.eval x = .func (.func f) #[] cs ∧ (c.args.map a.eval ++ cs).toList.length = xs.length ∧
      ∀ (i : Nat) v t, (c.args.map a.eval ++ cs).toList[i]? = some v → xs[i]? = some t → TRep m V w v t := by
  unfold calleeOf at hc
  split at hc
  · rename_i x hx
    have hr := hev x
    have key : ∀ (cs : Array Value) (ts : List TV), cs.size = ts.length → (∀ (i : Nat) v t, cs[i]? = some v → ts[i]? = some t → TRep m V w v t) →
        (c.args.map a.eval ++ cs).toList.length = (c.args.toList.map (ev G e) ++ ts).length ∧
          ∀ (i : Nat) v t, (c.args.map a.eval ++ cs).toList[i]? = some v → (c.args.toList.map (ev G e) ++ ts)[i]? = some t → TRep m V w v t := by
      intro cs ts hl ht
      refine ⟨by simp [hl], fun i v t h1 h2 => ?_⟩
      simp only [Array.toList_append, Array.toList_map, List.getElem?_append, List.length_map] at h1 h2
      split at h1
      · rename_i hi
        rw [if_pos hi] at h2
        rw [List.getElem?_map] at h1 h2
        simp only [Option.map_eq_some_iff] at h1 h2
        obtain ⟨y, e1, rfl⟩ := h1
        obtain ⟨z, e2, rfl⟩ := h2
        rw [e1] at e2; cases e2
        exact hev y
      · rename_i hi
        rw [if_neg hi] at h2
        exact ht _ v t (by simpa using h1) h2
    split at hc
    · rename_i f' caps hf
      cases hc
      rw [hf] at hr
      generalize hv : a.eval x = v at hr
      cases hr with | c hr => cases hr with | p hr => cases hr with | clo _ _ b o gv cs hs hcs hV hcell hrep =>
      refine ⟨x, cs, hx, hv, key cs _ (by simp [hs]) fun i v t h1 h2 => ?_⟩
      rw [List.getElem?_map] at h2
      simp only [Option.map_eq_some_iff] at h2
      obtain ⟨l, e2, rfl⟩ := h2
      have hi := (List.getElem?_eq_some_iff.1 e2).1
      rw [hcs i hi] at h1
      cases h1
      exact .c (.pb (o := o i) (c := 0) (gv i) (hV i hi) (hcell i · l e2) (hrep i · l · e2))
    · rename_i f' ks hf
      cases hc
      rw [hf] at hr
      generalize hv : a.eval x = v at hr
      cases hr with | c hr => cases hr with | @fn _ _ cs hs hk =>
      refine ⟨x, cs, hx, hv, key cs _ (by simp [hs]) fun i v t h1 h2 => ?_⟩
      rw [List.getElem?_map] at h2
      simp only [Option.map_eq_some_iff] at h2
      obtain ⟨k, e2, rfl⟩ := h2
      obtain ⟨i', b, m1, m2, m3⟩ := hk i k e2
      rw [m3] at h1
      cases h1
      exact .c (.ptr m1 m2)
    · cases hc
  · cases hc

theorem call_sound {S : St} {a : Act} {o : Oper} {idx : Nat} {c : Call} {f : Nat} {xs : List TV} {md : List Nat} {bs : List BV} {t : Took} {frz : Bool} {r : BV} {ios : List BV} {d : Dl}
    (M : MRel G V0 L0 w0 U V m S.heap w) (E : ERel m V w a.tmps S.env) (hu : ¬ U g) (ho : o.op = .call c) (hc : calleeOf G S.env c = some (f, xs)) (hg : giveTs S.heap md xs = some (bs, t))
    (hk : OkD P G f bs r ios) (hb : backD S.heap (sb o.dst idx) g t frz r ios = some d) : Goes P G V0 L0 w0 U V m S.heap w a o g d := by
  have hev : ∀ x, TRep m V w (a.eval x) (ev G S.env x) := fun x => ev_rep E M.glob x
  obtain ⟨x, cs, h1, h2, h3, h4⟩ := calleeOf_sound hev hc
  obtain ⟨L, g1, g2, g3, g4, g5⟩ := giveTs_sound M h3 h4 hg (fun _ h => h)
  have hcond : t.own.Nodup ∧ ∀ k ∈ t.lent, k ∉ t.own := by
    unfold backD at hb
    split at hb
    · rename_i hc; exact hc.1
    · cases hb
  have hlh := giveTs_there hg
  have hnd := (rbs_nodup M hcond.1 g3).sublist g2
  have hnv : ∀ b ∈ L, ¬ lentV V m t.lent b := fun b hbL => rbs_notLent M g3 hcond.2 hlh b (g2.subset hbL)
  have hsz : ∀ b, lentV V m t.lent b → b < w.heap.size := by
    rintro b (hv | hv)
    · exact (M.vsz b hv).1
    · simp only [rbs, List.mem_filterMap, Option.bind_eq_some_iff] at hv
      obtain ⟨k, hk', i, hi, hib⟩ := hv
      obtain ⟨bl, hbl⟩ := Option.isSome_iff_exists.1 (hlh k hk')
      obtain ⟨i', e1, e2⟩ := M.heap k bl hbl
      rw [hi] at e1; cases e1
      exact e2.lt hib
  have hgl : GlobRep (lentV V m t.lent) w G := fun gg cells e =>
    let ⟨a1, f1, a2, a3⟩ := M.glob gg cells e
    ⟨.inl a1, f1, a2, fun j c hj => (a3 j c hj).mono (lentV_left V m t.lent) (kept_refl _ _)⟩
  intro next Q k
  unfold Oper.wp
  rw [exec_call ho h1 h2 hk.1 w, Oper.upon_enter]
  refine Calls.mono (hk.2 _ w _ L g1 hnd hnv hsz hgl) fun e w' hR => ?_
  obtain ⟨v, V', L', rfl, r1, r2, r3, r4, r5, r6⟩ := hR
  obtain ⟨m1, V1, t1, M1, x1, v1, k1⟩ := back_sound M hu hb g3 hlh g2 g4 g5 (giveTs_els hg) r1 r2 r3 r4 r5 r6
  exact k v w' V1 m1 t1 M1 x1 v1 k1

/-- A block is still from now on. -/
theorem MRel.frz {k : Key} {b : Blk} (M : MRel G V0 L0 w0 U V m h w) (hk : h k = some b) : MRel G V0 L0 w0 U (lentV V m [k]) m (updH h k (some b.still)) w := by
  obtain ⟨ik, hik, hbk⟩ := M.heap k b hk
  have hV : ∀ x, V x → lentV V m [k] x := lentV_left V m [k]
  have hl : ∀ x, lentV V m [k] x → V x ∨ ik.rb = some x := fun x hx => by
    rcases hx with hx | hx
    · exact .inl hx
    · simp only [rbs, List.filterMap_cons, List.filterMap_nil, hik, Option.bind_some] at hx
      split at hx
      · cases hx
      · rename_i y hy
        simp only [List.mem_singleton] at hx
        subst hx; exact .inr hy
  have old : ∀ j x, j ≠ k → updH h k (some b.still) j = some x → h j = some x := fun j x hne e => by simpa [updH, hne] using e
  have ek : ∀ x, updH h k (some b.still) k = some x → x = b.still := fun x e => by simpa [updH] using e.symm
  have hmust : b.still.mu = false := by cases b <;> rfl
  refine ⟨fun j x e => ?_, ?_, ?_, ?_, M.gen, ?_, fun x hx => hV x (M.v0 x hx), ?_, M.frame⟩
  · by_cases hj : j = k
    · subst hj
      rw [ek x e]
      refine ⟨ik, hik, ?_⟩
      have := hbk.mono (m' := m) (V' := lentV V m [j]) (fun _ _ h => h) hV (kept_refl _ _) (fun _ _ => rfl)
      cases this with
      | box h0 hb hh hl => exact .box h0 hb hh hl
      | nil hw hb hc => exact .nil hw hb hc
      | arr hw hb hh h1 h2 h3 => exact .arr hw hb hh h1 h2 h3
    · obtain ⟨i, hi, hr⟩ := M.heap j x (old j x hj e)
      exact ⟨i, hi, hr.mono (fun _ _ h => h) hV (kept_refl _ _) (fun _ _ => rfl)⟩
  · intro k1 k2 b1 b2 i1 i2 r e1 e2 m1 m2
    have n1 : k1 ≠ k := fun hh => by subst hh; rw [ek _ e1, hmust] at m1; cases m1
    have n2 : k2 ≠ k := fun hh => by subst hh; rw [ek _ e2, hmust] at m2; cases m2
    exact M.inj k1 k2 b1 b2 i1 i2 r (old _ _ n1 e1) (old _ _ n2 e2) m1 m2
  · intro k1 b1 i1 r e1 m1 q1 r1
    have n1 : k1 ≠ k := fun hh => by subst hh; rw [ek _ e1, hmust] at m1; cases m1
    obtain ⟨a1, a2⟩ := M.mine k1 b1 i1 r (old _ _ n1 e1) m1 q1 r1
    refine ⟨fun hv => ?_, a2⟩
    rcases hl r hv with hv | hv
    · exact a1 hv
    · by_cases hmu : b.mu = true
      · exact n1 (M.inj k1 k b1 b i1 ik r (old _ _ n1 e1) hk m1 hmu q1 hik r1 hv)
      · exact a1 (M.imm k b ik r hk (by simpa using hmu) hik hv)
  · intro k1 b1 i1 r e1 m1 q1 r1
    by_cases hj : k1 = k
    · subst hj
      rw [hik] at q1; cases q1
      refine .inr ?_
      simp [rbs, hik, r1]
    · exact hV r (M.imm k1 b1 i1 r (old _ _ hj e1) m1 q1 r1)
  · intro x hx
    rcases hl x hx with hx | hx
    · exact M.vsz x hx
    · refine ⟨hbk.lt hx, ?_⟩
      by_cases hmu : b.mu = true
      · exact .inr (M.mine k b ik x hk hmu hik hx).2
      · exact (M.vsz x (M.imm k b ik x hk (by simpa using hmu) hik hx)).2
  · intro g cells e
    obtain ⟨a1, f, a2, a3⟩ := M.glob g cells e
    exact ⟨hV g a1, f, a2, fun j x hx => (a3 j x hx).mono hV (kept_refl _ _)⟩

/-- What is known of room is so. -/
def CapsOk (G : Glob) (m0 : KM) : Prop := ∀ k c, G.caps k = some c → ∃ i, m0 k = some i ∧ i.cap = c

theorem cap_sound {m0 : KM} (hC : CapsOk G m0) (x0 : Ext m0 m) (M : MRel G V0 L0 w0 U V m h w) {ρ : Operand → Value} {o : Oper} {x : Operand} {t e : TypeId} {k : Key} {r n c : Nat}
    (ho : o.op = .call { callee := .builtin .cap, args := #[x], argTypes := #[t] }) (ht : (ti P t).kind = .slice e) (hx : TRep m V w (ρ x) (.c (.ref k r n))) (hc : G.caps k = some c) :
    Does P G V0 L0 w0 U V m h w (execOp ρ o) g ⟨.c (.p (.int .i64 (c - r : Nat))), [], []⟩ := by
  obtain ⟨i, hi, rfl⟩ := hC k c hc
  have hu := kind_slice ht
  generalize hv : ρ x = v at hx
  cases hx with | c hx => cases hx with
  | @ref _ ki a _ _ hm hrc hae =>
    rw [x0 _ _ hi] at hm; cases hm
    exact Does.pure M (v := .int .i64 (i.cap - r : Nat)) (by simp [execOp, ho, resolve, invoke, builtin, hv, Builtin.cap_, run_underlying hu, goInt]) .int

theorem run_overlaps_zero {tS tR e : TypeId} (ht : P.underlying tS = some (.slice e)) {size : Nat} (hz : ∀ w, (Go.sizeOf e).run P w = .ok size w) {a b : Option Addr} {la ca lb cb : Nat} (h0 : la = 0 ∨ lb = 0 ∨ size = 0) :
    (Extern.SlicesOverlaps.overlaps #[tS, tS] #[tR] #[.slice a la ca, .slice b lb cb]).run P w = .ok (.bool false) w := by
  change Sem.run P (α := Value) (do
    let some t := (#[tS, tS] : Array TypeId)[0]? | stuck "slices.overlaps: no parameter types"
    let .slice elem ← underlying t | stuck "slices.overlaps: slice type expected"
    let size ← sizeOf elem
    match a, b with
    | some a, some b =>
      if la = 0 ∨ lb = 0 ∨ size = 0 then pure (Value.bool false)
      else if a.block != b.block && (← frozen a) && (← frozen b) then unsupported .addressObserved
      else do
        if a.block != b.block then do
          noView a; noView b
          if ← mayBeOne a b then return Value.bool ((← choose (.extern "sameAddr.stringBytes" 2)) == 1)
        pure (Value.bool (a.block == b.block && a.off < b.off + lb * size && b.off < a.off + la * size))
    | _, _ => pure (Value.bool false)) w = _
  cases a <;> cases b <;> simp [run_underlying ht, hz, h0]

theorem over_sound (M : MRel G V0 L0 w0 U V m h w) {ρ : Operand → Value} {o : Oper} {f : Nat} {fn : Func} {tS tR e : TypeId} {z x y : Operand} {kx ky : Key} {rx nx ry ny wx wy : Nat} {lx ly : List (List PV)} {ts : Array TypeId}
    (ho : o.op = .call { callee := .value z, args := #[x, y], argTypes := ts }) (hz : TRep m V w (ρ z) (.c (.p (.clo f []))) ∨ TRep m V w (ρ z) (.c (.fn f []))) (hf : P.funcs[f]? = some fn)
    (hn : (fn.name == "runtime.NumGoroutine") = false) (hb : fn.body.isNone = true) (h1 : Extern.findNext fn = none) (h2 : Extern.find fn = some (Extern.SlicesOverlaps.overlaps #[tS, tS] #[tR])) (ht : (ti P tS).kind = .slice e)
    (hx : TRep m V w (ρ x) (.c (.ref kx rx nx))) (hy : TRep m V w (ρ y) (.c (.ref ky ry ny))) (hkx : h kx = some (.arr true wx lx)) (hky : h ky = some (.arr true wy ly)) (hne : kx ≠ ky)
    (hlx : rx + nx ≤ lx.length) (hly : ry + ny ≤ ly.length) (hok : (ti P e).ok = true) (hwy : wy ≠ 0) :
    Does P G V0 L0 w0 U V m h w (execOp ρ o) g ⟨.c (.p (.bool false)), [], [kx, ky]⟩ := by
  have hu := kind_slice ht
  have hfn : ρ z = .func (.func f) #[] #[] := by
    generalize hvz : ρ z = vz at hz
    rcases hz with hz | hz
    · cases hz with | c hz => cases hz with | p hz => cases hz with | clo _ _ b o gv cs hs =>
      have : cs = #[] := by simpa using hs
      rw [this]
    · cases hz with | c hz => cases hz with | @fn _ _ cs hs hk =>
      have : cs = #[] := by simpa using hs
      rw [this]
  obtain ⟨i, dd, hi, _, hsz, _⟩ := ti_ok hok
  generalize hvx : ρ x = vx at hx
  generalize hvy : ρ y = vy at hy
  have fin : (Extern.SlicesOverlaps.overlaps #[tS, tS] #[tR] #[vx, vy]).run P w = .ok (.bool false) w → Does P G V0 L0 w0 U V m h w (execOp ρ o) g ⟨.c (.p (.bool false)), [], [kx, ky]⟩ := by
    intro hr
    refine Does.pure M (v := .bool false) ?_ .bool
    have := run_callFunc_extern (P := P) hf hn hb h1 h2 #[vx, vy] w
    rw [hr] at this
    simp [execOp, ho, resolve, invoke, Deferred.ofValue, hfn, hvx, hvy, this]
  cases hx with | c hx => cases hx with
  | @ref _ kix ax _ _ hmx hrcx haex =>
  cases hy with | c hy => cases hy with
  | @ref _ kiy ay _ _ hmy hrcy haey =>
  obtain ⟨kix', hmx', hrepx⟩ := M.heap _ _ hkx
  rw [hmx] at hmx'; cases hmx'
  obtain ⟨kiy', hmy', hrepy⟩ := M.heap _ _ hky
  rw [hmy] at hmy'; cases hmy'
  refine fin ?_
  by_cases h0 : nx = 0 ∨ ny = 0
  · have h0' : nx = 0 ∨ ny = 0 ∨ i.size = 0 := by omega
    exact run_overlaps_zero hu (fun w => run_sizeOf' hi w) h0'
  · cases hrepx with
    | nil => simp at hlx; omega
    | @arr _ _ _ bx arrx elemx hwx hbx hhx hsx hclx hrx =>
    cases hrepy with
    | nil => simp at hly; omega
    | @arr _ _ _ by' arry elemy hwy' hby hhy hsy hcly hry =>
    have e1 := haex (by omega)
    have e2 := haey (by omega)
    rw [hbx] at e1; rw [hby] at e2
    simp only [Option.map_some] at e1 e2
    subst e1; subst e2
    have hbb : bx ≠ by' := fun e => hne (M.inj kx ky _ _ kix kiy bx hkx hky rfl rfl hmx hmy hbx (e ▸ hby))
    have hsxs : w.shape? bx = some (elemx, arrx.size) := by simp [World.shape?, hhx]
    have hsys : w.shape? by' = some (elemy, arry.size) := by simp [World.shape?, hhy]
    have hpos : arry.size ≠ 0 := by
      have := hsy.le
      have h3 := hsy.pos
      have : 1 * 1 ≤ kiy.cap * wy := Nat.mul_le_mul h3 (by omega)
      omega
    exact Lib.run_overlaps_apart w tS tR e hu i.size (fun w => run_sizeOf' hi w) _ _ nx _ ny _ hbb elemx elemy _ _ hsxs hsys hpos (frozen_of hhx _) (frozen_of hhx _)

/-- append, where nobody turns the elements from now on. -/
theorem keep_sound (M : MRel G V0 L0 w0 U V m h w) {ρ : Operand → Value} {o : Oper} {x y : Operand} {t u e : TypeId} {k : Key} {r n W : Nat} {l src : List (List PV)} {ks : List Key} {ty : TV}
    (ho : o.op = .call { callee := .builtin .append, args := #[x, y], argTypes := #[t, u] }) (hk : (ti P t).kind = .slice e) (hu : (ti P u).ok = true ∧ (ti P u).kind.isInt = false)
    (hx : TRep m V w (ρ x) (.c (.ref k r n))) (hh : h k = some (.arr true W l)) (hy : TRep m V w (ρ y) ty) (hsrc : rowsOf h ty = some (src, ks))
    (he : (ti P e).ok = true ∧ (ti P e).zero.length = (ti P e).size ∧ allW (ti P e).size src = true) (hw : W = (ti P e).size ∧ r + n = l.length) (hs : (n + src.length) * (ti P e).bytes ≤ maxRows ∧ n + src.length ≤ maxRows) (hug : ¬ U g) :
    Does P G V0 L0 w0 U V m h w (execOp ρ o) g ⟨.c (.p (.rows (l.drop r ++ src))), [(k, some (.arr false W l))], k :: ks⟩ := by
  obtain ⟨dsc, hu, hni⟩ := kind_notInt hu.1 hu.2
  have lift : ∀ {v w'}, (Builtin.append_ #[t, u] o.type #[ρ x, ρ y]).run P w = .ok v w' → (execOp ρ o).run P w = .ok (.value v) w' := by
    intro v w' e
    simp [execOp, ho, resolve, invoke, builtin, e]
  have ht := kind_slice hk
  obtain ⟨hok, hzl, hall⟩ := he
  obtain ⟨i, z, hi, hz, hzc⟩ := ti_zero hok hzl
  obtain ⟨i', dd, hi', _, hsz, hby, _⟩ := ti_ok hok
  rw [hi] at hi'; cases hi'
  rw [hsz] at hall hw
  rw [hby] at hs
  obtain ⟨rfl, hrn⟩ := hw
  obtain ⟨ay, capy, cs, hvy, hcapy, hps, hread⟩ := rows_read (P := P) M hy hsrc hall
  have hcl : cs.length = src.length * i.size := by rw [hps.length, flat_length hall]
  have hnew := hread src.length (Nat.le_refl _)
  rw [List.take_of_length_le (by omega)] at hnew
  have hlen : (Builtin.lenOf (ρ y)).run P w = .ok src.length w := by rw [hvy]; exact lenOf_run _ _ _ _
  have M1 : MRel G V0 L0 w0 U V m h w.drew := M.same rfl rfl rfl rfl
  have hy1 : TRep m V w.drew (ρ y) ty := hy.mono (fun _ _ h => h) (fun _ h => h) (drew_kept w)
  obtain ⟨ay1, capy1, cs1, _, _, hps1, hread1⟩ := rows_read (P := P) M1 hy1 hsrc hall
  have hcl1 : cs1.length = src.length * i.size := by rw [hps1.length, flat_length hall]
  have hnewd := hread1 src.length (Nat.le_refl _)
  rw [List.take_of_length_le (by omega)] at hnewd
  generalize hv : ρ x = v at hx
  have hro : rowsOf h (.c (.ref k r n)) = some (l.drop r, [k]) := by
    have : (l.drop r).take n = l.drop r := List.take_of_length_le (by simp; omega)
    simp only [rowsOf, hh, if_pos (show r + n ≤ l.length by omega), this]
  have hxr := hx
  cases hx with | c hx => cases hx with
  | @ref _ ki a _ _ hm hrc hae =>
  obtain ⟨ki', hm', hrep⟩ := M.heap _ _ hh
  rw [hm] at hm'; cases hm'
  have hkw : ki.w = i.size := by cases hrep <;> assumption
  by_cases h0 : src.length = 0
  · have hsn : src = [] := List.length_eq_zero_iff.1 h0
    have hcs : cs = [] := by rw [← List.length_eq_zero_iff, hcl, h0]; simp
    rw [h0] at hlen hnew
    have hfit : n ≤ ki.cap - r := by omega
    refine ⟨_, .slice a n (ki.cap - r), w, lentV V m [k], m, lift ?_, .inl rfl, ?_, (by simpa [putH, Blk.still] using (M.frz hh).used fun _ h => .inl h), fun _ _ h => h, lentV_left V m [k], ⟨fun _ _ => rfl⟩⟩
    · rw [hv]
      cases a <;> simp [Builtin.append_, run_underlying ht, run_underlying hu, run_sizeOf' hi, hlen, hnew, hfit, hcs, storeCells]
    · rw [hsn, List.append_nil]
      exact .c (.p (rowsOf_lend M hxr hro (fun _ h => h)))
  · by_cases hfit : n + src.length ≤ ki.cap - r
    · cases hrep with
      | nil _ _ hc => omega
      | @arr _ _ _ b arr elem _ hb hheap hsr hcapl hr =>
      have haddr := hae (by omega)
      rw [hb, hkw] at haddr
      simp only [Option.map_some] at haddr
      have hcapm : (r + n + src.length) * i.size ≤ ki.cap * i.size := Nat.mul_le_mul_right _ (by omega)
      rw [Nat.add_mul, Nat.add_mul] at hcapm
      have hsle := hsr.le
      have hle : ki.base + r * i.size + n * i.size + cs.toArray.size ≤ arr.size := by simp [hcl]; omega
      have hrun := append_fits (P := P) (w := w) (ty := o.type) (o' := ki.base + r * i.size) (n := n) (cap := ki.cap - r) ht hi hu hni hlen hfit hnew hheap hle (by simpa using hps.one)
      obtain ⟨hcells, hallw⟩ := hr.flat
      have hkp : Kept V w (w.setRow b (setAt arr.toList (ki.base + r * i.size + n * i.size) cs).toArray) := kept_setRow (M.mine k _ ki b hh rfl hm hb).1 _
      have hll : l.length * i.size = r * i.size + n * i.size := by rw [← hrn, Nat.add_mul]
      have hlf := flat_length hallw
      have hold : CellsRep V w (setAt arr.toList (ki.base + r * i.size + n * i.size) cs).toArray ki.base l.flatten := by
        intro j c hj
        have hjl := (List.getElem?_eq_some_iff.1 hj).1
        obtain ⟨v, a1, a2⟩ := hcells _ _ hj
        refine ⟨v, ?_, a2⟩
        rw [List.getElem?_toArray, setAt_get _ _ _ _ (by simpa using hle), if_pos (by omega)]
        simpa using a1
      have hnewc : CellsRep V w (setAt arr.toList (ki.base + r * i.size + n * i.size) cs).toArray ki.base (l ++ src).flatten := by
        rw [List.flatten_append, CellsRep.append]
        refine ⟨hold, ?_⟩
        rw [hlf]
        exact hps.cells fun j x hj => by
          have hjl := (List.getElem?_eq_some_iff.1 hj).1
          rw [List.getElem?_toArray, setAt_get _ _ _ _ (by simpa using hle), if_neg (by omega), if_pos (by omega)]
          rw [show ki.base + l.length * i.size + j - (ki.base + r * i.size + n * i.size) = j by omega]
          exact hj
      have hsr' := hsr.setAt (c := ki.base + r * i.size + n * i.size) (by simpa using hle) hps.one
      obtain ⟨M', _⟩ := M.write hh rfl hm hb (setAt arr.toList (ki.base + r * i.size + n * i.size) cs).toArray (blk := .arr true i.size l)
        (.arr hkw hb (setRow_heap w b arr _ elem _ hheap) hsr' hcapl ((RowsRep.of_flat hold hallw).mono (fun _ h => h) hkp)) rfl
      rw [updH_self hh] at M'
      refine ⟨_, .slice (some ⟨b, ki.base + r * i.size, none⟩) (n + src.length) (ki.cap - r), _, lentV V m [k], m, lift (by rw [hv, haddr]; exact hrun), .inl rfl, ?_,
        (by simpa [putH, Blk.still] using (M'.frz hh).used fun _ h => .inl h), fun _ _ h => h, lentV_left V m [k], hkp⟩
      have hrr : RowsRep V (w.setRow b (setAt arr.toList (ki.base + r * i.size + n * i.size) cs).toArray) (setAt arr.toList (ki.base + r * i.size + n * i.size) cs).toArray ki.base i.size (l ++ src) :=
        (RowsRep.of_flat hnewc (allW_append hallw hall)).mono (fun _ h => h) hkp
      have hsub := hrr.sub (r := r) (n := n + src.length)
      have hdr : ((l ++ src).drop r).take (n + src.length) = l.drop r ++ src := by
        rw [List.drop_append_of_le_length (by omega)]
        exact List.take_of_length_le (by simp; omega)
      rw [hdr] at hsub
      have hlen2 : (l.drop r ++ src).length = n + src.length := by simp; omega
      have := rows_lend (V' := lentV V m [k]) (cap := ki.cap - r) (lentV_left V m [k]) (.inr (by simp [rbs, hm, hb])) (setRow_heap w b arr _ elem _ hheap) hsub (by rw [hlen2]; omega)
      rw [hlen2] at this
      exact .c (.p this)
    · have hsubW : allW i.size (l.drop r) = true := by
        cases hrep with
        | nil => simp [allW]
        | arr _ _ _ _ _ hr => exact allW_drop _ hr.flat.2
      have hx1 : TRep m V w.drew (.slice a n (ki.cap - r)) (.c (.ref k r n)) := hxr.mono (fun _ _ h => h) (fun _ h => h) (drew_kept w)
      obtain ⟨ax, capx, cs0, hvx, _, hps0, hread0⟩ := rows_read (P := P) M1 hx1 hro hsubW
      have hdl : (l.drop r).length = n := by simp; omega
      have hcl0 : cs0.length = n * i.size := by rw [hps0.length, flat_length hsubW, hdl]
      have hold := hread0 n (by omega)
      rw [List.take_of_length_le (by omega)] at hold
      have hzone : ∀ q v, v ∈ (Builtin.zeroCells z.cells q).toList → v.oneCell' = true := fun q v hv => (zcells_rep (m := m) (V := V) (w := w) _ _ hzc).one _ (zero_mem hv)
      have hzs : z.cells.size = i.size := by
        have := (zcells_rep (m := m) (V := V) (w := w) _ _ hzc).length
        simp at this; omega
      obtain ⟨nc, hnc, hrun⟩ := append_grow (P := P) (w := w) (ty := o.type) (base := a) (n := n) (cap := ki.cap - r) ht hi hz hu hni hlen (by omega) hs.1 hs.2 hold hnewd
      obtain ⟨m', M', hx', hkp, hrep'⟩ := newRows (s := 0) (t := e) (arr := cs0.toArray ++ cs1.toArray ++ Builtin.zeroCells z.cells (nc - (n + src.length))) M1 hug (cap := nc) (W := i.size)
        (rs := l.drop r ++ src)
        (by rw [List.flatten_append]; exact (hps0.append hps1).first (rest := (Builtin.zeroCells z.cells (nc - (n + src.length))).toList) (by simp)) (allW_append hsubW hall)
        (by simp [zeroCells_size, hzs, hcl1, hcl0]; rw [← Nat.add_mul, ← Nat.add_mul]; exact Nat.mul_le_mul_right _ (by omega))
        (by
          intro v hv
          simp only [Array.toList_append, List.mem_append] at hv
          rcases hv with (hv | hv) | hv
          · exact hps0.one v (by simpa using hv)
          · exact hps1.one v (by simpa using hv)
          · exact hzone _ v hv) (by simp; omega)
      have hfresh : h ⟨0, g⟩ = none := by
        cases e : h ⟨0, g⟩ with
        | none => rfl
        | some b => obtain ⟨i, hi, _⟩ := M.heap _ _ e; exact absurd (M.gen _ i hi) hug
      have hnk : (⟨0, g⟩ : Key) ≠ k := fun e => by rw [← e, hfresh] at hh; cases hh
      have hnew : updH h ⟨0, g⟩ (some (.arr true i.size (l.drop r ++ src))) ⟨0, g⟩ = some (.arr true i.size (l.drop r ++ src)) := by simp [updH]
      have hval := rowsOf_lend (lent := [⟨0, g⟩]) M' (hrep' (n + src.length) (by omega)) (rs := l.drop r ++ src) (ks := [⟨0, g⟩]) (by
        have : (l.drop r ++ src).take (n + src.length) = l.drop r ++ src := List.take_of_length_le (by simp; omega)
        simp only [rowsOf, hnew, Nat.zero_add, List.drop_zero, this]
        rw [if_pos (by simp; omega)]) (fun _ h => h)
      have M2 := (M'.frz hnew).drop ⟨0, g⟩
      have heq : updH (updH (updH h ⟨0, g⟩ (some (.arr true i.size (l.drop r ++ src)))) ⟨0, g⟩ (some (Blk.still (.arr true i.size (l.drop r ++ src))))) ⟨0, g⟩ none = h := by
        funext j
        simp only [updH]
        split
        · rename_i e; rw [e, hfresh]
        · rfl
      rw [heq] at M2
      have M3 := M2.frz hh
      refine ⟨_, _, _, lentV (lentV V m' [⟨0, g⟩]) m' [k], m', lift (by rw [hv]; exact hrun), .inl rfl, .c (.p (hval.mono (lentV_left _ m' [k]) (kept_refl _ _))), by simpa [putH, Blk.still] using M3, hx', fun b hb => Or.inl (Or.inl hb), ⟨fun b hb => (hkp.same b hb)⟩⟩

/-- append, where it is known that there is not room enough: what was there stays. -/
theorem grow_sound {m0 : KM} (hC : CapsOk G m0) (x0 : Ext m0 m) (M : MRel G V0 L0 w0 U V m h w) {ρ : Operand → Value} {o : Oper} {x y : Operand} {t u e : TypeId} {k : Key} {r n W s c : Nat} {mu : Bool} {l src : List (List PV)} {ks : List Key} {ty : TV}
    (ho : o.op = .call { callee := .builtin .append, args := #[x, y], argTypes := #[t, u] }) (hk : (ti P t).kind = .slice e) (hu : (ti P u).ok = true ∧ (ti P u).kind.isInt = false)
    (hx : TRep m V w (ρ x) (.c (.ref k r n))) (hh : h k = some (.arr mu W l)) (hy : TRep m V w (ρ y) ty) (hsrc : rowsOf h ty = some (src, ks))
    (he : (ti P e).ok = true ∧ (ti P e).zero.length = (ti P e).size ∧ allW (ti P e).size src = true) (hw : W = (ti P e).size ∧ r + n ≤ l.length) (hc : G.caps k = some c) (hgt : c < r + n + src.length)
    (hs : (n + src.length) * (ti P e).bytes ≤ maxRows ∧ n + src.length ≤ maxRows) (hug : ¬ U g) :
    Does P G V0 L0 w0 U V m h w (execOp ρ o) g ⟨.c (.ref ⟨s, g⟩ 0 (n + src.length)), [(⟨s, g⟩, some (.arr true W ((l.drop r).take n ++ src)))], k :: ks⟩ := by
  obtain ⟨kc, hkc, rfl⟩ := hC k c hc
  obtain ⟨dsc, hu, hni⟩ := kind_notInt hu.1 hu.2
  have lift : ∀ {v w'}, (Builtin.append_ #[t, u] o.type #[ρ x, ρ y]).run P w = .ok v w' → (execOp ρ o).run P w = .ok (.value v) w' := by
    intro v w' e
    simp [execOp, ho, resolve, invoke, builtin, e]
  have ht := kind_slice hk
  obtain ⟨hok, hzl, hall⟩ := he
  obtain ⟨i, z, hi, hz, hzc⟩ := ti_zero hok hzl
  obtain ⟨i', dd, hi', _, hsz, hby, _⟩ := ti_ok hok
  rw [hi] at hi'; cases hi'
  rw [hsz] at hall hw
  rw [hby] at hs
  obtain ⟨rfl, hrn⟩ := hw
  obtain ⟨ay, capy, cs, hvy, hcapy, hps, hread⟩ := rows_read (P := P) M hy hsrc hall
  have hcl : cs.length = src.length * i.size := by rw [hps.length, flat_length hall]
  have hlen : (Builtin.lenOf (ρ y)).run P w = .ok src.length w := by rw [hvy]; exact lenOf_run _ _ _ _
  have M1 : MRel G V0 L0 w0 U V m h w.drew := M.same rfl rfl rfl rfl
  have hy1 : TRep m V w.drew (ρ y) ty := hy.mono (fun _ _ h => h) (fun _ h => h) (drew_kept w)
  obtain ⟨ay1, capy1, cs1, _, _, hps1, hread1⟩ := rows_read (P := P) M1 hy1 hsrc hall
  have hcl1 : cs1.length = src.length * i.size := by rw [hps1.length, flat_length hall]
  have hnewd := hread1 src.length (Nat.le_refl _)
  rw [List.take_of_length_le (by omega)] at hnewd
  generalize hv : ρ x = v at hx
  have hro : rowsOf h (.c (.ref k r n)) = some ((l.drop r).take n, [k]) := by
    simp only [rowsOf, hh, if_pos hrn]
  have hxr := hx
  cases hx with | c hx => cases hx with
  | @ref _ ki a _ _ hm hrc hae =>
  rw [x0 _ _ hkc] at hm; cases hm
  obtain ⟨ki', hm', hrep⟩ := M.heap _ _ hh
  rw [x0 _ _ hkc] at hm'; cases hm'
  have hkw : kc.w = i.size := by cases hrep <;> assumption
  have hsubW : allW i.size ((l.drop r).take n) = true := by
    cases hrep with
    | nil => simp [allW]
    | arr _ _ _ _ _ hr => exact allW_take _ (allW_drop _ hr.flat.2)
  have hx1 : TRep m V w.drew (.slice a n (kc.cap - r)) (.c (.ref k r n)) := hxr.mono (fun _ _ h => h) (fun _ h => h) (drew_kept w)
  obtain ⟨ax, capx, cs0, hvx, _, hps0, hread0⟩ := rows_read (P := P) M1 hx1 hro hsubW
  have hdl : ((l.drop r).take n).length = n := by rw [List.length_take, List.length_drop]; omega
  have hcl0 : cs0.length = n * i.size := by rw [hps0.length, flat_length hsubW, hdl]
  have hold := hread0 n (by omega)
  rw [List.take_of_length_le (by omega)] at hold
  have hzone : ∀ q v, v ∈ (Builtin.zeroCells z.cells q).toList → v.oneCell' = true := fun q v hv => (zcells_rep (m := m) (V := V) (w := w) _ _ hzc).one _ (zero_mem hv)
  have hzs : z.cells.size = i.size := by
    have := (zcells_rep (m := m) (V := V) (w := w) _ _ hzc).length
    simp at this; omega
  obtain ⟨nc, hnc, hrun⟩ := append_grow (P := P) (w := w) (ty := o.type) (base := a) (n := n) (cap := kc.cap - r) ht hi hz hu hni hlen (by omega) hs.1 hs.2 hold hnewd
  obtain ⟨m', M', hx', hkp, hrep'⟩ := newRows (s := s) (t := e) (arr := cs0.toArray ++ cs1.toArray ++ Builtin.zeroCells z.cells (nc - (n + src.length))) M1 hug (cap := nc) (W := i.size)
    (rs := (l.drop r).take n ++ src)
    (by rw [List.flatten_append]; exact (hps0.append hps1).first (rest := (Builtin.zeroCells z.cells (nc - (n + src.length))).toList) (by simp)) (allW_append hsubW hall)
    (by simp [zeroCells_size, hzs, hcl1, hcl0]; rw [← Nat.add_mul, ← Nat.add_mul]; exact Nat.mul_le_mul_right _ (by omega))
    (by
      intro v hv
      simp only [Array.toList_append, List.mem_append] at hv
      rcases hv with (hv | hv) | hv
      · exact hps0.one v (by simpa using hv)
      · exact hps1.one v (by simpa using hv)
      · exact hzone _ v hv) (by rw [List.length_append, hdl]; omega)
  exact ⟨_, _, _, V, m', lift (by rw [hv]; exact hrun), .inl rfl, hrep' (n + src.length) (by omega), by simpa [putH] using M', hx', fun b hb => hb, ⟨fun b hb => (hkp.same b hb)⟩⟩

theorem step_sound {m0 : KM} (hC : CapsOk G m0) (x0 : Ext m0 m) {S : St} {a : Act} {o : Oper} {idx : Nat} {d : Dl} (M : MRel G V0 L0 w0 U V m S.heap w) (E : ERel m V w a.tmps S.env) (hu : ¬ U g) (hd : StepD P G o idx g S d) :
    Goes P G V0 L0 w0 U V m S.heap w a o g d := by
  cases hd with
  | op h => exact (stepF_sound M E hu h).goes
  | call ho hc hg hk hb => exact call_sound M E hu ho hc hg hk hb
  | cap ho ht hx hc => exact (cap_sound hC x0 M ho ht (by rw [← hx]; exact ev_rep E M.glob _) hc).goes
  | keep ho ht hu' hx hk hy he hw hs =>
    exact (keep_sound M ho ht hu' (by rw [← hx]; exact ev_rep E M.glob _) hk (ev_rep E M.glob _) hy he hw hs hu).goes
  | grow ho ht hu' hx hk hy he hw hc hg hs =>
    exact (grow_sound hC x0 M ho ht hu' (by rw [← hx]; exact ev_rep E M.glob _) hk (ev_rep E M.glob _) hy he hw hc hg hs hu).goes
  | over ho hz hf hn hb h1 h2 ht hx hy hkx hky hne hlx hly hok hwy =>
    exact (over_sound M ho (hz.imp (fun h => by rw [← h]; exact ev_rep E M.glob _) fun h => by rw [← h]; exact ev_rep E M.glob _) hf hn hb h1 h2 ht (by rw [← hx]; exact ev_rep E M.glob _) (by rw [← hy]; exact ev_rep E M.glob _) hkx hky hne hlx hly hok hwy).goes

end
end Go.Sh
end
section
namespace Go.Sh

section
variable {P : Program} {G : Glob} {h h' : Key → Option Blk}

theorem rowsOf_local {x : TV} {rs ks} (hd : rowsOf h x = some (rs, ks)) (ha : ∀ k ∈ ks, h k = h' k) : rowsOf h' x = some (rs, ks) := by
  unfold rowsOf at hd ⊢
  split at hd
  · exact hd
  · exact hd
  · split at hd
    · rename_i hh
      split at hd
      · rename_i hc
        cases hd
        have := ha _ (List.mem_singleton.2 rfl)
        simp only [← this, hh, if_pos hc]
      · cases hd
    · cases hd
  · split at hd
    · rename_i hh
      split at hd
      · rename_i hc
        simp only [Option.map_eq_some_iff] at hd
        obtain ⟨ps, hp, hd⟩ := hd
        cases hd
        have := ha _ (List.mem_singleton.2 rfl)
        simp only [← this, hh, if_pos hc, hp, Option.map_some]
      · cases hd
    · cases hd
  · cases hd

theorem loadV_local {I : TI} {x : TV} {d} (hd : loadV I h x = some d) (ha : ∀ k ∈ d.rd, h k = h' k) : loadV I h' x = some d := by
  unfold loadV at hd ⊢
  split at hd
  · split at hd
    · rename_i hh
      split at hd
      · rename_i hc
        simp only [Option.map_eq_some_iff] at hd
        obtain ⟨v, hv, rfl⟩ := hd
        have := ha _ (List.mem_singleton.2 rfl)
        simp only [← this, hh, if_pos hc, hv, Option.map_some]
      · cases hd
    · rename_i hh
      simp only [Option.map_eq_some_iff, Option.bind_eq_some_iff] at hd
      obtain ⟨row, hrow, v, hv, rfl⟩ := hd
      have := ha _ (List.mem_singleton.2 rfl)
      simp only [← this, hh, hrow, Option.bind_some, hv, Option.map_some]
    · cases hd
  · exact hd
  · cases hd

theorem storeV_local {I : TI} {x a : TV} {d} (hd : storeV I h x a = some d) (ha : ∀ k ∈ d.rd, h k = h' k) : storeV I h' x a = some d := by
  unfold storeV at hd ⊢
  split at hd
  · split at hd
    · rename_i hh hc
      split at hd
      · rename_i h1
        cases hd
        have := ha _ (List.mem_singleton.2 rfl)
        simp only [← this, hh, hc, if_pos h1]
      · cases hd
    · rename_i hh hc
      split at hd
      · rename_i h1 h2
        split at hd
        · rename_i h3
          cases hd
          have := ha _ (List.mem_singleton.2 rfl)
          simp only [← this, hh, hc, h1, h2, if_pos h3]
        · cases hd
      · cases hd
    · cases hd
  · cases hd

theorem indexAddrV_local {I : TI} {x i : TV} {d} (hd : indexAddrV P I h x i = some d) (ha : ∀ k ∈ d.rd, h k = h' k) : indexAddrV P I h' x i = some d := by
  unfold indexAddrV at hd ⊢
  split at hd
  · exact hd
  · exact hd
  · exact hd
  · split at hd
    · rename_i hh
      split at hd
      · rename_i h3
        cases hd
        have := ha _ (List.mem_singleton.2 rfl)
        simp only [← this, hh, if_pos h3]
      · cases hd
    · cases hd
  · split at hd
    · rename_i hh
      split at hd
      · rename_i h3
        cases hd
        have := ha _ (List.mem_singleton.2 rfl)
        simp only [← this, hh, if_pos h3]
      · cases hd
    · cases hd
  · cases hd

theorem sliceV_local {I : TI} {x : TV} {lo hi : Option TV} {d} (hd : sliceV P I h x lo hi = some d) (ha : ∀ k ∈ d.rd, h k = h' k) : sliceV P I h' x lo hi = some d := by
  unfold sliceV at hd ⊢
  split at hd
  · exact hd
  · exact hd
  · split at hd
    · rename_i hh
      simp only [Option.bind_eq_some_iff] at hd
      obtain ⟨a, e1, b, e2, hd⟩ := hd
      split at hd
      · rename_i h3
        cases hd
        have := ha _ (List.mem_singleton.2 rfl)
        simp only [← this, hh, e1, e2, Option.bind_some, if_pos h3]
      · cases hd
    · cases hd
  · exact hd
  · cases hd

theorem slice3V_local {I : TI} {x : TV} {lo : Option TV} {hi mx : TV} {d} (hd : slice3V P I h x lo hi mx = some d) (ha : ∀ k ∈ d.rd, h k = h' k) : slice3V P I h' x lo hi mx = some d := by
  unfold slice3V at hd ⊢
  split at hd
  · split at hd
    · rename_i hh
      simp only [Option.bind_eq_some_iff] at hd
      obtain ⟨a, e1, b, e2, c, e3, hd⟩ := hd
      split at hd
      · rename_i h3
        cases hd
        have := ha _ (List.mem_singleton.2 rfl)
        simp only [← this, hh, e1, e2, e3, Option.bind_some, if_pos h3]
      · cases hd
    · cases hd
  · cases hd

theorem appendTo_local {W bytes s g : Nat} {src ks} {x : TV} {d} (hd : appendTo h W bytes s g src ks x = some d) (ha : ∀ k ∈ d.rd, h k = h' k) : appendTo h' W bytes s g src ks x = some d := by
  unfold appendTo at hd ⊢
  split at hd
  · exact hd
  · split at hd
    · rename_i k r n _ w l hh
      have hk : k ∈ d.rd := by
        unfold appendRef at hd
        split at hd
        · split at hd
          · cases hd; simp
          · split at hd
            · cases hd; simp
            · cases hd
        · cases hd
      simp only [← ha k hk, hh]
      exact hd
    · cases hd
  · cases hd

theorem appendTo_rd {W bytes s g : Nat} {src : List (List PV)} {ks} {x : TV} {d} (hd : appendTo h W bytes s g src ks x = some d) : ∀ k ∈ ks, k ∈ d.rd := by
  unfold appendTo at hd
  split at hd
  · unfold appendNil at hd
    split at hd
    · cases hd; exact fun k hk => hk
    · cases hd
  · split at hd
    · unfold appendRef at hd
      split at hd
      · split at hd
        · cases hd; exact fun k hk => List.mem_cons_of_mem _ hk
        · split at hd
          · cases hd; exact fun k hk => List.mem_cons_of_mem _ hk
          · cases hd
      · cases hd
    · cases hd
  · cases hd

theorem copyTo_rd {W : Nat} {src : List (List PV)} {ks} {x : TV} {d} (hd : copyTo h W src ks x = some d) : ∀ k ∈ ks, k ∈ d.rd := by
  unfold copyTo at hd
  split at hd
  · cases hd; exact fun k hk => hk
  · split at hd
    · split at hd
      · cases hd; exact fun k hk => List.mem_cons_of_mem _ hk
      · cases hd
    · cases hd
  · split at hd
    · split at hd
      · cases hd; exact fun k hk => List.mem_cons_of_mem _ hk
      · cases hd
    · cases hd
  · cases hd

theorem copyTo_local {W : Nat} {src ks} {x : TV} {d} (hd : copyTo h W src ks x = some d) (ha : ∀ k ∈ d.rd, h k = h' k) : copyTo h' W src ks x = some d := by
  unfold copyTo at hd ⊢
  split at hd
  · exact hd
  · split at hd
    · rename_i hh
      split at hd
      · rename_i hc
        cases hd
        have := ha _ (List.mem_cons_self)
        simp only [← this, hh, if_pos hc]
      · cases hd
    · cases hd
  · split at hd
    · rename_i hh
      split at hd
      · rename_i hc
        cases hd
        have := ha _ (List.mem_cons_self)
        simp only [← this, hh, if_pos hc]
      · cases hd
    · cases hd
  · cases hd

theorem appendV_local {I : TI} {s g : Nat} {x y : TV} {d} (hd : appendV P I h s g x y = some d) (ha : ∀ k ∈ d.rd, h k = h' k) : appendV P I h' s g x y = some d := by
  unfold appendV at hd ⊢
  split at hd
  · simp only [Option.bind_eq_some_iff] at hd
    obtain ⟨⟨rs, ks⟩, hr, hd⟩ := hd
    split at hd
    · rename_i hc
      have hk := appendTo_rd hd
      rw [rowsOf_local hr fun k hk' => ha k (hk k hk')]
      simp only [Option.bind_some]
      rw [if_pos hc]
      exact appendTo_local hd ha
    · cases hd
  · cases hd

theorem copyV_local {I : TI} {x y : TV} {d} (hd : copyV P I h x y = some d) (ha : ∀ k ∈ d.rd, h k = h' k) : copyV P I h' x y = some d := by
  unfold copyV at hd ⊢
  split at hd
  · simp only [Option.bind_eq_some_iff] at hd
    obtain ⟨⟨rs, ks⟩, hr, hd⟩ := hd
    split at hd
    · rename_i hc
      have hk := copyTo_rd hd
      rw [rowsOf_local hr fun k hk' => ha k (hk k hk')]
      simp only [Option.bind_some]
      rw [if_pos hc]
      exact copyTo_local hd ha
    · cases hd
  · cases hd

theorem clearV_local {I : TI} {x : TV} {d} (hd : clearV P I h x = some d) (ha : ∀ k ∈ d.rd, h k = h' k) : clearV P I h' x = some d := by
  unfold clearV at hd ⊢
  split at hd
  · split at hd
    · split at hd
      · rename_i hc
        simp only [if_pos hc]
        split at hd
        · exact hd
        · split at hd
          · rename_i hh
            split at hd
            · rename_i hc2
              cases hd
              have := ha _ (List.mem_singleton.2 rfl)
              simp only [← this, hh, if_pos hc2]
            · cases hd
          · cases hd
        · cases hd
      · cases hd
    · cases hd
  · cases hd

theorem builtinV_local {s g : Nat} {b : Builtin} {ts : List TypeId} {xs : List TV} {d} (hd : builtinV P h s g b ts xs = some d) (ha : ∀ k ∈ d.rd, h k = h' k) : builtinV P h' s g b ts xs = some d := by
  unfold builtinV at hd ⊢
  split at hd
  · exact hd
  · split at hd
    · rename_i hc
      rw [if_pos hc]
      exact appendV_local hd ha
    · cases hd
  · exact copyV_local hd ha
  · exact clearV_local hd ha
  · exact hd
  · exact hd
  · cases hd


theorem capsOf_local : ∀ {ks : List Key} {cs}, capsOf h ks = some cs → (∀ k ∈ ks, h k = h' k) → capsOf h' ks = some cs
  | [], _, hc, _ => hc
  | k :: ks, cs, hc, ha => by
    unfold capsOf at hc ⊢
    rw [← ha k (by simp)]
    split at hc
    · simp only [Option.bind_eq_some_iff, Option.map_eq_some_iff] at hc
      obtain ⟨ps, hp, cs', hcs, rfl⟩ := hc
      simp only [hp, Option.bind_some, capsOf_local hcs fun k hk => ha k (by simp [hk]), Option.map_some]
    · cases hc

def Took.all (t : Took) : List Key := t.lent ++ t.own

theorem giveC_local {a : AV} {b t} (hg : giveC h a = some (b, t)) (ha : ∀ k ∈ t.all, h k = h' k) : giveC h' a = some (b, t) := by
  cases a <;> simp only [giveC, Option.map_eq_some_iff, Prod.mk.injEq, reduceCtorEq] at hg ⊢
  · exact hg
  · exact hg
  · obtain ⟨⟨rs, ks⟩, hr, rfl, rfl⟩ := hg
    exact ⟨_, rowsOf_local hr fun k hk => ha k (by simp [Took.all, hk]), rfl, rfl⟩
  · obtain ⟨⟨rs, ks⟩, hr, rfl, rfl⟩ := hg
    exact ⟨_, rowsOf_local hr fun k hk => ha k (by simp [Took.all, hk]), rfl, rfl⟩
  · obtain ⟨cs, hc, rfl, rfl⟩ := hg
    exact ⟨_, capsOf_local hc fun k hk => ha k (by simp [Took.all, hk]), rfl, rfl⟩

theorem giveIo_local {a : AV} {b t} (hg : giveIo h a = some (b, t)) (ha : ∀ k ∈ t.all, h k = h' k) : giveIo h' a = some (b, t) := by
  cases a with
  | ref k r n =>
    have hk : k ∈ t.all := by
      simp only [giveIo] at hg
      split at hg
      · split at hg
        · cases hg; simp [Took.all]
        · cases hg
      · split at hg
        · cases hg; simp [Took.all]
        · cases hg
      · cases hg
    simp only [giveIo, ← ha k hk]
    simpa only [giveIo] using hg
  | _ => exact hg

theorem giveL_local (f f' : AV → Option (BC × Took)) (hf : ∀ a b t, f a = some (b, t) → (∀ k ∈ t.all, h k = h' k) → f' a = some (b, t)) :
    ∀ {l : List AV} {bs t}, giveL f l = some (bs, t) → (∀ k ∈ t.all, h k = h' k) → giveL f' l = some (bs, t)
  | [], _, _, hg, _ => hg
  | a :: l, bs, t, hg, ha => by
    simp only [giveL, Option.bind_eq_some_iff, Option.map_eq_some_iff, Prod.mk.injEq] at hg ⊢
    obtain ⟨⟨b, t1⟩, hb, ⟨bs', t2⟩, hbs, rfl, rfl⟩ := hg
    refine ⟨_, hf _ _ _ hb fun k hk => ha k ?_, _, giveL_local f f' hf hbs fun k hk => ha k ?_, rfl, rfl⟩
    · simp only [Took.all, Took.add, List.mem_append] at hk ⊢; exact hk.elim (fun x => .inl (.inl x)) fun x => .inr (.inl x)
    · simp only [Took.all, Took.add, List.mem_append] at hk ⊢; exact hk.elim (fun x => .inl (.inr x)) fun x => .inr (.inr x)

theorem giveT_local {x : TV} {b t} (hg : giveT h x = some (b, t)) (ha : ∀ k ∈ t.all, h k = h' k) : giveT h' x = some (b, t) := by
  unfold giveT at hg ⊢
  split at hg
  · split at hg
    · rename_i hh
      simp only [Option.map_eq_some_iff, Prod.mk.injEq] at hg
      obtain ⟨⟨bs, t1⟩, hbs, rfl, rfl⟩ := hg
      rw [← ha _ (by simp [Took.all]), hh]
      simp only [giveL_local _ (giveIo h') (fun a b t e1 e2 => giveIo_local e1 e2) hbs fun k hk => ha k (by
        simp only [Took.all, List.mem_append, List.mem_cons] at hk ⊢; exact hk.elim .inl fun x => .inr (.inr x)), Option.map_some]
    · cases hg
  · exact hg
  · simp only [Option.map_eq_some_iff, Prod.mk.injEq] at hg ⊢
    obtain ⟨⟨bc, t1⟩, hbc, rfl, rfl⟩ := hg
    exact ⟨_, giveC_local hbc ha, rfl, rfl⟩
  · simp only [Option.map_eq_some_iff, Prod.mk.injEq] at hg ⊢
    obtain ⟨⟨bs, t1⟩, hbs, rfl, rfl⟩ := hg
    exact ⟨_, giveL_local _ (giveC h') (fun a b t e1 e2 => giveC_local e1 e2) hbs ha, rfl, rfl⟩
  · cases hg

theorem giveM_local {md : Nat} {x : TV} {b t} (hg : giveM h md x = some (b, t)) (ha : ∀ k ∈ t.all, h k = h' k) : giveM h' md x = some (b, t) := by
  unfold giveM at hg ⊢
  split at hg
  · exact giveT_local hg ha
  · simp only [Option.map_eq_some_iff, Prod.mk.injEq] at hg ⊢
    obtain ⟨⟨bc, t1⟩, hbc, rfl, rfl⟩ := hg
    exact ⟨_, giveIo_local hbc ha, rfl, rfl⟩
  · simp only [Option.map_eq_some_iff, Prod.mk.injEq] at hg ⊢
    obtain ⟨⟨bs, t1⟩, hbs, rfl, rfl⟩ := hg
    exact ⟨_, giveL_local _ (giveIo h') (fun a b t e1 e2 => giveIo_local e1 e2) hbs ha, rfl, rfl⟩
  · split at hg
    · rename_i hh
      split at hg
      · rename_i hn
        cases hg
        rw [← ha _ (by simp [Took.all]), hh]
        simp only [if_pos hn]
      · cases hg
    · cases hg
  · exact hg
  · exact hg
  · cases hg

theorem giveTs_local : ∀ {md : List Nat} {xs : List TV} {bs t}, giveTs h md xs = some (bs, t) → (∀ k ∈ t.all, h k = h' k) → giveTs h' md xs = some (bs, t)
  | md, [], _, _, hg, _ => by
    have hg' : ∀ h, giveTs h md [] = some ([], noneTook) := by intro h; cases md <;> rfl
    rw [hg'] at hg ⊢; exact hg
  | md, x :: xs, bs, t, hg, ha => by
    have key : ∀ d md', ((giveM h d x).bind fun a => (giveTs h md' xs).map fun y => (a.1 :: y.1, a.2.add y.2)) = some (bs, t) → ((giveM h' d x).bind fun a => (giveTs h' md' xs).map fun y => (a.1 :: y.1, a.2.add y.2)) = some (bs, t) := by
      intro d md' hg
      simp only [Option.bind_eq_some_iff, Option.map_eq_some_iff, Prod.mk.injEq] at hg ⊢
      obtain ⟨⟨b, t1⟩, hb, ⟨bs', t2⟩, hbs, rfl, rfl⟩ := hg
      refine ⟨_, giveM_local hb fun k hk => ha k ?_, _, giveTs_local hbs fun k hk => ha k ?_, rfl, rfl⟩
      · simp only [Took.all, Took.add, List.mem_append] at hk ⊢; exact hk.elim (fun x => .inl (.inl x)) fun x => .inr (.inl x)
      · simp only [Took.all, Took.add, List.mem_append] at hk ⊢; exact hk.elim (fun x => .inl (.inr x)) fun x => .inr (.inr x)
    cases md with
    | nil => exact key 0 [] hg
    | cons d md => exact key d md hg

theorem getIos_local {g : Nat} : ∀ {ks : List (Key × Option Nat)} {s : Nat} {ls : List BV}, (∀ k n, (k, some n) ∈ ks → h k = h' k) → getIos h g s ks ls = getIos h' g s ks ls
  | [], s, ls, _ => by cases ls <;> simp [getIos]
  | (k, none) :: ks, s, [], _ => by simp [getIos]
  | (k, none) :: ks, s, b :: ls, hk => by
    cases b <;> simp only [getIos]
    rw [getIos_local fun k n hkn => hk k n (by simp [hkn])]
  | (k, some n) :: ks, s, [], _ => by simp [getIos]
  | (k, some n) :: ks, s, b :: ls, hk => by
    cases b <;> simp only [getIos]
    rw [hk k n (by simp), getIos_local fun k n hkn => hk k n (by simp [hkn])]

theorem freeze_local : ∀ {ks : List Key}, (∀ k ∈ ks, h k = h' k) → freeze h ks = freeze h' ks
  | [], _ => rfl
  | k :: ks, ha => by
    unfold freeze
    rw [ha k (by simp), freeze_local fun k hk => ha k (by simp [hk])]

theorem backD_rd {s g : Nat} {t : Took} {frz r ios d} (hb : backD h s g t frz r ios = some d) : d.rd = t.all := by
  unfold backD at hb
  split at hb
  · simp only [Option.map_eq_some_iff] at hb
    obtain ⟨y, hy, rfl⟩ := hb
    rfl
  · cases hb

theorem backD_local {s g : Nat} {t : Took} {frz r ios d} (hb : backD h s g t frz r ios = some d) (ha : ∀ k ∈ t.all, h k = h' k) (hbx : ∀ k n, (k, some n) ∈ t.boxes → k ∈ t.own) : backD h' s g t frz r ios = some d := by
  have := freeze_local (h := h) (h' := h') fun k hk => ha k (List.mem_append.2 (.inl hk))
  unfold backD at hb ⊢
  rw [← this]
  simp only [← getIos_local (h := h) (h' := h') (ks := t.boxes) fun k n hkn => ha k (List.mem_append.2 (.inr (hbx k n hkn)))]
  exact hb

theorem calleeOf_local {e e' : Nat → TV} {c : Call} (he : ∀ x ∈ c.operands, ev G e x = ev G e' x) : calleeOf G e c = calleeOf G e' c := by
  have h1 : c.args.toList.map (ev G e) = c.args.toList.map (ev G e') := List.map_congr_left fun x hx => he x (by simp [Call.operands, Array.mem_toList_iff.1 hx])
  unfold calleeOf
  rw [h1]
  split
  · rename_i f hf
    rw [he f (by simp [Call.operands, hf])]
  · rfl

theorem stepF_local {S S' : St} {o : Oper} {idx g : Nat} {d : Dl} (he : ∀ x ∈ o.op.operands, ev G S.env x = ev G S'.env x) (ha : ∀ k ∈ d.rd, S.heap k = S'.heap k) (hd : stepF P G o idx g S = some d) :
    stepF P G o idx g S' = some d := by
  have pairs : ∀ ps : Array (Nat × Operand), (∀ x ∈ ps.toList.map (·.2), ev G S.env x = ev G S'.env x) → (ps.toList.map fun p => (p.1, ev G S.env p.2)) = (ps.toList.map fun p => (p.1, ev G S'.env p.2)) :=
    fun ps hp => List.map_congr_left fun p hm => by rw [hp p.2 (List.mem_map.2 ⟨p, hm, rfl⟩)]
  have ops : ∀ xs : Array Operand, (∀ x ∈ xs, ev G S.env x = ev G S'.env x) → xs.toList.map (ev G S.env) = xs.toList.map (ev G S'.env) := fun xs hp => List.map_congr_left fun x hx => hp x (Array.mem_toList_iff.1 hx)
  obtain ⟨dst, op, type, pos, after, guard⟩ := o
  simp only at he hd ⊢
  unfold stepF at hd ⊢
  simp only at hd ⊢
  split at hd
  all_goals first
    | (simp only [Op.operands, List.mem_toArray, Array.mem_append, List.mem_cons, List.not_mem_nil, or_false, forall_eq_or_imp, forall_eq] at he; simp only [he] at hd; exact hd)
    | skip
  · exact hd
  · rw [pairs _ (fun x hx => he x (by simpa [Op.operands] using hx))] at hd; exact hd
  · rw [pairs _ (fun x hx => he x (by simpa [Op.operands] using hx))] at hd; exact hd
  · rw [he _ (by simp [Op.operands])] at hd; exact loadV_local hd ha
  · rename_i a x
    rw [he a (by simp [Op.operands]), he x (by simp [Op.operands])] at hd; exact storeV_local hd ha
  · rename_i x lo hi
    rw [he x (by simp [Op.operands])] at hd
    have h1 : Option.map (ev G S.env) lo = Option.map (ev G S'.env) lo := by
      cases lo with
      | none => rfl
      | some y => simp only [Option.map_some, he y (by simp [Op.operands])]
    have h2 : Option.map (ev G S.env) hi = Option.map (ev G S'.env) hi := by
      cases hi with
      | none => rfl
      | some y => simp only [Option.map_some, he y (by simp [Op.operands])]
    rw [h1, h2] at hd
    exact sliceV_local hd ha
  · rename_i x lo hi mx
    rw [he x (by simp [Op.operands]), he hi (by simp [Op.operands]), he mx (by simp [Op.operands])] at hd
    have h1 : Option.map (ev G S.env) lo = Option.map (ev G S'.env) lo := by
      cases lo with
      | none => rfl
      | some y => simp only [Option.map_some, he y (by simp [Op.operands])]
    rw [h1] at hd
    exact slice3V_local hd ha
  · rename_i x i
    rw [he x (by simp [Op.operands]), he i (by simp [Op.operands])] at hd; exact indexAddrV_local hd ha
  · rename_i caps
    rw [ops caps (fun x hx => he x (by simp [Op.operands, hx]))] at hd; exact hd
  · rename_i xs ts
    rw [ops xs (fun x hx => he x (by simp [Op.operands, Call.operands, hx]))] at hd; exact builtinV_local hd ha
  · cases hd

theorem step_local {S S' : St} {o : Oper} {idx g : Nat} {d : Dl} (he : ∀ x ∈ o.op.operands, ev G S.env x = ev G S'.env x) (ha : ∀ k ∈ d.rd, S.heap k = S'.heap k) (hd : StepD P G o idx g S d) :
    StepD P G o idx g S' d := by
  cases hd with
  | op h => exact .op (stepF_local he ha h)
  | call ho hc hg hk hb =>
    have e := backD_rd hb
    rw [e] at ha
    exact .call ho ((calleeOf_local (fun x hx => he x (by rw [ho]; exact hx))).symm.trans hc) (giveTs_local hg ha) hk (backD_local hb ha (giveTs_elsOwn hg))
  | @cap x t e k r n c ho ht hx hc => exact .cap ho ht (by rw [← he x (by rw [ho]; simp [Op.operands, Call.operands])]; exact hx) hc
  | @keep x y t u e k r n w l src ks ho ht hu hx hk hy he' hw hs =>
    exact .keep ho ht hu (by rw [← he x (by rw [ho]; simp [Op.operands, Call.operands])]; exact hx) (by rw [← ha k (by simp)]; exact hk)
      (by rw [← he y (by rw [ho]; simp [Op.operands, Call.operands])]; exact rowsOf_local hy fun k' hk' => ha k' (by simp [hk'])) he' hw hs
  | @grow x y t u e k r n mu w l src ks c ho ht hu hx hk hy he' hw hc hg hs =>
    exact .grow ho ht hu (by rw [← he x (by rw [ho]; simp [Op.operands, Call.operands])]; exact hx) (by rw [← ha k (by simp)]; exact hk)
      (by rw [← he y (by rw [ho]; simp [Op.operands, Call.operands])]; exact rowsOf_local hy fun k' hk' => ha k' (by simp [hk'])) he' hw hc hg hs
  | @over z f fn tS tR e x y kx rx nx ky ry ny wx lx wy ly ts ho hz hf hn hb h1 h2 ht hx hy hkx hky hne hlx hly hok hwy =>
    exact .over ho (by rw [← he z (by rw [ho]; simp [Op.operands, Call.operands])]; exact hz) hf hn hb h1 h2 ht (by rw [← he x (by rw [ho]; simp [Op.operands, Call.operands])]; exact hx) (by rw [← he y (by rw [ho]; simp [Op.operands, Call.operands])]; exact hy)
      (by rw [← ha kx (by simp)]; exact hkx) (by rw [← ha ky (by simp)]; exact hky) hne hlx hly hok hwy

end
end Go.Sh
end
section
namespace Go.Sh

section
variable {P : Program} {G : Glob} {V0 : Nat → Prop} {L0 : List Nat} {w0 : World} {m0 : KM} {n : Nat} {U U' : Nat → Prop} {S : St} {a : Act} {w : World}

/-- The shadow and the machine agree. -/
def Rel (G : Glob) (V0 : Nat → Prop) (L0 : List Nat) (w0 : World) (m0 : KM) (n : Nat) (U : Nat → Prop) (S : St) (a : Act) (w : World) : Prop :=
  a.defers = [] ∧ a.tmps.size = n ∧ ∃ V m, Ext m0 m ∧ MRel G V0 L0 w0 U V m S.heap w ∧ ERel m V w a.tmps S.env

theorem Rel.used (h : Rel G V0 L0 w0 m0 n U S a w) (hu : ∀ g, U g → U' g) : Rel G V0 L0 w0 m0 n U' S a w :=
  let ⟨a, b, V, m, x, M, E⟩ := h; ⟨a, b, V, m, x, M.used hu, E⟩

theorem erel_put {m : KM} {V : Nat → Prop} {v : Value} {t : TV} {dst : Option Nat} {e : Nat → TV} (E : ERel m V w a.tmps e) (hd : ∀ t, dst = some t → t < a.tmps.size) (hv : TRep m V w v t) :
    ERel m V w (a.put dst v).tmps (put e dst t) := by
  cases dst with
  | none => exact E
  | some d => exact E.put d (hd d rfl) hv

theorem put_defers (dst : Option Nat) (v : Value) : (a.put dst v).defers = a.defers := by cases dst <;> rfl
theorem put_size (dst : Option Nat) (v : Value) : (a.put dst v).tmps.size = a.tmps.size := by cases dst <;> simp [Act.put]

theorem op_rel (hC : CapsOk G m0) {o : Oper} {idx g : Nat} {d : Dl} {K : Act → World → Prop} {Q : Exit → Act → World → Prop} (h : Rel G V0 L0 w0 m0 n U S a w) (hu : ¬ U g) (hd : StepD P G o idx g S d)
    (hdst : ∀ t, o.dst = some t → t < n) (k : ∀ a' w', Rel G V0 L0 w0 m0 n (fun x => U x ∨ x = g) (S.app o.dst d) a' w' → K a' w') : o.wp P a w K Q := by
  obtain ⟨h1, h2, V, m, x0, M, E⟩ := h
  refine step_sound hC x0 M E hu hd K Q fun v w' V' m' ht hM hx hV hk => k _ _ ⟨by rw [put_defers, h1], by rw [put_size, h2], V', m', fun j i e => hx _ _ (x0 _ _ e), hM, ?_⟩
  exact erel_put (E.mono hx hV hk) (by rw [h2]; exact hdst) ht

def skipD : Dl := ⟨.tup [], [], []⟩

theorem skip_rel {dst : Option Nat} (h : Rel G V0 L0 w0 m0 n U S a w) (hdst : ∀ t, dst = some t → t < n) : Rel G V0 L0 w0 m0 n U (S.app dst skipD) (a.put dst undef) w := by
  obtain ⟨h1, h2, V, m, x0, M, E⟩ := h
  exact ⟨by rw [put_defers, h1], by rw [put_size, h2], V, m, x0, M, erel_put E (by rw [h2]; exact hdst) (.tup (by simp) (by simp))⟩

theorem wants_rel {all : List Oper} {o : Oper} {b : Bool} (h : Rel G V0 L0 w0 m0 n U S a w) (hw : wants all S.env o = some b) : Region.wanted o (yielded all.toArray a.tmps) = b := by
  obtain ⟨_, _, V, m, _, M, E⟩ := h
  unfold wants at hw
  unfold Region.wanted
  rcases hg : o.guard with _ | ⟨j, want⟩
  · simp only [hg] at hw ⊢; cases hw; rfl
  · simp only [hg] at hw ⊢
    split at hw
    · cases hw
    · rename_i t ht
      have hE := E t
      have hy : yielded all.toArray a.tmps j = match a.tmps[t]? with | some (.bool b) => some b | _ => none := by
        unfold yielded
        simp only [List.getElem?_toArray, ht, Option.bind_some]
        rfl
      rw [hy]
      split at hw
      · rename_i b' hb
        rw [hb] at hE
        have e := hE.bool_eq
        have : a.tmps[t]? = some (.bool b') := by
          rw [Array.getD_eq_getD_getElem?] at e
          cases h : a.tmps[t]? with
          | none => rw [h] at e; simp [undef] at e
          | some v => rw [h] at e; simp at e; rw [e]
        rw [this]
        cases hw
        cases want <;> cases b' <;> rfl
      · rename_i hb
        rw [hb] at hE
        cases hw
        generalize hv : a.tmps.getD t undef = v at hE
        cases hE with
        | tup hs _ =>
          have : ∀ b, a.tmps[t]? ≠ some (.bool b) := by
            intro b hc
            rw [Array.getD_eq_getD_getElem?, hc] at hv
            cases hv
          split
          · rename_i hc; exact absurd hc (this _)
          · rfl
      · cases hw

theorem run_list (hC : CapsOk G m0) {all : List Oper} {Q : Exit → Act → World → Prop} {g : Nat} {S' : St} {fs : List Fp} {i : Nat} {os : List Oper} (hr : Run P G all g i os S fs S') :
    ∀ {a w}, Rel G V0 L0 w0 m0 n (· < g + i) S a w → (∀ o ∈ os, ∀ t, o.dst = some t → t < n) → (∀ a' w', Rel G V0 L0 w0 m0 n (· < g + i + os.length) S' a' w' → Q .normal a' w') → wpList P all.toArray Q os a w := by
  induction hr with
  | nil => intro a w h _ k; exact wpList_nil (k a w (by simpa using h))
  | @skip i o os S fs S' hw _ ih =>
    intro a w h hd k
    unfold wpList
    rw [wants_rel h hw]
    simp only [Bool.false_eq_true, if_false]
    exact ih ((skip_rel h (hd o (by simp))).used fun x hx => by omega) (fun o' ho => hd o' (by simp [ho])) fun a' w' h' => k a' w' (h'.used fun x hx => by simp only [List.length_cons]; omega)
  | @step i o os S d fs S' hw hs _ ih =>
    intro a w h hd k
    unfold wpList
    rw [wants_rel h hw]
    simp only [if_true]
    refine .inl (op_rel hC h (Nat.lt_irrefl _) hs (hd o (by simp)) fun a' w' h' => ih (h'.used fun x hx => ?_) (fun o' ho => hd o' (by simp [ho])) fun a' w' h' => k a' w' (h'.used fun x hx => ?_))
    · rcases hx with hx | rfl <;> omega
    · simp only [List.length_cons]; omega

end
end Go.Sh
end
section
namespace Go.Sh


section
variable {α : Type}

def runAt : List (α → α) → Nat → (Nat → Bool) → α → α
  | [], _, _, x => x
  | f :: fs, i, D, x => runAt fs (i + 1) D (if D i then f x else x)

theorem runAt_congr : ∀ {fs : List (α → α)} {i : Nat} {D D' : Nat → Bool} {x : α}, (∀ j f, fs[j]? = some f → D (i + j) ≠ D' (i + j) → ∀ y, f y = y) → runAt fs i D x = runAt fs i D' x
  | [], _, _, _, _, _ => rfl
  | f :: fs, i, D, D', x, h => by
    unfold runAt
    have h0 : (if D i then f x else x) = (if D' i then f x else x) := by
      by_cases e : D i = D' i
      · rw [e]
      · have := h 0 f (by simp) (by simpa using e)
        cases D i <;> cases D' i <;> simp [this]
    rw [h0]
    exact runAt_congr fun j g hg hd => h (j + 1) g (by simpa using hg) (by rwa [show i + (j + 1) = i + 1 + j by omega])

theorem runAt_id {fs : List (α → α)} {i : Nat} {D : Nat → Bool} {x : α} (h : ∀ j f, fs[j]? = some f → D (i + j) = true → ∀ y, f y = y) : runAt fs i D x = x := by
  rw [runAt_congr (D' := fun _ => false) (fun j f hf hd y => h j f hf (by simpa using hd) y)]
  clear h
  induction fs generalizing i with
  | nil => rfl
  | cons f fs ih => simp [runAt, ih]

theorem runAt_shift : ∀ {fs : List (α → α)} {i : Nat} {D : Nat → Bool} {x : α}, runAt fs (i + 1) D x = runAt fs i (fun j => D (j + 1)) x
  | [], _, _, _ => rfl
  | f :: fs, i, D, x => by unfold runAt; exact runAt_shift

/-- One change more: as though it came last. -/
theorem runAt_add : ∀ {fs : List (α → α)} {s i : Nat} {D : Nat → Bool} {x : α} {f : α → α}, s ≤ i → fs[i - s]? = some f → D i = false →
    (∀ j g, i < s + j → fs[j]? = some g → D (s + j) = true → ∀ y, g y = y) → runAt fs s (fun j => D j || j == i) x = f (runAt fs s D x)
  | [], s, i, _, _, _, _, hf, _, _ => by simp at hf
  | g :: gs, s, i, D, x, f, hs, hf, hD, h => by
    unfold runAt
    by_cases e : s = i
    · subst e
      simp at hf
      subst hf
      have hg : ∀ y, runAt gs (s + 1) D y = y := fun y => runAt_id fun j q hq hd => h (j + 1) q (by omega) (by simpa using hq) (by rwa [show s + (j + 1) = s + 1 + j by omega])
      rw [runAt_congr (D' := D) (fun j q hq hd => absurd (by simp; intro h'; omega) hd)]
      simp [hD, hg]
    · have : (s == i) = false := by simpa using e
      simp only [this, Bool.or_false]
      exact runAt_add (by omega) (by rw [show i - s = (i - (s + 1)) + 1 by omega] at hf; simpa using hf) hD
        fun j q hj hq hd => h (j + 1) q (by omega) (by simpa using hq) (by rwa [show s + (j + 1) = s + 1 + j by omega])

end


def putAt (k : Key) : List (Key × Option Blk) → Option Blk → Option Blk
  | [], x => x
  | (k', b) :: r, x => putAt k r (if k = k' then b else x)

theorem putH_at (wr : List (Key × Option Blk)) : ∀ (h : Key → Option Blk) (k : Key), putH h wr k = putAt k wr (h k) := by
  induction wr with
  | nil => intro h k; rfl
  | cons p r ih => intro h k; rw [putH, ih]; rfl

theorem putAt_id {k : Key} {wr : List (Key × Option Blk)} (h : ∀ p ∈ wr, p.1 ≠ k) (x : Option Blk) : putAt k wr x = x := by
  induction wr generalizing x with
  | nil => rfl
  | cons p r ih =>
    have := h p (by simp)
    unfold putAt
    rw [if_neg (fun e => this e.symm)]
    exact ih (fun q hq => h q (by simp [hq])) x

def envF (t : Nat) (p : Oper × Dl) : TV → TV := fun x => if p.1.dst = some t then p.2.v else x
def heapF (k : Key) (p : Oper × Dl) : Option Blk → Option Blk := putAt k p.2.wr

/-- The state when these operations have run. -/
def stD (S : St) (ps : List (Oper × Dl)) (D : Nat → Bool) : St :=
  ⟨fun t => runAt (ps.map (envF t)) 0 D (S.env t), fun k => runAt (ps.map (heapF k)) 0 D (S.heap k), S.gen⟩

theorem app_env (S : St) (o : Oper) (d : Dl) (t : Nat) : (S.app o.dst d).env t = envF t (o, d) (S.env t) := by
  unfold St.app envF
  cases h : o.dst with
  | none => simp [put]
  | some x =>
    simp only [put, upd, Option.some.injEq]
    by_cases e : t = x
    · subst e; simp
    · rw [if_neg e, if_neg (fun c => e c.symm)]

theorem app_heap (S : St) (o : Oper) (d : Dl) (k : Key) : (S.app o.dst d).heap k = heapF k (o, d) (S.heap k) := putH_at _ _ _

theorem St.ext' {A B : St} (h1 : ∀ t, A.env t = B.env t) (h2 : ∀ k, A.heap k = B.heap k) (h3 : A.gen = B.gen) : A = B := by
  cases A; cases B
  simp only [St.mk.injEq]
  exact ⟨funext h1, funext h2, h3⟩

theorem stD_none (S : St) (ps : List (Oper × Dl)) {D : Nat → Bool} (h : ∀ j, D j = false) : stD S ps D = S :=
  St.ext' (fun _ => runAt_id fun j _ _ hd => absurd hd (by simp [h])) (fun _ => runAt_id fun j _ _ hd => absurd hd (by simp [h])) rfl

theorem stD_cons (S : St) (o : Oper) (d : Dl) (ps : List (Oper × Dl)) {D : Nat → Bool} (h : D 0 = true) : stD S ((o, d) :: ps) D = stD (S.app o.dst d) ps (fun j => D (j + 1)) := by
  refine St.ext' (fun t => ?_) (fun k => ?_) rfl
  · simp only [stD, List.map_cons, runAt, h, if_true, runAt_shift, app_env]
  · simp only [stD, List.map_cons, runAt, h, if_true, runAt_shift, app_heap]

theorem stD_congr (S : St) (ps : List (Oper × Dl)) {D D' : Nat → Bool} (h : ∀ j, j < ps.length → D j = D' j) : stD S ps D = stD S ps D' := by
  have key : ∀ {α : Type} (F : Oper × Dl → α → α) (x : α), runAt (ps.map F) 0 D x = runAt (ps.map F) 0 D' x := fun F x => runAt_congr fun j f hf hd => by
    rw [List.getElem?_map] at hf
    simp only [Option.map_eq_some_iff] at hf
    obtain ⟨p, hp, _⟩ := hf
    exact absurd (h (0 + j) (by have := (List.getElem?_eq_some_iff.1 hp).1; omega)) hd
  exact St.ext' (fun t => key _ _) (fun k => key _ _) rfl

section
variable {P : Program} {G : Glob} {all : List Oper} {g : Nat}

/-- What happened, operation by operation. -/
def DidAt (P : Program) (G : Glob) (all : List Oper) (g : Nat) (S : St) (i : Nat) (o : Oper) (d : Dl) : Prop :=
  (wants all S.env o = some false ∧ d = skipD) ∨ (wants all S.env o = some true ∧ StepD P G o i (g + i) S d)

theorem run_did {i : Nat} {os : List Oper} {S S' : St} {fs : List Fp} (hr : Run P G all g i os S fs S') :
    ∃ ps : List (Oper × Dl), ps.map (·.1) = os ∧ fs = ps.map (·.2.fp) ∧ S' = stD S ps (fun _ => true) ∧
      ∀ k o d, ps[k]? = some (o, d) → DidAt P G all g (stD S ps (fun j => decide (j < k))) (i + k) o d := by
  have step : ∀ {i : Nat} {o : Oper} {os : List Oper} {S S' : St} {fs : List Fp} {d : Dl}, DidAt P G all g S i o d →
      (∃ ps : List (Oper × Dl), ps.map (·.1) = os ∧ fs = ps.map (·.2.fp) ∧ S' = stD (S.app o.dst d) ps (fun _ => true) ∧
        ∀ k o' d', ps[k]? = some (o', d') → DidAt P G all g (stD (S.app o.dst d) ps (fun j => decide (j < k))) (i + 1 + k) o' d') →
      ∃ ps : List (Oper × Dl), ps.map (·.1) = o :: os ∧ d.fp :: fs = ps.map (·.2.fp) ∧ S' = stD S ps (fun _ => true) ∧
        ∀ k o d, ps[k]? = some (o, d) → DidAt P G all g (stD S ps (fun j => decide (j < k))) (i + k) o d := by
    intro i o os S S' fs d h0 ⟨ps, h1, h2, h3, h4⟩
    refine ⟨(o, d) :: ps, by simp [h1], by simp [h2], by rw [h3, stD_cons _ _ _ _ rfl], fun k o' d' hk => ?_⟩
    cases k with
    | zero =>
      simp at hk
      obtain ⟨rfl, rfl⟩ := hk
      rw [stD_none _ _ (by simp)]
      exact h0
    | succ k =>
      rw [stD_cons _ _ _ _ (by simp)]
      have := h4 k o' d' (by simpa using hk)
      rw [show i + 1 + k = i + (k + 1) by omega] at this
      simpa using this
  induction hr with
  | nil => exact ⟨[], rfl, rfl, St.ext' (fun _ => rfl) (fun _ => rfl) rfl, by simp⟩
  | skip hw _ ih => exact step (.inl ⟨hw, rfl⟩) ih
  | step hw hd _ ih => exact step (.inr ⟨hw, hd⟩) ih

end
end Go.Sh
end
section
namespace Go.Sh

/-- An operation's own edges. -/
def directs (o : Oper) : List Nat := (o.after.toList.filter fun e => Region.binds .any e).map (·.on)

/-- A set that holds with each operation all that must have run before it. -/
def Closed (all : List Oper) (D : Nat → Prop) : Prop := ∀ j o, D j → all[j]? = some o → ∀ i ∈ directs o, D i

theorem ancs_mem {all : List Oper} {D : Nat → Prop} (hc : Closed all D) : ∀ (os : List Oper) (acc : List (List Nat)), (∀ k, os[k]? = all[acc.length + k]?) →
    (∀ (j : Nat) (l : List Nat) (o : Oper), acc[j]? = some l → all[j]? = some o → (∀ i ∈ directs o, D i) → ∀ x ∈ l, D x) →
    ∀ (j : Nat) (l : List Nat) (o : Oper), (ancs os acc)[j]? = some l → all[j]? = some o → (∀ i ∈ directs o, D i) → ∀ x ∈ l, D x
  | [], acc, _, ha => ha
  | o :: os, acc, hk, ha => by
    unfold ancs
    refine ancs_mem hc os _ (fun k => ?_) fun j l o' hl ho' hd x hx => ?_
    · have := hk (k + 1)
      simpa [Nat.add_assoc, Nat.add_comm 1 k] using this
    · have h0 : all[acc.length]? = some o := by simpa using (hk 0).symm
      by_cases e : j < acc.length
      · rw [List.getElem?_append_left e] at hl
        exact ha j l o' hl ho' hd x hx
      · rw [List.getElem?_append_right (by omega)] at hl
        have : j - acc.length = 0 := by
          have := (List.getElem?_eq_some_iff.1 hl).1
          simp only [List.length_singleton] at this
          omega
        have e' : j = acc.length := by omega
        subst e'
        rw [h0] at ho'
        cases ho'
        simp at hl
        subst hl
        rcases List.mem_append.1 hx with hx | hx
        · exact hd x hx
        · obtain ⟨i, hi, hx⟩ := List.mem_flatMap.1 hx
          have hDi := hd i hi
          cases hai : acc[i]? with
          | none => rw [hai] at hx; simp at hx
          | some l' =>
            rw [hai] at hx
            simp at hx
            have hlt := (List.getElem?_eq_some_iff.1 hai).1
            cases hoi : all[i]? with
            | none =>
              exfalso
              have h1 := List.getElem?_eq_none_iff.1 hoi
              have h2 := (List.getElem?_eq_some_iff.1 h0).1
              omega
            | some oi => exact ha i l' oi hai hoi (fun y hy => hc i oi hDi hoi y hy) x hx

theorem ancs_good {all : List Oper} {D : Nat → Prop} (hc : Closed all D) {j : Nat} {l : List Nat} {o : Oper} (hl : (ancs all [])[j]? = some l) (ho : all[j]? = some o) (hd : ∀ i ∈ directs o, D i) :
    ∀ x ∈ l, D x :=
  ancs_mem hc all [] (by simp) (by simp) j l o hl ho hd

structure Apart (all : List Oper) (x y : Oper × Dl) : Prop where
  ops : Oper.apart all.toArray x.1 y.1 = true
  fps : x.2.fp.apart y.2.fp = true

theorem order_apart {ps : List (Oper × Dl)} {all : List Oper} {fs : List Fp} (h1 : ps.map (·.1) = all) (h2 : fs = ps.map (·.2.fp)) (ho : orderOk all fs = true) {i j : Nat} {x y : Oper × Dl}
    (hij : i < j) (hx : ps[i]? = some x) (hy : ps[j]? = some y) : i ∈ (ancs all []).getD j [] ∨ Apart all x y := by
  unfold orderOk at ho
  simp only [Bool.and_eq_true, List.all_eq_true, List.mem_range, Bool.or_eq_true] at ho
  have hlen : all.length = ps.length := by rw [← h1]; simp
  have hj : j < all.length := by rw [hlen]; exact (List.getElem?_eq_some_iff.1 hy).1
  have ax : all[i]? = some x.1 := by rw [← h1, List.getElem?_map, hx]; rfl
  have ay : all[j]? = some y.1 := by rw [← h1, List.getElem?_map, hy]; rfl
  have fx : fs[i]? = some x.2.fp := by rw [h2, List.getElem?_map, hx]; rfl
  have fy : fs[j]? = some y.2.fp := by rw [h2, List.getElem?_map, hy]; rfl
  rcases ho.2 j hj i hij with h | h
  · exact .inl (by simpa using h)
  · rw [ax, ay, fx, fy] at h
    simp only [Bool.and_eq_true] at h
    exact .inr ⟨h.1, h.2⟩

theorem meets_false {a b : List Nat} (h : meets a b = false) : ∀ x ∈ a, x ∉ b := by
  intro x hx hb
  have : meets a b = true := by simp only [meets, List.any_eq_true]; exact ⟨x, hx, by simpa using hb⟩
  rw [h] at this; cases this

theorem fp_apart {a b : Fp} (h : a.apart b = true) : (∀ x ∈ a.wr, x ∉ b.wr) ∧ (∀ x ∈ a.wr, x ∉ b.rd) ∧ (∀ x ∈ a.rd, x ∉ b.wr) := by
  simp only [Fp.apart, Bool.and_eq_true, Bool.not_eq_true'] at h
  exact ⟨meets_false h.1.1, meets_false h.1.2, meets_false h.2⟩

section
variable {P : Program} {G : Glob} {all : List Oper} {g : Nat} {S : St} {ps : List (Oper × Dl)} {D : Nat → Bool} {fs : List Fp}

theorem envF_id {t : Nat} {p : Oper × Dl} (h : p.1.dst ≠ some t) (x : TV) : envF t p x = x := by simp [envF, h]
theorem heapF_id {k : Key} {p : Oper × Dl} (h : k.s ∉ p.2.fp.wr) (x : Option Blk) : heapF k p x = x := by
  refine putAt_id (fun q hq e => h ?_) x
  simp only [Dl.fp, List.mem_map]
  exact ⟨q, hq, by rw [e]⟩

/-- What a ready operation meets does not hang on the order. -/
theorem ready_sees (h1 : ps.map (·.1) = all) (h2 : fs = ps.map (·.2.fp)) (ho : orderOk all fs = true) (hc : Closed all (fun j => D j = true)) {i : Nat} {x : Oper × Dl} (hx : ps[i]? = some x) (hi : D i = false)
    (hd : ∀ j ∈ directs x.1, D j = true) : ∀ j y, ps[j]? = some y → (D j ≠ decide (j < i) → (j < i ∧ Apart all y x) ∨ (i < j ∧ Apart all x y)) ∧ (i < j → D j = true → Apart all x y) := by
  have gd : ∀ {k : Nat} {p : Oper × Dl}, ps[k]? = some p → all[k]? = some p.1 := fun hp => by rw [← h1, List.getElem?_map, hp]; rfl
  have anc : ∀ {k k' : Nat} {p : Oper × Dl}, ps[k]? = some p → (∀ j ∈ directs p.1, D j = true) → k' ∈ (ancs all []).getD k [] → D k' = true := by
    intro k k' p hp hdp hk
    rw [List.getD_eq_getElem?_getD] at hk
    cases ha : (ancs all [])[k]? with
    | none => rw [ha] at hk; simp at hk
    | some l => rw [ha] at hk; exact ancs_good (D := fun j => D j = true) hc ha (gd hp) hdp k' (by simpa using hk)
  intro j y hy
  have right : i < j → D j = true → Apart all x y := fun hij hDj => by
    rcases order_apart h1 h2 ho hij hx hy with h | h
    · have := anc hy (hc j _ hDj (gd hy)) h
      rw [hi] at this; cases this
    · exact h
  refine ⟨fun hne => ?_, right⟩
  rcases Nat.lt_trichotomy j i with h | h | h
  · have hDj : D j = false := by simpa [h] using hne
    rcases order_apart h1 h2 ho h hy hx with h' | h'
    · have := anc hx hd h'
      rw [hDj] at this; cases this
    · exact .inl ⟨h, h'⟩
  · subst h; rw [hi] at hne; simp at hne
  · have hDj : D j = true := by
      have : ¬ j < i := by omega
      simpa [this] using hne
    exact .inr ⟨h, right h hDj⟩

theorem ps_map {α : Type} {F : Oper × Dl → α} {j : Nat} {f : α} (hf : (ps.map F)[j]? = some f) : ∃ y, ps[j]? = some y ∧ F y = f := by
  rw [List.getElem?_map] at hf
  simpa using hf

theorem any_did (h1 : ps.map (·.1) = all) (h2 : fs = ps.map (·.2.fp)) (ho : orderOk all fs = true) (hc : Closed all (fun j => D j = true)) {i : Nat} {o : Oper} {d : Dl} (hx : ps[i]? = some (o, d)) (hi : D i = false)
    (hd : ∀ j ∈ directs o, D j = true) (hdid : DidAt P G all g (stD S ps (fun j => decide (j < i))) i o d) :
    DidAt P G all g (stD S ps D) i o d ∧ (stD S ps D).app o.dst d = stD S ps (fun j => D j || j == i) := by
  have sees := ready_sees h1 h2 ho hc hx hi hd
  have env : ∀ t ∈ o.looksAt all.toArray, (stD S ps (fun j => decide (j < i))).env t = (stD S ps D).env t := by
    intro t ht
    refine runAt_congr fun j f hf hne => ?_
    obtain ⟨y, hy, rfl⟩ := ps_map hf
    simp only [Nat.zero_add] at hne
    refine envF_id ?_
    intro e
    rcases (sees j y hy).1 (fun h => hne h.symm) with ⟨_, h⟩ | ⟨_, h⟩
    · exact (Oper.apart_spec h.ops).1 t e ht
    · exact (Oper.apart_spec h.ops).2.2 t e ht
  have heap : ∀ k ∈ d.rd, (stD S ps (fun j => decide (j < i))).heap k = (stD S ps D).heap k := by
    intro k hk
    have hk' : k.s ∈ d.fp.rd := by simp only [Dl.fp, List.mem_map]; exact ⟨k, hk, rfl⟩
    refine runAt_congr fun j f hf hne => ?_
    obtain ⟨y, hy, rfl⟩ := ps_map hf
    simp only [Nat.zero_add] at hne
    refine heapF_id ?_
    intro e
    rcases (sees j y hy).1 (fun h => hne h.symm) with ⟨_, h⟩ | ⟨_, h⟩
    · exact (fp_apart h.fps).2.1 _ e hk'
    · exact (fp_apart h.fps).2.2 _ hk' e
  constructor
  · have hw : wants all (stD S ps (fun j => decide (j < i))).env o = wants all (stD S ps D).env o := by
      unfold wants
      rcases hg : o.guard with _ | ⟨j, want⟩
      · rfl
      · simp only
        split
        · rfl
        · rename_i t ht
          rw [env t (by
            simp only [Oper.looksAt, hg, List.mem_append, List.getElem?_toArray]
            right
            rw [ht]; simp)]
    unfold DidAt at hdid ⊢
    rw [hw] at hdid
    rcases hdid with ⟨a, b⟩ | ⟨a, b⟩
    · exact .inl ⟨a, b⟩
    · refine .inr ⟨a, step_local (fun x hx => ?_) heap b⟩
      cases x with
      | tmp t =>
        exact env t (by
          simp only [Oper.looksAt, List.mem_append, List.mem_filterMap]
          left
          exact ⟨.tmp t, Array.mem_toList_iff.2 hx, rfl⟩)
      | const v => rfl
      | global g => rfl
      | func f => rfl
  · refine St.ext' (fun t => ?_) (fun k => ?_) rfl
    · rw [app_env]
      by_cases e : o.dst = some t
      · refine (runAt_add (i := i) (Nat.zero_le _) (by rw [List.getElem?_map]; simp [hx]) hi fun j f hj hf hDj => ?_).symm
        obtain ⟨y, hy, rfl⟩ := ps_map hf
        simp only [Nat.zero_add] at hj hDj
        exact envF_id fun e' => (Oper.apart_spec ((sees j y hy).2 hj hDj).ops).2.1 t e e'
      · rw [envF_id (p := (o, d)) e]
        refine runAt_congr fun j f hf hne => ?_
        obtain ⟨y, hy, rfl⟩ := ps_map hf
        have : j = i := (by simpa using hne : j = i ∧ _).1
        subst this
        rw [hx] at hy; cases hy
        exact envF_id e
    · rw [app_heap]
      by_cases e : k.s ∈ d.fp.wr
      · refine (runAt_add (i := i) (Nat.zero_le _) (by rw [List.getElem?_map]; simp [hx]) hi fun j f hj hf hDj => ?_).symm
        obtain ⟨y, hy, rfl⟩ := ps_map hf
        simp only [Nat.zero_add] at hj hDj
        exact heapF_id fun e' => (fp_apart ((sees j y hy).2 hj hDj).fps).1 _ e e'
      · rw [heapF_id (p := (o, d)) e]
        refine runAt_congr fun j f hf hne => ?_
        obtain ⟨y, hy, rfl⟩ := ps_map hf
        have : j = i := (by simpa using hne : j = i ∧ _).1
        subst this
        rw [hx] at hy; cases hy
        exact heapF_id e

end
end Go.Sh
end
section
namespace Go.Sh

section
variable {P : Program} {G : Glob} {V0 : Nat → Prop} {L0 : List Nat} {w0 : World} {m0 : KM} {n : Nat} {S : St} {all : List Oper} {ps : List (Oper × Dl)} {fs : List Fp} {Q : Exit → Act → World → Prop}

def inSet (listed : Array Bool) : Nat → Bool := fun j => listed.getD j false

theorem inSet_set {listed : Array Bool} {i : Nat} (hi : i < listed.size) : inSet (listed.setIfInBounds i true) = fun j => inSet listed j || j == i := by
  funext j
  unfold inSet
  by_cases e : j = i
  · subst e; simp [hi]
  · rw [Array.getD_eq_getD_getElem?, Array.getElem?_setIfInBounds_ne (Ne.symm e), ← Array.getD_eq_getD_getElem?]
    simp [e]

theorem ready_mem {listed : Array Bool} (hs : listed.size = all.length) {i : Nat} : i ∈ Region.ready .any all.toArray listed ↔ ∃ o, all[i]? = some o ∧ inSet listed i = false ∧ ∀ j ∈ directs o, inSet listed j = true := by
  unfold Region.ready inSet directs
  simp only [List.mem_filter, List.mem_range, List.size_toArray, List.getElem?_toArray, Bool.and_eq_true, Bool.not_eq_true']
  constructor
  · rintro ⟨h1, h2, h3⟩
    have ho : all[i]? = some all[i] := List.getElem?_eq_getElem h1
    rw [ho] at h3
    refine ⟨_, ho, ?_, ?_⟩
    · have : i < listed.size := by omega
      simpa [this] using h2
    · simp only [Option.map_some, Option.getD_some, Array.all_eq_true', Bool.or_eq_true, Bool.not_eq_true'] at h3
      intro j hj
      simp only [List.mem_map, List.mem_filter, Array.mem_toList_iff] at hj
      obtain ⟨e, ⟨he, hb⟩, rfl⟩ := hj
      rcases h3 e he with h | h
      · rw [hb] at h; cases h
      · exact h
  · rintro ⟨o, ho, h2, h3⟩
    have h1 := (List.getElem?_eq_some_iff.1 ho).1
    refine ⟨h1, ?_, ?_⟩
    · have : i < listed.size := by omega
      simpa [this] using h2
    · rw [ho]
      simp only [Option.map_some, Option.getD_some, Array.all_eq_true', Bool.or_eq_true, Bool.not_eq_true']
      intro e he
      cases hb : Region.binds .any e
      · exact .inl rfl
      · exact .inr (h3 e.on (by simp only [List.mem_map, List.mem_filter, Array.mem_toList_iff]; exact ⟨e, ⟨he, hb⟩, rfl⟩))

theorem edges_lt (he : edgesOk all = true) {j : Nat} {o : Oper} (ho : all[j]? = some o) : ∀ i ∈ directs o, i < j := by
  intro i hi
  unfold edgesOk at he
  simp only [List.all_eq_true, List.mem_range] at he
  have := he j (List.getElem?_eq_some_iff.1 ho).1
  rw [ho] at this
  simp only [directs, List.mem_map, List.mem_filter] at hi
  obtain ⟨e, ⟨h1, h2⟩, rfl⟩ := hi
  have := List.all_eq_true.1 this e h1
  simpa [h2] using this

/-- When nothing is ready, everything has run. -/
theorem ready_done {listed : Array Bool} (hs : listed.size = all.length) (he : edgesOk all = true) (hr : Region.ready .any all.toArray listed = []) : ∀ j, j < all.length → inSet listed j = true := by
  intro j
  induction j using Nat.strongRecOn with
  | _ j ih =>
    intro hj
    cases e : inSet listed j with
    | true => rfl
    | false =>
      have ho : all[j]? = some all[j] := List.getElem?_eq_getElem hj
      have : j ∈ Region.ready .any all.toArray listed := (ready_mem hs).2 ⟨_, ho, e, fun i hi => by
        have := edges_lt he ho i hi
        exact ih i this (by omega)⟩
      rw [hr] at this; cases this

/-- How many are left. -/
def left (n : Nat) (listed : Array Bool) : Nat := (List.range n).countP fun j => !inSet listed j

theorem left_set {n : Nat} {listed : Array Bool} {i : Nat} (hi : i < listed.size) (hn : i < n) (h0 : inSet listed i = false) : left n (listed.setIfInBounds i true) + 1 = left n listed := by
  unfold left
  rw [inSet_set hi]
  have key : ∀ (l : List Nat), l.Nodup → i ∈ l → (l.countP fun j => !(inSet listed j || j == i)) + 1 = l.countP fun j => !inSet listed j := by
    intro l
    induction l with
    | nil => intro _ h; cases h
    | cons x l ih =>
      intro hnd hm
      rw [List.nodup_cons] at hnd
      rw [List.countP_cons, List.countP_cons]
      by_cases e : x = i
      · subst e
        have : (l.countP fun j => !(inSet listed j || j == x)) = l.countP fun j => !inSet listed j :=
          List.countP_congr fun y hy => by
            have : y ≠ x := fun e => hnd.1 (e ▸ hy)
            simp [this]
        rw [this]
        simp [h0]
      · have hm' : i ∈ l := by rcases List.mem_cons.1 hm with h | h; exact absurd h.symm e; exact h
        have := ih hnd.2 hm'
        have hx : (x == i) = false := by simpa using e
        simp only [hx, Bool.or_false]
        omega
  exact key _ List.nodup_range (List.mem_range.2 hn)

theorem any_region (hC : CapsOk G m0) (h1 : ps.map (·.1) = all) (h2 : fs = ps.map (·.2.fp)) (hE : edgesOk all = true) (ho : orderOk all fs = true)
    (hdid : ∀ k o d, ps[k]? = some (o, d) → DidAt P G all S.gen (stD S ps (fun j => decide (j < k))) k o d) (hdst : ∀ o ∈ all, ∀ t, o.dst = some t → t < n)
    (hQ : ∀ a w, Rel G V0 L0 w0 m0 n (· < S.gen + all.length) (stD S ps fun _ => true) a w → Q .normal a w) :
    ∀ (fuel : Nat) (listed : Array Bool) (a : Act) (w : World), listed.size = all.length → left all.length listed ≤ fuel → Closed all (fun j => inSet listed j = true) →
      Rel G V0 L0 w0 m0 n (fun x => x < S.gen ∨ ∃ j, inSet listed j = true ∧ x = S.gen + j) (stD S ps (inSet listed)) a w → wpAny P .any all.toArray Q fuel listed a w := by
  have hlen : all.length = ps.length := by rw [← h1]; simp
  have fin : ∀ (listed : Array Bool) (a : Act) (w : World), listed.size = all.length → Region.ready .any all.toArray listed = [] →
      Rel G V0 L0 w0 m0 n (fun x => x < S.gen ∨ ∃ j, inSet listed j = true ∧ x = S.gen + j) (stD S ps (inSet listed)) a w → Q .normal a w := by
    intro listed a w hs hr hR
    have hall := ready_done hs hE hr
    rw [stD_congr S ps (D' := fun _ => true) (fun j hj => hall j (by omega))] at hR
    refine hQ a w (hR.used fun x hx => ?_)
    rcases hx with hx | ⟨j, hj, rfl⟩
    · omega
    · have : j < listed.size := by
        apply Classical.byContradiction
        intro hn
        unfold inSet at hj
        rw [Array.getD_eq_getD_getElem?, Array.getElem?_eq_none (by omega)] at hj
        cases hj
      omega
  intro fuel
  induction fuel with
  | zero =>
    intro listed a w hs hf hc hR
    have hr : Region.ready .any all.toArray listed = [] := by
      cases e : Region.ready .any all.toArray listed with
      | nil => rfl
      | cons i r =>
        obtain ⟨o, g1, g2, g3⟩ := (ready_mem (i := i) hs).1 (by rw [e]; simp)
        have hi := (List.getElem?_eq_some_iff.1 g1).1
        have := left_set (n := all.length) (i := i) (by omega) hi g2
        omega
    exact ⟨hr, fin listed a w hs hr hR⟩
  | succ fuel ih =>
    intro listed a w hs hf hc hR
    refine ⟨fun hr => fin listed a w hs hr hR, fun i hi => ?_⟩
    obtain ⟨o, g1, g2, g3⟩ := (ready_mem hs).1 hi
    have hil := (List.getElem?_eq_some_iff.1 g1).1
    obtain ⟨d, hx⟩ : ∃ d, ps[i]? = some (o, d) := by
      have : (ps.map (·.1))[i]? = some o := by rw [h1]; exact g1
      obtain ⟨y, hy, rfl⟩ := ps_map this
      exact ⟨y.2, hy⟩
    obtain ⟨hdd, happ⟩ := any_did h1 h2 ho hc hx g2 g3 (by simpa using hdid i o d hx)
    have hset := inSet_set (listed := listed) (i := i) (by omega)
    have hleft := left_set (n := all.length) (i := i) (listed := listed) (by omega) hil g2
    have hc' : Closed all (fun j => inSet (listed.setIfInBounds i true) j = true) := by
      rw [hset]
      intro j o' hj ho' k hk
      simp only [Bool.or_eq_true, beq_iff_eq] at hj ⊢
      rcases hj with hj | rfl
      · exact .inl (hc j o' hj ho' k hk)
      · rw [g1] at ho'; cases ho'
        exact .inl (g3 k hk)
    have hu : ¬ (S.gen + i < S.gen ∨ ∃ j, inSet listed j = true ∧ S.gen + i = S.gen + j) := by
      rintro (h | ⟨j, hj, e⟩)
      · omega
      · have : i = j := by omega
        subst this; rw [g2] at hj; cases hj
    have next : ∀ a' w', Rel G V0 L0 w0 m0 n (fun x => (x < S.gen ∨ ∃ j, inSet listed j = true ∧ x = S.gen + j) ∨ x = S.gen + i) ((stD S ps (inSet listed)).app o.dst d) a' w' →
        wpAny P .any all.toArray Q fuel (listed.setIfInBounds i true) a' w' := by
      intro a' w' hR'
      refine ih _ a' w' (by simpa using hs) (by omega) hc' ?_
      rw [happ] at hR'
      rw [hset]
      refine hR'.used fun x hx => ?_
      rcases hx with (hx | ⟨j, hj, rfl⟩) | rfl
      · exact .inl hx
      · exact .inr ⟨j, by simp [hj], rfl⟩
      · exact .inr ⟨i, by simp, rfl⟩
    unfold wpOp
    simp only [List.getElem?_toArray, g1]
    rcases hdd with ⟨hw, rfl⟩ | ⟨hw, hstep⟩
    · rw [wants_rel hR hw]
      simp only [Bool.false_eq_true, if_false]
      exact next _ _ ((skip_rel hR (hdst o (List.mem_of_getElem? g1))).used fun x hx => .inl hx)
    · rw [wants_rel hR hw]
      simp only [if_true]
      exact .inl (op_rel hC hR hu hstep (hdst o (List.mem_of_getElem? g1)) next)

theorem Rel.drawn {U : Nat → Prop} {a : Act} {w : World} (h : Rel G V0 L0 w0 m0 n U S a w) (k : Nat) : Rel G V0 L0 w0 m0 n U S a { w with drawn := k } := by
  obtain ⟨h1, h2, V, m, x0, M, E⟩ := h
  exact ⟨h1, h2, V, m, x0, M.same rfl rfl rfl rfl, ERel.mono (w := w) (fun _ _ h => h) (fun _ h => h) ⟨fun _ _ => rfl⟩ E⟩

theorem region_sound (hC : CapsOk G m0) (hm : P.follows .mixedOrders = true) {id : Nat} {S' : St} {draw : Bool} {a : Act} {w : World} (hr : Run P G all S.gen 0 all S fs S') (hd : draw = true → edgesOk all = true ∧ orderOk all fs = true)
    (hdst : ∀ o ∈ all, ∀ t, o.dst = some t → t < n) (hR : Rel G V0 L0 w0 m0 n (· < S.gen) S a w) (hQ : ∀ a w, Rel G V0 L0 w0 m0 n (· < S.gen + all.length) S' a w → Q .normal a w) :
    (Code.region id all.toArray draw).wp P Q a w := by
  cases draw with
  | false => exact wp_region_list (run_list hC hr (by simpa using hR) hdst fun a' w' h => hQ a' w' (by simpa using h))
  | true =>
    obtain ⟨hE, ho⟩ := hd rfl
    obtain ⟨ps, h1, h2, rfl, h4⟩ := run_did hr
    refine wp_region_any hm (any_region hC h1 h2 hE ho (by simpa using h4) hdst hQ _ _ _ _ (by simp) ?_ ?_ ?_)
    · unfold left
      exact Nat.le_trans List.countP_le_length (by simp)
    · intro j o hj
      exfalso
      revert hj
      unfold inSet
      rw [Array.getD_eq_getD_getElem?]
      simp only [Array.getElem?_replicate]
      split <;> simp
    · have h0 : ∀ j, inSet (Array.replicate all.toArray.size false) j = false := by
        intro j
        unfold inSet
        rw [Array.getD_eq_getD_getElem?]
        simp only [Array.getElem?_replicate]
        split <;> simp
      rw [stD_none _ _ h0]
      exact (hR.drawn _).used fun x hx => .inl hx

end
end Go.Sh
end
section
namespace Go.Sh

section
variable {P : Program} {G : Glob} {V0 : Nat → Prop} {L0 : List Nat} {w0 : World} {m0 : KM} {n : Nat} {S : St}

/-- A loop whose first round has begun. -/
def wpIn (P : Program) (c : Code) (Q : Exit → Act → World → Prop) (a : Act) (w : World) : Prop :=
  ∀ (b : Frame) (k : List Item) (cs : List Frame), ∃ e a' w', Q e a' w' ∧ Arrives P (lone (b.at a (.code c :: .inLoop c :: k)) cs w) b k cs e a' w'

theorem wp_of_in {c : Code} {Q : Exit → Act → World → Prop} {a : Act} {w : World} (h : wpIn P c Q a w) : (Code.loop c).wp P Q a w :=
  fun b k cs => let ⟨e, a', w', q, r⟩ := h b k cs; ⟨e, a', w', q, .of_steps (.one step_loop) r⟩

theorem wpIn_round {c : Code} {Q : Exit → Act → World → Prop} {a : Act} {w : World} (h : c.wp P (Exit.then (wpIn P c Q) Q) a w) : wpIn P c Q a w := by
  intro b k cs
  obtain ⟨e, a₁, w₁, hq, harr⟩ := h b (.inLoop c :: k) cs
  cases e with
  | normal =>
    obtain ⟨e₂, a₂, w₂, hq₂, harr₂⟩ := hq b k cs
    exact ⟨e₂, a₂, w₂, hq₂, .of_steps (Steps.trans harr (.one step_inLoop)) harr₂⟩
  | exit id => exact ⟨_, a₁, w₁, hq, .pass (x := .inLoop c) rfl (fun _ _ => .inl (by simp)) harr⟩
  | goto l => exact ⟨_, a₁, w₁, hq, .pass (x := .inLoop c) rfl (fun _ _ => .inl (by simp)) harr⟩
  | ret => exact ⟨_, a₁, w₁, hq, .pass (x := .inLoop c) rfl (fun _ _ => .inl (by simp)) harr⟩
  | panic ch => exact ⟨_, a₁, w₁, hq, .pass (x := .inLoop c) rfl (fun _ _ => .inl (by simp)) harr⟩
  | outgrown => exact ⟨_, a₁, w₁, hq, .pass (x := .inLoop c) rfl (fun _ _ => .inl (by simp)) harr⟩

theorem then_normal {next : Act → World → Prop} {Q : Exit → Act → World → Prop} {a w} : Exit.then next Q .normal a w = next a w := rfl
theorem then_ne {next : Act → World → Prop} {Q : Exit → Act → World → Prop} {e : Exit} {a w} (he : e ≠ .normal) : Exit.then next Q e a w = Q e a w := by
  cases e <;> first | rfl | exact absurd rfl he

theorem Rel.le {A : St} {a : Act} {w : World} (h : Rel G V0 L0 w0 m0 n (· < S.gen) S a w) (hl : Le A S) : Rel G V0 L0 w0 m0 n (· < A.gen) A a w := by
  obtain ⟨h1, h2, V, m, x0, M, E⟩ := h
  have old : ∀ k b, A.heap k = some b → S.heap k = some b := fun k b e => by
    rcases hl.heap k with h | h
    · rw [← h]; exact e
    · rw [h] at e; cases e
  refine ⟨h1, h2, V, m, x0, ⟨fun k b e => M.heap k b (old k b e), fun k k' b b' i i' r e e' => M.inj k k' b b' i i' r (old k b e) (old k' b' e'), fun k b i r e => M.mine k b i r (old k b e),
    fun k b i r e => M.imm k b i r (old k b e), fun k i e => Nat.lt_of_lt_of_le (M.gen k i e) hl.gen, M.vsz, M.v0, M.glob, M.frame⟩, fun t => ?_⟩
  rcases hl.env t with h | h
  · rw [h]; exact E t
  · rw [h]; exact .any _

theorem ra_sound {V : Nat → Prop} {m m' : KM} {h : Key → Option Blk} {rn : List (Key × Key)} {vi : List (Key × Nat)} {w : World} {U : Nat → Prop} (M : MRel G V0 L0 w0 U V m h w)
    (hm : ∀ k, m' k = match virt vi k with | some W => some ⟨none, 0, W, 0⟩ | none => m (rho rn k)) {v : Value} {a b : AV} (hr : RA h rn vi a b) (hv : ARep m V w v b) : ARep m' V w v a := by
  have hk : ∀ k, virt vi k = none → m' k = m (rho rn k) := fun k hv => by rw [hm, hv]
  unfold RA at hr
  split at hr
  · exact .p (.any _ hv.one)
  · subst hr; cases hv with | p hv => exact .p hv
  · cases hv; exact .nilS
  · obtain ⟨rfl, rfl, h3⟩ := hr
    rename_i k
    obtain ⟨W, hW⟩ := Option.isSome_iff_exists.1 h3
    cases hv
    have : ARep m' V w (.slice none 0 ((⟨none, 0, W, 0⟩ : KI).cap - 0)) (.ref k 0 0) := .ref (by rw [hm, hW]) (by simp) (fun hlt => by simp at hlt)
    simpa using this
  · obtain ⟨h1, h2, rfl, rfl⟩ := hr
    cases hv with | ref e1 e2 e3 => exact .ref (by rw [hk _ h1, h2]; exact e1) e2 e3
  · obtain ⟨h1, h2, rfl, rfl, rfl⟩ := hr
    cases hv with | cref e1 e2 e3 e4 => exact .cref (by rw [hk _ h1, h2]; exact e1) e2 e3 e4
  · obtain ⟨h1, h2, rfl, rfl⟩ := hr
    cases hv with | ptr e1 e2 => exact .ptr (by rw [hk _ h1, h2]; exact e1) e2
  · obtain ⟨rfl, rfl⟩ := hr
    cases hv with | pb f e1 e2 e3 => exact .pb f e1 e2 e3
  · obtain ⟨rfl, rfl, h3⟩ := hr
    rename_i f ks _ _
    cases hv with | fn hs he =>
    refine .fn (by simpa using hs) fun i k hi => ?_
    obtain ⟨x, b, a1, a2, a3⟩ := he i (rho rn k) (by simp [hi])
    exact ⟨x, b, by rw [hk _ (h3 k (List.mem_of_getElem? hi))]; exact a1, a2, a3⟩
  · subst hr; cases hv; exact .p (.nil _ _)
  · rename_i l k r n
    obtain ⟨W, L, h1, h2, rfl⟩ := hr
    refine .p ?_
    have hrows : rowsOf h (.c (.ref k r n)) = some ((L.drop r).take n, [k]) := by simp only [rowsOf, h1, if_pos h2]
    have := rowsOf_lend (lent := [k]) M (.c hv) hrows (fun _ h => h)
    refine this.mono (fun b hb => ?_) (kept_refl _ _)
    rcases hb with hb | hb
    · exact hb
    · simp only [rbs, List.filterMap_cons, List.filterMap_nil] at hb
      split at hb
      · cases hb
      · rename_i r' hr'
        simp only [List.mem_singleton] at hb
        subst hb
        simp only [Option.bind_eq_some_iff] at hr'
        obtain ⟨i, e1, e2⟩ := hr'
        exact M.imm k _ i _ h1 rfl e1 e2
  · exact hr.elim

theorem rl_sound {V : Nat → Prop} {m m' : KM} {h : Key → Option Blk} {rn : List (Key × Key)} {vi : List (Key × Nat)} {w : World} {U : Nat → Prop} (M : MRel G V0 L0 w0 U V m h w)
    (hm : ∀ k, m' k = match virt vi k with | some W => some ⟨none, 0, W, 0⟩ | none => m (rho rn k)) : ∀ {vs : List Value} {l l' : List AV}, RL h rn vi l l' → LRep m V w vs l' → LRep m' V w vs l
  | [], l, l', hr, hv => by
    cases hv
    cases l with
    | nil => exact .nil
    | cons a l => simp [RL] at hr
  | v :: vs, l, l', hr, hv => by
    cases hv with | cons h1 h2 =>
    cases l with
    | nil => simp [RL] at hr
    | cons a l =>
      obtain ⟨e1, e2⟩ := hr
      exact .cons (ra_sound M hm e1 h1) (rl_sound M hm e2 h2)

theorem rt_sound {V : Nat → Prop} {m m' : KM} {h : Key → Option Blk} {rn : List (Key × Key)} {vi : List (Key × Nat)} {w : World} {U : Nat → Prop} (M : MRel G V0 L0 w0 U V m h w)
    (hm : ∀ k, m' k = match virt vi k with | some W => some ⟨none, 0, W, 0⟩ | none => m (rho rn k)) {v : Value} {x y : TV} (hr : RT h rn vi x y) (hv : TRep m V w v y) : TRep m' V w v x := by
  unfold RT at hr
  split at hr
  · exact .any _
  · cases hv with | c hv => exact .c (ra_sound M hm hr hv)
  · cases hv with | agg hv => exact .agg (rl_sound M hm hr hv)
  · obtain ⟨rfl, rfl⟩ := hr
    cases hv with | tup q1 q2 => exact .tup q1 (by simp)
  · exact hr.elim

theorem Rel.ren {A : St} {a : Act} {w : World} (h : Rel G V0 L0 w0 m0 n (· < S.gen) S a w) (hl : Ren A S) : Rel G V0 L0 w0 m0 n (· < A.gen) A a w := by
  obtain ⟨h1, h2, V, m, x0, M, E⟩ := h
  obtain ⟨rn, vi, henv, hheap, hinj, hnew, hgen⟩ := hl.ex
  let m' : KM := fun k => match virt vi k with | some W => some ⟨none, 0, W, 0⟩ | none => m (rho rn k)
  have hm : ∀ k, m' k = match virt vi k with | some W => some ⟨none, 0, W, 0⟩ | none => m (rho rn k) := fun _ => rfl
  have hn : ∀ k, virt vi k = none → m' k = m (rho rn k) := fun k hv => by rw [hm, hv]
  have hext : Ext m m' := fun k i e => by
    have hg := M.gen k i e
    have e1 : virt vi k = none := by
      cases hv : virt vi k with
      | none => rfl
      | some W => exact absurd (hnew k (.inl (by rw [hv]; simp))).1 (by show ¬ _; have : k.g < S.gen := hg; omega)
    have e2 : rho rn k = k := by
      by_cases hr : rho rn k = k
      · exact hr
      · exact absurd (hnew k (.inr hr)).1 (by have : k.g < S.gen := hg; omega)
    rw [hn k e1, e2]; exact e
  have hb : ∀ k b i r, A.heap k = some b → m' k = some i → i.rb = some r → virt vi k = none ∧ m (rho rn k) = some i ∧ ∃ b', S.heap (rho rn k) = some b' ∧ b.mu = b'.mu := by
    intro k b i r e1 e2 e3
    rcases hheap k b e1 with ⟨W, e4, _⟩ | ⟨e4, b', e5, e6⟩
    · rw [hm, e4] at e2; cases e2; cases e3
    · refine ⟨e4, by rw [hn k e4] at e2; exact e2, b', e5, ?_⟩
      unfold RB at e6
      split at e6
      · exact e6.1
      · exact e6.1
      · exact e6.elim
  refine ⟨h1, h2, V, m', fun k i e => hext _ _ (x0 k i e), ⟨fun k b e => ?_, ?_, ?_, ?_, ?_, M.vsz, M.v0, M.glob, M.frame⟩, fun t => ?_⟩
  · rcases hheap k b e with ⟨W, e1, rfl⟩ | ⟨e1, b', e2, e3⟩
    · exact ⟨⟨none, 0, W, 0⟩, by rw [hm, e1], .nil rfl rfl rfl⟩
    · obtain ⟨i, hi, hrep⟩ := M.heap _ _ e2
      refine ⟨i, by rw [hn k e1]; exact hi, ?_⟩
      unfold RB at e3
      split at e3
      · obtain ⟨rfl, e4⟩ := e3
        cases hrep with | box q0 q1 q2 q3 => exact .box q0 q1 q2 (rl_sound M hm e4 q3)
      · obtain ⟨rfl, rfl, rfl⟩ := e3
        cases hrep with
        | nil q1 q2 q3 => exact .nil q1 q2 q3
        | arr q1 q2 q3 q4 q5 q6 => exact .arr q1 q2 q3 q4 q5 q6
      · exact e3.elim
  · intro k k' b b' i i' r e1 e2 m1 m2 q1 q2 r1 r2
    obtain ⟨a1, a2, c1, a3, a4⟩ := hb k b i r e1 q1 r1
    obtain ⟨b1, b2, c2, b3, b4⟩ := hb k' b' i' r e2 q2 r2
    exact hinj k k' (by rw [e1]; simp) (by rw [e2]; simp) a1 b1 (M.inj _ _ _ _ i i' r a3 b3 (by rw [← a4]; exact m1) (by rw [← b4]; exact m2) a2 b2 r1 r2)
  · intro k b i r e1 m1 q1 r1
    obtain ⟨a1, a2, c1, a3, a4⟩ := hb k b i r e1 q1 r1
    exact M.mine _ _ i r a3 (by rw [← a4]; exact m1) a2 r1
  · intro k b i r e1 m1 q1 r1
    obtain ⟨a1, a2, c1, a3, a4⟩ := hb k b i r e1 q1 r1
    exact M.imm _ _ i r a3 (by rw [← a4]; exact m1) a2 r1
  · intro k i e
    show k.g < A.gen
    cases hv : virt vi k with
    | some W => exact (hnew k (.inl (by rw [hv]; simp))).2
    | none =>
      by_cases hr : rho rn k = k
      · rw [hn k hv, hr] at e
        have : k.g < S.gen := M.gen k i e
        omega
      · exact (hnew k (.inr hr)).2
  · exact rt_sound M hm (henv t) (E t)

theorem Rel.frz {k : Key} {b : Blk} {a : Act} {w : World} (h : Rel G V0 L0 w0 m0 n (· < S.gen) S a w) (hk : S.heap k = some b) :
    Rel G V0 L0 w0 m0 n (· < S.gen) { S with heap := updH S.heap k (some b.still) } a w := by
  obtain ⟨h1, h2, V, m, x0, M, E⟩ := h
  exact ⟨h1, h2, lentV V m [k], m, x0, M.frz hk, fun t => (E t).mono (fun _ _ h => h) (lentV_left V m [k]) (kept_refl _ _)⟩

theorem bs_sound (hC : CapsOk G m0) (hm : P.follows .mixedOrders = true) {c : Code} {e : Exit} {S' : St} (hb : BS P G c S e S') : slotsOk n c = true → ∀ {Q : Exit → Act → World → Prop} {a w}, Rel G V0 L0 w0 m0 n (· < S.gen) S a w →
    (∀ a' w', Rel G V0 L0 w0 m0 n (· < S'.gen) S' a' w' → Q e a' w') → c.wp P Q a w ∧ ∀ body, c = .loop body → wpIn P body Q a w := by
  induction hb with
  | skip => intro _ Q a w h k; exact ⟨wp_skip (k a w h), by simp⟩
  | label => intro _ Q a w h k; exact ⟨wp_label (k a w h), by simp⟩
  | ret => intro _ Q a w h k; exact ⟨wp_ret (k a w h), by simp⟩
  | exit => intro _ Q a w h k; exact ⟨wp_exit (k a w h), by simp⟩
  | seqN _ _ ih ih' =>
    intro hs Q a w h k
    simp only [slotsOk, Bool.and_eq_true] at hs
    exact ⟨wp_seq (ih hs.1 h fun a' w' h' => by rw [then_normal]; exact (ih' hs.2 h' k).1).1, by simp⟩
  | seqX _ he ih =>
    intro hs Q a w h k
    simp only [slotsOk, Bool.and_eq_true] at hs
    exact ⟨wp_seq (ih hs.1 h fun a' w' h' => by rw [then_ne he]; exact k a' w' h').1, by simp⟩
  | @cond c x y S t e S' hc _ ih =>
    intro hs Q a w h k
    simp only [slotsOk, Bool.and_eq_true] at hs
    obtain ⟨_, _, V, m, _, M, E⟩ := id h
    have hev := ev_rep E M.glob c
    rw [hc] at hev
    exact ⟨wp_cond hev.bool_eq (ih (by cases t; exact hs.2; exact hs.1) h k).1, by simp⟩
  | @block id x S e S' _ ih =>
    intro hs Q a w h k
    refine ⟨wp_block (ih hs h fun a' w' h' => ?_).1, by simp⟩
    have := k a' w' h'
    cases e with
    | exit i => simp only [Exit.inBlock, outOf] at this ⊢; split <;> simp_all
    | _ => exact this
  | loopN _ _ ih ih' =>
    intro hs Q a w h k
    have : wpIn P _ Q a w := wpIn_round (ih hs h fun a' w' h' => by rw [then_normal]; exact (ih' hs h' k).2 _ rfl).1
    exact ⟨wp_of_in this, fun body hb => by cases hb; exact this⟩
  | loopX _ he ih =>
    intro hs Q a w h k
    have : wpIn P _ Q a w := wpIn_round (ih hs h fun a' w' h' => by rw [then_ne he]; exact k a' w' h').1
    exact ⟨wp_of_in this, fun body hb => by cases hb; exact this⟩
  | @scope x S e S' _ he ih =>
    intro hs Q a w h k
    refine ⟨wp_scope_straight (ih hs h fun a' w' h' => ?_).1, by simp⟩
    cases e with
    | goto l => exact absurd rfl (he l)
    | _ => exact k a' w' h'
  | @region id S ops fs S' draw hr hl hd =>
    intro hs Q a w h k
    refine ⟨region_sound hC hm hr hd (fun o ho t ht => ?_) h fun a' w' h' => k a' w' (h'.used fun x hx => ?_), by simp⟩
    · simp only [slotsOk, List.all_eq_true] at hs
      have := hs o ho
      rw [ht] at this
      simpa using this
    · show x < S.gen + 1000
      omega
  | weak _ hl ih =>
    intro hs Q a w h k
    exact ih hs (h.le hl) k
  | ren _ hl ih =>
    intro hs Q a w h k
    exact ih hs (h.ren hl) k
  | frz k b hk _ ih =>
    intro hs Q a w h k'
    exact ih hs (h.frz hk) k'

end
end Go.Sh
end
section
namespace Go.Sh

section
variable {P : Program} {G : Glob} {V0 : Nat → Prop} {L0 : List Nat} {w0 : World} {V : Nat → Prop} {w : World}

/-- What holds while the parameters are taken in. -/
structure Begun (G : Glob) (V0 : Nat → Prop) (L0 : List Nat) (w0 : World) (V : Nat → Prop) (w : World) (m : KM) (S : St) (i : Nat) (F : List Nat) : Prop where
  rel : MRel G V0 L0 w0 (· < 2 * i) V m S.heap w
  free : Free V L0 w0 m S.heap F
  gen : S.gen = 1000

/-- The variables behind the parameters, with their keys. -/
def ioKeys : Nat → List BV → List (Key × Option Nat)
  | _, [] => []
  | i, .io _ :: r => (⟨1024 * i, 2 * i + 1⟩, none) :: ioKeys (i + 1) r
  | i, .els _ l :: r => (⟨1024 * i + 1, 2 * i⟩, some l.length) :: ioKeys (i + 1) r
  | i, _ :: r => ioKeys (i + 1) r

theorem ioKeys_cons (i : Nat) (b : BV) (r : List BV) : ioKeys i (b :: r) = ioKeys i [b] ++ ioKeys (i + 1) r := by
  cases b <;> simp [ioKeys]

theorem arg_sound {v : Value} {b : BV} {L F : List Nat} {i : Nat} {m : KM} {S : St} (hb : BRep V w v b L) (B : Begun G V0 L0 w0 V w m S i (L ++ F)) :
    ∃ m', Ext m m' ∧ TRep m' V w v (argT i b).1 ∧ Begun G V0 L0 w0 V w m' ⟨put S.env (some i) (argT i b).1, putH S.heap (argT i b).2, S.gen⟩ (i + 1) F ∧
      IoVs m' (ioKeys i [b]) (ioVals [b] [v]) := by
  have hun : ∀ s, Unused m (2 * i) s := fun s s' _ => by
    cases e : m ⟨s', 2 * i⟩ with
    | none => rfl
    | some k => exact absurd (B.rel.gen _ _ e) (Nat.lt_irrefl _)
  have T : Taken G V0 L0 w0 (· < 2 * i + 1) V w (2 * i) m S.heap (1024 * i + 1) (L ++ F) :=
    ⟨B.rel.used fun g hg => Nat.lt_succ_of_lt hg, B.free, hun _⟩
  have hu : (· < 2 * i + 1) (2 * i) := Nat.lt_succ_self _
  by_cases hio : ∃ l, b = .io l
  · obtain ⟨l, rfl⟩ := hio
    cases hb with | @io r arr elem _ L3 hh hl =>
    have T0 : Taken G V0 L0 w0 (· < 2 * i + 1) V w (2 * i) m S.heap (1024 * i + 1) (L3 ++ (r :: F)) := by
      refine ⟨T.rel, ⟨?_, fun b hb => T.free.2 b (by simp at hb ⊢; rcases hb with h1 | h1 | h1 <;> simp [h1])⟩, T.unused⟩
      have := T.free.1
      simp only [List.cons_append] at this
      exact (List.perm_middle.symm.nodup_iff).1 this
    obtain ⟨m1, x1, r1, T1⟩ := getL_sound (U := (· < 2 * i + 1)) hu hl T0
    let k : Key := ⟨1024 * i, 2 * i + 1⟩
    let ki : KI := ⟨some r, 0, 0, 0⟩
    have hk : m1 k = none := by
      cases e : m1 k with
      | none => rfl
      | some j => exact absurd (T1.rel.gen _ _ e) (Nat.lt_irrefl _)
    have hx := ext_add (i := ki) hk
    have hf := T1.free.2 r (by simp)
    obtain ⟨M2, _⟩ := (T1.rel.used (U' := (· < 2 * (i + 1))) fun g hg => by omega).adopt (k := k) (i := ki) (blk := .box true (getL (2 * i) (1024 * i + 1) l).1) (by simp [k]; omega) hk
      (.box rfl rfl hh (r1.mono hx (fun _ h => h) (kept_refl _ _))) rfl (fun r' hr' => by simp [ki] at hr'; subst hr'; exact hf)
    have F2 := (T1.free.right (F := [r])).add (k := k) (i := ki) (blk := .box true (getL (2 * i) (1024 * i + 1) l).1) (.inl hk) (fun r' hr' => by
      simp [ki] at hr'; subst hr'
      exact (List.nodup_cons.1 T1.free.1).1)
    have mk : addK m1 k ki k = some ki := by simp [addK]
    refine ⟨addK m1 k ki, fun j x e => hx _ _ (x1 _ _ e), ?_, ⟨?_, ?_, B.gen⟩, ⟨⟨ki, r, mk, rfl, rfl, rfl⟩, trivial⟩⟩
    · have : ARep (addK m1 k ki) V w (.pointer (some ⟨r, ki.base + 0 * ki.w + 0, none⟩)) (.ptr k 0 0) := .ptr mk rfl
      simpa [argT, ki] using TRep.c this
    · simp only [argT]
      rw [putH_append]
      simpa [putH] using M2
    · simp only [argT]
      rw [putH_append]
      simpa [putH] using F2
  · have e : argT i b = ((getT (2 * i) (1024 * i + 1) b).1, (getT (2 * i) (1024 * i + 1) b).2.1) := by
      cases b <;> first | rfl | exact absurd ⟨_, rfl⟩ hio
    obtain ⟨m1, x1, r1, T1⟩ := getT_sound (U := (· < 2 * i + 1)) hu hb T
    rw [e]
    refine ⟨m1, x1, r1, ⟨T1.rel.used fun g hg => by omega, T1.free, B.gen⟩, ?_⟩
    cases b with
    | io l => exact absurd ⟨_, rfl⟩ hio
    | els W l =>
      simp only [getT] at r1
      generalize hvv : v = vv at r1
      cases r1 with | c r1 => cases r1 with
      | @ref _ ki a _ _ hm hr ha =>
        simp only [ioKeys, ioVals]
        refine ⟨⟨ki, a, hm, by omega, fun h0 => by simpa using ha h0, by simp⟩, trivial⟩
    | _ => simp [ioKeys, ioVals, IoVs]

theorem args_sound {vs : List Value} {bs : List BV} {L : List Nat} (hb : BsRep V w vs bs L) : ∀ {i : Nat} {m : KM} {S : St} {F : List Nat}, Begun G V0 L0 w0 V w m S i (L ++ F) →
    ∃ m', Ext m m' ∧ Begun G V0 L0 w0 V w m' (argsS S i bs) (i + bs.length) F ∧ (∀ j v, vs[j]? = some v → TRep m' V w v ((argsS S i bs).env (i + j))) ∧
      (∀ t, (t < i ∨ i + bs.length ≤ t) → (argsS S i bs).env t = S.env t) ∧ vs.length = bs.length ∧
      IoVs m' (ioKeys i bs) (ioVals bs vs) := by
  match bs with
  | [] =>
    cases hb
    intro i m S F B
    exact ⟨m, fun _ _ h => h, B, by simp, fun _ _ => rfl, rfl, by simp [ioKeys, ioVals, IoVs]⟩
  | b :: bs =>
    cases hb with | @cons v _ L1 vs _ L2 hc ht =>
    intro i m S F B
    rw [List.append_assoc] at B
    obtain ⟨m1, x1, r1, B1, q1⟩ := arg_sound hc B
    obtain ⟨m2, x2, B2, r2, r3, r4, r5⟩ := args_sound ht B1
    have hl : i + 1 + bs.length = i + (b :: bs).length := by simp; omega
    rw [hl] at B2
    refine ⟨m2, fun k j e => x2 _ _ (x1 _ _ e), B2, fun j u hu => ?_, fun t ht' => ?_, by simp [r4], ?_⟩
    · cases j with
      | zero =>
        simp at hu; subst hu
        have := r3 i (.inl (Nat.lt_succ_self _))
        simp only [argsS, Nat.add_zero]
        rw [this]
        simp only [put, upd, if_true]
        exact r1.mono x2 (fun _ h => h) (kept_refl _ _)
      | succ j =>
        have := r2 j u (by simpa using hu)
        simp only [argsS]
        rwa [show i + (j + 1) = i + 1 + j by omega]
    · simp only [argsS]
      rw [r3 t (by simp only [List.length_cons] at ht'; omega)]
      simp only [put, upd]
      rw [if_neg (by simp only [List.length_cons] at ht'; omega)]
    · rw [ioKeys_cons, ioVals_cons]
      exact (q1.ext x2).append r5

theorem argsS_gen : ∀ (bs : List BV) (S : St) (i : Nat), (argsS S i bs).gen = S.gen
  | [], _, _ => rfl
  | b :: bs, S, i => by simp only [argsS]; rw [argsS_gen]

/-- The beginning. -/
theorem start_sound {vals : List Value} {args : List BV} {L : List Nat} {n : Nat} (hb : BsRep V w vals args L) (hnd : L.Nodup) (hL : ∀ b ∈ L, ¬ V b) (hV : ∀ b, V b → b < w.heap.size) (hg : GlobRep V w G)
    (hn : args.length ≤ n) (h500 : args.length ≤ 500) :
    ∃ m, MRel G V L w (· < (start args).gen) V m (start args).heap w ∧ ERel m V w (vals.toArray ++ Array.replicate (n - vals.toArray.size) undef) (start args).env ∧
      (vals.toArray ++ Array.replicate (n - vals.toArray.size) undef).size = n ∧
      IoVs m (ioKeys 0 args) (ioVals args vals) ∧ (∀ j v, vals[j]? = some v → TRep m V w v ((start args).env j)) := by
  let S0 : St := ⟨fun _ => .tup [], fun _ => none, 1000⟩
  have M0 : MRel G V L w (· < 2 * 0) V (fun _ => none) S0.heap w :=
    ⟨by simp [S0], by simp [S0], by simp [S0], by simp [S0], by simp, fun b h => ⟨hV b h, .inl h⟩, fun _ h => h, hg, ⟨rfl, rfl, rfl, Nat.le_refl _, fun _ _ _ => rfl⟩⟩
  have B0 : Begun G V L w V w (fun _ => none) S0 0 (L ++ []) := ⟨M0, ⟨by simpa using hnd, fun b hb => ⟨hL b (by simpa using hb), .inl (by simpa using hb), by simp [S0]⟩⟩, rfl⟩
  obtain ⟨m, _, B, r1, r2, r3, r4⟩ := args_sound hb B0
  have hgen : (start args).gen = 1000 := argsS_gen args S0 0
  refine ⟨m, B.rel.used fun g hg => ?_, fun t => ?_, ?_, r4, fun j v hj => by have := r1 j v hj; rwa [Nat.zero_add] at this⟩
  · show g < (start args).gen
    rw [hgen]
    have : g < 2 * (0 + args.length) := hg
    omega
  · rw [Array.getD_eq_getD_getElem?, Array.getElem?_append]
    split
    · rename_i hlt
      have hlt' : t < vals.length := by simpa using hlt
      have e : vals[t]? = some vals[t] := List.getElem?_eq_getElem hlt'
      have := r1 t _ e
      rw [List.getElem?_toArray, e]
      rw [Nat.zero_add] at this
      exact this
    · rename_i hge
      have hge' : vals.length ≤ t := by simpa using hge
      have e : (start args).env t = .tup [] := r2 t (.inr (by omega))
      rw [e]
      have : (Array.replicate (n - vals.toArray.size) undef)[t - vals.toArray.size]?.getD undef = undef := by
        rw [Array.getElem?_replicate]
        split <;> rfl
      rw [this]
      exact .tup (by simp) (by simp)
  · simp only [Array.size_append, List.size_toArray, Array.size_replicate]
    omega

end
end Go.Sh
end
section
namespace Go.Sh

section
variable {P : Program} {G : Glob} {V0 : Nat → Prop} {L0 : List Nat} {w0 : World} {U V : Nat → Prop} {m : KM} {h : Key → Option Blk} {w : World}

def Imm (h : Key → Option Blk) (ks : List Key) : Prop := ∀ k ∈ ks, ∃ b, h k = some b ∧ b.mu = false

theorem imm_lent (M : MRel G V0 L0 w0 U V m h w) {ks : List Key} (hi : Imm h ks) : ∀ b, lentV V m ks b → V b := by
  rintro b (hb | hb)
  · exact hb
  · simp only [rbs, List.mem_filterMap, Option.bind_eq_some_iff] at hb
    obtain ⟨k, hk, i, hi', hib⟩ := hb
    obtain ⟨bl, hbl, hmu⟩ := hi k hk
    exact M.imm k bl i b hbl hmu hi' hib

theorem outC_give {a : AV} {b ks} (ho : outC h a = some (b, ks)) : ∃ lent, giveIo h a = some (b, ⟨lent, ks, []⟩) ∧ Imm h lent := by
  cases a with
  | p v => simp [outC] at ho; obtain ⟨rfl, rfl⟩ := ho; exact ⟨[], rfl, fun k hk => by cases hk⟩
  | nilS => simp [outC] at ho; obtain ⟨rfl, rfl⟩ := ho; exact ⟨[], rfl, fun k hk => by cases hk⟩
  | ref k r n =>
    simp only [outC] at ho
    split at ho
    · rename_i hh
      split at ho
      · rename_i hc
        cases ho
        exact ⟨[], by simp only [giveIo, hh, if_pos hc], fun k hk => by cases hk⟩
      · cases ho
    · rename_i hh
      split at ho
      · rename_i hc
        cases ho
        refine ⟨[k], by simp only [giveIo, hh, if_pos hc], fun k' hk' => ?_⟩
        simp at hk'; subst hk'
        exact ⟨_, hh, rfl⟩
      · cases ho
    · cases ho
  | _ => simp [outC] at ho

theorem imm_append {a b : List Key} (ha : Imm h a) (hb : Imm h b) : Imm h (a ++ b) := fun k hk => (List.mem_append.1 hk).elim (ha k) (hb k)

theorem outL_give : ∀ {l : List AV} {bs ks}, outL h l = some (bs, ks) → ∃ lent, giveL (giveIo h) l = some (bs, ⟨lent, ks, []⟩) ∧ Imm h lent
  | [], bs, ks, ho => by simp [outL] at ho; obtain ⟨rfl, rfl⟩ := ho; exact ⟨[], rfl, fun k hk => by cases hk⟩
  | a :: l, bs, ks, ho => by
    simp only [outL, Option.bind_eq_some_iff, Option.map_eq_some_iff, Prod.mk.injEq] at ho
    obtain ⟨⟨b, k1⟩, hb, ⟨bs', k2⟩, hbs, rfl, rfl⟩ := ho
    obtain ⟨l1, g1, i1⟩ := outC_give hb
    obtain ⟨l2, g2, i2⟩ := outL_give hbs
    exact ⟨l1 ++ l2, by simp [giveL, g1, g2, Took.add], imm_append i1 i2⟩

theorem outC_sound (M : MRel G V0 L0 w0 U V m h w) {v : Value} {a : AV} {b : BC} {ks} (hv : ARep m V w v a) (ho : outC h a = some (b, ks)) : ∃ L, BCRep V w v b L ∧ L.Sublist (rbs m ks) ∧ Mine h ks := by
  obtain ⟨lent, g, hi⟩ := outC_give ho
  obtain ⟨L, r1, r2, r3, _⟩ := giveIo_sound M hv g (fun _ h => h)
  exact ⟨L, r1.mono (imm_lent M hi), r2, r3⟩

theorem outL_sound (M : MRel G V0 L0 w0 U V m h w) {vs : List Value} {l : List AV} {bs : List BC} {ks} (hv : LRep m V w vs l) (ho : outL h l = some (bs, ks)) :
    ∃ L, BLRep V w vs bs L ∧ L.Sublist (rbs m ks) ∧ Mine h ks := by
  obtain ⟨lent, g, hi⟩ := outL_give ho
  obtain ⟨L, r1, r2, r3, _⟩ := giveL_sound M (giveIo h) (fun v a b t e1 e2 e3 => giveIo_sound M e1 e2 e3) hv g (fun _ h => h)
  exact ⟨L, r1.mono (imm_lent M hi), r2, r3⟩

theorem outT_sound (M : MRel G V0 L0 w0 U V m h w) {v : Value} {x : TV} {b : BV} {ks} (hv : TRep m V w v x) (ho : outT h x = some (b, ks)) : ∃ L, BRep V w v b L ∧ L.Sublist (rbs m ks) ∧ Mine h ks := by
  unfold outT at ho
  split at ho
  · rename_i k
    split at ho
    · rename_i l hh
      simp only [Option.map_eq_some_iff, Prod.mk.injEq] at ho
      obtain ⟨⟨bs, k1⟩, hb, rfl, rfl⟩ := ho
      cases hv with | c hv => cases hv with
      | @ptr _ ki r _ _ hm hr =>
        obtain ⟨ki', hm', hrep⟩ := M.heap _ _ hh
        rw [hm] at hm'; cases hm'
        cases hrep with | @box _ _ r' arr elem h0 hb' hh' hl =>
        rw [hr] at hb'; cases hb'
        obtain ⟨L, r1, r2, r3⟩ := outL_sound M hl hb
        refine ⟨r :: L, by have := BRep.io (V := V) r arr elem hh' r1; simpa [h0] using this, ?_, fun k' hk' => ?_⟩
        · have e : rbs m (k :: k1) = r :: rbs m k1 := by simp [rbs, hm, hr]
          rw [e]; exact r2.cons_cons r
        · rcases List.mem_cons.1 hk' with rfl | hk'
          · exact ⟨_, hh, rfl⟩
          · exact r3 k' hk'
    · cases ho
  · simp only [Option.map_eq_some_iff, Prod.mk.injEq] at ho
    obtain ⟨⟨bc, k1⟩, hb, rfl, rfl⟩ := ho
    cases hv with | c hv =>
    obtain ⟨L, r1, r2, r3⟩ := outC_sound M hv hb
    exact ⟨L, .cell r1, r2, r3⟩
  · simp only [Option.map_eq_some_iff, Prod.mk.injEq] at ho
    obtain ⟨⟨bc, k1⟩, hb, rfl, rfl⟩ := ho
    cases hv with | agg hv =>
    obtain ⟨L, r1, r2, r3⟩ := outL_sound M hv hb
    exact ⟨L, .agg r1, r2, r3⟩
  · cases ho

inductive TsR (m : KM) (V : Nat → Prop) (w : World) : List Value → List TV → Prop where
  | nil : TsR m V w [] []
  | cons {v t vs ts} (h : TRep m V w v t) (r : TsR m V w vs ts) : TsR m V w (v :: vs) (t :: ts)

theorem outTs_sound (M : MRel G V0 L0 w0 U V m h w) {vs : List Value} {xs : List TV} (hv : TsR m V w vs xs) : ∀ {bs : List BV} {ks}, outTs h xs = some (bs, ks) → ∃ L, BsRep V w vs bs L ∧ L.Sublist (rbs m ks) ∧ Mine h ks := by
  induction hv with
  | nil => intro bs ks ho; simp [outTs] at ho; obtain ⟨rfl, rfl⟩ := ho; exact ⟨[], .nil, List.nil_sublist _, mine_nil⟩
  | cons hc _ ih =>
    intro bs ks ho
    simp only [outTs, Option.bind_eq_some_iff, Option.map_eq_some_iff, Prod.mk.injEq] at ho
    obtain ⟨⟨b, k1⟩, hb, ⟨bs', k2⟩, hbs, rfl, rfl⟩ := ho
    obtain ⟨L1, r1, r2, r3⟩ := outT_sound M hc hb
    obtain ⟨L2, q1, q2, q3⟩ := ih hbs
    exact ⟨L1 ++ L2, .cons r1 q1, by rw [rbs_append]; exact r2.append q2, r3.append q3⟩


theorem cell_run (M : MRel G V0 L0 w0 U V m h w) {t : TypeId} {v0 : Value} {tx : TV} {d : Dl} (hx : TRep m V w v0 tx) (hd : loadV (ti P t) h tx = some d) :
    ∃ a v, v0 = .pointer (some a) ∧ (loadVar t a).run P w = .ok v w ∧ TRep m V w v d.v := by
  unfold loadV at hd
  split at hd
  · rename_i k r c
    cases hx with | c hx => cases hx with
    | @ptr _ i b _ _ hm hb =>
      split at hd
      · rename_i mu l hk
        split at hd
        · rename_i hr0
          subst hr0
          simp only [Option.map_eq_some_iff] at hd
          obtain ⟨tv, htv, rfl⟩ := hd
          obtain ⟨i', hm', hrep⟩ := M.heap _ _ hk
          rw [hm] at hm'; cases hm'
          cases hrep with
          | @box _ _ b' arr elem h0 hb' hh hl =>
            rw [hb] at hb'; cases hb'
            obtain ⟨v, hv1, hv2⟩ := loadVar_run (b := b) (o := 0) htv hl (fun j v hj => by rw [cell_of hh]; simpa using hj)
            refine ⟨_, v, rfl, ?_, hv2⟩
            simpa [h0] using hv1
        · cases hd
      · rename_i mu W l hk
        simp only [Option.bind_eq_some_iff, Option.map_eq_some_iff] at hd
        obtain ⟨row, hrow, tv, htv, rfl⟩ := hd
        obtain ⟨i', hm', hrep⟩ := M.heap _ _ hk
        rw [hm] at hm'; cases hm'
        cases hrep with
        | nil => simp at hrow
        | @arr _ _ _ b' arr elem hw' hb' hh hs hc hr =>
          rw [hb] at hb'; cases hb'
          obtain ⟨_, hcr⟩ := hr r row hrow
          obtain ⟨vs, h1, h2⟩ := hcr.list
          obtain ⟨v, hv1, hv2⟩ := loadVar_run (b := b) (o := i.base + r * W) htv (h1.up (m := m)) (fun j v hj => by rw [cell_of hh]; exact h2 j v hj)
          refine ⟨_, v, rfl, ?_, hv2⟩
          rw [hw']
          exact hv1
      · cases hd
  · cases hx with | c hx => cases hx with
    | @pb b o' _ _ f hV h1 h2 =>
      simp only [Option.map_eq_some_iff] at hd
      obtain ⟨tv, htv, rfl⟩ := hd
      obtain ⟨vs, g1, g2⟩ := cells_list h1 h2
      obtain ⟨v, hv1, hv2⟩ := loadVar_run (b := b) (o := o') htv (g1.up (m := m)) g2
      exact ⟨_, v, rfl, hv1, hv2⟩
  · cases hd

/-- The machine's reading of a result variable. -/
def resRun (tmps : Array Value) : ResultVar → Sem Value
  | .tmp t => pure (tmps.getD t undef)
  | .cell a t => do loadVar t (← asAddr (tmps.getD a undef))

theorem resV_sound (M : MRel G V0 L0 w0 U V m h w) {tmps : Array Value} {e : Nat → TV} (E : ERel m V w tmps e) {r : ResultVar} {t : TV} (hr : resV P e h r = some t) :
    ∃ v, (resRun tmps r).run P w = .ok v w ∧ TRep m V w v t := by
  cases r with
  | tmp x => simp [resV] at hr; subst hr; exact ⟨_, rfl, E x⟩
  | cell a ty =>
    simp only [resV, Option.map_eq_some_iff] at hr
    obtain ⟨d, hd, rfl⟩ := hr
    obtain ⟨ad, v, h1, h2, h3⟩ := cell_run M (E a) hd
    exact ⟨v, by simp [resRun, h1, asAddr, h2], h3⟩

theorem resVs_sound (M : MRel G V0 L0 w0 U V m h w) {tmps : Array Value} {e : Nat → TV} (E : ERel m V w tmps e) : ∀ {rs : List ResultVar} {ts : List TV}, resVs P e h rs = some ts →
    ∃ vs, (rs.mapM (resRun tmps)).run P w = .ok vs w ∧ TsR m V w vs ts
  | [], ts, hr => by simp [resVs] at hr; subst hr; exact ⟨[], rfl, .nil⟩
  | r :: rs, ts, hr => by
    simp only [resVs, Option.bind_eq_some_iff, Option.map_eq_some_iff] at hr
    obtain ⟨t, ht, ts', hts, rfl⟩ := hr
    obtain ⟨v, h1, h2⟩ := resV_sound M E ht
    obtain ⟨vs, q1, q2⟩ := resVs_sound M E hts
    exact ⟨v :: vs, by simp [List.mapM_cons, h1, q1], .cons h2 q2⟩

theorem results_run {fn : Func} {rs : List ResultVar} (hr : fn.results = rs.toArray) {tmps : Array Value} {vs : List Value} (h : (rs.mapM (resRun tmps)).run P w = .ok vs w) :
    (results fn tmps).run P w = .ok (if h : vs.toArray.size = 1 then vs.toArray[0] else .tuple vs.toArray) w := by
  have e : results fn tmps = (do let vs ← fn.results.mapM (resRun tmps); pure (if h : vs.size = 1 then vs[0] else .tuple vs)) := rfl
  rw [e, hr, List.mapM_toArray]
  simp [h]

end
end Go.Sh
end
section
namespace Go.Sh

section
variable {P : Program} {G : Glob} {V0 : Nat → Prop} {L0 : List Nat} {w0 : World} {U V : Nat → Prop} {m : KM} {h : Key → Option Blk} {w : World}

theorem outIos_sound (M : MRel G V0 L0 w0 U V m h w) : ∀ {args : List BV} {vals : List Value} {i : Nat} {ios : List BV} {ks}, outIos h i args = some (ios, ks) → IoVs m (ioKeys i args) (ioVals args vals) → vals.length = args.length →
    ∃ L, BsRep V w (ioVals args vals) ios L ∧ L.Sublist (rbs m ks) ∧ Mine h ks
  | [], vals, i, ios, ks, ho, _, _ => by simp [outIos] at ho; obtain ⟨rfl, rfl⟩ := ho; exact ⟨[], by simpa [ioVals] using BsRep.nil, List.nil_sublist _, mine_nil⟩
  | b :: args, [], i, ios, ks, ho, hk, hl => by simp at hl
  | b :: args, v :: vals, i, ios, ks, ho, hk, hl => by
    rw [ioKeys_cons, ioVals_cons] at hk
    rw [ioVals_cons]
    by_cases hio : (∃ l, b = .io l) ∨ ∃ W l, b = .els W l
    · rcases hio with ⟨l0, rfl⟩ | ⟨W0, l0, rfl⟩
      · obtain ⟨⟨x, r, e1, e2, e3, e4⟩, hk'⟩ := hk
        simp only [outIos] at ho
        split at ho
        · rename_i l hh
          simp only [Option.bind_eq_some_iff, Option.map_eq_some_iff, Prod.mk.injEq] at ho
          obtain ⟨⟨bs, k1⟩, hb, ⟨ios', k2⟩, hios, rfl, rfl⟩ := ho
          obtain ⟨x', e4', hrep⟩ := M.heap _ _ hh
          rw [e1] at e4'; cases e4'
          cases hrep with | @box _ _ r' arr elem h0 hb' hh' hlr =>
          rw [e2] at hb'; cases hb'
          obtain ⟨L1, r1, r2, r3⟩ := outL_sound M hlr hb
          obtain ⟨L2, q1, q2, q3⟩ := outIos_sound M hios hk' (by simpa using hl)
          simp only [ioVals, List.cons_append, List.nil_append] at e4 ⊢
          rw [e4]
          refine ⟨(r :: L1) ++ L2, .cons (.io r arr elem hh' r1) q1, ?_, fun k hk' => ?_⟩
          · have e : rbs m (⟨1024 * i, 2 * i + 1⟩ :: (k1 ++ k2)) = r :: (rbs m k1 ++ rbs m k2) := by
              rw [← rbs_append]; simp [rbs, e1, e2]
            rw [e]
            exact (r2.append q2).cons_cons r
          · rcases List.mem_cons.1 hk' with rfl | hk'
            · exact ⟨_, hh, rfl⟩
            · exact (r3.append q3) k hk'
        · cases ho
      · obtain ⟨⟨x, a, e1, e2, e3, e4⟩, hk'⟩ := hk
        simp only [outIos] at ho
        split at ho
        · rename_i w' l hh
          split at ho
          · rename_i hcond
            obtain ⟨rfl, hll⟩ := hcond
            simp only [Option.map_eq_some_iff, Prod.mk.injEq] at ho
            obtain ⟨⟨ios', k2⟩, hios, rfl, rfl⟩ := ho
            obtain ⟨x', e4', hrep⟩ := M.heap _ _ hh
            rw [e1] at e4'; cases e4'
            obtain ⟨L2, q1, q2, q3⟩ := outIos_sound M hios hk' (by simpa using hl)
            simp only [ioVals, List.cons_append, List.nil_append] at e4 ⊢
            have hm1 : Mine h (⟨1024 * i + 1, 2 * i⟩ :: k2) := fun k hk' => by
              rcases List.mem_cons.1 hk' with rfl | hk'
              · exact ⟨_, hh, rfl⟩
              · exact q3 k hk'
            cases hrep with
            | nil hw hb hc =>
              refine ⟨[] ++ L2, .cons (.els ?_) q1, ?_, hm1⟩
              · rw [e4, hc, show l0.length = 0 by simpa using hll.symm]
                exact .nil _ _
              · have e : rbs m (⟨1024 * i + 1, 2 * i⟩ :: k2) = rbs m k2 := by simp [rbs, e1, hb]
                rw [e]; simpa using q2
            | @arr _ _ _ r arr elem hw hb hh' hs hcl hrr =>
              have ea := e3 hs.pos
              rw [hb] at ea
              simp only [Option.map_some] at ea
              refine ⟨[r] ++ L2, .cons (.els ?_) q1, ?_, hm1⟩
              · rw [e4, ea, ← hll]
                exact .own r x.base x.cap w' l arr elem hh' hs.le hs.one hcl hrr
              · have e : rbs m (⟨1024 * i + 1, 2 * i⟩ :: k2) = r :: rbs m k2 := by simp [rbs, e1, hb]
                rw [e]; exact q2.cons_cons r
          · cases ho
        · cases ho
    · have e1 : outIos h i (b :: args) = outIos h (i + 1) args := by cases b <;> first | rfl | exact absurd (.inl ⟨_, rfl⟩) hio | exact absurd (.inr ⟨_, _, rfl⟩) hio
      have e2 : ioKeys i [b] = [] := by cases b <;> first | rfl | exact absurd (.inl ⟨_, rfl⟩) hio | exact absurd (.inr ⟨_, _, rfl⟩) hio
      have e3 : ioVals [b] [v] = [] := by cases b <;> first | rfl | exact absurd (.inl ⟨_, rfl⟩) hio | exact absurd (.inr ⟨_, _, rfl⟩) hio
      rw [e1] at ho
      rw [e2, e3] at hk
      rw [e3]
      exact outIos_sound M ho hk (by simpa using hl)

theorem tup_sound {vs : List Value} {bs : List BV} {L : List Nat} (hb : BsRep V w vs bs L) : BRep V w (if h : vs.toArray.size = 1 then vs.toArray[0] else .tuple vs.toArray) (tupT bs) L := by
  match hb with
  | .nil => exact .tup .nil
  | .cons h .nil => simpa [tupT] using h
  | .cons h (.cons h2 t) =>
    have : ∀ (x y : Value) (l : List Value), ¬ (x :: y :: l).toArray.size = 1 := fun x y l => by simp
    rw [dif_neg (this _ _ _)]
    exact .tup (.cons h (.cons h2 t))

theorem bsRep_cons {v : Value} {b : BV} {vs bs L1 L2} (h1 : BRep V w v b L1) (h2 : BsRep V w vs bs L2) : BsRep V w (v :: vs) (b :: bs) (L1 ++ L2) := .cons h1 h2

theorem argsS_env : ∀ (bs : List BV) (S : St) (i t : Nat), t < i → (argsS S i bs).env t = S.env t
  | [], _, _, _, _ => rfl
  | b :: bs, S, i, t, h => by
    simp only [argsS]
    rw [argsS_env bs _ (i + 1) t (by omega)]
    simp only [put, upd]
    rw [if_neg (by omega)]

theorem argsS_at : ∀ (bs : List BV) (S : St) (i j : Nat) (b : BV), bs[j]? = some b → (argsS S i bs).env (i + j) = (argT (i + j) b).1
  | [], _, _, _, _, h => by simp at h
  | b :: bs, S, i, 0, b', h => by
    simp at h; subst h
    simp only [argsS, Nat.add_zero]
    rw [argsS_env bs _ (i + 1) i (by omega)]
    simp [put, upd]
  | b :: bs, S, i, j + 1, b', h => by
    simp only [argsS]
    have := argsS_at bs ⟨put S.env (some i) (argT i b).1, putH S.heap (argT i b).2, S.gen⟩ (i + 1) j b' (by simpa using h)
    rwa [show i + 1 + j = i + (j + 1) by omega] at this

theorem bsRep_at {vs : List Value} {bs : List BV} {L : List Nat} (hb : BsRep V w vs bs L) : ∀ (i : Nat) b, bs[i]? = some b → ∃ v L', vs[i]? = some v ∧ BRep V w v b L' := by
  match bs with
  | [] => intro i b h; simp at h
  | b0 :: bs =>
    cases hb with | cons hc ht =>
    intro i b h
    cases i with
    | zero => simp at h; subst h; exact ⟨_, _, rfl, hc⟩
    | succ i => simpa using bsRep_at ht i b (by simpa using h)

theorem bsLen {vs : List Value} {bs : List BV} {L : List Nat} (h : BsRep V w vs bs L) : vs.length = bs.length := by
  match bs with
  | [] => cases h; rfl
  | b :: bs => cases h with | cons hc ht => simp only [List.length_cons]; rw [bsLen ht]

/-- What is known of the room behind slices that come in. -/
def CapsIn (args : List BV) (C : Key → Option Nat) : Prop := ∀ k c, C k = some c → ∃ i W l, args[i]? = some (.cell (.ownc W l c)) ∧ k = ⟨1024 * i + 1, 2 * i⟩

theorem okD_of {f : FuncId} {fn : Func} {c : Code} {rs : List ResultVar} {args : List BV} {C : Key → Option Nat} {r : BV} {ios : List BV} (hm : P.follows .mixedOrders = true) (hf : P.funcs[f]? = some fn)
    (hb : fn.body = some c) (hr : fn.results = rs.toArray) (ho : funcOk fn args.length = true) (hC : CapsIn args C) {e : Exit} {S' : St} (hbs : BS P ⟨G.glob, C⟩ c (start args) e S') (he : e = .normal ∨ e = .ret)
    {ks : List Key} (hov : outV P args rs S' = some (r, ios, ks)) (hnd : ks.Nodup) : OkD P G f args r ios := by
  unfold funcOk at ho
  rw [hb] at ho
  simp only [Bool.and_eq_true, decide_eq_true_eq, Bool.not_eq_true'] at ho
  obtain ⟨⟨⟨hs, hn⟩, h500⟩, hname⟩ := ho
  refine ⟨⟨fn, hf, hname, by rw [hb]; rfl⟩, fun V w vals L hbr hL hLV hVs hg => ?_⟩
  have hg' : GlobRep V w ⟨G.glob, C⟩ := hg
  obtain ⟨m0, M0, E0, hsz, hbv, hEnv⟩ := start_sound hbr hL hLV hVs hg' hn h500
  have hlen : vals.length = args.length := bsLen hbr
  have hCm : CapsOk ⟨G.glob, C⟩ m0 := by
    intro k c' hk
    obtain ⟨i, W, l, hi, rfl⟩ := hC k c' hk
    obtain ⟨v, L', hv, hrep⟩ := bsRep_at hbr i _ hi
    have hT := hEnv i v hv
    have he : (start args).env i = .c (.ref ⟨1024 * i + 1, 2 * i⟩ 0 l.length) := by
      have := argsS_at args ⟨fun _ => .tup [], fun _ => none, 1000⟩ 0 i _ hi
      rw [Nat.zero_add] at this
      unfold start
      rw [this]
      simp [argT, getT, getC]
    rw [he] at hT
    cases hrep with | cell hrep =>
    cases hrep with
    | nilc a W =>
      generalize hvv : Value.slice a 0 0 = vv at hT
      cases hT with | c hT => cases hT with
      | ref hm' _ _ => simp only [Value.slice.injEq] at hvv; exact ⟨_, hm', by omega⟩
    | ownc b o cap W l arr elem hh hsz' h1 hc hr' =>
      generalize hvv : Value.slice (some ⟨b, o, none⟩) l.length c' = vv at hT
      cases hT with | c hT => cases hT with
      | ref hm' _ _ => simp only [Value.slice.injEq] at hvv; exact ⟨_, hm', by omega⟩
  refine calls_of_wp hf hb (bs_sound (V0 := V) (L0 := L) (w0 := w) (m0 := m0) (n := fn.ntmps) hCm hm hbs hs ⟨rfl, hsz, V, m0, fun _ _ h => h, M0, E0⟩ fun a' w' hR' => ?_).1
  obtain ⟨hd, _, V', m, hx, M, E⟩ := hR'
  unfold outV at hov
  simp only [Option.bind_eq_some_iff, Option.map_eq_some_iff, Prod.mk.injEq] at hov
  obtain ⟨ts, hts, ⟨bs, k1⟩, hbs', ⟨ios', k2⟩, hio, rfl, rfl, rfl⟩ := hov
  obtain ⟨vs, hrun, hvs⟩ := resVs_sound M E hts
  obtain ⟨L1, q1, q2, q3⟩ := outTs_sound M hvs hbs'
  obtain ⟨L2, p1, p2, p3⟩ := outIos_sound M hio (hbv.ext hx) hlen
  have hsub : (L1 ++ L2).Sublist (rbs m (k1 ++ k2)) := by rw [rbs_append]; exact q2.append p2
  have hmine := q3.append p3
  have post : bodyPost P fn (fun e w' => ∃ (v : Value) (V' : Nat → Prop) (L' : List Nat), e = .returned v ∧ BsRep V' w' (v :: ioVals args vals) (tupT bs :: ios') L' ∧
      L'.Nodup ∧ (∀ b ∈ L', ¬ V' b ∧ (b ∈ L ∨ w.heap.size ≤ b)) ∧ (∀ b, V b → V' b) ∧
      (∀ b, V' b → b < w'.heap.size ∧ (V b ∨ b ∈ L ∨ w.heap.size ≤ b)) ∧ Frm w w' L) .normal a' w' := by
    refine ⟨hd, _, results_run hr hrun, _, V', L1 ++ L2, rfl, bsRep_cons (tup_sound q1) p1, (rbs_nodup M hnd hmine).sublist hsub, fun b hb => ?_, M.v0, M.vsz, M.frame⟩
    have := hsub.subset hb
    simp only [rbs, List.mem_filterMap, Option.bind_eq_some_iff] at this
    obtain ⟨k, hk, i, hi, hib⟩ := this
    obtain ⟨bl, hbl, hmu⟩ := hmine k hk
    exact M.mine k bl i b hbl hmu hi hib
  rcases he with rfl | rfl
  · exact post
  · exact post

/-- A function does what its shadow does. -/
theorem spec_caps {f : FuncId} {fn : Func} {c : Code} {rs : List ResultVar} {args : List BV} {R : BV → List BV → Prop} (C : Key → Option Nat) (hC : CapsIn args C) (hm : P.follows .mixedOrders = true) (hf : P.funcs[f]? = some fn)
    (hb : fn.body = some c) (hr : fn.results = rs.toArray) (ho : funcOk fn args.length = true) (h : swp P ⟨G.glob, C⟩ c (fun e S => retK P args rs R .go e S) (start args)) : Spec P G f args R := by
  obtain ⟨e, S', hq, hbs⟩ := h
  have hout : ∃ r ios ks, outV P args rs S' = some (r, ios, ks) ∧ ks.Nodup ∧ R r ios ∧ (e = .normal ∨ e = .ret) := by
    have : outK (outV P args rs S') R ∧ (e = .normal ∨ e = .ret) := by
      cases e <;> first | exact ⟨hq, .inl rfl⟩ | exact ⟨hq, .inr rfl⟩ | exact hq.elim
    obtain ⟨h1, h2⟩ := this
    unfold outK at h1
    split at h1
    · rename_i r ios ks hx; exact ⟨r, ios, ks, hx, h1.1, h1.2, h2⟩
    · exact h1.elim
  obtain ⟨r, ios, ks, hov, hnd, hR, he⟩ := hout
  exact ⟨r, ios, hR, okD_of hm hf hb hr ho hC hbs he hov hnd⟩

def noCaps : Key → Option Nat := fun _ => none

theorem spec_of {f : FuncId} {fn : Func} {c : Code} {rs : List ResultVar} {args : List BV} {R : BV → List BV → Prop} (hm : P.follows .mixedOrders = true) (hf : P.funcs[f]? = some fn)
    (hb : fn.body = some c) (hr : fn.results = rs.toArray) (ho : funcOk fn args.length = true) (h : swp P ⟨G.glob, noCaps⟩ c (fun e S => retK P args rs R .go e S) (start args)) : Spec P G f args R :=
  spec_caps noCaps (fun k c h => by cases h) hm hf hb hr ho h

end
end Go.Sh
end
section
namespace Go.Sh

@[go_sem] theorem noCaps_at (k) : noCaps k = none := rfl

theorem condK_bool (b A B) : condK (.c (.p (.bool b))) A B = ((b = true → A .go) ∧ (b = false → B .go)) := by
  cases b <;> simp [condK]
theorem guardK_bool (b A B) : guardK (some b) A B = ((b = true → A .go) ∧ (b = false → B .go)) := by
  cases b <;> simp [guardK]
section
variable {α β : Type} (c : Prop) [Decidable c] (x : Option Dl) (K : Kont)
theorem optK_ifn : optK (if c then none else x) K = (¬ c ∧ optK x K) := by by_cases h : c <;> simp [h, optK]
theorem optK_if : optK (if c then x else none) K = (c ∧ optK x K) := by by_cases h : c <;> simp [h, optK]
@[go_sem] theorem map_ifn (f : α → β) (y : Option α) : Option.map f (if c then none else y) = if c then none else Option.map f y := by by_cases h : c <;> simp [h]
@[go_sem] theorem map_if (f : α → β) (y : Option α) : Option.map f (if c then y else none) = if c then Option.map f y else none := by by_cases h : c <;> simp [h]
@[go_sem] theorem bind_ifn (f : α → Option β) (y : Option α) : Option.bind (if c then none else y) f = if c then none else Option.bind y f := by by_cases h : c <;> simp [h]
@[go_sem] theorem bind_if (f : α → Option β) (y : Option α) : Option.bind (if c then y else none) f = if c then Option.bind y f else none := by by_cases h : c <;> simp [h]
end

@[go_sem] theorem ev_global (G : Glob) (e g) : ev G e (.global g) = (match G.glob g with | some cells => .c (.pb cells 0) | none => .any) := rfl
theorem drawK_and (ops fs A) : drawK ops fs A = ((edgesOk ops && orderOk ops fs.reverse) = true ∧ A .go) := rfl

/-- Walk up to a region, and no further. -/
theorem region_lt (n : Nat) {P G id ops Q S} (_h : decide (id < n) = true) : xwp .go P G (.region id (List.toArray ops) false) Q S =
    upto 1000 ops (rrun .go P G ops S.gen (fun t S' => Q t .normal ⟨S'.env, S'.heap, S.gen + 1000⟩) 0 ops S) := rfl
theorem draw_lt (n : Nat) {P G id ops Q S} (_h : decide (id < n) = true) : xwp .go P G (.region id (List.toArray ops) true) Q S =
    upto 1000 ops (drun .go P G ops S.gen (fun _ fs S' => drawK ops fs fun t => Q t .normal ⟨S'.env, S'.heap, S.gen + 1000⟩) 0 ops [] S) := rfl

attribute [go_sem] beq_iff_eq beq_eq_false_iff_ne ne_eq List.length_cons List.length_nil List.getElem?_cons_zero List.getElem?_cons_succ List.take_succ_cons List.take_zero List.drop_succ_cons List.drop_zero List.cons_append List.nil_append List.append_nil List.map_cons List.map_nil
  List.set_cons_zero List.set_cons_succ Nat.zero_add Nat.add_zero Nat.mul_zero Nat.zero_mul Option.map_some Option.bind_some Option.map_none Option.bind_none decide_eq_true_eq decide_eq_false_iff_not
  decide_true decide_false Bool.false_eq_true Bool.true_eq_false not_true_eq_false not_false_eq_true false_implies implies_true forall_const Bool.not_true Bool.not_false
  Bool.not_eq_true' Bool.not_eq_false' Bool.not_eq_true Bool.not_eq_false true_and and_true List.foldl_cons List.foldl_nil List.reverse_nil List.reverse_cons
  List.flatten_nil List.flatten_cons Bool.false_or Bool.or_false Bool.true_or Bool.or_true Bool.and_true Bool.true_and Bool.and_false Bool.false_and List.nodup_nil List.nodup_cons List.not_mem_nil List.mem_cons
  or_false false_or not_or and_self forall_eq_or_imp forall_eq false_and and_false

theorem bv_bool {b b' : Bool} (h : b = true ↔ b' = true) : BV.cell (.p (.bool b)) = .bool b' := by rw [Bool.eq_iff_iff.2 h]
theorem bv_int {k : IntKind} {n n' : Int} (h : n = n') : BV.cell (.p (.int k n)) = .int k n' := by rw [h]
end Go.Sh
end
section
namespace Go.Sh

theorem wraps_u32 (n : Int) (h0 : 0 ≤ n) (h1 : n < 2 ^ 32) : IntKind.u32.wrap n = n := IntWalk.u32_in n (by omega)
theorem wraps_u64 (n : Int) (h0 : 0 ≤ n) (h1 : n < 2 ^ 64) : IntKind.u64.wrap n = n := IntWalk.u64_in n (by omega)

section
variable {x y : Int}
theorem and32_255 (h : 0 ≤ x ∧ x < 4294967296) : bits .and .u32 x 255 = x % 256 := bits_mask .u32 32 (by decide) wraps_u32 8 (by decide) x h.1 (by omega)
theorem and64_255 (h : 0 ≤ x ∧ x < 18446744073709551616) : bits .and .u64 x 255 = x % 256 := bits_mask .u64 64 (by decide) wraps_u64 8 (by decide) x h.1 (by omega)
theorem and64_gen (h : 0 ≤ x ∧ x < 18446744073709551616) : bits .and .u64 x 16777215 = x % 16777216 := bits_mask .u64 64 (by decide) wraps_u64 24 (by decide) x h.1 (by omega)

theorem bits_or_comm32 (h1 : 0 ≤ x ∧ x < 4294967296) (h2 : 0 ≤ y ∧ y < 4294967296) : bits .or .u32 x y = bits .or .u32 y x := by
  rw [u32_or x y h1.1 h1.2 h2.1 h2.2, u32_or y x h2.1 h2.2 h1.1 h1.2, Nat.or_comm]
theorem bits_or_comm64 (h1 : 0 ≤ x ∧ x < 18446744073709551616) (h2 : 0 ≤ y ∧ y < 18446744073709551616) : bits .or .u64 x y = bits .or .u64 y x := by
  rw [u64_or x y h1.1 h1.2 h2.1 h2.2, u64_or y x h2.1 h2.2 h1.1 h1.2, Nat.or_comm]
/-- The high part first, then the low one. -/
theorem or32_hi8 (h1 : 0 ≤ x ∧ x < 4294967296) (h2 : x % 256 = 0) (h3 : 0 ≤ y ∧ y < 256) : bits .or .u32 x y = x + y :=
  bits_join .u32 32 (by decide) wraps_u32 8 x y h1.1 h2 (by omega) h3.1 (by omega) (by omega)
theorem or64_hi8 (h1 : 0 ≤ x ∧ x < 18446744073709551616) (h2 : x % 256 = 0) (h3 : 0 ≤ y ∧ y < 256) : bits .or .u64 x y = x + y :=
  bits_join .u64 64 (by decide) wraps_u64 8 x y h1.1 h2 (by omega) h3.1 (by omega) (by omega)
theorem or64_hi32 (h1 : 0 ≤ x ∧ x < 18446744073709551616) (h2 : x % 4294967296 = 0) (h3 : 0 ≤ y ∧ y < 4294967296) : bits .or .u64 x y = x + y :=
  bits_join .u64 64 (by decide) wraps_u64 32 x y h1.1 h2 (by omega) h3.1 (by omega) (by omega)
/-- The low part first. -/
theorem or32_lo8 (h1 : 0 ≤ x ∧ x < 4294967296) (h2 : x % 256 = 0) (h3 : 0 ≤ y ∧ y < 256) : bits .or .u32 y x = y + x := by
  rw [bits_or_comm32 (by omega) h1, or32_hi8 h1 h2 h3]; omega
theorem or64_lo8 (h1 : 0 ≤ x ∧ x < 18446744073709551616) (h2 : x % 256 = 0) (h3 : 0 ≤ y ∧ y < 256) : bits .or .u64 y x = y + x := by
  rw [bits_or_comm64 (by omega) h1, or64_hi8 h1 h2 h3]; omega
theorem or64_lo32 (h1 : 0 ≤ x ∧ x < 18446744073709551616) (h2 : x % 4294967296 = 0) (h3 : 0 ≤ y ∧ y < 4294967296) : bits .or .u64 y x = y + x := by
  rw [bits_or_comm64 (by omega) h1, or64_hi32 h1 h2 h3]; omega

theorem u64_in' (h : 0 ≤ x ∧ x < 18446744073709551616) : IntKind.u64.wrap x = x := IntWalk.u64_in x (by omega)
theorem u32_in' (h : 0 ≤ x ∧ x < 4294967296) : IntKind.u32.wrap x = x := IntWalk.u32_in x (by omega)
theorem i64_in' (h : -9223372036854775808 ≤ x ∧ x < 9223372036854775808) : IntKind.i64.wrap x = x := IntWalk.i64_in x (by omega)
theorem u32_mod : IntKind.u32.wrap x = x % 4294967296 := IntKind.wrap_u32' x

theorem shr_ {k : IntKind} {n : Int} (m : Nat) (h : min n.toNat k.bits = m := by rfl) : shrV k x n = x / 2 ^ m := by
  unfold shrV; rw [h]; exact Int.fdiv_eq_ediv_of_nonneg _ (Int.le_of_lt (Int.pow_pos (by decide)))
theorem shl_ {k : IntKind} {n : Int} (m : Nat) (h : min n.toNat k.bits = m := by rfl) : shlV k x n = k.wrap (x * 2 ^ m) := by
  unfold shlV; rw [h]
end

section
variable {x : Int}
theorem shr_u32_8 : shrV .u32 x 8 = x / 256 := shr_ 8
theorem shl_u32_8 : shlV .u32 x 8 = IntKind.u32.wrap (x * 256) := shl_ 8
theorem shr_u32_16 : shrV .u32 x 16 = x / 65536 := shr_ 16
theorem shl_u32_16 : shlV .u32 x 16 = IntKind.u32.wrap (x * 65536) := shl_ 16
theorem shr_u32_24 : shrV .u32 x 24 = x / 16777216 := shr_ 24
theorem shl_u32_24 : shlV .u32 x 24 = IntKind.u32.wrap (x * 16777216) := shl_ 24
theorem shr_u64_8 : shrV .u64 x 8 = x / 256 := shr_ 8
theorem shl_u64_8 : shlV .u64 x 8 = IntKind.u64.wrap (x * 256) := shl_ 8
theorem shr_u64_16 : shrV .u64 x 16 = x / 65536 := shr_ 16
theorem shl_u64_16 : shlV .u64 x 16 = IntKind.u64.wrap (x * 65536) := shl_ 16
theorem shr_u64_24 : shrV .u64 x 24 = x / 16777216 := shr_ 24
theorem shl_u64_24 : shlV .u64 x 24 = IntKind.u64.wrap (x * 16777216) := shl_ 24
theorem shr_u64_32 : shrV .u64 x 32 = x / 4294967296 := shr_ 32
theorem shl_u64_32 : shlV .u64 x 32 = IntKind.u64.wrap (x * 4294967296) := shl_ 32
theorem shr_u64_40 : shrV .u64 x 40 = x / 1099511627776 := shr_ 40
theorem shl_u64_40 : shlV .u64 x 40 = IntKind.u64.wrap (x * 1099511627776) := shl_ 40
theorem shr_u64_48 : shrV .u64 x 48 = x / 281474976710656 := shr_ 48
theorem shl_u64_48 : shlV .u64 x 48 = IntKind.u64.wrap (x * 281474976710656) := shl_ 48
theorem shr_u64_56 : shrV .u64 x 56 = x / 72057594037927936 := shr_ 56
theorem shl_u64_56 : shlV .u64 x 56 = IntKind.u64.wrap (x * 72057594037927936) := shl_ 56
theorem tmod_pos {y : Int} (h : 0 ≤ x) : x.tmod y = x % y := Int.tmod_eq_emod_of_nonneg h
theorem tdiv_pos {y : Int} (h : 0 ≤ x) : x.tdiv y = x / y := Int.tdiv_eq_ediv_of_nonneg h
end

end Go.Sh
end
section
namespace Go.Sh

def envL : List (Nat × TV) → Nat → TV
  | [], _ => .any
  | (i, v) :: r, t => if t = i then v else envL r t
def heapL : List (Key × Blk) → Key → Option Blk
  | [], _ => none
  | (k', b) :: r, k => if k = k' then some b else heapL r k
@[go_sem ↓] theorem envL_nil (t) : envL [] t = .any := rfl
@[go_sem ↓] theorem envL_cons (i v r t) : envL ((i, v) :: r) t = if t = i then v else envL r t := rfl
@[go_sem ↓] theorem heapL_nil (t) : heapL [] t = none := rfl
@[go_sem ↓] theorem heapL_cons (i v r t) : heapL ((i, v) :: r) t = if t = i then some v else heapL r t := rfl

/-- A state of which only this is known. -/
def stL (l : List (Nat × TV)) (hs : List (Key × Blk)) (g : Nat) : St := ⟨envL l, heapL hs, g⟩
@[go_sem ↓] theorem stL_env (l hs g) : (stL l hs g).env = envL l := rfl
@[go_sem ↓] theorem stL_heap (l hs g) : (stL l hs g).heap = heapL hs := rfl
@[go_sem ↓] theorem stL_gen (l hs g) : (stL l hs g).gen = g := rfl

def envHas (e : Nat → TV) : List (Nat × TV) → Prop
  | [] => True
  | (i, v) :: r => e i = v ∧ envHas e r
def heapHas (h : Key → Option Blk) : List (Key × Blk) → Prop
  | [] => True
  | (k, b) :: r => h k = some b ∧ heapHas h r
@[go_sem ↓] theorem envHas_nil (e) : envHas e [] = True := rfl
@[go_sem ↓] theorem envHas_cons (e i v r) : envHas e ((i, v) :: r) = (e i = v ∧ envHas e r) := rfl
@[go_sem ↓] theorem heapHas_nil (e) : heapHas e [] = True := rfl
@[go_sem ↓] theorem heapHas_cons (e i v r) : heapHas e ((i, v) :: r) = (e i = some v ∧ heapHas e r) := rfl

theorem envL_has {e : Nat → TV} : ∀ {l : List (Nat × TV)}, envHas e l → ∀ t, envL l t = e t ∨ envL l t = .any
  | [], _, _ => .inr rfl
  | (i, v) :: r, h, t => by
    unfold envL
    split
    · rename_i e'; subst e'; exact .inl h.1.symm
    · exact envL_has h.2 t
theorem heapL_has {e : Key → Option Blk} : ∀ {l : List (Key × Blk)}, heapHas e l → ∀ t, heapL l t = e t ∨ heapL l t = none
  | [], _, _ => .inr rfl
  | (i, v) :: r, h, t => by
    unfold heapL
    split
    · rename_i e'; subst e'; exact .inl h.1.symm
    · exact heapL_has h.2 t

/-- What of a state is known. -/
def Knows (l : List (Nat × TV)) (hs : List (Key × Blk)) (g : Nat) (S : St) : Prop := envHas S.env l ∧ heapHas S.heap hs ∧ S.gen ≤ g
@[go_sem ↓] theorem knows_eq (l hs g e h g') : Knows l hs g ⟨e, h, g'⟩ = (envHas e l ∧ heapHas h hs ∧ g' ≤ g) := rfl

theorem Knows.le {l hs g S} (h : Knows l hs g S) : Le (stL l hs g) S := ⟨envL_has h.1, heapL_has h.2.1, h.2.2⟩

section
variable {P : Program} {G : Glob} {a : Code} {S : St} {Q : Post}

/-- A loop of at most N rounds, by what is known at the head of each. -/
theorem loopK_count (N : Nat) (env : Nat → List (Nat × TV)) (hs : Nat → List (Key × Blk)) (g : Nat → Nat) (F : Nat → Prop) (h0 : F 0 ∧ Knows (env 0) (hs 0) (g 0) S)
    (round : ∀ i, i ≤ N → F i → xwp .go P G a (thenK (fun _ S' => i < N ∧ F (i + 1) ∧ Knows (env (i + 1)) (hs (i + 1)) (g (i + 1)) S') Q) (stL (env i) (hs i) (g i))) : loopK P G a Q S := by
  refine swp_weak _ h0.2.le ?_
  have key : ∀ m i, N - i = m → i ≤ N → F i → swp P G (.loop a) (Q .go) (stL (env i) (hs i) (g i)) := by
    intro m
    induction m with
    | zero =>
      intro i hm hi hF
      obtain ⟨e, S', hq, hb⟩ := swp_of _ _ _ _ _ _ (round i hi hF)
      by_cases he : e = .normal
      · subst he
        have : i < N := hq.1
        omega
      · refine ⟨e, S', ?_, .loopX hb he⟩
        cases e <;> first | exact hq | exact absurd rfl he
    | succ m ih =>
      intro i hm hi hF
      obtain ⟨e, S', hq, hb⟩ := swp_of _ _ _ _ _ _ (round i hi hF)
      by_cases he : e = .normal
      · subst he
        obtain ⟨hlt, hF', hk⟩ := hq
        obtain ⟨e', S'', hq', hb'⟩ := ih (i + 1) (by omega) (by omega) hF'
        exact ⟨_, _, hq', .loopN hb (.weak hb' hk.le)⟩
      · refine ⟨e, S', ?_, .loopX hb he⟩
        cases e <;> first | exact hq | exact absurd rfl he
  exact key N 0 (by omega) (by omega) h0.1

/-- A loop, by what holds at its head, with a number that falls. -/
theorem loopK_fall (I : Nat → St → Prop) (n : Nat) (h0 : ∃ A, Le A S ∧ I n A)
    (round : ∀ n S, I n S → xwp .go P G a (thenK (fun _ S' => ∃ m A, m < n ∧ Le A S' ∧ I m A) Q) S) : loopK P G a Q S := by
  obtain ⟨A, hl, hI⟩ := h0
  refine swp_weak A hl ?_
  clear hl
  induction n using Nat.strongRecOn generalizing A with
  | _ n ih =>
    obtain ⟨e, S', hq, hb⟩ := swp_of _ _ _ _ _ _ (round n A hI)
    by_cases he : e = .normal
    · subst he
      obtain ⟨m, B, hlt, hl', hI'⟩ := hq
      obtain ⟨e', S'', hq', hb'⟩ := ih m hlt B hI'
      exact ⟨_, _, hq', .loopN hb (.weak hb' hl')⟩
    · refine ⟨e, S', ?_, .loopX hb he⟩
      cases e <;> first | exact hq | exact absurd rfl he

/-- Here walks that came different ways go on as one. -/
theorem meet {c : Code} (l : List (Nat × TV)) (hs : List (Key × Blk)) (g : Nat) (h : Knows l hs g S) (k : swp P G c (Q .go) (stL l hs g)) : swp P G c (Q .go) S := swp_weak _ h.le k

end
end Go.Sh
end
section
namespace Go.Sh

theorem TV.bool_eq {a b : Bool} (h : a = b) : TV.c (.p (.bool a)) = TV.c (.p (.bool b)) := by rw [h]

section
variable {α : Type} {A B : Option α} {r : α} {goal : Prop}
theorem bsplit {b : Bool} (h : (if b = true then A else B) = some r) (h1 : b = true → A = some r → goal) (h2 : b = false → B = some r → goal) : goal := by
  cases b
  · exact h2 rfl (by simpa using h)
  · exact h1 rfl (by simpa using h)
theorem psplit {c : Prop} [Decidable c] (h : (if c then A else none) = some r) (h1 : c → A = some r → goal) : goal := by
  by_cases hc : c
  · exact h1 hc (by simpa [hc] using h)
  · simp [hc] at h
theorem bind_of {β : Type} {x : Option β} {f : β → Option α} (h : x.bind f = some r) (k : ∀ v, x = some v → f v = some r → goal) : goal :=
  let ⟨v, a, b⟩ := Option.bind_eq_some_iff.1 h; k v a b
end


/-- An element of a list. -/
def idx {α : Type} (l : List α) (i : Int) : Option α := if 0 ≤ i then l[i.toNat]? else none
theorem idx_some {α : Type} {l : List α} {i : Int} {x : α} (h : idx l i = some x) : 0 ≤ i ∧ i < l.length ∧ l[i.toNat]? = some x := by
  unfold idx at h
  split at h
  · rename_i h0
    have := (List.getElem?_eq_some_iff.1 h).1
    exact ⟨h0, by omega, h⟩
  · cases h
/-- A part of a list. -/
def cut {α : Type} (l : List α) (a b : Int) : Option (List α) := if 0 ≤ a ∧ a ≤ b ∧ b ≤ l.length then some ((l.take b.toNat).drop a.toNat) else none
theorem cut_some {α : Type} {l x : List α} {a b : Int} (h : cut l a b = some x) : 0 ≤ a ∧ a ≤ b ∧ b ≤ l.length ∧ x = (l.take b.toNat).drop a.toNat := by
  unfold cut at h
  split at h
  · rename_i hc; cases h; exact ⟨hc.1, hc.2.1, hc.2.2, rfl⟩
  · cases h

def iterN {σ ρ : Type} (f : σ → Option (σ ⊕ ρ)) : Nat → σ → Option ρ
  | 0, _ => none
  | n + 1, x => (f x).bind fun s => match s with | .inl y => iterN f n y | .inr r => some r

theorem iterN_succ {σ ρ : Type} {f : σ → Option (σ ⊕ ρ)} : ∀ {n : Nat} {x : σ} {r : ρ}, iterN f n x = some r → iterN f (n + 1) x = some r
  | 0, x, r, h => by simp [iterN] at h
  | n + 1, x, r, h => by
    unfold iterN at h ⊢
    obtain ⟨s, hs, h⟩ := Option.bind_eq_some_iff.1 h
    rw [hs]
    cases s with
    | inl y => exact iterN_succ (n := n) h
    | inr q => exact h
theorem iterN_le {σ ρ : Type} {f : σ → Option (σ ⊕ ρ)} {n m : Nat} (hnm : n ≤ m) {x : σ} {r : ρ} (h : iterN f n x = some r) : iterN f m x = some r := by
  induction hnm with
  | refl => exact h
  | step _ ih => exact iterN_succ ih
theorem iterN_uniq {σ ρ : Type} {f : σ → Option (σ ⊕ ρ)} {n m : Nat} {x : σ} {r q : ρ} (h : iterN f n x = some r) (h' : iterN f m x = some q) : r = q := by
  rcases Nat.le_total n m with hl | hl
  · have := iterN_le hl h; rw [h'] at this; exact (Option.some.inj this).symm
  · have := iterN_le hl h'; rw [h] at this; exact Option.some.inj this

open Classical in
/-- A loop: rounds, until one ends it. -/
noncomputable def iter {σ ρ : Type} (f : σ → Option (σ ⊕ ρ)) (x : σ) : Option ρ := if h : ∃ r n, iterN f n x = some r then some h.choose else none

theorem iter_of {σ ρ : Type} {f : σ → Option (σ ⊕ ρ)} {n : Nat} {x : σ} {r : ρ} (h : iterN f n x = some r) : iter f x = some r := by
  have hex : ∃ r n, iterN f n x = some r := ⟨r, n, h⟩
  unfold iter
  rw [dif_pos hex]
  obtain ⟨m, hm⟩ := hex.choose_spec
  rw [iterN_uniq hm h]
theorem iter_some {σ ρ : Type} {f : σ → Option (σ ⊕ ρ)} {x : σ} {r : ρ} (h : iter f x = some r) : ∃ n, iterN f n x = some r := by
  unfold iter at h
  split at h
  · rename_i hex
    obtain ⟨m, hm⟩ := hex.choose_spec
    cases h; exact ⟨m, hm⟩
  · cases h
/-- One round of a loop. -/
theorem iter_eq {σ ρ : Type} (f : σ → Option (σ ⊕ ρ)) (x : σ) : iter f x = (f x).bind fun s => match s with | .inl y => iter f y | .inr r => some r := by
  cases h : iter f x with
  | some r =>
    obtain ⟨n, hn⟩ := iter_some h
    cases n with
    | zero => simp [iterN] at hn
    | succ n =>
      unfold iterN at hn
      obtain ⟨s, hs, hn⟩ := Option.bind_eq_some_iff.1 hn
      rw [hs, Option.bind_some]
      cases s with
      | inl y => exact (iter_of hn).symm
      | inr q => exact hn.symm
  | none =>
    cases hs : f x with
    | none => rfl
    | some s =>
      rw [Option.bind_some]
      cases s with
      | inl y =>
        cases hy : iter f y with
        | none => simp only; rw [hy]
        | some r =>
          obtain ⟨n, hn⟩ := iter_some hy
          have : iterN f (n + 1) x = some r := by unfold iterN; rw [hs]; exact hn
          rw [iter_of this] at h; cases h
      | inr r =>
        have : iterN f 1 x = some r := by unfold iterN; rw [hs]; rfl
        rw [iter_of this] at h; cases h

section
variable {P : Program} {G : Glob} {a b c d e : Code} {S : St} {Q : Exit → St → Prop}

theorem swp_reg {id ops} (hl : decide (ops.length ≤ 1000) = true) (h : ∀ K : Tok → St → Prop, (∀ S', Q .normal S' → K .go S') → rrun .go P G ops S.gen (fun t S' => K t ⟨S'.env, S'.heap, S.gen + 1000⟩) 0 ops S) :
    swp P G (.region id (List.toArray ops) false) Q S := by
  obtain ⟨fs, S', hr, hq⟩ := rrun_sound _ _ _ (h (fun _ S' => Q .normal S') fun _ h => h)
  have := BS.region (P := P) (G := G) (id := id) false hr (by simpa using hl) (by simp)
  exact ⟨_, _, hq, by simpa using this⟩

theorem swp_drw {id ops} (hl : decide (ops.length ≤ 1000) = true)
    (h : ∀ K : Tok → St → Prop, (∀ S', Q .normal S' → K .go S') → drun .go P G ops S.gen (fun _ fs S' => drawK ops fs fun t => K t ⟨S'.env, S'.heap, S.gen + 1000⟩) 0 ops [] S) :
    swp P G (.region id (List.toArray ops) true) Q S := by
  obtain ⟨gs, S', hr, ho, hq⟩ := drun_sound _ _ _ _ (h (fun _ S' => Q .normal S') fun _ h => h)
  simp only [List.append_nil, List.reverse_reverse, Bool.and_eq_true] at ho
  have := BS.region (P := P) (G := G) (id := id) true hr (by simpa using hl) fun _ => ho
  exact ⟨_, _, hq, by simpa using this⟩

/-- A region, and then the rest. -/
theorem seq_reg {id ops} (hl : decide (ops.length ≤ 1000) = true) (h : ∀ K : Tok → St → Prop, (∀ S', swp P G b Q S' → K .go S') → rrun .go P G ops S.gen (fun t S' => K t ⟨S'.env, S'.heap, S.gen + 1000⟩) 0 ops S) :
    swp P G (.seq (.region id (List.toArray ops) false) b) Q S := swp_seq (swp_reg hl h)
theorem seq_drw {id ops} (hl : decide (ops.length ≤ 1000) = true)
    (h : ∀ K : Tok → St → Prop, (∀ S', swp P G b Q S' → K .go S') → drun .go P G ops S.gen (fun _ fs S' => drawK ops fs fun t => K t ⟨S'.env, S'.heap, S.gen + 1000⟩) 0 ops [] S) :
    swp P G (.seq (.region id (List.toArray ops) true) b) Q S := swp_seq (swp_drw hl h)
theorem cond_t {c' : Operand} (hc : ev G S.env c' = .c (.p (.bool true))) (h : swp P G a Q S) : swp P G (.cond c' a b) Q S := swp_cond true hc (fun _ => h) fun h => by cases h
theorem cond_f {c' : Operand} (hc : ev G S.env c' = .c (.p (.bool false))) (h : swp P G b Q S) : swp P G (.cond c' a b) Q S := swp_cond false hc (fun h => by cases h) fun _ => h
theorem guard_t {x : Bool} {A B} (hx : x = true) (h : A .go) : guardK (some x) A B := by subst hx; exact h
theorem guard_f {x : Bool} {A B} (hx : x = false) (h : B .go) : guardK (some x) A B := by subst hx; exact h

theorem cut1 (I : St → Prop) (hJ : ∀ S', I S' → swp P G b Q S') (h : (∀ S', I S' → swp P G b Q S') → swp P G (.seq a b) Q S) : swp P G (.seq a b) Q S := h hJ
theorem cut2 (I : St → Prop) (hJ : ∀ S', I S' → swp P G c Q S') (h : (∀ S', I S' → swp P G c Q S') → swp P G (.seq a (.seq b c)) Q S) : swp P G (.seq a (.seq b c)) Q S := h hJ
theorem cut3 (I : St → Prop) (hJ : ∀ S', I S' → swp P G d Q S') (h : (∀ S', I S' → swp P G d Q S') → swp P G (.seq a (.seq b (.seq c d))) Q S) : swp P G (.seq a (.seq b (.seq c d))) Q S := h hJ
theorem cut4 (I : St → Prop) (hJ : ∀ S', I S' → swp P G e Q S') (h : (∀ S', I S' → swp P G e Q S') → swp P G (.seq a (.seq b (.seq c (.seq d e)))) Q S) : swp P G (.seq a (.seq b (.seq c (.seq d e)))) Q S := h hJ

theorem swp_ren {A : St} (hl : Ren A S) (h : swp P G c Q A) : swp P G c Q S :=
  let ⟨_, _, hq, hb⟩ := h; ⟨_, _, hq, .ren hb hl⟩
theorem swp_frz (k : Key) {b : Blk} (hk : S.heap k = some b) (h : swp P G c Q ⟨S.env, updH S.heap k (some b.still), S.gen⟩) : swp P G c Q S :=
  let ⟨_, _, hq, hb⟩ := h; ⟨_, _, hq, .frz k b hk hb⟩

/-- A loop does what its model does. -/
theorem swp_iter {σ ρ : Type} {f : σ → Option (σ ⊕ ρ)} (J : Nat → σ → St) {x0 : σ} {r : ρ} (hx : iter f x0 = some r) (h0 : ∃ g, Ren (J g x0) S)
    (round : ∀ g x s, f x = some s → (s = .inr r ∨ ∃ y, s = .inl y) → swp P G a (thenS (fun S' => ∃ y g', s = .inl y ∧ Ren (J g' y) S') fun e S' => s = .inr r ∧ Q e S') (J g x)) : swp P G (.loop a) Q S := by
  obtain ⟨n, hn⟩ := iter_some hx
  obtain ⟨g, hg⟩ := h0
  refine swp_ren hg ?_
  clear hg hx
  induction n generalizing x0 g with
  | zero => simp [iterN] at hn
  | succ n ih =>
    unfold iterN at hn
    obtain ⟨s, hs, hn⟩ := Option.bind_eq_some_iff.1 hn
    obtain ⟨e, S', hq, hb⟩ := round g x0 s hs (by
      cases s with
      | inl y => exact .inr ⟨y, rfl⟩
      | inr q => simp at hn; exact .inl (by rw [hn]))
    by_cases he : e = .normal
    · subst he
      obtain ⟨y, g', rfl, hr⟩ := hq
      obtain ⟨e', S'', hq', hb'⟩ := ih hn g'
      exact ⟨_, _, hq', .loopN hb (.ren hb' hr)⟩
    · refine ⟨e, S', ?_, .loopX hb he⟩
      cases e <;> first | exact hq.2 | exact absurd rfl he

theorem exit_of {σ ρ : Type} {X : Option ρ} {s : σ ⊕ ρ} {r : ρ} (h : X.map Sum.inr = some s) (hd : s = .inr r ∨ ∃ y, s = .inl y) : X = some r ∧ s = .inr r := by
  cases X with
  | none => simp at h
  | some q =>
    simp at h; subst h
    rcases hd with h | ⟨y, h⟩
    · cases h; exact ⟨rfl, rfl⟩
    · cases h
end


def envR (h : Key → Option Blk) (rn : List (Key × Key)) (vi : List (Key × Nat)) : List (Nat × TV) → (Nat → TV) → Prop
  | [], _ => True
  | (t, v) :: r, e => RT h rn vi v (e t) ∧ envR h rn vi r e
def blkR (h : Key → Option Blk) (rn : List (Key × Key)) (vi : List (Key × Nat)) (k : Key) (b : Blk) : Prop :=
  match virt vi k with
  | some W => b = .arr true W []
  | none => ∃ b', h (rho rn k) = some b' ∧ RB h rn vi b b'
def heapR (h : Key → Option Blk) (rn : List (Key × Key)) (vi : List (Key × Nat)) : List (Key × Blk) → Prop
  | [] => True
  | (k, b) :: r => blkR h rn vi k b ∧ heapR h rn vi r
def oldKeys (rn : List (Key × Key)) (vi : List (Key × Nat)) : List (Key × Blk) → List Key
  | [] => []
  | (k, _) :: r => if (virt vi k).isSome = true then oldKeys rn vi r else rho rn k :: oldKeys rn vi r
def rnNew (g0 g : Nat) : List (Key × Key) → Prop
  | [] => True
  | (k, _) :: r => (g0 ≤ k.g ∧ k.g < g) ∧ rnNew g0 g r
def viNew (g0 g : Nat) : List (Key × Nat) → Prop
  | [] => True
  | (k, _) :: r => (g0 ≤ k.g ∧ k.g < g) ∧ viNew g0 g r

theorem heapL_mem : ∀ {hs : List (Key × Blk)} {k b}, heapL hs k = some b → (k, b) ∈ hs
  | [], k, b, h => by simp [heapL] at h
  | (k', b') :: r, k, b, h => by
    unfold heapL at h
    split at h
    · rename_i e; subst e; cases h; simp
    · simp [heapL_mem h]
theorem heapR_mem {h rn vi} : ∀ {hs : List (Key × Blk)}, heapR h rn vi hs → ∀ {k b}, (k, b) ∈ hs → blkR h rn vi k b
  | [], _, _, _, hm => by cases hm
  | (k', b') :: r, hr, k, b, hm => by
    rcases List.mem_cons.1 hm with e | e
    · cases e; exact hr.1
    · exact heapR_mem hr.2 e
theorem oldKeys_mem {rn vi} : ∀ {hs : List (Key × Blk)} {k b}, (k, b) ∈ hs → virt vi k = none → rho rn k ∈ oldKeys rn vi hs
  | [], _, _, h, _ => by cases h
  | (k', b') :: r, k, b, h, hv => by
    unfold oldKeys
    rcases List.mem_cons.1 h with e | e
    · cases e; simp [hv]
    · have := oldKeys_mem (rn := rn) e hv
      split
      · exact this
      · simp [this]
theorem oldKeys_inj {rn vi} : ∀ {hs : List (Key × Blk)}, (oldKeys rn vi hs).Nodup → ∀ {k b k' b'}, (k, b) ∈ hs → (k', b') ∈ hs → virt vi k = none → virt vi k' = none → rho rn k = rho rn k' → k = k'
  | [], _, _, _, _, _, h, _, _, _, _ => by cases h
  | (k0, b0) :: r, hn, k, b, k', b', h, h', hv, hv', e => by
    unfold oldKeys at hn
    have tail : (oldKeys rn vi r).Nodup := by
      split at hn
      · exact hn
      · exact (List.nodup_cons.1 hn).2
    rcases List.mem_cons.1 h with e1 | e1 <;> rcases List.mem_cons.1 h' with e2 | e2
    · cases e1; cases e2; rfl
    · cases e1
      rw [if_neg (by simp [hv])] at hn
      exact absurd (e ▸ oldKeys_mem (rn := rn) e2 hv') (List.nodup_cons.1 hn).1
    · cases e2
      rw [if_neg (by simp [hv'])] at hn
      exact absurd (e ▸ oldKeys_mem (rn := rn) e1 hv) (List.nodup_cons.1 hn).1
    · exact oldKeys_inj tail e1 e2 hv hv' e
theorem envR_at {h rn vi} : ∀ {l : List (Nat × TV)} {e : Nat → TV}, envR h rn vi l e → ∀ t, RT h rn vi (envL l t) (e t)
  | [], e, _, t => by simp [envL, RT]
  | (i, v) :: r, e, hr, t => by
    unfold envL
    split
    · rename_i he; subst he; exact hr.1
    · exact envR_at hr.2 t
theorem virt_new {g0 g : Nat} : ∀ {vi : List (Key × Nat)} {k}, viNew g0 g vi → virt vi k ≠ none → g0 ≤ k.g ∧ k.g < g
  | [], k, _, h => by simp [virt] at h
  | (k', w) :: r, k, hn, h => by
    unfold virt at h
    split at h
    · rename_i e; subst e; exact hn.1
    · exact virt_new hn.2 h
theorem rho_new {g0 g : Nat} : ∀ {rn : List (Key × Key)} {k}, rnNew g0 g rn → rho rn k ≠ k → g0 ≤ k.g ∧ k.g < g
  | [], k, _, h => by simp [rho] at h
  | (k', w) :: r, k, hn, h => by
    unfold rho at h
    split at h
    · rename_i e; subst e; exact hn.1
    · exact rho_new hn.2 h

theorem ren_mk (rn : List (Key × Key)) (vi : List (Key × Nat)) {env : List (Nat × TV)} {hs : List (Key × Blk)} {g : Nat} {S : St} (h1 : envR S.heap rn vi env S.env) (h2 : heapR S.heap rn vi hs)
    (h3 : (oldKeys rn vi hs).Nodup) (h4 : rnNew S.gen g rn ∧ viNew S.gen g vi) (h5 : S.gen ≤ g) : Ren (stL env hs g) S := by
  refine ⟨rn, vi, envR_at h1, fun k b hb => ?_, fun k k' hk hk' hv hv' e => ?_, fun k hk => ?_, h5⟩
  · have := heapR_mem h2 (heapL_mem hb)
    unfold blkR at this
    split at this
    · rename_i W hW; exact .inl ⟨W, hW, this⟩
    · rename_i hv; exact .inr ⟨hv, this⟩
  · obtain ⟨b, hb⟩ := Option.ne_none_iff_exists'.1 hk
    obtain ⟨b', hb'⟩ := Option.ne_none_iff_exists'.1 hk'
    exact oldKeys_inj h3 (heapL_mem hb) (heapL_mem hb') hv hv' e
  · rcases hk with hk | hk
    · exact virt_new h4.2 hk
    · exact rho_new h4.1 hk

section
variable (h : Key → Option Blk) (rn : List (Key × Key)) (vi : List (Key × Nat))
@[go_sem] theorem envR_nil (e) : envR h rn vi [] e = True := rfl
@[go_sem] theorem envR_cons (t v r e) : envR h rn vi ((t, v) :: r) e = (RT h rn vi v (e t) ∧ envR h rn vi r e) := rfl
@[go_sem] theorem heapR_nil : heapR h rn vi [] = True := rfl
@[go_sem] theorem heapR_cons (k b r) : heapR h rn vi ((k, b) :: r) = (blkR h rn vi k b ∧ heapR h rn vi r) := rfl
@[go_sem] theorem RL_nil : RL h rn vi [] [] = True := rfl
@[go_sem] theorem RL_cons (a l b r) : RL h rn vi (a :: l) (b :: r) = (RA h rn vi a b ∧ RL h rn vi l r) := rfl
end
attribute [go_sem] blkR RA RT RB rho virt oldKeys rnNew viNew
@[go_sem] theorem ex_some_blk {p : Blk → Prop} {b : Blk} : (∃ b', some b = some b' ∧ p b') = p b := by simp
end Go.Sh
end
section
namespace Go.Sh
abbrev r_i64 (x : Int) : List PV := [.int .i64 x]
abbrev r_i32 (x : Int) : List PV := [.int .i32 x]
abbrev r_u64 (x : Int) : List PV := [.int .u64 x]
abbrev r_u32 (x : Int) : List PV := [.int .u32 x]
abbrev r_u8 (x : Int) : List PV := [.int .u8 x]
abbrev r_bool (x : Bool) : List PV := [.bool x]
abbrev r_any (_ : Unit) : List PV := [.any]
abbrev r_S {α : Type} (f : α → List PV) (l : List α) : List PV := [.rows (l.map f)]
structure A2 (α : Type) where (a0 a1 : α)
structure A3 (α : Type) where (a0 a1 a2 : α)
structure A4 (α : Type) where (a0 a1 a2 a3 : α)
structure A5 (α : Type) where (a0 a1 a2 a3 a4 : α)
structure A7 (α : Type) where (a0 a1 a2 a3 a4 a5 a6 : α)
structure A8 (α : Type) where (a0 a1 a2 a3 a4 a5 a6 a7 : α)
section
variable {α : Type}
abbrev r_A2 (f : α → List PV) (x : A2 α) : List PV := f x.a0 ++ f x.a1
abbrev r_A3 (f : α → List PV) (x : A3 α) : List PV := f x.a0 ++ f x.a1 ++ f x.a2
abbrev r_A4 (f : α → List PV) (x : A4 α) : List PV := f x.a0 ++ f x.a1 ++ f x.a2 ++ f x.a3
abbrev r_A5 (f : α → List PV) (x : A5 α) : List PV := f x.a0 ++ f x.a1 ++ f x.a2 ++ f x.a3 ++ f x.a4
abbrev r_A7 (f : α → List PV) (x : A7 α) : List PV := f x.a0 ++ f x.a1 ++ f x.a2 ++ f x.a3 ++ f x.a4 ++ f x.a5 ++ f x.a6
abbrev r_A8 (f : α → List PV) (x : A8 α) : List PV := f x.a0 ++ f x.a1 ++ f x.a2 ++ f x.a3 ++ f x.a4 ++ f x.a5 ++ f x.a6 ++ f x.a7
def A2.get (x : A2 α) (i : Int) : α := if i = 0 then x.a0 else x.a1
def A3.get (x : A3 α) (i : Int) : α := if i = 0 then x.a0 else if i = 1 then x.a1 else x.a2
def A4.get (x : A4 α) (i : Int) : α := if i = 0 then x.a0 else if i = 1 then x.a1 else if i = 2 then x.a2 else x.a3
def A5.get (x : A5 α) (i : Int) : α := if i = 0 then x.a0 else if i = 1 then x.a1 else if i = 2 then x.a2 else if i = 3 then x.a3 else x.a4
def A7.get (x : A7 α) (i : Int) : α := if i = 0 then x.a0 else if i = 1 then x.a1 else if i = 2 then x.a2 else if i = 3 then x.a3 else if i = 4 then x.a4 else if i = 5 then x.a5 else x.a6
def A8.get (x : A8 α) (i : Int) : α := if i = 0 then x.a0 else if i = 1 then x.a1 else if i = 2 then x.a2 else if i = 3 then x.a3 else if i = 4 then x.a4 else if i = 5 then x.a5 else if i = 6 then x.a6 else x.a7
def A2.set (x : A2 α) (i : Int) (v : α) : A2 α := if i = 0 then { x with a0 := v } else { x with a1 := v }
def A3.set (x : A3 α) (i : Int) (v : α) : A3 α := if i = 0 then { x with a0 := v } else if i = 1 then { x with a1 := v } else { x with a2 := v }
def A4.set (x : A4 α) (i : Int) (v : α) : A4 α := if i = 0 then { x with a0 := v } else if i = 1 then { x with a1 := v } else if i = 2 then { x with a2 := v } else { x with a3 := v }
def A5.set (x : A5 α) (i : Int) (v : α) : A5 α := if i = 0 then { x with a0 := v } else if i = 1 then { x with a1 := v } else if i = 2 then { x with a2 := v } else if i = 3 then { x with a3 := v } else { x with a4 := v }
def A7.set (x : A7 α) (i : Int) (v : α) : A7 α := if i = 0 then { x with a0 := v } else if i = 1 then { x with a1 := v } else if i = 2 then { x with a2 := v } else if i = 3 then { x with a3 := v } else if i = 4 then { x with a4 := v } else if i = 5 then { x with a5 := v } else { x with a6 := v }
def A8.set (x : A8 α) (i : Int) (v : α) : A8 α := if i = 0 then { x with a0 := v } else if i = 1 then { x with a1 := v } else if i = 2 then { x with a2 := v } else if i = 3 then { x with a3 := v } else if i = 4 then { x with a4 := v } else if i = 5 then { x with a5 := v } else if i = 6 then { x with a6 := v } else { x with a7 := v }
end
theorem cases2 {i : Int} (h0 : 0 ≤ i) (h1 : i < 2) : i = 0 ∨ i = 1 := by omega
theorem cases3 {i : Int} (h0 : 0 ≤ i) (h1 : i < 3) : i = 0 ∨ i = 1 ∨ i = 2 := by omega
theorem cases4 {i : Int} (h0 : 0 ≤ i) (h1 : i < 4) : i = 0 ∨ i = 1 ∨ i = 2 ∨ i = 3 := by omega
theorem cases5 {i : Int} (h0 : 0 ≤ i) (h1 : i < 5) : i = 0 ∨ i = 1 ∨ i = 2 ∨ i = 3 ∨ i = 4 := by omega
theorem cases7 {i : Int} (h0 : 0 ≤ i) (h1 : i < 7) : i = 0 ∨ i = 1 ∨ i = 2 ∨ i = 3 ∨ i = 4 ∨ i = 5 ∨ i = 6 := by omega
theorem cases8 {i : Int} (h0 : 0 ≤ i) (h1 : i < 8) : i = 0 ∨ i = 1 ∨ i = 2 ∨ i = 3 ∨ i = 4 ∨ i = 5 ∨ i = 6 ∨ i = 7 := by omega
end Go.Sh
end
section
namespace Go.Sh

def keyA : AV → Key
  | .ref k _ _ => k
  | .cref k _ _ _ => k
  | .ptr k _ _ => k
  | _ => ⟨0, 0⟩
def keyN : Nat → List AV → Key
  | _, [] => ⟨0, 0⟩
  | 0, a :: _ => keyA a
  | n + 1, _ :: r => keyN n r
/-- The key in a cell of a value. -/
def keyT (j : Nat) : TV → Key
  | .c a => keyA a
  | .agg l => keyN j l
  | _ => ⟨0, 0⟩
/-- The key in a cell of a variable. -/
def keyB (j : Nat) : Option Blk → Key
  | some (.box _ l) => keyN j l
  | _ => ⟨0, 0⟩
attribute [go_sem] keyA keyN keyT keyB

section
variable {P : Program} {G : Glob} {c : Code} {S : St} {Q : Exit → St → Prop}

theorem maps : (∀ {α β : Type} (f : α → β) (l l' : List α), (l ++ l').map f = l.map f ++ l'.map f) ∧ (∀ {α β : Type} (f : α → β) (l : List α) (i : Nat) (x : α), (l.set i x).map f = (l.map f).set i (f x)) ∧
    (∀ {α β : Type} (f : α → β) (l : List α) (n : Nat), (l.take n).map f = (l.map f).take n) ∧ (∀ {α β : Type} (f : α → β) (l : List α) (n : Nat), (l.drop n).map f = (l.map f).drop n) :=
  ⟨fun f l l' => List.map_append, fun f l i x => List.map_set, fun f l n => List.map_take, fun f l n => List.map_drop⟩
theorem ren_go (rnf : Nat → St → List (Key × Key)) (vif : Nat → St → List (Key × Nat)) {env : List (Nat × TV)} {hs : List (Key × Blk)} {g : Nat} (h1 : envR S.heap (rnf S.gen S) (vif S.gen S) env S.env := by (try simp -implicitDefEqProofs +decide only [go_sem, Nat.reduceAdd, Int.reduceToNat]); all_goals first | trivial | omega | (simp [maps, go_sem]; done) | (simp [maps, go_sem] <;> omega) | (simp [maps, go_sem, *]; done) | (simp [maps, go_sem, *] <;> omega))
    (h2 : heapR S.heap (rnf S.gen S) (vif S.gen S) hs := by (try simp -implicitDefEqProofs +decide only [go_sem, Nat.reduceAdd, Int.reduceToNat]); all_goals first | trivial | omega | (simp [maps, go_sem]; done) | (simp [maps, go_sem] <;> omega) | (simp [maps, go_sem, *]; done) | (simp [maps, go_sem, *] <;> omega)) (h3 : (oldKeys (rnf S.gen S) (vif S.gen S) hs).Nodup := by (try simp -implicitDefEqProofs +decide only [go_sem, Nat.reduceAdd, Int.reduceToNat]); all_goals first | trivial | omega | (simp [maps, go_sem]; done) | (simp [maps, go_sem] <;> omega) | (simp [maps, go_sem, *]; done) | (simp [maps, go_sem, *] <;> omega))
    (h4 : rnNew S.gen g (rnf S.gen S) ∧ viNew S.gen g (vif S.gen S) := by (try simp -implicitDefEqProofs +decide only [go_sem, Nat.reduceAdd, Int.reduceToNat]); all_goals first | trivial | omega | (simp [maps, go_sem]; done) | (simp [maps, go_sem] <;> omega) | (simp [maps, go_sem, *]; done) | (simp [maps, go_sem, *] <;> omega)) (h5 : S.gen ≤ g := by (try simp -implicitDefEqProofs +decide only [go_sem, Nat.reduceAdd, Int.reduceToNat]); all_goals first | trivial | omega | (simp [maps, go_sem]; done) | (simp [maps, go_sem] <;> omega) | (simp [maps, go_sem, *]; done) | (simp [maps, go_sem, *] <;> omega)) : Ren (stL env hs g) S :=
  ren_mk _ _ h1 h2 h3 h4 h5

theorem swp_fresh (J : Nat → St) (h : Ren (J S.gen) S) (k : ∀ g, swp P G c Q (J g)) : swp P G c Q S := swp_ren h (k _)

theorem back_of {σ ρ : Type} {J : Nat → σ → St} {y : σ} {s : σ ⊕ ρ} (h : some (Sum.inl y) = some s) (hr : Ren (J S.gen y) S) : ∃ y g, s = .inl y ∧ Ren (J g y) S :=
  ⟨y, S.gen, (Option.some.inj h).symm, hr⟩

/-- What a join asks. -/
def Joins {σ ρ : Type} (F : σ → Option ρ) (J : Nat → σ → St) (r : ρ) (S : St) : Prop := ∃ x, F x = some r ∧ ∃ g, Ren (J g x) S

theorem jump_of {σ ρ : Type} {F : σ → Option ρ} {J : Nat → σ → St} {r : ρ} {x : σ} {goal : St → Prop} (hj : ∀ S', Joins F J r S' → goal S') (h : F x = some r) (hr : Ren (J S.gen x) S) : goal S := hj S ⟨x, h, _, hr⟩

theorem join_of {σ ρ : Type} {F : σ → Option ρ} {J : Nat → σ → St} {r : ρ} (k : ∀ g x, F x = some r → swp P G c Q (J g x)) : ∀ S', Joins F J r S' → swp P G c Q S' :=
  fun _ ⟨x, h, g, hr⟩ => swp_ren hr (k g x h)

theorem enter_of {J : Nat → St} (hr : Ren (J S.gen) S) : ∃ g, Ren (J g) S := ⟨_, hr⟩

theorem nn {K : St → Prop} (h : K S) : thenS K Q .normal S := h
theorem nr {K : St → Prop} (h : Q .ret S) : thenS K Q .ret S := h
theorem ne {K : St → Prop} {i : Nat} (h : Q (.exit i) S) : thenS K Q (.exit i) S := h
theorem nb {i : Nat} (h : Q .normal S) : blockS i Q .normal S := h
theorem nc {i : Nat} (h : Q .ret S) : blockS i Q .ret S := h
theorem nq {i : Nat} (h : Q .normal S) : blockS i Q (.exit i) S := by
  show if i = i then Q .normal S else Q (.exit i) S
  rw [if_pos rfl]; exact h
theorem nx {i j : Nat} (hne : decide (j = i) = false) (h : Q (.exit j) S) : blockS i Q (.exit j) S := by
  show if j = i then Q .normal S else Q (.exit j) S
  rw [if_neg (by simpa using hne)]; exact h

theorem some_eq {α : Type} {x y : α} (h : some x = some y) : y = x := (Option.some.inj h).symm

theorem call_go {h : Key → Option Blk} {s g f : Nat} {xs : List TV} {bs bs' : List BV} {t : Took} {K : Kont} {r : BV} {ios : List BV} (md : List Nat) (frz : Bool) (hs : Spec P G f bs fun r' ios' => r' = r ∧ ios' = ios)
    (k : optK (backD h s g t frz r ios) K) (hg : giveTs h md xs = some (bs', t) := by first | (simp -implicitDefEqProofs +decide only [go_sem, Nat.reduceAdd, Int.reduceToNat]; rfl) | rfl | (simp -implicitDefEqProofs +decide only [go_sem, Nat.reduceAdd, Int.reduceToNat, *]; rfl)) (he : bs' = bs := by first | rfl | (simp [maps]; done) | (simp [maps, *]; done)) : callK P G h s g f xs K :=
  callK_spec md frz hg he hs (by rintro _ _ ⟨rfl, rfl⟩; exact k)

theorem call_nil {h : Key → Option Blk} {s g f : Nat} {xs : List TV} {bs bs' : List BV} {t : Took} {K : Kont} {r : BV} {ios : List BV} (md : List Nat) (frz : Bool) (hs : Spec P G f bs fun r' ios' => r' = r ∧ ios' = ios)
    (k : optK (backD h s g t frz r ios) K) (hg : giveTs h md xs = some (bs', t) := by first | (simp -implicitDefEqProofs +decide only [go_sem, Nat.reduceAdd, Int.reduceToNat]; rfl) | rfl | (simp -implicitDefEqProofs +decide only [go_sem, Nat.reduceAdd, Int.reduceToNat, *]; rfl)) (he : BsLe bs' bs := by repeat' (first | exact BsLe.nil | exact BVle.refl _ | exact BLle.nil | exact BCle.refl _ | exact BCle.nil _ | apply BsLe.cons | apply BVle.io | apply BLle.cons | apply BVle.cell | apply BVle.agg)) : callK P G h s g f xs K :=
  callK_spec md frz hg rfl (hs.le he) (by rintro _ _ ⟨rfl, rfl⟩; exact k)

theorem dyn_load {l : List AV} {j : Nat} {x : AV} {v : AV → Dl} {K : Kont} (h : l[j]? = some x) (k : optK (some (v x)) K) : optK ((l[j]?).map v) K := by rw [h]; exact k
theorem opt_ite {p : Prop} [Decidable p] {x : Option Dl} {K : Kont} (hp : p) (k : optK x K) : optK (if p then x else none) K := by rw [if_pos hp]; exact k
theorem opt_v {v v' : TV} {wr : List (Key × Option Blk)} {rd : List Key} {K : Kont} (h : v = v') (k : optK (some ⟨v', wr, rd⟩) K) : optK (some ⟨v, wr, rd⟩) K := by rw [h]; exact k
theorem opt_get {l : List AV} {j : Nat} {x : AV} {f : TV → Dl} {K : Kont} (h : l[j]? = some x) (k : optK (some (f (.c x))) K) : optK (Option.map f (Option.map TV.c l[j]?)) K := by rw [h]; exact k
theorem opt_get' {l : List AV} {j : Nat} {x : AV} {f : TV → Option Dl} {K : Kont} (h : l[j]? = some x) (k : optK (f (.c x)) K) : optK (Option.bind (Option.map TV.c l[j]?) f) K := by rw [h]; exact k
theorem opt_wr {v : TV} {q : Key} {l l' : List AV} {rd : List Key} {K : Kont} (h : l = l') (k : optK (some ⟨v, [(q, some (.box true l'))], rd⟩) K) : optK (some ⟨v, [(q, some (.box true l))], rd⟩) K := by rw [h]; exact k
theorem opt_eq {x y : Option Dl} {K : Kont} (h : x = y) (k : optK y K) : optK x K := by rw [h]; exact k
end

theorem u64_nn (x : Int) : (IntKind.u64.wrap x < 0) = False := by
  have : IntKind.u64.wrap x = x % 18446744073709551616 := by simp [IntKind.wrap, IntKind.bits, IntKind.signed]
  simp only [eq_iff_iff, iff_false, Int.not_lt]; rw [this]; omega
theorem u32_nn (x : Int) : (IntKind.u32.wrap x < 0) = False := by
  have : IntKind.u32.wrap x = x % 4294967296 := by simp [IntKind.wrap, IntKind.bits, IntKind.signed]
  simp only [eq_iff_iff, iff_false, Int.not_lt]; rw [this]; omega
@[go_sem] theorem pos_lit (n : Nat) : (0 < n + 1) = True := by simp
attribute [go_sem] Nat.le_refl List.replicate_succ List.replicate_zero List.length_replicate Int.cast_ofNat_Int u64_nn u32_nn List.length_map List.getElem?_map Nat.mul_one

@[go_sem] theorem take_map_len {α β : Type} (f : α → β) (l : List α) : (l.map f).take l.length = l.map f := by rw [List.take_of_length_le (by simp)]
@[go_sem] theorem take_len {α : Type} (l : List α) : l.take l.length = l := List.take_length

theorem appendRef_full {W bytes s g : Nat} {k : Key} {l src : List (List PV)} {ks : List Key} {n : Nat} (hn : n = l.length) :
    appendRef W bytes s g k 0 n W l src ks = if (n + src.length) * bytes ≤ maxRows ∧ n + src.length ≤ maxRows then
      some ⟨.c (.ref ⟨s, g⟩ 0 (n + src.length)), [(k, none), (⟨s, g⟩, some (.arr true W (l ++ src)))], k :: ks⟩ else none := by
  subst hn
  unfold appendRef
  rw [if_pos (by simp), if_neg (by omega)]
  simp
@[go_sem] theorem appendRef_map {α : Type} {f : α → List PV} {W bytes s g : Nat} {k : Key} {l : List α} {src : List (List PV)} {ks : List Key} :
    appendRef W bytes s g k 0 l.length W (l.map f) src ks = if (l.length + src.length) * bytes ≤ maxRows ∧ l.length + src.length ≤ maxRows then
      some ⟨.c (.ref ⟨s, g⟩ 0 (l.length + src.length)), [(k, none), (⟨s, g⟩, some (.arr true W (l.map f ++ src)))], k :: ks⟩ else none :=
  appendRef_full (by simp)
theorem allW_map {α : Type} {f : α → List PV} {W : Nat} (h : ∀ x, (f x).length = W) (l : List α) : allW W (l.map f) = true := by
  unfold allW; rw [List.all_eq_true]; intro x hx
  obtain ⟨y, _, rfl⟩ := List.mem_map.1 hx
  simp [h y]
@[go_sem] theorem allW_nil (W : Nat) : allW W [] = true := rfl
@[go_sem] theorem allW_cons (W : Nat) (r l) : allW W (r :: l) = (r.length == W && allW W l) := rfl
attribute [go_sem] allW_map beq_self_eq_true
theorem farRows_map {α : Type} {f : α → List PV} (h : ∀ x, farRow (f x) = false) : ∀ l : List α, farRows (l.map f) = false
  | [] => rfl
  | a :: l => by simp [farRows, h a, farRows_map h l]
attribute [go_sem] r_i64 r_i32 r_u64 r_u32 r_u8 r_bool r_any r_S r_A2 r_A3 r_A4 r_A5 r_A7 r_A8 farRows_map

theorem or_t {b e : Bool} (h : b = true) : (b || e) = true := by simp [h]
theorem or_f {b e : Bool} (h : b = false) : (b || e) = e := by simp [h]
theorem and_t {b e : Bool} (h : b = true) : (b && e) = e := by simp [h]
theorem and_f {b e : Bool} (h : b = false) : (b && e) = false := by simp [h]
theorem nand_t {b e : Bool} (h : b = true) : (!b && e) = false := by simp [h]
theorem nand_f {b e : Bool} (h : b = false) : (!b && e) = e := by simp [h]
theorem nor_t {b e : Bool} (h : b = true) : (!b || e) = e := by simp [h]
theorem nor_f {b e : Bool} (h : b = false) : (!b || e) = true := by simp [h]
theorem if_t {α : Type} {b : Bool} {x y : α} (h : b = true) : (if b = true then x else y) = x := by simp [h]
theorem if_f {α : Type} {b : Bool} {x y : α} (h : b = false) : (if b = true then x else y) = y := by simp [h]
attribute [go_sem] if_true if_false


def ancB : List Oper → List Nat → List Nat
  | [], acc => acc
  | o :: os, acc =>
    let direct := (o.after.toList.filter fun e => Region.binds .any e).map (·.on)
    ancB os (acc ++ [direct.foldl (fun m i => m ||| (1 <<< i) ||| acc.getD i 0) 0])

def orderB (ops : List Oper) (fs : List Fp) : Bool :=
  let an := ancB ops []
  let n := ops.length
  fs.length == n &&
  (List.range n).all fun j => (List.range j).all fun i =>
    ((an.getD j 0).testBit i) ||
      (match ops[i]?, ops[j]?, fs[i]?, fs[j]? with
       | some a, some b, some x, some y => Oper.apart ops.toArray a b && x.apart y
       | _, _, _, _ => false)

theorem fold_bit (acc : List Nat) (acc' : List (List Nat)) (hacc : ∀ j i, (acc.getD j 0).testBit i = true → i ∈ acc'.getD j []) : ∀ (direct : List Nat) (m : Nat) (i : Nat),
    (direct.foldl (fun m i => m ||| (1 <<< i) ||| acc.getD i 0) m).testBit i = true → m.testBit i = true ∨ i ∈ direct ++ direct.flatMap fun i => acc'.getD i []
  | [], m, i, h => .inl h
  | d :: ds, m, i, h => by
    rw [List.foldl_cons] at h
    rcases fold_bit acc acc' hacc ds _ i h with h | h
    · rw [Nat.testBit_or, Nat.testBit_or, Bool.or_eq_true, Bool.or_eq_true] at h
      rcases h with (h | h) | h
      · exact .inl h
      · right
        rw [Nat.one_shiftLeft, Nat.testBit_two_pow] at h
        simp only [decide_eq_true_eq] at h
        subst h; simp
      · right
        have := hacc _ _ h
        simp only [List.mem_append, List.mem_flatMap, List.mem_cons]
        exact .inr ⟨d, .inl rfl, this⟩
    · right
      simp only [List.mem_append, List.mem_flatMap, List.mem_cons, List.flatMap_cons] at h ⊢
      rcases h with h | ⟨x, h1, h2⟩
      · exact .inl (.inr h)
      · exact .inr (.inr ⟨x, h1, h2⟩)

theorem anc_bit : ∀ (ops : List Oper) (acc : List Nat) (acc' : List (List Nat)), acc.length = acc'.length → (∀ j i, (acc.getD j 0).testBit i = true → i ∈ acc'.getD j []) →
    ∀ j i, ((ancB ops acc).getD j 0).testBit i = true → i ∈ (ancs ops acc').getD j []
  | [], _, _, _, h, j, i, hb => h j i hb
  | o :: os, acc, acc', hl, h, j, i, hb => by
    unfold ancB at hb
    unfold ancs
    refine anc_bit os _ _ (by simp [hl]) (fun j i hb => ?_) j i hb
    by_cases hj : j < acc.length
    · simp only [List.getD_eq_getElem?_getD, List.getElem?_append_left hj] at hb
      simp only [List.getD_eq_getElem?_getD, List.getElem?_append_left (by omega : j < acc'.length)]
      have := h j i (by simpa [List.getD_eq_getElem?_getD] using hb)
      simpa [List.getD_eq_getElem?_getD] using this
    · by_cases hj' : j = acc.length
      · subst hj'
        simp only [List.getD_eq_getElem?_getD] at hb ⊢
        rw [List.getElem?_append_right (Nat.le_refl _), Nat.sub_self] at hb
        rw [List.getElem?_append_right (by omega), hl, Nat.sub_self]
        simp only [List.getElem?_cons_zero, Option.getD_some] at hb ⊢
        rcases fold_bit acc acc' h _ 0 i (by simpa [List.getD_eq_getElem?_getD] using hb) with h0 | h0
        · simp at h0
        · simpa [List.getD_eq_getElem?_getD] using h0
      · simp only [List.getD_eq_getElem?_getD] at hb
        rw [List.getElem?_append_right (by omega)] at hb
        obtain ⟨q, hq⟩ : ∃ q, j - acc.length = q + 1 := ⟨j - acc.length - 1, by omega⟩
        rw [hq] at hb
        simp at hb

theorem order_of {ops fs} (h : orderB ops fs = true) : orderOk ops fs = true := by
  unfold orderB at h
  unfold orderOk
  simp only [Bool.and_eq_true, List.all_eq_true, List.mem_range] at h ⊢
  refine ⟨h.1, fun j hj i hi => ?_⟩
  have := h.2 j hj i hi
  rw [Bool.or_eq_true] at this ⊢
  rcases this with h1 | h1
  · left
    simpa using anc_bit ops [] [] rfl (by simp) j i h1
  · exact .inr h1

theorem draw_go {ops fs A} (h : (edgesOk ops && orderB ops fs.reverse) = true) (k : A .go) : drawK ops fs A := by
  rw [Bool.and_eq_true] at h
  exact drawK_mk (by rw [Bool.and_eq_true]; exact ⟨h.1, order_of h.2⟩) k
end Go.Sh
end
section
namespace Go.Sh
theorem appendRef_n {W bytes s g n : Nat} {k : Key} {l src : List (List PV)} {ks : List Key} (hn : n = l.length) (hp : (n + src.length) * bytes ≤ maxRows ∧ n + src.length ≤ maxRows) :
    appendRef W bytes s g k 0 n W l src ks = some ⟨.c (.ref ⟨s, g⟩ 0 (n + src.length)), [(k, none), (⟨s, g⟩, some (.arr true W (l ++ src)))], k :: ks⟩ := by
  rw [appendRef_full hn, if_pos hp]
@[go_sem] theorem set_map_get {α : Type} {f : α → List PV} {l : List α} {i k : Nat} {r : List PV} : ((l.map f).set i r)[k]? = Option.map (fun e => if i = k then r else f e) l[k]? := by
  rw [List.getElem?_set, List.length_map, List.getElem?_map]
  by_cases h : i = k
  · subst h
    by_cases hk : i < l.length
    · rw [List.getElem?_eq_getElem hk]; simp [hk]
    · rw [List.getElem?_eq_none (by omega)]; simp [hk]
  · rw [if_neg h]
    simp only [if_neg h]
@[go_sem] theorem ite_length {α : Type} {c : Prop} [Decidable c] (a b : List α) : (if c then a else b).length = if c then a.length else b.length := by split <;> rfl
@[go_sem] theorem ite_drop {α : Type} {c : Prop} [Decidable c] (a b : List α) (n : Nat) : (if c then a else b).drop n = if c then a.drop n else b.drop n := by split <;> rfl
@[go_sem] theorem ite_take {α : Type} {c : Prop} [Decidable c] (a b : List α) (n : Nat) : (if c then a else b).take n = if c then a.take n else b.take n := by split <;> rfl
@[go_sem] theorem take_app {α : Type} {f : α → List PV} {l : List α} {s : List (List PV)} {n : Nat} : (l.map f ++ s).take (l.length + n) = l.map f ++ s.take n := by
  rw [List.take_append, List.length_map, List.take_of_length_le (by simp)]
  simp
@[go_sem] theorem len_app {α : Type} {f : α → List PV} {l : List α} {s : List (List PV)} : (l.map f ++ s).length = l.length + s.length := by simp
attribute [go_sem] ite_self Int.zero_add Int.le_refl
end Go.Sh
end
section
namespace Go.Sh
section
variable {P : Program} {G : Glob}

abbrev cG (G : Glob) : Glob := ⟨G.glob, noCaps⟩

theorem bsRep_room {V : Nat → Prop} {w : World} {W : Nat} {l : List (List PV)} {post : List BV} : ∀ {pre : List BV} {vals : List Value} {L : List Nat}, BsRep V w vals (pre ++ .cell (.own W l) :: post) L →
    ∃ c, l.length ≤ c ∧ BsRep V w vals (pre ++ .cell (.ownc W l c) :: post) L
  | [], vals, L, h => by
    cases h with | cons hb ht =>
    cases hb with | cell hb =>
    cases hb with
    | nil a W => exact ⟨0, by simp, .cons (.cell (.nilc a W)) ht⟩
    | own b o cap W l arr elem hb hsz h1 hc hr => exact ⟨cap, hc, .cons (.cell (.ownc b o cap W l arr elem hb hsz h1 hc hr)) ht⟩
  | x :: pre, vals, L, h => by
    cases h with | cons hb ht =>
    obtain ⟨c, hc, h⟩ := bsRep_room ht
    exact ⟨c, hc, .cons hb h⟩

theorem ioVals_room {W c : Nat} {l : List (List PV)} {post : List BV} : ∀ (pre : List BV) (vals : List Value), ioVals (pre ++ .cell (.own W l) :: post) vals = ioVals (pre ++ .cell (.ownc W l c) :: post) vals
  | [], [] => rfl
  | [], _ :: _ => rfl
  | x :: pre, [] => by cases x <;> rfl
  | x :: pre, v :: vals => by cases x <;> simp only [List.cons_append, ioVals, ioVals_room (c := c) pre vals]

theorem okD_room {f : Nat} {pre post : List BV} {W : Nat} {l : List (List PV)} {r : BV} {ios : List BV} (h : ∀ c, l.length ≤ c → OkD P G f (pre ++ .cell (.ownc W l c) :: post) r ios) :
    OkD P G f (pre ++ .cell (.own W l) :: post) r ios := by
  refine ⟨(h _ (Nat.le_refl _)).1, fun V w vals L hb => ?_⟩
  obtain ⟨c, hc, hb'⟩ := bsRep_room hb
  rw [ioVals_room (c := c)]
  exact (h c hc).2 V w vals L hb'

theorem spec_room {f : Nat} {args : List BV} (pre post : List BV) {W : Nat} {l : List (List PV)} {r : BV} {ios : List BV} (he : args = pre ++ .cell (.own W l) :: post)
    (h : ∀ c, l.length ≤ c → Spec P G f (pre ++ .cell (.ownc W l c) :: post) fun r' ios' => r' = r ∧ ios' = ios) : Spec P G f args fun r' ios' => r' = r ∧ ios' = ios := by
  subst he
  refine ⟨r, ios, ⟨rfl, rfl⟩, okD_room fun c hc => ?_⟩
  obtain ⟨r', ios', ⟨rfl, rfl⟩, ho⟩ := h c hc
  exact ho

theorem capsIn_one {args : List BV} (i : Nat) (c : Nat) {W : Nat} {l : List (List PV)} (h : args[i]? = some (.cell (.ownc W l c))) : CapsIn args (fun k => if k = ⟨1024 * i + 1, 2 * i⟩ then some c else none) := by
  intro k c' hk
  simp only at hk
  split at hk
  · rename_i e; cases hk; exact ⟨i, W, l, h, e⟩
  · cases hk

@[go_sem] theorem room_len (n m : Nat) : n + (m + 1) - n = m + 1 := by omega
attribute [go_sem] Int.sub_zero
@[go_sem] theorem le_room (n m : Nat) : (n ≤ n + m) = True := by simp
@[go_sem] theorem le_room1 (n m k : Nat) : (n + k ≤ n + (m + k)) = True := by simp
@[go_sem] theorem room_len0 (n : Nat) : n - n = 0 := by omega
@[go_sem] theorem take_app0 {α : Type} {f : α → List PV} {l : List α} {s : List (List PV)} : (l.map f ++ s).take l.length = l.map f := by
  rw [List.take_append, List.length_map, List.take_of_length_le (by simp)]
  simp
@[go_sem] theorem len_snoc {α : Type} (l : List α) (x : α) : (l ++ [x]).length = l.length + 1 := by simp
theorem allW_sub {W : Nat} {l m : List (List PV)} (h : allW W l = true) (hs : ∀ x ∈ m, x ∈ l) : allW W m = true := by
  unfold allW at h ⊢
  rw [List.all_eq_true] at h ⊢
  exact fun x hx => h x (hs x hx)
@[go_sem] theorem allW_take_map {α : Type} {f : α → List PV} {W n : Nat} (h : ∀ x, (f x).length = W) (l : List α) : allW W (List.take n (l.map f)) = true := allW_sub (allW_map h l) fun _ hx => List.mem_of_mem_take hx
@[go_sem] theorem allW_drop_map {α : Type} {f : α → List PV} {W n : Nat} (h : ∀ x, (f x).length = W) (l : List α) : allW W (List.drop n (l.map f)) = true := allW_sub (allW_map h l) fun _ hx => List.mem_of_mem_drop hx
@[go_sem] theorem allW_td_map {α : Type} {f : α → List PV} {W n k : Nat} (h : ∀ x, (f x).length = W) (l : List α) : allW W (List.take n (List.drop k (l.map f))) = true :=
  allW_sub (allW_map h l) fun _ hx => List.mem_of_mem_drop (List.mem_of_mem_take hx)
theorem appendRef_in {α : Type} {f : α → List PV} {W bytes s g : Nat} {k : Key} {l : List α} {x z : List PV} {sp : List (List PV)} {ks : List Key} :
    appendRef W bytes s g k 0 l.length W (l.map f ++ z :: sp) [x] ks = some ⟨.c (.ref k 0 (l.length + 1)), [(k, some (.arr true W (l.map f ++ x :: sp)))], k :: ks⟩ := by
  unfold appendRef
  rw [if_pos (by simp), if_pos (by simp)]
  simp [setAt, List.take_append, List.drop_append]
/-- append to a slice of which it is known that it is full. -/
theorem growX_full {P : Program} {G : Glob} {h : Key → Option Blk} {s g : Nat} {t u e : TypeId} {k : Key} {n c : Nat} {y : TV} {mu : Bool} {w : Nat} {l src : List (List PV)} {ks : List Key} (hc : G.caps k = some c) (ht : (ti P t).kind = .slice e)
    (hu : (ti P u).ok = true ∧ (ti P u).kind.isInt = false) (hh : h k = some (.arr mu w l)) (hy : rowsOf h y = some (src, ks)) (he : (ti P e).ok = true ∧ (ti P e).zero.length = (ti P e).size ∧ allW (ti P e).size src = true)
    (hw : w = (ti P e).size ∧ n = l.length) (hg : c < n + src.length) (hs : (n + src.length) * (ti P e).bytes ≤ maxRows ∧ n + src.length ≤ maxRows) :
    growX P G h s g t u k 0 n y (some c) = some ⟨.c (.ref ⟨s, g⟩ 0 (n + src.length)), [(⟨s, g⟩, some (.arr true w (l ++ src)))], k :: ks⟩ := by
  have h1 : (List.drop 0 l).take n = l := by rw [hw.2]; simp
  simp only [growX, capB, hc, ht, hh, hy, Option.bind_some]
  rw [if_pos ⟨hu, he, ⟨hw.1, by omega⟩, by omega, hs⟩]
  simp only [h1]
end
end Go.Sh
end
section
namespace Go.Sh
section
variable {P : Program} {G : Glob} {a b : Code} {S : St} {Q : Exit → St → Prop}
theorem go_seq {id ops S''} (k : swp P G b Q S'')
    (e : ∀ K : Tok → St → Prop, rrun .go P G ops S.gen (fun t S' => K t ⟨S'.env, S'.heap, S.gen + 1000⟩) 0 ops S = K .go S'' := by
      intro K; first | (simp -implicitDefEqProofs +decide only [go_sem, Nat.reduceAdd, Int.reduceToNat]; rfl) | (simp -implicitDefEqProofs +decide only [go_sem, Nat.reduceAdd, Int.reduceToNat, *]; rfl))
    (hl : decide (ops.length ≤ 1000) = true := by rfl) : swp P G (.seq (.region id (List.toArray ops) false) b) Q S :=
  seq_reg hl fun K hK => by rw [e]; exact hK _ k
theorem go_swp {id ops S''} (k : Q .normal S'')
    (e : ∀ K : Tok → St → Prop, rrun .go P G ops S.gen (fun t S' => K t ⟨S'.env, S'.heap, S.gen + 1000⟩) 0 ops S = K .go S'' := by
      intro K; first | (simp -implicitDefEqProofs +decide only [go_sem, Nat.reduceAdd, Int.reduceToNat]; rfl) | (simp -implicitDefEqProofs +decide only [go_sem, Nat.reduceAdd, Int.reduceToNat, *]; rfl))
    (hl : decide (ops.length ≤ 1000) = true := by rfl) : swp P G (.region id (List.toArray ops) false) Q S :=
  swp_reg hl fun K hK => by rw [e]; exact hK _ k
theorem go_seqD {id ops S'' fs} (k : swp P G b Q S'')
    (e : ∀ K : Tok → St → Prop, drun .go P G ops S.gen (fun _ fs S' => drawK ops fs fun t => K t ⟨S'.env, S'.heap, S.gen + 1000⟩) 0 ops [] S = drawK ops fs fun t => K t S'' := by
      intro K; first | (simp -implicitDefEqProofs +decide only [go_sem, Nat.reduceAdd, Int.reduceToNat]; rfl) | (simp -implicitDefEqProofs +decide only [go_sem, Nat.reduceAdd, Int.reduceToNat, *]; rfl))
    (ho : (edgesOk ops && orderB ops fs.reverse) = true := by kernel_rfl) (hl : decide (ops.length ≤ 1000) = true := by rfl) : swp P G (.seq (.region id (List.toArray ops) true) b) Q S :=
  seq_drw hl fun K hK => by rw [e]; exact draw_go ho (hK _ k)
theorem go_swpD {id ops S'' fs} (k : Q .normal S'')
    (e : ∀ K : Tok → St → Prop, drun .go P G ops S.gen (fun _ fs S' => drawK ops fs fun t => K t ⟨S'.env, S'.heap, S.gen + 1000⟩) 0 ops [] S = drawK ops fs fun t => K t S'' := by
      intro K; first | (simp -implicitDefEqProofs +decide only [go_sem, Nat.reduceAdd, Int.reduceToNat]; rfl) | (simp -implicitDefEqProofs +decide only [go_sem, Nat.reduceAdd, Int.reduceToNat, *]; rfl))
    (ho : (edgesOk ops && orderB ops fs.reverse) = true := by kernel_rfl) (hl : decide (ops.length ≤ 1000) = true := by rfl) : swp P G (.region id (List.toArray ops) true) Q S :=
  swp_drw hl fun K hK => by rw [e]; exact draw_go ho (hK _ k)
theorem if_go {c' : Operand} (h : swp P G a Q S) (hc : ev G S.env c' = .c (.p (.bool true)) := by simp -implicitDefEqProofs +decide only [go_sem, *]) : swp P G (.cond c' a b) Q S := cond_t hc h
theorem el_go {c' : Operand} (h : swp P G b Q S) (hc : ev G S.env c' = .c (.p (.bool false)) := by simp -implicitDefEqProofs +decide only [go_sem, *]) : swp P G (.cond c' a b) Q S := cond_f hc h
theorem rt {p : Prop} (h : p := by
  simp -implicitDefEqProofs +decide only [go_sem, Nat.reduceAdd, Int.reduceToNat]
  all_goals first | done | trivial | assumption | (simp [maps]; done) | (simp [maps, *]; done)) : p := h
end
end Go.Sh
end
