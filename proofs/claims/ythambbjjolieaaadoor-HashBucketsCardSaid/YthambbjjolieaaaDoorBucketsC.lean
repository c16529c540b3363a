/- Part 3 of 7 of the proof: own texts joined by a program. -/
import Derived.Test.YthambbjjolieaaaDoorBucketsB
import Derived.Laws.BitsLemmas
import Derived.Laws.BitsAllLaws
import Derived.IntWalk
import Derived.Test.YthambbjjolieaaaDoorProg
import Derived.ProofKit
import Derived.LaidMore
import Derived.OpenShut
import Derived.ChangeArms
import Derived.Below
import Derived.RowKit
import Derived.Carry
set_option linter.all false
section
namespace Go.Sh

/-- An operation's own edges. -/
def directs (o : Oper) : List Nat := (o.after.toList.filter fun e => Region.binds .any e).map (·.on)

/-- A set that holds with each operation all that must have run before it. -/
def Closed (all : List Oper) (D : Nat → Prop) : Prop := ∀ j o, D j → all[j]? = some o → ∀ i ∈ directs o, D i

theorem ancs_mem {all : List Oper} {D : Nat → Prop} (hc : Closed all D) : ∀ (os : List Oper) (acc : List (List Nat)), (∀ k, os[k]? = all[acc.length + k]?) →
    (∀ (j : Nat) (l : List Nat) (o : Oper), acc[j]? = some l → all[j]? = some o → (∀ i ∈ directs o, D i) → ∀ x ∈ l, D x) →
    ∀ (j : Nat) (l : List Nat) (o : Oper), (ancs os acc)[j]? = some l → all[j]? = some o → (∀ i ∈ directs o, D i) → ∀ x ∈ l, D x
  | [], acc, _, ha => ha
  | o :: os, acc, hk, ha => by
    unfold ancs
    refine ancs_mem hc os _ (fun k => ?_) fun j l o' hl ho' hd x hx => ?_
    · have := hk (k + 1)
      simpa [Nat.add_assoc, Nat.add_comm 1 k] using this
    · have h0 : all[acc.length]? = some o := by simpa using (hk 0).symm
      by_cases e : j < acc.length
      · rw [List.getElem?_append_left e] at hl
        exact ha j l o' hl ho' hd x hx
      · rw [List.getElem?_append_right (by omega)] at hl
        have : j - acc.length = 0 := by
          have := (List.getElem?_eq_some_iff.1 hl).1
          simp only [List.length_singleton] at this
          omega
        have e' : j = acc.length := by omega
        subst e'
        rw [h0] at ho'
        cases ho'
        simp at hl
        subst hl
        rcases List.mem_append.1 hx with hx | hx
        · exact hd x hx
        · obtain ⟨i, hi, hx⟩ := List.mem_flatMap.1 hx
          have hDi := hd i hi
          cases hai : acc[i]? with
          | none => rw [hai] at hx; simp at hx
          | some l' =>
            rw [hai] at hx
            simp at hx
            have hlt := (List.getElem?_eq_some_iff.1 hai).1
            cases hoi : all[i]? with
            | none =>
              exfalso
              have h1 := List.getElem?_eq_none_iff.1 hoi
              have h2 := (List.getElem?_eq_some_iff.1 h0).1
              omega
            | some oi => exact ha i l' oi hai hoi (fun y hy => hc i oi hDi hoi y hy) x hx

theorem ancs_good {all : List Oper} {D : Nat → Prop} (hc : Closed all D) {j : Nat} {l : List Nat} {o : Oper} (hl : (ancs all [])[j]? = some l) (ho : all[j]? = some o) (hd : ∀ i ∈ directs o, D i) :
    ∀ x ∈ l, D x :=
  ancs_mem hc all [] (by simp) (by simp) j l o hl ho hd

structure Apart (all : List Oper) (x y : Oper × Dl) : Prop where
  ops : Oper.apart all.toArray x.1 y.1 = true
  fps : x.2.fp.apart y.2.fp = true

theorem order_apart {ps : List (Oper × Dl)} {all : List Oper} {fs : List Fp} (h1 : ps.map (·.1) = all) (h2 : fs = ps.map (·.2.fp)) (ho : orderOk all fs = true) {i j : Nat} {x y : Oper × Dl}
    (hij : i < j) (hx : ps[i]? = some x) (hy : ps[j]? = some y) : i ∈ (ancs all []).getD j [] ∨ Apart all x y := by
  unfold orderOk at ho
  simp only [Bool.and_eq_true, List.all_eq_true, List.mem_range, Bool.or_eq_true] at ho
  have hlen : all.length = ps.length := by rw [← h1]; simp
  have hj : j < all.length := by rw [hlen]; exact (List.getElem?_eq_some_iff.1 hy).1
  have ax : all[i]? = some x.1 := by rw [← h1, List.getElem?_map, hx]; rfl
  have ay : all[j]? = some y.1 := by rw [← h1, List.getElem?_map, hy]; rfl
  have fx : fs[i]? = some x.2.fp := by rw [h2, List.getElem?_map, hx]; rfl
  have fy : fs[j]? = some y.2.fp := by rw [h2, List.getElem?_map, hy]; rfl
  rcases ho.2 j hj i hij with h | h
  · exact .inl (by simpa using h)
  · rw [ax, ay, fx, fy] at h
    simp only [Bool.and_eq_true] at h
    exact .inr ⟨h.1, h.2⟩

theorem meets_false {a b : List Nat} (h : meets a b = false) : ∀ x ∈ a, x ∉ b := by
  intro x hx hb
  have : meets a b = true := by simp only [meets, List.any_eq_true]; exact ⟨x, hx, by simpa using hb⟩
  rw [h] at this; cases this

theorem fp_apart {a b : Fp} (h : a.apart b = true) : (∀ x ∈ a.wr, x ∉ b.wr) ∧ (∀ x ∈ a.wr, x ∉ b.rd) ∧ (∀ x ∈ a.rd, x ∉ b.wr) := by
  simp only [Fp.apart, Bool.and_eq_true, Bool.not_eq_true'] at h
  exact ⟨meets_false h.1.1, meets_false h.1.2, meets_false h.2⟩

section
variable {P : Program} {G : Glob} {all : List Oper} {g : Nat} {S : St} {ps : List (Oper × Dl)} {D : Nat → Bool} {fs : List Fp}

theorem envF_id {t : Nat} {p : Oper × Dl} (h : p.1.dst ≠ some t) (x : TV) : envF t p x = x := by simp [envF, h]
theorem heapF_id {k : Key} {p : Oper × Dl} (h : k.s ∉ p.2.fp.wr) (x : Option Blk) : heapF k p x = x := by
  refine putAt_id (fun q hq e => h ?_) x
  simp only [Dl.fp, List.mem_map]
  exact ⟨q, hq, by rw [e]⟩

/-- What a ready operation meets does not hang on the order. -/
theorem ready_sees (h1 : ps.map (·.1) = all) (h2 : fs = ps.map (·.2.fp)) (ho : orderOk all fs = true) (hc : Closed all (fun j => D j = true)) {i : Nat} {x : Oper × Dl} (hx : ps[i]? = some x) (hi : D i = false)
    (hd : ∀ j ∈ directs x.1, D j = true) : ∀ j y, ps[j]? = some y → (D j ≠ decide (j < i) → (j < i ∧ Apart all y x) ∨ (i < j ∧ Apart all x y)) ∧ (i < j → D j = true → Apart all x y) := by
  have gd : ∀ {k : Nat} {p : Oper × Dl}, ps[k]? = some p → all[k]? = some p.1 := fun hp => by rw [← h1, List.getElem?_map, hp]; rfl
  have anc : ∀ {k k' : Nat} {p : Oper × Dl}, ps[k]? = some p → (∀ j ∈ directs p.1, D j = true) → k' ∈ (ancs all []).getD k [] → D k' = true := by
    intro k k' p hp hdp hk
    rw [List.getD_eq_getElem?_getD] at hk
    cases ha : (ancs all [])[k]? with
    | none => rw [ha] at hk; simp at hk
    | some l => rw [ha] at hk; exact ancs_good (D := fun j => D j = true) hc ha (gd hp) hdp k' (by simpa using hk)
  intro j y hy
  have right : i < j → D j = true → Apart all x y := fun hij hDj => by
    rcases order_apart h1 h2 ho hij hx hy with h | h
    · have := anc hy (hc j _ hDj (gd hy)) h
      rw [hi] at this; cases this
    · exact h
  refine ⟨fun hne => ?_, right⟩
  rcases Nat.lt_trichotomy j i with h | h | h
  · have hDj : D j = false := by simpa [h] using hne
    rcases order_apart h1 h2 ho h hy hx with h' | h'
    · have := anc hx hd h'
      rw [hDj] at this; cases this
    · exact .inl ⟨h, h'⟩
  · subst h; rw [hi] at hne; simp at hne
  · have hDj : D j = true := by
      have : ¬ j < i := by omega
      simpa [this] using hne
    exact .inr ⟨h, right h hDj⟩

theorem ps_map {α : Type} {F : Oper × Dl → α} {j : Nat} {f : α} (hf : (ps.map F)[j]? = some f) : ∃ y, ps[j]? = some y ∧ F y = f := by
  rw [List.getElem?_map] at hf
  simpa using hf

theorem any_did (h1 : ps.map (·.1) = all) (h2 : fs = ps.map (·.2.fp)) (ho : orderOk all fs = true) (hc : Closed all (fun j => D j = true)) {i : Nat} {o : Oper} {d : Dl} (hx : ps[i]? = some (o, d)) (hi : D i = false)
    (hd : ∀ j ∈ directs o, D j = true) (hdid : DidAt P G all g (stD S ps (fun j => decide (j < i))) i o d) :
    DidAt P G all g (stD S ps D) i o d ∧ (stD S ps D).app o.dst d = stD S ps (fun j => D j || j == i) := by
  have sees := ready_sees h1 h2 ho hc hx hi hd
  have env : ∀ t ∈ o.looksAt all.toArray, (stD S ps (fun j => decide (j < i))).env t = (stD S ps D).env t := by
    intro t ht
    refine runAt_congr fun j f hf hne => ?_
    obtain ⟨y, hy, rfl⟩ := ps_map hf
    simp only [Nat.zero_add] at hne
    refine envF_id ?_
    intro e
    rcases (sees j y hy).1 (fun h => hne h.symm) with ⟨_, h⟩ | ⟨_, h⟩
    · exact (Oper.apart_spec h.ops).1 t e ht
    · exact (Oper.apart_spec h.ops).2.2 t e ht
  have heap : ∀ k ∈ d.rd, (stD S ps (fun j => decide (j < i))).heap k = (stD S ps D).heap k := by
    intro k hk
    have hk' : k.s ∈ d.fp.rd := by simp only [Dl.fp, List.mem_map]; exact ⟨k, hk, rfl⟩
    refine runAt_congr fun j f hf hne => ?_
    obtain ⟨y, hy, rfl⟩ := ps_map hf
    simp only [Nat.zero_add] at hne
    refine heapF_id ?_
    intro e
    rcases (sees j y hy).1 (fun h => hne h.symm) with ⟨_, h⟩ | ⟨_, h⟩
    · exact (fp_apart h.fps).2.1 _ e hk'
    · exact (fp_apart h.fps).2.2 _ hk' e
  constructor
  · have hw : wants all (stD S ps (fun j => decide (j < i))).env o = wants all (stD S ps D).env o := by
      unfold wants
      rcases hg : o.guard with _ | ⟨j, want⟩
      · rfl
      · simp only
        split
        · rfl
        · rename_i t ht
          rw [env t (by
            simp only [Oper.looksAt, hg, List.mem_append, List.getElem?_toArray]
            right
            rw [ht]; simp)]
    unfold DidAt at hdid ⊢
    rw [hw] at hdid
    rcases hdid with ⟨a, b⟩ | ⟨a, b⟩
    · exact .inl ⟨a, b⟩
    · refine .inr ⟨a, step_local (fun x hx => ?_) heap b⟩
      cases x with
      | tmp t =>
        exact env t (by
          simp only [Oper.looksAt, List.mem_append, List.mem_filterMap]
          left
          exact ⟨.tmp t, Array.mem_toList_iff.2 hx, rfl⟩)
      | const v => rfl
      | global g => rfl
      | func f => rfl
  · refine St.ext' (fun t => ?_) (fun k => ?_) rfl
    · rw [app_env]
      by_cases e : o.dst = some t
      · refine (runAt_add (i := i) (Nat.zero_le _) (by rw [List.getElem?_map]; simp [hx]) hi fun j f hj hf hDj => ?_).symm
        obtain ⟨y, hy, rfl⟩ := ps_map hf
        simp only [Nat.zero_add] at hj hDj
        exact envF_id fun e' => (Oper.apart_spec ((sees j y hy).2 hj hDj).ops).2.1 t e e'
      · rw [envF_id (p := (o, d)) e]
        refine runAt_congr fun j f hf hne => ?_
        obtain ⟨y, hy, rfl⟩ := ps_map hf
        have : j = i := (by simpa using hne : j = i ∧ _).1
        subst this
        rw [hx] at hy; cases hy
        exact envF_id e
    · rw [app_heap]
      by_cases e : k.s ∈ d.fp.wr
      · refine (runAt_add (i := i) (Nat.zero_le _) (by rw [List.getElem?_map]; simp [hx]) hi fun j f hj hf hDj => ?_).symm
        obtain ⟨y, hy, rfl⟩ := ps_map hf
        simp only [Nat.zero_add] at hj hDj
        exact heapF_id fun e' => (fp_apart ((sees j y hy).2 hj hDj).fps).1 _ e e'
      · rw [heapF_id (p := (o, d)) e]
        refine runAt_congr fun j f hf hne => ?_
        obtain ⟨y, hy, rfl⟩ := ps_map hf
        have : j = i := (by simpa using hne : j = i ∧ _).1
        subst this
        rw [hx] at hy; cases hy
        exact heapF_id e

end
end Go.Sh
end
section
namespace Go.Sh

section
variable {P : Program} {G : Glob} {V0 : Nat → Prop} {L0 : List Nat} {w0 : World} {m0 : KM} {n : Nat} {S : St} {all : List Oper} {ps : List (Oper × Dl)} {fs : List Fp} {Q : Exit → Act → World → Prop}

def inSet (listed : Array Bool) : Nat → Bool := fun j => listed.getD j false

theorem inSet_set {listed : Array Bool} {i : Nat} (hi : i < listed.size) : inSet (listed.setIfInBounds i true) = fun j => inSet listed j || j == i := by
  funext j
  unfold inSet
  by_cases e : j = i
  · subst e; simp [hi]
  · rw [Array.getD_eq_getD_getElem?, Array.getElem?_setIfInBounds_ne (Ne.symm e), ← Array.getD_eq_getD_getElem?]
    simp [e]

theorem ready_mem {listed : Array Bool} (hs : listed.size = all.length) {i : Nat} : i ∈ Region.ready .any all.toArray listed ↔ ∃ o, all[i]? = some o ∧ inSet listed i = false ∧ ∀ j ∈ directs o, inSet listed j = true := by
  unfold Region.ready inSet directs
  simp only [List.mem_filter, List.mem_range, List.size_toArray, List.getElem?_toArray, Bool.and_eq_true, Bool.not_eq_true']
  constructor
  · rintro ⟨h1, h2, h3⟩
    have ho : all[i]? = some all[i] := List.getElem?_eq_getElem h1
    rw [ho] at h3
    refine ⟨_, ho, ?_, ?_⟩
    · have : i < listed.size := by omega
      simpa [this] using h2
    · simp only [Option.map_some, Option.getD_some, Array.all_eq_true', Bool.or_eq_true, Bool.not_eq_true'] at h3
      intro j hj
      simp only [List.mem_map, List.mem_filter, Array.mem_toList_iff] at hj
      obtain ⟨e, ⟨he, hb⟩, rfl⟩ := hj
      rcases h3 e he with h | h
      · rw [hb] at h; cases h
      · exact h
  · rintro ⟨o, ho, h2, h3⟩
    have h1 := (List.getElem?_eq_some_iff.1 ho).1
    refine ⟨h1, ?_, ?_⟩
    · have : i < listed.size := by omega
      simpa [this] using h2
    · rw [ho]
      simp only [Option.map_some, Option.getD_some, Array.all_eq_true', Bool.or_eq_true, Bool.not_eq_true']
      intro e he
      cases hb : Region.binds .any e
      · exact .inl rfl
      · exact .inr (h3 e.on (by simp only [List.mem_map, List.mem_filter, Array.mem_toList_iff]; exact ⟨e, ⟨he, hb⟩, rfl⟩))

theorem edges_lt (he : edgesOk all = true) {j : Nat} {o : Oper} (ho : all[j]? = some o) : ∀ i ∈ directs o, i < j := by
  intro i hi
  unfold edgesOk at he
  simp only [List.all_eq_true, List.mem_range] at he
  have := he j (List.getElem?_eq_some_iff.1 ho).1
  rw [ho] at this
  simp only [directs, List.mem_map, List.mem_filter] at hi
  obtain ⟨e, ⟨h1, h2⟩, rfl⟩ := hi
  have := List.all_eq_true.1 this e h1
  simpa [h2] using this

/-- When nothing is ready, everything has run. -/
theorem ready_done {listed : Array Bool} (hs : listed.size = all.length) (he : edgesOk all = true) (hr : Region.ready .any all.toArray listed = []) : ∀ j, j < all.length → inSet listed j = true := by
  intro j
  induction j using Nat.strongRecOn with
  | _ j ih =>
    intro hj
    cases e : inSet listed j with
    | true => rfl
    | false =>
      have ho : all[j]? = some all[j] := List.getElem?_eq_getElem hj
      have : j ∈ Region.ready .any all.toArray listed := (ready_mem hs).2 ⟨_, ho, e, fun i hi => by
        have := edges_lt he ho i hi
        exact ih i this (by omega)⟩
      rw [hr] at this; cases this

/-- How many are left. -/
def left (n : Nat) (listed : Array Bool) : Nat := (List.range n).countP fun j => !inSet listed j

theorem left_set {n : Nat} {listed : Array Bool} {i : Nat} (hi : i < listed.size) (hn : i < n) (h0 : inSet listed i = false) : left n (listed.setIfInBounds i true) + 1 = left n listed := by
  unfold left
  rw [inSet_set hi]
  have key : ∀ (l : List Nat), l.Nodup → i ∈ l → (l.countP fun j => !(inSet listed j || j == i)) + 1 = l.countP fun j => !inSet listed j := by
    intro l
    induction l with
    | nil => intro _ h; cases h
    | cons x l ih =>
      intro hnd hm
      rw [List.nodup_cons] at hnd
      rw [List.countP_cons, List.countP_cons]
      by_cases e : x = i
      · subst e
        have : (l.countP fun j => !(inSet listed j || j == x)) = l.countP fun j => !inSet listed j :=
          List.countP_congr fun y hy => by
            have : y ≠ x := fun e => hnd.1 (e ▸ hy)
            simp [this]
        rw [this]
        simp [h0]
      · have hm' : i ∈ l := by rcases List.mem_cons.1 hm with h | h; exact absurd h.symm e; exact h
        have := ih hnd.2 hm'
        have hx : (x == i) = false := by simpa using e
        simp only [hx, Bool.or_false]
        omega
  exact key _ List.nodup_range (List.mem_range.2 hn)

theorem any_region (hC : CapsOk G m0) (h1 : ps.map (·.1) = all) (h2 : fs = ps.map (·.2.fp)) (hE : edgesOk all = true) (ho : orderOk all fs = true)
    (hdid : ∀ k o d, ps[k]? = some (o, d) → DidAt P G all S.gen (stD S ps (fun j => decide (j < k))) k o d) (hdst : ∀ o ∈ all, ∀ t, o.dst = some t → t < n)
    (hQ : ∀ a w, Rel G V0 L0 w0 m0 n (· < S.gen + all.length) (stD S ps fun _ => true) a w → Q .normal a w) :
    ∀ (fuel : Nat) (listed : Array Bool) (a : Act) (w : World), listed.size = all.length → left all.length listed ≤ fuel → Closed all (fun j => inSet listed j = true) →
      Rel G V0 L0 w0 m0 n (fun x => x < S.gen ∨ ∃ j, inSet listed j = true ∧ x = S.gen + j) (stD S ps (inSet listed)) a w → wpAny P .any all.toArray Q fuel listed a w := by
  have hlen : all.length = ps.length := by rw [← h1]; simp
  have fin : ∀ (listed : Array Bool) (a : Act) (w : World), listed.size = all.length → Region.ready .any all.toArray listed = [] →
      Rel G V0 L0 w0 m0 n (fun x => x < S.gen ∨ ∃ j, inSet listed j = true ∧ x = S.gen + j) (stD S ps (inSet listed)) a w → Q .normal a w := by
    intro listed a w hs hr hR
    have hall := ready_done hs hE hr
    rw [stD_congr S ps (D' := fun _ => true) (fun j hj => hall j (by omega))] at hR
    refine hQ a w (hR.used fun x hx => ?_)
    rcases hx with hx | ⟨j, hj, rfl⟩
    · omega
    · have : j < listed.size := by
        apply Classical.byContradiction
        intro hn
        unfold inSet at hj
        rw [Array.getD_eq_getD_getElem?, Array.getElem?_eq_none (by omega)] at hj
        cases hj
      omega
  intro fuel
  induction fuel with
  | zero =>
    intro listed a w hs hf hc hR
    have hr : Region.ready .any all.toArray listed = [] := by
      cases e : Region.ready .any all.toArray listed with
      | nil => rfl
      | cons i r =>
        obtain ⟨o, g1, g2, g3⟩ := (ready_mem (i := i) hs).1 (by rw [e]; simp)
        have hi := (List.getElem?_eq_some_iff.1 g1).1
        have := left_set (n := all.length) (i := i) (by omega) hi g2
        omega
    exact ⟨hr, fin listed a w hs hr hR⟩
  | succ fuel ih =>
    intro listed a w hs hf hc hR
    refine ⟨fun hr => fin listed a w hs hr hR, fun i hi => ?_⟩
    obtain ⟨o, g1, g2, g3⟩ := (ready_mem hs).1 hi
    have hil := (List.getElem?_eq_some_iff.1 g1).1
    obtain ⟨d, hx⟩ : ∃ d, ps[i]? = some (o, d) := by
      have : (ps.map (·.1))[i]? = some o := by rw [h1]; exact g1
      obtain ⟨y, hy, rfl⟩ := ps_map this
      exact ⟨y.2, hy⟩
    obtain ⟨hdd, happ⟩ := any_did h1 h2 ho hc hx g2 g3 (by simpa using hdid i o d hx)
    have hset := inSet_set (listed := listed) (i := i) (by omega)
    have hleft := left_set (n := all.length) (i := i) (listed := listed) (by omega) hil g2
    have hc' : Closed all (fun j => inSet (listed.setIfInBounds i true) j = true) := by
      rw [hset]
      intro j o' hj ho' k hk
      simp only [Bool.or_eq_true, beq_iff_eq] at hj ⊢
      rcases hj with hj | rfl
      · exact .inl (hc j o' hj ho' k hk)
      · rw [g1] at ho'; cases ho'
        exact .inl (g3 k hk)
    have hu : ¬ (S.gen + i < S.gen ∨ ∃ j, inSet listed j = true ∧ S.gen + i = S.gen + j) := by
      rintro (h | ⟨j, hj, e⟩)
      · omega
      · have : i = j := by omega
        subst this; rw [g2] at hj; cases hj
    have next : ∀ a' w', Rel G V0 L0 w0 m0 n (fun x => (x < S.gen ∨ ∃ j, inSet listed j = true ∧ x = S.gen + j) ∨ x = S.gen + i) ((stD S ps (inSet listed)).app o.dst d) a' w' →
        wpAny P .any all.toArray Q fuel (listed.setIfInBounds i true) a' w' := by
      intro a' w' hR'
      refine ih _ a' w' (by simpa using hs) (by omega) hc' ?_
      rw [happ] at hR'
      rw [hset]
      refine hR'.used fun x hx => ?_
      rcases hx with (hx | ⟨j, hj, rfl⟩) | rfl
      · exact .inl hx
      · exact .inr ⟨j, by simp [hj], rfl⟩
      · exact .inr ⟨i, by simp, rfl⟩
    unfold wpOp
    simp only [List.getElem?_toArray, g1]
    rcases hdd with ⟨hw, rfl⟩ | ⟨hw, hstep⟩
    · rw [wants_rel hR hw]
      simp only [Bool.false_eq_true, if_false]
      exact next _ _ ((skip_rel hR (hdst o (List.mem_of_getElem? g1))).used fun x hx => .inl hx)
    · rw [wants_rel hR hw]
      simp only [if_true]
      exact .inl (op_rel hC hR hu hstep (hdst o (List.mem_of_getElem? g1)) next)

theorem Rel.drawn {U : Nat → Prop} {a : Act} {w : World} (h : Rel G V0 L0 w0 m0 n U S a w) (k : Nat) : Rel G V0 L0 w0 m0 n U S a { w with drawn := k } := by
  obtain ⟨h1, h2, V, m, x0, M, E⟩ := h
  exact ⟨h1, h2, V, m, x0, M.same rfl rfl rfl rfl, ERel.mono (w := w) (fun _ _ h => h) (fun _ h => h) ⟨fun _ _ => rfl⟩ E⟩

theorem region_sound (hC : CapsOk G m0) (hm : P.follows .mixedOrders = true) {id : Nat} {S' : St} {draw : Bool} {a : Act} {w : World} (hr : Run P G all S.gen 0 all S fs S') (hd : draw = true → edgesOk all = true ∧ orderOk all fs = true)
    (hdst : ∀ o ∈ all, ∀ t, o.dst = some t → t < n) (hR : Rel G V0 L0 w0 m0 n (· < S.gen) S a w) (hQ : ∀ a w, Rel G V0 L0 w0 m0 n (· < S.gen + all.length) S' a w → Q .normal a w) :
    (Code.region id all.toArray draw).wp P Q a w := by
  cases draw with
  | false => exact wp_region_list (run_list hC hr (by simpa using hR) hdst fun a' w' h => hQ a' w' (by simpa using h))
  | true =>
    obtain ⟨hE, ho⟩ := hd rfl
    obtain ⟨ps, h1, h2, rfl, h4⟩ := run_did hr
    refine wp_region_any hm (any_region hC h1 h2 hE ho (by simpa using h4) hdst hQ _ _ _ _ (by simp) ?_ ?_ ?_)
    · unfold left
      exact Nat.le_trans List.countP_le_length (by simp)
    · intro j o hj
      exfalso
      revert hj
      unfold inSet
      rw [Array.getD_eq_getD_getElem?]
      simp only [Array.getElem?_replicate]
      split <;> simp
    · have h0 : ∀ j, inSet (Array.replicate all.toArray.size false) j = false := by
        intro j
        unfold inSet
        rw [Array.getD_eq_getD_getElem?]
        simp only [Array.getElem?_replicate]
        split <;> simp
      rw [stD_none _ _ h0]
      exact (hR.drawn _).used fun x hx => .inl hx

end
end Go.Sh
end
section
namespace Go.Sh

section
variable {P : Program} {G : Glob} {V0 : Nat → Prop} {L0 : List Nat} {w0 : World} {m0 : KM} {n : Nat} {S : St}

/-- A loop whose first round has begun. -/
def wpIn (P : Program) (c : Code) (Q : Exit → Act → World → Prop) (a : Act) (w : World) : Prop :=
  ∀ (b : Frame) (k : List Item) (cs : List Frame), ∃ e a' w', Q e a' w' ∧ Arrives P (lone (b.at a (.code c :: .inLoop c :: k)) cs w) b k cs e a' w'

theorem wp_of_in {c : Code} {Q : Exit → Act → World → Prop} {a : Act} {w : World} (h : wpIn P c Q a w) : (Code.loop c).wp P Q a w :=
  fun b k cs => let ⟨e, a', w', q, r⟩ := h b k cs; ⟨e, a', w', q, .of_steps (.one step_loop) r⟩

theorem wpIn_round {c : Code} {Q : Exit → Act → World → Prop} {a : Act} {w : World} (h : c.wp P (Exit.then (wpIn P c Q) Q) a w) : wpIn P c Q a w := by
  intro b k cs
  obtain ⟨e, a₁, w₁, hq, harr⟩ := h b (.inLoop c :: k) cs
  cases e with
  | normal =>
    obtain ⟨e₂, a₂, w₂, hq₂, harr₂⟩ := hq b k cs
    exact ⟨e₂, a₂, w₂, hq₂, .of_steps (Steps.trans harr (.one step_inLoop)) harr₂⟩
  | exit id => exact ⟨_, a₁, w₁, hq, .pass (x := .inLoop c) rfl (fun _ _ => .inl (by simp)) harr⟩
  | goto l => exact ⟨_, a₁, w₁, hq, .pass (x := .inLoop c) rfl (fun _ _ => .inl (by simp)) harr⟩
  | ret => exact ⟨_, a₁, w₁, hq, .pass (x := .inLoop c) rfl (fun _ _ => .inl (by simp)) harr⟩
  | panic ch => exact ⟨_, a₁, w₁, hq, .pass (x := .inLoop c) rfl (fun _ _ => .inl (by simp)) harr⟩
  | outgrown => exact ⟨_, a₁, w₁, hq, .pass (x := .inLoop c) rfl (fun _ _ => .inl (by simp)) harr⟩

theorem then_normal {next : Act → World → Prop} {Q : Exit → Act → World → Prop} {a w} : Exit.then next Q .normal a w = next a w := rfl
theorem then_ne {next : Act → World → Prop} {Q : Exit → Act → World → Prop} {e : Exit} {a w} (he : e ≠ .normal) : Exit.then next Q e a w = Q e a w := by
  cases e <;> first | rfl | exact absurd rfl he

theorem Rel.le {A : St} {a : Act} {w : World} (h : Rel G V0 L0 w0 m0 n (· < S.gen) S a w) (hl : Le A S) : Rel G V0 L0 w0 m0 n (· < A.gen) A a w := by
  obtain ⟨h1, h2, V, m, x0, M, E⟩ := h
  have old : ∀ k b, A.heap k = some b → S.heap k = some b := fun k b e => by
    rcases hl.heap k with h | h
    · rw [← h]; exact e
    · rw [h] at e; cases e
  refine ⟨h1, h2, V, m, x0, ⟨fun k b e => M.heap k b (old k b e), fun k k' b b' i i' r e e' => M.inj k k' b b' i i' r (old k b e) (old k' b' e'), fun k b i r e => M.mine k b i r (old k b e),
    fun k b i r e => M.imm k b i r (old k b e), fun k i e => Nat.lt_of_lt_of_le (M.gen k i e) hl.gen, M.vsz, M.v0, M.glob, M.frame⟩, fun t => ?_⟩
  rcases hl.env t with h | h
  · rw [h]; exact E t
  · rw [h]; exact .any _

theorem ra_sound {V : Nat → Prop} {m m' : KM} {h : Key → Option Blk} {rn : List (Key × Key)} {vi : List (Key × Nat)} {w : World} {U : Nat → Prop} (M : MRel G V0 L0 w0 U V m h w)
    (hm : ∀ k, m' k = match virt vi k with | some W => some ⟨none, 0, W, 0⟩ | none => m (rho rn k)) {v : Value} {a b : AV} (hr : RA h rn vi a b) (hv : ARep m V w v b) : ARep m' V w v a := by
  have hk : ∀ k, virt vi k = none → m' k = m (rho rn k) := fun k hv => by rw [hm, hv]
  unfold RA at hr
  split at hr
  · exact .p (.any _ hv.one)
  · subst hr; cases hv with | p hv => exact .p hv
  · cases hv; exact .nilS
  · obtain ⟨rfl, rfl, h3⟩ := hr
    rename_i k
    obtain ⟨W, hW⟩ := Option.isSome_iff_exists.1 h3
    cases hv
    have : ARep m' V w (.slice none 0 ((⟨none, 0, W, 0⟩ : KI).cap - 0)) (.ref k 0 0) := .ref (by rw [hm, hW]) (by simp) (fun hlt => by simp at hlt)
    simpa using this
  · obtain ⟨h1, h2, rfl, rfl⟩ := hr
    cases hv with | ref e1 e2 e3 => exact .ref (by rw [hk _ h1, h2]; exact e1) e2 e3
  · obtain ⟨h1, h2, rfl, rfl, rfl⟩ := hr
    cases hv with | cref e1 e2 e3 e4 => exact .cref (by rw [hk _ h1, h2]; exact e1) e2 e3 e4
  · obtain ⟨h1, h2, rfl, rfl⟩ := hr
    cases hv with | ptr e1 e2 => exact .ptr (by rw [hk _ h1, h2]; exact e1) e2
  · obtain ⟨rfl, rfl⟩ := hr
    cases hv with | pb f e1 e2 e3 => exact .pb f e1 e2 e3
  · obtain ⟨rfl, rfl, h3⟩ := hr
    rename_i f ks _ _
    cases hv with | fn hs he =>
    refine .fn (by simpa using hs) fun i k hi => ?_
    obtain ⟨x, b, a1, a2, a3⟩ := he i (rho rn k) (by simp [hi])
    exact ⟨x, b, by rw [hk _ (h3 k (List.mem_of_getElem? hi))]; exact a1, a2, a3⟩
  · subst hr; cases hv; exact .p (.nil _ _)
  · rename_i l k r n
    obtain ⟨W, L, h1, h2, rfl⟩ := hr
    refine .p ?_
    have hrows : rowsOf h (.c (.ref k r n)) = some ((L.drop r).take n, [k]) := by simp only [rowsOf, h1, if_pos h2]
    have := rowsOf_lend (lent := [k]) M (.c hv) hrows (fun _ h => h)
    refine this.mono (fun b hb => ?_) (kept_refl _ _)
    rcases hb with hb | hb
    · exact hb
    · simp only [rbs, List.filterMap_cons, List.filterMap_nil] at hb
      split at hb
      · cases hb
      · rename_i r' hr'
        simp only [List.mem_singleton] at hb
        subst hb
        simp only [Option.bind_eq_some_iff] at hr'
        obtain ⟨i, e1, e2⟩ := hr'
        exact M.imm k _ i _ h1 rfl e1 e2
  · exact hr.elim

theorem rl_sound {V : Nat → Prop} {m m' : KM} {h : Key → Option Blk} {rn : List (Key × Key)} {vi : List (Key × Nat)} {w : World} {U : Nat → Prop} (M : MRel G V0 L0 w0 U V m h w)
    (hm : ∀ k, m' k = match virt vi k with | some W => some ⟨none, 0, W, 0⟩ | none => m (rho rn k)) : ∀ {vs : List Value} {l l' : List AV}, RL h rn vi l l' → LRep m V w vs l' → LRep m' V w vs l
  | [], l, l', hr, hv => by
    cases hv
    cases l with
    | nil => exact .nil
    | cons a l => simp [RL] at hr
  | v :: vs, l, l', hr, hv => by
    cases hv with | cons h1 h2 =>
    cases l with
    | nil => simp [RL] at hr
    | cons a l =>
      obtain ⟨e1, e2⟩ := hr
      exact .cons (ra_sound M hm e1 h1) (rl_sound M hm e2 h2)

theorem rt_sound {V : Nat → Prop} {m m' : KM} {h : Key → Option Blk} {rn : List (Key × Key)} {vi : List (Key × Nat)} {w : World} {U : Nat → Prop} (M : MRel G V0 L0 w0 U V m h w)
    (hm : ∀ k, m' k = match virt vi k with | some W => some ⟨none, 0, W, 0⟩ | none => m (rho rn k)) {v : Value} {x y : TV} (hr : RT h rn vi x y) (hv : TRep m V w v y) : TRep m' V w v x := by
  unfold RT at hr
  split at hr
  · exact .any _
  · cases hv with | c hv => exact .c (ra_sound M hm hr hv)
  · cases hv with | agg hv => exact .agg (rl_sound M hm hr hv)
  · obtain ⟨rfl, rfl⟩ := hr
    cases hv with | tup q1 q2 => exact .tup q1 (by simp)
  · exact hr.elim

theorem Rel.ren {A : St} {a : Act} {w : World} (h : Rel G V0 L0 w0 m0 n (· < S.gen) S a w) (hl : Ren A S) : Rel G V0 L0 w0 m0 n (· < A.gen) A a w := by
  obtain ⟨h1, h2, V, m, x0, M, E⟩ := h
  obtain ⟨rn, vi, henv, hheap, hinj, hnew, hgen⟩ := hl.ex
  let m' : KM := fun k => match virt vi k with | some W => some ⟨none, 0, W, 0⟩ | none => m (rho rn k)
  have hm : ∀ k, m' k = match virt vi k with | some W => some ⟨none, 0, W, 0⟩ | none => m (rho rn k) := fun _ => rfl
  have hn : ∀ k, virt vi k = none → m' k = m (rho rn k) := fun k hv => by rw [hm, hv]
  have hext : Ext m m' := fun k i e => by
    have hg := M.gen k i e
    have e1 : virt vi k = none := by
      cases hv : virt vi k with
      | none => rfl
      | some W => exact absurd (hnew k (.inl (by rw [hv]; simp))).1 (by show ¬ _; have : k.g < S.gen := hg; omega)
    have e2 : rho rn k = k := by
      by_cases hr : rho rn k = k
      · exact hr
      · exact absurd (hnew k (.inr hr)).1 (by have : k.g < S.gen := hg; omega)
    rw [hn k e1, e2]; exact e
  have hb : ∀ k b i r, A.heap k = some b → m' k = some i → i.rb = some r → virt vi k = none ∧ m (rho rn k) = some i ∧ ∃ b', S.heap (rho rn k) = some b' ∧ b.mu = b'.mu := by
    intro k b i r e1 e2 e3
    rcases hheap k b e1 with ⟨W, e4, _⟩ | ⟨e4, b', e5, e6⟩
    · rw [hm, e4] at e2; cases e2; cases e3
    · refine ⟨e4, by rw [hn k e4] at e2; exact e2, b', e5, ?_⟩
      unfold RB at e6
      split at e6
      · exact e6.1
      · exact e6.1
      · exact e6.elim
  refine ⟨h1, h2, V, m', fun k i e => hext _ _ (x0 k i e), ⟨fun k b e => ?_, ?_, ?_, ?_, ?_, M.vsz, M.v0, M.glob, M.frame⟩, fun t => ?_⟩
  · rcases hheap k b e with ⟨W, e1, rfl⟩ | ⟨e1, b', e2, e3⟩
    · exact ⟨⟨none, 0, W, 0⟩, by rw [hm, e1], .nil rfl rfl rfl⟩
    · obtain ⟨i, hi, hrep⟩ := M.heap _ _ e2
      refine ⟨i, by rw [hn k e1]; exact hi, ?_⟩
      unfold RB at e3
      split at e3
      · obtain ⟨rfl, e4⟩ := e3
        cases hrep with | box q0 q1 q2 q3 => exact .box q0 q1 q2 (rl_sound M hm e4 q3)
      · obtain ⟨rfl, rfl, rfl⟩ := e3
        cases hrep with
        | nil q1 q2 q3 => exact .nil q1 q2 q3
        | arr q1 q2 q3 q4 q5 q6 => exact .arr q1 q2 q3 q4 q5 q6
      · exact e3.elim
  · intro k k' b b' i i' r e1 e2 m1 m2 q1 q2 r1 r2
    obtain ⟨a1, a2, c1, a3, a4⟩ := hb k b i r e1 q1 r1
    obtain ⟨b1, b2, c2, b3, b4⟩ := hb k' b' i' r e2 q2 r2
    exact hinj k k' (by rw [e1]; simp) (by rw [e2]; simp) a1 b1 (M.inj _ _ _ _ i i' r a3 b3 (by rw [← a4]; exact m1) (by rw [← b4]; exact m2) a2 b2 r1 r2)
  · intro k b i r e1 m1 q1 r1
    obtain ⟨a1, a2, c1, a3, a4⟩ := hb k b i r e1 q1 r1
    exact M.mine _ _ i r a3 (by rw [← a4]; exact m1) a2 r1
  · intro k b i r e1 m1 q1 r1
    obtain ⟨a1, a2, c1, a3, a4⟩ := hb k b i r e1 q1 r1
    exact M.imm _ _ i r a3 (by rw [← a4]; exact m1) a2 r1
  · intro k i e
    show k.g < A.gen
    cases hv : virt vi k with
    | some W => exact (hnew k (.inl (by rw [hv]; simp))).2
    | none =>
      by_cases hr : rho rn k = k
      · rw [hn k hv, hr] at e
        have : k.g < S.gen := M.gen k i e
        omega
      · exact (hnew k (.inr hr)).2
  · exact rt_sound M hm (henv t) (E t)

theorem Rel.frz {k : Key} {b : Blk} {a : Act} {w : World} (h : Rel G V0 L0 w0 m0 n (· < S.gen) S a w) (hk : S.heap k = some b) :
    Rel G V0 L0 w0 m0 n (· < S.gen) { S with heap := updH S.heap k (some b.still) } a w := by
  obtain ⟨h1, h2, V, m, x0, M, E⟩ := h
  exact ⟨h1, h2, lentV V m [k], m, x0, M.frz hk, fun t => (E t).mono (fun _ _ h => h) (lentV_left V m [k]) (kept_refl _ _)⟩

theorem bs_sound (hC : CapsOk G m0) (hm : P.follows .mixedOrders = true) {c : Code} {e : Exit} {S' : St} (hb : BS P G c S e S') : slotsOk n c = true → ∀ {Q : Exit → Act → World → Prop} {a w}, Rel G V0 L0 w0 m0 n (· < S.gen) S a w →
    (∀ a' w', Rel G V0 L0 w0 m0 n (· < S'.gen) S' a' w' → Q e a' w') → c.wp P Q a w ∧ ∀ body, c = .loop body → wpIn P body Q a w := by
  induction hb with
  | skip => intro _ Q a w h k; exact ⟨wp_skip (k a w h), by simp⟩
  | label => intro _ Q a w h k; exact ⟨wp_label (k a w h), by simp⟩
  | ret => intro _ Q a w h k; exact ⟨wp_ret (k a w h), by simp⟩
  | exit => intro _ Q a w h k; exact ⟨wp_exit (k a w h), by simp⟩
  | seqN _ _ ih ih' =>
    intro hs Q a w h k
    simp only [slotsOk, Bool.and_eq_true] at hs
    exact ⟨wp_seq (ih hs.1 h fun a' w' h' => by rw [then_normal]; exact (ih' hs.2 h' k).1).1, by simp⟩
  | seqX _ he ih =>
    intro hs Q a w h k
    simp only [slotsOk, Bool.and_eq_true] at hs
    exact ⟨wp_seq (ih hs.1 h fun a' w' h' => by rw [then_ne he]; exact k a' w' h').1, by simp⟩
  | @cond c x y S t e S' hc _ ih =>
    intro hs Q a w h k
    simp only [slotsOk, Bool.and_eq_true] at hs
    obtain ⟨_, _, V, m, _, M, E⟩ := id h
    have hev := ev_rep E M.glob c
    rw [hc] at hev
    exact ⟨wp_cond hev.bool_eq (ih (by cases t; exact hs.2; exact hs.1) h k).1, by simp⟩
  | @block id x S e S' _ ih =>
    intro hs Q a w h k
    refine ⟨wp_block (ih hs h fun a' w' h' => ?_).1, by simp⟩
    have := k a' w' h'
    cases e with
    | exit i => simp only [Exit.inBlock, outOf] at this ⊢; split <;> simp_all
    | _ => exact this
  | loopN _ _ ih ih' =>
    intro hs Q a w h k
    have : wpIn P _ Q a w := wpIn_round (ih hs h fun a' w' h' => by rw [then_normal]; exact (ih' hs h' k).2 _ rfl).1
    exact ⟨wp_of_in this, fun body hb => by cases hb; exact this⟩
  | loopX _ he ih =>
    intro hs Q a w h k
    have : wpIn P _ Q a w := wpIn_round (ih hs h fun a' w' h' => by rw [then_ne he]; exact k a' w' h').1
    exact ⟨wp_of_in this, fun body hb => by cases hb; exact this⟩
  | @scope x S e S' _ he ih =>
    intro hs Q a w h k
    refine ⟨wp_scope_straight (ih hs h fun a' w' h' => ?_).1, by simp⟩
    cases e with
    | goto l => exact absurd rfl (he l)
    | _ => exact k a' w' h'
  | @region id S ops fs S' draw hr hl hd =>
    intro hs Q a w h k
    refine ⟨region_sound hC hm hr hd (fun o ho t ht => ?_) h fun a' w' h' => k a' w' (h'.used fun x hx => ?_), by simp⟩
    · simp only [slotsOk, List.all_eq_true] at hs
      have := hs o ho
      rw [ht] at this
      simpa using this
    · show x < S.gen + 1000
      omega
  | weak _ hl ih =>
    intro hs Q a w h k
    exact ih hs (h.le hl) k
  | ren _ hl ih =>
    intro hs Q a w h k
    exact ih hs (h.ren hl) k
  | frz k b hk _ ih =>
    intro hs Q a w h k'
    exact ih hs (h.frz hk) k'

end
end Go.Sh
end
section
namespace Go.Sh

section
variable {P : Program} {G : Glob} {V0 : Nat → Prop} {L0 : List Nat} {w0 : World} {V : Nat → Prop} {w : World}

/-- What holds while the parameters are taken in. -/
structure Begun (G : Glob) (V0 : Nat → Prop) (L0 : List Nat) (w0 : World) (V : Nat → Prop) (w : World) (m : KM) (S : St) (i : Nat) (F : List Nat) : Prop where
  rel : MRel G V0 L0 w0 (· < 2 * i) V m S.heap w
  free : Free V L0 w0 m S.heap F
  gen : S.gen = 1000

/-- The variables behind the parameters, with their keys. -/
def ioKeys : Nat → List BV → List (Key × Option Nat)
  | _, [] => []
  | i, .io _ :: r => (⟨1024 * i, 2 * i + 1⟩, none) :: ioKeys (i + 1) r
  | i, .els _ l :: r => (⟨1024 * i + 1, 2 * i⟩, some l.length) :: ioKeys (i + 1) r
  | i, _ :: r => ioKeys (i + 1) r

theorem ioKeys_cons (i : Nat) (b : BV) (r : List BV) : ioKeys i (b :: r) = ioKeys i [b] ++ ioKeys (i + 1) r := by
  cases b <;> simp [ioKeys]

theorem arg_sound {v : Value} {b : BV} {L F : List Nat} {i : Nat} {m : KM} {S : St} (hb : BRep V w v b L) (B : Begun G V0 L0 w0 V w m S i (L ++ F)) :
    ∃ m', Ext m m' ∧ TRep m' V w v (argT i b).1 ∧ Begun G V0 L0 w0 V w m' ⟨put S.env (some i) (argT i b).1, putH S.heap (argT i b).2, S.gen⟩ (i + 1) F ∧
      IoVs m' (ioKeys i [b]) (ioVals [b] [v]) := by
  have hun : ∀ s, Unused m (2 * i) s := fun s s' _ => by
    cases e : m ⟨s', 2 * i⟩ with
    | none => rfl
    | some k => exact absurd (B.rel.gen _ _ e) (Nat.lt_irrefl _)
  have T : Taken G V0 L0 w0 (· < 2 * i + 1) V w (2 * i) m S.heap (1024 * i + 1) (L ++ F) :=
    ⟨B.rel.used fun g hg => Nat.lt_succ_of_lt hg, B.free, hun _⟩
  have hu : (· < 2 * i + 1) (2 * i) := Nat.lt_succ_self _
  by_cases hio : ∃ l, b = .io l
  · obtain ⟨l, rfl⟩ := hio
    cases hb with | @io r arr elem _ L3 hh hl =>
    have T0 : Taken G V0 L0 w0 (· < 2 * i + 1) V w (2 * i) m S.heap (1024 * i + 1) (L3 ++ (r :: F)) := by
      refine ⟨T.rel, ⟨?_, fun b hb => T.free.2 b (by simp at hb ⊢; rcases hb with h1 | h1 | h1 <;> simp [h1])⟩, T.unused⟩
      have := T.free.1
      simp only [List.cons_append] at this
      exact (List.perm_middle.symm.nodup_iff).1 this
    obtain ⟨m1, x1, r1, T1⟩ := getL_sound (U := (· < 2 * i + 1)) hu hl T0
    let k : Key := ⟨1024 * i, 2 * i + 1⟩
    let ki : KI := ⟨some r, 0, 0, 0⟩
    have hk : m1 k = none := by
      cases e : m1 k with
      | none => rfl
      | some j => exact absurd (T1.rel.gen _ _ e) (Nat.lt_irrefl _)
    have hx := ext_add (i := ki) hk
    have hf := T1.free.2 r (by simp)
    obtain ⟨M2, _⟩ := (T1.rel.used (U' := (· < 2 * (i + 1))) fun g hg => by omega).adopt (k := k) (i := ki) (blk := .box true (getL (2 * i) (1024 * i + 1) l).1) (by simp [k]; omega) hk
      (.box rfl rfl hh (r1.mono hx (fun _ h => h) (kept_refl _ _))) rfl (fun r' hr' => by simp [ki] at hr'; subst hr'; exact hf)
    have F2 := (T1.free.right (F := [r])).add (k := k) (i := ki) (blk := .box true (getL (2 * i) (1024 * i + 1) l).1) (.inl hk) (fun r' hr' => by
      simp [ki] at hr'; subst hr'
      exact (List.nodup_cons.1 T1.free.1).1)
    have mk : addK m1 k ki k = some ki := by simp [addK]
    refine ⟨addK m1 k ki, fun j x e => hx _ _ (x1 _ _ e), ?_, ⟨?_, ?_, B.gen⟩, ⟨⟨ki, r, mk, rfl, rfl, rfl⟩, trivial⟩⟩
    · have : ARep (addK m1 k ki) V w (.pointer (some ⟨r, ki.base + 0 * ki.w + 0, none⟩)) (.ptr k 0 0) := .ptr mk rfl
      simpa [argT, ki] using TRep.c this
    · simp only [argT]
      rw [putH_append]
      simpa [putH] using M2
    · simp only [argT]
      rw [putH_append]
      simpa [putH] using F2
  · have e : argT i b = ((getT (2 * i) (1024 * i + 1) b).1, (getT (2 * i) (1024 * i + 1) b).2.1) := by
      cases b <;> first | rfl | exact absurd ⟨_, rfl⟩ hio
    obtain ⟨m1, x1, r1, T1⟩ := getT_sound (U := (· < 2 * i + 1)) hu hb T
    rw [e]
    refine ⟨m1, x1, r1, ⟨T1.rel.used fun g hg => by omega, T1.free, B.gen⟩, ?_⟩
    cases b with
    | io l => exact absurd ⟨_, rfl⟩ hio
    | els W l =>
      simp only [getT] at r1
      generalize hvv : v = vv at r1
      cases r1 with | c r1 => cases r1 with
      | @ref _ ki a _ _ hm hr ha =>
        simp only [ioKeys, ioVals]
        refine ⟨⟨ki, a, hm, by omega, fun h0 => by simpa using ha h0, by simp⟩, trivial⟩
    | _ => simp [ioKeys, ioVals, IoVs]

theorem args_sound {vs : List Value} {bs : List BV} {L : List Nat} (hb : BsRep V w vs bs L) : ∀ {i : Nat} {m : KM} {S : St} {F : List Nat}, Begun G V0 L0 w0 V w m S i (L ++ F) →
    ∃ m', Ext m m' ∧ Begun G V0 L0 w0 V w m' (argsS S i bs) (i + bs.length) F ∧ (∀ j v, vs[j]? = some v → TRep m' V w v ((argsS S i bs).env (i + j))) ∧
      (∀ t, (t < i ∨ i + bs.length ≤ t) → (argsS S i bs).env t = S.env t) ∧ vs.length = bs.length ∧
      IoVs m' (ioKeys i bs) (ioVals bs vs) := by
  match bs with
  | [] =>
    cases hb
    intro i m S F B
    exact ⟨m, fun _ _ h => h, B, by simp, fun _ _ => rfl, rfl, by simp [ioKeys, ioVals, IoVs]⟩
  | b :: bs =>
    cases hb with | @cons v _ L1 vs _ L2 hc ht =>
    intro i m S F B
    rw [List.append_assoc] at B
    obtain ⟨m1, x1, r1, B1, q1⟩ := arg_sound hc B
    obtain ⟨m2, x2, B2, r2, r3, r4, r5⟩ := args_sound ht B1
    have hl : i + 1 + bs.length = i + (b :: bs).length := by simp; omega
    rw [hl] at B2
    refine ⟨m2, fun k j e => x2 _ _ (x1 _ _ e), B2, fun j u hu => ?_, fun t ht' => ?_, by simp [r4], ?_⟩
    · cases j with
      | zero =>
        simp at hu; subst hu
        have := r3 i (.inl (Nat.lt_succ_self _))
        simp only [argsS, Nat.add_zero]
        rw [this]
        simp only [put, upd, if_true]
        exact r1.mono x2 (fun _ h => h) (kept_refl _ _)
      | succ j =>
        have := r2 j u (by simpa using hu)
        simp only [argsS]
        rwa [show i + (j + 1) = i + 1 + j by omega]
    · simp only [argsS]
      rw [r3 t (by simp only [List.length_cons] at ht'; omega)]
      simp only [put, upd]
      rw [if_neg (by simp only [List.length_cons] at ht'; omega)]
    · rw [ioKeys_cons, ioVals_cons]
      exact (q1.ext x2).append r5

theorem argsS_gen : ∀ (bs : List BV) (S : St) (i : Nat), (argsS S i bs).gen = S.gen
  | [], _, _ => rfl
  | b :: bs, S, i => by simp only [argsS]; rw [argsS_gen]

/-- The beginning. -/
theorem start_sound {vals : List Value} {args : List BV} {L : List Nat} {n : Nat} (hb : BsRep V w vals args L) (hnd : L.Nodup) (hL : ∀ b ∈ L, ¬ V b) (hV : ∀ b, V b → b < w.heap.size) (hg : GlobRep V w G)
    (hn : args.length ≤ n) (h500 : args.length ≤ 500) :
    ∃ m, MRel G V L w (· < (start args).gen) V m (start args).heap w ∧ ERel m V w (vals.toArray ++ Array.replicate (n - vals.toArray.size) undef) (start args).env ∧
      (vals.toArray ++ Array.replicate (n - vals.toArray.size) undef).size = n ∧
      IoVs m (ioKeys 0 args) (ioVals args vals) ∧ (∀ j v, vals[j]? = some v → TRep m V w v ((start args).env j)) := by
  let S0 : St := ⟨fun _ => .tup [], fun _ => none, 1000⟩
  have M0 : MRel G V L w (· < 2 * 0) V (fun _ => none) S0.heap w :=
    ⟨by simp [S0], by simp [S0], by simp [S0], by simp [S0], by simp, fun b h => ⟨hV b h, .inl h⟩, fun _ h => h, hg, ⟨rfl, rfl, rfl, Nat.le_refl _, fun _ _ _ => rfl⟩⟩
  have B0 : Begun G V L w V w (fun _ => none) S0 0 (L ++ []) := ⟨M0, ⟨by simpa using hnd, fun b hb => ⟨hL b (by simpa using hb), .inl (by simpa using hb), by simp [S0]⟩⟩, rfl⟩
  obtain ⟨m, _, B, r1, r2, r3, r4⟩ := args_sound hb B0
  have hgen : (start args).gen = 1000 := argsS_gen args S0 0
  refine ⟨m, B.rel.used fun g hg => ?_, fun t => ?_, ?_, r4, fun j v hj => by have := r1 j v hj; rwa [Nat.zero_add] at this⟩
  · show g < (start args).gen
    rw [hgen]
    have : g < 2 * (0 + args.length) := hg
    omega
  · rw [Array.getD_eq_getD_getElem?, Array.getElem?_append]
    split
    · rename_i hlt
      have hlt' : t < vals.length := by simpa using hlt
      have e : vals[t]? = some vals[t] := List.getElem?_eq_getElem hlt'
      have := r1 t _ e
      rw [List.getElem?_toArray, e]
      rw [Nat.zero_add] at this
      exact this
    · rename_i hge
      have hge' : vals.length ≤ t := by simpa using hge
      have e : (start args).env t = .tup [] := r2 t (.inr (by omega))
      rw [e]
      have : (Array.replicate (n - vals.toArray.size) undef)[t - vals.toArray.size]?.getD undef = undef := by
        rw [Array.getElem?_replicate]
        split <;> rfl
      rw [this]
      exact .tup (by simp) (by simp)
  · simp only [Array.size_append, List.size_toArray, Array.size_replicate]
    omega

end
end Go.Sh
end
section
namespace Go.Sh

section
variable {P : Program} {G : Glob} {V0 : Nat → Prop} {L0 : List Nat} {w0 : World} {U V : Nat → Prop} {m : KM} {h : Key → Option Blk} {w : World}

def Imm (h : Key → Option Blk) (ks : List Key) : Prop := ∀ k ∈ ks, ∃ b, h k = some b ∧ b.mu = false

theorem imm_lent (M : MRel G V0 L0 w0 U V m h w) {ks : List Key} (hi : Imm h ks) : ∀ b, lentV V m ks b → V b := by
  rintro b (hb | hb)
  · exact hb
  · simp only [rbs, List.mem_filterMap, Option.bind_eq_some_iff] at hb
    obtain ⟨k, hk, i, hi', hib⟩ := hb
    obtain ⟨bl, hbl, hmu⟩ := hi k hk
    exact M.imm k bl i b hbl hmu hi' hib

theorem outC_give {a : AV} {b ks} (ho : outC h a = some (b, ks)) : ∃ lent, giveIo h a = some (b, ⟨lent, ks, []⟩) ∧ Imm h lent := by
  cases a with
  | p v => simp [outC] at ho; obtain ⟨rfl, rfl⟩ := ho; exact ⟨[], rfl, fun k hk => by cases hk⟩
  | nilS => simp [outC] at ho; obtain ⟨rfl, rfl⟩ := ho; exact ⟨[], rfl, fun k hk => by cases hk⟩
  | ref k r n =>
    simp only [outC] at ho
    split at ho
    · rename_i hh
      split at ho
      · rename_i hc
        cases ho
        exact ⟨[], by simp only [giveIo, hh, if_pos hc], fun k hk => by cases hk⟩
      · cases ho
    · rename_i hh
      split at ho
      · rename_i hc
        cases ho
        refine ⟨[k], by simp only [giveIo, hh, if_pos hc], fun k' hk' => ?_⟩
        simp at hk'; subst hk'
        exact ⟨_, hh, rfl⟩
      · cases ho
    · cases ho
  | _ => simp [outC] at ho

theorem imm_append {a b : List Key} (ha : Imm h a) (hb : Imm h b) : Imm h (a ++ b) := fun k hk => (List.mem_append.1 hk).elim (ha k) (hb k)

theorem outL_give : ∀ {l : List AV} {bs ks}, outL h l = some (bs, ks) → ∃ lent, giveL (giveIo h) l = some (bs, ⟨lent, ks, []⟩) ∧ Imm h lent
  | [], bs, ks, ho => by simp [outL] at ho; obtain ⟨rfl, rfl⟩ := ho; exact ⟨[], rfl, fun k hk => by cases hk⟩
  | a :: l, bs, ks, ho => by
    simp only [outL, Option.bind_eq_some_iff, Option.map_eq_some_iff, Prod.mk.injEq] at ho
    obtain ⟨⟨b, k1⟩, hb, ⟨bs', k2⟩, hbs, rfl, rfl⟩ := ho
    obtain ⟨l1, g1, i1⟩ := outC_give hb
    obtain ⟨l2, g2, i2⟩ := outL_give hbs
    exact ⟨l1 ++ l2, by simp [giveL, g1, g2, Took.add], imm_append i1 i2⟩

theorem outC_sound (M : MRel G V0 L0 w0 U V m h w) {v : Value} {a : AV} {b : BC} {ks} (hv : ARep m V w v a) (ho : outC h a = some (b, ks)) : ∃ L, BCRep V w v b L ∧ L.Sublist (rbs m ks) ∧ Mine h ks := by
  obtain ⟨lent, g, hi⟩ := outC_give ho
  obtain ⟨L, r1, r2, r3, _⟩ := giveIo_sound M hv g (fun _ h => h)
  exact ⟨L, r1.mono (imm_lent M hi), r2, r3⟩

theorem outL_sound (M : MRel G V0 L0 w0 U V m h w) {vs : List Value} {l : List AV} {bs : List BC} {ks} (hv : LRep m V w vs l) (ho : outL h l = some (bs, ks)) :
    ∃ L, BLRep V w vs bs L ∧ L.Sublist (rbs m ks) ∧ Mine h ks := by
  obtain ⟨lent, g, hi⟩ := outL_give ho
  obtain ⟨L, r1, r2, r3, _⟩ := giveL_sound M (giveIo h) (fun v a b t e1 e2 e3 => giveIo_sound M e1 e2 e3) hv g (fun _ h => h)
  exact ⟨L, r1.mono (imm_lent M hi), r2, r3⟩

theorem outT_sound (M : MRel G V0 L0 w0 U V m h w) {v : Value} {x : TV} {b : BV} {ks} (hv : TRep m V w v x) (ho : outT h x = some (b, ks)) : ∃ L, BRep V w v b L ∧ L.Sublist (rbs m ks) ∧ Mine h ks := by
  unfold outT at ho
  split at ho
  · rename_i k
    split at ho
    · rename_i l hh
      simp only [Option.map_eq_some_iff, Prod.mk.injEq] at ho
      obtain ⟨⟨bs, k1⟩, hb, rfl, rfl⟩ := ho
      cases hv with | c hv => cases hv with
      | @ptr _ ki r _ _ hm hr =>
        obtain ⟨ki', hm', hrep⟩ := M.heap _ _ hh
        rw [hm] at hm'; cases hm'
        cases hrep with | @box _ _ r' arr elem h0 hb' hh' hl =>
        rw [hr] at hb'; cases hb'
        obtain ⟨L, r1, r2, r3⟩ := outL_sound M hl hb
        refine ⟨r :: L, by have := BRep.io (V := V) r arr elem hh' r1; simpa [h0] using this, ?_, fun k' hk' => ?_⟩
        · have e : rbs m (k :: k1) = r :: rbs m k1 := by simp [rbs, hm, hr]
          rw [e]; exact r2.cons_cons r
        · rcases List.mem_cons.1 hk' with rfl | hk'
          · exact ⟨_, hh, rfl⟩
          · exact r3 k' hk'
    · cases ho
  · simp only [Option.map_eq_some_iff, Prod.mk.injEq] at ho
    obtain ⟨⟨bc, k1⟩, hb, rfl, rfl⟩ := ho
    cases hv with | c hv =>
    obtain ⟨L, r1, r2, r3⟩ := outC_sound M hv hb
    exact ⟨L, .cell r1, r2, r3⟩
  · simp only [Option.map_eq_some_iff, Prod.mk.injEq] at ho
    obtain ⟨⟨bc, k1⟩, hb, rfl, rfl⟩ := ho
    cases hv with | agg hv =>
    obtain ⟨L, r1, r2, r3⟩ := outL_sound M hv hb
    exact ⟨L, .agg r1, r2, r3⟩
  · cases ho

inductive TsR (m : KM) (V : Nat → Prop) (w : World) : List Value → List TV → Prop where
  | nil : TsR m V w [] []
  | cons {v t vs ts} (h : TRep m V w v t) (r : TsR m V w vs ts) : TsR m V w (v :: vs) (t :: ts)

theorem outTs_sound (M : MRel G V0 L0 w0 U V m h w) {vs : List Value} {xs : List TV} (hv : TsR m V w vs xs) : ∀ {bs : List BV} {ks}, outTs h xs = some (bs, ks) → ∃ L, BsRep V w vs bs L ∧ L.Sublist (rbs m ks) ∧ Mine h ks := by
  induction hv with
  | nil => intro bs ks ho; simp [outTs] at ho; obtain ⟨rfl, rfl⟩ := ho; exact ⟨[], .nil, List.nil_sublist _, mine_nil⟩
  | cons hc _ ih =>
    intro bs ks ho
    simp only [outTs, Option.bind_eq_some_iff, Option.map_eq_some_iff, Prod.mk.injEq] at ho
    obtain ⟨⟨b, k1⟩, hb, ⟨bs', k2⟩, hbs, rfl, rfl⟩ := ho
    obtain ⟨L1, r1, r2, r3⟩ := outT_sound M hc hb
    obtain ⟨L2, q1, q2, q3⟩ := ih hbs
    exact ⟨L1 ++ L2, .cons r1 q1, by rw [rbs_append]; exact r2.append q2, r3.append q3⟩

/-! The result variables. -/

theorem cell_run (M : MRel G V0 L0 w0 U V m h w) {t : TypeId} {v0 : Value} {tx : TV} {d : Dl} (hx : TRep m V w v0 tx) (hd : loadV (ti P t) h tx = some d) :
    ∃ a v, v0 = .pointer (some a) ∧ (loadVar t a).run P w = .ok v w ∧ TRep m V w v d.v := by
  unfold loadV at hd
  split at hd
  · rename_i k r c
    cases hx with | c hx => cases hx with
    | @ptr _ i b _ _ hm hb =>
      split at hd
      · rename_i mu l hk
        split at hd
        · rename_i hr0
          subst hr0
          simp only [Option.map_eq_some_iff] at hd
          obtain ⟨tv, htv, rfl⟩ := hd
          obtain ⟨i', hm', hrep⟩ := M.heap _ _ hk
          rw [hm] at hm'; cases hm'
          cases hrep with
          | @box _ _ b' arr elem h0 hb' hh hl =>
            rw [hb] at hb'; cases hb'
            obtain ⟨v, hv1, hv2⟩ := loadVar_run (b := b) (o := 0) htv hl (fun j v hj => by rw [cell_of hh]; simpa using hj)
            refine ⟨_, v, rfl, ?_, hv2⟩
            simpa [h0] using hv1
        · cases hd
      · rename_i mu W l hk
        simp only [Option.bind_eq_some_iff, Option.map_eq_some_iff] at hd
        obtain ⟨row, hrow, tv, htv, rfl⟩ := hd
        obtain ⟨i', hm', hrep⟩ := M.heap _ _ hk
        rw [hm] at hm'; cases hm'
        cases hrep with
        | nil => simp at hrow
        | @arr _ _ _ b' arr elem hw' hb' hh hs hc hr =>
          rw [hb] at hb'; cases hb'
          obtain ⟨_, hcr⟩ := hr r row hrow
          obtain ⟨vs, h1, h2⟩ := hcr.list
          obtain ⟨v, hv1, hv2⟩ := loadVar_run (b := b) (o := i.base + r * W) htv (h1.up (m := m)) (fun j v hj => by rw [cell_of hh]; exact h2 j v hj)
          refine ⟨_, v, rfl, ?_, hv2⟩
          rw [hw']
          exact hv1
      · cases hd
  · cases hx with | c hx => cases hx with
    | @pb b o' _ _ f hV h1 h2 =>
      simp only [Option.map_eq_some_iff] at hd
      obtain ⟨tv, htv, rfl⟩ := hd
      obtain ⟨vs, g1, g2⟩ := cells_list h1 h2
      obtain ⟨v, hv1, hv2⟩ := loadVar_run (b := b) (o := o') htv (g1.up (m := m)) g2
      exact ⟨_, v, rfl, hv1, hv2⟩
  · cases hd

/-- The machine's reading of a result variable. -/
def resRun (tmps : Array Value) : ResultVar → Sem Value
  | .tmp t => pure (tmps.getD t undef)
  | .cell a t => do loadVar t (← asAddr (tmps.getD a undef))

theorem resV_sound (M : MRel G V0 L0 w0 U V m h w) {tmps : Array Value} {e : Nat → TV} (E : ERel m V w tmps e) {r : ResultVar} {t : TV} (hr : resV P e h r = some t) :
    ∃ v, (resRun tmps r).run P w = .ok v w ∧ TRep m V w v t := by
  cases r with
  | tmp x => simp [resV] at hr; subst hr; exact ⟨_, rfl, E x⟩
  | cell a ty =>
    simp only [resV, Option.map_eq_some_iff] at hr
    obtain ⟨d, hd, rfl⟩ := hr
    obtain ⟨ad, v, h1, h2, h3⟩ := cell_run M (E a) hd
    exact ⟨v, by simp [resRun, h1, asAddr, h2], h3⟩

theorem resVs_sound (M : MRel G V0 L0 w0 U V m h w) {tmps : Array Value} {e : Nat → TV} (E : ERel m V w tmps e) : ∀ {rs : List ResultVar} {ts : List TV}, resVs P e h rs = some ts →
    ∃ vs, (rs.mapM (resRun tmps)).run P w = .ok vs w ∧ TsR m V w vs ts
  | [], ts, hr => by simp [resVs] at hr; subst hr; exact ⟨[], rfl, .nil⟩
  | r :: rs, ts, hr => by
    simp only [resVs, Option.bind_eq_some_iff, Option.map_eq_some_iff] at hr
    obtain ⟨t, ht, ts', hts, rfl⟩ := hr
    obtain ⟨v, h1, h2⟩ := resV_sound M E ht
    obtain ⟨vs, q1, q2⟩ := resVs_sound M E hts
    exact ⟨v :: vs, by simp [List.mapM_cons, h1, q1], .cons h2 q2⟩

theorem results_run {fn : Func} {rs : List ResultVar} (hr : fn.results = rs.toArray) {tmps : Array Value} {vs : List Value} (h : (rs.mapM (resRun tmps)).run P w = .ok vs w) :
    (results fn tmps).run P w = .ok (if h : vs.toArray.size = 1 then vs.toArray[0] else .tuple vs.toArray) w := by
  have e : results fn tmps = (do let vs ← fn.results.mapM (resRun tmps); pure (if h : vs.size = 1 then vs[0] else .tuple vs)) := rfl
  rw [e, hr, List.mapM_toArray]
  simp [h]

end
end Go.Sh
end
section
namespace Go.Sh

section
variable {P : Program} {G : Glob} {V0 : Nat → Prop} {L0 : List Nat} {w0 : World} {U V : Nat → Prop} {m : KM} {h : Key → Option Blk} {w : World}

theorem outIos_sound (M : MRel G V0 L0 w0 U V m h w) : ∀ {args : List BV} {vals : List Value} {i : Nat} {ios : List BV} {ks}, outIos h i args = some (ios, ks) → IoVs m (ioKeys i args) (ioVals args vals) → vals.length = args.length →
    ∃ L, BsRep V w (ioVals args vals) ios L ∧ L.Sublist (rbs m ks) ∧ Mine h ks
  | [], vals, i, ios, ks, ho, _, _ => by simp [outIos] at ho; obtain ⟨rfl, rfl⟩ := ho; exact ⟨[], by simpa [ioVals] using BsRep.nil, List.nil_sublist _, mine_nil⟩
  | b :: args, [], i, ios, ks, ho, hk, hl => by simp at hl
  | b :: args, v :: vals, i, ios, ks, ho, hk, hl => by
    rw [ioKeys_cons, ioVals_cons] at hk
    rw [ioVals_cons]
    by_cases hio : (∃ l, b = .io l) ∨ ∃ W l, b = .els W l
    · rcases hio with ⟨l0, rfl⟩ | ⟨W0, l0, rfl⟩
      · obtain ⟨⟨x, r, e1, e2, e3, e4⟩, hk'⟩ := hk
        simp only [outIos] at ho
        split at ho
        · rename_i l hh
          simp only [Option.bind_eq_some_iff, Option.map_eq_some_iff, Prod.mk.injEq] at ho
          obtain ⟨⟨bs, k1⟩, hb, ⟨ios', k2⟩, hios, rfl, rfl⟩ := ho
          obtain ⟨x', e4', hrep⟩ := M.heap _ _ hh
          rw [e1] at e4'; cases e4'
          cases hrep with | @box _ _ r' arr elem h0 hb' hh' hlr =>
          rw [e2] at hb'; cases hb'
          obtain ⟨L1, r1, r2, r3⟩ := outL_sound M hlr hb
          obtain ⟨L2, q1, q2, q3⟩ := outIos_sound M hios hk' (by simpa using hl)
          simp only [ioVals, List.cons_append, List.nil_append] at e4 ⊢
          rw [e4]
          refine ⟨(r :: L1) ++ L2, .cons (.io r arr elem hh' r1) q1, ?_, fun k hk' => ?_⟩
          · have e : rbs m (⟨1024 * i, 2 * i + 1⟩ :: (k1 ++ k2)) = r :: (rbs m k1 ++ rbs m k2) := by
              rw [← rbs_append]; simp [rbs, e1, e2]
            rw [e]
            exact (r2.append q2).cons_cons r
          · rcases List.mem_cons.1 hk' with rfl | hk'
            · exact ⟨_, hh, rfl⟩
            · exact (r3.append q3) k hk'
        · cases ho
      · obtain ⟨⟨x, a, e1, e2, e3, e4⟩, hk'⟩ := hk
        simp only [outIos] at ho
        split at ho
        · rename_i w' l hh
          split at ho
          · rename_i hcond
            obtain ⟨rfl, hll⟩ := hcond
            simp only [Option.map_eq_some_iff, Prod.mk.injEq] at ho
            obtain ⟨⟨ios', k2⟩, hios, rfl, rfl⟩ := ho
            obtain ⟨x', e4', hrep⟩ := M.heap _ _ hh
            rw [e1] at e4'; cases e4'
            obtain ⟨L2, q1, q2, q3⟩ := outIos_sound M hios hk' (by simpa using hl)
            simp only [ioVals, List.cons_append, List.nil_append] at e4 ⊢
            have hm1 : Mine h (⟨1024 * i + 1, 2 * i⟩ :: k2) := fun k hk' => by
              rcases List.mem_cons.1 hk' with rfl | hk'
              · exact ⟨_, hh, rfl⟩
              · exact q3 k hk'
            cases hrep with
            | nil hw hb hc =>
              refine ⟨[] ++ L2, .cons (.els ?_) q1, ?_, hm1⟩
              · rw [e4, hc, show l0.length = 0 by simpa using hll.symm]
                exact .nil _ _
              · have e : rbs m (⟨1024 * i + 1, 2 * i⟩ :: k2) = rbs m k2 := by simp [rbs, e1, hb]
                rw [e]; simpa using q2
            | @arr _ _ _ r arr elem hw hb hh' hs hcl hrr =>
              have ea := e3 hs.pos
              rw [hb] at ea
              simp only [Option.map_some] at ea
              refine ⟨[r] ++ L2, .cons (.els ?_) q1, ?_, hm1⟩
              · rw [e4, ea, ← hll]
                exact .own r x.base x.cap w' l arr elem hh' hs.le hs.one hcl hrr
              · have e : rbs m (⟨1024 * i + 1, 2 * i⟩ :: k2) = r :: rbs m k2 := by simp [rbs, e1, hb]
                rw [e]; exact q2.cons_cons r
          · cases ho
        · cases ho
    · have e1 : outIos h i (b :: args) = outIos h (i + 1) args := by cases b <;> first | rfl | exact absurd (.inl ⟨_, rfl⟩) hio | exact absurd (.inr ⟨_, _, rfl⟩) hio
      have e2 : ioKeys i [b] = [] := by cases b <;> first | rfl | exact absurd (.inl ⟨_, rfl⟩) hio | exact absurd (.inr ⟨_, _, rfl⟩) hio
      have e3 : ioVals [b] [v] = [] := by cases b <;> first | rfl | exact absurd (.inl ⟨_, rfl⟩) hio | exact absurd (.inr ⟨_, _, rfl⟩) hio
      rw [e1] at ho
      rw [e2, e3] at hk
      rw [e3]
      exact outIos_sound M ho hk (by simpa using hl)

theorem tup_sound {vs : List Value} {bs : List BV} {L : List Nat} (hb : BsRep V w vs bs L) : BRep V w (if h : vs.toArray.size = 1 then vs.toArray[0] else .tuple vs.toArray) (tupT bs) L := by
  match hb with
  | .nil => exact .tup .nil
  | .cons h .nil => simpa [tupT] using h
  | .cons h (.cons h2 t) =>
    have : ∀ (x y : Value) (l : List Value), ¬ (x :: y :: l).toArray.size = 1 := fun x y l => by simp
    rw [dif_neg (this _ _ _)]
    exact .tup (.cons h (.cons h2 t))

theorem bsRep_cons {v : Value} {b : BV} {vs bs L1 L2} (h1 : BRep V w v b L1) (h2 : BsRep V w vs bs L2) : BsRep V w (v :: vs) (b :: bs) (L1 ++ L2) := .cons h1 h2

theorem argsS_env : ∀ (bs : List BV) (S : St) (i t : Nat), t < i → (argsS S i bs).env t = S.env t
  | [], _, _, _, _ => rfl
  | b :: bs, S, i, t, h => by
    simp only [argsS]
    rw [argsS_env bs _ (i + 1) t (by omega)]
    simp only [put, upd]
    rw [if_neg (by omega)]

theorem argsS_at : ∀ (bs : List BV) (S : St) (i j : Nat) (b : BV), bs[j]? = some b → (argsS S i bs).env (i + j) = (argT (i + j) b).1
  | [], _, _, _, _, h => by simp at h
  | b :: bs, S, i, 0, b', h => by
    simp at h; subst h
    simp only [argsS, Nat.add_zero]
    rw [argsS_env bs _ (i + 1) i (by omega)]
    simp [put, upd]
  | b :: bs, S, i, j + 1, b', h => by
    simp only [argsS]
    have := argsS_at bs ⟨put S.env (some i) (argT i b).1, putH S.heap (argT i b).2, S.gen⟩ (i + 1) j b' (by simpa using h)
    rwa [show i + 1 + j = i + (j + 1) by omega] at this

theorem bsRep_at {vs : List Value} {bs : List BV} {L : List Nat} (hb : BsRep V w vs bs L) : ∀ (i : Nat) b, bs[i]? = some b → ∃ v L', vs[i]? = some v ∧ BRep V w v b L' := by
  match bs with
  | [] => intro i b h; simp at h
  | b0 :: bs =>
    cases hb with | cons hc ht =>
    intro i b h
    cases i with
    | zero => simp at h; subst h; exact ⟨_, _, rfl, hc⟩
    | succ i => simpa using bsRep_at ht i b (by simpa using h)

theorem bsLen {vs : List Value} {bs : List BV} {L : List Nat} (h : BsRep V w vs bs L) : vs.length = bs.length := by
  match bs with
  | [] => cases h; rfl
  | b :: bs => cases h with | cons hc ht => simp only [List.length_cons]; rw [bsLen ht]

/-- What is known of the room behind slices that come in. -/
def CapsIn (args : List BV) (C : Key → Option Nat) : Prop := ∀ k c, C k = some c → ∃ i W l, args[i]? = some (.cell (.ownc W l c)) ∧ k = ⟨1024 * i + 1, 2 * i⟩

theorem okD_of {f : FuncId} {fn : Func} {c : Code} {rs : List ResultVar} {args : List BV} {C : Key → Option Nat} {r : BV} {ios : List BV} (hm : P.follows .mixedOrders = true) (hf : P.funcs[f]? = some fn)
    (hb : fn.body = some c) (hr : fn.results = rs.toArray) (ho : funcOk fn args.length = true) (hC : CapsIn args C) {e : Exit} {S' : St} (hbs : BS P ⟨G.glob, C⟩ c (start args) e S') (he : e = .normal ∨ e = .ret)
    {ks : List Key} (hov : outV P args rs S' = some (r, ios, ks)) (hnd : ks.Nodup) : OkD P G f args r ios := by
  unfold funcOk at ho
  rw [hb] at ho
  simp only [Bool.and_eq_true, decide_eq_true_eq, Bool.not_eq_true'] at ho
  obtain ⟨⟨⟨hs, hn⟩, h500⟩, hname⟩ := ho
  refine ⟨⟨fn, hf, hname, by rw [hb]; rfl⟩, fun V w vals L hbr hL hLV hVs hg => ?_⟩
  have hg' : GlobRep V w ⟨G.glob, C⟩ := hg
  obtain ⟨m0, M0, E0, hsz, hbv, hEnv⟩ := start_sound hbr hL hLV hVs hg' hn h500
  have hlen : vals.length = args.length := bsLen hbr
  have hCm : CapsOk ⟨G.glob, C⟩ m0 := by
    intro k c' hk
    obtain ⟨i, W, l, hi, rfl⟩ := hC k c' hk
    obtain ⟨v, L', hv, hrep⟩ := bsRep_at hbr i _ hi
    have hT := hEnv i v hv
    have he : (start args).env i = .c (.ref ⟨1024 * i + 1, 2 * i⟩ 0 l.length) := by
      have := argsS_at args ⟨fun _ => .tup [], fun _ => none, 1000⟩ 0 i _ hi
      rw [Nat.zero_add] at this
      unfold start
      rw [this]
      simp [argT, getT, getC]
    rw [he] at hT
    cases hrep with | cell hrep =>
    cases hrep with
    | nilc a W =>
      generalize hvv : Value.slice a 0 0 = vv at hT
      cases hT with | c hT => cases hT with
      | ref hm' _ _ => simp only [Value.slice.injEq] at hvv; exact ⟨_, hm', by omega⟩
    | ownc b o cap W l arr elem hh hsz' h1 hc hr' =>
      generalize hvv : Value.slice (some ⟨b, o, none⟩) l.length c' = vv at hT
      cases hT with | c hT => cases hT with
      | ref hm' _ _ => simp only [Value.slice.injEq] at hvv; exact ⟨_, hm', by omega⟩
  refine calls_of_wp hf hb (bs_sound (V0 := V) (L0 := L) (w0 := w) (m0 := m0) (n := fn.ntmps) hCm hm hbs hs ⟨rfl, hsz, V, m0, fun _ _ h => h, M0, E0⟩ fun a' w' hR' => ?_).1
  obtain ⟨hd, _, V', m, hx, M, E⟩ := hR'
  unfold outV at hov
  simp only [Option.bind_eq_some_iff, Option.map_eq_some_iff, Prod.mk.injEq] at hov
  obtain ⟨ts, hts, ⟨bs, k1⟩, hbs', ⟨ios', k2⟩, hio, rfl, rfl, rfl⟩ := hov
  obtain ⟨vs, hrun, hvs⟩ := resVs_sound M E hts
  obtain ⟨L1, q1, q2, q3⟩ := outTs_sound M hvs hbs'
  obtain ⟨L2, p1, p2, p3⟩ := outIos_sound M hio (hbv.ext hx) hlen
  have hsub : (L1 ++ L2).Sublist (rbs m (k1 ++ k2)) := by rw [rbs_append]; exact q2.append p2
  have hmine := q3.append p3
  have post : bodyPost P fn (fun e w' => ∃ (v : Value) (V' : Nat → Prop) (L' : List Nat), e = .returned v ∧ BsRep V' w' (v :: ioVals args vals) (tupT bs :: ios') L' ∧
      L'.Nodup ∧ (∀ b ∈ L', ¬ V' b ∧ (b ∈ L ∨ w.heap.size ≤ b)) ∧ (∀ b, V b → V' b) ∧
      (∀ b, V' b → b < w'.heap.size ∧ (V b ∨ b ∈ L ∨ w.heap.size ≤ b)) ∧ Frm w w' L) .normal a' w' := by
    refine ⟨hd, _, results_run hr hrun, _, V', L1 ++ L2, rfl, bsRep_cons (tup_sound q1) p1, (rbs_nodup M hnd hmine).sublist hsub, fun b hb => ?_, M.v0, M.vsz, M.frame⟩
    have := hsub.subset hb
    simp only [rbs, List.mem_filterMap, Option.bind_eq_some_iff] at this
    obtain ⟨k, hk, i, hi, hib⟩ := this
    obtain ⟨bl, hbl, hmu⟩ := hmine k hk
    exact M.mine k bl i b hbl hmu hi hib
  rcases he with rfl | rfl
  · exact post
  · exact post

/-- A function does what its shadow does. -/
theorem spec_caps {f : FuncId} {fn : Func} {c : Code} {rs : List ResultVar} {args : List BV} {R : BV → List BV → Prop} (C : Key → Option Nat) (hC : CapsIn args C) (hm : P.follows .mixedOrders = true) (hf : P.funcs[f]? = some fn)
    (hb : fn.body = some c) (hr : fn.results = rs.toArray) (ho : funcOk fn args.length = true) (h : swp P ⟨G.glob, C⟩ c (fun e S => retK P args rs R .go e S) (start args)) : Spec P G f args R := by
  obtain ⟨e, S', hq, hbs⟩ := h
  have hout : ∃ r ios ks, outV P args rs S' = some (r, ios, ks) ∧ ks.Nodup ∧ R r ios ∧ (e = .normal ∨ e = .ret) := by
    have : outK (outV P args rs S') R ∧ (e = .normal ∨ e = .ret) := by
      cases e <;> first | exact ⟨hq, .inl rfl⟩ | exact ⟨hq, .inr rfl⟩ | exact hq.elim
    obtain ⟨h1, h2⟩ := this
    unfold outK at h1
    split at h1
    · rename_i r ios ks hx; exact ⟨r, ios, ks, hx, h1.1, h1.2, h2⟩
    · exact h1.elim
  obtain ⟨r, ios, ks, hov, hnd, hR, he⟩ := hout
  exact ⟨r, ios, hR, okD_of hm hf hb hr ho hC hbs he hov hnd⟩

def noCaps : Key → Option Nat := fun _ => none

theorem spec_of {f : FuncId} {fn : Func} {c : Code} {rs : List ResultVar} {args : List BV} {R : BV → List BV → Prop} (hm : P.follows .mixedOrders = true) (hf : P.funcs[f]? = some fn)
    (hb : fn.body = some c) (hr : fn.results = rs.toArray) (ho : funcOk fn args.length = true) (h : swp P ⟨G.glob, noCaps⟩ c (fun e S => retK P args rs R .go e S) (start args)) : Spec P G f args R :=
  spec_caps noCaps (fun k c h => by cases h) hm hf hb hr ho h

end
end Go.Sh
end
section
namespace Go.Sh

theorem condK_bool (b A B) : condK (.c (.p (.bool b))) A B = ((b = true → A .go) ∧ (b = false → B .go)) := by
  cases b <;> simp [condK]
theorem guardK_bool (b A B) : guardK (some b) A B = ((b = true → A .go) ∧ (b = false → B .go)) := by
  cases b <;> simp [guardK]
section
variable {α β : Type} (c : Prop) [Decidable c] (x : Option Dl) (K : Kont)
theorem optK_ifn : optK (if c then none else x) K = (¬ c ∧ optK x K) := by by_cases h : c <;> simp [h, optK]
theorem optK_if : optK (if c then x else none) K = (c ∧ optK x K) := by by_cases h : c <;> simp [h, optK]
@[go_sem] theorem map_ifn (f : α → β) (y : Option α) : Option.map f (if c then none else y) = if c then none else Option.map f y := by by_cases h : c <;> simp [h]
@[go_sem] theorem map_if (f : α → β) (y : Option α) : Option.map f (if c then y else none) = if c then Option.map f y else none := by by_cases h : c <;> simp [h]
@[go_sem] theorem bind_ifn (f : α → Option β) (y : Option α) : Option.bind (if c then none else y) f = if c then none else Option.bind y f := by by_cases h : c <;> simp [h]
@[go_sem] theorem bind_if (f : α → Option β) (y : Option α) : Option.bind (if c then y else none) f = if c then Option.bind y f else none := by by_cases h : c <;> simp [h]
end

@[go_sem] theorem ev_global (G : Glob) (e g) : ev G e (.global g) = (match G.glob g with | some cells => .c (.pb cells 0) | none => .any) := rfl
theorem drawK_and (ops fs A) : drawK ops fs A = ((edgesOk ops && orderOk ops fs.reverse) = true ∧ A .go) := rfl

/-- Walk up to a region, and no further. -/
theorem region_lt (n : Nat) {P G id ops Q S} (_h : decide (id < n) = true) : xwp .go P G (.region id (List.toArray ops) false) Q S =
    upto 1000 ops (rrun .go P G ops S.gen (fun t S' => Q t .normal ⟨S'.env, S'.heap, S.gen + 1000⟩) 0 ops S) := rfl
theorem draw_lt (n : Nat) {P G id ops Q S} (_h : decide (id < n) = true) : xwp .go P G (.region id (List.toArray ops) true) Q S =
    upto 1000 ops (drun .go P G ops S.gen (fun _ fs S' => drawK ops fs fun t => Q t .normal ⟨S'.env, S'.heap, S.gen + 1000⟩) 0 ops [] S) := rfl

attribute [go_sem] beq_iff_eq beq_eq_false_iff_ne ne_eq List.length_cons List.length_nil List.getElem?_cons_zero List.getElem?_cons_succ List.take_succ_cons List.take_zero List.drop_succ_cons List.drop_zero List.cons_append List.nil_append List.append_nil List.map_cons List.map_nil
  List.set_cons_zero List.set_cons_succ Nat.zero_add Nat.add_zero Nat.mul_zero Nat.zero_mul Option.map_some Option.bind_some Option.map_none Option.bind_none decide_eq_true_eq decide_eq_false_iff_not
  decide_true decide_false Bool.false_eq_true Bool.true_eq_false not_true_eq_false not_false_eq_true false_implies implies_true forall_const Bool.not_true Bool.not_false
  Bool.not_eq_true' Bool.not_eq_false' Bool.not_eq_true Bool.not_eq_false true_and and_true List.foldl_cons List.foldl_nil List.reverse_nil List.reverse_cons
  List.flatten_nil List.flatten_cons Bool.false_or Bool.or_false Bool.true_or Bool.or_true Bool.and_true Bool.true_and Bool.and_false Bool.false_and List.nodup_nil List.nodup_cons List.not_mem_nil List.mem_cons
  or_false false_or not_or and_self forall_eq_or_imp forall_eq false_and and_false

theorem bv_bool {b b' : Bool} (h : b = true ↔ b' = true) : BV.cell (.p (.bool b)) = .bool b' := by rw [Bool.eq_iff_iff.2 h]
theorem bv_int {k : IntKind} {n n' : Int} (h : n = n') : BV.cell (.p (.int k n)) = .int k n' := by rw [h]
end Go.Sh
end
section
namespace Go.Sh

theorem wraps_u32 (n : Int) (h0 : 0 ≤ n) (h1 : n < 2 ^ 32) : IntKind.u32.wrap n = n := IntWalk.u32_in n (by omega)
theorem wraps_u64 (n : Int) (h0 : 0 ≤ n) (h1 : n < 2 ^ 64) : IntKind.u64.wrap n = n := IntWalk.u64_in n (by omega)

section
variable {x y : Int}
theorem and32_255 (h : 0 ≤ x ∧ x < 4294967296) : bits .and .u32 x 255 = x % 256 := bits_mask .u32 32 (by decide) wraps_u32 8 (by decide) x h.1 (by omega)
theorem and64_255 (h : 0 ≤ x ∧ x < 18446744073709551616) : bits .and .u64 x 255 = x % 256 := bits_mask .u64 64 (by decide) wraps_u64 8 (by decide) x h.1 (by omega)
theorem and64_gen (h : 0 ≤ x ∧ x < 18446744073709551616) : bits .and .u64 x 16777215 = x % 16777216 := bits_mask .u64 64 (by decide) wraps_u64 24 (by decide) x h.1 (by omega)

theorem bits_or_comm32 (h1 : 0 ≤ x ∧ x < 4294967296) (h2 : 0 ≤ y ∧ y < 4294967296) : bits .or .u32 x y = bits .or .u32 y x := by
  rw [u32_or x y h1.1 h1.2 h2.1 h2.2, u32_or y x h2.1 h2.2 h1.1 h1.2, Nat.or_comm]
theorem bits_or_comm64 (h1 : 0 ≤ x ∧ x < 18446744073709551616) (h2 : 0 ≤ y ∧ y < 18446744073709551616) : bits .or .u64 x y = bits .or .u64 y x := by
  rw [u64_or x y h1.1 h1.2 h2.1 h2.2, u64_or y x h2.1 h2.2 h1.1 h1.2, Nat.or_comm]
/-- The high part first, then the low one. -/
theorem or32_hi8 (h1 : 0 ≤ x ∧ x < 4294967296) (h2 : x % 256 = 0) (h3 : 0 ≤ y ∧ y < 256) : bits .or .u32 x y = x + y :=
  bits_join .u32 32 (by decide) wraps_u32 8 x y h1.1 h2 (by omega) h3.1 (by omega) (by omega)
theorem or64_hi8 (h1 : 0 ≤ x ∧ x < 18446744073709551616) (h2 : x % 256 = 0) (h3 : 0 ≤ y ∧ y < 256) : bits .or .u64 x y = x + y :=
  bits_join .u64 64 (by decide) wraps_u64 8 x y h1.1 h2 (by omega) h3.1 (by omega) (by omega)
theorem or64_hi32 (h1 : 0 ≤ x ∧ x < 18446744073709551616) (h2 : x % 4294967296 = 0) (h3 : 0 ≤ y ∧ y < 4294967296) : bits .or .u64 x y = x + y :=
  bits_join .u64 64 (by decide) wraps_u64 32 x y h1.1 h2 (by omega) h3.1 (by omega) (by omega)
/-- The low part first. -/
theorem or32_lo8 (h1 : 0 ≤ x ∧ x < 4294967296) (h2 : x % 256 = 0) (h3 : 0 ≤ y ∧ y < 256) : bits .or .u32 y x = y + x := by
  rw [bits_or_comm32 (by omega) h1, or32_hi8 h1 h2 h3]; omega
theorem or64_lo8 (h1 : 0 ≤ x ∧ x < 18446744073709551616) (h2 : x % 256 = 0) (h3 : 0 ≤ y ∧ y < 256) : bits .or .u64 y x = y + x := by
  rw [bits_or_comm64 (by omega) h1, or64_hi8 h1 h2 h3]; omega
theorem or64_lo32 (h1 : 0 ≤ x ∧ x < 18446744073709551616) (h2 : x % 4294967296 = 0) (h3 : 0 ≤ y ∧ y < 4294967296) : bits .or .u64 y x = y + x := by
  rw [bits_or_comm64 (by omega) h1, or64_hi32 h1 h2 h3]; omega

theorem u64_in' (h : 0 ≤ x ∧ x < 18446744073709551616) : IntKind.u64.wrap x = x := IntWalk.u64_in x (by omega)
theorem u32_in' (h : 0 ≤ x ∧ x < 4294967296) : IntKind.u32.wrap x = x := IntWalk.u32_in x (by omega)
theorem i64_in' (h : -9223372036854775808 ≤ x ∧ x < 9223372036854775808) : IntKind.i64.wrap x = x := IntWalk.i64_in x (by omega)
theorem u32_mod : IntKind.u32.wrap x = x % 4294967296 := IntKind.wrap_u32' x

/-! Shifts by what is known. -/
theorem shr_ {k : IntKind} {n : Int} (m : Nat) (h : min n.toNat k.bits = m := by rfl) : shrV k x n = x / 2 ^ m := by
  unfold shrV; rw [h]; exact Int.fdiv_eq_ediv_of_nonneg _ (Int.le_of_lt (Int.pow_pos (by decide)))
theorem shl_ {k : IntKind} {n : Int} (m : Nat) (h : min n.toNat k.bits = m := by rfl) : shlV k x n = k.wrap (x * 2 ^ m) := by
  unfold shlV; rw [h]
end

section
variable {x : Int}
theorem shr_u32_8 : shrV .u32 x 8 = x / 256 := shr_ 8
theorem shl_u32_8 : shlV .u32 x 8 = IntKind.u32.wrap (x * 256) := shl_ 8
theorem shr_u32_16 : shrV .u32 x 16 = x / 65536 := shr_ 16
theorem shl_u32_16 : shlV .u32 x 16 = IntKind.u32.wrap (x * 65536) := shl_ 16
theorem shr_u32_24 : shrV .u32 x 24 = x / 16777216 := shr_ 24
theorem shl_u32_24 : shlV .u32 x 24 = IntKind.u32.wrap (x * 16777216) := shl_ 24
theorem shr_u64_8 : shrV .u64 x 8 = x / 256 := shr_ 8
theorem shl_u64_8 : shlV .u64 x 8 = IntKind.u64.wrap (x * 256) := shl_ 8
theorem shr_u64_16 : shrV .u64 x 16 = x / 65536 := shr_ 16
theorem shl_u64_16 : shlV .u64 x 16 = IntKind.u64.wrap (x * 65536) := shl_ 16
theorem shr_u64_24 : shrV .u64 x 24 = x / 16777216 := shr_ 24
theorem shl_u64_24 : shlV .u64 x 24 = IntKind.u64.wrap (x * 16777216) := shl_ 24
theorem shr_u64_32 : shrV .u64 x 32 = x / 4294967296 := shr_ 32
theorem shl_u64_32 : shlV .u64 x 32 = IntKind.u64.wrap (x * 4294967296) := shl_ 32
theorem shr_u64_40 : shrV .u64 x 40 = x / 1099511627776 := shr_ 40
theorem shl_u64_40 : shlV .u64 x 40 = IntKind.u64.wrap (x * 1099511627776) := shl_ 40
theorem shr_u64_48 : shrV .u64 x 48 = x / 281474976710656 := shr_ 48
theorem shl_u64_48 : shlV .u64 x 48 = IntKind.u64.wrap (x * 281474976710656) := shl_ 48
theorem shr_u64_56 : shrV .u64 x 56 = x / 72057594037927936 := shr_ 56
theorem shl_u64_56 : shlV .u64 x 56 = IntKind.u64.wrap (x * 72057594037927936) := shl_ 56
theorem tmod_pos {y : Int} (h : 0 ≤ x) : x.tmod y = x % y := Int.tmod_eq_emod_of_nonneg h
theorem tdiv_pos {y : Int} (h : 0 ≤ x) : x.tdiv y = x / y := Int.tdiv_eq_ediv_of_nonneg h
end

end Go.Sh
end
section
namespace Go.Sh

def envL : List (Nat × TV) → Nat → TV
  | [], _ => .any
  | (i, v) :: r, t => if t = i then v else envL r t
def heapL : List (Key × Blk) → Key → Option Blk
  | [], _ => none
  | (k', b) :: r, k => if k = k' then some b else heapL r k
@[go_sem ↓] theorem envL_nil (t) : envL [] t = .any := rfl
@[go_sem ↓] theorem envL_cons (i v r t) : envL ((i, v) :: r) t = if t = i then v else envL r t := rfl
@[go_sem ↓] theorem heapL_nil (t) : heapL [] t = none := rfl
@[go_sem ↓] theorem heapL_cons (i v r t) : heapL ((i, v) :: r) t = if t = i then some v else heapL r t := rfl

/-- A state of which only this is known. -/
def stL (l : List (Nat × TV)) (hs : List (Key × Blk)) (g : Nat) : St := ⟨envL l, heapL hs, g⟩
@[go_sem ↓] theorem stL_env (l hs g) : (stL l hs g).env = envL l := rfl
@[go_sem ↓] theorem stL_heap (l hs g) : (stL l hs g).heap = heapL hs := rfl
@[go_sem ↓] theorem stL_gen (l hs g) : (stL l hs g).gen = g := rfl

def envHas (e : Nat → TV) : List (Nat × TV) → Prop
  | [] => True
  | (i, v) :: r => e i = v ∧ envHas e r
def heapHas (h : Key → Option Blk) : List (Key × Blk) → Prop
  | [] => True
  | (k, b) :: r => h k = some b ∧ heapHas h r
@[go_sem ↓] theorem envHas_nil (e) : envHas e [] = True := rfl
@[go_sem ↓] theorem envHas_cons (e i v r) : envHas e ((i, v) :: r) = (e i = v ∧ envHas e r) := rfl
@[go_sem ↓] theorem heapHas_nil (e) : heapHas e [] = True := rfl
@[go_sem ↓] theorem heapHas_cons (e i v r) : heapHas e ((i, v) :: r) = (e i = some v ∧ heapHas e r) := rfl

theorem envL_has {e : Nat → TV} : ∀ {l : List (Nat × TV)}, envHas e l → ∀ t, envL l t = e t ∨ envL l t = .any
  | [], _, _ => .inr rfl
  | (i, v) :: r, h, t => by
    unfold envL
    split
    · rename_i e'; subst e'; exact .inl h.1.symm
    · exact envL_has h.2 t
theorem heapL_has {e : Key → Option Blk} : ∀ {l : List (Key × Blk)}, heapHas e l → ∀ t, heapL l t = e t ∨ heapL l t = none
  | [], _, _ => .inr rfl
  | (i, v) :: r, h, t => by
    unfold heapL
    split
    · rename_i e'; subst e'; exact .inl h.1.symm
    · exact heapL_has h.2 t

/-- What of a state is known. -/
def Knows (l : List (Nat × TV)) (hs : List (Key × Blk)) (g : Nat) (S : St) : Prop := envHas S.env l ∧ heapHas S.heap hs ∧ S.gen ≤ g
@[go_sem ↓] theorem knows_eq (l hs g e h g') : Knows l hs g ⟨e, h, g'⟩ = (envHas e l ∧ heapHas h hs ∧ g' ≤ g) := rfl

theorem Knows.le {l hs g S} (h : Knows l hs g S) : Le (stL l hs g) S := ⟨envL_has h.1, heapL_has h.2.1, h.2.2⟩

section
variable {P : Program} {G : Glob} {a : Code} {S : St} {Q : Post}

/-- A loop of at most N rounds, by what is known at the head of each. -/
theorem loopK_count (N : Nat) (env : Nat → List (Nat × TV)) (hs : Nat → List (Key × Blk)) (g : Nat → Nat) (F : Nat → Prop) (h0 : F 0 ∧ Knows (env 0) (hs 0) (g 0) S)
    (round : ∀ i, i ≤ N → F i → xwp .go P G a (thenK (fun _ S' => i < N ∧ F (i + 1) ∧ Knows (env (i + 1)) (hs (i + 1)) (g (i + 1)) S') Q) (stL (env i) (hs i) (g i))) : loopK P G a Q S := by
  refine swp_weak _ h0.2.le ?_
  have key : ∀ m i, N - i = m → i ≤ N → F i → swp P G (.loop a) (Q .go) (stL (env i) (hs i) (g i)) := by
    intro m
    induction m with
    | zero =>
      intro i hm hi hF
      obtain ⟨e, S', hq, hb⟩ := swp_of _ _ _ _ _ _ (round i hi hF)
      by_cases he : e = .normal
      · subst he
        have : i < N := hq.1
        omega
      · refine ⟨e, S', ?_, .loopX hb he⟩
        cases e <;> first | exact hq | exact absurd rfl he
    | succ m ih =>
      intro i hm hi hF
      obtain ⟨e, S', hq, hb⟩ := swp_of _ _ _ _ _ _ (round i hi hF)
      by_cases he : e = .normal
      · subst he
        obtain ⟨hlt, hF', hk⟩ := hq
        obtain ⟨e', S'', hq', hb'⟩ := ih (i + 1) (by omega) (by omega) hF'
        exact ⟨_, _, hq', .loopN hb (.weak hb' hk.le)⟩
      · refine ⟨e, S', ?_, .loopX hb he⟩
        cases e <;> first | exact hq | exact absurd rfl he
  exact key N 0 (by omega) (by omega) h0.1

/-- A loop, by what holds at its head, with a number that falls. -/
theorem loopK_fall (I : Nat → St → Prop) (n : Nat) (h0 : ∃ A, Le A S ∧ I n A)
    (round : ∀ n S, I n S → xwp .go P G a (thenK (fun _ S' => ∃ m A, m < n ∧ Le A S' ∧ I m A) Q) S) : loopK P G a Q S := by
  obtain ⟨A, hl, hI⟩ := h0
  refine swp_weak A hl ?_
  clear hl
  induction n using Nat.strongRecOn generalizing A with
  | _ n ih =>
    obtain ⟨e, S', hq, hb⟩ := swp_of _ _ _ _ _ _ (round n A hI)
    by_cases he : e = .normal
    · subst he
      obtain ⟨m, B, hlt, hl', hI'⟩ := hq
      obtain ⟨e', S'', hq', hb'⟩ := ih m hlt B hI'
      exact ⟨_, _, hq', .loopN hb (.weak hb' hl')⟩
    · refine ⟨e, S', ?_, .loopX hb he⟩
      cases e <;> first | exact hq | exact absurd rfl he

/-- Here walks that came different ways go on as one. -/
theorem meet {c : Code} (l : List (Nat × TV)) (hs : List (Key × Blk)) (g : Nat) (h : Knows l hs g S) (k : swp P G c (Q .go) (stL l hs g)) : swp P G c (Q .go) S := swp_weak _ h.le k

end
end Go.Sh
end
section
namespace Go.Sh

theorem TV.bool_eq {a b : Bool} (h : a = b) : TV.c (.p (.bool a)) = TV.c (.p (.bool b)) := by rw [h]

section
variable {α : Type} {A B : Option α} {r : α} {goal : Prop}
theorem bsplit {b : Bool} (h : (if b = true then A else B) = some r) (h1 : b = true → A = some r → goal) (h2 : b = false → B = some r → goal) : goal := by
  cases b
  · exact h2 rfl (by simpa using h)
  · exact h1 rfl (by simpa using h)
theorem psplit {c : Prop} [Decidable c] (h : (if c then A else none) = some r) (h1 : c → A = some r → goal) : goal := by
  by_cases hc : c
  · exact h1 hc (by simpa [hc] using h)
  · simp [hc] at h
theorem bind_of {β : Type} {x : Option β} {f : β → Option α} (h : x.bind f = some r) (k : ∀ v, x = some v → f v = some r → goal) : goal :=
  let ⟨v, a, b⟩ := Option.bind_eq_some_iff.1 h; k v a b
end

/-! What a model does. -/

/-- An element of a list. -/
def idx {α : Type} (l : List α) (i : Int) : Option α := if 0 ≤ i then l[i.toNat]? else none
theorem idx_some {α : Type} {l : List α} {i : Int} {x : α} (h : idx l i = some x) : 0 ≤ i ∧ i < l.length ∧ l[i.toNat]? = some x := by
  unfold idx at h
  split at h
  · rename_i h0
    have := (List.getElem?_eq_some_iff.1 h).1
    exact ⟨h0, by omega, h⟩
  · cases h
/-- A part of a list. -/
def cut {α : Type} (l : List α) (a b : Int) : Option (List α) := if 0 ≤ a ∧ a ≤ b ∧ b ≤ l.length then some ((l.take b.toNat).drop a.toNat) else none
theorem cut_some {α : Type} {l x : List α} {a b : Int} (h : cut l a b = some x) : 0 ≤ a ∧ a ≤ b ∧ b ≤ l.length ∧ x = (l.take b.toNat).drop a.toNat := by
  unfold cut at h
  split at h
  · rename_i hc; cases h; exact ⟨hc.1, hc.2.1, hc.2.2, rfl⟩
  · cases h

def iterN {σ ρ : Type} (f : σ → Option (σ ⊕ ρ)) : Nat → σ → Option ρ
  | 0, _ => none
  | n + 1, x => (f x).bind fun s => match s with | .inl y => iterN f n y | .inr r => some r

theorem iterN_succ {σ ρ : Type} {f : σ → Option (σ ⊕ ρ)} : ∀ {n : Nat} {x : σ} {r : ρ}, iterN f n x = some r → iterN f (n + 1) x = some r
  | 0, x, r, h => by simp [iterN] at h
  | n + 1, x, r, h => by
    unfold iterN at h ⊢
    obtain ⟨s, hs, h⟩ := Option.bind_eq_some_iff.1 h
    rw [hs]
    cases s with
    | inl y => exact iterN_succ (n := n) h
    | inr q => exact h
theorem iterN_le {σ ρ : Type} {f : σ → Option (σ ⊕ ρ)} {n m : Nat} (hnm : n ≤ m) {x : σ} {r : ρ} (h : iterN f n x = some r) : iterN f m x = some r := by
  induction hnm with
  | refl => exact h
  | step _ ih => exact iterN_succ ih
theorem iterN_uniq {σ ρ : Type} {f : σ → Option (σ ⊕ ρ)} {n m : Nat} {x : σ} {r q : ρ} (h : iterN f n x = some r) (h' : iterN f m x = some q) : r = q := by
  rcases Nat.le_total n m with hl | hl
  · have := iterN_le hl h; rw [h'] at this; exact (Option.some.inj this).symm
  · have := iterN_le hl h'; rw [h] at this; exact Option.some.inj this

open Classical in
/-- A loop: rounds, until one ends it. -/
noncomputable def iter {σ ρ : Type} (f : σ → Option (σ ⊕ ρ)) (x : σ) : Option ρ := if h : ∃ r n, iterN f n x = some r then some h.choose else none

theorem iter_of {σ ρ : Type} {f : σ → Option (σ ⊕ ρ)} {n : Nat} {x : σ} {r : ρ} (h : iterN f n x = some r) : iter f x = some r := by
  have hex : ∃ r n, iterN f n x = some r := ⟨r, n, h⟩
  unfold iter
  rw [dif_pos hex]
  obtain ⟨m, hm⟩ := hex.choose_spec
  rw [iterN_uniq hm h]
theorem iter_some {σ ρ : Type} {f : σ → Option (σ ⊕ ρ)} {x : σ} {r : ρ} (h : iter f x = some r) : ∃ n, iterN f n x = some r := by
  unfold iter at h
  split at h
  · rename_i hex
    obtain ⟨m, hm⟩ := hex.choose_spec
    cases h; exact ⟨m, hm⟩
  · cases h
/-- One round of a loop. -/
theorem iter_eq {σ ρ : Type} (f : σ → Option (σ ⊕ ρ)) (x : σ) : iter f x = (f x).bind fun s => match s with | .inl y => iter f y | .inr r => some r := by
  cases h : iter f x with
  | some r =>
    obtain ⟨n, hn⟩ := iter_some h
    cases n with
    | zero => simp [iterN] at hn
    | succ n =>
      unfold iterN at hn
      obtain ⟨s, hs, hn⟩ := Option.bind_eq_some_iff.1 hn
      rw [hs, Option.bind_some]
      cases s with
      | inl y => exact (iter_of hn).symm
      | inr q => exact hn.symm
  | none =>
    cases hs : f x with
    | none => rfl
    | some s =>
      rw [Option.bind_some]
      cases s with
      | inl y =>
        cases hy : iter f y with
        | none => simp only; rw [hy]
        | some r =>
          obtain ⟨n, hn⟩ := iter_some hy
          have : iterN f (n + 1) x = some r := by unfold iterN; rw [hs]; exact hn
          rw [iter_of this] at h; cases h
      | inr r =>
        have : iterN f 1 x = some r := by unfold iterN; rw [hs]; rfl
        rw [iter_of this] at h; cases h

/-! Rules for code. -/
section
variable {P : Program} {G : Glob} {a b c d e : Code} {S : St} {Q : Exit → St → Prop}

theorem swp_reg {id ops} (hl : decide (ops.length ≤ 1000) = true) (h : ∀ K : Tok → St → Prop, (∀ S', Q .normal S' → K .go S') → rrun .go P G ops S.gen (fun t S' => K t ⟨S'.env, S'.heap, S.gen + 1000⟩) 0 ops S) :
    swp P G (.region id (List.toArray ops) false) Q S := by
  obtain ⟨fs, S', hr, hq⟩ := rrun_sound _ _ _ (h (fun _ S' => Q .normal S') fun _ h => h)
  have := BS.region (P := P) (G := G) (id := id) false hr (by simpa using hl) (by simp)
  exact ⟨_, _, hq, by simpa using this⟩

theorem swp_drw {id ops} (hl : decide (ops.length ≤ 1000) = true)
    (h : ∀ K : Tok → St → Prop, (∀ S', Q .normal S' → K .go S') → drun .go P G ops S.gen (fun _ fs S' => drawK ops fs fun t => K t ⟨S'.env, S'.heap, S.gen + 1000⟩) 0 ops [] S) :
    swp P G (.region id (List.toArray ops) true) Q S := by
  obtain ⟨gs, S', hr, ho, hq⟩ := drun_sound _ _ _ _ (h (fun _ S' => Q .normal S') fun _ h => h)
  simp only [List.append_nil, List.reverse_reverse, Bool.and_eq_true] at ho
  have := BS.region (P := P) (G := G) (id := id) true hr (by simpa using hl) fun _ => ho
  exact ⟨_, _, hq, by simpa using this⟩

/-- A region, and then the rest. -/
theorem seq_reg {id ops} (hl : decide (ops.length ≤ 1000) = true) (h : ∀ K : Tok → St → Prop, (∀ S', swp P G b Q S' → K .go S') → rrun .go P G ops S.gen (fun t S' => K t ⟨S'.env, S'.heap, S.gen + 1000⟩) 0 ops S) :
    swp P G (.seq (.region id (List.toArray ops) false) b) Q S := swp_seq (swp_reg hl h)
theorem seq_drw {id ops} (hl : decide (ops.length ≤ 1000) = true)
    (h : ∀ K : Tok → St → Prop, (∀ S', swp P G b Q S' → K .go S') → drun .go P G ops S.gen (fun _ fs S' => drawK ops fs fun t => K t ⟨S'.env, S'.heap, S.gen + 1000⟩) 0 ops [] S) :
    swp P G (.seq (.region id (List.toArray ops) true) b) Q S := swp_seq (swp_drw hl h)
theorem cond_t {c' : Operand} (hc : ev G S.env c' = .c (.p (.bool true))) (h : swp P G a Q S) : swp P G (.cond c' a b) Q S := swp_cond true hc (fun _ => h) fun h => by cases h
theorem cond_f {c' : Operand} (hc : ev G S.env c' = .c (.p (.bool false))) (h : swp P G b Q S) : swp P G (.cond c' a b) Q S := swp_cond false hc (fun h => by cases h) fun _ => h
theorem guard_t {x : Bool} {A B} (hx : x = true) (h : A .go) : guardK (some x) A B := by subst hx; exact h
theorem guard_f {x : Bool} {A B} (hx : x = false) (h : B .go) : guardK (some x) A B := by subst hx; exact h

theorem cut1 (I : St → Prop) (hJ : ∀ S', I S' → swp P G b Q S') (h : (∀ S', I S' → swp P G b Q S') → swp P G (.seq a b) Q S) : swp P G (.seq a b) Q S := h hJ
theorem cut2 (I : St → Prop) (hJ : ∀ S', I S' → swp P G c Q S') (h : (∀ S', I S' → swp P G c Q S') → swp P G (.seq a (.seq b c)) Q S) : swp P G (.seq a (.seq b c)) Q S := h hJ
theorem cut3 (I : St → Prop) (hJ : ∀ S', I S' → swp P G d Q S') (h : (∀ S', I S' → swp P G d Q S') → swp P G (.seq a (.seq b (.seq c d))) Q S) : swp P G (.seq a (.seq b (.seq c d))) Q S := h hJ
theorem cut4 (I : St → Prop) (hJ : ∀ S', I S' → swp P G e Q S') (h : (∀ S', I S' → swp P G e Q S') → swp P G (.seq a (.seq b (.seq c (.seq d e)))) Q S) : swp P G (.seq a (.seq b (.seq c (.seq d e)))) Q S := h hJ

theorem swp_ren {A : St} (hl : Ren A S) (h : swp P G c Q A) : swp P G c Q S :=
  let ⟨_, _, hq, hb⟩ := h; ⟨_, _, hq, .ren hb hl⟩
theorem swp_frz (k : Key) {b : Blk} (hk : S.heap k = some b) (h : swp P G c Q ⟨S.env, updH S.heap k (some b.still), S.gen⟩) : swp P G c Q S :=
  let ⟨_, _, hq, hb⟩ := h; ⟨_, _, hq, .frz k b hk hb⟩

/-- A loop does what its model does. -/
theorem swp_iter {σ ρ : Type} {f : σ → Option (σ ⊕ ρ)} (J : Nat → σ → St) {x0 : σ} {r : ρ} (hx : iter f x0 = some r) (h0 : ∃ g, Ren (J g x0) S)
    (round : ∀ g x s, f x = some s → (s = .inr r ∨ ∃ y, s = .inl y) → swp P G a (thenS (fun S' => ∃ y g', s = .inl y ∧ Ren (J g' y) S') fun e S' => s = .inr r ∧ Q e S') (J g x)) : swp P G (.loop a) Q S := by
  obtain ⟨n, hn⟩ := iter_some hx
  obtain ⟨g, hg⟩ := h0
  refine swp_ren hg ?_
  clear hg hx
  induction n generalizing x0 g with
  | zero => simp [iterN] at hn
  | succ n ih =>
    unfold iterN at hn
    obtain ⟨s, hs, hn⟩ := Option.bind_eq_some_iff.1 hn
    obtain ⟨e, S', hq, hb⟩ := round g x0 s hs (by
      cases s with
      | inl y => exact .inr ⟨y, rfl⟩
      | inr q => simp at hn; exact .inl (by rw [hn]))
    by_cases he : e = .normal
    · subst he
      obtain ⟨y, g', rfl, hr⟩ := hq
      obtain ⟨e', S'', hq', hb'⟩ := ih hn g'
      exact ⟨_, _, hq', .loopN hb (.ren hb' hr)⟩
    · refine ⟨e, S', ?_, .loopX hb he⟩
      cases e <;> first | exact hq.2 | exact absurd rfl he

theorem exit_of {σ ρ : Type} {X : Option ρ} {s : σ ⊕ ρ} {r : ρ} (h : X.map Sum.inr = some s) (hd : s = .inr r ∨ ∃ y, s = .inl y) : X = some r ∧ s = .inr r := by
  cases X with
  | none => simp at h
  | some q =>
    simp at h; subst h
    rcases hd with h | ⟨y, h⟩
    · cases h; exact ⟨rfl, rfl⟩
    · cases h
end

/-! States under other names, reckoned. -/

def envR (h : Key → Option Blk) (rn : List (Key × Key)) (vi : List (Key × Nat)) : List (Nat × TV) → (Nat → TV) → Prop
  | [], _ => True
  | (t, v) :: r, e => RT h rn vi v (e t) ∧ envR h rn vi r e
def blkR (h : Key → Option Blk) (rn : List (Key × Key)) (vi : List (Key × Nat)) (k : Key) (b : Blk) : Prop :=
  match virt vi k with
  | some W => b = .arr true W []
  | none => ∃ b', h (rho rn k) = some b' ∧ RB h rn vi b b'
def heapR (h : Key → Option Blk) (rn : List (Key × Key)) (vi : List (Key × Nat)) : List (Key × Blk) → Prop
  | [] => True
  | (k, b) :: r => blkR h rn vi k b ∧ heapR h rn vi r
def oldKeys (rn : List (Key × Key)) (vi : List (Key × Nat)) : List (Key × Blk) → List Key
  | [] => []
  | (k, _) :: r => if (virt vi k).isSome = true then oldKeys rn vi r else rho rn k :: oldKeys rn vi r
def rnNew (g0 g : Nat) : List (Key × Key) → Prop
  | [] => True
  | (k, _) :: r => (g0 ≤ k.g ∧ k.g < g) ∧ rnNew g0 g r
def viNew (g0 g : Nat) : List (Key × Nat) → Prop
  | [] => True
  | (k, _) :: r => (g0 ≤ k.g ∧ k.g < g) ∧ viNew g0 g r

theorem heapL_mem : ∀ {hs : List (Key × Blk)} {k b}, heapL hs k = some b → (k, b) ∈ hs
  | [], k, b, h => by simp [heapL] at h
  | (k', b') :: r, k, b, h => by
    unfold heapL at h
    split at h
    · rename_i e; subst e; cases h; simp
    · simp [heapL_mem h]
theorem heapR_mem {h rn vi} : ∀ {hs : List (Key × Blk)}, heapR h rn vi hs → ∀ {k b}, (k, b) ∈ hs → blkR h rn vi k b
  | [], _, _, _, hm => by cases hm
  | (k', b') :: r, hr, k, b, hm => by
    rcases List.mem_cons.1 hm with e | e
    · cases e; exact hr.1
    · exact heapR_mem hr.2 e
theorem oldKeys_mem {rn vi} : ∀ {hs : List (Key × Blk)} {k b}, (k, b) ∈ hs → virt vi k = none → rho rn k ∈ oldKeys rn vi hs
  | [], _, _, h, _ => by cases h
  | (k', b') :: r, k, b, h, hv => by
    unfold oldKeys
    rcases List.mem_cons.1 h with e | e
    · cases e; simp [hv]
    · have := oldKeys_mem (rn := rn) e hv
      split
      · exact this
      · simp [this]
theorem oldKeys_inj {rn vi} : ∀ {hs : List (Key × Blk)}, (oldKeys rn vi hs).Nodup → ∀ {k b k' b'}, (k, b) ∈ hs → (k', b') ∈ hs → virt vi k = none → virt vi k' = none → rho rn k = rho rn k' → k = k'
  | [], _, _, _, _, _, h, _, _, _, _ => by cases h
  | (k0, b0) :: r, hn, k, b, k', b', h, h', hv, hv', e => by
    unfold oldKeys at hn
    have tail : (oldKeys rn vi r).Nodup := by
      split at hn
      · exact hn
      · exact (List.nodup_cons.1 hn).2
    rcases List.mem_cons.1 h with e1 | e1 <;> rcases List.mem_cons.1 h' with e2 | e2
    · cases e1; cases e2; rfl
    · cases e1
      rw [if_neg (by simp [hv])] at hn
      exact absurd (e ▸ oldKeys_mem (rn := rn) e2 hv') (List.nodup_cons.1 hn).1
    · cases e2
      rw [if_neg (by simp [hv'])] at hn
      exact absurd (e ▸ oldKeys_mem (rn := rn) e1 hv) (List.nodup_cons.1 hn).1
    · exact oldKeys_inj tail e1 e2 hv hv' e
theorem envR_at {h rn vi} : ∀ {l : List (Nat × TV)} {e : Nat → TV}, envR h rn vi l e → ∀ t, RT h rn vi (envL l t) (e t)
  | [], e, _, t => by simp [envL, RT]
  | (i, v) :: r, e, hr, t => by
    unfold envL
    split
    · rename_i he; subst he; exact hr.1
    · exact envR_at hr.2 t
theorem virt_new {g0 g : Nat} : ∀ {vi : List (Key × Nat)} {k}, viNew g0 g vi → virt vi k ≠ none → g0 ≤ k.g ∧ k.g < g
  | [], k, _, h => by simp [virt] at h
  | (k', w) :: r, k, hn, h => by
    unfold virt at h
    split at h
    · rename_i e; subst e; exact hn.1
    · exact virt_new hn.2 h
theorem rho_new {g0 g : Nat} : ∀ {rn : List (Key × Key)} {k}, rnNew g0 g rn → rho rn k ≠ k → g0 ≤ k.g ∧ k.g < g
  | [], k, _, h => by simp [rho] at h
  | (k', w) :: r, k, hn, h => by
    unfold rho at h
    split at h
    · rename_i e; subst e; exact hn.1
    · exact rho_new hn.2 h

theorem ren_mk (rn : List (Key × Key)) (vi : List (Key × Nat)) {env : List (Nat × TV)} {hs : List (Key × Blk)} {g : Nat} {S : St} (h1 : envR S.heap rn vi env S.env) (h2 : heapR S.heap rn vi hs)
    (h3 : (oldKeys rn vi hs).Nodup) (h4 : rnNew S.gen g rn ∧ viNew S.gen g vi) (h5 : S.gen ≤ g) : Ren (stL env hs g) S := by
  refine ⟨rn, vi, envR_at h1, fun k b hb => ?_, fun k k' hk hk' hv hv' e => ?_, fun k hk => ?_, h5⟩
  · have := heapR_mem h2 (heapL_mem hb)
    unfold blkR at this
    split at this
    · rename_i W hW; exact .inl ⟨W, hW, this⟩
    · rename_i hv; exact .inr ⟨hv, this⟩
  · obtain ⟨b, hb⟩ := Option.ne_none_iff_exists'.1 hk
    obtain ⟨b', hb'⟩ := Option.ne_none_iff_exists'.1 hk'
    exact oldKeys_inj h3 (heapL_mem hb) (heapL_mem hb') hv hv' e
  · rcases hk with hk | hk
    · exact virt_new h4.2 hk
    · exact rho_new h4.1 hk

section
variable (h : Key → Option Blk) (rn : List (Key × Key)) (vi : List (Key × Nat))
@[go_sem] theorem envR_nil (e) : envR h rn vi [] e = True := rfl
@[go_sem] theorem envR_cons (t v r e) : envR h rn vi ((t, v) :: r) e = (RT h rn vi v (e t) ∧ envR h rn vi r e) := rfl
@[go_sem] theorem heapR_nil : heapR h rn vi [] = True := rfl
@[go_sem] theorem heapR_cons (k b r) : heapR h rn vi ((k, b) :: r) = (blkR h rn vi k b ∧ heapR h rn vi r) := rfl
@[go_sem] theorem RL_nil : RL h rn vi [] [] = True := rfl
@[go_sem] theorem RL_cons (a l b r) : RL h rn vi (a :: l) (b :: r) = (RA h rn vi a b ∧ RL h rn vi l r) := rfl
end
attribute [go_sem] blkR RA RT RB rho virt oldKeys rnNew viNew
@[go_sem] theorem ex_some_blk {p : Blk → Prop} {b : Blk} : (∃ b', some b = some b' ∧ p b') = p b := by simp
end Go.Sh
end
section
namespace Go.Sh
abbrev r_i64 (x : Int) : List PV := [.int .i64 x]
abbrev r_i32 (x : Int) : List PV := [.int .i32 x]
abbrev r_u64 (x : Int) : List PV := [.int .u64 x]
abbrev r_u32 (x : Int) : List PV := [.int .u32 x]
abbrev r_u8 (x : Int) : List PV := [.int .u8 x]
abbrev r_bool (x : Bool) : List PV := [.bool x]
abbrev r_any (_ : Unit) : List PV := [.any]
abbrev r_S {α : Type} (f : α → List PV) (l : List α) : List PV := [.rows (l.map f)]
structure A2 (α : Type) where (a0 a1 : α)
structure A3 (α : Type) where (a0 a1 a2 : α)
structure A4 (α : Type) where (a0 a1 a2 a3 : α)
structure A5 (α : Type) where (a0 a1 a2 a3 a4 : α)
structure A7 (α : Type) where (a0 a1 a2 a3 a4 a5 a6 : α)
structure A8 (α : Type) where (a0 a1 a2 a3 a4 a5 a6 a7 : α)
section
variable {α : Type}
abbrev r_A2 (f : α → List PV) (x : A2 α) : List PV := f x.a0 ++ f x.a1
abbrev r_A3 (f : α → List PV) (x : A3 α) : List PV := f x.a0 ++ f x.a1 ++ f x.a2
abbrev r_A4 (f : α → List PV) (x : A4 α) : List PV := f x.a0 ++ f x.a1 ++ f x.a2 ++ f x.a3
abbrev r_A5 (f : α → List PV) (x : A5 α) : List PV := f x.a0 ++ f x.a1 ++ f x.a2 ++ f x.a3 ++ f x.a4
abbrev r_A7 (f : α → List PV) (x : A7 α) : List PV := f x.a0 ++ f x.a1 ++ f x.a2 ++ f x.a3 ++ f x.a4 ++ f x.a5 ++ f x.a6
abbrev r_A8 (f : α → List PV) (x : A8 α) : List PV := f x.a0 ++ f x.a1 ++ f x.a2 ++ f x.a3 ++ f x.a4 ++ f x.a5 ++ f x.a6 ++ f x.a7
def A2.get (x : A2 α) (i : Int) : α := if i = 0 then x.a0 else x.a1
def A3.get (x : A3 α) (i : Int) : α := if i = 0 then x.a0 else if i = 1 then x.a1 else x.a2
def A4.get (x : A4 α) (i : Int) : α := if i = 0 then x.a0 else if i = 1 then x.a1 else if i = 2 then x.a2 else x.a3
def A5.get (x : A5 α) (i : Int) : α := if i = 0 then x.a0 else if i = 1 then x.a1 else if i = 2 then x.a2 else if i = 3 then x.a3 else x.a4
def A7.get (x : A7 α) (i : Int) : α := if i = 0 then x.a0 else if i = 1 then x.a1 else if i = 2 then x.a2 else if i = 3 then x.a3 else if i = 4 then x.a4 else if i = 5 then x.a5 else x.a6
def A8.get (x : A8 α) (i : Int) : α := if i = 0 then x.a0 else if i = 1 then x.a1 else if i = 2 then x.a2 else if i = 3 then x.a3 else if i = 4 then x.a4 else if i = 5 then x.a5 else if i = 6 then x.a6 else x.a7
def A2.set (x : A2 α) (i : Int) (v : α) : A2 α := if i = 0 then { x with a0 := v } else { x with a1 := v }
def A3.set (x : A3 α) (i : Int) (v : α) : A3 α := if i = 0 then { x with a0 := v } else if i = 1 then { x with a1 := v } else { x with a2 := v }
def A4.set (x : A4 α) (i : Int) (v : α) : A4 α := if i = 0 then { x with a0 := v } else if i = 1 then { x with a1 := v } else if i = 2 then { x with a2 := v } else { x with a3 := v }
def A5.set (x : A5 α) (i : Int) (v : α) : A5 α := if i = 0 then { x with a0 := v } else if i = 1 then { x with a1 := v } else if i = 2 then { x with a2 := v } else if i = 3 then { x with a3 := v } else { x with a4 := v }
def A7.set (x : A7 α) (i : Int) (v : α) : A7 α := if i = 0 then { x with a0 := v } else if i = 1 then { x with a1 := v } else if i = 2 then { x with a2 := v } else if i = 3 then { x with a3 := v } else if i = 4 then { x with a4 := v } else if i = 5 then { x with a5 := v } else { x with a6 := v }
def A8.set (x : A8 α) (i : Int) (v : α) : A8 α := if i = 0 then { x with a0 := v } else if i = 1 then { x with a1 := v } else if i = 2 then { x with a2 := v } else if i = 3 then { x with a3 := v } else if i = 4 then { x with a4 := v } else if i = 5 then { x with a5 := v } else if i = 6 then { x with a6 := v } else { x with a7 := v }
end
theorem cases2 {i : Int} (h0 : 0 ≤ i) (h1 : i < 2) : i = 0 ∨ i = 1 := by omega
theorem cases3 {i : Int} (h0 : 0 ≤ i) (h1 : i < 3) : i = 0 ∨ i = 1 ∨ i = 2 := by omega
theorem cases4 {i : Int} (h0 : 0 ≤ i) (h1 : i < 4) : i = 0 ∨ i = 1 ∨ i = 2 ∨ i = 3 := by omega
theorem cases5 {i : Int} (h0 : 0 ≤ i) (h1 : i < 5) : i = 0 ∨ i = 1 ∨ i = 2 ∨ i = 3 ∨ i = 4 := by omega
theorem cases7 {i : Int} (h0 : 0 ≤ i) (h1 : i < 7) : i = 0 ∨ i = 1 ∨ i = 2 ∨ i = 3 ∨ i = 4 ∨ i = 5 ∨ i = 6 := by omega
theorem cases8 {i : Int} (h0 : 0 ≤ i) (h1 : i < 8) : i = 0 ∨ i = 1 ∨ i = 2 ∨ i = 3 ∨ i = 4 ∨ i = 5 ∨ i = 6 ∨ i = 7 := by omega
end Go.Sh
end
section
namespace Go.Sh

def keyA : AV → Key
  | .ref k _ _ => k
  | .cref k _ _ _ => k
  | .ptr k _ _ => k
  | _ => ⟨0, 0⟩
def keyN : Nat → List AV → Key
  | _, [] => ⟨0, 0⟩
  | 0, a :: _ => keyA a
  | n + 1, _ :: r => keyN n r
/-- The key in a cell of a value. -/
def keyT (j : Nat) : TV → Key
  | .c a => keyA a
  | .agg l => keyN j l
  | _ => ⟨0, 0⟩
/-- The key in a cell of a variable. -/
def keyB (j : Nat) : Option Blk → Key
  | some (.box _ l) => keyN j l
  | _ => ⟨0, 0⟩
attribute [go_sem] keyA keyN keyT keyB

section
variable {P : Program} {G : Glob} {c : Code} {S : St} {Q : Exit → St → Prop}

theorem ren_go (rnf : Nat → St → List (Key × Key)) (vif : Nat → St → List (Key × Nat)) {env : List (Nat × TV)} {hs : List (Key × Blk)} {g : Nat} (h1 : envR S.heap (rnf S.gen S) (vif S.gen S) env S.env)
    (h2 : heapR S.heap (rnf S.gen S) (vif S.gen S) hs) (h3 : (oldKeys (rnf S.gen S) (vif S.gen S) hs).Nodup) (h4 : rnNew S.gen g (rnf S.gen S) ∧ viNew S.gen g (vif S.gen S)) (h5 : S.gen ≤ g) : Ren (stL env hs g) S :=
  ren_mk _ _ h1 h2 h3 h4 h5

theorem swp_fresh (J : Nat → St) (h : Ren (J S.gen) S) (k : ∀ g, swp P G c Q (J g)) : swp P G c Q S := swp_ren h (k _)

theorem back_of {σ ρ : Type} {J : Nat → σ → St} {y : σ} {s : σ ⊕ ρ} (h : some (Sum.inl y) = some s) (hr : Ren (J S.gen y) S) : ∃ y g, s = .inl y ∧ Ren (J g y) S :=
  ⟨y, S.gen, (Option.some.inj h).symm, hr⟩

/-- What a join asks. -/
def Joins {σ ρ : Type} (F : σ → Option ρ) (J : Nat → σ → St) (r : ρ) (S : St) : Prop := ∃ x, F x = some r ∧ ∃ g, Ren (J g x) S

theorem jump_of {σ ρ : Type} {F : σ → Option ρ} {J : Nat → σ → St} {r : ρ} {x : σ} {goal : St → Prop} (hj : ∀ S', Joins F J r S' → goal S') (h : F x = some r) (hr : Ren (J S.gen x) S) : goal S := hj S ⟨x, h, _, hr⟩

theorem join_of {σ ρ : Type} {F : σ → Option ρ} {J : Nat → σ → St} {r : ρ} (k : ∀ g x, F x = some r → swp P G c Q (J g x)) : ∀ S', Joins F J r S' → swp P G c Q S' :=
  fun _ ⟨x, h, g, hr⟩ => swp_ren hr (k g x h)

theorem enter_of {J : Nat → St} (hr : Ren (J S.gen) S) : ∃ g, Ren (J g) S := ⟨_, hr⟩

theorem nn {K : St → Prop} (h : K S) : thenS K Q .normal S := h
theorem nr {K : St → Prop} (h : Q .ret S) : thenS K Q .ret S := h
theorem ne {K : St → Prop} {i : Nat} (h : Q (.exit i) S) : thenS K Q (.exit i) S := h
theorem nb {i : Nat} (h : Q .normal S) : blockS i Q .normal S := h
theorem nc {i : Nat} (h : Q .ret S) : blockS i Q .ret S := h
theorem nq {i : Nat} (h : Q .normal S) : blockS i Q (.exit i) S := by
  show if i = i then Q .normal S else Q (.exit i) S
  rw [if_pos rfl]; exact h
theorem nx {i j : Nat} (hne : decide (j = i) = false) (h : Q (.exit j) S) : blockS i Q (.exit j) S := by
  show if j = i then Q .normal S else Q (.exit j) S
  rw [if_neg (by simpa using hne)]; exact h

theorem some_eq {α : Type} {x y : α} (h : some x = some y) : y = x := (Option.some.inj h).symm

theorem call_go {h : Key → Option Blk} {s g f : Nat} {xs : List TV} {bs bs' : List BV} {t : Took} {K : Kont} {r : BV} {ios : List BV} (md : List Nat) (frz : Bool) (hs : Spec P G f bs fun r' ios' => r' = r ∧ ios' = ios)
    (hg : giveTs h md xs = some (bs', t)) (he : bs' = bs) (k : optK (backD h s g t frz r ios) K) : callK P G h s g f xs K :=
  callK_spec md frz hg he hs (by rintro _ _ ⟨rfl, rfl⟩; exact k)

theorem dyn_load {l : List AV} {j : Nat} {x : AV} {v : AV → Dl} {K : Kont} (h : l[j]? = some x) (k : optK (some (v x)) K) : optK ((l[j]?).map v) K := by rw [h]; exact k
theorem opt_ite {p : Prop} [Decidable p] {x : Option Dl} {K : Kont} (hp : p) (k : optK x K) : optK (if p then x else none) K := by rw [if_pos hp]; exact k
theorem opt_v {v v' : TV} {wr : List (Key × Option Blk)} {rd : List Key} {K : Kont} (h : v = v') (k : optK (some ⟨v', wr, rd⟩) K) : optK (some ⟨v, wr, rd⟩) K := by rw [h]; exact k
theorem opt_get {l : List AV} {j : Nat} {x : AV} {f : TV → Dl} {K : Kont} (h : l[j]? = some x) (k : optK (some (f (.c x))) K) : optK (Option.map f (Option.map TV.c l[j]?)) K := by rw [h]; exact k
theorem opt_get' {l : List AV} {j : Nat} {x : AV} {f : TV → Option Dl} {K : Kont} (h : l[j]? = some x) (k : optK (f (.c x)) K) : optK (Option.bind (Option.map TV.c l[j]?) f) K := by rw [h]; exact k
theorem opt_wr {v : TV} {q : Key} {l l' : List AV} {rd : List Key} {K : Kont} (h : l = l') (k : optK (some ⟨v, [(q, some (.box true l'))], rd⟩) K) : optK (some ⟨v, [(q, some (.box true l))], rd⟩) K := by rw [h]; exact k
theorem opt_eq {x y : Option Dl} {K : Kont} (h : x = y) (k : optK y K) : optK x K := by rw [h]; exact k
end

theorem u64_nn (x : Int) : (IntKind.u64.wrap x < 0) = False := by
  have : IntKind.u64.wrap x = x % 18446744073709551616 := by simp [IntKind.wrap, IntKind.bits, IntKind.signed]
  simp only [eq_iff_iff, iff_false, Int.not_lt]; rw [this]; omega
theorem u32_nn (x : Int) : (IntKind.u32.wrap x < 0) = False := by
  have : IntKind.u32.wrap x = x % 4294967296 := by simp [IntKind.wrap, IntKind.bits, IntKind.signed]
  simp only [eq_iff_iff, iff_false, Int.not_lt]; rw [this]; omega
@[go_sem] theorem pos_lit (n : Nat) : (0 < n + 1) = True := by simp
attribute [go_sem] Nat.le_refl List.replicate_succ List.replicate_zero List.length_replicate Int.cast_ofNat_Int u64_nn u32_nn List.length_map List.getElem?_map Nat.mul_one

@[go_sem] theorem take_map_len {α β : Type} (f : α → β) (l : List α) : (l.map f).take l.length = l.map f := by rw [List.take_of_length_le (by simp)]
@[go_sem] theorem take_len {α : Type} (l : List α) : l.take l.length = l := List.take_length

theorem appendRef_full {W bytes s g : Nat} {k : Key} {l src : List (List PV)} {ks : List Key} {n : Nat} (hn : n = l.length) (h0 : 0 < src.length) :
    appendRef W bytes s g k 0 n W l src ks = if (n + src.length) * bytes ≤ maxRows ∧ n + src.length ≤ maxRows then
      some ⟨.c (.ref ⟨s, g⟩ 0 (n + src.length)), [(k, none), (⟨s, g⟩, some (.arr true W (l ++ src)))], k :: ks⟩ else none := by
  subst hn
  unfold appendRef
  rw [if_pos (by simp), if_neg (by omega)]
  simp
@[go_sem] theorem appendRef_map {α : Type} {f : α → List PV} {W bytes s g : Nat} {k : Key} {l : List α} {x : List PV} {src : List (List PV)} {ks : List Key} :
    appendRef W bytes s g k 0 l.length W (l.map f) (x :: src) ks = if (l.length + (x :: src).length) * bytes ≤ maxRows ∧ l.length + (x :: src).length ≤ maxRows then
      some ⟨.c (.ref ⟨s, g⟩ 0 (l.length + (x :: src).length)), [(k, none), (⟨s, g⟩, some (.arr true W (l.map f ++ x :: src)))], k :: ks⟩ else none := by
  exact appendRef_full (by simp) (by simp)

theorem allW_map {α : Type} {f : α → List PV} {W : Nat} (h : ∀ x, (f x).length = W) (l : List α) : allW W (l.map f) = true := by
  unfold allW; rw [List.all_eq_true]; intro x hx
  obtain ⟨y, _, rfl⟩ := List.mem_map.1 hx
  simp [h y]
@[go_sem] theorem allW_nil (W : Nat) : allW W [] = true := rfl
@[go_sem] theorem allW_cons (W : Nat) (r l) : allW W (r :: l) = (r.length == W && allW W l) := rfl
attribute [go_sem] allW_map beq_self_eq_true
theorem farRows_map {α : Type} {f : α → List PV} (h : ∀ x, farRow (f x) = false) : ∀ l : List α, farRows (l.map f) = false
  | [] => rfl
  | a :: l => by simp [farRows, h a, farRows_map h l]
attribute [go_sem] r_i64 r_i32 r_u64 r_u32 r_u8 r_bool r_any r_S r_A2 r_A3 r_A4 r_A5 r_A7 r_A8 farRows_map

theorem maps : (∀ {α β : Type} (f : α → β) (l l' : List α), (l ++ l').map f = l.map f ++ l'.map f) ∧ (∀ {α β : Type} (f : α → β) (l : List α) (i : Nat) (x : α), (l.set i x).map f = (l.map f).set i (f x)) ∧
    (∀ {α β : Type} (f : α → β) (l : List α) (n : Nat), (l.take n).map f = (l.map f).take n) ∧ (∀ {α β : Type} (f : α → β) (l : List α) (n : Nat), (l.drop n).map f = (l.map f).drop n) :=
  ⟨fun f l l' => List.map_append, fun f l i x => List.map_set, fun f l n => List.map_take, fun f l n => List.map_drop⟩
theorem or_t {b e : Bool} (h : b = true) : (b || e) = true := by simp [h]
theorem or_f {b e : Bool} (h : b = false) : (b || e) = e := by simp [h]
theorem and_t {b e : Bool} (h : b = true) : (b && e) = e := by simp [h]
theorem and_f {b e : Bool} (h : b = false) : (b && e) = false := by simp [h]
theorem nand_t {b e : Bool} (h : b = true) : (!b && e) = false := by simp [h]
theorem nand_f {b e : Bool} (h : b = false) : (!b && e) = e := by simp [h]
theorem nor_t {b e : Bool} (h : b = true) : (!b || e) = e := by simp [h]
theorem nor_f {b e : Bool} (h : b = false) : (!b || e) = true := by simp [h]
theorem if_t {α : Type} {b : Bool} {x y : α} (h : b = true) : (if b = true then x else y) = x := by simp [h]
theorem if_f {α : Type} {b : Bool} {x y : α} (h : b = false) : (if b = true then x else y) = y := by simp [h]
attribute [go_sem] if_true if_false

/-! The order of a region, reckoned with numbers for sets. -/

def ancB : List Oper → List Nat → List Nat
  | [], acc => acc
  | o :: os, acc =>
    let direct := (o.after.toList.filter fun e => Region.binds .any e).map (·.on)
    ancB os (acc ++ [direct.foldl (fun m i => m ||| (1 <<< i) ||| acc.getD i 0) 0])

def orderB (ops : List Oper) (fs : List Fp) : Bool :=
  let an := ancB ops []
  let n := ops.length
  fs.length == n &&
  (List.range n).all fun j => (List.range j).all fun i =>
    ((an.getD j 0).testBit i) ||
      (match ops[i]?, ops[j]?, fs[i]?, fs[j]? with
       | some a, some b, some x, some y => Oper.apart ops.toArray a b && x.apart y
       | _, _, _, _ => false)

theorem fold_bit (acc : List Nat) (acc' : List (List Nat)) (hacc : ∀ j i, (acc.getD j 0).testBit i = true → i ∈ acc'.getD j []) : ∀ (direct : List Nat) (m : Nat) (i : Nat),
    (direct.foldl (fun m i => m ||| (1 <<< i) ||| acc.getD i 0) m).testBit i = true → m.testBit i = true ∨ i ∈ direct ++ direct.flatMap fun i => acc'.getD i []
  | [], m, i, h => .inl h
  | d :: ds, m, i, h => by
    rw [List.foldl_cons] at h
    rcases fold_bit acc acc' hacc ds _ i h with h | h
    · rw [Nat.testBit_or, Nat.testBit_or, Bool.or_eq_true, Bool.or_eq_true] at h
      rcases h with (h | h) | h
      · exact .inl h
      · right
        rw [Nat.one_shiftLeft, Nat.testBit_two_pow] at h
        simp only [decide_eq_true_eq] at h
        subst h; simp
      · right
        have := hacc _ _ h
        simp only [List.mem_append, List.mem_flatMap, List.mem_cons]
        exact .inr ⟨d, .inl rfl, this⟩
    · right
      simp only [List.mem_append, List.mem_flatMap, List.mem_cons, List.flatMap_cons] at h ⊢
      rcases h with h | ⟨x, h1, h2⟩
      · exact .inl (.inr h)
      · exact .inr (.inr ⟨x, h1, h2⟩)

theorem anc_bit : ∀ (ops : List Oper) (acc : List Nat) (acc' : List (List Nat)), acc.length = acc'.length → (∀ j i, (acc.getD j 0).testBit i = true → i ∈ acc'.getD j []) →
    ∀ j i, ((ancB ops acc).getD j 0).testBit i = true → i ∈ (ancs ops acc').getD j []
  | [], _, _, _, h, j, i, hb => h j i hb
  | o :: os, acc, acc', hl, h, j, i, hb => by
    unfold ancB at hb
    unfold ancs
    refine anc_bit os _ _ (by simp [hl]) (fun j i hb => ?_) j i hb
    by_cases hj : j < acc.length
    · simp only [List.getD_eq_getElem?_getD, List.getElem?_append_left hj] at hb
      simp only [List.getD_eq_getElem?_getD, List.getElem?_append_left (by omega : j < acc'.length)]
      have := h j i (by simpa [List.getD_eq_getElem?_getD] using hb)
      simpa [List.getD_eq_getElem?_getD] using this
    · by_cases hj' : j = acc.length
      · subst hj'
        simp only [List.getD_eq_getElem?_getD] at hb ⊢
        rw [List.getElem?_append_right (Nat.le_refl _), Nat.sub_self] at hb
        rw [List.getElem?_append_right (by omega), hl, Nat.sub_self]
        simp only [List.getElem?_cons_zero, Option.getD_some] at hb ⊢
        rcases fold_bit acc acc' h _ 0 i (by simpa [List.getD_eq_getElem?_getD] using hb) with h0 | h0
        · simp at h0
        · simpa [List.getD_eq_getElem?_getD] using h0
      · simp only [List.getD_eq_getElem?_getD] at hb
        rw [List.getElem?_append_right (by omega)] at hb
        obtain ⟨q, hq⟩ : ∃ q, j - acc.length = q + 1 := ⟨j - acc.length - 1, by omega⟩
        rw [hq] at hb
        simp at hb

theorem order_of {ops fs} (h : orderB ops fs = true) : orderOk ops fs = true := by
  unfold orderB at h
  unfold orderOk
  simp only [Bool.and_eq_true, List.all_eq_true, List.mem_range] at h ⊢
  refine ⟨h.1, fun j hj i hi => ?_⟩
  have := h.2 j hj i hi
  rw [Bool.or_eq_true] at this ⊢
  rcases this with h1 | h1
  · left
    simpa using anc_bit ops [] [] rfl (by simp) j i h1
  · exact .inr h1

theorem draw_go {ops fs A} (h : (edgesOk ops && orderB ops fs.reverse) = true) (k : A .go) : drawK ops fs A := by
  rw [Bool.and_eq_true] at h
  exact drawK_mk (by rw [Bool.and_eq_true]; exact ⟨h.1, order_of h.2⟩) k
end Go.Sh
end
section
namespace Go.Sh
open Go.Proofs
theorem Tryd.mixed : Tryd.prog.follows .mixedOrders = true := by kernel_rfl
@[go_sem ↓] theorem ti_2 : ti Tryd.prog 2 = { ok := true, size := 1, bytes := 8, agg := false, eqv := true, kind := .int .i64, zero := [.p (.int .i64 0)] } := by kernel_rfl
@[go_sem ↓] theorem ti_3 : ti Tryd.prog 3 = { ok := true, size := 1, bytes := 8, agg := false, eqv := true, kind := .int .i64, zero := [.p (.int .i64 0)] } := by kernel_rfl
@[go_sem ↓] theorem ti_4 : ti Tryd.prog 4 = { ok := true, size := 1, bytes := 1, agg := false, eqv := false, kind := .bool, zero := [.p (.bool false)] } := by kernel_rfl
@[go_sem ↓] theorem ti_5 : ti Tryd.prog 5 = { ok := true, size := 1, bytes := 1, agg := false, eqv := true, kind := .int .u8, zero := [.p (.int .u8 0)] } := by kernel_rfl
@[go_sem ↓] theorem ti_6 : ti Tryd.prog 6 = { ok := true, size := 1, bytes := 1, agg := false, eqv := true, kind := .int .u8, zero := [.p (.int .u8 0)] } := by kernel_rfl
@[go_sem ↓] theorem ti_7 : ti Tryd.prog 7 = { ok := true, size := 4, bytes := 24, agg := true, eqv := false, kind := .struct [(0, 2, 1), (1, 3, 1), (2, 4, 1), (3, 6, 1)], zero := [.p (.int .i64 0), .p (.int .i64 0), .p (.bool false), .p (.int .u8 0)] } := by kernel_rfl
@[go_sem ↓] theorem ti_8 : ti Tryd.prog 8 = { ok := true, size := 4, bytes := 24, agg := true, eqv := false, kind := .struct [(0, 2, 1), (1, 3, 1), (2, 4, 1), (3, 6, 1)], zero := [.p (.int .i64 0), .p (.int .i64 0), .p (.bool false), .p (.int .u8 0)] } := by kernel_rfl
@[go_sem ↓] theorem ti_12 : ti Tryd.prog 12 = { ok := true, size := 1, bytes := 8, agg := false, eqv := true, kind := .int .u64, zero := [.p (.int .u64 0)] } := by kernel_rfl
@[go_sem ↓] theorem ti_15 : ti Tryd.prog 15 = { ok := true, size := 1, bytes := 8, agg := false, eqv := false, kind := .ptr 114, zero := [.p .nilp] } := by kernel_rfl
@[go_sem ↓] theorem ti_16 : ti Tryd.prog 16 = { ok := true, size := 1, bytes := 8, agg := false, eqv := false, kind := .ptr 117, zero := [.p .nilp] } := by kernel_rfl
@[go_sem ↓] theorem ti_17 : ti Tryd.prog 17 = { ok := true, size := 1, bytes := 8, agg := false, eqv := false, kind := .ptr 126, zero := [.p .nilp] } := by kernel_rfl
@[go_sem ↓] theorem ti_18 : ti Tryd.prog 18 = { ok := true, size := 1, bytes := 8, agg := true, eqv := false, kind := .struct [(0, 17, 1)], zero := [.p .nilp] } := by kernel_rfl
@[go_sem ↓] theorem ti_19 : ti Tryd.prog 19 = { ok := true, size := 1, bytes := 8, agg := true, eqv := false, kind := .struct [(0, 17, 1)], zero := [.p .nilp] } := by kernel_rfl
@[go_sem ↓] theorem ti_21 : ti Tryd.prog 21 = { ok := true, size := 1, bytes := 4, agg := false, eqv := true, kind := .int .i32, zero := [.p (.int .i32 0)] } := by kernel_rfl
@[go_sem ↓] theorem ti_22 : ti Tryd.prog 22 = { ok := true, size := 1, bytes := 8, agg := false, eqv := true, kind := .int .u64, zero := [.p (.int .u64 0)] } := by kernel_rfl
@[go_sem ↓] theorem ti_23 : ti Tryd.prog 23 = { ok := true, size := 7, bytes := 56, agg := true, eqv := true, kind := .array 7 22, zero := [.p (.int .u64 0), .p (.int .u64 0), .p (.int .u64 0), .p (.int .u64 0), .p (.int .u64 0), .p (.int .u64 0), .p (.int .u64 0)] } := by kernel_rfl
@[go_sem ↓] theorem ti_24 : ti Tryd.prog 24 = { ok := true, size := 9, bytes := 72, agg := true, eqv := true, kind := .struct [(0, 3, 1), (1, 22, 1), (2, 23, 7)], zero := [.p (.int .i64 0), .p (.int .u64 0), .p (.int .u64 0), .p (.int .u64 0), .p (.int .u64 0), .p (.int .u64 0), .p (.int .u64 0), .p (.int .u64 0), .p (.int .u64 0)] } := by kernel_rfl
@[go_sem ↓] theorem ti_25 : ti Tryd.prog 25 = { ok := true, size := 9, bytes := 72, agg := true, eqv := true, kind := .struct [(0, 3, 1), (1, 22, 1), (2, 23, 7)], zero := [.p (.int .i64 0), .p (.int .u64 0), .p (.int .u64 0), .p (.int .u64 0), .p (.int .u64 0), .p (.int .u64 0), .p (.int .u64 0), .p (.int .u64 0), .p (.int .u64 0)] } := by kernel_rfl
@[go_sem ↓] theorem ti_26 : ti Tryd.prog 26 = { ok := true, size := 2, bytes := 16, agg := true, eqv := true, kind := .struct [(0, 3, 1), (1, 3, 1)], zero := [.p (.int .i64 0), .p (.int .i64 0)] } := by kernel_rfl
@[go_sem ↓] theorem ti_27 : ti Tryd.prog 27 = { ok := true, size := 2, bytes := 16, agg := true, eqv := true, kind := .struct [(0, 3, 1), (1, 3, 1)], zero := [.p (.int .i64 0), .p (.int .i64 0)] } := by kernel_rfl
@[go_sem ↓] theorem ti_28 : ti Tryd.prog 28 = { ok := true, size := 8, bytes := 64, agg := true, eqv := true, kind := .array 4 27, zero := [.p (.int .i64 0), .p (.int .i64 0), .p (.int .i64 0), .p (.int .i64 0), .p (.int .i64 0), .p (.int .i64 0), .p (.int .i64 0), .p (.int .i64 0)] } := by kernel_rfl
@[go_sem ↓] theorem ti_29 : ti Tryd.prog 29 = { ok := true, size := 11, bytes := 88, agg := true, eqv := true, kind := .struct [(0, 27, 2), (2, 3, 1), (3, 28, 8)], zero := [.p (.int .i64 0), .p (.int .i64 0), .p (.int .i64 0), .p (.int .i64 0), .p (.int .i64 0), .p (.int .i64 0), .p (.int .i64 0), .p (.int .i64 0), .p (.int .i64 0), .p (.int .i64 0), .p (.int .i64 0)] } := by kernel_rfl
@[go_sem ↓] theorem ti_30 : ti Tryd.prog 30 = { ok := true, size := 11, bytes := 88, agg := true, eqv := true, kind := .struct [(0, 27, 2), (2, 3, 1), (3, 28, 8)], zero := [.p (.int .i64 0), .p (.int .i64 0), .p (.int .i64 0), .p (.int .i64 0), .p (.int .i64 0), .p (.int .i64 0), .p (.int .i64 0), .p (.int .i64 0), .p (.int .i64 0), .p (.int .i64 0), .p (.int .i64 0)] } := by kernel_rfl
@[go_sem ↓] theorem ti_33 : ti Tryd.prog 33 = { ok := true, size := 1, bytes := 8, agg := false, eqv := true, kind := .int .i64, zero := [.p (.int .i64 0)] } := by kernel_rfl
@[go_sem ↓] theorem ti_36 : ti Tryd.prog 36 = { ok := true, size := 2, bytes := 16, agg := true, eqv := true, kind := .struct [(0, 3, 1), (1, 3, 1)], zero := [.p (.int .i64 0), .p (.int .i64 0)] } := by kernel_rfl
@[go_sem ↓] theorem ti_37 : ti Tryd.prog 37 = { ok := true, size := 8, bytes := 64, agg := true, eqv := true, kind := .array 4 36, zero := [.p (.int .i64 0), .p (.int .i64 0), .p (.int .i64 0), .p (.int .i64 0), .p (.int .i64 0), .p (.int .i64 0), .p (.int .i64 0), .p (.int .i64 0)] } := by kernel_rfl
@[go_sem ↓] theorem ti_38 : ti Tryd.prog 38 = { ok := true, size := 11, bytes := 88, agg := true, eqv := true, kind := .struct [(0, 36, 2), (2, 3, 1), (3, 37, 8)], zero := [.p (.int .i64 0), .p (.int .i64 0), .p (.int .i64 0), .p (.int .i64 0), .p (.int .i64 0), .p (.int .i64 0), .p (.int .i64 0), .p (.int .i64 0), .p (.int .i64 0), .p (.int .i64 0), .p (.int .i64 0)] } := by kernel_rfl
@[go_sem ↓] theorem ti_39 : ti Tryd.prog 39 = { ok := true, size := 11, bytes := 88, agg := true, eqv := true, kind := .struct [(0, 36, 2), (2, 3, 1), (3, 37, 8)], zero := [.p (.int .i64 0), .p (.int .i64 0), .p (.int .i64 0), .p (.int .i64 0), .p (.int .i64 0), .p (.int .i64 0), .p (.int .i64 0), .p (.int .i64 0), .p (.int .i64 0), .p (.int .i64 0), .p (.int .i64 0)] } := by kernel_rfl
@[go_sem ↓] theorem ti_48 : ti Tryd.prog 48 = { ok := true, size := 1, bytes := 8, agg := false, eqv := true, kind := .int .u64, zero := [.p (.int .u64 0)] } := by kernel_rfl
@[go_sem ↓] theorem ti_50 : ti Tryd.prog 50 = { ok := true, size := 16, bytes := 128, agg := true, eqv := true, kind := .array 8 27, zero := [.p (.int .i64 0), .p (.int .i64 0), .p (.int .i64 0), .p (.int .i64 0), .p (.int .i64 0), .p (.int .i64 0), .p (.int .i64 0), .p (.int .i64 0), .p (.int .i64 0), .p (.int .i64 0), .p (.int .i64 0), .p (.int .i64 0), .p (.int .i64 0), .p (.int .i64 0), .p (.int .i64 0), .p (.int .i64 0)] } := by kernel_rfl
@[go_sem ↓] theorem ti_53 : ti Tryd.prog 53 = { ok := true, size := 16, bytes := 128, agg := true, eqv := true, kind := .array 8 36, zero := [.p (.int .i64 0), .p (.int .i64 0), .p (.int .i64 0), .p (.int .i64 0), .p (.int .i64 0), .p (.int .i64 0), .p (.int .i64 0), .p (.int .i64 0), .p (.int .i64 0), .p (.int .i64 0), .p (.int .i64 0), .p (.int .i64 0), .p (.int .i64 0), .p (.int .i64 0), .p (.int .i64 0), .p (.int .i64 0)] } := by kernel_rfl
@[go_sem ↓] theorem ti_60 : ti Tryd.prog 60 = { ok := true, size := 1, bytes := 4, agg := false, eqv := true, kind := .int .u32, zero := [.p (.int .u32 0)] } := by kernel_rfl
@[go_sem ↓] theorem ti_61 : ti Tryd.prog 61 = { ok := true, size := 1, bytes := 24, agg := false, eqv := false, kind := .slice 65, zero := [.nilS] } := by kernel_rfl
@[go_sem ↓] theorem ti_62 : ti Tryd.prog 62 = { ok := true, size := 5, bytes := 56, agg := true, eqv := false, kind := .struct [(0, 3, 1), (1, 60, 1), (2, 27, 2), (4, 61, 1)], zero := [.p (.int .i64 0), .p (.int .u32 0), .p (.int .i64 0), .p (.int .i64 0), .nilS] } := by kernel_rfl
@[go_sem ↓] theorem ti_63 : ti Tryd.prog 63 = { ok := true, size := 5, bytes := 56, agg := true, eqv := false, kind := .struct [(0, 3, 1), (1, 60, 1), (2, 27, 2), (4, 61, 1)], zero := [.p (.int .i64 0), .p (.int .u32 0), .p (.int .i64 0), .p (.int .i64 0), .nilS] } := by kernel_rfl
@[go_sem ↓] theorem ti_64 : ti Tryd.prog 64 = { ok := true, size := 3, bytes := 24, agg := true, eqv := true, kind := .struct [(0, 60, 1), (1, 27, 2)], zero := [.p (.int .u32 0), .p (.int .i64 0), .p (.int .i64 0)] } := by kernel_rfl
@[go_sem ↓] theorem ti_65 : ti Tryd.prog 65 = { ok := true, size := 3, bytes := 24, agg := true, eqv := true, kind := .struct [(0, 60, 1), (1, 27, 2)], zero := [.p (.int .u32 0), .p (.int .i64 0), .p (.int .i64 0)] } := by kernel_rfl
@[go_sem ↓] theorem ti_69 : ti Tryd.prog 69 = { ok := true, size := 1, bytes := 24, agg := false, eqv := false, kind := .slice 104, zero := [.nilS] } := by kernel_rfl
@[go_sem ↓] theorem ti_70 : ti Tryd.prog 70 = { ok := true, size := 5, bytes := 56, agg := true, eqv := false, kind := .struct [(0, 3, 1), (1, 60, 1), (2, 36, 2), (4, 69, 1)], zero := [.p (.int .i64 0), .p (.int .u32 0), .p (.int .i64 0), .p (.int .i64 0), .nilS] } := by kernel_rfl
@[go_sem ↓] theorem ti_71 : ti Tryd.prog 71 = { ok := true, size := 5, bytes := 56, agg := true, eqv := false, kind := .struct [(0, 3, 1), (1, 60, 1), (2, 36, 2), (4, 69, 1)], zero := [.p (.int .i64 0), .p (.int .u32 0), .p (.int .i64 0), .p (.int .i64 0), .nilS] } := by kernel_rfl
@[go_sem ↓] theorem ti_92 : ti Tryd.prog 92 = { ok := true, size := 1, bytes := 24, agg := false, eqv := false, kind := .slice 27, zero := [.nilS] } := by kernel_rfl
@[go_sem ↓] theorem ti_96 : ti Tryd.prog 96 = { ok := true, size := 3, bytes := 24, agg := true, eqv := true, kind := .struct [(0, 3, 1), (1, 3, 1), (2, 60, 1)], zero := [.p (.int .i64 0), .p (.int .i64 0), .p (.int .u32 0)] } := by kernel_rfl
@[go_sem ↓] theorem ti_97 : ti Tryd.prog 97 = { ok := true, size := 3, bytes := 24, agg := true, eqv := true, kind := .struct [(0, 3, 1), (1, 3, 1), (2, 60, 1)], zero := [.p (.int .i64 0), .p (.int .i64 0), .p (.int .u32 0)] } := by kernel_rfl
@[go_sem ↓] theorem ti_99 : ti Tryd.prog 99 = { ok := true, size := 1, bytes := 24, agg := false, eqv := false, kind := .slice 22, zero := [.nilS] } := by kernel_rfl
@[go_sem ↓] theorem ti_103 : ti Tryd.prog 103 = { ok := true, size := 3, bytes := 24, agg := true, eqv := true, kind := .struct [(0, 60, 1), (1, 36, 2)], zero := [.p (.int .u32 0), .p (.int .i64 0), .p (.int .i64 0)] } := by kernel_rfl
@[go_sem ↓] theorem ti_104 : ti Tryd.prog 104 = { ok := true, size := 3, bytes := 24, agg := true, eqv := true, kind := .struct [(0, 60, 1), (1, 36, 2)], zero := [.p (.int .u32 0), .p (.int .i64 0), .p (.int .i64 0)] } := by kernel_rfl
@[go_sem ↓] theorem ti_115 : ti Tryd.prog 115 = { ok := true, size := 0, bytes := 0, agg := true, eqv := false, kind := .array 0 16, zero := [] } := by kernel_rfl
@[go_sem ↓] theorem ti_116 : ti Tryd.prog 116 = { ok := true, size := 0, bytes := 0, agg := true, eqv := false, kind := .struct [(0, 115, 0)], zero := [] } := by kernel_rfl
@[go_sem ↓] theorem ti_117 : ti Tryd.prog 117 = { ok := true, size := 0, bytes := 0, agg := true, eqv := false, kind := .struct [(0, 115, 0)], zero := [] } := by kernel_rfl
@[go_sem ↓] theorem ti_119 : ti Tryd.prog 119 = { ok := true, size := 1, bytes := 1, agg := false, eqv := true, kind := .int .u8, zero := [.p (.int .u8 0)] } := by kernel_rfl
@[go_sem ↓] theorem ti_120 : ti Tryd.prog 120 = { ok := true, size := 1, bytes := 1, agg := false, eqv := true, kind := .int .u8, zero := [.p (.int .u8 0)] } := by kernel_rfl
@[go_sem ↓] theorem ti_122 : ti Tryd.prog 122 = { ok := true, size := 1, bytes := 8, agg := false, eqv := false, kind := .ptr 5, zero := [.p .nilp] } := by kernel_rfl
@[go_sem ↓] theorem ti_123 : ti Tryd.prog 123 = { ok := true, size := 1, bytes := 4, agg := false, eqv := true, kind := .int .i32, zero := [.p (.int .i32 0)] } := by kernel_rfl
@[go_sem ↓] theorem ti_124 : ti Tryd.prog 124 = { ok := true, size := 1, bytes := 4, agg := false, eqv := true, kind := .int .i32, zero := [.p (.int .i32 0)] } := by kernel_rfl
end Go.Sh
end
section
namespace Go.Sh
open Go.Proofs
set_option linter.unusedVariables false
set_option linter.unusedSimpArgs false
set_option maxRecDepth 100000
set_option maxHeartbeats 4000000
structure api_Page where
  Line : Int
  Head : Int
  Data : (A7 Int)

abbrev r_api_Page (x : api_Page) : List PV := r_i64 x.Line ++ r_u64 x.Head ++ (r_A7 r_u64) x.Data
attribute [go_sem] r_api_Page

structure pointer_Pointer where
  Line : Int
  Gen : Int

abbrev r_pointer_Pointer (x : pointer_Pointer) : List PV := r_i64 x.Line ++ r_i64 x.Gen
attribute [go_sem] r_pointer_Pointer

structure hashindex_Root where
  First : pointer_Pointer
  Depth : Int
  Pages : (A4 pointer_Pointer)

abbrev r_hashindex_Root (x : hashindex_Root) : List PV := r_pointer_Pointer x.First ++ r_i64 x.Depth ++ (r_A4 r_pointer_Pointer) x.Pages
attribute [go_sem] r_hashindex_Root

structure bodegaref19_Pointer where
  Line : Int
  Gen : Int

abbrev r_bodegaref19_Pointer (x : bodegaref19_Pointer) : List PV := r_i64 x.Line ++ r_i64 x.Gen
attribute [go_sem] r_bodegaref19_Pointer

structure bodegaref23_Root where
  First : bodegaref19_Pointer
  Depth : Int
  Pages : (A4 bodegaref19_Pointer)

abbrev r_bodegaref23_Root (x : bodegaref23_Root) : List PV := r_bodegaref19_Pointer x.First ++ r_i64 x.Depth ++ (r_A4 r_bodegaref19_Pointer) x.Pages
attribute [go_sem] r_bodegaref23_Root

structure pointer_Tag where
  Kind : Int
  Gen : Int
  Aux : Int

abbrev r_pointer_Tag (x : pointer_Tag) : List PV := r_i64 x.Kind ++ r_i64 x.Gen ++ r_u32 x.Aux
attribute [go_sem] r_pointer_Tag

structure hashindex_Entry where
  Key : Int
  To : pointer_Pointer

abbrev r_hashindex_Entry (x : hashindex_Entry) : List PV := r_u32 x.Key ++ r_pointer_Pointer x.To
attribute [go_sem] r_hashindex_Entry

structure hashindex_Bucket where
  Depth : Int
  Pattern : Int
  Next : pointer_Pointer
  Entries : (List hashindex_Entry)

abbrev r_hashindex_Bucket (x : hashindex_Bucket) : List PV := r_i64 x.Depth ++ r_u32 x.Pattern ++ r_pointer_Pointer x.Next ++ (r_S r_hashindex_Entry) x.Entries
attribute [go_sem] r_hashindex_Bucket

structure bodegaref23_Entry where
  Key : Int
  To : bodegaref19_Pointer

abbrev r_bodegaref23_Entry (x : bodegaref23_Entry) : List PV := r_u32 x.Key ++ r_bodegaref19_Pointer x.To
attribute [go_sem] r_bodegaref23_Entry

structure bodegaref23_Bucket where
  Depth : Int
  Pattern : Int
  Next : bodegaref19_Pointer
  Entries : (List bodegaref23_Entry)

abbrev r_bodegaref23_Bucket (x : bodegaref23_Bucket) : List PV := r_i64 x.Depth ++ r_u32 x.Pattern ++ r_bodegaref19_Pointer x.Next ++ (r_S r_bodegaref23_Entry) x.Entries
attribute [go_sem] r_bodegaref23_Bucket
end Go.Sh
end
section
namespace Go.Sh

theorem PsRep.app {V w} {vs : List Value} {ps : List PV} (h : PsRep V w vs ps) {vs' ps'} (h' : PsRep V w vs' ps') : PsRep V w (vs ++ vs') (ps ++ ps') := by
  induction h with
  | nil => exact h'
  | cons a _ ih => exact .cons a ih

theorem PsRep.len {V w} {vs : List Value} {ps : List PV} (h : PsRep V w vs ps) : ps.length = vs.length := h.length.symm

inductive Conf (P : Program) : TypeId → List PV → Prop where
  | bool {t b} (h : P.underlying t = some .bool) : Conf P t [.bool b]
  | int {t k n} (h : P.underlying t = some (.int k)) (hw : (Lit.int k n).wf = true) : Conf P t [.int k n]
  | slice {t e l} (h : P.underlying t = some (.slice e)) (hl : l.length ≤ maxLen) (hr : ∀ row ∈ l, Conf P e row) : Conf P t [.rows l]
  | struct {t fs} (ps : Nat → List PV) (h : P.underlying t = some (.struct fs)) (hp : ∀ (i : Nat) (f : Field), fs[i]? = some f → Conf P f.type (ps i)) : Conf P t ((List.range fs.size).flatMap ps)
  | array {t n e} (ps : Nat → List PV) (h : P.underlying t = some (.array n e)) (hp : ∀ i, i < n → Conf P e (ps i)) : Conf P t ((List.range n).flatMap ps)

/-- The fields lie one behind the other. -/
def tiles (P : Program) : Nat → List Field → Nat → Bool
  | o, [], n => o == n
  | o, f :: fs, n => f.offset == o && tiles P (o + P.cellsOf f.type) fs n

/-- A type of integers, truths, rows, records and slices of such. -/
def plainT (P : Program) : Nat → TypeId → Bool
  | 0, _ => false
  | d + 1, t => match P.underlying t with
    | some .bool => P.cellsOf t == 1
    | some (.int _) => P.cellsOf t == 1
    | some (.slice e) => P.cellsOf t == 1 && plainT P d e && (P.cellsOf e != 0)
    | some (.struct fs) => tiles P 0 fs.toList (P.cellsOf t) && fs.toList.all fun f => plainT P d f.type
    | some (.array n e) => P.cellsOf t == n * P.cellsOf e && plainT P d e
    | _ => false

theorem range_flat {α : Type} (f : Nat → List α) (n : Nat) : (List.range (n + 1)).flatMap f = f 0 ++ (List.range n).flatMap fun i => f (i + 1) := by
  rw [List.range_succ_eq_map]
  simp [List.flatMap_map]

section
variable {H : Type} {enc : TypeId × Value → H} {P : Program} {w : World}

theorem tiles_rep {V : Nat → Prop} : ∀ (fs : List Field) (o n : Nat) (cs : List Value), tiles P o fs n = true → cs.length = n →
    (∀ (i : Nat) (f : Field), fs[i]? = some f → ∃ ps, PsRep V w ((cs.drop f.offset).take (P.cellsOf f.type)) ps ∧ Conf P f.type ps) →
    ∃ ps : Nat → List PV, PsRep V w (cs.drop o) ((List.range fs.length).flatMap ps) ∧ ∀ (i : Nat) (f : Field), fs[i]? = some f → Conf P f.type (ps i)
  | [], o, n, cs, ht, hl, _ => by
    simp [tiles] at ht
    subst ht
    refine ⟨fun _ => [], ?_, by intro i f h; simp at h⟩
    rw [← hl, List.drop_length]
    exact .nil
  | f :: fs, o, n, cs, ht, hl, h => by
    simp only [tiles, Bool.and_eq_true, beq_iff_eq] at ht
    obtain ⟨ps0, h0, c0⟩ := h 0 f rfl
    obtain ⟨ps, h1, c1⟩ := tiles_rep fs (o + P.cellsOf f.type) n cs ht.2 hl (fun i g hg => h (i + 1) g (by simpa using hg))
    refine ⟨fun i => match i with | 0 => ps0 | i + 1 => ps i, ?_, ?_⟩
    · rw [List.length_cons, range_flat]
      rw [ht.1] at h0
      have : cs.drop o = (cs.drop o).take (P.cellsOf f.type) ++ cs.drop (o + P.cellsOf f.type) := by
        rw [← List.drop_drop, List.take_append_drop]
      rw [this]
      exact h0.app h1
    · intro i g hg
      cases i with
      | zero => simp at hg; subst hg; exact c0
      | succ i => exact c1 i g (by simpa using hg)

theorem arr_rep {V : Nat → Prop} (e : TypeId) (z : Nat) : ∀ (n o : Nat) (cs : List Value), cs.length = (o + n) * z →
    (∀ i, i < n → ∃ ps, PsRep V w ((cs.drop ((o + i) * z)).take z) ps ∧ Conf P e ps) →
    ∃ ps : Nat → List PV, PsRep V w (cs.drop (o * z)) ((List.range n).flatMap ps) ∧ ∀ i, i < n → Conf P e (ps i)
  | 0, o, cs, hl, _ => by
    refine ⟨fun _ => [], ?_, by intro i h; omega⟩
    have : cs.drop (o * z) = [] := by rw [List.drop_eq_nil_iff]; simp at hl; omega
    rw [this]
    exact .nil
  | n + 1, o, cs, hl, h => by
    obtain ⟨ps0, h0, c0⟩ := h 0 (by omega)
    obtain ⟨ps, h1, c1⟩ := arr_rep e z n (o + 1) cs (by rw [hl]; congr 1; omega) (fun i hi => by have := h (i + 1) (by omega); rwa [show o + (i + 1) = o + 1 + i by omega] at this)
    refine ⟨fun i => match i with | 0 => ps0 | i + 1 => ps i, ?_, ?_⟩
    · rw [range_flat]
      have : cs.drop (o * z) = (cs.drop (o * z)).take z ++ cs.drop ((o + 1) * z) := by
        rw [show (o + 1) * z = o * z + z by rw [Nat.succ_mul], ← List.drop_drop, List.take_append_drop]
      rw [this]
      exact PsRep.app (by simpa using h0) h1
    · intro i hi
      cases i with
      | zero => exact c0
      | succ i => exact c1 i (by omega)

theorem cell_lt {a : Addr} {v : Value} (h : w.cell? a = some v) : a.block < w.heap.size := by
  by_cases hb : a.block < w.heap.size
  · exact hb
  · unfold World.cell? at h
    rw [Array.getElem?_eq_none (by omega)] at h
    simp at h

theorem trod_rep : ∀ (fuel d : Nat) (t : TypeId) (cs : List Value) (x : DataW H × List MemPlace), plainT P d t = true →
    DataW.trod enc P w 0 (fun _ => true) true fuel t cs = some x → ∃ ps, PsRep (· < w.heap.size) w cs ps ∧ Conf P t ps
  | 0, _, _, _, _, _, h => by simp [DataW.trod] at h
  | _ + 1, 0, _, _, _, hp, _ => by simp [plainT] at hp
  | fuel + 1, d + 1, t, cs, x, hp, h => by
    unfold plainT at hp
    split at hp
    · rename_i hu
      obtain ⟨b, rfl, _⟩ := DataW.trod_bool hu h
      exact ⟨_, .cons (.bool b) .nil, .bool hu⟩
    · rename_i k hu
      obtain ⟨n, rfl, _, hw⟩ := DataW.trod_int hu h
      exact ⟨_, .cons (.int k n) .nil, .int hu hw⟩
    · rename_i e hu
      simp only [Bool.and_eq_true, bne_iff_ne, ne_eq] at hp
      obtain ⟨⟨_, hpe⟩, hz⟩ := hp
      rcases DataW.trod_slice hu h with ⟨rfl, _⟩ | ⟨a, len, cap, elems, rest, n, hf, rfl, _, _, hl, hc, hel, hget, _⟩
      · exact ⟨_, .cons (.nil none 0) .nil, .slice hu (by simp) (by simp)⟩
      · obtain rfl : fuel = n := by omega
        have hrow : ∀ i, ∃ (cs' : List Value) (row : List PV), i < len → w.cells? 0 (a.add (i * P.cellsOf e)) (P.cellsOf e) = some cs' ∧ PsRep (· < w.heap.size) w cs' row ∧ Conf P e row := by
          intro i
          by_cases hi : i < len
          · have := hget i hi
            rw [List.getElem?_eq_getElem (by omega), Option.bind_eq_some_iff] at this
            obtain ⟨cs', h1, h2⟩ := this
            obtain ⟨row, h3, h4⟩ := trod_rep fuel d e cs' _ hpe h2
            exact ⟨cs', row, fun _ => ⟨h1, h3, h4⟩⟩
          · exact ⟨[], [], fun h => (hi h).elim⟩
        let cf := fun i => (hrow i).choose
        have hcf := fun i => (hrow i).choose_spec
        let g := fun i => (hcf i).choose
        have hg := fun i => (hcf i).choose_spec
        rcases Nat.eq_zero_or_pos len with h0 | h0
        · subst h0
          exact ⟨_, .cons (.nil (some a) cap) .nil, .slice hu (by simp) (by simp)⟩
        · have hcell : ∀ i j, i < len → j < P.cellsOf e → w.cell? ((a.add (i * P.cellsOf e)).add j) = (cf i)[j]? := fun i j hi hj => (World.cells?_some (hg i hi).1).2.2 j hj
          have hlen : ∀ i, i < len → (cf i).length = P.cellsOf e := fun i hi => (World.cells?_some (hg i hi).1).2.1
          have hsome : ∀ i j, i < len → j < P.cellsOf e → ∃ v, w.cell? ((a.add (i * P.cellsOf e)).add j) = some v := fun i j hi hj => by
            rw [hcell i j hi hj]
            exact ⟨_, List.getElem?_eq_getElem (by rw [hlen i hi]; exact hj)⟩
          obtain ⟨v0, hv0⟩ := hsome 0 0 h0 (by omega)
          obtain ⟨b, o, sp⟩ := a
          have hv0' : w.cell? ⟨b, o, sp⟩ = some v0 := by simpa [Addr.add] using hv0
          have hsp : sp = none := World.cell?_spot hv0'
          subst hsp
          have hb : b < w.heap.size := cell_lt hv0'
          have hlr : len = ((List.range len).map g).length := by simp
          refine ⟨[.rows ((List.range len).map g)], .cons ?_ .nil, .slice hu (by simp; omega) ?_⟩
          · have key := PRep.rows (V := (· < w.heap.size)) (w := w) b o ((List.range len).map g) cap (P.cellsOf e) (fun i j => ((cf i)[j]?).getD .nilFunc) hb (by simp; omega) (fun i row hr => by
                rw [List.getElem?_map] at hr
                by_cases hi : i < len
                · rw [List.getElem?_range hi] at hr
                  simp at hr
                  subst hr
                  rw [(hg i hi).2.1.len, hlen i hi]
                · rw [List.getElem?_eq_none (by simp; omega)] at hr
                  simp at hr) (fun i j hi hj => by
                have hi' : i < len := by simpa using hi
                have := hcell i j hi' hj
                rw [add_none, add_none] at this
                rw [this, List.getElem?_eq_getElem (by rw [hlen i hi']; exact hj)]
                rfl) (fun i j row c hr hc => by
                rw [List.getElem?_map] at hr
                by_cases hi : i < len
                · rw [List.getElem?_range hi] at hr
                  simp at hr
                  subst hr
                  obtain ⟨v, e1, e2⟩ := (hg i hi).2.1.get j c hc
                  have e1' : (cf i)[j]? = some v := e1
                  rw [e1']
                  exact e2
                · rw [List.getElem?_eq_none (by simp; omega)] at hr
                  simp at hr)
            rw [← hlr] at key
            exact key
          · intro row hr
            simp only [List.mem_map, List.mem_range] at hr
            obtain ⟨i, hi, rfl⟩ := hr
            exact (hg i hi).2.2
    · rename_i fs hu
      simp only [Bool.and_eq_true] at hp
      obtain ⟨xs, n, hf, _, hl, hxl, hget⟩ := DataW.trod_struct hu h
      obtain rfl : fuel = n := by omega
      obtain ⟨ps, h1, h2⟩ := tiles_rep (P := P) (w := w) (V := (· < w.heap.size)) fs.toList 0 (P.cellsOf t) cs hp.1 hl (fun i f hfi => by
        have hfi' : fs[i]? = some f := by simpa using hfi
        have hi : i < fs.size := by
          by_cases hi : i < fs.size
          · exact hi
          · rw [Array.getElem?_eq_none (by omega)] at hfi'; simp at hfi'
        have := hget i f hfi'
        rw [List.getElem?_eq_getElem (by omega)] at this
        exact trod_rep fuel d f.type _ _ (List.all_eq_true.1 hp.2 f (List.mem_of_getElem? hfi)) this)
      refine ⟨_, by simpa using h1, ?_⟩
      exact .struct ps hu (fun i f hfi => h2 i f (by simpa using hfi))
    · rename_i n e hu
      simp only [Bool.and_eq_true, beq_iff_eq] at hp
      obtain ⟨xs, m, hf, _, hl, hxl, hget⟩ := DataW.trod_array hu h
      obtain rfl : fuel = m := by omega
      obtain ⟨ps, h1, h2⟩ := arr_rep (P := P) (w := w) (V := (· < w.heap.size)) e (P.cellsOf e) n 0 cs (by rw [hl, hp.1]; simp) (fun i hi => by
        have := hget i hi
        rw [List.getElem?_eq_getElem (by omega)] at this
        rw [Nat.zero_add]
        exact trod_rep fuel d e _ _ hp.2 this)
      exact ⟨_, by simpa using h1, .array ps hu h2⟩
    · cases hp
end
end Go.Sh
end
section
namespace Go.Sh
open Go.RowKit Go.ChangeShapes

section
variable {H : Type} {enc : TypeId × Value → H} {P : Program} {W : World}

theorem PsRep.bl {V w} {vs : List Value} {ps : List PV} (h : PsRep V w vs ps) : BLRep V w vs (ps.map .p) [] := by
  induction h with
  | nil => exact .nil
  | cons a _ ih => exact .cons (.p a) ih

theorem open_agg {D : Nat} {t : TypeId} {v : Value} {d : DataW H} {p : List MemPlace} {base : Nat} (hp : plainT P D t = true)
    (hu : (∃ fs, P.underlying t = some (.struct fs)) ∨ ∃ n e, P.underlying t = some (.array n e)) (hv : Value.okWide P W .any base t v)
    (h : DataW.Trod enc P W 0 (fun _ => true) true t v d p) : ∃ ps, BRep (· < W.heap.size) W v (.agg (ps.map .p)) [] ∧ Conf P t ps := by
  obtain ⟨fuel, h⟩ := h
  obtain ⟨ps, h1, h2⟩ := trod_rep _ _ _ _ _ hp h
  have : ∃ cs, v = .agg cs := by
    rcases hu with ⟨fs, hu⟩ | ⟨n, e, hu⟩ <;> (simp only [Value.okWide, hu] at hv; obtain ⟨cs, rfl, _⟩ := hv; exact ⟨cs, rfl⟩)
  obtain ⟨cs, rfl⟩ := this
  exact ⟨ps, .agg (show BLRep _ _ cs.toList _ _ from h1.bl), h2⟩

theorem open_cell {D : Nat} {t : TypeId} {v : Value} {d : DataW H} {p : List MemPlace} {base : Nat} (hp : plainT P D t = true)
    (hu : P.underlying t = some .bool ∨ (∃ k, P.underlying t = some (.int k)) ∨ ∃ e, P.underlying t = some (.slice e)) (hv : Value.okWide P W .any base t v)
    (h : DataW.Trod enc P W 0 (fun _ => true) true t v d p) : ∃ c, BRep (· < W.heap.size) W v (.cell (.p c)) [] ∧ Conf P t [c] := by
  obtain ⟨fuel, h⟩ := h
  obtain ⟨ps, h1, h2⟩ := trod_rep _ _ _ _ _ hp h
  have hc : v.cells.toList = [v] := by
    rcases hu with hu | ⟨k, hu⟩ | ⟨e, hu⟩ <;> (cases v <;> first | rfl | simp [Value.okWide, Cell.okWide, Cell.ok, hu] at hv)
  rw [hc] at h1
  match ps, h1 with
  | [c], .cons a .nil => exact ⟨c, .cell (.p a), h2⟩

theorem trodAll_stays {W' : World} (hl : laidOutB P = true) (hb : Below W.heap.size W W') : ∀ (ts : List TypeId) (vs : List Value) (ds : List (DataW H)) (ps : List MemPlace),
    (∀ t ∈ ts, P.readableRec t = true ∧ t < P.types.size) → DataW.TrodAll enc P W 0 (fun _ => true) true ts vs ds ps → (∀ x ∈ ps, x.block < W.heap.size) →
    DataW.TrodAll enc P W' 0 (fun b => decide (b < W.heap.size)) true ts vs ds ps
  | [], vs, ds, ps, _, h, _ => by
    obtain ⟨rfl, rfl, rfl⟩ := trodAll_nil h
    exact rfl
  | t :: ts, vs, ds, ps, hr, h, hlt => by
    obtain ⟨v, vs', d, ds', p, q, rfl, rfl, rfl, h1, h2⟩ := trodAll_cons h
    have := hr t (by simp)
    exact ⟨p, q, Below.trod hl this.1 this.2 h1 hb (fun x hx => hlt x (by simp [hx])), trodAll_stays hl hb ts vs' ds' q (fun t ht => hr t (by simp [ht])) h2 (fun x hx => hlt x (by simp [hx])), rfl⟩

theorem Frm.below {w w' : World} (h : Frm w w' []) : Below w.heap.size w w' :=
  ⟨h.os, h.tape, h.output, h.size, fun k hk => h.same k hk (by simp)⟩

theorem ends {f : Nat} {G : Glob} {args : Array Value} {bs : List BV} (hs : Spec P G f bs (fun r ios => r = .cell (.p (.bool true)) ∧ ios = []))
    (hb : BsRep (· < W.heap.size) W args.toList bs []) (hG : GlobRep (· < W.heap.size) W G) :
    Calls P f args W fun e W' => e = .returned (.bool true) ∧ Below W.heap.size W W' := by
  obtain ⟨r, ios, ⟨rfl, rfl⟩, _, hc⟩ := hs
  have := hc (· < W.heap.size) W args.toList [] hb (by simp) (by simp) (fun _ h => h) hG
  rw [Array.toArray_toList] at this
  refine this.mono fun e W' ⟨v, V', L', he, hr, _, _, _, _, hf⟩ => ⟨?_, hf.below⟩
  subst he
  generalize hvv : v :: ioVals bs args.toList = vv at hr
  generalize hbb : [BV.cell (BC.p (PV.bool true))] = bb at hr
  cases hr with
  | nil => cases hvv
  | cons a t =>
    cases hvv
    cases hbb
    cases a with
    | cell a =>
      cases a with
      | p a => cases a with
        | bool => rfl

theorem end_post {f : Func} {s : ChangeSpec} {apart : Bool} {W' : World} {args : Array Value} {ds gs : List (DataW H)} {before : List MemPlace} (hl : laidOutB P = true)
    (hr : ∀ t ∈ f.params.toList, P.readableRec t = true ∧ t < P.types.size) {tb : TypeId} (hres : f.resultTypes.toList = [tb]) (htb : P.underlying tb = some .bool) (hsv : s.vars = [])
    (hW : DataW.Whole enc P f.params.toList s.vars apart W args.toList ds gs before) (hfn : s.fn H ds = { results := [.lit (.bool true)], args := ds }) (hb : Below W.heap.size W W') :
    s.post enc P f apart true false false W args (.bool true) W' := by
  have hlt := hW.lt
  have hW' := hW
  obtain ⟨p, q, hA, hV, rfl, hfz, hnd⟩ := hW
  rw [hsv] at hV
  obtain ⟨rfl, rfl⟩ := trodVars_none hV
  have hz : f.resultTypes.size = 1 := by rw [← Array.length_toList, hres]; rfl
  refine ⟨ds, [], _, [], p, [], hW', ?_, ?_, ?_, hb.frame _, fun h => by cases h⟩
  · rw [List.append_nil, hfn, hres, hz]
    exact trodAll_mk1 (Go.RowKit.shut_bool htb _)
  · rw [List.append_nil, hfn]
    exact trodAll_stays hl hb _ _ _ _ hr hA (fun x hx => hlt x (by simp [hx]))
  · rw [List.append_nil, hfn, hsv]
    exact rfl
end
end Go.Sh
end
section
namespace Go.Sh
def k_i64 (n : Int) : Prop := -9223372036854775808 ≤ n ∧ n ≤ 9223372036854775807
def k_i32 (n : Int) : Prop := -2147483648 ≤ n ∧ n ≤ 2147483647
def k_u64 (n : Int) : Prop := 0 ≤ n ∧ n ≤ 18446744073709551615
def k_u32 (n : Int) : Prop := 0 ≤ n ∧ n ≤ 4294967295
def k_u8 (n : Int) : Prop := 0 ≤ n ∧ n ≤ 255
def k_bool (_ : Bool) : Prop := True
def k_S {α : Type} (f : α → Prop) (l : List α) : Prop := l.length ≤ maxLen ∧ ∀ x ∈ l, f x
section
variable {P : Program} {t : TypeId} {ps : List PV} {α : Type}
theorem conf_struct {fs : Array Field} (hu : P.underlying t = some (.struct fs)) (h : Conf P t ps) : ∃ qs : Nat → List PV, ps = (List.range fs.size).flatMap qs ∧ ∀ (i : Nat) (f : Field), fs[i]? = some f → Conf P f.type (qs i) := by
  cases h with
  | struct qs h hp => rw [hu] at h; cases h; exact ⟨qs, rfl, hp⟩
  | _ => simp_all
theorem conf_array {n : Nat} {e : TypeId} (hu : P.underlying t = some (.array n e)) (h : Conf P t ps) : ∃ qs : Nat → List PV, ps = (List.range n).flatMap qs ∧ ∀ i, i < n → Conf P e (qs i) := by
  cases h with
  | array qs h hp => rw [hu] at h; cases h; exact ⟨qs, rfl, hp⟩
  | _ => simp_all
theorem conf_bool (hu : P.underlying t = some .bool) (h : Conf P t ps) : ∃ x, ps = r_bool x ∧ k_bool x := by
  cases h with
  | bool h => exact ⟨_, rfl, trivial⟩
  | _ => simp_all
theorem conf_int {k : IntKind} (hu : P.underlying t = some (.int k)) (h : Conf P t ps) : ∃ n, ps = [.int k n] ∧ (Lit.int k n).wf = true := by
  cases h with
  | int h hw => rw [hu] at h; cases h; exact ⟨_, rfl, hw⟩
  | _ => simp_all
theorem conf_S {e : TypeId} {f : α → List PV} {k : α → Prop} (hu : P.underlying t = some (.slice e)) (ih : ∀ qs, Conf P e qs → ∃ x, qs = f x ∧ k x) (h : Conf P t ps) : ∃ l, ps = r_S f l ∧ k_S k l := by
  cases h with
  | @slice _ _ l h hl hr =>
    rw [hu] at h; cases h
    have : ∀ l : List (List PV), (∀ row ∈ l, Conf P e row) → ∃ xs : List α, l = xs.map f ∧ ∀ x ∈ xs, k x := by
      intro l
      induction l with
      | nil => intro _; exact ⟨[], rfl, by simp⟩
      | cons a l ihl =>
        intro hr
        obtain ⟨x, rfl, hx⟩ := ih a (hr a (by simp))
        obtain ⟨xs, rfl, hxs⟩ := ihl (fun r hr' => hr r (by simp [hr']))
        exact ⟨x :: xs, rfl, by simpa using ⟨hx, hxs⟩⟩
    obtain ⟨xs, rfl, hx⟩ := this l hr
    exact ⟨xs, rfl, by simpa using hl, hx⟩
  | _ => simp_all
theorem conf_i64 (hu : P.underlying t = some (.int .i64)) (h : Conf P t ps) : ∃ x, ps = r_i64 x ∧ k_i64 x := by
  obtain ⟨n, rfl, hw⟩ := conf_int hu h
  simp [Lit.wf, IntKind.min, IntKind.max, IntKind.signed, IntKind.bits] at hw
  exact ⟨n, rfl, by unfold k_i64; omega⟩
theorem conf_i32 (hu : P.underlying t = some (.int .i32)) (h : Conf P t ps) : ∃ x, ps = r_i32 x ∧ k_i32 x := by
  obtain ⟨n, rfl, hw⟩ := conf_int hu h
  simp [Lit.wf, IntKind.min, IntKind.max, IntKind.signed, IntKind.bits] at hw
  exact ⟨n, rfl, by unfold k_i32; omega⟩
theorem conf_u64 (hu : P.underlying t = some (.int .u64)) (h : Conf P t ps) : ∃ x, ps = r_u64 x ∧ k_u64 x := by
  obtain ⟨n, rfl, hw⟩ := conf_int hu h
  simp [Lit.wf, IntKind.min, IntKind.max, IntKind.signed, IntKind.bits] at hw
  exact ⟨n, rfl, by unfold k_u64; omega⟩
theorem conf_u32 (hu : P.underlying t = some (.int .u32)) (h : Conf P t ps) : ∃ x, ps = r_u32 x ∧ k_u32 x := by
  obtain ⟨n, rfl, hw⟩ := conf_int hu h
  simp [Lit.wf, IntKind.min, IntKind.max, IntKind.signed, IntKind.bits] at hw
  exact ⟨n, rfl, by unfold k_u32; omega⟩
theorem conf_u8 (hu : P.underlying t = some (.int .u8)) (h : Conf P t ps) : ∃ x, ps = r_u8 x ∧ k_u8 x := by
  obtain ⟨n, rfl, hw⟩ := conf_int hu h
  simp [Lit.wf, IntKind.min, IntKind.max, IntKind.signed, IntKind.bits] at hw
  exact ⟨n, rfl, by unfold k_u8; omega⟩
def k_A2 (k : α → Prop) (x : A2 α) : Prop := k x.a0 ∧ k x.a1
theorem conf_A2 {e : TypeId} {f : α → List PV} {k : α → Prop} (hu : P.underlying t = some (.array 2 e)) (ih : ∀ qs, Conf P e qs → ∃ x, qs = f x ∧ k x) (h : Conf P t ps) : ∃ x, ps = r_A2 f x ∧ k_A2 k x := by
  obtain ⟨qs, rfl, hq⟩ := conf_array hu h
  obtain ⟨x0, e0, k0⟩ := ih _ (hq 0 (by decide))
  obtain ⟨x1, e1, k1⟩ := ih _ (hq 1 (by decide))
  refine ⟨⟨x0, x1⟩, ?_, k0, k1⟩
  show qs 0 ++ (qs 1 ++ []) = _
  rw [e0, e1]; simp [r_A2]
def k_A3 (k : α → Prop) (x : A3 α) : Prop := k x.a0 ∧ k x.a1 ∧ k x.a2
theorem conf_A3 {e : TypeId} {f : α → List PV} {k : α → Prop} (hu : P.underlying t = some (.array 3 e)) (ih : ∀ qs, Conf P e qs → ∃ x, qs = f x ∧ k x) (h : Conf P t ps) : ∃ x, ps = r_A3 f x ∧ k_A3 k x := by
  obtain ⟨qs, rfl, hq⟩ := conf_array hu h
  obtain ⟨x0, e0, k0⟩ := ih _ (hq 0 (by decide))
  obtain ⟨x1, e1, k1⟩ := ih _ (hq 1 (by decide))
  obtain ⟨x2, e2, k2⟩ := ih _ (hq 2 (by decide))
  refine ⟨⟨x0, x1, x2⟩, ?_, k0, k1, k2⟩
  show qs 0 ++ (qs 1 ++ (qs 2 ++ [])) = _
  rw [e0, e1, e2]; simp [r_A3]
def k_A4 (k : α → Prop) (x : A4 α) : Prop := k x.a0 ∧ k x.a1 ∧ k x.a2 ∧ k x.a3
theorem conf_A4 {e : TypeId} {f : α → List PV} {k : α → Prop} (hu : P.underlying t = some (.array 4 e)) (ih : ∀ qs, Conf P e qs → ∃ x, qs = f x ∧ k x) (h : Conf P t ps) : ∃ x, ps = r_A4 f x ∧ k_A4 k x := by
  obtain ⟨qs, rfl, hq⟩ := conf_array hu h
  obtain ⟨x0, e0, k0⟩ := ih _ (hq 0 (by decide))
  obtain ⟨x1, e1, k1⟩ := ih _ (hq 1 (by decide))
  obtain ⟨x2, e2, k2⟩ := ih _ (hq 2 (by decide))
  obtain ⟨x3, e3, k3⟩ := ih _ (hq 3 (by decide))
  refine ⟨⟨x0, x1, x2, x3⟩, ?_, k0, k1, k2, k3⟩
  show qs 0 ++ (qs 1 ++ (qs 2 ++ (qs 3 ++ []))) = _
  rw [e0, e1, e2, e3]; simp [r_A4]
def k_A5 (k : α → Prop) (x : A5 α) : Prop := k x.a0 ∧ k x.a1 ∧ k x.a2 ∧ k x.a3 ∧ k x.a4
theorem conf_A5 {e : TypeId} {f : α → List PV} {k : α → Prop} (hu : P.underlying t = some (.array 5 e)) (ih : ∀ qs, Conf P e qs → ∃ x, qs = f x ∧ k x) (h : Conf P t ps) : ∃ x, ps = r_A5 f x ∧ k_A5 k x := by
  obtain ⟨qs, rfl, hq⟩ := conf_array hu h
  obtain ⟨x0, e0, k0⟩ := ih _ (hq 0 (by decide))
  obtain ⟨x1, e1, k1⟩ := ih _ (hq 1 (by decide))
  obtain ⟨x2, e2, k2⟩ := ih _ (hq 2 (by decide))
  obtain ⟨x3, e3, k3⟩ := ih _ (hq 3 (by decide))
  obtain ⟨x4, e4, k4⟩ := ih _ (hq 4 (by decide))
  refine ⟨⟨x0, x1, x2, x3, x4⟩, ?_, k0, k1, k2, k3, k4⟩
  show qs 0 ++ (qs 1 ++ (qs 2 ++ (qs 3 ++ (qs 4 ++ [])))) = _
  rw [e0, e1, e2, e3, e4]; simp [r_A5]
def k_A7 (k : α → Prop) (x : A7 α) : Prop := k x.a0 ∧ k x.a1 ∧ k x.a2 ∧ k x.a3 ∧ k x.a4 ∧ k x.a5 ∧ k x.a6
theorem conf_A7 {e : TypeId} {f : α → List PV} {k : α → Prop} (hu : P.underlying t = some (.array 7 e)) (ih : ∀ qs, Conf P e qs → ∃ x, qs = f x ∧ k x) (h : Conf P t ps) : ∃ x, ps = r_A7 f x ∧ k_A7 k x := by
  obtain ⟨qs, rfl, hq⟩ := conf_array hu h
  obtain ⟨x0, e0, k0⟩ := ih _ (hq 0 (by decide))
  obtain ⟨x1, e1, k1⟩ := ih _ (hq 1 (by decide))
  obtain ⟨x2, e2, k2⟩ := ih _ (hq 2 (by decide))
  obtain ⟨x3, e3, k3⟩ := ih _ (hq 3 (by decide))
  obtain ⟨x4, e4, k4⟩ := ih _ (hq 4 (by decide))
  obtain ⟨x5, e5, k5⟩ := ih _ (hq 5 (by decide))
  obtain ⟨x6, e6, k6⟩ := ih _ (hq 6 (by decide))
  refine ⟨⟨x0, x1, x2, x3, x4, x5, x6⟩, ?_, k0, k1, k2, k3, k4, k5, k6⟩
  show qs 0 ++ (qs 1 ++ (qs 2 ++ (qs 3 ++ (qs 4 ++ (qs 5 ++ (qs 6 ++ [])))))) = _
  rw [e0, e1, e2, e3, e4, e5, e6]; simp [r_A7]
def k_A8 (k : α → Prop) (x : A8 α) : Prop := k x.a0 ∧ k x.a1 ∧ k x.a2 ∧ k x.a3 ∧ k x.a4 ∧ k x.a5 ∧ k x.a6 ∧ k x.a7
theorem conf_A8 {e : TypeId} {f : α → List PV} {k : α → Prop} (hu : P.underlying t = some (.array 8 e)) (ih : ∀ qs, Conf P e qs → ∃ x, qs = f x ∧ k x) (h : Conf P t ps) : ∃ x, ps = r_A8 f x ∧ k_A8 k x := by
  obtain ⟨qs, rfl, hq⟩ := conf_array hu h
  obtain ⟨x0, e0, k0⟩ := ih _ (hq 0 (by decide))
  obtain ⟨x1, e1, k1⟩ := ih _ (hq 1 (by decide))
  obtain ⟨x2, e2, k2⟩ := ih _ (hq 2 (by decide))
  obtain ⟨x3, e3, k3⟩ := ih _ (hq 3 (by decide))
  obtain ⟨x4, e4, k4⟩ := ih _ (hq 4 (by decide))
  obtain ⟨x5, e5, k5⟩ := ih _ (hq 5 (by decide))
  obtain ⟨x6, e6, k6⟩ := ih _ (hq 6 (by decide))
  obtain ⟨x7, e7, k7⟩ := ih _ (hq 7 (by decide))
  refine ⟨⟨x0, x1, x2, x3, x4, x5, x6, x7⟩, ?_, k0, k1, k2, k3, k4, k5, k6, k7⟩
  show qs 0 ++ (qs 1 ++ (qs 2 ++ (qs 3 ++ (qs 4 ++ (qs 5 ++ (qs 6 ++ (qs 7 ++ []))))))) = _
  rw [e0, e1, e2, e3, e4, e5, e6, e7]; simp [r_A8]
end
end Go.Sh
end
section
namespace Go.Sh
open Go.Proofs
set_option maxRecDepth 100000
set_option linter.unusedSimpArgs false
set_option linter.unusedVariables false
theorem conf_t3 {ps : List PV} (h : Conf Tryd.prog 3 ps) : ∃ x : Int, ps = r_i64 x ∧ k_i64 x := conf_i64 Tryd.underlying3 h
theorem conf_t22 {ps : List PV} (h : Conf Tryd.prog 22 ps) : ∃ x : Int, ps = r_u64 x ∧ k_u64 x := conf_u64 Tryd.underlying22 h
theorem conf_t23 {ps : List PV} (h : Conf Tryd.prog 23 ps) : ∃ x : (A7 Int), ps = (r_A7 r_u64) x ∧ (k_A7 k_u64) x := conf_A7 Tryd.underlying23 (fun _ h => conf_t22 h) h
def k_api_Page (x : api_Page) : Prop := k_i64 x.Line ∧ k_u64 x.Head ∧ (k_A7 k_u64) x.Data
theorem conf_t25 {ps : List PV} (h : Conf Tryd.prog 25 ps) : ∃ x : api_Page, ps = r_api_Page x ∧ k_api_Page x := by
  obtain ⟨qs, rfl, hq⟩ := conf_struct Tryd.underlying25 h
  obtain ⟨x0, e0, k0⟩ := conf_t3 (hq 0 _ rfl)
  obtain ⟨x1, e1, k1⟩ := conf_t22 (hq 1 _ rfl)
  obtain ⟨x2, e2, k2⟩ := conf_t23 (hq 2 _ rfl)
  refine ⟨⟨x0, x1, x2⟩, ?_, k0, k1, k2⟩
  show qs 0 ++ (qs 1 ++ (qs 2 ++ [])) = _
  rw [e0, e1, e2]; simp [r_api_Page]
def k_pointer_Pointer (x : pointer_Pointer) : Prop := k_i64 x.Line ∧ k_i64 x.Gen
theorem conf_t27 {ps : List PV} (h : Conf Tryd.prog 27 ps) : ∃ x : pointer_Pointer, ps = r_pointer_Pointer x ∧ k_pointer_Pointer x := by
  obtain ⟨qs, rfl, hq⟩ := conf_struct Tryd.underlying27 h
  obtain ⟨x0, e0, k0⟩ := conf_t3 (hq 0 _ rfl)
  obtain ⟨x1, e1, k1⟩ := conf_t3 (hq 1 _ rfl)
  refine ⟨⟨x0, x1⟩, ?_, k0, k1⟩
  show qs 0 ++ (qs 1 ++ []) = _
  rw [e0, e1]; simp [r_pointer_Pointer]
theorem conf_t28 {ps : List PV} (h : Conf Tryd.prog 28 ps) : ∃ x : (A4 pointer_Pointer), ps = (r_A4 r_pointer_Pointer) x ∧ (k_A4 k_pointer_Pointer) x := conf_A4 Tryd.underlying28 (fun _ h => conf_t27 h) h
def k_hashindex_Root (x : hashindex_Root) : Prop := k_pointer_Pointer x.First ∧ k_i64 x.Depth ∧ (k_A4 k_pointer_Pointer) x.Pages
theorem conf_t30 {ps : List PV} (h : Conf Tryd.prog 30 ps) : ∃ x : hashindex_Root, ps = r_hashindex_Root x ∧ k_hashindex_Root x := by
  obtain ⟨qs, rfl, hq⟩ := conf_struct Tryd.underlying30 h
  obtain ⟨x0, e0, k0⟩ := conf_t27 (hq 0 _ rfl)
  obtain ⟨x1, e1, k1⟩ := conf_t3 (hq 1 _ rfl)
  obtain ⟨x2, e2, k2⟩ := conf_t28 (hq 2 _ rfl)
  refine ⟨⟨x0, x1, x2⟩, ?_, k0, k1, k2⟩
  show qs 0 ++ (qs 1 ++ (qs 2 ++ [])) = _
  rw [e0, e1, e2]; simp [r_hashindex_Root]
theorem conf_t50 {ps : List PV} (h : Conf Tryd.prog 50 ps) : ∃ x : (A8 pointer_Pointer), ps = (r_A8 r_pointer_Pointer) x ∧ (k_A8 k_pointer_Pointer) x := conf_A8 Tryd.underlying50 (fun _ h => conf_t27 h) h
theorem conf_t60 {ps : List PV} (h : Conf Tryd.prog 60 ps) : ∃ x : Int, ps = r_u32 x ∧ k_u32 x := conf_u32 Tryd.underlying60 h
def k_hashindex_Entry (x : hashindex_Entry) : Prop := k_u32 x.Key ∧ k_pointer_Pointer x.To
theorem conf_t65 {ps : List PV} (h : Conf Tryd.prog 65 ps) : ∃ x : hashindex_Entry, ps = r_hashindex_Entry x ∧ k_hashindex_Entry x := by
  obtain ⟨qs, rfl, hq⟩ := conf_struct Tryd.underlying65 h
  obtain ⟨x0, e0, k0⟩ := conf_t60 (hq 0 _ rfl)
  obtain ⟨x1, e1, k1⟩ := conf_t27 (hq 1 _ rfl)
  refine ⟨⟨x0, x1⟩, ?_, k0, k1⟩
  show qs 0 ++ (qs 1 ++ []) = _
  rw [e0, e1]; simp [r_hashindex_Entry]
theorem conf_t61 {ps : List PV} (h : Conf Tryd.prog 61 ps) : ∃ x : (List hashindex_Entry), ps = (r_S r_hashindex_Entry) x ∧ (k_S k_hashindex_Entry) x := conf_S Tryd.underlying61 (fun _ h => conf_t65 h) h
def k_hashindex_Bucket (x : hashindex_Bucket) : Prop := k_i64 x.Depth ∧ k_u32 x.Pattern ∧ k_pointer_Pointer x.Next ∧ (k_S k_hashindex_Entry) x.Entries
theorem conf_t63 {ps : List PV} (h : Conf Tryd.prog 63 ps) : ∃ x : hashindex_Bucket, ps = r_hashindex_Bucket x ∧ k_hashindex_Bucket x := by
  obtain ⟨qs, rfl, hq⟩ := conf_struct Tryd.underlying63 h
  obtain ⟨x0, e0, k0⟩ := conf_t3 (hq 0 _ rfl)
  obtain ⟨x1, e1, k1⟩ := conf_t60 (hq 1 _ rfl)
  obtain ⟨x2, e2, k2⟩ := conf_t27 (hq 2 _ rfl)
  obtain ⟨x3, e3, k3⟩ := conf_t61 (hq 3 _ rfl)
  refine ⟨⟨x0, x1, x2, x3⟩, ?_, k0, k1, k2, k3⟩
  show qs 0 ++ (qs 1 ++ (qs 2 ++ (qs 3 ++ []))) = _
  rw [e0, e1, e2, e3]; simp [r_hashindex_Bucket]
end Go.Sh
end
section
namespace Go.Sh
open Go.Proofs
set_option linter.unusedVariables false
set_option linter.unusedSimpArgs false
set_option maxRecDepth 100000
set_option maxHeartbeats 4000000
noncomputable def pointer_inHeap (a0 : Int) : Option Bool :=
  some ((decide (a0 ≥ 104)) && (decide (a0 < 256)))
theorem pointer_inHeap_ok (G : Glob) (hG0 : G.glob 0 = some [(.int .i64 0), (.int .i64 0)]) (a0 : Int) (res : Bool) (h : pointer_inHeap a0 = some res) : Spec Tryd.prog G 60 [.cell (.p (.int .i64 a0))] (fun r ios => r = .cell (.p (.bool res)) ∧ ios = []) := by
  rw [pointer_inHeap] at h
  refine spec_of Tryd.mixed Tryd.func60 rfl rfl (by simp only [List.length]; decide +kernel) ?_
  refine swp_fresh (fun g => stL [(0, (.c (.p (.int .i64 a0))))] [] (g + 1)) ?_ (fun g => ?_)
  · refine ren_go (fun g S => []) (fun g S => []) ?_ ?_ ?_ ?_ ?_
    all_goals try simp -implicitDefEqProofs +decide only [go_sem, Nat.reduceAdd, Int.reduceToNat]
    all_goals first | done | trivial | omega | (simp [maps, go_sem]; done) | (simp [maps, go_sem] <;> omega)
  refine seq_reg rfl (fun K hK => ?_)
  simp -implicitDefEqProofs +decide only [go_sem, Nat.reduceAdd, Int.reduceToNat]
  refine hK _ ?_
  refine seq_reg rfl (fun K hK => ?_)
  rcases hb1 : (decide (a0 ≥ 104)) with _ | _
  · replace h : some false = some res := by first | exact h | (rw [and_f hb1] at h; exact h)
    simp -implicitDefEqProofs +decide only [go_sem, Nat.reduceAdd, Int.reduceToNat, hb1]
    refine hK _ ?_
    refine swp_ret ?_
    with_reducible repeat (first | refine nn ?_ | refine nb ?_ | refine nr ?_ | refine nc ?_ | refine ne ?_ | refine nq ?_ | refine nx rfl ?_)
    obtain rfl := some_eq h
    simp -implicitDefEqProofs +decide only [go_sem, Nat.reduceAdd, Int.reduceToNat]
    all_goals first | done | trivial | (simp [maps]; done)
  · replace h : some (decide (a0 < 256)) = some res := by first | exact h | (rw [and_t hb1] at h; exact h)
    simp -implicitDefEqProofs +decide only [go_sem, Nat.reduceAdd, Int.reduceToNat, hb1]
    refine hK _ ?_
    refine swp_ret ?_
    with_reducible repeat (first | refine nn ?_ | refine nb ?_ | refine nr ?_ | refine nc ?_ | refine ne ?_ | refine nq ?_ | refine nx rfl ?_)
    obtain rfl := some_eq h
    simp -implicitDefEqProofs +decide only [go_sem, Nat.reduceAdd, Int.reduceToNat]
    all_goals first | done | trivial | (simp [maps]; done)
end Go.Sh
end
section
namespace Go.Sh
open Go.Proofs
set_option linter.unusedVariables false
set_option linter.unusedSimpArgs false
set_option maxRecDepth 100000
set_option maxHeartbeats 4000000
noncomputable def pointer_Valid (a0 : pointer_Pointer) : Option Bool :=
  (pointer_inHeap a0.Line).bind fun v1 =>
  some (v1 && ((decide (a0.Gen ≥ 1)) && (decide (a0.Gen ≤ 16777215))))
theorem pointer_Valid_ok (G : Glob) (hG0 : G.glob 0 = some [(.int .i64 0), (.int .i64 0)]) (a0 : pointer_Pointer) (res : Bool) (h : pointer_Valid a0 = some res) : Spec Tryd.prog G 50 [.agg [.p (.int .i64 a0.Line), .p (.int .i64 a0.Gen)]] (fun r ios => r = .cell (.p (.bool res)) ∧ ios = []) := by
  rw [pointer_Valid] at h
  refine spec_of Tryd.mixed Tryd.func50 rfl rfl (by simp only [List.length]; decide +kernel) ?_
  refine swp_fresh (fun g => stL [(0, (.agg [(.p (.int .i64 a0.Line)), (.p (.int .i64 a0.Gen))]))] [] (g + 1)) ?_ (fun g => ?_)
  · refine ren_go (fun g S => []) (fun g S => []) ?_ ?_ ?_ ?_ ?_
    all_goals try simp -implicitDefEqProofs +decide only [go_sem, Nat.reduceAdd, Int.reduceToNat]
    all_goals first | done | trivial | omega | (simp [maps, go_sem]; done) | (simp [maps, go_sem] <;> omega)
  refine seq_reg rfl (fun K hK => ?_)
  simp -implicitDefEqProofs +decide only [go_sem, Nat.reduceAdd, Int.reduceToNat]
  refine hK _ ?_
  refine seq_reg rfl (fun K hK => ?_)
  refine bind_of h (fun v1 hv1 h => ?_)
  simp -implicitDefEqProofs +decide only [go_sem, Nat.reduceAdd, Int.reduceToNat]
  refine call_go [0] false (pointer_inHeap_ok ⟨G.glob, noCaps⟩ hG0 a0.Line _ hv1) (by simp -implicitDefEqProofs +decide only [go_sem, Nat.reduceAdd, Int.reduceToNat]; rfl) (by first | rfl | (simp [maps]; done)) ?_
  rcases hb2 : v1 with _ | _
  · replace h : some false = some res := by first | exact h | (rw [and_f hb2] at h; exact h)
    simp -implicitDefEqProofs +decide only [go_sem, Nat.reduceAdd, Int.reduceToNat, hb2]
    refine hK _ ?_
    refine swp_ret ?_
    with_reducible repeat (first | refine nn ?_ | refine nb ?_ | refine nr ?_ | refine nc ?_ | refine ne ?_ | refine nq ?_ | refine nx rfl ?_)
    obtain rfl := some_eq h
    simp -implicitDefEqProofs +decide only [go_sem, Nat.reduceAdd, Int.reduceToNat]
    all_goals first | done | trivial | (simp [maps]; done)
  · replace h : some ((decide (a0.Gen ≥ 1)) && (decide (a0.Gen ≤ 16777215))) = some res := by first | exact h | (rw [and_t hb2] at h; exact h)
    rcases hb3 : (decide (a0.Gen ≥ 1)) with _ | _
    · replace h : some false = some res := by first | exact h | (rw [and_f hb3] at h; exact h)
      simp -implicitDefEqProofs +decide only [go_sem, Nat.reduceAdd, Int.reduceToNat, hb2, hb3]
      refine hK _ ?_
      refine swp_ret ?_
      with_reducible repeat (first | refine nn ?_ | refine nb ?_ | refine nr ?_ | refine nc ?_ | refine ne ?_ | refine nq ?_ | refine nx rfl ?_)
      obtain rfl := some_eq h
      simp -implicitDefEqProofs +decide only [go_sem, Nat.reduceAdd, Int.reduceToNat]
      all_goals first | done | trivial | (simp [maps]; done)
    · replace h : some (decide (a0.Gen ≤ 16777215)) = some res := by first | exact h | (rw [and_t hb3] at h; exact h)
      simp -implicitDefEqProofs +decide only [go_sem, Nat.reduceAdd, Int.reduceToNat, hb2, hb3]
      refine hK _ ?_
      refine swp_ret ?_
      with_reducible repeat (first | refine nn ?_ | refine nb ?_ | refine nr ?_ | refine nc ?_ | refine ne ?_ | refine nq ?_ | refine nx rfl ?_)
      obtain rfl := some_eq h
      simp -implicitDefEqProofs +decide only [go_sem, Nat.reduceAdd, Int.reduceToNat]
      all_goals first | done | trivial | (simp [maps]; done)
end Go.Sh
end
section
namespace Go.Sh
open Go.Proofs
set_option linter.unusedVariables false
set_option linter.unusedSimpArgs false
set_option maxRecDepth 100000
set_option maxHeartbeats 4000000
noncomputable def pointer_Pack (a0 : pointer_Pointer) : Option Int :=
  (pointer_Valid a0).bind fun v3 =>
  if (!v3) = true then
    some 0
  else
    some (bits .or .u32 (shlV .u32 (IntKind.u32.wrap a0.Gen) 8) (IntKind.u32.wrap a0.Line))
theorem pointer_Pack_ok (G : Glob) (hG0 : G.glob 0 = some [(.int .i64 0), (.int .i64 0)]) (a0 : pointer_Pointer) (res : Int) (h : pointer_Pack a0 = some res) : Spec Tryd.prog G 31 [.agg [.p (.int .i64 a0.Line), .p (.int .i64 a0.Gen)]] (fun r ios => r = .cell (.p (.int .u32 res)) ∧ ios = []) := by
  rw [pointer_Pack] at h
  refine spec_of Tryd.mixed Tryd.func31 rfl rfl (by simp only [List.length]; decide +kernel) ?_
  refine swp_fresh (fun g => stL [(0, (.agg [(.p (.int .i64 a0.Line)), (.p (.int .i64 a0.Gen))]))] [] (g + 1)) ?_ (fun g => ?_)
  · refine ren_go (fun g S => []) (fun g S => []) ?_ ?_ ?_ ?_ ?_
    all_goals try simp -implicitDefEqProofs +decide only [go_sem, Nat.reduceAdd, Int.reduceToNat]
    all_goals first | done | trivial | omega | (simp [maps, go_sem]; done) | (simp [maps, go_sem] <;> omega)
  refine seq_reg rfl (fun K hK => ?_)
  simp -implicitDefEqProofs +decide only [go_sem, Nat.reduceAdd, Int.reduceToNat]
  refine hK _ ?_
  refine swp_seq ?_
  refine seq_reg rfl (fun K hK => ?_)
  refine bind_of h (fun v3 hv3 h => ?_)
  simp -implicitDefEqProofs +decide only [go_sem, Nat.reduceAdd, Int.reduceToNat]
  refine call_go [0] false (pointer_Valid_ok ⟨G.glob, noCaps⟩ hG0 a0 _ hv3) (by simp -implicitDefEqProofs +decide only [go_sem, Nat.reduceAdd, Int.reduceToNat]; rfl) (by first | rfl | (simp [maps]; done)) ?_
  simp -implicitDefEqProofs +decide only [go_sem, Nat.reduceAdd, Int.reduceToNat]
  refine hK _ ?_
  refine bsplit h (fun hb4 h => ?_) (fun hb4 h => ?_)
  · refine cond_t (by simp -implicitDefEqProofs +decide only [go_sem, hb4]) ?_
    refine seq_reg rfl (fun K hK => ?_)
    simp -implicitDefEqProofs +decide only [go_sem, Nat.reduceAdd, Int.reduceToNat, hb4]
    refine hK _ ?_
    refine swp_ret ?_
    with_reducible repeat (first | refine nn ?_ | refine nb ?_ | refine nr ?_ | refine nc ?_ | refine ne ?_ | refine nq ?_ | refine nx rfl ?_)
    obtain rfl := some_eq h
    simp -implicitDefEqProofs +decide only [go_sem, Nat.reduceAdd, Int.reduceToNat]
    all_goals first | done | trivial | (simp [maps]; done)
  · refine cond_f (by simp -implicitDefEqProofs +decide only [go_sem, hb4]) ?_
    refine swp_skip ?_
    with_reducible repeat (first | refine nn ?_ | refine nb ?_ | refine nr ?_ | refine nc ?_ | refine ne ?_ | refine nq ?_ | refine nx rfl ?_)
    refine seq_reg rfl (fun K hK => ?_)
    simp -implicitDefEqProofs +decide only [go_sem, Nat.reduceAdd, Int.reduceToNat, hb4]
    refine hK _ ?_
    refine swp_ret ?_
    with_reducible repeat (first | refine nn ?_ | refine nb ?_ | refine nr ?_ | refine nc ?_ | refine ne ?_ | refine nq ?_ | refine nx rfl ?_)
    obtain rfl := some_eq h
    simp -implicitDefEqProofs +decide only [go_sem, Nat.reduceAdd, Int.reduceToNat]
    all_goals first | done | trivial | (simp [maps]; done)
end Go.Sh
end
section
namespace Go.Sh
open Go.Proofs
set_option linter.unusedVariables false
set_option linter.unusedSimpArgs false
set_option maxRecDepth 100000
set_option maxHeartbeats 4000000
noncomputable def pointer_Unpack (a0 : Int) : Option pointer_Pointer :=
  some (⟨(IntKind.i64.wrap (bits .and .u32 a0 255)), (IntKind.i64.wrap (shrV .u32 a0 8))⟩ : pointer_Pointer)
theorem pointer_Unpack_ok (G : Glob) (hG0 : G.glob 0 = some [(.int .i64 0), (.int .i64 0)]) (a0 : Int) (res : pointer_Pointer) (h : pointer_Unpack a0 = some res) : Spec Tryd.prog G 45 [.cell (.p (.int .u32 a0))] (fun r ios => r = .agg [.p (.int .i64 res.Line), .p (.int .i64 res.Gen)] ∧ ios = []) := by
  rw [pointer_Unpack] at h
  refine spec_of Tryd.mixed Tryd.func45 rfl rfl (by simp only [List.length]; decide +kernel) ?_
  refine swp_fresh (fun g => stL [(0, (.c (.p (.int .u32 a0))))] [] (g + 1)) ?_ (fun g => ?_)
  · refine ren_go (fun g S => []) (fun g S => []) ?_ ?_ ?_ ?_ ?_
    all_goals try simp -implicitDefEqProofs +decide only [go_sem, Nat.reduceAdd, Int.reduceToNat]
    all_goals first | done | trivial | omega | (simp [maps, go_sem]; done) | (simp [maps, go_sem] <;> omega)
  refine seq_reg rfl (fun K hK => ?_)
  simp -implicitDefEqProofs +decide only [go_sem, Nat.reduceAdd, Int.reduceToNat]
  refine hK _ ?_
  refine seq_reg rfl (fun K hK => ?_)
  simp -implicitDefEqProofs +decide only [go_sem, Nat.reduceAdd, Int.reduceToNat]
  refine hK _ ?_
  refine swp_ret ?_
  with_reducible repeat (first | refine nn ?_ | refine nb ?_ | refine nr ?_ | refine nc ?_ | refine ne ?_ | refine nq ?_ | refine nx rfl ?_)
  obtain rfl := some_eq h
  simp -implicitDefEqProofs +decide only [go_sem, Nat.reduceAdd, Int.reduceToNat]
  all_goals first | done | trivial | (simp [maps]; done)
end Go.Sh
end
section
namespace Go.Sh
open Go.Proofs
set_option linter.unusedVariables false
set_option linter.unusedSimpArgs false
set_option maxRecDepth 100000
set_option maxHeartbeats 4000000
noncomputable def hashindex_unpack (a0 : Int) : Option (pointer_Pointer × Bool) :=
  (pointer_Unpack a0).bind fun v1 =>
  if (a0 == 0) = true then
    some (v1, true)
  else
    (pointer_Valid v1).bind fun v3 =>
    some (v1, v3)
theorem hashindex_unpack_ok (G : Glob) (hG0 : G.glob 0 = some [(.int .i64 0), (.int .i64 0)]) (a0 : Int) (res : (pointer_Pointer × Bool)) (h : hashindex_unpack a0 = some res) : Spec Tryd.prog G 27 [.cell (.p (.int .u32 a0))] (fun r ios => r = .tup [.agg [.p (.int .i64 res.1.Line), .p (.int .i64 res.1.Gen)], .cell (.p (.bool res.2))] ∧ ios = []) := by
  rw [hashindex_unpack] at h
  refine spec_of Tryd.mixed Tryd.func27 rfl rfl (by simp only [List.length]; decide +kernel) ?_
  refine swp_fresh (fun g => stL [(0, (.c (.p (.int .u32 a0))))] [] (g + 1)) ?_ (fun g => ?_)
  · refine ren_go (fun g S => []) (fun g S => []) ?_ ?_ ?_ ?_ ?_
    all_goals try simp -implicitDefEqProofs +decide only [go_sem, Nat.reduceAdd, Int.reduceToNat]
    all_goals first | done | trivial | omega | (simp [maps, go_sem]; done) | (simp [maps, go_sem] <;> omega)
  refine seq_reg rfl (fun K hK => ?_)
  simp -implicitDefEqProofs +decide only [go_sem, Nat.reduceAdd, Int.reduceToNat]
  refine hK _ ?_
  refine seq_reg rfl (fun K hK => ?_)
  refine bind_of h (fun v1 hv1 h => ?_)
  simp -implicitDefEqProofs +decide only [go_sem, Nat.reduceAdd, Int.reduceToNat]
  refine call_go [0] false (pointer_Unpack_ok ⟨G.glob, noCaps⟩ hG0 a0 _ hv1) (by simp -implicitDefEqProofs +decide only [go_sem, Nat.reduceAdd, Int.reduceToNat]; rfl) (by first | rfl | (simp [maps]; done)) ?_
  simp -implicitDefEqProofs +decide only [go_sem, Nat.reduceAdd, Int.reduceToNat]
  refine hK _ ?_
  refine seq_drw rfl (fun K hK => ?_)
  refine bsplit h (fun hb2 h => ?_) (fun hb2 h => ?_)
  · simp -implicitDefEqProofs +decide only [go_sem, Nat.reduceAdd, Int.reduceToNat, hb2]
    refine draw_go (by kernel_rfl) ?_
    refine hK _ ?_
    refine swp_ret ?_
    with_reducible repeat (first | refine nn ?_ | refine nb ?_ | refine nr ?_ | refine nc ?_ | refine ne ?_ | refine nq ?_ | refine nx rfl ?_)
    obtain rfl := some_eq h
    simp -implicitDefEqProofs +decide only [go_sem, Nat.reduceAdd, Int.reduceToNat]
    all_goals first | done | trivial | (simp [maps]; done)
  · refine bind_of h (fun v3 hv3 h => ?_)
    simp -implicitDefEqProofs +decide only [go_sem, Nat.reduceAdd, Int.reduceToNat, hb2]
    refine call_go [0] false (pointer_Valid_ok ⟨G.glob, noCaps⟩ hG0 v1 _ hv3) (by simp -implicitDefEqProofs +decide only [go_sem, Nat.reduceAdd, Int.reduceToNat, hb2]; rfl) (by first | rfl | (simp [maps, hb2]; done)) ?_
    simp -implicitDefEqProofs +decide only [go_sem, Nat.reduceAdd, Int.reduceToNat, hb2]
    refine draw_go (by kernel_rfl) ?_
    refine hK _ ?_
    refine swp_ret ?_
    with_reducible repeat (first | refine nn ?_ | refine nb ?_ | refine nr ?_ | refine nc ?_ | refine ne ?_ | refine nq ?_ | refine nx rfl ?_)
    obtain rfl := some_eq h
    simp -implicitDefEqProofs +decide only [go_sem, Nat.reduceAdd, Int.reduceToNat]
    all_goals first | done | trivial | (simp [maps]; done)
end Go.Sh
end
section
namespace Go.Sh
open Go.Proofs
set_option linter.unusedVariables false
set_option linter.unusedSimpArgs false
set_option maxRecDepth 100000
set_option maxHeartbeats 4000000
noncomputable def hashindex_isField (a0 : pointer_Pointer) : Option Bool :=
  if ((a0.Line == 0) && (a0.Gen == 0)) = true then
    some true
  else
    (pointer_Valid a0).bind fun v2 =>
    some v2
theorem hashindex_isField_ok (G : Glob) (hG0 : G.glob 0 = some [(.int .i64 0), (.int .i64 0)]) (a0 : pointer_Pointer) (res : Bool) (h : hashindex_isField a0 = some res) : Spec Tryd.prog G 40 [.agg [.p (.int .i64 a0.Line), .p (.int .i64 a0.Gen)]] (fun r ios => r = .cell (.p (.bool res)) ∧ ios = []) := by
  rw [hashindex_isField] at h
  refine spec_of Tryd.mixed Tryd.func40 rfl rfl (by simp only [List.length]; decide +kernel) ?_
  refine swp_fresh (fun g => stL [(0, (.agg [(.p (.int .i64 a0.Line)), (.p (.int .i64 a0.Gen))]))] [] (g + 1)) ?_ (fun g => ?_)
  · refine ren_go (fun g S => []) (fun g S => []) ?_ ?_ ?_ ?_ ?_
    all_goals try simp -implicitDefEqProofs +decide only [go_sem, Nat.reduceAdd, Int.reduceToNat]
    all_goals first | done | trivial | omega | (simp [maps, go_sem]; done) | (simp [maps, go_sem] <;> omega)
  refine seq_reg rfl (fun K hK => ?_)
  simp -implicitDefEqProofs +decide only [go_sem, Nat.reduceAdd, Int.reduceToNat]
  refine hK _ ?_
  refine seq_reg rfl (fun K hK => ?_)
  refine bsplit h (fun hb1 h => ?_) (fun hb1 h => ?_)
  · simp -implicitDefEqProofs +decide only [go_sem, Nat.reduceAdd, Int.reduceToNat, hG0, hb1]
    refine hK _ ?_
    refine swp_ret ?_
    with_reducible repeat (first | refine nn ?_ | refine nb ?_ | refine nr ?_ | refine nc ?_ | refine ne ?_ | refine nq ?_ | refine nx rfl ?_)
    obtain rfl := some_eq h
    simp -implicitDefEqProofs +decide only [go_sem, Nat.reduceAdd, Int.reduceToNat]
    all_goals first | done | trivial | (simp [maps]; done)
  · refine bind_of h (fun v2 hv2 h => ?_)
    simp -implicitDefEqProofs +decide only [go_sem, Nat.reduceAdd, Int.reduceToNat, hG0, hb1]
    refine call_go [0] false (pointer_Valid_ok ⟨G.glob, noCaps⟩ hG0 a0 _ hv2) (by simp -implicitDefEqProofs +decide only [go_sem, Nat.reduceAdd, Int.reduceToNat, hb1]; rfl) (by first | rfl | (simp [maps, hb1]; done)) ?_
    simp -implicitDefEqProofs +decide only [go_sem, Nat.reduceAdd, Int.reduceToNat, hG0, hb1]
    refine hK _ ?_
    refine swp_ret ?_
    with_reducible repeat (first | refine nn ?_ | refine nb ?_ | refine nr ?_ | refine nc ?_ | refine ne ?_ | refine nq ?_ | refine nx rfl ?_)
    obtain rfl := some_eq h
    simp -implicitDefEqProofs +decide only [go_sem, Nat.reduceAdd, Int.reduceToNat]
    all_goals first | done | trivial | (simp [maps]; done)
end Go.Sh
end
section
namespace Go.Sh
open Go.Proofs
set_option linter.unusedVariables false
set_option linter.unusedSimpArgs false
set_option maxRecDepth 100000
set_option maxHeartbeats 4000000
noncomputable def bodegaref19_heapLine (a0 : Int) : Option Bool :=
  some ((decide (a0 ≥ 104)) && (decide (a0 < 256)))
theorem bodegaref19_heapLine_ok (G : Glob) (hG0 : G.glob 0 = some [(.int .i64 0), (.int .i64 0)]) (a0 : Int) (res : Bool) (h : bodegaref19_heapLine a0 = some res) : Spec Tryd.prog G 61 [.cell (.p (.int .i64 a0))] (fun r ios => r = .cell (.p (.bool res)) ∧ ios = []) := by
  rw [bodegaref19_heapLine] at h
  refine spec_of Tryd.mixed Tryd.func61 rfl rfl (by simp only [List.length]; decide +kernel) ?_
  refine swp_fresh (fun g => stL [(0, (.c (.p (.int .i64 a0))))] [] (g + 1)) ?_ (fun g => ?_)
  · refine ren_go (fun g S => []) (fun g S => []) ?_ ?_ ?_ ?_ ?_
    all_goals try simp -implicitDefEqProofs +decide only [go_sem, Nat.reduceAdd, Int.reduceToNat]
    all_goals first | done | trivial | omega | (simp [maps, go_sem]; done) | (simp [maps, go_sem] <;> omega)
  refine seq_reg rfl (fun K hK => ?_)
  simp -implicitDefEqProofs +decide only [go_sem, Nat.reduceAdd, Int.reduceToNat]
  refine hK _ ?_
  refine seq_reg rfl (fun K hK => ?_)
  rcases hb1 : (decide (a0 ≥ 104)) with _ | _
  · replace h : some false = some res := by first | exact h | (rw [and_f hb1] at h; exact h)
    simp -implicitDefEqProofs +decide only [go_sem, Nat.reduceAdd, Int.reduceToNat, hb1]
    refine hK _ ?_
    refine swp_ret ?_
    with_reducible repeat (first | refine nn ?_ | refine nb ?_ | refine nr ?_ | refine nc ?_ | refine ne ?_ | refine nq ?_ | refine nx rfl ?_)
    obtain rfl := some_eq h
    simp -implicitDefEqProofs +decide only [go_sem, Nat.reduceAdd, Int.reduceToNat]
    all_goals first | done | trivial | (simp [maps]; done)
  · replace h : some (decide (a0 < 256)) = some res := by first | exact h | (rw [and_t hb1] at h; exact h)
    simp -implicitDefEqProofs +decide only [go_sem, Nat.reduceAdd, Int.reduceToNat, hb1]
    refine hK _ ?_
    refine swp_ret ?_
    with_reducible repeat (first | refine nn ?_ | refine nb ?_ | refine nr ?_ | refine nc ?_ | refine ne ?_ | refine nq ?_ | refine nx rfl ?_)
    obtain rfl := some_eq h
    simp -implicitDefEqProofs +decide only [go_sem, Nat.reduceAdd, Int.reduceToNat]
    all_goals first | done | trivial | (simp [maps]; done)
end Go.Sh
end
section
namespace Go.Sh
open Go.Proofs
set_option linter.unusedVariables false
set_option linter.unusedSimpArgs false
set_option maxRecDepth 100000
set_option maxHeartbeats 4000000
noncomputable def bodegaref19_ValidPointer (a0 : bodegaref19_Pointer) : Option Bool :=
  (bodegaref19_heapLine a0.Line).bind fun v1 =>
  some (v1 && ((decide (a0.Gen ≥ 1)) && (decide (a0.Gen ≤ 16777215))))
theorem bodegaref19_ValidPointer_ok (G : Glob) (hG0 : G.glob 0 = some [(.int .i64 0), (.int .i64 0)]) (a0 : bodegaref19_Pointer) (res : Bool) (h : bodegaref19_ValidPointer a0 = some res) : Spec Tryd.prog G 52 [.agg [.p (.int .i64 a0.Line), .p (.int .i64 a0.Gen)]] (fun r ios => r = .cell (.p (.bool res)) ∧ ios = []) := by
  rw [bodegaref19_ValidPointer] at h
  refine spec_of Tryd.mixed Tryd.func52 rfl rfl (by simp only [List.length]; decide +kernel) ?_
  refine swp_fresh (fun g => stL [(0, (.agg [(.p (.int .i64 a0.Line)), (.p (.int .i64 a0.Gen))]))] [] (g + 1)) ?_ (fun g => ?_)
  · refine ren_go (fun g S => []) (fun g S => []) ?_ ?_ ?_ ?_ ?_
    all_goals try simp -implicitDefEqProofs +decide only [go_sem, Nat.reduceAdd, Int.reduceToNat]
    all_goals first | done | trivial | omega | (simp [maps, go_sem]; done) | (simp [maps, go_sem] <;> omega)
  refine seq_reg rfl (fun K hK => ?_)
  simp -implicitDefEqProofs +decide only [go_sem, Nat.reduceAdd, Int.reduceToNat]
  refine hK _ ?_
  refine seq_reg rfl (fun K hK => ?_)
  refine bind_of h (fun v1 hv1 h => ?_)
  simp -implicitDefEqProofs +decide only [go_sem, Nat.reduceAdd, Int.reduceToNat]
  refine call_go [0] false (bodegaref19_heapLine_ok ⟨G.glob, noCaps⟩ hG0 a0.Line _ hv1) (by simp -implicitDefEqProofs +decide only [go_sem, Nat.reduceAdd, Int.reduceToNat]; rfl) (by first | rfl | (simp [maps]; done)) ?_
  rcases hb2 : v1 with _ | _
  · replace h : some false = some res := by first | exact h | (rw [and_f hb2] at h; exact h)
    simp -implicitDefEqProofs +decide only [go_sem, Nat.reduceAdd, Int.reduceToNat, hb2]
    refine hK _ ?_
    refine swp_ret ?_
    with_reducible repeat (first | refine nn ?_ | refine nb ?_ | refine nr ?_ | refine nc ?_ | refine ne ?_ | refine nq ?_ | refine nx rfl ?_)
    obtain rfl := some_eq h
    simp -implicitDefEqProofs +decide only [go_sem, Nat.reduceAdd, Int.reduceToNat]
    all_goals first | done | trivial | (simp [maps]; done)
  · replace h : some ((decide (a0.Gen ≥ 1)) && (decide (a0.Gen ≤ 16777215))) = some res := by first | exact h | (rw [and_t hb2] at h; exact h)
    rcases hb3 : (decide (a0.Gen ≥ 1)) with _ | _
    · replace h : some false = some res := by first | exact h | (rw [and_f hb3] at h; exact h)
      simp -implicitDefEqProofs +decide only [go_sem, Nat.reduceAdd, Int.reduceToNat, hb2, hb3]
      refine hK _ ?_
      refine swp_ret ?_
      with_reducible repeat (first | refine nn ?_ | refine nb ?_ | refine nr ?_ | refine nc ?_ | refine ne ?_ | refine nq ?_ | refine nx rfl ?_)
      obtain rfl := some_eq h
      simp -implicitDefEqProofs +decide only [go_sem, Nat.reduceAdd, Int.reduceToNat]
      all_goals first | done | trivial | (simp [maps]; done)
    · replace h : some (decide (a0.Gen ≤ 16777215)) = some res := by first | exact h | (rw [and_t hb3] at h; exact h)
      simp -implicitDefEqProofs +decide only [go_sem, Nat.reduceAdd, Int.reduceToNat, hb2, hb3]
      refine hK _ ?_
      refine swp_ret ?_
      with_reducible repeat (first | refine nn ?_ | refine nb ?_ | refine nr ?_ | refine nc ?_ | refine ne ?_ | refine nq ?_ | refine nx rfl ?_)
      obtain rfl := some_eq h
      simp -implicitDefEqProofs +decide only [go_sem, Nat.reduceAdd, Int.reduceToNat]
      all_goals first | done | trivial | (simp [maps]; done)
end Go.Sh
end
section
namespace Go.Sh
open Go.Proofs
set_option linter.unusedVariables false
set_option linter.unusedSimpArgs false
set_option maxRecDepth 100000
set_option maxHeartbeats 4000000
noncomputable def bodegaref19_Pack (a0 : bodegaref19_Pointer) : Option Int :=
  (bodegaref19_ValidPointer a0).bind fun v3 =>
  if (!v3) = true then
    some 0
  else
    some (IntKind.u32.wrap ((IntKind.u32.wrap a0.Line) + (IntKind.u32.wrap (256 * (IntKind.u32.wrap a0.Gen)))))
theorem bodegaref19_Pack_ok (G : Glob) (hG0 : G.glob 0 = some [(.int .i64 0), (.int .i64 0)]) (a0 : bodegaref19_Pointer) (res : Int) (h : bodegaref19_Pack a0 = some res) : Spec Tryd.prog G 32 [.agg [.p (.int .i64 a0.Line), .p (.int .i64 a0.Gen)]] (fun r ios => r = .cell (.p (.int .u32 res)) ∧ ios = []) := by
  rw [bodegaref19_Pack] at h
  refine spec_of Tryd.mixed Tryd.func32 rfl rfl (by simp only [List.length]; decide +kernel) ?_
  refine swp_fresh (fun g => stL [(0, (.agg [(.p (.int .i64 a0.Line)), (.p (.int .i64 a0.Gen))]))] [] (g + 1)) ?_ (fun g => ?_)
  · refine ren_go (fun g S => []) (fun g S => []) ?_ ?_ ?_ ?_ ?_
    all_goals try simp -implicitDefEqProofs +decide only [go_sem, Nat.reduceAdd, Int.reduceToNat]
    all_goals first | done | trivial | omega | (simp [maps, go_sem]; done) | (simp [maps, go_sem] <;> omega)
  refine seq_reg rfl (fun K hK => ?_)
  simp -implicitDefEqProofs +decide only [go_sem, Nat.reduceAdd, Int.reduceToNat]
  refine hK _ ?_
  refine swp_seq ?_
  refine seq_reg rfl (fun K hK => ?_)
  refine bind_of h (fun v3 hv3 h => ?_)
  simp -implicitDefEqProofs +decide only [go_sem, Nat.reduceAdd, Int.reduceToNat]
  refine call_go [0] false (bodegaref19_ValidPointer_ok ⟨G.glob, noCaps⟩ hG0 a0 _ hv3) (by simp -implicitDefEqProofs +decide only [go_sem, Nat.reduceAdd, Int.reduceToNat]; rfl) (by first | rfl | (simp [maps]; done)) ?_
  simp -implicitDefEqProofs +decide only [go_sem, Nat.reduceAdd, Int.reduceToNat]
  refine hK _ ?_
  refine bsplit h (fun hb4 h => ?_) (fun hb4 h => ?_)
  · refine cond_t (by simp -implicitDefEqProofs +decide only [go_sem, hb4]) ?_
    refine seq_reg rfl (fun K hK => ?_)
    simp -implicitDefEqProofs +decide only [go_sem, Nat.reduceAdd, Int.reduceToNat, hb4]
    refine hK _ ?_
    refine swp_ret ?_
    with_reducible repeat (first | refine nn ?_ | refine nb ?_ | refine nr ?_ | refine nc ?_ | refine ne ?_ | refine nq ?_ | refine nx rfl ?_)
    obtain rfl := some_eq h
    simp -implicitDefEqProofs +decide only [go_sem, Nat.reduceAdd, Int.reduceToNat]
    all_goals first | done | trivial | (simp [maps]; done)
  · refine cond_f (by simp -implicitDefEqProofs +decide only [go_sem, hb4]) ?_
    refine swp_skip ?_
    with_reducible repeat (first | refine nn ?_ | refine nb ?_ | refine nr ?_ | refine nc ?_ | refine ne ?_ | refine nq ?_ | refine nx rfl ?_)
    refine seq_reg rfl (fun K hK => ?_)
    simp -implicitDefEqProofs +decide only [go_sem, Nat.reduceAdd, Int.reduceToNat, hb4]
    refine hK _ ?_
    refine swp_ret ?_
    with_reducible repeat (first | refine nn ?_ | refine nb ?_ | refine nr ?_ | refine nc ?_ | refine ne ?_ | refine nq ?_ | refine nx rfl ?_)
    obtain rfl := some_eq h
    simp -implicitDefEqProofs +decide only [go_sem, Nat.reduceAdd, Int.reduceToNat]
    all_goals first | done | trivial | (simp [maps]; done)
end Go.Sh
end
section
namespace Go.Sh
open Go.Proofs
set_option linter.unusedVariables false
set_option linter.unusedSimpArgs false
set_option maxRecDepth 100000
set_option maxHeartbeats 4000000
noncomputable def bodegaref19_Unpack (a0 : Int) : Option bodegaref19_Pointer :=
  some (⟨(IntKind.i64.wrap (Int.tmod a0 256)), (IntKind.i64.wrap (IntKind.u32.wrap (Int.tdiv a0 256)))⟩ : bodegaref19_Pointer)
theorem bodegaref19_Unpack_ok (G : Glob) (hG0 : G.glob 0 = some [(.int .i64 0), (.int .i64 0)]) (a0 : Int) (res : bodegaref19_Pointer) (h : bodegaref19_Unpack a0 = some res) : Spec Tryd.prog G 48 [.cell (.p (.int .u32 a0))] (fun r ios => r = .agg [.p (.int .i64 res.Line), .p (.int .i64 res.Gen)] ∧ ios = []) := by
  rw [bodegaref19_Unpack] at h
  refine spec_of Tryd.mixed Tryd.func48 rfl rfl (by simp only [List.length]; decide +kernel) ?_
  refine swp_fresh (fun g => stL [(0, (.c (.p (.int .u32 a0))))] [] (g + 1)) ?_ (fun g => ?_)
  · refine ren_go (fun g S => []) (fun g S => []) ?_ ?_ ?_ ?_ ?_
    all_goals try simp -implicitDefEqProofs +decide only [go_sem, Nat.reduceAdd, Int.reduceToNat]
    all_goals first | done | trivial | omega | (simp [maps, go_sem]; done) | (simp [maps, go_sem] <;> omega)
  refine seq_reg rfl (fun K hK => ?_)
  simp -implicitDefEqProofs +decide only [go_sem, Nat.reduceAdd, Int.reduceToNat]
  refine hK _ ?_
  refine seq_reg rfl (fun K hK => ?_)
  simp -implicitDefEqProofs +decide only [go_sem, Nat.reduceAdd, Int.reduceToNat]
  refine hK _ ?_
  refine swp_ret ?_
  with_reducible repeat (first | refine nn ?_ | refine nb ?_ | refine nr ?_ | refine nc ?_ | refine ne ?_ | refine nq ?_ | refine nx rfl ?_)
  obtain rfl := some_eq h
  simp -implicitDefEqProofs +decide only [go_sem, Nat.reduceAdd, Int.reduceToNat]
  all_goals first | done | trivial | (simp [maps]; done)
end Go.Sh
end
section
namespace Go.Sh
open Go.Proofs
set_option linter.unusedVariables false
set_option linter.unusedSimpArgs false
set_option maxRecDepth 100000
set_option maxHeartbeats 4000000
noncomputable def bodegaref23_pointer (a0 : Int) : Option (bodegaref19_Pointer × Bool) :=
  (bodegaref19_Unpack (IntKind.u32.wrap a0)).bind fun v1 =>
  if ((IntKind.u32.wrap a0) == 0) = true then
    some ((⟨0, 0⟩ : bodegaref19_Pointer), true)
  else
    (bodegaref19_ValidPointer v1).bind fun v4 =>
    some (v1, v4)
theorem bodegaref23_pointer_ok (G : Glob) (hG0 : G.glob 0 = some [(.int .i64 0), (.int .i64 0)]) (a0 : Int) (res : (bodegaref19_Pointer × Bool)) (h : bodegaref23_pointer a0 = some res) : Spec Tryd.prog G 29 [.cell (.p (.int .u64 a0))] (fun r ios => r = .tup [.agg [.p (.int .i64 res.1.Line), .p (.int .i64 res.1.Gen)], .cell (.p (.bool res.2))] ∧ ios = []) := by
  rw [bodegaref23_pointer] at h
  refine spec_of Tryd.mixed Tryd.func29 rfl rfl (by simp only [List.length]; decide +kernel) ?_
  refine swp_fresh (fun g => stL [(0, (.c (.p (.int .u64 a0))))] [] (g + 1)) ?_ (fun g => ?_)
  · refine ren_go (fun g S => []) (fun g S => []) ?_ ?_ ?_ ?_ ?_
    all_goals try simp -implicitDefEqProofs +decide only [go_sem, Nat.reduceAdd, Int.reduceToNat]
    all_goals first | done | trivial | omega | (simp [maps, go_sem]; done) | (simp [maps, go_sem] <;> omega)
  refine seq_reg rfl (fun K hK => ?_)
  simp -implicitDefEqProofs +decide only [go_sem, Nat.reduceAdd, Int.reduceToNat]
  refine hK _ ?_
  refine seq_reg rfl (fun K hK => ?_)
  refine bind_of h (fun v1 hv1 h => ?_)
  simp -implicitDefEqProofs +decide only [go_sem, Nat.reduceAdd, Int.reduceToNat]
  refine call_go [0] false (bodegaref19_Unpack_ok ⟨G.glob, noCaps⟩ hG0 (IntKind.u32.wrap a0) _ hv1) (by simp -implicitDefEqProofs +decide only [go_sem, Nat.reduceAdd, Int.reduceToNat]; rfl) (by first | rfl | (simp [maps]; done)) ?_
  simp -implicitDefEqProofs +decide only [go_sem, Nat.reduceAdd, Int.reduceToNat]
  refine hK _ ?_
  refine swp_seq ?_
  refine seq_reg rfl (fun K hK => ?_)
  simp -implicitDefEqProofs +decide only [go_sem, Nat.reduceAdd, Int.reduceToNat]
  refine hK _ ?_
  refine bsplit h (fun hb3 h => ?_) (fun hb3 h => ?_)
  · refine cond_t (by simp -implicitDefEqProofs +decide only [go_sem, hb3]) ?_
    refine seq_reg rfl (fun K hK => ?_)
    simp -implicitDefEqProofs +decide only [go_sem, Nat.reduceAdd, Int.reduceToNat, hb3]
    refine hK _ ?_
    refine swp_ret ?_
    with_reducible repeat (first | refine nn ?_ | refine nb ?_ | refine nr ?_ | refine nc ?_ | refine ne ?_ | refine nq ?_ | refine nx rfl ?_)
    obtain rfl := some_eq h
    simp -implicitDefEqProofs +decide only [go_sem, Nat.reduceAdd, Int.reduceToNat]
    all_goals first | done | trivial | (simp [maps]; done)
  · refine cond_f (by simp -implicitDefEqProofs +decide only [go_sem, hb3]) ?_
    refine swp_skip ?_
    with_reducible repeat (first | refine nn ?_ | refine nb ?_ | refine nr ?_ | refine nc ?_ | refine ne ?_ | refine nq ?_ | refine nx rfl ?_)
    refine seq_drw rfl (fun K hK => ?_)
    refine bind_of h (fun v4 hv4 h => ?_)
    simp -implicitDefEqProofs +decide only [go_sem, Nat.reduceAdd, Int.reduceToNat, hb3]
    refine call_go [0] false (bodegaref19_ValidPointer_ok ⟨G.glob, noCaps⟩ hG0 v1 _ hv4) (by simp -implicitDefEqProofs +decide only [go_sem, Nat.reduceAdd, Int.reduceToNat, hb3]; rfl) (by first | rfl | (simp [maps, hb3]; done)) ?_
    simp -implicitDefEqProofs +decide only [go_sem, Nat.reduceAdd, Int.reduceToNat, hb3]
    refine draw_go (by kernel_rfl) ?_
    refine hK _ ?_
    refine swp_ret ?_
    with_reducible repeat (first | refine nn ?_ | refine nb ?_ | refine nr ?_ | refine nc ?_ | refine ne ?_ | refine nq ?_ | refine nx rfl ?_)
    obtain rfl := some_eq h
    simp -implicitDefEqProofs +decide only [go_sem, Nat.reduceAdd, Int.reduceToNat]
    all_goals first | done | trivial | (simp [maps]; done)
end Go.Sh
end
section
namespace Go.Sh
open Go.Proofs
set_option linter.unusedVariables false
set_option linter.unusedSimpArgs false
set_option maxRecDepth 100000
set_option maxHeartbeats 4000000
noncomputable def bodegaref23_good (a0 : bodegaref19_Pointer) : Option Bool :=
  if ((a0.Line == 0) && (a0.Gen == 0)) = true then
    some true
  else
    (bodegaref19_ValidPointer a0).bind fun v2 =>
    some v2
theorem bodegaref23_good_ok (G : Glob) (hG0 : G.glob 0 = some [(.int .i64 0), (.int .i64 0)]) (a0 : bodegaref19_Pointer) (res : Bool) (h : bodegaref23_good a0 = some res) : Spec Tryd.prog G 43 [.agg [.p (.int .i64 a0.Line), .p (.int .i64 a0.Gen)]] (fun r ios => r = .cell (.p (.bool res)) ∧ ios = []) := by
  rw [bodegaref23_good] at h
  refine spec_of Tryd.mixed Tryd.func43 rfl rfl (by simp only [List.length]; decide +kernel) ?_
  refine swp_fresh (fun g => stL [(0, (.agg [(.p (.int .i64 a0.Line)), (.p (.int .i64 a0.Gen))]))] [] (g + 1)) ?_ (fun g => ?_)
  · refine ren_go (fun g S => []) (fun g S => []) ?_ ?_ ?_ ?_ ?_
    all_goals try simp -implicitDefEqProofs +decide only [go_sem, Nat.reduceAdd, Int.reduceToNat]
    all_goals first | done | trivial | omega | (simp [maps, go_sem]; done) | (simp [maps, go_sem] <;> omega)
  refine seq_reg rfl (fun K hK => ?_)
  simp -implicitDefEqProofs +decide only [go_sem, Nat.reduceAdd, Int.reduceToNat]
  refine hK _ ?_
  refine seq_reg rfl (fun K hK => ?_)
  refine bsplit h (fun hb1 h => ?_) (fun hb1 h => ?_)
  · simp -implicitDefEqProofs +decide only [go_sem, Nat.reduceAdd, Int.reduceToNat, hb1]
    refine hK _ ?_
    refine swp_ret ?_
    with_reducible repeat (first | refine nn ?_ | refine nb ?_ | refine nr ?_ | refine nc ?_ | refine ne ?_ | refine nq ?_ | refine nx rfl ?_)
    obtain rfl := some_eq h
    simp -implicitDefEqProofs +decide only [go_sem, Nat.reduceAdd, Int.reduceToNat]
    all_goals first | done | trivial | (simp [maps]; done)
  · refine bind_of h (fun v2 hv2 h => ?_)
    simp -implicitDefEqProofs +decide only [go_sem, Nat.reduceAdd, Int.reduceToNat, hb1]
    refine call_go [0] false (bodegaref19_ValidPointer_ok ⟨G.glob, noCaps⟩ hG0 a0 _ hv2) (by simp -implicitDefEqProofs +decide only [go_sem, Nat.reduceAdd, Int.reduceToNat, hb1]; rfl) (by first | rfl | (simp [maps, hb1]; done)) ?_
    simp -implicitDefEqProofs +decide only [go_sem, Nat.reduceAdd, Int.reduceToNat, hb1]
    refine hK _ ?_
    refine swp_ret ?_
    with_reducible repeat (first | refine nn ?_ | refine nb ?_ | refine nr ?_ | refine nc ?_ | refine ne ?_ | refine nq ?_ | refine nx rfl ?_)
    obtain rfl := some_eq h
    simp -implicitDefEqProofs +decide only [go_sem, Nat.reduceAdd, Int.reduceToNat]
    all_goals first | done | trivial | (simp [maps]; done)
end Go.Sh
end
section
namespace Go.Sh
open Go.Proofs
set_option linter.unusedVariables false
set_option linter.unusedSimpArgs false
set_option maxRecDepth 100000
set_option maxHeartbeats 4000000
noncomputable def bodegahand_Pick (a0 : Int) (a1 : Int) : Option Int :=
  if (decide (a1 < 1)) = true then
    some 0
  else
    if ¬ a1 = 0 then
      if ¬ a1 = 0 then
        some (Int.tmod (IntKind.i64.wrap ((Int.tmod a0 a1) + a1)) a1)
      else none
    else none
theorem bodegahand_Pick_ok (G : Glob) (hG0 : G.glob 0 = some [(.int .i64 0), (.int .i64 0)]) (a0 : Int) (a1 : Int) (res : Int) (h : bodegahand_Pick a0 a1 = some res) : Spec Tryd.prog G 6 [.cell (.p (.int .i64 a0)), .cell (.p (.int .i64 a1))] (fun r ios => r = .cell (.p (.int .i64 res)) ∧ ios = []) := by
  rw [bodegahand_Pick] at h
  refine spec_of Tryd.mixed Tryd.func6 rfl rfl (by simp only [List.length]; decide +kernel) ?_
  refine swp_fresh (fun g => stL [(0, (.c (.p (.int .i64 a0)))), (1, (.c (.p (.int .i64 a1))))] [] (g + 1)) ?_ (fun g => ?_)
  · refine ren_go (fun g S => []) (fun g S => []) ?_ ?_ ?_ ?_ ?_
    all_goals try simp -implicitDefEqProofs +decide only [go_sem, Nat.reduceAdd, Int.reduceToNat]
    all_goals first | done | trivial | omega | (simp [maps, go_sem]; done) | (simp [maps, go_sem] <;> omega)
  refine seq_reg rfl (fun K hK => ?_)
  simp -implicitDefEqProofs +decide only [go_sem, Nat.reduceAdd, Int.reduceToNat]
  refine hK _ ?_
  refine swp_seq ?_
  refine seq_reg rfl (fun K hK => ?_)
  simp -implicitDefEqProofs +decide only [go_sem, Nat.reduceAdd, Int.reduceToNat]
  refine hK _ ?_
  refine bsplit h (fun hb2 h => ?_) (fun hb2 h => ?_)
  · refine cond_t (by simp -implicitDefEqProofs +decide only [go_sem, hb2]) ?_
    refine seq_reg rfl (fun K hK => ?_)
    simp -implicitDefEqProofs +decide only [go_sem, Nat.reduceAdd, Int.reduceToNat, hb2]
    refine hK _ ?_
    refine swp_ret ?_
    with_reducible repeat (first | refine nn ?_ | refine nb ?_ | refine nr ?_ | refine nc ?_ | refine ne ?_ | refine nq ?_ | refine nx rfl ?_)
    obtain rfl := some_eq h
    simp -implicitDefEqProofs +decide only [go_sem, Nat.reduceAdd, Int.reduceToNat]
    all_goals first | done | trivial | (simp [maps]; done)
  · refine cond_f (by simp -implicitDefEqProofs +decide only [go_sem, hb2]) ?_
    refine swp_skip ?_
    with_reducible repeat (first | refine nn ?_ | refine nb ?_ | refine nr ?_ | refine nc ?_ | refine ne ?_ | refine nq ?_ | refine nx rfl ?_)
    refine seq_reg rfl (fun K hK => ?_)
    refine psplit h (fun hp3 h => ?_)
    refine psplit h (fun hp4 h => ?_)
    simp -implicitDefEqProofs +decide only [go_sem, Nat.reduceAdd, Int.reduceToNat, hp3, hp4, hb2]
    refine hK _ ?_
    refine swp_ret ?_
    with_reducible repeat (first | refine nn ?_ | refine nb ?_ | refine nr ?_ | refine nc ?_ | refine ne ?_ | refine nq ?_ | refine nx rfl ?_)
    obtain rfl := some_eq h
    simp -implicitDefEqProofs +decide only [go_sem, Nat.reduceAdd, Int.reduceToNat]
    all_goals first | done | trivial | (simp [maps]; done)
end Go.Sh
end
section
namespace Go.Sh
open Go.Proofs
set_option linter.unusedVariables false
set_option linter.unusedSimpArgs false
set_option maxRecDepth 100000
set_option maxHeartbeats 4000000
noncomputable def bodegalaw23_aim (a0 : pointer_Pointer) : Option pointer_Pointer :=
  if ((Int.tmod a0.Gen 7) == 0) = true then
    some (⟨0, 0⟩ : pointer_Pointer)
  else
    (bodegahand_Pick a0.Line 154).bind fun v3 =>
    (bodegahand_Pick a0.Gen 8).bind fun v4 =>
    some (⟨(IntKind.i64.wrap (103 + v3)), v4⟩ : pointer_Pointer)
theorem bodegalaw23_aim_ok (G : Glob) (hG0 : G.glob 0 = some [(.int .i64 0), (.int .i64 0)]) (a0 : pointer_Pointer) (res : pointer_Pointer) (h : bodegalaw23_aim a0 = some res) : Spec Tryd.prog G 7 [.agg [.p (.int .i64 a0.Line), .p (.int .i64 a0.Gen)]] (fun r ios => r = .agg [.p (.int .i64 res.Line), .p (.int .i64 res.Gen)] ∧ ios = []) := by
  rw [bodegalaw23_aim] at h
  refine spec_of Tryd.mixed Tryd.func7 rfl rfl (by simp only [List.length]; decide +kernel) ?_
  refine swp_fresh (fun g => stL [(0, (.agg [(.p (.int .i64 a0.Line)), (.p (.int .i64 a0.Gen))]))] [] (g + 1)) ?_ (fun g => ?_)
  · refine ren_go (fun g S => []) (fun g S => []) ?_ ?_ ?_ ?_ ?_
    all_goals try simp -implicitDefEqProofs +decide only [go_sem, Nat.reduceAdd, Int.reduceToNat]
    all_goals first | done | trivial | omega | (simp [maps, go_sem]; done) | (simp [maps, go_sem] <;> omega)
  refine seq_reg rfl (fun K hK => ?_)
  simp -implicitDefEqProofs +decide only [go_sem, Nat.reduceAdd, Int.reduceToNat]
  refine hK _ ?_
  refine swp_seq ?_
  refine seq_reg rfl (fun K hK => ?_)
  simp -implicitDefEqProofs +decide only [go_sem, Nat.reduceAdd, Int.reduceToNat]
  refine hK _ ?_
  refine bsplit h (fun hb2 h => ?_) (fun hb2 h => ?_)
  · refine cond_t (by simp -implicitDefEqProofs +decide only [go_sem, hb2]) ?_
    refine seq_reg rfl (fun K hK => ?_)
    simp -implicitDefEqProofs +decide only [go_sem, Nat.reduceAdd, Int.reduceToNat, hb2]
    refine hK _ ?_
    refine swp_ret ?_
    with_reducible repeat (first | refine nn ?_ | refine nb ?_ | refine nr ?_ | refine nc ?_ | refine ne ?_ | refine nq ?_ | refine nx rfl ?_)
    obtain rfl := some_eq h
    simp -implicitDefEqProofs +decide only [go_sem, Nat.reduceAdd, Int.reduceToNat]
    all_goals first | done | trivial | (simp [maps]; done)
  · refine cond_f (by simp -implicitDefEqProofs +decide only [go_sem, hb2]) ?_
    refine swp_skip ?_
    with_reducible repeat (first | refine nn ?_ | refine nb ?_ | refine nr ?_ | refine nc ?_ | refine ne ?_ | refine nq ?_ | refine nx rfl ?_)
    refine seq_drw rfl (fun K hK => ?_)
    refine bind_of h (fun v3 hv3 h => ?_)
    simp -implicitDefEqProofs +decide only [go_sem, Nat.reduceAdd, Int.reduceToNat, hb2]
    refine call_go [0, 0] false (bodegahand_Pick_ok ⟨G.glob, noCaps⟩ hG0 a0.Line 154 _ hv3) (by simp -implicitDefEqProofs +decide only [go_sem, Nat.reduceAdd, Int.reduceToNat, hb2]; rfl) (by first | rfl | (simp [maps, hb2]; done)) ?_
    refine bind_of h (fun v4 hv4 h => ?_)
    simp -implicitDefEqProofs +decide only [go_sem, Nat.reduceAdd, Int.reduceToNat, hb2]
    refine call_go [0, 0] false (bodegahand_Pick_ok ⟨G.glob, noCaps⟩ hG0 a0.Gen 8 _ hv4) (by simp -implicitDefEqProofs +decide only [go_sem, Nat.reduceAdd, Int.reduceToNat, hb2]; rfl) (by first | rfl | (simp [maps, hb2]; done)) ?_
    simp -implicitDefEqProofs +decide only [go_sem, Nat.reduceAdd, Int.reduceToNat, hb2]
    refine draw_go (by kernel_rfl) ?_
    refine hK _ ?_
    refine swp_ret ?_
    with_reducible repeat (first | refine nn ?_ | refine nb ?_ | refine nr ?_ | refine nc ?_ | refine ne ?_ | refine nq ?_ | refine nx rfl ?_)
    obtain rfl := some_eq h
    simp -implicitDefEqProofs +decide only [go_sem, Nat.reduceAdd, Int.reduceToNat]
    all_goals first | done | trivial | (simp [maps]; done)
end Go.Sh
end
section
namespace Go.Sh
open Go.Proofs
set_option linter.unusedVariables false
set_option linter.unusedSimpArgs false
set_option maxRecDepth 100000
set_option maxHeartbeats 4000000
noncomputable def bodegalaw23_ref (a0 : pointer_Pointer) : Option bodegaref19_Pointer :=
  some (⟨a0.Line, a0.Gen⟩ : bodegaref19_Pointer)
theorem bodegalaw23_ref_ok (G : Glob) (hG0 : G.glob 0 = some [(.int .i64 0), (.int .i64 0)]) (a0 : pointer_Pointer) (res : bodegaref19_Pointer) (h : bodegalaw23_ref a0 = some res) : Spec Tryd.prog G 33 [.agg [.p (.int .i64 a0.Line), .p (.int .i64 a0.Gen)]] (fun r ios => r = .agg [.p (.int .i64 res.Line), .p (.int .i64 res.Gen)] ∧ ios = []) := by
  rw [bodegalaw23_ref] at h
  refine spec_of Tryd.mixed Tryd.func33 rfl rfl (by simp only [List.length]; decide +kernel) ?_
  refine swp_fresh (fun g => stL [(0, (.agg [(.p (.int .i64 a0.Line)), (.p (.int .i64 a0.Gen))]))] [] (g + 1)) ?_ (fun g => ?_)
  · refine ren_go (fun g S => []) (fun g S => []) ?_ ?_ ?_ ?_ ?_
    all_goals try simp -implicitDefEqProofs +decide only [go_sem, Nat.reduceAdd, Int.reduceToNat]
    all_goals first | done | trivial | omega | (simp [maps, go_sem]; done) | (simp [maps, go_sem] <;> omega)
  refine seq_reg rfl (fun K hK => ?_)
  simp -implicitDefEqProofs +decide only [go_sem, Nat.reduceAdd, Int.reduceToNat]
  refine hK _ ?_
  refine seq_reg rfl (fun K hK => ?_)
  simp -implicitDefEqProofs +decide only [go_sem, Nat.reduceAdd, Int.reduceToNat]
  refine hK _ ?_
  refine swp_ret ?_
  with_reducible repeat (first | refine nn ?_ | refine nb ?_ | refine nr ?_ | refine nc ?_ | refine ne ?_ | refine nq ?_ | refine nx rfl ?_)
  obtain rfl := some_eq h
  simp -implicitDefEqProofs +decide only [go_sem, Nat.reduceAdd, Int.reduceToNat]
  all_goals first | done | trivial | (simp [maps]; done)
end Go.Sh
end
