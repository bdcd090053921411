/- Logs, in plain Lean: sizes, and which operations there are. No condition. -/
import Derived.Test.YtoffonjlfomnbaaGwMergeP
namespace Go.Gw
open Go Go.Aw Go.Proofs.Ytoffonjlfomnbaa

theorem redo_ops (l : List Opn) (es : List Ent) (n : List Nd) : (redo l es n).1.map Ent.op = es.map Ent.op ++ l := by
  induction l generalizing es n with
  | nil => simp [redo]
  | cons o l ih => unfold redo; rw [ih]; simp

/-- How many entries stand ahead of a time. -/
def fromG (g : Lg) (o : Opn) : Nat := g.entries.length - (undoR o.at_ g.entries.reverse g.nodes).1

theorem opsG_add (g : Lg) (o : Opn) : opsG (addG g o) = if opOk o = false ∨ hasAt g.entries o.at_ = true ∨ (200 : Int) ≤ (g.entries.length : Int) then opsG g
    else (opsG g).take (fromG g o) ++ o :: (opsG g).drop (fromG g o) := by
  unfold addG opsG
  by_cases h1 : opOk o = false
  · rw [if_pos h1, if_pos (.inl h1)]
  · by_cases h2 : hasAt g.entries o.at_ = true
    · rw [if_neg h1, if_pos h2, if_pos (.inr (.inl h2))]
    · by_cases h3 : (200 : Int) ≤ (g.entries.length : Int)
      · rw [if_neg h1, if_neg h2, if_pos h3, if_pos (.inr (.inr h3))]
      · rw [if_neg h1, if_neg h2, if_neg h3, if_neg (by rintro (h | h | h) <;> contradiction), redo_ops]
        simp only [fromG, List.map_take, List.map_drop]

theorem addG_len (g : Lg) (o : Opn) : (addG g o).entries.length ≤ g.entries.length + 1 ∧ ((addG g o).entries.length ≤ 200 ∨ (addG g o).entries.length = g.entries.length) ∧ (g.entries.length ≤ 200 → (addG g o).nodes.length ≤ g.nodes.length + 401) := by
  unfold addG
  split
  · exact ⟨by omega, .inr rfl, fun _ => by omega⟩
  · split
    · exact ⟨by omega, .inr rfl, fun _ => by omega⟩
    · split
      · exact ⟨by omega, .inr rfl, fun _ => by omega⟩
      · have h1 := undoR_le o.at_ g.entries.reverse g.nodes
        have h2 := undoR_len o.at_ g.entries.reverse g.nodes
        have h3 := redo_len (o :: (g.entries.drop (g.entries.length - (undoR o.at_ g.entries.reverse g.nodes).1)).map Ent.op) (g.entries.take (g.entries.length - (undoR o.at_ g.entries.reverse g.nodes).1)) (undoR o.at_ g.entries.reverse g.nodes).2
        rw [List.length_reverse] at h1 h2
        simp only [List.length_cons, List.length_map, List.length_drop, List.length_take] at h3
        refine ⟨by simp only; omega, .inl (by simp only; omega), fun h => by simp only; omega⟩

theorem addG_ops (g : Lg) (o : Opn) (P : Opn → Prop) (h : ∀ e ∈ g.entries, P e.op) (ho : P o) : ∀ e ∈ (addG g o).entries, P e.op := by
  intro e he
  have h1 : e.op ∈ opsG (addG g o) := List.mem_map_of_mem he
  rw [opsG_add] at h1
  have hg : ∀ x ∈ opsG g, P x := fun x hx => by obtain ⟨e', he', rfl⟩ := List.mem_map.1 hx; exact h e' he'
  split at h1
  · exact hg _ h1
  · rw [List.mem_append, List.mem_cons] at h1
    rcases h1 with h1 | h1 | h1
    · exact hg _ (List.mem_of_mem_take h1)
    · rw [h1]; exact ho
    · exact hg _ (List.mem_of_mem_drop h1)

/-- A log of a size that is no trouble. -/
structure Fit (g : Lg) (k : Nat) : Prop where
  ops : ∀ e ∈ g.entries, OpS e.op
  len : g.entries.length ≤ 200
  nodes : g.nodes.length + 401 * k ≤ 1000000

theorem Fit.add {g : Lg} {k : Nat} (h : Fit g (k + 1)) {o : Opn} (ho : OpS o) : Fit (addG g o) k := by
  have h1 := addG_len g o
  have h2 := h.len
  have h3 := h.nodes
  refine ⟨addG_ops g o OpS h.ops ho, by rcases h1.2.1 with q | q <;> omega, ?_⟩
  have := h1.2.2 h2
  omega
theorem Fit.all {g : Lg} {l : List Opn} {k : Nat} (h : Fit g (l.length + k)) (hl : ∀ o ∈ l, OpS o) : Fit (allG g l) k := by
  induction l generalizing g with
  | nil => exact ⟨h.ops, h.len, by have := h.nodes; simp at this; exact this⟩
  | cons o l ih =>
    exact ih (Fit.add ⟨h.ops, h.len, by have := h.nodes; simp at this; omega⟩ (hl o (by simp))) fun x hx => hl x (by simp [hx])
theorem Fit.less {g : Lg} {k j : Nat} (h : Fit g k) (hj : j ≤ k) : Fit g j := ⟨h.ops, h.len, by have := h.nodes; omega⟩
theorem Fit.nil (k : Nat) (h : k ≤ 2000) : Fit ⟨[], []⟩ k := ⟨by simp, by simp, by simp; omega⟩

theorem allG_app (g : Lg) (a b : List Opn) : allG g (a ++ b) = allG (allG g a) b := by
  induction a generalizing g with
  | nil => rfl
  | cons o a ih => exact ih _
theorem allN_app (g : Lg) (a b : List Opn) : allN g (a ++ b) = allN g a + allN (allG g a) b := by
  induction a generalizing g with
  | nil => simp [allN, allG]
  | cons o a ih => rw [List.cons_append, allN, allN, allG, ih]; omega
theorem allN_le (g : Lg) (l : List Opn) : 0 ≤ allN g l ∧ allN g l ≤ l.length := by
  induction l generalizing g with
  | nil => simp [allN]
  | cons o l ih => have := ih (addG g o); unfold allN; simp only [List.length_cons]; split <;> omega
end Go.Gw
