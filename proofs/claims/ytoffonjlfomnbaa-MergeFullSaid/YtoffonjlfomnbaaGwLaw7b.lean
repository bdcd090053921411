/- More operations than there is room for. No condition. -/
import Derived.Test.YtoffonjlfomnbaaGwLaw7a
namespace Go.Gw
open Go Go.Aw Go.Proofs.Ytoffonjlfomnbaa

def fullOp (i : Nat) : Opn := mv (1000 - (i : Int)) (128 + 128 * ((i : Int) % 5)) 0
def fullOps (k : Nat) : List Opn := (List.range k).map fullOp

theorem fullOps_len (k : Nat) : (fullOps k).length = k := by simp [fullOps]
theorem fullOps_succ (k : Nat) : fullOps (k + 1) = fullOps k ++ [fullOp k] := by simp [fullOps, List.range_succ]
theorem fullOps_S (k : Nat) : ∀ o ∈ fullOps k, OpS o := fun o ho => by
  obtain ⟨i, _, rfl⟩ := List.mem_map.1 ho; exact mv_S _ _ _

theorem fullOp_ok (i : Nat) (h : i < 300) : opOk (fullOp i) = true := by
  have hn : nameOk [120] = true := by decide +kernel
  have h1 : ofOk (128 + 128 * ((i : Int) % 5)) = true := ofOk_t.2 (by omega)
  have h2 : okI (1000 - (i : Int)) 0 = true := okI_t.2 (by omega)
  have h3 : laterI (1000 - (i : Int)) 0 (128 + 128 * ((i : Int) % 5)) = false := by
    rw [laterI, h1, Bool.true_and, oA, oB, if_pos h1, if_pos h1, Bool.eq_false_iff, ne_eq, lessI_t]
    omega
  have h4 : dirI 0 = true := by decide
  have h5 : laterI (1000 - (i : Int)) 0 0 = false := by
    have : ofOk 0 = false := by decide
    rw [laterI, this]; rfl
  simp only [opOk, fitsM, fullOp, mv]
  rw [h2, h3, h1, h4, h5, hn]
  rfl

theorem hasAt_ops (g : Lg) (a : Stm) : hasAt g.entries a = (opsG g).any fun o => decide (o.at_ = a) := by
  rw [hasAt, opsG, List.any_map]; rfl

/-- Behind so many of them. -/
theorem full_inv (k : Nat) (hk : k ≤ 300) : (allG ⟨[], []⟩ (fullOps k)).entries.length = min k 200 ∧ (∀ o, o ∈ opsG (allG ⟨[], []⟩ (fullOps k)) ↔ ∃ j, j < min k 200 ∧ o = fullOp j) ∧ allN ⟨[], []⟩ (fullOps k) = (k - min k 200 : Nat) := by
  induction k with
  | zero => simp [fullOps, allG, allN, opsG]
  | succ k ih =>
    obtain ⟨h1, h2, h3⟩ := ih (by omega)
    have hok := fullOp_ok k (by omega)
    rw [fullOps_succ, allG_app, allN_app, h3]
    generalize allG ⟨[], []⟩ (fullOps k) = g at h1 h2
    have hno : hasAt g.entries (fullOp k).at_ = false := by
      rw [hasAt_ops, Bool.eq_false_iff]
      intro q
      obtain ⟨o, ho, hq⟩ := List.any_eq_true.1 q
      obtain ⟨j, hj, rfl⟩ := (h2 o).1 ho
      have hq := of_decide_eq_true hq
      simp only [fullOp, mv, Stm.mk.injEq] at hq
      omega
    have hops := opsG_add g (fullOp k)
    have hlen : ∀ g : Lg, (opsG g).length = g.entries.length := fun g => List.length_map ..
    show (addG g (fullOp k)).entries.length = _ ∧ (∀ o, o ∈ opsG (addG g (fullOp k)) ↔ _) ∧ _ + allN g [fullOp k] = _
    simp only [allN]
    by_cases h200 : (200 : Int) ≤ (g.entries.length : Int)
    · rw [if_pos (.inr (.inr h200))] at hops
      have he : addE g (fullOp k) = 193 := by rw [addE, if_neg (by rw [hok]; decide), if_neg (by rw [hno]; decide), if_pos h200]
      rw [hops, he, ← hlen (addG g (fullOp k)), hops, hlen]
      have e1 : min (k + 1) 200 = min k 200 := by omega
      rw [e1]
      refine ⟨h1, h2, ?_⟩
      rw [if_neg (by decide)]
      omega
    · have hneg : ¬ (opOk (fullOp k) = false ∨ hasAt g.entries (fullOp k).at_ = true ∨ (200 : Int) ≤ (g.entries.length : Int)) := by
        rintro (h | h | h)
        · rw [hok] at h; cases h
        · rw [hno] at h; cases h
        · exact h200 h
      rw [if_neg hneg] at hops
      have he : addE g (fullOp k) = 0 := by rw [addE, if_neg (by rw [hok]; decide), if_neg (by rw [hno]; decide), if_neg h200]
      have e1 : min (k + 1) 200 = k + 1 := by omega
      have e2 : min k 200 = k := by omega
      rw [e2] at h1 h2
      rw [he, ← hlen (addG g (fullOp k)), hops, e1, e2]
      refine ⟨?_, fun o => ?_, by simp⟩
      · have hf : fromG g (fullOp k) ≤ g.entries.length := by unfold fromG; omega
        simp only [List.length_append, List.length_take, List.length_cons, List.length_drop, hlen]; omega
      · rw [List.mem_append, List.mem_cons]
        have hm : o ∈ opsG g ↔ (o ∈ (opsG g).take (fromG g (fullOp k)) ∨ o ∈ (opsG g).drop (fromG g (fullOp k))) := by
          rw [← List.mem_append, List.take_append_drop]
        constructor
        · rintro (h | h | h)
          · obtain ⟨j, hj, e⟩ := (h2 o).1 (hm.2 (.inl h)); exact ⟨j, by omega, e⟩
          · exact ⟨k, by omega, h⟩
          · obtain ⟨j, hj, e⟩ := (h2 o).1 (hm.2 (.inr h)); exact ⟨j, by omega, e⟩
        · rintro ⟨j, hj, rfl⟩
          by_cases hjk : j = k
          · subst hjk; exact .inr (.inl rfl)
          · have := hm.1 ((h2 _).2 ⟨j, by omega, rfl⟩)
            rcases this with q | q
            · exact .inl q
            · exact .inr (.inr q)

theorem full_again (k a : Nat) (hk : k ≤ 300) (ha : a < k) : addG (allG ⟨[], []⟩ (fullOps k)) (fullOp a) = allG ⟨[], []⟩ (fullOps k) ∧ addE (allG ⟨[], []⟩ (fullOps k)) (fullOp a) = if a < min k 200 then 0 else 193 := by
  obtain ⟨h1, h2, -⟩ := full_inv k hk
  have hok := fullOp_ok a (by omega)
  generalize allG ⟨[], []⟩ (fullOps k) = g at h1 h2
  by_cases ham : a < min k 200
  · have hhas : hasAt g.entries (fullOp a).at_ = true := by
      rw [hasAt_ops]
      exact List.any_eq_true.2 ⟨_, (h2 _).2 ⟨a, ham, rfl⟩, by simp⟩
    rw [addG, addE, if_neg (by rw [hok]; decide), if_pos hhas, if_neg (by rw [hok]; decide), if_pos hhas, if_pos ham]
    exact ⟨rfl, rfl⟩
  · have hno : hasAt g.entries (fullOp a).at_ = false := by
      rw [hasAt_ops, Bool.eq_false_iff]
      intro q
      obtain ⟨o, ho, hq⟩ := List.any_eq_true.1 q
      obtain ⟨j, hj, rfl⟩ := (h2 o).1 ho
      have hq := of_decide_eq_true hq
      simp only [fullOp, mv, Stm.mk.injEq] at hq
      omega
    have h200 : (200 : Int) ≤ (g.entries.length : Int) := by omega
    rw [addG, addE, if_neg (by rw [hok]; decide), if_neg (by rw [hno]; decide), if_pos h200, if_neg (by rw [hok]; decide), if_neg (by rw [hno]; decide), if_pos h200, if_neg ham]
    exact ⟨rfl, rfl⟩
end Go.Gw
