/- The document's nodes, in plain Lean: one put in, one taken out. No condition. -/
import Derived.Test.YtoffonjlfomnbaaGwSortP
namespace Go.Gw
open Go Go.Aw Go.Proofs.Ytoffonjlfomnbaa

def rOut (l : List Nd) (id : Int) : List Nd := l.filter fun n => !decide (n.id = id)
def rAt (l : List Nd) (id : Int) : Nat := (l.takeWhile fun n => decide (n.id < id)).length
def rWith (l : List Nd) (n : Nd) : List Nd := (rOut l n.id).take (rAt (rOut l n.id) n.id) ++ n :: (rOut l n.id).drop (rAt (rOut l n.id) n.id)

theorem rOut_no {l : List Nd} {id : Int} (h : ∀ x ∈ l, x.id ≠ id) : rOut l id = l := by
  unfold rOut
  rw [List.filter_eq_self]
  intro x hx
  simp [h x hx]
theorem takeWhileN (p : Nd → Bool) (a b : List Nd) (h : ∀ x ∈ a, p x = true) (hb : ∀ x ∈ b, p x = false) : (a ++ b).takeWhile p = a := by
  induction a with
  | nil =>
    cases b with
    | nil => rfl
    | cons x b => simp [hb x (by simp)]
  | cons x a ih => rw [List.cons_append, List.takeWhile_cons, if_pos (h x (by simp)), ih fun y hy => h y (by simp [hy])]

theorem rOut_split {l : List Nd} (hs : chk l = true) (id : Int) : ∃ A B, (∀ x ∈ A, x.id < id) ∧ (∀ x ∈ B, id < x.id) ∧ A = l.take (pos l id) ∧ B = l.drop (upto l id) ∧ rOut l id = A ++ B := by
  obtain ⟨A, B, hA, hB, eA, eB, h⟩ := split_at hs id
  refine ⟨A, B, hA, hB, eA, eB, ?_⟩
  have nA : rOut A id = A := rOut_no fun x hx => by have := hA x hx; omega
  have nB : rOut B id = B := rOut_no fun x hx => by have := hB x hx; omega
  rcases h with ⟨e, -⟩ | ⟨n, hn, e, -⟩
  · rw [e, rOut, List.filter_append]
    exact congr (congrArg _ nA) nB
  · rw [e, rOut, List.filter_append, List.filter_cons]
    simp only [hn, decide_true, Bool.not_true, Bool.false_eq_true, if_false]
    exact congr (congrArg _ nA) nB
theorem rOut_eq {l : List Nd} (hs : chk l = true) (id : Int) : rOut l id = layN l (pos l id) (upto l id) [] := by
  obtain ⟨A, B, _, _, eA, eB, e⟩ := rOut_split hs id
  rw [e, layN, ← eA, ← eB, List.append_nil]
theorem rWith_eq {l : List Nd} (hs : chk l = true) (n : Nd) : rWith l n = layN l (pos l n.id) (upto l n.id) [n] := by
  obtain ⟨A, B, hA, hB, eA, eB, e⟩ := rOut_split hs n.id
  have hk : rAt (A ++ B) n.id = A.length := by
    rw [rAt, takeWhileN _ A B (fun x hx => by simpa using hA x hx) (fun x hx => by have := hB x hx; simp; omega)]
  rw [rWith, e, hk, List.take_left' rfl, List.drop_left' rfl, layN, ← eA, ← eB]; simp
end Go.Gw
