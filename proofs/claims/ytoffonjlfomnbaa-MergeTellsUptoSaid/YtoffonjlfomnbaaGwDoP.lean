/- What is done, and taken back, leaves nodes as they were; nodes that may be stay so. No condition. -/
import Derived.Test.YtoffonjlfomnbaaGwMergeQ
namespace Go.Gw
open Go Go.Aw Go.Proofs.Ytoffonjlfomnbaa

/-- Nodes with one in the place of another of that number, or at its place. -/
def putN (l : List Nd) (n : Nd) : List Nd := layN l (pos l n.id) (upto l n.id) [n]
def cutN (l : List Nd) (id : Int) : List Nd := layN l (pos l id) (upto l id) []

theorem nodeNew_id (l : List Nd) (o : Opn) : (nodeNew l o).id = o.node := by
  have h : (nodeWas l o).id = o.node := by
    unfold nodeWas
    split
    · rename_i n hn
      have := List.find?_some hn
      simpa using this
    · rfl
  unfold nodeNew; split <;> exact h

theorem doL_put {l : List Nd} {o : Opn} (h : refused l o = false) : doL l o = putN l (nodeNew l o) := by
  rw [doL, if_neg (by rw [h]; decide), putN, nodeNew_id]

theorem chk_take (l : List Nd) (id : Int) (x : Nd) (hx : x ∈ l.take (pos l id)) : x.id < id := by
  induction l with
  | nil => simp at hx
  | cons n l ih =>
    unfold pos at hx
    split at hx
    · rename_i h
      rw [List.take_succ_cons, List.mem_cons] at hx
      rcases hx with rfl | hx
      · exact h
      · exact ih hx
    · simp at hx

theorem chk_drop {l : List Nd} (hs : chk l = true) (id : Int) (x : Nd) (hx : x ∈ l.drop (upto l id)) : id < x.id := by
  have hp := ((chk_iff l).1 hs).2
  rw [List.pairwise_iff_getElem] at hp
  obtain ⟨i, hi, rfl⟩ := List.getElem_of_mem hx
  rw [List.length_drop] at hi
  rw [List.getElem_drop]
  have hpos : ∀ k (hk : k < l.length), pos l id ≤ k → ¬ l[k].id < id := by
    intro k hk hle hlt
    have key : ∀ (l : List Nd), (∀ (i j : Nat) (_hi : i < l.length) (_hj : j < l.length), i < j → l[i].id < l[j].id) → ∀ k (hk : k < l.length), pos l id ≤ k → ¬ l[k].id < id := by
      intro l
      induction l with
      | nil => intro _ k hk; simp at hk
      | cons n l ih =>
        intro hp k hk hle hlt
        unfold pos at hle
        split at hle
        · cases k with
          | zero => omega
          | succ k =>
            refine ih (fun i j hi hj hij => ?_) k (by simpa using hk) (by omega) (by simpa using hlt)
            have := hp (i + 1) (j + 1) (by simpa using hi) (by simpa using hj) (by omega)
            simpa using this
        · rename_i hn
          cases k with
          | zero => simp at hlt; omega
          | succ k =>
            have := hp 0 (k + 1) (by simp) hk (by omega)
            simp at this hlt; omega
    exact key l hp k hk hle hlt
  unfold upto at hi ⊢
  split
  · rename_i hh
    have hlt := had_lt hs hh
    have he : l[pos l id].id = id := by
      rw [had_pos hs, List.getElem?_eq_getElem hlt] at hh; simpa using hh
    rw [if_pos hh] at hi
    have := hp (pos l id) (pos l id + 1 + i) hlt (by omega) (by omega)
    omega
  · rename_i hh
    rw [if_neg hh] at hi
    have h1 := hpos (pos l id + i) (by omega) (by omega)
    have h2 : l[pos l id + i].id ≠ id := by
      intro e
      by_cases hi0 : i = 0
      · subst hi0
        apply hh
        rw [had_pos hs, List.getElem?_eq_getElem (by omega)]
        simpa using e
      · have h3 := hp (pos l id) (pos l id + i) (by omega) (by omega) (by omega)
        have h4 := hpos (pos l id) (by omega) (Nat.le_refl _)
        omega
    omega

theorem put_chk {l : List Nd} (hs : chk l = true) {n : Nd} (hn : ofOk n.id = true) : chk (putN l n) = true := by
  have h := (chk_iff l).1 hs
  rw [chk_iff]
  have ht : ∀ x ∈ l.take (pos l n.id), x.id < n.id := chk_take l n.id
  have hd : ∀ x ∈ l.drop (upto l n.id), n.id < x.id := chk_drop hs n.id
  unfold putN layN
  refine ⟨fun x hx => ?_, ?_⟩
  · rw [List.mem_append, List.mem_append, List.mem_singleton] at hx
    rcases hx with (hx | rfl) | hx
    · exact h.1 x (List.mem_of_mem_take hx)
    · exact hn
    · exact h.1 x (List.mem_of_mem_drop hx)
  · rw [List.pairwise_append, List.pairwise_append]
    refine ⟨⟨h.2.sublist (List.take_sublist _ _), List.pairwise_singleton _ _, fun a ha b hb => by rw [List.mem_singleton] at hb; subst hb; exact ht a ha⟩, h.2.sublist (List.drop_sublist _ _), fun a ha b hb => ?_⟩
    rw [List.mem_append, List.mem_singleton] at ha
    rcases ha with ha | rfl
    · exact Int.lt_trans (ht a ha) (hd b hb)
    · exact hd b hb

/-- The node of a number is that which was put there. -/
theorem pos_mid {A B : List Nd} {n : Nd} {id : Int} (hA : ∀ x ∈ A, x.id < id) (hn : n.id = id) : pos (A ++ n :: B) id = A.length := by
  induction A with
  | nil => simp [pos, hn]
  | cons a A ih =>
    rw [List.cons_append, pos, if_pos (hA a (by simp)), ih fun x hx => hA x (by simp [hx])]; rfl
theorem pos_end {A B : List Nd} {id : Int} (hA : ∀ x ∈ A, x.id < id) (hB : ∀ x ∈ B, id < x.id) : pos (A ++ B) id = A.length := by
  induction A with
  | nil =>
    cases B with
    | nil => rfl
    | cons b B => have := hB b (by simp); rw [List.nil_append, pos, if_neg (by omega)]; rfl
  | cons a A ih =>
    rw [List.cons_append, pos, if_pos (hA a (by simp)), ih fun x hx => hA x (by simp [hx])]; rfl
theorem fnd_mid {A B : List Nd} {n : Nd} {id : Int} (hA : ∀ x ∈ A, x.id < id) (hn : n.id = id) : fnd (A ++ n :: B) id = some n := by
  unfold fnd
  rw [List.find?_append, List.find?_cons, decide_eq_true hn]
  have : A.find? (fun n => decide (n.id = id)) = none := by
    rw [List.find?_eq_none]; intro x hx; have := hA x hx; simp; omega
  rw [this]; rfl
theorem fnd_end {A B : List Nd} {id : Int} (hA : ∀ x ∈ A, x.id < id) (hB : ∀ x ∈ B, id < x.id) : fnd (A ++ B) id = none := by
  unfold fnd
  rw [List.find?_eq_none]
  intro x hx
  rw [List.mem_append] at hx
  rcases hx with hx | hx
  · have := hA x hx; simp; omega
  · have := hB x hx; simp; omega

/-- Nodes, seen at a number: those ahead, those behind, and the one that is there, or none. -/
theorem split_at {l : List Nd} (hs : chk l = true) (id : Int) : ∃ A B, (∀ x ∈ A, x.id < id) ∧ (∀ x ∈ B, id < x.id) ∧ A = l.take (pos l id) ∧ B = l.drop (upto l id) ∧ (l = A ++ B ∧ had l id = false ∨ ∃ n, n.id = id ∧ l = A ++ n :: B ∧ had l id = true) := by
  refine ⟨_, _, chk_take l id, chk_drop hs id, rfl, rfl, ?_⟩
  cases hh : had l id with
  | false =>
    left
    unfold upto
    rw [hh]
    exact ⟨(List.take_append_drop _ _).symm, rfl⟩
  | true =>
    right
    have hlt := had_lt hs hh
    have he : l[pos l id].id = id := by
      have := hh
      rw [had_pos hs, List.getElem?_eq_getElem hlt] at this; simpa using this
    refine ⟨l[pos l id], he, ?_, rfl⟩
    unfold upto
    rw [if_pos hh, ← List.drop_eq_getElem_cons hlt, List.take_append_drop]

theorem put_eq {l : List Nd} (n : Nd) {A B : List Nd} (hA : A = l.take (pos l n.id)) (hB : B = l.drop (upto l n.id)) : putN l n = A ++ n :: B := by
  rw [putN, layN, hA, hB, List.append_assoc]; rfl

theorem mid_put {A B : List Nd} {n m : Nd} (hA : ∀ x ∈ A, x.id < n.id) (hm : m.id = n.id) : putN (A ++ m :: B) n = A ++ n :: B := by
  have hp : pos (A ++ m :: B) n.id = A.length := pos_mid hA hm
  have hh : had (A ++ m :: B) n.id = true := by rw [had, fnd_mid hA hm]; rfl
  rw [putN, layN, upto, if_pos hh, hp, List.take_left', show A.length + 1 = A.length + 1 from rfl, List.append_assoc]
  · congr 1
    rw [List.drop_append, List.drop_of_length_le (by omega)]; simp
  · rfl
theorem mid_cut {A B : List Nd} {m : Nd} {id : Int} (hA : ∀ x ∈ A, x.id < id) (hm : m.id = id) : cutN (A ++ m :: B) id = A ++ B := by
  have hp : pos (A ++ m :: B) id = A.length := pos_mid hA hm
  have hh : had (A ++ m :: B) id = true := by rw [had, fnd_mid hA hm]; rfl
  rw [cutN, layN, upto, if_pos hh, hp, List.take_left', List.append_nil]
  · congr 1
    rw [List.drop_append, List.drop_of_length_le (by omega)]; simp
  · rfl

/-- What is done, and taken back. -/
theorem back_do {l : List Nd} (o : Opn) (hs : chk l = true) : backL (doL l o) o (doU l o) = l := by
  cases hr : refused l o with
  | true =>
    rw [doL, if_pos hr, doU, if_pos hr, backL, if_pos (by simp [und0])]
  | false =>
    have hok : opOk o = true := by
      cases ho : opOk o with
      | true => rfl
      | false => simp [refused, ho] at hr
    have hof : ofOk o.node = true := by
      unfold opOk fitsM fitsW at hok
      split at hok <;> simp at hok <;> simp [hok]
    have hid := nodeNew_id l o
    have hc : chk (doL l o) = true := by rw [doL_put hr]; exact put_chk hs (by rw [hid]; exact hof)
    rw [doU, if_neg (by rw [hr]; decide), backL, if_neg (by rw [hc]; simp)]
    obtain ⟨A, B, hA, hB, eA, eB, hcase⟩ := split_at hs o.node
    have hd : doL l o = A ++ nodeNew l o :: B := by
      rw [doL_put hr]
      exact put_eq _ (by rw [hid]; exact eA) (by rw [hid]; exact eB)
    rcases hcase with ⟨hl, hh⟩ | ⟨n, hn, hl, hh⟩
    · rw [if_neg (by rw [hh]; simp)]
      have := mid_cut (B := B) hA hid
      rw [hd]
      exact this.trans hl.symm
    · have hf : fnd l o.node = some n := by rw [hl]; exact fnd_mid hA hn
      rw [if_pos (by rw [hh, hf, hof]; simpa using hn), hf, Option.getD_some]
      have := mid_put (n := n) (m := nodeNew l o) (B := B) (by rw [hn]; exact hA) (by rw [hn, hid])
      rw [hd]
      have h2 : putN (A ++ nodeNew l o :: B) n = layN (A ++ nodeNew l o :: B) (pos (A ++ nodeNew l o :: B) o.node) (upto (A ++ nodeNew l o :: B) o.node) [n] := by rw [putN, hn]
      rw [← h2, this, ← hl]

theorem do_chk {l : List Nd} (o : Opn) (hs : chk l = true) : chk (doL l o) = true := by
  cases hr : refused l o with
  | true => rw [doL, if_pos hr]; exact hs
  | false =>
    have hok : opOk o = true := by
      cases ho : opOk o with
      | true => rfl
      | false => simp [refused, ho] at hr
    have hof : ofOk o.node = true := by
      unfold opOk fitsM fitsW at hok
      split at hok <;> simp at hok <;> simp [hok]
    rw [doL_put hr]; exact put_chk hs (by rw [nodeNew_id]; exact hof)
end Go.Gw
