/- The document's sorting, in plain Lean: one behind the other, each at its place. No condition. -/
import Derived.Test.YtoffonjlfomnbaaGwLogP
namespace Go.Gw
open Go Go.Aw Go.Proofs.Ytoffonjlfomnbaa

/-- Where the document puts an operation: it looks from the end. -/
def rK (o : Opn) (out : List Opn) : Nat := out.length - (out.reverse.takeWhile fun x => lessS o.at_ x.at_).length
def rIns (out : List Opn) (o : Opn) : List Opn :=
  if (!opOk o || (decide (0 < rK o out) && decide ((out.getD (rK o out - 1) op0).at_ = o.at_))) = true then out
  else out.take (rK o out) ++ o :: out.drop (rK o out)
def rSort (l : List Opn) : List Opn := l.foldl rIns []

theorem rSort_snoc (l : List Opn) (o : Opn) : rSort (l ++ [o]) = rIns (rSort l) o := by simp [rSort]

theorem takeWhile_all {α : Type} (p : α → Bool) (a b : List α) (h : ∀ x ∈ a, p x = true) (hb : ∀ x ∈ b, p x = false) : (a ++ b).takeWhile p = a := by
  induction a with
  | nil =>
    cases b with
    | nil => rfl
    | cons x b => simp [hb x (by simp)]
  | cons x a ih =>
    rw [List.cons_append, List.takeWhile_cons, if_pos (h x (by simp)), ih fun y hy => h y (by simp [hy])]

theorem rK_pre {o : Opn} {l : List Opn} (hs : Srt l) : rK o l = (preO o l).length := by
  have h1 := pre_suf o l
  have h2 : l.reverse.takeWhile (fun x => lessS o.at_ x.at_) = (sufO o l).reverse := by
    conv => lhs; rw [← h1]
    rw [List.reverse_append]
    exact takeWhile_all _ _ _ (fun x hx => sufO_t hs x (List.mem_reverse.1 hx)) (fun x hx => preO_f o l x (List.mem_reverse.1 hx))
  have h3 := congrArg List.length h1
  rw [List.length_append] at h3
  rw [rK, h2, List.length_reverse]; omega

theorem rIns_srt {o : Opn} {l : List Opn} (hs : Srt l) : rIns l o = if opOk o = false ∨ (∃ x ∈ l, x.at_ = o.at_) then l else insO o l := by
  have hk := rK_pre (o := o) hs
  have hps := pre_suf o l
  have key : (decide (0 < rK o l) && decide ((l.getD (rK o l - 1) op0).at_ = o.at_)) = true ↔ ∃ x ∈ l, x.at_ = o.at_ := by
    rw [Bool.and_eq_true, decide_eq_true_eq, decide_eq_true_eq, hk]
    constructor
    · rintro ⟨h1, h2⟩
      have hlt : (preO o l).length - 1 < l.length := by
        have := congrArg List.length hps; rw [List.length_append] at this; omega
      rw [List.getD_eq_getElem?_getD, List.getElem?_eq_getElem hlt] at h2
      exact ⟨_, List.getElem_mem hlt, h2⟩
    · rintro ⟨x, hx, he⟩
      have hxp : x ∈ preO o l := by
        rw [← hps, List.mem_append] at hx
        rcases hx with hx | hx
        · exact hx
        · have := sufO_t hs x hx
          rw [he, lessS_irr] at this; cases this
      have hp : 0 < (preO o l).length := List.length_pos_of_mem hxp
      refine ⟨hp, ?_⟩
      have hsp : Srt (preO o l) := by
        have h0 := hs
        rw [← hps, Srt, List.pairwise_append] at h0
        exact h0.1
      have e : l.getD ((preO o l).length - 1) op0 = (preO o l)[(preO o l).length - 1]'(by omega) := by
        have e0 : l.getD ((preO o l).length - 1) op0 = (preO o l ++ sufO o l).getD ((preO o l).length - 1) op0 := congrArg (fun x => List.getD x ((preO o l).length - 1) op0) hps.symm
        rw [e0, List.getD_eq_getElem?_getD, List.getElem?_append_left (by omega), List.getElem?_eq_getElem (by omega)]; rfl
      rw [e]
      obtain ⟨i, hi, rfl⟩ := List.getElem_of_mem hxp
      by_cases hil : i = (preO o l).length - 1
      · subst hil; exact he
      · have h1 := List.pairwise_iff_getElem.1 hsp i ((preO o l).length - 1) hi (by omega) (by omega)
        rw [he] at h1
        have h2 := preO_f o l _ (List.getElem_mem (show (preO o l).length - 1 < (preO o l).length by omega))
        rw [h1] at h2; cases h2
  unfold rIns
  by_cases h1 : opOk o = false
  · rw [if_pos (by rw [h1]; rfl), if_pos (.inl h1)]
  · have h1' : opOk o = true := by simpa using h1
    by_cases h2 : ∃ x ∈ l, x.at_ = o.at_
    · rw [if_pos (by rw [key.2 h2]; simp), if_pos (.inr h2)]
    · have h2' : (decide (0 < rK o l) && decide ((l.getD (rK o l - 1) op0).at_ = o.at_)) = false := by
        rw [Bool.eq_false_iff]; exact fun q => h2 (key.1 q)
      rw [if_neg (by rw [h1', h2']; simp), if_neg (by rintro (q | q); exact h1 q; exact h2 q), hk, insO]
      have e1 : l.take (preO o l).length = preO o l := (congrArg (List.take (preO o l).length) hps.symm).trans (List.take_left' rfl)
      have e2 : l.drop (preO o l).length = sufO o l := (congrArg (List.drop (preO o l).length) hps.symm).trans (List.drop_left' rfl)
      rw [e1, e2]

theorem rSort_srt (l : List Opn) : Srt (rSort l) ∧ ∀ o ∈ rSort l, opOk o = true := by
  suffices h : ∀ (l acc : List Opn), Srt acc → (∀ o ∈ acc, opOk o = true) → Srt (l.foldl rIns acc) ∧ ∀ o ∈ l.foldl rIns acc, opOk o = true from h l [] (by simp) (by simp)
  intro l
  induction l with
  | nil => exact fun acc h1 h2 => ⟨h1, h2⟩
  | cons o l ih =>
    intro acc h1 h2
    rw [List.foldl_cons]
    rw [rIns_srt h1]
    split
    · exact ih acc h1 h2
    · rename_i hn
      have hn1 : opOk o = true := by
        cases q : opOk o with
        | true => rfl
        | false => exact absurd (.inl q) hn
      refine ih _ (srt_ins h1 fun x hx e => hn (.inr ⟨x, hx, e⟩)) fun x hx => ?_
      rcases mem_ins.1 hx with rfl | hx
      · exact hn1
      · exact h2 x hx

/-- What is in order already stays as it is. -/
theorem rSort_id {l : List Opn} (hs : Srt l) (ho : ∀ o ∈ l, opOk o = true) : rSort l = l := by
  suffices h : ∀ (l acc : List Opn), Srt (acc ++ l) → (∀ o ∈ l, opOk o = true) → l.foldl rIns acc = acc ++ l from by have := h l [] (by simpa using hs) ho; rw [List.nil_append] at this; exact this
  intro l
  induction l with
  | nil => intro acc _ _; simp
  | cons o l ih =>
    intro acc h1 h2
    have h3 := h1
    rw [Srt, List.pairwise_append] at h3
    obtain ⟨g1, g2, g3⟩ := h3
    have hless : ∀ x ∈ acc, lessS x.at_ o.at_ = true := fun x hx => g3 x hx o (by simp)
    have hno : ¬ (opOk o = false ∨ ∃ x ∈ acc, x.at_ = o.at_) := by
      rintro (q | ⟨x, hx, e⟩)
      · rw [h2 o (by simp)] at q; cases q
      · have := hless x hx; rw [e, lessS_irr] at this; cases this
    have hpre : ∀ a : List Opn, (∀ x ∈ a, lessS x.at_ o.at_ = true) → preO o a = a ∧ sufO o a = [] := by
      intro a ha
      unfold preO sufO
      induction a with
      | nil => exact ⟨rfl, rfl⟩
      | cons y a iha =>
        have hy : lessS o.at_ y.at_ = false := by
          have := lessS_t.1 (ha y (by simp)); rw [lessS_f]; omega
        have := iha fun x hx => ha x (by simp [hx])
        rw [List.takeWhile_cons, List.dropWhile_cons]
        simp only [hy, Bool.not_false, if_true]
        exact ⟨by rw [this.1], this.2⟩
    have e : rIns acc o = acc ++ [o] := by
      rw [rIns_srt g1, if_neg hno, insO, (hpre acc hless).1, (hpre acc hless).2]
    rw [List.foldl_cons, e, ih (acc ++ [o]) (by rw [List.append_assoc]; exact h1) (fun x hx => h2 x (by simp [hx])), List.append_assoc]; rfl

/-- The document's log behind one more. -/
def rAddG (g : Lg) (o : Opn) : Lg := if opOk o = false then g else if hasAt g.entries o.at_ = true then g else if (200 : Int) ≤ (g.entries.length : Int) then g else logOf (rSort (opsG g ++ [o]))
def rAllG : Lg → List Opn → Lg
  | g, [] => g
  | g, o :: l => rAllG (rAddG g o) l

theorem rAddG_eq {g : Lg} (h : Good g) (o : Opn) : rAddG g o = addG g o := by
  unfold rAddG
  by_cases h1 : opOk o = false
  · rw [if_pos h1, addG, if_pos h1]
  · by_cases h2 : hasAt g.entries o.at_ = true
    · rw [if_neg h1, if_pos h2, addG, if_neg h1, if_pos h2]
    · by_cases h3 : (200 : Int) ≤ (g.entries.length : Int)
      · rw [if_neg h1, if_neg h2, if_pos h3, addG, if_neg h1, if_neg h2, if_pos h3]
      · rw [if_neg h1, if_neg h2, if_neg h3, rSort_snoc, rSort_id h.srt h.ok, rIns_srt h.srt]
        have hno : ¬ (opOk o = false ∨ ∃ x ∈ opsG g, x.at_ = o.at_) := by
          rintro (q | ⟨x, hx, e⟩)
          · exact h1 q
          · apply h2
            rw [h.log, hasAt_log]
            exact List.any_eq_true.2 ⟨x, hx, by simpa using e⟩
        rw [if_neg hno]
        have e := add_log h.srt o (by simpa using h1) (by rw [← h.log]; simpa using h2) (by rw [opsG, List.length_map]; omega)
        rw [← h.log] at e
        exact e.symm
theorem rAllG_eq {g : Lg} (h : Good g) (l : List Opn) : rAllG g l = allG g l := by
  induction l generalizing g with
  | nil => rfl
  | cons o l ih => rw [rAllG, allG, rAddG_eq h, ih (good_add h o).1]
end Go.Gw
