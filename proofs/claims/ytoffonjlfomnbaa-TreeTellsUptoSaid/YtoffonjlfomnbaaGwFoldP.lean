/- What operations make, in plain Lean: sorted, those that come twice left out, done. No condition. -/
import Derived.Test.YtoffonjlfomnbaaGwDoP
import Derived.Test.YtoffonjlfomnbaaSrt1
namespace Go.Gw
open Go Go.Aw Go.Srt Go.Proofs.Ytoffonjlfomnbaa

def oLess (a b : Opn) : Bool := lessS a.at_ b.at_
theorem oLess_swo : SWO oLess where
  irr := fun a => lessS_irr _
  ntr := fun a b c h1 h2 => by
    unfold oLess at *; rw [lessS_f] at *; omega
  asy := fun a b h => by
    unfold oLess at *; rw [lessS_t] at h; rw [lessS_f]; omega
theorem eqv_op (k x : Opn) : eqv oLess k x = decide (x.at_ = k.at_) := by
  rw [Bool.eq_iff_iff, eqv_t, decide_eq_true_eq]
  unfold oLess
  constructor
  · rintro ⟨h1, h2⟩
    rcases lessS_tri k.at_ x.at_ with q | q | q
    · rw [q] at h1; cases h1
    · exact q.symm
    · rw [q] at h2; cases h2
  · intro e; rw [e]; exact ⟨lessS_irr _, lessS_irr _⟩

/-- Behind one, those of which each has another time than the one ahead of it. -/
def cptF : Opn → List Opn → List Opn
  | _, [] => []
  | p, x :: l => if x.at_ = p.at_ then cptF x l else x :: cptF x l
def cpt : List Opn → List Opn
  | [] => []
  | x :: l => x :: cptF x l

theorem cptF_len (p : Opn) (l : List Opn) : (cptF p l).length ≤ l.length := by
  induction l generalizing p with
  | nil => exact Nat.le_refl _
  | cons x l ih => have := ih x; unfold cptF; split <;> simp <;> omega
theorem cpt_len (l : List Opn) : (cpt l).length ≤ l.length := by
  cases l with
  | nil => exact Nat.le_refl _
  | cons x l => have := cptF_len x l; simp [cpt]; omega

theorem cptF_mem (p : Opn) (l : List Opn) (hs : Sd oLess (p :: l)) (x : Opn) : x ∈ cptF p l ↔ x.at_ ≠ p.at_ ∧ l.find? (fun y => decide (y.at_ = x.at_)) = some x := by
  induction l generalizing p with
  | nil => simp [cptF]
  | cons y l ih =>
    have h0 : Sd oLess (y :: l) := (List.pairwise_cons.1 hs).2
    have hpy : oLess y p = false := (List.pairwise_cons.1 hs).1 y (by simp)
    have hi := ih y h0
    rw [List.find?_cons]
    unfold cptF
    by_cases e : y.at_ = p.at_
    · rw [if_pos e, hi]
      by_cases e2 : y.at_ = x.at_
      · rw [decide_eq_true e2]; simp only
        constructor
        · rintro ⟨h1, _⟩; exact absurd e2.symm h1
        · rintro ⟨h1, _⟩; exact absurd (e2.symm.trans e) h1
      · rw [decide_eq_false e2]; simp only
        rw [e]
    · rw [if_neg e, List.mem_cons, hi]
      by_cases e2 : y.at_ = x.at_
      · rw [decide_eq_true e2]; simp only
        constructor
        · rintro (h | ⟨h1, _⟩)
          · subst h; exact ⟨e, rfl⟩
          · exact absurd e2.symm h1
        · rintro ⟨_, h2⟩
          left; exact (Option.some.inj h2).symm
      · rw [decide_eq_false e2]; simp only
        constructor
        · rintro (h | ⟨_, h2⟩)
          · subst h; exact absurd rfl e2
          · refine ⟨fun hx => ?_, h2⟩
            -- x stands behind y, y is behind p
            have hx2 : x ∈ l := List.mem_of_find?_eq_some h2
            have q1 : oLess x y = false := (List.pairwise_cons.1 h0).1 x hx2
            unfold oLess at q1 hpy
            rw [hx] at q1
            rcases lessS_tri p.at_ y.at_ with q | q | q
            · rw [q] at q1; cases q1
            · exact e q.symm
            · rw [q] at hpy; cases hpy
        · rintro ⟨_, h2⟩
          exact .inr ⟨fun hx => e2 hx.symm, h2⟩
theorem cpt_mem {l : List Opn} (hs : Sd oLess l) (x : Opn) : x ∈ cpt l ↔ l.find? (fun y => decide (y.at_ = x.at_)) = some x := by
  cases l with
  | nil => simp [cpt]
  | cons y l =>
    rw [cpt, List.mem_cons, cptF_mem y l hs, List.find?_cons]
    by_cases e : y.at_ = x.at_
    · rw [decide_eq_true e]; simp only
      constructor
      · rintro (h | ⟨h1, _⟩)
        · subst h; rfl
        · exact absurd e.symm h1
      · intro h; exact .inl (Option.some.inj h).symm
    · rw [decide_eq_false e]; simp only
      constructor
      · rintro (h | ⟨_, h⟩)
        · subst h; exact absurd rfl e
        · exact h
      · intro h; exact .inr ⟨fun q => e q.symm, h⟩
theorem cptF_srt (p : Opn) (l : List Opn) (hs : Sd oLess (p :: l)) : Srt (p :: cptF p l) := by
  induction l generalizing p with
  | nil => exact List.pairwise_singleton _ _
  | cons y l ih =>
    have h0 : Sd oLess (y :: l) := (List.pairwise_cons.1 hs).2
    have hpy : oLess y p = false := (List.pairwise_cons.1 hs).1 y (by simp)
    have hi := ih y h0
    unfold cptF
    rw [Srt, List.pairwise_cons] at hi
    by_cases e : y.at_ = p.at_
    · rw [if_pos e, Srt, List.pairwise_cons]
      exact ⟨fun z hz => by rw [← e]; exact hi.1 z hz, hi.2⟩
    · rw [if_neg e, Srt, List.pairwise_cons]
      have hl : lessS p.at_ y.at_ = true := by
        unfold oLess at hpy
        rcases lessS_tri p.at_ y.at_ with q | q | q
        · exact q
        · exact absurd q.symm e
        · rw [q] at hpy; cases hpy
      refine ⟨fun z hz => ?_, List.pairwise_cons.2 hi⟩
      rcases List.mem_cons.1 hz with rfl | hz
      · exact hl
      · exact lessS_trans hl (hi.1 z hz)
theorem cpt_srt {l : List Opn} (hs : Sd oLess l) : Srt (cpt l) := by
  cases l with
  | nil => exact List.Pairwise.nil
  | cons y l => exact cptF_srt y l hs

theorem cptF_snoc (p : Opn) (l : List Opn) (y x : Opn) : cptF p (l ++ [y] ++ [x]) = if x.at_ = y.at_ then cptF p (l ++ [y]) else cptF p (l ++ [y]) ++ [x] := by
  induction l generalizing p with
  | nil =>
    simp only [List.nil_append, List.cons_append, cptF]
    by_cases h1 : y.at_ = p.at_ <;> by_cases h2 : x.at_ = y.at_ <;> simp [h1, h2]
  | cons z l ih =>
    simp only [List.cons_append, cptF]
    have := ih z
    simp only [List.append_assoc, List.cons_append, List.nil_append] at this ⊢
    by_cases h1 : z.at_ = p.at_
    · rw [if_pos h1, if_pos h1, this]
    · rw [if_neg h1, if_neg h1, this]
      by_cases h2 : x.at_ = y.at_
      · rw [if_pos h2, if_pos h2]
      · rw [if_neg h2, if_neg h2]; rfl
theorem cpt_snoc (P : List Opn) (y x : Opn) : cpt (P ++ [y] ++ [x]) = if x.at_ = y.at_ then cpt (P ++ [y]) else cpt (P ++ [y]) ++ [x] := by
  cases P with
  | nil =>
    simp only [List.nil_append, List.cons_append, cpt, cptF]
    by_cases h2 : x.at_ = y.at_ <;> simp [h2]
  | cons p l =>
    have := cptF_snoc p l y x
    simp only [List.append_assoc, List.cons_append, List.nil_append] at this ⊢
    simp only [cpt, this]
    by_cases h2 : x.at_ = y.at_
    · rw [if_pos h2, if_pos h2]
    · rw [if_neg h2, if_neg h2]; rfl
theorem cpt_take {D : List Opn} {j : Nat} (h1 : 1 ≤ j) (h2 : j < D.length) : cpt (D.take (j + 1)) = if D[j].at_ = (D[j - 1]'(by omega)).at_ then cpt (D.take j) else cpt (D.take j) ++ [D[j]] := by
  obtain ⟨i, rfl⟩ : ∃ i, j = i + 1 := ⟨j - 1, by omega⟩
  have e1 : D.take (i + 1 + 1) = D.take i ++ [D[i]'(by omega)] ++ [D[i + 1]] := by
    rw [List.take_succ_eq_append_getElem h2, List.take_succ_eq_append_getElem (by omega)]
  have e2 : D.take (i + 1) = D.take i ++ [D[i]'(by omega)] := List.take_succ_eq_append_getElem (by omega)
  rw [e1, e2, cpt_snoc]
  rfl

/-- What is in the document's sorted operations: the first one of each time, of those that may be. -/
theorem rSort_mem (l : List Opn) : Srt (rSort l) ∧ ∀ x, x ∈ rSort l ↔ (l.filter opOk).find? (fun y => decide (y.at_ = x.at_)) = some x := by
  induction hn : l.length generalizing l with
  | zero =>
    have : l = [] := List.eq_nil_of_length_eq_zero hn
    subst this
    exact ⟨List.Pairwise.nil, fun x => by simp [rSort]⟩
  | succ n ih =>
    obtain ⟨a, o, rfl⟩ : ∃ a o, l = a ++ [o] := by
      have hne : l ≠ [] := fun e => by subst e; simp at hn
      exact ⟨l.dropLast, l.getLast hne, (List.dropLast_concat_getLast hne).symm⟩
    obtain ⟨h1, h2⟩ := ih a (by simpa using hn)
    rw [rSort_snoc, rIns_srt h1]
    have hf : ∀ x : Opn, ((a ++ [o]).filter opOk).find? (fun y => decide (y.at_ = x.at_)) = ((a.filter opOk).find? (fun y => decide (y.at_ = x.at_))).or (if opOk o = true ∧ o.at_ = x.at_ then some o else none) := by
      intro x
      rw [List.filter_append, List.find?_append]
      congr 1
      cases ho : opOk o with
      | false => simp [ho]
      | true => by_cases e : o.at_ = x.at_ <;> simp [ho, e]
    -- some one of the time is there just if one is sorted in
    have hex : ∀ t : Stm, (∃ x ∈ rSort a, x.at_ = t) ↔ ((a.filter opOk).find? (fun y => decide (y.at_ = t))).isSome = true := by
      intro t
      constructor
      · rintro ⟨x, hx, rfl⟩
        rw [(h2 x).1 hx]; rfl
      · intro h
        obtain ⟨y, hy⟩ := Option.isSome_iff_exists.1 h
        have e : y.at_ = t := by have := List.find?_some hy; simpa using this
        exact ⟨y, (h2 y).2 (by rw [e]; exact hy), e⟩
    split
    · rename_i hbad
      refine ⟨h1, fun x => ?_⟩
      rw [hf, h2]
      rcases hbad with hb | hb
      · rw [if_neg (by rw [hb]; simp), Option.or_none]
      · have hs := (hex o.at_).1 hb
        by_cases e : o.at_ = x.at_
        · rw [e] at hs
          obtain ⟨y, hy⟩ := Option.isSome_iff_exists.1 hs
          rw [hy]; rfl
        · rw [if_neg (fun q => e q.2), Option.or_none]
    · rename_i hok
      have ho : opOk o = true := by
        cases ho : opOk o with
        | true => rfl
        | false => exact absurd (.inl ho) hok
      have hno : ¬ ∃ x ∈ rSort a, x.at_ = o.at_ := fun q => hok (.inr q)
      have hnn : (a.filter opOk).find? (fun y => decide (y.at_ = o.at_)) = none := by
        cases hq : (a.filter opOk).find? (fun y => decide (y.at_ = o.at_)) with
        | none => rfl
        | some y => exact absurd ((hex o.at_).2 (by rw [hq]; rfl)) hno
      refine ⟨srt_ins h1 fun x hx e => hno ⟨x, hx, e⟩, fun x => ?_⟩
      rw [mem_ins, hf, h2]
      by_cases e : o.at_ = x.at_
      · rw [if_pos ⟨ho, e⟩, ← e, hnn]
        simp only [Option.none_or]
        constructor
        · rintro (h | h)
          · rw [h]
          · cases h
        · intro h; exact .inl (Option.some.inj h).symm
      · rw [if_neg (fun q => e q.2), Option.or_none]
        constructor
        · rintro (h | h)
          · subst h; exact absurd rfl e
          · exact h
        · exact .inr

/-- Sorted, and those that come twice left out: the document's. -/
theorem cpt_rSort {l s : List Opn} (hf : Fs oLess (l.filter opOk) s) (hs : Sd oLess s) : cpt s = rSort l := by
  refine srt_ext (cpt_srt hs) (rSort_mem l).1 fun x => ?_
  rw [cpt_mem hs, (rSort_mem l).2]
  have h := hf.2 x
  have e : ∀ m : List Opn, m.find? (fun y => decide (y.at_ = x.at_)) = (m.filter (eqv oLess x)).head? := by
    intro m
    rw [List.head?_filter]
    congr 1
    funext y
    rw [eqv_op]
  rw [e, e, h]

/-- The nodes that operations make. -/
def foldL (l : List Opn) : List Nd := (rSort l).foldl doL []
theorem redo_fold (l : List Opn) (es : List Ent) (n : List Nd) : (redo l es n).2 = l.foldl doL n := by
  induction l generalizing es n with
  | nil => rfl
  | cons o l ih => rw [redo, ih]; rfl
theorem foldl_len (l : List Opn) (n : List Nd) : (l.foldl doL n).length ≤ n.length + l.length := by
  induction l generalizing n with
  | nil => exact Nat.le_refl _
  | cons o l ih => have := ih (doL n o); have := doL_len n o; simp only [List.foldl_cons, List.length_cons]; omega
end Go.Gw
