/- What is above what, in plain Lean: of the nodes that operations make none is above itself. No condition. -/
import Derived.Test.YtoffonjlfomnbaaGwLaw6b
namespace Go.Gw
open Go Go.Aw Go.Proofs.Ytoffonjlfomnbaa

theorem rSortLen (l : List Opn) : (rSort l).length ≤ l.length := by
  suffices h : ∀ (l acc : List Opn), (l.foldl rIns acc).length ≤ acc.length + l.length by have := h l []; simpa [rSort] using this
  intro l
  induction l with
  | nil => intro acc; exact Nat.le_refl _
  | cons o l ih =>
    intro acc
    have h1 := ih (rIns acc o)
    have h2 : (rIns acc o).length ≤ acc.length + 1 := by
      unfold rIns
      split
      · omega
      · rw [List.length_append, List.length_cons, List.length_take, List.length_drop]; omega
    rw [List.foldl_cons, List.length_cons]; omega
/-- What a number's node is in. -/
def par (l : List Nd) (id : Int) : Option Int := match fnd l id with | none => none | some n => if n.parent = -1 then none else some n.parent
theorem aboveN_succ (l : List Nd) (k : Nat) (id : Int) : aboveN l (k + 1) id = match par l id with | none => [] | some p => p :: aboveN l k p := by
  rw [aboveN, par]
  cases fnd l id with
  | none => rfl
  | some n => simp only; by_cases h : n.parent = -1 <;> simp [h]
theorem aboveN_take (l : List Nd) (k j : Nat) (id : Int) : aboveN l k id = (aboveN l (k + j) id).take k := by
  induction k generalizing id with
  | zero => rfl
  | succ k ih =>
    rw [Nat.succ_add, aboveN_succ, aboveN_succ]
    cases par l id with
    | none => rfl
    | some p => simp only [List.take_succ_cons]; rw [← ih p]
/-- Nothing is above itself. -/
def Wfr (l : List Nd) : Prop := ∃ r : Int → Nat, ∀ x p, par l x = some p → r p < r x

/-- From which numbers the way up goes on. -/
def srcN (l : List Nd) : Nat → Int → List Int
  | 0, _ => []
  | k + 1, id => match par l id with | none => [] | some p => id :: srcN l k p
theorem srcN_len (l : List Nd) (k : Nat) (id : Int) : (srcN l k id).length = (aboveN l k id).length := by
  induction k generalizing id with
  | zero => rfl
  | succ k ih =>
    rw [aboveN_succ, srcN]
    cases par l id with
    | none => rfl
    | some p => simp only [List.length_cons, ih]
theorem srcN_mem (l : List Nd) (k : Nat) (id : Int) : ∀ x ∈ srcN l k id, x ∈ l.map Nd.id := by
  induction k generalizing id with
  | zero => intro x hx; cases hx
  | succ k ih =>
    intro x hx
    rw [srcN] at hx
    cases hp : par l id with
    | none => rw [hp] at hx; cases hx
    | some p =>
      rw [hp] at hx
      rcases List.mem_cons.1 hx with rfl | hx
      · unfold par at hp
        cases hf : fnd l x with
        | none => rw [hf] at hp; cases hp
        | some n =>
          have h1 := List.mem_of_find?_eq_some hf
          have h2 := List.find?_some hf
          exact List.mem_map.2 ⟨n, h1, by simpa using h2⟩
      · exact ih p x hx
theorem srcN_rank {l : List Nd} {r : Int → Nat} (hr : ∀ x p, par l x = some p → r p < r x) (k : Nat) (id : Int) : (∀ x ∈ srcN l k id, r x ≤ r id) ∧ (srcN l k id).Nodup := by
  induction k generalizing id with
  | zero => exact ⟨fun x hx => (by cases hx), List.nodup_nil⟩
  | succ k ih =>
    rw [srcN]
    cases hp : par l id with
    | none => exact ⟨fun x hx => (by cases hx), List.nodup_nil⟩
    | some p =>
      obtain ⟨h1, h2⟩ := ih p
      have h3 := hr id p hp
      refine ⟨fun x hx => ?_, List.nodup_cons.2 ⟨fun hx => ?_, h2⟩⟩
      · rcases List.mem_cons.1 hx with rfl | hx
        · exact Nat.le_refl _
        · have := h1 x hx; omega
      · have := h1 id hx; omega
theorem above_rank {l : List Nd} {r : Int → Nat} (hr : ∀ x p, par l x = some p → r p < r x) (k : Nat) (id : Int) : ∀ x ∈ aboveN l k id, r x < r id := by
  induction k generalizing id with
  | zero => intro x hx; cases hx
  | succ k ih =>
    intro x hx
    rw [aboveN_succ] at hx
    cases hp : par l id with
    | none => rw [hp] at hx; cases hx
    | some p =>
      rw [hp] at hx
      have h3 := hr id p hp
      rcases List.mem_cons.1 hx with rfl | hx
      · exact h3
      · have := ih p x hx; omega
theorem pigeon {xs ys : List Int} (hn : xs.Nodup) (hs : ∀ x ∈ xs, x ∈ ys) : xs.length ≤ ys.length := by
  induction xs generalizing ys with
  | nil => exact Nat.zero_le _
  | cons x xs ih =>
    have hx := hs x (by simp)
    have h := ih (ys := ys.erase x) (List.nodup_cons.1 hn).2 (fun z hz => by
      have hne : z ≠ x := fun e => (List.nodup_cons.1 hn).1 (e ▸ hz)
      exact (List.mem_erase_of_ne hne).2 (hs z (by simp [hz])))
    have h1 := List.length_erase_of_mem hx
    have h2 := List.length_pos_of_mem hx
    rw [List.length_cons]; omega
theorem above_len {l : List Nd} (h : Wfr l) (k : Nat) (id : Int) : (aboveN l k id).length ≤ l.length := by
  obtain ⟨r, hr⟩ := h
  have := pigeon (srcN_rank hr k id).2 (srcN_mem l k id)
  rwa [srcN_len, List.length_map] at this
/-- So many steps are enough. -/
theorem above_fuel {l : List Nd} (h : Wfr l) {k : Nat} (hk : l.length ≤ k) (id : Int) : aboveN l k id = aboveI l id := by
  obtain ⟨j, rfl⟩ : ∃ j, k = l.length + j := ⟨k - l.length, by omega⟩
  rw [aboveI, aboveN_take l l.length j id, List.take_of_length_le (above_len h _ _)]
theorem above_step (l : List Nd) (k : Nat) (id : Int) : ∀ y ∈ id :: aboveN l k id, ∀ p, par l y = some p → p ∈ aboveN l (k + 1) id := by
  induction k generalizing id with
  | zero =>
    intro y hy p hp
    simp only [aboveN, List.mem_cons, List.not_mem_nil, or_false] at hy
    subst hy
    rw [aboveN_succ, hp]; simp
  | succ k ih =>
    intro y hy p hp
    rcases List.mem_cons.1 hy with rfl | hy
    · rw [aboveN_succ, hp]; simp
    · rw [aboveN_succ] at hy
      rw [aboveN_succ]
      cases hq : par l id with
      | none => rw [hq] at hy; cases hy
      | some q =>
        rw [hq] at hy
        exact List.mem_cons_of_mem _ (ih q y hy p hp)
theorem above_closed {l : List Nd} (h : Wfr l) (id : Int) : ∀ y ∈ id :: aboveI l id, ∀ p, par l y = some p → p ∈ aboveI l id := by
  intro y hy p hp
  have := above_step l l.length id y hy p hp
  rwa [above_fuel h (Nat.le_succ _)] at this
theorem above_sub {l : List Nd} {C : Int → Prop} (hc : ∀ y, C y → ∀ p, par l y = some p → C p) (k : Nat) (id : Int) (hi : C id) : ∀ x ∈ aboveN l k id, C x := by
  induction k generalizing id with
  | zero => intro x hx; cases hx
  | succ k ih =>
    intro x hx
    rw [aboveN_succ] at hx
    cases hp : par l id with
    | none => rw [hp] at hx; cases hx
    | some p =>
      rw [hp] at hx
      have h3 := hc id hi p hp
      rcases List.mem_cons.1 hx with rfl | hx
      · exact h3
      · exact ih p h3 x hx
theorem above_not {l : List Nd} (h : Wfr l) (id : Int) : id ∉ aboveI l id := by
  obtain ⟨r, hr⟩ := h
  intro hx
  have := above_rank hr _ _ _ hx
  omega
/-- Where the way up is alike, it is alike. -/
theorem above_same {l a : List Nd} {C : Int → Prop} (hc : ∀ y, C y → ∀ p, par l y = some p → C p) (he : ∀ y, C y → par a y = par l y) (k : Nat) (id : Int) (hi : C id) : aboveN a k id = aboveN l k id := by
  induction k generalizing id with
  | zero => rfl
  | succ k ih =>
    rw [aboveN_succ, aboveN_succ, he id hi]
    cases hp : par l id with
    | none => rfl
    | some p => simp only; rw [ih p (hc id hi p hp)]

theorem par_write {l : List Nd} {o : Opn} (hs : chk l = true) (hr : refused l o = false) (hk : o.kind = 2) (x : Int) : par (doL l o) x = par l x := by
  rw [par, par, doL_put hr, fnd_put hs, nodeNew_id]
  by_cases hx : x = o.node
  · rw [if_pos hx, nodeNew_write hk, hx]
    simp only
    cases fnd l o.node with
    | none => rfl
    | some n => rfl
  · rw [if_neg hx]
theorem par_move {l : List Nd} {o : Opn} (hs : chk l = true) (hr : refused l o = false) (hk : o.kind = 1) (hp : o.parent ≠ -1) (x : Int) : par (doL l o) x = if x = o.node then some o.parent else par l x := by
  rw [par, doL_put hr, fnd_put hs, nodeNew_id]
  by_cases hx : x = o.node
  · rw [if_pos hx, if_pos hx, nodeNew_move hk]
    simp only
    rw [if_neg hp]
  · rw [if_neg hx, if_neg hx, par]
theorem ok_kind {o : Opn} (h : opOk o = true) : o.kind = 1 ∨ o.kind = 2 := by
  unfold opOk at h
  simp only [Bool.and_eq_true, Bool.or_eq_true, decide_eq_true_eq] at h
  exact h.1.1.1
theorem dir_pos {n : Int} (h : dirI n = true) : n ≠ -1 := by
  intro e; subst e; revert h; decide
theorem ok_dir {o : Opn} (h : opOk o = true) (hk : o.kind = 1) : dirI o.parent = true := by
  unfold opOk at h
  rw [if_pos hk] at h
  simp only [Bool.and_eq_true] at h
  have h2 := h.2
  unfold fitsM at h2
  simp only [Bool.and_eq_true] at h2
  exact h2.1.1.1.2
theorem ref_f {l : List Nd} {o : Opn} (h : refused l o = false) : chk l = true ∧ opOk o = true ∧ (o.kind = 1 → loopsI l o = false) := by
  unfold refused at h
  simp only [Bool.or_eq_false_iff, Bool.and_eq_false_iff, Bool.not_eq_false', decide_eq_false_iff_not] at h
  exact ⟨h.1.1, h.1.2, fun hk => h.2.resolve_left (fun q => q hk)⟩
theorem loops_f {l : List Nd} {o : Opn} (h : loopsI l o = false) : o.node ∉ o.parent :: aboveI l o.parent := by
  unfold loopsI at h
  simp only [Bool.or_eq_false_iff, decide_eq_false_iff_not, List.any_eq_false, decide_eq_true_eq] at h
  intro hx
  rcases List.mem_cons.1 hx with e | hx
  · exact h.1 e.symm
  · exact h.2 _ hx rfl

theorem wf_do {l : List Nd} (o : Opn) (hs : chk l = true) (h : Wfr l) : Wfr (doL l o) := by
  cases hr : refused l o with
  | true => rw [(do_ref hr).1]; exact h
  | false =>
    obtain ⟨-, hok, hlo⟩ := ref_f hr
    rcases ok_kind hok with hk | hk
    · have hno := loops_f (hlo hk)
      have hpar := par_move hs hr hk (dir_pos (ok_dir hok hk))
      obtain ⟨r, hr'⟩ := id h
      have hdesc : ∀ x p, x ≠ o.node → par l x = some p → (o.node ∈ x :: aboveI l x ↔ o.node ∈ p :: aboveI l p) := by
        intro x p hx hp
        have hcl := above_closed h x
        have hpx : p ∈ aboveI l x := hcl x (by simp) p hp
        constructor
        · intro hm
          rcases List.mem_cons.1 hm with e | hm
          · exact absurd e.symm hx
          · have hm2 : o.node ∈ aboveN l (l.length + 1) x := by rw [above_fuel h (Nat.le_succ _)]; exact hm
            rw [aboveN_succ, hp] at hm2
            exact hm2
        · intro hm
          refine List.mem_cons_of_mem _ ?_
          rcases List.mem_cons.1 hm with e | hm
          · rw [e]; exact hpx
          · exact above_sub (C := fun y => y ∈ aboveI l x) (fun y hy q hq => hcl y (List.mem_cons_of_mem _ hy) q hq) _ p hpx _ hm
      refine ⟨fun x => if o.node ∈ x :: aboveI l x then r x + r o.parent + 1 else r x, fun x p hxp => ?_⟩
      rw [hpar] at hxp
      simp only
      by_cases hx : x = o.node
      · rw [if_pos hx] at hxp
        cases hxp
        rw [if_neg hno, if_pos (by rw [hx]; simp)]; omega
      · rw [if_neg hx] at hxp
        have h1 := hdesc x p hx hxp
        have h2 := hr' x p hxp
        by_cases hd : o.node ∈ x :: aboveI l x
        · rw [if_pos hd, if_pos (h1.1 hd)]; omega
        · rw [if_neg hd, if_neg (fun q => hd (h1.2 q))]; exact h2
    · obtain ⟨r, hr'⟩ := h
      exact ⟨r, fun x p hp => hr' x p (by rw [par_write hs hr hk] at hp; exact hp)⟩

/-- What holds of the nodes that operations make. -/
structure Frs (l : List Nd) : Prop where
  chk : chk l = true
  wf : Wfr l
  dir : ∀ n ∈ l, n.parent = -1 ∨ dirI n.parent = true
theorem frs_nil : Frs [] := ⟨rfl, ⟨fun _ => 0, fun x p h => by cases h⟩, fun n h => by cases h⟩
theorem put_mem {l : List Nd} {n x : Nd} (h : x ∈ putN l n) : x = n ∨ x ∈ l := by
  rw [putN, layN, List.append_assoc, List.mem_append] at h
  rcases h with h | h
  · exact .inr (List.mem_of_mem_take h)
  · rcases List.mem_append.1 h with h | h
    · rw [List.mem_singleton] at h; exact .inl h
    · exact .inr (List.mem_of_mem_drop h)
theorem frs_do {l : List Nd} (o : Opn) (h : Frs l) : Frs (doL l o) := by
  refine ⟨do_chk o h.chk, wf_do o h.chk h.wf, ?_⟩
  cases hr : refused l o with
  | true => rw [(do_ref hr).1]; exact h.dir
  | false =>
    obtain ⟨-, hok, -⟩ := ref_f hr
    intro n hn
    rw [doL_put hr] at hn
    rcases put_mem hn with rfl | hn
    · rcases ok_kind hok with hk | hk
      · rw [nodeNew_move hk]; exact .inr (ok_dir hok hk)
      · rw [nodeNew_write hk]
        simp only
        cases hf : fnd l o.node with
        | none => exact .inl rfl
        | some m => exact h.dir m (List.mem_of_find?_eq_some hf)
    · exact h.dir n hn
theorem frs_foldl (s : List Opn) {l : List Nd} (h : Frs l) : Frs (s.foldl doL l) := by
  induction s generalizing l with
  | nil => exact h
  | cons o s ih => exact ih (frs_do o h)
theorem frs_fold (l : List Opn) : Frs (foldL l) := frs_foldl _ frs_nil

theorem fnd_mem {l : List Nd} (hs : chk l = true) {n : Nd} (hn : n ∈ l) : fnd l n.id = some n := by
  have hp := ((chk_iff l).1 hs).2
  cases h : fnd l n.id with
  | none =>
    have := List.find?_eq_none.1 h n hn
    simp at this
  | some m =>
    have h1 := List.mem_of_find?_eq_some h
    have h2 : m.id = n.id := by have := List.find?_some h; simpa using this
    obtain ⟨i, hi, rfl⟩ := List.getElem_of_mem h1
    obtain ⟨j, hj, rfl⟩ := List.getElem_of_mem hn
    rcases Nat.lt_trichotomy i j with q | q | q
    · have := List.pairwise_iff_getElem.1 hp i j hi hj q; omega
    · subst q; rfl
    · have := List.pairwise_iff_getElem.1 hp j i hj hi q; omega

/-- Where the way up ends. -/
theorem above_end {l : List Nd} (h : Frs l) {id : Int} (hne : aboveI l id ≠ []) : par l ((aboveI l id).getLast hne) = none ∧ dirI ((aboveI l id).getLast hne) = true := by
  obtain ⟨r, hr⟩ := h.wf
  have hmem : (aboveI l id).getLast hne ∈ aboveI l id := List.getLast_mem hne
  have hmin : ∀ k x (hk : aboveN l k x ≠ []), ∀ y ∈ aboveN l k x, r ((aboveN l k x).getLast hk) ≤ r y := by
    intro k
    induction k with
    | zero => intro x hk; exact absurd rfl hk
    | succ k ih =>
      intro x hk y hy
      have e := aboveN_succ l k x
      cases hp : par l x with
      | none => rw [hp] at e; exact absurd e hk
      | some p =>
        rw [hp] at e
        simp only at e
        rw [e] at hy
        by_cases h0 : aboveN l k p = []
        · rw [h0] at e hy
          simp only [e, List.getLast_singleton]
          rw [List.mem_singleton] at hy; rw [hy]; exact Nat.le_refl _
        · have e2 : (aboveN l (k + 1) x).getLast hk = (aboveN l k p).getLast h0 := by simp only [e, List.getLast_cons h0]
          rw [e2]
          rcases List.mem_cons.1 hy with rfl | hy
          · exact Nat.le_of_lt (above_rank hr k y _ (List.getLast_mem h0))
          · exact ih p h0 y hy
  constructor
  · cases hp : par l ((aboveI l id).getLast hne) with
    | none => rfl
    | some p =>
      have h1 := above_closed h.wf id _ (List.mem_cons_of_mem _ hmem) p hp
      have h2 := hmin _ _ hne p h1
      have h3 := hr _ _ hp
      have h4 : r p < r p := Nat.lt_of_lt_of_le h3 h2
      omega
  · have hd : ∀ k x, ∀ y ∈ aboveN l k x, dirI y = true := by
      intro k
      induction k with
      | zero => intro x y hy; cases hy
      | succ k ih =>
        intro x y hy
        rw [aboveN_succ] at hy
        cases hp : par l x with
        | none => rw [hp] at hy; cases hy
        | some p =>
          rw [hp] at hy
          rcases List.mem_cons.1 hy with rfl | hy
          · unfold par at hp
            cases hf : fnd l x with
            | none => rw [hf] at hp; cases hp
            | some n =>
              rw [hf] at hp
              simp only at hp
              by_cases hq : n.parent = -1
              · rw [if_pos hq] at hp; cases hp
              · rw [if_neg hq] at hp
                cases hp
                exact (h.dir n (List.mem_of_find?_eq_some hf)).resolve_left hq
          · exact ih p y hy
    exact hd _ _ _ hmem

/-- What is above a node that was moved. -/
theorem up_move {l : List Nd} {o : Opn} (h : Frs l) (hr : refused l o = false) (hk : o.kind = 1) : aboveI (doL l o) o.node = o.parent :: aboveI l o.parent ∧ aboveI (doL l o) o.parent = aboveI l o.parent := by
  obtain ⟨-, hok, hlo⟩ := ref_f hr
  have hno := loops_f (hlo hk)
  have hpar := par_move h.chk hr hk (dir_pos (ok_dir hok hk))
  have hf := frs_do o h
  have hlen : l.length ≤ (doL l o).length := by
    rw [doL_put hr, putN]
    have := upto_le l (nodeNew l o).id h.chk
    have := layN_len l (pos l (nodeNew l o).id) (upto l (nodeNew l o).id) [nodeNew l o] this.1 this.2
    have hu : upto l (nodeNew l o).id ≤ pos l (nodeNew l o).id + 1 := by unfold upto; split <;> omega
    simp only [List.length_singleton] at this
    omega
  have hsame : ∀ k, aboveN (doL l o) k o.parent = aboveN l k o.parent := fun k => above_same (C := fun y => y ∈ o.parent :: aboveI l o.parent) (fun y hy p hp => List.mem_cons_of_mem _ (above_closed h.wf o.parent y hy p hp))
    (fun y hy => by
      have hne : ¬ y = o.node := fun e => hno (by rw [← e]; exact hy)
      rw [hpar, if_neg hne]) k o.parent (by simp)
  have e2 : aboveI (doL l o) o.parent = aboveI l o.parent := by
    rw [aboveI, hsame, above_fuel h.wf hlen]
  refine ⟨?_, e2⟩
  rw [← above_fuel hf.wf (Nat.le_succ _), aboveN_succ, hpar, if_pos rfl]
  simp only
  congr 1
end Go.Gw
