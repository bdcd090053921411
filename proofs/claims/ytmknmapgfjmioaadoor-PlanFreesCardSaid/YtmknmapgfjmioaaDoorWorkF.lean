/- The texts 6 of 6 beneath the rows of this seat (joined by program): the abstract machine, and what the functions answer. No condition. -/
import Derived.Test.YtmknmapgfjmioaaDoorWorkE
import Derived.Test.YtmknmapgfjmioaaDoorRows
import Derived.JoinedCond
import Derived.Deep.DeepHandedRow
set_option linter.unusedSimpArgs false
set_option linter.unusedVariables false
set_option linter.unusedSectionVars false
/- What operations make, in plain Lean: sorted, those that come twice left out, done. No condition. -/
namespace Go.Gw
open Go Go.Aw Go.Srt Go.Proofs.YtmknmapgfjmioaaDoor

def oLess (a b : Opn) : Bool := lessS a.at_ b.at_
theorem oLess_swo : SWO oLess where
  irr := fun a => lessS_irr _
  ntr := fun a b c h1 h2 => by
    unfold oLess at *; rw [lessS_f] at *; omega
  asy := fun a b h => by
    unfold oLess at *; rw [lessS_t] at h; rw [lessS_f]; omega
theorem eqv_op (k x : Opn) : eqv oLess k x = decide (x.at_ = k.at_) := by
  rw [Bool.eq_iff_iff, eqv_t, decide_eq_true_eq]
  unfold oLess
  constructor
  · rintro ⟨h1, h2⟩
    rcases lessS_tri k.at_ x.at_ with q | q | q
    · rw [q] at h1; cases h1
    · exact q.symm
    · rw [q] at h2; cases h2
  · intro e; rw [e]; exact ⟨lessS_irr _, lessS_irr _⟩

/-- Behind one, those of which each has another time than the one ahead of it. -/
def cptF : Opn → List Opn → List Opn
  | _, [] => []
  | p, x :: l => if x.at_ = p.at_ then cptF x l else x :: cptF x l
def cpt : List Opn → List Opn
  | [] => []
  | x :: l => x :: cptF x l

theorem cptF_len (p : Opn) (l : List Opn) : (cptF p l).length ≤ l.length := by
  induction l generalizing p with
  | nil => exact Nat.le_refl _
  | cons x l ih => have := ih x; unfold cptF; split <;> simp <;> omega
theorem cpt_len (l : List Opn) : (cpt l).length ≤ l.length := by
  cases l with
  | nil => exact Nat.le_refl _
  | cons x l => have := cptF_len x l; simp [cpt]; omega

theorem cptF_mem (p : Opn) (l : List Opn) (hs : Sd oLess (p :: l)) (x : Opn) : x ∈ cptF p l ↔ x.at_ ≠ p.at_ ∧ l.find? (fun y => decide (y.at_ = x.at_)) = some x := by
  induction l generalizing p with
  | nil => simp [cptF]
  | cons y l ih =>
    have h0 : Sd oLess (y :: l) := (List.pairwise_cons.1 hs).2
    have hpy : oLess y p = false := (List.pairwise_cons.1 hs).1 y (by simp)
    have hi := ih y h0
    rw [List.find?_cons]
    unfold cptF
    by_cases e : y.at_ = p.at_
    · rw [if_pos e, hi]
      by_cases e2 : y.at_ = x.at_
      · rw [decide_eq_true e2]; simp only
        constructor
        · rintro ⟨h1, _⟩; exact absurd e2.symm h1
        · rintro ⟨h1, _⟩; exact absurd (e2.symm.trans e) h1
      · rw [decide_eq_false e2]; simp only
        rw [e]
    · rw [if_neg e, List.mem_cons, hi]
      by_cases e2 : y.at_ = x.at_
      · rw [decide_eq_true e2]; simp only
        constructor
        · rintro (h | ⟨h1, _⟩)
          · subst h; exact ⟨e, rfl⟩
          · exact absurd e2.symm h1
        · rintro ⟨_, h2⟩
          left; exact (Option.some.inj h2).symm
      · rw [decide_eq_false e2]; simp only
        constructor
        · rintro (h | ⟨_, h2⟩)
          · subst h; exact absurd rfl e2
          · refine ⟨fun hx => ?_, h2⟩
            -- x stands behind y, y is behind p
            have hx2 : x ∈ l := List.mem_of_find?_eq_some h2
            have q1 : oLess x y = false := (List.pairwise_cons.1 h0).1 x hx2
            unfold oLess at q1 hpy
            rw [hx] at q1
            rcases lessS_tri p.at_ y.at_ with q | q | q
            · rw [q] at q1; cases q1
            · exact e q.symm
            · rw [q] at hpy; cases hpy
        · rintro ⟨_, h2⟩
          exact .inr ⟨fun hx => e2 hx.symm, h2⟩
theorem cpt_mem {l : List Opn} (hs : Sd oLess l) (x : Opn) : x ∈ cpt l ↔ l.find? (fun y => decide (y.at_ = x.at_)) = some x := by
  cases l with
  | nil => simp [cpt]
  | cons y l =>
    rw [cpt, List.mem_cons, cptF_mem y l hs, List.find?_cons]
    by_cases e : y.at_ = x.at_
    · rw [decide_eq_true e]; simp only
      constructor
      · rintro (h | ⟨h1, _⟩)
        · subst h; rfl
        · exact absurd e.symm h1
      · intro h; exact .inl (Option.some.inj h).symm
    · rw [decide_eq_false e]; simp only
      constructor
      · rintro (h | ⟨_, h⟩)
        · subst h; exact absurd rfl e
        · exact h
      · intro h; exact .inr ⟨fun q => e q.symm, h⟩
theorem cptF_srt (p : Opn) (l : List Opn) (hs : Sd oLess (p :: l)) : Srt (p :: cptF p l) := by
  induction l generalizing p with
  | nil => exact List.pairwise_singleton _ _
  | cons y l ih =>
    have h0 : Sd oLess (y :: l) := (List.pairwise_cons.1 hs).2
    have hpy : oLess y p = false := (List.pairwise_cons.1 hs).1 y (by simp)
    have hi := ih y h0
    unfold cptF
    rw [Srt, List.pairwise_cons] at hi
    by_cases e : y.at_ = p.at_
    · rw [if_pos e, Srt, List.pairwise_cons]
      exact ⟨fun z hz => by rw [← e]; exact hi.1 z hz, hi.2⟩
    · rw [if_neg e, Srt, List.pairwise_cons]
      have hl : lessS p.at_ y.at_ = true := by
        unfold oLess at hpy
        rcases lessS_tri p.at_ y.at_ with q | q | q
        · exact q
        · exact absurd q.symm e
        · rw [q] at hpy; cases hpy
      refine ⟨fun z hz => ?_, List.pairwise_cons.2 hi⟩
      rcases List.mem_cons.1 hz with rfl | hz
      · exact hl
      · exact lessS_trans hl (hi.1 z hz)
theorem cpt_srt {l : List Opn} (hs : Sd oLess l) : Srt (cpt l) := by
  cases l with
  | nil => exact List.Pairwise.nil
  | cons y l => exact cptF_srt y l hs

theorem cptF_snoc (p : Opn) (l : List Opn) (y x : Opn) : cptF p (l ++ [y] ++ [x]) = if x.at_ = y.at_ then cptF p (l ++ [y]) else cptF p (l ++ [y]) ++ [x] := by
  induction l generalizing p with
  | nil =>
    simp only [List.nil_append, List.cons_append, cptF]
    by_cases h1 : y.at_ = p.at_ <;> by_cases h2 : x.at_ = y.at_ <;> simp [h1, h2]
  | cons z l ih =>
    simp only [List.cons_append, cptF]
    have := ih z
    simp only [List.append_assoc, List.cons_append, List.nil_append] at this ⊢
    by_cases h1 : z.at_ = p.at_
    · rw [if_pos h1, if_pos h1, this]
    · rw [if_neg h1, if_neg h1, this]
      by_cases h2 : x.at_ = y.at_
      · rw [if_pos h2, if_pos h2]
      · rw [if_neg h2, if_neg h2]; rfl
theorem cpt_snoc (P : List Opn) (y x : Opn) : cpt (P ++ [y] ++ [x]) = if x.at_ = y.at_ then cpt (P ++ [y]) else cpt (P ++ [y]) ++ [x] := by
  cases P with
  | nil =>
    simp only [List.nil_append, List.cons_append, cpt, cptF]
    by_cases h2 : x.at_ = y.at_ <;> simp [h2]
  | cons p l =>
    have := cptF_snoc p l y x
    simp only [List.append_assoc, List.cons_append, List.nil_append] at this ⊢
    simp only [cpt, this]
    by_cases h2 : x.at_ = y.at_
    · rw [if_pos h2, if_pos h2]
    · rw [if_neg h2, if_neg h2]; rfl
theorem cpt_take {D : List Opn} {j : Nat} (h1 : 1 ≤ j) (h2 : j < D.length) : cpt (D.take (j + 1)) = if D[j].at_ = (D[j - 1]'(by omega)).at_ then cpt (D.take j) else cpt (D.take j) ++ [D[j]] := by
  obtain ⟨i, rfl⟩ : ∃ i, j = i + 1 := ⟨j - 1, by omega⟩
  have e1 : D.take (i + 1 + 1) = D.take i ++ [D[i]'(by omega)] ++ [D[i + 1]] := by
    rw [List.take_succ_eq_append_getElem h2, List.take_succ_eq_append_getElem (by omega)]
  have e2 : D.take (i + 1) = D.take i ++ [D[i]'(by omega)] := List.take_succ_eq_append_getElem (by omega)
  rw [e1, e2, cpt_snoc]
  rfl

/-- What is in the document's sorted operations: the first one of each time, of those that may be. -/
theorem rSort_mem (l : List Opn) : Srt (rSort l) ∧ ∀ x, x ∈ rSort l ↔ (l.filter opOk).find? (fun y => decide (y.at_ = x.at_)) = some x := by
  induction hn : l.length generalizing l with
  | zero =>
    have : l = [] := List.eq_nil_of_length_eq_zero hn
    subst this
    exact ⟨List.Pairwise.nil, fun x => by simp [rSort]⟩
  | succ n ih =>
    obtain ⟨a, o, rfl⟩ : ∃ a o, l = a ++ [o] := by
      have hne : l ≠ [] := fun e => by subst e; simp at hn
      exact ⟨l.dropLast, l.getLast hne, (List.dropLast_concat_getLast hne).symm⟩
    obtain ⟨h1, h2⟩ := ih a (by simpa using hn)
    rw [rSort_snoc, rIns_srt h1]
    have hf : ∀ x : Opn, ((a ++ [o]).filter opOk).find? (fun y => decide (y.at_ = x.at_)) = ((a.filter opOk).find? (fun y => decide (y.at_ = x.at_))).or (if opOk o = true ∧ o.at_ = x.at_ then some o else none) := by
      intro x
      rw [List.filter_append, List.find?_append]
      congr 1
      cases ho : opOk o with
      | false => simp [ho]
      | true => by_cases e : o.at_ = x.at_ <;> simp [ho, e]
    -- some one of the time is there just if one is sorted in
    have hex : ∀ t : Stm, (∃ x ∈ rSort a, x.at_ = t) ↔ ((a.filter opOk).find? (fun y => decide (y.at_ = t))).isSome = true := by
      intro t
      constructor
      · rintro ⟨x, hx, rfl⟩
        rw [(h2 x).1 hx]; rfl
      · intro h
        obtain ⟨y, hy⟩ := Option.isSome_iff_exists.1 h
        have e : y.at_ = t := by have := List.find?_some hy; simpa using this
        exact ⟨y, (h2 y).2 (by rw [e]; exact hy), e⟩
    split
    · rename_i hbad
      refine ⟨h1, fun x => ?_⟩
      rw [hf, h2]
      rcases hbad with hb | hb
      · rw [if_neg (by rw [hb]; simp), Option.or_none]
      · have hs := (hex o.at_).1 hb
        by_cases e : o.at_ = x.at_
        · rw [e] at hs
          obtain ⟨y, hy⟩ := Option.isSome_iff_exists.1 hs
          rw [hy]; rfl
        · rw [if_neg (fun q => e q.2), Option.or_none]
    · rename_i hok
      have ho : opOk o = true := by
        cases ho : opOk o with
        | true => rfl
        | false => exact absurd (.inl ho) hok
      have hno : ¬ ∃ x ∈ rSort a, x.at_ = o.at_ := fun q => hok (.inr q)
      have hnn : (a.filter opOk).find? (fun y => decide (y.at_ = o.at_)) = none := by
        cases hq : (a.filter opOk).find? (fun y => decide (y.at_ = o.at_)) with
        | none => rfl
        | some y => exact absurd ((hex o.at_).2 (by rw [hq]; rfl)) hno
      refine ⟨srt_ins h1 fun x hx e => hno ⟨x, hx, e⟩, fun x => ?_⟩
      rw [mem_ins, hf, h2]
      by_cases e : o.at_ = x.at_
      · rw [if_pos ⟨ho, e⟩, ← e, hnn]
        simp only [Option.none_or]
        constructor
        · rintro (h | h)
          · rw [h]
          · cases h
        · intro h; exact .inl (Option.some.inj h).symm
      · rw [if_neg (fun q => e q.2), Option.or_none]
        constructor
        · rintro (h | h)
          · subst h; exact absurd rfl e
          · exact h
        · exact .inr

/-- Sorted, and those that come twice left out: the document's. -/
theorem cpt_rSort {l s : List Opn} (hf : Fs oLess (l.filter opOk) s) (hs : Sd oLess s) : cpt s = rSort l := by
  refine srt_ext (cpt_srt hs) (rSort_mem l).1 fun x => ?_
  rw [cpt_mem hs, (rSort_mem l).2]
  have h := hf.2 x
  have e : ∀ m : List Opn, m.find? (fun y => decide (y.at_ = x.at_)) = (m.filter (eqv oLess x)).head? := by
    intro m
    rw [List.head?_filter]
    congr 1
    funext y
    rw [eqv_op]
  rw [e, e, h]

/-- The nodes that operations make. -/
def foldL (l : List Opn) : List Nd := (rSort l).foldl doL []
theorem foldl_len (l : List Opn) (n : List Nd) : (l.foldl doL n).length ≤ n.length + l.length := by
  induction l generalizing n with
  | nil => exact Nat.le_refl _
  | cons o l ih => have := ih (doL n o); have := doL_len n o; simp only [List.foldl_cons, List.length_cons]; omega
end Go.Gw
/- Sorting of operations in memory: SortStableFunc, CompactFunc. No condition. -/
namespace Go.Proofs.YtmknmapgfjmioaaDoor
open Go Go.Aw Go.Gw Go.Srt
set_option linter.unusedSimpArgs false
set_option maxRecDepth 20000
set_option maxHeartbeats 4000000

/-- Pieces of a length, each in order. -/
def Pcs (lt : Opn → Opn → Bool) (s : Nat) (Ps : List (List Opn)) : Prop := ∀ c ∈ Ps, c.length = s ∧ Sd lt c

structure Sta (lt : Opn → Opn → Bool) (D : List Opn) (n : Nat) (x : Nat × List (List Opn) × List Opn) : Prop where
  s1 : 1 ≤ x.1
  s2 : x.1 ≤ 2 * n + 20
  fs : Fs lt D (x.2.1.flatten ++ x.2.2)
  pc : Pcs lt x.1 x.2.1
  tl : x.2.2.length < x.1
  ts : Sd lt x.2.2

structure Stb (lt : Opn → Opn → Bool) (D : List Opn) (s : Nat) (T : List Opn) (x : List (List Opn) × List (List Opn)) : Prop where
  fs : Fs lt D (x.1.flatten ++ (x.2.flatten ++ T))
  pc : Pcs lt (2 * s) x.1
  rc : Pcs lt s x.2

theorem stable_c {lt : Opn → Opn → Bool} {c : Opn → Opn → Int} (hw : SWO lt) (hc : ∀ x y, decide (c x y < 0) = lt x y) (fn : Fn) (fs cs : List AV) (hf : CmpC Tryd.prog (.func fn fs cs) c) (blk v lc n : Nat) (hl : n ≤ 1000000000) (D : List Opn) (hn : n = D.length) (H : AHeap)
    (hh : hget H blk = .cells v (fl D)) :
    ACalls Tryd.prog 46 [.osl 7 blk v 0 n lc, .int .i64 n, .func fn fs cs] H (fun r H' => r = .tup [] ∧ ∃ S, Fs lt D S ∧ Sd lt S ∧ H' = hset H blk (.cells v (fl S))) := by
  refine acalls_of Tryd.func46 rfl (Nat.le_of_ble_eq_true rfl) ?_
  have hset1 := fun b => hget_of hh trivial b
  have hset2 := hset_set H blk
  repeat' first | ((first | refine callP_false (.bool false) ?_ | refine aw_region rfl ?_ | refine aw_region_draw mixedF rfl (by kernel_rfl) ?_ | refine aE rfl ?_); simp only [go_sem]) | refine callG_y ?_ | refine callG_p ?_ | refine aw_seq ?_ | refine aw_block ?_ | refine aw_scope ?_ | (refine aw_cond rfl (fun h => ?_) (fun h => ?_) <;> try (exfalso; first | (simp at h; done) | (simp at h; omega))) | ((with_reducible refine And.intro ?_ ?_); focus (first | omega | (intros; simp_all; done) | (simp; omega)))
  refine aw_cutB (ι := List (List Opn) × List Opn) (fun x => [(0, .osl 7 blk v 0 n lc), (1, .int .i64 n), (2, .func fn fs cs), (6, .int .i64 20), (7, .int .i64 x.1.flatten.length)]) (fun x => hset H blk (.cells v (fl (x.1.flatten ++ x.2))))
    (fun x => Fs lt D (x.1.flatten ++ x.2) ∧ Pcs lt 20 x.1 ∧ x.2.length < 20) ?_ ?_
  · refine aw_loopS (ι := List (List Opn) × List Opn) (fun x => [(0, .osl 7 blk v 0 n lc), (1, .int .i64 n), (2, .func fn fs cs), (6, .int .i64 20), (7, .int .i64 x.1.flatten.length), (8, .int .i64 (x.1.flatten.length + 20 : Nat))]) (fun x => hset H blk (.cells v (fl (x.1.flatten ++ x.2))))
      (fun x => Fs lt D (x.1.flatten ++ x.2) ∧ Pcs lt 20 x.1) (fun x => x.2.length) ([], D) ⟨.refl _, fun _ h => (by cases h)⟩ ?_ (hset_id hh trivial).symm ?_
    · simp [go_sem]
    · rintro ⟨Ps, R⟩ ⟨h1, h2⟩
      simp only at h1 h2 ⊢
      have hlen := h1.1
      rw [List.length_append, ← hn] at hlen
      by_cases h20 : R.length < 20
      · have hli : decide (((Ps.flatten.length + 20 : Nat) : Int) ≤ (n : Int)) = false := decide_eq_false (by omega)
        repeat' first | ((first | refine callP_false (.bool false) ?_ | refine aw_region rfl ?_ | refine aw_region_draw mixedF rfl (by kernel_rfl) ?_ | refine aE rfl ?_); simp only [go_sem, hli]) | refine callG_y ?_ | refine callG_p ?_ | refine aw_seq ?_ | refine aw_block ?_ | refine aw_scope ?_ | (refine aw_cond rfl (fun h => ?_) (fun h => ?_) <;> try (exfalso; first | (simp at h; done) | (simp at h; omega))) | ((with_reducible refine And.intro ?_ ?_); focus (first | omega | (intros; simp_all; done) | (simp; omega)))
        exact ⟨(Ps, R), ⟨h1, h2, h20⟩, rfl, rfl⟩
      · have hli : decide (((Ps.flatten.length + 20 : Nat) : Int) ≤ (n : Int)) = true := decide_eq_true (by omega)
        have lt20 : (R.take 20).length = 20 := by rw [List.length_take]; omega
        have ld20 : (R.drop 20).length = R.length - 20 := List.length_drop ..
        have hw2 : IntKind.i64.wrap (((Ps.flatten.length + 20 : Nat) : Int) + 20) = ((Ps.flatten.length + 20 + 20 : Nat) : Int) := wrap_nat (by omega) (by omega)
        repeat' first | ((first | refine callP_false (.bool false) ?_ | refine aw_region rfl ?_ | refine aw_region_draw mixedF rfl (by kernel_rfl) ?_ | refine aE rfl ?_); simp only [go_sem, hli]) | refine callG_y ?_ | refine callG_p ?_ | refine aw_seq ?_ | refine aw_block ?_ | refine aw_scope ?_ | (refine aw_cond rfl (fun h => ?_) (fun h => ?_) <;> try (exfalso; first | (simp at h; done) | (simp at h; omega))) | ((with_reducible refine And.intro ?_ ?_); focus (first | omega | (intros; simp_all; done) | (simp; omega)))
        refine callK_of (insSort_c (X := Ps.flatten) (M := R.take 20) (Y := R.drop 20) (a := (Ps.flatten.length : Int)) (b := ((Ps.flatten.length + 20 : Nat) : Int)) hw hc (by rw [List.take_append_drop]) (by rw [List.length_append]; exact hlen.symm) rfl (by rw [lt20]) _ _ _ hf _ _ _ _ (hset1 _) hl) callOk66F ?_
        rintro r H' ⟨rfl, S, s1, s2, rfl⟩
        simp only [go_sem, hset2]
        repeat' first | ((first | refine callP_false (.bool false) ?_ | refine aw_region rfl ?_ | refine aw_region_draw mixedF rfl (by kernel_rfl) ?_ | refine aE rfl ?_); simp only [go_sem, hw2]) | refine callG_y ?_ | refine callG_p ?_ | refine aw_seq ?_ | refine aw_block ?_ | refine aw_scope ?_ | (refine aw_cond rfl (fun h => ?_) (fun h => ?_) <;> try (exfalso; first | (simp at h; done) | (simp at h; omega))) | ((with_reducible refine And.intro ?_ ?_); focus (first | omega | (intros; simp_all; done) | (simp; omega)))
        have lS := s1.1
        have e : (Ps ++ [S]).flatten = Ps.flatten ++ S := by simp
        refine ⟨(Ps ++ [S], R.drop 20), ⟨?_, ?_⟩, by simp only; omega, ?_, ?_⟩
        · simp only [e, List.append_assoc]
          refine h1.trans ?_
          have q := (Fs.refl (lt := lt) Ps.flatten).app (s1.app (.refl (R.drop 20)))
          rw [List.take_append_drop] at q
          exact q
        · intro x hx
          rcases List.mem_append.1 hx with hx | hx
          · exact h2 x hx
          · rw [List.mem_singleton] at hx; subst hx; exact ⟨by rw [lS, lt20], s2⟩
        · simp only [e, List.length_append]
          have : S.length = 20 := by omega
          rw [this]; exact ⟨rfl, rfl⟩
        · simp only [e, List.append_assoc]
  · rintro ⟨Ps, R⟩ ⟨h1, h2, h3⟩
    simp only at h1 h2 h3 ⊢
    have hlen := h1.1
    rw [List.length_append, ← hn] at hlen
    repeat' first | ((first | refine callP_false (.bool false) ?_ | refine aw_region rfl ?_ | refine aw_region_draw mixedF rfl (by kernel_rfl) ?_ | refine aE rfl ?_); simp only [go_sem]) | refine callG_y ?_ | refine callG_p ?_ | refine aw_seq ?_ | refine aw_block ?_ | refine aw_scope ?_ | (refine aw_cond rfl (fun h => ?_) (fun h => ?_) <;> try (exfalso; first | (simp at h; done) | (simp at h; omega))) | ((with_reducible refine And.intro ?_ ?_); focus (first | omega | (intros; simp_all; done) | (simp; omega)))
    refine callK_of (insSort_c (X := Ps.flatten) (M := R) (Y := []) (a := (Ps.flatten.length : Int)) (b := (n : Int)) hw hc (by rw [List.append_nil]) (by rw [List.length_append]; exact hlen.symm) rfl (by rw [hlen]) _ _ _ hf _ _ _ _ (hset1 _) hl) callOk66F ?_
    rintro r H' ⟨rfl, S, s1, s2, rfl⟩
    simp only [go_sem, hset2]
    repeat' first | ((first | refine callP_false (.bool false) ?_ | refine aw_region rfl ?_ | refine aw_region_draw mixedF rfl (by kernel_rfl) ?_ | refine aE rfl ?_); simp only [go_sem]) | refine callG_y ?_ | refine callG_p ?_ | refine aw_seq ?_ | refine aw_block ?_ | refine aw_scope ?_ | (refine aw_cond rfl (fun h => ?_) (fun h => ?_) <;> try (exfalso; first | (simp at h; done) | (simp at h; omega))) | ((with_reducible refine And.intro ?_ ?_); focus (first | omega | (intros; simp_all; done) | (simp; omega)))
    refine aw_loopS (ι := Nat × List (List Opn) × List Opn) (fun x => [(0, .osl 7 blk v 0 n lc), (1, .int .i64 n), (2, .func fn fs cs), (6, .int .i64 x.1)]) (fun x => hset H blk (.cells v (fl (x.2.1.flatten ++ x.2.2))))
      (Sta lt D n) (fun x => n - x.1) (20, Ps, S) ⟨by simp only; omega, by simp only; omega, h1.trans ((Fs.refl (lt := lt) Ps.flatten).app s1), h2, by have := s1.1; simp only; omega, s2⟩ ?_ ?_ ?_
    · simp [go_sem]
    · rfl
    · rintro ⟨s, Ps, T⟩ ⟨g1, g2, g3, g4, g5, g6⟩
      simp only at g1 g2 g3 g4 g5 g6 ⊢
      have hlen := g3.1
      rw [List.length_append, ← hn] at hlen
      by_cases hsn : s < n
      · have hli : decide ((s : Int) < (n : Int)) = true := decide_eq_true (by omega)
        have hw2 : IntKind.i64.wrap (2 * (s : Int)) = ((2 * s : Nat) : Int) := wrap_nat (by omega) (by omega)
        have hw2' : IntKind.i64.wrap ((s : Int) * 2) = ((2 * s : Nat) : Int) := wrap_nat (by omega) (by omega)
        repeat' first | ((first | refine callP_false (.bool false) ?_ | refine aw_region rfl ?_ | refine aw_region_draw mixedF rfl (by kernel_rfl) ?_ | refine aE rfl ?_); simp only [go_sem, hli, hw2]) | refine callG_y ?_ | refine callG_p ?_ | refine aw_seq ?_ | refine aw_block ?_ | refine aw_scope ?_ | (refine aw_cond rfl (fun h => ?_) (fun h => ?_) <;> try (exfalso; first | (simp at h; done) | (simp at h; omega))) | ((with_reducible refine And.intro ?_ ?_); focus (first | omega | (intros; simp_all; done) | (simp; omega)))
        refine aw_loopS (ι := List (List Opn) × List (List Opn)) (fun x => [(0, .osl 7 blk v 0 n lc), (1, .int .i64 n), (2, .func fn fs cs), (6, .int .i64 s), (7, .int .i64 x.1.flatten.length), (8, .int .i64 (x.1.flatten.length + 2 * s : Nat))]) (fun x => hset H blk (.cells v (fl (x.1.flatten ++ (x.2.flatten ++ T)))))
          (Stb lt D s T) (fun x => x.2.length) ([], Ps) ⟨g3, fun _ h => (by cases h), g4⟩ ?_ rfl ?_
        · simp [go_sem]
        · rintro ⟨Qs, Rs⟩ ⟨k1, k2, k3⟩
          simp only at k1 k2 k3 ⊢
          have kl := k1.1
          rw [List.length_append, List.length_append, ← hn] at kl
          have hw3 : IntKind.i64.wrap ((Qs.flatten.length : Int) + (s : Int)) = ((Qs.flatten.length + s : Nat) : Int) := wrap_nat (by omega) (by omega)
          have hw4 : IntKind.i64.wrap (((Qs.flatten.length + 2 * s : Nat) : Int) + ((2 * s : Nat) : Int)) = ((Qs.flatten.length + 2 * s + 2 * s : Nat) : Int) := wrap_nat (by omega) (by omega)
          cases Rs with
          | nil =>
            have e0 : ([] : List (List Opn)).flatten = [] := rfl
            rw [e0, List.length_nil] at kl
            have hli2 : decide (((Qs.flatten.length + 2 * s : Nat) : Int) ≤ (n : Int)) = false := decide_eq_false (by omega)
            have hli3 : decide (((Qs.flatten.length + s : Nat) : Int) < (n : Int)) = false := decide_eq_false (by omega)
            repeat' first | ((first | refine callP_false (.bool false) ?_ | refine aw_region rfl ?_ | refine aw_region_draw mixedF rfl (by kernel_rfl) ?_ | refine aE rfl ?_); simp only [go_sem, hli2, hw3, hli3, hw2']) | refine callG_y ?_ | refine callG_p ?_ | refine aw_seq ?_ | refine aw_block ?_ | refine aw_scope ?_ | (refine aw_cond rfl (fun h => ?_) (fun h => ?_) <;> try (exfalso; first | (simp at h; done) | (simp at h; omega))) | ((with_reducible refine And.intro ?_ ?_); focus (first | omega | (intros; simp_all; done) | (simp; omega)))
            exact ⟨(2 * s, Qs, T), ⟨by simp only; omega, by simp only; omega, k1, k2, by simp only; omega, g6⟩, by simp only; omega, rfl, rfl⟩
          | cons r1 Rs =>
            have f1 : (r1 :: Rs).flatten = r1 ++ Rs.flatten := rfl
            obtain ⟨q1, q2⟩ := k3 r1 (by simp)
            rw [f1, List.length_append] at kl
            cases Rs with
            | nil =>
              have e0 : ([] : List (List Opn)).flatten = [] := rfl
              rw [e0, List.length_nil] at kl
              have e1 : Qs.flatten ++ ([r1].flatten ++ T) = Qs.flatten ++ (r1 ++ T) := by simp
              have hli2 : decide (((Qs.flatten.length + 2 * s : Nat) : Int) ≤ (n : Int)) = false := decide_eq_false (by omega)
              by_cases hT : T.length = 0
              · have hli3 : decide (((Qs.flatten.length + s : Nat) : Int) < (n : Int)) = false := decide_eq_false (by omega)
                have hT0 := List.eq_nil_of_length_eq_zero hT
                repeat' first | ((first | refine callP_false (.bool false) ?_ | refine aw_region rfl ?_ | refine aw_region_draw mixedF rfl (by kernel_rfl) ?_ | refine aE rfl ?_); simp only [go_sem, hli2, hw3, hli3, hw2']) | refine callG_y ?_ | refine callG_p ?_ | refine aw_seq ?_ | refine aw_block ?_ | refine aw_scope ?_ | (refine aw_cond rfl (fun h => ?_) (fun h => ?_) <;> try (exfalso; first | (simp at h; done) | (simp at h; omega))) | ((with_reducible refine And.intro ?_ ?_); focus (first | omega | (intros; simp_all; done) | (simp; omega)))
                refine ⟨(2 * s, Qs, r1), ⟨by simp only; omega, by simp only; omega, ?_, k2, by simp only; omega, q2⟩, by simp only; omega, rfl, ?_⟩
                · simp only; rw [e1, hT0, List.append_nil] at k1; exact k1
                · rw [e1, hT0, List.append_nil]
              · have hli3 : decide (((Qs.flatten.length + s : Nat) : Int) < (n : Int)) = true := decide_eq_true (by omega)
                rw [e1] at k1 ⊢
                repeat' first | ((first | refine callP_false (.bool false) ?_ | refine aw_region rfl ?_ | refine aw_region_draw mixedF rfl (by kernel_rfl) ?_ | refine aE rfl ?_); simp only [go_sem, hli2, hw3, hli3, hw2']) | refine callG_y ?_ | refine callG_p ?_ | refine aw_seq ?_ | refine aw_block ?_ | refine aw_scope ?_ | (refine aw_cond rfl (fun h => ?_) (fun h => ?_) <;> try (exfalso; first | (simp at h; done) | (simp at h; omega))) | ((with_reducible refine And.intro ?_ ?_); focus (first | omega | (intros; simp_all; done) | (simp; omega)))
                refine callK_of (sym_c hw hc _ _ _ hf blk v lc n hl _ (X := Qs.flatten) (A := r1) (B := T) (Y := []) (a := (Qs.flatten.length : Int)) (m := ((Qs.flatten.length + s : Nat) : Int)) (b := (n : Int)) (Nat.le_refl _) (by rw [List.append_nil]) q2 g6 (by omega) (by omega) (by rw [hn]; exact k1.1.symm) rfl (by rw [q1]) (by omega) _ (hset1 _)) callOk67F ?_
                rintro r H' ⟨rfl, S', s1', s2', rfl⟩
                simp only [go_sem, hset2]
                repeat' first | ((first | refine callP_false (.bool false) ?_ | refine aw_region rfl ?_ | refine aw_region_draw mixedF rfl (by kernel_rfl) ?_ | refine aE rfl ?_); simp only [go_sem, hw2']) | refine callG_y ?_ | refine callG_p ?_ | refine aw_seq ?_ | refine aw_block ?_ | refine aw_scope ?_ | (refine aw_cond rfl (fun h => ?_) (fun h => ?_) <;> try (exfalso; first | (simp at h; done) | (simp at h; omega))) | ((with_reducible refine And.intro ?_ ?_); focus (first | omega | (intros; simp_all; done) | (simp; omega)))
                have := s1'.1
                rw [List.length_append] at this
                refine ⟨(2 * s, Qs, S'), ⟨by simp only; omega, by simp only; omega, ?_, k2, by simp only; omega, s2'⟩, by simp only; omega, rfl, by simp only [List.append_nil]⟩
                exact k1.trans ((Fs.refl (lt := lt) Qs.flatten).app s1')
            | cons r2 Rs =>
              have f2 : (r2 :: Rs).flatten = r2 ++ Rs.flatten := rfl
              obtain ⟨q3, q4⟩ := k3 r2 (by simp)
              rw [f2, List.length_append] at kl
              have e1 : Qs.flatten ++ ((r1 :: r2 :: Rs).flatten ++ T) = Qs.flatten ++ (r1 ++ (r2 ++ (Rs.flatten ++ T))) := by rw [f1, f2]; simp only [List.append_assoc]
              have hli2 : decide (((Qs.flatten.length + 2 * s : Nat) : Int) ≤ (n : Int)) = true := decide_eq_true (by omega)
              rw [e1] at k1 ⊢
              repeat' first | ((first | refine callP_false (.bool false) ?_ | refine aw_region rfl ?_ | refine aw_region_draw mixedF rfl (by kernel_rfl) ?_ | refine aE rfl ?_); simp only [go_sem, hli2, hw3, hw2, hw4]) | refine callG_y ?_ | refine callG_p ?_ | refine aw_seq ?_ | refine aw_block ?_ | refine aw_scope ?_ | (refine aw_cond rfl (fun h => ?_) (fun h => ?_) <;> try (exfalso; first | (simp at h; done) | (simp at h; omega))) | ((with_reducible refine And.intro ?_ ?_); focus (first | omega | (intros; simp_all; done) | (simp; omega)))
              refine callK_of (sym_c hw hc _ _ _ hf blk v lc n hl _ (X := Qs.flatten) (A := r1) (B := r2) (Y := Rs.flatten ++ T) (a := (Qs.flatten.length : Int)) (m := ((Qs.flatten.length + s : Nat) : Int)) (b := ((Qs.flatten.length + 2 * s : Nat) : Int)) (Nat.le_refl _) rfl q2 q4 (by omega) (by omega) (by rw [hn]; exact k1.1.symm) rfl (by rw [q1]) (by omega) _ (hset1 _)) callOk67F ?_
              rintro r H' ⟨rfl, S', s1', s2', rfl⟩
              simp only [go_sem, hset2]
              repeat' first | ((first | refine callP_false (.bool false) ?_ | refine aw_region rfl ?_ | refine aw_region_draw mixedF rfl (by kernel_rfl) ?_ | refine aE rfl ?_); simp only [go_sem, hw2, hw4]) | refine callG_y ?_ | refine callG_p ?_ | refine aw_seq ?_ | refine aw_block ?_ | refine aw_scope ?_ | (refine aw_cond rfl (fun h => ?_) (fun h => ?_) <;> try (exfalso; first | (simp at h; done) | (simp at h; omega))) | ((with_reducible refine And.intro ?_ ?_); focus (first | omega | (intros; simp_all; done) | (simp; omega)))
              have lS := s1'.1
              rw [List.length_append] at lS
              have e : (Qs ++ [S']).flatten = Qs.flatten ++ S' := by simp
              refine ⟨(Qs ++ [S'], Rs), ⟨?_, ?_, fun x hx => k3 x (by simp [hx])⟩, by simp only [List.length_cons]; omega, ?_, ?_⟩
              · simp only [e, List.append_assoc]
                have q := (Fs.refl (lt := lt) Qs.flatten).app (s1'.app (.refl (Rs.flatten ++ T)))
                simp only [List.append_assoc] at q
                exact k1.trans q
              · intro x hx
                rcases List.mem_append.1 hx with hx | hx
                · exact k2 x hx
                · rw [List.mem_singleton] at hx; subst hx; exact ⟨by omega, s2'⟩
              · simp only [e, List.length_append]
                have : S'.length = 2 * s := by omega
                rw [this]; exact ⟨rfl, congrArg _ (congrArg _ (by omega))⟩
              · simp only [e, List.append_assoc]
      · have hli : decide ((s : Int) < (n : Int)) = false := decide_eq_false (by omega)
        repeat' first | ((first | refine callP_false (.bool false) ?_ | refine aw_region rfl ?_ | refine aw_region_draw mixedF rfl (by kernel_rfl) ?_ | refine aE rfl ?_); simp only [go_sem, hli]) | refine callG_y ?_ | refine callG_p ?_ | refine aw_seq ?_ | refine aw_block ?_ | refine aw_scope ?_ | (refine aw_cond rfl (fun h => ?_) (fun h => ?_) <;> try (exfalso; first | (simp at h; done) | (simp at h; omega))) | ((with_reducible refine And.intro ?_ ?_); focus (first | omega | (intros; simp_all; done) | (simp; omega)))
        refine doneSet (clb_fl _ _ _) _ ⟨rfl, _, g3, ?_, rfl⟩
        cases Ps with
        | nil => exact g6
        | cons p Ps =>
          obtain ⟨q1, q2⟩ := g4 p (by simp)
          have f1 : (p :: Ps).flatten = p ++ Ps.flatten := rfl
          rw [f1, List.length_append] at hlen
          have e1 := List.eq_nil_of_length_eq_zero (show Ps.flatten.length = 0 by omega)
          have e2 := List.eq_nil_of_length_eq_zero (show T.length = 0 by omega)
          rw [f1, e1, e2, List.append_nil, List.append_nil]
          exact q2

theorem sortS_c {lt : Opn → Opn → Bool} {c : Opn → Opn → Int} (hw : SWO lt) (hc : ∀ x y, decide (c x y < 0) = lt x y) (fn : Fn) (fs cs : List AV) (hf : CmpC Tryd.prog (.func fn fs cs) c) (blk v lc n : Nat) (hl : n ≤ 1000000000) (D : List Opn) (hn : n = D.length) (H : AHeap)
    (hh : hget H blk = .cells v (fl D)) :
    ACalls Tryd.prog 25 [.osl 7 blk v 0 n lc, .func fn fs cs] H (fun r H' => r = .tup [] ∧ ∃ S, Fs lt D S ∧ Sd lt S ∧ H' = hset H blk (.cells v (fl S))) := by
  refine acalls_of Tryd.func25 rfl (Nat.le_of_ble_eq_true rfl) ?_
  repeat' first | ((first | refine callP_false (.bool false) ?_ | refine aw_region rfl ?_ | refine aw_region_draw mixedF rfl (by kernel_rfl) ?_ | refine aE rfl ?_); simp only [go_sem, hh]) | refine callG_y ?_ | refine callG_p ?_ | refine aw_seq ?_ | refine aw_block ?_ | refine aw_scope ?_ | (refine aw_cond rfl (fun h => ?_) (fun h => ?_) <;> try (exfalso; first | (simp at h; done) | (simp at h; omega))) | ((with_reducible refine And.intro ?_ ?_); focus (first | omega | (intros; simp_all; done) | (simp; omega)))
  refine callK_of (stable_c hw hc _ _ _ hf blk v lc n hl D hn H hh) callOk46F ?_
  rintro r H' ⟨rfl, S, s1, s2, rfl⟩
  simp only [go_sem]
  exact doneSet (clb_fl _ _ _) _ ⟨rfl, S, s1, s2, rfl⟩
end Go.Proofs.YtmknmapgfjmioaaDoor
namespace Go.Proofs.YtmknmapgfjmioaaDoor
open Go Go.Aw Go.Gw Go.Srt
set_option linter.unusedSimpArgs false
set_option maxRecDepth 20000
set_option maxHeartbeats 4000000

theorem compact_c (f : AV) {fn : Fn} {fs cs : List AV} (hfe : f = .func fn fs cs) (hf : TestC Tryd.prog f (fun a b => decide (a.at_ = b.at_))) (blk v lc n : Nat) (hlc : n ≤ lc) (hl : n ≤ 1000000000) (D : List Opn) (hn : n = D.length) (H : AHeap)
    (hh : hget H blk = .cells v (fl D)) :
    ACalls Tryd.prog 28 [.osl 7 blk v 0 n lc, f] H (fun r H' => r = .osl 7 blk v 0 (cpt D).length lc ∧ ∃ rest, H' = hset H blk (.cells v (fl (cpt D) ++ rest))) := by
  refine acalls_of Tryd.func28 rfl (Nat.le_of_ble_eq_true rfl) ?_
  have hset1 := fun b => hget_of hh trivial b
  have hset2 := hset_set H blk
  subst hfe
  have hbl : blk < H.length := hget_lt hh trivial
  have same : cpt D = D → ∃ H1 L y, H = H1 ++ L ∧ H1.length = H.length ∧ (∀ (i : Nat) (b : ABlk), H1[i]? = some b → H[i]? = some b ∨ ClB H.length b) ∧ Frz H.length H (.osl 7 blk v 0 n lc) y ∧ y = .osl 7 blk v 0 (cpt D).length lc ∧ ∃ rest, H1 = hset H blk (.cells v (fl (cpt D) ++ rest)) := by
    intro e
    refine ⟨H, [], _, (List.append_nil _).symm, rfl, fun _ _ h => .inl h, .cl _ (.osl _ _ _ _ _ _ hbl), by rw [e, hn], [], ?_⟩
    rw [e, List.append_nil]; exact (hset_id hh trivial).symm
  by_cases h2 : n < 2
  · have hli : decide ((n : Int) < 2) = true := decide_eq_true (by omega)
    repeat' first | ((first | refine callP_false (.bool false) ?_ | refine aw_region rfl ?_ | refine aw_region_draw mixedF rfl (by kernel_rfl) ?_ | refine aE rfl ?_); simp only [go_sem, hh, hli]) | refine callG_y ?_ | refine callG_p ?_ | refine aw_seq ?_ | refine aw_block ?_ | refine aw_scope ?_ | (refine aw_cond rfl (fun h => ?_) (fun h => ?_) <;> try (exfalso; first | (simp at h; done) | (simp at h; omega))) | ((with_reducible refine And.intro ?_ ?_); focus (first | omega | (intros; simp_all; done) | (simp; omega)))
    have e : cpt D = D := by
      match D, hn with
      | [], _ => rfl
      | [x], _ => rfl
      | _ :: _ :: _, hn => simp only [List.length_cons] at hn; omega
    exact same e
  · have hli : decide ((n : Int) < 2) = false := decide_eq_false (by omega)
    repeat' first | ((first | refine callP_false (.bool false) ?_ | refine aw_region rfl ?_ | refine aw_region_draw mixedF rfl (by kernel_rfl) ?_ | refine aE rfl ?_); simp only [go_sem, hh, hli]) | refine callG_y ?_ | refine callG_p ?_ | refine aw_seq ?_ | refine aw_block ?_ | refine aw_scope ?_ | (refine aw_cond rfl (fun h => ?_) (fun h => ?_) <;> try (exfalso; first | (simp at h; done) | (simp at h; omega))) | ((with_reducible refine And.intro ?_ ?_); focus (first | omega | (intros; simp_all; done) | (simp; omega)))
    refine aw_loopS (ι := Nat) (fun k => [(0, .osl 7 blk v 0 n lc), (1, .func fn fs cs), (5, .int .i64 k)]) (fun _ => H) (fun k => 1 ≤ k ∧ k ≤ n ∧ cpt (D.take k) = D.take k) (fun k => n - k) 1 ⟨Nat.le_refl _, by omega, ?_⟩ ?_ rfl ?_
    · match D, hn with
      | [], hn => rfl
      | x :: D, _ => rfl
    · simp [go_sem]
    · rintro k ⟨k1, k2, k3⟩
      by_cases hkn : k < n
      · obtain ⟨p, hp⟩ : ∃ p, p = k - 1 := ⟨_, rfl⟩
        have hw1 : IntKind.i64.wrap ((k : Int) - 1) = (p : Int) := wrap_nat (by omega) (by omega)
        have hw2 : IntKind.i64.wrap ((k : Int) + 1) = ((k + 1 : Nat) : Int) := wrap_nat (by omega) (by omega)
        have hli2 : decide ((k : Int) < (n : Int)) = true := decide_eq_true (by omega)
        have hkD : k < D.length := by omega
        have hpD : p < D.length := by omega
        have g1 := fl_at hkD
        have g2 := fl_at hpD
        have ct := cpt_take k1 hkD
        have hpe : D[k - 1]'(by omega) = D[p] := by congr 1; exact hp.symm
        rw [hpe] at ct
        have a1 : k * 7 + 7 ≤ (fl D).length := by rw [fl_len]; omega
        have a2 : p * 7 + 7 ≤ (fl D).length := by rw [fl_len]; omega
        have etk : D.take (k + 1) = D.take k ++ [D[k]] := List.take_succ_eq_append_getElem hkD
        generalize D[k] = x at *
        generalize D[p] = y at *
        repeat' first | ((first | refine callP_false (.bool false) ?_ | refine aw_region rfl ?_ | refine aw_region_draw mixedF rfl (by kernel_rfl) ?_ | refine aE rfl ?_); simp only [go_sem, hh, hli2, hw1, g1, g2]) | refine callG_y ?_ | refine callG_p ?_ | refine aw_seq ?_ | refine aw_block ?_ | refine aw_scope ?_ | (refine aw_cond rfl (fun h => ?_) (fun h => ?_) <;> try (exfalso; first | (simp at h; done) | (simp at h; omega))) | ((with_reducible refine And.intro ?_ ?_); focus (first | omega | (intros; simp_all; done) | (simp; omega)))
        (repeat' (with_reducible refine And.intro ?_ ?_)) <;> try (first | omega | rfl)
        refine callP_test hf ?_
        by_cases heq : x.at_ = y.at_
        · rw [if_pos heq, k3] at ct
          have hde : decide (x.at_ = y.at_) = true := decide_eq_true heq
          simp only [go_sem, hde]
          repeat' first | ((first | refine callP_false (.bool false) ?_ | refine aw_region rfl ?_ | refine aw_region_draw mixedF rfl (by kernel_rfl) ?_ | refine aE rfl ?_); simp only [go_sem, hde, hh]) | refine callG_y ?_ | refine callG_p ?_ | refine aw_seq ?_ | refine aw_block ?_ | refine aw_scope ?_ | (refine aw_cond rfl (fun h => ?_) (fun h => ?_) <;> try (exfalso; first | (simp at h; done) | (simp at h; omega))) | ((with_reducible refine And.intro ?_ ?_); focus (first | omega | (intros; simp_all; done) | (simp; omega)))
          (repeat' (with_reducible refine And.intro ?_ ?_)) <;> try (first | omega | rfl)
          repeat' first | ((first | refine callP_false (.bool false) ?_ | refine aw_region rfl ?_ | refine aw_region_draw mixedF rfl (by kernel_rfl) ?_ | refine aE rfl ?_); simp only [go_sem, hde, hh]) | refine callG_y ?_ | refine callG_p ?_ | refine aw_seq ?_ | refine aw_block ?_ | refine aw_scope ?_ | (refine aw_cond rfl (fun h => ?_) (fun h => ?_) <;> try (exfalso; first | (simp at h; done) | (simp at h; omega))) | ((with_reducible refine And.intro ?_ ?_); focus (first | omega | (intros; simp_all; done) | (simp; omega)))
          refine aw_loopS (ι := Nat × List Opn × List Opn) (fun s => [(0, .osl 7 blk v 0 n lc), (1, .func fn fs cs), (5, .int .i64 s.2.1.length), (6, .osl 7 blk v (k * 7) (n - k) (lc - k)), (7, .int .i64 s.1)])
            (fun s => hset H blk (.cells v (fl (s.2.1 ++ (s.2.2 ++ D.drop (k + s.1 - 1)))))) (fun s => 1 ≤ s.1 ∧ k + s.1 ≤ n ∧ s.2.1 = cpt (D.take (k + s.1)) ∧ s.2.1.length + s.2.2.length = k + s.1 - 1) (fun s => n - s.1) (1, D.take k, []) ⟨Nat.le_refl _, by simp only; omega, ct.symm, by simp only [List.length_take, List.length_nil]; omega⟩ ?_ ?_ ?_
          · simp [go_sem]; omega
          · simp only [List.nil_append, Nat.add_sub_cancel, List.take_append_drop]; exact (hset_id hh trivial).symm
          · rintro ⟨t, C, W⟩ ⟨t1, t2, t3, t4⟩
            simp only at t1 t2 t3 t4 ⊢
            obtain ⟨q, hq⟩ : ∃ q, q = t - 1 := ⟨_, rfl⟩
            have hw3 : IntKind.i64.wrap ((t : Int) - 1) = (q : Int) := wrap_nat (by omega) (by omega)
            have hw4 : IntKind.i64.wrap ((t : Int) + 1) = ((t + 1 : Nat) : Int) := wrap_nat (by omega) (by omega)
            by_cases htn : k + t < n
            · have hli3 : decide ((t : Int) < ((n - k : Nat) : Int)) = true := decide_eq_true (by omega)
              have e1 : D.drop (k + t - 1) = D[k + t - 1]'(by omega) :: D[k + t]'(by omega) :: D.drop (k + (t + 1)) := by
                rw [List.drop_eq_getElem_cons (by omega)]
                congr 1
                have : k + t - 1 + 1 = k + t := by omega
                rw [this, List.drop_eq_getElem_cons (by omega)]; rfl
              have e2 : D.drop (k + (t + 1) - 1) = D[k + t]'(by omega) :: D.drop (k + (t + 1)) := by
                have : k + (t + 1) - 1 = k + t := by omega
                rw [this, List.drop_eq_getElem_cons (by omega)]; rfl
              have cs2 := cpt_take (D := D) (j := k + t) (by omega) (by omega)
              rw [← t3] at cs2
              have hdl : (D.drop (k + (t + 1))).length = n - (k + (t + 1)) := by rw [List.length_drop, hn]
              generalize D[k + t - 1]'(by omega) = b at *
              generalize D[k + t]'(by omega) = a at *
              generalize D.drop (k + (t + 1)) = Z at *
              have e3 : C ++ (W ++ D.drop (k + t - 1)) = C ++ (W ++ b :: a :: Z) := by rw [e1]
              have lE : (C ++ (W ++ b :: a :: Z)).length = n := by simp only [List.length_append, List.length_cons]; omega
              have g3 := fl_get (A := C ++ W) (x := b) (R := a :: Z) (k := k + q) (by rw [List.length_append]; omega)
              have g4 := fl_get (A := C ++ W ++ [b]) (x := a) (R := Z) (k := k + t) (by simp only [List.length_append, List.length_singleton]; omega)
              simp only [List.append_assoc, List.cons_append, List.nil_append, Nat.add_mul] at g3 g4
              have a3 : k * 7 + q * 7 + 7 ≤ (fl (C ++ (W ++ b :: a :: Z))).length := by rw [fl_len, lE]; omega
              have a4 : k * 7 + t * 7 + 7 ≤ (fl (C ++ (W ++ b :: a :: Z))).length := by rw [fl_len, lE]; omega
              rw [e3]
              repeat' first | ((first | refine callP_false (.bool false) ?_ | refine aw_region rfl ?_ | refine aw_region_draw mixedF rfl (by kernel_rfl) ?_ | refine aE rfl ?_); simp only [go_sem, hset1, hset2, hli3, hw3, g3, g4]) | refine callG_y ?_ | refine callG_p ?_ | refine aw_seq ?_ | refine aw_block ?_ | refine aw_scope ?_ | (refine aw_cond rfl (fun h => ?_) (fun h => ?_) <;> try (exfalso; first | (simp at h; done) | (simp at h; omega))) | ((with_reducible refine And.intro ?_ ?_); focus (first | omega | (intros; simp_all; done) | (simp; omega)))
              (repeat' (with_reducible refine And.intro ?_ ?_)) <;> try (first | omega | rfl)
              refine callP_test hf ?_
              by_cases hab : a.at_ = b.at_
              · have hde2 : decide (a.at_ = b.at_) = true := decide_eq_true hab
                simp only [go_sem, hde2]
                rw [if_pos hab] at cs2
                repeat' first | ((first | refine callP_false (.bool false) ?_ | refine aw_region rfl ?_ | refine aw_region_draw mixedF rfl (by kernel_rfl) ?_ | refine aE rfl ?_); simp only [go_sem, hde2, hw4]) | refine callG_y ?_ | refine callG_p ?_ | refine aw_seq ?_ | refine aw_block ?_ | refine aw_scope ?_ | (refine aw_cond rfl (fun h => ?_) (fun h => ?_) <;> try (exfalso; first | (simp at h; done) | (simp at h; omega))) | ((with_reducible refine And.intro ?_ ?_); focus (first | omega | (intros; simp_all; done) | (simp; omega)))
                refine ⟨(t + 1, C, W ++ [b]), ⟨by simp only; omega, by simp only; omega, cs2.symm, by simp only [List.length_append, List.length_singleton]; omega⟩, by simp only; omega, ⟨rfl, rfl⟩, ?_⟩
                simp only [e2, List.append_assoc, List.cons_append, List.nil_append]
              · have hde2 : decide (a.at_ = b.at_) = false := decide_eq_false hab
                simp only [go_sem, hde2]
                rw [if_neg hab] at cs2
                obtain ⟨w0, W0, hW⟩ : ∃ w0 W0, W ++ [b] = w0 :: W0 := by
                  cases W with
                  | nil => exact ⟨b, [], rfl⟩
                  | cons w0 W0 => exact ⟨w0, W0 ++ [b], rfl⟩
                have e4 : C ++ (W ++ b :: a :: Z) = C ++ w0 :: (W0 ++ a :: Z) := by
                  have : W ++ b :: a :: Z = (W ++ [b]) ++ a :: Z := by simp
                  rw [this, hW]; rfl
                have lW : W.length = W0.length := by
                  have h0 : (W ++ [b]).length = (w0 :: W0).length := by rw [hW]
                  simpa using h0
                have s1 := fl_set (A := C) (x := w0) (y := a) (R := W0 ++ a :: Z) rfl
                rw [← e4] at s1
                have a5 : C.length * 7 + 7 ≤ (fl (C ++ (W ++ b :: a :: Z))).length := by rw [fl_len, lE]; omega
                have hw5 : IntKind.i64.wrap ((C.length : Int) + 1) = ((C.length + 1 : Nat) : Int) := wrap_nat (by omega) (by omega)
                repeat' first | ((first | refine callP_false (.bool false) ?_ | refine aw_region rfl ?_ | refine aw_region_draw mixedF rfl (by kernel_rfl) ?_ | refine aE rfl ?_); simp only [go_sem, hde2, hset1, hset2, g4, s1, hw4, hw5, opC_len, opC_one]) | refine callG_y ?_ | refine callG_p ?_ | refine aw_seq ?_ | refine aw_block ?_ | refine aw_scope ?_ | (refine aw_cond rfl (fun h => ?_) (fun h => ?_) <;> try (exfalso; first | (simp at h; done) | (simp at h; omega))) | ((with_reducible refine And.intro ?_ ?_); focus (first | omega | (intros; simp_all; done) | (simp; omega)))
                (repeat' (with_reducible refine And.intro ?_ ?_)) <;> try (first | omega | rfl)
                repeat' first | ((first | refine callP_false (.bool false) ?_ | refine aw_region rfl ?_ | refine aw_region_draw mixedF rfl (by kernel_rfl) ?_ | refine aE rfl ?_); simp only [go_sem, hw4, hw5]) | refine callG_y ?_ | refine callG_p ?_ | refine aw_seq ?_ | refine aw_block ?_ | refine aw_scope ?_ | (refine aw_cond rfl (fun h => ?_) (fun h => ?_) <;> try (exfalso; first | (simp at h; done) | (simp at h; omega))) | ((with_reducible refine And.intro ?_ ?_); focus (first | omega | (intros; simp_all; done) | (simp; omega)))
                refine ⟨(t + 1, C ++ [a], W0), ⟨by simp only; omega, by simp only; omega, cs2.symm, by simp only [List.length_append, List.length_singleton]; omega⟩, by simp only; omega, ⟨by simp only [List.length_append, List.length_singleton], rfl⟩, ?_⟩
                simp only [e2, List.append_assoc, List.cons_append, List.nil_append]
            · have hli3 : decide ((t : Int) < ((n - k : Nat) : Int)) = false := decide_eq_false (by omega)
              have lE : (C ++ (W ++ D.drop (k + t - 1))).length = n := by simp only [List.length_append, List.length_drop]; omega
              have hkt : k + t = n := by omega
              rw [hkt, List.take_of_length_le (by omega)] at t3
              repeat' first | ((first | refine callP_false (.bool false) ?_ | refine aw_region rfl ?_ | refine aw_region_draw mixedF rfl (by kernel_rfl) ?_ | refine aE rfl ?_); simp only [go_sem, hset1, hset2, hli3]) | refine callG_y ?_ | refine callG_p ?_ | refine aw_seq ?_ | refine aw_block ?_ | refine aw_scope ?_ | (refine aw_cond rfl (fun h => ?_) (fun h => ?_) <;> try (exfalso; first | (simp at h; done) | (simp at h; omega))) | ((with_reducible refine And.intro ?_ ?_); focus (first | omega | (intros; simp_all; done) | (simp; omega)))
              refine ⟨by rw [fl_len, lE]; omega, ?_⟩
              repeat' first | ((first | refine callP_false (.bool false) ?_ | refine aw_region rfl ?_ | refine aw_region_draw mixedF rfl (by kernel_rfl) ?_ | refine aE rfl ?_); simp only [go_sem, hset1, hset2, hli3]) | refine callG_y ?_ | refine callG_p ?_ | refine aw_seq ?_ | refine aw_block ?_ | refine aw_scope ?_ | (refine aw_cond rfl (fun h => ?_) (fun h => ?_) <;> try (exfalso; first | (simp at h; done) | (simp at h; omega))) | ((with_reducible refine And.intro ?_ ?_); focus (first | omega | (intros; simp_all; done) | (simp; omega)))
              rw [fl_app, splice_app (fl_len C)]
              refine ⟨_, [], .osl 7 blk v 0 C.length lc, (List.append_nil _).symm, hset_len _ _ _, hset_cl fun z hz => ?_, .cl _ (.osl _ _ _ _ _ _ hbl), by rw [t3], _, by rw [t3]⟩
              rw [List.mem_append, List.mem_append] at hz
              rcases hz with hz | hz | hz
              · exact (pur_fl C z hz).cl _
              · obtain ⟨e, he, hz⟩ := List.mem_flatMap.1 hz
                rw [(List.mem_replicate.1 he).2] at hz
                exact Pur.cl (Pur.cells (by simp only [go_sem]) z hz) _
              · exact (pur_fl _ z (List.mem_of_mem_drop hz)).cl _
        · rw [if_neg heq, k3, ← etk] at ct
          have hde : decide (x.at_ = y.at_) = false := decide_eq_false heq
          simp only [go_sem, hde]
          repeat' first | ((first | refine callP_false (.bool false) ?_ | refine aw_region rfl ?_ | refine aw_region_draw mixedF rfl (by kernel_rfl) ?_ | refine aE rfl ?_); simp only [go_sem, hde, hw2]) | refine callG_y ?_ | refine callG_p ?_ | refine aw_seq ?_ | refine aw_block ?_ | refine aw_scope ?_ | (refine aw_cond rfl (fun h => ?_) (fun h => ?_) <;> try (exfalso; first | (simp at h; done) | (simp at h; omega))) | ((with_reducible refine And.intro ?_ ?_); focus (first | omega | (intros; simp_all; done) | (simp; omega)))
          exact ⟨k + 1, ⟨by omega, by omega, ct⟩, by omega, rfl⟩
      · have hke : k = n := by omega
        have hli2 : decide ((k : Int) < (n : Int)) = false := decide_eq_false (by omega)
        repeat' first | ((first | refine callP_false (.bool false) ?_ | refine aw_region rfl ?_ | refine aw_region_draw mixedF rfl (by kernel_rfl) ?_ | refine aE rfl ?_); simp only [go_sem, hh, hli2]) | refine callG_y ?_ | refine callG_p ?_ | refine aw_seq ?_ | refine aw_block ?_ | refine aw_scope ?_ | (refine aw_cond rfl (fun h => ?_) (fun h => ?_) <;> try (exfalso; first | (simp at h; done) | (simp at h; omega))) | ((with_reducible refine And.intro ?_ ?_); focus (first | omega | (intros; simp_all; done) | (simp; omega)))
        rw [hke, List.take_of_length_le (by omega)] at k3
        exact same k3
end Go.Proofs.YtmknmapgfjmioaaDoor
/- What the functions of the logs answer: All, Of, Ops. No condition. -/
namespace Go.Proofs.YtmknmapgfjmioaaDoor
open Go Go.Aw Go.Gw
set_option linter.unusedSimpArgs false
set_option maxRecDepth 20000
set_option maxHeartbeats 1000000

theorem cells_op (l : List Opn) : ∀ e ∈ l.map opA, e.cells.length = 7 := fun e he => by
  obtain ⟨x, _, rfl⟩ := List.mem_map.1 he; rfl
end Go.Proofs.YtmknmapgfjmioaaDoor
/- What operations make: the program's Fold. No condition but the length of what comes in. -/
namespace Go.Proofs.YtmknmapgfjmioaaDoor
open Go Go.Aw Go.Gw Go.Srt
set_option linter.unusedSimpArgs false
set_option maxRecDepth 20000
set_option maxHeartbeats 4000000

theorem opless_o (a b : Opn) (H : AHeap) : FnC Tryd.prog 27 [opA a, opA b] H (.bool (oLess a b)) := opless_c a b H
def cmpO (a b : Opn) : Int := if oLess a b = true then -1 else if oLess b a = true then 1 else 0
theorem cmpO_lt (a b : Opn) : decide (cmpO a b < 0) = oLess a b := by
  unfold cmpO
  cases h1 : oLess a b with
  | true => rfl
  | false => cases h2 : oLess b a <;> rfl
theorem cmpO_c (a b : Opn) (H : AHeap) : FnC Tryd.prog 26 [opA a, opA b] H (.int .i64 (cmpO a b)) := by
  refine fnC_of Tryd.func26 rfl (Nat.le_of_ble_eq_true rfl) ?_
  have h1 := opless_o a b
  have h2 := opless_o b a
  simp only [opA] at h1 h2 ⊢
  cases e1 : oLess a b with
  | true =>
    rw [e1] at h1
    have e : cmpO a b = -1 := by rw [cmpO, if_pos e1]
    have ct0 := ct h1 callOk27F; repeat' first | ((first | refine cK (by assumption) ?_ | refine cP (by assumption) ?_ | refine cM (by assumption) ?_ | refine callP_false (.bool false) ?_ | refine aw_region rfl ?_ | refine aw_region_draw mixedF rfl (by kernel_rfl) ?_ | refine aE rfl ?_); simp only [go_sem]) | refine callG_y ?_ | refine callG_p ?_ | refine aw_seq ?_ | refine aw_block ?_ | refine aw_scope ?_ | (refine aw_cond rfl (fun h => ?_) (fun h => ?_) <;> try (exfalso; first | (simp at h; done) | (simp at h; omega))) | ((with_reducible refine And.intro ?_ ?_); focus (first | omega | (intros; simp_all; done) | (simp; omega)))
    rw [e]; exact done (by simp only [go_sem]) (.refl _)
  | false =>
    rw [e1] at h1
    cases e2 : oLess b a with
    | true =>
      rw [e2] at h2
      have e : cmpO a b = 1 := by rw [cmpO, if_neg (by rw [e1]; decide), if_pos e2]
      have ct0 := ct h1 callOk27F; have ct1 := ct h2 callOk27F; repeat' first | ((first | refine cK (by assumption) ?_ | refine cP (by assumption) ?_ | refine cM (by assumption) ?_ | refine callP_false (.bool false) ?_ | refine aw_region rfl ?_ | refine aw_region_draw mixedF rfl (by kernel_rfl) ?_ | refine aE rfl ?_); simp only [go_sem]) | refine callG_y ?_ | refine callG_p ?_ | refine aw_seq ?_ | refine aw_block ?_ | refine aw_scope ?_ | (refine aw_cond rfl (fun h => ?_) (fun h => ?_) <;> try (exfalso; first | (simp at h; done) | (simp at h; omega))) | ((with_reducible refine And.intro ?_ ?_); focus (first | omega | (intros; simp_all; done) | (simp; omega)))
      rw [e]; exact done (by simp only [go_sem]) (.refl _)
    | false =>
      rw [e2] at h2
      have e : cmpO a b = 0 := by rw [cmpO, if_neg (by rw [e1]; decide), if_neg (by rw [e2]; decide)]
      have ct0 := ct h1 callOk27F; have ct1 := ct h2 callOk27F; repeat' first | ((first | refine cK (by assumption) ?_ | refine cP (by assumption) ?_ | refine cM (by assumption) ?_ | refine callP_false (.bool false) ?_ | refine aw_region rfl ?_ | refine aw_region_draw mixedF rfl (by kernel_rfl) ?_ | refine aE rfl ?_); simp only [go_sem]) | refine callG_y ?_ | refine callG_p ?_ | refine aw_seq ?_ | refine aw_block ?_ | refine aw_scope ?_ | (refine aw_cond rfl (fun h => ?_) (fun h => ?_) <;> try (exfalso; first | (simp at h; done) | (simp at h; omega))) | ((with_reducible refine And.intro ?_ ?_); focus (first | omega | (intros; simp_all; done) | (simp; omega)))
      rw [e]; exact done (by simp only [go_sem]) (.refl _)
theorem eqO_c (a b : Opn) (H : AHeap) : FnC Tryd.prog 29 [opA a, opA b] H (.bool (decide (a.at_ = b.at_))) := by
  refine fnC_of Tryd.func29 rfl (Nat.le_of_ble_eq_true rfl) ?_
  simp only [opA, ← stm_eq]
  repeat' first | ((first | refine callP_false (.bool false) ?_ | refine aw_region rfl ?_ | refine aw_region_draw mixedF rfl (by kernel_rfl) ?_ | refine aE rfl ?_); simp only [go_sem]) | refine callG_y ?_ | refine callG_p ?_ | refine aw_seq ?_ | refine aw_block ?_ | refine aw_scope ?_ | (refine aw_cond rfl (fun h => ?_) (fun h => ?_) <;> try (exfalso; first | (simp at h; done) | (simp at h; omega))) | ((with_reducible refine And.intro ?_ ?_); focus (first | omega | (intros; simp_all; done) | (simp; omega)))
  exact done (by simp only [go_sem]) (.refl _)
theorem cmpO_C : CmpC Tryd.prog (.func (.func 26) [] []) cmpO := fun a b H => Or.inl ⟨callOk26F, cmpO_c a b H⟩
theorem eqO_C : TestC Tryd.prog (.func (.func 29) [] []) (fun a b => decide (a.at_ = b.at_)) := fun a b H => Or.inl ⟨callOk29F, eqO_c a b H⟩

theorem fold_c (b : Bool) (l : List Opn) (hs : ∀ o ∈ l, OpS o) (hn : l.length ≤ 1000000) (H : AHeap) : FnC Tryd.prog 10 [.sl b (l.map opA)] H (.sl false ((foldL l).map ndA)) := by
  refine fnC_of Tryd.func10 rfl (Nat.le_of_ble_eq_true rfl) ?_
  repeat' first | ((first | refine callP_false (.bool false) ?_ | refine aw_region rfl ?_ | refine aw_region_draw mixedF rfl (by kernel_rfl) ?_ | refine aE rfl ?_); simp only [go_sem]) | refine callG_y ?_ | refine callG_p ?_ | refine aw_seq ?_ | refine aw_block ?_ | refine aw_scope ?_ | (refine aw_cond rfl (fun h => ?_) (fun h => ?_) <;> try (exfalso; first | (simp at h; done) | (simp at h; omega))) | ((with_reducible refine And.intro ?_ ?_); focus (first | omega | (intros; simp_all; done) | (simp; omega)))
  refine aw_void 3 7 rfl ?_
  refine aw_cutB (ι := AHeap × Nat) (fun x => [(3, .osl 7 H.length x.2 0 (l.filter opOk).length (l.filter opOk).length)]) (fun x => x.1) (fun x => hget x.1 H.length = .cells x.2 (fl (l.filter opOk)) ∧ x.2 ≠ 0 ∧ ∃ M, x.1 = H ++ M) ?_ ?_
  · refine aw_loopS (ι := Nat × AHeap × Nat) (fun x => [(3, .osl 7 H.length x.2.2 0 ((l.take x.1).filter opOk).length ((l.take x.1).filter opOk).length), (9, .sl b (l.map opA)), (10, .int .i64 l.length), (11, .int .i64 x.1)])
      (fun x => x.2.1) (fun x => x.1 ≤ l.length ∧ hget x.2.1 H.length = .cells x.2.2 (fl ((l.take x.1).filter opOk)) ∧ x.2.2 ≠ 0 ∧ ∃ M, x.2.1 = H ++ M) (fun x => l.length - x.1) (0, H ++ [.cells 1 []], 1) ⟨Nat.zero_le _, by simp only [go_sem]; rfl, Nat.one_ne_zero, ⟨_, rfl⟩⟩ ?_ rfl ?_
    · simp [go_sem]
    · rintro ⟨i, X, ver⟩ ⟨hi, r1, rv, rP⟩
      simp only at hi r1 rv rP ⊢
      have hX1 : H.length < X.length := hget_lt r1 trivial
      have r1' := fun M => hget_appL r1 trivial M
      have qs := fun M b => hset_appL hX1 M b
      by_cases hlt : i < l.length
      · have hp := getD_map opA hlt
        have hli : decide ((i : Int) < (l.length : Int)) = true := decide_eq_true (by omega)
        have htk : l.take (i + 1) = l.take i ++ [l[i]] := List.take_succ_eq_append_getElem hlt
        have hck := opOk_c l[i] (hs _ (List.getElem_mem hlt))
        have hfl := List.length_filter_le opOk (l.take i)
        rw [List.length_take] at hfl
        have hf : (l.take (i + 1)).filter opOk = (l.take i).filter opOk ++ (if opOk l[i] = true then [l[i]] else []) := by
          rw [htk, List.filter_append]; cases h : opOk l[i] <;> simp [h]
        have hcl := fl_len ((l.take i).filter opOk)
        simp only [opA] at hck
        generalize l[i] = o at *
        generalize hF : (l.take i).filter opOk = F at *
        cases hok : opOk o with
        | false =>
          rw [hok] at hck
          rw [hok, if_neg (by decide), List.append_nil] at hf
          have ct0 := ct hck callOk24F; repeat' first | ((first | refine cK (by assumption) ?_ | refine cP (by assumption) ?_ | refine cM (by assumption) ?_ | refine callP_false (.bool false) ?_ | refine aw_region rfl ?_ | refine aw_region_draw mixedF rfl (by kernel_rfl) ?_ | refine aE rfl ?_); simp only [go_sem, hp, opA, hli]) | refine callG_y ?_ | refine callG_p ?_ | refine aw_seq ?_ | refine aw_block ?_ | refine aw_scope ?_ | (refine aw_cond rfl (fun h => ?_) (fun h => ?_) <;> try (exfalso; first | (simp at h; done) | (simp at h; omega))) | ((with_reducible refine And.intro ?_ ?_); focus (first | omega | (intros; simp_all; done) | (simp; omega)))
          exact ⟨(i + 1, _, ver), ⟨hlt, by simp only; rw [hf]; exact r1' _, rv, pre_app rP _⟩, by simp only; omega, ⟨by simp only [hf], congrArg _ (wrap_succ hlt (by omega))⟩, rfl⟩
        | true =>
          rw [hok] at hck
          rw [hok, if_pos rfl] at hf
          have ct0 := ct hck callOk24F; repeat' first | ((first | refine cK (by assumption) ?_ | refine cP (by assumption) ?_ | refine cM (by assumption) ?_ | refine callP_false (.bool false) ?_ | refine aw_region rfl ?_ | refine aw_region_draw mixedF rfl (by kernel_rfl) ?_ | refine aE rfl ?_); simp only [go_sem, hp, opA, hli, r1', qs, hcl]) | refine callG_y ?_ | refine callG_p ?_ | refine aw_seq ?_ | refine aw_block ?_ | refine aw_scope ?_ | (refine aw_cond rfl (fun h => ?_) (fun h => ?_) <;> try (exfalso; first | (simp at h; done) | (simp at h; omega))) | ((with_reducible refine And.intro ?_ ?_); focus (first | omega | (intros; simp_all; done) | (simp; omega)))
          refine ⟨⟨rv, fun e he => by rw [he]; rfl, by omega⟩, ?_⟩
          repeat' first | ((first | refine callP_false (.bool false) ?_ | refine aw_region rfl ?_ | refine aw_region_draw mixedF rfl (by kernel_rfl) ?_ | refine aE rfl ?_); simp only [go_sem]) | refine callG_y ?_ | refine callG_p ?_ | refine aw_seq ?_ | refine aw_block ?_ | refine aw_scope ?_ | (refine aw_cond rfl (fun h => ?_) (fun h => ?_) <;> try (exfalso; first | (simp at h; done) | (simp at h; omega))) | ((with_reducible refine And.intro ?_ ?_); focus (first | omega | (intros; simp_all; done) | (simp; omega)))
          refine ⟨(i + 1, _, ver + 1), ⟨hlt, ?_, Nat.succ_ne_zero _, pre_app (pre_set rP (Nat.le_refl _) _) _⟩, by simp only; omega, ⟨by simp only [hf, List.length_append, List.length_singleton], congrArg _ (wrap_succ hlt (by omega))⟩, rfl⟩
          simp only
          rw [hf, fl_app]
          exact hget_appL (b := .cells (ver + 1) (fl F ++ fl [o])) (hget_set_eq hX1 _) trivial _
      · have hie : i = l.length := by omega
        have hli : decide ((i : Int) < (l.length : Int)) = false := decide_eq_false (by omega)
        rw [hie, List.take_length] at r1 ⊢
        rw [hie] at hli
        repeat' first | ((first | refine callP_false (.bool false) ?_ | refine aw_region rfl ?_ | refine aw_region_draw mixedF rfl (by kernel_rfl) ?_ | refine aE rfl ?_); simp only [go_sem, hli]) | refine callG_y ?_ | refine callG_p ?_ | refine aw_seq ?_ | refine aw_block ?_ | refine aw_scope ?_ | (refine aw_cond rfl (fun h => ?_) (fun h => ?_) <;> try (exfalso; first | (simp at h; done) | (simp at h; omega))) | ((with_reducible refine And.intro ?_ ?_); focus (first | omega | (intros; simp_all; done) | (simp; omega)))
        exact ⟨(X, ver), ⟨r1, rv, rP⟩, rfl, rfl⟩
  · rintro ⟨X, ver⟩ ⟨r1, rv, rP⟩
    simp only at r1 rv rP ⊢
    have hfl := List.length_filter_le opOk l
    repeat' first | ((first | refine callP_false (.bool false) ?_ | refine aw_region rfl ?_ | refine aw_region_draw mixedF rfl (by kernel_rfl) ?_ | refine aE rfl ?_); simp only [go_sem]) | refine callG_y ?_ | refine callG_p ?_ | refine aw_seq ?_ | refine aw_block ?_ | refine aw_scope ?_ | (refine aw_cond rfl (fun h => ?_) (fun h => ?_) <;> try (exfalso; first | (simp at h; done) | (simp at h; omega))) | ((with_reducible refine And.intro ?_ ?_); focus (first | omega | (intros; simp_all; done) | (simp; omega)))
    refine callK_of (sortS_c oLess_swo cmpO_lt _ _ _ cmpO_C H.length ver _ _ (by omega) (l.filter opOk) rfl X r1) callOk25F ?_
    rintro r H' ⟨rfl, S, s1, s2, rfl⟩
    simp only [go_sem]
    repeat' first | ((first | refine callP_false (.bool false) ?_ | refine aw_region rfl ?_ | refine aw_region_draw mixedF rfl (by kernel_rfl) ?_ | refine aE rfl ?_); simp only [go_sem]) | refine callG_y ?_ | refine callG_p ?_ | refine aw_seq ?_ | refine aw_block ?_ | refine aw_scope ?_ | (refine aw_cond rfl (fun h => ?_) (fun h => ?_) <;> try (exfalso; first | (simp at h; done) | (simp at h; omega))) | ((with_reducible refine And.intro ?_ ?_); focus (first | omega | (intros; simp_all; done) | (simp; omega)))
    have sl := s1.1
    rw [← sl]
    refine callK_of (compact_c _ rfl eqO_C H.length ver _ _ (Nat.le_refl _) (by omega) S rfl _ (hget_of r1 trivial _)) callOk28F ?_
    rintro r H' ⟨rfl, rest, rfl⟩
    have hcr := cpt_rSort s1 s2
    have hcl := cpt_len S
    rw [hcr] at hcl
    simp only [go_sem, hcr]
    generalize hX : hset (hset X H.length (.cells ver (fl S))) H.length (.cells ver (fl (rSort l) ++ rest)) = Z
    have rZ : hget Z H.length = .cells ver (fl (rSort l) ++ rest) := by rw [← hX, hset_set]; exact hget_of r1 trivial _
    have hZP : ∃ M, Z = H ++ M := by rw [← hX]; exact pre_set (pre_set rP (Nat.le_refl _) _) (Nat.le_refl _) _
    refine aw_freezeR [3] ((rSort l).map opA) rest (v := ver) (lc := S.length) (i := H.length) (s := 7) (cs := fl (rSort l) ++ rest) (by intro t ht; simp only [List.mem_singleton] at ht; subst ht; rw [List.length_map]; first | rfl | simp only [go_sem]) rZ rv rfl (cells_op _) ?_
    have hops : ∀ o ∈ rSort l, OpS o := fun o ho => by
      have := ((rSort_mem l).2 o).1 ho
      exact hs o (List.mem_filter.1 (List.mem_of_find?_eq_some this)).1
    have hfold : foldL l = (rSort l).foldl doL [] := rfl
    rw [hfold]
    have hZP2 := pre_set hZP (Nat.le_refl _) .gone
    generalize hset Z H.length .gone = X2 at *
    generalize rSort l = R at *
    repeat' first | ((first | refine callP_false (.bool false) ?_ | refine aw_region rfl ?_ | refine aw_region_draw mixedF rfl (by kernel_rfl) ?_ | refine aE rfl ?_); simp only [go_sem]) | refine callG_y ?_ | refine callG_p ?_ | refine aw_seq ?_ | refine aw_block ?_ | refine aw_scope ?_ | (refine aw_cond rfl (fun h => ?_) (fun h => ?_) <;> try (exfalso; first | (simp at h; done) | (simp at h; omega))) | ((with_reducible refine And.intro ?_ ?_); focus (first | omega | (intros; simp_all; done) | (simp; omega)))
    refine aw_loopS (ι := Nat × AHeap × Bool) (fun x => [(6, .sl x.2.2 (((R.take x.1).foldl doL []).map ndA)), (26, .sl false (R.map opA)), (27, .int .i64 R.length), (28, .int .i64 x.1)])
      (fun x => x.2.1) (fun x => x.1 ≤ R.length ∧ ∃ M, x.2.1 = H ++ M) (fun x => R.length - x.1) (0, X2, true) ⟨Nat.zero_le _, hZP2⟩ ?_ rfl ?_
    · simp [go_sem]
    · rintro ⟨i, Y, f⟩ ⟨hi, hP⟩
      simp only at hi hP ⊢
      by_cases hlt : i < R.length
      · have hp := getD_map opA hlt
        have hli : decide ((i : Int) < (R.length : Int)) = true := decide_eq_true (by omega)
        have htk : R.take (i + 1) = R.take i ++ [R[i]] := List.take_succ_eq_append_getElem hlt
        have hfl2 := foldl_len (R.take i) []
        rw [List.length_take, List.length_nil] at hfl2
        have hdo := do_c f ((R.take i).foldl doL []) R[i] (hops _ (List.getElem_mem hlt)) (by omega)
        have hF : (R.take (i + 1)).foldl doL [] = doL ((R.take i).foldl doL []) R[i] := by rw [htk, List.foldl_append]; rfl
        generalize R[i] = o at *
        generalize (R.take i).foldl doL [] = nn at *
        simp only [opA, unA] at hdo
        have ct0 := ct hdo callOk30F; repeat' first | ((first | refine cK (by assumption) ?_ | refine cP (by assumption) ?_ | refine cM (by assumption) ?_ | refine callP_false (.bool false) ?_ | refine aw_region rfl ?_ | refine aw_region_draw mixedF rfl (by kernel_rfl) ?_ | refine aE rfl ?_); simp only [go_sem, hp, opA, hli]) | refine callG_y ?_ | refine callG_p ?_ | refine aw_seq ?_ | refine aw_block ?_ | refine aw_scope ?_ | (refine aw_cond rfl (fun h => ?_) (fun h => ?_) <;> try (exfalso; first | (simp at h; done) | (simp at h; omega))) | ((with_reducible refine And.intro ?_ ?_); focus (first | omega | (intros; simp_all; done) | (simp; omega)))
        exact ⟨(i + 1, _, false), ⟨hlt, pre_app hP _⟩, by simp only; omega, ⟨by simp only [hF], congrArg _ (wrap_succ hlt (by omega))⟩, rfl⟩
      · have hie : i = R.length := by omega
        subst hie
        have hli : decide ((R.length : Int) < (R.length : Int)) = false := by simp
        rw [List.take_length]
        repeat' first | ((first | refine callP_false (.bool false) ?_ | refine aw_region rfl ?_ | refine aw_region_draw mixedF rfl (by kernel_rfl) ?_ | refine aE rfl ?_); simp only [go_sem, hli]) | refine callG_y ?_ | refine callG_p ?_ | refine aw_seq ?_ | refine aw_block ?_ | refine aw_scope ?_ | (refine aw_cond rfl (fun h => ?_) (fun h => ?_) <;> try (exfalso; first | (simp at h; done) | (simp at h; omega))) | ((with_reducible refine And.intro ?_ ?_); focus (first | omega | (intros; simp_all; done) | (simp; omega)))
        obtain ⟨M, hM⟩ := hP
        subst hM
        exact done (by simp only [go_sem]) (.sl _ _)
end Go.Proofs.YtmknmapgfjmioaaDoor
/- The Plan laws' opening: calls whose answers are fixed. No condition. -/
namespace Go.Gw
open Go Go.Aw Go.Proofs.YtmknmapgfjmioaaDoor
def mv20 (c n p : Int) (s : Txt) : Opn := ⟨⟨c, 0⟩, 1, n, p, s, []⟩
def awP : List Nd := [⟨128, 0, [97], ⟨1, 0⟩, [], st0⟩, ⟨256, 128, [98], ⟨2, 0⟩, [], st0⟩]
def awC : Cal := ⟨1, [47, 97, 47, 102], [], [], 0⟩
def awM2 : Cal := ⟨5, [47, 97, 47, 98, 47, 120], [47, 97, 47, 121], [], 0⟩
def awU : List Trn := [⟨1, 0⟩, ⟨1, 128⟩, ⟨2, 0⟩, ⟨3, 0⟩, ⟨2, 128⟩, ⟨5, 0⟩, ⟨0, 0⟩]
def awT : Nat → Thr
  | 0 => th0 awC
  | k + 1 => afterT (awT k) (awU.getD k ⟨0, 0⟩)
theorem awP_eq : foldL [mv20 1 128 0 [97], mv20 2 256 128 [98]] = awP := by decide +kernel
theorem awN_eq20 : (∀ k, k < 7 → nextT awP (awT k) = awU.getD k ⟨0, 0⟩) := by decide +kernel
theorem awT_S : ∀ k, k < 7 → (awT k).call.path.length ≤ 1048576 ∧ (awT k).call.to.length ≤ 1048576 ∧ (awT k).has.length ≤ 1048576 ∧ (awT k).ans.names.length ≤ 1048576 ∧ (awT k).ans.events.length ≤ 1048576 := by decide +kernel
theorem awT_call : (awT 7).call = awC := by decide +kernel
theorem awT_end : (awT 7).ended = true := by decide +kernel
theorem awK_eq : turnsK awC = false := by decide +kernel
theorem awW_eq : walksK awC = true := by decide +kernel
theorem awS_eq : wnames awC = [[97]] := by decide +kernel
theorem awL_eq20 : locksT awP awM2 = [1, 128, 256] := by decide +kernel
theorem awK2_eq : turnsK awM2 = true := by decide +kernel
end Go.Gw
namespace Go.Proofs.YtmknmapgfjmioaaDoor
open Go Go.Aw Go.Gw
set_option linter.unusedSimpArgs false
set_option linter.unusedVariables false
set_option maxRecDepth 20000
set_option maxHeartbeats 8000000

theorem mv20_c (a b c : Int) (s : Txt) (H : AHeap) : FnC Tryd.prog 20 [.int .i64 a, .int .i64 b, .int .i64 c, .str s] H (opA (mv20 a b c s)) := by
  refine fnC_of Tryd.func20 rfl (Nat.le_of_ble_eq_true rfl) ?_
  repeat' first | ((first | refine callP_false (.bool false) ?_ | refine aw_region rfl ?_ | refine aw_region_draw mixedF rfl (by kernel_rfl) ?_ | refine aE rfl ?_); simp only [go_sem]) | refine callG_y ?_ | refine callG_p ?_ | refine aw_seq ?_ | refine aw_block ?_ | refine aw_scope ?_ | (refine aw_cond rfl (fun h => ?_) (fun h => ?_) <;> try (exfalso; first | (simp at h; done) | (simp at h; omega))) | ((with_reducible refine And.intro ?_ ?_); focus (first | omega | (intros; simp_all; done) | (simp; omega)))
  exact done (by simp only [go_sem]) (.refl _)

/-- Two blocks that a loop keeps: one that stays, one that is written over. -/
structure LH (H X : AHeap) (A B : List AV) : Prop where
  pre : ∃ M, X = H ++ M
  a : hget X H.length = .cells 0 A
  b : hget X (H.length + 1) = .cells 0 B
theorem LH.next {H X : AHeap} {A B : List AV} (h : LH H X A B) (C : List AV) (L : AHeap) : LH H (hset X (H.length + 1) (.cells 0 C) ++ L) A C := by
  have hl : H.length + 1 < X.length := hget_lt h.b trivial
  obtain ⟨M, hM⟩ := h.pre
  refine ⟨?_, hget_appL ((hget_ne h.a (by omega) _)) trivial L, hget_appL (hget_eq hl (.cells 0 C)) trivial L⟩
  rw [hM, show H.length + 1 = H.length + 1 from rfl, hset_app, List.append_assoc]
  exact ⟨_, rfl⟩
theorem LH.app {H X : AHeap} {A B : List AV} (h : LH H X A B) (L : AHeap) : LH H (X ++ L) A B := by
  obtain ⟨M, hM⟩ := h.pre
  exact ⟨⟨M ++ L, by rw [hM, List.append_assoc]⟩, hget_appL h.a trivial L, hget_appL h.b trivial L⟩
/-- One block that a loop writes over. -/
structure LH1 (H X : AHeap) (B : List AV) : Prop where
  pre : ∃ M, X = H ++ M
  b : hget X H.length = .cells 0 B
theorem LH1.next {H X : AHeap} {B : List AV} (h : LH1 H X B) (C : List AV) (L : AHeap) : LH1 H (hset X H.length (.cells 0 C) ++ L) C := by
  have hl : H.length < X.length := hget_lt h.b trivial
  obtain ⟨M, hM⟩ := h.pre
  refine ⟨?_, hget_appL (hget_eq hl (.cells 0 C)) trivial L⟩
  rw [hM, hset_app0, List.append_assoc]
  exact ⟨_, rfl⟩
theorem doneL {H X M : AHeap} {n : Nat} {v x : AV} (h : ∃ L, X = H ++ L) (hp : Pur v) (hs : Sim v x) : ∃ L' y, X ++ M = H ++ L' ∧ Frz n (X ++ M) v y ∧ y = x := by
  obtain ⟨L, rfl⟩ := h
  exact ⟨L ++ M, x, by rw [List.append_assoc], hs.frz hp, rfl⟩
theorem doneL0 {H X : AHeap} {n : Nat} {v x : AV} (h : ∃ L, X = H ++ L) (hp : Pur v) (hs : Sim v x) : ∃ L' y, X = H ++ L' ∧ Frz n X v y ∧ y = x := by
  obtain ⟨L, rfl⟩ := h
  exact ⟨L, x, rfl, hs.frz hp, rfl⟩

theorem awake20_c (H : AHeap) : FnC Tryd.prog 7 [] H (.bool true) := by
  refine fnC_of Tryd.func7 rfl (Nat.le_of_ble_eq_true rfl) ?_
  have hmv := mv20_c
  have hfold := fold_c true [mv20 1 128 0 [97], mv20 2 256 128 [98]] (fun o ho => by
    simp only [List.mem_cons, List.not_mem_nil, or_false] at ho
    rcases ho with rfl | rfl <;> exact ⟨by decide, by decide⟩) (by decide)
  rw [awP_eq] at hfold
  simp only [opA, mv20] at hmv
  simp only [mv20, List.map_cons, List.map_nil, opA] at hfold
  have ct0 := ct hfold callOk10F; repeat' first | ((first | refine cK (by assumption) ?_ | refine cP (by assumption) ?_ | refine cM (by assumption) ?_ | refine callK_fn (hmv _ _ _ _ _) callOk20F ?_ | refine callP_fn (hmv _ _ _ _ _) callOk20F ?_ | refine callM_fn (fun _ => hmv _ _ _ _ _) callOk20F ?_ | refine callP_false (.bool false) ?_ | refine aw_region rfl ?_ | refine aw_region_draw mixedF rfl (by kernel_rfl) ?_ | refine aE rfl ?_); simp only [go_sem]) | ((with_reducible refine And.intro ?_ ?_); focus (exact callAt_of (hmv _ _ _ _ _) callOk20F)) | ((with_reducible refine And.intro (And.intro ?_ ?_) ?_); focus (exact callAt_of (hmv _ _ _ _ _) callOk20F)) | (exact callAt_of (hmv _ _ _ _ _) callOk20F) | refine callG_y ?_ | refine callG_p ?_ | refine aw_seq ?_ | refine aw_block ?_ | refine aw_scope ?_ | (refine aw_cond rfl (fun h => ?_) (fun h => ?_) <;> try (exfalso; first | (simp at h; done) | (simp at h; omega))) | ((with_reducible refine And.intro ?_ ?_); focus (first | omega | (intros; simp_all; done) | (simp; omega)))
  refine aw_loopS (ι := Nat × Bool × AHeap) (fun x => [(1, .sl false (awP.map ndA)), (2, .ref H.length 0 0), (3, .sl true (awU.map trA)), (4, .int .i64 x.1)]) (fun x => x.2.2) (fun x => x.1 ≤ 7 ∧ LH1 H x.2.2 (thA x.2.1 x.2.1 x.2.1 (awT x.1)).cells) (fun x => 7 - x.1)
    (0, true, _) ⟨Nat.zero_le _, ⟨⟨_, rfl⟩, by simp only [go_sem]; rfl⟩⟩ ?_ rfl ?_
  · simp [go_sem, awU, trA]
  · rintro ⟨k, f, X⟩ ⟨hk, hX⟩
    simp only at hk hX ⊢
    obtain ⟨hpre, r1⟩ := id hX
    by_cases hlt : k < 7
    · obtain ⟨s1, s2, s3, s4, s5⟩ := awT_S k hlt
      have hnx := next_c false f f f awP (awT k) s1 s2 (by decide)
      rw [awN_eq20 k hlt] at hnx
      have haf := after_c f f f (awT k) (awU.getD k ⟨0, 0⟩) ⟨s1, s3, s4, s5⟩
      have hT : afterT (awT k) (awU.getD k ⟨0, 0⟩) = awT (k + 1) := rfl
      rw [hT] at haf
      have hg : (awU.map trA).getD k .top = trA (awU.getD k ⟨0, 0⟩) := by
        have e : k < awU.length := hlt
        rw [getD_map trA e, List.getD_eq_getElem?_getD, List.getElem?_eq_getElem e]; rfl
      have hli : ((k : Int) < ((awU.length : Nat) : Int)) = True := eq_true (by have : awU.length = 7 := rfl; omega)
      have hself : ∀ x : Int, decide (x = x) = true := fun x => decide_eq_true rfl
      have hw : IntKind.i64.wrap ((k : Int) + 1) = ((k + 1 : Nat) : Int) := by rw [wrap_i64 (by omega) (by omega)]; rfl
      have hnt := fun L => hX.next (thA false false false (awT (k + 1))).cells L
      obtain ⟨t', ht'⟩ : ∃ t', awT (k + 1) = t' := ⟨_, rfl⟩
      rw [ht'] at haf hnt
      generalize awT k = t at *
      generalize awU.getD k ⟨0, 0⟩ = u at *
      simp only [thA, thF, trA, AV.cells] at hnx haf r1
      have r2 := fun M => hget_appL r1 trivial M
      have r3 := fun M b => hset_appL (hget_lt r1 trivial) M b
      have ct0 := ct hnx callOk11F; have ct1 := ct haf callOk12F; repeat' first | ((first | refine cK (by assumption) ?_ | refine cP (by assumption) ?_ | refine cM (by assumption) ?_ | refine callP_false (.bool false) ?_ | refine aw_region rfl ?_ | refine aw_region_draw mixedF rfl (by kernel_rfl) ?_ | refine aE rfl ?_); simp only [go_sem, r1, r2, r3, hg, hli, hself, trA]) | refine callG_y ?_ | refine callG_p ?_ | refine aw_seq ?_ | refine aw_block ?_ | refine aw_scope ?_ | (refine aw_cond rfl (fun h => ?_) (fun h => ?_) <;> try (exfalso; first | (simp at h; done) | (simp at h; omega))) | ((with_reducible refine And.intro ?_ ?_); focus (first | omega | (intros; simp_all; done) | (simp; omega)))
      exact ⟨(k + 1, false, _), ⟨hlt, by simp only [ht']; exact hnt _⟩, by simp only; omega, congrArg _ hw, rfl⟩
    · have hk7 : k = 7 := by omega
      have hli : ((k : Int) < ((awU.length : Nat) : Int)) = False := eq_false (by have : awU.length = 7 := rfl; omega)
      subst hk7
      have hcall := awT_call
      have hend := awT_end
      generalize awT 7 = t at *
      have hnm := pnames_c awC (by decide)
      have hl1 := plocks_c false awP awM2 (by decide) (by decide) (by decide)
      have hl2 := plocks_c false awP awC (by decide) (by decide) (by decide)
      have hag := again_c true true true ⟨ca0, [1], 3, true, false, 0, 0, 0, 0, an0⟩ ⟨by decide, by decide, by decide, by decide⟩
      have hs1 := same1_c false true [[97]] [[97]]
      have hs2 := nums6_c false true [1, 128, 256] [1, 128, 256]
      rw [if_pos ⟨awK_eq, awW_eq⟩, awS_eq] at hnm
      rw [awK2_eq, if_pos rfl, awL_eq20] at hl1
      rw [awK_eq, if_neg (fun h => by cases h)] at hl2
      rw [decide_eq_true rfl] at hs1 hs2
      simp only [caA, awC, List.map_cons, List.map_nil] at hnm hl2
      simp only [caA, awM2, List.map_cons, List.map_nil, inA] at hl1
      simp only [thA, thF, againT, ca0, an0, List.map_cons, List.map_nil, inA] at hag
      simp only [List.map_cons, List.map_nil, inA] at hs1 hs2
      simp only [thA, thF, AV.cells, hcall, hend, awC] at r1
      have r2 := fun M => hget_appL r1 trivial M
      have ct0 := ct hnm callOk16F; have ct1 := ct hl1 callOk21F; have ct2 := ct hl2 callOk21F; have ct3 := ct hag callOk13F; have ct4 := ct hs1 callOk22F; have ct5 := ct hs2 callOk23F; repeat' first | ((first | refine cK (by assumption) ?_ | refine cP (by assumption) ?_ | refine cM (by assumption) ?_ | refine callP_false (.bool false) ?_ | refine aw_region rfl ?_ | refine aw_region_draw mixedF rfl (by kernel_rfl) ?_ | refine aE rfl ?_); simp only [go_sem, r1, r2, hli]) | refine callG_y ?_ | refine callG_p ?_ | refine aw_seq ?_ | refine aw_block ?_ | refine aw_scope ?_ | (refine aw_cond rfl (fun h => ?_) (fun h => ?_) <;> try (exfalso; first | (simp at h; done) | (simp at h; omega))) | ((with_reducible refine And.intro ?_ ?_); focus (first | omega | (intros; simp_all; done) | (simp; omega)))
      exact doneL hpre (by simp only [go_sem]) (.refl _)
end Go.Proofs.YtmknmapgfjmioaaDoor
/- More of what is done and taken back, in plain Lean. No condition. -/
namespace Go.Gw
open Go Go.Aw Go.Proofs.YtmknmapgfjmioaaDoor

theorem fewNd_len {l : List Nd} {n : Int} (h : fewNd l n = true) : (l.length : Int) ≤ n := by
  unfold fewNd at h
  rw [Bool.and_eq_true, decide_eq_true_eq] at h
  exact h.2
theorem do_ref {l : List Nd} {o : Opn} (h : refused l o = true) : doL l o = l ∧ doU l o = und0 := by rw [doL, doU, if_pos h, if_pos h]; exact ⟨rfl, rfl⟩
theorem fnd_put {l : List Nd} (hs : chk l = true) (n : Nd) (id : Int) : fnd (putN l n) id = if id = n.id then some n else fnd l id := by
  obtain ⟨A, B, hA, hB, eA, eB, h⟩ := split_at hs n.id
  rw [put_eq n eA eB]
  by_cases hid : id = n.id
  · rw [if_pos hid]; exact fnd_mid (fun x hx => by rw [hid]; exact hA x hx) hid.symm
  · rw [if_neg hid]
    have key : ∀ m : Nd, m.id = n.id → fnd (A ++ m :: B) id = fnd (A ++ B) id := by
      intro m hm
      unfold fnd
      rw [List.find?_append, List.find?_append, List.find?_cons, decide_eq_false (by rw [hm]; exact fun e => hid e.symm)]
    rcases h with ⟨h, _⟩ | ⟨m, hm, h, _⟩
    · conv => rhs; rw [h]
      exact key n rfl
    · conv => rhs; rw [h]
      rw [key m hm]; exact key n rfl
theorem nodeNew_move {l : List Nd} {o : Opn} (hk : o.kind = 1) : nodeNew l o = ⟨(nodeWas l o).id, o.parent, o.name, o.at_, ((fnd l o.node).getD nd0).data, ((fnd l o.node).getD nd0).wrote⟩ := by
  unfold nodeNew nodeWas
  rw [if_pos hk]
  cases fnd l o.node <;> rfl
theorem nodeNew_write {l : List Nd} {o : Opn} (hk : o.kind = 2) : nodeNew l o = ⟨(nodeWas l o).id, if (fnd l o.node).isSome = true then ((fnd l o.node).getD nd0).parent else -1, ((fnd l o.node).getD nd0).name, ((fnd l o.node).getD nd0).moved, o.data, o.at_⟩ := by
  unfold nodeNew nodeWas
  rw [if_neg (by omega)]
  cases fnd l o.node <;> rfl
theorem fewOpn_S {l : List Opn} {n : Int} (h : fewOpn l n = true) : (∀ o ∈ l, OpS o) ∧ (l.length : Int) ≤ n := by
  rw [fewOpn, Bool.and_eq_true] at h
  refine ⟨fun o ho => ?_, of_decide_eq_true h.2⟩
  have := List.all_eq_true.1 h.1 o ho
  simp [longOpn] at this
  exact ⟨by omega, by omega⟩
end Go.Gw
/- What is above what, in plain Lean: of the nodes that operations make none is above itself. No condition. -/
namespace Go.Gw
open Go Go.Aw Go.Proofs.YtmknmapgfjmioaaDoor

theorem rSortLen (l : List Opn) : (rSort l).length ≤ l.length := by
  suffices h : ∀ (l acc : List Opn), (l.foldl rIns acc).length ≤ acc.length + l.length by have := h l []; simpa [rSort] using this
  intro l
  induction l with
  | nil => intro acc; exact Nat.le_refl _
  | cons o l ih =>
    intro acc
    have h1 := ih (rIns acc o)
    have h2 : (rIns acc o).length ≤ acc.length + 1 := by
      unfold rIns
      split
      · omega
      · rw [List.length_append, List.length_cons, List.length_take, List.length_drop]; omega
    rw [List.foldl_cons, List.length_cons]; omega
/-- What a number's node is in. -/
def par (l : List Nd) (id : Int) : Option Int := match fnd l id with | none => none | some n => if n.parent = -1 then none else some n.parent
theorem aboveN_succ (l : List Nd) (k : Nat) (id : Int) : aboveN l (k + 1) id = match par l id with | none => [] | some p => p :: aboveN l k p := by
  rw [aboveN, par]
  cases fnd l id with
  | none => rfl
  | some n => simp only; by_cases h : n.parent = -1 <;> simp [h]
theorem aboveN_take (l : List Nd) (k j : Nat) (id : Int) : aboveN l k id = (aboveN l (k + j) id).take k := by
  induction k generalizing id with
  | zero => rfl
  | succ k ih =>
    rw [Nat.succ_add, aboveN_succ, aboveN_succ]
    cases par l id with
    | none => rfl
    | some p => simp only [List.take_succ_cons]; rw [← ih p]
/-- Nothing is above itself. -/
def Wfr (l : List Nd) : Prop := ∃ r : Int → Nat, ∀ x p, par l x = some p → r p < r x

/-- From which numbers the way up goes on. -/
def srcN (l : List Nd) : Nat → Int → List Int
  | 0, _ => []
  | k + 1, id => match par l id with | none => [] | some p => id :: srcN l k p
theorem srcN_len (l : List Nd) (k : Nat) (id : Int) : (srcN l k id).length = (aboveN l k id).length := by
  induction k generalizing id with
  | zero => rfl
  | succ k ih =>
    rw [aboveN_succ, srcN]
    cases par l id with
    | none => rfl
    | some p => simp only [List.length_cons, ih]
theorem srcN_mem (l : List Nd) (k : Nat) (id : Int) : ∀ x ∈ srcN l k id, x ∈ l.map Nd.id := by
  induction k generalizing id with
  | zero => intro x hx; cases hx
  | succ k ih =>
    intro x hx
    rw [srcN] at hx
    cases hp : par l id with
    | none => rw [hp] at hx; cases hx
    | some p =>
      rw [hp] at hx
      rcases List.mem_cons.1 hx with rfl | hx
      · unfold par at hp
        cases hf : fnd l x with
        | none => rw [hf] at hp; cases hp
        | some n =>
          have h1 := List.mem_of_find?_eq_some hf
          have h2 := List.find?_some hf
          exact List.mem_map.2 ⟨n, h1, by simpa using h2⟩
      · exact ih p x hx
theorem srcN_rank {l : List Nd} {r : Int → Nat} (hr : ∀ x p, par l x = some p → r p < r x) (k : Nat) (id : Int) : (∀ x ∈ srcN l k id, r x ≤ r id) ∧ (srcN l k id).Nodup := by
  induction k generalizing id with
  | zero => exact ⟨fun x hx => (by cases hx), List.nodup_nil⟩
  | succ k ih =>
    rw [srcN]
    cases hp : par l id with
    | none => exact ⟨fun x hx => (by cases hx), List.nodup_nil⟩
    | some p =>
      obtain ⟨h1, h2⟩ := ih p
      have h3 := hr id p hp
      refine ⟨fun x hx => ?_, List.nodup_cons.2 ⟨fun hx => ?_, h2⟩⟩
      · rcases List.mem_cons.1 hx with rfl | hx
        · exact Nat.le_refl _
        · have := h1 x hx; omega
      · have := h1 id hx; omega
theorem pigeon {xs ys : List Int} (hn : xs.Nodup) (hs : ∀ x ∈ xs, x ∈ ys) : xs.length ≤ ys.length := by
  induction xs generalizing ys with
  | nil => exact Nat.zero_le _
  | cons x xs ih =>
    have hx := hs x (by simp)
    have h := ih (ys := ys.erase x) (List.nodup_cons.1 hn).2 (fun z hz => by
      have hne : z ≠ x := fun e => (List.nodup_cons.1 hn).1 (e ▸ hz)
      exact (List.mem_erase_of_ne hne).2 (hs z (by simp [hz])))
    have h1 := List.length_erase_of_mem hx
    have h2 := List.length_pos_of_mem hx
    rw [List.length_cons]; omega
theorem above_len {l : List Nd} (h : Wfr l) (k : Nat) (id : Int) : (aboveN l k id).length ≤ l.length := by
  obtain ⟨r, hr⟩ := h
  have := pigeon (srcN_rank hr k id).2 (srcN_mem l k id)
  rwa [srcN_len, List.length_map] at this
/-- So many steps are enough. -/
theorem above_fuel {l : List Nd} (h : Wfr l) {k : Nat} (hk : l.length ≤ k) (id : Int) : aboveN l k id = aboveI l id := by
  obtain ⟨j, rfl⟩ : ∃ j, k = l.length + j := ⟨k - l.length, by omega⟩
  rw [aboveI, aboveN_take l l.length j id, List.take_of_length_le (above_len h _ _)]
theorem above_step (l : List Nd) (k : Nat) (id : Int) : ∀ y ∈ id :: aboveN l k id, ∀ p, par l y = some p → p ∈ aboveN l (k + 1) id := by
  induction k generalizing id with
  | zero =>
    intro y hy p hp
    simp only [aboveN, List.mem_cons, List.not_mem_nil, or_false] at hy
    subst hy
    rw [aboveN_succ, hp]; simp
  | succ k ih =>
    intro y hy p hp
    rcases List.mem_cons.1 hy with rfl | hy
    · rw [aboveN_succ, hp]; simp
    · rw [aboveN_succ] at hy
      rw [aboveN_succ]
      cases hq : par l id with
      | none => rw [hq] at hy; cases hy
      | some q =>
        rw [hq] at hy
        exact List.mem_cons_of_mem _ (ih q y hy p hp)
theorem above_closed {l : List Nd} (h : Wfr l) (id : Int) : ∀ y ∈ id :: aboveI l id, ∀ p, par l y = some p → p ∈ aboveI l id := by
  intro y hy p hp
  have := above_step l l.length id y hy p hp
  rwa [above_fuel h (Nat.le_succ _)] at this
theorem above_sub {l : List Nd} {C : Int → Prop} (hc : ∀ y, C y → ∀ p, par l y = some p → C p) (k : Nat) (id : Int) (hi : C id) : ∀ x ∈ aboveN l k id, C x := by
  induction k generalizing id with
  | zero => intro x hx; cases hx
  | succ k ih =>
    intro x hx
    rw [aboveN_succ] at hx
    cases hp : par l id with
    | none => rw [hp] at hx; cases hx
    | some p =>
      rw [hp] at hx
      have h3 := hc id hi p hp
      rcases List.mem_cons.1 hx with rfl | hx
      · exact h3
      · exact ih p h3 x hx
theorem par_write {l : List Nd} {o : Opn} (hs : chk l = true) (hr : refused l o = false) (hk : o.kind = 2) (x : Int) : par (doL l o) x = par l x := by
  rw [par, par, doL_put hr, fnd_put hs, nodeNew_id]
  by_cases hx : x = o.node
  · rw [if_pos hx, nodeNew_write hk, hx]
    simp only
    cases fnd l o.node with
    | none => rfl
    | some n => rfl
  · rw [if_neg hx]
theorem par_move {l : List Nd} {o : Opn} (hs : chk l = true) (hr : refused l o = false) (hk : o.kind = 1) (hp : o.parent ≠ -1) (x : Int) : par (doL l o) x = if x = o.node then some o.parent else par l x := by
  rw [par, doL_put hr, fnd_put hs, nodeNew_id]
  by_cases hx : x = o.node
  · rw [if_pos hx, if_pos hx, nodeNew_move hk]
    simp only
    rw [if_neg hp]
  · rw [if_neg hx, if_neg hx, par]
theorem ok_kind {o : Opn} (h : opOk o = true) : o.kind = 1 ∨ o.kind = 2 := by
  unfold opOk at h
  simp only [Bool.and_eq_true, Bool.or_eq_true, decide_eq_true_eq] at h
  exact h.1.1.1
theorem dir_pos {n : Int} (h : dirI n = true) : n ≠ -1 := by
  intro e; subst e; revert h; decide
theorem ok_dir {o : Opn} (h : opOk o = true) (hk : o.kind = 1) : dirI o.parent = true := by
  unfold opOk at h
  rw [if_pos hk] at h
  simp only [Bool.and_eq_true] at h
  have h2 := h.2
  unfold fitsM at h2
  simp only [Bool.and_eq_true] at h2
  exact h2.1.1.1.2
theorem ref_f {l : List Nd} {o : Opn} (h : refused l o = false) : chk l = true ∧ opOk o = true ∧ (o.kind = 1 → loopsI l o = false) := by
  unfold refused at h
  simp only [Bool.or_eq_false_iff, Bool.and_eq_false_iff, Bool.not_eq_false', decide_eq_false_iff_not] at h
  exact ⟨h.1.1, h.1.2, fun hk => h.2.resolve_left (fun q => q hk)⟩
theorem loops_f {l : List Nd} {o : Opn} (h : loopsI l o = false) : o.node ∉ o.parent :: aboveI l o.parent := by
  unfold loopsI at h
  simp only [Bool.or_eq_false_iff, decide_eq_false_iff_not, List.any_eq_false, decide_eq_true_eq] at h
  intro hx
  rcases List.mem_cons.1 hx with e | hx
  · exact h.1 e.symm
  · exact h.2 _ hx rfl

theorem wf_do {l : List Nd} (o : Opn) (hs : chk l = true) (h : Wfr l) : Wfr (doL l o) := by
  cases hr : refused l o with
  | true => rw [(do_ref hr).1]; exact h
  | false =>
    obtain ⟨-, hok, hlo⟩ := ref_f hr
    rcases ok_kind hok with hk | hk
    · have hno := loops_f (hlo hk)
      have hpar := par_move hs hr hk (dir_pos (ok_dir hok hk))
      obtain ⟨r, hr'⟩ := id h
      have hdesc : ∀ x p, x ≠ o.node → par l x = some p → (o.node ∈ x :: aboveI l x ↔ o.node ∈ p :: aboveI l p) := by
        intro x p hx hp
        have hcl := above_closed h x
        have hpx : p ∈ aboveI l x := hcl x (by simp) p hp
        constructor
        · intro hm
          rcases List.mem_cons.1 hm with e | hm
          · exact absurd e.symm hx
          · have hm2 : o.node ∈ aboveN l (l.length + 1) x := by rw [above_fuel h (Nat.le_succ _)]; exact hm
            rw [aboveN_succ, hp] at hm2
            exact hm2
        · intro hm
          refine List.mem_cons_of_mem _ ?_
          rcases List.mem_cons.1 hm with e | hm
          · rw [e]; exact hpx
          · exact above_sub (C := fun y => y ∈ aboveI l x) (fun y hy q hq => hcl y (List.mem_cons_of_mem _ hy) q hq) _ p hpx _ hm
      refine ⟨fun x => if o.node ∈ x :: aboveI l x then r x + r o.parent + 1 else r x, fun x p hxp => ?_⟩
      rw [hpar] at hxp
      simp only
      by_cases hx : x = o.node
      · rw [if_pos hx] at hxp
        cases hxp
        rw [if_neg hno, if_pos (by rw [hx]; simp)]; omega
      · rw [if_neg hx] at hxp
        have h1 := hdesc x p hx hxp
        have h2 := hr' x p hxp
        by_cases hd : o.node ∈ x :: aboveI l x
        · rw [if_pos hd, if_pos (h1.1 hd)]; omega
        · rw [if_neg hd, if_neg (fun q => hd (h1.2 q))]; exact h2
    · obtain ⟨r, hr'⟩ := h
      exact ⟨r, fun x p hp => hr' x p (by rw [par_write hs hr hk] at hp; exact hp)⟩

/-- What holds of the nodes that operations make. -/
structure Frs (l : List Nd) : Prop where
  chk : chk l = true
  wf : Wfr l
  dir : ∀ n ∈ l, n.parent = -1 ∨ dirI n.parent = true
theorem frs_nil : Frs [] := ⟨rfl, ⟨fun _ => 0, fun x p h => by cases h⟩, fun n h => by cases h⟩
theorem put_mem {l : List Nd} {n x : Nd} (h : x ∈ putN l n) : x = n ∨ x ∈ l := by
  rw [putN, layN, List.append_assoc, List.mem_append] at h
  rcases h with h | h
  · exact .inr (List.mem_of_mem_take h)
  · rcases List.mem_append.1 h with h | h
    · rw [List.mem_singleton] at h; exact .inl h
    · exact .inr (List.mem_of_mem_drop h)
theorem frs_do {l : List Nd} (o : Opn) (h : Frs l) : Frs (doL l o) := by
  refine ⟨do_chk o h.chk, wf_do o h.chk h.wf, ?_⟩
  cases hr : refused l o with
  | true => rw [(do_ref hr).1]; exact h.dir
  | false =>
    obtain ⟨-, hok, -⟩ := ref_f hr
    intro n hn
    rw [doL_put hr] at hn
    rcases put_mem hn with rfl | hn
    · rcases ok_kind hok with hk | hk
      · rw [nodeNew_move hk]; exact .inr (ok_dir hok hk)
      · rw [nodeNew_write hk]
        simp only
        cases hf : fnd l o.node with
        | none => exact .inl rfl
        | some m => exact h.dir m (List.mem_of_find?_eq_some hf)
    · exact h.dir n hn
theorem frs_foldl (s : List Opn) {l : List Nd} (h : Frs l) : Frs (s.foldl doL l) := by
  induction s generalizing l with
  | nil => exact h
  | cons o s ih => exact ih (frs_do o h)
theorem frs_fold (l : List Opn) : Frs (foldL l) := frs_foldl _ frs_nil

theorem fnd_mem {l : List Nd} (hs : chk l = true) {n : Nd} (hn : n ∈ l) : fnd l n.id = some n := by
  have hp := ((chk_iff l).1 hs).2
  cases h : fnd l n.id with
  | none =>
    have := List.find?_eq_none.1 h n hn
    simp at this
  | some m =>
    have h1 := List.mem_of_find?_eq_some h
    have h2 : m.id = n.id := by have := List.find?_some h; simpa using this
    obtain ⟨i, hi, rfl⟩ := List.getElem_of_mem h1
    obtain ⟨j, hj, rfl⟩ := List.getElem_of_mem hn
    rcases Nat.lt_trichotomy i j with q | q | q
    · have := List.pairwise_iff_getElem.1 hp i j hi hj q; omega
    · subst q; rfl
    · have := List.pairwise_iff_getElem.1 hp j i hj hi q; omega

end Go.Gw
/- What a call does that is alone, turn by turn, in plain Lean. No condition. -/
namespace Go.Gw
open Go Go.Aw Go.Proofs.YtmknmapgfjmioaaDoor

theorem fold_len20 (l : List Opn) : (foldL l).length ≤ l.length := by
  have h1 := foldl_len (rSort l) []
  have h2 := rSortLen l
  unfold foldL
  simp only [List.length_nil] at h1
  omega
/-- So many turns, with so many that do, of a thread that is alone. -/
inductive Runs (G : Thr → Prop) (l : List Nd) : Thr → Nat → Nat → Thr → Prop
  | nil (t : Thr) : Runs G l t 0 0 t
  | cons {t t' : Thr} {n d : Nat} (h : G t) (r : Runs G l (afterT t (nextT l t)) n d t') : Runs G l t (n + 1) ((if (nextT l t).kind = 3 then 1 else 0) + d) t'
theorem Runs.trans {G : Thr → Prop} {l : List Nd} {a b c : Thr} {n d m e : Nat} (h : Runs G l a n d b) (k : Runs G l b m e c) : Runs G l a (n + m) (d + e) c := by
  induction h with
  | nil t => simpa using k
  | @cons t t' n d h r ih => have := Runs.cons h (ih k); rw [← Nat.add_assoc] at this; rw [show n + 1 + m = n + m + 1 by omega]; exact this
theorem Runs.mono {G K : Thr → Prop} (hg : ∀ t, G t → K t) {l : List Nd} {a b : Thr} {n d : Nat} (h : Runs G l a n d b) : Runs K l a n d b := by
  induction h with
  | nil t => exact .nil t
  | cons h r ih => exact .cons (hg _ h) ih
theorem Runs.one {G : Thr → Prop} {l : List Nd} {t t' : Thr} {u : Trn} (h : G t) (hu : nextT l t = u) (ht : afterT t u = t') : Runs G l t 1 (if u.kind = 3 then 1 else 0) t' := by
  subst hu; subst ht; exact .cons h (.nil _)

def goodA (l : List Nd) (t : Thr) : Prop := (nextT l t).kind ≠ 4 ∧ (nextT l t).kind ≠ 0 ∧ ((nextT l t).kind = 1 → t.has.contains (nextT l t).lock = false) ∧ ((nextT l t).kind = 2 → t.has.contains (nextT l t).lock = true)
def goodH (l : List Nd) (names : List Txt) (t : Thr) : Prop := t.done = false ∧
  ((nextT l t).kind = 3 → t.has.length = 1 ∧ ((findN l names).2 = 0 → dirI (findN l names).1 = true → t.has = [(findN l names).1])) ∧
  (afterT t (nextT l t)).has.length ≤ 2 ∧ ∀ a b, (afterT t (nextT l t)).has = [a, b] → ∃ n, findI l b = some n ∧ n.parent = a
def tw (c : Cal) (k : Int) (h : List Int) (d e : Bool) : Thr := { th0 c with at_ := k, has := h, done := d, ended := e }
theorem tw0 (c : Cal) : th0 c = tw c 0 [] false false := rfl
theorem goodA_of {l : List Nd} {t : Thr} {u : Trn} (h : nextT l t = u) (h1 : u.kind ≠ 4) (h2 : u.kind ≠ 0) (h3 : u.kind = 1 → t.has.contains u.lock = false) (h4 : u.kind = 2 → t.has.contains u.lock = true) : goodA l t := by
  subst h; exact ⟨h1, h2, h3, h4⟩
theorem goodH_of {l : List Nd} {names : List Txt} {t t' : Thr} {u : Trn} (h : nextT l t = u) (ht : afterT t u = t') (h0 : t.done = false)
    (h1 : u.kind = 3 → t.has.length = 1 ∧ ((findN l names).2 = 0 → dirI (findN l names).1 = true → t.has = [(findN l names).1])) (h2 : t'.has.length ≤ 2) (h3 : ∀ a b, t'.has = [a, b] → ∃ n, findI l b = some n ∧ n.parent = a) : goodH l names t := by
  subst h; subst ht; exact ⟨h0, h1, h2, h3⟩

/-! ### What is seen -/
theorem setN_mem {s : Txt} {n : Nd} {m : List (Txt × Nd)} {p : Txt × Nd} (h : p ∈ setN s n m) : p.2 = n ∨ p ∈ m := by
  induction m with
  | nil => simp [setN] at h; left; rw [h]
  | cons q m ih =>
    obtain ⟨k, x⟩ := q
    unfold setN at h
    split at h
    · rcases List.mem_cons.1 h with rfl | h
      · exact .inl rfl
      · exact .inr (List.mem_cons_of_mem _ h)
    · rcases List.mem_cons.1 h with rfl | h
      · exact .inr (by simp)
      · rcases ih h with h | h
        · exact .inl h
        · exact .inr (List.mem_cons_of_mem _ h)
theorem lookN_mem {s : Txt} {n : Nd} {m : List (Txt × Nd)} (h : lookN s m = some n) : ∃ p ∈ m, p.2 = n := by
  induction m with
  | nil => cases h
  | cons q m ih =>
    obtain ⟨k, x⟩ := q
    unfold lookN at h
    split at h
    · exact ⟨(k, x), by simp, by simpa using h⟩
    · obtain ⟨p, hp, e⟩ := ih h; exact ⟨p, List.mem_cons_of_mem _ hp, e⟩
theorem seenN_mem (l : List Nd) (dir : Int) : ∀ p ∈ seenN l dir, p.2 ∈ l ∧ inD dir p.2 = true := by
  suffices h : ∀ (k l : List Nd) (m : List (Txt × Nd)), (∀ p ∈ m, p.2 ∈ l ∧ inD dir p.2 = true) → (∀ n ∈ k, n ∈ l) → ∀ p ∈ k.foldl (seeN dir) m, p.2 ∈ l ∧ inD dir p.2 = true from h l l [] (fun p hp => by cases hp) (fun n hn => hn)
  intro k
  induction k with
  | nil => intro l m hm _; exact hm
  | cons x k ih =>
    intro l m hm hk
    refine ih l (seeN dir m x) (fun p hp => ?_) (fun n hn => hk n (List.mem_cons_of_mem _ hn))
    unfold seeN at hp
    split at hp
    · rename_i hx
      unfold putV at hp
      have hs : ∀ p ∈ setN x.name x m, p.2 ∈ l ∧ inD dir p.2 = true := fun p hp => by
        rcases setN_mem hp with e | h
        · rw [e]; exact ⟨hk x (by simp), hx⟩
        · exact hm p h
      split at hp
      · exact hs p hp
      · split at hp
        · exact hm p hp
        · exact hs p hp
    · exact hm p hp
theorem child_mem {l : List Nd} {dir : Int} {s : Txt} {n : Nd} (h : childN l dir s = some n) : chk l = true ∧ n ∈ l ∧ n.parent = dir := by
  unfold childN at h
  split at h
  · rename_i hc
    obtain ⟨p, hp, e⟩ := lookN_mem h
    obtain ⟨h1, h2⟩ := seenN_mem l dir p hp
    rw [e] at h1 h2
    unfold inD at h2
    rw [Bool.and_eq_true, decide_eq_true_eq] at h2
    exact ⟨hc, h1, h2.1⟩
  · cases h
theorem child_ne {l : List Nd} (hF : Frs l) {dir : Int} {s : Txt} {n : Nd} (hd : dirI dir = true) (h : childN l dir s = some n) : n.id ≠ dir ∧ findI l n.id = some n := by
  obtain ⟨hc, hm, hp⟩ := child_mem h
  have hf := fnd_mem hc hm
  refine ⟨fun e => ?_, by rw [findI, if_pos hc]; exact hf⟩
  obtain ⟨r, hr⟩ := hF.wf
  have hpar : par l n.id = some dir := by
    rw [par, hf]
    simp only [hp]
    rw [if_neg (dir_pos hd)]
  have := hr _ _ hpar
  rw [e] at this
  omega

/-! ### Giving back, and the end -/
theorem filt_tail {x : Int} {xs : List Int} (h : x ∉ xs) : (x :: xs).filter (fun k => !decide (k = x)) = xs := by
  rw [List.filter_cons_of_neg (by simp)]
  exact List.filter_eq_self.2 fun y hy => by simp; exact fun e => h (e ▸ hy)
theorem next_free (l : List Nd) (c : Cal) (k x : Int) (xs : List Int) : nextT l (tw c k (x :: xs) true false) = ⟨2, x⟩ := by
  simp [nextT, tw]
theorem after_free (c : Cal) (k x : Int) {xs : List Int} (h : x ∉ xs) : afterT (tw c k (x :: xs) true false) ⟨2, x⟩ = tw c k xs true false := by
  unfold afterT tw
  simp only [filt_tail h]
  simp
theorem run_free (l : List Nd) (c : Cal) (k : Int) (h : List Int) (hn : h.Nodup) : Runs (goodA l) l (tw c k h true false) h.length 0 (tw c k [] true false) := by
  induction h with
  | nil => exact .nil _
  | cons x xs ih =>
    have hx := (List.nodup_cons.1 hn)
    have h1 := next_free l c k x xs
    have := (Runs.one (G := goodA l) (goodA_of h1 (by simp) (by simp) (by simp) (fun _ => by simp [tw])) h1 (after_free c k x hx.1)).trans (ih hx.2)
    rw [List.length_cons, Nat.add_comm]
    simpa using this
theorem run_end (l : List Nd) (c : Cal) (k : Int) : ∃ n t', n ≤ 1 ∧ Runs (goodA l) l (tw c k [] true false) n 0 t' ∧ ((nextT l t').kind = 4 ∨ (nextT l t').kind = 0) ∧ t'.done = true ∧ t'.has = [] ∧ t'.ended = !decide (c.kind = 12) := by
  by_cases hk : c.kind = 12
  · refine ⟨0, _, by omega, .nil _, .inl ?_, rfl, rfl, by simp [tw, hk]⟩
    simp [nextT, tw, th0, hk]
  · have h1 : nextT l (tw c k [] true false) = ⟨5, 0⟩ := by simp [nextT, tw, th0, hk]
    refine ⟨1, tw c k [] true true, by omega, ?_, .inr ?_, rfl, rfl, by simp [tw, hk]⟩
    · have := Runs.one (G := goodA l) (t' := tw c k [] true true) (goodA_of h1 (by simp) (by simp) (by simp) (by simp)) h1 (by simp [afterT, tw])
      simpa using this
    · simp [nextT, tw]
theorem run_do {l : List Nd} {c : Cal} {k : Int} {h : List Int} (hn : h.Nodup) (h1 : nextT l (tw c k h false false) = ⟨3, 0⟩) : ∃ n t', n ≤ h.length + 2 ∧ Runs (goodA l) l (tw c k h false false) n 1 t' ∧ ((nextT l t').kind = 4 ∨ (nextT l t').kind = 0) ∧ t'.done = true ∧ t'.has = [] ∧ t'.ended = !decide (c.kind = 12) := by
  have r1 := Runs.one (G := goodA l) (t' := tw c k h true false) (goodA_of h1 (by simp) (by simp) (by simp) (by simp)) h1 (by simp [afterT, tw])
  have r2 := run_free l c k h hn
  obtain ⟨n, t', hn, r3, hE⟩ := run_end l c k
  refine ⟨1 + (h.length + n), t', by omega, ?_, hE⟩
  have := r1.trans (r2.trans r3)
  simpa using this

/-! ### Who turns the tree -/
theorem turnN_pre {has : List Int} (ps : List Int) (rest : List Int) (h : ∀ y ∈ ps, y ∈ has) : turnN has (ps ++ rest) = turnN has rest := by
  induction ps with
  | nil => rfl
  | cons p ps ih => rw [List.cons_append, turnN_skip (by simp; exact h p (by simp))]; exact ih fun y hy => h y (by simp [hy])
theorem turns_walks {c : Cal} (h : turnsK c = true) : walksK c = false := by
  unfold turnsK at h
  simp only [Bool.or_eq_true, decide_eq_true_eq] at h
  unfold walksK
  rcases h with (h | h) | h <;> rw [h] <;> rfl
theorem next_turn {l : List Nd} {c : Cal} (hc : turnsK c = true) (h : List Int) : nextT l (tw c 0 h false false) = turnN h (locksT l c) := by
  unfold nextT tw th0
  simp [hc]
theorem run_turn {l : List Nd} {c : Cal} (hc : turnsK c = true) (rest : List Int) : ∀ (ps : List Int), locksT l c = ps ++ rest → (ps ++ rest).Nodup → Runs (goodA l) l (tw c 0 ps false false) rest.length 0 (tw c 0 (ps ++ rest) false false) := by
  induction rest with
  | nil => intro ps _ _; rw [List.append_nil]; exact .nil _
  | cons x xs ih =>
    intro ps he hn
    have hx : x ∉ ps := fun hm => by
      have := (List.nodup_append.1 hn).2.2 x hm x (by simp)
      exact this rfl
    have hxc : ps.contains x = false := by simpa using hx
    have h1 : nextT l (tw c 0 ps false false) = ⟨1, x⟩ := by
      rw [next_turn hc, he, turnN_pre ps _ (fun y hy => hy), turnN_here hxc]
    have h2 : afterT (tw c 0 ps false false) ⟨1, x⟩ = tw c 0 (ps ++ [x]) false false := by
      unfold afterT tw th0
      simp [turns_walks hc]
    have h3 := ih (ps ++ [x]) (by rw [he]; simp) (by simpa using hn)
    have := (Runs.one (G := goodA l) (goodA_of h1 (by simp) (by simp) (fun _ => hxc) (by simp)) h1 h2).trans h3
    rw [List.length_cons, Nat.add_comm]
    simpa using this
theorem addD_nodup {ds : List Int} {o : Option Int} (h : ds.Nodup) : (addD ds o).Nodup := by
  unfold addD
  split
  · split
    · exact h
    · rename_i d hd
      rw [List.nodup_append]
      refine ⟨h, by simp, fun a ha b hb => ?_⟩
      simp at hb hd
      subst hb
      exact fun e => hd (e ▸ ha)
  · exact h
theorem addD_mem {ds : List Int} {o : Option Int} {x : Int} (h : x ∈ addD ds o) : x ∈ ds ∨ o = some x := by
  unfold addD at h
  split at h
  · split at h
    · exact .inl h
    · simp at h; rcases h with h | h
      · exact .inl h
      · exact .inr (by rw [h])
  · exact .inl h
theorem dirOf_dir {l : List Nd} {p : Txt} {d : Int} (h : dirOf l p = some d) : dirI d = true := by
  unfold dirOf at h
  split at h
  · split at h
    · rename_i q; cases h; exact q.2
    · cases h
  · cases h
theorem locksD_ok (l : List Nd) (c : Cal) : (locksD l c).Nodup ∧ ∀ x ∈ locksD l c, ∃ p ∈ pathsK c, dirOf l p = some x := by
  suffices h : ∀ (ps : List Txt) (ds : List Int), ds.Nodup → (∀ x ∈ ds, ∃ p ∈ pathsK c, dirOf l p = some x) → (∀ p ∈ ps, p ∈ pathsK c) → (ps.foldl (fun ds p => addD ds (dirOf l p)) ds).Nodup ∧ ∀ x ∈ ps.foldl (fun ds p => addD ds (dirOf l p)) ds, ∃ p ∈ pathsK c, dirOf l p = some x from
    h (pathsK c) [] List.nodup_nil (fun x hx => by cases hx) (fun p hp => hp)
  intro ps
  induction ps with
  | nil => intro ds h1 h2 _; exact ⟨h1, h2⟩
  | cons p ps ih =>
    intro ds h1 h2 h3
    refine ih _ (addD_nodup h1) (fun x hx => ?_) (fun q hq => h3 q (by simp [hq]))
    rcases addD_mem hx with hx | hx
    · exact h2 x hx
    · exact ⟨p, h3 p (by simp), hx⟩
theorem locksO_perm (l : List Nd) (ds : List Int) : (locksO l ds).Perm ds := by
  unfold locksO
  split
  · split
    · exact .swap _ _ _
    · exact .refl _
  · exact .refl _
theorem locksT_nodup (l : List Nd) (c : Cal) : (locksT l c).Nodup := by
  obtain ⟨h1, h2⟩ := locksD_ok l c
  rw [locksT, List.nodup_cons]
  refine ⟨fun h => ?_, (locksO_perm l _).nodup_iff.2 h1⟩
  obtain ⟨p, _, hp⟩ := h2 1 ((locksO_perm l _).mem_iff.1 h)
  have := dirOf_dir hp
  revert this; decide

/-! ### Who walks -/
theorem next_walk {l : List Nd} {c : Cal} (hc : turnsK c = false) (hw : walksK c = true) (k : Int) (h : List Int) : nextT l (tw c k h false false) = walkN l (wnames c) (tw c k h false false) := by
  unfold nextT
  rw [if_neg (by simp [tw]), if_neg (by simp [tw]), if_neg (by simp [tw, th0, hc]), if_pos (by simp [tw, th0, hw])]
  rfl
def goodW (l : List Nd) (names : List Txt) (t : Thr) : Prop := goodA l t ∧ goodH l names t
theorem goodW_of {l : List Nd} {names : List Txt} {t t' : Thr} {u : Trn} (h : nextT l t = u) (ht : afterT t u = t') (h0 : t.done = false) (h1 : u.kind = 1 ∨ u.kind = 2)
    (h3 : u.kind = 1 → t.has.contains u.lock = false) (h4 : u.kind = 2 → t.has.contains u.lock = true) (h2 : t'.has.length ≤ 2) (h5 : ∀ a b, t'.has = [a, b] → ∃ n, findI l b = some n ∧ n.parent = a) : goodW l names t :=
  ⟨goodA_of h (by omega) (by omega) h3 h4, goodH_of h ht h0 (fun e => by omega) h2 h5⟩
/-- It comes to a directory, and there does what it is to do. -/
theorem run_walk {l : List Nd} {names : List Txt} (hF : Frs l) {c : Cal} (hc : turnsK c = false) (hw : walksK c = true) (m : Nat) : ∀ (k : Nat) (here : Int), wnames c = names → m = names.length - k → k ≤ names.length → names.length ≤ 16 → dirI here = true → findN l names = pathN l here (names.drop k) →
    ∃ n k' d, n ≤ 2 * m ∧ Runs (goodW l names) l (tw c (k : Int) [here] false false) n 0 (tw c k' [d] false false) ∧ nextT l (tw c k' [d] false false) = ⟨3, 0⟩ ∧ ((findN l names).2 = 0 → dirI (findN l names).1 = true → d = (findN l names).1) := by
  induction m with
  | zero =>
    intro k here hnm hm hk hn hd hf
    have hkl : k = names.length := by omega
    subst hkl
    rw [List.drop_length] at hf
    have hf' : findN l names = (here, 0) := hf
    refine ⟨0, _, here, by omega, .nil _, ?_, fun _ _ => by rw [hf']⟩
    rw [next_walk hc hw, hnm]
    simp [walkN, tw, hf']
  | succ m ih =>
    intro k here hnm hm hk hn hd hf
    have hlt : k < names.length := by omega
    rw [List.drop_eq_getElem_cons hlt] at hf
    have hf1 : findN l names = (match childN l here names[k] with | some n => pathN l n.id (names.drop (k + 1)) | none => (0, 80)) := by rw [hf, pathN, if_pos hd]; rfl
    have hwn : ∀ (r : Trn), (match childN l here names[k] with
        | some n => if dirI n.id = true then (⟨1, n.id⟩ : Trn) else if (findN l names).2 = 0 ∧ dirI (findN l names).1 = true ∧ (findN l names).1 ≠ here then ⟨2, here⟩ else ⟨3, 0⟩
        | none => if (findN l names).2 = 0 ∧ dirI (findN l names).1 = true ∧ (findN l names).1 ≠ here then ⟨2, here⟩ else ⟨3, 0⟩) = r → nextT l (tw c (k : Int) [here] false false) = r := by
      intro r hr
      have e : (if (0 : Int) ≤ (k : Int) then names[(k : Int).toNat]? else none).bind (childN l here) = childN l here names[k] := by rw [if_pos (by omega), Int.toNat_natCast, List.getElem?_eq_getElem hlt]; rfl
      rw [next_walk hc hw, hnm, ← hr, ← e]
      rfl
    cases hch : childN l here names[k] with
    | none =>
      rw [hch] at hf1 hwn
      refine ⟨0, _, here, by omega, .nil _, ?_, fun h => by rw [hf1] at h; cases h⟩
      refine hwn _ ?_
      simp only [hf1]
      rw [if_neg (by rintro ⟨h, _⟩; cases h)]
    | some n =>
      rw [hch] at hf1 hwn
      simp only at hf1
      obtain ⟨hne, hfi⟩ := child_ne hF hd hch
      have hpar := (child_mem hch).2.2
      cases hdn : dirI n.id with
      | true =>
        obtain ⟨n', k', d, hn', hr, h3, h4⟩ := ih (k + 1) n.id hnm (by omega) (by omega) hn hdn hf1
        refine ⟨1 + (1 + n'), k', d, by omega, ?_, h3, h4⟩
        have e1 : nextT l (tw c (k : Int) [here] false false) = ⟨1, n.id⟩ := hwn _ (by simp only [hdn]; rfl)
        have e2 : afterT (tw c (k : Int) [here] false false) ⟨1, n.id⟩ = tw c ((k + 1 : Nat) : Int) [here, n.id] false false := by
          unfold afterT tw th0
          simp only [if_true, List.length_cons, List.length_nil]
          rw [if_pos ⟨trivial, hw⟩, wrap_i64 (by omega) (by omega)]
          rfl
        have e3 : nextT l (tw c ((k + 1 : Nat) : Int) [here, n.id] false false) = ⟨2, here⟩ := by
          rw [next_walk hc hw]; rfl
        have e4 : afterT (tw c ((k + 1 : Nat) : Int) [here, n.id] false false) ⟨2, here⟩ = tw c ((k + 1 : Nat) : Int) [n.id] false false := by
          unfold afterT tw th0
          simp only [filt_tail (show here ∉ [n.id] by simp; exact fun e => hne e.symm)]
          simp
        have r1 := Runs.one (G := goodW l names) (goodW_of e1 e2 rfl (.inl rfl) (fun _ => by simp [tw]; exact fun e => hne e) (fun h => by cases h) (by simp [tw]) (fun a b h => by
          simp [tw] at h; obtain ⟨rfl, rfl⟩ := h; exact ⟨n, hfi, hpar⟩)) e1 e2
        have r2 := Runs.one (G := goodW l names) (goodW_of e3 e4 rfl (.inr rfl) (fun h => by cases h) (fun _ => by simp [tw]) (by simp [tw]) (fun a b h => by
          simp [tw] at h)) e3 e4
        have := r1.trans (r2.trans hr)
        simpa using this
      | false =>
        refine ⟨0, _, here, by omega, .nil _, ?_, fun h1 h2 => ?_⟩
        · refine hwn _ ?_
          simp only [hdn]
          rw [if_neg (by simp), if_neg ?_]
          rw [hf1]
          rintro ⟨h1, h2, -⟩
          cases hdr : names.drop (k + 1) with
          | nil => rw [hdr] at h2; simp only [pathN] at h2; rw [hdn] at h2; cases h2
          | cons s r => rw [hdr, pathN, if_neg (by rw [hdn]; simp)] at h1; cases h1
        · rw [hf1] at h1 h2
          cases hdr : names.drop (k + 1) with
          | nil => rw [hdr] at h2; simp only [pathN] at h2; rw [hdn] at h2; cases h2
          | cons s r => rw [hdr, pathN, if_neg (by rw [hdn]; simp)] at h1; cases h1
theorem run_walks {l : List Nd} (hF : Frs l) {c : Cal} (hc : turnsK c = false) (hw : walksK c = true) :
    ∃ n k' d, n ≤ 33 ∧ Runs (goodW l (wnames c)) l (th0 c) n 0 (tw c k' [d] false false) ∧ nextT l (tw c k' [d] false false) = ⟨3, 0⟩ ∧ ((findN l (wnames c)).2 = 0 → dirI (findN l (wnames c)).1 = true → d = (findN l (wnames c)).1) := by
  have h16 := wnames_len c
  obtain ⟨n, k', d, hn, hr, h3, h4⟩ := run_walk hF hc hw _ 0 0 rfl rfl (Nat.zero_le _) h16 (by decide) rfl
  have e1 : nextT l (tw c 0 [] false false) = ⟨1, 0⟩ := by rw [next_walk hc hw]; rfl
  have e2 : afterT (tw c 0 [] false false) ⟨1, 0⟩ = tw c ((0 : Nat) : Int) [0] false false := by
    unfold afterT tw th0
    simp
  have r1 := Runs.one (G := goodW l (wnames c)) (goodW_of e1 e2 rfl (.inl rfl) (fun _ => by simp [tw]) (fun h => by cases h) (by simp [tw]) (fun a b h => by simp [tw] at h)) e1 e2
  refine ⟨1 + n, k', d, by omega, ?_, h3, h4⟩
  have := r1.trans hr
  rw [tw0]
  simpa using this

theorem alone {l : List Nd} (hF : Frs l) (c : Cal) : ∃ n t', n ≤ 45 ∧ Runs (goodA l) l (th0 c) n 1 t' ∧ ((nextT l t').kind = 4 ∨ (nextT l t').kind = 0) ∧ t'.done = true ∧ t'.has = [] ∧ t'.ended = !decide (c.kind = 12) := by
  cases hc : turnsK c with
  | true =>
    have hnd := locksT_nodup l c
    have hle := locksT_len l c
    have r1 := run_turn hc (locksT l c) [] rfl (by simpa using hnd)
    rw [List.nil_append] at r1
    have h3 : nextT l (tw c 0 (locksT l c) false false) = ⟨3, 0⟩ := by
      rw [next_turn hc]
      have := turnN_pre (has := locksT l c) (locksT l c) [] (fun y hy => hy)
      rw [List.append_nil] at this
      rw [this]; rfl
    obtain ⟨n, t', hn, r2, h⟩ := run_do hnd h3
    refine ⟨(locksT l c).length + n, t', by omega, ?_, h⟩
    rw [tw0]
    have := r1.trans r2
    simpa using this
  | false =>
    cases hw : walksK c with
    | true =>
      obtain ⟨n, k', d, hn, hr, h3, -⟩ := run_walks hF hc hw
      obtain ⟨m, t', hm, r2, h⟩ := run_do (by simp) h3
      refine ⟨n + m, t', by simp at hm; omega, ?_, h⟩
      have := (hr.mono fun t h => h.1).trans r2
      simpa using this
    | false =>
      have h3 : nextT l (tw c 0 [] false false) = ⟨3, 0⟩ := by
        unfold nextT tw th0
        simp [hc, hw]
      obtain ⟨n, t', hn, r2, h⟩ := run_do (by simp) h3
      exact ⟨n, t', by simp at hn; omega, r2, h⟩
/-- Who walks, until it is done. -/
theorem alone_walk {l : List Nd} (hF : Frs l) {c : Cal} (hc : turnsK c = false) (hw : walksK c = true) : ∃ n d t', n ≤ 45 ∧ Runs (goodH l (wnames c)) l (th0 c) n d t' ∧ t'.done = true := by
  obtain ⟨n, k', d, hn, hr, h3, h4⟩ := run_walks hF hc hw
  refine ⟨n + 1, _, tw c k' [d] true false, by omega, (hr.mono fun t h => h.2).trans (Runs.one (t' := tw c k' [d] true false) (goodH_of h3 (t' := tw c k' [d] true false) (by simp [afterT, tw]) rfl (fun _ => ⟨rfl, fun h1 h2 => by rw [← h4 h1 h2]; rfl⟩) (by simp [tw]) (fun a b h => by simp [tw] at h)) h3 (by simp [afterT, tw])), rfl⟩
end Go.Gw
/- PlanFrees and PlanAgain, walked. No condition. -/
namespace Go.Gw
open Go Go.Aw Go.Proofs.YtmknmapgfjmioaaDoor
theorem fewCal_one {c : Cal} (h : fewCal [c] 1 = true) : c.path.length ≤ 1000 ∧ c.to.length ≤ 1000 ∧ c.data.length ≤ 5000 := by
  simp [fewCal, longCal] at h
  omega
theorem after_keep (t : Thr) (u : Trn) : (afterT t u).call = t.call ∧ (afterT t u).upto = t.upto ∧ (afterT t u).begin_ = t.begin_ ∧ (afterT t u).mark = t.mark ∧ (afterT t u).end_ = t.end_ ∧ (afterT t u).ans = t.ans ∧ (afterT t u).has.length ≤ t.has.length + 1 := by
  unfold afterT
  split
  · simp
  · split
    · have := List.length_filter_le (fun k => !decide (k = u.lock)) t.has
      simp; omega
    · split
      · simp
      · split <;> simp
theorem after_flags (t : Thr) (u : Trn) : (afterT t u).done = (t.done || decide (u.kind = 3)) ∧ (afterT t u).ended = (t.ended || decide (u.kind = 5)) := by
  unfold afterT
  split
  · rename_i h; simp [h]
  · split
    · rename_i h; simp [h]
    · split
      · rename_i h; simp [h]
      · split
        · rename_i h; simp [h]
        · rename_i h1 h2 h3 h4; simp [h3, h4]
theorem next_kind {l : List Nd} {t : Thr} (h1 : t.done = false) (h2 : t.ended = false) : (nextT l t).kind ≠ 5 := by
  have hw : ∀ (names : List Txt), (walkN l names t).kind ≠ 5 := by
    intro names
    unfold walkN
    split
    · simp
    · simp
    · split
      · split
        · simp
        · split <;> simp
      · split <;> simp
  have ht : ∀ ks, (turnN t.has ks).kind ≠ 5 := by
    intro ks
    induction ks with
    | nil => simp [turnN]
    | cons k ks ih => unfold turnN; split; exact ih; simp
  unfold nextT
  rw [h1, h2, if_neg (by simp), if_neg (by simp)]
  split
  · exact ht _
  · split
    · exact hw _
    · simp
theorem again_of {t : Thr} {c : Cal} (h : t = { th0 c with has := t.has, at_ := t.at_ }) : againT t = th0 c := by
  rw [h]; rfl
/-- A thread that has only locks, and a place. -/
def Young (c : Cal) (t : Thr) : Prop := t = { th0 c with has := t.has, at_ := t.at_ }
theorem Young.next {c : Cal} {t : Thr} {l : List Nd} (h : Young c t) (h3 : (nextT l t).kind ≠ 3) : Young c (afterT t (nextT l t)) := by
  have hd : t.done = false := by rw [h]; rfl
  have he : t.ended = false := by rw [h]; rfl
  have h5 := next_kind (l := l) hd he
  obtain ⟨a1, a2, a3, a4, a5, a6, -⟩ := after_keep t (nextT l t)
  obtain ⟨b1, b2⟩ := after_flags t (nextT l t)
  rw [hd, decide_eq_false h3] at b1
  rw [he, decide_eq_false h5] at b2
  have e1 : t.call = c := by rw [h]; rfl
  have e2 : t.upto = 0 := by rw [h]; rfl
  have e3 : t.begin_ = 0 := by rw [h]; rfl
  have e4 : t.mark = 0 := by rw [h]; rfl
  have e5 : t.end_ = 0 := by rw [h]; rfl
  have e6 : t.ans = an0 := by rw [h]; rfl
  rw [e1] at a1; rw [e2] at a2; rw [e3] at a3; rw [e4] at a4; rw [e5] at a5; rw [e6] at a6
  unfold Young
  generalize afterT t (nextT l t) = t' at *
  obtain ⟨_, _, _, _, _, _, _, _, _, _⟩ := t'
  simp only at a1 a2 a3 a4 a5 a6 b1 b2
  subst a1 a2 a3 a4 a5 a6
  simp only [Bool.or_false] at b1 b2
  subst b1 b2
  rfl
end Go.Gw
namespace Go.Proofs.YtmknmapgfjmioaaDoor
open Go Go.Aw Go.Gw
set_option linter.unusedSimpArgs false
set_option linter.unusedVariables false
set_option maxRecDepth 20000
set_option maxHeartbeats 8000000

theorem pfrees_c (b1 b2 : Bool) (l : List Nd) (c : Cal) (hs : List Int) (H : AHeap) : FnC Tryd.prog 5 [.sl b1 (l.map ndA), caA c, .sl b2 (hs.map inA)] H (.bool true) := by
  refine fnC_of Tryd.func5 rfl (Nat.le_of_ble_eq_true rfl) ?_
  have hfew := few6_c b1 l 100
  have hcal := few18_c true [c] 1
  simp only [List.map_cons, List.map_nil, caA] at hcal
  cases hA : fewNd l 100 with
  | false =>
    rw [hA] at hfew
    have ct0 := ct awake20_c callOk7F; have ct1 := ct hfew callOk15F; repeat' first | ((first | refine cK (by assumption) ?_ | refine cP (by assumption) ?_ | refine cM (by assumption) ?_ | refine callP_false (.bool false) ?_ | refine aw_region rfl ?_ | refine aw_region_draw mixedF rfl (by kernel_rfl) ?_ | refine aE rfl ?_); simp only [go_sem, caA]) | refine callG_y ?_ | refine callG_p ?_ | refine aw_seq ?_ | refine aw_block ?_ | refine aw_scope ?_ | (refine aw_cond rfl (fun h => ?_) (fun h => ?_) <;> try (exfalso; first | (simp at h; done) | (simp at h; omega))) | ((with_reducible refine And.intro ?_ ?_); focus (first | omega | (intros; simp_all; done) | (simp; omega)))
    exact done (by simp only [go_sem]) (.refl _)
  | true =>
  rw [hA] at hfew
  cases hB : fewCal [c] 1 with
  | false =>
    rw [hB] at hcal
    have ct0 := ct awake20_c callOk7F; have ct1 := ct hfew callOk15F; have ct2 := ct hcal callOk9F; repeat' first | ((first | refine cK (by assumption) ?_ | refine cP (by assumption) ?_ | refine cM (by assumption) ?_ | refine callP_false (.bool false) ?_ | refine aw_region rfl ?_ | refine aw_region_draw mixedF rfl (by kernel_rfl) ?_ | refine aE rfl ?_); simp only [go_sem, caA]) | refine callG_y ?_ | refine callG_p ?_ | refine aw_seq ?_ | refine aw_block ?_ | refine aw_scope ?_ | (refine aw_cond rfl (fun h => ?_) (fun h => ?_) <;> try (exfalso; first | (simp at h; done) | (simp at h; omega))) | ((with_reducible refine And.intro ?_ ?_); focus (first | omega | (intros; simp_all; done) | (simp; omega)))
    exact done (by simp only [go_sem]) (.refl _)
  | true =>
  rw [hB] at hcal
  obtain ⟨hc1, hc2, hc3⟩ := fewCal_one hB
  have hll := fewNd_len hA
  by_cases hlen : hs.length ≤ 10
  case neg =>
    have hli : ((10 : Int) < ((hs.length : Nat) : Int)) = True := eq_true (by omega)
    have ct0 := ct awake20_c callOk7F; have ct1 := ct hfew callOk15F; have ct2 := ct hcal callOk9F; repeat' first | ((first | refine cK (by assumption) ?_ | refine cP (by assumption) ?_ | refine cM (by assumption) ?_ | refine callP_false (.bool false) ?_ | refine aw_region rfl ?_ | refine aw_region_draw mixedF rfl (by kernel_rfl) ?_ | refine aE rfl ?_); simp only [go_sem, caA, hli]) | refine callG_y ?_ | refine callG_p ?_ | refine aw_seq ?_ | refine aw_block ?_ | refine aw_scope ?_ | (refine aw_cond rfl (fun h => ?_) (fun h => ?_) <;> try (exfalso; first | (simp at h; done) | (simp at h; omega))) | ((with_reducible refine And.intro ?_ ?_); focus (first | omega | (intros; simp_all; done) | (simp; omega)))
    exact done (by simp only [go_sem]) (.refl _)
  case pos =>
  have hli : ((10 : Int) < ((hs.length : Nat) : Int)) = False := eq_false (by omega)
  have ct0 := ct awake20_c callOk7F; have ct1 := ct hfew callOk15F; have ct2 := ct hcal callOk9F; repeat' first | ((first | refine cK (by assumption) ?_ | refine cP (by assumption) ?_ | refine cM (by assumption) ?_ | refine callP_false (.bool false) ?_ | refine aw_region rfl ?_ | refine aw_region_draw mixedF rfl (by kernel_rfl) ?_ | refine aE rfl ?_); simp only [go_sem, caA, hli]) | refine callG_y ?_ | refine callG_p ?_ | refine aw_seq ?_ | refine aw_block ?_ | refine aw_scope ?_ | (refine aw_cond rfl (fun h => ?_) (fun h => ?_) <;> try (exfalso; first | (simp at h; done) | (simp at h; omega))) | ((with_reducible refine And.intro ?_ ?_); focus (first | omega | (intros; simp_all; done) | (simp; omega)))
  refine aw_loopS (ι := Nat) (fun i => [(0, .sl b1 (l.map ndA)), (2, .sl b2 (hs.map inA)), (4, .ref H.length 0 0), (7, .bool true), (8, .int .i64 i)]) (fun _ => H ++ [.cells 0 (caA c).cells]) (fun i => i ≤ hs.length ∧ (hs.take i).Nodup) (fun i => hs.length - i) 0 ⟨Nat.zero_le _, by simp⟩ ?_ rfl ?_
  · simp [go_sem]
  · rintro i ⟨hi, hnd⟩
    by_cases hlt : i < hs.length
    · have hli : ((i : Int) < ((hs.length : Nat) : Int)) = True := eq_true (by omega)
      have hp := getD_map inA hlt
      repeat' first | ((first | refine callP_false (.bool false) ?_ | refine aw_region rfl ?_ | refine aw_region_draw mixedF rfl (by kernel_rfl) ?_ | refine aE rfl ?_); simp only [go_sem, hli, caA]) | refine callG_y ?_ | refine callG_p ?_ | refine aw_seq ?_ | refine aw_block ?_ | refine aw_scope ?_ | (refine aw_cond rfl (fun h => ?_) (fun h => ?_) <;> try (exfalso; first | (simp at h; done) | (simp at h; omega))) | ((with_reducible refine And.intro ?_ ?_); focus (first | omega | (intros; simp_all; done) | (simp; omega)))
      refine aw_loopS (ι := Nat) (fun k => [(0, .sl b1 (l.map ndA)), (2, .sl b2 (hs.map inA)), (4, .ref H.length 0 0), (7, .bool true), (8, .int .i64 i), (9, .int .i64 k)]) (fun _ => H ++ [.cells 0 (caA c).cells]) (fun k => k ≤ i ∧ hs[i] ∉ hs.take k) (fun k => i - k) 0 ⟨Nat.zero_le _, by simp⟩ ?_ rfl ?_
      · simp [go_sem]
      · rintro k ⟨hk, hno⟩
        by_cases hkl : k < i
        · have hlk : ((k : Int) < (i : Int)) = True := eq_true (by omega)
          have hq := getD_map inA (show k < hs.length by omega)
          have hlj : ((k : Int) < ((hs.length : Nat) : Int)) = True := eq_true (by omega)
          have hw : IntKind.i64.wrap ((k : Int) + 1) = ((k + 1 : Nat) : Int) := by rw [wrap_i64 (by omega) (by omega)]; rfl
          by_cases he : hs[k] = hs[i]
          · have hed : decide (hs[k] = hs[i]) = true := decide_eq_true he
            repeat' first | ((first | refine callP_false (.bool false) ?_ | refine aw_region rfl ?_ | refine aw_region_draw mixedF rfl (by kernel_rfl) ?_ | refine aE rfl ?_); simp only [go_sem, hli, hlk, hlj, hp, hq, hed, inA, caA]) | refine callG_y ?_ | refine callG_p ?_ | refine aw_seq ?_ | refine aw_block ?_ | refine aw_scope ?_ | (refine aw_cond rfl (fun h => ?_) (fun h => ?_) <;> try (exfalso; first | (simp at h; done) | (simp at h; omega))) | ((with_reducible refine And.intro ?_ ?_); focus (first | omega | (intros; simp_all; done) | (simp; omega)))
            exact done (by simp only [go_sem]) (.refl _)
          · have hed : decide (hs[k] = hs[i]) = false := decide_eq_false he
            repeat' first | ((first | refine callP_false (.bool false) ?_ | refine aw_region rfl ?_ | refine aw_region_draw mixedF rfl (by kernel_rfl) ?_ | refine aE rfl ?_); simp only [go_sem, hli, hlk, hlj, hp, hq, hed, inA, caA]) | refine callG_y ?_ | refine callG_p ?_ | refine aw_seq ?_ | refine aw_block ?_ | refine aw_scope ?_ | (refine aw_cond rfl (fun h => ?_) (fun h => ?_) <;> try (exfalso; first | (simp at h; done) | (simp at h; omega))) | ((with_reducible refine And.intro ?_ ?_); focus (first | omega | (intros; simp_all; done) | (simp; omega)))
            refine ⟨k + 1, ⟨hkl, ?_⟩, by omega, congrArg _ hw⟩
            rw [List.take_succ_eq_append_getElem (show k < hs.length by omega), List.mem_append]
            simp only [List.mem_singleton]
            exact fun h => h.elim hno fun h => he h.symm
        · have hke : k = i := by omega
          subst hke
          have hlk : ((k : Int) < (k : Int)) = False := eq_false (by omega)
          have hw : IntKind.i64.wrap ((k : Int) + 1) = ((k + 1 : Nat) : Int) := by rw [wrap_i64 (by omega) (by omega)]; rfl
          repeat' first | ((first | refine callP_false (.bool false) ?_ | refine aw_region rfl ?_ | refine aw_region_draw mixedF rfl (by kernel_rfl) ?_ | refine aE rfl ?_); simp only [go_sem, hli, hlk, caA]) | refine callG_y ?_ | refine callG_p ?_ | refine aw_seq ?_ | refine aw_block ?_ | refine aw_scope ?_ | (refine aw_cond rfl (fun h => ?_) (fun h => ?_) <;> try (exfalso; first | (simp at h; done) | (simp at h; omega))) | ((with_reducible refine And.intro ?_ ?_); focus (first | omega | (intros; simp_all; done) | (simp; omega)))
          refine ⟨k + 1, ⟨hlt, ?_⟩, by omega, congrArg _ hw⟩
          rw [List.take_succ_eq_append_getElem hlt, List.nodup_append]
          exact ⟨hnd, by simp, fun a ha b hb => by simp at hb; subst hb; exact fun e => hno (e ▸ ha)⟩
    · have hie : i = hs.length := by omega
      subst hie
      rw [List.take_length] at hnd
      have hli : ((hs.length : Int) < ((hs.length : Nat) : Int)) = False := eq_false (by omega)
      repeat' first | ((first | refine callP_false (.bool false) ?_ | refine aw_region rfl ?_ | refine aw_region_draw mixedF rfl (by kernel_rfl) ?_ | refine aE rfl ?_); simp only [go_sem, hli, caA]) | refine callG_y ?_ | refine callG_p ?_ | refine aw_seq ?_ | refine aw_block ?_ | refine aw_scope ?_ | (refine aw_cond rfl (fun h => ?_) (fun h => ?_) <;> try (exfalso; first | (simp at h; done) | (simp at h; omega))) | ((with_reducible refine And.intro ?_ ?_); focus (first | omega | (intros; simp_all; done) | (simp; omega)))
      refine aw_loopS (ι := Nat × Bool × Bool × AHeap) (fun x => [(0, .sl b1 (l.map ndA)), (2, .sl b2 (hs.map inA)), (4, .ref H.length 0 0), (7, .bool true), (10, .ref (H.length + 1) 0 0), (11, .int .i64 x.1)]) (fun x => x.2.2.2)
        (fun x => x.1 ≤ hs.length ∧ LH H x.2.2.2 (caA c).cells (thA x.2.1 x.2.2.1 x.2.2.1 (tw c 0 (hs.drop x.1) true false)).cells) (fun x => hs.length - x.1)
        (0, b2, true, _) ⟨Nat.zero_le _, ⟨_, rfl⟩, by simp only [go_sem]; rfl, by simp only [go_sem]; rfl⟩ ?_ rfl ?_
      · simp [go_sem]
      · rintro ⟨i, f, g, X⟩ ⟨hi, hX⟩
        simp only at hi hX ⊢
        obtain ⟨hpre, ra, rb⟩ := id hX
        by_cases hlt : i < hs.length
        · have hli : ((i : Int) < ((hs.length : Nat) : Int)) = True := eq_true (by omega)
          have hp := getD_map inA hlt
          have hd : hs.drop i = hs[i] :: hs.drop (i + 1) := List.drop_eq_getElem_cons hlt
          have hnd' : hs[i] ∉ hs.drop (i + 1) := by
            have h2 := List.Nodup.sublist (List.drop_sublist i hs) hnd
            rw [hd, List.nodup_cons] at h2
            exact h2.1
          have hself : ∀ x : Int, decide (x = x) = true := fun x => decide_eq_true rfl
          have hnx := next_c b1 f g g l (tw c 0 (hs.drop i) true false) (by simp only [tw, th0]; omega) (by simp only [tw, th0]; omega) (by omega)
          have haf := after_c f g g (tw c 0 (hs.drop i) true false) ⟨2, hs[i]⟩ ⟨by simp only [tw, th0]; omega, by simp only [tw, List.length_drop]; omega, by simp [tw, th0, an0], by simp [tw, th0, an0]⟩
          have hnt := fun L => hX.next (thA false false false (tw c 0 (hs.drop (i + 1)) true false)).cells L
          rw [hd, next_free] at hnx
          rw [hd, after_free c 0 hs[i] hnd'] at haf
          rw [hd] at rb
          have hw : IntKind.i64.wrap ((i : Int) + 1) = ((i + 1 : Nat) : Int) := by rw [wrap_i64 (by omega) (by omega)]; rfl
          obtain ⟨rest, hr⟩ : ∃ rest, hs.drop (i + 1) = rest := ⟨_, rfl⟩
          rw [hr] at haf rb hnt hnx
          simp only [thA, thF, tw, th0, an0, trA, AV.cells, caA, List.map_cons, List.map_nil, inA] at hnx haf ra rb hnt
          have ra2 := fun M => hget_appL ra trivial M
          have rb2 := fun M => hget_appL rb trivial M
          have rb3 := fun M b => hset_appL (hget_lt rb trivial) M b
          have ct0 := ct hnx callOk11F; have ct1 := ct haf callOk12F; repeat' first | ((first | refine cK (by assumption) ?_ | refine cP (by assumption) ?_ | refine cM (by assumption) ?_ | refine callP_false (.bool false) ?_ | refine aw_region rfl ?_ | refine aw_region_draw mixedF rfl (by kernel_rfl) ?_ | refine aE rfl ?_); simp only [go_sem, ra, rb, ra2, rb2, rb3, hli, hp, hself, inA, trA]) | refine callG_y ?_ | refine callG_p ?_ | refine aw_seq ?_ | refine aw_block ?_ | refine aw_scope ?_ | (refine aw_cond rfl (fun h => ?_) (fun h => ?_) <;> try (exfalso; first | (simp at h; done) | (simp at h; omega))) | ((with_reducible refine And.intro ?_ ?_); focus (first | omega | (intros; simp_all; done) | (simp; omega)))
          exact ⟨(i + 1, false, false, _), ⟨hlt, by simp only [hr]; exact hnt _⟩, by simp only; omega, congrArg _ hw, rfl⟩
        · have hie : i = hs.length := by omega
          subst hie
          rw [List.drop_length] at hX rb
          have hli : ((hs.length : Int) < ((hs.length : Nat) : Int)) = False := eq_false (by omega)
          have hnx := next_c b1 f g g l (tw c 0 [] true false) (by simp only [tw, th0]; omega) (by simp only [tw, th0]; omega) (by omega)
          by_cases hk : c.kind = 12
          · have e1 : nextT l (tw c 0 [] true false) = ⟨4, 0⟩ := by simp [nextT, tw, th0, hk]
            rw [e1] at hnx
            have hkd : decide (c.kind = 12) = true := decide_eq_true hk
            simp only [thA, thF, tw, th0, an0, trA, AV.cells, caA, List.map_nil] at hnx ra rb
            have ra2 := fun M => hget_appL ra trivial M
            have rb2 := fun M => hget_appL rb trivial M
            have ct0 := ct hnx callOk11F; repeat' first | ((first | refine cK (by assumption) ?_ | refine cP (by assumption) ?_ | refine cM (by assumption) ?_ | refine callP_false (.bool false) ?_ | refine aw_region rfl ?_ | refine aw_region_draw mixedF rfl (by kernel_rfl) ?_ | refine aE rfl ?_); simp only [go_sem, ra, rb, ra2, rb2, hli, hkd]) | refine callG_y ?_ | refine callG_p ?_ | refine aw_seq ?_ | refine aw_block ?_ | refine aw_scope ?_ | (refine aw_cond rfl (fun h => ?_) (fun h => ?_) <;> try (exfalso; first | (simp at h; done) | (simp at h; omega))) | ((with_reducible refine And.intro ?_ ?_); focus (first | omega | (intros; simp_all; done) | (simp; omega)))
            exact doneL hpre (by simp only [go_sem]) (.refl _)
          · have e1 : nextT l (tw c 0 [] true false) = ⟨5, 0⟩ := by simp [nextT, tw, th0, hk]
            rw [e1] at hnx
            have hkd : decide (c.kind = 12) = false := decide_eq_false hk
            simp only [thA, thF, tw, th0, an0, trA, AV.cells, caA, List.map_nil] at hnx ra rb
            have ra2 := fun M => hget_appL ra trivial M
            have rb2 := fun M => hget_appL rb trivial M
            have ct0 := ct hnx callOk11F; repeat' first | ((first | refine cK (by assumption) ?_ | refine cP (by assumption) ?_ | refine cM (by assumption) ?_ | refine callP_false (.bool false) ?_ | refine aw_region rfl ?_ | refine aw_region_draw mixedF rfl (by kernel_rfl) ?_ | refine aE rfl ?_); simp only [go_sem, ra, rb, ra2, rb2, hli, hkd]) | refine callG_y ?_ | refine callG_p ?_ | refine aw_seq ?_ | refine aw_block ?_ | refine aw_scope ?_ | (refine aw_cond rfl (fun h => ?_) (fun h => ?_) <;> try (exfalso; first | (simp at h; done) | (simp at h; omega))) | ((with_reducible refine And.intro ?_ ?_); focus (first | omega | (intros; simp_all; done) | (simp; omega)))
            exact doneL hpre (by simp only [go_sem]) (.refl _)

theorem pagain_c (b : Bool) (ops : List Opn) (c : Cal) (n : Int) (H : AHeap) : FnC Tryd.prog 4 [.sl b (ops.map opA), caA c, .int .u8 n] H (.bool true) := by
  refine fnC_ok3 fun _ _ hok => ?_
  have hn := ok_u8 hok
  refine fnC_of Tryd.func4 rfl (Nat.le_of_ble_eq_true rfl) ?_
  have hfew := few5_c b ops 60
  have hcal := few18_c true [c] 1
  simp only [List.map_cons, List.map_nil, caA] at hcal
  cases hA : fewOpn ops 60 with
  | false =>
    rw [hA] at hfew
    have ct0 := ct awake20_c callOk7F; have ct1 := ct hfew callOk8F; repeat' first | ((first | refine cK (by assumption) ?_ | refine cP (by assumption) ?_ | refine cM (by assumption) ?_ | refine callP_false (.bool false) ?_ | refine aw_region rfl ?_ | refine aw_region_draw mixedF rfl (by kernel_rfl) ?_ | refine aE rfl ?_); simp only [go_sem, caA]) | refine callG_y ?_ | refine callG_p ?_ | refine aw_seq ?_ | refine aw_block ?_ | refine aw_scope ?_ | (refine aw_cond rfl (fun h => ?_) (fun h => ?_) <;> try (exfalso; first | (simp at h; done) | (simp at h; omega))) | ((with_reducible refine And.intro ?_ ?_); focus (first | omega | (intros; simp_all; done) | (simp; omega)))
    exact done (by simp only [go_sem]) (.refl _)
  | true =>
  rw [hA] at hfew
  cases hB : fewCal [c] 1 with
  | false =>
    rw [hB] at hcal
    have ct0 := ct awake20_c callOk7F; have ct1 := ct hfew callOk8F; have ct2 := ct hcal callOk9F; repeat' first | ((first | refine cK (by assumption) ?_ | refine cP (by assumption) ?_ | refine cM (by assumption) ?_ | refine callP_false (.bool false) ?_ | refine aw_region rfl ?_ | refine aw_region_draw mixedF rfl (by kernel_rfl) ?_ | refine aE rfl ?_); simp only [go_sem, caA]) | refine callG_y ?_ | refine callG_p ?_ | refine aw_seq ?_ | refine aw_block ?_ | refine aw_scope ?_ | (refine aw_cond rfl (fun h => ?_) (fun h => ?_) <;> try (exfalso; first | (simp at h; done) | (simp at h; omega))) | ((with_reducible refine And.intro ?_ ?_); focus (first | omega | (intros; simp_all; done) | (simp; omega)))
    exact done (by simp only [go_sem]) (.refl _)
  | true =>
  rw [hB] at hcal
  obtain ⟨hS, hl⟩ := fewOpn_S hA
  obtain ⟨hc1, hc2, hc3⟩ := fewCal_one hB
  have hfold := fold_c b ops hS (by omega)
  have hlen : (foldL ops).length ≤ 1073741824 := by have := fold_len20 ops; omega
  have ct0 := ct awake20_c callOk7F; have ct1 := ct hfew callOk8F; have ct2 := ct hcal callOk9F; have ct3 := ct hfold callOk10F; repeat' first | ((first | refine cK (by assumption) ?_ | refine cP (by assumption) ?_ | refine cM (by assumption) ?_ | refine callP_false (.bool false) ?_ | refine aw_region rfl ?_ | refine aw_region_draw mixedF rfl (by kernel_rfl) ?_ | refine aE rfl ?_); simp only [go_sem, caA]) | refine callG_y ?_ | refine callG_p ?_ | refine aw_seq ?_ | refine aw_block ?_ | refine aw_scope ?_ | (refine aw_cond rfl (fun h => ?_) (fun h => ?_) <;> try (exfalso; first | (simp at h; done) | (simp at h; omega))) | ((with_reducible refine And.intro ?_ ?_); focus (first | omega | (intros; simp_all; done) | (simp; omega)))
  generalize foldL ops = l at *
  refine aw_cutB (ι := Thr × Bool × AHeap) (fun x => [(4, .ref H.length 0 0), (7, .bool true), (8, .sl false (l.map ndA)), (9, .ref (H.length + 1) 0 0)]) (fun x => x.2.2)
    (fun x => Young c x.1 ∧ x.1.has.length ≤ 1000 ∧ LH H x.2.2 (caA c).cells (thA x.2.1 x.2.1 x.2.1 x.1).cells) ?_ ?_
  · refine aw_loopS (ι := Nat × Thr × Bool × AHeap) (fun x => [(2, .int .u8 n), (4, .ref H.length 0 0), (7, .bool true), (8, .sl false (l.map ndA)), (9, .ref (H.length + 1) 0 0), (10, .int .i64 x.1)]) (fun x => x.2.2.2)
      (fun x => x.1 ≤ 40 ∧ Young c x.2.1 ∧ x.2.1.has.length ≤ x.1 ∧ LH H x.2.2.2 (caA c).cells (thA x.2.2.1 x.2.2.1 x.2.2.1 x.2.1).cells) (fun x => 40 - x.1)
      (0, th0 c, true, _) ⟨Nat.zero_le _, rfl, Nat.zero_le _, ⟨_, rfl⟩, by simp only [go_sem]; rfl, by simp only [go_sem]; rfl⟩ ?_ rfl ?_
    · simp [go_sem]
    · rintro ⟨k, t, f, X⟩ ⟨hk, hY, hh, hX⟩
      simp only at hk hY hh hX ⊢
      obtain ⟨hpre, ra, rb⟩ := id hX
      have hm : IntKind.i64.wrap (n.tmod 40) < 40 := by
        have := Int.tmod_lt_of_pos n (show (0 : Int) < 40 by omega)
        have := Int.tmod_nonneg 40 hn.1
        rw [wrap_i64 (by omega) (by omega)]; omega
      by_cases hlt : (k : Int) < IntKind.i64.wrap (n.tmod 40)
      · have hli : ((k : Int) < IntKind.i64.wrap (n.tmod 40)) = True := eq_true hlt
        have hcall : t.call = c := by rw [hY]; rfl
        have hans : t.ans = an0 := by rw [hY]; rfl
        have hTS : ThS t := ⟨by rw [hcall]; omega, by omega, by rw [hans]; simp [an0], by rw [hans]; simp [an0]⟩
        have hnx := next_c false f f f l t (by rw [hcall]; omega) (by rw [hcall]; omega) hlen
        have hw : IntKind.i64.wrap ((k : Int) + 1) = ((k + 1 : Nat) : Int) := by rw [wrap_i64 (by omega) (by omega)]; rfl
        have hal := hget_lt ra trivial
        have hbl := hget_lt rb trivial
        have haf := after_c f f f t (nextT l t) hTS
        by_cases h3 : (nextT l t).kind = 3
        · have hz : decide ((nextT l t).kind = 3) = true := decide_eq_true h3
          have hXa := hX.app
          generalize nextT l t = u at *
          simp only [thA, thF, trA, AV.cells, caA] at hnx ra rb
          have ra2 := fun M => hget_appL ra trivial M
          have rb2 := fun M => hget_appL rb trivial M
          have ct0 := ct hnx callOk11F; repeat' first | ((first | refine cK (by assumption) ?_ | refine cP (by assumption) ?_ | refine cM (by assumption) ?_ | refine callP_false (.bool false) ?_ | refine aw_region rfl ?_ | refine aw_region_draw mixedF rfl (by kernel_rfl) ?_ | refine aE rfl ?_); simp only [go_sem, ra, rb, ra2, rb2, hli, hz, trA]) | refine callG_y ?_ | refine callG_p ?_ | refine aw_seq ?_ | refine aw_block ?_ | refine aw_scope ?_ | (refine aw_cond rfl (fun h => ?_) (fun h => ?_) <;> try (exfalso; first | (simp at h; done) | (simp at h; omega))) | ((with_reducible refine And.intro ?_ ?_); focus (first | omega | (intros; simp_all; done) | (simp; omega)))
          exact ⟨(t, f, _), ⟨hY, by simp only; omega, hXa _⟩, rfl⟩
        · have hz : decide ((nextT l t).kind = 3) = false := decide_eq_false h3
          have hnt := fun L => hX.next (thA false false false (afterT t (nextT l t))).cells L
          have hY' := hY.next h3
          have hh' := (after_keep t (nextT l t)).2.2.2.2.2.2
          obtain ⟨u, hu⟩ : ∃ u, nextT l t = u := ⟨_, rfl⟩
          rw [hu] at hnx haf hz hnt hY' hh'
          obtain ⟨t', ht'⟩ : ∃ t', afterT t u = t' := ⟨_, rfl⟩
          rw [ht'] at haf hnt hY' hh'
          simp only [thA, thF, trA, AV.cells, caA] at hnx haf ra rb
          have ra2 := fun M => hget_appL ra trivial M
          have rb2 := fun M => hget_appL rb trivial M
          have rb3 := fun M b => hset_appL hbl M b
          have ct0 := ct hnx callOk11F; have ct1 := ct haf callOk12F; repeat' first | ((first | refine cK (by assumption) ?_ | refine cP (by assumption) ?_ | refine cM (by assumption) ?_ | refine callP_false (.bool false) ?_ | refine aw_region rfl ?_ | refine aw_region_draw mixedF rfl (by kernel_rfl) ?_ | refine aE rfl ?_); simp only [go_sem, ra, rb, ra2, rb2, rb3, hli, hz, trA]) | refine callG_y ?_ | refine callG_p ?_ | refine aw_seq ?_ | refine aw_block ?_ | refine aw_scope ?_ | (refine aw_cond rfl (fun h => ?_) (fun h => ?_) <;> try (exfalso; first | (simp at h; done) | (simp at h; omega))) | ((with_reducible refine And.intro ?_ ?_); focus (first | omega | (intros; simp_all; done) | (simp; omega)))
          exact ⟨(k + 1, t', false, _), ⟨by simp only; omega, hY', by simp only; omega, hnt _⟩, by simp only; omega, congrArg _ hw, rfl⟩
      · have hli : ((k : Int) < IntKind.i64.wrap (n.tmod 40)) = False := eq_false hlt
        repeat' first | ((first | refine callP_false (.bool false) ?_ | refine aw_region rfl ?_ | refine aw_region_draw mixedF rfl (by kernel_rfl) ?_ | refine aE rfl ?_); simp only [go_sem, hli]) | refine callG_y ?_ | refine callG_p ?_ | refine aw_seq ?_ | refine aw_block ?_ | refine aw_scope ?_ | (refine aw_cond rfl (fun h => ?_) (fun h => ?_) <;> try (exfalso; first | (simp at h; done) | (simp at h; omega))) | ((with_reducible refine And.intro ?_ ?_); focus (first | omega | (intros; simp_all; done) | (simp; omega)))
        exact ⟨(t, f, X), ⟨hY, by simp only; omega, hX⟩, rfl⟩
  · rintro ⟨t, f, X⟩ ⟨hY, hh, hX⟩
    simp only at hY hh hX ⊢
    obtain ⟨hpre, ra, rb⟩ := id hX
    have hcall : t.call = c := by rw [hY]; rfl
    have hans : t.ans = an0 := by rw [hY]; rfl
    have hag := again_c f f f t ⟨by rw [hcall]; omega, by omega, by rw [hans]; simp [an0], by rw [hans]; simp [an0]⟩
    rw [again_of hY] at hag
    have hag2 := again_c false false false (th0 c) ⟨by simp only [th0]; omega, by simp [th0], by simp [th0, an0], by simp [th0, an0]⟩
    have e0 : againT (th0 c) = th0 c := rfl
    rw [e0] at hag2
    have hsm := same20_c false false false true true true (th0 c) (th0 c)
    have hsm2 := same20_c false false false false false false (th0 c) (th0 c)
    rw [decide_eq_true rfl] at hsm hsm2
    have hn1 := next_c false false false false l (th0 c) (by simp only [th0]; omega) (by simp only [th0]; omega) hlen
    have hn2 := next_c false true true true l (th0 c) (by simp only [th0]; omega) (by simp only [th0]; omega) hlen
    generalize nextT l (th0 c) = u at *
    have hself : ∀ x : Int, decide (x = x) = true := fun x => decide_eq_true rfl
    simp only [thA, thF, th0, an0, trA, AV.cells, caA, List.map_nil] at hag hag2 hsm hsm2 hn1 hn2 ra rb
    have ra2 := fun M => hget_appL ra trivial M
    have rb2 := fun M => hget_appL rb trivial M
    have ct0 := ct hag callOk13F; have ct1 := ct hag2 callOk13F; have ct2 := ct hsm callOk14F; have ct3 := ct hsm2 callOk14F; have ct4 := ct hn1 callOk11F; have ct5 := ct hn2 callOk11F; repeat' first | ((first | refine cK (by assumption) ?_ | refine cP (by assumption) ?_ | refine cM (by assumption) ?_ | refine callP_false (.bool false) ?_ | refine aw_region rfl ?_ | refine aw_region_draw mixedF rfl (by kernel_rfl) ?_ | refine aE rfl ?_); simp only [go_sem, ra, rb, ra2, rb2, hself]) | refine callG_y ?_ | refine callG_p ?_ | refine aw_seq ?_ | refine aw_block ?_ | refine aw_scope ?_ | (refine aw_cond rfl (fun h => ?_) (fun h => ?_) <;> try (exfalso; first | (simp at h; done) | (simp at h; omega))) | ((with_reducible refine And.intro ?_ ?_); focus (first | omega | (intros; simp_all; done) | (simp; omega)))
    exact doneL hpre (by simp only [go_sem]) (.refl _)
end Go.Proofs.YtmknmapgfjmioaaDoor
/- PlanAlone and PlanHolds, walked. No condition. -/
namespace Go.Gw
open Go Go.Aw Go.Proofs.YtmknmapgfjmioaaDoor
theorem Runs.inv {G : Thr → Prop} {l : List Nd} {t t' : Thr} {n d : Nat} (h : Runs G l t n d t') : (n = 0 ∧ d = 0 ∧ t' = t) ∨ ∃ m e, n = m + 1 ∧ d = (if (nextT l t).kind = 3 then 1 else 0) + e ∧ G t ∧ Runs G l (afterT t (nextT l t)) m e t' := by
  cases h with
  | nil => exact .inl ⟨rfl, rfl, rfl⟩
  | cons h r => exact .inr ⟨_, _, rfl, rfl, h, r⟩
theorem two_of {l : List Int} (h : l.length = 2) : ∃ a b, l = [a, b] := by
  match l, h with
  | [a, b], _ => exact ⟨a, b, rfl⟩
theorem any_take {l : List Int} {k : Nat} (h : k < l.length) (x : Int) : ((l.take (k + 1)).any fun y => decide (y = x)) = ((l.take k).any (fun y => decide (y = x)) || decide (l[k] = x)) := by
  rw [List.take_succ_eq_append_getElem h, List.any_append]; simp
/-- What a loop over a thread's turns keeps of it. -/
structure Few20 (c : Cal) (t : Thr) (k : Nat) : Prop where
  call : t.call = c
  has : t.has.length ≤ k
  ans : t.ans = an0
theorem Few20.next {c : Cal} {t : Thr} {k : Nat} (h : Few20 c t k) (u : Trn) : Few20 c (afterT t u) (k + 1) := by
  obtain ⟨a1, -, -, -, -, a6, a7⟩ := after_keep t u
  exact ⟨a1.trans h.call, by have := h.has; omega, a6.trans h.ans⟩
theorem Few20.S {c : Cal} {t : Thr} {k : Nat} (h : Few20 c t k) (hc : c.path.length ≤ 1000) (hk : k ≤ 1000) : ThS t := by
  refine ⟨by rw [h.call]; omega, by have := h.has; omega, by rw [h.ans]; simp [an0], by rw [h.ans]; simp [an0]⟩
end Go.Gw
namespace Go.Proofs.YtmknmapgfjmioaaDoor
open Go Go.Aw Go.Gw
set_option linter.unusedSimpArgs false
set_option linter.unusedVariables false
set_option maxRecDepth 20000
set_option maxHeartbeats 8000000

theorem palone_c (b : Bool) (ops : List Opn) (c : Cal) (H : AHeap) : FnC Tryd.prog 3 [.sl b (ops.map opA), caA c] H (.bool true) := by
  refine fnC_of Tryd.func3 rfl (Nat.le_of_ble_eq_true rfl) ?_
  have hfew := few5_c b ops 60
  have hcal := few18_c true [c] 1
  simp only [List.map_cons, List.map_nil, caA] at hcal
  cases hA : fewOpn ops 60 with
  | false =>
    rw [hA] at hfew
    have ct0 := ct awake20_c callOk7F; have ct1 := ct hfew callOk8F; repeat' first | ((first | refine cK (by assumption) ?_ | refine cP (by assumption) ?_ | refine cM (by assumption) ?_ | refine callP_false (.bool false) ?_ | refine aw_region rfl ?_ | refine aw_region_draw mixedF rfl (by kernel_rfl) ?_ | refine aE rfl ?_); simp only [go_sem, caA]) | refine callG_y ?_ | refine callG_p ?_ | refine aw_seq ?_ | refine aw_block ?_ | refine aw_scope ?_ | (refine aw_cond rfl (fun h => ?_) (fun h => ?_) <;> try (exfalso; first | (simp at h; done) | (simp at h; omega))) | ((with_reducible refine And.intro ?_ ?_); focus (first | omega | (intros; simp_all; done) | (simp; omega)))
    exact done (by simp only [go_sem]) (.refl _)
  | true =>
    rw [hA] at hfew
    cases hB : fewCal [c] 1 with
    | false =>
      rw [hB] at hcal
      have ct0 := ct awake20_c callOk7F; have ct1 := ct hfew callOk8F; have ct2 := ct hcal callOk9F; repeat' first | ((first | refine cK (by assumption) ?_ | refine cP (by assumption) ?_ | refine cM (by assumption) ?_ | refine callP_false (.bool false) ?_ | refine aw_region rfl ?_ | refine aw_region_draw mixedF rfl (by kernel_rfl) ?_ | refine aE rfl ?_); simp only [go_sem, caA]) | refine callG_y ?_ | refine callG_p ?_ | refine aw_seq ?_ | refine aw_block ?_ | refine aw_scope ?_ | (refine aw_cond rfl (fun h => ?_) (fun h => ?_) <;> try (exfalso; first | (simp at h; done) | (simp at h; omega))) | ((with_reducible refine And.intro ?_ ?_); focus (first | omega | (intros; simp_all; done) | (simp; omega)))
      exact done (by simp only [go_sem]) (.refl _)
    | true =>
      rw [hB] at hcal
      obtain ⟨hS, hl⟩ := fewOpn_S hA
      obtain ⟨hc1, hc2, hc3⟩ := fewCal_one hB
      have hfold := fold_c b ops hS (by omega)
      obtain ⟨N, tE, hN, hR, hstop, e1, e2, e3⟩ := alone (frs_fold ops) c
      have hlen : (foldL ops).length ≤ 1073741824 := by have := fold_len20 ops; omega
      have ct0 := ct awake20_c callOk7F; have ct1 := ct hfew callOk8F; have ct2 := ct hcal callOk9F; have ct3 := ct hfold callOk10F; repeat' first | ((first | refine cK (by assumption) ?_ | refine cP (by assumption) ?_ | refine cM (by assumption) ?_ | refine callP_false (.bool false) ?_ | refine aw_region rfl ?_ | refine aw_region_draw mixedF rfl (by kernel_rfl) ?_ | refine aE rfl ?_); simp only [go_sem, caA]) | refine callG_y ?_ | refine callG_p ?_ | refine aw_seq ?_ | refine aw_block ?_ | refine aw_scope ?_ | (refine aw_cond rfl (fun h => ?_) (fun h => ?_) <;> try (exfalso; first | (simp at h; done) | (simp at h; omega))) | ((with_reducible refine And.intro ?_ ?_); focus (first | omega | (intros; simp_all; done) | (simp; omega)))
      generalize foldL ops = l at *
      refine aw_loopS (ι := (Thr × Nat × Nat × Nat × Nat) × Bool × AHeap) (fun x => [(3, .ref H.length 0 0), (5, .bool true), (6, .sl false (l.map ndA)), (7, .ref (H.length + 1) 0 0), (8, .int .i64 x.1.2.2.1), (9, .int .i64 x.1.2.1)]) (fun x => x.2.2)
        (fun x => Runs (goodA l) l x.1.1 x.1.2.2.2.1 x.1.2.2.2.2 tE ∧ x.1.2.1 + x.1.2.2.2.1 = N ∧ x.1.2.2.1 + x.1.2.2.2.2 = 1 ∧ Few20 c x.1.1 x.1.2.1 ∧ LH H x.2.2 (caA c).cells (thA x.2.1 x.2.1 x.2.1 x.1.1).cells) (fun x => x.1.2.2.2.1)
        ((th0 c, 0, 0, N, 1), true, _) ⟨hR, by simp, by simp, ⟨rfl, Nat.zero_le _, rfl⟩, ⟨_, rfl⟩, by simp only [go_sem]; rfl, by simp only [go_sem]; rfl⟩ ?_ rfl ?_
      · simp [go_sem]
      · rintro ⟨⟨t, k, dn, n, d⟩, f, X⟩ ⟨hr, hk, hd, hF, hX⟩
        simp only at hr hk hd hF hX ⊢
        obtain ⟨hpre, ra, rb⟩ := id hX
        have hTS := hF.S hc1 (by omega)
        have hnx := next_c false f f f l t (by rw [hF.call]; omega) (by rw [hF.call]; omega) hlen
        have haf := after_c f f f t (nextT l t) hTS
        have hnt := fun L => hX.next (thA false false false (afterT t (nextT l t))).cells L
        have hF' := hF.next (nextT l t)
        have hli : ((k : Int) < 60) = True := eq_true (by omega)
        have hw : IntKind.i64.wrap ((k : Int) + 1) = ((k + 1 : Nat) : Int) := by rw [wrap_i64 (by omega) (by omega)]; rfl
        have hal := hget_lt ra trivial
        have hbl := hget_lt rb trivial
        rcases hr.inv with ⟨rfl, rfl, rfl⟩ | ⟨n', d', rfl, rfl, hg, hr⟩
        · generalize nextT l tE = u at *
          obtain rfl : k = N := by omega
          obtain rfl : dn = 1 := by omega
          have hl45 : ((k : Int) ≤ 45) = True := eq_true (by omega)
          have e3' : tE.ended = !decide (c.kind = 12) := e3
          have hu0 : decide (u.kind = 4) = true ∨ decide (u.kind = 4) = false ∧ decide (u.kind = 0) = true := by
            rcases hstop with h | h
            · exact .inl (decide_eq_true h)
            · exact .inr ⟨decide_eq_false (by omega), decide_eq_true h⟩
          by_cases hk12 : c.kind = 12
          · have zk : decide (c.kind = 12) = true := decide_eq_true hk12
            rw [zk] at e3'
            simp only [thA, thF, trA, AV.cells, caA, e1, e2, e3', List.map_nil, Bool.not_true] at hnx ra rb
            have ra2 := fun M => hget_appL ra trivial M
            have rb2 := fun M => hget_appL rb trivial M
            rcases hu0 with h4 | ⟨h4, h0⟩
            · have ct0 := ct hnx callOk11F; repeat' first | ((first | refine cK (by assumption) ?_ | refine cP (by assumption) ?_ | refine cM (by assumption) ?_ | refine callP_false (.bool false) ?_ | refine aw_region rfl ?_ | refine aw_region_draw mixedF rfl (by kernel_rfl) ?_ | refine aE rfl ?_); simp only [go_sem, ra, rb, ra2, rb2, hli, hl45, h4, zk, trA]) | refine callG_y ?_ | refine callG_p ?_ | refine aw_seq ?_ | refine aw_block ?_ | refine aw_scope ?_ | (refine aw_cond rfl (fun h => ?_) (fun h => ?_) <;> try (exfalso; first | (simp at h; done) | (simp at h; omega))) | ((with_reducible refine And.intro ?_ ?_); focus (first | omega | (intros; simp_all; done) | (simp; omega)))
              exact doneL hpre (by simp only [go_sem]) (.refl _)
            · have ct0 := ct hnx callOk11F; repeat' first | ((first | refine cK (by assumption) ?_ | refine cP (by assumption) ?_ | refine cM (by assumption) ?_ | refine callP_false (.bool false) ?_ | refine aw_region rfl ?_ | refine aw_region_draw mixedF rfl (by kernel_rfl) ?_ | refine aE rfl ?_); simp only [go_sem, ra, rb, ra2, rb2, hli, hl45, h4, h0, zk, trA]) | refine callG_y ?_ | refine callG_p ?_ | refine aw_seq ?_ | refine aw_block ?_ | refine aw_scope ?_ | (refine aw_cond rfl (fun h => ?_) (fun h => ?_) <;> try (exfalso; first | (simp at h; done) | (simp at h; omega))) | ((with_reducible refine And.intro ?_ ?_); focus (first | omega | (intros; simp_all; done) | (simp; omega)))
              exact doneL hpre (by simp only [go_sem]) (.refl _)
          · have zk : decide (c.kind = 12) = false := decide_eq_false hk12
            rw [zk] at e3'
            simp only [thA, thF, trA, AV.cells, caA, e1, e2, e3', List.map_nil, Bool.not_false] at hnx ra rb
            have ra2 := fun M => hget_appL ra trivial M
            have rb2 := fun M => hget_appL rb trivial M
            rcases hu0 with h4 | ⟨h4, h0⟩
            · have ct0 := ct hnx callOk11F; repeat' first | ((first | refine cK (by assumption) ?_ | refine cP (by assumption) ?_ | refine cM (by assumption) ?_ | refine callP_false (.bool false) ?_ | refine aw_region rfl ?_ | refine aw_region_draw mixedF rfl (by kernel_rfl) ?_ | refine aE rfl ?_); simp only [go_sem, ra, rb, ra2, rb2, hli, hl45, h4, zk, trA]) | refine callG_y ?_ | refine callG_p ?_ | refine aw_seq ?_ | refine aw_block ?_ | refine aw_scope ?_ | (refine aw_cond rfl (fun h => ?_) (fun h => ?_) <;> try (exfalso; first | (simp at h; done) | (simp at h; omega))) | ((with_reducible refine And.intro ?_ ?_); focus (first | omega | (intros; simp_all; done) | (simp; omega)))
              exact doneL hpre (by simp only [go_sem]) (.refl _)
            · have ct0 := ct hnx callOk11F; repeat' first | ((first | refine cK (by assumption) ?_ | refine cP (by assumption) ?_ | refine cM (by assumption) ?_ | refine callP_false (.bool false) ?_ | refine aw_region rfl ?_ | refine aw_region_draw mixedF rfl (by kernel_rfl) ?_ | refine aE rfl ?_); simp only [go_sem, ra, rb, ra2, rb2, hli, hl45, h4, h0, zk, trA]) | refine callG_y ?_ | refine callG_p ?_ | refine aw_seq ?_ | refine aw_block ?_ | refine aw_scope ?_ | (refine aw_cond rfl (fun h => ?_) (fun h => ?_) <;> try (exfalso; first | (simp at h; done) | (simp at h; omega))) | ((with_reducible refine And.intro ?_ ?_); focus (first | omega | (intros; simp_all; done) | (simp; omega)))
              exact doneL hpre (by simp only [go_sem]) (.refl _)
        · obtain ⟨g4, g0, g1, g2⟩ := hg
          have hz4 : decide ((nextT l t).kind = 4) = false := decide_eq_false g4
          have hz0 : decide ((nextT l t).kind = 0) = false := decide_eq_false g0
          generalize n' = n at *
          generalize d' = d at *
          obtain ⟨u, hu⟩ : ∃ u, nextT l t = u := ⟨_, rfl⟩
          rw [hu] at hnx haf hnt hF' hz4 hz0 g1 g2 hr hd
          obtain ⟨t', ht'⟩ : ∃ t', afterT t u = t' := ⟨_, rfl⟩
          rw [ht'] at haf hnt hF' hr
          simp only [thA, thF, trA, AV.cells, caA] at hnx haf ra rb
          have ra2 := fun M => hget_appL ra trivial M
          have rb2 := fun M => hget_appL rb trivial M
          have rb3 := fun M b => hset_appL hbl M b
          have hTl := hTS.2.1
          have ct0 := ct hnx callOk11F; repeat' first | ((first | refine cK (by assumption) ?_ | refine cP (by assumption) ?_ | refine cM (by assumption) ?_ | refine callP_false (.bool false) ?_ | refine aw_region rfl ?_ | refine aw_region_draw mixedF rfl (by kernel_rfl) ?_ | refine aE rfl ?_); simp only [go_sem, ra, rb, ra2, rb2, hli, hz4, hz0, trA]) | refine callG_y ?_ | refine callG_p ?_ | refine aw_seq ?_ | refine aw_block ?_ | refine aw_scope ?_ | (refine aw_cond rfl (fun h => ?_) (fun h => ?_) <;> try (exfalso; first | (simp at h; done) | (simp at h; omega))) | ((with_reducible refine And.intro ?_ ?_); focus (first | omega | (intros; simp_all; done) | (simp; omega)))
          refine aw_loopS (ι := Nat) (fun j => [(3, .ref H.length 0 0), (5, .bool true), (6, .sl false (l.map ndA)), (7, .ref (H.length + 1) 0 0), (8, .int .i64 dn), (9, .int .i64 k), (10, .ref X.length 0 0), (11, .bool ((t.has.take j).any fun y => decide (y = u.lock))), (12, .int .i64 j)])
            (fun _ => X ++ [.cells 0 [.int .i64 u.kind, .int .i64 u.lock]]) (fun j => j ≤ t.has.length) (fun j => t.has.length - j) 0 (Nat.zero_le _) ?_ rfl ?_
          · simp [go_sem]
          · rintro j hj
            by_cases hlt : j < t.has.length
            · have hlj : ((j : Int) < ((t.has.length : Nat) : Int)) = True := eq_true (by omega)
              have hp := getD_map inA hlt
              have hwj : IntKind.i64.wrap ((j : Int) + 1) = ((j + 1 : Nat) : Int) := by rw [wrap_i64 (by omega) (by omega)]; rfl
              have hst := any_take hlt u.lock
              generalize (t.has.take j).any (fun y => decide (y = u.lock)) = i at *
              cases i with
              | true =>
                repeat' first | ((first | refine callP_false (.bool false) ?_ | refine aw_region rfl ?_ | refine aw_region_draw mixedF rfl (by kernel_rfl) ?_ | refine aE rfl ?_); simp only [go_sem, ra, rb, ra2, rb2, hlj, hp, inA]) | refine callG_y ?_ | refine callG_p ?_ | refine aw_seq ?_ | refine aw_block ?_ | refine aw_scope ?_ | (refine aw_cond rfl (fun h => ?_) (fun h => ?_) <;> try (exfalso; first | (simp at h; done) | (simp at h; omega))) | ((with_reducible refine And.intro ?_ ?_); focus (first | omega | (intros; simp_all; done) | (simp; omega)))
                exact ⟨j + 1, hlt, by omega, by rw [hst, Bool.true_or], congrArg _ hwj⟩
              | false =>
                repeat' first | ((first | refine callP_false (.bool false) ?_ | refine aw_region rfl ?_ | refine aw_region_draw mixedF rfl (by kernel_rfl) ?_ | refine aE rfl ?_); simp only [go_sem, ra, rb, ra2, rb2, hlj, hp, inA]) | refine callG_y ?_ | refine callG_p ?_ | refine aw_seq ?_ | refine aw_block ?_ | refine aw_scope ?_ | (refine aw_cond rfl (fun h => ?_) (fun h => ?_) <;> try (exfalso; first | (simp at h; done) | (simp at h; omega))) | ((with_reducible refine And.intro ?_ ?_); focus (first | omega | (intros; simp_all; done) | (simp; omega)))
                exact ⟨j + 1, hlt, by omega, by rw [hst, Bool.false_or], congrArg _ hwj⟩
            · have hje : j = t.has.length := by omega
              subst hje
              have hlj : ((t.has.length : Int) < ((t.has.length : Nat) : Int)) = False := eq_false (by omega)
              rw [List.take_length]
              have hany := any_has t.has u.lock
              rw [hany]
              by_cases h1 : u.kind = 1
              · rw [g1 h1]
                have z1 : decide (u.kind = 1) = true := decide_eq_true h1
                have z2 : decide (u.kind = 2) = false := decide_eq_false (by omega)
                have z3 : decide (u.kind = 3) = false := decide_eq_false (by omega)
                rw [if_neg (by omega)] at hd
                have ct0 := ct haf callOk12F; repeat' first | ((first | refine cK (by assumption) ?_ | refine cP (by assumption) ?_ | refine cM (by assumption) ?_ | refine callP_false (.bool false) ?_ | refine aw_region rfl ?_ | refine aw_region_draw mixedF rfl (by kernel_rfl) ?_ | refine aE rfl ?_); simp only [go_sem, ra, rb, ra2, rb2, rb3, hlj, z1, z2, z3, trA]) | refine callG_y ?_ | refine callG_p ?_ | refine aw_seq ?_ | refine aw_block ?_ | refine aw_scope ?_ | (refine aw_cond rfl (fun h => ?_) (fun h => ?_) <;> try (exfalso; first | (simp at h; done) | (simp at h; omega))) | ((with_reducible refine And.intro ?_ ?_); focus (first | omega | (intros; simp_all; done) | (simp; omega)))
                exact ⟨((t', k + 1, dn, n, d), false, _), ⟨hr, by simp only; omega, by simp only; omega, hF', hnt _⟩, by simp only; omega, ⟨rfl, congrArg _ hw⟩, rfl⟩
              · have z1 : decide (u.kind = 1) = false := decide_eq_false h1
                by_cases h2 : u.kind = 2
                · rw [g2 h2]
                  have z2 : decide (u.kind = 2) = true := decide_eq_true h2
                  have z3 : decide (u.kind = 3) = false := decide_eq_false (by omega)
                  rw [if_neg (by omega)] at hd
                  have ct0 := ct haf callOk12F; repeat' first | ((first | refine cK (by assumption) ?_ | refine cP (by assumption) ?_ | refine cM (by assumption) ?_ | refine callP_false (.bool false) ?_ | refine aw_region rfl ?_ | refine aw_region_draw mixedF rfl (by kernel_rfl) ?_ | refine aE rfl ?_); simp only [go_sem, ra, rb, ra2, rb2, rb3, hlj, z1, z2, z3, trA]) | refine callG_y ?_ | refine callG_p ?_ | refine aw_seq ?_ | refine aw_block ?_ | refine aw_scope ?_ | (refine aw_cond rfl (fun h => ?_) (fun h => ?_) <;> try (exfalso; first | (simp at h; done) | (simp at h; omega))) | ((with_reducible refine And.intro ?_ ?_); focus (first | omega | (intros; simp_all; done) | (simp; omega)))
                  exact ⟨((t', k + 1, dn, n, d), false, _), ⟨hr, by simp only; omega, by simp only; omega, hF', hnt _⟩, by simp only; omega, ⟨rfl, congrArg _ hw⟩, rfl⟩
                · have z2 : decide (u.kind = 2) = false := decide_eq_false h2
                  by_cases h3 : u.kind = 3
                  · have z3 : decide (u.kind = 3) = true := decide_eq_true h3
                    have hwd : IntKind.i64.wrap ((dn : Int) + 1) = ((dn + 1 : Nat) : Int) := by rw [wrap_i64 (by omega) (by omega)]; rfl
                    rw [if_pos h3] at hd
                    have ct0 := ct haf callOk12F; repeat' first | ((first | refine cK (by assumption) ?_ | refine cP (by assumption) ?_ | refine cM (by assumption) ?_ | refine callP_false (.bool false) ?_ | refine aw_region rfl ?_ | refine aw_region_draw mixedF rfl (by kernel_rfl) ?_ | refine aE rfl ?_); simp only [go_sem, ra, rb, ra2, rb2, rb3, hlj, z1, z2, z3, trA]) | refine callG_y ?_ | refine callG_p ?_ | refine aw_seq ?_ | refine aw_block ?_ | refine aw_scope ?_ | (refine aw_cond rfl (fun h => ?_) (fun h => ?_) <;> try (exfalso; first | (simp at h; done) | (simp at h; omega))) | ((with_reducible refine And.intro ?_ ?_); focus (first | omega | (intros; simp_all; done) | (simp; omega)))
                    exact ⟨((t', k + 1, dn + 1, n, d), false, _), ⟨hr, by simp only; omega, by simp only; omega, hF', hnt _⟩, by simp only; omega, ⟨congrArg _ hwd, congrArg _ hw⟩, rfl⟩
                  · have z3 : decide (u.kind = 3) = false := decide_eq_false h3
                    rw [if_neg h3] at hd
                    have ct0 := ct haf callOk12F; repeat' first | ((first | refine cK (by assumption) ?_ | refine cP (by assumption) ?_ | refine cM (by assumption) ?_ | refine callP_false (.bool false) ?_ | refine aw_region rfl ?_ | refine aw_region_draw mixedF rfl (by kernel_rfl) ?_ | refine aE rfl ?_); simp only [go_sem, ra, rb, ra2, rb2, rb3, hlj, z1, z2, z3, trA]) | refine callG_y ?_ | refine callG_p ?_ | refine aw_seq ?_ | refine aw_block ?_ | refine aw_scope ?_ | (refine aw_cond rfl (fun h => ?_) (fun h => ?_) <;> try (exfalso; first | (simp at h; done) | (simp at h; omega))) | ((with_reducible refine And.intro ?_ ?_); focus (first | omega | (intros; simp_all; done) | (simp; omega)))
                    exact ⟨((t', k + 1, dn, n, d), false, _), ⟨hr, by simp only; omega, by simp only; omega, hF', hnt _⟩, by simp only; omega, ⟨rfl, congrArg _ hw⟩, rfl⟩

theorem pholds_c (b : Bool) (ops : List Opn) (c : Cal) (hcp : c.path.length ≤ 1048576) (H : AHeap) : FnC Tryd.prog 6 [.sl b (ops.map opA), caA c] H (.bool true) := by
  refine fnC_of Tryd.func6 rfl (Nat.le_of_ble_eq_true rfl) ?_
  have hfew := few5_c b ops 60
  have hcal := few18_c true [c] 1
  have hnm := pnames_c c hcp
  simp only [List.map_cons, List.map_nil, caA] at hcal hnm
  by_cases hw : turnsK c = false ∧ walksK c = true
  case neg =>
    rw [if_neg hw] at hnm
    cases hA : fewOpn ops 60 with
    | false =>
      rw [hA] at hfew
      have ct0 := ct awake20_c callOk7F; have ct1 := ct hfew callOk8F; have ct2 := ct hnm callOk16F; repeat' first | ((first | refine cK (by assumption) ?_ | refine cP (by assumption) ?_ | refine cM (by assumption) ?_ | refine callP_false (.bool false) ?_ | refine aw_region rfl ?_ | refine aw_region_draw mixedF rfl (by kernel_rfl) ?_ | refine aE rfl ?_); simp only [go_sem, caA]) | refine callG_y ?_ | refine callG_p ?_ | refine aw_seq ?_ | refine aw_block ?_ | refine aw_scope ?_ | (refine aw_cond rfl (fun h => ?_) (fun h => ?_) <;> try (exfalso; first | (simp at h; done) | (simp at h; omega))) | ((with_reducible refine And.intro ?_ ?_); focus (first | omega | (intros; simp_all; done) | (simp; omega)))
      exact done (by simp only [go_sem]) (.refl _)
    | true =>
      rw [hA] at hfew
      cases hB : fewCal [c] 1 with
      | false =>
        rw [hB] at hcal
        have ct0 := ct awake20_c callOk7F; have ct1 := ct hfew callOk8F; have ct2 := ct hcal callOk9F; have ct3 := ct hnm callOk16F; repeat' first | ((first | refine cK (by assumption) ?_ | refine cP (by assumption) ?_ | refine cM (by assumption) ?_ | refine callP_false (.bool false) ?_ | refine aw_region rfl ?_ | refine aw_region_draw mixedF rfl (by kernel_rfl) ?_ | refine aE rfl ?_); simp only [go_sem, caA]) | refine callG_y ?_ | refine callG_p ?_ | refine aw_seq ?_ | refine aw_block ?_ | refine aw_scope ?_ | (refine aw_cond rfl (fun h => ?_) (fun h => ?_) <;> try (exfalso; first | (simp at h; done) | (simp at h; omega))) | ((with_reducible refine And.intro ?_ ?_); focus (first | omega | (intros; simp_all; done) | (simp; omega)))
        exact done (by simp only [go_sem]) (.refl _)
      | true =>
        rw [hB] at hcal
        have ct0 := ct awake20_c callOk7F; have ct1 := ct hfew callOk8F; have ct2 := ct hcal callOk9F; have ct3 := ct hnm callOk16F; repeat' first | ((first | refine cK (by assumption) ?_ | refine cP (by assumption) ?_ | refine cM (by assumption) ?_ | refine callP_false (.bool false) ?_ | refine aw_region rfl ?_ | refine aw_region_draw mixedF rfl (by kernel_rfl) ?_ | refine aE rfl ?_); simp only [go_sem, caA]) | refine callG_y ?_ | refine callG_p ?_ | refine aw_seq ?_ | refine aw_block ?_ | refine aw_scope ?_ | (refine aw_cond rfl (fun h => ?_) (fun h => ?_) <;> try (exfalso; first | (simp at h; done) | (simp at h; omega))) | ((with_reducible refine And.intro ?_ ?_); focus (first | omega | (intros; simp_all; done) | (simp; omega)))
        exact done (by simp only [go_sem]) (.refl _)
  case pos =>
  rw [if_pos hw] at hnm
  cases hA : fewOpn ops 60 with
  | false =>
    rw [hA] at hfew
    have ct0 := ct awake20_c callOk7F; have ct1 := ct hfew callOk8F; have ct2 := ct hnm callOk16F; repeat' first | ((first | refine cK (by assumption) ?_ | refine cP (by assumption) ?_ | refine cM (by assumption) ?_ | refine callP_false (.bool false) ?_ | refine aw_region rfl ?_ | refine aw_region_draw mixedF rfl (by kernel_rfl) ?_ | refine aE rfl ?_); simp only [go_sem, caA]) | refine callG_y ?_ | refine callG_p ?_ | refine aw_seq ?_ | refine aw_block ?_ | refine aw_scope ?_ | (refine aw_cond rfl (fun h => ?_) (fun h => ?_) <;> try (exfalso; first | (simp at h; done) | (simp at h; omega))) | ((with_reducible refine And.intro ?_ ?_); focus (first | omega | (intros; simp_all; done) | (simp; omega)))
    exact done (by simp only [go_sem]) (.refl _)
  | true =>
  rw [hA] at hfew
  cases hB : fewCal [c] 1 with
  | false =>
    rw [hB] at hcal
    have ct0 := ct awake20_c callOk7F; have ct1 := ct hfew callOk8F; have ct2 := ct hcal callOk9F; have ct3 := ct hnm callOk16F; repeat' first | ((first | refine cK (by assumption) ?_ | refine cP (by assumption) ?_ | refine cM (by assumption) ?_ | refine callP_false (.bool false) ?_ | refine aw_region rfl ?_ | refine aw_region_draw mixedF rfl (by kernel_rfl) ?_ | refine aE rfl ?_); simp only [go_sem, caA]) | refine callG_y ?_ | refine callG_p ?_ | refine aw_seq ?_ | refine aw_block ?_ | refine aw_scope ?_ | (refine aw_cond rfl (fun h => ?_) (fun h => ?_) <;> try (exfalso; first | (simp at h; done) | (simp at h; omega))) | ((with_reducible refine And.intro ?_ ?_); focus (first | omega | (intros; simp_all; done) | (simp; omega)))
    exact done (by simp only [go_sem]) (.refl _)
  | true =>
  rw [hB] at hcal
  obtain ⟨hS, hl⟩ := fewOpn_S hA
  obtain ⟨hc1, hc2, hc3⟩ := fewCal_one hB
  have hfold := fold_c b ops hS (by omega)
  have hlen : (foldL ops).length ≤ 1073741824 := by have := fold_len20 ops; omega
  have hfd := vfind_c false false (foldL ops) (wnames c) hlen
  obtain ⟨N, dE, tE, hN, hR, hdone⟩ := alone_walk (frs_fold ops) hw.1 hw.2
  obtain ⟨⟨fd, fe⟩, hfe⟩ : ∃ r, findN (foldL ops) (wnames c) = r := ⟨_, rfl⟩
  rw [hfe] at hfd
  simp only [findV] at hfd
  have ct0 := ct awake20_c callOk7F; have ct1 := ct hfew callOk8F; have ct2 := ct hcal callOk9F; have ct3 := ct hnm callOk16F; have ct4 := ct hfold callOk10F; have ct5 := ct hfd callOk17F; repeat' first | ((first | refine cK (by assumption) ?_ | refine cP (by assumption) ?_ | refine cM (by assumption) ?_ | refine callP_false (.bool false) ?_ | refine aw_region rfl ?_ | refine aw_region_draw mixedF rfl (by kernel_rfl) ?_ | refine aE rfl ?_); simp only [go_sem, caA]) | refine callG_y ?_ | refine callG_p ?_ | refine aw_seq ?_ | refine aw_block ?_ | refine aw_scope ?_ | (refine aw_cond rfl (fun h => ?_) (fun h => ?_) <;> try (exfalso; first | (simp at h; done) | (simp at h; omega))) | ((with_reducible refine And.intro ?_ ?_); focus (first | omega | (intros; simp_all; done) | (simp; omega)))
  generalize foldL ops = l at *
  refine aw_loopS (ι := (Thr × Nat × Nat × Nat) × Bool × AHeap) (fun x => [(3, .ref H.length 0 0), (5, .bool true), (8, .sl false (l.map ndA)), (9, .int .i64 fd), (10, .int .i64 fe), (11, .ref (H.length + 1) 0 0), (12, .int .i64 x.1.2.1)]) (fun x => x.2.2)
    (fun x => Runs (goodH l (wnames c)) l x.1.1 x.1.2.2.1 x.1.2.2.2 tE ∧ x.1.2.1 + x.1.2.2.1 = N ∧ Few20 c x.1.1 x.1.2.1 ∧ LH H x.2.2 (caA c).cells (thA x.2.1 x.2.1 x.2.1 x.1.1).cells) (fun x => x.1.2.2.1)
    ((th0 c, 0, N, dE), true, _) ⟨hR, by simp, ⟨rfl, Nat.zero_le _, rfl⟩, ⟨_, rfl⟩, by simp only [go_sem]; rfl, by simp only [go_sem]; rfl⟩ ?_ rfl ?_
  · simp [go_sem]
  rintro ⟨⟨t, k, n, d⟩, f, X⟩ ⟨hr, hk, hF, hX⟩
  simp only at hr hk hF hX ⊢
  obtain ⟨hpre, ra, rb⟩ := id hX
  have hli : ((k : Int) < 60) = True := eq_true (by omega)
  rcases hr.inv with ⟨rfl, rfl, rfl⟩ | ⟨n', d', rfl, rfl, hg, hr⟩
  · simp only [thA, thF, AV.cells, caA, hdone] at ra rb
    repeat' first | ((first | refine callP_false (.bool false) ?_ | refine aw_region rfl ?_ | refine aw_region_draw mixedF rfl (by kernel_rfl) ?_ | refine aE rfl ?_); simp only [go_sem, ra, rb, hli]) | refine callG_y ?_ | refine callG_p ?_ | refine aw_seq ?_ | refine aw_block ?_ | refine aw_scope ?_ | (refine aw_cond rfl (fun h => ?_) (fun h => ?_) <;> try (exfalso; first | (simp at h; done) | (simp at h; omega))) | ((with_reducible refine And.intro ?_ ?_); focus (first | omega | (intros; simp_all; done) | (simp; omega)))
    exact doneL0 hpre (by simp only [go_sem]) (.refl _)
  · obtain ⟨g0, g1, g2, g3⟩ := hg
    have hTS := hF.S hc1 (by omega)
    have hnx := next_c false f f f l t (by rw [hF.call]; omega) (by rw [hF.call]; omega) hlen
    have haf := after_c f f f t (nextT l t) hTS
    have hnt := fun L => hX.next (thA false false false (afterT t (nextT l t))).cells L
    have hF' := hF.next (nextT l t)
    have hw : IntKind.i64.wrap ((k : Int) + 1) = ((k + 1 : Nat) : Int) := by rw [wrap_i64 (by omega) (by omega)]; rfl
    have hbl := hget_lt rb trivial
    have hdr := dir_c fd
    obtain ⟨u, hu⟩ : ∃ u, nextT l t = u := ⟨_, rfl⟩
    rw [hu] at hnx haf hnt hF' g1 g2 g3 hr
    obtain ⟨t', ht'⟩ : ∃ t', afterT t u = t' := ⟨_, rfl⟩
    rw [ht'] at haf hnt hF' hr g2 g3
    rw [hfe] at g1
    simp only at g1
    simp only [thA, thF, trA, AV.cells, caA, g0] at hnx haf ra rb
    have key : ∃ y : (Thr × Nat × Nat × Nat) × Bool × AHeap, True := ⟨((t, 0, 0, 0), false, X), trivial⟩
    -- what is done with the turn, then what is behind it
    have hk3 : (decide (u.kind = 3) = false) ∨ (decide (u.kind = 3) = true ∧ ∃ x, t.has = [x] ∧ ((decide (fe = 0) = false) ∨ (decide (fe = 0) = true ∧ (dirI fd = false ∨ (dirI fd = true ∧ decide (x = fd) = true))))) := by
      by_cases h3 : u.kind = 3
      · obtain ⟨q1, q2⟩ := g1 h3
        obtain ⟨x, hx⟩ := List.length_eq_one_iff.1 q1
        refine .inr ⟨decide_eq_true h3, x, hx, ?_⟩
        by_cases h0 : fe = 0
        · refine .inr ⟨decide_eq_true h0, ?_⟩
          cases hd : dirI fd with
          | false => exact .inl rfl
          | true => have := q2 h0 hd; rw [hx] at this; exact .inr ⟨rfl, decide_eq_true (by simpa using this)⟩
        · exact .inl (decide_eq_false h0)
      · exact .inl (decide_eq_false h3)
    have h2' : (decide ((t'.has.length : Int) = 2) = false) ∨ ∃ a b m, t'.has = [a, b] ∧ findI l b = some m ∧ m.parent = a := by
      by_cases h2 : t'.has.length = 2
      · obtain ⟨a, b, hab⟩ := two_of h2
        obtain ⟨m, hm, hp⟩ := g3 a b hab
        exact .inr ⟨a, b, m, hab, hm, hp⟩
      · exact .inl (decide_eq_false (by omega))
    have hgt : ((2 : Int) < ((t'.has.length : Nat) : Int)) = False := eq_false (by omega)
    have rn1 := fun L => (hnt L).b
    simp only [thA, thF, AV.cells] at rn1
    rcases h2' with z2 | ⟨pa, pb, m, hab, hm, hp⟩
    · rcases hk3 with z3 | ⟨z3, x, hx, z0 | ⟨z0, zd | ⟨zd, zx⟩⟩⟩
      · have ra2 := fun M => hget_appL ra trivial M
        have rb2 := fun M => hget_appL rb trivial M
        have rb3 := fun M b => hset_appL hbl M b
        have ct0 := ct hnx callOk11F; have ct1 := ct haf callOk12F; repeat' first | ((first | refine cK (by assumption) ?_ | refine cP (by assumption) ?_ | refine cM (by assumption) ?_ | refine callP_false (.bool false) ?_ | refine aw_region rfl ?_ | refine aw_region_draw mixedF rfl (by kernel_rfl) ?_ | refine aE rfl ?_); simp only [go_sem, ra, rb, ra2, rb2, rb3, rn1, hli, z3, z2, hgt, trA]) | refine callG_y ?_ | refine callG_p ?_ | refine aw_seq ?_ | refine aw_block ?_ | refine aw_scope ?_ | (refine aw_cond rfl (fun h => ?_) (fun h => ?_) <;> try (exfalso; first | (simp at h; done) | (simp at h; omega))) | ((with_reducible refine And.intro ?_ ?_); focus (first | omega | (intros; simp_all; done) | (simp; omega)))
        exact ⟨((t', k + 1, n', d'), false, _), ⟨hr, by simp only; omega, hF', hnt _⟩, by simp only; omega, congrArg _ hw, rfl⟩
      · simp only [hx, List.map_cons, List.map_nil, inA] at rb hnx haf
        have ra2 := fun M => hget_appL ra trivial M
        have rb2 := fun M => hget_appL rb trivial M
        have rb3 := fun M b => hset_appL hbl M b
        have ct0 := ct hnx callOk11F; have ct1 := ct haf callOk12F; repeat' first | ((first | refine cK (by assumption) ?_ | refine cP (by assumption) ?_ | refine cM (by assumption) ?_ | refine callP_false (.bool false) ?_ | refine aw_region rfl ?_ | refine aw_region_draw mixedF rfl (by kernel_rfl) ?_ | refine aE rfl ?_); simp only [go_sem, ra, rb, ra2, rb2, rb3, rn1, hli, z3, z2, z0, hgt, trA]) | refine callG_y ?_ | refine callG_p ?_ | refine aw_seq ?_ | refine aw_block ?_ | refine aw_scope ?_ | (refine aw_cond rfl (fun h => ?_) (fun h => ?_) <;> try (exfalso; first | (simp at h; done) | (simp at h; omega))) | ((with_reducible refine And.intro ?_ ?_); focus (first | omega | (intros; simp_all; done) | (simp; omega)))
        exact ⟨((t', k + 1, n', d'), false, _), ⟨hr, by simp only; omega, hF', hnt _⟩, by simp only; omega, congrArg _ hw, rfl⟩
      · rw [zd] at hdr
        simp only [hx, List.map_cons, List.map_nil, inA] at rb hnx haf
        have ra2 := fun M => hget_appL ra trivial M
        have rb2 := fun M => hget_appL rb trivial M
        have rb3 := fun M b => hset_appL hbl M b
        have ct0 := ct hnx callOk11F; have ct1 := ct haf callOk12F; have ct2 := ct hdr callOk18F; repeat' first | ((first | refine cK (by assumption) ?_ | refine cP (by assumption) ?_ | refine cM (by assumption) ?_ | refine callP_false (.bool false) ?_ | refine aw_region rfl ?_ | refine aw_region_draw mixedF rfl (by kernel_rfl) ?_ | refine aE rfl ?_); simp only [go_sem, ra, rb, ra2, rb2, rb3, rn1, hli, z3, z2, z0, hgt, trA]) | refine callG_y ?_ | refine callG_p ?_ | refine aw_seq ?_ | refine aw_block ?_ | refine aw_scope ?_ | (refine aw_cond rfl (fun h => ?_) (fun h => ?_) <;> try (exfalso; first | (simp at h; done) | (simp at h; omega))) | ((with_reducible refine And.intro ?_ ?_); focus (first | omega | (intros; simp_all; done) | (simp; omega)))
        exact ⟨((t', k + 1, n', d'), false, _), ⟨hr, by simp only; omega, hF', hnt _⟩, by simp only; omega, congrArg _ hw, rfl⟩
      · rw [zd] at hdr
        simp only [hx, List.map_cons, List.map_nil, inA] at rb hnx haf
        have ra2 := fun M => hget_appL ra trivial M
        have rb2 := fun M => hget_appL rb trivial M
        have rb3 := fun M b => hset_appL hbl M b
        have ct0 := ct hnx callOk11F; have ct1 := ct haf callOk12F; have ct2 := ct hdr callOk18F; repeat' first | ((first | refine cK (by assumption) ?_ | refine cP (by assumption) ?_ | refine cM (by assumption) ?_ | refine callP_false (.bool false) ?_ | refine aw_region rfl ?_ | refine aw_region_draw mixedF rfl (by kernel_rfl) ?_ | refine aE rfl ?_); simp only [go_sem, ra, rb, ra2, rb2, rb3, rn1, hli, z3, z2, z0, zx, hgt, inA, trA]) | refine callG_y ?_ | refine callG_p ?_ | refine aw_seq ?_ | refine aw_block ?_ | refine aw_scope ?_ | (refine aw_cond rfl (fun h => ?_) (fun h => ?_) <;> try (exfalso; first | (simp at h; done) | (simp at h; omega))) | ((with_reducible refine And.intro ?_ ?_); focus (first | omega | (intros; simp_all; done) | (simp; omega)))
        exact ⟨((t', k + 1, n', d'), false, _), ⟨hr, by simp only; omega, hF', hnt _⟩, by simp only; omega, congrArg _ hw, rfl⟩
    · have hfi := find_c false l pb
      rw [hm] at hfi
      simp only [ndV, ndA, Option.getD_some, Option.isSome_some, hp] at hfi
      have z2 : decide ((2 : Int) = 2) = true := rfl
      have hself : ∀ x : Int, decide (x = x) = true := fun x => decide_eq_true rfl
      have hgt2 : ((2 : Int) < 2) = False := eq_false (by omega)
      rcases hk3 with z3 | ⟨z3, x, hx, -⟩
      · simp only [hab, List.map_cons, List.map_nil, inA] at haf
        have ra2 := fun M => hget_appL ra trivial M
        have rb2 := fun M => hget_appL rb trivial M
        have rb3 := fun M b => hset_appL hbl M b
        simp only [hab, List.map_cons, List.map_nil, inA] at rn1
        have ct0 := ct hnx callOk11F; have ct1 := ct haf callOk12F; have ct2 := ct hfi callOk19F; repeat' first | ((first | refine cK (by assumption) ?_ | refine cP (by assumption) ?_ | refine cM (by assumption) ?_ | refine callP_false (.bool false) ?_ | refine aw_region rfl ?_ | refine aw_region_draw mixedF rfl (by kernel_rfl) ?_ | refine aE rfl ?_); simp only [go_sem, ra, rb, ra2, rb2, rb3, rn1, hli, z3, hself, trA]) | refine callG_y ?_ | refine callG_p ?_ | refine aw_seq ?_ | refine aw_block ?_ | refine aw_scope ?_ | (refine aw_cond rfl (fun h => ?_) (fun h => ?_) <;> try (exfalso; first | (simp at h; done) | (simp at h; omega))) | ((with_reducible refine And.intro ?_ ?_); focus (first | omega | (intros; simp_all; done) | (simp; omega)))
        exact ⟨((t', k + 1, n', d'), false, _), ⟨hr, by simp only; omega, hF', by simpa only [thA, thF, AV.cells, hab, List.map_cons, List.map_nil, inA] using hnt _⟩, by simp only; omega, congrArg _ hw, rfl⟩
      · exfalso
        have h3 : u.kind = 3 := of_decide_eq_true z3
        have e : t'.has = t.has := by rw [← ht']; unfold afterT; simp [h3]
        rw [hx, hab] at e
        cases e
end Go.Proofs.YtmknmapgfjmioaaDoor
/- The second form of a row: how long the slices are that come in. No condition. -/
namespace Go.Aw
open Go Go.ChangeShapes Go.WideShapes Go.ChangeAt Go.RowKit Go.Proofs.YtmknmapgfjmioaaDoor

theorem bulk_mem {H : Type} {d : DataW H} {l : List (DataW H)} (h : d ∈ l) : Rows.uptoBulk d ≤ Rows.uptoBulkAll l := by
  induction l with
  | nil => cases h
  | cons x r ih =>
    simp only [Rows.uptoBulkAll]
    cases h with
    | head => omega
    | tail _ h => have := ih h; omega
theorem bulk_le {H : Type} {d : DataW H} {l : List (DataW H)} (hk : Rows.uptoSmall H l = true) (h : d ∈ l) : Rows.uptoBulk d ≤ 1048576 := by
  have h1 : Rows.uptoBulkAll l ≤ 1048576 := by simpa [Rows.uptoSmall] using hk
  exact Nat.le_trans (bulk_mem h) h1

mutual
theorem dBulk_eq {H : Type} : ∀ d : DataW H, dBulk d = Rows.uptoBulk d
  | .lit (.string bytes) => by simp [dBulk, Rows.uptoBulk]
  | .lit (.int _ _) => by simp [dBulk, Rows.uptoBulk]
  | .lit (.bool _) => by simp [dBulk, Rows.uptoBulk]
  | .lit l => by cases l <;> simp [dBulk, Rows.uptoBulk]
  | .nil => by simp [dBulk, Rows.uptoBulk]
  | .ptr d => by simp [dBulk, Rows.uptoBulk, dBulk_eq d]
  | .slice elems spare => by simp [dBulk, Rows.uptoBulk, dBulkAll_eq elems, dBulkAll_eq spare]
  | .agg parts => by simp [dBulk, Rows.uptoBulk, dBulkAll_eq parts]
  | .iface _ d => by simp [dBulk, Rows.uptoBulk, dBulk_eq d]
  | .map entries => by simp [dBulk, Rows.uptoBulk, dBulkEntries_eq entries]
  | .held _ => by simp [dBulk, Rows.uptoBulk]
theorem dBulkAll_eq {H : Type} : ∀ l : List (DataW H), dBulkAll l = Rows.uptoBulkAll l
  | [] => by simp [dBulkAll, Rows.uptoBulkAll]
  | d :: r => by simp [dBulkAll, Rows.uptoBulkAll, dBulk_eq d, dBulkAll_eq r]
theorem dBulkEntries_eq {H : Type} : ∀ l : List (Lit × DataW H), dBulkEntries l = Rows.uptoBulkEntries l
  | [] => by simp [dBulkEntries, Rows.uptoBulkEntries]
  | x :: r => by simp [dBulkEntries, Rows.uptoBulkEntries, dBulkEntry_eq x, dBulkEntries_eq r]
theorem dBulkEntry_eq {H : Type} : ∀ x : Lit × DataW H, dBulkEntry x = Rows.uptoBulkEntry x
  | (.string bytes, d) => by simp [dBulkEntry, Rows.uptoBulkEntry, dBulk_eq d]
  | (l, d) => by cases l <;> simp [dBulkEntry, Rows.uptoBulkEntry, dBulk_eq d]
end
/-- What comes in is no longer, nor is any text or slice in it, than the bound. -/
theorem leA_upto {H : Type} {d : DataW H} {l : List (DataW H)} {x : AV} (hk : Rows.uptoSmall H l = true) (h : d ∈ l) (hx : LeA (dBulk d) x) : LeA 1048576 x :=
  hx.mono (by rw [dBulk_eq]; exact bulk_le hk h)
theorem LeA.str_le {n : Nat} {s : List UInt8} (h : LeA n (.str s)) : s.length ≤ n := by cases h; assumption
theorem LeA.agg_le {n : Nat} {cs : List AV} (h : LeA n (.agg cs)) : ∀ x ∈ cs, LeA n x := by cases h; assumption

variable {P : Program} {H : Type} {enc : TypeId × Value → H} {W : World} {base : Nat} {sp : Nat → Bool} {held : Bool}
section
variable {H : Type} {enc : TypeId × Value → H}
/-- There is an input that fits, at a world that is written out, of the right shape. -/
theorem witness_row_sh {C : Checked} {os : Os} {f : FuncId} {fn : Func} {s : OpenSpec} {conds : List PathCond} {apart : Bool} {laid : List (String × DataW Unit)} (modest : Bool) (w0 : World) (args : Array Value) (hos : w0.os = os)
    (hsh : (w0.forCall (fun _ _ => 0) ⟨#[], args, []⟩).Shaped C.prog)
    (hok : Input.okWideB C.prog (w0.forCall (fun _ _ => 0) ⟨#[], args, []⟩) f ⟨#[], args, []⟩ = true)
    (hrow : s.preRow enc C.prog fn conds apart laid (w0.forCall (fun _ _ => 0) ⟨#[], args, []⟩).memory args) :
    ∃ (w : World) (tape : Tape) (i : Input), w.os = os ∧ (w.forCall tape i).Shaped C.prog ∧ i.vars = [] ∧ Input.okWide C.prog (w.forCall tape i) .any w.heap.size f i ∧
      s.preRow enc C.prog fn conds apart laid (w.forCall tape i).memory i.args ∧ ({ modest := modest } : Assume).holds C.prog (lone (Frame.enter C.prog f i.args .normal) [] (w.forCall tape i)) :=
  ⟨w0, fun _ _ => 0, ⟨#[], args, []⟩, hos, hsh, (Input.okWide_of_okWideB (base := 0) hok).1, (Input.okWide_of_okWideB hok).2, hrow, by
    simp only [Assume.holds]
    exact ⟨by simp, by simp, fun _ => Modest.zero, by simp, by simp⟩⟩
end
end Go.Aw
