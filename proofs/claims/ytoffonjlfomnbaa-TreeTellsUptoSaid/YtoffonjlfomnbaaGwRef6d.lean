/- What the document's Sorted answers, where its test of an operation is known. No condition else. -/
import Derived.Test.YtoffonjlfomnbaaGwRef6a
import Derived.Test.YtoffonjlfomnbaaGwLaw7e
namespace Go.Gw
open Go Go.Aw Go.Proofs.Ytoffonjlfomnbaa
section tw
variable {α : Type} (p : α → Bool)
def twL (l : List α) : Nat := (l.takeWhile p).length
theorem twL_le (l : List α) : twL p l ≤ l.length := by
  unfold twL
  induction l with
  | nil => exact Nat.le_refl _
  | cons x l ih => rw [List.takeWhile_cons]; split <;> simp; exact ih
theorem twL_cons (x : α) (l : List α) : twL p (x :: l) = if p x = true then twL p l + 1 else 0 := by
  unfold twL; rw [List.takeWhile_cons]; split <;> simp
theorem twL_lt {l : List α} {i : Nat} (h : i < twL p l) : p (l[i]'(Nat.lt_of_lt_of_le h (twL_le p l))) = true := by
  induction l generalizing i with
  | nil => simp [twL] at h
  | cons x l ih =>
    rw [twL_cons] at h
    split at h
    · rename_i hx
      cases i with
      | zero => simpa using hx
      | succ i => exact ih (by omega)
    · omega
theorem twL_stop {l : List α} (h : twL p l < l.length) : p l[twL p l] = false := by
  induction l with
  | nil => simp at h
  | cons x l ih =>
    by_cases hx : p x = true
    · have e1 : twL p (x :: l) = twL p l + 1 := by rw [twL_cons, if_pos hx]
      simp only [e1, List.getElem_cons_succ]
      exact ih (by simp [e1] at h; exact h)
    · have e1 : twL p (x :: l) = 0 := by rw [twL_cons, if_neg hx]
      simp only [e1, List.getElem_cons_zero]
      simpa using hx
end tw
theorem rK_eq (o : Opn) (out : List Opn) : rK o out = out.length - twL (fun x : Opn => lessS o.at_ x.at_) out.reverse := rfl
theorem rK_le (o : Opn) (out : List Opn) : rK o out ≤ out.length := Nat.sub_le _ _
/-- Above its place everything is later. -/
theorem rK_gt {o : Opn} {out : List Opn} {k : Nat} (h : rK o out < k) (hk : k ≤ out.length) : lessS o.at_ (out[k - 1]'(by omega)).at_ = true := by
  rw [rK_eq] at h
  have h1 := twL_lt (fun x : Opn => lessS o.at_ x.at_) (l := out.reverse) (i := out.length - k) (by omega)
  have e : out.reverse[out.length - k]'(by rw [List.length_reverse]; omega) = out[k - 1]'(by omega) := by
    rw [List.getElem_reverse]; congr 1; omega
  rw [e] at h1
  exact h1
theorem rK_at {o : Opn} {out : List Opn} (h : 0 < rK o out) : lessS o.at_ (out[rK o out - 1]'(by have := rK_le o out; omega)).at_ = false := by
  have hle := twL_le (fun x : Opn => lessS o.at_ x.at_) out.reverse
  rw [List.length_reverse] at hle
  have h0 := h
  rw [rK_eq] at h0
  have h1 := twL_stop (fun x : Opn => lessS o.at_ x.at_) (l := out.reverse) (by rw [List.length_reverse]; omega)
  have e : out.reverse[twL (fun x : Opn => lessS o.at_ x.at_) out.reverse]'(by rw [List.length_reverse]; omega) = out[rK o out - 1]'(by have := rK_le o out; omega) := by
    rw [List.getElem_reverse]; congr 1; rw [rK_eq]; omega
  rw [e] at h1
  exact h1
theorem rIns_len (out : List Opn) (o : Opn) : (rIns out o).length ≤ out.length + 1 := by
  unfold rIns
  split
  · omega
  · rw [List.length_append, List.length_cons, List.length_take, List.length_drop]; omega
theorem rSort_len (l : List Opn) : (rSort l).length ≤ l.length := by
  suffices h : ∀ (l acc : List Opn), (l.foldl rIns acc).length ≤ acc.length + l.length by have := h l []; simpa [rSort] using this
  intro l
  induction l with
  | nil => intro acc; exact Nat.le_refl _
  | cons o l ih => intro acc; have := ih (rIns acc o); have := rIns_len acc o; rw [List.foldl_cons, List.length_cons]; omega
end Go.Gw
namespace Go.Proofs.Ytoffonjlfomnbaa
open Go Go.Aw Go.Gw
set_option linter.unusedSimpArgs false
set_option maxRecDepth 20000
set_option maxHeartbeats 2000000

theorem rsorted_c (b : Bool) (l : List Opn) (hl : l.length ≤ 1000000000) (hc : ∀ o ∈ l, ∀ H, FnC Try.prog 52 [opA o] H (.bool (opOk o))) (H : AHeap) :
    FnC Try.prog 54 [.sl b (l.map opA)] H (.sl false ((rSort l).map opA)) := by
  refine fnC_of Try.func54 rfl (Nat.le_of_ble_eq_true rfl) ?_
  repeat' first | ((first | refine callP_false (.bool false) ?_ | refine aw_region rfl ?_ | refine aw_region_draw mixedF rfl (by kernel_rfl) ?_ | refine aw_ret ?_ | refine aw_skip ?_ | refine aw_exit ?_ | refine aw_label ?_); simp only [go_sem, ↓reduceIte, Nat.reduceEqDiff, Nat.reduceAdd, Nat.reduceSub, Nat.reduceMul, Nat.reduceLeDiff, Nat.reduceLT, Nat.reduceBEq, Int.reduceNeg, Int.reduceLE, Int.reduceLT, Int.reduceToNat, String.reduceEq]) | refine aw_seq ?_ | refine aw_block ?_ | refine aw_scope ?_ | (refine aw_cond rfl (fun h => ?_) (fun h => ?_) <;> try (exfalso; first | (simp at h; done) | (simp at h; omega))) | ((with_reducible refine And.intro ?_ ?_); focus (first | omega | (intros; simp_all; done) | (simp; omega)))
  refine aw_loopS (ι := Nat × Bool × AHeap) (fun x => [(0, .sl b (l.map opA)), (3, .sl x.2.1 ((rSort (l.take x.1)).map opA)), (4, .int .i64 x.1)]) (fun x => x.2.2)
    (fun x => x.1 ≤ l.length ∧ ∃ M, x.2.2 = H ++ M) (fun x => l.length - x.1) (0, true, H) ⟨Nat.zero_le _, [], (List.append_nil H).symm⟩ ?_ rfl ?_
  · simp [go_sem]
    rfl
  · rintro ⟨i, f, X⟩ ⟨hi, hX⟩
    simp only at hi hX ⊢
    by_cases hlt : i < l.length
    · have hp := getD_map opA hlt
      have hli : decide ((i : Int) < (l.length : Int)) = true := decide_eq_true (by omega)
      have htk : rSort (l.take (i + 1)) = rIns (rSort (l.take i)) l[i] := by rw [List.take_succ_eq_append_getElem hlt, rSort_snoc]
      have hol := rSort_len (l.take i)
      rw [List.length_take] at hol
      have hck := hc _ (List.getElem_mem hlt)
      simp only [opA] at hck
      generalize rSort (l.take i) = out at hol htk ⊢
      generalize hoe : l[i] = o at hp htk hck
      have hk0 := rK_le o out
      repeat' first | ((first | refine callK_fn (hck _) callOk52F ?_ | refine callP_fn (hck _) callOk52F ?_ | refine callM_fn (fun _ => hck _) callOk52F ?_ | refine aw_region_mix (id := 11) [.free, .free, .free, .pure 0, .eff [false], .free, .free, .pure 1, .pure 1, .free, .eff [true, true], .free, .eff [true, true], .free] mixedF rfl (by kernel_rfl) (by kernel_rfl) ?_ | refine callP_false (.bool false) ?_ | refine aw_region rfl ?_ | refine aw_region_draw mixedF rfl (by kernel_rfl) ?_ | refine aw_ret ?_ | refine aw_skip ?_ | refine aw_exit ?_ | refine aw_label ?_); simp only [go_sem, ↓reduceIte, Nat.reduceEqDiff, Nat.reduceAdd, Nat.reduceSub, Nat.reduceMul, Nat.reduceLeDiff, Nat.reduceLT, Nat.reduceBEq, Int.reduceNeg, Int.reduceLE, Int.reduceLT, Int.reduceToNat, String.reduceEq, hli, hp, opA]) | refine aw_seq ?_ | refine aw_block ?_ | refine aw_scope ?_ | (refine aw_cond rfl (fun h => ?_) (fun h => ?_) <;> try (exfalso; first | (simp at h; done) | (simp at h; omega))) | ((with_reducible refine And.intro ?_ ?_); focus (first | omega | (intros; simp_all; done) | (simp; omega)))
      refine aw_cutB (ι := Unit) (fun _ => [(0, .sl b (l.map opA)), (3, .sl f (out.map opA)), (4, .int .i64 i), (5, .bool (opOk o)), (6, .int .i64 (rK o out))]) (fun _ => X) (fun _ => True) ?_ ?_
      · refine aw_loopS (ι := Nat) (fun k => [(0, .sl b (l.map opA)), (3, .sl f (out.map opA)), (4, .int .i64 i), (5, .bool (opOk o)), (6, .int .i64 k)]) (fun _ => X) (fun k => rK o out ≤ k ∧ k ≤ out.length) (fun k => k) out.length ⟨hk0, Nat.le_refl _⟩ ?_ rfl ?_
        · simp [go_sem]
        · rintro k ⟨hk1, hk2⟩
          by_cases hkp : 0 < k
          · have hpk := getD_map opA (show k - 1 < out.length by omega)
            have hk : decide ((0 : Int) < (k : Int)) = true := decide_eq_true (by omega)
            have hw : IntKind.i64.wrap ((k : Int) - 1) = ((k - 1 : Nat) : Int) := by rw [wrap_i64 (by omega) (by omega)]; omega
            have hlk : decide (((k - 1 : Nat) : Int) < (out.length : Int)) = true := decide_eq_true (by omega)
            have hle := ropless_c o out[k - 1]
            simp only [opA] at hle
            by_cases hgt : rK o out < k
            · have hl1 : lessI o.at_.c o.at_.r out[k - 1].at_.c out[k - 1].at_.r = true := rK_gt hgt hk2
              rw [hl1] at hle
              repeat' first | ((first | refine callK_fn (hle _) callOk84F ?_ | refine callP_fn (hle _) callOk84F ?_ | refine callM_fn (fun _ => hle _) callOk84F ?_ | refine aw_region_mix (id := 11) [.free, .free, .free, .pure 0, .eff [false], .free, .free, .pure 1, .pure 1, .free, .eff [true, true], .free, .eff [true, true], .free] mixedF rfl (by kernel_rfl) (by kernel_rfl) ?_ | refine callP_false (.bool false) ?_ | refine aw_region rfl ?_ | refine aw_region_draw mixedF rfl (by kernel_rfl) ?_ | refine aw_ret ?_ | refine aw_skip ?_ | refine aw_exit ?_ | refine aw_label ?_); simp only [go_sem, ↓reduceIte, Nat.reduceEqDiff, Nat.reduceAdd, Nat.reduceSub, Nat.reduceMul, Nat.reduceLeDiff, Nat.reduceLT, Nat.reduceBEq, Int.reduceNeg, Int.reduceLE, Int.reduceLT, Int.reduceToNat, String.reduceEq, hli, hp, hpk, hk, hw, hlk, opA]) | refine aw_seq ?_ | refine aw_block ?_ | refine aw_scope ?_ | (refine aw_cond rfl (fun h => ?_) (fun h => ?_) <;> try (exfalso; first | (simp at h; done) | (simp at h; omega))) | ((with_reducible refine And.intro ?_ ?_); focus (first | omega | (intros; simp_all; done) | (simp; omega)))
              exact ⟨k - 1, ⟨by omega, by omega⟩, by omega, rfl⟩
            · have hke : k = rK o out := by omega
              subst hke
              have hl1 : lessI o.at_.c o.at_.r out[rK o out - 1].at_.c out[rK o out - 1].at_.r = false := rK_at hkp
              rw [hl1] at hle
              repeat' first | ((first | refine callK_fn (hle _) callOk84F ?_ | refine callP_fn (hle _) callOk84F ?_ | refine callM_fn (fun _ => hle _) callOk84F ?_ | refine aw_region_mix (id := 11) [.free, .free, .free, .pure 0, .eff [false], .free, .free, .pure 1, .pure 1, .free, .eff [true, true], .free, .eff [true, true], .free] mixedF rfl (by kernel_rfl) (by kernel_rfl) ?_ | refine callP_false (.bool false) ?_ | refine aw_region rfl ?_ | refine aw_region_draw mixedF rfl (by kernel_rfl) ?_ | refine aw_ret ?_ | refine aw_skip ?_ | refine aw_exit ?_ | refine aw_label ?_); simp only [go_sem, ↓reduceIte, Nat.reduceEqDiff, Nat.reduceAdd, Nat.reduceSub, Nat.reduceMul, Nat.reduceLeDiff, Nat.reduceLT, Nat.reduceBEq, Int.reduceNeg, Int.reduceLE, Int.reduceLT, Int.reduceToNat, String.reduceEq, hli, hp, hpk, hk, hw, hlk, opA]) | refine aw_seq ?_ | refine aw_block ?_ | refine aw_scope ?_ | (refine aw_cond rfl (fun h => ?_) (fun h => ?_) <;> try (exfalso; first | (simp at h; done) | (simp at h; omega))) | ((with_reducible refine And.intro ?_ ?_); focus (first | omega | (intros; simp_all; done) | (simp; omega)))
              exact ⟨(), trivial⟩
          · have hke : rK o out = 0 := by omega
            have hke2 : k = 0 := by omega
            subst hke2
            repeat' first | ((first | refine aw_region_mix (id := 11) [.free, .free, .free, .pure 0, .eff [false], .free, .free, .pure 1, .pure 1, .free, .eff [true, true], .free, .eff [true, true], .free] mixedF rfl (by kernel_rfl) (by kernel_rfl) ?_ | refine callP_false (.bool false) ?_ | refine aw_region rfl ?_ | refine aw_region_draw mixedF rfl (by kernel_rfl) ?_ | refine aw_ret ?_ | refine aw_skip ?_ | refine aw_exit ?_ | refine aw_label ?_); simp only [go_sem, ↓reduceIte, Nat.reduceEqDiff, Nat.reduceAdd, Nat.reduceSub, Nat.reduceMul, Nat.reduceLeDiff, Nat.reduceLT, Nat.reduceBEq, Int.reduceNeg, Int.reduceLE, Int.reduceLT, Int.reduceToNat, String.reduceEq, hli, hp, hke, opA]) | refine aw_seq ?_ | refine aw_block ?_ | refine aw_scope ?_ | (refine aw_cond rfl (fun h => ?_) (fun h => ?_) <;> try (exfalso; first | (simp at h; done) | (simp at h; omega))) | ((with_reducible refine And.intro ?_ ?_); focus (first | omega | (intros; simp_all; done) | (simp; omega)))
            exact ⟨(), trivial⟩
      · intro _ _
        have hkk : rIns out o = if (!opOk o || (decide (0 < rK o out) && decide ((out.getD (rK o out - 1) op0).at_ = o.at_))) = true then out else out.take (rK o out) ++ o :: out.drop (rK o out) := rfl
        generalize rK o out = k at hk0 hkk ⊢
        have s1 : List.take k (out.map opA) = (out.take k).map opA := (List.map_take ..).symm
        have s2 : List.drop k (out.map opA) = (out.drop k).map opA := (List.map_drop ..).symm
        have l1 : (out.take k).length = k := by rw [List.length_take]; omega
        have l2 : (out.drop k).length = out.length - k := List.length_drop ..
        have c1 : (∀ e ∈ (out.take k).map opA, e.cells.length = 7) = True := eq_true (cells_op _)
        have c2 : (∀ e ∈ (out.drop k).map opA, e.cells.length = 7) = True := eq_true (cells_op _)
        have f1 := flat_op_len (out.take k)
        have f2 := flat_op_len (out.drop k)
        have o2 := one_op (out.drop k)
        have hw : 0 < k → IntKind.i64.wrap ((k : Int) - 1) = ((k - 1 : Nat) : Int) := fun _ => by rw [wrap_i64 (by omega) (by omega)]; omega
        cases hok : opOk o with
        | false =>
          rw [hok] at hkk
          simp only [Bool.not_false, Bool.true_or, if_true] at hkk
          repeat' first | ((first | refine aw_region_mix (id := 11) [.free, .free, .free, .pure 0, .eff [false], .free, .free, .pure 1, .pure 1, .free, .eff [true, true], .free, .eff [true, true], .free] mixedF rfl (by kernel_rfl) (by kernel_rfl) ?_ | refine callP_false (.bool false) ?_ | refine aw_region rfl ?_ | refine aw_region_draw mixedF rfl (by kernel_rfl) ?_ | refine aw_ret ?_ | refine aw_skip ?_ | refine aw_exit ?_ | refine aw_label ?_); simp only [go_sem, ↓reduceIte, Nat.reduceEqDiff, Nat.reduceAdd, Nat.reduceSub, Nat.reduceMul, Nat.reduceLeDiff, Nat.reduceLT, Nat.reduceBEq, Int.reduceNeg, Int.reduceLE, Int.reduceLT, Int.reduceToNat, String.reduceEq, hp, hli]) | refine aw_seq ?_ | refine aw_block ?_ | refine aw_scope ?_ | (refine aw_cond rfl (fun h => ?_) (fun h => ?_) <;> try (exfalso; first | (simp at h; done) | (simp at h; omega))) | ((with_reducible refine And.intro ?_ ?_); focus (first | omega | (intros; simp_all; done) | (simp; omega)))
          exact ⟨(i + 1, f, X), ⟨hlt, hX⟩, by simp only; omega, ⟨by simp only; rw [htk, hkk], congrArg _ (wrap_succ hlt (by omega))⟩, rfl⟩
        | true =>
          have ht : List.take ((out.length - k) * 7) (List.flatMap AV.cells ((out.drop k).map opA)) = List.flatMap AV.cells ((out.drop k).map opA) := List.take_of_length_le (by rw [f2, l2]; exact Nat.le_refl _)
          have hel : ((out.take k ++ o :: out.drop k).map opA).length = k + (1 + (out.length - k)) := by rw [List.length_map, List.length_append, List.length_cons, l1, l2]; omega
          have hec : ((out.take k ++ o :: out.drop k).map opA).flatMap AV.cells = ((out.take k).map opA).flatMap AV.cells ++ ((opA o).cells ++ ((out.drop k).map opA).flatMap AV.cells) := by rw [List.map_append, List.map_cons, List.flatMap_append, List.flatMap_cons]
          rw [hok, Bool.not_true, Bool.false_or] at hkk
          by_cases hk0' : 0 < k
          · have hpk := getD_map opA (show k - 1 < out.length by omega)
            have hgd : out.getD (k - 1) op0 = out[k - 1]'(by omega) := by rw [List.getD_eq_getElem?_getD, List.getElem?_eq_getElem (by omega)]; rfl
            rw [decide_eq_true hk0', Bool.true_and, hgd] at hkk
            have hk : decide ((0 : Int) < (k : Int)) = true := decide_eq_true (by omega)
            have hlk : decide (((k - 1 : Nat) : Int) < (out.length : Int)) = true := decide_eq_true (by omega)
            have hw' := hw hk0'
            repeat' first | ((first | refine aw_region_mix (id := 11) [.free, .free, .free, .pure 0, .eff [false], .free, .free, .pure 1, .pure 1, .free, .eff [true, true], .free, .eff [true, true], .free] mixedF rfl (by kernel_rfl) (by kernel_rfl) ?_ | refine callP_false (.bool false) ?_ | refine aw_region rfl ?_ | refine aw_region_draw mixedF rfl (by kernel_rfl) ?_ | refine aw_ret ?_ | refine aw_skip ?_ | refine aw_exit ?_ | refine aw_label ?_); simp only [go_sem, ↓reduceIte, Nat.reduceEqDiff, Nat.reduceAdd, Nat.reduceSub, Nat.reduceMul, Nat.reduceLeDiff, Nat.reduceLT, Nat.reduceBEq, Int.reduceNeg, Int.reduceLE, Int.reduceLT, Int.reduceToNat, String.reduceEq, hpk, hk, hlk, hw', hp, hli, s1, s2, c1, c2, f1, f2, o2, l1, l2, opA]) | refine aw_seq ?_ | refine aw_block ?_ | refine aw_scope ?_ | (refine aw_cond rfl (fun h => ?_) (fun h => ?_) <;> try (exfalso; first | (simp at h; done) | (simp at h; omega))) | ((with_reducible refine And.intro ?_ ?_); focus (first | omega | (intros; simp_all; done) | (simp; omega)))
            · rw [if_pos (by rw [Bool.and_eq_true, decide_eq_true_eq, decide_eq_true_eq] at h; exact decide_eq_true (stm_ext h.1 h.2))] at hkk
              exact ⟨(i + 1, f, X), ⟨hlt, hX⟩, by simp only; omega, ⟨by simp only; rw [htk, hkk], congrArg _ (wrap_succ hlt (by omega))⟩, rfl⟩
            · rw [if_neg (fun q => by have q := of_decide_eq_true q; rw [q] at h; simp at h)] at hkk
              (repeat' (with_reducible refine And.intro ?_ ?_)) <;> try (first | omega | exact Nat.le_refl _ | exact cells_op _ | exact .inl trivial | exact (fun e he => by rw [he]; rfl) | (rw [ht]; exact o2))
              repeat' first | ((first | refine aw_region_mix (id := 11) [.free, .free, .free, .pure 0, .eff [false], .free, .free, .pure 1, .pure 1, .free, .eff [true, true], .free, .eff [true, true], .free] mixedF rfl (by kernel_rfl) (by kernel_rfl) ?_ | refine callP_false (.bool false) ?_ | refine aw_region rfl ?_ | refine aw_region_draw mixedF rfl (by kernel_rfl) ?_ | refine aw_ret ?_ | refine aw_skip ?_ | refine aw_exit ?_ | refine aw_label ?_); simp only [go_sem, ↓reduceIte, Nat.reduceEqDiff, Nat.reduceAdd, Nat.reduceSub, Nat.reduceMul, Nat.reduceLeDiff, Nat.reduceLT, Nat.reduceBEq, Int.reduceNeg, Int.reduceLE, Int.reduceLT, Int.reduceToNat, String.reduceEq, hp, hli, s1, s2, c1, c2, f1, f2, o2, l1, l2, opA]) | refine aw_seq ?_ | refine aw_block ?_ | refine aw_scope ?_ | (refine aw_cond rfl (fun h => ?_) (fun h => ?_) <;> try (exfalso; first | (simp at h; done) | (simp at h; omega))) | ((with_reducible refine And.intro ?_ ?_); focus (first | omega | (intros; simp_all; done) | (simp; omega)))
              (repeat' (with_reducible refine And.intro ?_ ?_)) <;> try (first | omega | exact Nat.le_refl _ | exact cells_op _ | exact .inl trivial | exact (fun e he => by rw [he]; rfl) | (rw [ht]; exact o2))
              rw [ht]
              refine aw_freeze [3] ((out.take k ++ o :: out.drop k).map opA) (v := 3) (lc := k + (1 + (out.length - k))) (i := X.length + 1) (s := 7) (cs := ((out.take k ++ o :: out.drop k).map opA).flatMap AV.cells) (by intro t ht; simp only [List.mem_singleton] at ht; subst ht; rw [hel]; first | rfl | simp only [go_sem, ↓reduceIte, Nat.reduceEqDiff, Nat.reduceAdd, Nat.reduceSub, Nat.reduceMul, Nat.reduceLeDiff, Nat.reduceLT, Nat.reduceBEq, Int.reduceNeg, Int.reduceLE, Int.reduceLT, Int.reduceToNat, String.reduceEq]) (by simp only [go_sem, ↓reduceIte, Nat.reduceEqDiff, Nat.reduceAdd, Nat.reduceSub, Nat.reduceMul, Nat.reduceLeDiff, Nat.reduceLT, Nat.reduceBEq, Int.reduceNeg, Int.reduceLE, Int.reduceLT, Int.reduceToNat, String.reduceEq]; rw [hec]; rfl) (by omega) rfl (cells_op _) ?_
              repeat' first | ((first | refine aw_region_mix (id := 11) [.free, .free, .free, .pure 0, .eff [false], .free, .free, .pure 1, .pure 1, .free, .eff [true, true], .free, .eff [true, true], .free] mixedF rfl (by kernel_rfl) (by kernel_rfl) ?_ | refine callP_false (.bool false) ?_ | refine aw_region rfl ?_ | refine aw_region_draw mixedF rfl (by kernel_rfl) ?_ | refine aw_ret ?_ | refine aw_skip ?_ | refine aw_exit ?_ | refine aw_label ?_); simp only [go_sem, ↓reduceIte, Nat.reduceEqDiff, Nat.reduceAdd, Nat.reduceSub, Nat.reduceMul, Nat.reduceLeDiff, Nat.reduceLT, Nat.reduceBEq, Int.reduceNeg, Int.reduceLE, Int.reduceLT, Int.reduceToNat, String.reduceEq]) | refine aw_seq ?_ | refine aw_block ?_ | refine aw_scope ?_ | (refine aw_cond rfl (fun h => ?_) (fun h => ?_) <;> try (exfalso; first | (simp at h; done) | (simp at h; omega))) | ((with_reducible refine And.intro ?_ ?_); focus (first | omega | (intros; simp_all; done) | (simp; omega)))
              exact ⟨(i + 1, false, _), ⟨hlt, pre_app hX _⟩, by simp only; omega, ⟨by simp only; rw [htk, hkk], congrArg _ (wrap_succ hlt (by omega))⟩, rfl⟩

          · have hk : decide ((0 : Int) < (k : Int)) = false := decide_eq_false (by omega)
            rw [decide_eq_false hk0', Bool.false_and, if_neg (by decide)] at hkk
            repeat' first | ((first | refine aw_region_mix (id := 11) [.free, .free, .free, .pure 0, .eff [false], .free, .free, .pure 1, .pure 1, .free, .eff [true, true], .free, .eff [true, true], .free] mixedF rfl (by kernel_rfl) (by kernel_rfl) ?_ | refine callP_false (.bool false) ?_ | refine aw_region rfl ?_ | refine aw_region_draw mixedF rfl (by kernel_rfl) ?_ | refine aw_ret ?_ | refine aw_skip ?_ | refine aw_exit ?_ | refine aw_label ?_); simp only [go_sem, ↓reduceIte, Nat.reduceEqDiff, Nat.reduceAdd, Nat.reduceSub, Nat.reduceMul, Nat.reduceLeDiff, Nat.reduceLT, Nat.reduceBEq, Int.reduceNeg, Int.reduceLE, Int.reduceLT, Int.reduceToNat, String.reduceEq, hk, hp, hli, s1, s2, c1, c2, f1, f2, o2, l1, l2, opA]) | refine aw_seq ?_ | refine aw_block ?_ | refine aw_scope ?_ | (refine aw_cond rfl (fun h => ?_) (fun h => ?_) <;> try (exfalso; first | (simp at h; done) | (simp at h; omega))) | ((with_reducible refine And.intro ?_ ?_); focus (first | omega | (intros; simp_all; done) | (simp; omega)))
            (repeat' (with_reducible refine And.intro ?_ ?_)) <;> try (first | omega | exact Nat.le_refl _ | exact cells_op _ | exact .inl trivial | exact (fun e he => by rw [he]; rfl) | (rw [ht]; exact o2))
            rw [ht]
            refine aw_freeze [3] ((out.take k ++ o :: out.drop k).map opA) (v := 3) (lc := k + (1 + (out.length - k))) (i := X.length + 1) (s := 7) (cs := ((out.take k ++ o :: out.drop k).map opA).flatMap AV.cells) (by intro t ht; simp only [List.mem_singleton] at ht; subst ht; rw [hel]; first | rfl | simp only [go_sem, ↓reduceIte, Nat.reduceEqDiff, Nat.reduceAdd, Nat.reduceSub, Nat.reduceMul, Nat.reduceLeDiff, Nat.reduceLT, Nat.reduceBEq, Int.reduceNeg, Int.reduceLE, Int.reduceLT, Int.reduceToNat, String.reduceEq]) (by simp only [go_sem, ↓reduceIte, Nat.reduceEqDiff, Nat.reduceAdd, Nat.reduceSub, Nat.reduceMul, Nat.reduceLeDiff, Nat.reduceLT, Nat.reduceBEq, Int.reduceNeg, Int.reduceLE, Int.reduceLT, Int.reduceToNat, String.reduceEq]; rw [hec]; rfl) (by omega) rfl (cells_op _) ?_
            repeat' first | ((first | refine aw_region_mix (id := 11) [.free, .free, .free, .pure 0, .eff [false], .free, .free, .pure 1, .pure 1, .free, .eff [true, true], .free, .eff [true, true], .free] mixedF rfl (by kernel_rfl) (by kernel_rfl) ?_ | refine callP_false (.bool false) ?_ | refine aw_region rfl ?_ | refine aw_region_draw mixedF rfl (by kernel_rfl) ?_ | refine aw_ret ?_ | refine aw_skip ?_ | refine aw_exit ?_ | refine aw_label ?_); simp only [go_sem, ↓reduceIte, Nat.reduceEqDiff, Nat.reduceAdd, Nat.reduceSub, Nat.reduceMul, Nat.reduceLeDiff, Nat.reduceLT, Nat.reduceBEq, Int.reduceNeg, Int.reduceLE, Int.reduceLT, Int.reduceToNat, String.reduceEq]) | refine aw_seq ?_ | refine aw_block ?_ | refine aw_scope ?_ | (refine aw_cond rfl (fun h => ?_) (fun h => ?_) <;> try (exfalso; first | (simp at h; done) | (simp at h; omega))) | ((with_reducible refine And.intro ?_ ?_); focus (first | omega | (intros; simp_all; done) | (simp; omega)))
            exact ⟨(i + 1, false, _), ⟨hlt, pre_app hX _⟩, by simp only; omega, ⟨by simp only; rw [htk, hkk], congrArg _ (wrap_succ hlt (by omega))⟩, rfl⟩

    · have hie : i = l.length := by omega
      subst hie
      have hli : decide ((l.length : Int) < (l.length : Int)) = false := by simp
      rw [List.take_length]
      repeat' first | ((first | refine aw_region_mix (id := 11) [.free, .free, .free, .pure 0, .eff [false], .free, .free, .pure 1, .pure 1, .free, .eff [true, true], .free, .eff [true, true], .free] mixedF rfl (by kernel_rfl) (by kernel_rfl) ?_ | refine callP_false (.bool false) ?_ | refine aw_region rfl ?_ | refine aw_region_draw mixedF rfl (by kernel_rfl) ?_ | refine aw_ret ?_ | refine aw_skip ?_ | refine aw_exit ?_ | refine aw_label ?_); simp only [go_sem, ↓reduceIte, Nat.reduceEqDiff, Nat.reduceAdd, Nat.reduceSub, Nat.reduceMul, Nat.reduceLeDiff, Nat.reduceLT, Nat.reduceBEq, Int.reduceNeg, Int.reduceLE, Int.reduceLT, Int.reduceToNat, String.reduceEq, hli]) | refine aw_seq ?_ | refine aw_block ?_ | refine aw_scope ?_ | (refine aw_cond rfl (fun h => ?_) (fun h => ?_) <;> try (exfalso; first | (simp at h; done) | (simp at h; omega))) | ((with_reducible refine And.intro ?_ ?_); focus (first | omega | (intros; simp_all; done) | (simp; omega)))
      obtain ⟨M, hM⟩ := hX
      exact doneG0 hM.symm (by simp only [pur_int, pur_bool, pur_str, pur_agg, pur_tup, pur_sl, pur_iface, pur_nilI, List.mem_cons, List.not_mem_nil, false_implies, forall_eq_or_imp, List.mem_map, forall_exists_index, and_imp, forall_apply_eq_imp_iff₂, or_false, forall_eq, implies_true, and_self, and_true, true_and, Go.Gw.stA, Go.Gw.opA, Go.Gw.ndA, Go.Gw.unA, Go.Gw.enA, Go.Gw.inA, Go.Gw.lgF, Go.Gw.lgA]) (by cases f; exact .refl _; exact .sl _ _)
end Go.Proofs.Ytoffonjlfomnbaa
