/- What the functions of the names answer, as far as operations reach them. No condition. -/
import Derived.Test.YtoffonjlfomnbaaGwStamp
namespace Go.Gw
open Go Go.Aw

def isPre (p s : Txt) : Bool := decide (p.length ≤ s.length) && decide (s.take p.length = p)
def ruA (c : Int) : AV := .int .i32 c

/-- The runes of a text, from a place on. -/
def spellA (s : Txt) : Nat → Nat → Option (List Int)
  | 0, pos => if pos < s.length then none else some []
  | k + 1, pos => if pos < s.length then
      if (!decide (((runeAt s pos).1 : Int) = 65533)) = true ∨ isPre [239, 191, 189] (s.drop pos) = true then (spellA s k (pos + (runeAt s pos).2)).map (((runeAt s pos).1 : Int) :: ·) else none
    else some []
def spell (s : Txt) : Option (List Int) := spellA s s.length 0

theorem runeAt_pos (s : Txt) (pos : Nat) : 1 ≤ (runeAt s pos).2 := by
  unfold runeAt Utf8.decode
  simp only []
  repeat' split
  all_goals simp

/-- Where a predicate holds first; -1: nowhere. -/
def idxI {α : Type} (p : α → Bool) : List α → Int
  | [] => -1
  | x :: l => if p x = true then 0 else if idxI p l = -1 then -1 else idxI p l + 1
theorem idxI_ge {α : Type} (p : α → Bool) (l : List α) : -1 ≤ idxI p l := by
  induction l with
  | nil => simp [idxI]
  | cons x l ih => unfold idxI; repeat' split
                   all_goals omega
theorem idxI_any {α : Type} (p : α → Bool) (l : List α) : decide (0 ≤ idxI p l) = l.any p := by
  induction l with
  | nil => simp [idxI]
  | cons x l ih =>
    have := idxI_ge p l
    unfold idxI
    rw [List.any_cons, ← ih]
    by_cases h : p x = true
    · simp [h]
    · rw [if_neg h]
      have : p x = false := by simpa using h
      rw [this, Bool.false_or]
      by_cases h2 : idxI p l = -1
      · simp [h2]
      · rw [if_neg h2, Bool.eq_iff_iff]; simp; omega
theorem idxI_at {α : Type} (p : α → Bool) (l : List α) (i : Nat) (hi : i < l.length) (h : ∀ k (hk : k < i), p (l[k]'(by omega)) = false) (hp : p l[i] = true) : idxI p l = i := by
  induction l generalizing i with
  | nil => simp at hi
  | cons x l ih =>
    cases i with
    | zero => simp at hp; simp [idxI, hp]
    | succ i =>
      have h0 := h 0 (by omega)
      simp at h0
      have h1 := ih i (by simpa using hi) (fun k hk => by simpa using h (k + 1) (by omega)) (by simpa using hp)
      unfold idxI
      rw [h0, h1]
      simp
theorem idxI_no {α : Type} (p : α → Bool) (l : List α) (h : ∀ k (hk : k < l.length), p l[k] = false) : idxI p l = -1 := by
  induction l with
  | nil => rfl
  | cons x l ih =>
    have h0 := h 0 (by simp)
    simp at h0
    unfold idxI
    rw [h0, ih fun k hk => h (k + 1) (by simpa using hk)]
    rfl

def barredI (c : Int) : Bool := decide (c < 32) || decide (c = 47) || decide (c = 127)
def nameOk (s : Txt) : Bool :=
  match spell s with
  | some l => bif (decide ((l.length : Int) < 1) || decide (20 < (l.length : Int)) || decide (s = [46]) || decide (s = [46, 46])) then false else !l.any barredI
  | none => false
end Go.Gw

namespace Go.Proofs.Ytoffonjlfomnbaa
open Go Go.Aw Go.Gw
set_option linter.unusedSimpArgs false
set_option maxRecDepth 20000

theorem pre0_c (s p : Txt) (H : AHeap) : FnC Try.prog 123 [.str s, .str p] H (.bool (isPre p s)) := by
  refine fnC_of Try.func123 rfl (Nat.le_of_ble_eq_true rfl) ?_
  repeat' first | ((first | refine callP_false (.bool false) ?_ | refine aw_region rfl ?_ | refine aw_region_draw mixedF rfl (by kernel_rfl) ?_ | refine aw_ret ?_ | refine aw_skip ?_ | refine aw_exit ?_ | refine aw_label ?_); simp only [go_sem, ↓reduceIte, Nat.reduceEqDiff, Nat.reduceAdd, Nat.reduceSub, Nat.reduceMul, Nat.reduceLeDiff, Nat.reduceLT, Nat.reduceBEq, Int.reduceNeg, Int.reduceLE, Int.reduceLT, Int.reduceToNat, String.reduceEq]) | refine aw_seq ?_ | refine aw_block ?_ | refine aw_scope ?_ | (refine aw_cond rfl (fun h => ?_) (fun h => ?_) <;> try (exfalso; first | (simp at h; done) | (simp at h; omega))) | ((with_reducible refine And.intro ?_ ?_); focus (first | omega | (intros; simp_all; done) | (simp; omega)))
  exact done0 (by simp only [pur_int, pur_bool, pur_str, pur_agg, pur_tup, pur_sl, pur_iface, pur_nilI, List.mem_cons, List.not_mem_nil, false_implies, forall_eq_or_imp, List.mem_map, forall_exists_index, and_imp, forall_apply_eq_imp_iff₂, or_false, forall_eq, implies_true, and_self, and_true, true_and, Go.Gw.stA, Go.Gw.opA, Go.Gw.ndA, Go.Gw.unA, Go.Gw.enA, Go.Gw.inA, Go.Gw.lgF, Go.Gw.lgA]) (.of (by simp only [isPre, Int.ofNat_le]))

theorem pre_c (s p : Txt) (H : AHeap) : FnC Try.prog 121 [.str s, .str p] H (.bool (isPre p s)) := by
  refine fnC_of Try.func121 rfl (Nat.le_of_ble_eq_true rfl) ?_
  repeat' first | ((first | refine callK_fn (pre0_c _ _ _) callOk123F ?_ | refine callP_fn (pre0_c _ _ _) callOk123F ?_ | refine callM_fn (fun _ => pre0_c _ _ _) callOk123F ?_ | refine callP_false (.bool false) ?_ | refine aw_region rfl ?_ | refine aw_region_draw mixedF rfl (by kernel_rfl) ?_ | refine aw_ret ?_ | refine aw_skip ?_ | refine aw_exit ?_ | refine aw_label ?_); simp only [go_sem, ↓reduceIte, Nat.reduceEqDiff, Nat.reduceAdd, Nat.reduceSub, Nat.reduceMul, Nat.reduceLeDiff, Nat.reduceLT, Nat.reduceBEq, Int.reduceNeg, Int.reduceLE, Int.reduceLT, Int.reduceToNat, String.reduceEq]) | refine aw_seq ?_ | refine aw_block ?_ | refine aw_scope ?_ | (refine aw_cond rfl (fun h => ?_) (fun h => ?_) <;> try (exfalso; first | (simp at h; done) | (simp at h; omega))) | ((with_reducible refine And.intro ?_ ?_); focus (first | omega | (intros; simp_all; done) | (simp; omega)))
  exact done0 (by simp only [pur_int, pur_bool, pur_str, pur_agg, pur_tup, pur_sl, pur_iface, pur_nilI, List.mem_cons, List.not_mem_nil, false_implies, forall_eq_or_imp, List.mem_map, forall_exists_index, and_imp, forall_apply_eq_imp_iff₂, or_false, forall_eq, implies_true, and_self, and_true, true_and, Go.Gw.stA, Go.Gw.opA, Go.Gw.ndA, Go.Gw.unA, Go.Gw.enA, Go.Gw.inA, Go.Gw.lgF, Go.Gw.lgA]) (.refl _)

theorem barred_c (c : Int) (H : AHeap) : FnC Try.prog 120 [.int .i32 c] H (.bool (barredI c)) := by
  refine fnC_of Try.func120 rfl (Nat.le_of_ble_eq_true rfl) ?_
  repeat' first | ((first | refine callP_false (.bool false) ?_ | refine aw_region rfl ?_ | refine aw_region_draw mixedF rfl (by kernel_rfl) ?_ | refine aw_ret ?_ | refine aw_skip ?_ | refine aw_exit ?_ | refine aw_label ?_); simp only [go_sem, ↓reduceIte, Nat.reduceEqDiff, Nat.reduceAdd, Nat.reduceSub, Nat.reduceMul, Nat.reduceLeDiff, Nat.reduceLT, Nat.reduceBEq, Int.reduceNeg, Int.reduceLE, Int.reduceLT, Int.reduceToNat, String.reduceEq]) | refine aw_seq ?_ | refine aw_block ?_ | refine aw_scope ?_ | (refine aw_cond rfl (fun h => ?_) (fun h => ?_) <;> try (exfalso; first | (simp at h; done) | (simp at h; omega))) | ((with_reducible refine And.intro ?_ ?_); focus (first | omega | (intros; simp_all; done) | (simp; omega)))
  exact done0 (by simp only [pur_int, pur_bool, pur_str, pur_agg, pur_tup, pur_sl, pur_iface, pur_nilI, List.mem_cons, List.not_mem_nil, false_implies, forall_eq_or_imp, List.mem_map, forall_exists_index, and_imp, forall_apply_eq_imp_iff₂, or_false, forall_eq, implies_true, and_self, and_true, true_and, Go.Gw.stA, Go.Gw.opA, Go.Gw.ndA, Go.Gw.unA, Go.Gw.enA, Go.Gw.inA, Go.Gw.lgF, Go.Gw.lgA]) (.refl _)

theorem idxRune_c (b : Bool) (l : List Int) (fv : AV) (p : Int → Bool) (H : AHeap) (hf : ∀ c, FnV Try.prog fv [.int .i32 c] H (.bool (p c))) :
    FnC Try.prog 122 [.sl b (l.map ruA), fv] H (.int .i64 (idxI p l)) := by
  refine fnC_ok2 fun hok _ => ?_
  have hl := ok_sl hok
  rw [List.length_map] at hl
  refine fnC_of Try.func122 rfl (Nat.le_of_ble_eq_true rfl) ?_
  repeat' first | ((first | refine callP_false (.bool false) ?_ | refine aw_region rfl ?_ | refine aw_region_draw mixedF rfl (by kernel_rfl) ?_ | refine aw_ret ?_ | refine aw_skip ?_ | refine aw_exit ?_ | refine aw_label ?_); simp only [go_sem, ↓reduceIte, Nat.reduceEqDiff, Nat.reduceAdd, Nat.reduceSub, Nat.reduceMul, Nat.reduceLeDiff, Nat.reduceLT, Nat.reduceBEq, Int.reduceNeg, Int.reduceLE, Int.reduceLT, Int.reduceToNat, String.reduceEq]) | refine aw_seq ?_ | refine aw_block ?_ | refine aw_scope ?_ | (refine aw_cond rfl (fun h => ?_) (fun h => ?_) <;> try (exfalso; first | (simp at h; done) | (simp at h; omega))) | ((with_reducible refine And.intro ?_ ?_); focus (first | omega | (intros; simp_all; done) | (simp; omega)))
  refine aw_loopS (ι := Nat) (fun i => [(0, .sl b (l.map ruA)), (1, fv), (7, .int .i64 l.length), (8, .int .i64 i)]) (fun _ => H) (fun i => i ≤ l.length ∧ ∀ k (hk : k < i) (hk2 : k < l.length), p l[k] = false) (fun i => l.length - i) 0 ⟨Nat.zero_le _, fun k hk => by omega⟩ ?_ rfl ?_
  · simp [go_sem]
  · rintro i ⟨hi, hno⟩
    by_cases hlt : i < l.length
    · have hp := getD_map ruA hlt
      repeat' first | ((first | refine callP_false (.bool false) ?_ | refine aw_region rfl ?_ | refine aw_region_draw mixedF rfl (by kernel_rfl) ?_ | refine aw_ret ?_ | refine aw_skip ?_ | refine aw_exit ?_ | refine aw_label ?_); simp only [go_sem, ↓reduceIte, Nat.reduceEqDiff, Nat.reduceAdd, Nat.reduceSub, Nat.reduceMul, Nat.reduceLeDiff, Nat.reduceLT, Nat.reduceBEq, Int.reduceNeg, Int.reduceLE, Int.reduceLT, Int.reduceToNat, String.reduceEq, hp, ruA]) | refine aw_seq ?_ | refine aw_block ?_ | refine aw_scope ?_ | (refine aw_cond rfl (fun h => ?_) (fun h => ?_) <;> try (exfalso; first | (simp at h; done) | (simp at h; omega))) | ((with_reducible refine And.intro ?_ ?_); focus (first | omega | (intros; simp_all; done) | (simp; omega)))
      refine callK_v0 (hf _) ?_
      simp only [go_sem, ↓reduceIte, Nat.reduceEqDiff, Nat.reduceAdd, Nat.reduceSub, Nat.reduceMul, Nat.reduceLeDiff, Nat.reduceLT, Nat.reduceBEq, Int.reduceNeg, Int.reduceLE, Int.reduceLT, Int.reduceToNat, String.reduceEq]
      repeat' first | ((first | refine callP_false (.bool false) ?_ | refine aw_region rfl ?_ | refine aw_region_draw mixedF rfl (by kernel_rfl) ?_ | refine aw_ret ?_ | refine aw_skip ?_ | refine aw_exit ?_ | refine aw_label ?_); simp only [go_sem, ↓reduceIte, Nat.reduceEqDiff, Nat.reduceAdd, Nat.reduceSub, Nat.reduceMul, Nat.reduceLeDiff, Nat.reduceLT, Nat.reduceBEq, Int.reduceNeg, Int.reduceLE, Int.reduceLT, Int.reduceToNat, String.reduceEq]) | refine aw_seq ?_ | refine aw_block ?_ | refine aw_scope ?_ | (refine aw_cond rfl (fun h => ?_) (fun h => ?_) <;> try (exfalso; first | (simp at h; done) | (simp at h; omega))) | ((with_reducible refine And.intro ?_ ?_); focus (first | omega | (intros; simp_all; done) | (simp; omega)))
      · exact done0 (by simp only [pur_int, pur_bool, pur_str, pur_agg, pur_tup, pur_sl, pur_iface, pur_nilI, List.mem_cons, List.not_mem_nil, false_implies, forall_eq_or_imp, List.mem_map, forall_exists_index, and_imp, forall_apply_eq_imp_iff₂, or_false, forall_eq, implies_true, and_self, and_true, true_and, Go.Gw.stA, Go.Gw.opA, Go.Gw.ndA, Go.Gw.unA, Go.Gw.enA, Go.Gw.inA, Go.Gw.lgF, Go.Gw.lgA]) (.of (by rw [idxI_at p l i hlt (fun k hk => hno k hk (by omega)) h]))
      · refine ⟨i + 1, ⟨hlt, fun k hk hk2 => ?_⟩, by omega, by rw [wrap_i64 (by omega) (by omega)]; rfl⟩
        by_cases e : k = i
        · subst e; exact h
        · exact hno k (by omega) hk2
    · have hi' : i = l.length := by omega
      repeat' first | ((first | refine callP_false (.bool false) ?_ | refine aw_region rfl ?_ | refine aw_region_draw mixedF rfl (by kernel_rfl) ?_ | refine aw_ret ?_ | refine aw_skip ?_ | refine aw_exit ?_ | refine aw_label ?_); simp only [go_sem, ↓reduceIte, Nat.reduceEqDiff, Nat.reduceAdd, Nat.reduceSub, Nat.reduceMul, Nat.reduceLeDiff, Nat.reduceLT, Nat.reduceBEq, Int.reduceNeg, Int.reduceLE, Int.reduceLT, Int.reduceToNat, String.reduceEq]) | refine aw_seq ?_ | refine aw_block ?_ | refine aw_scope ?_ | (refine aw_cond rfl (fun h => ?_) (fun h => ?_) <;> try (exfalso; first | (simp at h; done) | (simp at h; omega))) | ((with_reducible refine And.intro ?_ ?_); focus (first | omega | (intros; simp_all; done) | (simp; omega)))
      subst hi'
      exact done0 (by simp only [pur_int, pur_bool, pur_str, pur_agg, pur_tup, pur_sl, pur_iface, pur_nilI, List.mem_cons, List.not_mem_nil, false_implies, forall_eq_or_imp, List.mem_map, forall_exists_index, and_imp, forall_apply_eq_imp_iff₂, or_false, forall_eq, implies_true, and_self, and_true, true_and, Go.Gw.stA, Go.Gw.opA, Go.Gw.ndA, Go.Gw.unA, Go.Gw.enA, Go.Gw.inA, Go.Gw.lgF, Go.Gw.lgA]) (.of (by rw [idxI_no p l fun k hk => hno k hk hk]))

theorem anyRune_c (b : Bool) (l : List Int) (fv : AV) (p : Int → Bool) (H : AHeap) (hf : ∀ c, FnV Try.prog fv [.int .i32 c] H (.bool (p c))) :
    FnC Try.prog 119 [.sl b (l.map ruA), fv] H (.bool (l.any p)) := by
  refine fnC_of Try.func119 rfl (Nat.le_of_ble_eq_true rfl) ?_
  have hx := idxRune_c b l fv p H hf
  repeat' first | ((first | refine callK_fn (hx) callOk122F ?_ | refine callP_fn (hx) callOk122F ?_ | refine callM_fn (fun _ => hx) callOk122F ?_ | refine callP_false (.bool false) ?_ | refine aw_region rfl ?_ | refine aw_region_draw mixedF rfl (by kernel_rfl) ?_ | refine aw_ret ?_ | refine aw_skip ?_ | refine aw_exit ?_ | refine aw_label ?_); simp only [go_sem, ↓reduceIte, Nat.reduceEqDiff, Nat.reduceAdd, Nat.reduceSub, Nat.reduceMul, Nat.reduceLeDiff, Nat.reduceLT, Nat.reduceBEq, Int.reduceNeg, Int.reduceLE, Int.reduceLT, Int.reduceToNat, String.reduceEq]) | refine aw_seq ?_ | refine aw_block ?_ | refine aw_scope ?_ | (refine aw_cond rfl (fun h => ?_) (fun h => ?_) <;> try (exfalso; first | (simp at h; done) | (simp at h; omega))) | ((with_reducible refine And.intro ?_ ?_); focus (first | omega | (intros; simp_all; done) | (simp; omega)))
  exact done0 (by simp only [pur_int, pur_bool, pur_str, pur_agg, pur_tup, pur_sl, pur_iface, pur_nilI, List.mem_cons, List.not_mem_nil, false_implies, forall_eq_or_imp, List.mem_map, forall_exists_index, and_imp, forall_apply_eq_imp_iff₂, or_false, forall_eq, implies_true, and_self, and_true, true_and, Go.Gw.stA, Go.Gw.opA, Go.Gw.ndA, Go.Gw.unA, Go.Gw.enA, Go.Gw.inA, Go.Gw.lgF, Go.Gw.lgA]) (.of (by rw [idxI_any]))

theorem spellA_le (s : Txt) : ∀ (k pos : Nat) (l : List Int), spellA s k pos = some l → l.length ≤ s.length - pos
  | 0, pos, l, h => by unfold spellA at h; split at h <;> simp at h; subst h; simp
  | k + 1, pos, l, h => by
    unfold spellA at h
    split at h
    · split at h
      · rw [Option.map_eq_some_iff] at h
        obtain ⟨m, h1, rfl⟩ := h
        have := spellA_le s k _ m h1
        have := runeAt_pos s pos
        simp; omega
      · cases h
    · simp at h; subst h; simp

theorem spellA_fuel (s : Txt) : ∀ (k j pos : Nat), s.length ≤ pos + k → s.length ≤ pos + j → spellA s k pos = spellA s j pos
  | 0, 0, pos, _, _ => rfl
  | 0, j + 1, pos, h1, _ => by unfold spellA; rw [if_neg (by omega), if_neg (by omega)]
  | k + 1, 0, pos, _, h2 => by unfold spellA; rw [if_neg (by omega), if_neg (by omega)]
  | k + 1, j + 1, pos, h1, h2 => by
    have := runeAt_pos s pos
    unfold spellA
    rw [spellA_fuel s k j _ (by omega) (by omega)]

/-- What is spelled behind the first runes. -/
def spellT (s : Txt) (acc : List Int) (pos : Nat) : Option (List Int) := (spellA s (s.length - pos) pos).map (acc ++ ·)

theorem spellT_end {s : Txt} {acc : List Int} {pos : Nat} (h : ¬ pos < s.length) : spellT s acc pos = some acc := by
  unfold spellT
  rw [spellA_fuel s _ 0 pos (by omega) (by omega)]
  simp [spellA, h]
theorem spellT_step {s : Txt} {acc : List Int} {pos : Nat} (h : pos < s.length) : spellT s acc pos =
    if (!decide (((runeAt s pos).1 : Int) = 65533)) = true ∨ isPre [239, 191, 189] (s.drop pos) = true then spellT s (acc ++ [((runeAt s pos).1 : Int)]) (pos + (runeAt s pos).2) else none := by
  have hw := runeAt_pos s pos
  unfold spellT
  rw [spellA_fuel s _ (s.length - pos - 1 + 1) pos (by omega) (by omega)]
  conv => lhs; unfold spellA
  rw [if_pos h]
  split
  · rw [spellA_fuel s (s.length - pos - 1) (s.length - (pos + (runeAt s pos).2)) _ (by omega) (by omega)]
    cases spellA s (s.length - (pos + (runeAt s pos).2)) (pos + (runeAt s pos).2) <;> simp
  · rfl

def spellV (r : Option (List Int)) : AV :=
  match r with
  | some l => .tup [.sl false (l.map ruA), .bool true]
  | none => .tup [.sl false [], .bool false]

theorem rep_flat (n : Nat) (k : IntKind) : (List.replicate n (AV.int k 0)).flatMap AV.cells = List.replicate n (AV.int k 0) := by
  induction n with
  | zero => rfl
  | succ n ih => rw [List.replicate_succ, List.flatMap_cons, ih]; rfl
theorem splice_rep (A : List AV) (m : Nat) (z x : AV) : splice (A ++ List.replicate (m + 1) z) A.length [x] = (A ++ [x]) ++ List.replicate m z := by
  simp [splice, List.replicate_succ]

def spellH (s : Txt) (x : Nat × List Int) : AHeap := [.cells 1 (x.2.map ruA ++ List.replicate (s.length - x.2.length) (AV.int .i32 0)), .siter s x.1]

theorem spell_c (s : Txt) (hs : s.length ≤ 1073741824) (H : AHeap) : FnC Try.prog 118 [.str s] H (spellV (spell s)) := by
  refine fnC_of Try.func118 rfl (Nat.le_of_ble_eq_true rfl) ?_
  repeat' first | ((first | refine callP_false (.bool false) ?_ | refine aw_region rfl ?_ | refine aw_region_draw mixedF rfl (by kernel_rfl) ?_ | refine aw_ret ?_ | refine aw_skip ?_ | refine aw_exit ?_ | refine aw_label ?_); simp only [go_sem, ↓reduceIte, Nat.reduceEqDiff, Nat.reduceAdd, Nat.reduceSub, Nat.reduceMul, Nat.reduceLeDiff, Nat.reduceLT, Nat.reduceBEq, Int.reduceNeg, Int.reduceLE, Int.reduceLT, Int.reduceToNat, String.reduceEq]) | refine aw_seq ?_ | refine aw_block ?_ | refine aw_scope ?_ | (refine aw_cond rfl (fun h => ?_) (fun h => ?_) <;> try (exfalso; first | (simp at h; done) | (simp at h; omega))) | ((with_reducible refine And.intro ?_ ?_); focus (first | omega | (intros; simp_all; done) | (simp; omega)))
  refine aw_loopS (ι := Nat × List Int) (fun x => [(0, .str s), (4, .osl 1 H.length 1 0 x.2.length s.length), (5, .bool true), (12, .iter (H.length + 1))]) (fun x => H ++ spellH s x)
    (fun x => spellT s x.2 x.1 = spell s ∧ x.2.length ≤ x.1) (fun x => s.length + 4 - x.1) (0, []) ?_ ?_ ?_ ?_
  · refine ⟨?_, Nat.le_refl _⟩
    show (spellA s (s.length - 0) 0).map _ = _
    rw [spell, Nat.sub_zero]
    cases spellA s s.length 0 <;> simp
  · simp [go_sem]
  · simp [spellH, rep_flat]
  · rintro ⟨pos, acc⟩ ⟨h1, h2⟩
    simp only [spellH] at h1 h2 ⊢
    by_cases hlt : pos < s.length
    · have hne : ¬ acc.length = s.length := by omega
      have hlen : (acc.map ruA).length = acc.length := List.length_map ..
      obtain ⟨m, hm⟩ : ∃ m, s.length - acc.length = m + 1 := ⟨s.length - acc.length - 1, by omega⟩
      have hm2 : s.length - (acc.length + 1) = m := by omega
      have hw := runeAt_pos s pos
      have hst := spellT_step (acc := acc) hlt
      rw [h1] at hst
      repeat' first | ((first | refine callK_fn (pre_c _ _ _) callOk121F ?_ | refine callP_fn (pre_c _ _ _) callOk121F ?_ | refine callM_fn (fun _ => pre_c _ _ _) callOk121F ?_ | refine callP_false (.bool false) ?_ | refine aw_region rfl ?_ | refine aw_region_draw mixedF rfl (by kernel_rfl) ?_ | refine aw_ret ?_ | refine aw_skip ?_ | refine aw_exit ?_ | refine aw_label ?_); simp only [go_sem, ↓reduceIte, Nat.reduceEqDiff, Nat.reduceAdd, Nat.reduceSub, Nat.reduceMul, Nat.reduceLeDiff, Nat.reduceLT, Nat.reduceBEq, Int.reduceNeg, Int.reduceLE, Int.reduceLT, Int.reduceToNat, String.reduceEq, hlt, hne]) | refine aw_seq ?_ | refine aw_block ?_ | refine aw_scope ?_ | (refine aw_cond rfl (fun h => ?_) (fun h => ?_) <;> try (exfalso; first | (simp at h; done) | (simp at h; omega))) | ((with_reducible refine And.intro ?_ ?_); focus (first | omega | (intros; simp_all; done) | (simp; omega)))
      · rw [if_pos (.inl h)] at hst
        refine ⟨⟨by rw [List.length_replicate]; omega, by omega, fun e he => by rw [he]; rfl⟩, (pos + (runeAt s pos).2, acc ++ [((runeAt s pos).1 : Int)]), ⟨hst.symm, by simp; omega⟩, by simp; omega, by simp, ?_⟩
        have hsp := splice_rep (acc.map ruA) m (.int .i32 0) (.int .i32 (runeAt s pos).1)
        rw [hlen] at hsp
        simp [hm, hm2, ruA] at hsp ⊢
        exact hsp
      · rename_i _ h5 h6
        exact Bool.noConfusion (h5.symm.trans h6)
      · rw [if_pos (.inr h)] at hst
        refine ⟨⟨by rw [List.length_replicate]; omega, by omega, fun e he => by rw [he]; rfl⟩, (pos + (runeAt s pos).2, acc ++ [((runeAt s pos).1 : Int)]), ⟨hst.symm, by simp; omega⟩, by simp; omega, by simp, ?_⟩
        have hsp := splice_rep (acc.map ruA) m (.int .i32 0) (.int .i32 (runeAt s pos).1)
        rw [hlen] at hsp
        simp [hm, hm2, ruA] at hsp ⊢
        exact hsp
      · rename_i _ h6 h7
        rw [if_neg (by rw [h6, h7]; simp)] at hst
        rw [hst]
        exact done (by simp only [pur_int, pur_bool, pur_str, pur_agg, pur_tup, pur_sl, pur_iface, pur_nilI, List.mem_cons, List.not_mem_nil, false_implies, forall_eq_or_imp, List.mem_map, forall_exists_index, and_imp, forall_apply_eq_imp_iff₂, or_false, forall_eq, implies_true, and_self, and_true, true_and, Go.Gw.stA, Go.Gw.opA, Go.Gw.ndA, Go.Gw.unA, Go.Gw.enA, Go.Gw.inA, Go.Gw.lgF, Go.Gw.lgA]) (.tup _ _ rfl (sims_cons (.sl _ _) (sims_cons (.refl _) sims_nil)))
    · repeat' first | ((first | refine callP_false (.bool false) ?_ | refine aw_region rfl ?_ | refine aw_region_draw mixedF rfl (by kernel_rfl) ?_ | refine aw_ret ?_ | refine aw_skip ?_ | refine aw_exit ?_ | refine aw_label ?_); simp only [go_sem, ↓reduceIte, Nat.reduceEqDiff, Nat.reduceAdd, Nat.reduceSub, Nat.reduceMul, Nat.reduceLeDiff, Nat.reduceLT, Nat.reduceBEq, Int.reduceNeg, Int.reduceLE, Int.reduceLT, Int.reduceToNat, String.reduceEq, hlt]) | refine aw_seq ?_ | refine aw_block ?_ | refine aw_scope ?_ | (refine aw_cond rfl (fun h => ?_) (fun h => ?_) <;> try (exfalso; first | (simp at h; done) | (simp at h; omega))) | ((with_reducible refine And.intro ?_ ?_); focus (first | omega | (intros; simp_all; done) | (simp; omega)))
      rw [← h1, spellT_end hlt]
      refine ⟨_, _, rfl, ?_, rfl⟩
      refine .tup _ _ rfl fun i x y hx hy => ?_
      match i, hx, hy with
      | 0, hx, hy =>
        cases hx; cases hy
        refine .osl 1 H.length 1 0 acc.length s.length (acc.map ruA ++ List.replicate (s.length - acc.length) (AV.int .i32 0)) _ (Nat.le_refl _) (by simp [go_sem]) (by simp) (by simp) (fun e he => ?_) (fun k j e x y hk hj hx => ?_)
        · obtain ⟨c, _, rfl⟩ := List.mem_map.1 he; rfl
        · rw [List.getElem?_map, Option.map_eq_some_iff] at hk
          obtain ⟨c, hc, rfl⟩ := hk
          have hj0 : j = 0 := by
            have := (List.getElem?_eq_some_iff.1 hj).1
            simp [ruA, AV.cells] at this; exact this
          subst hj0
          have hkl := (List.getElem?_eq_some_iff.1 hc).1
          simp only [ruA, AV.cells, List.getElem?_cons_zero, Option.some.injEq] at hj
          subst hj
          rw [Nat.mul_one, Nat.add_zero, Nat.zero_add, List.getElem?_append_left (by simpa using hkl), List.getElem?_map, hc] at hx
          cases hx
          exact .cl _ (.int _ _)
      | 1, hx, hy => cases hx; cases hy; exact .cl _ (.bool _)
      | i + 2, hx, _ => simp at hx

theorem nameOk_c (s : Txt) (hs : s.length ≤ 1073741824) (H : AHeap) : FnC Try.prog 117 [.str s] H (.bool (nameOk s)) := by
  refine fnC_of Try.func117 rfl (Nat.le_of_ble_eq_true rfl) ?_
  have hsp := spell_c s hs H
  have hany : ∀ l : List Int, FnC Try.prog 119 [.sl false (l.map ruA), .func (.func 120) [] []] H (.bool (l.any barredI)) := fun l => anyRune_c false l _ barredI H fun c => .mk (first := []) (cap := []) (fun L => barred_c c (H ++ L)) callOk120F
  unfold nameOk
  cases hr : spell s with
  | none =>
    rw [hr] at hsp
    simp only [spellV] at hsp
    repeat' first | ((first | refine callK_fn (hsp) callOk118F ?_ | refine callP_fn (hsp) callOk118F ?_ | refine callM_fn (fun _ => hsp) callOk118F ?_ | refine callK_fn (hany _) callOk119F ?_ | refine callP_fn (hany _) callOk119F ?_ | refine callM_fn (fun _ => hany _) callOk119F ?_ | refine callP_false (.bool false) ?_ | refine aw_region rfl ?_ | refine aw_region_draw mixedF rfl (by kernel_rfl) ?_ | refine aw_ret ?_ | refine aw_skip ?_ | refine aw_exit ?_ | refine aw_label ?_); simp only [go_sem, ↓reduceIte, Nat.reduceEqDiff, Nat.reduceAdd, Nat.reduceSub, Nat.reduceMul, Nat.reduceLeDiff, Nat.reduceLT, Nat.reduceBEq, Int.reduceNeg, Int.reduceLE, Int.reduceLT, Int.reduceToNat, String.reduceEq]) | refine aw_seq ?_ | refine aw_block ?_ | refine aw_scope ?_ | (refine aw_cond rfl (fun h => ?_) (fun h => ?_) <;> try (exfalso; first | (simp at h; done) | (simp at h; omega))) | ((with_reducible refine And.intro ?_ ?_); focus (first | omega | (intros; simp_all; done) | (simp; omega)))
    exact done0 (by simp only [pur_int, pur_bool, pur_str, pur_agg, pur_tup, pur_sl, pur_iface, pur_nilI, List.mem_cons, List.not_mem_nil, false_implies, forall_eq_or_imp, List.mem_map, forall_exists_index, and_imp, forall_apply_eq_imp_iff₂, or_false, forall_eq, implies_true, and_self, and_true, true_and, Go.Gw.stA, Go.Gw.opA, Go.Gw.ndA, Go.Gw.unA, Go.Gw.enA, Go.Gw.inA, Go.Gw.lgF, Go.Gw.lgA]) (.refl _)
  | some l =>
    rw [hr] at hsp
    simp only [spellV] at hsp
    repeat' first | ((first | refine callK_fn (hsp) callOk118F ?_ | refine callP_fn (hsp) callOk118F ?_ | refine callM_fn (fun _ => hsp) callOk118F ?_ | refine callK_fn (hany _) callOk119F ?_ | refine callP_fn (hany _) callOk119F ?_ | refine callM_fn (fun _ => hany _) callOk119F ?_ | refine callP_false (.bool false) ?_ | refine aw_region rfl ?_ | refine aw_region_draw mixedF rfl (by kernel_rfl) ?_ | refine aw_ret ?_ | refine aw_skip ?_ | refine aw_exit ?_ | refine aw_label ?_); simp only [go_sem, ↓reduceIte, Nat.reduceEqDiff, Nat.reduceAdd, Nat.reduceSub, Nat.reduceMul, Nat.reduceLeDiff, Nat.reduceLT, Nat.reduceBEq, Int.reduceNeg, Int.reduceLE, Int.reduceLT, Int.reduceToNat, String.reduceEq]) | refine aw_seq ?_ | refine aw_block ?_ | refine aw_scope ?_ | (refine aw_cond rfl (fun h => ?_) (fun h => ?_) <;> try (exfalso; first | (simp at h; done) | (simp at h; omega))) | ((with_reducible refine And.intro ?_ ?_); focus (first | omega | (intros; simp_all; done) | (simp; omega)))
    · exact done0 (by simp only [pur_int, pur_bool, pur_str, pur_agg, pur_tup, pur_sl, pur_iface, pur_nilI, List.mem_cons, List.not_mem_nil, false_implies, forall_eq_or_imp, List.mem_map, forall_exists_index, and_imp, forall_apply_eq_imp_iff₂, or_false, forall_eq, implies_true, and_self, and_true, true_and, Go.Gw.stA, Go.Gw.opA, Go.Gw.ndA, Go.Gw.unA, Go.Gw.enA, Go.Gw.inA, Go.Gw.lgF, Go.Gw.lgA]) (.of (by simp only [h, cond_true]))
    · exact done0 (by simp only [pur_int, pur_bool, pur_str, pur_agg, pur_tup, pur_sl, pur_iface, pur_nilI, List.mem_cons, List.not_mem_nil, false_implies, forall_eq_or_imp, List.mem_map, forall_exists_index, and_imp, forall_apply_eq_imp_iff₂, or_false, forall_eq, implies_true, and_self, and_true, true_and, Go.Gw.stA, Go.Gw.opA, Go.Gw.ndA, Go.Gw.unA, Go.Gw.enA, Go.Gw.inA, Go.Gw.lgF, Go.Gw.lgA]) (.of (by simp only [h, cond_false]))

/-! ### Operations -/
def OpS (o : Opn) : Prop := o.name.length ≤ 1073741824 ∧ o.data.length ≤ 1073741824
def fitsM (o : Opn) : Bool := ofOk o.node && dirI o.parent && !laterI o.at_.c o.at_.r o.parent && nameOk o.name && decide (o.data = [])
def fitsW (o : Opn) : Bool := ofOk o.node && oC o.node && decide ((o.data.length : Int) ≤ 64) && decide (o.parent = 0) && decide (o.name = [])
def opOk (o : Opn) : Bool := (decide (o.kind = 1) || decide (o.kind = 2)) && okI o.at_.c o.at_.r && !laterI o.at_.c o.at_.r o.node && (if o.kind = 1 then fitsM o else fitsW o)

theorem fitsM_c (o : Opn) (hs : OpS o) (H : AHeap) : FnC Try.prog 115 [opA o] H (.bool (fitsM o)) := by
  refine fnC_of Try.func115 rfl (Nat.le_of_ble_eq_true rfl) ?_
  have hs1 := hs.1
  simp only [opA]
  repeat' first | ((first | refine callK_fn (of_c _ _) callOk70F ?_ | refine callP_fn (of_c _ _) callOk70F ?_ | refine callM_fn (fun _ => of_c _ _) callOk70F ?_ | refine callK_fn (dir_c _ _) callOk48F ?_ | refine callP_fn (dir_c _ _) callOk48F ?_ | refine callM_fn (fun _ => dir_c _ _) callOk48F ?_ | refine callK_fn (later_c _ _ _ _) callOk59F ?_ | refine callP_fn (later_c _ _ _ _) callOk59F ?_ | refine callM_fn (fun _ => later_c _ _ _ _) callOk59F ?_ | refine callK_fn (nameOk_c _ (by first | assumption | decide | omega | (simp_all; done) | (simp_all; omega)) _) callOk117F ?_ | refine callP_fn (nameOk_c _ (by first | assumption | decide | omega | (simp_all; done) | (simp_all; omega)) _) callOk117F ?_ | refine callM_fn (fun _ => nameOk_c _ (by first | assumption | decide | omega | (simp_all; done) | (simp_all; omega)) _) callOk117F ?_ | refine callP_false (.bool false) ?_ | refine aw_region rfl ?_ | refine aw_region_draw mixedF rfl (by kernel_rfl) ?_ | refine aw_ret ?_ | refine aw_skip ?_ | refine aw_exit ?_ | refine aw_label ?_); simp only [go_sem, ↓reduceIte, Nat.reduceEqDiff, Nat.reduceAdd, Nat.reduceSub, Nat.reduceMul, Nat.reduceLeDiff, Nat.reduceLT, Nat.reduceBEq, Int.reduceNeg, Int.reduceLE, Int.reduceLT, Int.reduceToNat, String.reduceEq]) | refine aw_seq ?_ | refine aw_block ?_ | refine aw_scope ?_ | (refine aw_cond rfl (fun h => ?_) (fun h => ?_) <;> try (exfalso; first | (simp at h; done) | (simp at h; omega))) | ((with_reducible refine And.intro ?_ ?_); focus (first | omega | (intros; simp_all; done) | (simp; omega)))
  exact done (by simp only [pur_int, pur_bool, pur_str, pur_agg, pur_tup, pur_sl, pur_iface, pur_nilI, List.mem_cons, List.not_mem_nil, false_implies, forall_eq_or_imp, List.mem_map, forall_exists_index, and_imp, forall_apply_eq_imp_iff₂, or_false, forall_eq, implies_true, and_self, and_true, true_and, Go.Gw.stA, Go.Gw.opA, Go.Gw.ndA, Go.Gw.unA, Go.Gw.enA, Go.Gw.inA, Go.Gw.lgF, Go.Gw.lgA]) (.refl _)

theorem fitsW_c (o : Opn) (H : AHeap) : FnC Try.prog 124 [opA o] H (.bool (fitsW o)) := by
  refine fnC_of Try.func124 rfl (Nat.le_of_ble_eq_true rfl) ?_
  simp only [opA]
  repeat' first | ((first | refine callK_fn (of_c _ _) callOk70F ?_ | refine callP_fn (of_c _ _) callOk70F ?_ | refine callM_fn (fun _ => of_c _ _) callOk70F ?_ | refine callP_false (.bool false) ?_ | refine aw_region rfl ?_ | refine aw_region_draw mixedF rfl (by kernel_rfl) ?_ | refine aw_ret ?_ | refine aw_skip ?_ | refine aw_exit ?_ | refine aw_label ?_); simp only [go_sem, ↓reduceIte, Nat.reduceEqDiff, Nat.reduceAdd, Nat.reduceSub, Nat.reduceMul, Nat.reduceLeDiff, Nat.reduceLT, Nat.reduceBEq, Int.reduceNeg, Int.reduceLE, Int.reduceLT, Int.reduceToNat, String.reduceEq]) | refine aw_seq ?_ | refine aw_block ?_ | refine aw_scope ?_ | (refine aw_cond rfl (fun h => ?_) (fun h => ?_) <;> try (exfalso; first | (simp at h; done) | (simp at h; omega))) | ((with_reducible refine And.intro ?_ ?_); focus (first | omega | (intros; simp_all; done) | (simp; omega)))
  exact done (by simp only [pur_int, pur_bool, pur_str, pur_agg, pur_tup, pur_sl, pur_iface, pur_nilI, List.mem_cons, List.not_mem_nil, false_implies, forall_eq_or_imp, List.mem_map, forall_exists_index, and_imp, forall_apply_eq_imp_iff₂, or_false, forall_eq, implies_true, and_self, and_true, true_and, Go.Gw.stA, Go.Gw.opA, Go.Gw.ndA, Go.Gw.unA, Go.Gw.enA, Go.Gw.inA, Go.Gw.lgF, Go.Gw.lgA]) (.refl _)

theorem opOk_c (o : Opn) (hs : OpS o) (H : AHeap) : FnC Try.prog 30 [opA o] H (.bool (opOk o)) := by
  refine fnC_of Try.func30 rfl (Nat.le_of_ble_eq_true rfl) ?_
  have hk := kindOf_c o
  have hm := fitsM_c o hs
  have hw := fitsW_c o
  simp only [opA] at hk hm hw ⊢
  by_cases h1 : o.kind = 1
  · simp only [h1, if_true] at hk hm ⊢
    repeat' first | ((first | refine callK_fn (hk _) callOk57F ?_ | refine callP_fn (hk _) callOk57F ?_ | refine callM_fn (fun _ => hk _) callOk57F ?_ | refine callK_fn (check_c _ _ _) callOk58F ?_ | refine callP_fn (check_c _ _ _) callOk58F ?_ | refine callM_fn (fun _ => check_c _ _ _) callOk58F ?_ | refine callK_fn (later_c _ _ _ _) callOk59F ?_ | refine callP_fn (later_c _ _ _ _) callOk59F ?_ | refine callM_fn (fun _ => later_c _ _ _ _) callOk59F ?_ | refine callK_cap (hm _) callOk115F ?_ | refine callP_cap (fun _ => hm _) callOk115F ?_ | refine callP_false (.bool false) ?_ | refine aw_region rfl ?_ | refine aw_region_draw mixedF rfl (by kernel_rfl) ?_ | refine aw_ret ?_ | refine aw_skip ?_ | refine aw_exit ?_ | refine aw_label ?_); simp only [go_sem, ↓reduceIte, Nat.reduceEqDiff, Nat.reduceAdd, Nat.reduceSub, Nat.reduceMul, Nat.reduceLeDiff, Nat.reduceLT, Nat.reduceBEq, Int.reduceNeg, Int.reduceLE, Int.reduceLT, Int.reduceToNat, String.reduceEq]) | refine aw_seq ?_ | refine aw_block ?_ | refine aw_scope ?_ | (refine aw_cond rfl (fun h => ?_) (fun h => ?_) <;> try (exfalso; first | (simp at h; done) | (simp at h; omega))) | ((with_reducible refine And.intro ?_ ?_); focus (first | omega | (intros; simp_all; done) | (simp; omega)))
    exact done (by simp only [pur_int, pur_bool, pur_str, pur_agg, pur_tup, pur_sl, pur_iface, pur_nilI, List.mem_cons, List.not_mem_nil, false_implies, forall_eq_or_imp, List.mem_map, forall_exists_index, and_imp, forall_apply_eq_imp_iff₂, or_false, forall_eq, implies_true, and_self, and_true, true_and, Go.Gw.stA, Go.Gw.opA, Go.Gw.ndA, Go.Gw.unA, Go.Gw.enA, Go.Gw.inA, Go.Gw.lgF, Go.Gw.lgA]) (.of (by simp [opOk, h1]))
  · by_cases h2 : o.kind = 2
    · simp only [h2, if_true, if_false, Int.reduceEq] at hk hw ⊢
      repeat' first | ((first | refine callK_fn (hk _) callOk57F ?_ | refine callP_fn (hk _) callOk57F ?_ | refine callM_fn (fun _ => hk _) callOk57F ?_ | refine callK_fn (check_c _ _ _) callOk58F ?_ | refine callP_fn (check_c _ _ _) callOk58F ?_ | refine callM_fn (fun _ => check_c _ _ _) callOk58F ?_ | refine callK_fn (later_c _ _ _ _) callOk59F ?_ | refine callP_fn (later_c _ _ _ _) callOk59F ?_ | refine callM_fn (fun _ => later_c _ _ _ _) callOk59F ?_ | refine callK_cap (hw _) callOk124F ?_ | refine callP_cap (fun _ => hw _) callOk124F ?_ | refine callP_false (.bool false) ?_ | refine aw_region rfl ?_ | refine aw_region_draw mixedF rfl (by kernel_rfl) ?_ | refine aw_ret ?_ | refine aw_skip ?_ | refine aw_exit ?_ | refine aw_label ?_); simp only [go_sem, ↓reduceIte, Nat.reduceEqDiff, Nat.reduceAdd, Nat.reduceSub, Nat.reduceMul, Nat.reduceLeDiff, Nat.reduceLT, Nat.reduceBEq, Int.reduceNeg, Int.reduceLE, Int.reduceLT, Int.reduceToNat, String.reduceEq]) | refine aw_seq ?_ | refine aw_block ?_ | refine aw_scope ?_ | (refine aw_cond rfl (fun h => ?_) (fun h => ?_) <;> try (exfalso; first | (simp at h; done) | (simp at h; omega))) | ((with_reducible refine And.intro ?_ ?_); focus (first | omega | (intros; simp_all; done) | (simp; omega)))
      exact done (by simp only [pur_int, pur_bool, pur_str, pur_agg, pur_tup, pur_sl, pur_iface, pur_nilI, List.mem_cons, List.not_mem_nil, false_implies, forall_eq_or_imp, List.mem_map, forall_exists_index, and_imp, forall_apply_eq_imp_iff₂, or_false, forall_eq, implies_true, and_self, and_true, true_and, Go.Gw.stA, Go.Gw.opA, Go.Gw.ndA, Go.Gw.unA, Go.Gw.enA, Go.Gw.inA, Go.Gw.lgF, Go.Gw.lgA]) (.of (by simp [opOk, h1, h2]))
    · simp only [h1, h2, if_false] at hk
      repeat' first | ((first | refine callK_fn (hk _) callOk57F ?_ | refine callP_fn (hk _) callOk57F ?_ | refine callM_fn (fun _ => hk _) callOk57F ?_ | refine callP_false (.bool false) ?_ | refine aw_region rfl ?_ | refine aw_region_draw mixedF rfl (by kernel_rfl) ?_ | refine aw_ret ?_ | refine aw_skip ?_ | refine aw_exit ?_ | refine aw_label ?_); simp only [go_sem, ↓reduceIte, Nat.reduceEqDiff, Nat.reduceAdd, Nat.reduceSub, Nat.reduceMul, Nat.reduceLeDiff, Nat.reduceLT, Nat.reduceBEq, Int.reduceNeg, Int.reduceLE, Int.reduceLT, Int.reduceToNat, String.reduceEq]) | refine aw_seq ?_ | refine aw_block ?_ | refine aw_scope ?_ | (refine aw_cond rfl (fun h => ?_) (fun h => ?_) <;> try (exfalso; first | (simp at h; done) | (simp at h; omega))) | ((with_reducible refine And.intro ?_ ?_); focus (first | omega | (intros; simp_all; done) | (simp; omega)))
      exact done (by simp only [pur_int, pur_bool, pur_str, pur_agg, pur_tup, pur_sl, pur_iface, pur_nilI, List.mem_cons, List.not_mem_nil, false_implies, forall_eq_or_imp, List.mem_map, forall_exists_index, and_imp, forall_apply_eq_imp_iff₂, or_false, forall_eq, implies_true, and_self, and_true, true_and, Go.Gw.stA, Go.Gw.opA, Go.Gw.ndA, Go.Gw.unA, Go.Gw.enA, Go.Gw.inA, Go.Gw.lgF, Go.Gw.lgA]) (.of (by simp [opOk, h1, h2]))
end Go.Proofs.Ytoffonjlfomnbaa
