/- The document's runes: what its functions of names answer. No condition but the length of what comes in. -/
import Derived.Test.YtoffonjlfomnbaaGwName
import Derived.Test.YtoffonjlfomnbaaGwTree1
import Derived.Lib.MapLaws
import Derived.Test.YtoffonjlfomnbaaSrt1
namespace Go.Gw
open Go Go.Aw Go.Proofs.Ytoffonjlfomnbaa

def bt (s : Txt) (pos k : Nat) : Nat := (s.getD (pos + k) 0).toNat
theorem bt_lt (s : Txt) (pos k : Nat) : bt s pos k < 256 := (s.getD (pos + k) 0).toNat_lt
def szB (b : Nat) : Nat := if b < 128 then 1 else if 194 ≤ b ∧ b < 224 then 2 else if 224 ≤ b ∧ b < 240 then 3 else if 240 ≤ b ∧ b < 245 then 4 else 0
def leastB (n : Nat) : Nat := if n = 1 then 0 else if n = 2 then 128 else if n = 3 then 2048 else 65536
def headB (n b : Nat) : Nat := if n = 3 then b % 16 else if n = 4 then b % 8 else b % 64
def rAcc (s : Txt) (pos n : Nat) : Nat → Nat
  | 0 => headB n (bt s pos 0)
  | i + 1 => rAcc s pos n i * 64 + bt s pos (i + 1) % 64
def contB (s : Txt) (pos j : Nat) : Bool := decide (128 ≤ bt s pos j) && decide (bt s pos j < 192)
def contN (s : Txt) (pos : Nat) : Nat → Bool
  | 0 => true
  | i + 1 => contN s pos i && contB s pos (i + 1)
def badR (n r : Nat) : Bool := decide (r < leastB n) || (decide (55296 ≤ r) && decide (r ≤ 57343)) || decide (1114111 < r)
def takeB (s : Txt) (pos : Nat) : Nat × Nat :=
  if szB (bt s pos 0) = 0 ∨ s.length < pos + szB (bt s pos 0) then (0, 0)
  else if szB (bt s pos 0) = 1 then (bt s pos 0, 1)
  else if contN s pos (szB (bt s pos 0) - 1) = true ∧ badR (szB (bt s pos 0)) (rAcc s pos (szB (bt s pos 0)) (szB (bt s pos 0) - 1)) = false then (rAcc s pos (szB (bt s pos 0)) (szB (bt s pos 0) - 1), szB (bt s pos 0))
  else (0, 0)

theorem szB_le (b : Nat) : szB b ≤ 4 := by
  unfold szB
  repeat' split
  all_goals decide
theorem rAcc_lt (s : Txt) (pos n i : Nat) : rAcc s pos n i < 64 ^ (i + 1) := by
  induction i with
  | zero =>
    simp only [rAcc, headB]
    repeat' split
    all_goals omega
  | succ i ih =>
    rw [rAcc, Nat.pow_succ]
    have : bt s pos (i + 1) % 64 < 64 := Nat.mod_lt _ (by decide)
    omega
theorem runeAt_N (s : Txt) (pos : Nat) : runeAt s pos = Lib.decodeN (s.length - pos) (bt s pos 0) (bt s pos 1) (bt s pos 2) (bt s pos 3) := by
  unfold runeAt
  rw [Lib.decode_N]
  rfl
set_option maxHeartbeats 4000000 in
/-- The document's way to a rune is the model's. -/
theorem takeB_dec {s : Txt} {pos : Nat} (hp : pos < s.length) : (takeB s pos).2 = 0 ∧ runeAt s pos = (65533, 1) ∨ (takeB s pos).2 ≠ 0 ∧ runeAt s pos = takeB s pos := by
  rw [runeAt_N]
  have h0 := bt_lt s pos 0
  have h1 := bt_lt s pos 1
  have h2 := bt_lt s pos 2
  have h3 := bt_lt s pos 3
  unfold takeB
  by_cases c1 : bt s pos 0 < 128
  · have e : szB (bt s pos 0) = 1 := by unfold szB; rw [if_pos c1]
    rw [e, if_neg (by omega), if_pos rfl]
    exact .inr ⟨by simp, by unfold Lib.decodeN; rw [if_pos c1]⟩
  by_cases c2 : 194 ≤ bt s pos 0 ∧ bt s pos 0 < 224
  · have e : szB (bt s pos 0) = 2 := by unfold szB; rw [if_neg c1, if_pos c2]
    rw [e]
    have hL : leastB 2 = 128 := rfl
    have hH : ∀ b, headB 2 b = b % 64 := fun _ => rfl
    simp only [contN, Nat.reduceSub, Nat.zero_add, Nat.reduceAdd, rAcc, Bool.true_and, hH, contB, badR, hL, Bool.and_eq_true, decide_eq_true_eq, Bool.or_eq_false_iff, Bool.and_eq_false_iff, decide_eq_false_iff_not]
    unfold Lib.decodeN
    generalize bt s pos 0 = b0 at *
    generalize bt s pos 1 = b1 at *
    generalize bt s pos 2 = b2 at *
    generalize bt s pos 3 = b3 at *
    repeat' split
    all_goals first
      | (exfalso; omega)
      | exact .inl ⟨rfl, rfl⟩
      | exact .inr ⟨by simp, by simp; omega⟩
  by_cases c3 : 224 ≤ bt s pos 0 ∧ bt s pos 0 < 240
  · have e : szB (bt s pos 0) = 3 := by unfold szB; rw [if_neg c1, if_neg c2, if_pos c3]
    rw [e]
    have hL : leastB 3 = 2048 := rfl
    have hH : ∀ b, headB 3 b = b % 16 := fun _ => rfl
    simp only [contN, Nat.reduceSub, Nat.zero_add, Nat.reduceAdd, rAcc, Bool.true_and, hH, contB, badR, hL, Bool.and_eq_true, decide_eq_true_eq, Bool.or_eq_false_iff, Bool.and_eq_false_iff, decide_eq_false_iff_not]
    unfold Lib.decodeN
    generalize bt s pos 0 = b0 at *
    generalize bt s pos 1 = b1 at *
    generalize bt s pos 2 = b2 at *
    generalize bt s pos 3 = b3 at *
    repeat' split
    all_goals first
      | (exfalso; omega)
      | exact .inl ⟨rfl, rfl⟩
      | exact .inr ⟨by simp, by simp; omega⟩
  by_cases c4 : 240 ≤ bt s pos 0 ∧ bt s pos 0 < 245
  · have e : szB (bt s pos 0) = 4 := by unfold szB; rw [if_neg c1, if_neg c2, if_neg c3, if_pos c4]
    rw [e]
    have hL : leastB 4 = 65536 := rfl
    have hH : ∀ b, headB 4 b = b % 8 := fun _ => rfl
    simp only [contN, Nat.reduceSub, Nat.zero_add, Nat.reduceAdd, rAcc, Bool.true_and, hH, contB, badR, hL, Bool.and_eq_true, decide_eq_true_eq, Bool.or_eq_false_iff, Bool.and_eq_false_iff, decide_eq_false_iff_not]
    unfold Lib.decodeN
    generalize bt s pos 0 = b0 at *
    generalize bt s pos 1 = b1 at *
    generalize bt s pos 2 = b2 at *
    generalize bt s pos 3 = b3 at *
    repeat' split
    all_goals first
      | (exfalso; omega)
      | exact .inl ⟨rfl, rfl⟩
      | exact .inr ⟨by simp, by simp; omega⟩
  · have e : szB (bt s pos 0) = 0 := by unfold szB; rw [if_neg c1, if_neg c2, if_neg c3, if_neg c4]
    rw [e, if_pos (.inl rfl)]
    left
    refine ⟨rfl, ?_⟩
    unfold Lib.decodeN
    generalize bt s pos 0 = b0 at *
    generalize bt s pos 1 = b1 at *
    generalize bt s pos 2 = b2 at *
    generalize bt s pos 3 = b3 at *
    repeat' split
    all_goals first
      | (exfalso; omega)
      | rfl
theorem takeB_one {s : Txt} {pos : Nat} (h : (takeB s pos).2 = 1) : (takeB s pos).1 < 128 := by
  unfold takeB at h ⊢
  split at h
  · cases h
  · split at h
    · rename_i h1 h2
      rw [if_neg h1, if_pos h2]
      unfold szB at h2
      repeat' split at h2
      all_goals first
        | assumption
        | omega
    · split at h
      · rename_i h1 h2 h3
        exact absurd h h2
      · cases h
theorem takeB_pre {s : Txt} {pos : Nat} (h : isPre [239, 191, 189] (s.drop pos) = true) : (takeB s pos).2 ≠ 0 := by
  unfold isPre at h
  simp only [List.length_cons, List.length_nil, List.length_drop, Bool.and_eq_true, decide_eq_true_eq] at h
  obtain ⟨h1, h2⟩ := h
  have g : ∀ k, k < 3 → s.getD (pos + k) 0 = ([239, 191, 189] : Txt).getD k 0 := by
    intro k hk
    rw [← h2, List.getD_eq_getElem?_getD, List.getD_eq_getElem?_getD, List.getElem?_take_of_lt (by omega), List.getElem?_drop]
  have b0 : bt s pos 0 = 239 := by unfold bt; rw [g 0 (by omega)]; rfl
  have b1 : bt s pos 1 = 191 := by unfold bt; rw [g 1 (by omega)]; rfl
  have b2 : bt s pos 2 = 189 := by unfold bt; rw [g 2 (by omega)]; rfl
  have e : szB 239 = 3 := rfl
  unfold takeB
  rw [b0, e, if_neg (by omega), if_neg (by omega), if_pos]
  · simp
  · simp only [contN, Nat.reduceSub, Nat.zero_add, Nat.reduceAdd, rAcc, contB, b0, b1, b2]
    decide
theorem spell_step {s : Txt} {acc : List Int} {pos : Nat} (h : pos < s.length) : spellT s acc pos = if (takeB s pos).2 = 0 then none else spellT s (acc ++ [((takeB s pos).1 : Int)]) (pos + (takeB s pos).2) := by
  rw [spellT_step h]
  rcases takeB_dec h with ⟨h1, h2⟩ | ⟨h1, h2⟩
  · rw [if_pos h1, h2, if_neg]
    rintro (q | q)
    · simp at q
    · exact takeB_pre q h1
  · rw [if_neg h1, h2, if_pos]
    by_cases hr : (takeB s pos).1 = 65533
    · right
      have hd := Lib.decodeN_shape (s.length - pos) (bt s pos 0) (bt s pos 1) (bt s pos 2) (bt s pos 3)
      have e := runeAt_N s pos
      rw [h2] at e
      rw [← e] at hd
      have q0 := bt_lt s pos 0
      have q1 := bt_lt s pos 1
      have q2 := bt_lt s pos 2
      rcases hd with ⟨c1, c2⟩ | ⟨c1, c2, c3, c4, c5⟩ | ⟨c1, c2, c3, c4, c5, c6, c7⟩ | ⟨c1, c2, c3, c4, c5, c6, c7, c8⟩ | c1
      · have := congrArg Prod.fst c2; simp only at this; omega
      · have := congrArg Prod.fst c5; simp only at this; omega
      · have := congrArg Prod.fst c7
        simp only at this
        have b0 : bt s pos 0 = 239 := by omega
        have b1 : bt s pos 1 = 191 := by omega
        have b2 : bt s pos 2 = 189 := by omega
        have key : ∀ k v, bt s pos k = v → s.getD (pos + k) 0 = UInt8.ofNat v := fun k v hk => by rw [← hk]; simp [bt]
        have d0 := key 0 _ b0
        have d1 := key 1 _ b1
        have d2 := key 2 _ b2
        unfold isPre
        simp only [List.length_cons, List.length_nil, List.length_drop, Bool.and_eq_true, decide_eq_true_eq]
        refine ⟨by omega, ?_⟩
        rw [Lib.takeC _ (by rw [List.length_drop]; omega), Lib.getD_dropU, Lib.getD_dropU, Lib.getD_dropU, d0, d1, d2]
        rfl
      · have := congrArg Prod.fst c8; simp only at this; omega
      · have h3 := congrArg Prod.snd c1
        have := takeB_one h3
        omega
    · left
      simp; omega
end Go.Gw
namespace Go.Proofs.Ytoffonjlfomnbaa
open Go Go.Aw Go.Gw
set_option linter.unusedSimpArgs false
set_option maxRecDepth 20000
set_option maxHeartbeats 4000000

theorem rsize_c (b : Nat) (H : AHeap) : FnC Try.prog 97 [.int .u8 b] H (.int .i64 (szB b)) := by
  refine fnC_of Try.func97 rfl (Nat.le_of_ble_eq_true rfl) ?_
  unfold szB
  repeat' first | ((first | refine callP_false (.bool false) ?_ | refine aw_region rfl ?_ | refine aw_region_draw mixedF rfl (by kernel_rfl) ?_ | refine aw_ret ?_ | refine aw_skip ?_ | refine aw_exit ?_ | refine aw_label ?_); simp only [go_sem, ↓reduceIte, Nat.reduceEqDiff, Nat.reduceAdd, Nat.reduceSub, Nat.reduceMul, Nat.reduceLeDiff, Nat.reduceLT, Nat.reduceBEq, Int.reduceNeg, Int.reduceLE, Int.reduceLT, Int.reduceToNat, String.reduceEq]) | refine aw_seq ?_ | refine aw_block ?_ | refine aw_scope ?_ | (refine aw_cond rfl (fun h => ?_) (fun h => ?_) <;> try (exfalso; first | (simp at h; done) | (simp at h; omega))) | ((with_reducible refine And.intro ?_ ?_); focus (first | omega | (intros; simp_all; done) | (simp; omega)))
  all_goals (refine done0 (by simp only [pur_int, pur_bool, pur_str, pur_agg, pur_tup, pur_sl, pur_iface, pur_nilI, List.mem_cons, List.not_mem_nil, false_implies, forall_eq_or_imp, List.mem_map, forall_exists_index, and_imp, forall_apply_eq_imp_iff₂, or_false, forall_eq, implies_true, and_self, and_true, true_and, Go.Gw.stA, Go.Gw.opA, Go.Gw.ndA, Go.Gw.unA, Go.Gw.enA, Go.Gw.inA, Go.Gw.lgF, Go.Gw.lgA]) (.of (congrArg (AV.int .i64) ?_)); simp only [Bool.and_eq_true, Bool.and_eq_false_iff, decide_eq_true_eq, decide_eq_false_iff_not] at *; (repeat' split) <;> omega)
theorem rleast_c (n : Nat) (H : AHeap) : FnC Try.prog 98 [.int .i64 n] H (.int .i64 (leastB n)) := by
  refine fnC_of Try.func98 rfl (Nat.le_of_ble_eq_true rfl) ?_
  unfold leastB
  repeat' first | ((first | refine callP_false (.bool false) ?_ | refine aw_region rfl ?_ | refine aw_region_draw mixedF rfl (by kernel_rfl) ?_ | refine aw_ret ?_ | refine aw_skip ?_ | refine aw_exit ?_ | refine aw_label ?_); simp only [go_sem, ↓reduceIte, Nat.reduceEqDiff, Nat.reduceAdd, Nat.reduceSub, Nat.reduceMul, Nat.reduceLeDiff, Nat.reduceLT, Nat.reduceBEq, Int.reduceNeg, Int.reduceLE, Int.reduceLT, Int.reduceToNat, String.reduceEq]) | refine aw_seq ?_ | refine aw_block ?_ | refine aw_scope ?_ | (refine aw_cond rfl (fun h => ?_) (fun h => ?_) <;> try (exfalso; first | (simp at h; done) | (simp at h; omega))) | ((with_reducible refine And.intro ?_ ?_); focus (first | omega | (intros; simp_all; done) | (simp; omega)))
  all_goals (refine done0 (by simp only [pur_int, pur_bool, pur_str, pur_agg, pur_tup, pur_sl, pur_iface, pur_nilI, List.mem_cons, List.not_mem_nil, false_implies, forall_eq_or_imp, List.mem_map, forall_exists_index, and_imp, forall_apply_eq_imp_iff₂, or_false, forall_eq, implies_true, and_self, and_true, true_and, Go.Gw.stA, Go.Gw.opA, Go.Gw.ndA, Go.Gw.unA, Go.Gw.enA, Go.Gw.inA, Go.Gw.lgF, Go.Gw.lgA]) (.of (congrArg (AV.int .i64) ?_)); simp only [Bool.and_eq_true, Bool.and_eq_false_iff, decide_eq_true_eq, decide_eq_false_iff_not] at *; (repeat' split) <;> omega)
end Go.Proofs.Ytoffonjlfomnbaa
/- The document's names, and operations: what its tests answer. No condition but the length of what comes in. -/
namespace Go.Proofs.Ytoffonjlfomnbaa
open Go Go.Aw Go.Gw
set_option linter.unusedSimpArgs false
set_option maxRecDepth 20000
set_option maxHeartbeats 4000000

theorem toN (x : UInt8) : ((x.toNat : Nat) : Int) = ((x.toNat : Nat) : Int) := rfl
theorem tmod_nat (a b : Nat) : ((a : Int)).tmod (b : Int) = ((a % b : Nat) : Int) := by
  rw [Int.tmod_eq_emod_of_nonneg (by omega)]; push_cast; rfl

theorem rtake_c (s : Txt) (pos : Nat) (hp : pos < s.length) (hs : s.length ≤ 1073741824) (H : AHeap) : FnC Try.prog 95 [.str s, .int .i64 pos] H (.tup [.int .i64 (takeB s pos).1, .int .i64 (takeB s pos).2]) := by
  refine fnC_of Try.func95 rfl (Nat.le_of_ble_eq_true rfl) ?_
  have hpi : decide ((pos : Int) < (s.length : Int)) = true := decide_eq_true (by omega)
  have hpl : ((pos : Int) < (s.length : Int)) := by omega
  have hb0 : (s.getD pos 0).toNat = bt s pos 0 := rfl
  have hsz := rsize_c (bt s pos 0)
  have hz4 := szB_le (bt s pos 0)
  have h256 := bt_lt s pos 0
  have hw0 : IntKind.i64.wrap ((pos : Int) + (szB (bt s pos 0) : Int)) = ((pos + szB (bt s pos 0) : Nat) : Int) := wrap_nat (by omega) (by omega)
  have hw1 : IntKind.i64.wrap (bt s pos 0 : Int) = (bt s pos 0 : Int) := wrap_nat rfl (by omega)
  unfold takeB
  generalize hn : szB (bt s pos 0) = n at *
  by_cases c0 : n = 0 ∨ s.length < pos + n
  · rw [if_pos c0]
    by_cases c00 : n = 0
    · have hli : decide ((n : Int) = 0) = true := decide_eq_true (by omega)
      repeat' first | ((first | refine callK_fn (hsz _) callOk97F ?_ | refine callP_fn (hsz _) callOk97F ?_ | refine callM_fn (fun _ => hsz _) callOk97F ?_ | refine callP_false (.bool false) ?_ | refine aw_region rfl ?_ | refine aw_region_draw mixedF rfl (by kernel_rfl) ?_ | refine aw_ret ?_ | refine aw_skip ?_ | refine aw_exit ?_ | refine aw_label ?_); simp only [go_sem, ↓reduceIte, Nat.reduceEqDiff, Nat.reduceAdd, Nat.reduceSub, Nat.reduceMul, Nat.reduceLeDiff, Nat.reduceLT, Nat.reduceBEq, Int.reduceNeg, Int.reduceLE, Int.reduceLT, Int.reduceToNat, String.reduceEq, hpl, hb0, hli, hw0]) | refine aw_seq ?_ | refine aw_block ?_ | refine aw_scope ?_ | (refine aw_cond rfl (fun h => ?_) (fun h => ?_) <;> try (exfalso; first | (simp at h; done) | (simp at h; omega))) | ((with_reducible refine And.intro ?_ ?_); focus (first | omega | (intros; simp_all; done) | (simp; omega)))
      exact done0 (by simp only [pur_int, pur_bool, pur_str, pur_agg, pur_tup, pur_sl, pur_iface, pur_nilI, List.mem_cons, List.not_mem_nil, false_implies, forall_eq_or_imp, List.mem_map, forall_exists_index, and_imp, forall_apply_eq_imp_iff₂, or_false, forall_eq, implies_true, and_self, and_true, true_and, Go.Gw.stA, Go.Gw.opA, Go.Gw.ndA, Go.Gw.unA, Go.Gw.enA, Go.Gw.inA, Go.Gw.lgF, Go.Gw.lgA]) (.refl _)
    · have hli : decide ((n : Int) = 0) = false := decide_eq_false (by omega)
      have hli2 : decide ((s.length : Int) < ((pos + n : Nat) : Int)) = true := decide_eq_true (by omega)
      repeat' first | ((first | refine callK_fn (hsz _) callOk97F ?_ | refine callP_fn (hsz _) callOk97F ?_ | refine callM_fn (fun _ => hsz _) callOk97F ?_ | refine callP_false (.bool false) ?_ | refine aw_region rfl ?_ | refine aw_region_draw mixedF rfl (by kernel_rfl) ?_ | refine aw_ret ?_ | refine aw_skip ?_ | refine aw_exit ?_ | refine aw_label ?_); simp only [go_sem, ↓reduceIte, Nat.reduceEqDiff, Nat.reduceAdd, Nat.reduceSub, Nat.reduceMul, Nat.reduceLeDiff, Nat.reduceLT, Nat.reduceBEq, Int.reduceNeg, Int.reduceLE, Int.reduceLT, Int.reduceToNat, String.reduceEq, hpl, hb0, hli, hli2, hw0]) | refine aw_seq ?_ | refine aw_block ?_ | refine aw_scope ?_ | (refine aw_cond rfl (fun h => ?_) (fun h => ?_) <;> try (exfalso; first | (simp at h; done) | (simp at h; omega))) | ((with_reducible refine And.intro ?_ ?_); focus (first | omega | (intros; simp_all; done) | (simp; omega)))
      exact done0 (by simp only [pur_int, pur_bool, pur_str, pur_agg, pur_tup, pur_sl, pur_iface, pur_nilI, List.mem_cons, List.not_mem_nil, false_implies, forall_eq_or_imp, List.mem_map, forall_exists_index, and_imp, forall_apply_eq_imp_iff₂, or_false, forall_eq, implies_true, and_self, and_true, true_and, Go.Gw.stA, Go.Gw.opA, Go.Gw.ndA, Go.Gw.unA, Go.Gw.enA, Go.Gw.inA, Go.Gw.lgF, Go.Gw.lgA]) (.refl _)
  · rw [if_neg c0]
    have hli : decide ((n : Int) = 0) = false := decide_eq_false (by omega)
    have hli2 : decide ((s.length : Int) < ((pos + n : Nat) : Int)) = false := decide_eq_false (by omega)
    by_cases c1 : n = 1
    · rw [if_pos c1]
      have hli3 : decide ((n : Int) = 1) = true := decide_eq_true (by omega)
      repeat' first | ((first | refine callK_fn (hsz _) callOk97F ?_ | refine callP_fn (hsz _) callOk97F ?_ | refine callM_fn (fun _ => hsz _) callOk97F ?_ | refine callP_false (.bool false) ?_ | refine aw_region rfl ?_ | refine aw_region_draw mixedF rfl (by kernel_rfl) ?_ | refine aw_ret ?_ | refine aw_skip ?_ | refine aw_exit ?_ | refine aw_label ?_); simp only [go_sem, ↓reduceIte, Nat.reduceEqDiff, Nat.reduceAdd, Nat.reduceSub, Nat.reduceMul, Nat.reduceLeDiff, Nat.reduceLT, Nat.reduceBEq, Int.reduceNeg, Int.reduceLE, Int.reduceLT, Int.reduceToNat, String.reduceEq, hpl, hb0, hli, hli2, hli3, hw0, hw1]) | refine aw_seq ?_ | refine aw_block ?_ | refine aw_scope ?_ | (refine aw_cond rfl (fun h => ?_) (fun h => ?_) <;> try (exfalso; first | (simp at h; done) | (simp at h; omega))) | ((with_reducible refine And.intro ?_ ?_); focus (first | omega | (intros; simp_all; done) | (simp; omega)))
      exact done0 (by simp only [pur_int, pur_bool, pur_str, pur_agg, pur_tup, pur_sl, pur_iface, pur_nilI, List.mem_cons, List.not_mem_nil, false_implies, forall_eq_or_imp, List.mem_map, forall_exists_index, and_imp, forall_apply_eq_imp_iff₂, or_false, forall_eq, implies_true, and_self, and_true, true_and, Go.Gw.stA, Go.Gw.opA, Go.Gw.ndA, Go.Gw.unA, Go.Gw.enA, Go.Gw.inA, Go.Gw.lgF, Go.Gw.lgA]) (.refl _)
    · rw [if_neg c1]
      have hli3 : decide ((n : Int) = 1) = false := decide_eq_false (by omega)
      have t64 : ((bt s pos 0 : Nat) : Int).tmod 64 = ((bt s pos 0 % 64 : Nat) : Int) := tmod_nat (bt s pos 0) 64
      have t16 : ((bt s pos 0 : Nat) : Int).tmod 16 = ((bt s pos 0 % 16 : Nat) : Int) := tmod_nat (bt s pos 0) 16
      have t8 : ((bt s pos 0 : Nat) : Int).tmod 8 = ((bt s pos 0 % 8 : Nat) : Int) := tmod_nat (bt s pos 0) 8
      repeat' first | ((first | refine callK_fn (hsz _) callOk97F ?_ | refine callP_fn (hsz _) callOk97F ?_ | refine callM_fn (fun _ => hsz _) callOk97F ?_ | refine callP_false (.bool false) ?_ | refine aw_region rfl ?_ | refine aw_region_draw mixedF rfl (by kernel_rfl) ?_ | refine aw_ret ?_ | refine aw_skip ?_ | refine aw_exit ?_ | refine aw_label ?_); simp only [go_sem, ↓reduceIte, Nat.reduceEqDiff, Nat.reduceAdd, Nat.reduceSub, Nat.reduceMul, Nat.reduceLeDiff, Nat.reduceLT, Nat.reduceBEq, Int.reduceNeg, Int.reduceLE, Int.reduceLT, Int.reduceToNat, String.reduceEq, hpl, hb0, hli, hli2, hli3, hw0, hw1]) | refine aw_seq ?_ | refine aw_block ?_ | refine aw_scope ?_ | ((with_reducible refine And.intro ?_ ?_); focus (first | omega | (intros; simp_all; done) | (simp; omega)))
      refine aw_cond rfl (fun h => by simp at h) (fun _ => ?_)
      repeat' first | ((first | refine callP_false (.bool false) ?_ | refine aw_region rfl ?_ | refine aw_region_draw mixedF rfl (by kernel_rfl) ?_ | refine aw_ret ?_ | refine aw_skip ?_ | refine aw_exit ?_ | refine aw_label ?_); simp only [go_sem, ↓reduceIte, Nat.reduceEqDiff, Nat.reduceAdd, Nat.reduceSub, Nat.reduceMul, Nat.reduceLeDiff, Nat.reduceLT, Nat.reduceBEq, Int.reduceNeg, Int.reduceLE, Int.reduceLT, Int.reduceToNat, String.reduceEq, hli3]) | refine aw_seq ?_ | refine aw_block ?_ | refine aw_scope ?_ | ((with_reducible refine And.intro ?_ ?_); focus (first | omega | (intros; simp_all; done) | (simp; omega)))
      refine aw_cond rfl (fun h => by simp at h) (fun _ => ?_)
      repeat' first | ((first | refine callP_false (.bool false) ?_ | refine aw_region rfl ?_ | refine aw_region_draw mixedF rfl (by kernel_rfl) ?_ | refine aw_ret ?_ | refine aw_skip ?_ | refine aw_exit ?_ | refine aw_label ?_); simp only [go_sem, ↓reduceIte, Nat.reduceEqDiff, Nat.reduceAdd, Nat.reduceSub, Nat.reduceMul, Nat.reduceLeDiff, Nat.reduceLT, Nat.reduceBEq, Int.reduceNeg, Int.reduceLE, Int.reduceLT, Int.reduceToNat, String.reduceEq, hpl, hb0, hw1, t64]) | refine aw_seq ?_ | refine aw_block ?_ | refine aw_scope ?_ | ((with_reducible refine And.intro ?_ ?_); focus (first | omega | (intros; simp_all; done) | (simp; omega)))
      refine aw_cutT (ι := Unit) (fun _ => [(0, .str s), (1, .int .i64 pos), (6, .int .i64 n), (7, .int .i64 (if n = 3 then bt s pos 0 % 16 else bt s pos 0 % 64 : Nat))]) (fun _ => H) (fun _ => True) ?_ ?_
      · refine aw_cond rfl (fun h => ?_) (fun h => ?_)
        · rw [decide_eq_true_eq] at h
          repeat' first | ((first | refine callP_false (.bool false) ?_ | refine aw_region rfl ?_ | refine aw_region_draw mixedF rfl (by kernel_rfl) ?_ | refine aw_ret ?_ | refine aw_skip ?_ | refine aw_exit ?_ | refine aw_label ?_); simp only [go_sem, ↓reduceIte, Nat.reduceEqDiff, Nat.reduceAdd, Nat.reduceSub, Nat.reduceMul, Nat.reduceLeDiff, Nat.reduceLT, Nat.reduceBEq, Int.reduceNeg, Int.reduceLE, Int.reduceLT, Int.reduceToNat, String.reduceEq, hpl, hb0, hw1, t16]) | refine aw_seq ?_ | refine aw_block ?_ | refine aw_scope ?_ | (refine aw_cond rfl (fun h => ?_) (fun h => ?_) <;> try (exfalso; first | (simp at h; done) | (simp at h; omega))) | ((with_reducible refine And.intro ?_ ?_); focus (first | omega | (intros; simp_all; done) | (simp; omega)))
          rw [if_pos (by omega)]; exact ⟨(), rfl⟩
        · rw [decide_eq_false_iff_not] at h
          repeat' first | ((first | refine callP_false (.bool false) ?_ | refine aw_region rfl ?_ | refine aw_region_draw mixedF rfl (by kernel_rfl) ?_ | refine aw_ret ?_ | refine aw_skip ?_ | refine aw_exit ?_ | refine aw_label ?_); simp only [go_sem, ↓reduceIte, Nat.reduceEqDiff, Nat.reduceAdd, Nat.reduceSub, Nat.reduceMul, Nat.reduceLeDiff, Nat.reduceLT, Nat.reduceBEq, Int.reduceNeg, Int.reduceLE, Int.reduceLT, Int.reduceToNat, String.reduceEq]) | refine aw_seq ?_ | refine aw_block ?_ | refine aw_scope ?_ | (refine aw_cond rfl (fun h => ?_) (fun h => ?_) <;> try (exfalso; first | (simp at h; done) | (simp at h; omega))) | ((with_reducible refine And.intro ?_ ?_); focus (first | omega | (intros; simp_all; done) | (simp; omega)))
          rw [if_neg (by omega)]; exact ⟨(), rfl⟩
      intro _ _
      repeat' first | ((first | refine callP_false (.bool false) ?_ | refine aw_region rfl ?_ | refine aw_region_draw mixedF rfl (by kernel_rfl) ?_ | refine aw_ret ?_ | refine aw_skip ?_ | refine aw_exit ?_ | refine aw_label ?_); simp only [go_sem, ↓reduceIte, Nat.reduceEqDiff, Nat.reduceAdd, Nat.reduceSub, Nat.reduceMul, Nat.reduceLeDiff, Nat.reduceLT, Nat.reduceBEq, Int.reduceNeg, Int.reduceLE, Int.reduceLT, Int.reduceToNat, String.reduceEq]) | refine aw_seq ?_ | refine aw_block ?_ | refine aw_scope ?_ | ((with_reducible refine And.intro ?_ ?_); focus (first | omega | (intros; simp_all; done) | (simp; omega)))
      refine aw_cutT (ι := Unit) (fun _ => [(0, .str s), (1, .int .i64 pos), (6, .int .i64 n), (7, .int .i64 (headB n (bt s pos 0) : Nat))]) (fun _ => H) (fun _ => True) ?_ ?_
      · refine aw_cond rfl (fun h => ?_) (fun h => ?_)
        · rw [decide_eq_true_eq] at h
          repeat' first | ((first | refine callP_false (.bool false) ?_ | refine aw_region rfl ?_ | refine aw_region_draw mixedF rfl (by kernel_rfl) ?_ | refine aw_ret ?_ | refine aw_skip ?_ | refine aw_exit ?_ | refine aw_label ?_); simp only [go_sem, ↓reduceIte, Nat.reduceEqDiff, Nat.reduceAdd, Nat.reduceSub, Nat.reduceMul, Nat.reduceLeDiff, Nat.reduceLT, Nat.reduceBEq, Int.reduceNeg, Int.reduceLE, Int.reduceLT, Int.reduceToNat, String.reduceEq, hpl, hb0, hw1, t8]) | refine aw_seq ?_ | refine aw_block ?_ | refine aw_scope ?_ | (refine aw_cond rfl (fun h => ?_) (fun h => ?_) <;> try (exfalso; first | (simp at h; done) | (simp at h; omega))) | ((with_reducible refine And.intro ?_ ?_); focus (first | omega | (intros; simp_all; done) | (simp; omega)))
          rw [headB, if_neg (by omega), if_pos (by omega)]; exact ⟨(), rfl⟩
        · rw [decide_eq_false_iff_not] at h
          repeat' first | ((first | refine callP_false (.bool false) ?_ | refine aw_region rfl ?_ | refine aw_region_draw mixedF rfl (by kernel_rfl) ?_ | refine aw_ret ?_ | refine aw_skip ?_ | refine aw_exit ?_ | refine aw_label ?_); simp only [go_sem, ↓reduceIte, Nat.reduceEqDiff, Nat.reduceAdd, Nat.reduceSub, Nat.reduceMul, Nat.reduceLeDiff, Nat.reduceLT, Nat.reduceBEq, Int.reduceNeg, Int.reduceLE, Int.reduceLT, Int.reduceToNat, String.reduceEq]) | refine aw_seq ?_ | refine aw_block ?_ | refine aw_scope ?_ | (refine aw_cond rfl (fun h => ?_) (fun h => ?_) <;> try (exfalso; first | (simp at h; done) | (simp at h; omega))) | ((with_reducible refine And.intro ?_ ?_); focus (first | omega | (intros; simp_all; done) | (simp; omega)))
          refine ⟨(), ?_⟩
          unfold headB
          by_cases h3 : n = 3
          · rw [if_pos h3, if_pos h3]
          · rw [if_neg h3, if_neg h3, if_neg (by omega)]
      intro _ _
      have hR := rAcc_lt s pos n
      repeat' first | ((first | refine callP_false (.bool false) ?_ | refine aw_region rfl ?_ | refine aw_region_draw mixedF rfl (by kernel_rfl) ?_ | refine aw_ret ?_ | refine aw_skip ?_ | refine aw_exit ?_ | refine aw_label ?_); simp only [go_sem, ↓reduceIte, Nat.reduceEqDiff, Nat.reduceAdd, Nat.reduceSub, Nat.reduceMul, Nat.reduceLeDiff, Nat.reduceLT, Nat.reduceBEq, Int.reduceNeg, Int.reduceLE, Int.reduceLT, Int.reduceToNat, String.reduceEq]) | refine aw_seq ?_ | refine aw_block ?_ | refine aw_scope ?_ | ((with_reducible refine And.intro ?_ ?_); focus (first | omega | (intros; simp_all; done) | (simp; omega)))
      refine aw_loopS (ι := Nat) (fun i => [(0, .str s), (1, .int .i64 pos), (6, .int .i64 n), (7, .int .i64 (rAcc s pos n i)), (8, .int .i64 (i + 1 : Nat))]) (fun _ => H) (fun i => i + 1 ≤ n ∧ contN s pos i = true) (fun i => n - i) 0 ⟨by omega, rfl⟩ ?_ rfl ?_
      · simp [go_sem, rAcc]
      · rintro i ⟨hi, hco⟩
        have hRi := hR i
        have hRl : 64 ^ (i + 1) ≤ 16777216 := by
          rcases (show i = 0 ∨ i = 1 ∨ i = 2 ∨ i = 3 by omega) with rfl | rfl | rfl | rfl <;> decide
        by_cases hlt : i + 1 < n
        · have hlt2 : decide (((i + 1 : Nat) : Int) < (n : Int)) = true := decide_eq_true (by omega)
          obtain ⟨q, hq⟩ : ∃ q, q = pos + (i + 1) := ⟨_, rfl⟩
          have hw2 : IntKind.i64.wrap ((pos : Int) + ((i + 1 : Nat) : Int)) = (q : Int) := wrap_nat (by omega) (by omega)
          have hw3 : IntKind.i64.wrap (((i + 1 : Nat) : Int) + 1) = ((i + 1 + 1 : Nat) : Int) := wrap_nat (by omega) (by omega)
          have hql : ((q : Int) < (s.length : Int)) := by omega
          have hbi : (s.getD q 0).toNat = bt s pos (i + 1) := by rw [hq]; rfl
          have hb2 := bt_lt s pos (i + 1)
          have hw4 : IntKind.i64.wrap (bt s pos (i + 1) : Int) = (bt s pos (i + 1) : Int) := wrap_nat rfl (by omega)
          have t2 : ((bt s pos (i + 1) : Nat) : Int).tmod 64 = ((bt s pos (i + 1) % 64 : Nat) : Int) := tmod_nat (bt s pos (i + 1)) 64
          have hw5 : IntKind.i64.wrap ((rAcc s pos n i : Int) * 64) = ((rAcc s pos n i * 64 : Nat) : Int) := wrap_nat (by omega) (by omega)
          have hw6 : IntKind.i64.wrap (((rAcc s pos n i * 64 : Nat) : Int) + ((bt s pos (i + 1) % 64 : Nat) : Int)) = ((rAcc s pos n (i + 1) : Nat) : Int) := wrap_nat (by rw [rAcc]; omega) (by rw [rAcc]; omega)
          cases hcb : contB s pos (i + 1) with
          | true =>
            unfold contB at hcb
            rw [Bool.and_eq_true, decide_eq_true_eq, decide_eq_true_eq] at hcb
            have hc1 : decide ((bt s pos (i + 1) : Int) < 128) = false := decide_eq_false (by omega)
            have hc2 : decide ((192 : Int) ≤ (bt s pos (i + 1) : Int)) = false := decide_eq_false (by omega)
            repeat' first | ((first | refine callP_false (.bool false) ?_ | refine aw_region rfl ?_ | refine aw_region_draw mixedF rfl (by kernel_rfl) ?_ | refine aw_ret ?_ | refine aw_skip ?_ | refine aw_exit ?_ | refine aw_label ?_); simp only [go_sem, ↓reduceIte, Nat.reduceEqDiff, Nat.reduceAdd, Nat.reduceSub, Nat.reduceMul, Nat.reduceLeDiff, Nat.reduceLT, Nat.reduceBEq, Int.reduceNeg, Int.reduceLE, Int.reduceLT, Int.reduceToNat, String.reduceEq, hlt2, hw2, hw3, hql, hbi, hw4, t2, hw5, hw6, hc1, hc2]) | refine aw_seq ?_ | refine aw_block ?_ | refine aw_scope ?_ | (refine aw_cond rfl (fun h => ?_) (fun h => ?_) <;> try (exfalso; first | (simp at h; done) | (simp at h; omega))) | ((with_reducible refine And.intro ?_ ?_); focus (first | omega | (intros; simp_all; done) | (simp; omega)))
            refine ⟨i + 1, ⟨hlt, by rw [contN, hco]; unfold contB; rw [decide_eq_true hcb.1, decide_eq_true hcb.2]; rfl⟩, by omega, rfl, rfl⟩
          | false =>
            have hno : ¬ (contN s pos (n - 1) = true ∧ badR n (rAcc s pos n (n - 1)) = false) := by
              rintro ⟨q1, -⟩
              have key : ∀ k, contN s pos (i + 1 + k) = true → False := by
                intro k
                induction k with
                | zero => intro h; rw [Nat.add_zero, contN, hcb, Bool.and_false] at h; cases h
                | succ k ih => intro h; rw [← Nat.add_assoc, contN, Bool.and_eq_true] at h; exact ih h.1
              obtain ⟨k, hk⟩ : ∃ k, n - 1 = i + 1 + k := ⟨n - 1 - (i + 1), by omega⟩
              rw [hk] at q1
              exact key k q1
            rw [if_neg hno]
            unfold contB at hcb
            rw [Bool.and_eq_false_iff, decide_eq_false_iff_not, decide_eq_false_iff_not] at hcb
            by_cases h128 : bt s pos (i + 1) < 128
            · have hc1 : decide ((bt s pos (i + 1) : Int) < 128) = true := decide_eq_true (by omega)
              repeat' first | ((first | refine callP_false (.bool false) ?_ | refine aw_region rfl ?_ | refine aw_region_draw mixedF rfl (by kernel_rfl) ?_ | refine aw_ret ?_ | refine aw_skip ?_ | refine aw_exit ?_ | refine aw_label ?_); simp only [go_sem, ↓reduceIte, Nat.reduceEqDiff, Nat.reduceAdd, Nat.reduceSub, Nat.reduceMul, Nat.reduceLeDiff, Nat.reduceLT, Nat.reduceBEq, Int.reduceNeg, Int.reduceLE, Int.reduceLT, Int.reduceToNat, String.reduceEq, hlt2, hw2, hw3, hql, hbi, hw4, t2, hw5, hw6, hc1]) | refine aw_seq ?_ | refine aw_block ?_ | refine aw_scope ?_ | (refine aw_cond rfl (fun h => ?_) (fun h => ?_) <;> try (exfalso; first | (simp at h; done) | (simp at h; omega))) | ((with_reducible refine And.intro ?_ ?_); focus (first | omega | (intros; simp_all; done) | (simp; omega)))
              exact done0 (by simp only [pur_int, pur_bool, pur_str, pur_agg, pur_tup, pur_sl, pur_iface, pur_nilI, List.mem_cons, List.not_mem_nil, false_implies, forall_eq_or_imp, List.mem_map, forall_exists_index, and_imp, forall_apply_eq_imp_iff₂, or_false, forall_eq, implies_true, and_self, and_true, true_and, Go.Gw.stA, Go.Gw.opA, Go.Gw.ndA, Go.Gw.unA, Go.Gw.enA, Go.Gw.inA, Go.Gw.lgF, Go.Gw.lgA]) (.refl _)
            · have hc1 : decide ((bt s pos (i + 1) : Int) < 128) = false := decide_eq_false (by omega)
              have hc2 : decide ((192 : Int) ≤ (bt s pos (i + 1) : Int)) = true := decide_eq_true (by omega)
              repeat' first | ((first | refine callP_false (.bool false) ?_ | refine aw_region rfl ?_ | refine aw_region_draw mixedF rfl (by kernel_rfl) ?_ | refine aw_ret ?_ | refine aw_skip ?_ | refine aw_exit ?_ | refine aw_label ?_); simp only [go_sem, ↓reduceIte, Nat.reduceEqDiff, Nat.reduceAdd, Nat.reduceSub, Nat.reduceMul, Nat.reduceLeDiff, Nat.reduceLT, Nat.reduceBEq, Int.reduceNeg, Int.reduceLE, Int.reduceLT, Int.reduceToNat, String.reduceEq, hlt2, hw2, hw3, hql, hbi, hw4, t2, hw5, hw6, hc1, hc2]) | refine aw_seq ?_ | refine aw_block ?_ | refine aw_scope ?_ | (refine aw_cond rfl (fun h => ?_) (fun h => ?_) <;> try (exfalso; first | (simp at h; done) | (simp at h; omega))) | ((with_reducible refine And.intro ?_ ?_); focus (first | omega | (intros; simp_all; done) | (simp; omega)))
              exact done0 (by simp only [pur_int, pur_bool, pur_str, pur_agg, pur_tup, pur_sl, pur_iface, pur_nilI, List.mem_cons, List.not_mem_nil, false_implies, forall_eq_or_imp, List.mem_map, forall_exists_index, and_imp, forall_apply_eq_imp_iff₂, or_false, forall_eq, implies_true, and_self, and_true, true_and, Go.Gw.stA, Go.Gw.opA, Go.Gw.ndA, Go.Gw.unA, Go.Gw.enA, Go.Gw.inA, Go.Gw.lgF, Go.Gw.lgA]) (.refl _)
        · have hie : i = n - 1 := by omega
          have hlt2 : decide (((i + 1 : Nat) : Int) < (n : Int)) = false := decide_eq_false (by omega)
          have hle := rleast_c n
          rw [← hie]
          have hbad : badR n (rAcc s pos n i) = (decide ((rAcc s pos n i : Int) < (leastB n : Int)) || (decide ((55296 : Int) ≤ (rAcc s pos n i : Int)) && decide ((rAcc s pos n i : Int) ≤ 57343)) || decide ((1114111 : Int) < (rAcc s pos n i : Int))) := by
            unfold badR
            simp only [Int.ofNat_lt]
            have e1 : decide (55296 ≤ rAcc s pos n i) = decide ((55296 : Int) ≤ (rAcc s pos n i : Int)) := by rw [decide_eq_decide]; omega
            have e2 : decide (rAcc s pos n i ≤ 57343) = decide ((rAcc s pos n i : Int) ≤ 57343) := by rw [decide_eq_decide]; omega
            have e3 : decide (1114111 < rAcc s pos n i) = decide ((1114111 : Int) < (rAcc s pos n i : Int)) := by rw [decide_eq_decide]; omega
            rw [e1, e2, e3]
          cases hb : badR n (rAcc s pos n i) with
          | true =>
            rw [if_neg (by rintro ⟨-, q⟩; cases q)]
            rw [hb] at hbad
            repeat' first | ((first | refine callK_fn (hle _) callOk98F ?_ | refine callP_fn (hle _) callOk98F ?_ | refine callM_fn (fun _ => hle _) callOk98F ?_ | refine callP_false (.bool false) ?_ | refine aw_region rfl ?_ | refine aw_region_draw mixedF rfl (by kernel_rfl) ?_ | refine aw_ret ?_ | refine aw_skip ?_ | refine aw_exit ?_ | refine aw_label ?_); simp only [go_sem, ↓reduceIte, Nat.reduceEqDiff, Nat.reduceAdd, Nat.reduceSub, Nat.reduceMul, Nat.reduceLeDiff, Nat.reduceLT, Nat.reduceBEq, Int.reduceNeg, Int.reduceLE, Int.reduceLT, Int.reduceToNat, String.reduceEq, hlt2, ← hbad]) | refine aw_seq ?_ | refine aw_block ?_ | refine aw_scope ?_ | (refine aw_cond rfl (fun h => ?_) (fun h => ?_) <;> try (exfalso; first | (simp at h; done) | (simp at h; omega))) | ((with_reducible refine And.intro ?_ ?_); focus (first | omega | (intros; simp_all; done) | (simp; omega)))
            exact done0 (by simp only [pur_int, pur_bool, pur_str, pur_agg, pur_tup, pur_sl, pur_iface, pur_nilI, List.mem_cons, List.not_mem_nil, false_implies, forall_eq_or_imp, List.mem_map, forall_exists_index, and_imp, forall_apply_eq_imp_iff₂, or_false, forall_eq, implies_true, and_self, and_true, true_and, Go.Gw.stA, Go.Gw.opA, Go.Gw.ndA, Go.Gw.unA, Go.Gw.enA, Go.Gw.inA, Go.Gw.lgF, Go.Gw.lgA]) (.refl _)
          | false =>
            rw [if_pos ⟨hco, rfl⟩]
            rw [hb] at hbad
            repeat' first | ((first | refine callK_fn (hle _) callOk98F ?_ | refine callP_fn (hle _) callOk98F ?_ | refine callM_fn (fun _ => hle _) callOk98F ?_ | refine callP_false (.bool false) ?_ | refine aw_region rfl ?_ | refine aw_region_draw mixedF rfl (by kernel_rfl) ?_ | refine aw_ret ?_ | refine aw_skip ?_ | refine aw_exit ?_ | refine aw_label ?_); simp only [go_sem, ↓reduceIte, Nat.reduceEqDiff, Nat.reduceAdd, Nat.reduceSub, Nat.reduceMul, Nat.reduceLeDiff, Nat.reduceLT, Nat.reduceBEq, Int.reduceNeg, Int.reduceLE, Int.reduceLT, Int.reduceToNat, String.reduceEq, hlt2, ← hbad]) | refine aw_seq ?_ | refine aw_block ?_ | refine aw_scope ?_ | (refine aw_cond rfl (fun h => ?_) (fun h => ?_) <;> try (exfalso; first | (simp at h; done) | (simp at h; omega))) | ((with_reducible refine And.intro ?_ ?_); focus (first | omega | (intros; simp_all; done) | (simp; omega)))
            exact done0 (by simp only [pur_int, pur_bool, pur_str, pur_agg, pur_tup, pur_sl, pur_iface, pur_nilI, List.mem_cons, List.not_mem_nil, false_implies, forall_eq_or_imp, List.mem_map, forall_exists_index, and_imp, forall_apply_eq_imp_iff₂, or_false, forall_eq, implies_true, and_self, and_true, true_and, Go.Gw.stA, Go.Gw.opA, Go.Gw.ndA, Go.Gw.unA, Go.Gw.enA, Go.Gw.inA, Go.Gw.lgF, Go.Gw.lgA]) (.refl _)

def spellI (r : Option (List Int)) : AV :=
  match r with
  | some l => .tup [.sl false (l.map inA), .bool true]
  | none => .tup [.sl false [], .bool false]
theorem takeB_le {s : Txt} {pos : Nat} (h : (takeB s pos).2 ≠ 0) : pos + (takeB s pos).2 ≤ s.length ∧ (takeB s pos).1 < 16777216 := by
  have h4 := szB_le (bt s pos 0)
  have hb := bt_lt s pos 0
  have hr := rAcc_lt s pos (szB (bt s pos 0)) (szB (bt s pos 0) - 1)
  unfold takeB at h ⊢
  split at h
  · exact absurd rfl h
  · rename_i h1
    rw [if_neg h1]
    split at h
    · rename_i h2
      rw [if_pos h2]; exact ⟨by simp only; omega, by simp only; omega⟩
    · rename_i h2
      rw [if_neg h2]
      split at h
      · rename_i h3
        rw [if_pos h3]
        refine ⟨by simp only; omega, ?_⟩
        simp only
        have : 64 ^ (szB (bt s pos 0) - 1 + 1) ≤ 16777216 := by
          rcases (show szB (bt s pos 0) = 2 ∨ szB (bt s pos 0) = 3 ∨ szB (bt s pos 0) = 4 by omega) with e | e | e <;> rw [e] <;> decide
        omega
      · exact absurd rfl h

theorem rall_c (s : Txt) (hs : s.length ≤ 1073741824) (H : AHeap) : FnC Try.prog 91 [.str s] H (spellI (spell s)) := by
  refine fnC_of Try.func91 rfl (Nat.le_of_ble_eq_true rfl) ?_
  repeat' first | ((first | refine callP_false (.bool false) ?_ | refine aw_region rfl ?_ | refine aw_region_draw mixedF rfl (by kernel_rfl) ?_ | refine aw_ret ?_ | refine aw_skip ?_ | refine aw_exit ?_ | refine aw_label ?_); simp only [go_sem, ↓reduceIte, Nat.reduceEqDiff, Nat.reduceAdd, Nat.reduceSub, Nat.reduceMul, Nat.reduceLeDiff, Nat.reduceLT, Nat.reduceBEq, Int.reduceNeg, Int.reduceLE, Int.reduceLT, Int.reduceToNat, String.reduceEq]) | refine aw_seq ?_ | refine aw_block ?_ | refine aw_scope ?_ | (refine aw_cond rfl (fun h => ?_) (fun h => ?_) <;> try (exfalso; first | (simp at h; done) | (simp at h; omega))) | ((with_reducible refine And.intro ?_ ?_); focus (first | omega | (intros; simp_all; done) | (simp; omega)))
  refine aw_void 4 1 rfl ?_
  refine aw_loopS (ι := Nat × List Int) (fun x => [(0, .str s), (4, .osl 1 H.length (x.2.length + 1) 0 x.2.length x.2.length), (5, .int .i64 x.1)]) (fun x => H ++ [.cells (x.2.length + 1) (x.2.map inA)])
    (fun x => spellT s x.2 x.1 = spell s ∧ x.2.length ≤ x.1 ∧ x.1 ≤ s.length) (fun x => s.length - x.1) (0, []) ⟨?_, Nat.le_refl _, Nat.zero_le _⟩ ?_ ?_ ?_
  · show (spellA s (s.length - 0) 0).map _ = _
    rw [spell, Nat.sub_zero]
    cases spellA s s.length 0 <;> simp
  · simp [go_sem]
  · simp
  · rintro ⟨pos, acc⟩ ⟨h1, h2, h3⟩
    simp only at h1 h2 h3 ⊢
    by_cases hlt : pos < s.length
    · have hli : decide ((pos : Int) < (s.length : Int)) = true := decide_eq_true (by omega)
      have hst := spell_step (acc := acc) hlt
      rw [h1] at hst
      have htk := rtake_c s pos hlt hs
      by_cases hz : (takeB s pos).2 = 0
      · rw [if_pos hz] at hst
        rw [hst]
        have hzz : decide (((takeB s pos).2 : Int) = 0) = true := decide_eq_true (by omega)
        repeat' first | ((first | refine callK_fn (htk _) callOk95F ?_ | refine callP_fn (htk _) callOk95F ?_ | refine callM_fn (fun _ => htk _) callOk95F ?_ | refine callP_false (.bool false) ?_ | refine aw_region rfl ?_ | refine aw_region_draw mixedF rfl (by kernel_rfl) ?_ | refine aw_ret ?_ | refine aw_skip ?_ | refine aw_exit ?_ | refine aw_label ?_); simp only [go_sem, ↓reduceIte, Nat.reduceEqDiff, Nat.reduceAdd, Nat.reduceSub, Nat.reduceMul, Nat.reduceLeDiff, Nat.reduceLT, Nat.reduceBEq, Int.reduceNeg, Int.reduceLE, Int.reduceLT, Int.reduceToNat, String.reduceEq, hli, hzz]) | refine aw_seq ?_ | refine aw_block ?_ | refine aw_scope ?_ | (refine aw_cond rfl (fun h => ?_) (fun h => ?_) <;> try (exfalso; first | (simp at h; done) | (simp at h; omega))) | ((with_reducible refine And.intro ?_ ?_); focus (first | omega | (intros; simp_all; done) | (simp; omega)))
        exact done (by simp only [pur_int, pur_bool, pur_str, pur_agg, pur_tup, pur_sl, pur_iface, pur_nilI, List.mem_cons, List.not_mem_nil, false_implies, forall_eq_or_imp, List.mem_map, forall_exists_index, and_imp, forall_apply_eq_imp_iff₂, or_false, forall_eq, implies_true, and_self, and_true, true_and, Go.Gw.stA, Go.Gw.opA, Go.Gw.ndA, Go.Gw.unA, Go.Gw.enA, Go.Gw.inA, Go.Gw.lgF, Go.Gw.lgA]) (.tup _ _ rfl (sims_cons (.sl _ _) (sims_cons (.refl _) sims_nil)))
      · rw [if_neg hz] at hst
        obtain ⟨hl1, hl2⟩ := takeB_le hz
        have hzz : decide (((takeB s pos).2 : Int) = 0) = false := decide_eq_false (by omega)
        have hw : IntKind.i64.wrap ((pos : Int) + ((takeB s pos).2 : Int)) = ((pos + (takeB s pos).2 : Nat) : Int) := wrap_nat (by omega) (by omega)
        generalize (takeB s pos).2 = k at *
        generalize (takeB s pos).1 = r at *
        repeat' first | ((first | refine callK_fn (htk _) callOk95F ?_ | refine callP_fn (htk _) callOk95F ?_ | refine callM_fn (fun _ => htk _) callOk95F ?_ | refine callP_false (.bool false) ?_ | refine aw_region rfl ?_ | refine aw_region_draw mixedF rfl (by kernel_rfl) ?_ | refine aw_ret ?_ | refine aw_skip ?_ | refine aw_exit ?_ | refine aw_label ?_); simp only [go_sem, ↓reduceIte, Nat.reduceEqDiff, Nat.reduceAdd, Nat.reduceSub, Nat.reduceMul, Nat.reduceLeDiff, Nat.reduceLT, Nat.reduceBEq, Int.reduceNeg, Int.reduceLE, Int.reduceLT, Int.reduceToNat, String.reduceEq, hli, hzz, hw]) | refine aw_seq ?_ | refine aw_block ?_ | refine aw_scope ?_ | (refine aw_cond rfl (fun h => ?_) (fun h => ?_) <;> try (exfalso; first | (simp at h; done) | (simp at h; omega))) | ((with_reducible refine And.intro ?_ ?_); focus (first | omega | (intros; simp_all; done) | (simp; omega)))
        refine ⟨⟨by omega, fun e he => by rw [he]; rfl, by omega⟩, ?_⟩
        repeat' first | ((first | refine callP_false (.bool false) ?_ | refine aw_region rfl ?_ | refine aw_region_draw mixedF rfl (by kernel_rfl) ?_ | refine aw_ret ?_ | refine aw_skip ?_ | refine aw_exit ?_ | refine aw_label ?_); simp only [go_sem, ↓reduceIte, Nat.reduceEqDiff, Nat.reduceAdd, Nat.reduceSub, Nat.reduceMul, Nat.reduceLeDiff, Nat.reduceLT, Nat.reduceBEq, Int.reduceNeg, Int.reduceLE, Int.reduceLT, Int.reduceToNat, String.reduceEq, hw]) | refine aw_seq ?_ | refine aw_block ?_ | refine aw_scope ?_ | (refine aw_cond rfl (fun h => ?_) (fun h => ?_) <;> try (exfalso; first | (simp at h; done) | (simp at h; omega))) | ((with_reducible refine And.intro ?_ ?_); focus (first | omega | (intros; simp_all; done) | (simp; omega)))
        exact ⟨(pos + k, acc ++ [(r : Int)]), ⟨hst.symm, by simp only [List.length_append, List.length_singleton]; omega, hl1⟩, by simp only; omega, ⟨by simp only [List.length_append, List.length_singleton], rfl⟩, by simp only [List.map_append, List.length_append, List.length_singleton]; rfl⟩
    · have hli : decide ((pos : Int) < (s.length : Int)) = false := decide_eq_false (by omega)
      rw [← h1, spellT_end hlt]
      repeat' first | ((first | refine callP_false (.bool false) ?_ | refine aw_region rfl ?_ | refine aw_region_draw mixedF rfl (by kernel_rfl) ?_ | refine aw_ret ?_ | refine aw_skip ?_ | refine aw_exit ?_ | refine aw_label ?_); simp only [go_sem, ↓reduceIte, Nat.reduceEqDiff, Nat.reduceAdd, Nat.reduceSub, Nat.reduceMul, Nat.reduceLeDiff, Nat.reduceLT, Nat.reduceBEq, Int.reduceNeg, Int.reduceLE, Int.reduceLT, Int.reduceToNat, String.reduceEq, hli]) | refine aw_seq ?_ | refine aw_block ?_ | refine aw_scope ?_ | (refine aw_cond rfl (fun h => ?_) (fun h => ?_) <;> try (exfalso; first | (simp at h; done) | (simp at h; omega))) | ((with_reducible refine And.intro ?_ ?_); focus (first | omega | (intros; simp_all; done) | (simp; omega)))
      refine ⟨_, _, rfl, ?_, rfl⟩
      refine .tup _ _ rfl fun i x y hx hy => ?_
      match i, hx, hy with
      | 0, hx, hy =>
        cases hx; cases hy
        exact frz_osl (es := acc.map inA) (rest := []) (Nat.le_refl _) (by simp only [go_sem, ↓reduceIte, Nat.reduceEqDiff, Nat.reduceAdd, Nat.reduceSub, Nat.reduceMul, Nat.reduceLeDiff, Nat.reduceLT, Nat.reduceBEq, Int.reduceNeg, Int.reduceLE, Int.reduceLT, Int.reduceToNat, String.reduceEq]; rfl) (by rw [List.append_nil, flat_in]) (List.length_map ..) (fun e he => by obtain ⟨x, _, rfl⟩ := List.mem_map.1 he; rfl) (fun e he => by obtain ⟨x, _, rfl⟩ := List.mem_map.1 he; exact (by simp only [pur_int, pur_bool, pur_str, pur_agg, pur_tup, pur_sl, pur_iface, pur_nilI, List.mem_cons, List.not_mem_nil, false_implies, forall_eq_or_imp, List.mem_map, forall_exists_index, and_imp, forall_apply_eq_imp_iff₂, or_false, forall_eq, implies_true, and_self, and_true, true_and, Go.Gw.stA, Go.Gw.opA, Go.Gw.ndA, Go.Gw.unA, Go.Gw.enA, Go.Gw.inA, Go.Gw.lgF, Go.Gw.lgA]))
      | 1, hx, hy => cases hx; cases hy; exact .cl _ (.bool _)
      | i + 2, hx, _ => simp at hx

theorem rname_c (s : Txt) (hs : s.length ≤ 1073741824) (H : AHeap) : FnC Try.prog 83 [.str s] H (.bool (nameOk s)) := by
  refine fnC_of Try.func83 rfl (Nat.le_of_ble_eq_true rfl) ?_
  have hall := rall_c s hs
  unfold nameOk
  cases hr : spell s with
  | none =>
    rw [hr] at hall
    simp only [spellI] at hall
    repeat' first | ((first | refine callK_fn (hall _) callOk91F ?_ | refine callP_fn (hall _) callOk91F ?_ | refine callM_fn (fun _ => hall _) callOk91F ?_ | refine callP_false (.bool false) ?_ | refine aw_region rfl ?_ | refine aw_region_draw mixedF rfl (by kernel_rfl) ?_ | refine aw_ret ?_ | refine aw_skip ?_ | refine aw_exit ?_ | refine aw_label ?_); simp only [go_sem, ↓reduceIte, Nat.reduceEqDiff, Nat.reduceAdd, Nat.reduceSub, Nat.reduceMul, Nat.reduceLeDiff, Nat.reduceLT, Nat.reduceBEq, Int.reduceNeg, Int.reduceLE, Int.reduceLT, Int.reduceToNat, String.reduceEq]) | refine aw_seq ?_ | refine aw_block ?_ | refine aw_scope ?_ | (refine aw_cond rfl (fun h => ?_) (fun h => ?_) <;> try (exfalso; first | (simp at h; done) | (simp at h; omega))) | ((with_reducible refine And.intro ?_ ?_); focus (first | omega | (intros; simp_all; done) | (simp; omega)))
    exact done0 (by simp only [pur_int, pur_bool, pur_str, pur_agg, pur_tup, pur_sl, pur_iface, pur_nilI, List.mem_cons, List.not_mem_nil, false_implies, forall_eq_or_imp, List.mem_map, forall_exists_index, and_imp, forall_apply_eq_imp_iff₂, or_false, forall_eq, implies_true, and_self, and_true, true_and, Go.Gw.stA, Go.Gw.opA, Go.Gw.ndA, Go.Gw.unA, Go.Gw.enA, Go.Gw.inA, Go.Gw.lgF, Go.Gw.lgA]) (.refl _)
  | some l =>
    rw [hr] at hall
    simp only [spellI] at hall
    simp only
    repeat' first | ((first | refine callK_fn (hall _) callOk91F ?_ | refine callP_fn (hall _) callOk91F ?_ | refine callM_fn (fun _ => hall _) callOk91F ?_ | refine callP_false (.bool false) ?_ | refine aw_region rfl ?_ | refine aw_region_draw mixedF rfl (by kernel_rfl) ?_ | refine aw_ret ?_ | refine aw_skip ?_ | refine aw_exit ?_ | refine aw_label ?_); simp only [go_sem, ↓reduceIte, Nat.reduceEqDiff, Nat.reduceAdd, Nat.reduceSub, Nat.reduceMul, Nat.reduceLeDiff, Nat.reduceLT, Nat.reduceBEq, Int.reduceNeg, Int.reduceLE, Int.reduceLT, Int.reduceToNat, String.reduceEq]) | refine aw_seq ?_ | refine aw_block ?_ | refine aw_scope ?_ | ((with_reducible refine And.intro ?_ ?_); focus (first | omega | (intros; simp_all; done) | (simp; omega)))
    refine aw_cond rfl (fun h => ?_) (fun h => ?_)
    · rw [h]
      repeat' first | ((first | refine callP_false (.bool false) ?_ | refine aw_region rfl ?_ | refine aw_region_draw mixedF rfl (by kernel_rfl) ?_ | refine aw_ret ?_ | refine aw_skip ?_ | refine aw_exit ?_ | refine aw_label ?_); simp only [go_sem, ↓reduceIte, Nat.reduceEqDiff, Nat.reduceAdd, Nat.reduceSub, Nat.reduceMul, Nat.reduceLeDiff, Nat.reduceLT, Nat.reduceBEq, Int.reduceNeg, Int.reduceLE, Int.reduceLT, Int.reduceToNat, String.reduceEq]) | refine aw_seq ?_ | refine aw_block ?_ | refine aw_scope ?_ | (refine aw_cond rfl (fun h => ?_) (fun h => ?_) <;> try (exfalso; first | (simp at h; done) | (simp at h; omega))) | ((with_reducible refine And.intro ?_ ?_); focus (first | omega | (intros; simp_all; done) | (simp; omega)))
      exact done0 (by simp only [pur_int, pur_bool, pur_str, pur_agg, pur_tup, pur_sl, pur_iface, pur_nilI, List.mem_cons, List.not_mem_nil, false_implies, forall_eq_or_imp, List.mem_map, forall_exists_index, and_imp, forall_apply_eq_imp_iff₂, or_false, forall_eq, implies_true, and_self, and_true, true_and, Go.Gw.stA, Go.Gw.opA, Go.Gw.ndA, Go.Gw.unA, Go.Gw.enA, Go.Gw.inA, Go.Gw.lgF, Go.Gw.lgA]) (.refl _)
    rw [h]
    refine aw_skip ?_
    simp only [go_sem, ↓reduceIte, Nat.reduceEqDiff, Nat.reduceAdd, Nat.reduceSub, Nat.reduceMul, Nat.reduceLeDiff, Nat.reduceLT, Nat.reduceBEq, Int.reduceNeg, Int.reduceLE, Int.reduceLT, Int.reduceToNat, String.reduceEq]
    repeat' first | ((first | refine callP_false (.bool false) ?_ | refine aw_region rfl ?_ | refine aw_region_draw mixedF rfl (by kernel_rfl) ?_ | refine aw_ret ?_ | refine aw_skip ?_ | refine aw_exit ?_ | refine aw_label ?_); simp only [go_sem, ↓reduceIte, Nat.reduceEqDiff, Nat.reduceAdd, Nat.reduceSub, Nat.reduceMul, Nat.reduceLeDiff, Nat.reduceLT, Nat.reduceBEq, Int.reduceNeg, Int.reduceLE, Int.reduceLT, Int.reduceToNat, String.reduceEq]) | refine aw_seq ?_ | refine aw_block ?_ | refine aw_scope ?_ | (refine aw_cond rfl (fun h => ?_) (fun h => ?_) <;> try (exfalso; first | (simp at h; done) | (simp at h; omega))) | ((with_reducible refine And.intro ?_ ?_); focus (first | omega | (intros; simp_all; done) | (simp; omega)))
    refine aw_loopS (ι := Nat) (fun i => [(3, .sl false (l.map inA)), (5, .int .i64 i)]) (fun _ => H) (fun i => i ≤ l.length ∧ ∀ x ∈ l.take i, barredI x = false) (fun i => l.length - i) 0 ⟨Nat.zero_le _, by simp⟩ ?_ rfl ?_
    · simp [go_sem]
    · rintro i ⟨hi, hall2⟩
      by_cases hlt : i < l.length
      · have hpi := getD_map inA hlt
        have hli : decide ((i : Int) < (l.length : Int)) = true := decide_eq_true (by omega)
        have htk : l.take (i + 1) = l.take i ++ [l[i]] := List.take_succ_eq_append_getElem hlt
        have hmem : l[i] ∈ l := List.getElem_mem hlt
        have hbd : barredI l[i] = (decide (l[i] < 32) || decide (l[i] = 47) || decide (l[i] = 127)) := rfl
        have hsl := spellA_le s s.length 0 l hr
        have hws := wrap_succ hlt (show l.length ≤ 9223372036854775807 by omega)
        generalize l[i] = c at *
        cases hb : barredI c with
        | true =>
          rw [hb] at hbd
          have hany : l.any barredI = true := List.any_eq_true.2 ⟨c, hmem, hb⟩
          repeat' first | ((first | refine callP_false (.bool false) ?_ | refine aw_region rfl ?_ | refine aw_region_draw mixedF rfl (by kernel_rfl) ?_ | refine aw_ret ?_ | refine aw_skip ?_ | refine aw_exit ?_ | refine aw_label ?_); simp only [go_sem, ↓reduceIte, Nat.reduceEqDiff, Nat.reduceAdd, Nat.reduceSub, Nat.reduceMul, Nat.reduceLeDiff, Nat.reduceLT, Nat.reduceBEq, Int.reduceNeg, Int.reduceLE, Int.reduceLT, Int.reduceToNat, String.reduceEq, hpi, hli, inA, ← hbd]) | refine aw_seq ?_ | refine aw_block ?_ | refine aw_scope ?_ | (refine aw_cond rfl (fun h => ?_) (fun h => ?_) <;> try (exfalso; first | (simp at h; done) | (simp at h; omega))) | ((with_reducible refine And.intro ?_ ?_); focus (first | omega | (intros; simp_all; done) | (simp; omega)))
          rw [hany]; exact done0 (by simp only [pur_int, pur_bool, pur_str, pur_agg, pur_tup, pur_sl, pur_iface, pur_nilI, List.mem_cons, List.not_mem_nil, false_implies, forall_eq_or_imp, List.mem_map, forall_exists_index, and_imp, forall_apply_eq_imp_iff₂, or_false, forall_eq, implies_true, and_self, and_true, true_and, Go.Gw.stA, Go.Gw.opA, Go.Gw.ndA, Go.Gw.unA, Go.Gw.enA, Go.Gw.inA, Go.Gw.lgF, Go.Gw.lgA]) (.refl _)
        | false =>
          rw [hb] at hbd
          repeat' first | ((first | refine callP_false (.bool false) ?_ | refine aw_region rfl ?_ | refine aw_region_draw mixedF rfl (by kernel_rfl) ?_ | refine aw_ret ?_ | refine aw_skip ?_ | refine aw_exit ?_ | refine aw_label ?_); simp only [go_sem, ↓reduceIte, Nat.reduceEqDiff, Nat.reduceAdd, Nat.reduceSub, Nat.reduceMul, Nat.reduceLeDiff, Nat.reduceLT, Nat.reduceBEq, Int.reduceNeg, Int.reduceLE, Int.reduceLT, Int.reduceToNat, String.reduceEq, hpi, hli, inA, ← hbd]) | refine aw_seq ?_ | refine aw_block ?_ | refine aw_scope ?_ | (refine aw_cond rfl (fun h => ?_) (fun h => ?_) <;> try (exfalso; first | (simp at h; done) | (simp at h; omega))) | ((with_reducible refine And.intro ?_ ?_); focus (first | omega | (intros; simp_all; done) | (simp; omega)))
          refine ⟨i + 1, ⟨hlt, fun x hx => ?_⟩, by omega, congrArg _ hws⟩
          rw [htk, List.mem_append] at hx
          rcases hx with hx | hx
          · exact hall2 x hx
          · rw [List.mem_singleton] at hx; rw [hx, hb]
      · have hie : i = l.length := by omega
        subst hie
        have hli : decide ((l.length : Int) < (l.length : Int)) = false := by simp
        have hany : l.any barredI = false := by
          rw [List.take_length] at hall2
          rw [List.any_eq_false]; intro x hx; rw [hall2 x hx]; decide
        repeat' first | ((first | refine callP_false (.bool false) ?_ | refine aw_region rfl ?_ | refine aw_region_draw mixedF rfl (by kernel_rfl) ?_ | refine aw_ret ?_ | refine aw_skip ?_ | refine aw_exit ?_ | refine aw_label ?_); simp only [go_sem, ↓reduceIte, Nat.reduceEqDiff, Nat.reduceAdd, Nat.reduceSub, Nat.reduceMul, Nat.reduceLeDiff, Nat.reduceLT, Nat.reduceBEq, Int.reduceNeg, Int.reduceLE, Int.reduceLT, Int.reduceToNat, String.reduceEq, hli]) | refine aw_seq ?_ | refine aw_block ?_ | refine aw_scope ?_ | (refine aw_cond rfl (fun h => ?_) (fun h => ?_) <;> try (exfalso; first | (simp at h; done) | (simp at h; omega))) | ((with_reducible refine And.intro ?_ ?_); focus (first | omega | (intros; simp_all; done) | (simp; omega)))
        rw [hany]; exact done0 (by simp only [pur_int, pur_bool, pur_str, pur_agg, pur_tup, pur_sl, pur_iface, pur_nilI, List.mem_cons, List.not_mem_nil, false_implies, forall_eq_or_imp, List.mem_map, forall_exists_index, and_imp, forall_apply_eq_imp_iff₂, or_false, forall_eq, implies_true, and_self, and_true, true_and, Go.Gw.stA, Go.Gw.opA, Go.Gw.ndA, Go.Gw.unA, Go.Gw.enA, Go.Gw.inA, Go.Gw.lgF, Go.Gw.lgA]) (.refl _)
theorem ropOk_c (o : Opn) (hs : OpS o) (H : AHeap) : FnC Try.prog 52 [opA o] H (.bool (opOk o)) := by
  refine fnC_of Try.func52 rfl (Nat.le_of_ble_eq_true rfl) ?_
  have hnm := rname_c o.name hs.1
  simp only [opA]
  repeat' first | ((first | refine callK_fn (rcheck_c _ _ _) callOk80F ?_ | refine callP_fn (rcheck_c _ _ _) callOk80F ?_ | refine callM_fn (fun _ => rcheck_c _ _ _) callOk80F ?_ | refine callK_fn (rof_c _ _) callOk71F ?_ | refine callP_fn (rof_c _ _) callOk71F ?_ | refine callM_fn (fun _ => rof_c _ _) callOk71F ?_ | refine callK_fn (rless_c _ _ _ _ _) callOk81F ?_ | refine callP_fn (rless_c _ _ _ _ _) callOk81F ?_ | refine callM_fn (fun _ => rless_c _ _ _ _ _) callOk81F ?_ | refine callK_fn (rdir_c _ _) callOk82F ?_ | refine callP_fn (rdir_c _ _) callOk82F ?_ | refine callM_fn (fun _ => rdir_c _ _) callOk82F ?_ | refine callK_fn (hnm _) callOk83F ?_ | refine callP_fn (hnm _) callOk83F ?_ | refine callM_fn (fun _ => hnm _) callOk83F ?_ | refine callP_false (.bool false) ?_ | refine aw_region rfl ?_ | refine aw_region_draw mixedF rfl (by kernel_rfl) ?_ | refine aw_ret ?_ | refine aw_skip ?_ | refine aw_exit ?_ | refine aw_label ?_); simp only [go_sem, ↓reduceIte, Nat.reduceEqDiff, Nat.reduceAdd, Nat.reduceSub, Nat.reduceMul, Nat.reduceLeDiff, Nat.reduceLT, Nat.reduceBEq, Int.reduceNeg, Int.reduceLE, Int.reduceLT, Int.reduceToNat, String.reduceEq]) | refine aw_seq ?_ | refine aw_block ?_ | refine aw_scope ?_ | (refine aw_cond rfl (fun h => ?_) (fun h => ?_) <;> try (exfalso; first | (simp at h; done) | (simp at h; omega))) | ((with_reducible refine And.intro ?_ ?_); focus (first | omega | (intros; simp_all; done) | (simp; omega)))
  all_goals (refine done (by simp only [pur_int, pur_bool, pur_str, pur_agg, pur_tup, pur_sl, pur_iface, pur_nilI, List.mem_cons, List.not_mem_nil, false_implies, forall_eq_or_imp, List.mem_map, forall_exists_index, and_imp, forall_apply_eq_imp_iff₂, or_false, forall_eq, implies_true, and_self, and_true, true_and, Go.Gw.stA, Go.Gw.opA, Go.Gw.ndA, Go.Gw.unA, Go.Gw.enA, Go.Gw.inA, Go.Gw.lgF, Go.Gw.lgA]) (.of (congrArg AV.bool ?_)); unfold opOk fitsM fitsW laterI)
  · revert h
    cases okI o.at_.c o.at_.r <;> cases ofOk o.node <;> cases lessI o.at_.c o.at_.r (oA o.node) (oB o.node) <;> cases hop : ofOk o.parent <;> cases lessI o.at_.c o.at_.r (oA o.parent) (oB o.parent) <;> simp
    intro q q1 q2 q3 q4
    rw [q4] at hop; exact absurd hop (by decide)
  · rename_i h1
    rw [decide_eq_true_eq] at h
    simp only [h, if_true, decide_true, Bool.true_or, Bool.true_and]
    revert h1
    cases okI o.at_.c o.at_.r <;> cases ofOk o.node <;> cases lessI o.at_.c o.at_.r (oA o.node) (oB o.node) <;> cases ofOk o.parent <;> cases lessI o.at_.c o.at_.r (oA o.parent) (oB o.parent) <;> simp
  · rename_i h1
    rw [decide_eq_false_iff_not] at h
    simp only [h, if_false, decide_false, Bool.false_or]
    revert h1
    cases okI o.at_.c o.at_.r <;> cases ofOk o.node <;> cases lessI o.at_.c o.at_.r (oA o.node) (oB o.node) <;> cases ofOk o.parent <;> cases lessI o.at_.c o.at_.r (oA o.parent) (oB o.parent) <;> simp [Bool.and_assoc]
end Go.Proofs.Ytoffonjlfomnbaa
