/- The law's opening of the logs: calls whose answers are fixed. No condition. -/
import Derived.Test.YtoffonjlfomnbaaGwMerge4
import Derived.Test.YtoffonjlfomnbaaGwDoP
namespace Go.Gw
open Go Go.Aw Go.Proofs.Ytoffonjlfomnbaa
def mv (c n p : Int) : Opn := ⟨⟨c, 0⟩, 1, n, p, [120], []⟩
def awOps : List Opn := [mv 3 128 256, mv 2 256 128, mv 1 128 0, mv 1 128 0, op0]
def awG : Lg := ⟨[⟨mv 1 128 0, ⟨true, false, nd0⟩⟩, ⟨mv 2 256 128, ⟨true, false, nd0⟩⟩, ⟨mv 3 128 256, und0⟩], [⟨128, 0, [120], ⟨1, 0⟩, [], st0⟩, ⟨256, 128, [120], ⟨2, 0⟩, [], st0⟩]⟩
theorem awG_eq : allG ⟨[], []⟩ awOps = awG := by decide +kernel
theorem awN_eq : allN ⟨[], []⟩ awOps = 1 := by decide +kernel
theorem awAdd_eq : addG awG (mv 2 256 0) = awG := by decide +kernel
theorem awAddE_eq : addE awG (mv 2 256 0) = 0 := by decide +kernel
theorem mv_S (c n p : Int) : OpS (mv c n p) := ⟨(by decide : ([120] : Txt).length ≤ 1073741824), (by decide : ([] : Txt).length ≤ 1073741824)⟩
end Go.Gw
namespace Go.Aw
theorem callAt_of {P : Program} {g : Bool} {f : FuncId} {args : List AV} {H : AHeap} {x : AV} (h : FnC P f args H x) (ok : callOk P f = true) : callAt P g (.func (.func f) [] []) args x H :=
  fun _ => ⟨ok, by simp only [List.nil_append, List.append_nil]; exact h⟩
end Go.Aw
namespace Go.Proofs.Ytoffonjlfomnbaa
open Go Go.Aw Go.Gw
set_option linter.unusedSimpArgs false
set_option maxRecDepth 20000
set_option maxHeartbeats 2000000

theorem mv7_c (a b c : Int) (H : AHeap) : FnC Try.prog 17 [.int .i64 a, .int .i64 b, .int .i64 c] H (opA (mv a b c)) := by
  refine fnC_of Try.func17 rfl (Nat.le_of_ble_eq_true rfl) ?_
  repeat' first | ((first | refine callP_false (.bool false) ?_ | refine aw_region rfl ?_ | refine aw_region_draw mixedF rfl (by kernel_rfl) ?_ | refine aw_ret ?_ | refine aw_skip ?_ | refine aw_exit ?_ | refine aw_label ?_); simp only [go_sem, ↓reduceIte, Nat.reduceEqDiff, Nat.reduceAdd, Nat.reduceSub, Nat.reduceMul, Nat.reduceLeDiff, Nat.reduceLT, Nat.reduceBEq, Int.reduceNeg, Int.reduceLE, Int.reduceLT, Int.reduceToNat, String.reduceEq]) | refine aw_seq ?_ | refine aw_block ?_ | refine aw_scope ?_ | (refine aw_cond rfl (fun h => ?_) (fun h => ?_) <;> try (exfalso; first | (simp at h; done) | (simp at h; omega))) | ((with_reducible refine And.intro ?_ ?_); focus (first | omega | (intros; simp_all; done) | (simp; omega)))
  exact done (by simp only [pur_int, pur_bool, pur_str, pur_agg, pur_tup, pur_sl, pur_iface, pur_nilI, List.mem_cons, List.not_mem_nil, false_implies, forall_eq_or_imp, List.mem_map, forall_exists_index, and_imp, forall_apply_eq_imp_iff₂, or_false, forall_eq, implies_true, and_self, and_true, true_and, Go.Gw.stA, Go.Gw.opA, Go.Gw.ndA, Go.Gw.unA, Go.Gw.enA, Go.Gw.inA, Go.Gw.lgF, Go.Gw.lgA]) (.refl _)

theorem awake7_c (H : AHeap) : FnC Try.prog 16 [] H (.bool true) := by
  refine fnC_of Try.func16 rfl (Nat.le_of_ble_eq_true rfl) ?_
  have hmv := mv7_c
  have hall := mall_c true true true ⟨[], []⟩ awOps (Fit.nil _ (by decide)) (fun o ho => by
    simp only [awOps, List.mem_cons, List.not_mem_nil, or_false] at ho
    rcases ho with rfl | rfl | rfl | rfl | rfl <;> exact ⟨by decide, by decide⟩)
  have hadd := madd_c false false awG (mv 2 256 0) (mv_S _ _ _) (fun e he => by
    simp only [awG, List.mem_cons, List.not_mem_nil, or_false] at he
    rcases he with rfl | rfl | rfl <;> exact ⟨by decide, by decide⟩) (by decide) (by decide)
  have hsame := same7_c false false false false awG awG
  have hhas := fun a => has_c false false awG a
  have hops := mops_c false false awG (by decide)
  rw [awG_eq, awN_eq] at hall
  rw [awAdd_eq, awAddE_eq] at hadd
  have e3 : hasAt awG.entries ⟨3, 0⟩ = true := by decide
  have e4 : hasAt awG.entries ⟨4, 0⟩ = false := by decide
  have hh3 := hhas ⟨3, 0⟩
  have hh4 := hhas ⟨4, 0⟩
  rw [e3] at hh3
  rw [e4] at hh4
  rw [decide_eq_true rfl] at hsame
  simp only [opA, mv] at hmv
  simp only [awOps, mv, op0, st0, List.map_cons, List.map_nil, opA, lgF, lgA, tagV] at hall
  simp only [mv, opA, lgF, lgA, tagV] at hadd
  simp only [lgF] at hsame hops
  simp only [lgF, stA] at hh3 hh4
  have gl : awG.entries.length = 3 := rfl
  have gn : awG.nodes.length = 2 := rfl
  have go : (opsG awG).length = 3 := rfl
  have g1 : (List.map enA awG.entries).getD 1 .top = enA ⟨mv 2 256 128, ⟨true, false, nd0⟩⟩ := rfl
  have g2 : (List.map enA awG.entries).getD 2 .top = enA ⟨mv 3 128 256, und0⟩ := rfl
  have g3 : (List.map ndA awG.nodes).getD 1 .top = ndA ⟨256, 128, [120], ⟨2, 0⟩, [], st0⟩ := rfl
  repeat' first | ((first | refine callK_fn (hmv _ _ _ _) callOk17F ?_ | refine callP_fn (hmv _ _ _ _) callOk17F ?_ | refine callM_fn (fun _ => hmv _ _ _ _) callOk17F ?_ | refine callK_fn (hall _) callOk18F ?_ | refine callP_fn (hall _) callOk18F ?_ | refine callM_fn (fun _ => hall _) callOk18F ?_ | refine callK_fn (hadd _) callOk19F ?_ | refine callP_fn (hadd _) callOk19F ?_ | refine callM_fn (fun _ => hadd _) callOk19F ?_ | refine callK_fn (hsame _) callOk20F ?_ | refine callP_fn (hsame _) callOk20F ?_ | refine callM_fn (fun _ => hsame _) callOk20F ?_ | refine callK_fn (hh3 _) callOk24F ?_ | refine callP_fn (hh3 _) callOk24F ?_ | refine callM_fn (fun _ => hh3 _) callOk24F ?_ | refine callK_fn (hh4 _) callOk24F ?_ | refine callP_fn (hh4 _) callOk24F ?_ | refine callM_fn (fun _ => hh4 _) callOk24F ?_ | refine callK_fn (hops _) callOk27F ?_ | refine callP_fn (hops _) callOk27F ?_ | refine callM_fn (fun _ => hops _) callOk27F ?_ | refine aw_region_mix (id := 2) [.pure 0, .pure 0, .pure 0, .free, .free, .free, .eff [true, true, true], .eff [false, false, false], .free] mixedF rfl (by kernel_rfl) (by kernel_rfl) ?_ | refine callP_false (.bool false) ?_ | refine aw_region rfl ?_ | refine aw_region_draw mixedF rfl (by kernel_rfl) ?_ | refine aw_ret ?_ | refine aw_skip ?_ | refine aw_exit ?_ | refine aw_label ?_); simp only [go_sem, ↓reduceIte, Nat.reduceEqDiff, Nat.reduceAdd, Nat.reduceSub, Nat.reduceMul, Nat.reduceLeDiff, Nat.reduceLT, Nat.reduceBEq, Int.reduceNeg, Int.reduceLE, Int.reduceLT, Int.reduceToNat, String.reduceEq, gl, gn, go, g1, g2, g3, enA, ndA, und0, nd0]) | ((with_reducible refine And.intro ?_ ?_); focus (exact callAt_of (hmv _ _ _ _) callOk17F)) | ((with_reducible refine And.intro (And.intro ?_ ?_) ?_); focus (exact callAt_of (hmv _ _ _ _) callOk17F)) | (exact callAt_of (hmv _ _ _ _) callOk17F) | ((with_reducible refine And.intro ?_ ?_); focus (exact callAt_of (hadd _) callOk19F)) | ((with_reducible refine And.intro (And.intro ?_ ?_) ?_); focus (exact callAt_of (hadd _) callOk19F)) | (exact callAt_of (hadd _) callOk19F) | refine aw_seq ?_ | refine aw_block ?_ | refine aw_scope ?_ | (refine aw_cond rfl (fun h => ?_) (fun h => ?_) <;> try (exfalso; first | (simp at h; done) | (simp at h; omega))) | ((with_reducible refine And.intro ?_ ?_); focus (first | omega | (intros; simp_all; done) | (simp; omega)))
  exact done (by simp only [pur_int, pur_bool, pur_str, pur_agg, pur_tup, pur_sl, pur_iface, pur_nilI, List.mem_cons, List.not_mem_nil, false_implies, forall_eq_or_imp, List.mem_map, forall_exists_index, and_imp, forall_apply_eq_imp_iff₂, or_false, forall_eq, implies_true, and_self, and_true, true_and, Go.Gw.stA, Go.Gw.opA, Go.Gw.ndA, Go.Gw.unA, Go.Gw.enA, Go.Gw.inA, Go.Gw.lgF, Go.Gw.lgA]) (.of (congrArg AV.bool (by decide)))
end Go.Proofs.Ytoffonjlfomnbaa
/- MergeOrder, walked. No condition. -/
namespace Go.Gw
open Go Go.Aw Go.Proofs.Ytoffonjlfomnbaa

theorem ofG_ext {a b : List Opn} (ha : a.length ≤ 200) (hb : b.length ≤ 200) (h : ∀ x, x ∈ a ↔ x ∈ b) (hu : ∀ x ∈ a, ∀ y ∈ a, x.at_ = y.at_ → x = y) : ofG a = ofG b := by
  refine good_ext (good_of a) (good_of b) fun x => ?_
  have ma := all_mem good_nil a
  have mb := all_mem good_nil b
  have e0 : opsG ⟨[], []⟩ = [] := rfl
  rw [e0] at ma mb
  simp only [List.not_mem_nil, false_or, List.length_nil, Nat.zero_add] at ma mb
  show x ∈ opsG (allG ⟨[], []⟩ a) ↔ x ∈ opsG (allG ⟨[], []⟩ b)
  constructor
  · intro hx
    obtain ⟨h1, h2⟩ := ma.1 x hx
    obtain ⟨y, hy, he⟩ := mb.2.2.2 hb x ((h x).1 h1) h2
    have := hu y ((h y).2 (mb.1 y hy).1) x h1 he
    rw [← this]; exact hy
  · intro hx
    obtain ⟨h1, h2⟩ := mb.1 x hx
    obtain ⟨y, hy, he⟩ := ma.2.2.2 ha x ((h x).2 h1) h2
    have := hu y (ma.1 y hy).1 x ((h x).2 h1) he
    rw [← this]; exact hy

def turnO (l : List Opn) (w : Nat) (i : Nat) : List Opn := (List.range i).flatMap fun j => [l.getD ((j + w) % l.length) op0, l.getD j op0]
theorem turnO_succ (l : List Opn) (w i : Nat) : turnO l w (i + 1) = turnO l w i ++ [l.getD ((i + w) % l.length) op0, l.getD i op0] := by
  simp [turnO, List.range_succ]
theorem turnO_len (l : List Opn) (w i : Nat) : (turnO l w i).length = 2 * i := by
  induction i with
  | zero => rfl
  | succ i ih => rw [turnO_succ, List.length_append, ih]; simp; omega
theorem turnO_mem (l : List Opn) (w i : Nat) (hi : i ≤ l.length) : (∀ x ∈ turnO l w i, x ∈ l) ∧ ∀ j (hj : j < i), l[j]'(by omega) ∈ turnO l w i := by
  induction i with
  | zero => exact ⟨fun x hx => by simp [turnO] at hx, fun j hj => by omega⟩
  | succ i ih =>
    obtain ⟨h1, h2⟩ := ih (by omega)
    have hm : (i + w) % l.length < l.length := Nat.mod_lt _ (by omega)
    rw [turnO_succ]
    refine ⟨fun x hx => ?_, fun j hj => ?_⟩
    · rw [List.mem_append] at hx
      rcases hx with hx | hx
      · exact h1 x hx
      · rw [List.getD_eq_getElem?_getD, List.getElem?_eq_getElem hm, List.getD_eq_getElem?_getD, List.getElem?_eq_getElem (show i < l.length by omega)] at hx
        simp only [Option.getD_some, List.mem_cons, List.not_mem_nil, or_false] at hx
        rcases hx with rfl | rfl <;> exact List.getElem_mem _
    · rw [List.mem_append]
      by_cases e : j = i
      · subst e
        right
        rw [List.getD_eq_getElem?_getD (i := j), List.getElem?_eq_getElem (show j < l.length by omega)]
        simp
      · exact .inl (h2 j (by omega))
theorem order_eq {l : List Opn} (w : Nat) (hl : l.length ≤ 60) (hu : ∀ i (hi : i < l.length), ∀ k (hk : k < i), (l[k]'(by omega)).at_ = l[i].at_ → l[k]'(by omega) = l[i]) : ofG (turnO l w l.length) = ofG l := by
  obtain ⟨h1, h2⟩ := turnO_mem l w l.length (Nat.le_refl _)
  have key : ∀ x ∈ l, ∀ y ∈ l, x.at_ = y.at_ → x = y := by
    intro x hx y hy he
    obtain ⟨i, hi, rfl⟩ := List.getElem_of_mem hx
    obtain ⟨k, hk, rfl⟩ := List.getElem_of_mem hy
    rcases Nat.lt_trichotomy i k with q | q | q
    · exact hu k hk i q he
    · subst q; rfl
    · exact (hu i hi k q he.symm).symm
  refine ofG_ext (by rw [turnO_len]; omega) (by omega) (fun x => ⟨h1 x, fun hx => ?_⟩) (fun x hx y hy => key x (h1 x hx) y (h1 y hy))
  obtain ⟨i, hi, rfl⟩ := List.getElem_of_mem hx
  exact h2 i hi
theorem few_S {l : List Opn} {n : Int} (h : fewOpn l n = true) : (∀ o ∈ l, OpS o) ∧ (l.length : Int) ≤ n := by
  rw [fewOpn, Bool.and_eq_true] at h
  refine ⟨fun o ho => ?_, of_decide_eq_true h.2⟩
  have := List.all_eq_true.1 h.1 o ho
  simp [longOpn] at this
  exact ⟨by omega, by omega⟩
end Go.Gw
namespace Go.Proofs.Ytoffonjlfomnbaa
open Go Go.Aw Go.Gw
set_option linter.unusedSimpArgs false
set_option maxRecDepth 20000
set_option maxHeartbeats 2000000

theorem order_c (b : Bool) (l : List Opn) (w : Int) (H : AHeap) : FnC Try.prog 5 [.sl b (l.map opA), .int .u8 w] H (.bool true) := by
  refine fnC_ok2 fun hok1 hok2 => ?_
  have hw := ok_u8 hok2
  have hl := ok_sl hok1
  rw [List.length_map] at hl
  refine fnC_of Try.func5 rfl (Nat.le_of_ble_eq_true rfl) ?_
  have hfew := few5_c b l 60
  repeat' first | ((first | refine callK_fn (awake7_c _) callOk16F ?_ | refine callP_fn (awake7_c _) callOk16F ?_ | refine callM_fn (fun _ => awake7_c _) callOk16F ?_ | refine callK_fn (hfew _) callOk21F ?_ | refine callP_fn (hfew _) callOk21F ?_ | refine callM_fn (fun _ => hfew _) callOk21F ?_ | refine callP_false (.bool false) ?_ | refine aw_region rfl ?_ | refine aw_region_draw mixedF rfl (by kernel_rfl) ?_ | refine aw_ret ?_ | refine aw_skip ?_ | refine aw_exit ?_ | refine aw_label ?_); simp only [go_sem, ↓reduceIte, Nat.reduceEqDiff, Nat.reduceAdd, Nat.reduceSub, Nat.reduceMul, Nat.reduceLeDiff, Nat.reduceLT, Nat.reduceBEq, Int.reduceNeg, Int.reduceLE, Int.reduceLT, Int.reduceToNat, String.reduceEq]) | refine aw_seq ?_ | refine aw_block ?_ | refine aw_scope ?_ | (refine aw_cond rfl (fun h => ?_) (fun h => ?_) <;> try (exfalso; first | (simp at h; done) | (simp at h; omega))) | ((with_reducible refine And.intro ?_ ?_); focus (first | omega | (intros; simp_all; done) | (simp; omega)))
  · exact done0 (by simp only [pur_int, pur_bool, pur_str, pur_agg, pur_tup, pur_sl, pur_iface, pur_nilI, List.mem_cons, List.not_mem_nil, false_implies, forall_eq_or_imp, List.mem_map, forall_exists_index, and_imp, forall_apply_eq_imp_iff₂, or_false, forall_eq, implies_true, and_self, and_true, true_and, Go.Gw.stA, Go.Gw.opA, Go.Gw.ndA, Go.Gw.unA, Go.Gw.enA, Go.Gw.inA, Go.Gw.lgF, Go.Gw.lgA]) (.refl _)
  have hfe : fewOpn l 60 = true := by simpa using h
  obtain ⟨hS, hl60⟩ := few_S hfe
  obtain ⟨u, rfl⟩ : ∃ u : Nat, w = (u : Int) := ⟨w.toNat, by omega⟩
  refine aw_void 6 7 rfl ?_
  refine aw_loopS (ι := Nat × AHeap) (fun x => [(0, .sl b (l.map opA)), (1, .int .u8 u), (5, .bool true), (6, .osl 7 H.length (x.1 + 1) 0 (2 * x.1) (2 * x.1)), (7, .int .i64 x.1)]) (fun x => x.2)
    (fun x => x.1 ≤ l.length ∧ (∀ i (hi : i < l.length), i < x.1 → ∀ k (hk : k < i), (l[k]'(by omega)).at_ = l[i].at_ → l[k]'(by omega) = l[i]) ∧ hget x.2 H.length = .cells (x.1 + 1) (((turnO l u x.1).map opA).flatMap AV.cells) ∧ ∃ M, x.2 = H ++ M)
    (fun x => l.length - x.1) (0, _) ⟨Nat.zero_le _, fun i hi h => by omega, by simp only [go_sem, ↓reduceIte, Nat.reduceEqDiff, Nat.reduceAdd, Nat.reduceSub, Nat.reduceMul, Nat.reduceLeDiff, Nat.reduceLT, Nat.reduceBEq, Int.reduceNeg, Int.reduceLE, Int.reduceLT, Int.reduceToNat, String.reduceEq]; rfl, ⟨_, rfl⟩⟩ ?_ rfl ?_
  · simp [go_sem]
  · rintro ⟨i, X⟩ ⟨hi, hu, r1, rP⟩
    simp only at hi hu r1 rP ⊢
    have hX1 : H.length < X.length := hget_lt r1 trivial
    have r1' := fun M => hget_appL r1 trivial M
    have qs := fun M b => hset_appL hX1 M b
    have hfl := flat_op_len (turnO l u i)
    rw [turnO_len] at hfl
    by_cases hlt : i < l.length
    · have hli : decide ((i : Int) < (l.length : Int)) = true := decide_eq_true (by omega)
      have hpi := getD_map opA hlt
      repeat' first | ((first | refine aw_region_mix (id := 14) [.free, .pure 0, .free, .free, .pure 0, .pure 0, .free, .eff [true, true, true], .free] mixedF rfl (by kernel_rfl) (by kernel_rfl) ?_ | refine callP_false (.bool false) ?_ | refine aw_region rfl ?_ | refine aw_region_draw mixedF rfl (by kernel_rfl) ?_ | refine aw_ret ?_ | refine aw_skip ?_ | refine aw_exit ?_ | refine aw_label ?_); simp only [go_sem, ↓reduceIte, Nat.reduceEqDiff, Nat.reduceAdd, Nat.reduceSub, Nat.reduceMul, Nat.reduceLeDiff, Nat.reduceLT, Nat.reduceBEq, Int.reduceNeg, Int.reduceLE, Int.reduceLT, Int.reduceToNat, String.reduceEq, hli]) | refine aw_seq ?_ | refine aw_block ?_ | refine aw_scope ?_ | (refine aw_cond rfl (fun h => ?_) (fun h => ?_) <;> try (exfalso; first | (simp at h; done) | (simp at h; omega))) | ((with_reducible refine And.intro ?_ ?_); focus (first | omega | (intros; simp_all; done) | (simp; omega)))
      refine aw_loopS (ι := Nat) (fun k => [(0, .sl b (l.map opA)), (1, .int .u8 u), (5, .bool true), (6, .osl 7 H.length (i + 1) 0 (2 * i) (2 * i)), (7, .int .i64 i), (8, .int .i64 k)]) (fun _ => X)
        (fun k => k ≤ i ∧ ∀ j (hj : j < k) (hj2 : j < l.length), l[j].at_ = l[i].at_ → l[j] = l[i]) (fun k => i - k) 0 ⟨Nat.zero_le _, fun j hj => by omega⟩ ?_ rfl ?_
      · simp [go_sem]
      · rintro k ⟨hk, hku⟩
        by_cases hkt : k < i
        · have hki : decide ((k : Int) < (i : Int)) = true := decide_eq_true (by omega)
          have hpk := getD_map opA (show k < l.length by omega)
          repeat' first | ((first | refine aw_region_mix (id := 14) [.free, .pure 0, .free, .free, .pure 0, .pure 0, .free, .eff [true, true, true], .free] mixedF rfl (by kernel_rfl) (by kernel_rfl) ?_ | refine callP_false (.bool false) ?_ | refine aw_region rfl ?_ | refine aw_region_draw mixedF rfl (by kernel_rfl) ?_ | refine aw_ret ?_ | refine aw_skip ?_ | refine aw_exit ?_ | refine aw_label ?_); simp only [go_sem, ↓reduceIte, Nat.reduceEqDiff, Nat.reduceAdd, Nat.reduceSub, Nat.reduceMul, Nat.reduceLeDiff, Nat.reduceLT, Nat.reduceBEq, Int.reduceNeg, Int.reduceLE, Int.reduceLT, Int.reduceToNat, String.reduceEq, hki, hpi, hpk, opA]) | refine aw_seq ?_ | refine aw_block ?_ | refine aw_scope ?_ | (refine aw_cond rfl (fun h => ?_) (fun h => ?_) <;> try (exfalso; first | (simp at h; done) | (simp at h; omega))) | ((with_reducible refine And.intro ?_ ?_); focus (first | omega | (intros; simp_all; done) | (simp; omega)))
          · obtain ⟨M, hM⟩ := rP
            exact doneG0 hM.symm (by simp only [pur_int, pur_bool, pur_str, pur_agg, pur_tup, pur_sl, pur_iface, pur_nilI, List.mem_cons, List.not_mem_nil, false_implies, forall_eq_or_imp, List.mem_map, forall_exists_index, and_imp, forall_apply_eq_imp_iff₂, or_false, forall_eq, implies_true, and_self, and_true, true_and, Go.Gw.stA, Go.Gw.opA, Go.Gw.ndA, Go.Gw.unA, Go.Gw.enA, Go.Gw.inA, Go.Gw.lgF, Go.Gw.lgA]) (.refl _)
          · rw [op_eq] at h
            refine ⟨k + 1, ⟨hkt, fun j hj hj2 he => ?_⟩, by omega, congrArg _ (wrap_succ (n := l.length) (by omega) (by omega))⟩
            by_cases e : j = k
            · subst e
              rw [he] at h
              simpa using h
            · exact hku j (by omega) hj2 he
        · have hke : k = i := by omega
          subst hke
          have hki : decide ((k : Int) < (k : Int)) = false := by simp
          have hm : (k + u) % l.length < l.length := Nat.mod_lt _ (by omega)
          have hpm := getD_map opA hm
          have ew : (IntKind.i64.wrap ((k : Int) + IntKind.i64.wrap (u : Int))).tmod (l.length : Int) = (((k + u) % l.length : Nat) : Int) := by
            rw [wrap_i64 (n := (u : Int)) (by omega) (by omega), wrap_i64 (by omega) (by omega), Int.tmod_eq_emod_of_nonneg (by omega)]; push_cast; rfl
          have hz : decide ((l.length : Int) = 0) = false := decide_eq_false (by omega)
          have hmi : decide ((((k + u) % l.length : Nat) : Int) < (l.length : Int)) = true := decide_eq_true (by omega)
          have qg : ∀ b c, hget (hset X H.length b ++ [c]) X.length = c := fun b c => (hget_at0 (hset_len X H.length b)).trans rfl
          repeat' first | ((first | refine aw_region_mix (id := 14) [.free, .pure 0, .free, .free, .pure 0, .pure 0, .free, .eff [true, true, true], .free] mixedF rfl (by kernel_rfl) (by kernel_rfl) ?_ | refine callP_false (.bool false) ?_ | refine aw_region rfl ?_ | refine aw_region_draw mixedF rfl (by kernel_rfl) ?_ | refine aw_ret ?_ | refine aw_skip ?_ | refine aw_exit ?_ | refine aw_label ?_); simp only [go_sem, ↓reduceIte, Nat.reduceEqDiff, Nat.reduceAdd, Nat.reduceSub, Nat.reduceMul, Nat.reduceLeDiff, Nat.reduceLT, Nat.reduceBEq, Int.reduceNeg, Int.reduceLE, Int.reduceLT, Int.reduceToNat, String.reduceEq, hki, hpi, hpm, ew, hz, hmi, opA, hfl, r1', qs, qg]) | refine aw_seq ?_ | refine aw_block ?_ | refine aw_scope ?_ | (refine aw_cond rfl (fun h => ?_) (fun h => ?_) <;> try (exfalso; first | (simp at h; done) | (simp at h; omega))) | ((with_reducible refine And.intro ?_ ?_); focus (first | omega | (intros; simp_all; done) | (simp; omega)))
          refine ⟨⟨fun a ha => by rw [ha]; rfl, by omega⟩, ⟨by omega, by omega⟩, ?_⟩
          repeat' first | ((first | refine aw_region_mix (id := 14) [.free, .pure 0, .free, .free, .pure 0, .pure 0, .free, .eff [true, true, true], .free] mixedF rfl (by kernel_rfl) (by kernel_rfl) ?_ | refine callP_false (.bool false) ?_ | refine aw_region rfl ?_ | refine aw_region_draw mixedF rfl (by kernel_rfl) ?_ | refine aw_ret ?_ | refine aw_skip ?_ | refine aw_exit ?_ | refine aw_label ?_); simp only [go_sem, ↓reduceIte, Nat.reduceEqDiff, Nat.reduceAdd, Nat.reduceSub, Nat.reduceMul, Nat.reduceLeDiff, Nat.reduceLT, Nat.reduceBEq, Int.reduceNeg, Int.reduceLE, Int.reduceLT, Int.reduceToNat, String.reduceEq]) | refine aw_seq ?_ | refine aw_block ?_ | refine aw_scope ?_ | (refine aw_cond rfl (fun h => ?_) (fun h => ?_) <;> try (exfalso; first | (simp at h; done) | (simp at h; omega))) | ((with_reducible refine And.intro ?_ ?_); focus (first | omega | (intros; simp_all; done) | (simp; omega)))
          have ec : ((turnO l u (k + 1)).map opA).flatMap AV.cells = ((turnO l u k).map opA).flatMap AV.cells ++ (opCells l[(k + u) % l.length] ++ opCells l[k]) := by
            rw [turnO_succ, List.map_append, List.flatMap_append, List.getD_eq_getElem?_getD, List.getElem?_eq_getElem hm, List.getD_eq_getElem?_getD, List.getElem?_eq_getElem hlt]
            rfl
          refine ⟨(k + 1, _), ⟨hlt, fun i hi h k' hk' he => ?_, ?_, pre_app (pre_set rP (Nat.le_refl _) _) _⟩, by simp only; omega, ⟨by simp only; congr 1, congrArg _ (wrap_succ hlt (by omega))⟩, rfl⟩
          · by_cases e : i = k
            · subst e; exact hku k' hk' (by omega) he
            · exact hu i hi (by simp only at h; omega) k' hk' he
          · simp only
            rw [ec]
            exact hget_appL (b := .cells (k + 2) _) (hget_set_eq hX1 _) trivial _
    · have hie : i = l.length := by omega
      subst hie
      have hu' : ∀ i (hi : i < l.length), ∀ k (hk : k < i), (l[k]'(by omega)).at_ = l[i].at_ → l[k]'(by omega) = l[i] := fun i hi k hk => hu i hi hi k hk
      have hli : decide ((l.length : Int) < (l.length : Int)) = false := by simp
      have heq := order_eq u (by omega) hu'
      obtain ⟨M2, hM2⟩ := pre_set rP (Nat.le_refl _) .gone
      refine aw_freeze [6] ((turnO l u l.length).map opA) (v := l.length + 1) (lc := 2 * l.length) (i := H.length) (s := 7) (cs := ((turnO l u l.length).map opA).flatMap AV.cells) (by intro t ht; simp only [List.mem_singleton] at ht; subst ht; rw [List.length_map, turnO_len]; simp only [go_sem, ↓reduceIte, Nat.reduceEqDiff, Nat.reduceAdd, Nat.reduceSub, Nat.reduceMul, Nat.reduceLeDiff, Nat.reduceLT, Nat.reduceBEq, Int.reduceNeg, Int.reduceLE, Int.reduceLT, Int.reduceToNat, String.reduceEq]) r1 (by omega) rfl (cells_op _) ?_
      have hof1 := mof_c false (turnO l u l.length) (fun o ho => hS o ((turnO_mem l u l.length (Nat.le_refl _)).1 o ho)) (by rw [turnO_len]; omega)
      have hof2 := mof_c b l hS (by omega)
      rw [heq] at hof1
      have hsame := same7_c false false false false (ofG l) (ofG l)
      rw [decide_eq_true rfl] at hsame
      simp only [lgF, lgA] at hof1 hof2 hsame
      repeat' first | ((first | refine callK_fn (hof1 _) callOk29F ?_ | refine callP_fn (hof1 _) callOk29F ?_ | refine callM_fn (fun _ => hof1 _) callOk29F ?_ | refine callK_fn (hof2 _) callOk29F ?_ | refine callP_fn (hof2 _) callOk29F ?_ | refine callM_fn (fun _ => hof2 _) callOk29F ?_ | refine callK_fn (hsame _) callOk20F ?_ | refine callP_fn (hsame _) callOk20F ?_ | refine callM_fn (fun _ => hsame _) callOk20F ?_ | refine aw_region_mix (id := 14) [.free, .pure 0, .free, .free, .pure 0, .pure 0, .free, .eff [true, true, true], .free] mixedF rfl (by kernel_rfl) (by kernel_rfl) ?_ | refine callP_false (.bool false) ?_ | refine aw_region rfl ?_ | refine aw_region_draw mixedF rfl (by kernel_rfl) ?_ | refine aw_ret ?_ | refine aw_skip ?_ | refine aw_exit ?_ | refine aw_label ?_); simp only [go_sem, ↓reduceIte, Nat.reduceEqDiff, Nat.reduceAdd, Nat.reduceSub, Nat.reduceMul, Nat.reduceLeDiff, Nat.reduceLT, Nat.reduceBEq, Int.reduceNeg, Int.reduceLE, Int.reduceLT, Int.reduceToNat, String.reduceEq, hli]) | refine aw_seq ?_ | refine aw_block ?_ | refine aw_scope ?_ | (refine aw_cond rfl (fun h => ?_) (fun h => ?_) <;> try (exfalso; first | (simp at h; done) | (simp at h; omega))) | ((with_reducible refine And.intro ?_ ?_); focus (first | omega | (intros; simp_all; done) | (simp; omega)))
      exact doneG0 hM2.symm (by simp only [pur_int, pur_bool, pur_str, pur_agg, pur_tup, pur_sl, pur_iface, pur_nilI, List.mem_cons, List.not_mem_nil, false_implies, forall_eq_or_imp, List.mem_map, forall_exists_index, and_imp, forall_apply_eq_imp_iff₂, or_false, forall_eq, implies_true, and_self, and_true, true_and, Go.Gw.stA, Go.Gw.opA, Go.Gw.ndA, Go.Gw.unA, Go.Gw.enA, Go.Gw.inA, Go.Gw.lgF, Go.Gw.lgA]) (.refl _)
end Go.Proofs.Ytoffonjlfomnbaa
