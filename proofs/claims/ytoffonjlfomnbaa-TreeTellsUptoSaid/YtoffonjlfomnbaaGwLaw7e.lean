/- MergeParts, walked. No condition. -/
import Derived.Test.YtoffonjlfomnbaaGwLaw7a
namespace Go.Gw
open Go Go.Aw Go.Proofs.Ytoffonjlfomnbaa

def wrongN (l : List Opn) : Nat := (l.filter fun o => !opOk o).length
theorem wrongN_snoc (l : List Opn) (o : Opn) : wrongN (l ++ [o]) = wrongN l + (if opOk o = true then 0 else 1) := by
  unfold wrongN
  rw [List.filter_append, List.length_append, List.filter_cons, List.filter_nil]
  cases opOk o <;> simp
theorem wrongN_le (l : List Opn) : wrongN l ≤ l.length := List.length_filter_le _ _
theorem allN_wrong (g : Lg) (l : List Opn) (h : g.entries.length + l.length ≤ 200) : allN g l = (wrongN l : Int) := by
  induction l generalizing g with
  | nil => rfl
  | cons o l ih =>
    rw [List.length_cons] at h
    have h1 := (addG_len g o).1
    have h2 := ih (addG g o) (by omega)
    have h3 : ¬ (200 : Int) ≤ (g.entries.length : Int) := by omega
    rw [allN, h2, addE]
    unfold wrongN
    rw [List.filter_cons]
    cases opOk o with
    | true =>
      simp only [Bool.true_eq_false, if_false, h3, Bool.not_true]
      split <;> simp
    | false => simp; omega
theorem all_len (g : Lg) (l : List Opn) : (allG g l).entries.length ≤ g.entries.length + l.length := by
  induction l generalizing g with
  | nil => exact Nat.le_refl _
  | cons o l ih => have := ih (addG g o); have := (addG_len g o).1; rw [allG, List.length_cons]; omega

theorem again_all {g : Lg} (hg : Good g) (l : List Opn) (h : ∀ x ∈ l, x ∈ opsG g) : allG g l = g ∧ allN g l = 0 := by
  induction l with
  | nil => exact ⟨rfl, rfl⟩
  | cons o l ih =>
    have ho := h o (by simp)
    have h1 := hg.ok o ho
    have h2 : hasAt g.entries o.at_ = true := by
      rw [hg.log, hasAt_log]
      exact List.any_eq_true.2 ⟨o, ho, by simp⟩
    have ha : addG g o = g := by rw [addG, if_neg (by rw [h1]; decide), if_pos h2]
    have he : addE g o = 0 := by rw [addE, if_neg (by rw [h1]; decide), if_pos h2]
    have := ih fun x hx => h x (by simp [hx])
    rw [allG, allN, ha, he, this.1, this.2]
    exact ⟨rfl, rfl⟩
theorem srt_at {l : List Opn} (h : Srt l) : ∀ x ∈ l, ∀ y ∈ l, x.at_ = y.at_ → x = y := by
  induction l with
  | nil => intro x hx; simp at hx
  | cons z l ih =>
    rw [Srt, List.pairwise_cons] at h
    intro x hx y hy e
    rw [List.mem_cons] at hx hy
    have hno : ∀ q ∈ l, z.at_ ≠ q.at_ := fun q hq e => by have := h.1 q hq; rw [e, lessS_irr] at this; cases this
    rcases hx with rfl | hx <;> rcases hy with rfl | hy
    · rfl
    · exact absurd e (hno y hy)
    · exact absurd e.symm (hno x hx)
    · exact ih h.2 x hx y hy e
theorem of_ops {g : Lg} (hg : Good g) (h : (opsG g).length ≤ 200) : ofG (opsG g) = g := by
  refine good_ext (good_of _) hg fun x => ?_
  have m := all_mem good_nil (opsG g)
  have e0 : opsG ⟨[], []⟩ = [] := rfl
  rw [e0] at m
  simp only [List.not_mem_nil, false_or, List.length_nil, Nat.zero_add] at m
  show x ∈ opsG (allG ⟨[], []⟩ (opsG g)) ↔ _
  constructor
  · intro hx; exact (m.1 x hx).1
  · intro hx
    obtain ⟨y, hy, e⟩ := m.2.2.2 h x hx (hg.ok x hx)
    rw [← srt_at hg.srt y (m.1 y hy).1 x hx e]; exact hy
end Go.Gw
namespace Go.Proofs.Ytoffonjlfomnbaa
open Go Go.Aw Go.Gw
set_option linter.unusedSimpArgs false
set_option maxRecDepth 20000
set_option maxHeartbeats 2000000

theorem one_op (l : List Opn) : ((l.map opA).flatMap AV.cells).all AV.one = true := by
  rw [List.all_flatMap, List.all_map, List.all_eq_true]
  intro o _; rfl

theorem parts_c (b1 b2 : Bool) (l m : List Opn) (H : AHeap) : FnC Try.prog 6 [.sl b1 (l.map opA), .sl b2 (m.map opA)] H (.bool true) := by
  refine fnC_of Try.func6 rfl (Nat.le_of_ble_eq_true rfl) ?_
  have hf1 := few5_c b1 l 60
  have hf2 := few5_c b2 m 60
  by_cases hh : fewOpn l 60 = true ∧ fewOpn m 60 = true
  · obtain ⟨hh1, hh2⟩ := hh
    obtain ⟨hS1, hl1⟩ := few_S hh1
    obtain ⟨hS2, hl2⟩ := few_S hh2
    have hof := mof_c b1 l hS1 (by omega)
    have fit0 : Fit (ofG l) (m.length + 200) := Fit.all (Fit.nil _ (by omega)) hS1
    have hall := mall_c false false b2 (ofG l) m (fit0.less (by omega)) hS2
    have fit1 : Fit (allG (ofG l) m) 200 := Fit.all fit0 hS2
    have good1 : Good (allG (ofG l) m) := good_all (good_of l) m
    have hlen : (allG (ofG l) m).entries.length ≤ 120 := by
      have h1 := all_len (ofG l) m
      have h2 := all_len ⟨[], []⟩ l
      simp only [List.length_nil, Nat.zero_add] at h2
      have h3 : (ofG l).entries.length ≤ l.length := h2
      omega
    have hlo : (ofG l).entries.length ≤ 60 := by
      have h2 := all_len ⟨[], []⟩ l
      simp only [List.length_nil, Nat.zero_add] at h2
      have h3 : (ofG l).entries.length ≤ l.length := h2
      omega
    have hN : allN (ofG l) m = (wrongN m : Int) := allN_wrong _ _ (by omega)
    have hofE : allG (ofG l) m = ofG (l ++ m) := (allG_app _ _ _).symm
    have hopl : (opsG (allG (ofG l) m)).length = (allG (ofG l) m).entries.length := List.length_map ..
    have hoS : ∀ o ∈ opsG (allG (ofG l) m), OpS o := fun o ho => by
      obtain ⟨e, he, rfl⟩ := List.mem_map.1 ho; exact fit1.ops e he
    have hops := mops_c false false (allG (ofG l) m) (by omega)
    have hag := mall_c false false false (allG (ofG l) m) (opsG (allG (ofG l) m)) (fit1.less (by omega)) hoS
    obtain ⟨a1, a2⟩ := again_all good1 _ (fun x hx => hx)
    have hofops := mof_c false (opsG (allG (ofG l) m)) hoS (by omega)
    rw [of_ops good1 (by omega)] at hofops
    rw [a1, a2] at hag
    have hofapp := mof_c false (l ++ m) (fun o ho => by rw [List.mem_append] at ho; rcases ho with q | q; exact hS1 o q; exact hS2 o q) (by rw [List.length_append]; omega)
    rw [← hofE] at hofapp
    rw [hN] at hall
    have hsame := same7_c false false false false (allG (ofG l) m) (allG (ofG l) m)
    rw [decide_eq_true rfl] at hsame
    have hchk := fun i (h : i < m.length) => opOk_c m[i] (hS2 _ (List.getElem_mem h))
    clear hofE hN a1 a2 hlo good1 fit1 fit0
    generalize allG (ofG l) m = G at *
    generalize ofG l = K at *
    simp only [lgF, lgA, tagV, opA] at hof hall hops hag hofops hofapp hsame hchk
    repeat' first | ((first | refine callK_fn (awake7_c _) callOk16F ?_ | refine callP_fn (awake7_c _) callOk16F ?_ | refine callM_fn (fun _ => awake7_c _) callOk16F ?_ | refine callK_fn (hf1 _) callOk21F ?_ | refine callP_fn (hf1 _) callOk21F ?_ | refine callM_fn (fun _ => hf1 _) callOk21F ?_ | refine callK_fn (hf2 _) callOk21F ?_ | refine callP_fn (hf2 _) callOk21F ?_ | refine callM_fn (fun _ => hf2 _) callOk21F ?_ | refine callK_fn (hof _) callOk29F ?_ | refine callP_fn (hof _) callOk29F ?_ | refine callM_fn (fun _ => hof _) callOk29F ?_ | refine callK_fn (hall _) callOk18F ?_ | refine callP_fn (hall _) callOk18F ?_ | refine callM_fn (fun _ => hall _) callOk18F ?_ | refine callK_fn (hag _) callOk18F ?_ | refine callP_fn (hag _) callOk18F ?_ | refine callM_fn (fun _ => hag _) callOk18F ?_ | refine callK_fn (hops _) callOk27F ?_ | refine callP_fn (hops _) callOk27F ?_ | refine callM_fn (fun _ => hops _) callOk27F ?_ | refine aw_region_mix (id := 6) [.pure 0, .pure 0, .pure 0, .pure 0, .free, .free, .free, .eff [true, true, true, true], .eff [false, false, false, false], .free] mixedF rfl (by kernel_rfl) (by kernel_rfl) ?_ | refine aw_region_mix (id := 13) [.free, .free, .free, .free, .eff [], .free, .eff [], .eff [], .pure 3, .pure 0, .free, .free, .free, .free, .free, .free, .free, .pure 3, .pure 3, .pure 3, .free, .free, .free, .free, .free, .free, .pure 3, .pure 3, .pure 3, .pure 3, .pure 3, .free, .free] mixedF rfl (by kernel_rfl) (by kernel_rfl) ?_ | refine callP_false (.bool false) ?_ | refine aw_region rfl ?_ | refine aw_region_draw mixedF rfl (by kernel_rfl) ?_ | refine aw_ret ?_ | refine aw_skip ?_ | refine aw_exit ?_ | refine aw_label ?_); simp only [go_sem, ↓reduceIte, Nat.reduceEqDiff, Nat.reduceAdd, Nat.reduceSub, Nat.reduceMul, Nat.reduceLeDiff, Nat.reduceLT, Nat.reduceBEq, Int.reduceNeg, Int.reduceLE, Int.reduceLT, Int.reduceToNat, String.reduceEq, hh1, hh2]) | ((with_reducible refine And.intro ?_ ?_); focus (exact callAt_of (hag _) callOk18F)) | ((with_reducible refine And.intro (And.intro ?_ ?_) ?_); focus (exact callAt_of (hag _) callOk18F)) | (exact callAt_of (hag _) callOk18F) | ((with_reducible refine And.intro ?_ ?_); focus (exact callAt_of (hops _) callOk27F)) | ((with_reducible refine And.intro (And.intro ?_ ?_) ?_); focus (exact callAt_of (hops _) callOk27F)) | (exact callAt_of (hops _) callOk27F) | refine aw_seq ?_ | refine aw_block ?_ | refine aw_scope ?_ | (refine aw_cond rfl (fun h => ?_) (fun h => ?_) <;> try (exfalso; first | (simp at h; done) | (simp at h; omega))) | ((with_reducible refine And.intro ?_ ?_); focus (first | omega | (intros; simp_all; done) | (simp; omega)))
    refine aw_loopS (ι := Nat) (fun i => [(0, .sl b1 (l.map opA)), (1, .sl b2 (m.map opA)), (5, .bool true), (7, .ref (H.length + 1) 0 0), (8, .int .i64 (wrongN m)), (9, .ref (H.length + 2) 0 0), (10, .int .i64 0), (11, .int .i64 (wrongN (m.take i))), (12, .int .i64 i)])
      (fun _ => H ++ [.cells 0 [.sl false (K.entries.map enA), .sl false (K.nodes.map ndA)], .cells 0 [.sl false (G.entries.map enA), .sl false (G.nodes.map ndA)], .cells 0 [.sl false (G.entries.map enA), .sl false (G.nodes.map ndA)]])
      (fun i => i ≤ m.length) (fun i => m.length - i) 0 (Nat.zero_le _) ?_ rfl ?_
    · simp [go_sem, wrongN]
    · intro i hi
      by_cases hlt : i < m.length
      · have hp := getD_map opA hlt
        have hli : decide ((i : Int) < (m.length : Int)) = true := decide_eq_true (by omega)
        have hc := hchk i hlt
        have hw1 := wrongN_le (m.take i)
        rw [List.length_take] at hw1
        have hsn : wrongN (m.take (i + 1)) = wrongN (m.take i) + (if opOk m[i] = true then 0 else 1) := by rw [List.take_succ_eq_append_getElem hlt, wrongN_snoc]
        have hw : IntKind.i64.wrap ((wrongN (m.take i) : Int) + 1) = (wrongN (m.take i) : Int) + 1 := wrap_i64 (by omega) (by omega)
        repeat' first | ((first | refine callK_fn (hc _) callOk30F ?_ | refine callP_fn (hc _) callOk30F ?_ | refine callM_fn (fun _ => hc _) callOk30F ?_ | refine aw_region_mix (id := 6) [.pure 0, .pure 0, .pure 0, .pure 0, .free, .free, .free, .eff [true, true, true, true], .eff [false, false, false, false], .free] mixedF rfl (by kernel_rfl) (by kernel_rfl) ?_ | refine aw_region_mix (id := 13) [.free, .free, .free, .free, .eff [], .free, .eff [], .eff [], .pure 3, .pure 0, .free, .free, .free, .free, .free, .free, .free, .pure 3, .pure 3, .pure 3, .free, .free, .free, .free, .free, .free, .pure 3, .pure 3, .pure 3, .pure 3, .pure 3, .free, .free] mixedF rfl (by kernel_rfl) (by kernel_rfl) ?_ | refine callP_false (.bool false) ?_ | refine aw_region rfl ?_ | refine aw_region_draw mixedF rfl (by kernel_rfl) ?_ | refine aw_ret ?_ | refine aw_skip ?_ | refine aw_exit ?_ | refine aw_label ?_); simp only [go_sem, ↓reduceIte, Nat.reduceEqDiff, Nat.reduceAdd, Nat.reduceSub, Nat.reduceMul, Nat.reduceLeDiff, Nat.reduceLT, Nat.reduceBEq, Int.reduceNeg, Int.reduceLE, Int.reduceLT, Int.reduceToNat, String.reduceEq, hp, hli, opA, hw]) | refine aw_seq ?_ | refine aw_block ?_ | refine aw_scope ?_ | (refine aw_cond rfl (fun h => ?_) (fun h => ?_) <;> try (exfalso; first | (simp at h; done) | (simp at h; omega))) | ((with_reducible refine And.intro ?_ ?_); focus (first | omega | (intros; simp_all; done) | (simp; omega)))
        · have he : opOk m[i] = false := by simpa using h
          rw [he] at hsn
          exact ⟨i + 1, hlt, by omega, by rw [hsn]; simp, congrArg _ (wrap_succ hlt (by omega))⟩
        · have he : opOk m[i] = true := by simpa using h
          rw [he] at hsn
          exact ⟨i + 1, hlt, by omega, by rw [hsn]; simp, congrArg _ (wrap_succ hlt (by omega))⟩
      · have hie : i = m.length := by omega
        subst hie
        have hli : decide ((m.length : Int) < (m.length : Int)) = false := by simp
        have hself : ∀ x : Int, decide (x = x) = true := fun x => decide_eq_true rfl
        have cT1 : (∀ e ∈ l.map opA, e.cells.length = 7) = True := eq_true (cells_op l)
        have cT2 : (∀ e ∈ m.map opA, e.cells.length = 7) = True := eq_true (cells_op m)
        have hfl1 := flat_op_len l
        have hfl2 := flat_op_len m
        have ho2 := one_op m
        rw [List.take_length]
        repeat' first | ((first | refine aw_region_mix (id := 6) [.pure 0, .pure 0, .pure 0, .pure 0, .free, .free, .free, .eff [true, true, true, true], .eff [false, false, false, false], .free] mixedF rfl (by kernel_rfl) (by kernel_rfl) ?_ | refine aw_region_mix (id := 13) [.free, .free, .free, .free, .eff [], .free, .eff [], .eff [], .pure 3, .pure 0, .free, .free, .free, .free, .free, .free, .free, .pure 3, .pure 3, .pure 3, .free, .free, .free, .free, .free, .free, .pure 3, .pure 3, .pure 3, .pure 3, .pure 3, .free, .free] mixedF rfl (by kernel_rfl) (by kernel_rfl) ?_ | refine callP_false (.bool false) ?_ | refine aw_region rfl ?_ | refine aw_region_draw mixedF rfl (by kernel_rfl) ?_ | refine aw_ret ?_ | refine aw_skip ?_ | refine aw_exit ?_ | refine aw_label ?_); simp only [go_sem, ↓reduceIte, Nat.reduceEqDiff, Nat.reduceAdd, Nat.reduceSub, Nat.reduceMul, Nat.reduceLeDiff, Nat.reduceLT, Nat.reduceBEq, Int.reduceNeg, Int.reduceLE, Int.reduceLT, Int.reduceToNat, String.reduceEq, hli, cT1, cT2, hfl1, hfl2, ho2, hself]) | refine aw_seq ?_ | refine aw_block ?_ | refine aw_scope ?_ | (refine aw_cond rfl (fun h => ?_) (fun h => ?_) <;> try (exfalso; first | (simp at h; done) | (simp at h; omega))) | ((with_reducible refine And.intro ?_ ?_); focus (first | omega | (intros; simp_all; done) | (simp; omega)))
        refine callE_frz (cs := (l.map opA).flatMap AV.cells ++ (m.map opA).flatMap AV.cells) ((l ++ m).map opA) [] hofapp callOk29F rfl (by rw [List.length_map, List.length_append]) (by simp only [go_sem, ↓reduceIte, Nat.reduceEqDiff, Nat.reduceAdd, Nat.reduceSub, Nat.reduceMul, Nat.reduceLeDiff, Nat.reduceLT, Nat.reduceBEq, Int.reduceNeg, Int.reduceLE, Int.reduceLT, Int.reduceToNat, String.reduceEq]) (by omega) (by rw [List.append_nil, List.map_append, List.flatMap_append]) (cells_op _) ?_
        simp only [go_sem, ↓reduceIte, Nat.reduceEqDiff, Nat.reduceAdd, Nat.reduceSub, Nat.reduceMul, Nat.reduceLeDiff, Nat.reduceLT, Nat.reduceBEq, Int.reduceNeg, Int.reduceLE, Int.reduceLT, Int.reduceToNat, String.reduceEq]
        repeat' first | ((first | refine callK_fn (hsame _) callOk20F ?_ | refine callP_fn (hsame _) callOk20F ?_ | refine callM_fn (fun _ => hsame _) callOk20F ?_ | refine callK_fn (hops _) callOk27F ?_ | refine callP_fn (hops _) callOk27F ?_ | refine callM_fn (fun _ => hops _) callOk27F ?_ | refine callK_fn (hofops _) callOk29F ?_ | refine callP_fn (hofops _) callOk29F ?_ | refine callM_fn (fun _ => hofops _) callOk29F ?_ | refine aw_region_mix (id := 6) [.pure 0, .pure 0, .pure 0, .pure 0, .free, .free, .free, .eff [true, true, true, true], .eff [false, false, false, false], .free] mixedF rfl (by kernel_rfl) (by kernel_rfl) ?_ | refine aw_region_mix (id := 13) [.free, .free, .free, .free, .eff [], .free, .eff [], .eff [], .pure 3, .pure 0, .free, .free, .free, .free, .free, .free, .free, .pure 3, .pure 3, .pure 3, .free, .free, .free, .free, .free, .free, .pure 3, .pure 3, .pure 3, .pure 3, .pure 3, .free, .free] mixedF rfl (by kernel_rfl) (by kernel_rfl) ?_ | refine callP_false (.bool false) ?_ | refine aw_region rfl ?_ | refine aw_region_draw mixedF rfl (by kernel_rfl) ?_ | refine aw_ret ?_ | refine aw_skip ?_ | refine aw_exit ?_ | refine aw_label ?_); simp only [go_sem, ↓reduceIte, Nat.reduceEqDiff, Nat.reduceAdd, Nat.reduceSub, Nat.reduceMul, Nat.reduceLeDiff, Nat.reduceLT, Nat.reduceBEq, Int.reduceNeg, Int.reduceLE, Int.reduceLT, Int.reduceToNat, String.reduceEq, hself]) | ((with_reducible refine And.intro ?_ ?_); focus (exact callAt_of (hsame _) callOk20F)) | ((with_reducible refine And.intro (And.intro ?_ ?_) ?_); focus (exact callAt_of (hsame _) callOk20F)) | (exact callAt_of (hsame _) callOk20F) | ((with_reducible refine And.intro ?_ ?_); focus (exact callAt_of (hops _) callOk27F)) | ((with_reducible refine And.intro (And.intro ?_ ?_) ?_); focus (exact callAt_of (hops _) callOk27F)) | (exact callAt_of (hops _) callOk27F) | ((with_reducible refine And.intro ?_ ?_); focus (exact callAt_of (hofops _) callOk29F)) | ((with_reducible refine And.intro (And.intro ?_ ?_) ?_); focus (exact callAt_of (hofops _) callOk29F)) | (exact callAt_of (hofops _) callOk29F) | refine aw_seq ?_ | refine aw_block ?_ | refine aw_scope ?_ | (refine aw_cond rfl (fun h => ?_) (fun h => ?_) <;> try (exfalso; first | (simp at h; done) | (simp at h; omega))) | ((with_reducible refine And.intro ?_ ?_); focus (first | omega | (intros; simp_all; done) | (simp; omega)))
        exact done (by simp only [pur_int, pur_bool, pur_str, pur_agg, pur_tup, pur_sl, pur_iface, pur_nilI, List.mem_cons, List.not_mem_nil, false_implies, forall_eq_or_imp, List.mem_map, forall_exists_index, and_imp, forall_apply_eq_imp_iff₂, or_false, forall_eq, implies_true, and_self, and_true, true_and, Go.Gw.stA, Go.Gw.opA, Go.Gw.ndA, Go.Gw.unA, Go.Gw.enA, Go.Gw.inA, Go.Gw.lgF, Go.Gw.lgA]) (.refl _)
  · by_cases hh1 : fewOpn l 60 = true
    · have hh2 : fewOpn m 60 = false := by cases q : fewOpn m 60 with | false => rfl | true => exact absurd ⟨hh1, q⟩ hh
      repeat' first | ((first | refine callK_fn (awake7_c _) callOk16F ?_ | refine callP_fn (awake7_c _) callOk16F ?_ | refine callM_fn (fun _ => awake7_c _) callOk16F ?_ | refine callK_fn (hf1 _) callOk21F ?_ | refine callP_fn (hf1 _) callOk21F ?_ | refine callM_fn (fun _ => hf1 _) callOk21F ?_ | refine callK_fn (hf2 _) callOk21F ?_ | refine callP_fn (hf2 _) callOk21F ?_ | refine callM_fn (fun _ => hf2 _) callOk21F ?_ | refine aw_region_mix (id := 6) [.pure 0, .pure 0, .pure 0, .pure 0, .free, .free, .free, .eff [true, true, true, true], .eff [false, false, false, false], .free] mixedF rfl (by kernel_rfl) (by kernel_rfl) ?_ | refine aw_region_mix (id := 13) [.free, .free, .free, .free, .eff [], .free, .eff [], .eff [], .pure 3, .pure 0, .free, .free, .free, .free, .free, .free, .free, .pure 3, .pure 3, .pure 3, .free, .free, .free, .free, .free, .free, .pure 3, .pure 3, .pure 3, .pure 3, .pure 3, .free, .free] mixedF rfl (by kernel_rfl) (by kernel_rfl) ?_ | refine callP_false (.bool false) ?_ | refine aw_region rfl ?_ | refine aw_region_draw mixedF rfl (by kernel_rfl) ?_ | refine aw_ret ?_ | refine aw_skip ?_ | refine aw_exit ?_ | refine aw_label ?_); simp only [go_sem, ↓reduceIte, Nat.reduceEqDiff, Nat.reduceAdd, Nat.reduceSub, Nat.reduceMul, Nat.reduceLeDiff, Nat.reduceLT, Nat.reduceBEq, Int.reduceNeg, Int.reduceLE, Int.reduceLT, Int.reduceToNat, String.reduceEq, hh1, hh2]) | refine aw_seq ?_ | refine aw_block ?_ | refine aw_scope ?_ | (refine aw_cond rfl (fun h => ?_) (fun h => ?_) <;> try (exfalso; first | (simp at h; done) | (simp at h; omega))) | ((with_reducible refine And.intro ?_ ?_); focus (first | omega | (intros; simp_all; done) | (simp; omega)))
      exact done0 (by simp only [pur_int, pur_bool, pur_str, pur_agg, pur_tup, pur_sl, pur_iface, pur_nilI, List.mem_cons, List.not_mem_nil, false_implies, forall_eq_or_imp, List.mem_map, forall_exists_index, and_imp, forall_apply_eq_imp_iff₂, or_false, forall_eq, implies_true, and_self, and_true, true_and, Go.Gw.stA, Go.Gw.opA, Go.Gw.ndA, Go.Gw.unA, Go.Gw.enA, Go.Gw.inA, Go.Gw.lgF, Go.Gw.lgA]) (.refl _)
    · have hh1 : fewOpn l 60 = false := by simpa using hh1
      repeat' first | ((first | refine callK_fn (awake7_c _) callOk16F ?_ | refine callP_fn (awake7_c _) callOk16F ?_ | refine callM_fn (fun _ => awake7_c _) callOk16F ?_ | refine callK_fn (hf1 _) callOk21F ?_ | refine callP_fn (hf1 _) callOk21F ?_ | refine callM_fn (fun _ => hf1 _) callOk21F ?_ | refine callK_fn (hf2 _) callOk21F ?_ | refine callP_fn (hf2 _) callOk21F ?_ | refine callM_fn (fun _ => hf2 _) callOk21F ?_ | refine aw_region_mix (id := 6) [.pure 0, .pure 0, .pure 0, .pure 0, .free, .free, .free, .eff [true, true, true, true], .eff [false, false, false, false], .free] mixedF rfl (by kernel_rfl) (by kernel_rfl) ?_ | refine aw_region_mix (id := 13) [.free, .free, .free, .free, .eff [], .free, .eff [], .eff [], .pure 3, .pure 0, .free, .free, .free, .free, .free, .free, .free, .pure 3, .pure 3, .pure 3, .free, .free, .free, .free, .free, .free, .pure 3, .pure 3, .pure 3, .pure 3, .pure 3, .free, .free] mixedF rfl (by kernel_rfl) (by kernel_rfl) ?_ | refine callP_false (.bool false) ?_ | refine aw_region rfl ?_ | refine aw_region_draw mixedF rfl (by kernel_rfl) ?_ | refine aw_ret ?_ | refine aw_skip ?_ | refine aw_exit ?_ | refine aw_label ?_); simp only [go_sem, ↓reduceIte, Nat.reduceEqDiff, Nat.reduceAdd, Nat.reduceSub, Nat.reduceMul, Nat.reduceLeDiff, Nat.reduceLT, Nat.reduceBEq, Int.reduceNeg, Int.reduceLE, Int.reduceLT, Int.reduceToNat, String.reduceEq, hh1]) | refine aw_seq ?_ | refine aw_block ?_ | refine aw_scope ?_ | (refine aw_cond rfl (fun h => ?_) (fun h => ?_) <;> try (exfalso; first | (simp at h; done) | (simp at h; omega))) | ((with_reducible refine And.intro ?_ ?_); focus (first | omega | (intros; simp_all; done) | (simp; omega)))
      exact done0 (by simp only [pur_int, pur_bool, pur_str, pur_agg, pur_tup, pur_sl, pur_iface, pur_nilI, List.mem_cons, List.not_mem_nil, false_implies, forall_eq_or_imp, List.mem_map, forall_exists_index, and_imp, forall_apply_eq_imp_iff₂, or_false, forall_eq, implies_true, and_self, and_true, true_and, Go.Gw.stA, Go.Gw.opA, Go.Gw.ndA, Go.Gw.unA, Go.Gw.enA, Go.Gw.inA, Go.Gw.lgF, Go.Gw.lgA]) (.refl _)
end Go.Proofs.Ytoffonjlfomnbaa
