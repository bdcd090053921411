/- MergeFolds, walked. No condition. -/
import Derived.Test.YtoffonjlfomnbaaGwWfP
namespace Go.Gw
open Go Go.Aw Go.Proofs.Ytoffonjlfomnbaa

theorem ofG_snoc (l : List Opn) (o : Opn) : ofG (l ++ [o]) = addG (ofG l) o := by rw [ofG, allG_app]; rfl
/-- The operations of a log: the document's. -/
theorem ops_rSort (l : List Opn) (h : l.length ≤ 200) : opsG (ofG l) = rSort l := by
  induction hn : l.length generalizing l with
  | zero =>
    have : l = [] := List.eq_nil_of_length_eq_zero hn
    subst this; rfl
  | succ n ih =>
    have hne : l ≠ [] := fun e => by subst e; simp at hn
    obtain ⟨a, o, rfl⟩ : ∃ a o, l = a ++ [o] := ⟨l.dropLast, l.getLast hne, (List.dropLast_concat_getLast hne).symm⟩
    have ha : a.length = n := by simpa using hn
    have hi := ih a (by omega) ha
    have hg := good_of a
    have hlen : (opsG (ofG a)).length < 200 := by rw [hi]; have := rSortLen a; omega
    rw [ofG_snoc, rSort_snoc, rIns_srt (rSort_mem a).1, ← hi]
    rcases (good_add hg o).2 with ⟨e, -, h1 | h1 | h1⟩ | ⟨e, h1, h2⟩
    · rw [if_pos (.inl h1), e]
    · rw [if_pos (.inr h1), e]
    · omega
    · rw [if_neg (by rintro (q | ⟨x, hx, q⟩); rw [q] at h1; cases h1; exact h2 x hx q), e]
theorem ofG_log (l : List Opn) (h : l.length ≤ 200) : ofG l = logOf (rSort l) := by
  have := (good_of l).log
  rw [ops_rSort l h] at this; exact this
theorem log_nodes (s : List Opn) : (logOf s).nodes = s.foldl doL [] := redo_fold s [] []
theorem log_get (s : List Opn) {i : Nat} (hi : i < s.length) : ∃ h : i < (logOf s).entries.length, (logOf s).entries[i] = ⟨s[i], doU ((s.take i).foldl doL []) s[i]⟩ := by
  have hl : (logOf s).entries.length = s.length := by have := (redo_len s [] []).2; simpa [logOf] using this
  refine ⟨by omega, ?_⟩
  have e : s = s.take i ++ s[i] :: s.drop (i + 1) := by rw [← List.drop_eq_getElem_cons hi, List.take_append_drop]
  have h1 : (logOf s).entries = (logOf (s.take i)).entries ++ ⟨s[i], doU ((s.take i).foldl doL []) s[i]⟩ :: (redo (s.drop (i + 1)) [] (doL ((s.take i).foldl doL []) s[i])).1 := by
    show (redo s [] []).1 = _
    conv => lhs; rw [e]
    rw [redo_app, redo, redo_pre, redo_fold]
    simp [logOf]
  have hl2 : (logOf (s.take i)).entries.length = i := by have := (redo_len (s.take i) [] []).2; simp only [List.length_nil, List.length_take] at this; simp only [logOf]; omega
  simp only [h1]
  rw [List.getElem_append_right (by omega)]
  simp [hl2]
end Go.Gw
namespace Go.Proofs.Ytoffonjlfomnbaa
open Go Go.Aw Go.Gw
set_option linter.unusedSimpArgs false
set_option maxRecDepth 20000
set_option maxHeartbeats 4000000

theorem folds_c (b : Bool) (l : List Opn) (H : AHeap) : FnC Try.prog 15 [.sl b (l.map opA)] H (.bool true) := by
  refine fnC_of Try.func15 rfl (Nat.le_of_ble_eq_true rfl) ?_
  have hfew := few5_c b l 60
  repeat' first | ((first | refine callK_fn (awake7_c _) callOk16F ?_ | refine callP_fn (awake7_c _) callOk16F ?_ | refine callM_fn (fun _ => awake7_c _) callOk16F ?_ | refine callK_fn (hfew _) callOk21F ?_ | refine callP_fn (hfew _) callOk21F ?_ | refine callM_fn (fun _ => hfew _) callOk21F ?_ | refine callP_false (.bool false) ?_ | refine aw_region rfl ?_ | refine aw_region_draw mixedF rfl (by kernel_rfl) ?_ | refine aw_ret ?_ | refine aw_skip ?_ | refine aw_exit ?_ | refine aw_label ?_); simp only [go_sem, aopsK, aopsG, aopsPK, aopsPG, aopsMK, aopsMG, aopsN, TypeDesc.isAgg, ↓reduceIte, Nat.reduceEqDiff, Nat.reduceAdd, Nat.reduceSub, Nat.reduceMul, Nat.reduceLeDiff, Nat.reduceLT, Nat.reduceBEq, Int.reduceNeg, Int.reduceLE, Int.reduceLT, Int.reduceToNat, String.reduceEq, Option.isSome_some, Option.isSome_none, Bool.false_eq_true, Bool.true_eq_false, not_true_eq_false, not_false_eq_true, true_and, and_true, and_self, List.getElem?_toArray, List.getElem?_cons_zero, List.getElem?_cons_succ, List.getElem?_nil, List.length_map, List.append_eq, List.range_zero, List.cons_append, List.nil_append, Nat.one_ne_zero, implies_true]) | refine aw_seq ?_ | refine aw_block ?_ | refine aw_scope ?_ | ((with_reducible refine And.intro ?_ ?_); focus (first | omega | (intros; simp_all; done) | (simp; omega)))
  refine aw_cond rfl (fun h => ?_) (fun h => ?_)
  · repeat' first | ((first | refine callP_false (.bool false) ?_ | refine aw_region rfl ?_ | refine aw_region_draw mixedF rfl (by kernel_rfl) ?_ | refine aw_ret ?_ | refine aw_skip ?_ | refine aw_exit ?_ | refine aw_label ?_); simp only [go_sem, aopsK, aopsG, aopsPK, aopsPG, aopsMK, aopsMG, aopsN, TypeDesc.isAgg, ↓reduceIte, Nat.reduceEqDiff, Nat.reduceAdd, Nat.reduceSub, Nat.reduceMul, Nat.reduceLeDiff, Nat.reduceLT, Nat.reduceBEq, Int.reduceNeg, Int.reduceLE, Int.reduceLT, Int.reduceToNat, String.reduceEq, Option.isSome_some, Option.isSome_none, Bool.false_eq_true, Bool.true_eq_false, not_true_eq_false, not_false_eq_true, true_and, and_true, and_self, List.getElem?_toArray, List.getElem?_cons_zero, List.getElem?_cons_succ, List.getElem?_nil, List.length_map, List.append_eq, List.range_zero, List.cons_append, List.nil_append, Nat.one_ne_zero, implies_true]) | refine aw_seq ?_ | refine aw_block ?_ | refine aw_scope ?_ | (refine aw_cond rfl (fun h => ?_) (fun h => ?_) <;> try (exfalso; first | (simp at h; done) | (simp at h; omega))) | ((with_reducible refine And.intro ?_ ?_); focus (first | omega | (intros; simp_all; done) | (simp; omega)))
    exact done0 (by simp only [pur_int, pur_bool, pur_str, pur_agg, pur_tup, pur_sl, pur_iface, pur_nilI, List.mem_cons, List.not_mem_nil, false_implies, forall_eq_or_imp, List.mem_map, forall_exists_index, and_imp, forall_apply_eq_imp_iff₂, or_false, forall_eq, implies_true, and_self, and_true, true_and, Go.Gw.stA, Go.Gw.opA, Go.Gw.ndA, Go.Gw.unA, Go.Gw.enA, Go.Gw.inA, Go.Gw.lgF, Go.Gw.lgA]) (.refl _)
  have hfe : fewOpn l 60 = true := by simpa using h
  refine aw_skip ?_
  simp only [go_sem, aopsK, aopsG, aopsPK, aopsPG, aopsMK, aopsMG, aopsN, TypeDesc.isAgg, ↓reduceIte, Nat.reduceEqDiff, Nat.reduceAdd, Nat.reduceSub, Nat.reduceMul, Nat.reduceLeDiff, Nat.reduceLT, Nat.reduceBEq, Int.reduceNeg, Int.reduceLE, Int.reduceLT, Int.reduceToNat, String.reduceEq, Option.isSome_some, Option.isSome_none, Bool.false_eq_true, Bool.true_eq_false, not_true_eq_false, not_false_eq_true, true_and, and_true, and_self, List.getElem?_toArray, List.getElem?_cons_zero, List.getElem?_cons_succ, List.getElem?_nil, List.length_map, List.append_eq, List.range_zero, List.cons_append, List.nil_append, Nat.one_ne_zero, implies_true]
  obtain ⟨hS, hl60⟩ := few_S hfe
  have hof := mof_c b l hS (by omega)
  have hg := ofG_log l (by omega)
  rw [hg] at hof
  have hfo := fold_c b l hS (by omega)
  have hnod : (logOf (rSort l)).nodes = foldL l := log_nodes (rSort l)
  have hsrt := (rSort_mem l).1
  have hsl := rSortLen l
  have hSr : ∀ o ∈ rSort l, OpS o := fun o ho => hS o (List.mem_filter.1 (List.mem_of_find?_eq_some (((rSort_mem l).2 o).1 ho))).1
  have hfold : foldL l = (rSort l).foldl doL [] := rfl
  rw [hfold] at hfo hnod
  have hent := fun i (hi : i < (rSort l).length) => log_get (rSort l) hi
  have hlen : (logOf (rSort l)).entries.length = (rSort l).length := by have := (redo_len (rSort l) [] []).2; simpa [logOf] using this
  generalize rSort l = s at *
  generalize logOf s = g at *
  simp only [lgF, lgA] at hof
  repeat' first | ((first | refine callK_fn (hof _) callOk29F ?_ | refine callP_fn (hof _) callOk29F ?_ | refine callM_fn (fun _ => hof _) callOk29F ?_ | refine callP_false (.bool false) ?_ | refine aw_region rfl ?_ | refine aw_region_draw mixedF rfl (by kernel_rfl) ?_ | refine aw_ret ?_ | refine aw_skip ?_ | refine aw_exit ?_ | refine aw_label ?_); simp only [go_sem, aopsK, aopsG, aopsPK, aopsPG, aopsMK, aopsMG, aopsN, TypeDesc.isAgg, ↓reduceIte, Nat.reduceEqDiff, Nat.reduceAdd, Nat.reduceSub, Nat.reduceMul, Nat.reduceLeDiff, Nat.reduceLT, Nat.reduceBEq, Int.reduceNeg, Int.reduceLE, Int.reduceLT, Int.reduceToNat, String.reduceEq, Option.isSome_some, Option.isSome_none, Bool.false_eq_true, Bool.true_eq_false, not_true_eq_false, not_false_eq_true, true_and, and_true, and_self, List.getElem?_toArray, List.getElem?_cons_zero, List.getElem?_cons_succ, List.getElem?_nil, List.length_map, List.append_eq, List.range_zero, List.cons_append, List.nil_append, Nat.one_ne_zero, implies_true]) | refine aw_seq ?_ | refine aw_block ?_ | refine aw_scope ?_ | (refine aw_cond rfl (fun h => ?_) (fun h => ?_) <;> try (exfalso; first | (simp at h; done) | (simp at h; omega))) | ((with_reducible refine And.intro ?_ ?_); focus (first | omega | (intros; simp_all; done) | (simp; omega)))
  refine aw_loopS (ι := Nat × AHeap × Bool) (fun x => [(0, .sl b (l.map opA)), (3, .bool true), (4, .ref H.length 0 0), (5, .sl x.2.2 (((s.take x.1).foldl doL []).map ndA)), (6, .int .i64 x.1)]) (fun x => x.2.1)
    (fun x => x.1 ≤ s.length ∧ hget x.2.1 H.length = .cells 0 [.sl false (g.entries.map enA), .sl false (g.nodes.map ndA)] ∧ ∃ M, x.2.1 = H ++ M) (fun x => s.length - x.1) (0, _, true) ⟨Nat.zero_le _, by simp only [go_sem, aopsK, aopsG, aopsPK, aopsPG, aopsMK, aopsMG, aopsN, TypeDesc.isAgg, ↓reduceIte, Nat.reduceEqDiff, Nat.reduceAdd, Nat.reduceSub, Nat.reduceMul, Nat.reduceLeDiff, Nat.reduceLT, Nat.reduceBEq, Int.reduceNeg, Int.reduceLE, Int.reduceLT, Int.reduceToNat, String.reduceEq, Option.isSome_some, Option.isSome_none, Bool.false_eq_true, Bool.true_eq_false, not_true_eq_false, not_false_eq_true, true_and, and_true, and_self, List.getElem?_toArray, List.getElem?_cons_zero, List.getElem?_cons_succ, List.getElem?_nil, List.length_map, List.append_eq, List.range_zero, List.cons_append, List.nil_append, Nat.one_ne_zero, implies_true], ⟨_, rfl⟩⟩ ?_ rfl ?_
  · simp [go_sem]
  · rintro ⟨i, X, f⟩ ⟨hi, r1, rP⟩
    simp only at hi r1 rP ⊢
    have r1' := fun M => hget_appL r1 trivial M
    by_cases hlt : i < s.length
    · obtain ⟨he1, he2⟩ := hent i hlt
      have hli : decide ((i : Int) < (g.entries.length : Int)) = true := decide_eq_true (by omega)
      have hp := getD_map enA he1
      rw [he2] at hp
      have htk : s.take (i + 1) = s.take i ++ [s[i]] := List.take_succ_eq_append_getElem hlt
      have hF : (s.take (i + 1)).foldl doL [] = doL ((s.take i).foldl doL []) s[i] := by rw [htk, List.foldl_append]; rfl
      have hfl2 := foldl_len (s.take i) []
      rw [List.length_take, List.length_nil] at hfl2
      have hdo := do_c f ((s.take i).foldl doL []) s[i] (hSr _ (List.getElem_mem hlt)) (by omega)
      have hun : ∀ u : Und, AV.agg [.bool u.did, .bool u.had, .int .i64 u.was.id, .int .i64 u.was.parent, .str u.was.name, .int .i64 u.was.moved.c, .int .i64 u.was.moved.r, .str u.was.data, .int .i64 u.was.wrote.c, .int .i64 u.was.wrote.r] = unA u := fun u => rfl
      by_cases h0 : 0 < i
      · obtain ⟨hq1, hq2⟩ := hent (i - 1) (by omega)
        have hp2 := getD_map enA hq1
        rw [hq2] at hp2
        have hls := List.pairwise_iff_getElem.1 hsrt (i - 1) i (by omega) hlt (by omega)
        have hless := less_c (s[i - 1]'(by omega)).at_.c (s[i - 1]'(by omega)).at_.r s[i].at_.c s[i].at_.r
        rw [show lessI (s[i - 1]'(by omega)).at_.c (s[i - 1]'(by omega)).at_.r s[i].at_.c s[i].at_.r = true from hls] at hless
        have hw : IntKind.i64.wrap ((i : Int) - 1) = ((i - 1 : Nat) : Int) := by rw [wrap_i64 (by omega) (by omega)]; omega
        have hgt : decide ((0 : Int) < (i : Int)) = true := decide_eq_true (by omega)
        have hii : decide (((i - 1 : Nat) : Int) < (g.entries.length : Int)) = true := decide_eq_true (by omega)
        generalize s[i] = o at *
        generalize s[i - 1]'(by omega) = o' at *
        generalize doU ((s.take i).foldl doL []) o = u at *
        generalize doL ((s.take i).foldl doL []) o = nn at *
        generalize doU ((s.take (i - 1)).foldl doL []) o' = u' at *
        have hself : ∀ x : Int, decide (x = x) = true := fun x => decide_eq_true rfl
        have hselfT : ∀ x : Txt, decide (x = x) = true := fun x => decide_eq_true rfl
        have hselfB : ∀ x : Bool, decide (x = x) = true := fun x => decide_eq_true rfl
        simp only [opA, unA] at hdo
        repeat' first | ((first | refine callK_fn (hdo _) callOk34F ?_ | refine callP_fn (hdo _) callOk34F ?_ | refine callM_fn (fun _ => hdo _) callOk34F ?_ | refine callK_fn (hless _) callOk31F ?_ | refine callP_fn (hless _) callOk31F ?_ | refine callM_fn (fun _ => hless _) callOk31F ?_ | refine callP_false (.bool false) ?_ | refine aw_region rfl ?_ | refine aw_region_draw mixedF rfl (by kernel_rfl) ?_ | refine aw_ret ?_ | refine aw_skip ?_ | refine aw_exit ?_ | refine aw_label ?_); simp only [go_sem, aopsK, aopsG, aopsPK, aopsPG, aopsMK, aopsMG, aopsN, TypeDesc.isAgg, ↓reduceIte, Nat.reduceEqDiff, Nat.reduceAdd, Nat.reduceSub, Nat.reduceMul, Nat.reduceLeDiff, Nat.reduceLT, Nat.reduceBEq, Int.reduceNeg, Int.reduceLE, Int.reduceLT, Int.reduceToNat, String.reduceEq, Option.isSome_some, Option.isSome_none, Bool.false_eq_true, Bool.true_eq_false, not_true_eq_false, not_false_eq_true, true_and, and_true, and_self, List.getElem?_toArray, List.getElem?_cons_zero, List.getElem?_cons_succ, List.getElem?_nil, List.length_map, List.append_eq, List.range_zero, List.cons_append, List.nil_append, Nat.one_ne_zero, implies_true, hli, hp, hp2, hw, hgt, hii, enA, r1, r1', hself, hselfT, hselfB]) | refine aw_seq ?_ | refine aw_block ?_ | refine aw_scope ?_ | (refine aw_cond rfl (fun h => ?_) (fun h => ?_) <;> try (exfalso; first | (simp at h; done) | (simp at h; omega))) | ((with_reducible refine And.intro ?_ ?_); focus (first | omega | (intros; simp_all; done) | (simp; omega)))
        exact ⟨(i + 1, _, false), ⟨hlt, r1' _, pre_app rP _⟩, by simp only; omega, ⟨by simp only [hF], congrArg _ (wrap_succ hlt (by omega))⟩, rfl⟩
      · have hi0 : i = 0 := by omega
        have hgt : decide ((0 : Int) < (i : Int)) = false := decide_eq_false (by omega)
        generalize s[i] = o at *
        generalize doU ((s.take i).foldl doL []) o = u at *
        generalize doL ((s.take i).foldl doL []) o = nn at *
        have hself : ∀ x : Int, decide (x = x) = true := fun x => decide_eq_true rfl
        have hselfT : ∀ x : Txt, decide (x = x) = true := fun x => decide_eq_true rfl
        have hselfB : ∀ x : Bool, decide (x = x) = true := fun x => decide_eq_true rfl
        simp only [opA, unA] at hdo
        repeat' first | ((first | refine callK_fn (hdo _) callOk34F ?_ | refine callP_fn (hdo _) callOk34F ?_ | refine callM_fn (fun _ => hdo _) callOk34F ?_ | refine callP_false (.bool false) ?_ | refine aw_region rfl ?_ | refine aw_region_draw mixedF rfl (by kernel_rfl) ?_ | refine aw_ret ?_ | refine aw_skip ?_ | refine aw_exit ?_ | refine aw_label ?_); simp only [go_sem, aopsK, aopsG, aopsPK, aopsPG, aopsMK, aopsMG, aopsN, TypeDesc.isAgg, ↓reduceIte, Nat.reduceEqDiff, Nat.reduceAdd, Nat.reduceSub, Nat.reduceMul, Nat.reduceLeDiff, Nat.reduceLT, Nat.reduceBEq, Int.reduceNeg, Int.reduceLE, Int.reduceLT, Int.reduceToNat, String.reduceEq, Option.isSome_some, Option.isSome_none, Bool.false_eq_true, Bool.true_eq_false, not_true_eq_false, not_false_eq_true, true_and, and_true, and_self, List.getElem?_toArray, List.getElem?_cons_zero, List.getElem?_cons_succ, List.getElem?_nil, List.length_map, List.append_eq, List.range_zero, List.cons_append, List.nil_append, Nat.one_ne_zero, implies_true, hli, hp, hgt, enA, r1, r1', hself, hselfT, hselfB]) | refine aw_seq ?_ | refine aw_block ?_ | refine aw_scope ?_ | (refine aw_cond rfl (fun h => ?_) (fun h => ?_) <;> try (exfalso; first | (simp at h; done) | (simp at h; omega))) | ((with_reducible refine And.intro ?_ ?_); focus (first | omega | (intros; simp_all; done) | (simp; omega)))
        exact ⟨(i + 1, _, false), ⟨hlt, r1' _, pre_app rP _⟩, by simp only; omega, ⟨by simp only [hF], congrArg _ (wrap_succ hlt (by omega))⟩, rfl⟩
    · have hie : i = s.length := by omega
      have hli : decide ((i : Int) < (g.entries.length : Int)) = false := decide_eq_false (by omega)
      rw [hie, List.take_length]
      have hs1 := same6_c false f (s.foldl doL []) (s.foldl doL [])
      have hs2 := same6_c false false (s.foldl doL []) (s.foldl doL [])
      rw [decide_eq_true rfl] at hs1 hs2
      rw [hnod] at r1 r1'
      have hle : decide ((g.entries.length : Int) ≤ (l.length : Int)) = true := decide_eq_true (by omega)
      generalize s.foldl doL [] = nn at *
      rw [hie] at hli
      repeat' first | ((first | refine callK_fn (hs1 _) callOk43F ?_ | refine callP_fn (hs1 _) callOk43F ?_ | refine callM_fn (fun _ => hs1 _) callOk43F ?_ | refine callK_fn (hs2 _) callOk43F ?_ | refine callP_fn (hs2 _) callOk43F ?_ | refine callM_fn (fun _ => hs2 _) callOk43F ?_ | refine callK_fn (hfo _) callOk46F ?_ | refine callP_fn (hfo _) callOk46F ?_ | refine callM_fn (fun _ => hfo _) callOk46F ?_ | refine callP_false (.bool false) ?_ | refine aw_region rfl ?_ | refine aw_region_draw mixedF rfl (by kernel_rfl) ?_ | refine aw_ret ?_ | refine aw_skip ?_ | refine aw_exit ?_ | refine aw_label ?_); simp only [go_sem, aopsK, aopsG, aopsPK, aopsPG, aopsMK, aopsMG, aopsN, TypeDesc.isAgg, ↓reduceIte, Nat.reduceEqDiff, Nat.reduceAdd, Nat.reduceSub, Nat.reduceMul, Nat.reduceLeDiff, Nat.reduceLT, Nat.reduceBEq, Int.reduceNeg, Int.reduceLE, Int.reduceLT, Int.reduceToNat, String.reduceEq, Option.isSome_some, Option.isSome_none, Bool.false_eq_true, Bool.true_eq_false, not_true_eq_false, not_false_eq_true, true_and, and_true, and_self, List.getElem?_toArray, List.getElem?_cons_zero, List.getElem?_cons_succ, List.getElem?_nil, List.length_map, List.append_eq, List.range_zero, List.cons_append, List.nil_append, Nat.one_ne_zero, implies_true, hli, r1, r1', hle]) | refine aw_seq ?_ | refine aw_block ?_ | refine aw_scope ?_ | (refine aw_cond rfl (fun h => ?_) (fun h => ?_) <;> try (exfalso; first | (simp at h; done) | (simp at h; omega))) | ((with_reducible refine And.intro ?_ ?_); focus (first | omega | (intros; simp_all; done) | (simp; omega)))
      obtain ⟨M, hM⟩ := rP
      exact doneG0 hM.symm (by simp only [pur_int, pur_bool, pur_str, pur_agg, pur_tup, pur_sl, pur_iface, pur_nilI, List.mem_cons, List.not_mem_nil, false_implies, forall_eq_or_imp, List.mem_map, forall_exists_index, and_imp, forall_apply_eq_imp_iff₂, or_false, forall_eq, implies_true, and_self, and_true, true_and, Go.Gw.stA, Go.Gw.opA, Go.Gw.ndA, Go.Gw.unA, Go.Gw.enA, Go.Gw.inA, Go.Gw.lgF, Go.Gw.lgA]) (.refl _)
end Go.Proofs.Ytoffonjlfomnbaa
