/- What the document's Back and Fold answer. No condition but the length of what comes in. -/
import Derived.Test.YtoffonjlfomnbaaGwRef1a
import Derived.Test.YtoffonjlfomnbaaGwRef6d
import Derived.Test.YtoffonjlfomnbaaGwWfP
namespace Go.Proofs.Ytoffonjlfomnbaa
open Go Go.Aw Go.Gw
set_option linter.unusedSimpArgs false
set_option maxRecDepth 20000
set_option maxHeartbeats 4000000

theorem rback_c (b : Bool) (l : List Nd) (o : Opn) (u : Und) (hl : l.length ≤ 1000000000) (H : AHeap) : FnC Try.prog 45 [.sl b (l.map ndA), opA o, unA u] H (.sl (b && (!chk l || !u.did)) ((backL l o u).map ndA)) := by
  refine fnC_of Try.func45 rfl (Nat.le_of_ble_eq_true rfl) ?_
  have hch := rchk_c b l
  have hof := rof_c o.node
  cases hs : chk l with
  | false =>
    rw [hs] at hch
    rw [backL, if_pos (by rw [hs]; rfl), Bool.not_false, Bool.true_or, Bool.and_true]
    simp only [opA, unA]
    repeat' first | ((first | refine callK_fn (hch _) callOk39F ?_ | refine callP_fn (hch _) callOk39F ?_ | refine callM_fn (fun _ => hch _) callOk39F ?_ | refine callP_false (.bool false) ?_ | refine aw_region rfl ?_ | refine aw_region_draw mixedF rfl (by kernel_rfl) ?_ | refine aw_ret ?_ | refine aw_skip ?_ | refine aw_exit ?_ | refine aw_label ?_); simp only [go_sem, ↓reduceIte, Nat.reduceEqDiff, Nat.reduceAdd, Nat.reduceSub, Nat.reduceMul, Nat.reduceLeDiff, Nat.reduceLT, Nat.reduceBEq, Int.reduceNeg, Int.reduceLE, Int.reduceLT, Int.reduceToNat, String.reduceEq]) | refine aw_seq ?_ | refine aw_block ?_ | refine aw_scope ?_ | (refine aw_cond rfl (fun h => ?_) (fun h => ?_) <;> try (exfalso; first | (simp at h; done) | (simp at h; omega))) | ((with_reducible refine And.intro ?_ ?_); focus (first | omega | (intros; simp_all; done) | (simp; omega)))
    exact done (by simp only [pur_int, pur_bool, pur_str, pur_agg, pur_tup, pur_sl, pur_iface, pur_nilI, List.mem_cons, List.not_mem_nil, false_implies, forall_eq_or_imp, List.mem_map, forall_exists_index, and_imp, forall_apply_eq_imp_iff₂, or_false, forall_eq, implies_true, and_self, and_true, true_and, Go.Gw.stA, Go.Gw.opA, Go.Gw.ndA, Go.Gw.unA, Go.Gw.enA, Go.Gw.inA, Go.Gw.lgF, Go.Gw.lgA]) (.refl _)
  | true =>
    rw [hs] at hch
    cases hd : u.did with
    | false =>
      rw [backL, if_pos (by rw [hd]; simp), Bool.not_false, Bool.or_true, Bool.and_true]
      simp only [opA, unA]
      repeat' first | ((first | refine callK_fn (hch _) callOk39F ?_ | refine callP_fn (hch _) callOk39F ?_ | refine callM_fn (fun _ => hch _) callOk39F ?_ | refine callP_false (.bool false) ?_ | refine aw_region rfl ?_ | refine aw_region_draw mixedF rfl (by kernel_rfl) ?_ | refine aw_ret ?_ | refine aw_skip ?_ | refine aw_exit ?_ | refine aw_label ?_); simp only [go_sem, ↓reduceIte, Nat.reduceEqDiff, Nat.reduceAdd, Nat.reduceSub, Nat.reduceMul, Nat.reduceLeDiff, Nat.reduceLT, Nat.reduceBEq, Int.reduceNeg, Int.reduceLE, Int.reduceLT, Int.reduceToNat, String.reduceEq, hd]) | refine aw_seq ?_ | refine aw_block ?_ | refine aw_scope ?_ | (refine aw_cond rfl (fun h => ?_) (fun h => ?_) <;> try (exfalso; first | (simp at h; done) | (simp at h; omega))) | ((with_reducible refine And.intro ?_ ?_); focus (first | omega | (intros; simp_all; done) | (simp; omega)))
      exact done (by simp only [pur_int, pur_bool, pur_str, pur_agg, pur_tup, pur_sl, pur_iface, pur_nilI, List.mem_cons, List.not_mem_nil, false_implies, forall_eq_or_imp, List.mem_map, forall_exists_index, and_imp, forall_apply_eq_imp_iff₂, or_false, forall_eq, implies_true, and_self, and_true, true_and, Go.Gw.stA, Go.Gw.opA, Go.Gw.ndA, Go.Gw.unA, Go.Gw.enA, Go.Gw.inA, Go.Gw.lgF, Go.Gw.lgA]) (.refl _)
    | true =>
      rw [backL, if_neg (by rw [hs, hd]; decide)]
      simp only [Bool.not_true, Bool.or_self, Bool.and_false]
      have hwi := rwith_c b l u.was hl
      have hwo := rwithout_c b l o.node (by omega)
      rw [rOut_eq hs] at hwo
      cases hc : (ofOk o.node && u.had && decide (u.was.id = o.node)) with
      | true =>
        rw [Bool.and_eq_true, Bool.and_eq_true, decide_eq_true_eq] at hc
        obtain ⟨⟨c1, c2⟩, c3⟩ := hc
        rw [rWith_eq hs, c3] at hwi
        rw [if_pos rfl]
        have hde : decide (u.was.id = o.node) = true := decide_eq_true c3
        generalize layN l (pos l o.node) (upto l o.node) [u.was] = r at *
        simp only [opA, unA, ndA] at hwi ⊢
        repeat' first | ((first | refine callK_fn (hch _) callOk39F ?_ | refine callP_fn (hch _) callOk39F ?_ | refine callM_fn (fun _ => hch _) callOk39F ?_ | refine callK_fn (hof _) callOk71F ?_ | refine callP_fn (hof _) callOk71F ?_ | refine callM_fn (fun _ => hof _) callOk71F ?_ | refine callK_fn (hwi _) callOk67F ?_ | refine callP_fn (hwi _) callOk67F ?_ | refine callM_fn (fun _ => hwi _) callOk67F ?_ | refine callP_false (.bool false) ?_ | refine aw_region rfl ?_ | refine aw_region_draw mixedF rfl (by kernel_rfl) ?_ | refine aw_ret ?_ | refine aw_skip ?_ | refine aw_exit ?_ | refine aw_label ?_); simp only [go_sem, ↓reduceIte, Nat.reduceEqDiff, Nat.reduceAdd, Nat.reduceSub, Nat.reduceMul, Nat.reduceLeDiff, Nat.reduceLT, Nat.reduceBEq, Int.reduceNeg, Int.reduceLE, Int.reduceLT, Int.reduceToNat, String.reduceEq, hd, c1, c2, hde]) | refine aw_seq ?_ | refine aw_block ?_ | refine aw_scope ?_ | (refine aw_cond rfl (fun h => ?_) (fun h => ?_) <;> try (exfalso; first | (simp at h; done) | (simp at h; omega))) | ((with_reducible refine And.intro ?_ ?_); focus (first | omega | (intros; simp_all; done) | (simp; omega)))
        exact done (by simp only [pur_int, pur_bool, pur_str, pur_agg, pur_tup, pur_sl, pur_iface, pur_nilI, List.mem_cons, List.not_mem_nil, false_implies, forall_eq_or_imp, List.mem_map, forall_exists_index, and_imp, forall_apply_eq_imp_iff₂, or_false, forall_eq, implies_true, and_self, and_true, true_and, Go.Gw.stA, Go.Gw.opA, Go.Gw.ndA, Go.Gw.unA, Go.Gw.enA, Go.Gw.inA, Go.Gw.lgF, Go.Gw.lgA]) (.refl _)
      | false =>
        rw [if_neg (by decide)]
        generalize layN l (pos l o.node) (upto l o.node) [] = r at *
        simp only [opA, unA]
        cases h2 : u.had with
        | false =>
          repeat' first | ((first | refine callK_fn (hch _) callOk39F ?_ | refine callP_fn (hch _) callOk39F ?_ | refine callM_fn (fun _ => hch _) callOk39F ?_ | refine callK_fn (hof _) callOk71F ?_ | refine callP_fn (hof _) callOk71F ?_ | refine callM_fn (fun _ => hof _) callOk71F ?_ | refine callK_fn (hwo _) callOk72F ?_ | refine callP_fn (hwo _) callOk72F ?_ | refine callM_fn (fun _ => hwo _) callOk72F ?_ | refine callP_false (.bool false) ?_ | refine aw_region rfl ?_ | refine aw_region_draw mixedF rfl (by kernel_rfl) ?_ | refine aw_ret ?_ | refine aw_skip ?_ | refine aw_exit ?_ | refine aw_label ?_); simp only [go_sem, ↓reduceIte, Nat.reduceEqDiff, Nat.reduceAdd, Nat.reduceSub, Nat.reduceMul, Nat.reduceLeDiff, Nat.reduceLT, Nat.reduceBEq, Int.reduceNeg, Int.reduceLE, Int.reduceLT, Int.reduceToNat, String.reduceEq, hd, h2]) | refine aw_seq ?_ | refine aw_block ?_ | refine aw_scope ?_ | (refine aw_cond rfl (fun h => ?_) (fun h => ?_) <;> try (exfalso; first | (simp at h; done) | (simp at h; omega))) | ((with_reducible refine And.intro ?_ ?_); focus (first | omega | (intros; simp_all; done) | (simp; omega)))
          exact done (by simp only [pur_int, pur_bool, pur_str, pur_agg, pur_tup, pur_sl, pur_iface, pur_nilI, List.mem_cons, List.not_mem_nil, false_implies, forall_eq_or_imp, List.mem_map, forall_exists_index, and_imp, forall_apply_eq_imp_iff₂, or_false, forall_eq, implies_true, and_self, and_true, true_and, Go.Gw.stA, Go.Gw.opA, Go.Gw.ndA, Go.Gw.unA, Go.Gw.enA, Go.Gw.inA, Go.Gw.lgF, Go.Gw.lgA]) (.refl _)
        | true =>
          rw [h2, Bool.and_true] at hc
          cases h3 : decide (u.was.id = o.node) with
          | false =>
            repeat' first | ((first | refine callK_fn (hch _) callOk39F ?_ | refine callP_fn (hch _) callOk39F ?_ | refine callM_fn (fun _ => hch _) callOk39F ?_ | refine callK_fn (hof _) callOk71F ?_ | refine callP_fn (hof _) callOk71F ?_ | refine callM_fn (fun _ => hof _) callOk71F ?_ | refine callK_fn (hwo _) callOk72F ?_ | refine callP_fn (hwo _) callOk72F ?_ | refine callM_fn (fun _ => hwo _) callOk72F ?_ | refine callP_false (.bool false) ?_ | refine aw_region rfl ?_ | refine aw_region_draw mixedF rfl (by kernel_rfl) ?_ | refine aw_ret ?_ | refine aw_skip ?_ | refine aw_exit ?_ | refine aw_label ?_); simp only [go_sem, ↓reduceIte, Nat.reduceEqDiff, Nat.reduceAdd, Nat.reduceSub, Nat.reduceMul, Nat.reduceLeDiff, Nat.reduceLT, Nat.reduceBEq, Int.reduceNeg, Int.reduceLE, Int.reduceLT, Int.reduceToNat, String.reduceEq, hd, h2, h3]) | refine aw_seq ?_ | refine aw_block ?_ | refine aw_scope ?_ | (refine aw_cond rfl (fun h => ?_) (fun h => ?_) <;> try (exfalso; first | (simp at h; done) | (simp at h; omega))) | ((with_reducible refine And.intro ?_ ?_); focus (first | omega | (intros; simp_all; done) | (simp; omega)))
            exact done (by simp only [pur_int, pur_bool, pur_str, pur_agg, pur_tup, pur_sl, pur_iface, pur_nilI, List.mem_cons, List.not_mem_nil, false_implies, forall_eq_or_imp, List.mem_map, forall_exists_index, and_imp, forall_apply_eq_imp_iff₂, or_false, forall_eq, implies_true, and_self, and_true, true_and, Go.Gw.stA, Go.Gw.opA, Go.Gw.ndA, Go.Gw.unA, Go.Gw.enA, Go.Gw.inA, Go.Gw.lgF, Go.Gw.lgA]) (.refl _)
          | true =>
            rw [h3, Bool.and_true] at hc
            repeat' first | ((first | refine callK_fn (hch _) callOk39F ?_ | refine callP_fn (hch _) callOk39F ?_ | refine callM_fn (fun _ => hch _) callOk39F ?_ | refine callK_fn (hof _) callOk71F ?_ | refine callP_fn (hof _) callOk71F ?_ | refine callM_fn (fun _ => hof _) callOk71F ?_ | refine callK_fn (hwo _) callOk72F ?_ | refine callP_fn (hwo _) callOk72F ?_ | refine callM_fn (fun _ => hwo _) callOk72F ?_ | refine callP_false (.bool false) ?_ | refine aw_region rfl ?_ | refine aw_region_draw mixedF rfl (by kernel_rfl) ?_ | refine aw_ret ?_ | refine aw_skip ?_ | refine aw_exit ?_ | refine aw_label ?_); simp only [go_sem, ↓reduceIte, Nat.reduceEqDiff, Nat.reduceAdd, Nat.reduceSub, Nat.reduceMul, Nat.reduceLeDiff, Nat.reduceLT, Nat.reduceBEq, Int.reduceNeg, Int.reduceLE, Int.reduceLT, Int.reduceToNat, String.reduceEq, hd, h2, h3, hc]) | refine aw_seq ?_ | refine aw_block ?_ | refine aw_scope ?_ | (refine aw_cond rfl (fun h => ?_) (fun h => ?_) <;> try (exfalso; first | (simp at h; done) | (simp at h; omega))) | ((with_reducible refine And.intro ?_ ?_); focus (first | omega | (intros; simp_all; done) | (simp; omega)))
            exact done (by simp only [pur_int, pur_bool, pur_str, pur_agg, pur_tup, pur_sl, pur_iface, pur_nilI, List.mem_cons, List.not_mem_nil, false_implies, forall_eq_or_imp, List.mem_map, forall_exists_index, and_imp, forall_apply_eq_imp_iff₂, or_false, forall_eq, implies_true, and_self, and_true, true_and, Go.Gw.stA, Go.Gw.opA, Go.Gw.ndA, Go.Gw.unA, Go.Gw.enA, Go.Gw.inA, Go.Gw.lgF, Go.Gw.lgA]) (.refl _)

theorem rfold_c (b : Bool) (l : List Opn) (hS : ∀ o ∈ l, OpS o) (hl : l.length ≤ 1000000) (H : AHeap) : FnC Try.prog 47 [.sl b (l.map opA)] H (.sl false ((foldL l).map ndA)) := by
  refine fnC_of Try.func47 rfl (Nat.le_of_ble_eq_true rfl) ?_
  have hso := rsorted_c b l (by omega) (fun o ho H => ropOk_c o (hS o ho) H)
  have hops : ∀ o ∈ rSort l, OpS o := fun o ho => hS o (List.mem_filter.1 (List.mem_of_find?_eq_some (((rSort_mem l).2 o).1 ho))).1
  have hlen := rSortLen l
  have hfold : foldL l = (rSort l).foldl doL [] := rfl
  rw [hfold]
  generalize rSort l = R at *
  repeat' first | ((first | refine callK_fn (hso _) callOk54F ?_ | refine callP_fn (hso _) callOk54F ?_ | refine callM_fn (fun _ => hso _) callOk54F ?_ | refine callP_false (.bool false) ?_ | refine aw_region rfl ?_ | refine aw_region_draw mixedF rfl (by kernel_rfl) ?_ | refine aw_ret ?_ | refine aw_skip ?_ | refine aw_exit ?_ | refine aw_label ?_); simp only [go_sem, ↓reduceIte, Nat.reduceEqDiff, Nat.reduceAdd, Nat.reduceSub, Nat.reduceMul, Nat.reduceLeDiff, Nat.reduceLT, Nat.reduceBEq, Int.reduceNeg, Int.reduceLE, Int.reduceLT, Int.reduceToNat, String.reduceEq]) | refine aw_seq ?_ | refine aw_block ?_ | refine aw_scope ?_ | (refine aw_cond rfl (fun h => ?_) (fun h => ?_) <;> try (exfalso; first | (simp at h; done) | (simp at h; omega))) | ((with_reducible refine And.intro ?_ ?_); focus (first | omega | (intros; simp_all; done) | (simp; omega)))
  refine aw_loopS (ι := Nat × Bool × AHeap) (fun x => [(3, .sl false (R.map opA)), (4, .sl x.2.1 (((R.take x.1).foldl doL []).map ndA)), (5, .int .i64 x.1)])
    (fun x => x.2.2) (fun x => x.1 ≤ R.length ∧ ∃ M, x.2.2 = H ++ M) (fun x => R.length - x.1) (0, true, H) ⟨Nat.zero_le _, [], (List.append_nil H).symm⟩ ?_ rfl ?_
  · simp [go_sem]
  · rintro ⟨i, f, Y⟩ ⟨hi, hP⟩
    simp only at hi hP ⊢
    by_cases hlt : i < R.length
    · have hp := getD_map opA hlt
      have hli : decide ((i : Int) < (R.length : Int)) = true := decide_eq_true (by omega)
      have htk : R.take (i + 1) = R.take i ++ [R[i]] := List.take_succ_eq_append_getElem hlt
      have hfl2 := foldl_len (R.take i) []
      rw [List.length_take, List.length_nil] at hfl2
      have hSo := hops _ (List.getElem_mem hlt)
      have hdo := rdo_c f ((R.take i).foldl doL []) R[i] (by omega) (fun H => ropOk_c _ hSo H)
      have hF : (R.take (i + 1)).foldl doL [] = doL ((R.take i).foldl doL []) R[i] := by rw [htk, List.foldl_append]; rfl
      generalize R[i] = o at *
      generalize (R.take i).foldl doL [] = nn at *
      simp only [opA, unA] at hdo
      repeat' first | ((first | refine callK_fn (hdo _) callOk35F ?_ | refine callP_fn (hdo _) callOk35F ?_ | refine callM_fn (fun _ => hdo _) callOk35F ?_ | refine callP_false (.bool false) ?_ | refine aw_region rfl ?_ | refine aw_region_draw mixedF rfl (by kernel_rfl) ?_ | refine aw_ret ?_ | refine aw_skip ?_ | refine aw_exit ?_ | refine aw_label ?_); simp only [go_sem, ↓reduceIte, Nat.reduceEqDiff, Nat.reduceAdd, Nat.reduceSub, Nat.reduceMul, Nat.reduceLeDiff, Nat.reduceLT, Nat.reduceBEq, Int.reduceNeg, Int.reduceLE, Int.reduceLT, Int.reduceToNat, String.reduceEq, hp, opA, hli]) | refine aw_seq ?_ | refine aw_block ?_ | refine aw_scope ?_ | (refine aw_cond rfl (fun h => ?_) (fun h => ?_) <;> try (exfalso; first | (simp at h; done) | (simp at h; omega))) | ((with_reducible refine And.intro ?_ ?_); focus (first | omega | (intros; simp_all; done) | (simp; omega)))
      exact ⟨(i + 1, f && refused nn o, Y), ⟨hlt, hP⟩, by simp only; omega, ⟨by simp only [hF], congrArg _ (wrap_succ hlt (by omega))⟩, rfl⟩
    · have hie : i = R.length := by omega
      subst hie
      have hli : decide ((R.length : Int) < (R.length : Int)) = false := by simp
      rw [List.take_length]
      repeat' first | ((first | refine callP_false (.bool false) ?_ | refine aw_region rfl ?_ | refine aw_region_draw mixedF rfl (by kernel_rfl) ?_ | refine aw_ret ?_ | refine aw_skip ?_ | refine aw_exit ?_ | refine aw_label ?_); simp only [go_sem, ↓reduceIte, Nat.reduceEqDiff, Nat.reduceAdd, Nat.reduceSub, Nat.reduceMul, Nat.reduceLeDiff, Nat.reduceLT, Nat.reduceBEq, Int.reduceNeg, Int.reduceLE, Int.reduceLT, Int.reduceToNat, String.reduceEq, hli]) | refine aw_seq ?_ | refine aw_block ?_ | refine aw_scope ?_ | (refine aw_cond rfl (fun h => ?_) (fun h => ?_) <;> try (exfalso; first | (simp at h; done) | (simp at h; omega))) | ((with_reducible refine And.intro ?_ ?_); focus (first | omega | (intros; simp_all; done) | (simp; omega)))
      obtain ⟨M, hM⟩ := hP
      subst hM
      exact done (by simp only [pur_int, pur_bool, pur_str, pur_agg, pur_tup, pur_sl, pur_iface, pur_nilI, List.mem_cons, List.not_mem_nil, false_implies, forall_eq_or_imp, List.mem_map, forall_exists_index, and_imp, forall_apply_eq_imp_iff₂, or_false, forall_eq, implies_true, and_self, and_true, true_and, Go.Gw.stA, Go.Gw.opA, Go.Gw.ndA, Go.Gw.unA, Go.Gw.enA, Go.Gw.inA, Go.Gw.lgF, Go.Gw.lgA]) (.sl _ _)
end Go.Proofs.Ytoffonjlfomnbaa
/- TreeTells, walked. No condition but the length of what comes in. -/
namespace Go.Aw
open Go
variable {P : Program}
/-- A move, taken as one that changes the heap: the others stand behind it. -/
@[go_sem] theorem mE_move (all os : List Oper) (pp : List Pl) (k : Nat) (fs : List Bool) (α : AF) (H : AHeap) (hist : List AHeap) (past : Past) (kont : AF → AHeap → Prop) (dst : Option Tmp) (ty : TypeId) (pos : String) (after : Array Edge) (x : Operand) :
    aopsM P all (.eff fs :: pp) (⟨dst, .move x, ty, pos, after, none⟩ :: os) k α H hist past kont = (pAll fs past H ∧ aopsM P all pp os (k + 1) (putA dst (ev α x) α) H (H :: hist) (pKeep fs past) kont) :=
  (exE (A := (opEval P (.move x) (ev α) H).s) (b := (opEval P (.move x) (ev α) H).v) (G := (opEval P (.move x) (ev α) H).H) (W := fun H1 => pAll fs past H1) (X := fun v H1 => aopsM P all pp os (k + 1) (putA dst v α) H1 (H :: hist) (pKeep fs past) kont)).trans (by simp only [opEval, ofBR, true_and, and_true, implies_true, and_assoc])
end Go.Aw
namespace Go.Gw
open Go Go.Aw Go.Proofs.Ytoffonjlfomnbaa
theorem few_app {l : List Nd} {n : Nd} {k : Int} (h : fewNd (l ++ [n]) k = true) : (l.length : Int) + 1 ≤ k := by
  have := fewNd_len h
  rw [List.length_append] at this
  simpa using this
end Go.Gw
namespace Go.Proofs.Ytoffonjlfomnbaa
open Go Go.Aw Go.Gw
set_option linter.unusedSimpArgs false
set_option maxRecDepth 20000
set_option maxHeartbeats 8000000


theorem ttells_c (b b2 : Bool) (l : List Nd) (o : Opn) (u : Und) (ops : List Opn) (id : Int) (hl : l.length ≤ 1048576) (hl2 : ops.length ≤ 1048576) (H : AHeap) :
    FnC Try.prog 8 [.sl b (l.map ndA), opA o, unA u, .sl b2 (ops.map opA), .int .i64 id] H (.bool true) := by
  refine fnC_of Try.func8 rfl (Nat.le_of_ble_eq_true rfl) ?_
  have hf6 := fun H => few6_c false (l ++ [u.was]) 101 H
  have hf5 := fun H => few5_c false (ops ++ [o]) 101 H
  have cT : (∀ e ∈ l.map ndA, e.cells.length = 8) = True := eq_true (cells_nd l)
  have cT2 : (∀ e ∈ ops.map opA, e.cells.length = 7) = True := eq_true (cells_op ops)
  have hfl := flat_nd_len' l
  have hfl2 := flat_op_len ops
  have hoc : opA o = .agg (opCells o) := rfl
  simp only [opCells] at hoc
  have huc : unA u = .agg [.bool u.did, .bool u.had, .int .i64 u.was.id, .int .i64 u.was.parent, .str u.was.name, .int .i64 u.was.moved.c, .int .i64 u.was.moved.r, .str u.was.data, .int .i64 u.was.wrote.c, .int .i64 u.was.wrote.r] := rfl
  rw [hoc, huc]
  repeat' first | ((first | refine callK_fn (awake6_c _) callOk32F ?_ | refine callP_fn (awake6_c _) callOk32F ?_ | refine callM_fn (fun _ => awake6_c _) callOk32F ?_ | refine aw_region_mix (id := 2) [.free, .free, .eff [], .pure 1, .pure 1, .free, .eff [true, true], .eff [true, true], .free, .eff [true, true], .free, .free, .eff [true, true], .pure 1, .free, .eff [true, true, true], .eff [true, true, true], .free, .free] mixedF rfl (by kernel_rfl) (by kernel_rfl) ?_ | refine callP_false (.bool false) ?_ | refine aw_region rfl ?_ | refine aw_region_draw mixedF rfl (by kernel_rfl) ?_ | refine aw_ret ?_ | refine aw_skip ?_ | refine aw_exit ?_ | refine aw_label ?_); simp only [go_sem, ↓reduceIte, Nat.reduceEqDiff, Nat.reduceAdd, Nat.reduceSub, Nat.reduceMul, Nat.reduceLeDiff, Nat.reduceLT, Nat.reduceBEq, Int.reduceNeg, Int.reduceLE, Int.reduceLT, Int.reduceToNat, String.reduceEq, cT, hfl, cT2, hfl2]) | refine aw_seq ?_ | refine aw_block ?_ | refine aw_scope ?_ | (refine aw_cond rfl (fun h => ?_) (fun h => ?_) <;> try (exfalso; first | (simp at h; done) | (simp at h; omega))) | ((with_reducible refine And.intro ?_ ?_); focus (first | omega | (intros; simp_all; done) | (simp; omega)))
  refine ⟨⟨fun e he => by rw [he]; rfl, by omega⟩, ?_⟩
  refine callE_frz (cs := (l.map ndA).flatMap AV.cells ++ [.int .i64 u.was.id, .int .i64 u.was.parent, .str u.was.name, .int .i64 u.was.moved.c, .int .i64 u.was.moved.r, .str u.was.data, .int .i64 u.was.wrote.c, .int .i64 u.was.wrote.r]) ((l ++ [u.was]).map ndA) [] hf6 callOk33F rfl (by rw [List.length_map, List.length_append]; rfl) (by simp only [go_sem, ↓reduceIte, Nat.reduceEqDiff, Nat.reduceAdd, Nat.reduceSub, Nat.reduceMul, Nat.reduceLeDiff, Nat.reduceLT, Nat.reduceBEq, Int.reduceNeg, Int.reduceLE, Int.reduceLT, Int.reduceToNat, String.reduceEq]) (by omega) (by rw [List.append_nil, List.map_append, List.flatMap_append]; rfl) (cells_nd _) ?_
  simp only [go_sem, ↓reduceIte, Nat.reduceEqDiff, Nat.reduceAdd, Nat.reduceSub, Nat.reduceMul, Nat.reduceLeDiff, Nat.reduceLT, Nat.reduceBEq, Int.reduceNeg, Int.reduceLE, Int.reduceLT, Int.reduceToNat, String.reduceEq]
  cases h6 : fewNd (l ++ [u.was]) 101 with
  | false =>
    repeat' first | ((first | refine aw_region_mix (id := 2) [.free, .free, .eff [], .pure 1, .pure 1, .free, .eff [true, true], .eff [true, true], .free, .eff [true, true], .free, .free, .eff [true, true], .pure 1, .free, .eff [true, true, true], .eff [true, true, true], .free, .free] mixedF rfl (by kernel_rfl) (by kernel_rfl) ?_ | refine callP_false (.bool false) ?_ | refine aw_region rfl ?_ | refine aw_region_draw mixedF rfl (by kernel_rfl) ?_ | refine aw_ret ?_ | refine aw_skip ?_ | refine aw_exit ?_ | refine aw_label ?_); simp only [go_sem, ↓reduceIte, Nat.reduceEqDiff, Nat.reduceAdd, Nat.reduceSub, Nat.reduceMul, Nat.reduceLeDiff, Nat.reduceLT, Nat.reduceBEq, Int.reduceNeg, Int.reduceLE, Int.reduceLT, Int.reduceToNat, String.reduceEq, cond_false, cond_true]) | refine aw_seq ?_ | refine aw_block ?_ | refine aw_scope ?_ | (refine aw_cond rfl (fun h => ?_) (fun h => ?_) <;> try (exfalso; first | (simp at h; done) | (simp at h; omega))) | ((with_reducible refine And.intro ?_ ?_); focus (first | omega | (intros; simp_all; done) | (simp; omega)))
    simp only [go_sem, ↓reduceIte, Nat.reduceEqDiff, Nat.reduceAdd, Nat.reduceSub, Nat.reduceMul, Nat.reduceLeDiff, Nat.reduceLT, Nat.reduceBEq, Int.reduceNeg, Int.reduceLE, Int.reduceLT, Int.reduceToNat, String.reduceEq, cond_false, cond_true]
    refine ⟨.top, _, fun h => (by cases h), fun _ => rfl, ?_⟩
    simp only [go_sem, ↓reduceIte, Nat.reduceEqDiff, Nat.reduceAdd, Nat.reduceSub, Nat.reduceMul, Nat.reduceLeDiff, Nat.reduceLT, Nat.reduceBEq, Int.reduceNeg, Int.reduceLE, Int.reduceLT, Int.reduceToNat, String.reduceEq, cond_false, cond_true]
    repeat' first | ((first | refine aw_region_mix (id := 2) [.free, .free, .eff [], .pure 1, .pure 1, .free, .eff [true, true], .eff [true, true], .free, .eff [true, true], .free, .free, .eff [true, true], .pure 1, .free, .eff [true, true, true], .eff [true, true, true], .free, .free] mixedF rfl (by kernel_rfl) (by kernel_rfl) ?_ | refine callP_false (.bool false) ?_ | refine aw_region rfl ?_ | refine aw_region_draw mixedF rfl (by kernel_rfl) ?_ | refine aw_ret ?_ | refine aw_skip ?_ | refine aw_exit ?_ | refine aw_label ?_); simp only [go_sem, ↓reduceIte, Nat.reduceEqDiff, Nat.reduceAdd, Nat.reduceSub, Nat.reduceMul, Nat.reduceLeDiff, Nat.reduceLT, Nat.reduceBEq, Int.reduceNeg, Int.reduceLE, Int.reduceLT, Int.reduceToNat, String.reduceEq, cond_false, cond_true]) | refine aw_seq ?_ | refine aw_block ?_ | refine aw_scope ?_ | (refine aw_cond rfl (fun h => ?_) (fun h => ?_) <;> try (exfalso; first | (simp at h; done) | (simp at h; omega))) | ((with_reducible refine And.intro ?_ ?_); focus (first | omega | (intros; simp_all; done) | (simp; omega)))
    exact done (by simp only [pur_int, pur_bool, pur_str, pur_agg, pur_tup, pur_sl, pur_iface, pur_nilI, List.mem_cons, List.not_mem_nil, false_implies, forall_eq_or_imp, List.mem_map, forall_exists_index, and_imp, forall_apply_eq_imp_iff₂, or_false, forall_eq, implies_true, and_self, and_true, true_and, Go.Gw.stA, Go.Gw.opA, Go.Gw.ndA, Go.Gw.unA, Go.Gw.enA, Go.Gw.inA, Go.Gw.lgF, Go.Gw.lgA]) (.refl _)
  | true =>
    repeat' first | ((first | refine aw_region_mix (id := 2) [.free, .free, .eff [], .pure 1, .pure 1, .free, .eff [true, true], .eff [true, true], .free, .eff [true, true], .free, .free, .eff [true, true], .pure 1, .free, .eff [true, true, true], .eff [true, true, true], .free, .free] mixedF rfl (by kernel_rfl) (by kernel_rfl) ?_ | refine callP_false (.bool false) ?_ | refine aw_region rfl ?_ | refine aw_region_draw mixedF rfl (by kernel_rfl) ?_ | refine aw_ret ?_ | refine aw_skip ?_ | refine aw_exit ?_ | refine aw_label ?_); simp only [go_sem, ↓reduceIte, Nat.reduceEqDiff, Nat.reduceAdd, Nat.reduceSub, Nat.reduceMul, Nat.reduceLeDiff, Nat.reduceLT, Nat.reduceBEq, Int.reduceNeg, Int.reduceLE, Int.reduceLT, Int.reduceToNat, String.reduceEq, cond_false, cond_true, cT2, hfl2]) | refine aw_seq ?_ | refine aw_block ?_ | refine aw_scope ?_ | (refine aw_cond rfl (fun h => ?_) (fun h => ?_) <;> try (exfalso; first | (simp at h; done) | (simp at h; omega))) | ((with_reducible refine And.intro ?_ ?_); focus (first | omega | (intros; simp_all; done) | (simp; omega)))
    simp only [go_sem, ↓reduceIte, Nat.reduceEqDiff, Nat.reduceAdd, Nat.reduceSub, Nat.reduceMul, Nat.reduceLeDiff, Nat.reduceLT, Nat.reduceBEq, Int.reduceNeg, Int.reduceLE, Int.reduceLT, Int.reduceToNat, String.reduceEq, cond_false, cond_true, cT2, hfl2]
    refine ⟨⟨.inl trivial, by omega⟩, ⟨fun e he => by rw [he]; rfl, by omega⟩, ?_⟩
    refine callE_frz (cs := (ops.map opA).flatMap AV.cells ++ [.int .i64 o.at_.c, .int .i64 o.at_.r, .int .i64 o.kind, .int .i64 o.node, .int .i64 o.parent, .str o.name, .str o.data]) ((ops ++ [o]).map opA) [] hf5 callOk21F rfl (by rw [List.length_map, List.length_append]; rfl) (by simp only [go_sem, ↓reduceIte, Nat.reduceEqDiff, Nat.reduceAdd, Nat.reduceSub, Nat.reduceMul, Nat.reduceLeDiff, Nat.reduceLT, Nat.reduceBEq, Int.reduceNeg, Int.reduceLE, Int.reduceLT, Int.reduceToNat, String.reduceEq]) (by omega) (by rw [List.append_nil, List.map_append, List.flatMap_append]; rfl) (cells_op _) ?_
    simp only [go_sem, ↓reduceIte, Nat.reduceEqDiff, Nat.reduceAdd, Nat.reduceSub, Nat.reduceMul, Nat.reduceLeDiff, Nat.reduceLT, Nat.reduceBEq, Int.reduceNeg, Int.reduceLE, Int.reduceLT, Int.reduceToNat, String.reduceEq, cond_false, cond_true]
    have hl6 := few_app h6
    cases h5 : fewOpn (ops ++ [o]) 101 with
    | false =>
      repeat' first | ((first | refine aw_region_mix (id := 2) [.free, .free, .eff [], .pure 1, .pure 1, .free, .eff [true, true], .eff [true, true], .free, .eff [true, true], .free, .free, .eff [true, true], .pure 1, .free, .eff [true, true, true], .eff [true, true, true], .free, .free] mixedF rfl (by kernel_rfl) (by kernel_rfl) ?_ | refine callP_false (.bool false) ?_ | refine aw_region rfl ?_ | refine aw_region_draw mixedF rfl (by kernel_rfl) ?_ | refine aw_ret ?_ | refine aw_skip ?_ | refine aw_exit ?_ | refine aw_label ?_); simp only [go_sem, ↓reduceIte, Nat.reduceEqDiff, Nat.reduceAdd, Nat.reduceSub, Nat.reduceMul, Nat.reduceLeDiff, Nat.reduceLT, Nat.reduceBEq, Int.reduceNeg, Int.reduceLE, Int.reduceLT, Int.reduceToNat, String.reduceEq, cond_false, cond_true]) | refine aw_seq ?_ | refine aw_block ?_ | refine aw_scope ?_ | (refine aw_cond rfl (fun h => ?_) (fun h => ?_) <;> try (exfalso; first | (simp at h; done) | (simp at h; omega))) | ((with_reducible refine And.intro ?_ ?_); focus (first | omega | (intros; simp_all; done) | (simp; omega)))
      exact done (by simp only [pur_int, pur_bool, pur_str, pur_agg, pur_tup, pur_sl, pur_iface, pur_nilI, List.mem_cons, List.not_mem_nil, false_implies, forall_eq_or_imp, List.mem_map, forall_exists_index, and_imp, forall_apply_eq_imp_iff₂, or_false, forall_eq, implies_true, and_self, and_true, true_and, Go.Gw.stA, Go.Gw.opA, Go.Gw.ndA, Go.Gw.unA, Go.Gw.enA, Go.Gw.inA, Go.Gw.lgF, Go.Gw.lgA]) (.refl _)
    | true =>
      obtain ⟨hS, hl5⟩ := few_S h5
      rw [List.length_append] at hl5
      simp only [List.length_cons, List.length_nil] at hl5
      have ho : OpS o := hS o (by simp)
      have hops : ∀ x ∈ ops, OpS x := fun x hx => hS x (by simp [hx])
      have hdo := do_c b l o ho (by omega)
      have hrdo := rdo_c b l o (by omega) (fun H => ropOk_c o ho H)
      have hfi := find_c b l id
      have hrfi := rfind_c b l id
      have hch := chk_c b l
      have hrch := rchk_c b l
      have hab := aboveC_c b l id (by omega)
      have hrab := rabove_c b l id (by omega)
      have hnu := nums6_c false false (aboveC l id) (aboveC l id)
      have hbk := back_c b l o u (by omega)
      have hrbk := rback_c b l o u (by omega)
      have hfo := fold_c b2 ops hops (by omega)
      have hrfo := rfold_c b2 ops hops (by omega)
      have hs1 := fun b1 b2 => same6_c b1 b2 (doL l o) (doL l o)
      have hs2 := fun b1 b2 => same6_c b1 b2 (backL l o u) (backL l o u)
      have hs3 := fun b1 b2 => same6_c b1 b2 (foldL ops) (foldL ops)
      simp only [decide_true] at hnu hs1 hs2 hs3
      have hI : ∀ x : Int, decide (x = x) = true := fun x => decide_eq_true rfl
      have hT : ∀ x : Txt, decide (x = x) = true := fun x => decide_eq_true rfl
      have hB : ∀ x : Bool, decide (x = x) = true := fun x => decide_eq_true rfl
      generalize (b && refused l o) = f1 at *
      generalize (b && (!chk l || !u.did)) = f2 at *
      generalize backL l o u = bb at *
      generalize foldL ops = ff at *
      generalize aboveC l id = aa at *
      generalize doL l o = dd at *
      generalize doU l o = du at *
      generalize findI l id = fo at *
      generalize chk l = cc at *
      simp only [opA, unA, ndV, ndA] at hdo hrdo hfi hrfi hbk hrbk
      repeat' first | ((first | refine callK_fn (hdo _) callOk34F ?_ | refine callP_fn (hdo _) callOk34F ?_ | refine callM_fn (fun _ => hdo _) callOk34F ?_ | refine callK_fn (hrdo _) callOk35F ?_ | refine callP_fn (hrdo _) callOk35F ?_ | refine callM_fn (fun _ => hrdo _) callOk35F ?_ | refine callK_fn (hfi _) callOk36F ?_ | refine callP_fn (hfi _) callOk36F ?_ | refine callM_fn (fun _ => hfi _) callOk36F ?_ | refine callK_fn (hrfi _) callOk37F ?_ | refine callP_fn (hrfi _) callOk37F ?_ | refine callM_fn (fun _ => hrfi _) callOk37F ?_ | refine callK_fn (hch _) callOk38F ?_ | refine callP_fn (hch _) callOk38F ?_ | refine callM_fn (fun _ => hch _) callOk38F ?_ | refine callK_fn (hrch _) callOk39F ?_ | refine callP_fn (hrch _) callOk39F ?_ | refine callM_fn (fun _ => hrch _) callOk39F ?_ | refine callK_fn (hab _) callOk41F ?_ | refine callP_fn (hab _) callOk41F ?_ | refine callM_fn (fun _ => hab _) callOk41F ?_ | refine callK_fn (hrab _) callOk42F ?_ | refine callP_fn (hrab _) callOk42F ?_ | refine callM_fn (fun _ => hrab _) callOk42F ?_ | refine callK_fn (hnu _) callOk40F ?_ | refine callP_fn (hnu _) callOk40F ?_ | refine callM_fn (fun _ => hnu _) callOk40F ?_ | refine callK_fn (hbk _) callOk44F ?_ | refine callP_fn (hbk _) callOk44F ?_ | refine callM_fn (fun _ => hbk _) callOk44F ?_ | refine callK_fn (hrbk _) callOk45F ?_ | refine callP_fn (hrbk _) callOk45F ?_ | refine callM_fn (fun _ => hrbk _) callOk45F ?_ | refine callK_fn (hfo _) callOk46F ?_ | refine callP_fn (hfo _) callOk46F ?_ | refine callM_fn (fun _ => hfo _) callOk46F ?_ | refine callK_fn (hrfo _) callOk47F ?_ | refine callP_fn (hrfo _) callOk47F ?_ | refine callM_fn (fun _ => hrfo _) callOk47F ?_ | refine callK_fn (hs1 _ _ _) callOk43F ?_ | refine callP_fn (hs1 _ _ _) callOk43F ?_ | refine callM_fn (fun _ => hs1 _ _ _) callOk43F ?_ | refine callK_fn (hs2 _ _ _) callOk43F ?_ | refine callP_fn (hs2 _ _ _) callOk43F ?_ | refine callM_fn (fun _ => hs2 _ _ _) callOk43F ?_ | refine callK_fn (hs3 _ _ _) callOk43F ?_ | refine callP_fn (hs3 _ _ _) callOk43F ?_ | refine callM_fn (fun _ => hs3 _ _ _) callOk43F ?_ | refine aw_region_mix (id := 2) [.free, .free, .eff [], .pure 1, .pure 1, .free, .eff [true, true], .eff [true, true], .free, .eff [true, true], .free, .free, .eff [true, true], .pure 1, .free, .eff [true, true, true], .eff [true, true, true], .free, .free] mixedF rfl (by kernel_rfl) (by kernel_rfl) ?_ | refine callP_false (.bool false) ?_ | refine aw_region rfl ?_ | refine aw_region_draw mixedF rfl (by kernel_rfl) ?_ | refine aw_ret ?_ | refine aw_skip ?_ | refine aw_exit ?_ | refine aw_label ?_); simp only [go_sem, ↓reduceIte, Nat.reduceEqDiff, Nat.reduceAdd, Nat.reduceSub, Nat.reduceMul, Nat.reduceLeDiff, Nat.reduceLT, Nat.reduceBEq, Int.reduceNeg, Int.reduceLE, Int.reduceLT, Int.reduceToNat, String.reduceEq, hI, hT, hB, cond_false, cond_true]) | refine aw_seq ?_ | refine aw_block ?_ | refine aw_scope ?_ | (refine aw_cond rfl (fun h => ?_) (fun h => ?_) <;> try (exfalso; first | (simp at h; done) | (simp at h; omega))) | ((with_reducible refine And.intro ?_ ?_); focus (first | omega | (intros; simp_all; done) | (simp; omega)))
      exact done (by simp only [pur_int, pur_bool, pur_str, pur_agg, pur_tup, pur_sl, pur_iface, pur_nilI, List.mem_cons, List.not_mem_nil, false_implies, forall_eq_or_imp, List.mem_map, forall_exists_index, and_imp, forall_apply_eq_imp_iff₂, or_false, forall_eq, implies_true, and_self, and_true, true_and, Go.Gw.stA, Go.Gw.opA, Go.Gw.ndA, Go.Gw.unA, Go.Gw.enA, Go.Gw.inA, Go.Gw.lgF, Go.Gw.lgA]) (.refl _)
end Go.Proofs.Ytoffonjlfomnbaa
