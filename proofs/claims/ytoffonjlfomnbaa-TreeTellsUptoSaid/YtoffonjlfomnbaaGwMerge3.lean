/- What the functions of the logs answer: Add. No condition. -/
import Derived.Test.YtoffonjlfomnbaaGwMerge2
namespace Go.Aw
open Go
variable {P : Program}
def cutQ {ι : Type} (F : ι → AF) (Hp : ι → AHeap) (pre : ι → Prop) (Q : APost) : APost
  | .normal, α, H => ∃ y, pre y ∧ subA (F y) α ∧ H = Hp y
  | e, α, H => Q e α H
section
variable {ι : Type} (F : ι → AF) (Hp : ι → AHeap) (pre : ι → Prop) (Q : APost) (α : AF) (H : AHeap)
@[go_sem] theorem cutQ_normal : cutQ F Hp pre Q .normal α H = ∃ y, pre y ∧ subA (F y) α ∧ H = Hp y := rfl
@[go_sem] theorem cutQ_exit (i : Nat) : cutQ F Hp pre Q (.exit i) α H = Q (.exit i) α H := rfl
@[go_sem] theorem cutQ_ret : cutQ F Hp pre Q .ret α H = Q .ret α H := rfl
end
/-- Between two pieces of code only what is told here is kept. -/
theorem aw_cut {N : Nat} {x y : Code} {Q : APost} {α : AF} {H : AHeap} {ι : Type} (F : ι → AF) (Hp : ι → AHeap) (pre : ι → Prop) (h1 : aw P N x (cutQ F Hp pre Q) α H) (h2 : ∀ i, pre i → aw P N y Q (F i) (Hp i)) : aw P N (.seq x y) Q α H := by
  refine aw_seq (aw_mono h1 fun e α' H' h => ?_)
  cases e with
  | normal =>
    obtain ⟨i, hp, hs, rfl⟩ := h
    exact aw_weaken (h2 i hp) (subA_look hs)
  | _ => exact h
theorem aw_cutB {N id : Nat} {x y : Code} {Q : APost} {α : AF} {H : AHeap} {ι : Type} (F : ι → AF) (Hp : ι → AHeap) (pre : ι → Prop) (h1 : aw P N x (blockQ id (cutQ F Hp pre Q)) α H) (h2 : ∀ i, pre i → aw P N y Q (F i) (Hp i)) : aw P N x (blockQ id (thenQ P N y Q)) α H := by
  refine aw_mono h1 fun e α' H' h => ?_
  have key : cutQ F Hp pre Q .normal α' H' → thenQ P N y Q .normal α' H' := fun ⟨i, hp, hs, hH⟩ => by subst hH; exact aw_weaken (h2 i hp) (subA_look hs)
  cases e with
  | normal => exact key h
  | exit i =>
    simp only [blockQ] at h ⊢
    by_cases hi : i == id
    · rw [hi, cond_true] at h ⊢; exact key h
    · have hi' : (i == id) = false := by simpa using hi
      rw [hi', cond_false] at h ⊢; exact h
  | _ => exact h
end Go.Aw
namespace Go.Proofs.Ytoffonjlfomnbaa
open Go Go.Aw Go.Gw
set_option linter.unusedSimpArgs false
set_option maxRecDepth 20000
set_option maxHeartbeats 1000000

def opCells (o : Opn) : List AV := [.int .i64 o.at_.c, .int .i64 o.at_.r, .int .i64 o.kind, .int .i64 o.node, .int .i64 o.parent, .str o.name, .str o.data]
theorem opA_cells (o : Opn) : opA o = .agg (opCells o) := rfl
def tagV (g : Lg) (e : Int) : AV := .tup [lgA g, .int .i64 e]
def EntS (l : List Ent) : Prop := ∀ e ∈ l, OpS e.op

theorem frzs_nil {n : Nat} {H : AHeap} : ∀ (i : Nat) (x y : AV), ([] : List AV)[i]? = some x → ([] : List AV)[i]? = some y → Frz n H x y := fun _ _ _ h => by simp at h
theorem frzs_cons {n : Nat} {H : AHeap} {a b : AV} {cs ds : List AV} (h : Frz n H a b) (hs : ∀ (i : Nat) (x y : AV), cs[i]? = some x → ds[i]? = some y → Frz n H x y) : ∀ (i : Nat) (x y : AV), (a :: cs)[i]? = some x → (b :: ds)[i]? = some y → Frz n H x y
  | 0, x, y, hx, hy => by simp at hx hy; subst hx; subst hy; exact h
  | i + 1, x, y, hx, hy => hs i x y (by simpa using hx) (by simpa using hy)
theorem growM {H M L G X : AHeap} (hG : H ++ (M ++ L) = G) : G ++ X = H ++ (M ++ (L ++ X)) := by rw [← hG]; simp only [List.append_assoc]
theorem pre_set {H X : AHeap} {i : Nat} (h : ∃ M, X = H ++ M) (hi : H.length ≤ i) (b : ABlk) : ∃ M, hset X i b = H ++ M := by
  obtain ⟨M, rfl⟩ := h
  obtain ⟨k, rfl⟩ : ∃ k, i = H.length + k := ⟨i - H.length, by omega⟩
  exact ⟨M.set k b, hset_app _ _ _ _⟩
theorem pre_app {H X : AHeap} (h : ∃ M, X = H ++ M) (L : AHeap) : ∃ M, X ++ L = H ++ M := by
  obtain ⟨M, rfl⟩ := h; exact ⟨M ++ L, List.append_assoc ..⟩

theorem madd_c (b1 b2 : Bool) (g : Lg) (o : Opn) (hs : OpS o) (hes : EntS g.entries) (h2 : g.nodes.length ≤ 1000000) (h1 : g.entries.length ≤ 1000000) (H : AHeap) : FnC Try.prog 19 [lgF b1 b2 g, opA o] H (tagV (addG g o) (addE g o)) := by
  have hok := opOk_c o hs
  have hsm := msame_c b1 b2 g (by omega) (by omega)
  have hha := has_c b1 b2 g o.at_
  refine fnC_of Try.func19 rfl (Nat.le_of_ble_eq_true rfl) ?_
  simp only [opA, lgA, lgF, stA, tagV] at hok hsm hha ⊢
  cases ho : opOk o with
  | false =>
    rw [addG, if_pos ho, addE, if_pos ho]
    repeat' first | ((first | refine callK_fn (hok _) callOk30F ?_ | refine callP_fn (hok _) callOk30F ?_ | refine callM_fn (fun _ => hok _) callOk30F ?_ | refine callK_fn (hsm _) callOk50F ?_ | refine callP_fn (hsm _) callOk50F ?_ | refine callM_fn (fun _ => hsm _) callOk50F ?_ | refine aw_region_mix (id := 7) [.pure 0, .pure 0, .pure 0, .pure 0, .pure 0, .eff [true, true, true, true, true], .eff [true, true, true, false, false], .free] mixedF rfl (by kernel_rfl) (by kernel_rfl) ?_ | refine callP_false (.bool false) ?_ | refine aw_region rfl ?_ | refine aw_region_draw mixedF rfl (by kernel_rfl) ?_ | refine aw_ret ?_ | refine aw_skip ?_ | refine aw_exit ?_ | refine aw_label ?_); simp only [go_sem, ↓reduceIte, Nat.reduceEqDiff, Nat.reduceAdd, Nat.reduceSub, Nat.reduceMul, Nat.reduceLeDiff, Nat.reduceLT, Nat.reduceBEq, Int.reduceNeg, Int.reduceLE, Int.reduceLT, Int.reduceToNat, String.reduceEq, ho]) | refine aw_seq ?_ | refine aw_block ?_ | refine aw_scope ?_ | (refine aw_cond rfl (fun h => ?_) (fun h => ?_) <;> try (exfalso; first | (simp at h; done) | (simp at h; omega))) | ((with_reducible refine And.intro ?_ ?_); focus (first | omega | (intros; simp_all; done) | (simp; omega)))
    exact done (by simp only [pur_int, pur_bool, pur_str, pur_agg, pur_tup, pur_sl, pur_iface, pur_nilI, List.mem_cons, List.not_mem_nil, false_implies, forall_eq_or_imp, List.mem_map, forall_exists_index, and_imp, forall_apply_eq_imp_iff₂, or_false, forall_eq, implies_true, and_self, and_true, true_and, Go.Gw.stA, Go.Gw.opA, Go.Gw.ndA, Go.Gw.unA, Go.Gw.enA, Go.Gw.inA, Go.Gw.lgF, Go.Gw.lgA]) (.refl _)
  | true =>
    cases hh : hasAt g.entries o.at_ with
    | true =>
      rw [addG, if_neg (by rw [ho]; decide), if_pos hh, addE, if_neg (by rw [ho]; decide), if_pos hh]
      repeat' first | ((first | refine callK_fn (hok _) callOk30F ?_ | refine callP_fn (hok _) callOk30F ?_ | refine callM_fn (fun _ => hok _) callOk30F ?_ | refine callK_fn (hsm _) callOk50F ?_ | refine callP_fn (hsm _) callOk50F ?_ | refine callM_fn (fun _ => hsm _) callOk50F ?_ | refine callK_fn (hha _) callOk24F ?_ | refine callP_fn (hha _) callOk24F ?_ | refine callM_fn (fun _ => hha _) callOk24F ?_ | refine aw_region_mix (id := 7) [.pure 0, .pure 0, .pure 0, .pure 0, .pure 0, .eff [true, true, true, true, true], .eff [true, true, true, false, false], .free] mixedF rfl (by kernel_rfl) (by kernel_rfl) ?_ | refine callP_false (.bool false) ?_ | refine aw_region rfl ?_ | refine aw_region_draw mixedF rfl (by kernel_rfl) ?_ | refine aw_ret ?_ | refine aw_skip ?_ | refine aw_exit ?_ | refine aw_label ?_); simp only [go_sem, ↓reduceIte, Nat.reduceEqDiff, Nat.reduceAdd, Nat.reduceSub, Nat.reduceMul, Nat.reduceLeDiff, Nat.reduceLT, Nat.reduceBEq, Int.reduceNeg, Int.reduceLE, Int.reduceLT, Int.reduceToNat, String.reduceEq, ho, hh]) | refine aw_seq ?_ | refine aw_block ?_ | refine aw_scope ?_ | (refine aw_cond rfl (fun h => ?_) (fun h => ?_) <;> try (exfalso; first | (simp at h; done) | (simp at h; omega))) | ((with_reducible refine And.intro ?_ ?_); focus (first | omega | (intros; simp_all; done) | (simp; omega)))
      exact done (by simp only [pur_int, pur_bool, pur_str, pur_agg, pur_tup, pur_sl, pur_iface, pur_nilI, List.mem_cons, List.not_mem_nil, false_implies, forall_eq_or_imp, List.mem_map, forall_exists_index, and_imp, forall_apply_eq_imp_iff₂, or_false, forall_eq, implies_true, and_self, and_true, true_and, Go.Gw.stA, Go.Gw.opA, Go.Gw.ndA, Go.Gw.unA, Go.Gw.enA, Go.Gw.inA, Go.Gw.lgF, Go.Gw.lgA]) (.refl _)
    | false =>
      by_cases hm : (200 : Int) ≤ (g.entries.length : Int)
      · rw [addG, if_neg (by rw [ho]; decide), if_neg (by rw [hh]; decide), if_pos hm, addE, if_neg (by rw [ho]; decide), if_neg (by rw [hh]; decide), if_pos hm]
        repeat' first | ((first | refine callK_fn (hok _) callOk30F ?_ | refine callP_fn (hok _) callOk30F ?_ | refine callM_fn (fun _ => hok _) callOk30F ?_ | refine callK_fn (hsm _) callOk50F ?_ | refine callP_fn (hsm _) callOk50F ?_ | refine callM_fn (fun _ => hsm _) callOk50F ?_ | refine callK_fn (hha _) callOk24F ?_ | refine callP_fn (hha _) callOk24F ?_ | refine callM_fn (fun _ => hha _) callOk24F ?_ | refine aw_region_mix (id := 7) [.pure 0, .pure 0, .pure 0, .pure 0, .pure 0, .eff [true, true, true, true, true], .eff [true, true, true, false, false], .free] mixedF rfl (by kernel_rfl) (by kernel_rfl) ?_ | refine callP_false (.bool false) ?_ | refine aw_region rfl ?_ | refine aw_region_draw mixedF rfl (by kernel_rfl) ?_ | refine aw_ret ?_ | refine aw_skip ?_ | refine aw_exit ?_ | refine aw_label ?_); simp only [go_sem, ↓reduceIte, Nat.reduceEqDiff, Nat.reduceAdd, Nat.reduceSub, Nat.reduceMul, Nat.reduceLeDiff, Nat.reduceLT, Nat.reduceBEq, Int.reduceNeg, Int.reduceLE, Int.reduceLT, Int.reduceToNat, String.reduceEq, ho, hh, hm]) | refine aw_seq ?_ | refine aw_block ?_ | refine aw_scope ?_ | (refine aw_cond rfl (fun h => ?_) (fun h => ?_) <;> try (exfalso; first | (simp at h; done) | (simp at h; omega))) | ((with_reducible refine And.intro ?_ ?_); focus (first | omega | (intros; simp_all; done) | (simp; omega)))
        exact done (by simp only [pur_int, pur_bool, pur_str, pur_agg, pur_tup, pur_sl, pur_iface, pur_nilI, List.mem_cons, List.not_mem_nil, false_implies, forall_eq_or_imp, List.mem_map, forall_exists_index, and_imp, forall_apply_eq_imp_iff₂, or_false, forall_eq, implies_true, and_self, and_true, true_and, Go.Gw.stA, Go.Gw.opA, Go.Gw.ndA, Go.Gw.unA, Go.Gw.enA, Go.Gw.inA, Go.Gw.lgF, Go.Gw.lgA]) (.refl _)
      · rw [addG, if_neg (by rw [ho]; decide), if_neg (by rw [hh]; decide), if_neg hm, addE, if_neg (by rw [ho]; decide), if_neg (by rw [hh]; decide), if_neg hm]
        repeat' first | ((first | refine callK_fn (hok _) callOk30F ?_ | refine callP_fn (hok _) callOk30F ?_ | refine callM_fn (fun _ => hok _) callOk30F ?_ | refine callK_fn (hsm _) callOk50F ?_ | refine callP_fn (hsm _) callOk50F ?_ | refine callM_fn (fun _ => hsm _) callOk50F ?_ | refine callK_fn (hha _) callOk24F ?_ | refine callP_fn (hha _) callOk24F ?_ | refine callM_fn (fun _ => hha _) callOk24F ?_ | refine aw_region_mix (id := 7) [.pure 0, .pure 0, .pure 0, .pure 0, .pure 0, .eff [true, true, true, true, true], .eff [true, true, true, false, false], .free] mixedF rfl (by kernel_rfl) (by kernel_rfl) ?_ | refine callP_false (.bool false) ?_ | refine aw_region rfl ?_ | refine aw_region_draw mixedF rfl (by kernel_rfl) ?_ | refine aw_ret ?_ | refine aw_skip ?_ | refine aw_exit ?_ | refine aw_label ?_); simp only [go_sem, ↓reduceIte, Nat.reduceEqDiff, Nat.reduceAdd, Nat.reduceSub, Nat.reduceMul, Nat.reduceLeDiff, Nat.reduceLT, Nat.reduceBEq, Int.reduceNeg, Int.reduceLE, Int.reduceLT, Int.reduceToNat, String.reduceEq, ho, hh, hm]) | refine aw_seq ?_ | refine aw_block ?_ | refine aw_scope ?_ | (refine aw_cond rfl (fun h => ?_) (fun h => ?_) <;> try (exfalso; first | (simp at h; done) | (simp at h; omega))) | ((with_reducible refine And.intro ?_ ?_); focus (first | omega | (intros; simp_all; done) | (simp; omega)))
        have hbk := fun l e u hl => back_c false l e u hl
        simp only [opA, unA] at hbk
        refine aw_simH (H.length + 3) [.sl false (g.nodes.map ndA)] (v := 0) (cs := [.sl b2 (g.nodes.map ndA)]) (by simp only [go_sem, ↓reduceIte, Nat.reduceEqDiff, Nat.reduceAdd, Nat.reduceSub, Nat.reduceMul, Nat.reduceLeDiff, Nat.reduceLT, Nat.reduceBEq, Int.reduceNeg, Int.reduceLE, Int.reduceLT, Int.reduceToNat, String.reduceEq]) rfl (sims_cons (.sl _ _) sims_nil) ?_
        simp only [go_sem, ↓reduceIte, Nat.reduceEqDiff, Nat.reduceAdd, Nat.reduceSub, Nat.reduceMul, Nat.reduceLeDiff, Nat.reduceLT, Nat.reduceBEq, Int.reduceNeg, Int.reduceLE, Int.reduceLT, Int.reduceToNat, String.reduceEq]
        refine aw_cutB (ι := Nat × List Nd × AHeap)
          (fun x => [(2, .ref H.length 0 0), (3, .ref (H.length + 1) 0 0), (4, .ref (H.length + 2) 0 0), (6, .ref (H.length + 3) 0 0), (7, .int .i64 ((g.entries.length - x.1 : Nat) : Int))])
          (fun x => H ++ ([.cells 0 [.sl b1 (g.entries.map enA), .sl b2 (g.nodes.map ndA)], .cells 0 (opCells o), .cells 0 [.sl true [], .sl true []], .cells 0 [.sl false (x.2.1.map ndA)]] ++ x.2.2))
          (fun x => x.1 ≤ g.entries.length ∧ x.2.1.length ≤ g.nodes.length + x.1 ∧ undoR o.at_ g.entries.reverse g.nodes = (x.1, x.2.1)) ?_ ?_
        · refine aw_loopS (ι := Nat × List Nd × AHeap)
            (fun x => [(2, .ref H.length 0 0), (3, .ref (H.length + 1) 0 0), (4, .ref (H.length + 2) 0 0), (6, .ref (H.length + 3) 0 0), (7, .int .i64 ((g.entries.length - x.1 : Nat) : Int)), (41, .int .i64 g.entries.length), (42, .int .i64 x.1)])
            (fun x => H ++ ([.cells 0 [.sl b1 (g.entries.map enA), .sl b2 (g.nodes.map ndA)], .cells 0 (opCells o), .cells 0 [.sl true [], .sl true []], .cells 0 [.sl false (x.2.1.map ndA)]] ++ x.2.2))
            (fun x => x.1 ≤ g.entries.length ∧ x.2.1.length ≤ g.nodes.length + x.1 ∧ undoR o.at_ g.entries.reverse g.nodes = (x.1 + (undoR o.at_ (g.entries.reverse.drop x.1) x.2.1).1, (undoR o.at_ (g.entries.reverse.drop x.1) x.2.1).2)) (fun x => g.entries.length - x.1) (0, g.nodes, []) ⟨Nat.zero_le _, Nat.le_refl _, by simp⟩ ?_ (by simp [opCells]) ?_
          · simp [go_sem]
          · rintro ⟨i, n, L⟩ ⟨hi, hn, he⟩
            simp only [opCells] at hi hn he ⊢
            generalize hG : H ++ ([ABlk.cells 0 [AV.sl b1 (g.entries.map enA), .sl b2 (g.nodes.map ndA)], .cells 0 [.int .i64 o.at_.c, .int .i64 o.at_.r, .int .i64 o.kind, .int .i64 o.node, .int .i64 o.parent, .str o.name, .str o.data], .cells 0 [.sl true [], .sl true []], .cells 0 [.sl false (n.map ndA)]] ++ L) = G
            have hlG : H.length + 3 < G.length := by rw [← hG]; simp
            have q0 : hget G H.length = .cells 0 [AV.sl b1 (g.entries.map enA), .sl b2 (g.nodes.map ndA)] := by rw [← hG]; simp only [go_sem, ↓reduceIte, Nat.reduceEqDiff, Nat.reduceAdd, Nat.reduceSub, Nat.reduceMul, Nat.reduceLeDiff, Nat.reduceLT, Nat.reduceBEq, Int.reduceNeg, Int.reduceLE, Int.reduceLT, Int.reduceToNat, String.reduceEq]
            have q1 : hget G (H.length + 1) = .cells 0 [.int .i64 o.at_.c, .int .i64 o.at_.r, .int .i64 o.kind, .int .i64 o.node, .int .i64 o.parent, .str o.name, .str o.data] := by rw [← hG]; simp only [go_sem, ↓reduceIte, Nat.reduceEqDiff, Nat.reduceAdd, Nat.reduceSub, Nat.reduceMul, Nat.reduceLeDiff, Nat.reduceLT, Nat.reduceBEq, Int.reduceNeg, Int.reduceLE, Int.reduceLT, Int.reduceToNat, String.reduceEq]
            have q3 : hget G (H.length + 3) = .cells 0 [.sl false (n.map ndA)] := by rw [← hG]; simp only [go_sem, ↓reduceIte, Nat.reduceEqDiff, Nat.reduceAdd, Nat.reduceSub, Nat.reduceMul, Nat.reduceLeDiff, Nat.reduceLT, Nat.reduceBEq, Int.reduceNeg, Int.reduceLE, Int.reduceLT, Int.reduceToNat, String.reduceEq]
            have q0' := fun M => hget_appL q0 trivial M
            have q1' := fun M => hget_appL q1 trivial M
            have q3' := fun M => hget_appL q3 trivial M
            have qs := fun M b => hset_appL hlG M b
            have qn : ∀ b, hset G (H.length + 3) b = H ++ ([ABlk.cells 0 [AV.sl b1 (g.entries.map enA), .sl b2 (g.nodes.map ndA)], .cells 0 [.int .i64 o.at_.c, .int .i64 o.at_.r, .int .i64 o.kind, .int .i64 o.node, .int .i64 o.parent, .str o.name, .str o.data], .cells 0 [.sl true [], .sl true []], b] ++ L) := fun b => by rw [← hG]; simp only [go_sem, ↓reduceIte, Nat.reduceEqDiff, Nat.reduceAdd, Nat.reduceSub, Nat.reduceMul, Nat.reduceLeDiff, Nat.reduceLT, Nat.reduceBEq, Int.reduceNeg, Int.reduceLE, Int.reduceLT, Int.reduceToNat, String.reduceEq]
            by_cases hlt : i < g.entries.length
            · have hix : g.entries.length - 1 - i < g.entries.length := by omega
              have hp := getD_map enA hix
              have e1 : IntKind.i64.wrap (IntKind.i64.wrap ((g.entries.length : Int) - 1) - (i : Int)) = ((g.entries.length - 1 - i : Nat) : Int) := by
                rw [wrap_i64 (n := (g.entries.length : Int) - 1) (by omega) (by omega), wrap_i64 (by omega) (by omega)]; omega
              have hdr : g.entries.reverse.drop i = g.entries[g.entries.length - 1 - i] :: g.entries.reverse.drop (i + 1) := by
                rw [List.drop_eq_getElem_cons (by simpa using hlt)]
                congr 1
                rw [List.getElem_reverse]
              rw [hdr, undoR] at he
              repeat' first | ((first | refine callK_fn (less_c _ _ _ _ _) callOk31F ?_ | refine callP_fn (less_c _ _ _ _ _) callOk31F ?_ | refine callM_fn (fun _ => less_c _ _ _ _ _) callOk31F ?_ | refine callK_fn (hbk _ _ _ (by first | assumption | decide | omega | (simp_all; done) | (simp_all; omega)) _) callOk44F ?_ | refine callP_fn (hbk _ _ _ (by first | assumption | decide | omega | (simp_all; done) | (simp_all; omega)) _) callOk44F ?_ | refine callM_fn (fun _ => hbk _ _ _ (by first | assumption | decide | omega | (simp_all; done) | (simp_all; omega)) _) callOk44F ?_ | refine aw_region_mix (id := 7) [.pure 0, .pure 0, .pure 0, .pure 0, .pure 0, .eff [true, true, true, true, true], .eff [true, true, true, false, false], .free] mixedF rfl (by kernel_rfl) (by kernel_rfl) ?_ | refine callP_false (.bool false) ?_ | refine aw_region rfl ?_ | refine aw_region_draw mixedF rfl (by kernel_rfl) ?_ | refine aw_ret ?_ | refine aw_skip ?_ | refine aw_exit ?_ | refine aw_label ?_); simp only [go_sem, ↓reduceIte, Nat.reduceEqDiff, Nat.reduceAdd, Nat.reduceSub, Nat.reduceMul, Nat.reduceLeDiff, Nat.reduceLT, Nat.reduceBEq, Int.reduceNeg, Int.reduceLE, Int.reduceLT, Int.reduceToNat, String.reduceEq, hp, enA, e1, q0, q1, q3, q0', q1', q3', qs]) | refine aw_seq ?_ | refine aw_block ?_ | refine aw_scope ?_ | (refine aw_cond rfl (fun h => ?_) (fun h => ?_) <;> try (exfalso; first | (simp at h; done) | (simp at h; omega))) | ((with_reducible refine And.intro ?_ ?_); focus (first | omega | (intros; simp_all; done) | (simp; omega)))
              · have hl0 : ¬ lessS o.at_ g.entries[g.entries.length - 1 - i].op.at_ = true := by
                  rw [Bool.not_eq_true]; unfold lessS; simpa using h
                rw [if_neg hl0] at he
                exact ⟨(i, n, L ++ [_]), ⟨hi, hn, by rw [he]; rfl⟩, rfl, growM hG⟩
              · have hl0 : lessS o.at_ g.entries[g.entries.length - 1 - i].op.at_ = true := by unfold lessS; simpa using h
                rw [if_pos hl0] at he
                have hbl := backL_len n g.entries[g.entries.length - 1 - i].op g.entries[g.entries.length - 1 - i].undo
                refine ⟨(i + 1, backL n g.entries[g.entries.length - 1 - i].op g.entries[g.entries.length - 1 - i].undo, L ++ [_]), ⟨hlt, by simp only; omega, by rw [he]; simp only [Prod.mk.injEq, and_true]; omega⟩, by simp only; omega, ⟨congrArg _ ?_, congrArg _ (wrap_succ hlt (by omega))⟩, growM (qn _).symm⟩
                simp only
                rw [wrap_i64 (by omega) (by omega)]; omega
            · repeat' first | ((first | refine aw_region_mix (id := 7) [.pure 0, .pure 0, .pure 0, .pure 0, .pure 0, .eff [true, true, true, true, true], .eff [true, true, true, false, false], .free] mixedF rfl (by kernel_rfl) (by kernel_rfl) ?_ | refine callP_false (.bool false) ?_ | refine aw_region rfl ?_ | refine aw_region_draw mixedF rfl (by kernel_rfl) ?_ | refine aw_ret ?_ | refine aw_skip ?_ | refine aw_exit ?_ | refine aw_label ?_); simp only [go_sem, ↓reduceIte, Nat.reduceEqDiff, Nat.reduceAdd, Nat.reduceSub, Nat.reduceMul, Nat.reduceLeDiff, Nat.reduceLT, Nat.reduceBEq, Int.reduceNeg, Int.reduceLE, Int.reduceLT, Int.reduceToNat, String.reduceEq, q0, q1, q3, hlt]) | refine aw_seq ?_ | refine aw_block ?_ | refine aw_scope ?_ | (refine aw_cond rfl (fun h => ?_) (fun h => ?_) <;> try (exfalso; first | (simp at h; done) | (simp at h; omega))) | ((with_reducible refine And.intro ?_ ?_); focus (first | omega | (intros; simp_all; done) | (simp; omega)))
              have hil : i = g.entries.length := by omega
              have hd0 : g.entries.reverse.drop i = [] := List.drop_of_length_le (by simp; omega)
              rw [hd0] at he
              exact ⟨(i, n, L), ⟨hi, hn, by rw [he]; rfl⟩, rfl, by rw [← hG]; simp only [go_sem, ↓reduceIte, Nat.reduceEqDiff, Nat.reduceAdd, Nat.reduceSub, Nat.reduceMul, Nat.reduceLeDiff, Nat.reduceLT, Nat.reduceBEq, Int.reduceNeg, Int.reduceLE, Int.reduceLT, Int.reduceToNat, String.reduceEq]⟩
        · rintro ⟨c, n, L⟩ ⟨hc, hn, he⟩
          simp only [opCells] at hc hn he ⊢
          rw [he]
          simp only
          generalize hG : H ++ ([ABlk.cells 0 [AV.sl b1 (g.entries.map enA), .sl b2 (g.nodes.map ndA)], .cells 0 [.int .i64 o.at_.c, .int .i64 o.at_.r, .int .i64 o.kind, .int .i64 o.node, .int .i64 o.parent, .str o.name, .str o.data], .cells 0 [.sl true [], .sl true []], .cells 0 [.sl false (n.map ndA)]] ++ L) = G
          have hlG : H.length + 3 < G.length := by rw [← hG]; simp
          have hpG : ∃ M, G = H ++ M := ⟨_, hG.symm⟩
          have q0 : hget G H.length = .cells 0 [AV.sl b1 (g.entries.map enA), .sl b2 (g.nodes.map ndA)] := by rw [← hG]; simp only [go_sem, ↓reduceIte, Nat.reduceEqDiff, Nat.reduceAdd, Nat.reduceSub, Nat.reduceMul, Nat.reduceLeDiff, Nat.reduceLT, Nat.reduceBEq, Int.reduceNeg, Int.reduceLE, Int.reduceLT, Int.reduceToNat, String.reduceEq]
          have q1 : hget G (H.length + 1) = .cells 0 [.int .i64 o.at_.c, .int .i64 o.at_.r, .int .i64 o.kind, .int .i64 o.node, .int .i64 o.parent, .str o.name, .str o.data] := by rw [← hG]; simp only [go_sem, ↓reduceIte, Nat.reduceEqDiff, Nat.reduceAdd, Nat.reduceSub, Nat.reduceMul, Nat.reduceLeDiff, Nat.reduceLT, Nat.reduceBEq, Int.reduceNeg, Int.reduceLE, Int.reduceLT, Int.reduceToNat, String.reduceEq]
          have q2 : hget G (H.length + 2) = .cells 0 [.sl true [], .sl true []] := by rw [← hG]; simp only [go_sem, ↓reduceIte, Nat.reduceEqDiff, Nat.reduceAdd, Nat.reduceSub, Nat.reduceMul, Nat.reduceLeDiff, Nat.reduceLT, Nat.reduceBEq, Int.reduceNeg, Int.reduceLE, Int.reduceLT, Int.reduceToNat, String.reduceEq]
          have q3 : hget G (H.length + 3) = .cells 0 [.sl false (n.map ndA)] := by rw [← hG]; simp only [go_sem, ↓reduceIte, Nat.reduceEqDiff, Nat.reduceAdd, Nat.reduceSub, Nat.reduceMul, Nat.reduceLeDiff, Nat.reduceLT, Nat.reduceBEq, Int.reduceNeg, Int.reduceLE, Int.reduceLT, Int.reduceToNat, String.reduceEq]
          have q0' := fun M => hget_appL q0 trivial M
          have q1' := fun M => hget_appL q1 trivial M
          have q3' := fun M => hget_appL q3 trivial M
          have t1 : List.take (g.entries.length - c) (List.map enA g.entries) = List.map enA (g.entries.take (g.entries.length - c)) := List.map_take.symm
          have t2 : List.drop (g.entries.length - c) (List.map enA g.entries) = List.map enA (g.entries.drop (g.entries.length - c)) := List.map_drop.symm
          have ha1 := add1_c false (g.entries.take (g.entries.length - c)) n o hs (by omega) (by simp; omega) (G ++ [.cells 0 [.sl true ((g.entries.take (g.entries.length - c)).map enA)]]) (H.length + 3) G.length (by omega) (hget_appL q3 trivial _) (hget_app0 _ _)
          simp only [opA] at ha1
          repeat' first | ((first | refine aw_region_mix (id := 7) [.pure 0, .pure 0, .pure 0, .pure 0, .pure 0, .eff [true, true, true, true, true], .eff [true, true, true, false, false], .free] mixedF rfl (by kernel_rfl) (by kernel_rfl) ?_ | refine callP_false (.bool false) ?_ | refine aw_region rfl ?_ | refine aw_region_draw mixedF rfl (by kernel_rfl) ?_ | refine aw_ret ?_ | refine aw_skip ?_ | refine aw_exit ?_ | refine aw_label ?_); simp only [go_sem, ↓reduceIte, Nat.reduceEqDiff, Nat.reduceAdd, Nat.reduceSub, Nat.reduceMul, Nat.reduceLeDiff, Nat.reduceLT, Nat.reduceBEq, Int.reduceNeg, Int.reduceLE, Int.reduceLT, Int.reduceToNat, String.reduceEq, q0, q1, q3, q0', q1', q3', t1, t2]) | refine aw_seq ?_ | refine aw_block ?_ | refine aw_scope ?_ | (refine aw_cond rfl (fun h => ?_) (fun h => ?_) <;> try (exfalso; first | (simp at h; done) | (simp at h; omega))) | ((with_reducible refine And.intro ?_ ?_); focus (first | omega | (intros; simp_all; done) | (simp; omega)))
          refine callK_ofcap ha1 callOk51F ?_
          rintro x H' ⟨rfl, c0, c1, hH'⟩
          simp only [go_sem, ↓reduceIte, Nat.reduceEqDiff, Nat.reduceAdd, Nat.reduceSub, Nat.reduceMul, Nat.reduceLeDiff, Nat.reduceLT, Nat.reduceBEq, Int.reduceNeg, Int.reduceLE, Int.reduceLT, Int.reduceToNat, String.reduceEq]
          have hl1 : (G ++ [ABlk.cells 0 [AV.sl true ((g.entries.take (g.entries.length - c)).map enA)]]).length = G.length + 1 := by simp
          have hdl := doL_len n o
          have lt1 : (g.entries.take (g.entries.length - c)).length = g.entries.length - c := by rw [List.length_take]; omega
          rw [hl1, lt1] at hH'
          have r0 : hget H' H.length = .cells 0 [AV.sl b1 (g.entries.map enA), .sl b2 (g.nodes.map ndA)] := by
            rw [hH']; exact hget_appL ((hget_set_ne (by omega) _).trans ((hget_set_ne (by omega) _).trans (q0' _))) trivial _
          have r2 : hget H' (H.length + 2) = .cells 0 [.sl true [], .sl true []] := by
            rw [hH']; exact hget_appL ((hget_set_ne (by omega) _).trans ((hget_set_ne (by omega) _).trans (hget_appL q2 trivial _))) trivial _
          have r3 : hget H' (H.length + 3) = .cells 0 [.sl false ((doL n o).map ndA)] := by
            rw [hH']; exact hget_appL (b := .cells 0 [.sl false ((doL n o).map ndA)]) ((hget_set_ne (by omega) _).trans (hget_set_eq (by rw [hl1]; omega) _)) trivial _
          have rE : hget H' G.length = .cells 0 [.osl 17 (G.length + 3) 1 0 (g.entries.length - c + 1) (g.entries.length - c + 1)] := by
            rw [hH']; exact hget_appL (b := .cells 0 [.osl 17 (G.length + 3) 1 0 (g.entries.length - c + 1) (g.entries.length - c + 1)]) (hget_set_eq (by rw [hset_len, hl1]; omega) _) trivial _
          have rK : hget H' (G.length + 3) = .cells 1 (((g.entries.take (g.entries.length - c) ++ [(⟨o, doU n o⟩ : Ent)]).map enA).flatMap AV.cells) := by
            rw [hH']; exact hget_at (n := G.length + 1) (k := 2) (by rw [hset_len, hset_len, hl1])
          have rP : ∃ M, H' = H ++ M := by
            rw [hH']; exact pre_app (pre_set (pre_set (pre_app hpG _) (by omega) _) (by omega) _) _
          have hGK : H.length + 3 < G.length := hlG
          generalize G.length = B at r0 r2 r3 rE rK hGK ⊢
          clear hH' hG hpG q0 q1 q2 q3 q0' q1' q3' ha1 hl1 hlG
          repeat' first | ((first | refine aw_region_mix (id := 7) [.pure 0, .pure 0, .pure 0, .pure 0, .pure 0, .eff [true, true, true, true, true], .eff [true, true, true, false, false], .free] mixedF rfl (by kernel_rfl) (by kernel_rfl) ?_ | refine callP_false (.bool false) ?_ | refine aw_region rfl ?_ | refine aw_region_draw mixedF rfl (by kernel_rfl) ?_ | refine aw_ret ?_ | refine aw_skip ?_ | refine aw_exit ?_ | refine aw_label ?_); simp only [go_sem, ↓reduceIte, Nat.reduceEqDiff, Nat.reduceAdd, Nat.reduceSub, Nat.reduceMul, Nat.reduceLeDiff, Nat.reduceLT, Nat.reduceBEq, Int.reduceNeg, Int.reduceLE, Int.reduceLT, Int.reduceToNat, String.reduceEq, r0, t2, cellsT_cloneEn_c]) | refine aw_seq ?_ | refine aw_block ?_ | refine aw_scope ?_ | (refine aw_cond rfl (fun h => ?_) (fun h => ?_) <;> try (exfalso; first | (simp at h; done) | (simp at h; omega))) | ((with_reducible refine And.intro ?_ ?_); focus (first | omega | (intros; simp_all; done) | (simp; omega)))
          clear hok hsm hha hbk he
          refine aw_loopS (ι := Nat × AHeap) (fun x => [(4, .ref (H.length + 2) 0 0), (6, .ref (H.length + 3) 0 0), (10, .ref B 0 0), (11, .func (.func 51) [] [.ref (H.length + 3) 0 0, .ref B 0 0]), (83, .sl b1 ((g.entries.drop (g.entries.length - c)).map enA)), (84, .int .i64 ((g.entries.drop (g.entries.length - c)).length : Int)), (85, .int .i64 x.1)])
            (fun x => x.2)
            (fun x => x.1 ≤ (g.entries.drop (g.entries.length - c)).length ∧ hget x.2 (H.length + 2) = .cells 0 [.sl true [], .sl true []] ∧
              hget x.2 (H.length + 3) = .cells 0 [.sl false ((redo (o :: ((g.entries.drop (g.entries.length - c)).take x.1).map Ent.op) (g.entries.take (g.entries.length - c)) n).2.map ndA)] ∧
              hget x.2 B = .cells 0 [.osl 17 (B + 3) (x.1 + 1) 0 (redo (o :: ((g.entries.drop (g.entries.length - c)).take x.1).map Ent.op) (g.entries.take (g.entries.length - c)) n).1.length (redo (o :: ((g.entries.drop (g.entries.length - c)).take x.1).map Ent.op) (g.entries.take (g.entries.length - c)) n).1.length] ∧
              hget x.2 (B + 3) = .cells (x.1 + 1) (((redo (o :: ((g.entries.drop (g.entries.length - c)).take x.1).map Ent.op) (g.entries.take (g.entries.length - c)) n).1.map enA).flatMap AV.cells) ∧ ∃ M, x.2 = H ++ M) (fun x => (g.entries.drop (g.entries.length - c)).length - x.1) (0, H')
            ⟨Nat.zero_le _, r2, by simpa [redo] using r3, by simpa [redo, lt1] using rE, by simpa [redo] using rK, rP⟩ ?_ rfl ?_
          · simp [go_sem]
          · rintro ⟨m, X⟩ ⟨hm1, s2, s3, sE, sK, sP⟩
            simp only at hm1 s2 s3 sE sK sP ⊢
            have hrl := redo_len (o :: ((g.entries.drop (g.entries.length - c)).take m).map Ent.op) (g.entries.take (g.entries.length - c)) n
            have hdl2 : (g.entries.drop (g.entries.length - c)).length ≤ g.entries.length := by rw [List.length_drop]; omega
            have htl : ((o :: ((g.entries.drop (g.entries.length - c)).take m).map Ent.op)).length = m + 1 := by simp; rw [List.length_drop] at hm1; omega
            rw [htl, lt1] at hrl
            by_cases hlt : m < (g.entries.drop (g.entries.length - c)).length
            · have hp := getD_map enA hlt
              have hmem : (g.entries.drop (g.entries.length - c))[m] ∈ g.entries := List.mem_of_mem_drop (List.getElem_mem hlt)
              have hops := hes _ hmem
              have hsn := redo_snoc (o :: ((g.entries.drop (g.entries.length - c)).take m).map Ent.op) (g.entries.drop (g.entries.length - c))[m].op (g.entries.take (g.entries.length - c)) n
              have htk : (o :: ((g.entries.drop (g.entries.length - c)).take m).map Ent.op) ++ [(g.entries.drop (g.entries.length - c))[m].op] = o :: ((g.entries.drop (g.entries.length - c)).take (m + 1)).map Ent.op := by
                rw [List.take_succ_eq_append_getElem hlt, List.map_append]; rfl
              rw [htk] at hsn
              generalize hR : redo (o :: ((g.entries.drop (g.entries.length - c)).take m).map Ent.op) (g.entries.take (g.entries.length - c)) n = R at s3 sE sK hrl hsn
              have hX : H.length + 3 < X.length := hget_lt s3 trivial
              have hB : B < X.length := hget_lt sE trivial
              have hK : B + 3 < X.length := hget_lt sK trivial
              have s3' := fun M => hget_appL s3 trivial M
              have sE' := fun M => hget_appL sE trivial M
              have ha2 := fun E => add2_c false R.1 R.2 (g.entries.drop (g.entries.length - c))[m].op hops (by omega) (by omega) (X ++ [E]) (H.length + 3) B (B + 3) (m + 1) (by omega) (by omega) (by omega) (by omega) (s3' _) (sE' _) (hget_appL sK trivial _)
              simp only [opA] at ha2
              have hltI : decide ((m : Int) < ((g.entries.drop (g.entries.length - c)).length : Int)) = true := decide_eq_true (by omega)
              repeat' first | ((first | refine aw_region_mix (id := 7) [.pure 0, .pure 0, .pure 0, .pure 0, .pure 0, .eff [true, true, true, true, true], .eff [true, true, true, false, false], .free] mixedF rfl (by kernel_rfl) (by kernel_rfl) ?_ | refine callP_false (.bool false) ?_ | refine aw_region rfl ?_ | refine aw_region_draw mixedF rfl (by kernel_rfl) ?_ | refine aw_ret ?_ | refine aw_skip ?_ | refine aw_exit ?_ | refine aw_label ?_); simp only [go_sem, ↓reduceIte, Nat.reduceEqDiff, Nat.reduceAdd, Nat.reduceSub, Nat.reduceMul, Nat.reduceLeDiff, Nat.reduceLT, Nat.reduceBEq, Int.reduceNeg, Int.reduceLE, Int.reduceLT, Int.reduceToNat, String.reduceEq, hp, enA, s3', sE', hltI]) | refine aw_seq ?_ | refine aw_block ?_ | refine aw_scope ?_ | (refine aw_cond rfl (fun h => ?_) (fun h => ?_) <;> try (exfalso; first | (simp at h; done) | (simp at h; omega))) | ((with_reducible refine And.intro ?_ ?_); focus (first | omega | (intros; simp_all; done) | (simp; omega)))
              refine callK_ofcap (ha2 _) callOk51F ?_
              rintro x H2 ⟨rfl, d0, d1, hH2⟩
              simp only [go_sem, ↓reduceIte, Nat.reduceEqDiff, Nat.reduceAdd, Nat.reduceSub, Nat.reduceMul, Nat.reduceLeDiff, Nat.reduceLT, Nat.reduceBEq, Int.reduceNeg, Int.reduceLE, Int.reduceLT, Int.reduceToNat, String.reduceEq]
              repeat' first | ((first | refine aw_region_mix (id := 7) [.pure 0, .pure 0, .pure 0, .pure 0, .pure 0, .eff [true, true, true, true, true], .eff [true, true, true, false, false], .free] mixedF rfl (by kernel_rfl) (by kernel_rfl) ?_ | refine callP_false (.bool false) ?_ | refine aw_region rfl ?_ | refine aw_region_draw mixedF rfl (by kernel_rfl) ?_ | refine aw_ret ?_ | refine aw_skip ?_ | refine aw_exit ?_ | refine aw_label ?_); simp only [go_sem, ↓reduceIte, Nat.reduceEqDiff, Nat.reduceAdd, Nat.reduceSub, Nat.reduceMul, Nat.reduceLeDiff, Nat.reduceLT, Nat.reduceBEq, Int.reduceNeg, Int.reduceLE, Int.reduceLT, Int.reduceToNat, String.reduceEq]) | refine aw_seq ?_ | refine aw_block ?_ | refine aw_scope ?_ | (refine aw_cond rfl (fun h => ?_) (fun h => ?_) <;> try (exfalso; first | (simp at h; done) | (simp at h; omega))) | ((with_reducible refine And.intro ?_ ?_); focus (first | omega | (intros; simp_all; done) | (simp; omega)))
              have hl2 : (X ++ [ABlk.cells 0 (enA (g.entries.drop (g.entries.length - c))[m]).cells]).length = X.length + 1 := by simp
              refine ⟨(m + 1, H2), ⟨hlt, ?_, ?_, ?_, ?_, ?_⟩, by simp only; omega, congrArg _ (wrap_succ hlt (by omega)), rfl⟩
              · simp only
                rw [hH2]
                exact hget_appL ((hget_set_ne (by omega) _).trans ((hget_set_ne (by omega) _).trans ((hget_set_ne (by omega) _).trans (hget_appL s2 trivial _)))) trivial _
              · simp only
                rw [hH2, hsn]
                refine hget_appL (b := .cells 0 [.sl false ((doL R.2 (g.entries.drop (g.entries.length - c))[m].op).map ndA)]) ((hget_set_ne (by omega) _).trans ((hget_set_ne (by omega) _).trans (hget_set_eq ?_ _))) trivial _
                rw [List.length_append]; omega
              · simp only
                rw [hH2, hsn]
                have hb := hget_set_eq (H := hset (hset (X ++ [ABlk.cells 0 (enA (g.entries.drop (g.entries.length - c))[m]).cells]) (H.length + 3) (.cells 0 [.sl false ((doL R.2 (g.entries.drop (g.entries.length - c))[m].op).map ndA)])) (B + 3) (.cells (m + 1 + 1) (((R.1 ++ [(⟨(g.entries.drop (g.entries.length - c))[m].op, doU R.2 (g.entries.drop (g.entries.length - c))[m].op⟩ : Ent)]).map enA).flatMap AV.cells))) (i := B) (by rw [hset_len, hset_len, hl2]; omega) (.cells 0 [.osl 17 (B + 3) (m + 1 + 1) 0 (R.1.length + 1) (R.1.length + 1)])
                refine (hget_appL hb trivial _).trans ?_
                rw [List.length_append]; rfl
              · simp only
                rw [hH2, hsn]
                refine hget_appL (b := .cells (m + 1 + 1) (((R.1 ++ [(⟨(g.entries.drop (g.entries.length - c))[m].op, doU R.2 (g.entries.drop (g.entries.length - c))[m].op⟩ : Ent)]).map enA).flatMap AV.cells)) ((hget_set_ne (by omega) _).trans (hget_set_eq ?_ _)) trivial _
                rw [hset_len, List.length_append]; omega
              · simp only
                rw [hH2]
                exact pre_app (pre_set (pre_set (pre_set (pre_app sP _) (by omega) _) (by omega) _) (by omega) _) _
            · have hme : m = (g.entries.drop (g.entries.length - c)).length := by omega
              subst hme
              rw [List.take_length] at s3 sE sK hrl
              have hltI : decide (((g.entries.drop (g.entries.length - c)).length : Int) < ((g.entries.drop (g.entries.length - c)).length : Int)) = false := by simp
              obtain ⟨M, hM⟩ := sP
              have h2M : H.length + 2 < X.length := hget_lt s2 trivial
              have sK' := sK
              generalize hV : (redo (o :: (g.entries.drop (g.entries.length - c)).map Ent.op) (g.entries.take (g.entries.length - c)) n) = R at s3 sE sK hrl ⊢
              have sS : ∀ b, hget (hset X (H.length + 2) b) (H.length + 2) = b := fun b => hget_set_eq h2M b
              repeat' first | ((first | refine aw_region_mix (id := 7) [.pure 0, .pure 0, .pure 0, .pure 0, .pure 0, .eff [true, true, true, true, true], .eff [true, true, true, false, false], .free] mixedF rfl (by kernel_rfl) (by kernel_rfl) ?_ | refine callP_false (.bool false) ?_ | refine aw_region rfl ?_ | refine aw_region_draw mixedF rfl (by kernel_rfl) ?_ | refine aw_ret ?_ | refine aw_skip ?_ | refine aw_exit ?_ | refine aw_label ?_); simp only [go_sem, ↓reduceIte, Nat.reduceEqDiff, Nat.reduceAdd, Nat.reduceSub, Nat.reduceMul, Nat.reduceLeDiff, Nat.reduceLT, Nat.reduceBEq, Int.reduceNeg, Int.reduceLE, Int.reduceLT, Int.reduceToNat, String.reduceEq, s2, s3, sE, hltI, sS]) | refine aw_seq ?_ | refine aw_block ?_ | refine aw_scope ?_ | (refine aw_cond rfl (fun h => ?_) (fun h => ?_) <;> try (exfalso; first | (simp at h; done) | (simp at h; omega))) | ((with_reducible refine And.intro ?_ ?_); focus (first | omega | (intros; simp_all; done) | (simp; omega)))
              obtain ⟨M2, hM2⟩ := pre_set ⟨M, hM⟩ (i := H.length + 2) (by omega) (.cells 0 [.osl 17 (B + 3) ((g.entries.drop (g.entries.length - c)).length + 1) 0 R.1.length R.1.length, .sl false (R.2.map ndA)])
              refine ⟨M2, _, hM2, ?_, rfl⟩
              refine .tup _ _ rfl (frzs_cons (.agg _ _ rfl (frzs_cons ?_ (frzs_cons (.cl _ (Pur.cl (by simp only [pur_int, pur_bool, pur_str, pur_agg, pur_tup, pur_sl, pur_iface, pur_nilI, List.mem_cons, List.not_mem_nil, false_implies, forall_eq_or_imp, List.mem_map, forall_exists_index, and_imp, forall_apply_eq_imp_iff₂, or_false, forall_eq, implies_true, and_self, and_true, true_and, Go.Gw.stA, Go.Gw.opA, Go.Gw.ndA, Go.Gw.unA, Go.Gw.enA, Go.Gw.inA, Go.Gw.lgF, Go.Gw.lgA]) _)) frzs_nil))) (frzs_cons (.cl _ (.int _ _)) frzs_nil))
              exact frz_osl (es := R.1.map enA) (rest := []) (by omega) ((hget_set_ne (by omega) _).trans sK) (List.append_nil _).symm (by rw [List.length_map]) (cells_cloneEn_c _) (pur_cloneEn_c _)
end Go.Proofs.Ytoffonjlfomnbaa
