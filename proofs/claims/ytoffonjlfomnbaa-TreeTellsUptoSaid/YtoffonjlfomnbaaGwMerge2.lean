/- What the functions of the logs answer: the step of Add. No condition. -/
import Derived.Test.YtoffonjlfomnbaaGwMerge1
import Derived.Test.YtoffonjlfomnbaaGwTree3
import Derived.Test.YtoffonjlfomnbaaGwTree4
namespace Go.Aw
theorem hset_len (H : AHeap) (i : Nat) (b : ABlk) : (hset H i b).length = H.length := by simp [hset]
theorem hget_set_ne {H : AHeap} {i j : Nat} (h : i ≠ j) (b : ABlk) : hget (hset H i b) j = hget H j := by
  simp only [hget, hset, List.getD_eq_getElem?_getD]; rw [List.getElem?_set_ne h]
theorem hget_set_eq {H : AHeap} {i : Nat} (h : i < H.length) (b : ABlk) : hget (hset H i b) i = b := by
  simp only [hget, hset, List.getD_eq_getElem?_getD]; rw [List.getElem?_set_self h]; rfl
theorem hget_at {G L : AHeap} {n k : Nat} (h : G.length = n) : hget (G ++ L) (n + k) = L.getD k .gone := by subst h; exact hget_app _ _ _
theorem hget_at0 {G L : AHeap} {n : Nat} (h : G.length = n) : hget (G ++ L) n = L.getD 0 .gone := by subst h; exact hget_app0 _ _
theorem hset_at {G L : AHeap} {n k : Nat} (h : G.length = n) (b : ABlk) : hset (G ++ L) (n + k) b = G ++ L.set k b := by subst h; exact hset_app _ _ _ _
theorem hset_at0 {G L : AHeap} {n : Nat} (h : G.length = n) (b : ABlk) : hset (G ++ L) n b = G ++ L.set 0 b := by subst h; exact hset_app0 _ _ _
end Go.Aw
namespace Go.Proofs.Ytoffonjlfomnbaa
open Go Go.Aw Go.Gw
set_option linter.unusedSimpArgs false
set_option maxRecDepth 20000
set_option maxHeartbeats 1000000

theorem en_cells (es : List Ent) (e : Ent) : ((es ++ [e]).map enA).flatMap AV.cells = (es.map enA).flatMap AV.cells ++ (enA e).cells := by
  rw [List.map_append, List.flatMap_append]; simp

/-- The log's operation is done, and its entry appended: the first time. -/
theorem add1_c (b : Bool) (es : List Ent) (n : List Nd) (o : Opn) (hs : OpS o) (hl : n.length ≤ 1000000000) (he : es.length ≤ 1000000) (H : AHeap) (i j : Nat) (hij : i ≠ j)
    (hi : hget H i = .cells 0 [.sl b (n.map ndA)]) (hj : hget H j = .cells 0 [.sl true (es.map enA)]) :
    ACalls Try.prog 51 [opA o, .ref i 0 0, .ref j 0 0] H (fun x H' => x = .tup [] ∧
      ∃ b0 b1, H' = hset (hset H i (.cells 0 [.sl false ((doL n o).map ndA)])) j (.cells 0 [.osl 17 (H.length + 2) 1 0 (es.length + 1) (es.length + 1)]) ++ ([b0, b1, .cells 1 (((es ++ [(⟨o, doU n o⟩ : Ent)]).map enA).flatMap AV.cells)] : AHeap)) := by
  refine acalls_of_aw Try.func51 rfl (Nat.le_of_ble_eq_true rfl) ?_
  have hdo := do_c b n o hs hl
  have hi2 := fun L => hget_appL hi trivial L
  have hi3 : i < H.length := hget_lt hi trivial
  have hj3 : j < H.length := hget_lt hj trivial
  have f1 := fun L b => hset_appL hi3 L b
  have f2 := fun b => hset_len H i b
  have f3 : ∀ L b k, hget (hset H i b ++ L) (H.length + k) = L.getD k .gone := fun L b k => hget_at (hset_len H i b)
  have f30 : ∀ L b, hget (hset H i b ++ L) H.length = L.getD 0 .gone := fun L b => hget_at0 (hset_len H i b)
  have f4 : ∀ L b k b', hset (hset H i b ++ L) (H.length + k) b' = hset H i b ++ L.set k b' := fun L b k b' => hset_at (hset_len H i b) b'
  have f5 : ∀ L b, hget (hset H i b ++ L) j = .cells 0 [.sl true (es.map enA)] := fun L b => hget_appL ((hget_set_ne hij b).trans hj) trivial L
  have f6 : ∀ L b b', hset (hset H i b ++ L) j b' = hset (hset H i b) j b' ++ L := fun L b b' => hset_appL (by rw [hset_len]; exact hj3) L b'
  have ec := en_cells es ⟨o, doU n o⟩
  have hcl := cellsT_cloneEn_c es
  simp only [opA, unA] at hdo ⊢
  repeat' first | ((first | refine callK_fn (hdo _) callOk34F ?_ | refine callP_fn (hdo _) callOk34F ?_ | refine callM_fn (fun _ => hdo _) callOk34F ?_ | refine callP_false (.bool false) ?_ | refine aw_region rfl ?_ | refine aw_region_draw mixedF rfl (by kernel_rfl) ?_ | refine aw_ret ?_ | refine aw_skip ?_ | refine aw_exit ?_ | refine aw_label ?_); simp only [go_sem, ↓reduceIte, Nat.reduceEqDiff, Nat.reduceAdd, Nat.reduceSub, Nat.reduceMul, Nat.reduceLeDiff, Nat.reduceLT, Nat.reduceBEq, Int.reduceNeg, Int.reduceLE, Int.reduceLT, Int.reduceToNat, String.reduceEq, hi, hj, hi2, f1, f2, f3, f30, f4, f5, f6, hcl]) | refine aw_seq ?_ | refine aw_block ?_ | refine aw_scope ?_ | (refine aw_cond rfl (fun h => ?_) (fun h => ?_) <;> try (exfalso; first | (simp at h; done) | (simp at h; omega))) | ((with_reducible refine And.intro ?_ ?_); focus (first | omega | (intros; simp_all; done) | (simp; omega)))
  rw [ec]
  exact ⟨⟨.inr trivial, fun e he => by rw [he]; rfl, by omega⟩, _, _, rfl⟩

/-- The same, of entries that lie in a block of the call's. -/
theorem add2_c (b : Bool) (es : List Ent) (n : List Nd) (o : Opn) (hs : OpS o) (hl : n.length ≤ 1000000000) (he : es.length ≤ 1000000) (H : AHeap) (i j k v : Nat) (hij : i ≠ j) (hik : i ≠ k) (hjk : j ≠ k) (hv : v ≠ 0)
    (hi : hget H i = .cells 0 [.sl b (n.map ndA)]) (hj : hget H j = .cells 0 [.osl 17 k v 0 es.length es.length]) (hk : hget H k = .cells v ((es.map enA).flatMap AV.cells)) :
    ACalls Try.prog 51 [opA o, .ref i 0 0, .ref j 0 0] H (fun x H' => x = .tup [] ∧
      ∃ b0 b1, H' = hset (hset (hset H i (.cells 0 [.sl false ((doL n o).map ndA)])) k (.cells (v + 1) (((es ++ [(⟨o, doU n o⟩ : Ent)]).map enA).flatMap AV.cells))) j (.cells 0 [.osl 17 k (v + 1) 0 (es.length + 1) (es.length + 1)]) ++ ([b0, b1] : AHeap)) := by
  refine acalls_of_aw Try.func51 rfl (Nat.le_of_ble_eq_true rfl) ?_
  have hdo := do_c b n o hs hl
  have hi2 := fun L => hget_appL hi trivial L
  have hi3 : i < H.length := hget_lt hi trivial
  have hj3 : j < H.length := hget_lt hj trivial
  have hk3 : k < H.length := hget_lt hk trivial
  have f1 := fun L b => hset_appL hi3 L b
  have f2 := fun b => hset_len H i b
  have f3 : ∀ L b k, hget (hset H i b ++ L) (H.length + k) = L.getD k .gone := fun L b k => hget_at (hset_len H i b)
  have f30 : ∀ L b, hget (hset H i b ++ L) H.length = L.getD 0 .gone := fun L b => hget_at0 (hset_len H i b)
  have f4 : ∀ L b k b', hset (hset H i b ++ L) (H.length + k) b' = hset H i b ++ L.set k b' := fun L b k b' => hset_at (hset_len H i b) b'
  have f5 : ∀ L b, hget (hset H i b ++ L) j = .cells 0 [.osl 17 k v 0 es.length es.length] := fun L b => hget_appL ((hget_set_ne hij b).trans hj) trivial L
  have f6 : ∀ L b, hget (hset H i b ++ L) k = .cells v ((es.map enA).flatMap AV.cells) := fun L b => hget_appL ((hget_set_ne hik b).trans hk) trivial L
  have f7 : ∀ L b b', hset (hset H i b ++ L) k b' = hset (hset H i b) k b' ++ L := fun L b b' => hset_appL (by rw [hset_len]; exact hk3) L b'
  have f8 : ∀ L b b' b'', hset (hset (hset H i b) k b' ++ L) j b'' = hset (hset (hset H i b) k b') j b'' ++ L := fun L b b' b'' => hset_appL (by rw [hset_len, hset_len]; exact hj3) L b''
  have f9 : ∀ L b b', hget (hset (hset H i b) k b' ++ L) j = .cells 0 [.osl 17 k v 0 es.length es.length] := fun L b b' => hget_appL ((hget_set_ne hjk.symm b').trans ((hget_set_ne hij b).trans hj)) trivial L
  have ec := en_cells es ⟨o, doU n o⟩
  have hcl := cellsT_cloneEn_c es
  have hfl : (List.flatMap AV.cells (es.map enA)).length = es.length * 17 := (flat_len (cells_cloneEn_c es)).trans (by rw [List.length_map])
  simp only [opA, unA] at hdo ⊢
  repeat' first | ((first | refine callK_fn (hdo _) callOk34F ?_ | refine callP_fn (hdo _) callOk34F ?_ | refine callM_fn (fun _ => hdo _) callOk34F ?_ | refine callP_false (.bool false) ?_ | refine aw_region rfl ?_ | refine aw_region_draw mixedF rfl (by kernel_rfl) ?_ | refine aw_ret ?_ | refine aw_skip ?_ | refine aw_exit ?_ | refine aw_label ?_); simp only [go_sem, ↓reduceIte, Nat.reduceEqDiff, Nat.reduceAdd, Nat.reduceSub, Nat.reduceMul, Nat.reduceLeDiff, Nat.reduceLT, Nat.reduceBEq, Int.reduceNeg, Int.reduceLE, Int.reduceLT, Int.reduceToNat, String.reduceEq, hi, hj, hi2, f1, f2, f3, f30, f4, f5, f6, f7, f8, f9, hcl, hfl, hv]) | refine aw_seq ?_ | refine aw_block ?_ | refine aw_scope ?_ | (refine aw_cond rfl (fun h => ?_) (fun h => ?_) <;> try (exfalso; first | (simp at h; done) | (simp at h; omega))) | ((with_reducible refine And.intro ?_ ?_); focus (first | omega | (intros; simp_all; done) | (simp; omega)))
  rw [ec]
  exact ⟨⟨fun e he => by rw [he]; rfl, by omega⟩, _, _, rfl⟩
end Go.Proofs.Ytoffonjlfomnbaa
