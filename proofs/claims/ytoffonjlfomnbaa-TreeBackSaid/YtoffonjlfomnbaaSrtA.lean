/- Sorting of operations in memory, the ground: a slice's elements, read and written. No condition. -/
import Derived.Test.YtoffonjlfomnbaaSrtP
import Derived.Test.YtoffonjlfomnbaaGwMerge3
namespace Go.Gw
set_option linter.unusedSimpArgs false
open Go Go.Aw Go.Proofs.Ytoffonjlfomnbaa

/-- The cells of operations that lie one behind the other. -/
def fl (D : List Opn) : List AV := (D.map opA).flatMap AV.cells
theorem cells_opA (o : Opn) : (opA o).cells = opCells o := rfl
theorem agg_opC (o : Opn) : AV.agg (opCells o) = opA o := rfl
theorem opC_len (o : Opn) : (opCells o).length = 7 := rfl
theorem opC_one (o : Opn) : (opCells o).all AV.one = true := rfl
theorem opA_known (o : Opn) : (opA o).known = true := rfl
theorem fl_nil : fl [] = [] := rfl
theorem fl_cons (o : Opn) (D : List Opn) : fl (o :: D) = opCells o ++ fl D := rfl
theorem fl_app (A B : List Opn) : fl (A ++ B) = fl A ++ fl B := by unfold fl; rw [List.map_append, List.flatMap_append]
theorem fl_len (D : List Opn) : (fl D).length = D.length * 7 := by
  induction D with
  | nil => rfl
  | cons o D ih => rw [fl_cons, List.length_append, ih, opC_len, List.length_cons]; omega
theorem fl_get {A : List Opn} {x : Opn} {R : List Opn} {k : Nat} (h : A.length = k) : List.take 7 (List.drop (k * 7) (fl (A ++ x :: R))) = opCells x := by
  rw [fl_app, fl_cons, List.drop_left' (by rw [fl_len, h])]; exact List.take_left' (opC_len x)
theorem fl_set {A : List Opn} {x y : Opn} {R : List Opn} {k : Nat} (h : A.length = k) : splice (fl (A ++ x :: R)) (k * 7) (opCells y) = fl (A ++ y :: R) := by
  have hl : (fl A).length = k * 7 := by rw [fl_len, h]
  rw [fl_app, splice_app hl, fl_app, fl_cons, fl_cons, opC_len, List.drop_left' (opC_len x)]
end Go.Gw
namespace Go.Aw
set_option linter.unusedSimpArgs false
open Go Go.Gw Go.Proofs.Ytoffonjlfomnbaa
theorem hset_set (H : AHeap) (i : Nat) (b b' : ABlk) : hset (hset H i b) i b' = hset H i b' := by simp [hset]
theorem hget_of {H : AHeap} {i : Nat} {b : ABlk} (h : hget H i = b) (hb : b.live) (b' : ABlk) : hget (hset H i b') i = b' := hget_set_eq (hget_lt h hb) b'
theorem hset_id {H : AHeap} {i : Nat} {b : ABlk} (h : hget H i = b) (hb : b.live) : hset H i b = H := hset_same (hget_some h hb)
theorem pur_fl (D : List Opn) : ∀ x ∈ fl D, Pur x := by
  intro x hx
  obtain ⟨y, hy, hx⟩ := List.mem_flatMap.1 hx
  exact Pur.cells (pur_opm D y hy) x hx
where
  pur_opm (l : List Opn) : ∀ e ∈ l.map opA, Pur e := fun e he => by
    obtain ⟨x, _, rfl⟩ := List.mem_map.1 he; exact (by simp only [pur_int, pur_bool, pur_str, pur_agg, pur_tup, pur_sl, pur_iface, pur_nilI, List.mem_cons, List.not_mem_nil, false_implies, forall_eq_or_imp, List.mem_map, forall_exists_index, and_imp, forall_apply_eq_imp_iff₂, or_false, forall_eq, implies_true, and_self, and_true, true_and, Go.Gw.stA, Go.Gw.opA, Go.Gw.ndA, Go.Gw.unA, Go.Gw.enA, Go.Gw.inA, Go.Gw.lgF, Go.Gw.lgA])
theorem clb_fl (n v : Nat) (D : List Opn) : ClB n (.cells v (fl D)) := fun x hx => (pur_fl D x hx).cl n
theorem hset_cl {H : AHeap} {i n : Nat} {b : ABlk} (hb : ClB n b) : ∀ (j : Nat) (c : ABlk), (hset H i b)[j]? = some c → H[j]? = some c ∨ ClB n c := by
  intro j c hj
  by_cases e : i = j
  · subst e
    unfold hset at hj
    by_cases hl : i < H.length
    · rw [List.getElem?_set_self hl] at hj; cases hj; exact .inr hb
    · rw [List.getElem?_eq_none (by rw [List.length_set]; omega)] at hj; cases hj
  · unfold hset at hj
    rw [List.getElem?_set_ne e] at hj; exact .inl hj
/-- The end of a function that has changed a block, and answers nothing. -/
theorem doneSet {H : AHeap} {i : Nat} {b : ABlk} (hb : ClB H.length b) (R : AV → AHeap → Prop) (hR : R (.tup []) (hset H i b)) :
    ∃ H1 L y, hset H i b = H1 ++ L ∧ H1.length = H.length ∧ (∀ (j : Nat) (c : ABlk), H1[j]? = some c → H[j]? = some c ∨ ClB H.length c) ∧ Frz H.length (hset H i b) (.tup []) y ∧ R y H1 := by
  exact ⟨hset H i b, [], .tup [], (List.append_nil _).symm, hset_len H i b, hset_cl hb, .cl _ (Pur.cl (.tup _ (fun _ h => by cases h)) _), hR⟩
/-- A comparison that is handed in: it looks at nothing but its arguments. -/
def CmpC (P : Program) (f : AV) (c : Opn → Opn → Int) : Prop := ∀ a b H, ACall P f [opA a, opA b] H (fun v H' => v = .int .i64 (c a b) ∧ H' = H)
theorem callP_cmp {P : Program} {g : Bool} {f : AV} {c : Opn → Opn → Int} {a b : Opn} {H : AHeap} {K : AV → Prop} (h : CmpC P f c) (hk : K (.int .i64 (c a b))) : callP P g f [.agg (opCells a), .agg (opCells b)] H K := ⟨_, fun _ => h a b H, hk⟩
def TestC (P : Program) (f : AV) (c : Opn → Opn → Bool) : Prop := ∀ a b H, ACall P f [opA a, opA b] H (fun v H' => v = .bool (c a b) ∧ H' = H)
theorem callP_test {P : Program} {g : Bool} {f : AV} {c : Opn → Opn → Bool} {a b : Opn} {H : AHeap} {K : AV → Prop} (h : TestC P f c) (hk : K (.bool (c a b))) : callP P g f [.agg (opCells a), .agg (opCells b)] H K := ⟨_, fun _ => h a b H, hk⟩
theorem wrap_nat {n : Nat} {m : Int} (h : (n : Int) = m) (hn : n ≤ 9223372036854775807) : IntKind.i64.wrap m = (n : Int) := by subst h; exact wrap_i64 (by omega) (by omega)
/-- Behind a piece of code only what is told here is kept. -/
theorem aw_cutT {P : Program} {N : Nat} {x y : Code} {Q : APost} {α : AF} {H : AHeap} {ι : Type} (F : ι → AF) (Hp : ι → AHeap) (pre : ι → Prop) (h1 : aw P N x (cutQ F Hp pre Q) α H) (h2 : ∀ i, pre i → aw P N y Q (F i) (Hp i)) : aw P N x (thenQ P N y Q) α H := by
  refine aw_mono h1 fun e α' H' h => ?_
  cases e with
  | normal =>
    obtain ⟨i, hp, hs, rfl⟩ := h
    exact aw_weaken (h2 i hp) (subA_look hs)
  | _ => exact h
end Go.Aw
