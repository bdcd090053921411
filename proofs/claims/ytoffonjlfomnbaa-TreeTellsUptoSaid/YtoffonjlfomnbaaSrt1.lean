/- Sorting that keeps the order of what is alike: lists, with no program in sight. No condition. -/
import Derived.Test.YtoffonjlfomnbaaGwMerge3
namespace Go.Srt
section
variable {α : Type} (lt : α → α → Bool)

structure SWO : Prop where
  irr : ∀ a, lt a a = false
  ntr : ∀ a b c, lt a b = false → lt b c = false → lt a c = false
  asy : ∀ a b, lt a b = true → lt b a = false

/-- Alike. -/
def eqv (k x : α) : Bool := !lt k x && !lt x k
theorem eqv_t {k x : α} : eqv lt k x = true ↔ lt k x = false ∧ lt x k = false := by simp [eqv]
/-- In order. -/
def Sd (l : List α) : Prop := l.Pairwise (fun a b => lt b a = false)
/-- The same members, and those that are alike in the same order. -/
def Fs (xs ys : List α) : Prop := ys.length = xs.length ∧ ∀ k, ys.filter (eqv lt k) = xs.filter (eqv lt k)

variable {lt}
theorem SWO.ltr (h : SWO lt) {a b c : α} (h1 : lt a b = true) (h2 : lt c b = false) : lt a c = true := by
  cases h3 : lt a c with
  | true => rfl
  | false => rw [h.ntr a c b h3 h2] at h1; cases h1
theorem SWO.rtr (h : SWO lt) {a b c : α} (h1 : lt b a = false) (h2 : lt b c = true) : lt a c = true := by
  cases h3 : lt a c with
  | true => rfl
  | false => rw [h.ntr b a c h1 h3] at h2; cases h2
theorem SWO.tr (h : SWO lt) {a b c : α} (h1 : lt a b = true) (h2 : lt b c = true) : lt a c = true := h.ltr h1 (h.asy _ _ h2)

theorem Fs.refl (xs : List α) : Fs lt xs xs := ⟨rfl, fun _ => rfl⟩
theorem Fs.trans {a b c : List α} (h : Fs lt a b) (k : Fs lt b c) : Fs lt a c := ⟨k.1.trans h.1, fun x => (k.2 x).trans (h.2 x)⟩
theorem Fs.app {a b c d : List α} (h : Fs lt a b) (k : Fs lt c d) : Fs lt (a ++ c) (b ++ d) :=
  ⟨by rw [List.length_append, List.length_append, h.1, k.1], fun x => by rw [List.filter_append, List.filter_append, h.2, k.2]⟩
theorem Fs.mem {a b : List α} (hw : SWO lt) (h : Fs lt a b) (x : α) : x ∈ b ↔ x ∈ a := by
  have e : eqv lt x x = true := eqv_t lt |>.2 ⟨hw.irr x, hw.irr x⟩
  have := h.2 x
  have m1 : x ∈ b.filter (eqv lt x) ↔ x ∈ b := by rw [List.mem_filter]; simp [e]
  have m2 : x ∈ a.filter (eqv lt x) ↔ x ∈ a := by rw [List.mem_filter]; simp [e]
  rw [← m1, ← m2, this]

/-- What is behind, and strictly ahead in the order, may be put ahead. -/
theorem Fs.swap (hw : SWO lt) {A B : List α} (h : ∀ a ∈ A, ∀ b ∈ B, lt b a = true) : Fs lt (A ++ B) (B ++ A) := by
  refine ⟨by rw [List.length_append, List.length_append, Nat.add_comm], fun k => ?_⟩
  rw [List.filter_append, List.filter_append]
  by_cases hA : A.filter (eqv lt k) = []
  · rw [hA, List.append_nil, List.nil_append]
  · obtain ⟨a, ha⟩ := List.exists_mem_of_ne_nil _ hA
    rw [List.mem_filter] at ha
    have hB : B.filter (eqv lt k) = [] := by
      rw [List.filter_eq_nil_iff]
      intro b hb e
      have e1 := (eqv_t lt).1 e
      have e2 := (eqv_t lt).1 ha.2
      have := hw.ntr b k a e1.2 e2.1
      rw [h a ha.1 b hb] at this; cases this
    rw [hB, List.append_nil, List.nil_append]

theorem Sd.app {a b : List α} (ha : Sd lt a) (hb : Sd lt b) (h : ∀ x ∈ a, ∀ y ∈ b, lt y x = false) : Sd lt (a ++ b) := List.pairwise_append.2 ⟨ha, hb, h⟩
theorem Sd.left {a b : List α} (h : Sd lt (a ++ b)) : Sd lt a := (List.pairwise_append.1 h).1
theorem Sd.right {a b : List α} (h : Sd lt (a ++ b)) : Sd lt b := (List.pairwise_append.1 h).2.1
theorem Sd.cross {a b : List α} (h : Sd lt (a ++ b)) : ∀ x ∈ a, ∀ y ∈ b, lt y x = false := (List.pairwise_append.1 h).2.2
theorem Sd.nil : Sd lt ([] : List α) := List.Pairwise.nil
theorem Sd.one (x : α) : Sd lt [x] := List.pairwise_singleton _ _
theorem Sd.get {l : List α} (h : Sd lt l) {i j : Nat} (hij : i < j) (hj : j < l.length) : lt l[j] (l[i]'(by omega)) = false := List.pairwise_iff_getElem.1 h i j (by omega) hj hij

/-- One more, behind those that are not behind it, and ahead of those that are. -/
theorem ins_sd (hw : SWO lt) {S1 S2 : List α} {x : α} (hs : Sd lt (S1 ++ S2)) (h2 : ∀ s ∈ S2, lt x s = true) (h1 : ∀ s ∈ S1, lt x s = false) : Sd lt (S1 ++ x :: S2) := by
  refine Sd.app hs.left (List.pairwise_cons.2 ⟨fun s hsm => hw.asy _ _ (h2 s hsm), hs.right⟩) fun a ha y hy => ?_
  rcases List.mem_cons.1 hy with rfl | hy
  · exact h1 a ha
  · exact hs.cross a ha y hy
theorem ins_fs (hw : SWO lt) {S1 S2 : List α} {x : α} (h2 : ∀ s ∈ S2, lt x s = true) : Fs lt (S1 ++ S2 ++ [x]) (S1 ++ x :: S2) := by
  have h : Fs lt (S2 ++ [x]) ([x] ++ S2) := Fs.swap hw fun a ha b hb => by rw [List.mem_singleton] at hb; subst hb; exact h2 a ha
  have := (Fs.refl (lt := lt) S1).app h
  rw [List.append_assoc]; exact this
/-- In a list in order, what is not behind its last is behind none. -/
theorem sd_last (hw : SWO lt) {S : List α} {x y : α} (hs : Sd lt (S ++ [y])) (h : lt x y = false) : ∀ s ∈ S ++ [y], lt x s = false := by
  intro s hm
  rcases List.mem_append.1 hm with hm | hm
  · exact hw.ntr _ _ _ h (hs.cross s hm y (by simp))
  · rw [List.mem_singleton] at hm; subst hm; exact h

/-- The step of the merge: A1 A2 B1 B2, of which A2 and B1 change places. -/
theorem merge_fs (hw : SWO lt) {A1 A2 B1 B2 : List α} (h : ∀ a ∈ A2, ∀ b ∈ B1, lt b a = true) : Fs lt (A1 ++ A2 ++ (B1 ++ B2)) (A1 ++ B1 ++ (A2 ++ B2)) := by
  have h1 := (Fs.refl (lt := lt) A1).app ((Fs.swap hw h).app (Fs.refl (lt := lt) B2))
  have e1 : A1 ++ A2 ++ (B1 ++ B2) = A1 ++ ((A2 ++ B1) ++ B2) := by simp
  have e2 : A1 ++ B1 ++ (A2 ++ B2) = A1 ++ ((B1 ++ A2) ++ B2) := by simp
  rw [e1, e2]; exact h1
theorem merge_sd (hw : SWO lt) {A1 A2 B1 B2 C D : List α} (hC : Sd lt C) (hD : Sd lt D) (fC : Fs lt (A1 ++ B1) C) (fD : Fs lt (A2 ++ B2) D)
    (hA : ∀ x ∈ A1, ∀ y ∈ A2, lt y x = false) (hB : ∀ x ∈ B1, ∀ y ∈ B2, lt y x = false) (h21 : ∀ a ∈ A2, ∀ b ∈ B1, lt b a = true) (h12 : ∀ x ∈ A1, ∀ y ∈ B2, lt y x = false) : Sd lt (C ++ D) := by
  refine hC.app hD fun x hx y hy => ?_
  rw [fC.mem hw, List.mem_append] at hx
  rw [fD.mem hw, List.mem_append] at hy
  rcases hx with hx | hx <;> rcases hy with hy | hy
  · exact hA x hx y hy
  · exact h12 x hx y hy
  · exact hw.asy _ _ (h21 y hy x hx)
  · exact hB x hx y hy

/-- Blocks of a size, each in order. -/
def Blk (lt : α → α → Bool) (s : Nat) (l : List α) : Prop := ∀ i, Sd lt ((l.drop (i * s)).take s)

theorem swap_get {l : List α} {i j : Nat} (hi : i < l.length) (hj : j < l.length) (k : Nat) : ((l.set i l[j]).set j l[i])[k]? = if k = j then some l[i] else if k = i then some l[j] else l[k]? := by
  rw [List.getElem?_set]
  by_cases h : j = k
  · subst h; simp [hj]
  · have h' : ¬ k = j := fun e => h e.symm
    rw [if_neg h, if_neg h', List.getElem?_set]
    by_cases h2 : i = k
    · subst h2; simp [hi]
    · have h2' : ¬ k = i := fun e => h2 e.symm
      rw [if_neg h2, if_neg h2']

/-- Two neighbours change places. -/
theorem set_pair {X R : List α} {x y : α} : ((X ++ x :: y :: R).set X.length y).set (X.length + 1) x = X ++ y :: x :: R := by
  rw [List.set_append_right _ _ (Nat.le_refl _), Nat.sub_self, List.set_cons_zero, List.set_append_right _ _ (by omega)]
  have e : X.length + 1 - X.length = 1 := by omega
  rw [e]; rfl
theorem set_pair' {X R : List α} {x y : α} : ((X ++ x :: y :: R).set (X.length + 1) x).set X.length y = X ++ y :: x :: R := by
  rw [List.set_comm _ _ (by omega)]; exact set_pair
end
end Go.Srt
/- Sorting of operations in memory: elements, ranges, insertion. No condition. -/
namespace Go.Gw
set_option linter.unusedSimpArgs false
open Go Go.Aw Go.Proofs.Ytoffonjlfomnbaa

/-- The cells of operations that lie one behind the other. -/
def fl (D : List Opn) : List AV := (D.map opA).flatMap AV.cells
theorem cells_opA (o : Opn) : (opA o).cells = opCells o := rfl
theorem agg_opC (o : Opn) : AV.agg (opCells o) = opA o := rfl
theorem opC_len (o : Opn) : (opCells o).length = 7 := rfl
theorem opC_one (o : Opn) : (opCells o).all AV.one = true := rfl
theorem opA_known (o : Opn) : (opA o).known = true := rfl
theorem fl_nil : fl [] = [] := rfl
theorem fl_cons (o : Opn) (D : List Opn) : fl (o :: D) = opCells o ++ fl D := rfl
theorem fl_app (A B : List Opn) : fl (A ++ B) = fl A ++ fl B := by unfold fl; rw [List.map_append, List.flatMap_append]
theorem fl_len (D : List Opn) : (fl D).length = D.length * 7 := by
  induction D with
  | nil => rfl
  | cons o D ih => rw [fl_cons, List.length_append, ih, opC_len, List.length_cons]; omega
theorem fl_get {A : List Opn} {x : Opn} {R : List Opn} {k : Nat} (h : A.length = k) : List.take 7 (List.drop (k * 7) (fl (A ++ x :: R))) = opCells x := by
  rw [fl_app, fl_cons, List.drop_left' (by rw [fl_len, h])]; exact List.take_left' (opC_len x)
theorem fl_set {A : List Opn} {x y : Opn} {R : List Opn} {k : Nat} (h : A.length = k) : splice (fl (A ++ x :: R)) (k * 7) (opCells y) = fl (A ++ y :: R) := by
  have hl : (fl A).length = k * 7 := by rw [fl_len, h]
  rw [fl_app, splice_app hl, fl_app, fl_cons, fl_cons, opC_len, List.drop_left' (opC_len x)]
end Go.Gw
namespace Go.Aw
set_option linter.unusedSimpArgs false
open Go Go.Gw Go.Proofs.Ytoffonjlfomnbaa
theorem hset_set (H : AHeap) (i : Nat) (b b' : ABlk) : hset (hset H i b) i b' = hset H i b' := by simp [hset]
theorem hget_of {H : AHeap} {i : Nat} {b : ABlk} (h : hget H i = b) (hb : b.live) (b' : ABlk) : hget (hset H i b') i = b' := hget_set_eq (hget_lt h hb) b'
theorem hset_id {H : AHeap} {i : Nat} {b : ABlk} (h : hget H i = b) (hb : b.live) : hset H i b = H := hset_same (hget_some h hb)
theorem pur_fl (D : List Opn) : ∀ x ∈ fl D, Pur x := by
  intro x hx
  obtain ⟨y, hy, hx⟩ := List.mem_flatMap.1 hx
  exact Pur.cells (pur_opm D y hy) x hx
where
  pur_opm (l : List Opn) : ∀ e ∈ l.map opA, Pur e := fun e he => by
    obtain ⟨x, _, rfl⟩ := List.mem_map.1 he; exact (by simp only [pur_int, pur_bool, pur_str, pur_agg, pur_tup, pur_sl, pur_iface, pur_nilI, List.mem_cons, List.not_mem_nil, false_implies, forall_eq_or_imp, List.mem_map, forall_exists_index, and_imp, forall_apply_eq_imp_iff₂, or_false, forall_eq, implies_true, and_self, and_true, true_and, Go.Gw.stA, Go.Gw.opA, Go.Gw.ndA, Go.Gw.unA, Go.Gw.enA, Go.Gw.inA, Go.Gw.lgF, Go.Gw.lgA])
theorem clb_fl (n v : Nat) (D : List Opn) : ClB n (.cells v (fl D)) := fun x hx => (pur_fl D x hx).cl n
theorem hset_cl {H : AHeap} {i n : Nat} {b : ABlk} (hb : ClB n b) : ∀ (j : Nat) (c : ABlk), (hset H i b)[j]? = some c → H[j]? = some c ∨ ClB n c := by
  intro j c hj
  by_cases e : i = j
  · subst e
    unfold hset at hj
    by_cases hl : i < H.length
    · rw [List.getElem?_set_self hl] at hj; cases hj; exact .inr hb
    · rw [List.getElem?_eq_none (by rw [List.length_set]; omega)] at hj; cases hj
  · unfold hset at hj
    rw [List.getElem?_set_ne e] at hj; exact .inl hj
/-- The end of a function that has changed a block, and answers nothing. -/
theorem doneSet {H : AHeap} {i : Nat} {b : ABlk} (hb : ClB H.length b) (R : AV → AHeap → Prop) (hR : R (.tup []) (hset H i b)) :
    ∃ H1 L y, hset H i b = H1 ++ L ∧ H1.length = H.length ∧ (∀ (j : Nat) (c : ABlk), H1[j]? = some c → H[j]? = some c ∨ ClB H.length c) ∧ Frz H.length (hset H i b) (.tup []) y ∧ R y H1 := by
  exact ⟨hset H i b, [], .tup [], (List.append_nil _).symm, hset_len H i b, hset_cl hb, .cl _ (Pur.cl (.tup _ (fun _ h => by cases h)) _), hR⟩
/-- A comparison that is handed in: it looks at nothing but its arguments. -/
def CmpC (P : Program) (f : AV) (c : Opn → Opn → Int) : Prop := ∀ a b H, ACall P f [opA a, opA b] H (fun v H' => v = .int .i64 (c a b) ∧ H' = H)
theorem callP_cmp {P : Program} {g : Bool} {f : AV} {c : Opn → Opn → Int} {a b : Opn} {H : AHeap} {K : AV → Prop} (h : CmpC P f c) (hk : K (.int .i64 (c a b))) : callP P g f [.agg (opCells a), .agg (opCells b)] H K := ⟨_, fun _ => h a b H, hk⟩
def TestC (P : Program) (f : AV) (c : Opn → Opn → Bool) : Prop := ∀ a b H, ACall P f [opA a, opA b] H (fun v H' => v = .bool (c a b) ∧ H' = H)
theorem callP_test {P : Program} {g : Bool} {f : AV} {c : Opn → Opn → Bool} {a b : Opn} {H : AHeap} {K : AV → Prop} (h : TestC P f c) (hk : K (.bool (c a b))) : callP P g f [.agg (opCells a), .agg (opCells b)] H K := ⟨_, fun _ => h a b H, hk⟩
theorem wrap_nat {n : Nat} {m : Int} (h : (n : Int) = m) (hn : n ≤ 9223372036854775807) : IntKind.i64.wrap m = (n : Int) := by subst h; exact wrap_i64 (by omega) (by omega)
/-- Behind a piece of code only what is told here is kept. -/
theorem aw_cutT {P : Program} {N : Nat} {x y : Code} {Q : APost} {α : AF} {H : AHeap} {ι : Type} (F : ι → AF) (Hp : ι → AHeap) (pre : ι → Prop) (h1 : aw P N x (cutQ F Hp pre Q) α H) (h2 : ∀ i, pre i → aw P N y Q (F i) (Hp i)) : aw P N x (thenQ P N y Q) α H := by
  refine aw_mono h1 fun e α' H' h => ?_
  cases e with
  | normal =>
    obtain ⟨i, hp, hs, rfl⟩ := h
    exact aw_weaken (h2 i hp) (subA_look hs)
  | _ => exact h
end Go.Aw
namespace Go.Proofs.Ytoffonjlfomnbaa
open Go Go.Aw Go.Gw Go.Srt
set_option linter.unusedSimpArgs false
set_option maxRecDepth 20000
set_option maxHeartbeats 2000000

theorem swapR_c (X U M V Y : List Opn) (hUV : U.length = V.length) (fn : AV) (H : AHeap) (blk v lc : Nat) (hh : hget H blk = .cells v (fl (X ++ (U ++ (M ++ (V ++ Y)))))) (hl : (X ++ (U ++ (M ++ (V ++ Y)))).length ≤ 1000000000) :
    ACalls Try.prog 99 [.osl 7 blk v 0 (X ++ (U ++ (M ++ (V ++ Y)))).length lc, .int .i64 X.length, .int .i64 (X.length + (U.length + M.length) : Nat), .int .i64 U.length, fn] H
      (fun r H' => r = .tup [] ∧ H' = hset H blk (.cells v (fl (X ++ (V ++ (M ++ (U ++ Y))))))) := by
  refine acalls_of Try.func99 rfl (Nat.le_of_ble_eq_true rfl) ?_
  have hset1 := fun b => hget_of hh trivial b
  have hset2 := hset_set H blk
  generalize hn : (X ++ (U ++ (M ++ (V ++ Y)))).length = n at *
  simp only [List.length_append] at hn
  repeat' first | ((first | refine callP_false (.bool false) ?_ | refine aw_region rfl ?_ | refine aw_region_draw mixedF rfl (by kernel_rfl) ?_ | refine aw_ret ?_ | refine aw_skip ?_ | refine aw_exit ?_ | refine aw_label ?_); simp only [go_sem, ↓reduceIte, Nat.reduceEqDiff, Nat.reduceAdd, Nat.reduceSub, Nat.reduceMul, Nat.reduceLeDiff, Nat.reduceLT, Nat.reduceBEq, Int.reduceNeg, Int.reduceLE, Int.reduceLT, Int.reduceToNat, String.reduceEq]) | refine aw_seq ?_ | refine aw_block ?_ | refine aw_scope ?_ | (refine aw_cond rfl (fun h => ?_) (fun h => ?_) <;> try (exfalso; first | (simp at h; done) | (simp at h; omega))) | ((with_reducible refine And.intro ?_ ?_); focus (first | omega | (intros; simp_all; done) | (simp; omega)))
  refine aw_loopS (ι := Nat) (fun k => [(0, .osl 7 blk v 0 n lc), (1, .int .i64 X.length), (2, .int .i64 (X.length + (U.length + M.length) : Nat)), (3, .int .i64 U.length), (10, .int .i64 k)])
    (fun k => hset H blk (.cells v (fl ((X ++ V.take k) ++ ((U.drop k ++ M) ++ (U.take k ++ (V.drop k ++ Y))))))) (fun k => k ≤ U.length) (fun k => U.length - k) 0 (Nat.zero_le _) ?_ ?_ ?_
  · simp [go_sem]
  · simp only [List.take_zero, List.drop_zero, List.append_nil, List.nil_append, List.append_assoc]
    exact (hset_id hh trivial).symm
  · intro k hk
    by_cases hlt : k < U.length
    · have hlv : k < V.length := by omega
      have e1 : U.drop k = U[k] :: U.drop (k + 1) := List.drop_eq_getElem_cons hlt
      have e2 : V.drop k = V[k] :: V.drop (k + 1) := List.drop_eq_getElem_cons hlv
      have e3 : U.take (k + 1) = U.take k ++ [U[k]] := List.take_succ_eq_append_getElem hlt
      have e4 : V.take (k + 1) = V.take k ++ [V[k]] := List.take_succ_eq_append_getElem hlv
      have eD : (X ++ V.take (k + 1)) ++ ((U.drop (k + 1) ++ M) ++ (U.take (k + 1) ++ (V.drop (k + 1) ++ Y))) = (X ++ V.take k) ++ V[k] :: (((U.drop (k + 1) ++ M) ++ U.take k) ++ U[k] :: (V.drop (k + 1) ++ Y)) := by rw [e3, e4]; simp only [List.append_assoc, List.cons_append, List.nil_append]
      have eD0 : (X ++ V.take k) ++ ((U.drop k ++ M) ++ (U.take k ++ (V.drop k ++ Y))) = (X ++ V.take k) ++ U[k] :: (((U.drop (k + 1) ++ M) ++ U.take k) ++ V[k] :: (V.drop (k + 1) ++ Y)) := by rw [e1, e2]; simp only [List.append_assoc, List.cons_append, List.nil_append]
      have l1 : (X ++ V.take k).length = X.length + k := by rw [List.length_append, List.length_take]; omega
      have l2 : ((U.drop (k + 1) ++ M) ++ U.take k).length = U.length + M.length - 1 := by simp only [List.length_append, List.length_drop, List.length_take]; omega
      rw [eD0]
      generalize U[k] = x at *
      generalize V[k] = y at *
      generalize X ++ V.take k = A at *
      generalize (U.drop (k + 1) ++ M) ++ U.take k = B at *
      generalize hC : V.drop (k + 1) ++ Y = C at *
      obtain ⟨p, hp⟩ : ∃ p, p = X.length + k := ⟨_, rfl⟩
      obtain ⟨q, hq⟩ : ∃ q, q = X.length + k + 1 + B.length := ⟨_, rfl⟩
      have hw1 : IntKind.i64.wrap ((X.length : Int) + (k : Int)) = (p : Int) := wrap_nat (by omega) (by omega)
      have hw2 : IntKind.i64.wrap (((X.length + (U.length + M.length) : Nat) : Int) + (k : Int)) = (q : Int) := wrap_nat (by omega) (by omega)
      have l3 : (A ++ x :: B).length = q := by rw [List.length_append, List.length_cons]; omega
      have l4 : (A ++ y :: B).length = q := by rw [List.length_append, List.length_cons]; omega
      have g1 := fl_get (x := x) (R := B ++ y :: C) (l1.trans hp.symm)
      have g2 := fl_get (x := y) (R := C) l3
      have s1 := fl_set (x := x) (y := y) (R := B ++ y :: C) (l1.trans hp.symm)
      have s2 := fl_set (x := y) (y := x) (R := C) l4
      rw [List.append_assoc, List.cons_append] at g2 s2
      rw [List.append_assoc, List.cons_append] at s2
      repeat' first | ((first | refine aw_region_mix (id := 3) [.free, .free, .free, .free, .free, .free, .free, .free, .free, .free, .free, .free, .pure 0, .pure 0, .free, .free, .free, .free, .pure 0, .pure 0, .pure 0, .eff [false, false, true, false, false], .pure 0, .eff [false, false]] mixedF rfl (by kernel_rfl) (by kernel_rfl) ?_ | refine callP_false (.bool false) ?_ | refine aw_region rfl ?_ | refine aw_region_draw mixedF rfl (by kernel_rfl) ?_ | refine aw_ret ?_ | refine aw_skip ?_ | refine aw_exit ?_ | refine aw_label ?_); simp only [go_sem, ↓reduceIte, Nat.reduceEqDiff, Nat.reduceAdd, Nat.reduceSub, Nat.reduceMul, Nat.reduceLeDiff, Nat.reduceLT, Nat.reduceBEq, Int.reduceNeg, Int.reduceLE, Int.reduceLT, Int.reduceToNat, String.reduceEq, hset1, hset2, hw1, hw2, g1, g2, s1, s2, fl_len, opC_len, opC_one]) | refine aw_seq ?_ | refine aw_block ?_ | refine aw_scope ?_ | (refine aw_cond rfl (fun h => ?_) (fun h => ?_) <;> try (exfalso; first | (simp at h; done) | (simp at h; omega))) | ((with_reducible refine And.intro ?_ ?_); focus (first | omega | (intros; simp_all; done) | (simp; omega)))
      (repeat' (with_reducible refine And.intro ?_ ?_)) <;> try (first | omega | rfl)
      repeat' first | ((first | refine aw_region_mix (id := 3) [.free, .free, .free, .free, .free, .free, .free, .free, .free, .free, .free, .free, .pure 0, .pure 0, .free, .free, .free, .free, .pure 0, .pure 0, .pure 0, .eff [false, false, true, false, false], .pure 0, .eff [false, false]] mixedF rfl (by kernel_rfl) (by kernel_rfl) ?_ | refine callP_false (.bool false) ?_ | refine aw_region rfl ?_ | refine aw_region_draw mixedF rfl (by kernel_rfl) ?_ | refine aw_ret ?_ | refine aw_skip ?_ | refine aw_exit ?_ | refine aw_label ?_); simp only [go_sem, ↓reduceIte, Nat.reduceEqDiff, Nat.reduceAdd, Nat.reduceSub, Nat.reduceMul, Nat.reduceLeDiff, Nat.reduceLT, Nat.reduceBEq, Int.reduceNeg, Int.reduceLE, Int.reduceLT, Int.reduceToNat, String.reduceEq]) | refine aw_seq ?_ | refine aw_block ?_ | refine aw_scope ?_ | (refine aw_cond rfl (fun h => ?_) (fun h => ?_) <;> try (exfalso; first | (simp at h; done) | (simp at h; omega))) | ((with_reducible refine And.intro ?_ ?_); focus (first | omega | (intros; simp_all; done) | (simp; omega)))
      refine ⟨k + 1, hlt, by omega, congrArg _ (wrap_succ hlt (by omega)), ?_⟩
      rw [← eD, ← hC]
      simp only [List.append_assoc]
    · have hke : k = U.length := by omega
      have hli : decide ((k : Int) < (U.length : Int)) = false := decide_eq_false (by omega)
      repeat' first | ((first | refine aw_region_mix (id := 3) [.free, .free, .free, .free, .free, .free, .free, .free, .free, .free, .free, .free, .pure 0, .pure 0, .free, .free, .free, .free, .pure 0, .pure 0, .pure 0, .eff [false, false, true, false, false], .pure 0, .eff [false, false]] mixedF rfl (by kernel_rfl) (by kernel_rfl) ?_ | refine callP_false (.bool false) ?_ | refine aw_region rfl ?_ | refine aw_region_draw mixedF rfl (by kernel_rfl) ?_ | refine aw_ret ?_ | refine aw_skip ?_ | refine aw_exit ?_ | refine aw_label ?_); simp only [go_sem, ↓reduceIte, Nat.reduceEqDiff, Nat.reduceAdd, Nat.reduceSub, Nat.reduceMul, Nat.reduceLeDiff, Nat.reduceLT, Nat.reduceBEq, Int.reduceNeg, Int.reduceLE, Int.reduceLT, Int.reduceToNat, String.reduceEq, hset1, hset2, hli]) | refine aw_seq ?_ | refine aw_block ?_ | refine aw_scope ?_ | (refine aw_cond rfl (fun h => ?_) (fun h => ?_) <;> try (exfalso; first | (simp at h; done) | (simp at h; omega))) | ((with_reducible refine And.intro ?_ ?_); focus (first | omega | (intros; simp_all; done) | (simp; omega)))
      refine doneSet (clb_fl _ _ _) _ ⟨rfl, ?_⟩
      rw [hke, List.take_length, List.drop_length, hUV, List.take_length, List.drop_length]
      rfl
theorem swapR {X U M V Y D : List Opn} {n : Nat} {a b k : Int} (hD : D = X ++ (U ++ (M ++ (V ++ Y)))) (hn : n = D.length) (ha : a = X.length) (hb : b = (X.length + (U.length + M.length) : Nat)) (hk : k = U.length) (hUV : U.length = V.length) (fn : AV) (H : AHeap) (blk v lc : Nat)
    (hh : hget H blk = .cells v (fl D)) (hl : n ≤ 1000000000) :
    ACalls Try.prog 99 [.osl 7 blk v 0 n lc, .int .i64 a, .int .i64 b, .int .i64 k, fn] H
      (fun r H' => r = .tup [] ∧ H' = hset H blk (.cells v (fl (X ++ (V ++ (M ++ (U ++ Y))))))) := by
  subst hD hn ha hb hk
  exact swapR_c X U M V Y hUV fn H blk v lc hh hl
end Go.Proofs.Ytoffonjlfomnbaa
namespace Go.Proofs.Ytoffonjlfomnbaa
open Go Go.Aw Go.Gw Go.Srt
set_option linter.unusedSimpArgs false
set_option maxRecDepth 20000
set_option maxHeartbeats 2000000

structure RotS (X U V Y : List Opn) (m : Nat) (s : List Opn × List Opn × List Opn × List Opn) : Prop where
  pos1 : 0 < s.2.1.length
  pos2 : 0 < s.2.2.1.length
  m_eq : m = X.length + s.1.length + s.2.1.length
  goal : s.1 ++ (s.2.2.1 ++ (s.2.1 ++ s.2.2.2)) = V ++ U
def rotD (X Y : List Opn) (s : List Opn × List Opn × List Opn × List Opn) : List Opn := X ++ (s.1 ++ (s.2.1 ++ (s.2.2.1 ++ (s.2.2.2 ++ Y))))

theorem rot_c {X U V Y D : List Opn} {n : Nat} {a m b : Int} (hD : D = X ++ (U ++ (V ++ Y))) (hn : n = D.length) (ha : a = X.length) (hm : m = (X.length + U.length : Nat)) (hb : b = (X.length + U.length + V.length : Nat)) (hU : 0 < U.length) (hV : 0 < V.length) (fn : AV) (H : AHeap) (blk v lc : Nat)
    (hh : hget H blk = .cells v (fl D)) (hl : n ≤ 1000000000) :
    ACalls Try.prog 96 [.osl 7 blk v 0 n lc, .int .i64 a, .int .i64 m, .int .i64 b, fn] H
      (fun r H' => r = .tup [] ∧ H' = hset H blk (.cells v (fl (X ++ (V ++ (U ++ Y)))))) := by
  refine acalls_of Try.func96 rfl (Nat.le_of_ble_eq_true rfl) ?_
  have hset1 := fun b => hget_of hh trivial b
  have hset2 := hset_set H blk
  have hlen : n = X.length + (U.length + (V.length + Y.length)) := by rw [hn, hD]; simp only [List.length_append]
  obtain ⟨mm, hmm⟩ : ∃ mm : Nat, mm = X.length + U.length := ⟨_, rfl⟩
  have hw1 : IntKind.i64.wrap (m - a) = (U.length : Int) := wrap_nat (by omega) (by omega)
  have hw2 : IntKind.i64.wrap (b - m) = (V.length : Int) := wrap_nat (by omega) (by omega)
  rw [← hmm] at hm
  subst hm
  repeat' first | ((first | refine callP_false (.bool false) ?_ | refine aw_region rfl ?_ | refine aw_region_draw mixedF rfl (by kernel_rfl) ?_ | refine aw_ret ?_ | refine aw_skip ?_ | refine aw_exit ?_ | refine aw_label ?_); simp only [go_sem, ↓reduceIte, Nat.reduceEqDiff, Nat.reduceAdd, Nat.reduceSub, Nat.reduceMul, Nat.reduceLeDiff, Nat.reduceLT, Nat.reduceBEq, Int.reduceNeg, Int.reduceLE, Int.reduceLT, Int.reduceToNat, String.reduceEq, hw1, hw2]) | refine aw_seq ?_ | refine aw_block ?_ | refine aw_scope ?_ | (refine aw_cond rfl (fun h => ?_) (fun h => ?_) <;> try (exfalso; first | (simp at h; done) | (simp at h; omega))) | ((with_reducible refine And.intro ?_ ?_); focus (first | omega | (intros; simp_all; done) | (simp; omega)))
  refine aw_loopS (ι := List Opn × List Opn × List Opn × List Opn) (fun s => [(0, .osl 7 blk v 0 n lc), (2, .int .i64 mm), (4, fn), (10, .int .i64 s.2.1.length), (11, .int .i64 s.2.2.1.length)])
    (fun s => hset H blk (.cells v (fl (rotD X Y s)))) (RotS X U V Y mm) (fun s => s.2.1.length + s.2.2.1.length) ([], U, V, []) ⟨hU, hV, by simp only [List.length_nil]; omega, by simp⟩ ?_ ?_ ?_
  · simp [go_sem]
  · have e : rotD X Y ([], U, V, []) = D := by rw [hD]; simp [rotD]
    rw [e]; exact (hset_id hh trivial).symm
  · rintro ⟨P, A, B, Q⟩ ⟨h1, h2, h3, h4⟩
    simp only at h1 h2 h3 h4 ⊢
    have hlD : (rotD X Y (P, A, B, Q)).length = n := by
      have := congrArg List.length h4
      simp only [List.length_append] at this
      simp only [rotD, List.length_append]; omega
    have hXP : (X ++ P).length = X.length + P.length := List.length_append
    have hl2 := hlD
    simp only [rotD, List.length_append] at hl2
    by_cases hne : A.length = B.length
    · have hw3 : IntKind.i64.wrap ((mm : Int) - (A.length : Int)) = ((X.length + P.length : Nat) : Int) := wrap_nat (by omega) (by omega)
      have hli : decide ((A.length : Int) = (B.length : Int)) = true := decide_eq_true (by omega)
      repeat' first | ((first | refine callP_false (.bool false) ?_ | refine aw_region rfl ?_ | refine aw_region_draw mixedF rfl (by kernel_rfl) ?_ | refine aw_ret ?_ | refine aw_skip ?_ | refine aw_exit ?_ | refine aw_label ?_); simp only [go_sem, ↓reduceIte, Nat.reduceEqDiff, Nat.reduceAdd, Nat.reduceSub, Nat.reduceMul, Nat.reduceLeDiff, Nat.reduceLT, Nat.reduceBEq, Int.reduceNeg, Int.reduceLE, Int.reduceLT, Int.reduceToNat, String.reduceEq, hset1, hset2, hw3, hli]) | refine aw_seq ?_ | refine aw_block ?_ | refine aw_scope ?_ | (refine aw_cond rfl (fun h => ?_) (fun h => ?_) <;> try (exfalso; first | (simp at h; done) | (simp at h; omega))) | ((with_reducible refine And.intro ?_ ?_); focus (first | omega | (intros; simp_all; done) | (simp; omega)))
      refine callK_of (swapR (a := ((X.length + P.length : Nat) : Int)) (b := (mm : Int)) (k := (A.length : Int)) (X := X ++ P) (U := A) (M := []) (V := B) (Y := Q ++ Y) (D := rotD X Y (P, A, B, Q)) (by simp [rotD]) hlD.symm (by rw [hXP]) (by rw [hXP, List.length_nil]; omega) rfl hne _ _ _ _ _ (hset1 _) hl) callOk99F ?_
      rintro r H' ⟨rfl, rfl⟩
      simp only [go_sem, ↓reduceIte, Nat.reduceEqDiff, Nat.reduceAdd, Nat.reduceSub, Nat.reduceMul, Nat.reduceLeDiff, Nat.reduceLT, Nat.reduceBEq, Int.reduceNeg, Int.reduceLE, Int.reduceLT, Int.reduceToNat, String.reduceEq, hset2]
      repeat' first | ((first | refine callP_false (.bool false) ?_ | refine aw_region rfl ?_ | refine aw_region_draw mixedF rfl (by kernel_rfl) ?_ | refine aw_ret ?_ | refine aw_skip ?_ | refine aw_exit ?_ | refine aw_label ?_); simp only [go_sem, ↓reduceIte, Nat.reduceEqDiff, Nat.reduceAdd, Nat.reduceSub, Nat.reduceMul, Nat.reduceLeDiff, Nat.reduceLT, Nat.reduceBEq, Int.reduceNeg, Int.reduceLE, Int.reduceLT, Int.reduceToNat, String.reduceEq, hset1, hset2]) | refine aw_seq ?_ | refine aw_block ?_ | refine aw_scope ?_ | (refine aw_cond rfl (fun h => ?_) (fun h => ?_) <;> try (exfalso; first | (simp at h; done) | (simp at h; omega))) | ((with_reducible refine And.intro ?_ ?_); focus (first | omega | (intros; simp_all; done) | (simp; omega)))
      refine doneSet (clb_fl _ _ _) _ ⟨rfl, ?_⟩
      have e : X ++ (P ++ (B ++ (A ++ (Q ++ Y)))) = X ++ ((P ++ (B ++ (A ++ Q))) ++ Y) := by simp only [List.append_assoc]
      rw [e, h4, List.append_assoc]
    · have hli : decide ((A.length : Int) = (B.length : Int)) = false := decide_eq_false (by omega)
      by_cases hgt : B.length < A.length
      · have hAl : (A.take B.length).length = B.length := by rw [List.length_take]; omega
        have hDl : (A.drop B.length).length = A.length - B.length := List.length_drop ..
        have hw3 : IntKind.i64.wrap ((mm : Int) - (A.length : Int)) = ((X.length + P.length : Nat) : Int) := wrap_nat (by omega) (by omega)
        have hw4 : IntKind.i64.wrap ((A.length : Int) - (B.length : Int)) = ((A.drop B.length).length : Int) := wrap_nat (by omega) (by omega)
        have hli2 : decide ((B.length : Int) < (A.length : Int)) = true := decide_eq_true (by omega)
        have eD : rotD X Y (P, A, B, Q) = X ++ P ++ (A.take B.length ++ (A.drop B.length ++ (B ++ (Q ++ Y)))) := by
          have e : X ++ P ++ (A.take B.length ++ (A.drop B.length ++ (B ++ (Q ++ Y)))) = X ++ (P ++ ((A.take B.length ++ A.drop B.length) ++ (B ++ (Q ++ Y)))) := by simp only [List.append_assoc]
          rw [e, List.take_append_drop]; rfl
        repeat' first | ((first | refine callP_false (.bool false) ?_ | refine aw_region rfl ?_ | refine aw_region_draw mixedF rfl (by kernel_rfl) ?_ | refine aw_ret ?_ | refine aw_skip ?_ | refine aw_exit ?_ | refine aw_label ?_); simp only [go_sem, ↓reduceIte, Nat.reduceEqDiff, Nat.reduceAdd, Nat.reduceSub, Nat.reduceMul, Nat.reduceLeDiff, Nat.reduceLT, Nat.reduceBEq, Int.reduceNeg, Int.reduceLE, Int.reduceLT, Int.reduceToNat, String.reduceEq, hset1, hset2, hw3, hw4, hli, hli2]) | refine aw_seq ?_ | refine aw_block ?_ | refine aw_scope ?_ | (refine aw_cond rfl (fun h => ?_) (fun h => ?_) <;> try (exfalso; first | (simp at h; done) | (simp at h; omega))) | ((with_reducible refine And.intro ?_ ?_); focus (first | omega | (intros; simp_all; done) | (simp; omega)))
        refine callK_of (swapR (a := ((X.length + P.length : Nat) : Int)) (b := (mm : Int)) (k := (B.length : Int)) (X := X ++ P) (U := A.take B.length) (M := A.drop B.length) (V := B) (Y := Q ++ Y) (D := rotD X Y (P, A, B, Q)) eD hlD.symm (by rw [hXP]) (by rw [hXP]; omega) (by rw [hAl]) hAl _ _ _ _ _ (hset1 _) hl) callOk99F ?_
        rintro r H' ⟨rfl, rfl⟩
        simp only [go_sem, ↓reduceIte, Nat.reduceEqDiff, Nat.reduceAdd, Nat.reduceSub, Nat.reduceMul, Nat.reduceLeDiff, Nat.reduceLT, Nat.reduceBEq, Int.reduceNeg, Int.reduceLE, Int.reduceLT, Int.reduceToNat, String.reduceEq, hset2]
        repeat' first | ((first | refine callP_false (.bool false) ?_ | refine aw_region rfl ?_ | refine aw_region_draw mixedF rfl (by kernel_rfl) ?_ | refine aw_ret ?_ | refine aw_skip ?_ | refine aw_exit ?_ | refine aw_label ?_); simp only [go_sem, ↓reduceIte, Nat.reduceEqDiff, Nat.reduceAdd, Nat.reduceSub, Nat.reduceMul, Nat.reduceLeDiff, Nat.reduceLT, Nat.reduceBEq, Int.reduceNeg, Int.reduceLE, Int.reduceLT, Int.reduceToNat, String.reduceEq, hset1, hset2, hw4]) | refine aw_seq ?_ | refine aw_block ?_ | refine aw_scope ?_ | (refine aw_cond rfl (fun h => ?_) (fun h => ?_) <;> try (exfalso; first | (simp at h; done) | (simp at h; omega))) | ((with_reducible refine And.intro ?_ ?_); focus (first | omega | (intros; simp_all; done) | (simp; omega)))
        refine ⟨(P ++ B, A.drop B.length, A.take B.length, Q), ⟨by simp only; omega, by simp only; omega, by simp only [List.length_append]; omega, ?_⟩, by simp only; omega, ⟨rfl, by simp only [hAl]⟩, ?_⟩
        · simp only
          rw [← h4]
          have e : P ++ B ++ (A.take B.length ++ (A.drop B.length ++ Q)) = P ++ (B ++ ((A.take B.length ++ A.drop B.length) ++ Q)) := by simp only [List.append_assoc]
          rw [e, List.take_append_drop]
        · simp only [rotD, List.append_assoc]
      · have hBl : (B.take (B.length - A.length)).length = B.length - A.length := by rw [List.length_take]; omega
        have hDl : (B.drop (B.length - A.length)).length = A.length := by rw [List.length_drop]; omega
        have hw3 : IntKind.i64.wrap ((mm : Int) - (A.length : Int)) = ((X.length + P.length : Nat) : Int) := wrap_nat (by omega) (by omega)
        have hw5 : IntKind.i64.wrap ((mm : Int) + (B.length : Int)) = ((mm + B.length : Nat) : Int) := wrap_nat (by omega) (by omega)
        have hw6 : IntKind.i64.wrap (((mm + B.length : Nat) : Int) - (A.length : Int)) = ((mm + B.length - A.length : Nat) : Int) := wrap_nat (by omega) (by omega)
        have hw4 : IntKind.i64.wrap ((B.length : Int) - (A.length : Int)) = ((B.take (B.length - A.length)).length : Int) := wrap_nat (by omega) (by omega)
        have hli2 : decide ((B.length : Int) < (A.length : Int)) = false := decide_eq_false (by omega)
        have eD : rotD X Y (P, A, B, Q) = X ++ P ++ (A ++ (B.take (B.length - A.length) ++ (B.drop (B.length - A.length) ++ (Q ++ Y)))) := by
          have e : X ++ P ++ (A ++ (B.take (B.length - A.length) ++ (B.drop (B.length - A.length) ++ (Q ++ Y)))) = X ++ (P ++ (A ++ ((B.take (B.length - A.length) ++ B.drop (B.length - A.length)) ++ (Q ++ Y)))) := by simp only [List.append_assoc]
          rw [e, List.take_append_drop]; rfl
        repeat' first | ((first | refine callP_false (.bool false) ?_ | refine aw_region rfl ?_ | refine aw_region_draw mixedF rfl (by kernel_rfl) ?_ | refine aw_ret ?_ | refine aw_skip ?_ | refine aw_exit ?_ | refine aw_label ?_); simp only [go_sem, ↓reduceIte, Nat.reduceEqDiff, Nat.reduceAdd, Nat.reduceSub, Nat.reduceMul, Nat.reduceLeDiff, Nat.reduceLT, Nat.reduceBEq, Int.reduceNeg, Int.reduceLE, Int.reduceLT, Int.reduceToNat, String.reduceEq, hset1, hset2, hw3, hw4, hw5, hw6, hli, hli2]) | refine aw_seq ?_ | refine aw_block ?_ | refine aw_scope ?_ | (refine aw_cond rfl (fun h => ?_) (fun h => ?_) <;> try (exfalso; first | (simp at h; done) | (simp at h; omega))) | ((with_reducible refine And.intro ?_ ?_); focus (first | omega | (intros; simp_all; done) | (simp; omega)))
        refine callK_of (swapR (a := ((X.length + P.length : Nat) : Int)) (b := ((mm + B.length - A.length : Nat) : Int)) (k := (A.length : Int)) (X := X ++ P) (U := A) (M := B.take (B.length - A.length)) (V := B.drop (B.length - A.length)) (Y := Q ++ Y) (D := rotD X Y (P, A, B, Q)) eD hlD.symm (by rw [hXP]) (by rw [hXP]; omega) rfl hDl.symm _ _ _ _ _ (hset1 _) hl) callOk99F ?_
        rintro r H' ⟨rfl, rfl⟩
        simp only [go_sem, ↓reduceIte, Nat.reduceEqDiff, Nat.reduceAdd, Nat.reduceSub, Nat.reduceMul, Nat.reduceLeDiff, Nat.reduceLT, Nat.reduceBEq, Int.reduceNeg, Int.reduceLE, Int.reduceLT, Int.reduceToNat, String.reduceEq, hset2]
        repeat' first | ((first | refine callP_false (.bool false) ?_ | refine aw_region rfl ?_ | refine aw_region_draw mixedF rfl (by kernel_rfl) ?_ | refine aw_ret ?_ | refine aw_skip ?_ | refine aw_exit ?_ | refine aw_label ?_); simp only [go_sem, ↓reduceIte, Nat.reduceEqDiff, Nat.reduceAdd, Nat.reduceSub, Nat.reduceMul, Nat.reduceLeDiff, Nat.reduceLT, Nat.reduceBEq, Int.reduceNeg, Int.reduceLE, Int.reduceLT, Int.reduceToNat, String.reduceEq, hset1, hset2, hw4]) | refine aw_seq ?_ | refine aw_block ?_ | refine aw_scope ?_ | (refine aw_cond rfl (fun h => ?_) (fun h => ?_) <;> try (exfalso; first | (simp at h; done) | (simp at h; omega))) | ((with_reducible refine And.intro ?_ ?_); focus (first | omega | (intros; simp_all; done) | (simp; omega)))
        refine ⟨(P, B.drop (B.length - A.length), B.take (B.length - A.length), A ++ Q), ⟨by simp only; omega, by simp only; omega, by simp only; omega, ?_⟩, by simp only; omega, ⟨by simp only [hDl], rfl⟩, ?_⟩
        · simp only
          rw [← h4]
          have e : P ++ (B.take (B.length - A.length) ++ (B.drop (B.length - A.length) ++ (A ++ Q))) = P ++ ((B.take (B.length - A.length) ++ B.drop (B.length - A.length)) ++ (A ++ Q)) := by simp only [List.append_assoc]
          rw [e, List.take_append_drop]
        · simp only [rotD, List.append_assoc]
end Go.Proofs.Ytoffonjlfomnbaa
namespace Go.Proofs.Ytoffonjlfomnbaa
open Go Go.Aw Go.Gw Go.Srt
set_option linter.unusedSimpArgs false
set_option maxRecDepth 20000
set_option maxHeartbeats 4000000

/-- Behind some rounds: the first ones are in order. -/
structure InsO (lt : Opn → Opn → Bool) (X M Y : List Opn) (s : Nat × List Opn) : Prop where
  le : s.1 ≤ M.length
  ex : ∃ S, s.2 = X ++ (S ++ (M.drop s.1 ++ Y)) ∧ Fs lt (M.take s.1) S ∧ Sd lt S

theorem insSort_c {X M Y D : List Opn} {n : Nat} {a b : Int} {lt : Opn → Opn → Bool} {c : Opn → Opn → Int} (hw : SWO lt) (hc : ∀ x y, decide (c x y < 0) = lt x y)
    (hD : D = X ++ (M ++ Y)) (hn : n = D.length) (ha : a = X.length) (hb : b = (X.length + M.length : Nat)) (fn : Fn) (fs cs : List AV) (hf : CmpC Try.prog (.func fn fs cs) c) (H : AHeap) (blk v lc : Nat)
    (hh : hget H blk = .cells v (fl D)) (hl : n ≤ 1000000000) :
    ACalls Try.prog 93 [.osl 7 blk v 0 n lc, .int .i64 a, .int .i64 b, .func fn fs cs] H
      (fun r H' => r = .tup [] ∧ ∃ S, Fs lt M S ∧ Sd lt S ∧ H' = hset H blk (.cells v (fl (X ++ (S ++ Y))))) := by
  refine acalls_of Try.func93 rfl (Nat.le_of_ble_eq_true rfl) ?_
  have hset1 := fun b => hget_of hh trivial b
  have hset2 := hset_set H blk
  have hlen : n = X.length + (M.length + Y.length) := by rw [hn, hD]; simp only [List.length_append]
  cases M with
  | nil =>
    have hw1 : IntKind.i64.wrap (a + 1) = ((X.length + 1 : Nat) : Int) := by subst ha; exact wrap_i64 (by omega) (by omega)
    have hli : decide (((X.length + 1 : Nat) : Int) < b) = false := decide_eq_false (by subst hb; simp only [List.length_nil]; omega)
    repeat' first | ((first | refine callP_false (.bool false) ?_ | refine aw_region rfl ?_ | refine aw_region_draw mixedF rfl (by kernel_rfl) ?_ | refine aw_ret ?_ | refine aw_skip ?_ | refine aw_exit ?_ | refine aw_label ?_); simp only [go_sem, ↓reduceIte, Nat.reduceEqDiff, Nat.reduceAdd, Nat.reduceSub, Nat.reduceMul, Nat.reduceLeDiff, Nat.reduceLT, Nat.reduceBEq, Int.reduceNeg, Int.reduceLE, Int.reduceLT, Int.reduceToNat, String.reduceEq, hw1]) | refine aw_seq ?_ | refine aw_block ?_ | refine aw_scope ?_ | (refine aw_cond rfl (fun h => ?_) (fun h => ?_) <;> try (exfalso; first | (simp at h; done) | (simp at h; omega))) | ((with_reducible refine And.intro ?_ ?_); focus (first | omega | (intros; simp_all; done) | (simp; omega)))
    refine aw_loopS (ι := Unit) (fun _ => [(2, .int .i64 b), (8, .int .i64 (X.length + 1 : Nat))]) (fun _ => H) (fun _ => True) (fun _ => 0) () trivial ?_ rfl ?_
    · simp [go_sem]
    · intro _ _
      repeat' first | ((first | refine callP_false (.bool false) ?_ | refine aw_region rfl ?_ | refine aw_region_draw mixedF rfl (by kernel_rfl) ?_ | refine aw_ret ?_ | refine aw_skip ?_ | refine aw_exit ?_ | refine aw_label ?_); simp only [go_sem, ↓reduceIte, Nat.reduceEqDiff, Nat.reduceAdd, Nat.reduceSub, Nat.reduceMul, Nat.reduceLeDiff, Nat.reduceLT, Nat.reduceBEq, Int.reduceNeg, Int.reduceLE, Int.reduceLT, Int.reduceToNat, String.reduceEq, hli]) | refine aw_seq ?_ | refine aw_block ?_ | refine aw_scope ?_ | (refine aw_cond rfl (fun h => ?_) (fun h => ?_) <;> try (exfalso; first | (simp at h; done) | (simp at h; omega))) | ((with_reducible refine And.intro ?_ ?_); focus (first | omega | (intros; simp_all; done) | (simp; omega)))
      have e : H = hset H blk (.cells v (fl (X ++ ([] ++ Y)))) := by rw [← show D = X ++ ([] ++ Y) from hD]; exact (hset_id hh trivial).symm
      conv => enter [1, H1, 1, L, 1, y]; skip
      have h := doneSet (H := H) (i := blk) (b := .cells v (fl (X ++ ([] ++ Y)))) (clb_fl _ _ _) (fun r H' => r = .tup [] ∧ ∃ S, Fs lt [] S ∧ Sd lt S ∧ H' = hset H blk (.cells v (fl (X ++ (S ++ Y))))) ⟨rfl, [], .refl _, .nil, rfl⟩
      rw [← e] at h
      exact h
  | cons m0 M0 =>
    generalize hM : m0 :: M0 = M at *
    have hpos : 1 ≤ M.length := by rw [← hM]; simp
    have hw1 : IntKind.i64.wrap (a + 1) = ((X.length + 1 : Nat) : Int) := by subst ha; exact wrap_i64 (by omega) (by omega)
    repeat' first | ((first | refine callP_false (.bool false) ?_ | refine aw_region rfl ?_ | refine aw_region_draw mixedF rfl (by kernel_rfl) ?_ | refine aw_ret ?_ | refine aw_skip ?_ | refine aw_exit ?_ | refine aw_label ?_); simp only [go_sem, ↓reduceIte, Nat.reduceEqDiff, Nat.reduceAdd, Nat.reduceSub, Nat.reduceMul, Nat.reduceLeDiff, Nat.reduceLT, Nat.reduceBEq, Int.reduceNeg, Int.reduceLE, Int.reduceLT, Int.reduceToNat, String.reduceEq, hw1]) | refine aw_seq ?_ | refine aw_block ?_ | refine aw_scope ?_ | (refine aw_cond rfl (fun h => ?_) (fun h => ?_) <;> try (exfalso; first | (simp at h; done) | (simp at h; omega))) | ((with_reducible refine And.intro ?_ ?_); focus (first | omega | (intros; simp_all; done) | (simp; omega)))
    refine aw_loopS (ι := Nat × List Opn) (fun s => [(0, .osl 7 blk v 0 n lc), (1, .int .i64 a), (2, .int .i64 b), (3, .func fn fs cs), (8, .int .i64 (X.length + s.1 : Nat))])
      (fun s => hset H blk (.cells v (fl s.2))) (InsO lt X M Y) (fun s => M.length - s.1) (1, D) ⟨hpos, [m0], by rw [hD, ← hM]; rfl, by rw [← hM]; exact .refl _, .one _⟩ ?_ (hset_id hh trivial).symm ?_
    · simp [go_sem]
    · rintro ⟨i, E⟩ ⟨hi, S, hE, hS1, hS2⟩
      simp only at hi hE hS1 hS2 ⊢
      have hSl : S.length = i := by have := hS1.1; rw [List.length_take] at this; omega
      by_cases hlt : i < M.length
      · have e1 : M.drop i = M[i] :: M.drop (i + 1) := List.drop_eq_getElem_cons hlt
        have e2 : M.take (i + 1) = M.take i ++ [M[i]] := List.take_succ_eq_append_getElem hlt
        rw [e1] at hE
        have hdl : (M.drop (i + 1)).length = M.length - (i + 1) := List.length_drop ..
        generalize M[i] = x at *
        generalize hR : M.drop (i + 1) = R at *
        have hli : decide (((X.length + i : Nat) : Int) < b) = true := decide_eq_true (by omega)
        have hw2 : IntKind.i64.wrap (((X.length + i : Nat) : Int) + 1) = ((X.length + (i + 1) : Nat) : Int) := wrap_nat (by omega) (by omega)
        repeat' first | ((first | refine callP_false (.bool false) ?_ | refine aw_region rfl ?_ | refine aw_region_draw mixedF rfl (by kernel_rfl) ?_ | refine aw_ret ?_ | refine aw_skip ?_ | refine aw_exit ?_ | refine aw_label ?_); simp only [go_sem, ↓reduceIte, Nat.reduceEqDiff, Nat.reduceAdd, Nat.reduceSub, Nat.reduceMul, Nat.reduceLeDiff, Nat.reduceLT, Nat.reduceBEq, Int.reduceNeg, Int.reduceLE, Int.reduceLT, Int.reduceToNat, String.reduceEq, hli]) | refine aw_seq ?_ | refine aw_block ?_ | refine aw_scope ?_ | (refine aw_cond rfl (fun h => ?_) (fun h => ?_) <;> try (exfalso; first | (simp at h; done) | (simp at h; omega))) | ((with_reducible refine And.intro ?_ ?_); focus (first | omega | (intros; simp_all; done) | (simp; omega)))
        refine aw_loopS (ι := List Opn × List Opn) (fun s => [(0, .osl 7 blk v 0 n lc), (1, .int .i64 a), (2, .int .i64 b), (3, .func fn fs cs), (8, .int .i64 (X.length + i : Nat)), (9, .int .i64 (X.length + s.1.length : Nat))])
          (fun s => hset H blk (.cells v (fl ((X ++ s.1) ++ x :: (s.2 ++ (R ++ Y)))))) (fun s => s.1 ++ s.2 = S ∧ ∀ y ∈ s.2, lt x y = true) (fun s => s.1.length) (S, []) ⟨List.append_nil _, by simp⟩ ?_ ?_ ?_
        · simp [go_sem, hSl]
        · rw [hE]; simp only [List.append_assoc, List.cons_append, List.nil_append]
        · rintro ⟨S1, S2⟩ ⟨hSS, hgt⟩
          simp only at hSS hgt ⊢
          have hSSl : S1.length + S2.length = i := by rw [← hSl, ← hSS, List.length_append]
          have fin : (∀ s ∈ S1, lt x s = false) → InsO lt X M Y (i + 1, (X ++ S1) ++ x :: (S2 ++ (R ++ Y))) := fun h1 => by
            refine ⟨hlt, S1 ++ x :: S2, by simp only [hR, List.append_assoc, List.cons_append], ?_, ?_⟩
            · rw [e2]
              refine Fs.trans (hS1.app (.refl [x])) ?_
              rw [← hSS]; exact ins_fs hw hgt
            · rw [← hSS] at hS2; exact ins_sd hw hS2 hgt h1
          rcases List.eq_nil_or_concat S1 with h0 | ⟨S0, y, h0⟩
          · subst h0
            have hj : decide (a < (X.length : Int)) = false := decide_eq_false (by omega)
            rw [List.length_nil, Nat.add_zero]
            repeat' first | ((first | refine aw_region_mix (id := 6) [.free, .free, .free, .free, .free, .free, .free, .free, .pure 0, .pure 0, .free, .free, .pure 0, .pure 0, .pure 0, .eff [false, false, true, false, false], .pure 0, .eff [false, false]] mixedF rfl (by kernel_rfl) (by kernel_rfl) ?_ | refine callP_false (.bool false) ?_ | refine aw_region rfl ?_ | refine aw_region_draw mixedF rfl (by kernel_rfl) ?_ | refine aw_ret ?_ | refine aw_skip ?_ | refine aw_exit ?_ | refine aw_label ?_); simp only [go_sem, ↓reduceIte, Nat.reduceEqDiff, Nat.reduceAdd, Nat.reduceSub, Nat.reduceMul, Nat.reduceLeDiff, Nat.reduceLT, Nat.reduceBEq, Int.reduceNeg, Int.reduceLE, Int.reduceLT, Int.reduceToNat, String.reduceEq, hj, hset1, hset2, hw2]) | refine aw_seq ?_ | refine aw_block ?_ | refine aw_scope ?_ | (refine aw_cond rfl (fun h => ?_) (fun h => ?_) <;> try (exfalso; first | (simp at h; done) | (simp at h; omega))) | ((with_reducible refine And.intro ?_ ?_); focus (first | omega | (intros; simp_all; done) | (simp; omega)))
            exact ⟨_, fin (by simp), by simp only; omega, rfl, by simp⟩
          · subst h0
            rw [List.concat_eq_append] at *
            obtain ⟨p, hp⟩ : ∃ p, p = X.length + S0.length := ⟨_, rfl⟩
            obtain ⟨q, hq⟩ : ∃ q, q = X.length + S0.length + 1 := ⟨_, rfl⟩
            have hq1 : X.length + (S0 ++ [y]).length = q := by rw [List.length_append, List.length_singleton]; omega
            have hj : decide (a < (q : Int)) = true := decide_eq_true (by omega)
            have hw3 : IntKind.i64.wrap ((q : Int) - 1) = (p : Int) := wrap_nat (by omega) (by omega)
            have eD : (X ++ (S0 ++ [y])) ++ x :: (S2 ++ (R ++ Y)) = (X ++ S0) ++ y :: x :: (S2 ++ (R ++ Y)) := by simp only [List.append_assoc, List.cons_append, List.nil_append]
            have l1 : (X ++ S0).length = p := by rw [List.length_append, hp]
            have l2 : (X ++ (S0 ++ [y])).length = q := by rw [List.length_append, hq1]
            have l3 : (X ++ S0 ++ [y]).length = q := by rw [List.append_assoc]; exact l2
            have g1 := fl_get (x := y) (R := x :: (S2 ++ (R ++ Y))) l1
            have g2 := fl_get (x := x) (R := S2 ++ (R ++ Y)) l3
            have s1 := fl_set (x := x) (y := y) (R := S2 ++ (R ++ Y)) l3
            have s2 := fl_set (x := y) (y := x) (R := y :: (S2 ++ (R ++ Y))) l1
            simp only [List.append_assoc, List.cons_append, List.nil_append] at g1 g2 s1 s2 eD
            simp only [List.length_append, List.length_cons] at hSSl
            rw [hq1]
            simp only [eD, List.append_assoc, List.cons_append, List.nil_append]
            have hli3 : (q : Int) < (n : Int) := by omega
            have hlq : q * 7 + 7 ≤ (fl (X ++ (S0 ++ y :: x :: (S2 ++ (R ++ Y))))).length := by rw [fl_len]; simp only [List.length_append, List.length_cons]; omega
            have hlp : p * 7 + 7 ≤ (fl (X ++ (S0 ++ y :: x :: (S2 ++ (R ++ Y))))).length := by rw [fl_len]; simp only [List.length_append, List.length_cons]; omega
            have hlp2 : p * 7 + 7 ≤ (fl (X ++ (S0 ++ y :: y :: (S2 ++ (R ++ Y))))).length := by rw [fl_len]; simp only [List.length_append, List.length_cons]; omega
            repeat' first | ((first | refine aw_region_mix (id := 6) [.free, .free, .free, .free, .free, .free, .free, .free, .pure 0, .pure 0, .free, .free, .pure 0, .pure 0, .pure 0, .eff [false, false, true, false, false], .pure 0, .eff [false, false]] mixedF rfl (by kernel_rfl) (by kernel_rfl) ?_ | refine callP_false (.bool false) ?_ | refine aw_region rfl ?_ | refine aw_region_draw mixedF rfl (by kernel_rfl) ?_ | refine aw_ret ?_ | refine aw_skip ?_ | refine aw_exit ?_ | refine aw_label ?_); simp only [go_sem, ↓reduceIte, Nat.reduceEqDiff, Nat.reduceAdd, Nat.reduceSub, Nat.reduceMul, Nat.reduceLeDiff, Nat.reduceLT, Nat.reduceBEq, Int.reduceNeg, Int.reduceLE, Int.reduceLT, Int.reduceToNat, String.reduceEq, hj, hset1, hset2, hw2, hw3, g1, g2, opC_len, opC_one]) | refine aw_seq ?_ | refine aw_block ?_ | refine aw_scope ?_ | (refine aw_cond rfl (fun h => ?_) (fun h => ?_) <;> try (exfalso; first | (simp at h; done) | (simp at h; omega))) | ((with_reducible refine And.intro ?_ ?_); focus (first | omega | (intros; simp_all; done) | (simp; omega)))
            (repeat' (with_reducible refine And.intro ?_ ?_)) <;> try (first | omega | rfl)
            refine callP_cmp hf ?_
            simp only [go_sem, ↓reduceIte, Nat.reduceEqDiff, Nat.reduceAdd, Nat.reduceSub, Nat.reduceMul, Nat.reduceLeDiff, Nat.reduceLT, Nat.reduceBEq, Int.reduceNeg, Int.reduceLE, Int.reduceLT, Int.reduceToNat, String.reduceEq, hc]
            cases hxy : lt x y with
            | false =>
              repeat' first | ((first | refine aw_region_mix (id := 6) [.free, .free, .free, .free, .free, .free, .free, .free, .pure 0, .pure 0, .free, .free, .pure 0, .pure 0, .pure 0, .eff [false, false, true, false, false], .pure 0, .eff [false, false]] mixedF rfl (by kernel_rfl) (by kernel_rfl) ?_ | refine callP_false (.bool false) ?_ | refine aw_region rfl ?_ | refine aw_region_draw mixedF rfl (by kernel_rfl) ?_ | refine aw_ret ?_ | refine aw_skip ?_ | refine aw_exit ?_ | refine aw_label ?_); simp only [go_sem, ↓reduceIte, Nat.reduceEqDiff, Nat.reduceAdd, Nat.reduceSub, Nat.reduceMul, Nat.reduceLeDiff, Nat.reduceLT, Nat.reduceBEq, Int.reduceNeg, Int.reduceLE, Int.reduceLT, Int.reduceToNat, String.reduceEq, hxy, hset1, hset2, hw2]) | refine aw_seq ?_ | refine aw_block ?_ | refine aw_scope ?_ | (refine aw_cond rfl (fun h => ?_) (fun h => ?_) <;> try (exfalso; first | (simp at h; done) | (simp at h; omega))) | ((with_reducible refine And.intro ?_ ?_); focus (first | omega | (intros; simp_all; done) | (simp; omega)))
              refine ⟨_, fin (sd_last hw (by rw [← hSS] at hS2; exact hS2.left) hxy), by simp only; omega, rfl, ?_⟩
              simp only [List.append_assoc, List.cons_append, List.nil_append]
            | true =>
              repeat' first | ((first | refine aw_region_mix (id := 6) [.free, .free, .free, .free, .free, .free, .free, .free, .pure 0, .pure 0, .free, .free, .pure 0, .pure 0, .pure 0, .eff [false, false, true, false, false], .pure 0, .eff [false, false]] mixedF rfl (by kernel_rfl) (by kernel_rfl) ?_ | refine callP_false (.bool false) ?_ | refine aw_region rfl ?_ | refine aw_region_draw mixedF rfl (by kernel_rfl) ?_ | refine aw_ret ?_ | refine aw_skip ?_ | refine aw_exit ?_ | refine aw_label ?_); simp only [go_sem, ↓reduceIte, Nat.reduceEqDiff, Nat.reduceAdd, Nat.reduceSub, Nat.reduceMul, Nat.reduceLeDiff, Nat.reduceLT, Nat.reduceBEq, Int.reduceNeg, Int.reduceLE, Int.reduceLT, Int.reduceToNat, String.reduceEq, hxy, hset1, hset2, hw3, g1, g2, s1, s2, opC_len, opC_one]) | refine aw_seq ?_ | refine aw_block ?_ | refine aw_scope ?_ | (refine aw_cond rfl (fun h => ?_) (fun h => ?_) <;> try (exfalso; first | (simp at h; done) | (simp at h; omega))) | ((with_reducible refine And.intro ?_ ?_); focus (first | omega | (intros; simp_all; done) | (simp; omega)))
              (repeat' (with_reducible refine And.intro ?_ ?_)) <;> try (first | omega | rfl)
              repeat' first | ((first | refine aw_region_mix (id := 6) [.free, .free, .free, .free, .free, .free, .free, .free, .pure 0, .pure 0, .free, .free, .pure 0, .pure 0, .pure 0, .eff [false, false, true, false, false], .pure 0, .eff [false, false]] mixedF rfl (by kernel_rfl) (by kernel_rfl) ?_ | refine callP_false (.bool false) ?_ | refine aw_region rfl ?_ | refine aw_region_draw mixedF rfl (by kernel_rfl) ?_ | refine aw_ret ?_ | refine aw_skip ?_ | refine aw_exit ?_ | refine aw_label ?_); simp only [go_sem, ↓reduceIte, Nat.reduceEqDiff, Nat.reduceAdd, Nat.reduceSub, Nat.reduceMul, Nat.reduceLeDiff, Nat.reduceLT, Nat.reduceBEq, Int.reduceNeg, Int.reduceLE, Int.reduceLT, Int.reduceToNat, String.reduceEq, hw3]) | refine aw_seq ?_ | refine aw_block ?_ | refine aw_scope ?_ | (refine aw_cond rfl (fun h => ?_) (fun h => ?_) <;> try (exfalso; first | (simp at h; done) | (simp at h; omega))) | ((with_reducible refine And.intro ?_ ?_); focus (first | omega | (intros; simp_all; done) | (simp; omega)))
              refine ⟨(S0, y :: S2), ⟨by rw [← hSS, List.append_assoc]; rfl, fun z hz => ?_⟩, Nat.lt_succ_self _, by rw [hp], rfl⟩
              rcases List.mem_cons.1 hz with rfl | hz
              · exact hxy
              · exact hgt z hz
      · have hie : i = M.length := by omega
        have hli : decide (((X.length + i : Nat) : Int) < b) = false := decide_eq_false (by omega)
        repeat' first | ((first | refine callP_false (.bool false) ?_ | refine aw_region rfl ?_ | refine aw_region_draw mixedF rfl (by kernel_rfl) ?_ | refine aw_ret ?_ | refine aw_skip ?_ | refine aw_exit ?_ | refine aw_label ?_); simp only [go_sem, ↓reduceIte, Nat.reduceEqDiff, Nat.reduceAdd, Nat.reduceSub, Nat.reduceMul, Nat.reduceLeDiff, Nat.reduceLT, Nat.reduceBEq, Int.reduceNeg, Int.reduceLE, Int.reduceLT, Int.reduceToNat, String.reduceEq, hli]) | refine aw_seq ?_ | refine aw_block ?_ | refine aw_scope ?_ | (refine aw_cond rfl (fun h => ?_) (fun h => ?_) <;> try (exfalso; first | (simp at h; done) | (simp at h; omega))) | ((with_reducible refine And.intro ?_ ?_); focus (first | omega | (intros; simp_all; done) | (simp; omega)))
        rw [hie, List.take_length] at hS1
        rw [hie, List.drop_length, List.nil_append] at hE
        exact doneSet (clb_fl _ _ _) _ ⟨rfl, S, hS1, hS2, by rw [hE]⟩
end Go.Proofs.Ytoffonjlfomnbaa
