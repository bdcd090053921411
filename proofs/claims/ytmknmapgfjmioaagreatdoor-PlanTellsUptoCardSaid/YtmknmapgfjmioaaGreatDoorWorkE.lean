/- The texts 5 of 7 beneath the rows of this seat (joined by program): the abstract machine, and what the functions answer. No condition. -/
import Derived.Test.YtmknmapgfjmioaaGreatDoorWorkD
set_option linter.unusedSimpArgs false
set_option linter.unusedVariables false
set_option linter.unusedSectionVars false
/- plan.own, After and Again: what they answer. No condition but the length of what comes in. -/
namespace Go.Proofs.YtmknmapgfjmioaaGreatDoor
open Go Go.Aw Go.Gw
set_option linter.unusedSimpArgs false
set_option maxRecDepth 20000
set_option maxHeartbeats 4000000

theorem cells_cloneStr_c (l : List Txt) : ∀ e ∈ l.map AV.str, e.cells.length = 1 := fun e he => by
  obtain ⟨x, _, rfl⟩ := List.mem_map.1 he; rfl
theorem cellsT_cloneStr_c (l : List Txt) : (∀ e ∈ l.map AV.str, e.cells.length = 1) = True := eq_true (cells_cloneStr_c l)
theorem pur_cloneStr_c (l : List Txt) : ∀ e ∈ l.map AV.str, Pur e := fun e he => by
  obtain ⟨x, _, rfl⟩ := List.mem_map.1 he; first | exact (by simp only [go_sem]) | (simp only [AV.str]; exact (by simp only [go_sem]))
theorem cloneStr_c (b : Bool) (l : List Txt) (hl : l.length ≤ 1073741824) (H : AHeap) : FnC Tryz.prog 29 [.sl b (l.map AV.str)] H (.sl false (l.map AV.str)) := by
  refine fnC_of Tryz.func29 rfl (Nat.le_of_ble_eq_true rfl) ?_
  repeat' first | ((first | refine callP_false (.bool false) ?_ | refine aw_region rfl ?_ | refine aw_region_draw mixedF rfl (by kernel_rfl) ?_ | refine aE rfl ?_); simp only [go_sem]) | refine callG_y ?_ | refine callG_p ?_ | refine aw_seq ?_ | refine aw_block ?_ | refine aw_scope ?_ | (refine aw_cond rfl (fun h => ?_) (fun h => ?_) <;> try (exfalso; first | (simp at h; done) | (simp at h; omega))) | ((with_reducible refine And.intro ?_ ?_); focus (first | omega | (intros; simp_all; done) | (simp; omega)))
  intro c hc
  cases c with
  | true =>
    have hnil : l = [] := by
      cases l with
      | nil => rfl
      | cons x l => exact absurd (hc (by simp)) (by decide)
    subst hnil
    repeat' first | ((first | refine callP_false (.bool false) ?_ | refine aw_region rfl ?_ | refine aw_region_draw mixedF rfl (by kernel_rfl) ?_ | refine aE rfl ?_); simp only [go_sem]) | refine callG_y ?_ | refine callG_p ?_ | refine aw_seq ?_ | refine aw_block ?_ | refine aw_scope ?_ | (refine aw_cond rfl (fun h => ?_) (fun h => ?_) <;> try (exfalso; first | (simp at h; done) | (simp at h; omega))) | ((with_reducible refine And.intro ?_ ?_); focus (first | omega | (intros; simp_all; done) | (simp; omega)))
    exact done0 (by simp only [go_sem]) (.sl _ _)
  | false =>
    clear hc
    repeat' first | ((first | refine callP_false (.bool false) ?_ | refine aw_region rfl ?_ | refine aw_region_draw mixedF rfl (by kernel_rfl) ?_ | refine aE rfl ?_); simp only [go_sem, cellsT_cloneStr_c]) | refine callG_y ?_ | refine callG_p ?_ | refine aw_seq ?_ | refine aw_block ?_ | refine aw_scope ?_ | (refine aw_cond rfl (fun h => ?_) (fun h => ?_) <;> try (exfalso; first | (simp at h; done) | (simp at h; omega))) | ((with_reducible refine And.intro ?_ ?_); focus (first | omega | (intros; simp_all; done) | (simp; omega)))
    exact doneOsl (cs := List.flatMap AV.cells (List.map AV.str l)) (es := l.map AV.str) (rest := []) (Nat.le_refl _) (by simp only [go_sem]) (List.append_nil _).symm (by rw [List.length_map]) (cells_cloneStr_c _) (pur_cloneStr_c _) rfl

theorem cells_cloneEv_c (l : List Evt) : ∀ e ∈ l.map evA, e.cells.length = 2 := fun e he => by
  obtain ⟨x, _, rfl⟩ := List.mem_map.1 he; rfl
theorem cellsT_cloneEv_c (l : List Evt) : (∀ e ∈ l.map evA, e.cells.length = 2) = True := eq_true (cells_cloneEv_c l)
theorem pur_cloneEv_c (l : List Evt) : ∀ e ∈ l.map evA, Pur e := fun e he => by
  obtain ⟨x, _, rfl⟩ := List.mem_map.1 he; first | exact (by simp only [go_sem]) | (simp only [evA]; exact (by simp only [go_sem]))
theorem cloneEv_c (b : Bool) (l : List Evt) (hl : l.length ≤ 1073741824) (H : AHeap) : FnC Tryz.prog 69 [.sl b (l.map evA)] H (.sl false (l.map evA)) := by
  refine fnC_of Tryz.func69 rfl (Nat.le_of_ble_eq_true rfl) ?_
  repeat' first | ((first | refine callP_false (.bool false) ?_ | refine aw_region rfl ?_ | refine aw_region_draw mixedF rfl (by kernel_rfl) ?_ | refine aE rfl ?_); simp only [go_sem]) | refine callG_y ?_ | refine callG_p ?_ | refine aw_seq ?_ | refine aw_block ?_ | refine aw_scope ?_ | (refine aw_cond rfl (fun h => ?_) (fun h => ?_) <;> try (exfalso; first | (simp at h; done) | (simp at h; omega))) | ((with_reducible refine And.intro ?_ ?_); focus (first | omega | (intros; simp_all; done) | (simp; omega)))
  intro c hc
  cases c with
  | true =>
    have hnil : l = [] := by
      cases l with
      | nil => rfl
      | cons x l => exact absurd (hc (by simp)) (by decide)
    subst hnil
    repeat' first | ((first | refine callP_false (.bool false) ?_ | refine aw_region rfl ?_ | refine aw_region_draw mixedF rfl (by kernel_rfl) ?_ | refine aE rfl ?_); simp only [go_sem]) | refine callG_y ?_ | refine callG_p ?_ | refine aw_seq ?_ | refine aw_block ?_ | refine aw_scope ?_ | (refine aw_cond rfl (fun h => ?_) (fun h => ?_) <;> try (exfalso; first | (simp at h; done) | (simp at h; omega))) | ((with_reducible refine And.intro ?_ ?_); focus (first | omega | (intros; simp_all; done) | (simp; omega)))
    exact done0 (by simp only [go_sem]) (.sl _ _)
  | false =>
    clear hc
    repeat' first | ((first | refine callP_false (.bool false) ?_ | refine aw_region rfl ?_ | refine aw_region_draw mixedF rfl (by kernel_rfl) ?_ | refine aE rfl ?_); simp only [go_sem, cellsT_cloneEv_c]) | refine callG_y ?_ | refine callG_p ?_ | refine aw_seq ?_ | refine aw_block ?_ | refine aw_scope ?_ | (refine aw_cond rfl (fun h => ?_) (fun h => ?_) <;> try (exfalso; first | (simp at h; done) | (simp at h; omega))) | ((with_reducible refine And.intro ?_ ?_); focus (first | omega | (intros; simp_all; done) | (simp; omega)))
    exact doneOsl (cs := List.flatMap AV.cells (List.map evA l)) (es := l.map evA) (rest := []) (Nat.le_refl _) (by simp only [go_sem]) (List.append_nil _).symm (by rw [List.length_map]) (cells_cloneEv_c _) (pur_cloneEv_c _) rfl


/-- A clone that may be written to. -/
theorem cloneL_c (b : Bool) (l : List Int) (hl : l.length ≤ 1073741824) (H : AHeap) :
    ACalls Tryz.prog 68 [.sl b (l.map inA)] H (fun v H' => v = .osl 1 H.length 1 0 l.length l.length ∧ H' = H ++ [.cells 1 (l.map inA)]) := by
  refine acalls_keep Tryz.func68 rfl (Nat.le_of_ble_eq_true rfl) ?_
  have hcl : ∀ n, ClB n (.cells 1 (l.map inA)) := fun n x hx => by obtain ⟨y, _, rfl⟩ := List.mem_map.1 hx; exact .int _ _
  have fin : ∀ v H', v = .osl 1 H.length 1 0 l.length l.length → H' = H ++ [.cells 1 (l.map inA)] → ∃ H1 L y, H' = H1 ++ L ∧ H.length ≤ H1.length ∧ (∀ (i : Nat) (b : ABlk), H1[i]? = some b → H[i]? = some b ∨ ClB H1.length b) ∧ Frz H1.length H' v y ∧
      y = .osl 1 H.length 1 0 l.length l.length ∧ H1 = H ++ [.cells 1 (l.map inA)] := by
    rintro v H' rfl rfl
    refine ⟨_, [], _, (List.append_nil _).symm, by simp, fun i b hi => ?_, .cl _ (.osl _ _ _ _ _ _ (by simp)), rfl, rfl⟩
    by_cases hlt : i < H.length
    · rw [List.getElem?_append_left hlt] at hi; exact .inl hi
    · rw [List.getElem?_append_right (by omega)] at hi
      cases hk : i - H.length with
      | zero => rw [hk] at hi; cases hi; exact .inr (hcl _)
      | succ k => rw [hk] at hi; simp at hi
  repeat' first | ((first | refine callP_false (.bool false) ?_ | refine aw_region rfl ?_ | refine aw_region_draw mixedF rfl (by kernel_rfl) ?_ | refine aE rfl ?_); simp only [go_sem]) | refine callG_y ?_ | refine callG_p ?_ | refine aw_seq ?_ | refine aw_block ?_ | refine aw_scope ?_ | (refine aw_cond rfl (fun h => ?_) (fun h => ?_) <;> try (exfalso; first | (simp at h; done) | (simp at h; omega))) | ((with_reducible refine And.intro ?_ ?_); focus (first | omega | (intros; simp_all; done) | (simp; omega)))
  intro c hc
  cases c with
  | true =>
    have hnil : l = [] := by
      cases l with
      | nil => rfl
      | cons x l => exact absurd (hc (by simp)) (by decide)
    subst hnil
    repeat' first | ((first | refine callP_false (.bool false) ?_ | refine aw_region rfl ?_ | refine aw_region_draw mixedF rfl (by kernel_rfl) ?_ | refine aE rfl ?_); simp only [go_sem]) | refine callG_y ?_ | refine callG_p ?_ | refine aw_seq ?_ | refine aw_block ?_ | refine aw_scope ?_ | ((with_reducible refine And.intro ?_ ?_); focus (first | omega | (intros; simp_all; done) | (simp; omega)))
    refine aw_cond rfl (fun _ => ?_) (fun h => by cases h)
    refine aw_seq ?_
    refine aw_region rfl ?_
    simp only [go_sem]
    refine aw_void 2 1 rfl ?_
    repeat' first | ((first | refine callP_false (.bool false) ?_ | refine aw_region rfl ?_ | refine aw_region_draw mixedF rfl (by kernel_rfl) ?_ | refine aE rfl ?_); simp only [go_sem]) | refine callG_y ?_ | refine callG_p ?_ | refine aw_seq ?_ | refine aw_block ?_ | refine aw_scope ?_ | (refine aw_cond rfl (fun h => ?_) (fun h => ?_) <;> try (exfalso; first | (simp at h; done) | (simp at h; omega))) | ((with_reducible refine And.intro ?_ ?_); focus (first | omega | (intros; simp_all; done) | (simp; omega)))
    exact fin _ _ rfl rfl
  | false =>
    clear hc
    have hc1 : (∀ e ∈ l.map inA, e.cells.length = 1) = True := eq_true (cells_in l)
    have hl8 : (l.length * 8 ≤ 140737488355328) = True := eq_true (by omega)
    repeat' first | ((first | refine callP_false (.bool false) ?_ | refine aw_region rfl ?_ | refine aw_region_draw mixedF rfl (by kernel_rfl) ?_ | refine aE rfl ?_); simp only [go_sem, hc1, flat_in, hl8, Classical.em, true_or]) | refine callG_y ?_ | refine callG_p ?_ | refine aw_seq ?_ | refine aw_block ?_ | refine aw_scope ?_ | (refine aw_cond rfl (fun h => ?_) (fun h => ?_) <;> try (exfalso; first | (simp at h; done) | (simp at h; omega))) | ((with_reducible refine And.intro ?_ ?_); focus (first | omega | (intros; simp_all; done) | (simp; omega)))
    exact fin _ _ rfl rfl

theorem evs_cl (k : Nat) (b : Bool) (l : List Evt) : Cl k (.sl b (l.map evA)) := (Pur.sl b _ (pur_cloneEv_c l)).cl k
theorem strs_cl (k : Nat) (b : Bool) (l : List Txt) : Cl k (.sl b (l.map AV.str)) := (Pur.sl b _ (pur_cloneStr_c l)).cl k
theorem ints_cl (k : Nat) (b : Bool) (l : List Int) : Cl k (.sl b (l.map inA)) := (Pur.sl b _ (fun e he => by obtain ⟨x, _, rfl⟩ := List.mem_map.1 he; exact .int _ _)).cl k

theorem ints_all (k : Nat) (l : List Int) : ∀ x ∈ l.map inA, Cl k x := fun x hx => by obtain ⟨y, _, rfl⟩ := List.mem_map.1 hx; exact .int _ _

/-- What is small of a thread. -/
def ThS (t : Thr) : Prop := t.call.path.length ≤ 1048576 ∧ t.has.length ≤ 1048576 ∧ t.ans.names.length ≤ 1048576 ∧ t.ans.events.length ≤ 1048576

theorem own_c (f1 f2 f3 : Bool) (t : Thr) (hs : ThS t) (H : AHeap) :
    ACalls Tryz.prog 39 [thA f1 f2 f3 t] H (fun v H' => v = thF (.osl 1 (H.length + 2) 1 0 t.has.length t.has.length) (.sl false (t.ans.names.map AV.str)) (.sl false (t.ans.events.map evA)) t ∧ ∃ A B, H' = H ++ [A, B, .cells 1 (t.has.map inA)]) := by
  refine acalls_keep Tryz.func39 rfl (Nat.le_of_ble_eq_true rfl) ?_
  obtain ⟨h1, h2, h3, h4⟩ := hs
  have hn := cloneStr_c f2 t.ans.names (by omega)
  have he := cloneEv_c f3 t.ans.events (by omega)
  repeat' first | ((first | refine callP_false (.bool false) ?_ | refine aw_region rfl ?_ | refine aw_region_draw mixedF rfl (by kernel_rfl) ?_ | refine aE rfl ?_); simp only [go_sem, thA, thF]) | refine callG_y ?_ | refine callG_p ?_ | refine aw_seq ?_ | refine aw_block ?_ | refine aw_scope ?_ | (refine aw_cond rfl (fun h => ?_) (fun h => ?_) <;> try (exfalso; first | (simp at h; done) | (simp at h; omega))) | ((with_reducible refine And.intro ?_ ?_); focus (first | omega | (intros; simp_all; done) | (simp; omega)))
  refine callK_of (cloneL_c f1 t.has (by omega) _) callOk68F ?_
  rintro v H' ⟨rfl, rfl⟩
  simp only [go_sem]
  have ct0 := ct hn callOk29F; have ct1 := ct he callOk69F; repeat' first | ((first | refine cK (by assumption) ?_ | refine cP (by assumption) ?_ | refine cM (by assumption) ?_ | refine callP_false (.bool false) ?_ | refine aw_region rfl ?_ | refine aw_region_draw mixedF rfl (by kernel_rfl) ?_ | refine aE rfl ?_); simp only [go_sem]) | refine callG_y ?_ | refine callG_p ?_ | refine aw_seq ?_ | refine aw_block ?_ | refine aw_scope ?_ | (refine aw_cond rfl (fun h => ?_) (fun h => ?_) <;> try (exfalso; first | (simp at h; done) | (simp at h; omega))) | ((with_reducible refine And.intro ?_ ?_); focus (first | omega | (intros; simp_all; done) | (simp; omega)))
  refine ⟨_, [], _, (List.append_nil _).symm, by simp, keep_new ?_, .cl _ ?_, rfl, _, _, rfl⟩
  all_goals repeat' first | exact all_nil | refine all_cons ?_ ?_ | refine clb_cells ?_ | refine cl_agg ?_ | refine cl_tup ?_ | refine cl_func ?_ ?_ | refine cl_cptr ?_ | exact .int _ _ | exact .str _ | exact .bool _ | exact .nilptr | exact .nilIface | exact .osl _ _ _ _ _ _ (by simp only [List.length_append, List.length_cons, List.length_nil]; omega) | exact .ref _ _ _ (by simp only [List.length_append, List.length_cons, List.length_nil]; omega) | exact .map _ (by simp only [List.length_append, List.length_cons, List.length_nil]; omega) | exact strs_cl _ _ _ | exact evs_cl _ _ _ | exact ints_all _ _

/-- A thread with a list of its own becomes fixed. -/
theorem th_frz {n i v lc k : Nat} {H : AHeap} {cs rest : List AV} {t : Thr} (hn : n ≤ i) (hh : hget H i = .cells v cs) (hcs : cs = t.has.map inA ++ rest) (hk : k = t.has.length) :
    Frz n H (thF (.osl 1 i v 0 k lc) (.sl false (t.ans.names.map AV.str)) (.sl false (t.ans.events.map evA)) t) (thA false false false t) := by
  unfold thA thF
  refine .agg _ _ rfl ?_
  repeat' first | exact frz_nil | refine frz_cons ?_ ?_ | exact .cl _ (.int _ _) | exact .cl _ (.str _) | exact .cl _ (.bool _) | exact .cl _ (strs_cl _ _ _) | exact .cl _ (evs_cl _ _ _)
  exact frz_osl hn hh (by rw [flat_in]; exact hcs) (by rw [List.length_map, hk]) (cells_in _) (fun e he => by obtain ⟨x, _, rfl⟩ := List.mem_map.1 he; exact .int _ _)
theorem th_frzs {n : Nat} {H : AHeap} (f : Bool) (t : Thr) : Frz n H (thF (.sl f (t.has.map inA)) (.sl false (t.ans.names.map AV.str)) (.sl false (t.ans.events.map evA)) t) (thA false false false t) := by
  unfold thA thF
  refine .agg _ _ rfl ?_
  repeat' first | exact frz_nil | refine frz_cons ?_ ?_ | exact .cl _ (.int _ _) | exact .cl _ (.str _) | exact .cl _ (.bool _) | exact .cl _ (strs_cl _ _ _) | exact .cl _ (evs_cl _ _ _) | exact .slw _ _ (ints_cl _ _ _)
theorem th_done {i v lc k : Nat} {H L : AHeap} {cs rest : List AV} {x : AV} (t : Thr) (hn : H.length ≤ i) (hh : hget (H ++ L) i = .cells v cs) (hcs : cs = t.has.map inA ++ rest) (hk : k = t.has.length) (hx : thA false false false t = x) :
    ∃ L' y, H ++ L = H ++ L' ∧ Frz H.length (H ++ L) (thF (.osl 1 i v 0 k lc) (.sl false (t.ans.names.map AV.str)) (.sl false (t.ans.events.map evA)) t) y ∧ y = x :=
  ⟨L, _, rfl, th_frz hn hh hcs hk, hx⟩

theorem again_c (f1 f2 f3 : Bool) (t : Thr) (hs : ThS t) (H : AHeap) : FnC Tryz.prog 19 [thA f1 f2 f3 t] H (thA false false false (againT t)) := by
  refine fnC_of Tryz.func19 rfl (Nat.le_of_ble_eq_true rfl) ?_
  repeat' first | ((first | refine callP_false (.bool false) ?_ | refine aw_region rfl ?_ | refine aw_region_draw mixedF rfl (by kernel_rfl) ?_ | refine aE rfl ?_); simp only [go_sem, thA, thF]) | refine callG_y ?_ | refine callG_p ?_ | refine aw_seq ?_ | refine aw_block ?_ | refine aw_scope ?_ | (refine aw_cond rfl (fun h => ?_) (fun h => ?_) <;> try (exfalso; first | (simp at h; done) | (simp at h; omega))) | ((with_reducible refine And.intro ?_ ?_); focus (first | omega | (intros; simp_all; done) | (simp; omega)))
  refine callK_of (own_c f1 f2 f3 t hs _) callOk39F ?_
  rintro v H' ⟨rfl, A, B, rfl⟩
  simp only [go_sem, thF]
  repeat' first | ((first | refine callP_false (.bool false) ?_ | refine aw_region rfl ?_ | refine aw_region_draw mixedF rfl (by kernel_rfl) ?_ | refine aE rfl ?_); simp only [go_sem]) | refine callG_y ?_ | refine callG_p ?_ | refine aw_seq ?_ | refine aw_block ?_ | refine aw_scope ?_ | (refine aw_cond rfl (fun h => ?_) (fun h => ?_) <;> try (exfalso; first | (simp at h; done) | (simp at h; omega))) | ((with_reducible refine And.intro ?_ ?_); focus (first | omega | (intros; simp_all; done) | (simp; omega)))
  exact ⟨_, _, rfl, th_frzs true (againT t), rfl⟩

/-- Of a list that may be written to, the first one that is told of. -/
theorem idxL_c (l : List Int) (p : Int → Bool) (i v lc n : Nat) (hn : n = l.length) (hlc : n ≤ lc) (hl : n ≤ 1073741824) {fn : Fn} {fs cs : List AV} (H : AHeap) (hh : hget H i = .cells v (l.map inA))
    (hf : ∀ x, ACall Tryz.prog (.func fn fs cs) [.int .i64 x] H (fun r G' => r = .bool (p x) ∧ G' = H)) :
    FnC Tryz.prog 70 [.osl 1 i v 0 n lc, .func fn fs cs] H (.int .i64 (idxI p l)) := by
  refine fnC_of Tryz.func70 rfl (Nat.le_of_ble_eq_true rfl) ?_
  repeat' first | ((first | refine callP_false (.bool false) ?_ | refine aw_region rfl ?_ | refine aw_region_draw mixedF rfl (by kernel_rfl) ?_ | refine aE rfl ?_); simp only [go_sem, hh]) | refine callG_y ?_ | refine callG_p ?_ | refine aw_seq ?_ | refine aw_block ?_ | refine aw_scope ?_ | (refine aw_cond rfl (fun h => ?_) (fun h => ?_) <;> try (exfalso; first | (simp at h; done) | (simp at h; omega))) | ((with_reducible refine And.intro ?_ ?_); focus (first | omega | (intros; simp_all; done) | (simp; omega)))
  refine aw_loopS (ι := Nat) (fun k => [(0, .osl 1 i v 0 n lc), (1, .func fn fs cs), (7, .int .i64 n), (8, .int .i64 k)]) (fun _ => H) (fun k => k ≤ n ∧ ∀ q (hk : q < k) (hk2 : q < l.length), p l[q] = false) (fun k => n - k) 0 ⟨Nat.zero_le _, fun q hk => by omega⟩ ?_ rfl ?_
  · simp [go_sem]
  · rintro k ⟨hk, hno⟩
    by_cases hlt : k < l.length
    · have hp := getD_map inA hlt
      have hli : decide ((k : Int) < (n : Int)) = true := decide_eq_true (by omega)
      have hw := wrap_succ hlt (by omega)
      have hl8 : (List.map inA l).length = n := by rw [List.length_map, hn]
      repeat' first | ((first | refine callP_false (.bool false) ?_ | refine aw_region rfl ?_ | refine aw_region_draw mixedF rfl (by kernel_rfl) ?_ | refine aE rfl ?_); simp only [go_sem, hh, hli, hp, inA, List.length_map, Nat.mul_one, ← hn]) | refine callG_y ?_ | refine callG_p ?_ | refine aw_seq ?_ | refine aw_block ?_ | refine aw_scope ?_ | (refine aw_cond rfl (fun h => ?_) (fun h => ?_) <;> try (exfalso; first | (simp at h; done) | (simp at h; omega))) | ((with_reducible refine And.intro ?_ ?_); focus (first | omega | (intros; simp_all; done) | (simp; omega)))
      refine callK_a (hf l[k]) ?_
      simp only [go_sem]
      repeat' first | ((first | refine callP_false (.bool false) ?_ | refine aw_region rfl ?_ | refine aw_region_draw mixedF rfl (by kernel_rfl) ?_ | refine aE rfl ?_); simp only [go_sem]) | refine callG_y ?_ | refine callG_p ?_ | refine aw_seq ?_ | refine aw_block ?_ | refine aw_scope ?_ | (refine aw_cond rfl (fun h => ?_) (fun h => ?_) <;> try (exfalso; first | (simp at h; done) | (simp at h; omega))) | ((with_reducible refine And.intro ?_ ?_); focus (first | omega | (intros; simp_all; done) | (simp; omega)))
      · exact done0 (by simp only [go_sem]) (.of (by rw [idxI_at p l k hlt (fun q hq => hno q hq (by omega)) (by assumption)]))
      · refine ⟨k + 1, ⟨by omega, fun q hq hq2 => ?_⟩, by omega, congrArg _ hw⟩
        by_cases e : q = k
        · subst e; assumption
        · exact hno q (by omega) (by omega)
    · have hi' : k = n := by omega
      subst hi'
      have hli : decide ((k : Int) < (k : Int)) = false := by simp
      repeat' first | ((first | refine callP_false (.bool false) ?_ | refine aw_region rfl ?_ | refine aw_region_draw mixedF rfl (by kernel_rfl) ?_ | refine aE rfl ?_); simp only [go_sem, hh, hli]) | refine callG_y ?_ | refine callG_p ?_ | refine aw_seq ?_ | refine aw_block ?_ | refine aw_scope ?_ | (refine aw_cond rfl (fun h => ?_) (fun h => ?_) <;> try (exfalso; first | (simp at h; done) | (simp at h; omega))) | ((with_reducible refine And.intro ?_ ?_); focus (first | omega | (intros; simp_all; done) | (simp; omega)))
      exact done0 (by simp only [go_sem]) (.of (by rw [idxI_no p l fun q hk => hno q (by omega) hk]))

theorem filt_none {l : List Int} {p : Int → Bool} (h : idxI p l = -1) : l.filter (fun x => !p x) = l := by
  induction l with
  | nil => rfl
  | cons x l ih =>
    unfold idxI at h
    by_cases hp : p x = true
    · rw [if_pos hp] at h; cases h
    · rw [if_neg hp] at h
      split at h
      · rename_i h1; rw [List.filter_cons, if_pos (by simp [hp]), ih h1]
      · have := idxI_ge p l; omega
theorem filt_some {l : List Int} {p : Int → Bool} (h : idxI p l ≠ -1) : ∃ A x B, l = A ++ x :: B ∧ idxI p l = A.length ∧ p x = true ∧ A.filter (fun x => !p x) = A := by
  induction l with
  | nil => exact absurd rfl h
  | cons x l ih =>
    by_cases hp : p x = true
    · exact ⟨[], x, l, rfl, by simp [idxI, hp], hp, rfl⟩
    · unfold idxI at h ⊢
      rw [if_neg hp] at h ⊢
      by_cases h1 : idxI p l = -1
      · rw [if_pos h1] at h; exact absurd rfl h
      · rw [if_neg h1]
        obtain ⟨A, y, B, e1, e2, e3, e4⟩ := ih h1
        exact ⟨x :: A, y, B, by rw [e1]; rfl, by rw [e2]; simp, e3, by rw [List.filter_cons, if_pos (by simp [hp]), e4]⟩

/-- Elements are deleted. -/
theorem del_c (l : List Int) (p : Int → Bool) (i v lc n : Nat) (hn : n = l.length) (hlc : n ≤ lc) (hl : n ≤ 1073741824) {fn : Fn} {fs cs : List AV} (Gd : AHeap → Prop) (hGd : ∀ G b, Gd G → Gd (hset G i b)) (H : AHeap) (hh : hget H i = .cells v (l.map inA))
    (hf : ∀ x G, Gd G → ACall Tryz.prog (.func fn fs cs) [.int .i64 x] G (fun r G' => r = .bool (p x) ∧ G' = G)) (hg : Gd H) :
    ACalls Tryz.prog 41 [.osl 1 i v 0 n lc, .func fn fs cs] H (fun r H' => ∃ rest, r = .osl 1 i v 0 (l.filter (fun x => !p x)).length lc ∧ H' = hset H i (.cells v ((l.filter (fun x => !p x)).map inA ++ rest))) := by
  refine acalls_of_aw Tryz.func41 rfl (Nat.le_of_ble_eq_true rfl) ?_
  have hidx := idxL_c l p i v lc n hn hlc hl H hh (fun x => hf x H hg)
  have hilt := hget_lt hh trivial
  have s1 := fun b => hget_eq hilt b
  have s2 := hset_twice H i
  by_cases h1 : idxI p l = -1
  · rw [h1] at hidx
    repeat' first | ((first | refine callK_fn (hidx) callOk70F ?_ | refine callP_fn (hidx) callOk70F ?_ | refine callM_fn (fun _ => hidx) callOk70F ?_ | refine callP_false (.bool false) ?_ | refine aw_region rfl ?_ | refine aw_region_draw mixedF rfl (by kernel_rfl) ?_ | refine aE rfl ?_); simp only [go_sem, hh, Int.reduceEq]) | refine callG_y ?_ | refine callG_p ?_ | refine aw_seq ?_ | refine aw_block ?_ | refine aw_scope ?_ | (refine aw_cond rfl (fun h => ?_) (fun h => ?_) <;> try (exfalso; first | (simp at h; done) | (simp at h; omega))) | ((with_reducible refine And.intro ?_ ?_); focus (first | omega | (intros; simp_all; done) | (simp; omega)))
    rw [filt_none h1, hn]
    exact ⟨[], rfl, by rw [List.append_nil]; exact (hset_own hh trivial).symm⟩
  · obtain ⟨A, x, B, rfl, e2, e3, e4⟩ := filt_some h1
    rw [e2] at hidx
    have hA : n = A.length + (B.length + 1) := by simp [hn]
    have hd : decide (((A.length : Nat) : Int) = -1) = false := decide_eq_false (by omega)
    have hw : IntKind.i64.wrap ((A.length : Int) + 1) = ((A.length + 1 : Nat) : Int) := by rw [wrap_i64 (by omega) (by omega)]; rfl
    repeat' first | ((first | refine callK_fn (hidx) callOk70F ?_ | refine callP_fn (hidx) callOk70F ?_ | refine callM_fn (fun _ => hidx) callOk70F ?_ | refine callP_false (.bool false) ?_ | refine aw_region rfl ?_ | refine aw_region_draw mixedF rfl (by kernel_rfl) ?_ | refine aE rfl ?_); simp only [go_sem, hh, hd, hw]) | refine callG_y ?_ | refine callG_p ?_ | refine aw_seq ?_ | refine aw_block ?_ | refine aw_scope ?_ | (refine aw_cond rfl (fun h => ?_) (fun h => ?_) <;> try (exfalso; first | (simp at h; done) | (simp at h; omega))) | ((with_reducible refine And.intro ?_ ?_); focus (first | omega | (intros; simp_all; done) | (simp; omega)))
    generalize hL : A ++ x :: B = L at *
    refine aw_loopS (ι := Nat × Nat × List Int) (fun s => [(0, .osl 1 i v 0 n lc), (1, .func fn fs cs), (5, .int .i64 s.1), (6, .int .i64 s.2.1)])
      (fun s => hset H i (.cells v (s.2.2.map inA))) (fun s => s.1 < s.2.1 ∧ s.2.1 ≤ n ∧ s.2.2.length = n ∧ s.2.2.take s.1 = (L.take s.2.1).filter (fun x => !p x) ∧ s.2.2.drop s.2.1 = L.drop s.2.1) (fun s => n - s.2.1) (A.length, A.length + 1, L)
      ⟨by simp, by simp only; omega, hn.symm, ?_, rfl⟩ ?_ (hset_own hh trivial).symm ?_
    · simp only; rw [← hL, List.take_left, show A ++ x :: B = (A ++ [x]) ++ B by simp, show A.length + 1 = (A ++ [x]).length by simp, List.take_left, List.filter_append, e4]; simp [e3]
    · simp [go_sem]
    · rintro ⟨k, j, E⟩ ⟨w1, w2, w3, w4, w5⟩
      simp only at w1 w2 w3 w4 w5 ⊢
      have hE : (E.map inA).length = n := by rw [List.length_map, w3]
      by_cases hj : j < n
      · have hli : decide ((j : Int) < (n : Int)) = true := decide_eq_true (by omega)
        have hjL : j < L.length := by omega
        have hEj : E[j]'(by omega) = L[j] := by
          have a := List.drop_eq_getElem_cons (l := E) (i := j) (by omega)
          have b := List.drop_eq_getElem_cons hjL
          rw [w5, b] at a
          exact (List.cons.inj a).1.symm
        have hgy : (E.map inA).getD j .top = .int .i64 L[j] := by rw [getD_map inA (by omega), hEj]; rfl
        have hw1 : IntKind.i64.wrap ((j : Int) + 1) = ((j + 1 : Nat) : Int) := by rw [wrap_i64 (by omega) (by omega)]; rfl
        have hw2 : IntKind.i64.wrap ((k : Int) + 1) = ((k + 1 : Nat) : Int) := by rw [wrap_i64 (by omega) (by omega)]; rfl
        have hset1 : splice (E.map inA) k [.int .i64 L[j]] = (E.set k L[j]).map inA := by
          have hkE : k < E.length := by omega
          have e := splice_app (A := (E.take k).map inA) (B := (E.drop k).map inA) (off := k) (X := [AV.int .i64 L[j]]) (by simp; omega)
          rw [← List.map_append, List.take_append_drop] at e
          rw [e, List.set_eq_take_append_cons_drop, if_pos hkE, List.map_append, List.map_cons, ← List.map_drop, List.drop_drop]
          rfl
        have etk : L.take (j + 1) = L.take j ++ [L[j]] := List.take_succ_eq_append_getElem hjL
        have hb1 : (j * 1 < n) = True := eq_true (by omega)
        repeat' first | ((first | refine callP_false (.bool false) ?_ | refine aw_region rfl ?_ | refine aw_region_draw mixedF rfl (by kernel_rfl) ?_ | refine aE rfl ?_); simp only [go_sem, s1, s2, hli, hE, hgy, Nat.mul_one]) | refine callG_y ?_ | refine callG_p ?_ | refine aw_seq ?_ | refine aw_block ?_ | refine aw_scope ?_ | (refine aw_cond rfl (fun h => ?_) (fun h => ?_) <;> try (exfalso; first | (simp at h; done) | (simp at h; omega))) | ((with_reducible refine And.intro ?_ ?_); focus (first | omega | (intros; simp_all; done) | (simp; omega)))
        refine callK_a (hf L[j] _ (hGd _ _ hg)) ?_
        cases hpj : p L[j] with
        | true =>
          simp only [go_sem]
          repeat' first | ((first | refine callP_false (.bool false) ?_ | refine aw_region rfl ?_ | refine aw_region_draw mixedF rfl (by kernel_rfl) ?_ | refine aE rfl ?_); simp only [go_sem]) | refine callG_y ?_ | refine callG_p ?_ | refine aw_seq ?_ | refine aw_block ?_ | refine aw_scope ?_ | (refine aw_cond rfl (fun h => ?_) (fun h => ?_) <;> try (exfalso; first | (simp at h; done) | (simp at h; omega))) | ((with_reducible refine And.intro ?_ ?_); focus (first | omega | (intros; simp_all; done) | (simp; omega)))
          refine ⟨(k, j + 1, E), ⟨by simp only; omega, by simp only; omega, w3, ?_, ?_⟩, by simp only; omega, ⟨rfl, congrArg _ hw1⟩, rfl⟩
          · simp only; rw [etk, List.filter_append, ← w4, List.filter_cons, if_neg (by simp [hpj])]; simp
          · simp only
            have a := List.drop_eq_getElem_cons (l := E) (i := j) (by omega)
            have b := List.drop_eq_getElem_cons hjL
            rw [w5, b] at a
            exact (List.cons.inj a).2.symm
        | false =>
          simp only [go_sem]
          repeat' first | ((first | refine callP_false (.bool false) ?_ | refine aw_region rfl ?_ | refine aw_region_draw mixedF rfl (by kernel_rfl) ?_ | refine aE rfl ?_); simp only [go_sem, s1, s2, hE, hset1, Nat.mul_one]) | refine callG_y ?_ | refine callG_p ?_ | refine aw_seq ?_ | refine aw_block ?_ | refine aw_scope ?_ | (refine aw_cond rfl (fun h => ?_) (fun h => ?_) <;> try (exfalso; first | (simp at h; done) | (simp at h; omega))) | ((with_reducible refine And.intro ?_ ?_); focus (first | omega | (intros; simp_all; done) | (simp; omega)))
          refine ⟨(k + 1, j + 1, E.set k L[j]), ⟨by simp only; omega, by simp only; omega, by simp only [List.length_set]; exact w3, ?_, ?_⟩, by simp only; omega, ⟨congrArg _ hw2, congrArg _ hw1⟩, rfl⟩
          · simp only
            rw [etk, List.filter_append, ← w4, List.filter_cons, if_pos (by simp [hpj]), List.take_succ_eq_append_getElem (by simp; omega), List.getElem_set_self, List.take_set_of_le (Nat.le_refl _)]
            rfl
          · simp only
            rw [List.drop_set_of_lt (by omega)]
            have a := List.drop_eq_getElem_cons (l := E) (i := j) (by omega)
            have b := List.drop_eq_getElem_cons hjL
            rw [w5, b] at a
            exact (List.cons.inj a).2.symm
      · have hje : j = n := by omega
        subst hje
        have hli : decide ((j : Int) < (j : Int)) = false := by simp
        repeat' first | ((first | refine callP_false (.bool false) ?_ | refine aw_region rfl ?_ | refine aw_region_draw mixedF rfl (by kernel_rfl) ?_ | refine aE rfl ?_); simp only [go_sem, s1, s2, hli, hE, Nat.mul_one]) | refine callG_y ?_ | refine callG_p ?_ | refine aw_seq ?_ | refine aw_block ?_ | refine aw_scope ?_ | (refine aw_cond rfl (fun h => ?_) (fun h => ?_) <;> try (exfalso; first | (simp at h; done) | (simp at h; omega))) | ((with_reducible refine And.intro ?_ ?_); focus (first | omega | (intros; simp_all; done) | (simp; omega)))
        rw [hn, List.take_length] at w4
        have hk : k = (L.filter (fun x => !p x)).length := by rw [← w4, List.length_take]; omega
        have hsp := splice_app (A := (L.filter (fun x => !p x)).map inA) (B := (E.drop k).map inA) (off := k) (X := List.flatMap AV.cells (List.replicate (j - k) (AV.int IntKind.i64 0))) (by rw [List.length_map, hk])
        rw [← List.map_append, ← w4, List.take_append_drop] at hsp
        exact ⟨_, by rw [← hk], by rw [hsp, w4]⟩

theorem after1_c (kind lock : Int) (i : Nat) (G : AHeap) (hh : hget G i = .cells 0 [.int .i64 kind, .int .i64 lock]) (x : Int) : FnC Tryz.prog 42 [.int .i64 x, .ref i 0 0] G (.bool (decide (x = lock))) := by
  refine fnC_of Tryz.func42 rfl (Nat.le_of_ble_eq_true rfl) ?_
  repeat' first | ((first | refine callP_false (.bool false) ?_ | refine aw_region rfl ?_ | refine aw_region_draw mixedF rfl (by kernel_rfl) ?_ | refine aE rfl ?_); simp only [go_sem, hh]) | refine callG_y ?_ | refine callG_p ?_ | refine aw_seq ?_ | refine aw_block ?_ | refine aw_scope ?_ | (refine aw_cond rfl (fun h => ?_) (fun h => ?_) <;> try (exfalso; first | (simp at h; done) | (simp at h; omega))) | ((with_reducible refine And.intro ?_ ?_); focus (first | omega | (intros; simp_all; done) | (simp; omega)))
  exact done0 (by simp only [go_sem]) (.refl _)

theorem after_c (f1 f2 f3 : Bool) (t : Thr) (u : Trn) (hs : ThS t) (H : AHeap) : FnC Tryz.prog 17 [thA f1 f2 f3 t, trA u] H (thA false false false (afterT t u)) := by
  obtain ⟨X, hX⟩ : ∃ X, X = thA false false false (afterT t u) := ⟨_, rfl⟩
  rw [← hX]
  refine fnC_of Tryz.func17 rfl (Nat.le_of_ble_eq_true rfl) ?_
  have hwk := walks_c t.call hs.1
  have hlen := hs.2.1
  simp only [caA] at hwk
  repeat' first | ((first | refine callP_false (.bool false) ?_ | refine aw_region rfl ?_ | refine aw_region_draw mixedF rfl (by kernel_rfl) ?_ | refine aE rfl ?_); simp only [go_sem, thA, thF, trA]) | refine callG_y ?_ | refine callG_p ?_ | refine aw_seq ?_ | refine aw_block ?_ | refine aw_scope ?_ | (refine aw_cond rfl (fun h => ?_) (fun h => ?_) <;> try (exfalso; first | (simp at h; done) | (simp at h; omega))) | ((with_reducible refine And.intro ?_ ?_); focus (first | omega | (intros; simp_all; done) | (simp; omega)))
  refine callK_of (own_c f1 f2 f3 t hs _) callOk39F ?_
  rintro v H' ⟨rfl, A, B, rfl⟩
  obtain ⟨uk, ul⟩ := u
  simp only [go_sem, thF]
  rcases (show uk = 1 ∨ uk = 2 ∨ uk = 3 ∨ uk = 5 ∨ ((uk = 1) = False ∧ (uk = 2) = False ∧ (uk = 3) = False ∧ (uk = 5) = False) by simp only [eq_iff_iff, iff_false]; omega) with rfl | rfl | rfl | rfl | ⟨e1, e2, e3, e5⟩
  · have hq1 : (∀ e, e = AV.int .i64 ul → e.cells.length = 1) = True := eq_true (fun e he => by rw [he]; rfl)
    have hq2 : ((t.has.length + 1) * 8 ≤ 140737488355328) = True := eq_true (by omega)
    by_cases h1 : t.has.length = 1
    · have hd : decide ((t.has.length : Int) = 1) = true := decide_eq_true (by omega)
      cases hk : walksK t.call with
      | true =>
        rw [hk] at hwk
        have ct0 := ct hwk callOk40F; repeat' first | ((first | refine cK (by assumption) ?_ | refine cP (by assumption) ?_ | refine cM (by assumption) ?_ | refine callP_false (.bool false) ?_ | refine aw_region rfl ?_ | refine aw_region_draw mixedF rfl (by kernel_rfl) ?_ | refine aE rfl ?_); simp only [go_sem, Int.reduceEq, hd, hq1, hq2, Nat.mul_one]) | refine callG_y ?_ | refine callG_p ?_ | refine aw_seq ?_ | refine aw_block ?_ | refine aw_scope ?_ | (refine aw_cond rfl (fun h => ?_) (fun h => ?_) <;> try (exfalso; first | (simp at h; done) | (simp at h; omega))) | ((with_reducible refine And.intro ?_ ?_); focus (first | omega | (intros; simp_all; done) | (simp; omega)))
        exact th_done { t with at_ := IntKind.i64.wrap (t.at_ + 1), has := t.has ++ [ul] } (v := 2) (cs := t.has.map inA ++ [.int .i64 ul]) (by omega) (by simp only [go_sem]) (rest := []) (by simp [inA]) (by simp) (by rw [hX]; simp [afterT, h1, hk])
      | false =>
        rw [hk] at hwk
        have ct0 := ct hwk callOk40F; repeat' first | ((first | refine cK (by assumption) ?_ | refine cP (by assumption) ?_ | refine cM (by assumption) ?_ | refine callP_false (.bool false) ?_ | refine aw_region rfl ?_ | refine aw_region_draw mixedF rfl (by kernel_rfl) ?_ | refine aE rfl ?_); simp only [go_sem, Int.reduceEq, hd, hq1, hq2, Nat.mul_one]) | refine callG_y ?_ | refine callG_p ?_ | refine aw_seq ?_ | refine aw_block ?_ | refine aw_scope ?_ | (refine aw_cond rfl (fun h => ?_) (fun h => ?_) <;> try (exfalso; first | (simp at h; done) | (simp at h; omega))) | ((with_reducible refine And.intro ?_ ?_); focus (first | omega | (intros; simp_all; done) | (simp; omega)))
        exact th_done { t with has := t.has ++ [ul] } (v := 2) (cs := t.has.map inA ++ [.int .i64 ul]) (by omega) (by simp only [go_sem]) (rest := []) (by simp [inA]) (by simp) (by rw [hX]; simp [afterT, h1, hk])
    · have hd : decide ((t.has.length : Int) = 1) = false := decide_eq_false (by omega)
      repeat' first | ((first | refine callP_false (.bool false) ?_ | refine aw_region rfl ?_ | refine aw_region_draw mixedF rfl (by kernel_rfl) ?_ | refine aE rfl ?_); simp only [go_sem, Int.reduceEq, hd, hq1, hq2, Nat.mul_one]) | refine callG_y ?_ | refine callG_p ?_ | refine aw_seq ?_ | refine aw_block ?_ | refine aw_scope ?_ | (refine aw_cond rfl (fun h => ?_) (fun h => ?_) <;> try (exfalso; first | (simp at h; done) | (simp at h; omega))) | ((with_reducible refine And.intro ?_ ?_); focus (first | omega | (intros; simp_all; done) | (simp; omega)))
      exact th_done { t with has := t.has ++ [ul] } (v := 2) (cs := t.has.map inA ++ [.int .i64 ul]) (by omega) (by simp only [go_sem]) (rest := []) (by simp [inA]) (by simp) (by rw [hX]; simp [afterT, h1])
  · repeat' first | ((first | refine callP_false (.bool false) ?_ | refine aw_region rfl ?_ | refine aw_region_draw mixedF rfl (by kernel_rfl) ?_ | refine aE rfl ?_); simp only [go_sem, Int.reduceEq]) | refine callG_y ?_ | refine callG_p ?_ | refine aw_seq ?_ | refine aw_block ?_ | refine aw_scope ?_ | (refine aw_cond rfl (fun h => ?_) (fun h => ?_) <;> try (exfalso; first | (simp at h; done) | (simp at h; omega))) | ((with_reducible refine And.intro ?_ ?_); focus (first | omega | (intros; simp_all; done) | (simp; omega)))
    refine callK_of (del_c t.has (fun x => decide (x = ul)) (H.length + 5) 1 t.has.length t.has.length rfl (Nat.le_refl _) (by omega) (fun G => hget G (H.length + 1) = .cells 0 [.int .i64 2, .int .i64 ul]) (fun G b hg => hget_ne hg (by omega) b) _ (by simp only [go_sem])
      (fun x G hg => Or.inl ⟨callOk42F, after1_c 2 ul _ G hg x⟩) (by simp only [go_sem])) callOk41F ?_
    rintro v H' ⟨rest, rfl, rfl⟩
    simp only [go_sem]
    obtain ⟨F, hF⟩ : ∃ F, t.has.filter (fun x => !decide (x = ul)) = F := ⟨_, rfl⟩
    rw [hF]
    have hcs : (List.map inA F ++ rest) = F.map inA ++ rest := rfl
    by_cases h1 : F = []
    · have hd : decide ((F.length : Int) = 0) = true := by rw [h1]; rfl
      cases hdn : t.done with
      | true =>
        repeat' first | ((first | refine callP_false (.bool false) ?_ | refine aw_region rfl ?_ | refine aw_region_draw mixedF rfl (by kernel_rfl) ?_ | refine aE rfl ?_); simp only [go_sem, Int.reduceEq, hd]) | refine callG_y ?_ | refine callG_p ?_ | refine aw_seq ?_ | refine aw_block ?_ | refine aw_scope ?_ | (refine aw_cond rfl (fun h => ?_) (fun h => ?_) <;> try (exfalso; first | (simp at h; done) | (simp at h; omega))) | ((with_reducible refine And.intro ?_ ?_); focus (first | omega | (intros; simp_all; done) | (simp; omega)))
        exact th_done { t with has := F, done := true } (by omega) (by simp only [go_sem]) hcs rfl (by rw [hX]; simp [afterT, hF, hdn])
      | false =>
        cases hk : walksK t.call with
        | true =>
          rw [hk] at hwk
          have ct0 := ct hwk callOk40F; repeat' first | ((first | refine cK (by assumption) ?_ | refine cP (by assumption) ?_ | refine cM (by assumption) ?_ | refine callP_false (.bool false) ?_ | refine aw_region rfl ?_ | refine aw_region_draw mixedF rfl (by kernel_rfl) ?_ | refine aE rfl ?_); simp only [go_sem, Int.reduceEq, hd]) | refine callG_y ?_ | refine callG_p ?_ | refine aw_seq ?_ | refine aw_block ?_ | refine aw_scope ?_ | (refine aw_cond rfl (fun h => ?_) (fun h => ?_) <;> try (exfalso; first | (simp at h; done) | (simp at h; omega))) | ((with_reducible refine And.intro ?_ ?_); focus (first | omega | (intros; simp_all; done) | (simp; omega)))
          exact th_done { t with has := F, at_ := 0, done := false } (by omega) (by simp only [go_sem]) hcs rfl (by rw [hX]; simp [afterT, hF, h1, hk, hdn])
        | false =>
          rw [hk] at hwk
          have ct0 := ct hwk callOk40F; repeat' first | ((first | refine cK (by assumption) ?_ | refine cP (by assumption) ?_ | refine cM (by assumption) ?_ | refine callP_false (.bool false) ?_ | refine aw_region rfl ?_ | refine aw_region_draw mixedF rfl (by kernel_rfl) ?_ | refine aE rfl ?_); simp only [go_sem, Int.reduceEq, hd]) | refine callG_y ?_ | refine callG_p ?_ | refine aw_seq ?_ | refine aw_block ?_ | refine aw_scope ?_ | (refine aw_cond rfl (fun h => ?_) (fun h => ?_) <;> try (exfalso; first | (simp at h; done) | (simp at h; omega))) | ((with_reducible refine And.intro ?_ ?_); focus (first | omega | (intros; simp_all; done) | (simp; omega)))
          exact th_done { t with has := F, done := false } (by omega) (by simp only [go_sem]) hcs rfl (by rw [hX]; simp [afterT, hF, hk, hdn])
    · have hd : decide ((F.length : Int) = 0) = false := decide_eq_false (fun h => h1 (List.eq_nil_of_length_eq_zero (by omega)))
      repeat' first | ((first | refine callP_false (.bool false) ?_ | refine aw_region rfl ?_ | refine aw_region_draw mixedF rfl (by kernel_rfl) ?_ | refine aE rfl ?_); simp only [go_sem, Int.reduceEq, hd]) | refine callG_y ?_ | refine callG_p ?_ | refine aw_seq ?_ | refine aw_block ?_ | refine aw_scope ?_ | (refine aw_cond rfl (fun h => ?_) (fun h => ?_) <;> try (exfalso; first | (simp at h; done) | (simp at h; omega))) | ((with_reducible refine And.intro ?_ ?_); focus (first | omega | (intros; simp_all; done) | (simp; omega)))
      exact th_done { t with has := F } (by omega) (by simp only [go_sem]) hcs rfl (by rw [hX]; simp [afterT, hF, h1])
  · repeat' first | ((first | refine callP_false (.bool false) ?_ | refine aw_region rfl ?_ | refine aw_region_draw mixedF rfl (by kernel_rfl) ?_ | refine aE rfl ?_); simp only [go_sem, Int.reduceEq]) | refine callG_y ?_ | refine callG_p ?_ | refine aw_seq ?_ | refine aw_block ?_ | refine aw_scope ?_ | (refine aw_cond rfl (fun h => ?_) (fun h => ?_) <;> try (exfalso; first | (simp at h; done) | (simp at h; omega))) | ((with_reducible refine And.intro ?_ ?_); focus (first | omega | (intros; simp_all; done) | (simp; omega)))
    exact th_done { t with done := true } (by omega) (by simp only [go_sem]) (List.append_nil _).symm rfl (by rw [hX]; rfl)
  · repeat' first | ((first | refine callP_false (.bool false) ?_ | refine aw_region rfl ?_ | refine aw_region_draw mixedF rfl (by kernel_rfl) ?_ | refine aE rfl ?_); simp only [go_sem, Int.reduceEq]) | refine callG_y ?_ | refine callG_p ?_ | refine aw_seq ?_ | refine aw_block ?_ | refine aw_scope ?_ | (refine aw_cond rfl (fun h => ?_) (fun h => ?_) <;> try (exfalso; first | (simp at h; done) | (simp at h; omega))) | ((with_reducible refine And.intro ?_ ?_); focus (first | omega | (intros; simp_all; done) | (simp; omega)))
    exact th_done { t with ended := true } (by omega) (by simp only [go_sem]) (List.append_nil _).symm rfl (by rw [hX]; rfl)
  · repeat' first | ((first | refine callP_false (.bool false) ?_ | refine aw_region rfl ?_ | refine aw_region_draw mixedF rfl (by kernel_rfl) ?_ | refine aE rfl ?_); simp only [go_sem, Int.reduceEq, e1, e2, e3, e5]) | refine callG_y ?_ | refine callG_p ?_ | refine aw_seq ?_ | refine aw_block ?_ | refine aw_scope ?_ | (refine aw_cond rfl (fun h => ?_) (fun h => ?_) <;> try (exfalso; first | (simp at h; done) | (simp at h; omega))) | ((with_reducible refine And.intro ?_ ?_); focus (first | omega | (intros; simp_all; done) | (simp; omega)))
    exact th_done t (by omega) (by simp only [go_sem]) (List.append_nil _).symm rfl (by rw [hX]; simp [afterT, e1, e2, e3, e5])
end Go.Proofs.YtmknmapgfjmioaaGreatDoor
/- plan.locks and Next: what they answer. No condition but the length of what comes in. -/
namespace Go.Proofs.YtmknmapgfjmioaaGreatDoor
open Go Go.Aw Go.Gw
set_option linter.unusedSimpArgs false
set_option maxRecDepth 20000
set_option maxHeartbeats 4000000

/-- slices.Grow of nothing. -/
theorem grow_c (n : Nat) (h0 : 0 < n) (hn : n ≤ 1048576) (H : AHeap) : ACalls Tryz.prog 87 [.sl true [], .int .i64 n] H (fun v H' => v = .osl 1 H.length 1 0 0 n ∧ ∃ cs, cs.length = n ∧ H' = H ++ [.cells 1 cs]) := by
  refine acalls_of_aw Tryz.func87 rfl (Nat.le_of_ble_eq_true rfl) ?_
  have h1 : decide ((n : Int) < 0) = false := decide_eq_false (by omega)
  have h2 : decide ((0 : Int) < (n : Int)) = true := decide_eq_true (by omega)
  have h3 : IntKind.i64.wrap ((n : Int) - IntKind.i64.wrap 0) = n := by rw [show IntKind.i64.wrap 0 = 0 from rfl, wrap_i64 (by omega) (by omega)]; omega
  have h4 : (n * 8 ≤ 140737488355328) = True := eq_true (by omega)
  have h5 : ((0 : Int) < (n : Int)) = True := eq_true (by omega)
  have h6 : IntKind.i64.wrap ((n : Int) - IntKind.i64.wrap (0 - 0)) = n := h3
  repeat' first | ((first | refine callP_false (.bool false) ?_ | refine aw_region rfl ?_ | refine aw_region_draw mixedF rfl (by kernel_rfl) ?_ | refine aE rfl ?_); simp only [go_sem, h1, h2, h3, h4, h5, h6, Int.toNat_natCast, List.length_nil, Int.natCast_zero, Bool.true_and, Int.toNat_zero, List.take_nil]) | refine callG_y ?_ | refine callG_p ?_ | refine aw_seq ?_ | refine aw_block ?_ | refine aw_scope ?_ | (refine aw_cond rfl (fun h => ?_) (fun h => ?_) <;> try (exfalso; first | (simp at h; done) | (simp at h; omega))) | ((with_reducible refine And.intro ?_ ?_); focus (first | omega | (intros; simp_all; done) | (simp; omega)))
  exact ⟨_, by simp [AV.cells], rfl⟩

theorem int_frz {H : AHeap} (v n : Nat) (l : List Int) {B : ABlk} (hB : B = .cells v (l.map inA)) : Frz H.length (H ++ [B]) (.osl 1 H.length v 0 l.length n) (.sl false (l.map inA)) := by
  subst hB
  refine frz_osl (v := v) (cs := l.map inA) (rest := []) (Nat.le_refl _) (by simp only [go_sem]) (by rw [flat_in, List.append_nil]) (by rw [List.length_map]) (cells_in _) (fun e he => by obtain ⟨x, _, rfl⟩ := List.mem_map.1 he; exact .int _ _)
theorem one_in (l : List Int) : (List.flatMap AV.cells (l.map inA)).all AV.one = true := by
  rw [flat_in]
  induction l with
  | nil => rfl
  | cons x l ih => rw [List.map_cons, List.all_cons, ih]; rfl
theorem splice_at {A B X C : List AV} (h : X.length = C.length) : splice (A ++ (C ++ B)) A.length X = A ++ (X ++ B) := by
  rw [splice_app rfl, h, List.drop_left]

theorem concat_c (f f1 f2 : Bool) (l1 l2 : List Int) (h1 : 0 < l1.length) (h2 : l1.length ≤ 100000) (h3 : l2.length ≤ 100000) (H : AHeap) :
    FnC Tryz.prog 62 [.sl f [.sl f1 (l1.map inA), .sl f2 (l2.map inA)]] H (.sl false ((l1 ++ l2).map inA)) := by
  refine fnC_of Tryz.func62 rfl (Nat.le_of_ble_eq_true rfl) ?_
  obtain ⟨n, hn⟩ : ∃ n, l1.length + l2.length = n := ⟨_, rfl⟩
  have hw1 : IntKind.i64.wrap (0 + (l1.length : Int)) = (l1.length : Int) := by rw [wrap_i64 (by omega) (by omega)]; omega
  have hw2 : IntKind.i64.wrap ((l1.length : Int) + (l2.length : Int)) = (n : Int) := by rw [wrap_i64 (by omega) (by omega)]; omega
  have hd1 : decide ((l1.length : Int) < 0) = false := decide_eq_false (by omega)
  have hd2 : decide ((n : Int) < 0) = false := decide_eq_false (by omega)
  have hi1 : IntKind.i64.wrap (0 + 1) = 1 := rfl
  have hi2 : IntKind.i64.wrap (1 + 1) = 2 := rfl
  repeat' first | ((first | refine callP_false (.bool false) ?_ | refine aw_region rfl ?_ | refine aw_region_draw mixedF rfl (by kernel_rfl) ?_ | refine aE rfl ?_); simp only [go_sem]) | refine callG_y ?_ | refine callG_p ?_ | refine aw_seq ?_ | refine aw_block ?_ | refine aw_scope ?_ | (refine aw_cond rfl (fun h => ?_) (fun h => ?_) <;> try (exfalso; first | (simp at h; done) | (simp at h; omega))) | ((with_reducible refine And.intro ?_ ?_); focus (first | omega | (intros; simp_all; done) | (simp; omega)))
  refine aw_rounds 3 ?_
  unfold aRounds
  repeat' first | ((first | refine callP_false (.bool false) ?_ | refine aw_region rfl ?_ | refine aw_region_draw mixedF rfl (by kernel_rfl) ?_ | refine aE rfl ?_); simp only [go_sem, hw1, hd1, hi1, hw2, hd2, hi2, Int.reduceLT]) | refine callG_y ?_ | refine callG_p ?_ | refine aw_seq ?_ | refine aw_block ?_ | refine aw_scope ?_ | (refine aw_cond rfl (fun h => ?_) (fun h => ?_) <;> try (exfalso; first | (simp at h; done) | (simp at h; omega))) | ((with_reducible refine And.intro ?_ ?_); focus (first | omega | (intros; simp_all; done) | (simp; omega)))
  refine callK_of (grow_c n (by omega) (by omega) H) callOk87F (fun v H' hv => ?_)
  obtain ⟨rfl, cs, hc, rfl⟩ := hv
  obtain ⟨c1, c2, rfl, hc1, hc2⟩ : ∃ c1 c2, cs = c1 ++ c2 ∧ c1.length = l1.length ∧ c2.length = l2.length := ⟨cs.take l1.length, cs.drop l1.length, by simp, by simp; omega, by simp; omega⟩
  have e0 : ((0 : Nat) = n) = False := eq_false (by omega)
  simp only [go_sem]
  repeat' first | ((first | refine callP_false (.bool false) ?_ | refine aw_region rfl ?_ | refine aw_region_draw mixedF rfl (by kernel_rfl) ?_ | refine aE rfl ?_); simp only [go_sem, e0]) | refine callG_y ?_ | refine callG_p ?_ | refine aw_seq ?_ | refine aw_block ?_ | refine aw_scope ?_ | (refine aw_cond rfl (fun h => ?_) (fun h => ?_) <;> try (exfalso; first | (simp at h; done) | (simp at h; omega))) | ((with_reducible refine And.intro ?_ ?_); focus (first | omega | (intros; simp_all; done) | (simp; omega)))
  refine aw_rounds 3 ?_
  unfold aRounds
  repeat' first | ((first | refine callP_false (.bool false) ?_ | refine aw_region rfl ?_ | refine aw_region_draw mixedF rfl (by kernel_rfl) ?_ | refine aE rfl ?_); simp only [go_sem, e0, hi1, hi2, Int.reduceLT]) | refine callG_y ?_ | refine callG_p ?_ | refine aw_seq ?_ | refine aw_block ?_ | refine aw_scope ?_ | (refine aw_cond rfl (fun h => ?_) (fun h => ?_) <;> try (exfalso; first | (simp at h; done) | (simp at h; omega))) | ((with_reducible refine And.intro ?_ ?_); focus (first | omega | (intros; simp_all; done) | (simp; omega)))
  have g1 : splice (c1 ++ c2) 0 (List.flatMap AV.cells (l1.map inA)) = l1.map inA ++ c2 := by
    have := splice_at (A := []) (B := c2) (X := l1.map inA) (C := c1) (by rw [List.length_map, hc1])
    rw [flat_in]; simpa using this
  rw [g1]
  refine ⟨⟨by omega, by omega, cells_in _, one_in _⟩, ?_⟩
  by_cases z : l2 = []
  · subst z
    have e1 : (l1.length = n) = True := eq_true (by simpa using hn)
    have e2 : c2 = [] := List.eq_nil_of_length_eq_zero hc2
    subst e2
    have e3 : l1.length * 8 ≤ 140737488355328 := by omega
    repeat' first | ((first | refine callP_false (.bool false) ?_ | refine aw_region rfl ?_ | refine aw_region_draw mixedF rfl (by kernel_rfl) ?_ | refine aE rfl ?_); simp only [go_sem, e1, hi1, hi2, Int.reduceLT, List.append_nil, List.map_nil, List.flatMap_nil, List.length_nil, Nat.add_zero, e3, List.length_map, List.all_nil, Nat.mul_one]) | refine callG_y ?_ | refine callG_p ?_ | refine aw_seq ?_ | refine aw_block ?_ | refine aw_scope ?_ | (refine aw_cond rfl (fun h => ?_) (fun h => ?_) <;> try (exfalso; first | (simp at h; done) | (simp at h; omega))) | ((with_reducible refine And.intro ?_ ?_); focus (first | omega | (intros; simp_all; done) | (simp; omega)))
    refine ⟨_, _, rfl, int_frz 2 _ l1 rfl, ?_⟩
    first | rfl | rw [List.append_nil]
  · have zl : 0 < l2.length := List.length_pos_iff.2 z
    have e1 : (l1.length = n) = False := eq_false (by omega)
    repeat' first | ((first | refine callP_false (.bool false) ?_ | refine aw_region rfl ?_ | refine aw_region_draw mixedF rfl (by kernel_rfl) ?_ | refine aE rfl ?_); simp only [go_sem, e1, hi1, hi2, Int.reduceLT]) | refine callG_y ?_ | refine callG_p ?_ | refine aw_seq ?_ | refine aw_block ?_ | refine aw_scope ?_ | (refine aw_cond rfl (fun h => ?_) (fun h => ?_) <;> try (exfalso; first | (simp at h; done) | (simp at h; omega))) | ((with_reducible refine And.intro ?_ ?_); focus (first | omega | (intros; simp_all; done) | (simp; omega)))
    have g2 : splice (l1.map inA ++ c2) l1.length (List.flatMap AV.cells (l2.map inA)) = l1.map inA ++ l2.map inA := by
      have := splice_at (A := l1.map inA) (B := []) (X := l2.map inA) (C := c2) (by rw [List.length_map, hc2])
      rw [flat_in]; simpa using this
    have g3 : splice (l1.map inA ++ c2) (l1.length * 1) (List.flatMap AV.cells (l2.map inA)) = l1.map inA ++ l2.map inA := by rw [Nat.mul_one, g2]
    try rw [g2]
    try rw [g3]
    refine ⟨⟨by omega, by omega, cells_in _, one_in _⟩, ?_⟩
    repeat' first | ((first | refine callP_false (.bool false) ?_ | refine aw_region rfl ?_ | refine aw_region_draw mixedF rfl (by kernel_rfl) ?_ | refine aE rfl ?_); simp only [go_sem, hi2, Int.reduceLT]) | refine callG_y ?_ | refine callG_p ?_ | refine aw_seq ?_ | refine aw_block ?_ | refine aw_scope ?_ | (refine aw_cond rfl (fun h => ?_) (fun h => ?_) <;> try (exfalso; first | (simp at h; done) | (simp at h; omega))) | ((with_reducible refine And.intro ?_ ?_); focus (first | omega | (intros; simp_all; done) | (simp; omega)))
    rw [← List.map_append]
    refine ⟨_, _, rfl, ?_, rfl⟩
    have := int_frz (H := H) 1 n (l1 ++ l2) rfl
    rwa [List.length_append] at this

/-- slices.Contains of a list of its own that holds one. -/
theorem hasOne_c (H : AHeap) {i v lc : Nat} {a d : Int} {cs : List AV} (hh : hget H i = .cells v (inA a :: cs)) (hlc : 0 < lc) : FnC Tryz.prog 60 [.osl 1 i v 0 1 lc, .int .i64 d] H (.bool (decide (a = d))) := by
  have hi1 : IntKind.i64.wrap (0 + 1) = 1 := rfl
  have hz : decide ((1 : Int) < ((1 : Nat) : Int)) = false := rfl
  by_cases h : d = a
  · subst h
    have hx : FnC Tryz.prog 86 [.osl 1 i v 0 1 lc, .int .i64 d] H (.int .i64 0) := by
      refine fnC_of Tryz.func86 rfl (Nat.le_of_ble_eq_true rfl) ?_
      repeat' first | ((first | refine callP_false (.bool false) ?_ | refine aw_region rfl ?_ | refine aw_region_draw mixedF rfl (by kernel_rfl) ?_ | refine aE rfl ?_); simp only [go_sem]) | refine callG_y ?_ | refine callG_p ?_ | refine aw_seq ?_ | refine aw_block ?_ | refine aw_scope ?_ | (refine aw_cond rfl (fun h => ?_) (fun h => ?_) <;> try (exfalso; first | (simp at h; done) | (simp at h; omega))) | ((with_reducible refine And.intro ?_ ?_); focus (first | omega | (intros; simp_all; done) | (simp; omega)))
      refine aw_rounds 2 ?_
      unfold aRounds
      repeat' first | ((first | refine callP_false (.bool false) ?_ | refine aw_region rfl ?_ | refine aw_region_draw mixedF rfl (by kernel_rfl) ?_ | refine aE rfl ?_); simp only [go_sem, hh, inA, hi1, hz, decide_true]) | refine callG_y ?_ | refine callG_p ?_ | refine aw_seq ?_ | refine aw_block ?_ | refine aw_scope ?_ | (refine aw_cond rfl (fun h => ?_) (fun h => ?_) <;> try (exfalso; first | (simp at h; done) | (simp at h; omega))) | ((with_reducible refine And.intro ?_ ?_); focus (first | omega | (intros; simp_all; done) | (simp; omega)))
      exact done0 (.int _ _) (.refl _)
    refine fnC_of Tryz.func60 rfl (Nat.le_of_ble_eq_true rfl) ?_
    have hz : decide ((0 : Int) ≤ 0) = true := rfl
    rw [decide_eq_true rfl]
    repeat' first | ((first | refine callK_fn (hx) callOk86F ?_ | refine callP_fn (hx) callOk86F ?_ | refine callM_fn (fun _ => hx) callOk86F ?_ | refine callP_false (.bool false) ?_ | refine aw_region rfl ?_ | refine aw_region_draw mixedF rfl (by kernel_rfl) ?_ | refine aE rfl ?_); simp only [go_sem, hz]) | refine callG_y ?_ | refine callG_p ?_ | refine aw_seq ?_ | refine aw_block ?_ | refine aw_scope ?_ | (refine aw_cond rfl (fun h => ?_) (fun h => ?_) <;> try (exfalso; first | (simp at h; done) | (simp at h; omega))) | ((with_reducible refine And.intro ?_ ?_); focus (first | omega | (intros; simp_all; done) | (simp; omega)))
    exact done0 (.bool _) (.refl _)
  · have e1 : decide (d = a) = false := decide_eq_false h
    have hx : FnC Tryz.prog 86 [.osl 1 i v 0 1 lc, .int .i64 d] H (.int .i64 (-1)) := by
      refine fnC_of Tryz.func86 rfl (Nat.le_of_ble_eq_true rfl) ?_
      repeat' first | ((first | refine callP_false (.bool false) ?_ | refine aw_region rfl ?_ | refine aw_region_draw mixedF rfl (by kernel_rfl) ?_ | refine aE rfl ?_); simp only [go_sem]) | refine callG_y ?_ | refine callG_p ?_ | refine aw_seq ?_ | refine aw_block ?_ | refine aw_scope ?_ | (refine aw_cond rfl (fun h => ?_) (fun h => ?_) <;> try (exfalso; first | (simp at h; done) | (simp at h; omega))) | ((with_reducible refine And.intro ?_ ?_); focus (first | omega | (intros; simp_all; done) | (simp; omega)))
      refine aw_rounds 2 ?_
      unfold aRounds
      repeat' first | ((first | refine callP_false (.bool false) ?_ | refine aw_region rfl ?_ | refine aw_region_draw mixedF rfl (by kernel_rfl) ?_ | refine aE rfl ?_); simp only [go_sem, hh, e1, inA, hi1, hz]) | refine callG_y ?_ | refine callG_p ?_ | refine aw_seq ?_ | refine aw_block ?_ | refine aw_scope ?_ | (refine aw_cond rfl (fun h => ?_) (fun h => ?_) <;> try (exfalso; first | (simp at h; done) | (simp at h; omega))) | ((with_reducible refine And.intro ?_ ?_); focus (first | omega | (intros; simp_all; done) | (simp; omega)))
      exact done0 (.int _ _) (.refl _)
    refine fnC_of Tryz.func60 rfl (Nat.le_of_ble_eq_true rfl) ?_
    have hz : decide ((0 : Int) ≤ -1) = false := rfl
    rw [decide_eq_false (Ne.symm h)]
    repeat' first | ((first | refine callK_fn (hx) callOk86F ?_ | refine callP_fn (hx) callOk86F ?_ | refine callM_fn (fun _ => hx) callOk86F ?_ | refine callP_false (.bool false) ?_ | refine aw_region rfl ?_ | refine aw_region_draw mixedF rfl (by kernel_rfl) ?_ | refine aE rfl ?_); simp only [go_sem, hz]) | refine callG_y ?_ | refine callG_p ?_ | refine aw_seq ?_ | refine aw_block ?_ | refine aw_scope ?_ | (refine aw_cond rfl (fun h => ?_) (fun h => ?_) <;> try (exfalso; first | (simp at h; done) | (simp at h; omega))) | ((with_reducible refine And.intro ?_ ?_); focus (first | omega | (intros; simp_all; done) | (simp; omega)))
    exact done0 (.bool _) (.refl _)

/-- The directories found so far, as they are held. -/
def dirsV (i : Nat) : List Int → AV
  | [] => .sl true []
  | d :: ds => .osl 1 i (ds.length + 1) 0 (ds.length + 1) (ds.length + 1)
def dirsH (H : AHeap) : List Int → AHeap
  | [] => H
  | d :: ds => H ++ [.cells (ds.length + 1) ((d :: ds).map inA)]
theorem foldl_drop {ds : List Int} {ps : List Txt} {f : List Int → Txt → List Int} {k : Nat} (h : k < ps.length) : (ps.drop k).foldl f ds = (ps.drop (k + 1)).foldl f (f ds ps[k]) := by
  rw [List.drop_eq_getElem_cons h]; rfl
theorem dirOf_none {l : List Nd} {p : Txt} (h : namesOf p = none) : dirOf l p = none := by rw [dirOf, h]
theorem dirOf_nil {l : List Nd} {p : Txt} (h : namesOf p = some []) : dirOf l p = none := by rw [dirOf, h]
theorem dirOf_cons {l : List Nd} {p x : Txt} {xs : List Txt} {d e : Int} (h : namesOf p = some (x :: xs)) (hf : findN l (x :: xs).dropLast = (d, e)) : dirOf l p = if e = 0 ∧ dirI d = true then some d else none := by rw [dirOf, h]; simp only [hf]

theorem any_has (l : List Int) (u : Int) : (l.any fun x => decide (x = u)) = l.contains u := by
  rw [Bool.eq_iff_iff]; simp
theorem lab_c (b : Bool) (l : List Nd) (u w : Int) (hl : l.length ≤ 1073741824) (H : AHeap) (i : Nat) (hh : hget H i = .cells 0 [.sl b (l.map ndA)]) : FnC Tryz.prog 61 [.int .i64 u, .int .i64 w, .ref i 0 0] H (.bool (aboveB l u w)) := by
  refine fnC_of Tryz.func61 rfl (Nat.le_of_ble_eq_true rfl) ?_
  have hab := aboveC_c b l w hl
  have ct0 := ct hab callOk25F; repeat' first | ((first | refine cK (by assumption) ?_ | refine cP (by assumption) ?_ | refine cM (by assumption) ?_ | refine cK (ct (hasInt_c _ _ _) callOk60F) ?_ | refine cP (ct (hasInt_c _ _ _) callOk60F) ?_ | refine cM (ct (hasInt_c _ _ _) callOk60F) ?_ | refine callP_false (.bool false) ?_ | refine aw_region rfl ?_ | refine aw_region_draw mixedF rfl (by kernel_rfl) ?_ | refine aE rfl ?_); simp only [go_sem, hh]) | refine callG_y ?_ | refine callG_p ?_ | refine aw_seq ?_ | refine aw_block ?_ | refine aw_scope ?_ | (refine aw_cond rfl (fun h => ?_) (fun h => ?_) <;> try (exfalso; first | (simp at h; done) | (simp at h; omega))) | ((with_reducible refine And.intro ?_ ?_); focus (first | omega | (intros; simp_all; done) | (simp; omega)))
  refine done0 (by simp only [go_sem]) (.of ?_)
  rw [aboveB, any_has]

set_option maxHeartbeats 16000000 in
theorem locks_c (b : Bool) (l : List Nd) (c : Cal) (hp : c.path.length ≤ 1048576) (ht : c.to.length ≤ 1048576) (hl : l.length ≤ 1073741824) (H : AHeap) :
    FnC Tryz.prog 32 [caA c, .sl b (l.map ndA)] H (.sl false ((locksT l c).map inA)) := by
  refine fnC_of Tryz.func32 rfl (Nat.le_of_ble_eq_true rfl) ?_
  obtain ⟨ps, hps⟩ : ∃ ps, pathsK c = ps := ⟨_, rfl⟩
  have hpc := paths_c c
  rw [hps] at hpc
  have hpl : ps.length ≤ 2 := by rw [← hps, pathsK]; split <;> (try split) <;> simp
  have hpm : ∀ p ∈ ps, p.length ≤ 1048576 := by
    rw [← hps, pathsK]; intro p hq
    split at hq
    · rcases List.mem_cons.1 hq with rfl | hq
      · exact hp
      · rw [List.mem_singleton.1 hq]; exact ht
    · split at hq
      · rw [List.mem_singleton.1 hq]; exact hp
      · cases hq
  rw [show locksT l c = 1 :: locksO l (ps.foldl (fun ds p => addD ds (dirOf l p)) []) from by rw [locksT, locksD, hps]]
  clear hps
  obtain ⟨kk, pp, to, dd, nn⟩ := c
  simp only [caA] at hpc
  have hfi := vfind_c b
  have ct0 := ct hpc callOk59F; repeat' first | ((first | refine cK (by assumption) ?_ | refine cP (by assumption) ?_ | refine cM (by assumption) ?_ | refine callP_false (.bool false) ?_ | refine aw_region rfl ?_ | refine aw_region_draw mixedF rfl (by kernel_rfl) ?_ | refine aE rfl ?_); simp only [go_sem, caA]) | refine callG_y ?_ | refine callG_p ?_ | refine aw_seq ?_ | refine aw_block ?_ | refine aw_scope ?_ | (refine aw_cond rfl (fun h => ?_) (fun h => ?_) <;> try (exfalso; first | (simp at h; done) | (simp at h; omega))) | ((with_reducible refine And.intro ?_ ?_); focus (first | omega | (intros; simp_all; done) | (simp; omega)))
  refine aw_loopS (ι := Nat × List Int) (fun q => [(3, .ref (H.length + 1) 0 0), (15, .sl true (ps.map AV.str)), (16, .int .i64 ps.length), (17, .int .i64 q.1), (5, dirsV (H.length + 2) q.2)]) (fun q => dirsH (H ++ [.cells 0 [.int .i64 kk, .str pp, .str to, .str dd, .int .i64 nn], .cells 0 [.sl b (l.map ndA)]]) q.2)
    (fun q => q.1 ≤ ps.length ∧ q.2.length ≤ q.1 ∧ ps.foldl (fun ds p => addD ds (dirOf l p)) [] = (ps.drop q.1).foldl (fun ds p => addD ds (dirOf l p)) q.2) (fun q => ps.length - q.1) (0, []) ⟨Nat.zero_le _, Nat.zero_le _, rfl⟩ ?_ rfl ?_
  · simp [go_sem, dirsV]
  · rintro ⟨k, ds⟩ ⟨hk, hdl, he⟩
    simp only at hk hdl he ⊢
    by_cases hlt : k < ps.length
    · have hpk := getD_map AV.str hlt
      have hli : decide ((k : Int) < (ps.length : Int)) = true := decide_eq_true (by omega)
      have hw : IntKind.i64.wrap ((k : Int) + 1) = ((k + 1 : Nat) : Int) := by rw [wrap_i64 (by omega) (by omega)]; omega
      rw [foldl_drop hlt] at he
      have hpath := path_c ps[k] (hpm _ (List.getElem_mem _))
      cases hns : namesOf ps[k] with
      | none =>
        rw [dirOf_none hns] at he
        simp only [pathV, hns] at hpath
        rcases ds with _ | ⟨a, _ | ⟨a2, ds⟩⟩
        · simp only [dirsV, dirsH]
          have ct0 := ct hpath callOk55F; repeat' first | ((first | refine cK (by assumption) ?_ | refine cP (by assumption) ?_ | refine cM (by assumption) ?_ | refine callP_false (.bool false) ?_ | refine aw_region rfl ?_ | refine aw_region_draw mixedF rfl (by kernel_rfl) ?_ | refine aE rfl ?_); simp only [go_sem, hpk, hli]) | refine callG_y ?_ | refine callG_p ?_ | refine aw_seq ?_ | refine aw_block ?_ | refine aw_scope ?_ | (refine aw_cond rfl (fun h => ?_) (fun h => ?_) <;> try (exfalso; first | (simp at h; done) | (simp at h; omega))) | ((with_reducible refine And.intro ?_ ?_); focus (first | omega | (intros; simp_all; done) | (simp; omega)))
          exact ⟨(k + 1, []), ⟨hlt, by simp only [List.length_cons, List.length_nil] at hdl ⊢; omega, he⟩, by simp only; omega, ⟨congrArg _ hw, rfl⟩, rfl⟩
        · simp only [dirsV, dirsH]
          have ct0 := ct hpath callOk55F; repeat' first | ((first | refine cK (by assumption) ?_ | refine cP (by assumption) ?_ | refine cM (by assumption) ?_ | refine callP_false (.bool false) ?_ | refine aw_region rfl ?_ | refine aw_region_draw mixedF rfl (by kernel_rfl) ?_ | refine aE rfl ?_); simp only [go_sem, hpk, hli]) | refine callG_y ?_ | refine callG_p ?_ | refine aw_seq ?_ | refine aw_block ?_ | refine aw_scope ?_ | (refine aw_cond rfl (fun h => ?_) (fun h => ?_) <;> try (exfalso; first | (simp at h; done) | (simp at h; omega))) | ((with_reducible refine And.intro ?_ ?_); focus (first | omega | (intros; simp_all; done) | (simp; omega)))
          exact ⟨(k + 1, [a]), ⟨hlt, by simp only [List.length_cons, List.length_nil] at hdl ⊢; omega, he⟩, by simp only; omega, ⟨congrArg _ hw, rfl⟩, rfl⟩
        · simp only [List.length_cons] at hdl; omega
      | some nl =>
        have hnl := namesOf_len hns
        cases nl with
        | nil =>
          rw [dirOf_nil hns] at he
          simp only [pathV, hns] at hpath
          rcases ds with _ | ⟨a, _ | ⟨a2, ds⟩⟩
          · simp only [dirsV, dirsH]
            have ct0 := ct hpath callOk55F; repeat' first | ((first | refine cK (by assumption) ?_ | refine cP (by assumption) ?_ | refine cM (by assumption) ?_ | refine callP_false (.bool false) ?_ | refine aw_region rfl ?_ | refine aw_region_draw mixedF rfl (by kernel_rfl) ?_ | refine aE rfl ?_); simp only [go_sem, hpk, hli]) | refine callG_y ?_ | refine callG_p ?_ | refine aw_seq ?_ | refine aw_block ?_ | refine aw_scope ?_ | (refine aw_cond rfl (fun h => ?_) (fun h => ?_) <;> try (exfalso; first | (simp at h; done) | (simp at h; omega))) | ((with_reducible refine And.intro ?_ ?_); focus (first | omega | (intros; simp_all; done) | (simp; omega)))
            exact ⟨(k + 1, []), ⟨hlt, by simp only [List.length_cons, List.length_nil] at hdl ⊢; omega, he⟩, by simp only; omega, ⟨congrArg _ hw, rfl⟩, rfl⟩
          · simp only [dirsV, dirsH]
            have ct0 := ct hpath callOk55F; repeat' first | ((first | refine cK (by assumption) ?_ | refine cP (by assumption) ?_ | refine cM (by assumption) ?_ | refine callP_false (.bool false) ?_ | refine aw_region rfl ?_ | refine aw_region_draw mixedF rfl (by kernel_rfl) ?_ | refine aE rfl ?_); simp only [go_sem, hpk, hli]) | refine callG_y ?_ | refine callG_p ?_ | refine aw_seq ?_ | refine aw_block ?_ | refine aw_scope ?_ | (refine aw_cond rfl (fun h => ?_) (fun h => ?_) <;> try (exfalso; first | (simp at h; done) | (simp at h; omega))) | ((with_reducible refine And.intro ?_ ?_); focus (first | omega | (intros; simp_all; done) | (simp; omega)))
            exact ⟨(k + 1, [a]), ⟨hlt, by simp only [List.length_cons, List.length_nil] at hdl ⊢; omega, he⟩, by simp only; omega, ⟨congrArg _ hw, rfl⟩, rfl⟩
          · simp only [List.length_cons] at hdl; omega
        | cons x xs =>
          simp only [pathV, hns] at hpath
          rw [List.length_cons] at hnl
          have hw2 : IntKind.i64.wrap (((xs.length + 1 : Nat) : Int) - 1) = (xs.length : Int) := by rw [wrap_i64 (by omega) (by omega)]; omega
          have hlz : decide (((xs.length + 1 : Nat) : Int) = 0) = false := decide_eq_false (by omega)
          have hb : ((0 : Int) ≤ (xs.length : Int) ∧ (xs.length : Int) ≤ ((xs.length + 1 : Nat) : Int)) = True := eq_true (by omega)
          have hf := fun b' => vfind_c b b' l (x :: xs).dropLast hl
          obtain ⟨⟨d, e⟩, hde⟩ : ∃ r, findN l (x :: xs).dropLast = r := ⟨_, rfl⟩
          rw [dirOf_cons hns hde] at he
          rw [hde, findV, List.dropLast_eq_take, List.map_take, List.map_cons, List.length_cons, Nat.add_sub_cancel] at hf
          simp only at hf
          have hdir := dir_c d
          by_cases he0 : e = 0
          · subst he0
            cases hdd : dirI d with
            | false =>
              rw [hdd] at he hdir
              rw [if_neg (by rintro ⟨_, h⟩; cases h)] at he
              rcases ds with _ | ⟨a, _ | ⟨a2, ds⟩⟩
              · simp only [dirsV, dirsH]
                have ct0 := ct hpath callOk55F; have ct1 := ct hdir callOk57F; repeat' first | ((first | refine cK (by assumption) ?_ | refine cP (by assumption) ?_ | refine cM (by assumption) ?_ | refine cK (ct (hf _) callOk56F) ?_ | refine cP (ct (hf _) callOk56F) ?_ | refine cM (ct (hf _) callOk56F) ?_ | refine callP_false (.bool false) ?_ | refine aw_region rfl ?_ | refine aw_region_draw mixedF rfl (by kernel_rfl) ?_ | refine aE rfl ?_); simp only [go_sem, hpk, hli, hw2, hlz, hb, Int.toNat_natCast, List.map_cons, decide_true]) | refine callG_y ?_ | refine callG_p ?_ | refine aw_seq ?_ | refine aw_block ?_ | refine aw_scope ?_ | (refine aw_cond rfl (fun h => ?_) (fun h => ?_) <;> try (exfalso; first | (simp at h; done) | (simp at h; omega))) | ((with_reducible refine And.intro ?_ ?_); focus (first | omega | (intros; simp_all; done) | (simp; omega)))
                exact ⟨(k + 1, []), ⟨hlt, by simp only [List.length_cons, List.length_nil] at hdl ⊢; omega, he⟩, by simp only; omega, ⟨congrArg _ hw, rfl⟩, rfl⟩
              · simp only [dirsV, dirsH]
                have ct0 := ct hpath callOk55F; have ct1 := ct hdir callOk57F; repeat' first | ((first | refine cK (by assumption) ?_ | refine cP (by assumption) ?_ | refine cM (by assumption) ?_ | refine cK (ct (hf _) callOk56F) ?_ | refine cP (ct (hf _) callOk56F) ?_ | refine cM (ct (hf _) callOk56F) ?_ | refine callP_false (.bool false) ?_ | refine aw_region rfl ?_ | refine aw_region_draw mixedF rfl (by kernel_rfl) ?_ | refine aE rfl ?_); simp only [go_sem, hpk, hli, hw2, hlz, hb, Int.toNat_natCast, List.map_cons, decide_true]) | refine callG_y ?_ | refine callG_p ?_ | refine aw_seq ?_ | refine aw_block ?_ | refine aw_scope ?_ | (refine aw_cond rfl (fun h => ?_) (fun h => ?_) <;> try (exfalso; first | (simp at h; done) | (simp at h; omega))) | ((with_reducible refine And.intro ?_ ?_); focus (first | omega | (intros; simp_all; done) | (simp; omega)))
                exact ⟨(k + 1, [a]), ⟨hlt, by simp only [List.length_cons, List.length_nil] at hdl ⊢; omega, he⟩, by simp only; omega, ⟨congrArg _ hw, rfl⟩, rfl⟩
              · simp only [List.length_cons] at hdl; omega
            | true =>
              rw [hdd] at he hdir
              rw [if_pos ⟨rfl, rfl⟩] at he
              rcases ds with _ | ⟨a, _ | ⟨a2, ds⟩⟩
              · simp only [dirsV, dirsH]
                have hc := hasInt_c true [] d
                simp only [List.map_nil, List.any_nil] at hc
                have ct0 := ct hpath callOk55F; have ct1 := ct hdir callOk57F; have ct2 := ct hc callOk60F; repeat' first | ((first | refine cK (by assumption) ?_ | refine cP (by assumption) ?_ | refine cM (by assumption) ?_ | refine cK (ct (hf _) callOk56F) ?_ | refine cP (ct (hf _) callOk56F) ?_ | refine cM (ct (hf _) callOk56F) ?_ | refine callP_false (.bool false) ?_ | refine aw_region rfl ?_ | refine aw_region_draw mixedF rfl (by kernel_rfl) ?_ | refine aE rfl ?_); simp only [go_sem, hpk, hli, hw2, hlz, hb, Int.toNat_natCast, List.map_cons, decide_true]) | refine callG_y ?_ | refine callG_p ?_ | refine aw_seq ?_ | refine aw_block ?_ | refine aw_scope ?_ | (refine aw_cond rfl (fun h => ?_) (fun h => ?_) <;> try (exfalso; first | (simp at h; done) | (simp at h; omega))) | ((with_reducible refine And.intro ?_ ?_); focus (first | omega | (intros; simp_all; done) | (simp; omega)))
                refine ⟨⟨by simp only [true_or, and_self], by rintro e rfl; rfl⟩, ?_⟩
                repeat' first | ((first | refine callP_false (.bool false) ?_ | refine aw_region rfl ?_ | refine aw_region_draw mixedF rfl (by kernel_rfl) ?_ | refine aE rfl ?_); simp only [go_sem]) | refine callG_y ?_ | refine callG_p ?_ | refine aw_seq ?_ | refine aw_block ?_ | refine aw_scope ?_ | (refine aw_cond rfl (fun h => ?_) (fun h => ?_) <;> try (exfalso; first | (simp at h; done) | (simp at h; omega))) | ((with_reducible refine And.intro ?_ ?_); focus (first | omega | (intros; simp_all; done) | (simp; omega)))
                exact ⟨(k + 1, [d]), ⟨hlt, by simp only [List.length_cons, List.length_nil] at hdl ⊢; omega, he⟩, by simp only; omega, ⟨congrArg _ hw, rfl⟩, rfl⟩
              · simp only [dirsV, dirsH]
                have hc := hasOne_c (H ++ [.cells 0 [.int .i64 kk, .str pp, .str to, .str dd, .int .i64 nn], .cells 0 [.sl b (l.map ndA)], .cells 1 [inA a]]) (i := H.length + 2) (v := 1) (lc := 1) (a := a) (d := d) (cs := []) (by simp only [go_sem]) (by omega)
                by_cases had : a = d
                · rw [decide_eq_true had] at hc
                  rw [show addD [a] (some d) = [a] from by rw [had]; simp [addD]] at he
                  have ct0 := ct hpath callOk55F; have ct1 := ct hdir callOk57F; repeat' first | ((first | refine cK (by assumption) ?_ | refine cP (by assumption) ?_ | refine cM (by assumption) ?_ | refine cK (ct (hf _) callOk56F) ?_ | refine cP (ct (hf _) callOk56F) ?_ | refine cM (ct (hf _) callOk56F) ?_ | refine callK_fn (hc) callOk60F ?_ | refine callP_fn (hc) callOk60F ?_ | refine callM_fn (fun _ => hc) callOk60F ?_ | refine callP_false (.bool false) ?_ | refine aw_region rfl ?_ | refine aw_region_draw mixedF rfl (by kernel_rfl) ?_ | refine aE rfl ?_); simp only [go_sem, hpk, hli, hw2, hlz, hb, Int.toNat_natCast, List.map_cons, decide_true]) | refine callG_y ?_ | refine callG_p ?_ | refine aw_seq ?_ | refine aw_block ?_ | refine aw_scope ?_ | (refine aw_cond rfl (fun h => ?_) (fun h => ?_) <;> try (exfalso; first | (simp at h; done) | (simp at h; omega))) | ((with_reducible refine And.intro ?_ ?_); focus (first | omega | (intros; simp_all; done) | (simp; omega)))
                  exact ⟨(k + 1, [a]), ⟨hlt, by simp only [List.length_cons, List.length_nil] at hdl ⊢; omega, he⟩, by simp only; omega, ⟨congrArg _ hw, rfl⟩, rfl⟩
                · rw [decide_eq_false had] at hc
                  rw [show addD [a] (some d) = [a, d] from by simp [addD, Ne.symm had]] at he
                  have ct0 := ct hpath callOk55F; have ct1 := ct hdir callOk57F; repeat' first | ((first | refine cK (by assumption) ?_ | refine cP (by assumption) ?_ | refine cM (by assumption) ?_ | refine cK (ct (hf _) callOk56F) ?_ | refine cP (ct (hf _) callOk56F) ?_ | refine cM (ct (hf _) callOk56F) ?_ | refine callK_fn (hc) callOk60F ?_ | refine callP_fn (hc) callOk60F ?_ | refine callM_fn (fun _ => hc) callOk60F ?_ | refine callP_false (.bool false) ?_ | refine aw_region rfl ?_ | refine aw_region_draw mixedF rfl (by kernel_rfl) ?_ | refine aE rfl ?_); simp only [go_sem, hpk, hli, hw2, hlz, hb, Int.toNat_natCast, List.map_cons, decide_true]) | refine callG_y ?_ | refine callG_p ?_ | refine aw_seq ?_ | refine aw_block ?_ | refine aw_scope ?_ | (refine aw_cond rfl (fun h => ?_) (fun h => ?_) <;> try (exfalso; first | (simp at h; done) | (simp at h; omega))) | ((with_reducible refine And.intro ?_ ?_); focus (first | omega | (intros; simp_all; done) | (simp; omega)))
                  refine ⟨by rintro e rfl; rfl, ?_⟩
                  repeat' first | ((first | refine callP_false (.bool false) ?_ | refine aw_region rfl ?_ | refine aw_region_draw mixedF rfl (by kernel_rfl) ?_ | refine aE rfl ?_); simp only [go_sem]) | refine callG_y ?_ | refine callG_p ?_ | refine aw_seq ?_ | refine aw_block ?_ | refine aw_scope ?_ | (refine aw_cond rfl (fun h => ?_) (fun h => ?_) <;> try (exfalso; first | (simp at h; done) | (simp at h; omega))) | ((with_reducible refine And.intro ?_ ?_); focus (first | omega | (intros; simp_all; done) | (simp; omega)))
                  exact ⟨(k + 1, [a, d]), ⟨hlt, by simp only [List.length_cons, List.length_nil] at hdl ⊢; omega, he⟩, by simp only; omega, ⟨congrArg _ hw, rfl⟩, rfl⟩
              · simp only [List.length_cons] at hdl; omega
          · rw [if_neg (fun h => he0 h.1)] at he
            have hez : decide (e = 0) = false := decide_eq_false he0
            rcases ds with _ | ⟨a, _ | ⟨a2, ds⟩⟩
            · simp only [dirsV, dirsH]
              have ct0 := ct hpath callOk55F; repeat' first | ((first | refine cK (by assumption) ?_ | refine cP (by assumption) ?_ | refine cM (by assumption) ?_ | refine cK (ct (hf _) callOk56F) ?_ | refine cP (ct (hf _) callOk56F) ?_ | refine cM (ct (hf _) callOk56F) ?_ | refine callP_false (.bool false) ?_ | refine aw_region rfl ?_ | refine aw_region_draw mixedF rfl (by kernel_rfl) ?_ | refine aE rfl ?_); simp only [go_sem, hpk, hli, hw2, hlz, hb, Int.toNat_natCast, List.map_cons, hez]) | refine callG_y ?_ | refine callG_p ?_ | refine aw_seq ?_ | refine aw_block ?_ | refine aw_scope ?_ | (refine aw_cond rfl (fun h => ?_) (fun h => ?_) <;> try (exfalso; first | (simp at h; done) | (simp at h; omega))) | ((with_reducible refine And.intro ?_ ?_); focus (first | omega | (intros; simp_all; done) | (simp; omega)))
              exact ⟨(k + 1, []), ⟨hlt, by simp only [List.length_cons, List.length_nil] at hdl ⊢; omega, he⟩, by simp only; omega, ⟨congrArg _ hw, rfl⟩, rfl⟩
            · simp only [dirsV, dirsH]
              have ct0 := ct hpath callOk55F; repeat' first | ((first | refine cK (by assumption) ?_ | refine cP (by assumption) ?_ | refine cM (by assumption) ?_ | refine cK (ct (hf _) callOk56F) ?_ | refine cP (ct (hf _) callOk56F) ?_ | refine cM (ct (hf _) callOk56F) ?_ | refine callP_false (.bool false) ?_ | refine aw_region rfl ?_ | refine aw_region_draw mixedF rfl (by kernel_rfl) ?_ | refine aE rfl ?_); simp only [go_sem, hpk, hli, hw2, hlz, hb, Int.toNat_natCast, List.map_cons, hez]) | refine callG_y ?_ | refine callG_p ?_ | refine aw_seq ?_ | refine aw_block ?_ | refine aw_scope ?_ | (refine aw_cond rfl (fun h => ?_) (fun h => ?_) <;> try (exfalso; first | (simp at h; done) | (simp at h; omega))) | ((with_reducible refine And.intro ?_ ?_); focus (first | omega | (intros; simp_all; done) | (simp; omega)))
              exact ⟨(k + 1, [a]), ⟨hlt, by simp only [List.length_cons, List.length_nil] at hdl ⊢; omega, he⟩, by simp only; omega, ⟨congrArg _ hw, rfl⟩, rfl⟩
            · simp only [List.length_cons] at hdl; omega
    · have hke : k = ps.length := by omega
      subst hke
      rw [List.drop_length] at he
      simp only [List.foldl_nil] at he
      have hli : decide ((ps.length : Int) < (ps.length : Int)) = false := by simp
      rw [he]
      rcases ds with _ | ⟨a, _ | ⟨a2, _ | ⟨a3, ds⟩⟩⟩
      · simp only [dirsV, dirsH]
        have hcc := fun f f1 => concat_c f f1 true [1] [] (by simp) (by simp) (by simp)
        simp only [List.map_cons, List.map_nil, List.append_nil, inA] at hcc
        repeat' first | ((first | refine cK (ct (hcc _ _) callOk62F) ?_ | refine cP (ct (hcc _ _) callOk62F) ?_ | refine cM (ct (hcc _ _) callOk62F) ?_ | refine callP_false (.bool false) ?_ | refine aw_region rfl ?_ | refine aw_region_draw mixedF rfl (by kernel_rfl) ?_ | refine aE rfl ?_); simp only [go_sem, hli]) | refine callG_y ?_ | refine callG_p ?_ | refine aw_seq ?_ | refine aw_block ?_ | refine aw_scope ?_ | (refine aw_cond rfl (fun h => ?_) (fun h => ?_) <;> try (exfalso; first | (simp at h; done) | (simp at h; omega))) | ((with_reducible refine And.intro ?_ ?_); focus (first | omega | (intros; simp_all; done) | (simp; omega)))
        exact done (by simp only [go_sem]) (.of rfl)
      · simp only [dirsV, dirsH]
        have hcc := fun f f1 => concat_c f f1 false [1] [a] (by simp) (by simp) (by simp)
        simp only [List.map_cons, List.map_nil, List.cons_append, List.nil_append, inA] at hcc
        refine aw_freeze [5] [inA a] (v := 1) (lc := 1) (i := H.length + 2) (s := 1) (cs := [inA a]) (by intro t ht; simp only [List.mem_singleton] at ht; subst ht; rfl) (by simp only [go_sem]) (by decide) rfl (by simp [inA, AV.cells]) ?_
        repeat' first | ((first | refine cK (ct (hcc _ _) callOk62F) ?_ | refine cP (ct (hcc _ _) callOk62F) ?_ | refine cM (ct (hcc _ _) callOk62F) ?_ | refine callP_false (.bool false) ?_ | refine aw_region rfl ?_ | refine aw_region_draw mixedF rfl (by kernel_rfl) ?_ | refine aE rfl ?_); simp only [go_sem, hli, inA]) | refine callG_y ?_ | refine callG_p ?_ | refine aw_seq ?_ | refine aw_block ?_ | refine aw_scope ?_ | (refine aw_cond rfl (fun h => ?_) (fun h => ?_) <;> try (exfalso; first | (simp at h; done) | (simp at h; omega))) | ((with_reducible refine And.intro ?_ ?_); focus (first | omega | (intros; simp_all; done) | (simp; omega)))
        exact done (by simp only [go_sem]) (.of rfl)
      · simp only [dirsV, dirsH]
        have hab := fun H' hh => lab_c b l a a2 hl H' (H.length + 1) hh
        have hba := fun H' hh => lab_c b l a2 a hl H' (H.length + 1) hh
        by_cases hsw : (!aboveB l a a2 && (aboveB l a2 a || decide (a2 < a))) = true
        · rw [show locksO l [a, a2] = [a2, a] from by rw [locksO, if_pos hsw]]
          have hcc := fun f f1 => concat_c f f1 false [1] [a2, a] (by simp) (by simp) (by simp)
          simp only [List.map_cons, List.map_nil, List.cons_append, List.nil_append, inA] at hcc
          repeat' first | ((first | refine callP_false (.bool false) ?_ | refine aw_region rfl ?_ | refine aw_region_draw mixedF rfl (by kernel_rfl) ?_ | refine aE rfl ?_); simp only [go_sem, hli]) | refine callG_y ?_ | refine callG_p ?_ | refine aw_seq ?_ | refine aw_block ?_ | refine aw_scope ?_ | ((with_reducible refine And.intro ?_ ?_); focus (first | omega | (intros; simp_all; done) | (simp; omega)))
          refine aw_cond rfl (fun h => by cases h) (fun _ => ?_)
          repeat' first | ((first | refine callP_false (.bool false) ?_ | refine aw_region rfl ?_ | refine aw_region_draw mixedF rfl (by kernel_rfl) ?_ | refine aE rfl ?_); simp only [go_sem]) | refine callG_y ?_ | refine callG_p ?_ | refine aw_seq ?_ | refine aw_block ?_ | refine aw_scope ?_ | ((with_reducible refine And.intro ?_ ?_); focus (first | omega | (intros; simp_all; done) | (simp; omega)))
          refine aw_cond rfl (fun _ => ?_) (fun h => absurd h (by decide))
          cases hx : aboveB l a a2 with
          | true => rw [hx] at hsw; cases hsw
          | false =>
            rw [hx] at hab
            cases hy : aboveB l a2 a with
            | true =>
              rw [hy] at hba
              repeat' first | ((first | refine callK_cap (hab _ (by simp only [go_sem, inA])) callOk61F ?_ | refine callP_cap (fun _ => hab _ (by simp only [go_sem, inA])) callOk61F ?_ | refine callM_cap (fun _ => hab _ (by simp only [go_sem, inA])) callOk61F ?_ | refine callK_cap (hba _ (by simp only [go_sem, inA])) callOk61F ?_ | refine callP_cap (fun _ => hba _ (by simp only [go_sem, inA])) callOk61F ?_ | refine callM_cap (fun _ => hba _ (by simp only [go_sem, inA])) callOk61F ?_ | refine callP_false (.bool false) ?_ | refine aw_region rfl ?_ | refine aw_region_draw mixedF rfl (by kernel_rfl) ?_ | refine aE rfl ?_); simp only [go_sem, inA]) | refine callG_y ?_ | refine callG_p ?_ | refine aw_seq ?_ | refine aw_block ?_ | refine aw_scope ?_ | ((with_reducible refine And.intro ?_ ?_); focus (first | omega | (intros; simp_all; done) | (simp; omega)))
              refine aw_cond rfl (fun _ => ?_) (fun h => by cases h)
              refine aw_region rfl ?_
              simp only [go_sem]
              refine ⟨by decide, by decide, ?_⟩
              refine aw_freeze [5] [inA a2, inA a] (v := 2) (lc := 2) (i := H.length + 2) (s := 1) (cs := [inA a2, inA a]) (by intro t ht; simp only [List.mem_singleton] at ht; subst ht; rfl) (by simp only [go_sem, inA]) (by decide) rfl (by simp [inA, AV.cells]) ?_
              simp only [inA]
              repeat' first | ((first | refine cK (ct (hcc _ _) callOk62F) ?_ | refine cP (ct (hcc _ _) callOk62F) ?_ | refine cM (ct (hcc _ _) callOk62F) ?_ | refine callP_false (.bool false) ?_ | refine aw_region rfl ?_ | refine aw_region_draw mixedF rfl (by kernel_rfl) ?_ | refine aE rfl ?_); simp only [go_sem]) | refine callG_y ?_ | refine callG_p ?_ | refine aw_seq ?_ | refine aw_block ?_ | refine aw_scope ?_ | (refine aw_cond rfl (fun h => ?_) (fun h => ?_) <;> try (exfalso; first | (simp at h; done) | (simp at h; omega))) | ((with_reducible refine And.intro ?_ ?_); focus (first | omega | (intros; simp_all; done) | (simp; omega)))
              exact done (by simp only [go_sem]) (.of rfl)
            | false =>
              rw [hy, hx] at hsw
              rw [hy] at hba
              have hlt2 : decide (a2 < a) = true := by simpa using hsw
              repeat' first | ((first | refine callK_cap (hab _ (by simp only [go_sem, inA, hlt2])) callOk61F ?_ | refine callP_cap (fun _ => hab _ (by simp only [go_sem, inA, hlt2])) callOk61F ?_ | refine callM_cap (fun _ => hab _ (by simp only [go_sem, inA, hlt2])) callOk61F ?_ | refine callK_cap (hba _ (by simp only [go_sem, inA, hlt2])) callOk61F ?_ | refine callP_cap (fun _ => hba _ (by simp only [go_sem, inA, hlt2])) callOk61F ?_ | refine callM_cap (fun _ => hba _ (by simp only [go_sem, inA, hlt2])) callOk61F ?_ | refine callP_false (.bool false) ?_ | refine aw_region rfl ?_ | refine aw_region_draw mixedF rfl (by kernel_rfl) ?_ | refine aE rfl ?_); simp only [go_sem, inA, hlt2]) | refine callG_y ?_ | refine callG_p ?_ | refine aw_seq ?_ | refine aw_block ?_ | refine aw_scope ?_ | ((with_reducible refine And.intro ?_ ?_); focus (first | omega | (intros; simp_all; done) | (simp; omega)))
              refine aw_cond rfl (fun _ => ?_) (fun h => by cases h)
              refine aw_region rfl ?_
              simp only [go_sem]
              refine ⟨by decide, by decide, ?_⟩
              refine aw_freeze [5] [inA a2, inA a] (v := 2) (lc := 2) (i := H.length + 2) (s := 1) (cs := [inA a2, inA a]) (by intro t ht; simp only [List.mem_singleton] at ht; subst ht; rfl) (by simp only [go_sem, inA]) (by decide) rfl (by simp [inA, AV.cells]) ?_
              simp only [inA]
              repeat' first | ((first | refine cK (ct (hcc _ _) callOk62F) ?_ | refine cP (ct (hcc _ _) callOk62F) ?_ | refine cM (ct (hcc _ _) callOk62F) ?_ | refine callP_false (.bool false) ?_ | refine aw_region rfl ?_ | refine aw_region_draw mixedF rfl (by kernel_rfl) ?_ | refine aE rfl ?_); simp only [go_sem]) | refine callG_y ?_ | refine callG_p ?_ | refine aw_seq ?_ | refine aw_block ?_ | refine aw_scope ?_ | (refine aw_cond rfl (fun h => ?_) (fun h => ?_) <;> try (exfalso; first | (simp at h; done) | (simp at h; omega))) | ((with_reducible refine And.intro ?_ ?_); focus (first | omega | (intros; simp_all; done) | (simp; omega)))
              exact done (by simp only [go_sem]) (.of rfl)
        · rw [show locksO l [a, a2] = [a, a2] from by rw [locksO, if_neg hsw]]
          have hcc := fun f f1 => concat_c f f1 false [1] [a, a2] (by simp) (by simp) (by simp)
          simp only [List.map_cons, List.map_nil, List.cons_append, List.nil_append, inA] at hcc
          refine aw_freeze [5] [inA a, inA a2] (v := 2) (lc := 2) (i := H.length + 2) (s := 1) (cs := [inA a, inA a2]) (by intro t ht; simp only [List.mem_singleton] at ht; subst ht; rfl) (by simp only [go_sem]) (by decide) rfl (by simp [inA, AV.cells]) ?_
          cases hx : aboveB l a a2 with
          | true =>
            rw [hx] at hab
            repeat' first | ((first | refine cK (ct (hcc _ _) callOk62F) ?_ | refine cP (ct (hcc _ _) callOk62F) ?_ | refine cM (ct (hcc _ _) callOk62F) ?_ | refine callK_cap (hab _ (by simp only [go_sem, hli, inA])) callOk61F ?_ | refine callP_cap (fun _ => hab _ (by simp only [go_sem, hli, inA])) callOk61F ?_ | refine callM_cap (fun _ => hab _ (by simp only [go_sem, hli, inA])) callOk61F ?_ | refine callP_false (.bool false) ?_ | refine aw_region rfl ?_ | refine aw_region_draw mixedF rfl (by kernel_rfl) ?_ | refine aE rfl ?_); simp only [go_sem, hli, inA]) | refine callG_y ?_ | refine callG_p ?_ | refine aw_seq ?_ | refine aw_block ?_ | refine aw_scope ?_ | (refine aw_cond rfl (fun h => ?_) (fun h => ?_) <;> try (exfalso; first | (simp at h; done) | (simp at h; omega))) | ((with_reducible refine And.intro ?_ ?_); focus (first | omega | (intros; simp_all; done) | (simp; omega)))
            exact done (by simp only [go_sem]) (.of rfl)
          | false =>
            rw [hx] at hab hsw
            cases hy : aboveB l a2 a with
            | true => rw [hy] at hsw; exact absurd rfl hsw
            | false =>
              rw [hy] at hba hsw
              have hlt2 : decide (a2 < a) = false := by simpa using hsw
              repeat' first | ((first | refine cK (ct (hcc _ _) callOk62F) ?_ | refine cP (ct (hcc _ _) callOk62F) ?_ | refine cM (ct (hcc _ _) callOk62F) ?_ | refine callK_cap (hab _ (by simp only [go_sem, hli, inA, hlt2])) callOk61F ?_ | refine callP_cap (fun _ => hab _ (by simp only [go_sem, hli, inA, hlt2])) callOk61F ?_ | refine callM_cap (fun _ => hab _ (by simp only [go_sem, hli, inA, hlt2])) callOk61F ?_ | refine callK_cap (hba _ (by simp only [go_sem, hli, inA, hlt2])) callOk61F ?_ | refine callP_cap (fun _ => hba _ (by simp only [go_sem, hli, inA, hlt2])) callOk61F ?_ | refine callM_cap (fun _ => hba _ (by simp only [go_sem, hli, inA, hlt2])) callOk61F ?_ | refine callP_false (.bool false) ?_ | refine aw_region rfl ?_ | refine aw_region_draw mixedF rfl (by kernel_rfl) ?_ | refine aE rfl ?_); simp only [go_sem, hli, inA, hlt2]) | refine callG_y ?_ | refine callG_p ?_ | refine aw_seq ?_ | refine aw_block ?_ | refine aw_scope ?_ | (refine aw_cond rfl (fun h => ?_) (fun h => ?_) <;> try (exfalso; first | (simp at h; done) | (simp at h; omega))) | ((with_reducible refine And.intro ?_ ?_); focus (first | omega | (intros; simp_all; done) | (simp; omega)))
              exact done (by simp only [go_sem]) (.of rfl)
      · simp only [List.length_cons] at hdl; omega
end Go.Proofs.YtmknmapgfjmioaaGreatDoor
/- plan.Next: what a call does next. No condition but the length of what comes in. -/
namespace Go.Proofs.YtmknmapgfjmioaaGreatDoor
open Go Go.Aw Go.Gw
set_option linter.unusedSimpArgs false
set_option linter.unusedVariables false
set_option maxRecDepth 20000
set_option maxHeartbeats 8000000

theorem plain_c (s y : AV) (f1 f2 f3 : Bool) (t : Thr) (H : AHeap) : FnC Tryz.prog 149 [.agg [], s, thA f1 f2 f3 t] H (trA ⟨3, 0⟩) := by
  refine fnC_of Tryz.func149 rfl (Nat.le_of_ble_eq_true rfl) ?_
  unfold thA thF
  repeat' first | ((first | refine callP_false (.bool false) ?_ | refine aw_region rfl ?_ | refine aw_region_draw mixedF rfl (by kernel_rfl) ?_ | refine aE rfl ?_); simp only [go_sem]) | refine callG_y ?_ | refine callG_p ?_ | refine aw_seq ?_ | refine aw_block ?_ | refine aw_scope ?_ | (refine aw_cond rfl (fun h => ?_) (fun h => ?_) <;> try (exfalso; first | (simp at h; done) | (simp at h; omega))) | ((with_reducible refine And.intro ?_ ?_); focus (first | omega | (intros; simp_all; done) | (simp; omega)))
  exact done (by simp only [go_sem]) (.refl _)

theorem addD_len (ds : List Int) (o : Option Int) : (addD ds o).length ≤ ds.length + 1 := by
  unfold addD
  split
  · split
    · omega
    · simp
  · omega
theorem locksD_len (l : List Nd) (c : Cal) : (locksD l c).length ≤ 2 := by
  have h : ∀ (ps : List Txt) (ds : List Int), (ps.foldl (fun ds p => addD ds (dirOf l p)) ds).length ≤ ds.length + ps.length := by
    intro ps
    induction ps with
    | nil => intro ds; simp
    | cons p ps ih => intro ds; rw [List.foldl_cons]; have := ih (addD ds (dirOf l p)); have := addD_len ds (dirOf l p); simp only [List.length_cons]; omega
  have h1 := h (pathsK c) []
  have h2 : (pathsK c).length ≤ 2 := by rw [pathsK]; split <;> (try split) <;> simp
  rw [locksD]
  simp only [List.length_nil] at h1
  omega
theorem locksO_len (l : List Nd) (ds : List Int) : (locksO l ds).length = ds.length := by
  unfold locksO
  split
  · split <;> rfl
  · rfl
theorem locksT_len (l : List Nd) (c : Cal) : (locksT l c).length ≤ 3 := by
  have := locksD_len l c
  rw [locksT, List.length_cons, locksO_len]; omega
theorem turnN_skip {has ks : List Int} {k : Int} (h : has.contains k = true) : turnN has (k :: ks) = turnN has ks := by rw [turnN, if_pos h]
theorem turnN_here {has ks : List Int} {k : Int} (h : has.contains k = false) : turnN has (k :: ks) = ⟨1, k⟩ := by rw [turnN, if_neg (by rw [h]; intro q; cases q)]

theorem turner_c (b f1 f2 f3 : Bool) (l : List Nd) (t : Thr) (hp : t.call.path.length ≤ 1048576) (ht : t.call.to.length ≤ 1048576) (hl : l.length ≤ 1073741824) (H : AHeap) :
    FnC Tryz.prog 148 [caA t.call, .sl b (l.map ndA), thA f1 f2 f3 t] H (trA (turnN t.has (locksT l t.call))) := by
  refine fnC_of Tryz.func148 rfl (Nat.le_of_ble_eq_true rfl) ?_
  have hlc := locks_c b l t.call hp ht hl
  obtain ⟨ks, hks⟩ : ∃ ks, locksT l t.call = ks := ⟨_, rfl⟩
  rw [hks] at hlc ⊢
  have hkl : ks.length ≤ 1000 := by
    rw [← hks]
    have := locksT_len l t.call
    omega
  unfold thA thF
  simp only [caA] at hlc ⊢
  have ct0 := ct hlc callOk32F; repeat' first | ((first | refine cK (by assumption) ?_ | refine cP (by assumption) ?_ | refine cM (by assumption) ?_ | refine callP_false (.bool false) ?_ | refine aw_region rfl ?_ | refine aw_region_draw mixedF rfl (by kernel_rfl) ?_ | refine aE rfl ?_); simp only [go_sem]) | refine callG_y ?_ | refine callG_p ?_ | refine aw_seq ?_ | refine aw_block ?_ | refine aw_scope ?_ | (refine aw_cond rfl (fun h => ?_) (fun h => ?_) <;> try (exfalso; first | (simp at h; done) | (simp at h; omega))) | ((with_reducible refine And.intro ?_ ?_); focus (first | omega | (intros; simp_all; done) | (simp; omega)))
  refine aw_loopS (ι := Nat) (fun k => [(5, .ref (H.length + 1) 0 0), (6, .ref (H.length + 2) 0 0), (11, .sl false (ks.map inA)), (12, .int .i64 ks.length), (13, .int .i64 k)]) (fun _ => H ++ [.cells 0 (caA t.call).cells, .cells 0 (thA f1 f2 f3 t).cells, .cells 0 [.int .i64 0, .int .i64 0]]) (fun k => k ≤ ks.length ∧ turnN t.has ks = turnN t.has (ks.drop k)) (fun k => ks.length - k) 0 ⟨Nat.zero_le _, rfl⟩ ?_ rfl ?_
  · simp [go_sem]
  · rintro k ⟨hk, he⟩
    by_cases hlt : k < ks.length
    · have hg := getD_map inA hlt
      have hli : decide ((k : Int) < (ks.length : Int)) = true := decide_eq_true (by omega)
      have hw : IntKind.i64.wrap ((k : Int) + 1) = ((k + 1 : Nat) : Int) := by rw [wrap_i64 (by omega) (by omega)]; omega
      have hc := hasInt_c f1 t.has ks[k]
      rw [any_has] at hc
      rw [List.drop_eq_getElem_cons hlt] at he
      cases hh : t.has.contains ks[k] with
      | true =>
        rw [turnN_skip hh] at he
        rw [hh] at hc
        have ct0 := ct hc callOk60F; repeat' first | ((first | refine cK (by assumption) ?_ | refine cP (by assumption) ?_ | refine cM (by assumption) ?_ | refine callP_false (.bool false) ?_ | refine aw_region rfl ?_ | refine aw_region_draw mixedF rfl (by kernel_rfl) ?_ | refine aE rfl ?_); simp only [go_sem, hg, hli, caA, thA, thF, inA]) | refine callG_y ?_ | refine callG_p ?_ | refine aw_seq ?_ | refine aw_block ?_ | refine aw_scope ?_ | (refine aw_cond rfl (fun h => ?_) (fun h => ?_) <;> try (exfalso; first | (simp at h; done) | (simp at h; omega))) | ((with_reducible refine And.intro ?_ ?_); focus (first | omega | (intros; simp_all; done) | (simp; omega)))
        first
          | exact ⟨k + 1, ⟨hlt, he⟩, by omega, congrArg _ hw⟩
          | exact ⟨k + 1, ⟨hlt, he⟩, by omega, congrArg _ hw, rfl⟩
      | false =>
        rw [turnN_here hh] at he
        rw [hh] at hc
        rw [he]
        have ct0 := ct hc callOk60F; repeat' first | ((first | refine cK (by assumption) ?_ | refine cP (by assumption) ?_ | refine cM (by assumption) ?_ | refine callP_false (.bool false) ?_ | refine aw_region rfl ?_ | refine aw_region_draw mixedF rfl (by kernel_rfl) ?_ | refine aE rfl ?_); simp only [go_sem, hg, hli, caA, thA, thF, inA]) | refine callG_y ?_ | refine callG_p ?_ | refine aw_seq ?_ | refine aw_block ?_ | refine aw_scope ?_ | (refine aw_cond rfl (fun h => ?_) (fun h => ?_) <;> try (exfalso; first | (simp at h; done) | (simp at h; omega))) | ((with_reducible refine And.intro ?_ ?_); focus (first | omega | (intros; simp_all; done) | (simp; omega)))
        exact done (by simp only [go_sem]) (.refl _)
    · have hke : k = ks.length := by omega
      subst hke
      have hli : decide ((ks.length : Int) < (ks.length : Int)) = false := by simp
      rw [List.drop_length] at he
      rw [he]
      repeat' first | ((first | refine callP_false (.bool false) ?_ | refine aw_region rfl ?_ | refine aw_region_draw mixedF rfl (by kernel_rfl) ?_ | refine aE rfl ?_); simp only [go_sem, hli, caA, thA, thF]) | refine callG_y ?_ | refine callG_p ?_ | refine aw_seq ?_ | refine aw_block ?_ | refine aw_scope ?_ | (refine aw_cond rfl (fun h => ?_) (fun h => ?_) <;> try (exfalso; first | (simp at h; done) | (simp at h; omega))) | ((with_reducible refine And.intro ?_ ?_); focus (first | omega | (intros; simp_all; done) | (simp; omega)))
      exact done (by simp only [go_sem]) (.refl _)

set_option maxHeartbeats 16000000 in
theorem walker_c (b f1 f2 f3 f4 : Bool) (l : List Nd) (names : List Txt) (t : Thr) (hl : l.length ≤ 1073741824) (hn : names.length ≤ 16) (H : AHeap) :
    FnC Tryz.prog 147 [.agg [.sl f4 (names.map AV.str)], .sl b (l.map ndA), thA f1 f2 f3 t] H (trA (walkN l names t)) := by
  refine fnC_of Tryz.func147 rfl (Nat.le_of_ble_eq_true rfl) ?_
  unfold thA thF
  rcases hh : t.has with _ | ⟨here, _ | ⟨h2, hs⟩⟩
  · rw [walkN, hh]
    simp only [List.map_nil]
    repeat' first | ((first | refine callP_false (.bool false) ?_ | refine aw_region rfl ?_ | refine aw_region_draw mixedF rfl (by kernel_rfl) ?_ | refine aE rfl ?_); simp only [go_sem]) | refine callG_y ?_ | refine callG_p ?_ | refine aw_seq ?_ | refine aw_block ?_ | refine aw_scope ?_ | (refine aw_cond rfl (fun h => ?_) (fun h => ?_) <;> try (exfalso; first | (simp at h; done) | (simp at h; omega))) | ((with_reducible refine And.intro ?_ ?_); focus (first | omega | (intros; simp_all; done) | (simp; omega)))
    exact done (by simp only [go_sem]) (.refl _)
  · have e1 : decide (((1 : Nat) : Int) = 0) = false := rfl
    have e2 : ((0 : Int) < ((1 : Nat) : Int)) = True := eq_true (by omega)
    have e3 : decide ((1 : Int) < ((1 : Nat) : Int)) = false := rfl
    have hf := vfind_c b f4 l names hl
    obtain ⟨⟨d, e⟩, hde⟩ : ∃ r, findN l names = r := ⟨_, rfl⟩
    rw [walkN, hh]
    simp only [hde] at hf ⊢
    simp only [findV] at hf
    have hdir := dir_c d
    simp only [List.map_cons, List.map_nil]
    by_cases h0 : 0 ≤ t.at_
    · have hz0 : decide (0 ≤ t.at_) = true := decide_eq_true h0
      rw [if_pos h0]
      by_cases hlt : t.at_.toNat < names.length
      · have hz1 : decide (t.at_ < (names.length : Int)) = true := decide_eq_true (by omega)
        have hix : (0 ≤ t.at_ ∧ t.at_ < (names.length : Int)) = True := eq_true ⟨h0, by omega⟩
        have hg := getD_map AV.str hlt
        rw [List.getElem?_eq_getElem hlt]
        simp only [Option.bind_some]
        have hch := child_c b l here names[t.at_.toNat] hl
        cases hc : childN l here names[t.at_.toNat] with
        | none =>
          rw [hc] at hch
          simp only [childV, Option.map_none, Option.getD_none, Option.isSome_none] at hch ⊢
          by_cases he0 : e = 0
          · subst he0
            cases hdd : dirI d with
            | false =>
              rw [hdd] at hdir
              rw [if_neg (by rintro ⟨_, h, _⟩; cases h)]
              have ct0 := ct hch callOk84F; have ct1 := ct hf callOk56F; have ct2 := ct hdir callOk57F; repeat' first | ((first | refine cK (by assumption) ?_ | refine cP (by assumption) ?_ | refine cM (by assumption) ?_ | refine callP_false (.bool false) ?_ | refine aw_region rfl ?_ | refine aw_region_draw mixedF rfl (by kernel_rfl) ?_ | refine aE rfl ?_); simp only [go_sem, e1, e2, e3, inA, hz0, hz1, hix, hg, decide_true]) | refine callG_y ?_ | refine callG_p ?_ | refine aw_seq ?_ | refine aw_block ?_ | refine aw_scope ?_ | (refine aw_cond rfl (fun h => ?_) (fun h => ?_) <;> try (exfalso; first | (simp at h; done) | (simp at h; omega))) | ((with_reducible refine And.intro ?_ ?_); focus (first | omega | (intros; simp_all; done) | (simp; omega)))
              exact done (by simp only [go_sem]) (.refl _)
            | true =>
              rw [hdd] at hdir
              by_cases hdh : d = here
              · rw [if_neg (fun h => h.2.2 hdh)]
                have hz : decide (d = here) = true := decide_eq_true hdh
                have ct0 := ct hch callOk84F; have ct1 := ct hf callOk56F; have ct2 := ct hdir callOk57F; repeat' first | ((first | refine cK (by assumption) ?_ | refine cP (by assumption) ?_ | refine cM (by assumption) ?_ | refine callP_false (.bool false) ?_ | refine aw_region rfl ?_ | refine aw_region_draw mixedF rfl (by kernel_rfl) ?_ | refine aE rfl ?_); simp only [go_sem, e1, e2, e3, inA, hz0, hz1, hix, hg, hz, decide_true]) | refine callG_y ?_ | refine callG_p ?_ | refine aw_seq ?_ | refine aw_block ?_ | refine aw_scope ?_ | (refine aw_cond rfl (fun h => ?_) (fun h => ?_) <;> try (exfalso; first | (simp at h; done) | (simp at h; omega))) | ((with_reducible refine And.intro ?_ ?_); focus (first | omega | (intros; simp_all; done) | (simp; omega)))
                exact done (by simp only [go_sem]) (.refl _)
              · rw [if_pos ⟨rfl, rfl, hdh⟩]
                have hz : decide (d = here) = false := decide_eq_false hdh
                have ct0 := ct hch callOk84F; have ct1 := ct hf callOk56F; have ct2 := ct hdir callOk57F; repeat' first | ((first | refine cK (by assumption) ?_ | refine cP (by assumption) ?_ | refine cM (by assumption) ?_ | refine callP_false (.bool false) ?_ | refine aw_region rfl ?_ | refine aw_region_draw mixedF rfl (by kernel_rfl) ?_ | refine aE rfl ?_); simp only [go_sem, e1, e2, e3, inA, hz0, hz1, hix, hg, hz, decide_true]) | refine callG_y ?_ | refine callG_p ?_ | refine aw_seq ?_ | refine aw_block ?_ | refine aw_scope ?_ | (refine aw_cond rfl (fun h => ?_) (fun h => ?_) <;> try (exfalso; first | (simp at h; done) | (simp at h; omega))) | ((with_reducible refine And.intro ?_ ?_); focus (first | omega | (intros; simp_all; done) | (simp; omega)))
                exact done (by simp only [go_sem]) (.refl _)
          · rw [if_neg (fun h => he0 h.1)]
            have hez : decide (e = 0) = false := decide_eq_false he0
            have ct0 := ct hch callOk84F; have ct1 := ct hf callOk56F; repeat' first | ((first | refine cK (by assumption) ?_ | refine cP (by assumption) ?_ | refine cM (by assumption) ?_ | refine callP_false (.bool false) ?_ | refine aw_region rfl ?_ | refine aw_region_draw mixedF rfl (by kernel_rfl) ?_ | refine aE rfl ?_); simp only [go_sem, e1, e2, e3, inA, hz0, hz1, hix, hg, hez]) | refine callG_y ?_ | refine callG_p ?_ | refine aw_seq ?_ | refine aw_block ?_ | refine aw_scope ?_ | (refine aw_cond rfl (fun h => ?_) (fun h => ?_) <;> try (exfalso; first | (simp at h; done) | (simp at h; omega))) | ((with_reducible refine And.intro ?_ ?_); focus (first | omega | (intros; simp_all; done) | (simp; omega)))
            exact done (by simp only [go_sem]) (.refl _)

        | some n =>
          rw [hc] at hch
          have hdn := dir_c n.id
          simp only [childV, Option.map_some, Option.getD_some, Option.isSome_some] at hch ⊢
          cases hdi : dirI n.id with
          | true =>
            rw [hdi] at hdn
            rw [if_pos rfl]
            have ct0 := ct hch callOk84F; have ct1 := ct hdn callOk57F; repeat' first | ((first | refine cK (by assumption) ?_ | refine cP (by assumption) ?_ | refine cM (by assumption) ?_ | refine callP_false (.bool false) ?_ | refine aw_region rfl ?_ | refine aw_region_draw mixedF rfl (by kernel_rfl) ?_ | refine aE rfl ?_); simp only [go_sem, e1, e2, e3, inA, hz0, hz1, hix, hg]) | refine callG_y ?_ | refine callG_p ?_ | refine aw_seq ?_ | refine aw_block ?_ | refine aw_scope ?_ | (refine aw_cond rfl (fun h => ?_) (fun h => ?_) <;> try (exfalso; first | (simp at h; done) | (simp at h; omega))) | ((with_reducible refine And.intro ?_ ?_); focus (first | omega | (intros; simp_all; done) | (simp; omega)))
            exact done (by simp only [go_sem]) (.refl _)
          | false =>
            rw [hdi] at hdn
            rw [if_neg (fun h => by cases h)]
            by_cases he0 : e = 0
            · subst he0
              cases hdd : dirI d with
              | false =>
                rw [hdd] at hdir
                rw [if_neg (by rintro ⟨_, h, _⟩; cases h)]
                have ct0 := ct hch callOk84F; have ct1 := ct hdn callOk57F; have ct2 := ct hf callOk56F; have ct3 := ct hdir callOk57F; repeat' first | ((first | refine cK (by assumption) ?_ | refine cP (by assumption) ?_ | refine cM (by assumption) ?_ | refine callP_false (.bool false) ?_ | refine aw_region rfl ?_ | refine aw_region_draw mixedF rfl (by kernel_rfl) ?_ | refine aE rfl ?_); simp only [go_sem, e1, e2, e3, inA, hz0, hz1, hix, hg, decide_true]) | refine callG_y ?_ | refine callG_p ?_ | refine aw_seq ?_ | refine aw_block ?_ | refine aw_scope ?_ | (refine aw_cond rfl (fun h => ?_) (fun h => ?_) <;> try (exfalso; first | (simp at h; done) | (simp at h; omega))) | ((with_reducible refine And.intro ?_ ?_); focus (first | omega | (intros; simp_all; done) | (simp; omega)))
                exact done (by simp only [go_sem]) (.refl _)
              | true =>
                rw [hdd] at hdir
                by_cases hdh : d = here
                · rw [if_neg (fun h => h.2.2 hdh)]
                  have hz : decide (d = here) = true := decide_eq_true hdh
                  have ct0 := ct hch callOk84F; have ct1 := ct hdn callOk57F; have ct2 := ct hf callOk56F; have ct3 := ct hdir callOk57F; repeat' first | ((first | refine cK (by assumption) ?_ | refine cP (by assumption) ?_ | refine cM (by assumption) ?_ | refine callP_false (.bool false) ?_ | refine aw_region rfl ?_ | refine aw_region_draw mixedF rfl (by kernel_rfl) ?_ | refine aE rfl ?_); simp only [go_sem, e1, e2, e3, inA, hz0, hz1, hix, hg, hz, decide_true]) | refine callG_y ?_ | refine callG_p ?_ | refine aw_seq ?_ | refine aw_block ?_ | refine aw_scope ?_ | (refine aw_cond rfl (fun h => ?_) (fun h => ?_) <;> try (exfalso; first | (simp at h; done) | (simp at h; omega))) | ((with_reducible refine And.intro ?_ ?_); focus (first | omega | (intros; simp_all; done) | (simp; omega)))
                  exact done (by simp only [go_sem]) (.refl _)
                · rw [if_pos ⟨rfl, rfl, hdh⟩]
                  have hz : decide (d = here) = false := decide_eq_false hdh
                  have ct0 := ct hch callOk84F; have ct1 := ct hdn callOk57F; have ct2 := ct hf callOk56F; have ct3 := ct hdir callOk57F; repeat' first | ((first | refine cK (by assumption) ?_ | refine cP (by assumption) ?_ | refine cM (by assumption) ?_ | refine callP_false (.bool false) ?_ | refine aw_region rfl ?_ | refine aw_region_draw mixedF rfl (by kernel_rfl) ?_ | refine aE rfl ?_); simp only [go_sem, e1, e2, e3, inA, hz0, hz1, hix, hg, hz, decide_true]) | refine callG_y ?_ | refine callG_p ?_ | refine aw_seq ?_ | refine aw_block ?_ | refine aw_scope ?_ | (refine aw_cond rfl (fun h => ?_) (fun h => ?_) <;> try (exfalso; first | (simp at h; done) | (simp at h; omega))) | ((with_reducible refine And.intro ?_ ?_); focus (first | omega | (intros; simp_all; done) | (simp; omega)))
                  exact done (by simp only [go_sem]) (.refl _)
            · rw [if_neg (fun h => he0 h.1)]
              have hez : decide (e = 0) = false := decide_eq_false he0
              have ct0 := ct hch callOk84F; have ct1 := ct hdn callOk57F; have ct2 := ct hf callOk56F; repeat' first | ((first | refine cK (by assumption) ?_ | refine cP (by assumption) ?_ | refine cM (by assumption) ?_ | refine callP_false (.bool false) ?_ | refine aw_region rfl ?_ | refine aw_region_draw mixedF rfl (by kernel_rfl) ?_ | refine aE rfl ?_); simp only [go_sem, e1, e2, e3, inA, hz0, hz1, hix, hg, hez]) | refine callG_y ?_ | refine callG_p ?_ | refine aw_seq ?_ | refine aw_block ?_ | refine aw_scope ?_ | (refine aw_cond rfl (fun h => ?_) (fun h => ?_) <;> try (exfalso; first | (simp at h; done) | (simp at h; omega))) | ((with_reducible refine And.intro ?_ ?_); focus (first | omega | (intros; simp_all; done) | (simp; omega)))
              exact done (by simp only [go_sem]) (.refl _)

      · have hz1 : decide (t.at_ < (names.length : Int)) = false := decide_eq_false (by omega)
        rw [List.getElem?_eq_none (by omega)]
        simp only [Option.bind_none]
        by_cases he0 : e = 0
        · subst he0
          cases hdd : dirI d with
          | false =>
            rw [hdd] at hdir
            rw [if_neg (by rintro ⟨_, h, _⟩; cases h)]
            have ct0 := ct hf callOk56F; have ct1 := ct hdir callOk57F; repeat' first | ((first | refine cK (by assumption) ?_ | refine cP (by assumption) ?_ | refine cM (by assumption) ?_ | refine callP_false (.bool false) ?_ | refine aw_region rfl ?_ | refine aw_region_draw mixedF rfl (by kernel_rfl) ?_ | refine aE rfl ?_); simp only [go_sem, e1, e2, e3, inA, hz0, hz1, decide_true]) | refine callG_y ?_ | refine callG_p ?_ | refine aw_seq ?_ | refine aw_block ?_ | refine aw_scope ?_ | (refine aw_cond rfl (fun h => ?_) (fun h => ?_) <;> try (exfalso; first | (simp at h; done) | (simp at h; omega))) | ((with_reducible refine And.intro ?_ ?_); focus (first | omega | (intros; simp_all; done) | (simp; omega)))
            exact done (by simp only [go_sem]) (.refl _)
          | true =>
            rw [hdd] at hdir
            by_cases hdh : d = here
            · rw [if_neg (fun h => h.2.2 hdh)]
              have hz : decide (d = here) = true := decide_eq_true hdh
              have ct0 := ct hf callOk56F; have ct1 := ct hdir callOk57F; repeat' first | ((first | refine cK (by assumption) ?_ | refine cP (by assumption) ?_ | refine cM (by assumption) ?_ | refine callP_false (.bool false) ?_ | refine aw_region rfl ?_ | refine aw_region_draw mixedF rfl (by kernel_rfl) ?_ | refine aE rfl ?_); simp only [go_sem, e1, e2, e3, inA, hz0, hz1, hz, decide_true]) | refine callG_y ?_ | refine callG_p ?_ | refine aw_seq ?_ | refine aw_block ?_ | refine aw_scope ?_ | (refine aw_cond rfl (fun h => ?_) (fun h => ?_) <;> try (exfalso; first | (simp at h; done) | (simp at h; omega))) | ((with_reducible refine And.intro ?_ ?_); focus (first | omega | (intros; simp_all; done) | (simp; omega)))
              exact done (by simp only [go_sem]) (.refl _)
            · rw [if_pos ⟨rfl, rfl, hdh⟩]
              have hz : decide (d = here) = false := decide_eq_false hdh
              have ct0 := ct hf callOk56F; have ct1 := ct hdir callOk57F; repeat' first | ((first | refine cK (by assumption) ?_ | refine cP (by assumption) ?_ | refine cM (by assumption) ?_ | refine callP_false (.bool false) ?_ | refine aw_region rfl ?_ | refine aw_region_draw mixedF rfl (by kernel_rfl) ?_ | refine aE rfl ?_); simp only [go_sem, e1, e2, e3, inA, hz0, hz1, hz, decide_true]) | refine callG_y ?_ | refine callG_p ?_ | refine aw_seq ?_ | refine aw_block ?_ | refine aw_scope ?_ | (refine aw_cond rfl (fun h => ?_) (fun h => ?_) <;> try (exfalso; first | (simp at h; done) | (simp at h; omega))) | ((with_reducible refine And.intro ?_ ?_); focus (first | omega | (intros; simp_all; done) | (simp; omega)))
              exact done (by simp only [go_sem]) (.refl _)
        · rw [if_neg (fun h => he0 h.1)]
          have hez : decide (e = 0) = false := decide_eq_false he0
          have ct0 := ct hf callOk56F; repeat' first | ((first | refine cK (by assumption) ?_ | refine cP (by assumption) ?_ | refine cM (by assumption) ?_ | refine callP_false (.bool false) ?_ | refine aw_region rfl ?_ | refine aw_region_draw mixedF rfl (by kernel_rfl) ?_ | refine aE rfl ?_); simp only [go_sem, e1, e2, e3, inA, hz0, hz1, hez]) | refine callG_y ?_ | refine callG_p ?_ | refine aw_seq ?_ | refine aw_block ?_ | refine aw_scope ?_ | (refine aw_cond rfl (fun h => ?_) (fun h => ?_) <;> try (exfalso; first | (simp at h; done) | (simp at h; omega))) | ((with_reducible refine And.intro ?_ ?_); focus (first | omega | (intros; simp_all; done) | (simp; omega)))
          exact done (by simp only [go_sem]) (.refl _)

    · have hz0 : decide (0 ≤ t.at_) = false := decide_eq_false h0
      rw [if_neg h0]
      simp only [Option.bind_none]
      by_cases he0 : e = 0
      · subst he0
        cases hdd : dirI d with
        | false =>
          rw [hdd] at hdir
          rw [if_neg (by rintro ⟨_, h, _⟩; cases h)]
          have ct0 := ct hf callOk56F; have ct1 := ct hdir callOk57F; repeat' first | ((first | refine cK (by assumption) ?_ | refine cP (by assumption) ?_ | refine cM (by assumption) ?_ | refine callP_false (.bool false) ?_ | refine aw_region rfl ?_ | refine aw_region_draw mixedF rfl (by kernel_rfl) ?_ | refine aE rfl ?_); simp only [go_sem, e1, e2, e3, inA, hz0, decide_true]) | refine callG_y ?_ | refine callG_p ?_ | refine aw_seq ?_ | refine aw_block ?_ | refine aw_scope ?_ | (refine aw_cond rfl (fun h => ?_) (fun h => ?_) <;> try (exfalso; first | (simp at h; done) | (simp at h; omega))) | ((with_reducible refine And.intro ?_ ?_); focus (first | omega | (intros; simp_all; done) | (simp; omega)))
          exact done (by simp only [go_sem]) (.refl _)
        | true =>
          rw [hdd] at hdir
          by_cases hdh : d = here
          · rw [if_neg (fun h => h.2.2 hdh)]
            have hz : decide (d = here) = true := decide_eq_true hdh
            have ct0 := ct hf callOk56F; have ct1 := ct hdir callOk57F; repeat' first | ((first | refine cK (by assumption) ?_ | refine cP (by assumption) ?_ | refine cM (by assumption) ?_ | refine callP_false (.bool false) ?_ | refine aw_region rfl ?_ | refine aw_region_draw mixedF rfl (by kernel_rfl) ?_ | refine aE rfl ?_); simp only [go_sem, e1, e2, e3, inA, hz0, hz, decide_true]) | refine callG_y ?_ | refine callG_p ?_ | refine aw_seq ?_ | refine aw_block ?_ | refine aw_scope ?_ | (refine aw_cond rfl (fun h => ?_) (fun h => ?_) <;> try (exfalso; first | (simp at h; done) | (simp at h; omega))) | ((with_reducible refine And.intro ?_ ?_); focus (first | omega | (intros; simp_all; done) | (simp; omega)))
            exact done (by simp only [go_sem]) (.refl _)
          · rw [if_pos ⟨rfl, rfl, hdh⟩]
            have hz : decide (d = here) = false := decide_eq_false hdh
            have ct0 := ct hf callOk56F; have ct1 := ct hdir callOk57F; repeat' first | ((first | refine cK (by assumption) ?_ | refine cP (by assumption) ?_ | refine cM (by assumption) ?_ | refine callP_false (.bool false) ?_ | refine aw_region rfl ?_ | refine aw_region_draw mixedF rfl (by kernel_rfl) ?_ | refine aE rfl ?_); simp only [go_sem, e1, e2, e3, inA, hz0, hz, decide_true]) | refine callG_y ?_ | refine callG_p ?_ | refine aw_seq ?_ | refine aw_block ?_ | refine aw_scope ?_ | (refine aw_cond rfl (fun h => ?_) (fun h => ?_) <;> try (exfalso; first | (simp at h; done) | (simp at h; omega))) | ((with_reducible refine And.intro ?_ ?_); focus (first | omega | (intros; simp_all; done) | (simp; omega)))
            exact done (by simp only [go_sem]) (.refl _)
      · rw [if_neg (fun h => he0 h.1)]
        have hez : decide (e = 0) = false := decide_eq_false he0
        have ct0 := ct hf callOk56F; repeat' first | ((first | refine cK (by assumption) ?_ | refine cP (by assumption) ?_ | refine cM (by assumption) ?_ | refine callP_false (.bool false) ?_ | refine aw_region rfl ?_ | refine aw_region_draw mixedF rfl (by kernel_rfl) ?_ | refine aE rfl ?_); simp only [go_sem, e1, e2, e3, inA, hz0, hez]) | refine callG_y ?_ | refine callG_p ?_ | refine aw_seq ?_ | refine aw_block ?_ | refine aw_scope ?_ | (refine aw_cond rfl (fun h => ?_) (fun h => ?_) <;> try (exfalso; first | (simp at h; done) | (simp at h; omega))) | ((with_reducible refine And.intro ?_ ?_); focus (first | omega | (intros; simp_all; done) | (simp; omega)))
        exact done (by simp only [go_sem]) (.refl _)

  · rw [walkN, hh]
    have e1 : decide (((hs.length + 2 : Nat) : Int) = 0) = false := decide_eq_false (by omega)
    have e2 : ((0 : Int) < ((hs.length + 2 : Nat) : Int)) = True := eq_true (by omega)
    have e3 : decide ((1 : Int) < ((hs.length + 2 : Nat) : Int)) = true := decide_eq_true (by omega)
    simp only [List.map_cons]
    repeat' first | ((first | refine callP_false (.bool false) ?_ | refine aw_region rfl ?_ | refine aw_region_draw mixedF rfl (by kernel_rfl) ?_ | refine aE rfl ?_); simp only [go_sem, e1, e2, e3, inA]) | refine callG_y ?_ | refine callG_p ?_ | refine aw_seq ?_ | refine aw_block ?_ | refine aw_scope ?_ | (refine aw_cond rfl (fun h => ?_) (fun h => ?_) <;> try (exfalso; first | (simp at h; done) | (simp at h; omega))) | ((with_reducible refine And.intro ?_ ?_); focus (first | omega | (intros; simp_all; done) | (simp; omega)))
    exact done (by simp only [go_sem]) (.refl _)
theorem wnames_len (c : Cal) : (wnames c).length ≤ 16 := by
  unfold wnames
  split
  · simp
  · rename_i l h
    have := namesOf_len h
    split
    · exact this
    · rw [List.length_dropLast]; omega
theorem next_c (b f1 f2 f3 : Bool) (l : List Nd) (t : Thr) (hp : t.call.path.length ≤ 1048576) (ht : t.call.to.length ≤ 1048576) (hl : l.length ≤ 1073741824) (H : AHeap) :
    FnC Tryz.prog 14 [.sl b (l.map ndA), thA f1 f2 f3 t] H (trA (nextT l t)) := by
  refine fnC_of Tryz.func14 rfl (Nat.le_of_ble_eq_true rfl) ?_
  unfold thA thF
  unfold nextT
  cases hen : t.ended with
  | true =>
    rw [if_pos rfl]
    repeat' first | ((first | refine callP_false (.bool false) ?_ | refine aw_region rfl ?_ | refine aw_region_draw mixedF rfl (by kernel_rfl) ?_ | refine aE rfl ?_); simp only [go_sem]) | refine callG_y ?_ | refine callG_p ?_ | refine aw_seq ?_ | refine aw_block ?_ | refine aw_scope ?_ | (refine aw_cond rfl (fun h => ?_) (fun h => ?_) <;> try (exfalso; first | (simp at h; done) | (simp at h; omega))) | ((with_reducible refine And.intro ?_ ?_); focus (first | omega | (intros; simp_all; done) | (simp; omega)))
    exact done (by simp only [go_sem]) (.refl _)
  | false =>
    rw [if_neg (fun h => by cases h)]
    cases hdo : t.done with
    | true =>
      rw [if_pos rfl]
      cases hha : t.has with
      | nil =>
        simp only [List.map_nil]
        by_cases hk : t.call.kind = 12
        · have e1 : decide (t.call.kind = 12) = true := decide_eq_true hk
          rw [if_pos hk]
          repeat' first | ((first | refine callP_false (.bool false) ?_ | refine aw_region rfl ?_ | refine aw_region_draw mixedF rfl (by kernel_rfl) ?_ | refine aE rfl ?_); simp only [go_sem, e1]) | refine callG_y ?_ | refine callG_p ?_ | refine aw_seq ?_ | refine aw_block ?_ | refine aw_scope ?_ | (refine aw_cond rfl (fun h => ?_) (fun h => ?_) <;> try (exfalso; first | (simp at h; done) | (simp at h; omega))) | ((with_reducible refine And.intro ?_ ?_); focus (first | omega | (intros; simp_all; done) | (simp; omega)))
          exact done (by simp only [go_sem]) (.refl _)
        · have e1 : decide (t.call.kind = 12) = false := decide_eq_false hk
          rw [if_neg hk]
          repeat' first | ((first | refine callP_false (.bool false) ?_ | refine aw_region rfl ?_ | refine aw_region_draw mixedF rfl (by kernel_rfl) ?_ | refine aE rfl ?_); simp only [go_sem, e1]) | refine callG_y ?_ | refine callG_p ?_ | refine aw_seq ?_ | refine aw_block ?_ | refine aw_scope ?_ | (refine aw_cond rfl (fun h => ?_) (fun h => ?_) <;> try (exfalso; first | (simp at h; done) | (simp at h; omega))) | ((with_reducible refine And.intro ?_ ?_); focus (first | omega | (intros; simp_all; done) | (simp; omega)))
          exact done (by simp only [go_sem]) (.refl _)
      | cons k ks =>
        have e2 : ((0 : Int) < ((ks.length + 1 : Nat) : Int)) = True := eq_true (by omega)
        have e3 : decide ((0 : Int) < ((ks.length + 1 : Nat) : Int)) = true := decide_eq_true (by omega)
        simp only [List.map_cons]
        repeat' first | ((first | refine callP_false (.bool false) ?_ | refine aw_region rfl ?_ | refine aw_region_draw mixedF rfl (by kernel_rfl) ?_ | refine aE rfl ?_); simp only [go_sem, e2, e3, inA]) | refine callG_y ?_ | refine callG_p ?_ | refine aw_seq ?_ | refine aw_block ?_ | refine aw_scope ?_ | (refine aw_cond rfl (fun h => ?_) (fun h => ?_) <;> try (exfalso; first | (simp at h; done) | (simp at h; omega))) | ((with_reducible refine And.intro ?_ ?_); focus (first | omega | (intros; simp_all; done) | (simp; omega)))
        exact done (by simp only [go_sem]) (.refl _)
    | false =>
      rw [if_neg (fun h => by cases h)]
      have hw := way_c t.call hp
      unfold wayV at hw
      cases htu : turnsK t.call with
      | true =>
        rw [htu, if_pos rfl] at hw
        rw [if_pos rfl]
        simp only [caA] at hw
        have hn := fun H => turner_c b f1 f2 f3 l t hp ht hl H
        unfold thA thF at hn
        simp only [caA, hen, hdo, trA] at hn
        have ct0 := ct hw callOk28F; repeat' first | ((first | refine cK (by assumption) ?_ | refine cP (by assumption) ?_ | refine cM (by assumption) ?_ | refine callK_cap (hn _) callOk148F ?_ | refine callP_cap (fun _ => hn _) callOk148F ?_ | refine callM_cap (fun _ => hn _) callOk148F ?_ | refine aw_region_mix (id := 9) [.pure 0, .pure 0, .pure 0, .free, .pure 0, .pure 0, .eff [false, false, false, false, false]] mixedF rfl (by kernel_rfl) (by kernel_rfl) ?_ | refine callP_false (.bool false) ?_ | refine aw_region rfl ?_ | refine aw_region_draw mixedF rfl (by kernel_rfl) ?_ | refine aE rfl ?_); simp only [go_sem, trA]) | refine callG_y ?_ | refine callG_p ?_ | refine aw_seq ?_ | refine aw_block ?_ | refine aw_scope ?_ | (refine aw_cond rfl (fun h => ?_) (fun h => ?_) <;> try (exfalso; first | (simp at h; done) | (simp at h; omega))) | ((with_reducible refine And.intro ?_ ?_); focus (first | omega | (intros; simp_all; done) | (simp; omega)))
        exact done (by simp only [go_sem]) (.refl _)
      | false =>
        rw [htu, if_neg (fun h => by cases h)] at hw
        rw [if_neg (fun h => by cases h)]
        cases hwa : walksK t.call with
        | true =>
          rw [hwa, if_pos rfl] at hw
          rw [if_pos rfl]
          simp only [caA] at hw
          have hn := fun H => walker_c b f1 f2 f3 false l (wnames t.call) t hl (wnames_len _) H
          unfold thA thF at hn
          simp only [caA, hen, hdo, trA] at hn
          have ct0 := ct hw callOk28F; repeat' first | ((first | refine cK (by assumption) ?_ | refine cP (by assumption) ?_ | refine cM (by assumption) ?_ | refine callK_cap (hn _) callOk147F ?_ | refine callP_cap (fun _ => hn _) callOk147F ?_ | refine callM_cap (fun _ => hn _) callOk147F ?_ | refine aw_region_mix (id := 9) [.pure 0, .pure 0, .pure 0, .free, .pure 0, .pure 0, .eff [false, false, false, false, false]] mixedF rfl (by kernel_rfl) (by kernel_rfl) ?_ | refine callP_false (.bool false) ?_ | refine aw_region rfl ?_ | refine aw_region_draw mixedF rfl (by kernel_rfl) ?_ | refine aE rfl ?_); simp only [go_sem, trA]) | refine callG_y ?_ | refine callG_p ?_ | refine aw_seq ?_ | refine aw_block ?_ | refine aw_scope ?_ | (refine aw_cond rfl (fun h => ?_) (fun h => ?_) <;> try (exfalso; first | (simp at h; done) | (simp at h; omega))) | ((with_reducible refine And.intro ?_ ?_); focus (first | omega | (intros; simp_all; done) | (simp; omega)))
          exact done (by simp only [go_sem]) (.refl _)
        | false =>
          rw [hwa, if_neg (fun h => by cases h)] at hw
          rw [if_neg (fun h => by cases h)]
          simp only [caA] at hw
          have hn := fun H => plain_c (.sl b (l.map ndA)) .top f1 f2 f3 t H
          unfold thA thF at hn
          simp only [caA, hen, hdo, trA] at hn
          have ct0 := ct hw callOk28F; repeat' first | ((first | refine cK (by assumption) ?_ | refine cP (by assumption) ?_ | refine cM (by assumption) ?_ | refine callK_cap (hn _) callOk149F ?_ | refine callP_cap (fun _ => hn _) callOk149F ?_ | refine callM_cap (fun _ => hn _) callOk149F ?_ | refine aw_region_mix (id := 9) [.pure 0, .pure 0, .pure 0, .free, .pure 0, .pure 0, .eff [false, false, false, false, false]] mixedF rfl (by kernel_rfl) (by kernel_rfl) ?_ | refine callP_false (.bool false) ?_ | refine aw_region rfl ?_ | refine aw_region_draw mixedF rfl (by kernel_rfl) ?_ | refine aE rfl ?_); simp only [go_sem, trA]) | refine callG_y ?_ | refine callG_p ?_ | refine aw_seq ?_ | refine aw_block ?_ | refine aw_scope ?_ | (refine aw_cond rfl (fun h => ?_) (fun h => ?_) <;> try (exfalso; first | (simp at h; done) | (simp at h; omega))) | ((with_reducible refine And.intro ?_ ?_); focus (first | omega | (intros; simp_all; done) | (simp; omega)))
          exact done (by simp only [go_sem]) (.refl _)
end Go.Proofs.YtmknmapgfjmioaaGreatDoor
/- plan.Locks: the locks of a call that turns the tree. No condition but the length of what comes in. -/
namespace Go.Proofs.YtmknmapgfjmioaaGreatDoor
open Go Go.Aw Go.Gw
set_option linter.unusedSimpArgs false
set_option linter.unusedVariables false
set_option maxRecDepth 20000
set_option maxHeartbeats 4000000

theorem plocks_c (b : Bool) (l : List Nd) (c : Cal) (hp : c.path.length ≤ 1048576) (ht : c.to.length ≤ 1048576) (hl : l.length ≤ 1073741824) (H : AHeap) :
    FnC Tryz.prog 10 [.sl b (l.map ndA), caA c] H (if turnsK c = true then .tup [.sl false ((locksT l c).map inA), .bool true] else .tup [.sl true [], .bool false]) := by
  refine fnC_of Tryz.func10 rfl (Nat.le_of_ble_eq_true rfl) ?_
  have hw := way_c c hp
  have hlc := locks_c b l c hp ht hl
  unfold wayV at hw
  cases htu : turnsK c with
  | true =>
    rw [htu, if_pos rfl] at hw
    rw [if_pos rfl]
    simp only [caA] at hw hlc
    have ct0 := ct hw callOk28F; have ct1 := ct hlc callOk32F; repeat' first | ((first | refine cK (by assumption) ?_ | refine cP (by assumption) ?_ | refine cM (by assumption) ?_ | refine callP_false (.bool false) ?_ | refine aw_region rfl ?_ | refine aw_region_draw mixedF rfl (by kernel_rfl) ?_ | refine aE rfl ?_); simp only [go_sem, caA]) | refine callG_y ?_ | refine callG_p ?_ | refine aw_seq ?_ | refine aw_block ?_ | refine aw_scope ?_ | (refine aw_cond rfl (fun h => ?_) (fun h => ?_) <;> try (exfalso; first | (simp at h; done) | (simp at h; omega))) | ((with_reducible refine And.intro ?_ ?_); focus (first | omega | (intros; simp_all; done) | (simp; omega)))
    exact done (by simp only [go_sem]) (.refl _)
  | false =>
    rw [htu, if_neg (fun h => by cases h)] at hw
    rw [if_neg (fun h => by cases h)]
    cases hwa : walksK c with
    | true =>
      rw [hwa, if_pos rfl] at hw
      simp only [caA] at hw
      have ct0 := ct hw callOk28F; repeat' first | ((first | refine cK (by assumption) ?_ | refine cP (by assumption) ?_ | refine cM (by assumption) ?_ | refine callP_false (.bool false) ?_ | refine aw_region rfl ?_ | refine aw_region_draw mixedF rfl (by kernel_rfl) ?_ | refine aE rfl ?_); simp only [go_sem, caA]) | refine callG_y ?_ | refine callG_p ?_ | refine aw_seq ?_ | refine aw_block ?_ | refine aw_scope ?_ | (refine aw_cond rfl (fun h => ?_) (fun h => ?_) <;> try (exfalso; first | (simp at h; done) | (simp at h; omega))) | ((with_reducible refine And.intro ?_ ?_); focus (first | omega | (intros; simp_all; done) | (simp; omega)))
      exact done (by simp only [go_sem]) (.refl _)
    | false =>
      rw [hwa, if_neg (fun h => by cases h)] at hw
      simp only [caA] at hw
      have ct0 := ct hw callOk28F; repeat' first | ((first | refine cK (by assumption) ?_ | refine cP (by assumption) ?_ | refine cM (by assumption) ?_ | refine callP_false (.bool false) ?_ | refine aw_region rfl ?_ | refine aw_region_draw mixedF rfl (by kernel_rfl) ?_ | refine aE rfl ?_); simp only [go_sem, caA]) | refine callG_y ?_ | refine callG_p ?_ | refine aw_seq ?_ | refine aw_block ?_ | refine aw_scope ?_ | (refine aw_cond rfl (fun h => ?_) (fun h => ?_) <;> try (exfalso; first | (simp at h; done) | (simp at h; omega))) | ((with_reducible refine And.intro ?_ ?_); focus (first | omega | (intros; simp_all; done) | (simp; omega)))
      exact done (by simp only [go_sem]) (.refl _)

theorem pnames_c (c : Cal) (hp : c.path.length ≤ 1048576) (H : AHeap) :
    FnC Tryz.prog 8 [caA c] H (if turnsK c = false ∧ walksK c = true then .tup [.sl false ((wnames c).map AV.str), .bool true] else .tup [.sl true [], .bool false]) := by
  refine fnC_of Tryz.func8 rfl (Nat.le_of_ble_eq_true rfl) ?_
  have hw := way_c c hp
  have hcl := cloneStr_c false (wnames c) (by have := wnames_len c; omega)
  unfold wayV at hw
  cases htu : turnsK c with
  | true =>
    rw [htu, if_pos rfl] at hw
    rw [if_neg (fun h => by cases h.1)]
    simp only [caA] at hw
    have ct0 := ct hw callOk28F; repeat' first | ((first | refine cK (by assumption) ?_ | refine cP (by assumption) ?_ | refine cM (by assumption) ?_ | refine callP_false (.bool false) ?_ | refine aw_region rfl ?_ | refine aw_region_draw mixedF rfl (by kernel_rfl) ?_ | refine aE rfl ?_); simp only [go_sem, caA]) | refine callG_y ?_ | refine callG_p ?_ | refine aw_seq ?_ | refine aw_block ?_ | refine aw_scope ?_ | (refine aw_cond rfl (fun h => ?_) (fun h => ?_) <;> try (exfalso; first | (simp at h; done) | (simp at h; omega))) | ((with_reducible refine And.intro ?_ ?_); focus (first | omega | (intros; simp_all; done) | (simp; omega)))
    exact done (by simp only [go_sem]) (.refl _)
  | false =>
    rw [htu, if_neg (fun h => by cases h)] at hw
    cases hwa : walksK c with
    | true =>
      rw [hwa, if_pos rfl] at hw
      rw [if_pos ⟨rfl, rfl⟩]
      simp only [caA] at hw
      have ct0 := ct hw callOk28F; have ct1 := ct hcl callOk29F; repeat' first | ((first | refine cK (by assumption) ?_ | refine cP (by assumption) ?_ | refine cM (by assumption) ?_ | refine callP_false (.bool false) ?_ | refine aw_region rfl ?_ | refine aw_region_draw mixedF rfl (by kernel_rfl) ?_ | refine aE rfl ?_); simp only [go_sem, caA]) | refine callG_y ?_ | refine callG_p ?_ | refine aw_seq ?_ | refine aw_block ?_ | refine aw_scope ?_ | (refine aw_cond rfl (fun h => ?_) (fun h => ?_) <;> try (exfalso; first | (simp at h; done) | (simp at h; omega))) | ((with_reducible refine And.intro ?_ ?_); focus (first | omega | (intros; simp_all; done) | (simp; omega)))
      exact done (by simp only [go_sem]) (.refl _)
    | false =>
      rw [hwa, if_neg (fun h => by cases h)] at hw
      rw [if_neg (fun h => by cases h.2)]
      simp only [caA] at hw
      have ct0 := ct hw callOk28F; repeat' first | ((first | refine cK (by assumption) ?_ | refine cP (by assumption) ?_ | refine cM (by assumption) ?_ | refine callP_false (.bool false) ?_ | refine aw_region rfl ?_ | refine aw_region_draw mixedF rfl (by kernel_rfl) ?_ | refine aE rfl ?_); simp only [go_sem, caA]) | refine callG_y ?_ | refine callG_p ?_ | refine aw_seq ?_ | refine aw_block ?_ | refine aw_scope ?_ | (refine aw_cond rfl (fun h => ?_) (fun h => ?_) <;> try (exfalso; first | (simp at h; done) | (simp at h; omega))) | ((with_reducible refine And.intro ?_ ?_); focus (first | omega | (intros; simp_all; done) | (simp; omega)))
      exact done (by simp only [go_sem]) (.refl _)
end Go.Proofs.YtmknmapgfjmioaaGreatDoor
/- What the document's package holds threads against each other by; short calls. No condition. -/
namespace Go.Gw
def longCal (c : Cal) : Bool := decide (1000 < (c.path.length : Int)) || decide (1000 < (c.to.length : Int)) || decide (5000 < (c.data.length : Int))
def fewCal (l : List Cal) (n : Int) : Bool := l.all (fun x => !longCal x) && decide ((l.length : Int) ≤ n)
theorem ev_eq (a b : Evt) : (decide (a.kind = b.kind) && decide (a.path = b.path)) = decide (a = b) := by
  obtain ⟨_, _⟩ := a
  obtain ⟨_, _⟩ := b
  rw [Bool.eq_iff_iff]; simp
end Go.Gw
namespace Go.Proofs.YtmknmapgfjmioaaGreatDoor
open Go Go.Aw Go.Gw
set_option linter.unusedSimpArgs false
set_option maxRecDepth 20000
set_option maxHeartbeats 4000000

theorem same9_c (b1 b2 : Bool) (l m : List Evt) (H : AHeap) : FnC Tryz.prog 67 [.sl b1 (l.map evA), .sl b2 (m.map evA)] H (.bool (decide (l = m))) := by
  refine fnC_ok2 fun hok _ => ?_
  have hl := ok_sl hok
  rw [List.length_map] at hl
  refine fnC_of Tryz.func67 rfl (Nat.le_of_ble_eq_true rfl) ?_
  repeat' first | ((first | refine callP_false (.bool false) ?_ | refine aw_region rfl ?_ | refine aw_region_draw mixedF rfl (by kernel_rfl) ?_ | refine aE rfl ?_); simp only [go_sem]) | refine callG_y ?_ | refine callG_p ?_ | refine aw_seq ?_ | refine aw_block ?_ | refine aw_scope ?_ | (refine aw_cond rfl (fun h => ?_) (fun h => ?_) <;> try (exfalso; first | (simp at h; done) | (simp at h; omega))) | ((with_reducible refine And.intro ?_ ?_); focus (first | omega | (intros; simp_all; done) | (simp; omega)))
  · exact done0 (by simp only [go_sem]) (.of (by rw [decide_eq_false (fun e => by subst e; simp at h)]))
  · have hlen : l.length = m.length := by simp at h; omega
    refine aw_loopS (ι := Nat) (fun i => [(0, .sl b1 (l.map evA)), (1, .sl b2 (m.map evA)), (5, .int .i64 i)]) (fun _ => H) (fun i => i ≤ l.length ∧ l.take i = m.take i) (fun i => l.length - i) 0 ⟨Nat.zero_le _, rfl⟩ ?_ rfl ?_
    · simp [go_sem]
    · rintro i ⟨hi, he⟩
      by_cases hlt : i < l.length
      · have hp := getD_map evA hlt
        have hq := getD_map evA (show i < m.length by omega)
        repeat' first | ((first | refine callP_false (.bool false) ?_ | refine aw_region rfl ?_ | refine aw_region_draw mixedF rfl (by kernel_rfl) ?_ | refine aE rfl ?_); simp only [go_sem, hp, hq, evA]) | refine callG_y ?_ | refine callG_p ?_ | refine aw_seq ?_ | refine aw_block ?_ | refine aw_scope ?_ | (refine aw_cond rfl (fun h => ?_) (fun h => ?_) <;> try (exfalso; first | (simp at h; done) | (simp at h; omega))) | ((with_reducible refine And.intro ?_ ?_); focus (first | omega | (intros; simp_all; done) | (simp; omega)))
        · rw [ev_eq] at h
          have hne : l[i] ≠ m[i] := by simpa using h
          exact done0 (by simp only [go_sem]) (.of (by rw [decide_eq_false (fun e => hne (by subst e; rfl))]))
        · rw [ev_eq] at h
          have heq : l[i] = m[i] := by simpa using h
          exact ⟨i + 1, ⟨hlt, by rw [List.take_succ_eq_append_getElem hlt, List.take_succ_eq_append_getElem (by omega), he, heq]⟩, by omega, by rw [wrap_i64 (by omega) (by omega)]; rfl⟩
      · have hi' : i = l.length := by omega
        subst hi'
        repeat' first | ((first | refine callP_false (.bool false) ?_ | refine aw_region rfl ?_ | refine aw_region_draw mixedF rfl (by kernel_rfl) ?_ | refine aE rfl ?_); simp only [go_sem]) | refine callG_y ?_ | refine callG_p ?_ | refine aw_seq ?_ | refine aw_block ?_ | refine aw_scope ?_ | (refine aw_cond rfl (fun h => ?_) (fun h => ?_) <;> try (exfalso; first | (simp at h; done) | (simp at h; omega))) | ((with_reducible refine And.intro ?_ ?_); focus (first | omega | (intros; simp_all; done) | (simp; omega)))
        exact done0 (by simp only [go_sem]) (.of (by rw [decide_eq_true (by rw [List.take_length, hlen, List.take_length] at he; exact he)]))

theorem same1_s (b1 b2 : Bool) (l m : List Txt) (H : AHeap) : FnC Tryz.prog 12 [.sl b1 (l.map stA'), .sl b2 (m.map stA')] H (.bool (decide (l = m))) := by
  refine fnC_ok2 fun hok _ => ?_
  have hl := ok_sl hok
  rw [List.length_map] at hl
  refine fnC_of Tryz.func12 rfl (Nat.le_of_ble_eq_true rfl) ?_
  repeat' first | ((first | refine callP_false (.bool false) ?_ | refine aw_region rfl ?_ | refine aw_region_draw mixedF rfl (by kernel_rfl) ?_ | refine aE rfl ?_); simp only [go_sem]) | refine callG_y ?_ | refine callG_p ?_ | refine aw_seq ?_ | refine aw_block ?_ | refine aw_scope ?_ | (refine aw_cond rfl (fun h => ?_) (fun h => ?_) <;> try (exfalso; first | (simp at h; done) | (simp at h; omega))) | ((with_reducible refine And.intro ?_ ?_); focus (first | omega | (intros; simp_all; done) | (simp; omega)))
  · exact done0 (by simp only [go_sem]) (.of (by rw [decide_eq_false (fun e => by subst e; simp at h)]))
  · have hlen : l.length = m.length := by simp at h; omega
    refine aw_loopS (ι := Nat) (fun i => [(0, .sl b1 (l.map stA')), (1, .sl b2 (m.map stA')), (5, .int .i64 i)]) (fun _ => H) (fun i => i ≤ l.length ∧ l.take i = m.take i) (fun i => l.length - i) 0 ⟨Nat.zero_le _, rfl⟩ ?_ rfl ?_
    · simp [go_sem]
    · rintro i ⟨hi, he⟩
      by_cases hlt : i < l.length
      · have hp := getD_map stA' hlt
        have hq := getD_map stA' (show i < m.length by omega)
        repeat' first | ((first | refine callP_false (.bool false) ?_ | refine aw_region rfl ?_ | refine aw_region_draw mixedF rfl (by kernel_rfl) ?_ | refine aE rfl ?_); simp only [go_sem, hp, hq, stA']) | refine callG_y ?_ | refine callG_p ?_ | refine aw_seq ?_ | refine aw_block ?_ | refine aw_scope ?_ | (refine aw_cond rfl (fun h => ?_) (fun h => ?_) <;> try (exfalso; first | (simp at h; done) | (simp at h; omega))) | ((with_reducible refine And.intro ?_ ?_); focus (first | omega | (intros; simp_all; done) | (simp; omega)))
        · skip
          have hne : l[i] ≠ m[i] := by simpa using h
          exact done0 (by simp only [go_sem]) (.of (by rw [decide_eq_false (fun e => hne (by subst e; rfl))]))
        · skip
          have heq : l[i] = m[i] := by simpa using h
          exact ⟨i + 1, ⟨hlt, by rw [List.take_succ_eq_append_getElem hlt, List.take_succ_eq_append_getElem (by omega), he, heq]⟩, by omega, by rw [wrap_i64 (by omega) (by omega)]; rfl⟩
      · have hi' : i = l.length := by omega
        subst hi'
        repeat' first | ((first | refine callP_false (.bool false) ?_ | refine aw_region rfl ?_ | refine aw_region_draw mixedF rfl (by kernel_rfl) ?_ | refine aE rfl ?_); simp only [go_sem]) | refine callG_y ?_ | refine callG_p ?_ | refine aw_seq ?_ | refine aw_block ?_ | refine aw_scope ?_ | (refine aw_cond rfl (fun h => ?_) (fun h => ?_) <;> try (exfalso; first | (simp at h; done) | (simp at h; omega))) | ((with_reducible refine And.intro ?_ ?_); focus (first | omega | (intros; simp_all; done) | (simp; omega)))
        exact done0 (by simp only [go_sem]) (.of (by rw [decide_eq_true (by rw [List.take_length, hlen, List.take_length] at he; exact he)]))

theorem few18_c (b1 : Bool) (l : List Cal) (n : Int) (H : AHeap) : FnC Tryz.prog 22 [.sl b1 (l.map caA), .int .i64 n] H (.bool (fewCal l n)) := by
  refine fnC_ok2 fun hok _ => ?_
  have hl := ok_sl hok
  rw [List.length_map] at hl
  refine fnC_of Tryz.func22 rfl (Nat.le_of_ble_eq_true rfl) ?_
  repeat' first | ((first | refine callP_false (.bool false) ?_ | refine aw_region rfl ?_ | refine aw_region_draw mixedF rfl (by kernel_rfl) ?_ | refine aE rfl ?_); simp only [go_sem]) | refine callG_y ?_ | refine callG_p ?_ | refine aw_seq ?_ | refine aw_block ?_ | refine aw_scope ?_ | (refine aw_cond rfl (fun h => ?_) (fun h => ?_) <;> try (exfalso; first | (simp at h; done) | (simp at h; omega))) | ((with_reducible refine And.intro ?_ ?_); focus (first | omega | (intros; simp_all; done) | (simp; omega)))
  refine aw_loopS (ι := Nat) (fun i => [(0, .sl b1 (l.map caA)), (1, .int .i64 n), (5, .int .i64 i)]) (fun _ => H) (fun i => i ≤ l.length ∧ ∀ x ∈ l.take i, longCal x = false) (fun i => l.length - i) 0 ⟨Nat.zero_le _, by simp⟩ ?_ rfl ?_
  · simp [go_sem]
  · rintro i ⟨hi, he⟩
    by_cases hlt : i < l.length
    · have hp := getD_map caA hlt
      repeat' first | ((first | refine callP_false (.bool false) ?_ | refine aw_region rfl ?_ | refine aw_region_draw mixedF rfl (by kernel_rfl) ?_ | refine aE rfl ?_); simp only [go_sem, hp, caA]) | refine callG_y ?_ | refine callG_p ?_ | refine aw_seq ?_ | refine aw_block ?_ | refine aw_scope ?_ | (refine aw_cond rfl (fun h => ?_) (fun h => ?_) <;> try (exfalso; first | (simp at h; done) | (simp at h; omega))) | ((with_reducible refine And.intro ?_ ?_); focus (first | omega | (intros; simp_all; done) | (simp; omega)))
      · exact done0 (by simp only [go_sem]) (.of (by
          have : fewCal l n = false := by
            unfold fewCal
            rw [Bool.and_eq_false_iff]
            left
            rw [Bool.eq_false_iff]
            intro q
            have q2 := List.all_eq_true.1 q l[i] (List.getElem_mem _)
            have h' : longCal l[i] = true := h
            rw [h'] at q2; cases q2
          rw [this]))
      · refine ⟨i + 1, ⟨hlt, fun x hx => ?_⟩, by omega, by rw [wrap_i64 (by omega) (by omega)]; rfl⟩
        rw [List.take_succ_eq_append_getElem hlt, List.mem_append] at hx
        rcases hx with hx | hx
        · exact he x hx
        · simp at hx; subst hx; exact h
    · have hi' : i = l.length := by omega
      subst hi'
      repeat' first | ((first | refine callP_false (.bool false) ?_ | refine aw_region rfl ?_ | refine aw_region_draw mixedF rfl (by kernel_rfl) ?_ | refine aE rfl ?_); simp only [go_sem]) | refine callG_y ?_ | refine callG_p ?_ | refine aw_seq ?_ | refine aw_block ?_ | refine aw_scope ?_ | (refine aw_cond rfl (fun h => ?_) (fun h => ?_) <;> try (exfalso; first | (simp at h; done) | (simp at h; omega))) | ((with_reducible refine And.intro ?_ ?_); focus (first | omega | (intros; simp_all; done) | (simp; omega)))
      refine done0 (by simp only [go_sem]) (.of ?_)
      rw [List.take_length] at he
      have : l.all (fun x => !longCal x) = true := List.all_eq_true.2 fun x hx => by rw [he x hx]; rfl
      rw [fewCal, this, Bool.true_and]

theorem same1_c (b1 b2 : Bool) (l m : List Txt) (H : AHeap) : FnC Tryz.prog 12 [.sl b1 (l.map AV.str), .sl b2 (m.map AV.str)] H (.bool (decide (l = m))) := same1_s b1 b2 l m H

def anA (f2 f3 : Bool) (a : Ans) : AV := .agg [.int .i64 a.err, .str a.data, .sl f2 (a.names.map AV.str), .int .i64 a.n, .sl f3 (a.events.map evA)]
@[go_sem] theorem pu_anA (f2 f3 : Bool) (x : Ans) : Pur (anA f2 f3 x) = True := by simp only [anA, go_sem]
theorem ans_eq (a b : Ans) : (decide (a.names = b.names) && decide (a.events = b.events) && decide (a.err = b.err) && decide (a.data = b.data) && decide (a.n = b.n)) = decide (a = b) := by
  obtain ⟨_, _, _, _, _⟩ := a
  obtain ⟨_, _, _, _, _⟩ := b
  rw [Bool.eq_iff_iff]; simp; constructor <;> (intro h; simp_all)
theorem one19_c (f2 f3 g2 g3 : Bool) (a b : Ans) (H : AHeap) : FnC Tryz.prog 38 [anA f2 f3 a, anA g2 g3 b] H (.bool (decide (a = b))) := by
  refine fnC_of Tryz.func38 rfl (Nat.le_of_ble_eq_true rfl) ?_
  have h1 := same1_c f2 g2 a.names b.names
  have h2 := same9_c f3 g3 a.events b.events
  rw [← ans_eq]
  have ct0 := ct h1 callOk12F; have ct1 := ct h2 callOk67F; repeat' first | ((first | refine cK (by assumption) ?_ | refine cP (by assumption) ?_ | refine cM (by assumption) ?_ | refine callP_false (.bool false) ?_ | refine aw_region rfl ?_ | refine aw_region_draw mixedF rfl (by kernel_rfl) ?_ | refine aE rfl ?_); simp only [go_sem, anA]) | refine callG_y ?_ | refine callG_p ?_ | refine aw_seq ?_ | refine aw_block ?_ | refine aw_scope ?_ | (refine aw_cond rfl (fun h => ?_) (fun h => ?_) <;> try (exfalso; first | (simp at h; done) | (simp at h; omega))) | ((with_reducible refine And.intro ?_ ?_); focus (first | omega | (intros; simp_all; done) | (simp; omega)))
  refine done (by simp only [go_sem]) (.of (congrArg AV.bool ?_))
  generalize decide (a.names = b.names) = p1
  generalize decide (a.events = b.events) = p2
  cases p1 <;> cases p2 <;> simp [Bool.and_assoc]

theorem thr_eq (a b : Thr) : (decide (a.has = b.has) && decide (a.ans = b.ans) && (decide (a.call = b.call) && decide (a.at_ = b.at_) && (a.done == b.done) && (a.ended == b.ended) && decide (a.upto = b.upto)) && decide (a.begin_ = b.begin_) && decide (a.mark = b.mark) && decide (a.end_ = b.end_)) = decide (a = b) := by
  obtain ⟨_, _, _, _, _, _, _, _, _, _⟩ := a
  obtain ⟨_, _, _, _, _, _, _, _, _, _⟩ := b
  rw [Bool.eq_iff_iff]; simp; constructor <;> (intro h; simp_all)
theorem cal_eq (a b : Cal) : (decide (a.kind = b.kind) && (decide (a.path = b.path) && (decide (a.to = b.to) && (decide (a.data = b.data) && decide (a.n = b.n))))) = decide (a = b) := by
  obtain ⟨_, _, _, _, _⟩ := a
  obtain ⟨_, _, _, _, _⟩ := b
  rw [Bool.eq_iff_iff]; simp
theorem same20_c (f1 f2 f3 g1 g2 g3 : Bool) (a b : Thr) (H : AHeap) : FnC Tryz.prog 16 [thA f1 f2 f3 a, thA g1 g2 g3 b] H (.bool (decide (a = b))) := by
  refine fnC_of Tryz.func16 rfl (Nat.le_of_ble_eq_true rfl) ?_
  have h1 := nums6_c f1 g1 a.has b.has
  have h2 := one19_c f2 f3 g2 g3 a.ans b.ans
  have h3 := cal_eq a.call b.call
  simp only [anA] at h2
  rw [← thr_eq]
  have ct0 := ct h1 callOk13F; have ct1 := ct h2 callOk38F; repeat' first | ((first | refine cK (by assumption) ?_ | refine cP (by assumption) ?_ | refine cM (by assumption) ?_ | refine callP_false (.bool false) ?_ | refine aw_region rfl ?_ | refine aw_region_draw mixedF rfl (by kernel_rfl) ?_ | refine aE rfl ?_); simp only [go_sem, thA, thF]) | refine callG_y ?_ | refine callG_p ?_ | refine aw_seq ?_ | refine aw_block ?_ | refine aw_scope ?_ | (refine aw_cond rfl (fun h => ?_) (fun h => ?_) <;> try (exfalso; first | (simp at h; done) | (simp at h; omega))) | ((with_reducible refine And.intro ?_ ?_); focus (first | omega | (intros; simp_all; done) | (simp; omega)))
  refine done (by simp only [go_sem]) (.of (congrArg AV.bool ?_))
  rw [← h3]
end Go.Proofs.YtmknmapgfjmioaaGreatDoor
/- Sorting of operations in memory: merging. No condition. -/
namespace Go.Proofs.YtmknmapgfjmioaaGreatDoor
open Go Go.Aw Go.Gw Go.Srt
set_option linter.unusedSimpArgs false
set_option maxRecDepth 20000
set_option maxHeartbeats 4000000

theorem fl_at {D : List Opn} {k : Nat} (h : k < D.length) : List.take 7 (List.drop (k * 7) (fl D)) = opCells D[k] := by
  have e : D = D.take k ++ D[k] :: D.drop (k + 1) := by rw [← List.drop_eq_getElem_cons h, List.take_append_drop]
  have h2 := fl_get (A := D.take k) (x := D[k]) (R := D.drop (k + 1)) (k := k) (by rw [List.length_take]; omega)
  rw [← e] at h2
  exact h2

/-- Searching in what is in order. -/
theorem bs_up {lt : Opn → Opn → Bool} (hw : SWO lt) {B : List Opn} (hB : Sd lt B) {x : Opn} {h : Nat} (hh : h < B.length) (hx : lt B[h] x = true) (k : Nat) (hk : k ≤ h) : lt (B[k]'(by omega)) x = true := by
  by_cases e : k = h
  · subst e; exact hx
  · exact hw.rtr (hB.get (show k < h by omega) hh) hx
theorem bs_dn {lt : Opn → Opn → Bool} (hw : SWO lt) {B : List Opn} (hB : Sd lt B) {x : Opn} {h : Nat} (hh : h < B.length) (hx : lt B[h] x = false) (k : Nat) (hk : h ≤ k) (hkl : k < B.length) : lt B[k] x = false := by
  by_cases e : k = h
  · subst e; exact hx
  · exact hw.ntr _ _ _ (hB.get (show h < k by omega) hkl) hx
theorem bs_up' {lt : Opn → Opn → Bool} (hw : SWO lt) {B : List Opn} (hB : Sd lt B) {x : Opn} {h : Nat} (hh : h < B.length) (hx : lt x B[h] = false) (k : Nat) (hk : k ≤ h) : lt x (B[k]'(by omega)) = false := by
  by_cases e : k = h
  · subst e; exact hx
  · exact hw.ntr _ _ _ hx (hB.get (show k < h by omega) hh)
theorem bs_dn' {lt : Opn → Opn → Bool} (hw : SWO lt) {B : List Opn} (hB : Sd lt B) {x : Opn} {h : Nat} (hh : h < B.length) (hx : lt x B[h] = true) (k : Nat) (hk : h ≤ k) (hkl : k < B.length) : lt x B[k] = true := by
  by_cases e : k = h
  · subst e; exact hx
  · exact hw.ltr hx (hB.get (show h < k by omega) hkl)
theorem mem_take_get {B : List Opn} {i : Nat} {p : Opn → Prop} (hi : i ≤ B.length) (h : ∀ k (hk : k < i), p (B[k]'(by omega))) : ∀ y ∈ B.take i, p y := by
  intro y hy
  obtain ⟨k, hk, rfl⟩ := List.getElem_of_mem hy
  rw [List.length_take] at hk
  rw [List.getElem_take]; exact h k (by omega)
theorem mem_drop_get {B : List Opn} {i : Nat} {p : Opn → Prop} (h : ∀ k (_ : i ≤ k) (hk : k < B.length), p B[k]) : ∀ y ∈ B.drop i, p y := by
  intro y hy
  obtain ⟨k, hk, rfl⟩ := List.getElem_of_mem hy
  rw [List.length_drop] at hk
  rw [List.getElem_drop]; exact h _ (by omega) (by omega)

theorem symA_c {X B Y D : List Opn} {x : Opn} {n : Nat} {a m b : Int} {lt : Opn → Opn → Bool} {c : Opn → Opn → Int} (hw : SWO lt) (hc : ∀ x y, decide (c x y < 0) = lt x y)
    (hD : D = X ++ x :: (B ++ Y)) (hB : Sd lt B) (hB0 : 0 < B.length) (hn : n = D.length) (ha : a = X.length) (hm : m = (X.length + 1 : Nat)) (hb : b = (X.length + 1 + B.length : Nat)) (fn : Fn) (fs cs : List AV) (hf : CmpC Tryz.prog (.func fn fs cs) c) (H : AHeap) (blk v lc : Nat)
    (hh : hget H blk = .cells v (fl D)) (hl : n ≤ 1000000000) :
    ACalls Tryz.prog 94 [.osl 7 blk v 0 n lc, .int .i64 a, .int .i64 m, .int .i64 b, .func fn fs cs] H
      (fun r H' => r = .tup [] ∧ ∃ S, Fs lt (x :: B) S ∧ Sd lt S ∧ H' = hset H blk (.cells v (fl (X ++ (S ++ Y))))) := by
  refine acalls_of Tryz.func94 rfl (Nat.le_of_ble_eq_true rfl) ?_
  have hset1 := fun b => hget_of hh trivial b
  have hset2 := hset_set H blk
  have hlen : n = X.length + (1 + (B.length + Y.length)) := by rw [hn, hD]; simp only [List.length_append, List.length_cons]; omega
  have hw1 : IntKind.i64.wrap (m - a) = 1 := by subst hm ha; rw [wrap_i64 (by omega) (by omega)]; omega
  obtain ⟨M, hM⟩ : ∃ M, M = X.length + 1 := ⟨_, rfl⟩
  rw [← hM] at hm hb
  have hDM : ∀ k (hk : k < B.length), D[M + k]'(by omega) = B[k] := by
    intro k hk
    have e : D = (X ++ [x]) ++ (B ++ Y) := by rw [hD, List.append_assoc]; rfl
    have e2 : M = (X ++ [x]).length := by rw [hM, List.length_append]; rfl
    subst e e2
    rw [List.getElem_append_right (by omega), List.getElem_append_left (by omega)]
    congr 1; omega
  have gx : List.take 7 (List.drop (X.length * 7) (fl D)) = opCells x := by rw [hD]; exact fl_get rfl
  have hxn : X.length * 7 + 7 ≤ (fl D).length := by rw [fl_len]; omega
  subst hm hb ha
  repeat' first | ((first | refine callP_false (.bool false) ?_ | refine aw_region rfl ?_ | refine aw_region_draw mixedF rfl (by kernel_rfl) ?_ | refine aE rfl ?_); simp only [go_sem, hw1]) | refine callG_y ?_ | refine callG_p ?_ | refine aw_seq ?_ | refine aw_block ?_ | refine aw_scope ?_ | (refine aw_cond rfl (fun h => ?_) (fun h => ?_) <;> try (exfalso; first | (simp at h; done) | (simp at h; omega))) | ((with_reducible refine And.intro ?_ ?_); focus (first | omega | (intros; simp_all; done) | (simp; omega)))
  refine aw_loopS (ι := Nat × Nat) (fun s => [(0, .osl 7 blk v 0 n lc), (1, .int .i64 X.length), (4, .func fn fs cs), (10, .int .i64 (M + s.1 : Nat)), (11, .int .i64 (M + s.2 : Nat))]) (fun _ => H)
    (fun s => s.1 ≤ s.2 ∧ s.2 ≤ B.length ∧ (∀ k (hk : k < s.1) (hk2 : k < B.length), lt B[k] x = true) ∧ (∀ k (_ : s.2 ≤ k) (hk : k < B.length), lt B[k] x = false)) (fun s => s.2 - s.1) (0, B.length) ⟨Nat.zero_le _, Nat.le_refl _, fun k hk => by omega, fun k h1 h2 => by omega⟩ ?_ rfl ?_
  · simp [go_sem]
  · rintro ⟨i, j⟩ ⟨h1, h2, h3, h4⟩
    simp only at h1 h2 h3 h4 ⊢
    by_cases hij : i < j
    · obtain ⟨u, hhd⟩ : ∃ u, (M + i + (M + j)) / 2 = M + u := ⟨(M + i + (M + j)) / 2 - M, by omega⟩
      have hhl : u < B.length := by omega
      have hhf := mid_eq (i := M + i) (j := M + j) (n := M + B.length) (by omega) (by omega) (by omega)
      rw [hhd] at hhf
      obtain ⟨K, hK⟩ : ∃ K, K = M + u := ⟨_, rfl⟩
      have gK : List.take 7 (List.drop (K * 7) (fl D)) = opCells B[u] := by subst hK; rw [fl_at (by omega), hDM u hhl]
      have hKn : K * 7 + 7 ≤ (fl D).length := by rw [fl_len]; omega
      have hw2 : IntKind.i64.wrap ((K : Int) + 1) = ((M + (u + 1) : Nat) : Int) := wrap_nat (by omega) (by omega)
      rw [← hK] at hhf
      have hli : decide (((M + i : Nat) : Int) < ((M + j : Nat) : Int)) = true := decide_eq_true (by omega)
      repeat' first | ((first | refine aw_region_mix (id := 11) [.free, .free, .free, .free, .free, .free, .free, .free, .pure 0, .pure 0, .free, .free, .pure 0, .pure 0, .pure 0, .eff [false, false, true, false, false], .pure 0, .eff [false, false]] mixedF rfl (by kernel_rfl) (by kernel_rfl) ?_ | refine aw_region_mix (id := 23) [.free, .free, .free, .free, .free, .free, .free, .free, .pure 0, .pure 0, .free, .free, .pure 0, .pure 0, .pure 0, .eff [false, false, true, false, false], .pure 0, .eff [false, false]] mixedF rfl (by kernel_rfl) (by kernel_rfl) ?_ | refine callP_false (.bool false) ?_ | refine aw_region rfl ?_ | refine aw_region_draw mixedF rfl (by kernel_rfl) ?_ | refine aE rfl ?_); simp only [go_sem, hli, hhf, hh, gK, gx]) | refine callG_y ?_ | refine callG_p ?_ | refine aw_seq ?_ | refine aw_block ?_ | refine aw_scope ?_ | (refine aw_cond rfl (fun h => ?_) (fun h => ?_) <;> try (exfalso; first | (simp at h; done) | (simp at h; omega))) | ((with_reducible refine And.intro ?_ ?_); focus (first | omega | (intros; simp_all; done) | (simp; omega)))
      (repeat' (with_reducible refine And.intro ?_ ?_)) <;> try (first | omega | rfl)
      refine callP_cmp hf ?_
      simp only [go_sem, hc]
      cases hxy : lt B[u] x with
      | false =>
        repeat' first | ((first | refine callP_false (.bool false) ?_ | refine aw_region rfl ?_ | refine aw_region_draw mixedF rfl (by kernel_rfl) ?_ | refine aE rfl ?_); simp only [go_sem, hxy, hw2]) | refine callG_y ?_ | refine callG_p ?_ | refine aw_seq ?_ | refine aw_block ?_ | refine aw_scope ?_ | (refine aw_cond rfl (fun h => ?_) (fun h => ?_) <;> try (exfalso; first | (simp at h; done) | (simp at h; omega))) | ((with_reducible refine And.intro ?_ ?_); focus (first | omega | (intros; simp_all; done) | (simp; omega)))
        exact ⟨(i, u), ⟨by simp only; omega, by simp only; omega, h3, fun k q1 q2 => bs_dn hw hB hhl hxy k q1 q2⟩, by simp only; omega, rfl, by rw [hK]⟩
      | true =>
        repeat' first | ((first | refine callP_false (.bool false) ?_ | refine aw_region rfl ?_ | refine aw_region_draw mixedF rfl (by kernel_rfl) ?_ | refine aE rfl ?_); simp only [go_sem, hxy, hw2]) | refine callG_y ?_ | refine callG_p ?_ | refine aw_seq ?_ | refine aw_block ?_ | refine aw_scope ?_ | (refine aw_cond rfl (fun h => ?_) (fun h => ?_) <;> try (exfalso; first | (simp at h; done) | (simp at h; omega))) | ((with_reducible refine And.intro ?_ ?_); focus (first | omega | (intros; simp_all; done) | (simp; omega)))
        exact ⟨(u + 1, j), ⟨by simp only; omega, by simp only; omega, fun k q1 q2 => bs_up hw hB hhl hxy k (by omega), h4⟩, by simp only; omega, rfl, rfl⟩
    · have hji : j = i := by omega
      subst hji
      have hli : decide (((M + j : Nat) : Int) < ((M + j : Nat) : Int)) = false := decide_eq_false (by omega)
      have hw2 : IntKind.i64.wrap (((M + j : Nat) : Int) - 1) = ((X.length + j : Nat) : Int) := wrap_nat (by omega) (by omega)
      have B1 : ∀ y ∈ B.take j, lt y x = true := mem_take_get h2 fun k hk => h3 k hk (by omega)
      have B2 : ∀ y ∈ B.drop j, lt y x = false := mem_drop_get h4
      have hBB := List.take_append_drop j B
      have hl1 : (B.take j).length = j := by rw [List.length_take]; omega
      generalize B.take j = P at *
      generalize B.drop j = R at *
      repeat' first | ((first | refine callP_false (.bool false) ?_ | refine aw_region rfl ?_ | refine aw_region_draw mixedF rfl (by kernel_rfl) ?_ | refine aE rfl ?_); simp only [go_sem, hli]) | refine callG_y ?_ | refine callG_p ?_ | refine aw_seq ?_ | refine aw_block ?_ | refine aw_scope ?_ | (refine aw_cond rfl (fun h => ?_) (fun h => ?_) <;> try (exfalso; first | (simp at h; done) | (simp at h; omega))) | ((with_reducible refine And.intro ?_ ?_); focus (first | omega | (intros; simp_all; done) | (simp; omega)))
      refine aw_loopS (ι := Nat) (fun t => [(0, .osl 7 blk v 0 n lc), (10, .int .i64 (M + j : Nat)), (13, .int .i64 (X.length + t : Nat))])
        (fun t => hset H blk (.cells v (fl ((X ++ P.take t) ++ x :: (P.drop t ++ (R ++ Y)))))) (fun t => t ≤ j) (fun t => j - t) 0 (Nat.zero_le _) ?_ ?_ ?_
      · simp [go_sem]
      · rw [← hBB, List.append_assoc] at hD
        simp only [List.take_zero, List.drop_zero, List.append_nil]
        rw [← hD]; exact (hset_id hh trivial).symm
      · intro t ht
        by_cases htj : t < j
        · have e1 : P.drop t = P[t]'(by omega) :: P.drop (t + 1) := List.drop_eq_getElem_cons (by omega)
          have e2 : P.take (t + 1) = P.take t ++ [P[t]'(by omega)] := List.take_succ_eq_append_getElem (by omega)
          have hdl : (P.drop (t + 1)).length = j - (t + 1) := by rw [List.length_drop, hl1]
          have htl : (P.take t).length = t := by rw [List.length_take]; omega
          have hRl : P.length + R.length = B.length := by rw [← hBB, List.length_append]
          rw [e1]
          generalize P[t]'(by omega) = y at *
          obtain ⟨p, hp⟩ : ∃ p, p = X.length + t := ⟨_, rfl⟩
          obtain ⟨q, hq⟩ : ∃ q, q = X.length + t + 1 := ⟨_, rfl⟩
          have hw3 : IntKind.i64.wrap ((p : Int) + 1) = (q : Int) := wrap_nat (by omega) (by omega)
          have hli3 : decide ((p : Int) < ((X.length + j : Nat) : Int)) = true := decide_eq_true (by omega)
          have l1 : (X ++ P.take t).length = p := by rw [List.length_append, htl, hp]
          have l2 : ∀ z, ((X ++ P.take t) ++ [z]).length = q := fun z => by rw [List.length_append, l1, List.length_singleton, hp, hq]
          have g1 := fl_get (x := x) (R := y :: (P.drop (t + 1) ++ (R ++ Y))) l1
          have g2 := fl_get (x := y) (R := P.drop (t + 1) ++ (R ++ Y)) (l2 x)
          have s1 := fl_set (x := x) (y := y) (R := y :: (P.drop (t + 1) ++ (R ++ Y))) l1
          have s2 := fl_set (x := y) (y := x) (R := P.drop (t + 1) ++ (R ++ Y)) (l2 y)
          simp only [List.append_assoc, List.cons_append, List.nil_append] at g1 g2 s1 s2
          rw [← hp]
          have hlq : ∀ z w, q * 7 + 7 ≤ (fl (X ++ (P.take t ++ z :: w :: (P.drop (t + 1) ++ (R ++ Y))))).length := fun z w => by rw [fl_len]; simp only [List.length_append, List.length_cons]; omega
          have hlp : ∀ z w, p * 7 + 7 ≤ (fl (X ++ (P.take t ++ z :: w :: (P.drop (t + 1) ++ (R ++ Y))))).length := fun z w => by rw [fl_len]; simp only [List.length_append, List.length_cons]; omega
          have a1 := hlp x y
          have a2 := hlq x y
          have a3 := hlq y y
          repeat' first | ((first | refine aw_region_mix (id := 11) [.free, .free, .free, .free, .free, .free, .free, .free, .pure 0, .pure 0, .free, .free, .pure 0, .pure 0, .pure 0, .eff [false, false, true, false, false], .pure 0, .eff [false, false]] mixedF rfl (by kernel_rfl) (by kernel_rfl) ?_ | refine aw_region_mix (id := 23) [.free, .free, .free, .free, .free, .free, .free, .free, .pure 0, .pure 0, .free, .free, .pure 0, .pure 0, .pure 0, .eff [false, false, true, false, false], .pure 0, .eff [false, false]] mixedF rfl (by kernel_rfl) (by kernel_rfl) ?_ | refine callP_false (.bool false) ?_ | refine aw_region rfl ?_ | refine aw_region_draw mixedF rfl (by kernel_rfl) ?_ | refine aE rfl ?_); simp only [go_sem, hset1, hset2, hw2, hw3, hli3, g1, g2, s1, s2, opC_len, opC_one]) | refine callG_y ?_ | refine callG_p ?_ | refine aw_seq ?_ | refine aw_block ?_ | refine aw_scope ?_ | (refine aw_cond rfl (fun h => ?_) (fun h => ?_) <;> try (exfalso; first | (simp at h; done) | (simp at h; omega))) | ((with_reducible refine And.intro ?_ ?_); focus (first | omega | (intros; simp_all; done) | (simp; omega)))
          (repeat' (with_reducible refine And.intro ?_ ?_)) <;> try (first | omega | rfl)
          repeat' first | ((first | refine aw_region_mix (id := 11) [.free, .free, .free, .free, .free, .free, .free, .free, .pure 0, .pure 0, .free, .free, .pure 0, .pure 0, .pure 0, .eff [false, false, true, false, false], .pure 0, .eff [false, false]] mixedF rfl (by kernel_rfl) (by kernel_rfl) ?_ | refine aw_region_mix (id := 23) [.free, .free, .free, .free, .free, .free, .free, .free, .pure 0, .pure 0, .free, .free, .pure 0, .pure 0, .pure 0, .eff [false, false, true, false, false], .pure 0, .eff [false, false]] mixedF rfl (by kernel_rfl) (by kernel_rfl) ?_ | refine callP_false (.bool false) ?_ | refine aw_region rfl ?_ | refine aw_region_draw mixedF rfl (by kernel_rfl) ?_ | refine aE rfl ?_); simp only [go_sem, hw3]) | refine callG_y ?_ | refine callG_p ?_ | refine aw_seq ?_ | refine aw_block ?_ | refine aw_scope ?_ | (refine aw_cond rfl (fun h => ?_) (fun h => ?_) <;> try (exfalso; first | (simp at h; done) | (simp at h; omega))) | ((with_reducible refine And.intro ?_ ?_); focus (first | omega | (intros; simp_all; done) | (simp; omega)))
          refine ⟨t + 1, htj, by omega, by rw [hq]; rfl, ?_⟩
          rw [e2]; simp only [List.append_assoc, List.cons_append, List.nil_append]
        · have hte : t = j := by omega
          have hli3 : decide (((X.length + t : Nat) : Int) < ((X.length + j : Nat) : Int)) = false := decide_eq_false (by omega)
          repeat' first | ((first | refine aw_region_mix (id := 11) [.free, .free, .free, .free, .free, .free, .free, .free, .pure 0, .pure 0, .free, .free, .pure 0, .pure 0, .pure 0, .eff [false, false, true, false, false], .pure 0, .eff [false, false]] mixedF rfl (by kernel_rfl) (by kernel_rfl) ?_ | refine aw_region_mix (id := 23) [.free, .free, .free, .free, .free, .free, .free, .free, .pure 0, .pure 0, .free, .free, .pure 0, .pure 0, .pure 0, .eff [false, false, true, false, false], .pure 0, .eff [false, false]] mixedF rfl (by kernel_rfl) (by kernel_rfl) ?_ | refine callP_false (.bool false) ?_ | refine aw_region rfl ?_ | refine aw_region_draw mixedF rfl (by kernel_rfl) ?_ | refine aE rfl ?_); simp only [go_sem, hw2, hli3]) | refine callG_y ?_ | refine callG_p ?_ | refine aw_seq ?_ | refine aw_block ?_ | refine aw_scope ?_ | (refine aw_cond rfl (fun h => ?_) (fun h => ?_) <;> try (exfalso; first | (simp at h; done) | (simp at h; omega))) | ((with_reducible refine And.intro ?_ ?_); focus (first | omega | (intros; simp_all; done) | (simp; omega)))
          refine doneSet (clb_fl _ _ _) _ ⟨rfl, P ++ x :: R, ?_, ?_, ?_⟩
          · have h := (Fs.swap hw (A := [x]) (B := P) (fun a ha b hb => by rw [List.mem_singleton] at ha; subst ha; exact B1 b hb)).app (.refl (lt := lt) R)
            rw [← hBB]
            simpa using h
          · rw [← hBB] at hB
            refine Sd.app hB.left (List.pairwise_cons.2 ⟨B2, hB.right⟩) fun y hy z hz => ?_
            rcases List.mem_cons.1 hz with rfl | hz
            · exact hw.asy _ _ (B1 y hy)
            · exact hB.cross y hy z hz
          · rw [hte, ← hl1, List.take_length, List.drop_length]
            simp only [List.append_assoc, List.cons_append, List.nil_append]
end Go.Proofs.YtmknmapgfjmioaaGreatDoor
namespace Go.Proofs.YtmknmapgfjmioaaGreatDoor
open Go Go.Aw Go.Gw Go.Srt
set_option linter.unusedSimpArgs false
set_option maxRecDepth 20000
set_option maxHeartbeats 4000000

theorem symB_c {X B Y D : List Opn} {x : Opn} {n : Nat} {a m b : Int} {lt : Opn → Opn → Bool} {c : Opn → Opn → Int} (hw : SWO lt) (hc : ∀ x y, decide (c x y < 0) = lt x y)
    (hD : D = X ++ (B ++ x :: Y)) (hB : Sd lt B) (hB0 : 1 < B.length) (hn : n = D.length) (ha : a = X.length) (hm : m = (X.length + B.length : Nat)) (hb : b = (X.length + B.length + 1 : Nat)) (fn : Fn) (fs cs : List AV) (hf : CmpC Tryz.prog (.func fn fs cs) c) (H : AHeap) (blk v lc : Nat)
    (hh : hget H blk = .cells v (fl D)) (hl : n ≤ 1000000000) :
    ACalls Tryz.prog 94 [.osl 7 blk v 0 n lc, .int .i64 a, .int .i64 m, .int .i64 b, .func fn fs cs] H
      (fun r H' => r = .tup [] ∧ ∃ S, Fs lt (B ++ [x]) S ∧ Sd lt S ∧ H' = hset H blk (.cells v (fl (X ++ (S ++ Y))))) := by
  refine acalls_of Tryz.func94 rfl (Nat.le_of_ble_eq_true rfl) ?_
  have hset1 := fun b => hget_of hh trivial b
  have hset2 := hset_set H blk
  have hlen : n = X.length + (B.length + (Y.length + 1)) := by rw [hn, hD]; simp only [List.length_append, List.length_cons]
  have hw1 : IntKind.i64.wrap (m - a) = (B.length : Int) := by subst hm ha; exact wrap_nat (by omega) (by omega)
  have hw0 : IntKind.i64.wrap (b - m) = 1 := by subst hm hb; rw [wrap_i64 (by omega) (by omega)]; omega
  have hl1 : decide ((B.length : Int) = 1) = false := decide_eq_false (by omega)
  obtain ⟨M, hM⟩ : ∃ M, M = X.length + B.length := ⟨_, rfl⟩
  rw [← hM] at hm hb
  have hDM : ∀ k (hk : k < B.length), D[X.length + k]'(by omega) = B[k] := by
    intro k hk
    subst hD
    rw [List.getElem_append_right (by omega), List.getElem_append_left (by omega)]
    congr 1; omega
  have gx : List.take 7 (List.drop (M * 7) (fl D)) = opCells x := by
    have e : D = (X ++ B) ++ x :: Y := by rw [hD, List.append_assoc]
    rw [e]; exact fl_get (by rw [List.length_append, hM])
  have hxn : M * 7 + 7 ≤ (fl D).length := by rw [fl_len]; omega
  subst hm hb ha
  repeat' first | ((first | refine callP_false (.bool false) ?_ | refine aw_region rfl ?_ | refine aw_region_draw mixedF rfl (by kernel_rfl) ?_ | refine aE rfl ?_); simp only [go_sem, hw1, hw0, hl1]) | refine callG_y ?_ | refine callG_p ?_ | refine aw_seq ?_ | refine aw_block ?_ | refine aw_scope ?_ | (refine aw_cond rfl (fun h => ?_) (fun h => ?_) <;> try (exfalso; first | (simp at h; done) | (simp at h; omega))) | ((with_reducible refine And.intro ?_ ?_); focus (first | omega | (intros; simp_all; done) | (simp; omega)))
  refine aw_loopS (ι := Nat × Nat) (fun s => [(0, .osl 7 blk v 0 n lc), (2, .int .i64 M), (4, .func fn fs cs), (14, .int .i64 (X.length + s.1 : Nat)), (15, .int .i64 (X.length + s.2 : Nat))]) (fun _ => H)
    (fun s => s.1 ≤ s.2 ∧ s.2 ≤ B.length ∧ (∀ k (hk : k < s.1) (hk2 : k < B.length), lt x B[k] = false) ∧ (∀ k (_ : s.2 ≤ k) (hk : k < B.length), lt x B[k] = true)) (fun s => s.2 - s.1) (0, B.length) ⟨Nat.zero_le _, Nat.le_refl _, fun k hk => by omega, fun k h1 h2 => by omega⟩ ?_ rfl ?_
  · simp [go_sem, hM]
  · rintro ⟨i, j⟩ ⟨h1, h2, h3, h4⟩
    simp only at h1 h2 h3 h4 ⊢
    by_cases hij : i < j
    · obtain ⟨u, hhd⟩ : ∃ u, (X.length + i + (X.length + j)) / 2 = X.length + u := ⟨(X.length + i + (X.length + j)) / 2 - X.length, by omega⟩
      have hhl : u < B.length := by omega
      have hhf := mid_eq (i := X.length + i) (j := X.length + j) (n := X.length + B.length) (by omega) (by omega) (by omega)
      rw [hhd] at hhf
      obtain ⟨K, hK⟩ : ∃ K, K = X.length + u := ⟨_, rfl⟩
      have gK : List.take 7 (List.drop (K * 7) (fl D)) = opCells B[u] := by subst hK; rw [fl_at (by omega), hDM u hhl]
      have hKn : K * 7 + 7 ≤ (fl D).length := by rw [fl_len]; omega
      have hw2 : IntKind.i64.wrap ((K : Int) + 1) = ((X.length + (u + 1) : Nat) : Int) := wrap_nat (by omega) (by omega)
      rw [← hK] at hhf
      have hli : decide (((X.length + i : Nat) : Int) < ((X.length + j : Nat) : Int)) = true := decide_eq_true (by omega)
      repeat' first | ((first | refine aw_region_mix (id := 11) [.free, .free, .free, .free, .free, .free, .free, .free, .pure 0, .pure 0, .free, .free, .pure 0, .pure 0, .pure 0, .eff [false, false, true, false, false], .pure 0, .eff [false, false]] mixedF rfl (by kernel_rfl) (by kernel_rfl) ?_ | refine aw_region_mix (id := 23) [.free, .free, .free, .free, .free, .free, .free, .free, .pure 0, .pure 0, .free, .free, .pure 0, .pure 0, .pure 0, .eff [false, false, true, false, false], .pure 0, .eff [false, false]] mixedF rfl (by kernel_rfl) (by kernel_rfl) ?_ | refine callP_false (.bool false) ?_ | refine aw_region rfl ?_ | refine aw_region_draw mixedF rfl (by kernel_rfl) ?_ | refine aE rfl ?_); simp only [go_sem, hli, hhf, hh, gK, gx]) | refine callG_y ?_ | refine callG_p ?_ | refine aw_seq ?_ | refine aw_block ?_ | refine aw_scope ?_ | (refine aw_cond rfl (fun h => ?_) (fun h => ?_) <;> try (exfalso; first | (simp at h; done) | (simp at h; omega))) | ((with_reducible refine And.intro ?_ ?_); focus (first | omega | (intros; simp_all; done) | (simp; omega)))
      (repeat' (with_reducible refine And.intro ?_ ?_)) <;> try (first | omega | rfl)
      refine callP_cmp hf ?_
      simp only [go_sem, hc]
      cases hxy : lt x B[u] with
      | true =>
        repeat' first | ((first | refine callP_false (.bool false) ?_ | refine aw_region rfl ?_ | refine aw_region_draw mixedF rfl (by kernel_rfl) ?_ | refine aE rfl ?_); simp only [go_sem, hxy, hw2]) | refine callG_y ?_ | refine callG_p ?_ | refine aw_seq ?_ | refine aw_block ?_ | refine aw_scope ?_ | (refine aw_cond rfl (fun h => ?_) (fun h => ?_) <;> try (exfalso; first | (simp at h; done) | (simp at h; omega))) | ((with_reducible refine And.intro ?_ ?_); focus (first | omega | (intros; simp_all; done) | (simp; omega)))
        exact ⟨(i, u), ⟨by simp only; omega, by simp only; omega, h3, fun k q1 q2 => bs_dn' hw hB hhl hxy k q1 q2⟩, by simp only; omega, rfl, by rw [hK]⟩
      | false =>
        repeat' first | ((first | refine callP_false (.bool false) ?_ | refine aw_region rfl ?_ | refine aw_region_draw mixedF rfl (by kernel_rfl) ?_ | refine aE rfl ?_); simp only [go_sem, hxy, hw2]) | refine callG_y ?_ | refine callG_p ?_ | refine aw_seq ?_ | refine aw_block ?_ | refine aw_scope ?_ | (refine aw_cond rfl (fun h => ?_) (fun h => ?_) <;> try (exfalso; first | (simp at h; done) | (simp at h; omega))) | ((with_reducible refine And.intro ?_ ?_); focus (first | omega | (intros; simp_all; done) | (simp; omega)))
        exact ⟨(u + 1, j), ⟨by simp only; omega, by simp only; omega, fun k q1 q2 => bs_up' hw hB hhl hxy k (by omega), h4⟩, by simp only; omega, rfl, rfl⟩
    · have hji : j = i := by omega
      subst hji
      have hli : decide (((X.length + j : Nat) : Int) < ((X.length + j : Nat) : Int)) = false := decide_eq_false (by omega)
      have B1 : ∀ y ∈ B.take j, lt x y = false := mem_take_get h2 fun k hk => h3 k hk (by omega)
      have B2 : ∀ y ∈ B.drop j, lt x y = true := mem_drop_get h4
      have hBB := List.take_append_drop j B
      have hl1 : (B.take j).length = j := by rw [List.length_take]; omega
      have hl2 : (B.drop j).length = B.length - j := List.length_drop ..
      generalize B.take j = P at *
      generalize B.drop j = R at *
      repeat' first | ((first | refine callP_false (.bool false) ?_ | refine aw_region rfl ?_ | refine aw_region_draw mixedF rfl (by kernel_rfl) ?_ | refine aE rfl ?_); simp only [go_sem, hli]) | refine callG_y ?_ | refine callG_p ?_ | refine aw_seq ?_ | refine aw_block ?_ | refine aw_scope ?_ | (refine aw_cond rfl (fun h => ?_) (fun h => ?_) <;> try (exfalso; first | (simp at h; done) | (simp at h; omega))) | ((with_reducible refine And.intro ?_ ?_); focus (first | omega | (intros; simp_all; done) | (simp; omega)))
      refine aw_loopS (ι := Nat) (fun t => [(0, .osl 7 blk v 0 n lc), (14, .int .i64 (X.length + j : Nat)), (17, .int .i64 (X.length + j + t : Nat))])
        (fun t => hset H blk (.cells v (fl (((X ++ P) ++ R.take t) ++ x :: (R.drop t ++ Y))))) (fun t => t ≤ R.length) (fun t => t) R.length (Nat.le_refl _) ?_ ?_ ?_
      · simp [go_sem]; omega
      · rw [← hBB] at hD
        rw [List.take_length, List.drop_length, List.nil_append]
        have e : X ++ P ++ R ++ x :: Y = D := by rw [hD]; simp only [List.append_assoc]
        rw [e]; exact (hset_id hh trivial).symm
      · intro t ht
        by_cases htj : 0 < t
        · obtain ⟨t, rfl⟩ : ∃ t', t = t' + 1 := ⟨t - 1, by omega⟩
          have e1 : R.drop t = R[t]'(by omega) :: R.drop (t + 1) := List.drop_eq_getElem_cons (by omega)
          have e2 : R.take (t + 1) = R.take t ++ [R[t]'(by omega)] := List.take_succ_eq_append_getElem (by omega)
          have htl : (R.take t).length = t := by rw [List.length_take]; omega
          have hdl : (R.drop (t + 1)).length = R.length - (t + 1) := List.length_drop ..
          rw [e2]
          generalize R[t]'(by omega) = y at *
          obtain ⟨p, hp⟩ : ∃ p, p = X.length + j + t := ⟨_, rfl⟩
          obtain ⟨q, hq⟩ : ∃ q, q = X.length + j + (t + 1) := ⟨_, rfl⟩
          have hw3 : IntKind.i64.wrap ((q : Int) - 1) = (p : Int) := wrap_nat (by omega) (by omega)
          have hli3 : decide (((X.length + j : Nat) : Int) < (q : Int)) = true := decide_eq_true (by omega)
          have l1 : ((X ++ P) ++ R.take t).length = p := by rw [List.length_append, List.length_append, htl, hl1, hp]
          have l2 : ∀ z, (((X ++ P) ++ R.take t) ++ [z]).length = q := fun z => by rw [List.length_append, l1, List.length_singleton, hp, hq]; omega
          have g1 := fl_get (x := y) (R := x :: (R.drop (t + 1) ++ Y)) l1
          have g2 := fl_get (x := x) (R := R.drop (t + 1) ++ Y) (l2 y)
          have s1 := fl_set (x := x) (y := y) (R := R.drop (t + 1) ++ Y) (l2 y)
          have s2 := fl_set (x := y) (y := x) (R := y :: (R.drop (t + 1) ++ Y)) l1
          simp only [List.append_assoc, List.cons_append, List.nil_append] at g1 g2 s1 s2
          rw [← hq]
          have hlq : ∀ z w, q * 7 + 7 ≤ (fl (X ++ (P ++ (R.take t ++ z :: w :: (R.drop (t + 1) ++ Y))))).length := fun z w => by rw [fl_len]; simp only [List.length_append, List.length_cons]; omega
          have hlp : ∀ z w, p * 7 + 7 ≤ (fl (X ++ (P ++ (R.take t ++ z :: w :: (R.drop (t + 1) ++ Y))))).length := fun z w => by rw [fl_len]; simp only [List.length_append, List.length_cons]; omega
          have a1 := hlp y x
          have a2 := hlq y x
          have a3 := hlp y y
          repeat' first | ((first | refine aw_region_mix (id := 11) [.free, .free, .free, .free, .free, .free, .free, .free, .pure 0, .pure 0, .free, .free, .pure 0, .pure 0, .pure 0, .eff [false, false, true, false, false], .pure 0, .eff [false, false]] mixedF rfl (by kernel_rfl) (by kernel_rfl) ?_ | refine aw_region_mix (id := 23) [.free, .free, .free, .free, .free, .free, .free, .free, .pure 0, .pure 0, .free, .free, .pure 0, .pure 0, .pure 0, .eff [false, false, true, false, false], .pure 0, .eff [false, false]] mixedF rfl (by kernel_rfl) (by kernel_rfl) ?_ | refine callP_false (.bool false) ?_ | refine aw_region rfl ?_ | refine aw_region_draw mixedF rfl (by kernel_rfl) ?_ | refine aE rfl ?_); simp only [go_sem, hset1, hset2, hw3, hli3, g1, g2, s1, s2, opC_len, opC_one]) | refine callG_y ?_ | refine callG_p ?_ | refine aw_seq ?_ | refine aw_block ?_ | refine aw_scope ?_ | (refine aw_cond rfl (fun h => ?_) (fun h => ?_) <;> try (exfalso; first | (simp at h; done) | (simp at h; omega))) | ((with_reducible refine And.intro ?_ ?_); focus (first | omega | (intros; simp_all; done) | (simp; omega)))
          (repeat' (with_reducible refine And.intro ?_ ?_)) <;> try (first | omega | rfl)
          repeat' first | ((first | refine aw_region_mix (id := 11) [.free, .free, .free, .free, .free, .free, .free, .free, .pure 0, .pure 0, .free, .free, .pure 0, .pure 0, .pure 0, .eff [false, false, true, false, false], .pure 0, .eff [false, false]] mixedF rfl (by kernel_rfl) (by kernel_rfl) ?_ | refine aw_region_mix (id := 23) [.free, .free, .free, .free, .free, .free, .free, .free, .pure 0, .pure 0, .free, .free, .pure 0, .pure 0, .pure 0, .eff [false, false, true, false, false], .pure 0, .eff [false, false]] mixedF rfl (by kernel_rfl) (by kernel_rfl) ?_ | refine callP_false (.bool false) ?_ | refine aw_region rfl ?_ | refine aw_region_draw mixedF rfl (by kernel_rfl) ?_ | refine aE rfl ?_); simp only [go_sem, hw3]) | refine callG_y ?_ | refine callG_p ?_ | refine aw_seq ?_ | refine aw_block ?_ | refine aw_scope ?_ | (refine aw_cond rfl (fun h => ?_) (fun h => ?_) <;> try (exfalso; first | (simp at h; done) | (simp at h; omega))) | ((with_reducible refine And.intro ?_ ?_); focus (first | omega | (intros; simp_all; done) | (simp; omega)))
          refine ⟨t, by omega, by omega, by rw [hp, Nat.add_assoc], ?_⟩
          rw [e1]; rfl
        · have hte : t = 0 := by omega
          subst hte
          have hli3 : decide (((X.length + j : Nat) : Int) < ((X.length + j : Nat) : Int)) = false := decide_eq_false (by omega)
          rw [Nat.add_zero]
          repeat' first | ((first | refine aw_region_mix (id := 11) [.free, .free, .free, .free, .free, .free, .free, .free, .pure 0, .pure 0, .free, .free, .pure 0, .pure 0, .pure 0, .eff [false, false, true, false, false], .pure 0, .eff [false, false]] mixedF rfl (by kernel_rfl) (by kernel_rfl) ?_ | refine aw_region_mix (id := 23) [.free, .free, .free, .free, .free, .free, .free, .free, .pure 0, .pure 0, .free, .free, .pure 0, .pure 0, .pure 0, .eff [false, false, true, false, false], .pure 0, .eff [false, false]] mixedF rfl (by kernel_rfl) (by kernel_rfl) ?_ | refine callP_false (.bool false) ?_ | refine aw_region rfl ?_ | refine aw_region_draw mixedF rfl (by kernel_rfl) ?_ | refine aE rfl ?_); simp only [go_sem, hli3]) | refine callG_y ?_ | refine callG_p ?_ | refine aw_seq ?_ | refine aw_block ?_ | refine aw_scope ?_ | (refine aw_cond rfl (fun h => ?_) (fun h => ?_) <;> try (exfalso; first | (simp at h; done) | (simp at h; omega))) | ((with_reducible refine And.intro ?_ ?_); focus (first | omega | (intros; simp_all; done) | (simp; omega)))
          refine doneSet (clb_fl _ _ _) _ ⟨rfl, P ++ x :: R, ?_, ?_, ?_⟩
          · rw [← hBB]; exact ins_fs hw B2
          · rw [← hBB] at hB; exact ins_sd hw hB B2 B1
          · simp only [List.append_assoc, List.cons_append, List.nil_append, List.take_zero, List.drop_zero]
end Go.Proofs.YtmknmapgfjmioaaGreatDoor
namespace Go.Proofs.YtmknmapgfjmioaaGreatDoor
open Go Go.Aw Go.Gw Go.Srt
set_option linter.unusedSimpArgs false
set_option maxRecDepth 20000
set_option maxHeartbeats 4000000

/-- What a merge answers. -/
def SymR (lt : Opn → Opn → Bool) (X A B Y : List Opn) (H : AHeap) (blk v : Nat) (r : AV) (H' : AHeap) : Prop :=
  r = .tup [] ∧ ∃ S, Fs lt (A ++ B) S ∧ Sd lt S ∧ H' = hset H blk (.cells v (fl (X ++ (S ++ Y))))

theorem mid_help {X E M mid : Nat} (h : X + E ≤ 2 * mid + 1) (q : mid < M) (hE : M ≤ E) : X ≤ mid + M - E ∧ E ≤ mid + M ∧ mid + M ≤ mid + M - E + E ∧ mid + M - E ≤ mid ∧ mid + M - E + E = mid + M := by omega
theorem sym_c {lt : Opn → Opn → Bool} {c : Opn → Opn → Int} (hw : SWO lt) (hc : ∀ x y, decide (c x y < 0) = lt x y) (fn : Fn) (fs cs : List AV) (hf : CmpC Tryz.prog (.func fn fs cs) c) (blk v lc n : Nat) (hl : n ≤ 1000000000) :
    ∀ (k : Nat) {X A B Y D : List Opn} {a m b : Int}, A.length + B.length ≤ k → D = X ++ (A ++ (B ++ Y)) → Sd lt A → Sd lt B → 0 < A.length → 0 < B.length → n = D.length → a = X.length → m = (X.length + A.length : Nat) → b = (X.length + A.length + B.length : Nat) →
      ∀ (H : AHeap), hget H blk = .cells v (fl D) →
    ACalls Tryz.prog 94 [.osl 7 blk v 0 n lc, .int .i64 a, .int .i64 m, .int .i64 b, .func fn fs cs] H (SymR lt X A B Y H blk v) := by
  intro k
  induction k with
  | zero => intro X A B Y D a m b hk; omega
  | succ k ih =>
    intro X A B Y D a m b hk hD hA hB hA0 hB0 hn ha hm hb H hh
    by_cases hA1 : A.length = 1
    · obtain ⟨x, rfl⟩ := List.length_eq_one_iff.1 hA1
      exact symA_c (X := X) (B := B) (Y := Y) (x := x) hw hc (by rw [hD]; rfl) hB hB0 hn ha (by rw [hm]; rfl) (by rw [hb]; rfl) fn fs cs hf H blk v lc hh hl
    by_cases hB1 : B.length = 1
    · obtain ⟨x, rfl⟩ := List.length_eq_one_iff.1 hB1
      exact symB_c (X := X) (B := A) (Y := Y) (x := x) hw hc (by rw [hD]; rfl) hA (by omega) hn ha hm (by rw [hb]; rfl) fn fs cs hf H blk v lc hh hl
    refine acalls_of Tryz.func94 rfl (Nat.le_of_ble_eq_true rfl) ?_
    have hset1 := fun b => hget_of hh trivial b
    have hset2 := hset_set H blk
    have hlen : n = X.length + (A.length + (B.length + Y.length)) := by rw [hn, hD]; simp only [List.length_append]
    have hw1 : IntKind.i64.wrap (m - a) = (A.length : Int) := by subst hm ha; exact wrap_nat (by omega) (by omega)
    have hw0 : IntKind.i64.wrap (b - m) = (B.length : Int) := by subst hm hb; exact wrap_nat (by omega) (by omega)
    have hl1 : decide ((A.length : Int) = 1) = false := decide_eq_false (by omega)
    have hl2 : decide ((B.length : Int) = 1) = false := decide_eq_false (by omega)
    obtain ⟨M, hM⟩ : ∃ M, M = X.length + A.length := ⟨_, rfl⟩
    obtain ⟨E, hE⟩ : ∃ E, E = X.length + A.length + B.length := ⟨_, rfl⟩
    obtain ⟨mid, hmid⟩ : ∃ mid, mid = (X.length + E) / 2 := ⟨_, rfl⟩
    rw [← hM] at hm
    rw [← hE] at hb
    have hDA : ∀ k (hk : k < A.length), D[X.length + k]'(by omega) = A[k] := by
      intro k hk
      subst hD
      rw [List.getElem_append_right (by omega), List.getElem_append_left (by omega)]
      congr 1; omega
    have hDB : ∀ k (hk : k < B.length), D[M + k]'(by omega) = B[k] := by
      intro k hk
      subst hD
      rw [List.getElem_append_right (by omega), List.getElem_append_right (by omega), List.getElem_append_left (by omega)]
      congr 1; omega
    have hhf := mid_eq (i := X.length) (j := E) (n := E) (by omega) (by omega) (by omega)
    rw [← hmid] at hhf
    have hw2 : IntKind.i64.wrap ((mid : Int) + (M : Int)) = ((mid + M : Nat) : Int) := wrap_nat (by omega) (by omega)
    have hw4 : IntKind.i64.wrap (((mid + M : Nat) : Int) - 1) = ((mid + M - 1 : Nat) : Int) := wrap_nat (by omega) (by omega)
    subst hm hb ha
    have hm2 : 2 * mid ≤ X.length + E := by omega
    have hm3 : X.length + E ≤ 2 * mid + 1 := by omega
    have hm4 : M ≤ mid → mid + M ≤ X.length + E := fun q => by omega
    have hm5 : mid < M → X.length ≤ mid + M - E ∧ E ≤ mid + M ∧ mid + M ≤ mid + M - E + E ∧ mid + M - E ≤ mid ∧ mid + M - E + E = mid + M := fun q => mid_help hm3 q (by omega)
    have hMl : M ≤ n := by omega
    -- elements, by their places
    obtain ⟨dg, hdg⟩ : ∃ dg : Nat → Opn, ∀ k (hk : k < D.length), D[k] = dg k := ⟨fun k => D.getD k op0, fun k hk => by simp only; rw [List.getD_eq_getElem?_getD, List.getElem?_eq_getElem hk]; rfl⟩
    have hgA : ∀ k (hk : k < A.length), A[k] = dg (X.length + k) := fun k hk => by rw [← hDA k hk, hdg]
    have hgB : ∀ k (hk : k < B.length), B[k] = dg (M + k) := fun k hk => by rw [← hDB k hk, hdg]
    have gK : ∀ k, k < n → List.take 7 (List.drop (k * 7) (fl D)) = opCells (dg k) := fun k hk => by rw [fl_at (by omega), hdg]
    have mA : ∀ c d, X.length ≤ c → c ≤ d → d < M → lt (dg d) (dg c) = false := by
      intro c d h1 h2 h3
      by_cases e : c = d
      · subst e; exact hw.irr _
      · have q := hA.get (i := c - X.length) (j := d - X.length) (by omega) (by omega)
        rw [hgA, hgA] at q
        have e1 : X.length + (d - X.length) = d := by omega
        have e2 : X.length + (c - X.length) = c := by omega
        rwa [e1, e2] at q
    have mB : ∀ c d, M ≤ c → c ≤ d → d < E → lt (dg d) (dg c) = false := by
      intro c d h1 h2 h3
      by_cases e : c = d
      · subst e; exact hw.irr _
      · have q := hB.get (i := c - M) (j := d - M) (by omega) (by omega)
        rw [hgB, hgB] at q
        have e1 : M + (d - M) = d := by omega
        have e2 : M + (c - M) = c := by omega
        rwa [e1, e2] at q
    repeat' first | ((first | refine callP_false (.bool false) ?_ | refine aw_region rfl ?_ | refine aw_region_draw mixedF rfl (by kernel_rfl) ?_ | refine aE rfl ?_); simp only [go_sem, hw1, hw0, hl1, hl2, hhf, hw2, hw4]) | refine callG_y ?_ | refine callG_p ?_ | refine aw_seq ?_ | refine aw_block ?_ | refine aw_scope ?_ | ((with_reducible refine And.intro ?_ ?_); focus (first | omega | (intros; simp_all; done) | (simp; omega)))
    refine aw_cond rfl (fun h => by simp at h) (fun _ => ?_)
    repeat' first | ((first | refine callP_false (.bool false) ?_ | refine aw_region rfl ?_ | refine aw_region_draw mixedF rfl (by kernel_rfl) ?_ | refine aE rfl ?_); simp only [go_sem, hw1, hw0, hl1, hl2, hhf, hw2, hw4]) | refine callG_y ?_ | refine callG_p ?_ | refine aw_seq ?_ | refine aw_block ?_ | refine aw_scope ?_ | ((with_reducible refine And.intro ?_ ?_); focus (first | omega | (intros; simp_all; done) | (simp; omega)))
    refine aw_cond rfl (fun h => by simp at h) (fun _ => ?_)
    repeat' first | ((first | refine callP_false (.bool false) ?_ | refine aw_region rfl ?_ | refine aw_region_draw mixedF rfl (by kernel_rfl) ?_ | refine aE rfl ?_); simp only [go_sem, hw1, hw0, hl1, hl2, hhf, hw2, hw4]) | refine callG_y ?_ | refine callG_p ?_ | refine aw_seq ?_ | refine aw_block ?_ | refine aw_scope ?_ | ((with_reducible refine And.intro ?_ ?_); focus (first | omega | (intros; simp_all; done) | (simp; omega)))
    refine aw_cutT (ι := Nat × Nat) (fun s => [(0, .osl 7 blk v 0 n lc), (1, .int .i64 X.length), (2, .int .i64 M), (3, .int .i64 E), (4, .func fn fs cs), (18, .int .i64 mid), (19, .int .i64 (mid + M : Nat)), (20, .int .i64 s.1), (21, .int .i64 s.2)]) (fun _ => H)
      (fun s => X.length ≤ s.1 ∧ mid + M ≤ s.1 + E ∧ (s.1 = X.length ∨ s.1 + E = mid + M) ∧ s.1 ≤ s.2 ∧ s.2 ≤ M ∧ s.2 ≤ mid ∧ (s.2 = M ∨ s.2 = mid)) ?_ ?_
    · refine aw_cond rfl (fun h => ?_) (fun h => ?_)
      · rw [decide_eq_true_eq] at h
        have hw3 : IntKind.i64.wrap (((mid + M : Nat) : Int) - (E : Int)) = ((mid + M - E : Nat) : Int) := wrap_nat (by omega) (by omega)
        repeat' first | ((first | refine callP_false (.bool false) ?_ | refine aw_region rfl ?_ | refine aw_region_draw mixedF rfl (by kernel_rfl) ?_ | refine aE rfl ?_); simp only [go_sem, hw3]) | refine callG_y ?_ | refine callG_p ?_ | refine aw_seq ?_ | refine aw_block ?_ | refine aw_scope ?_ | (refine aw_cond rfl (fun h => ?_) (fun h => ?_) <;> try (exfalso; first | (simp at h; done) | (simp at h; omega))) | ((with_reducible refine And.intro ?_ ?_); focus (first | omega | (intros; simp_all; done) | (simp; omega)))
        have q0 : mid < M := by omega
        have q := hm5 q0
        exact ⟨(mid + M - E, mid), ⟨q.1, q.2.2.1, .inr q.2.2.2.2, q.2.2.2.1, Nat.le_of_lt q0, Nat.le_refl _, .inr rfl⟩, rfl, rfl⟩
      · rw [decide_eq_false_iff_not] at h
        repeat' first | ((first | refine callP_false (.bool false) ?_ | refine aw_region rfl ?_ | refine aw_region_draw mixedF rfl (by kernel_rfl) ?_ | refine aE rfl ?_); simp only [go_sem]) | refine callG_y ?_ | refine callG_p ?_ | refine aw_seq ?_ | refine aw_block ?_ | refine aw_scope ?_ | (refine aw_cond rfl (fun h => ?_) (fun h => ?_) <;> try (exfalso; first | (simp at h; done) | (simp at h; omega))) | ((with_reducible refine And.intro ?_ ?_); focus (first | omega | (intros; simp_all; done) | (simp; omega)))
        have q0 : M ≤ mid := by omega
        exact ⟨(X.length, M), ⟨Nat.le_refl _, hm4 q0, .inl rfl, by rw [hM]; exact Nat.le_add_right _ _, Nat.le_refl _, q0, .inl rfl⟩, rfl, rfl⟩
    · rintro ⟨s0, r0⟩ ⟨p1, p2, p3, p4, p5, p6, p7⟩
      simp only at p1 p2 p3 p4 p5 p6 p7 ⊢
      have mono : ∀ c d, s0 ≤ c → c ≤ d → d < r0 → lt (dg (mid + M - 1 - c)) (dg c) = true → lt (dg (mid + M - 1 - d)) (dg d) = true := by
        intro c d h1 h2 h3 h4
        have q1 := mB (mid + M - 1 - d) (mid + M - 1 - c) (by omega) (by omega) (by omega)
        have q2 := mA c d (by omega) h2 (by omega)
        exact hw.ltr (hw.rtr q1 h4) q2
      repeat' first | ((first | refine callP_false (.bool false) ?_ | refine aw_region rfl ?_ | refine aw_region_draw mixedF rfl (by kernel_rfl) ?_ | refine aE rfl ?_); simp only [go_sem, hw4]) | refine callG_y ?_ | refine callG_p ?_ | refine aw_seq ?_ | refine aw_block ?_ | refine aw_scope ?_ | ((with_reducible refine And.intro ?_ ?_); focus (first | omega | (intros; simp_all; done) | (simp; omega)))
      refine aw_cutB (ι := Nat) (fun i => [(0, .osl 7 blk v 0 n lc), (1, .int .i64 X.length), (2, .int .i64 M), (3, .int .i64 E), (4, .func fn fs cs), (18, .int .i64 mid), (19, .int .i64 (mid + M : Nat)), (20, .int .i64 i)]) (fun _ => H)
        (fun i => s0 ≤ i ∧ i ≤ r0 ∧ (∀ c, s0 ≤ c → c < i → lt (dg (mid + M - 1 - c)) (dg c) = false) ∧ (∀ c, i ≤ c → c < r0 → lt (dg (mid + M - 1 - c)) (dg c) = true)) ?_ ?_
      · refine aw_loopS (ι := Nat × Nat) (fun s => [(0, .osl 7 blk v 0 n lc), (1, .int .i64 X.length), (2, .int .i64 M), (3, .int .i64 E), (4, .func fn fs cs), (18, .int .i64 mid), (19, .int .i64 (mid + M : Nat)), (22, .int .i64 (mid + M - 1 : Nat)), (20, .int .i64 s.1), (21, .int .i64 s.2)]) (fun _ => H)
          (fun s => s0 ≤ s.1 ∧ s.1 ≤ s.2 ∧ s.2 ≤ r0 ∧ (∀ c, s0 ≤ c → c < s.1 → lt (dg (mid + M - 1 - c)) (dg c) = false) ∧ (∀ c, s.2 ≤ c → c < r0 → lt (dg (mid + M - 1 - c)) (dg c) = true)) (fun s => s.2 - s.1) (s0, r0) ⟨Nat.le_refl _, p4, Nat.le_refl _, fun c h1 h2 => by simp only at h2; omega, fun c h1 h2 => by simp only at h1; omega⟩ ?_ rfl ?_
        · simp [go_sem]
        · rintro ⟨i, j⟩ ⟨h1, h2, h3, h4, h5⟩
          simp only at h1 h2 h3 h4 h5 ⊢
          by_cases hij : i < j
          · obtain ⟨u, hu⟩ : ∃ u, (i + j) / 2 = u := ⟨_, rfl⟩
            have hhu := mid_eq (i := i) (j := j) (n := j) (by omega) (by omega) (by omega)
            rw [hu] at hhu
            obtain ⟨z, hz⟩ : ∃ z, z = mid + M - 1 - u := ⟨_, rfl⟩
            have hw5 : IntKind.i64.wrap (((mid + M - 1 : Nat) : Int) - (u : Int)) = (z : Int) := wrap_nat (by omega) (by omega)
            have hw6 : IntKind.i64.wrap ((u : Int) + 1) = ((u + 1 : Nat) : Int) := wrap_nat (by omega) (by omega)
            have hli : decide ((i : Int) < (j : Int)) = true := decide_eq_true (by omega)
            have g1 := gK u (by omega)
            have g2 := gK z (by omega)
            have a1 : u * 7 + 7 ≤ (fl D).length := by rw [fl_len]; omega
            have a2 : z * 7 + 7 ≤ (fl D).length := by rw [fl_len]; omega
            repeat' first | ((first | refine aw_region_mix (id := 11) [.free, .free, .free, .free, .free, .free, .free, .free, .pure 0, .pure 0, .free, .free, .pure 0, .pure 0, .pure 0, .eff [false, false, true, false, false], .pure 0, .eff [false, false]] mixedF rfl (by kernel_rfl) (by kernel_rfl) ?_ | refine aw_region_mix (id := 23) [.free, .free, .free, .free, .free, .free, .free, .free, .pure 0, .pure 0, .free, .free, .pure 0, .pure 0, .pure 0, .eff [false, false, true, false, false], .pure 0, .eff [false, false]] mixedF rfl (by kernel_rfl) (by kernel_rfl) ?_ | refine callP_false (.bool false) ?_ | refine aw_region rfl ?_ | refine aw_region_draw mixedF rfl (by kernel_rfl) ?_ | refine aE rfl ?_); simp only [go_sem, hli, hhu, hh, hw5, g1, g2]) | refine callG_y ?_ | refine callG_p ?_ | refine aw_seq ?_ | refine aw_block ?_ | refine aw_scope ?_ | (refine aw_cond rfl (fun h => ?_) (fun h => ?_) <;> try (exfalso; first | (simp at h; done) | (simp at h; omega))) | ((with_reducible refine And.intro ?_ ?_); focus (first | omega | (intros; simp_all; done) | (simp; omega)))
            (repeat' (with_reducible refine And.intro ?_ ?_)) <;> try (first | omega | rfl)
            refine callP_cmp hf ?_
            simp only [go_sem, hc]
            cases hxy : lt (dg z) (dg u) with
            | true =>
              repeat' first | ((first | refine callP_false (.bool false) ?_ | refine aw_region rfl ?_ | refine aw_region_draw mixedF rfl (by kernel_rfl) ?_ | refine aE rfl ?_); simp only [go_sem, hxy, hw6]) | refine callG_y ?_ | refine callG_p ?_ | refine aw_seq ?_ | refine aw_block ?_ | refine aw_scope ?_ | (refine aw_cond rfl (fun h => ?_) (fun h => ?_) <;> try (exfalso; first | (simp at h; done) | (simp at h; omega))) | ((with_reducible refine And.intro ?_ ?_); focus (first | omega | (intros; simp_all; done) | (simp; omega)))
              refine ⟨(i, u), ⟨h1, by simp only; omega, by simp only; omega, h4, fun c q1 q2 => mono u c (by omega) q1 q2 (by rw [← hz]; exact hxy)⟩, by simp only; omega, rfl, rfl⟩
            | false =>
              repeat' first | ((first | refine callP_false (.bool false) ?_ | refine aw_region rfl ?_ | refine aw_region_draw mixedF rfl (by kernel_rfl) ?_ | refine aE rfl ?_); simp only [go_sem, hxy, hw6]) | refine callG_y ?_ | refine callG_p ?_ | refine aw_seq ?_ | refine aw_block ?_ | refine aw_scope ?_ | (refine aw_cond rfl (fun h => ?_) (fun h => ?_) <;> try (exfalso; first | (simp at h; done) | (simp at h; omega))) | ((with_reducible refine And.intro ?_ ?_); focus (first | omega | (intros; simp_all; done) | (simp; omega)))
              refine ⟨(u + 1, j), ⟨by simp only; omega, by simp only; omega, h3, fun c q1 q2 => ?_, h5⟩, by simp only; omega, rfl, rfl⟩
              cases q3 : lt (dg (mid + M - 1 - c)) (dg c) with
              | false => rfl
              | true =>
                have := mono c u q1 (by simp only at q2; omega) (by omega) q3
                rw [← hz, hxy] at this; cases this
          · have hji : j = i := by omega
            subst hji
            have hli : decide ((j : Int) < (j : Int)) = false := decide_eq_false (by omega)
            repeat' first | ((first | refine callP_false (.bool false) ?_ | refine aw_region rfl ?_ | refine aw_region_draw mixedF rfl (by kernel_rfl) ?_ | refine aE rfl ?_); simp only [go_sem, hli]) | refine callG_y ?_ | refine callG_p ?_ | refine aw_seq ?_ | refine aw_block ?_ | refine aw_scope ?_ | (refine aw_cond rfl (fun h => ?_) (fun h => ?_) <;> try (exfalso; first | (simp at h; done) | (simp at h; omega))) | ((with_reducible refine And.intro ?_ ?_); focus (first | omega | (intros; simp_all; done) | (simp; omega)))
            exact ⟨j, ⟨h1, h3, h4, h5⟩, rfl⟩
      · rintro i ⟨t1, t2, t3, t4⟩
        -- the four pieces
        obtain ⟨A1, hA1'⟩ : ∃ A1, A1 = A.take (i - X.length) := ⟨_, rfl⟩
        obtain ⟨A2, hA2'⟩ : ∃ A2, A2 = A.drop (i - X.length) := ⟨_, rfl⟩
        obtain ⟨B1, hB1'⟩ : ∃ B1, B1 = B.take (mid - i) := ⟨_, rfl⟩
        obtain ⟨B2, hB2'⟩ : ∃ B2, B2 = B.drop (mid - i) := ⟨_, rfl⟩
        have hAA : A1 ++ A2 = A := by rw [hA1', hA2']; exact List.take_append_drop _ _
        have hBB : B1 ++ B2 = B := by rw [hB1', hB2']; exact List.take_append_drop _ _
        have lA1 : A1.length = i - X.length := by rw [hA1', List.length_take]; omega
        have lA2 : A2.length = M - i := by rw [hA2', List.length_drop]; omega
        have lB1 : B1.length = mid - i := by rw [hB1', List.length_take]; omega
        have lB2 : B2.length = E - (mid + M - i) := by rw [hB2', List.length_drop]; omega
        have vA1 : ∀ x ∈ A1, ∃ k, X.length ≤ k ∧ k < i ∧ x = dg k := by
          rw [hA1']; exact mem_take_get (by omega) fun k hk => ⟨X.length + k, by omega, by omega, hgA k (by omega)⟩
        have vA2 : ∀ x ∈ A2, ∃ k, i ≤ k ∧ k < M ∧ x = dg k := by
          rw [hA2']; exact mem_drop_get fun k h1 hk => ⟨X.length + k, by omega, by omega, hgA k (by omega)⟩
        have vB1 : ∀ x ∈ B1, ∃ k, M ≤ k ∧ k < mid + M - i ∧ x = dg k := by
          rw [hB1']; exact mem_take_get (by omega) fun k hk => ⟨M + k, by omega, by omega, hgB k (by omega)⟩
        have vB2 : ∀ x ∈ B2, ∃ k, mid + M - i ≤ k ∧ k < E ∧ x = dg k := by
          rw [hB2']; exact mem_drop_get fun k h1 hk => ⟨M + k, by omega, by omega, hgB k (by omega)⟩
        have h21 : ∀ a ∈ A2, ∀ b ∈ B1, lt b a = true := by
          intro a ha b hb
          obtain ⟨c, c1, c2, rfl⟩ := vA2 a ha
          obtain ⟨d, d1, d2, rfl⟩ := vB1 b hb
          have q := t4 i (Nat.le_refl _) (by omega)
          have q1 := mB d (mid + M - 1 - i) d1 (by omega) (by omega)
          exact hw.ltr (hw.rtr q1 q) (mA i c (by omega) c1 c2)
        have h12 : ∀ a ∈ A1, ∀ b ∈ B2, lt b a = false := by
          intro a ha b hb
          obtain ⟨c, c1, c2, rfl⟩ := vA1 a ha
          obtain ⟨d, d1, d2, rfl⟩ := vB2 b hb
          have q := t3 (i - 1) (by omega) (by omega)
          have q1 := mB (mid + M - 1 - (i - 1)) d (by omega) (by omega) d2
          exact hw.ntr _ _ _ (hw.ntr _ _ _ q1 q) (mA c (i - 1) c1 (by omega) (by omega))
        have hA' := hA
        have hB' := hB
        rw [← hAA] at hA'
        rw [← hBB] at hB'
        obtain ⟨en, hen⟩ : ∃ en, en = mid + M - i := ⟨_, rfl⟩
        have hw7 : IntKind.i64.wrap (((mid + M : Nat) : Int) - (i : Int)) = (en : Int) := wrap_nat (by omega) (by omega)
        have eD : D = X ++ (A1 ++ (A2 ++ (B1 ++ (B2 ++ Y)))) := by rw [hD, ← hAA, ← hBB]; simp only [List.append_assoc]
        repeat' first | ((first | refine callP_false (.bool false) ?_ | refine aw_region rfl ?_ | refine aw_region_draw mixedF rfl (by kernel_rfl) ?_ | refine aE rfl ?_); simp only [go_sem, hw7]) | refine callG_y ?_ | refine callG_p ?_ | refine aw_seq ?_ | refine aw_block ?_ | refine aw_scope ?_ | ((with_reducible refine And.intro ?_ ?_); focus (first | omega | (intros; simp_all; done) | (simp; omega)))
        refine aw_cutT (ι := Unit) (fun s => [(0, .osl 7 blk v 0 n lc), (1, .int .i64 X.length), (3, .int .i64 E), (4, .func fn fs cs), (18, .int .i64 mid), (20, .int .i64 i), (24, .int .i64 en)]) (fun _ => hset H blk (.cells v (fl (X ++ (A1 ++ (B1 ++ (A2 ++ (B2 ++ Y)))))))) (fun _ => True) ?_ ?_
        · refine aw_cond rfl (fun h => ?_) (fun h => ?_)
          · rw [Bool.and_eq_true, decide_eq_true_eq, decide_eq_true_eq] at h
            repeat' first | ((first | refine callP_false (.bool false) ?_ | refine aw_region rfl ?_ | refine aw_region_draw mixedF rfl (by kernel_rfl) ?_ | refine aE rfl ?_); simp only [go_sem]) | refine callG_y ?_ | refine callG_p ?_ | refine aw_seq ?_ | refine aw_block ?_ | refine aw_scope ?_ | (refine aw_cond rfl (fun h => ?_) (fun h => ?_) <;> try (exfalso; first | (simp at h; done) | (simp at h; omega))) | ((with_reducible refine And.intro ?_ ?_); focus (first | omega | (intros; simp_all; done) | (simp; omega)))
            refine callK_of (rot_c (a := (i : Int)) (m := (M : Int)) (b := (en : Int)) (X := X ++ A1) (U := A2) (V := B1) (Y := B2 ++ Y) (by rw [eD]; simp only [List.append_assoc]) hn (by rw [List.length_append]; omega) (by rw [List.length_append]; omega) (by rw [List.length_append]; omega) (by omega) (by omega) _ _ _ _ _ hh hl) callOk105F ?_
            rintro r H' ⟨rfl, rfl⟩
            simp only [go_sem]
            exact ⟨(), by simp only [List.append_assoc]⟩
          · rw [Bool.and_eq_false_iff, decide_eq_false_iff_not, decide_eq_false_iff_not] at h
            repeat' first | ((first | refine callP_false (.bool false) ?_ | refine aw_region rfl ?_ | refine aw_region_draw mixedF rfl (by kernel_rfl) ?_ | refine aE rfl ?_); simp only [go_sem]) | refine callG_y ?_ | refine callG_p ?_ | refine aw_seq ?_ | refine aw_block ?_ | refine aw_scope ?_ | (refine aw_cond rfl (fun h => ?_) (fun h => ?_) <;> try (exfalso; first | (simp at h; done) | (simp at h; omega))) | ((with_reducible refine And.intro ?_ ?_); focus (first | omega | (intros; simp_all; done) | (simp; omega)))
            have e : X ++ (A1 ++ (B1 ++ (A2 ++ (B2 ++ Y)))) = D := by
              have : A2 = [] ∨ B1 = [] := by
                rcases h with h | h
                · exact .inl (List.eq_nil_of_length_eq_zero (by omega))
                · exact .inr (List.eq_nil_of_length_eq_zero (by omega))
              rw [eD]
              rcases this with e | e <;> rw [e] <;> rfl
            rw [e]; exact ⟨(), (hset_id hh trivial).symm⟩
        · intro _ _
          repeat' first | ((first | refine callP_false (.bool false) ?_ | refine aw_region rfl ?_ | refine aw_region_draw mixedF rfl (by kernel_rfl) ?_ | refine aE rfl ?_); simp only [go_sem]) | refine callG_y ?_ | refine callG_p ?_ | refine aw_seq ?_ | refine aw_block ?_ | refine aw_scope ?_ | ((with_reducible refine And.intro ?_ ?_); focus (first | omega | (intros; simp_all; done) | (simp; omega)))
          refine aw_cutT (ι := List Opn) (fun s => [(0, .osl 7 blk v 0 n lc), (3, .int .i64 E), (4, .func fn fs cs), (18, .int .i64 mid), (24, .int .i64 en)]) (fun C => hset H blk (.cells v (fl (X ++ (C ++ (A2 ++ (B2 ++ Y))))))) (fun C => Fs lt (A1 ++ B1) C ∧ Sd lt C) ?_ ?_
          · refine aw_cond rfl (fun h => ?_) (fun h => ?_)
            · rw [Bool.and_eq_true, decide_eq_true_eq, decide_eq_true_eq] at h
              repeat' first | ((first | refine callP_false (.bool false) ?_ | refine aw_region rfl ?_ | refine aw_region_draw mixedF rfl (by kernel_rfl) ?_ | refine aE rfl ?_); simp only [go_sem]) | refine callG_y ?_ | refine callG_p ?_ | refine aw_seq ?_ | refine aw_block ?_ | refine aw_scope ?_ | (refine aw_cond rfl (fun h => ?_) (fun h => ?_) <;> try (exfalso; first | (simp at h; done) | (simp at h; omega))) | ((with_reducible refine And.intro ?_ ?_); focus (first | omega | (intros; simp_all; done) | (simp; omega)))
              refine callK_of (ih (X := X) (A := A1) (B := B1) (Y := A2 ++ (B2 ++ Y)) (a := (X.length : Int)) (m := (i : Int)) (b := (mid : Int)) (by omega) rfl hA'.left hB'.left (by omega) (by omega) (by simp only [List.length_append]; omega) rfl (by omega) (by omega) _ (hset1 _)) callOk94F ?_
              rintro r H' ⟨rfl, C, c1, c2, rfl⟩
              simp only [go_sem, hset2]
              exact ⟨C, ⟨c1, c2⟩, rfl⟩
            · rw [Bool.and_eq_false_iff, decide_eq_false_iff_not, decide_eq_false_iff_not] at h
              repeat' first | ((first | refine callP_false (.bool false) ?_ | refine aw_region rfl ?_ | refine aw_region_draw mixedF rfl (by kernel_rfl) ?_ | refine aE rfl ?_); simp only [go_sem]) | refine callG_y ?_ | refine callG_p ?_ | refine aw_seq ?_ | refine aw_block ?_ | refine aw_scope ?_ | (refine aw_cond rfl (fun h => ?_) (fun h => ?_) <;> try (exfalso; first | (simp at h; done) | (simp at h; omega))) | ((with_reducible refine And.intro ?_ ?_); focus (first | omega | (intros; simp_all; done) | (simp; omega)))
              refine ⟨A1 ++ B1, ⟨.refl _, ?_⟩, by simp only [List.append_assoc]⟩
              have : A1 = [] ∨ B1 = [] := by
                rcases h with h | h
                · exact .inl (List.eq_nil_of_length_eq_zero (by omega))
                · exact .inr (List.eq_nil_of_length_eq_zero (by omega))
              rcases this with e | e <;> rw [e]
              · exact hB'.left
              · rw [List.append_nil]; exact hA'.left
          · rintro C ⟨c1, c2⟩
            have lC := c1.1
            rw [List.length_append] at lC
            have fin : ∀ S, Fs lt (A2 ++ B2) S → Sd lt S → Fs lt (A ++ B) (C ++ S) ∧ Sd lt (C ++ S) := by
              intro S s1 s2
              refine ⟨?_, merge_sd hw c2 s2 c1 s1 hA'.cross hB'.cross h21 h12⟩
              rw [← hAA, ← hBB]
              exact (merge_fs hw h21).trans (c1.app s1)
            repeat' first | ((first | refine callP_false (.bool false) ?_ | refine aw_region rfl ?_ | refine aw_region_draw mixedF rfl (by kernel_rfl) ?_ | refine aE rfl ?_); simp only [go_sem]) | refine callG_y ?_ | refine callG_p ?_ | refine aw_seq ?_ | refine aw_block ?_ | refine aw_scope ?_ | ((with_reducible refine And.intro ?_ ?_); focus (first | omega | (intros; simp_all; done) | (simp; omega)))
            refine aw_cond rfl (fun h => ?_) (fun h => ?_)
            · rw [Bool.and_eq_true, decide_eq_true_eq, decide_eq_true_eq] at h
              repeat' first | ((first | refine callP_false (.bool false) ?_ | refine aw_region rfl ?_ | refine aw_region_draw mixedF rfl (by kernel_rfl) ?_ | refine aE rfl ?_); simp only [go_sem]) | refine callG_y ?_ | refine callG_p ?_ | refine aw_seq ?_ | refine aw_block ?_ | refine aw_scope ?_ | (refine aw_cond rfl (fun h => ?_) (fun h => ?_) <;> try (exfalso; first | (simp at h; done) | (simp at h; omega))) | ((with_reducible refine And.intro ?_ ?_); focus (first | omega | (intros; simp_all; done) | (simp; omega)))
              refine callK_of (ih (X := X ++ C) (A := A2) (B := B2) (Y := Y) (a := (mid : Int)) (m := (en : Int)) (b := (E : Int)) (by omega) (by simp only [List.append_assoc]) hA'.right hB'.right (by omega) (by omega) (by simp only [List.length_append]; omega) (by rw [List.length_append]; omega) (by rw [List.length_append]; omega) (by rw [List.length_append]; omega) _ (hset1 _)) callOk94F ?_
              rintro r H' ⟨rfl, S, s1, s2, rfl⟩
              simp only [go_sem, hset2]
              exact doneSet (clb_fl _ _ _) _ ⟨rfl, C ++ S, (fin S s1 s2).1, (fin S s1 s2).2, by simp only [List.append_assoc]⟩
            · rw [Bool.and_eq_false_iff, decide_eq_false_iff_not, decide_eq_false_iff_not] at h
              repeat' first | ((first | refine callP_false (.bool false) ?_ | refine aw_region rfl ?_ | refine aw_region_draw mixedF rfl (by kernel_rfl) ?_ | refine aE rfl ?_); simp only [go_sem]) | refine callG_y ?_ | refine callG_p ?_ | refine aw_seq ?_ | refine aw_block ?_ | refine aw_scope ?_ | (refine aw_cond rfl (fun h => ?_) (fun h => ?_) <;> try (exfalso; first | (simp at h; done) | (simp at h; omega))) | ((with_reducible refine And.intro ?_ ?_); focus (first | omega | (intros; simp_all; done) | (simp; omega)))
              have hs : Sd lt (A2 ++ B2) := by
                have : A2 = [] ∨ B2 = [] := by
                  rcases h with h | h
                  · exact .inl (List.eq_nil_of_length_eq_zero (by omega))
                  · exact .inr (List.eq_nil_of_length_eq_zero (by omega))
                rcases this with e | e <;> rw [e]
                · exact hB'.right
                · rw [List.append_nil]; exact hA'.right
              exact doneSet (clb_fl _ _ _) _ ⟨rfl, C ++ (A2 ++ B2), (fin _ (.refl _) hs).1, (fin _ (.refl _) hs).2, by simp only [List.append_assoc]⟩
end Go.Proofs.YtmknmapgfjmioaaGreatDoor
/- Logs, in plain Lean: sizes, and which operations there are. No condition. -/
namespace Go.Gw
open Go Go.Aw Go.Proofs.YtmknmapgfjmioaaGreatDoor

theorem redo_ops (l : List Opn) (es : List Ent) (n : List Nd) : (redo l es n).1.map Ent.op = es.map Ent.op ++ l := by
  induction l generalizing es n with
  | nil => simp [redo]
  | cons o l ih => unfold redo; rw [ih]; simp

/-- How many entries stand ahead of a time. -/
def fromG (g : Lg) (o : Opn) : Nat := g.entries.length - (undoR o.at_ g.entries.reverse g.nodes).1

theorem opsG_add (g : Lg) (o : Opn) : opsG (addG g o) = if opOk o = false ∨ hasAt g.entries o.at_ = true ∨ (200 : Int) ≤ (g.entries.length : Int) then opsG g
    else (opsG g).take (fromG g o) ++ o :: (opsG g).drop (fromG g o) := by
  unfold addG opsG
  by_cases h1 : opOk o = false
  · rw [if_pos h1, if_pos (.inl h1)]
  · by_cases h2 : hasAt g.entries o.at_ = true
    · rw [if_neg h1, if_pos h2, if_pos (.inr (.inl h2))]
    · by_cases h3 : (200 : Int) ≤ (g.entries.length : Int)
      · rw [if_neg h1, if_neg h2, if_pos h3, if_pos (.inr (.inr h3))]
      · rw [if_neg h1, if_neg h2, if_neg h3, if_neg (by rintro (h | h | h) <;> contradiction), redo_ops]
        simp only [fromG, List.map_take, List.map_drop]

theorem addG_len (g : Lg) (o : Opn) : (addG g o).entries.length ≤ g.entries.length + 1 ∧ ((addG g o).entries.length ≤ 200 ∨ (addG g o).entries.length = g.entries.length) ∧ (g.entries.length ≤ 200 → (addG g o).nodes.length ≤ g.nodes.length + 401) := by
  unfold addG
  split
  · exact ⟨by omega, .inr rfl, fun _ => by omega⟩
  · split
    · exact ⟨by omega, .inr rfl, fun _ => by omega⟩
    · split
      · exact ⟨by omega, .inr rfl, fun _ => by omega⟩
      · have h1 := undoR_le o.at_ g.entries.reverse g.nodes
        have h2 := undoR_len o.at_ g.entries.reverse g.nodes
        have h3 := redo_len (o :: (g.entries.drop (g.entries.length - (undoR o.at_ g.entries.reverse g.nodes).1)).map Ent.op) (g.entries.take (g.entries.length - (undoR o.at_ g.entries.reverse g.nodes).1)) (undoR o.at_ g.entries.reverse g.nodes).2
        rw [List.length_reverse] at h1 h2
        simp only [List.length_cons, List.length_map, List.length_drop, List.length_take] at h3
        refine ⟨by simp only; omega, .inl (by simp only; omega), fun h => by simp only; omega⟩

theorem addG_ops (g : Lg) (o : Opn) (P : Opn → Prop) (h : ∀ e ∈ g.entries, P e.op) (ho : P o) : ∀ e ∈ (addG g o).entries, P e.op := by
  intro e he
  have h1 : e.op ∈ opsG (addG g o) := List.mem_map_of_mem he
  rw [opsG_add] at h1
  have hg : ∀ x ∈ opsG g, P x := fun x hx => by obtain ⟨e', he', rfl⟩ := List.mem_map.1 hx; exact h e' he'
  split at h1
  · exact hg _ h1
  · rw [List.mem_append, List.mem_cons] at h1
    rcases h1 with h1 | h1 | h1
    · exact hg _ (List.mem_of_mem_take h1)
    · rw [h1]; exact ho
    · exact hg _ (List.mem_of_mem_drop h1)

/-- A log of a size that is no trouble. -/
structure Fit (g : Lg) (k : Nat) : Prop where
  ops : ∀ e ∈ g.entries, OpS e.op
  len : g.entries.length ≤ 200
  nodes : g.nodes.length + 401 * k ≤ 1000000

theorem Fit.add {g : Lg} {k : Nat} (h : Fit g (k + 1)) {o : Opn} (ho : OpS o) : Fit (addG g o) k := by
  have h1 := addG_len g o
  have h2 := h.len
  have h3 := h.nodes
  refine ⟨addG_ops g o OpS h.ops ho, by rcases h1.2.1 with q | q <;> omega, ?_⟩
  have := h1.2.2 h2
  omega
theorem Fit.all {g : Lg} {l : List Opn} {k : Nat} (h : Fit g (l.length + k)) (hl : ∀ o ∈ l, OpS o) : Fit (allG g l) k := by
  induction l generalizing g with
  | nil => exact ⟨h.ops, h.len, by have := h.nodes; simp at this; exact this⟩
  | cons o l ih =>
    exact ih (Fit.add ⟨h.ops, h.len, by have := h.nodes; simp at this; omega⟩ (hl o (by simp))) fun x hx => hl x (by simp [hx])
theorem Fit.less {g : Lg} {k j : Nat} (h : Fit g k) (hj : j ≤ k) : Fit g j := ⟨h.ops, h.len, by have := h.nodes; omega⟩
theorem Fit.nil (k : Nat) (h : k ≤ 2000) : Fit ⟨[], []⟩ k := ⟨by simp, by simp, by simp; omega⟩

end Go.Gw
/- What is done, and taken back, leaves nodes as they were; nodes that may be stay so. No condition. -/
namespace Go.Gw
open Go Go.Aw Go.Proofs.YtmknmapgfjmioaaGreatDoor

end Go.Gw
/- Logs are what their operations make, in order. No condition. -/
namespace Go.Gw
open Go Go.Aw Go.Proofs.YtmknmapgfjmioaaGreatDoor

theorem lessS_t {a b : Stm} : lessS a b = true ↔ a.c < b.c ∨ (a.c = b.c ∧ a.r < b.r) := lessI_t
theorem lessS_f {a b : Stm} : lessS a b = false ↔ ¬ (a.c < b.c ∨ (a.c = b.c ∧ a.r < b.r)) := by rw [← lessS_t, Bool.not_eq_true]
theorem stm_ext {a b : Stm} (h1 : a.c = b.c) (h2 : a.r = b.r) : a = b := by cases a; cases b; simp_all
theorem lessS_tri (a b : Stm) : lessS a b = true ∨ a = b ∨ lessS b a = true := by
  rw [lessS_t, lessS_t]
  by_cases h : a = b
  · exact .inr (.inl h)
  · have : ¬ (a.c = b.c ∧ a.r = b.r) := fun q => h (stm_ext q.1 q.2)
    omega
theorem lessS_trans {a b c : Stm} (h : lessS a b = true) (k : lessS b c = true) : lessS a c = true := by
  rw [lessS_t] at *; omega
theorem lessS_irr (a : Stm) : lessS a a = false := by rw [lessS_f]; omega

abbrev Srt (l : List Opn) : Prop := l.Pairwise fun x y => lessS x.at_ y.at_ = true

/-- One more, at its place. -/
def preO (o : Opn) (l : List Opn) : List Opn := l.takeWhile fun x => !lessS o.at_ x.at_
def sufO (o : Opn) (l : List Opn) : List Opn := l.dropWhile fun x => !lessS o.at_ x.at_
def insO (o : Opn) (l : List Opn) : List Opn := preO o l ++ o :: sufO o l

theorem pre_suf (o : Opn) (l : List Opn) : preO o l ++ sufO o l = l := List.takeWhile_append_dropWhile
theorem preO_f (o : Opn) (l : List Opn) : ∀ x ∈ preO o l, lessS o.at_ x.at_ = false := by
  intro x hx
  unfold preO at hx
  induction l with
  | nil => simp at hx
  | cons y l ih =>
    rw [List.takeWhile_cons] at hx
    split at hx
    · rename_i hy
      rw [List.mem_cons] at hx
      rcases hx with rfl | hx
      · simpa using hy
      · exact ih hx
    · simp at hx
theorem sufO_t {o : Opn} {l : List Opn} (h : Srt l) : ∀ x ∈ sufO o l, lessS o.at_ x.at_ = true := by
  intro x hx
  unfold sufO at hx
  induction l with
  | nil => simp at hx
  | cons y l ih =>
    rw [Srt, List.pairwise_cons] at h
    rw [List.dropWhile_cons] at hx
    split at hx
    · exact ih h.2 hx
    · rename_i hy
      have hy : lessS o.at_ y.at_ = true := by simpa using hy
      rw [List.mem_cons] at hx
      rcases hx with rfl | hx
      · exact hy
      · exact lessS_trans hy (h.1 x hx)

theorem mem_ins {o x : Opn} {l : List Opn} : x ∈ insO o l ↔ x = o ∨ x ∈ l := by
  rw [insO, List.mem_append, List.mem_cons]
  have : x ∈ l ↔ x ∈ preO o l ∨ x ∈ sufO o l := by rw [← List.mem_append, pre_suf]
  rw [this]
  constructor
  · rintro (h | h | h)
    · exact .inr (.inl h)
    · exact .inl h
    · exact .inr (.inr h)
  · rintro (h | h | h)
    · exact .inr (.inl h)
    · exact .inl h
    · exact .inr (.inr h)
theorem srt_ins {o : Opn} {l : List Opn} (hs : Srt l) (hn : ∀ x ∈ l, x.at_ ≠ o.at_) : Srt (insO o l) := by
  have h0 := hs
  rw [← pre_suf o l] at h0
  rw [Srt, List.pairwise_append] at h0
  rw [insO, Srt, List.pairwise_append, List.pairwise_cons]
  have hp : ∀ x ∈ preO o l, lessS x.at_ o.at_ = true := fun x hx => by
    have hx1 := preO_f o l x hx
    rcases lessS_tri o.at_ x.at_ with q | q | q
    · rw [q] at hx1; cases hx1
    · exact absurd q.symm (hn x (by rw [← pre_suf o l]; simp [hx]))
    · exact q
  refine ⟨h0.1, ⟨sufO_t hs, h0.2.1⟩, fun a ha b hb => ?_⟩
  rw [List.mem_cons] at hb
  rcases hb with rfl | hb
  · exact hp a ha
  · exact h0.2.2 a ha b hb

/-- Lists in strict order of the same members are the same. -/
theorem srt_ext {a b : List Opn} (ha : Srt a) (hb : Srt b) (h : ∀ x, x ∈ a ↔ x ∈ b) : a = b := by
  induction a generalizing b with
  | nil =>
    cases b with
    | nil => rfl
    | cons y b => have := (h y).2 (by simp); simp at this
  | cons x a ih =>
    cases b with
    | nil => have := (h x).1 (by simp); simp at this
    | cons y b =>
      rw [Srt, List.pairwise_cons] at ha hb
      have hxy : x = y := by
        have h1 := (h x).1 (by simp)
        have h2 := (h y).2 (by simp)
        rw [List.mem_cons] at h1 h2
        rcases h1 with h1 | h1
        · exact h1
        · rcases h2 with h2 | h2
          · exact h2.symm
          · have h3 := lessS_trans (ha.1 y h2) (hb.1 x h1)
            rw [lessS_irr] at h3; cases h3
      subst hxy
      congr 1
      refine ih ha.2 hb.2 fun z => ?_
      have hz := h z
      simp only [List.mem_cons] at hz
      constructor
      · intro hza
        rcases hz.1 (.inr hza) with q | q
        · subst q; have := ha.1 z hza; rw [lessS_irr] at this; cases this
        · exact q
      · intro hzb
        rcases hz.2 (.inr hzb) with q | q
        · subst q; have := hb.1 z hzb; rw [lessS_irr] at this; cases this
        · exact q

end Go.Gw
/- The document's sorting, in plain Lean: one behind the other, each at its place. No condition. -/
namespace Go.Gw
open Go Go.Aw Go.Proofs.YtmknmapgfjmioaaGreatDoor

/-- Where the document puts an operation: it looks from the end. -/
def rK (o : Opn) (out : List Opn) : Nat := out.length - (out.reverse.takeWhile fun x => lessS o.at_ x.at_).length
def rIns (out : List Opn) (o : Opn) : List Opn :=
  if (!opOk o || (decide (0 < rK o out) && decide ((out.getD (rK o out - 1) op0).at_ = o.at_))) = true then out
  else out.take (rK o out) ++ o :: out.drop (rK o out)
def rSort (l : List Opn) : List Opn := l.foldl rIns []

theorem rSort_snoc (l : List Opn) (o : Opn) : rSort (l ++ [o]) = rIns (rSort l) o := by simp [rSort]

theorem takeWhile_all {α : Type} (p : α → Bool) (a b : List α) (h : ∀ x ∈ a, p x = true) (hb : ∀ x ∈ b, p x = false) : (a ++ b).takeWhile p = a := by
  induction a with
  | nil =>
    cases b with
    | nil => rfl
    | cons x b => simp [hb x (by simp)]
  | cons x a ih =>
    rw [List.cons_append, List.takeWhile_cons, if_pos (h x (by simp)), ih fun y hy => h y (by simp [hy])]

theorem rK_pre {o : Opn} {l : List Opn} (hs : Srt l) : rK o l = (preO o l).length := by
  have h1 := pre_suf o l
  have h2 : l.reverse.takeWhile (fun x => lessS o.at_ x.at_) = (sufO o l).reverse := by
    conv => lhs; rw [← h1]
    rw [List.reverse_append]
    exact takeWhile_all _ _ _ (fun x hx => sufO_t hs x (List.mem_reverse.1 hx)) (fun x hx => preO_f o l x (List.mem_reverse.1 hx))
  have h3 := congrArg List.length h1
  rw [List.length_append] at h3
  rw [rK, h2, List.length_reverse]; omega

theorem rIns_srt {o : Opn} {l : List Opn} (hs : Srt l) : rIns l o = if opOk o = false ∨ (∃ x ∈ l, x.at_ = o.at_) then l else insO o l := by
  have hk := rK_pre (o := o) hs
  have hps := pre_suf o l
  have key : (decide (0 < rK o l) && decide ((l.getD (rK o l - 1) op0).at_ = o.at_)) = true ↔ ∃ x ∈ l, x.at_ = o.at_ := by
    rw [Bool.and_eq_true, decide_eq_true_eq, decide_eq_true_eq, hk]
    constructor
    · rintro ⟨h1, h2⟩
      have hlt : (preO o l).length - 1 < l.length := by
        have := congrArg List.length hps; rw [List.length_append] at this; omega
      rw [List.getD_eq_getElem?_getD, List.getElem?_eq_getElem hlt] at h2
      exact ⟨_, List.getElem_mem hlt, h2⟩
    · rintro ⟨x, hx, he⟩
      have hxp : x ∈ preO o l := by
        rw [← hps, List.mem_append] at hx
        rcases hx with hx | hx
        · exact hx
        · have := sufO_t hs x hx
          rw [he, lessS_irr] at this; cases this
      have hp : 0 < (preO o l).length := List.length_pos_of_mem hxp
      refine ⟨hp, ?_⟩
      have hsp : Srt (preO o l) := by
        have h0 := hs
        rw [← hps, Srt, List.pairwise_append] at h0
        exact h0.1
      have e : l.getD ((preO o l).length - 1) op0 = (preO o l)[(preO o l).length - 1]'(by omega) := by
        have e0 : l.getD ((preO o l).length - 1) op0 = (preO o l ++ sufO o l).getD ((preO o l).length - 1) op0 := congrArg (fun x => List.getD x ((preO o l).length - 1) op0) hps.symm
        rw [e0, List.getD_eq_getElem?_getD, List.getElem?_append_left (by omega), List.getElem?_eq_getElem (by omega)]; rfl
      rw [e]
      obtain ⟨i, hi, rfl⟩ := List.getElem_of_mem hxp
      by_cases hil : i = (preO o l).length - 1
      · subst hil; exact he
      · have h1 := List.pairwise_iff_getElem.1 hsp i ((preO o l).length - 1) hi (by omega) (by omega)
        rw [he] at h1
        have h2 := preO_f o l _ (List.getElem_mem (show (preO o l).length - 1 < (preO o l).length by omega))
        rw [h1] at h2; cases h2
  unfold rIns
  by_cases h1 : opOk o = false
  · rw [if_pos (by rw [h1]; rfl), if_pos (.inl h1)]
  · have h1' : opOk o = true := by simpa using h1
    by_cases h2 : ∃ x ∈ l, x.at_ = o.at_
    · rw [if_pos (by rw [key.2 h2]; simp), if_pos (.inr h2)]
    · have h2' : (decide (0 < rK o l) && decide ((l.getD (rK o l - 1) op0).at_ = o.at_)) = false := by
        rw [Bool.eq_false_iff]; exact fun q => h2 (key.1 q)
      rw [if_neg (by rw [h1', h2']; simp), if_neg (by rintro (q | q); exact h1 q; exact h2 q), hk, insO]
      have e1 : l.take (preO o l).length = preO o l := (congrArg (List.take (preO o l).length) hps.symm).trans (List.take_left' rfl)
      have e2 : l.drop (preO o l).length = sufO o l := (congrArg (List.drop (preO o l).length) hps.symm).trans (List.drop_left' rfl)
      rw [e1, e2]

end Go.Gw
/- What operations make, in plain Lean: sorted, those that come twice left out, done. No condition. -/
namespace Go.Gw
open Go Go.Aw Go.Srt Go.Proofs.YtmknmapgfjmioaaGreatDoor

def oLess (a b : Opn) : Bool := lessS a.at_ b.at_
theorem oLess_swo : SWO oLess where
  irr := fun a => lessS_irr _
  ntr := fun a b c h1 h2 => by
    unfold oLess at *; rw [lessS_f] at *; omega
  asy := fun a b h => by
    unfold oLess at *; rw [lessS_t] at h; rw [lessS_f]; omega
theorem eqv_op (k x : Opn) : eqv oLess k x = decide (x.at_ = k.at_) := by
  rw [Bool.eq_iff_iff, eqv_t, decide_eq_true_eq]
  unfold oLess
  constructor
  · rintro ⟨h1, h2⟩
    rcases lessS_tri k.at_ x.at_ with q | q | q
    · rw [q] at h1; cases h1
    · exact q.symm
    · rw [q] at h2; cases h2
  · intro e; rw [e]; exact ⟨lessS_irr _, lessS_irr _⟩

/-- Behind one, those of which each has another time than the one ahead of it. -/
def cptF : Opn → List Opn → List Opn
  | _, [] => []
  | p, x :: l => if x.at_ = p.at_ then cptF x l else x :: cptF x l
def cpt : List Opn → List Opn
  | [] => []
  | x :: l => x :: cptF x l

theorem cptF_len (p : Opn) (l : List Opn) : (cptF p l).length ≤ l.length := by
  induction l generalizing p with
  | nil => exact Nat.le_refl _
  | cons x l ih => have := ih x; unfold cptF; split <;> simp <;> omega
theorem cpt_len (l : List Opn) : (cpt l).length ≤ l.length := by
  cases l with
  | nil => exact Nat.le_refl _
  | cons x l => have := cptF_len x l; simp [cpt]; omega

theorem cptF_mem (p : Opn) (l : List Opn) (hs : Sd oLess (p :: l)) (x : Opn) : x ∈ cptF p l ↔ x.at_ ≠ p.at_ ∧ l.find? (fun y => decide (y.at_ = x.at_)) = some x := by
  induction l generalizing p with
  | nil => simp [cptF]
  | cons y l ih =>
    have h0 : Sd oLess (y :: l) := (List.pairwise_cons.1 hs).2
    have hpy : oLess y p = false := (List.pairwise_cons.1 hs).1 y (by simp)
    have hi := ih y h0
    rw [List.find?_cons]
    unfold cptF
    by_cases e : y.at_ = p.at_
    · rw [if_pos e, hi]
      by_cases e2 : y.at_ = x.at_
      · rw [decide_eq_true e2]; simp only
        constructor
        · rintro ⟨h1, _⟩; exact absurd e2.symm h1
        · rintro ⟨h1, _⟩; exact absurd (e2.symm.trans e) h1
      · rw [decide_eq_false e2]; simp only
        rw [e]
    · rw [if_neg e, List.mem_cons, hi]
      by_cases e2 : y.at_ = x.at_
      · rw [decide_eq_true e2]; simp only
        constructor
        · rintro (h | ⟨h1, _⟩)
          · subst h; exact ⟨e, rfl⟩
          · exact absurd e2.symm h1
        · rintro ⟨_, h2⟩
          left; exact (Option.some.inj h2).symm
      · rw [decide_eq_false e2]; simp only
        constructor
        · rintro (h | ⟨_, h2⟩)
          · subst h; exact absurd rfl e2
          · refine ⟨fun hx => ?_, h2⟩
            -- x stands behind y, y is behind p
            have hx2 : x ∈ l := List.mem_of_find?_eq_some h2
            have q1 : oLess x y = false := (List.pairwise_cons.1 h0).1 x hx2
            unfold oLess at q1 hpy
            rw [hx] at q1
            rcases lessS_tri p.at_ y.at_ with q | q | q
            · rw [q] at q1; cases q1
            · exact e q.symm
            · rw [q] at hpy; cases hpy
        · rintro ⟨_, h2⟩
          exact .inr ⟨fun hx => e2 hx.symm, h2⟩
theorem cpt_mem {l : List Opn} (hs : Sd oLess l) (x : Opn) : x ∈ cpt l ↔ l.find? (fun y => decide (y.at_ = x.at_)) = some x := by
  cases l with
  | nil => simp [cpt]
  | cons y l =>
    rw [cpt, List.mem_cons, cptF_mem y l hs, List.find?_cons]
    by_cases e : y.at_ = x.at_
    · rw [decide_eq_true e]; simp only
      constructor
      · rintro (h | ⟨h1, _⟩)
        · subst h; rfl
        · exact absurd e.symm h1
      · intro h; exact .inl (Option.some.inj h).symm
    · rw [decide_eq_false e]; simp only
      constructor
      · rintro (h | ⟨_, h⟩)
        · subst h; exact absurd rfl e
        · exact h
      · intro h; exact .inr ⟨fun q => e q.symm, h⟩
theorem cptF_srt (p : Opn) (l : List Opn) (hs : Sd oLess (p :: l)) : Srt (p :: cptF p l) := by
  induction l generalizing p with
  | nil => exact List.pairwise_singleton _ _
  | cons y l ih =>
    have h0 : Sd oLess (y :: l) := (List.pairwise_cons.1 hs).2
    have hpy : oLess y p = false := (List.pairwise_cons.1 hs).1 y (by simp)
    have hi := ih y h0
    unfold cptF
    rw [Srt, List.pairwise_cons] at hi
    by_cases e : y.at_ = p.at_
    · rw [if_pos e, Srt, List.pairwise_cons]
      exact ⟨fun z hz => by rw [← e]; exact hi.1 z hz, hi.2⟩
    · rw [if_neg e, Srt, List.pairwise_cons]
      have hl : lessS p.at_ y.at_ = true := by
        unfold oLess at hpy
        rcases lessS_tri p.at_ y.at_ with q | q | q
        · exact q
        · exact absurd q.symm e
        · rw [q] at hpy; cases hpy
      refine ⟨fun z hz => ?_, List.pairwise_cons.2 hi⟩
      rcases List.mem_cons.1 hz with rfl | hz
      · exact hl
      · exact lessS_trans hl (hi.1 z hz)
theorem cpt_srt {l : List Opn} (hs : Sd oLess l) : Srt (cpt l) := by
  cases l with
  | nil => exact List.Pairwise.nil
  | cons y l => exact cptF_srt y l hs

theorem cptF_snoc (p : Opn) (l : List Opn) (y x : Opn) : cptF p (l ++ [y] ++ [x]) = if x.at_ = y.at_ then cptF p (l ++ [y]) else cptF p (l ++ [y]) ++ [x] := by
  induction l generalizing p with
  | nil =>
    simp only [List.nil_append, List.cons_append, cptF]
    by_cases h1 : y.at_ = p.at_ <;> by_cases h2 : x.at_ = y.at_ <;> simp [h1, h2]
  | cons z l ih =>
    simp only [List.cons_append, cptF]
    have := ih z
    simp only [List.append_assoc, List.cons_append, List.nil_append] at this ⊢
    by_cases h1 : z.at_ = p.at_
    · rw [if_pos h1, if_pos h1, this]
    · rw [if_neg h1, if_neg h1, this]
      by_cases h2 : x.at_ = y.at_
      · rw [if_pos h2, if_pos h2]
      · rw [if_neg h2, if_neg h2]; rfl
theorem cpt_snoc (P : List Opn) (y x : Opn) : cpt (P ++ [y] ++ [x]) = if x.at_ = y.at_ then cpt (P ++ [y]) else cpt (P ++ [y]) ++ [x] := by
  cases P with
  | nil =>
    simp only [List.nil_append, List.cons_append, cpt, cptF]
    by_cases h2 : x.at_ = y.at_ <;> simp [h2]
  | cons p l =>
    have := cptF_snoc p l y x
    simp only [List.append_assoc, List.cons_append, List.nil_append] at this ⊢
    simp only [cpt, this]
    by_cases h2 : x.at_ = y.at_
    · rw [if_pos h2, if_pos h2]
    · rw [if_neg h2, if_neg h2]; rfl
theorem cpt_take {D : List Opn} {j : Nat} (h1 : 1 ≤ j) (h2 : j < D.length) : cpt (D.take (j + 1)) = if D[j].at_ = (D[j - 1]'(by omega)).at_ then cpt (D.take j) else cpt (D.take j) ++ [D[j]] := by
  obtain ⟨i, rfl⟩ : ∃ i, j = i + 1 := ⟨j - 1, by omega⟩
  have e1 : D.take (i + 1 + 1) = D.take i ++ [D[i]'(by omega)] ++ [D[i + 1]] := by
    rw [List.take_succ_eq_append_getElem h2, List.take_succ_eq_append_getElem (by omega)]
  have e2 : D.take (i + 1) = D.take i ++ [D[i]'(by omega)] := List.take_succ_eq_append_getElem (by omega)
  rw [e1, e2, cpt_snoc]
  rfl

/-- What is in the document's sorted operations: the first one of each time, of those that may be. -/
theorem rSort_mem (l : List Opn) : Srt (rSort l) ∧ ∀ x, x ∈ rSort l ↔ (l.filter opOk).find? (fun y => decide (y.at_ = x.at_)) = some x := by
  induction hn : l.length generalizing l with
  | zero =>
    have : l = [] := List.eq_nil_of_length_eq_zero hn
    subst this
    exact ⟨List.Pairwise.nil, fun x => by simp [rSort]⟩
  | succ n ih =>
    obtain ⟨a, o, rfl⟩ : ∃ a o, l = a ++ [o] := by
      have hne : l ≠ [] := fun e => by subst e; simp at hn
      exact ⟨l.dropLast, l.getLast hne, (List.dropLast_concat_getLast hne).symm⟩
    obtain ⟨h1, h2⟩ := ih a (by simpa using hn)
    rw [rSort_snoc, rIns_srt h1]
    have hf : ∀ x : Opn, ((a ++ [o]).filter opOk).find? (fun y => decide (y.at_ = x.at_)) = ((a.filter opOk).find? (fun y => decide (y.at_ = x.at_))).or (if opOk o = true ∧ o.at_ = x.at_ then some o else none) := by
      intro x
      rw [List.filter_append, List.find?_append]
      congr 1
      cases ho : opOk o with
      | false => simp [ho]
      | true => by_cases e : o.at_ = x.at_ <;> simp [ho, e]
    -- some one of the time is there just if one is sorted in
    have hex : ∀ t : Stm, (∃ x ∈ rSort a, x.at_ = t) ↔ ((a.filter opOk).find? (fun y => decide (y.at_ = t))).isSome = true := by
      intro t
      constructor
      · rintro ⟨x, hx, rfl⟩
        rw [(h2 x).1 hx]; rfl
      · intro h
        obtain ⟨y, hy⟩ := Option.isSome_iff_exists.1 h
        have e : y.at_ = t := by have := List.find?_some hy; simpa using this
        exact ⟨y, (h2 y).2 (by rw [e]; exact hy), e⟩
    split
    · rename_i hbad
      refine ⟨h1, fun x => ?_⟩
      rw [hf, h2]
      rcases hbad with hb | hb
      · rw [if_neg (by rw [hb]; simp), Option.or_none]
      · have hs := (hex o.at_).1 hb
        by_cases e : o.at_ = x.at_
        · rw [e] at hs
          obtain ⟨y, hy⟩ := Option.isSome_iff_exists.1 hs
          rw [hy]; rfl
        · rw [if_neg (fun q => e q.2), Option.or_none]
    · rename_i hok
      have ho : opOk o = true := by
        cases ho : opOk o with
        | true => rfl
        | false => exact absurd (.inl ho) hok
      have hno : ¬ ∃ x ∈ rSort a, x.at_ = o.at_ := fun q => hok (.inr q)
      have hnn : (a.filter opOk).find? (fun y => decide (y.at_ = o.at_)) = none := by
        cases hq : (a.filter opOk).find? (fun y => decide (y.at_ = o.at_)) with
        | none => rfl
        | some y => exact absurd ((hex o.at_).2 (by rw [hq]; rfl)) hno
      refine ⟨srt_ins h1 fun x hx e => hno ⟨x, hx, e⟩, fun x => ?_⟩
      rw [mem_ins, hf, h2]
      by_cases e : o.at_ = x.at_
      · rw [if_pos ⟨ho, e⟩, ← e, hnn]
        simp only [Option.none_or]
        constructor
        · rintro (h | h)
          · rw [h]
          · cases h
        · intro h; exact .inl (Option.some.inj h).symm
      · rw [if_neg (fun q => e q.2), Option.or_none]
        constructor
        · rintro (h | h)
          · subst h; exact absurd rfl e
          · exact h
        · exact .inr

/-- Sorted, and those that come twice left out: the document's. -/
theorem cpt_rSort {l s : List Opn} (hf : Fs oLess (l.filter opOk) s) (hs : Sd oLess s) : cpt s = rSort l := by
  refine srt_ext (cpt_srt hs) (rSort_mem l).1 fun x => ?_
  rw [cpt_mem hs, (rSort_mem l).2]
  have h := hf.2 x
  have e : ∀ m : List Opn, m.find? (fun y => decide (y.at_ = x.at_)) = (m.filter (eqv oLess x)).head? := by
    intro m
    rw [List.head?_filter]
    congr 1
    funext y
    rw [eqv_op]
  rw [e, e, h]

/-- The nodes that operations make. -/
def foldL (l : List Opn) : List Nd := (rSort l).foldl doL []
theorem foldl_len (l : List Opn) (n : List Nd) : (l.foldl doL n).length ≤ n.length + l.length := by
  induction l generalizing n with
  | nil => exact Nat.le_refl _
  | cons o l ih => have := ih (doL n o); have := doL_len n o; simp only [List.foldl_cons, List.length_cons]; omega
end Go.Gw
