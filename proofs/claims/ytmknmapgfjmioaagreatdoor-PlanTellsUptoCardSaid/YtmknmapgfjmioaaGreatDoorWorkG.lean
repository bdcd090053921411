/- The texts 7 of 7 beneath the rows of this seat (joined by program): the abstract machine, and what the functions answer. No condition. -/
import Derived.Test.YtmknmapgfjmioaaGreatDoorWorkF
import Derived.Test.YtmknmapgfjmioaaGreatDoorRows
import Derived.JoinedCond
import Derived.Deep.DeepHandedRow
set_option linter.unusedSimpArgs false
set_option linter.unusedVariables false
set_option linter.unusedSectionVars false
/- The document's plan: directories, locks, what is next. No condition but the length of what comes in. -/
namespace Go.Proofs.YtmknmapgfjmioaaGreatDoor
open Go Go.Aw Go.Gw
set_option linter.unusedSimpArgs false
set_option linter.unusedVariables false
set_option maxRecDepth 20000
set_option maxHeartbeats 8000000

theorem rdir20_c (b : Bool) (l : List Nd) (p : Txt) (hp : p.length ≤ 1048576) (hl : l.length ≤ 1073741824) (H : AHeap) : FnC Tryz.prog 34 [.sl b (l.map ndA), .str p] H (.int .i64 ((dirOf l p).getD (-1))) := by
  refine fnC_of Tryz.func34 rfl (Nat.le_of_ble_eq_true rfl) ?_
  have hpa := rsplit_c p hp
  unfold rpathV at hpa
  cases hn : namesOf p with
  | none =>
    simp only [hn] at hpa
    rw [dirOf_none hn]
    have ct0 := ct hpa callOk31F; repeat' first | ((first | refine cK (by assumption) ?_ | refine cP (by assumption) ?_ | refine cM (by assumption) ?_ | refine callP_false (.bool false) ?_ | refine aw_region rfl ?_ | refine aw_region_draw mixedF rfl (by kernel_rfl) ?_ | refine aE rfl ?_); simp only [go_sem, Int.reduceEq]) | refine callG_y ?_ | refine callG_p ?_ | refine aw_seq ?_ | refine aw_block ?_ | refine aw_scope ?_ | (refine aw_cond rfl (fun h => ?_) (fun h => ?_) <;> try (exfalso; first | (simp at h; done) | (simp at h; omega))) | ((with_reducible refine And.intro ?_ ?_); focus (first | omega | (intros; simp_all; done) | (simp; omega)))
    exact done0 (by simp only [go_sem]) (.refl _)
  | some ns =>
    simp only [hn] at hpa
    cases ns with
    | nil =>
      rw [dirOf_nil hn]
      simp only [List.map_nil] at hpa
      have ct0 := ct hpa callOk31F; repeat' first | ((first | refine cK (by assumption) ?_ | refine cP (by assumption) ?_ | refine cM (by assumption) ?_ | refine callP_false (.bool false) ?_ | refine aw_region rfl ?_ | refine aw_region_draw mixedF rfl (by kernel_rfl) ?_ | refine aE rfl ?_); simp only [go_sem, Int.reduceEq]) | refine callG_y ?_ | refine callG_p ?_ | refine aw_seq ?_ | refine aw_block ?_ | refine aw_scope ?_ | (refine aw_cond rfl (fun h => ?_) (fun h => ?_) <;> try (exfalso; first | (simp at h; done) | (simp at h; omega))) | ((with_reducible refine And.intro ?_ ?_); focus (first | omega | (intros; simp_all; done) | (simp; omega)))
      exact done0 (by simp only [go_sem]) (.refl _)
    | cons x xs =>
      have h16 := namesOf_len hn
      rw [List.length_cons] at h16
      have hf := rfind8_c b false l (x :: xs).dropLast hl (by simp; omega)
      obtain ⟨⟨d, e⟩, hde⟩ : ∃ r, findN l (x :: xs).dropLast = r := ⟨_, rfl⟩
      rw [hde] at hf
      rw [dirOf_cons hn hde]
      simp only [findV] at hf
      have hw : IntKind.i64.wrap (((xs.length + 1 : Nat) : Int) - 1) = ((xs.length : Nat) : Int) := by rw [wrap_i64 (by omega) (by omega)]; omega
      have hz : decide (((xs.length + 1 : Nat) : Int) = 0) = false := decide_eq_false (by omega)
      have htk : ((x :: xs).map AV.str).take xs.length = ((x :: xs).dropLast).map AV.str := by rw [List.dropLast_eq_take, List.map_take]; simp
      simp only [List.map_cons] at hpa htk
      have hdr := rdir_c d
      by_cases he0 : e = 0
      · subst he0
        cases hdd : dirI d with
        | false =>
          rw [hdd] at hdr
          rw [if_neg (by rintro ⟨_, h⟩; cases h)]
          have ct0 := ct hpa callOk31F; have ct1 := ct hf callOk63F; have ct2 := ct hdr callOk64F; repeat' first | ((first | refine cK (by assumption) ?_ | refine cP (by assumption) ?_ | refine cM (by assumption) ?_ | refine callP_false (.bool false) ?_ | refine aw_region rfl ?_ | refine aw_region_draw mixedF rfl (by kernel_rfl) ?_ | refine aE rfl ?_); simp only [go_sem, Int.reduceEq, hw, hz, htk]) | refine callG_y ?_ | refine callG_p ?_ | refine aw_seq ?_ | refine aw_block ?_ | refine aw_scope ?_ | (refine aw_cond rfl (fun h => ?_) (fun h => ?_) <;> try (exfalso; first | (simp at h; done) | (simp at h; omega))) | ((with_reducible refine And.intro ?_ ?_); focus (first | omega | (intros; simp_all; done) | (simp; omega)))
          exact done0 (by simp only [go_sem]) (.refl _)
        | true =>
          rw [hdd] at hdr
          rw [if_pos ⟨rfl, rfl⟩]
          have ct0 := ct hpa callOk31F; have ct1 := ct hf callOk63F; have ct2 := ct hdr callOk64F; repeat' first | ((first | refine cK (by assumption) ?_ | refine cP (by assumption) ?_ | refine cM (by assumption) ?_ | refine callP_false (.bool false) ?_ | refine aw_region rfl ?_ | refine aw_region_draw mixedF rfl (by kernel_rfl) ?_ | refine aE rfl ?_); simp only [go_sem, Int.reduceEq, hw, hz, htk]) | refine callG_y ?_ | refine callG_p ?_ | refine aw_seq ?_ | refine aw_block ?_ | refine aw_scope ?_ | (refine aw_cond rfl (fun h => ?_) (fun h => ?_) <;> try (exfalso; first | (simp at h; done) | (simp at h; omega))) | ((with_reducible refine And.intro ?_ ?_); focus (first | omega | (intros; simp_all; done) | (simp; omega)))
          exact done0 (by simp only [go_sem]) (.refl _)
      · rw [if_neg (fun h => he0 h.1)]
        have hez : decide (e = 0) = false := decide_eq_false he0
        have ct0 := ct hpa callOk31F; have ct1 := ct hf callOk63F; have ct2 := ct hdr callOk64F; repeat' first | ((first | refine cK (by assumption) ?_ | refine cP (by assumption) ?_ | refine cM (by assumption) ?_ | refine callP_false (.bool false) ?_ | refine aw_region rfl ?_ | refine aw_region_draw mixedF rfl (by kernel_rfl) ?_ | refine aE rfl ?_); simp only [go_sem, Int.reduceEq, hw, hz, htk, hez]) | refine callG_y ?_ | refine callG_p ?_ | refine aw_seq ?_ | refine aw_block ?_ | refine aw_scope ?_ | (refine aw_cond rfl (fun h => ?_) (fun h => ?_) <;> try (exfalso; first | (simp at h; done) | (simp at h; omega))) | ((with_reducible refine And.intro ?_ ?_); focus (first | omega | (intros; simp_all; done) | (simp; omega)))
        exact done0 (by simp only [go_sem]) (.refl _)

theorem rhas20_c (b : Bool) (l : List Int) (n : Int) (hl : l.length ≤ 1073741824) (H : AHeap) : FnC Tryz.prog 37 [.sl b (l.map inA), .int .i64 n] H (.bool (l.contains n)) := by
  refine fnC_of Tryz.func37 rfl (Nat.le_of_ble_eq_true rfl) ?_
  rw [← any_has]
  repeat' first | ((first | refine callP_false (.bool false) ?_ | refine aw_region rfl ?_ | refine aw_region_draw mixedF rfl (by kernel_rfl) ?_ | refine aE rfl ?_); simp only [go_sem]) | refine callG_y ?_ | refine callG_p ?_ | refine aw_seq ?_ | refine aw_block ?_ | refine aw_scope ?_ | (refine aw_cond rfl (fun h => ?_) (fun h => ?_) <;> try (exfalso; first | (simp at h; done) | (simp at h; omega))) | ((with_reducible refine And.intro ?_ ?_); focus (first | omega | (intros; simp_all; done) | (simp; omega)))
  refine aw_loopS (ι := Nat) (fun k => [(0, .sl b (l.map inA)), (1, .int .i64 n), (5, .int .i64 k)]) (fun _ => H) (fun k => k ≤ l.length ∧ ∀ x ∈ l.take k, x ≠ n) (fun k => l.length - k) 0 ⟨Nat.zero_le _, by simp⟩ ?_ rfl ?_
  · simp [go_sem]
  rintro k ⟨hk, hno⟩
  by_cases hlt : k < l.length
  · have hli : ((k : Int) < ((l.length : Nat) : Int)) = True := eq_true (by omega)
    have hp := getD_map inA hlt
    have hw : IntKind.i64.wrap ((k : Int) + 1) = ((k + 1 : Nat) : Int) := by rw [wrap_i64 (by omega) (by omega)]; rfl
    by_cases he : l[k] = n
    · have z : decide (l[k] = n) = true := decide_eq_true he
      have ha : (l.any fun x => decide (x = n)) = true := List.any_eq_true.2 ⟨_, List.getElem_mem hlt, z⟩
      rw [ha]
      repeat' first | ((first | refine callP_false (.bool false) ?_ | refine aw_region rfl ?_ | refine aw_region_draw mixedF rfl (by kernel_rfl) ?_ | refine aE rfl ?_); simp only [go_sem, hli, hp, z, inA]) | refine callG_y ?_ | refine callG_p ?_ | refine aw_seq ?_ | refine aw_block ?_ | refine aw_scope ?_ | (refine aw_cond rfl (fun h => ?_) (fun h => ?_) <;> try (exfalso; first | (simp at h; done) | (simp at h; omega))) | ((with_reducible refine And.intro ?_ ?_); focus (first | omega | (intros; simp_all; done) | (simp; omega)))
      exact done0 (by simp only [go_sem]) (.refl _)
    · have z : decide (l[k] = n) = false := decide_eq_false he
      repeat' first | ((first | refine callP_false (.bool false) ?_ | refine aw_region rfl ?_ | refine aw_region_draw mixedF rfl (by kernel_rfl) ?_ | refine aE rfl ?_); simp only [go_sem, hli, hp, z, inA]) | refine callG_y ?_ | refine callG_p ?_ | refine aw_seq ?_ | refine aw_block ?_ | refine aw_scope ?_ | (refine aw_cond rfl (fun h => ?_) (fun h => ?_) <;> try (exfalso; first | (simp at h; done) | (simp at h; omega))) | ((with_reducible refine And.intro ?_ ?_); focus (first | omega | (intros; simp_all; done) | (simp; omega)))
      refine ⟨k + 1, ⟨hlt, fun x hx => ?_⟩, by omega, congrArg _ hw⟩
      rw [List.take_succ_eq_append_getElem hlt, List.mem_append, List.mem_singleton] at hx
      rcases hx with hx | rfl
      · exact hno x hx
      · exact he
  obtain rfl : k = l.length := by omega
  rw [List.take_length] at hno
  have hli : ((l.length : Int) < ((l.length : Nat) : Int)) = False := eq_false (by omega)
  have ha : (l.any fun x => decide (x = n)) = false := by rw [List.any_eq_false]; intro x hx; simpa using hno x hx
  rw [ha]
  repeat' first | ((first | refine callP_false (.bool false) ?_ | refine aw_region rfl ?_ | refine aw_region_draw mixedF rfl (by kernel_rfl) ?_ | refine aE rfl ?_); simp only [go_sem, hli]) | refine callG_y ?_ | refine callG_p ?_ | refine aw_seq ?_ | refine aw_block ?_ | refine aw_scope ?_ | (refine aw_cond rfl (fun h => ?_) (fun h => ?_) <;> try (exfalso; first | (simp at h; done) | (simp at h; omega))) | ((with_reducible refine And.intro ?_ ?_); focus (first | omega | (intros; simp_all; done) | (simp; omega)))
  exact done0 (by simp only [go_sem]) (.refl _)

theorem rabove20_c (b : Bool) (l : List Nd) (a c : Int) (hl : l.length ≤ 1073741824) (H : AHeap) : FnC Tryz.prog 35 [.sl b (l.map ndA), .int .i64 a, .int .i64 c] H (.bool (aboveB l a c)) := by
  refine fnC_of Tryz.func35 rfl (Nat.le_of_ble_eq_true rfl) ?_
  have hab := rabove_c b l c hl
  have hul : (aboveC l c).length ≤ 1073741824 := by
    rw [aboveC]
    split
    · have := aboveN_len l l.length c; unfold aboveI; omega
    · simp
  rw [aboveB, ← any_has]
  generalize aboveC l c = u at *
  have ct0 := ct hab callOk65F; repeat' first | ((first | refine cK (by assumption) ?_ | refine cP (by assumption) ?_ | refine cM (by assumption) ?_ | refine callP_false (.bool false) ?_ | refine aw_region rfl ?_ | refine aw_region_draw mixedF rfl (by kernel_rfl) ?_ | refine aE rfl ?_); simp only [go_sem]) | refine callG_y ?_ | refine callG_p ?_ | refine aw_seq ?_ | refine aw_block ?_ | refine aw_scope ?_ | (refine aw_cond rfl (fun h => ?_) (fun h => ?_) <;> try (exfalso; first | (simp at h; done) | (simp at h; omega))) | ((with_reducible refine And.intro ?_ ?_); focus (first | omega | (intros; simp_all; done) | (simp; omega)))
  refine aw_loopS (ι := Nat) (fun k => [(1, .int .i64 a), (7, .sl false (u.map inA)), (8, .int .i64 k)]) (fun _ => H) (fun k => k ≤ u.length ∧ ∀ x ∈ u.take k, x ≠ a) (fun k => u.length - k) 0 ⟨Nat.zero_le _, by simp⟩ ?_ rfl ?_
  · simp [go_sem]
  rintro k ⟨hk, hno⟩
  by_cases hlt : k < u.length
  · have hli : ((k : Int) < ((u.length : Nat) : Int)) = True := eq_true (by omega)
    have hp := getD_map inA hlt
    have hw : IntKind.i64.wrap ((k : Int) + 1) = ((k + 1 : Nat) : Int) := by rw [wrap_i64 (by omega) (by omega)]; rfl
    by_cases he : u[k] = a
    · have z : decide (u[k] = a) = true := decide_eq_true he
      have ha : (u.any fun x => decide (x = a)) = true := List.any_eq_true.2 ⟨_, List.getElem_mem hlt, z⟩
      rw [ha]
      repeat' first | ((first | refine callP_false (.bool false) ?_ | refine aw_region rfl ?_ | refine aw_region_draw mixedF rfl (by kernel_rfl) ?_ | refine aE rfl ?_); simp only [go_sem, hli, hp, z, inA]) | refine callG_y ?_ | refine callG_p ?_ | refine aw_seq ?_ | refine aw_block ?_ | refine aw_scope ?_ | (refine aw_cond rfl (fun h => ?_) (fun h => ?_) <;> try (exfalso; first | (simp at h; done) | (simp at h; omega))) | ((with_reducible refine And.intro ?_ ?_); focus (first | omega | (intros; simp_all; done) | (simp; omega)))
      exact done0 (by simp only [go_sem]) (.refl _)
    · have z : decide (u[k] = a) = false := decide_eq_false he
      repeat' first | ((first | refine callP_false (.bool false) ?_ | refine aw_region rfl ?_ | refine aw_region_draw mixedF rfl (by kernel_rfl) ?_ | refine aE rfl ?_); simp only [go_sem, hli, hp, z, inA]) | refine callG_y ?_ | refine callG_p ?_ | refine aw_seq ?_ | refine aw_block ?_ | refine aw_scope ?_ | (refine aw_cond rfl (fun h => ?_) (fun h => ?_) <;> try (exfalso; first | (simp at h; done) | (simp at h; omega))) | ((with_reducible refine And.intro ?_ ?_); focus (first | omega | (intros; simp_all; done) | (simp; omega)))
      refine ⟨k + 1, ⟨hlt, fun x hx => ?_⟩, by omega, congrArg _ hw⟩
      rw [List.take_succ_eq_append_getElem hlt, List.mem_append, List.mem_singleton] at hx
      rcases hx with hx | rfl
      · exact hno x hx
      · exact he
  obtain rfl : k = u.length := by omega
  rw [List.take_length] at hno
  have hli : ((u.length : Int) < ((u.length : Nat) : Int)) = False := eq_false (by omega)
  have ha : (u.any fun x => decide (x = a)) = false := by rw [List.any_eq_false]; intro x hx; simpa using hno x hx
  rw [ha]
  repeat' first | ((first | refine callP_false (.bool false) ?_ | refine aw_region rfl ?_ | refine aw_region_draw mixedF rfl (by kernel_rfl) ?_ | refine aE rfl ?_); simp only [go_sem, hli]) | refine callG_y ?_ | refine callG_p ?_ | refine aw_seq ?_ | refine aw_block ?_ | refine aw_scope ?_ | (refine aw_cond rfl (fun h => ?_) (fun h => ?_) <;> try (exfalso; first | (simp at h; done) | (simp at h; omega))) | ((with_reducible refine And.intro ?_ ?_); focus (first | omega | (intros; simp_all; done) | (simp; omega)))
  exact done0 (by simp only [go_sem]) (.refl _)

theorem ragain20_c (f1 f2 f3 : Bool) (t : Thr) (H : AHeap) : FnC Tryz.prog 20 [thA f1 f2 f3 t] H (thA true f2 f3 (againT t)) := by
  refine fnC_of Tryz.func20 rfl (Nat.le_of_ble_eq_true rfl) ?_
  unfold thA thF
  simp only [againT, List.map_nil]
  repeat' first | ((first | refine callP_false (.bool false) ?_ | refine aw_region rfl ?_ | refine aw_region_draw mixedF rfl (by kernel_rfl) ?_ | refine aE rfl ?_); simp only [go_sem]) | refine callG_y ?_ | refine callG_p ?_ | refine aw_seq ?_ | refine aw_block ?_ | refine aw_scope ?_ | (refine aw_cond rfl (fun h => ?_) (fun h => ?_) <;> try (exfalso; first | (simp at h; done) | (simp at h; omega))) | ((with_reducible refine And.intro ?_ ?_); focus (first | omega | (intros; simp_all; done) | (simp; omega)))
  exact done (by simp only [go_sem]) (.refl _)
theorem rfew20_c (f1 f2 f3 : Bool) (t : Thr) (H : AHeap) : FnC Tryz.prog 7 [thA f1 f2 f3 t] H (.bool (fewCal [t.call] 1 && decide ((t.has.length : Int) ≤ 100))) := by
  refine fnC_of Tryz.func7 rfl (Nat.le_of_ble_eq_true rfl) ?_
  have hc := few18_c true [t.call] 1
  simp only [List.map_cons, List.map_nil, caA] at hc
  unfold thA thF
  cases hf : fewCal [t.call] 1 with
  | false =>
    rw [hf] at hc
    have ct0 := ct hc callOk22F; repeat' first | ((first | refine cK (by assumption) ?_ | refine cP (by assumption) ?_ | refine cM (by assumption) ?_ | refine callP_false (.bool false) ?_ | refine aw_region rfl ?_ | refine aw_region_draw mixedF rfl (by kernel_rfl) ?_ | refine aE rfl ?_); simp only [go_sem]) | refine callG_y ?_ | refine callG_p ?_ | refine aw_seq ?_ | refine aw_block ?_ | refine aw_scope ?_ | (refine aw_cond rfl (fun h => ?_) (fun h => ?_) <;> try (exfalso; first | (simp at h; done) | (simp at h; omega))) | ((with_reducible refine And.intro ?_ ?_); focus (first | omega | (intros; simp_all; done) | (simp; omega)))
    exact done (by simp only [go_sem]) (.refl _)
  | true =>
    rw [hf] at hc
    have ct0 := ct hc callOk22F; repeat' first | ((first | refine cK (by assumption) ?_ | refine cP (by assumption) ?_ | refine cM (by assumption) ?_ | refine callP_false (.bool false) ?_ | refine aw_region rfl ?_ | refine aw_region_draw mixedF rfl (by kernel_rfl) ?_ | refine aE rfl ?_); simp only [go_sem]) | refine callG_y ?_ | refine callG_p ?_ | refine aw_seq ?_ | refine aw_block ?_ | refine aw_scope ?_ | (refine aw_cond rfl (fun h => ?_) (fun h => ?_) <;> try (exfalso; first | (simp at h; done) | (simp at h; omega))) | ((with_reducible refine And.intro ?_ ?_); focus (first | omega | (intros; simp_all; done) | (simp; omega)))
    exact done (by simp only [go_sem]) (.refl _)

theorem ints_done {H L : AHeap} {i v lc : Nat} {ks : List Int} (hn : H.length ≤ i) (hh : hget (H ++ L) i = .cells v (ks.map inA)) : ∃ L' y, H ++ L = H ++ L' ∧ Frz H.length (H ++ L) (.tup [.osl 1 i v 0 ks.length lc, .bool true]) y ∧ y = .tup [.sl false (ks.map inA), .bool true] := by
  refine ⟨_, _, rfl, ?_, rfl⟩
  refine .tup _ _ rfl fun j x y hx hy => ?_
  match j, hx, hy with
  | 0, hx, hy =>
    cases hx; cases hy
    exact frz_osl (es := ks.map inA) (rest := []) hn hh (by rw [List.append_nil, flat_in]) (List.length_map ..) (fun e he => by obtain ⟨x, _, rfl⟩ := List.mem_map.1 he; rfl) (fun e he => by obtain ⟨x, _, rfl⟩ := List.mem_map.1 he; exact (by simp only [go_sem]))
  | 1, hx, hy => cases hx; cases hy; exact .cl _ (.bool _)
  | j + 2, hx, _ => simp at hx

theorem rlocks20_c (b : Bool) (l : List Nd) (c : Cal) (hp : c.path.length ≤ 1048576) (ht : c.to.length ≤ 1048576) (hl : l.length ≤ 1073741824) (H : AHeap) :
    FnC Tryz.prog 11 [.sl b (l.map ndA), caA c] H (if turnsK c = true then .tup [.sl false ((locksT l c).map inA), .bool true] else .tup [.sl true [], .bool false]) := by
  refine fnC_of Tryz.func11 rfl (Nat.le_of_ble_eq_true rfl) ?_
  have hw := rturns_c c
  simp only [caA] at hw
  cases htu : turnsK c with
  | false =>
    rw [htu] at hw
    rw [if_neg (by simp)]
    have ct0 := ct hw callOk33F; repeat' first | ((first | refine cK (by assumption) ?_ | refine cP (by assumption) ?_ | refine cM (by assumption) ?_ | refine callP_false (.bool false) ?_ | refine aw_region rfl ?_ | refine aw_region_draw mixedF rfl (by kernel_rfl) ?_ | refine aE rfl ?_); simp only [go_sem, caA]) | refine callG_y ?_ | refine callG_p ?_ | refine aw_seq ?_ | refine aw_block ?_ | refine aw_scope ?_ | (refine aw_cond rfl (fun h => ?_) (fun h => ?_) <;> try (exfalso; first | (simp at h; done) | (simp at h; omega))) | ((with_reducible refine And.intro ?_ ?_); focus (first | omega | (intros; simp_all; done) | (simp; omega)))
    exact done (by simp only [go_sem]) (.refl _)
  | true =>
    rw [htu] at hw
    rw [if_pos rfl]
    have hk : c.kind = 5 ∨ c.kind = 6 ∨ c.kind = 13 := by
      unfold turnsK at htu
      simpa [or_assoc] using htu
    have hdp := rdir20_c b l c.path hp hl
    have hdt := rdir20_c b l c.to ht hl
    have hnn : ∀ {p : Txt} {d : Int}, dirOf l p = some d → 0 ≤ d := fun h => dir_nn (dirOf_dir h)
    have hq1 : ∀ (x : Int), (∀ e, e = AV.int .i64 x → e.cells.length = 1) = True := fun x => eq_true (fun e he => by rw [he]; rfl)
    rcases hk with hk | hk | hk
    · have k13 : decide (c.kind = 13) = false := by rw [hk]; rfl
      have k5 : decide (c.kind = 5) = true := by rw [hk]; rfl
      have hD : locksT l c = 1 :: locksO l (addD (addD [] (dirOf l c.path)) (dirOf l c.to)) := by simp [locksT, locksD, pathsK, hk]
      rw [hD]
      cases ha : dirOf l c.path with
      | none =>
        rw [ha] at hdp
        simp only [Option.getD_none] at hdp
        cases hb : dirOf l c.to with
        | none =>
          rw [hb] at hdt
          simp only [Option.getD_none] at hdt
          have h1 := rabove20_c b l (-1) (-1) hl
          have h2 := h1
          have ct0 := ct hw callOk33F; have ct1 := ct hdp callOk34F; have ct2 := ct hdt callOk34F; have ct3 := ct h1 callOk35F; have ct4 := ct h2 callOk35F; repeat' first | ((first | refine cK (by assumption) ?_ | refine cP (by assumption) ?_ | refine cM (by assumption) ?_ | refine callP_false (.bool false) ?_ | refine aw_region rfl ?_ | refine aw_region_draw mixedF rfl (by kernel_rfl) ?_ | refine aE rfl ?_); simp only [go_sem, caA, k5, k13, hq1]) | refine callG_y ?_ | refine callG_p ?_ | refine aw_seq ?_ | refine aw_block ?_ | refine aw_scope ?_ | (refine aw_cond rfl (fun h => ?_) (fun h => ?_) <;> try (exfalso; first | (simp at h; done) | (simp at h; omega))) | ((with_reducible refine And.intro ?_ ?_); focus (first | omega | (intros; simp_all; done) | (simp; omega)))
          exact done (by simp only [go_sem]) (.tup _ _ rfl (sims_cons (.sl _ _) (sims_cons (.refl _) sims_nil)))
        | some y =>
          rw [hb] at hdt
          simp only [Option.getD_some] at hdt
          have hy0 := hnn hb
          have h1 := rabove20_c b l y (-1) hl
          have h2 := rabove20_c b l (-1) y hl
          have zy : (0 ≤ y) = True := eq_true hy0
          have zn : decide (y = -1) = false := decide_eq_false (by omega)
          have ct0 := ct hw callOk33F; have ct1 := ct hdp callOk34F; have ct2 := ct hdt callOk34F; have ct3 := ct h1 callOk35F; have ct4 := ct h2 callOk35F; repeat' first | ((first | refine cK (by assumption) ?_ | refine cP (by assumption) ?_ | refine cM (by assumption) ?_ | refine callP_false (.bool false) ?_ | refine aw_region rfl ?_ | refine aw_region_draw mixedF rfl (by kernel_rfl) ?_ | refine aE rfl ?_); simp only [go_sem, caA, k5, k13, hq1, zy, zn]) | refine callG_y ?_ | refine callG_p ?_ | refine aw_seq ?_ | refine aw_block ?_ | refine aw_scope ?_ | (refine aw_cond rfl (fun h => ?_) (fun h => ?_) <;> try (exfalso; first | (simp at h; done) | (simp at h; omega))) | ((with_reducible refine And.intro ?_ ?_); focus (first | omega | (intros; simp_all; done) | (simp; omega)))
          exact ints_done (ks := [1, y]) (by omega) (by simp only [go_sem]; rfl)
      | some x =>
        rw [ha] at hdp
        simp only [Option.getD_some] at hdp
        have hx0 := hnn ha
        have zx : (0 ≤ x) = True := eq_true hx0
        cases hb : dirOf l c.to with
        | none =>
          rw [hb] at hdt
          simp only [Option.getD_none] at hdt
          have h1 := rabove20_c b l (-1) x hl
          have h2 := rabove20_c b l x (-1) hl
          have ct0 := ct hw callOk33F; have ct1 := ct hdp callOk34F; have ct2 := ct hdt callOk34F; have ct3 := ct h1 callOk35F; have ct4 := ct h2 callOk35F; repeat' first | ((first | refine cK (by assumption) ?_ | refine cP (by assumption) ?_ | refine cM (by assumption) ?_ | refine callP_false (.bool false) ?_ | refine aw_region rfl ?_ | refine aw_region_draw mixedF rfl (by kernel_rfl) ?_ | refine aE rfl ?_); simp only [go_sem, caA, k5, k13, hq1, zx]) | refine callG_y ?_ | refine callG_p ?_ | refine aw_seq ?_ | refine aw_block ?_ | refine aw_scope ?_ | (refine aw_cond rfl (fun h => ?_) (fun h => ?_) <;> try (exfalso; first | (simp at h; done) | (simp at h; omega))) | ((with_reducible refine And.intro ?_ ?_); focus (first | omega | (intros; simp_all; done) | (simp; omega)))
          exact ints_done (ks := [1, x]) (by omega) (by simp only [go_sem]; rfl)
        | some y =>
          rw [hb] at hdt
          simp only [Option.getD_some] at hdt
          have hy0 := hnn hb
          have zy : (0 ≤ y) = True := eq_true hy0
          have h1 := rabove20_c b l y x hl
          have h2 := rabove20_c b l x y hl
          by_cases hxy : y = x
          · subst hxy
            rw [above_self ha] at h1 h2
            have zlt : (y < y) = False := eq_false (by omega)
            have zeq : decide (y = y) = true := decide_eq_true rfl
            have e : locksO l (addD (addD [] (some y)) (some y)) = [y] := by simp [addD, locksO]
            rw [e]
            have ct0 := ct hw callOk33F; have ct1 := ct hdp callOk34F; have ct2 := ct hdt callOk34F; have ct3 := ct h1 callOk35F; have ct4 := ct h2 callOk35F; repeat' first | ((first | refine cK (by assumption) ?_ | refine cP (by assumption) ?_ | refine cM (by assumption) ?_ | refine callP_false (.bool false) ?_ | refine aw_region rfl ?_ | refine aw_region_draw mixedF rfl (by kernel_rfl) ?_ | refine aE rfl ?_); simp only [go_sem, caA, k5, k13, hq1, zx, zlt, zeq]) | refine callG_y ?_ | refine callG_p ?_ | refine aw_seq ?_ | refine aw_block ?_ | refine aw_scope ?_ | (refine aw_cond rfl (fun h => ?_) (fun h => ?_) <;> try (exfalso; first | (simp at h; done) | (simp at h; omega))) | ((with_reducible refine And.intro ?_ ?_); focus (first | omega | (intros; simp_all; done) | (simp; omega)))
            exact ints_done (ks := [1, y]) (by omega) (by simp only [go_sem]; rfl)
          · have zeq : decide (y = x) = false := decide_eq_false hxy
            have e0 : addD (addD [] (some x)) (some y) = [x, y] := by simp [addD, hxy]
            rw [e0]
            have hone := fun h => above_one hb ha h
            cases hF : aboveB l y x with
            | true =>
              rw [hF] at h1
              rw [hone hF] at h2
              have hO : locksO l [x, y] = [y, x] := by simp [locksO, hone hF, hF]
              rw [hO]
              have ct0 := ct hw callOk33F; have ct1 := ct hdp callOk34F; have ct2 := ct hdt callOk34F; have ct3 := ct h1 callOk35F; have ct4 := ct h2 callOk35F; repeat' first | ((first | refine cK (by assumption) ?_ | refine cP (by assumption) ?_ | refine cM (by assumption) ?_ | refine callP_false (.bool false) ?_ | refine aw_region rfl ?_ | refine aw_region_draw mixedF rfl (by kernel_rfl) ?_ | refine aE rfl ?_); simp only [go_sem, caA, k5, k13, hq1, zx, zy, zeq]) | refine callG_y ?_ | refine callG_p ?_ | refine aw_seq ?_ | refine aw_block ?_ | refine aw_scope ?_ | (refine aw_cond rfl (fun h => ?_) (fun h => ?_) <;> try (exfalso; first | (simp at h; done) | (simp at h; omega))) | ((with_reducible refine And.intro ?_ ?_); focus (first | omega | (intros; simp_all; done) | (simp; omega)))
              exact ints_done (ks := [1, y, x]) (by omega) (by simp only [go_sem]; rfl)
            | false =>
              rw [hF] at h1
              cases hS : aboveB l x y with
              | true =>
                rw [hS] at h2
                have hO : locksO l [x, y] = [x, y] := by simp [locksO, hS]
                rw [hO]
                have ct0 := ct hw callOk33F; have ct1 := ct hdp callOk34F; have ct2 := ct hdt callOk34F; have ct3 := ct h1 callOk35F; have ct4 := ct h2 callOk35F; repeat' first | ((first | refine cK (by assumption) ?_ | refine cP (by assumption) ?_ | refine cM (by assumption) ?_ | refine callP_false (.bool false) ?_ | refine aw_region rfl ?_ | refine aw_region_draw mixedF rfl (by kernel_rfl) ?_ | refine aE rfl ?_); simp only [go_sem, caA, k5, k13, hq1, zx, zy, zeq]) | refine callG_y ?_ | refine callG_p ?_ | refine aw_seq ?_ | refine aw_block ?_ | refine aw_scope ?_ | (refine aw_cond rfl (fun h => ?_) (fun h => ?_) <;> try (exfalso; first | (simp at h; done) | (simp at h; omega))) | ((with_reducible refine And.intro ?_ ?_); focus (first | omega | (intros; simp_all; done) | (simp; omega)))
                exact ints_done (ks := [1, x, y]) (by omega) (by simp only [go_sem]; rfl)
              | false =>
                rw [hS] at h2
                by_cases hlt : y < x
                · have zlt : (y < x) = True := eq_true hlt
                  have hO : locksO l [x, y] = [y, x] := by simp [locksO, hS, hlt]
                  rw [hO]
                  have ct0 := ct hw callOk33F; have ct1 := ct hdp callOk34F; have ct2 := ct hdt callOk34F; have ct3 := ct h1 callOk35F; have ct4 := ct h2 callOk35F; repeat' first | ((first | refine cK (by assumption) ?_ | refine cP (by assumption) ?_ | refine cM (by assumption) ?_ | refine callP_false (.bool false) ?_ | refine aw_region rfl ?_ | refine aw_region_draw mixedF rfl (by kernel_rfl) ?_ | refine aE rfl ?_); simp only [go_sem, caA, k5, k13, hq1, zx, zy, zeq, zlt]) | refine callG_y ?_ | refine callG_p ?_ | refine aw_seq ?_ | refine aw_block ?_ | refine aw_scope ?_ | (refine aw_cond rfl (fun h => ?_) (fun h => ?_) <;> try (exfalso; first | (simp at h; done) | (simp at h; omega))) | ((with_reducible refine And.intro ?_ ?_); focus (first | omega | (intros; simp_all; done) | (simp; omega)))
                  exact ints_done (ks := [1, y, x]) (by omega) (by simp only [go_sem]; rfl)
                · have zlt : (y < x) = False := eq_false hlt
                  have hO : locksO l [x, y] = [x, y] := by simp [locksO, hS, hF, hlt]
                  rw [hO]
                  have ct0 := ct hw callOk33F; have ct1 := ct hdp callOk34F; have ct2 := ct hdt callOk34F; have ct3 := ct h1 callOk35F; have ct4 := ct h2 callOk35F; repeat' first | ((first | refine cK (by assumption) ?_ | refine cP (by assumption) ?_ | refine cM (by assumption) ?_ | refine callP_false (.bool false) ?_ | refine aw_region rfl ?_ | refine aw_region_draw mixedF rfl (by kernel_rfl) ?_ | refine aE rfl ?_); simp only [go_sem, caA, k5, k13, hq1, zx, zy, zeq, zlt]) | refine callG_y ?_ | refine callG_p ?_ | refine aw_seq ?_ | refine aw_block ?_ | refine aw_scope ?_ | (refine aw_cond rfl (fun h => ?_) (fun h => ?_) <;> try (exfalso; first | (simp at h; done) | (simp at h; omega))) | ((with_reducible refine And.intro ?_ ?_); focus (first | omega | (intros; simp_all; done) | (simp; omega)))
                  exact ints_done (ks := [1, x, y]) (by omega) (by simp only [go_sem]; rfl)
    · have k13 : decide (c.kind = 13) = false := by rw [hk]; rfl
      have k5 : decide (c.kind = 5) = false := by rw [hk]; rfl
      have hD : locksT l c = 1 :: locksO l (addD [] (dirOf l c.path)) := by simp [locksT, locksD, pathsK, hk]
      rw [hD]
      cases ha : dirOf l c.path with
      | none =>
        rw [ha] at hdp
        simp only [Option.getD_none] at hdp
        have h1 := rabove20_c b l (-1) (-1) hl
        have ct0 := ct hw callOk33F; have ct1 := ct hdp callOk34F; have ct2 := ct h1 callOk35F; repeat' first | ((first | refine cK (by assumption) ?_ | refine cP (by assumption) ?_ | refine cM (by assumption) ?_ | refine callP_false (.bool false) ?_ | refine aw_region rfl ?_ | refine aw_region_draw mixedF rfl (by kernel_rfl) ?_ | refine aE rfl ?_); simp only [go_sem, caA, k5, k13]) | refine callG_y ?_ | refine callG_p ?_ | refine aw_seq ?_ | refine aw_block ?_ | refine aw_scope ?_ | (refine aw_cond rfl (fun h => ?_) (fun h => ?_) <;> try (exfalso; first | (simp at h; done) | (simp at h; omega))) | ((with_reducible refine And.intro ?_ ?_); focus (first | omega | (intros; simp_all; done) | (simp; omega)))
        exact done (by simp only [go_sem]) (.tup _ _ rfl (sims_cons (.sl _ _) (sims_cons (.refl _) sims_nil)))
      | some a =>
        rw [ha] at hdp
        have ha0 := hnn ha
        simp only [Option.getD_some] at hdp
        have h1 := rabove20_c b l (-1) a hl
        have h2 := rabove20_c b l a (-1) hl
        have z0 : decide (0 ≤ a) = true := decide_eq_true ha0
        have ct0 := ct hw callOk33F; have ct1 := ct hdp callOk34F; have ct2 := ct h1 callOk35F; have ct3 := ct h2 callOk35F; repeat' first | ((first | refine cK (by assumption) ?_ | refine cP (by assumption) ?_ | refine cM (by assumption) ?_ | refine callP_false (.bool false) ?_ | refine aw_region rfl ?_ | refine aw_region_draw mixedF rfl (by kernel_rfl) ?_ | refine aE rfl ?_); simp only [go_sem, caA, k5, k13, z0, hq1]) | refine callG_y ?_ | refine callG_p ?_ | refine aw_seq ?_ | refine aw_block ?_ | refine aw_scope ?_ | (refine aw_cond rfl (fun h => ?_) (fun h => ?_) <;> try (exfalso; first | (simp at h; done) | (simp at h; omega))) | ((with_reducible refine And.intro ?_ ?_); focus (first | omega | (intros; simp_all; done) | (simp; omega)))
        exact ints_done (ks := [1, a]) (by omega) (by simp only [go_sem]; rfl)
    · have k13 : decide (c.kind = 13) = true := by rw [hk]; rfl
      have hD : locksT l c = [1] := by simp [locksT, locksD, pathsK, hk, locksO]
      rw [hD]
      have ct0 := ct hw callOk33F; repeat' first | ((first | refine cK (by assumption) ?_ | refine cP (by assumption) ?_ | refine cM (by assumption) ?_ | refine callP_false (.bool false) ?_ | refine aw_region rfl ?_ | refine aw_region_draw mixedF rfl (by kernel_rfl) ?_ | refine aE rfl ?_); simp only [go_sem, caA, k13]) | refine callG_y ?_ | refine callG_p ?_ | refine aw_seq ?_ | refine aw_block ?_ | refine aw_scope ?_ | (refine aw_cond rfl (fun h => ?_) (fun h => ?_) <;> try (exfalso; first | (simp at h; done) | (simp at h; omega))) | ((with_reducible refine And.intro ?_ ?_); focus (first | omega | (intros; simp_all; done) | (simp; omega)))
      exact done (by simp only [go_sem]) (.tup _ _ rfl (sims_cons (.sl _ _) (sims_cons (.refl _) sims_nil)))
end Go.Proofs.YtmknmapgfjmioaaGreatDoor
/- The abstract machine: a slice in a block that is none yet gets a block of its own. No condition. -/
namespace Go.Aw
open Go
set_option linter.unusedVariables false
variable {P : Program}

theorem St.simR {c : Ctx} {H : AHeap} (hst : St c H) {i v : Nat} {cs ds : List AV} (hh : hget H i = .cells v cs) (hl : cs.length = ds.length) (hs : ∀ (i : Nat) (x y : AV), cs[i]? = some x → ds[i]? = some y → ∀ v, Rep c x v → Rep c y v) : St c (hset H i (.cells v ds)) := by
  have hi := hget_some hh trivial
  have hlt := hget_lt hh trivial
  have hget : ∀ {j : Nat} {b : ABlk}, (hset H i (.cells v ds))[j]? = some b → (j = i ∧ b = .cells v ds) ∨ (j ≠ i ∧ H[j]? = some b) := by
    intro j b hj
    by_cases e : j = i
    · subst e
      rw [hset, List.getElem?_set_self hlt] at hj
      cases hj; exact .inl ⟨rfl, rfl⟩
    · rw [hset, List.getElem?_set_ne (fun q => e q.symm)] at hj
      exact .inr ⟨e, hj⟩
  have hget' : ∀ {j : Nat} {b : ABlk}, (hset H i (.cells v ds))[j]? = some b → b.live → ∃ b' : ABlk, H[j]? = some b' ∧ b'.live := by
    intro j b hj hb
    rcases hget hj with ⟨rfl, rfl⟩ | ⟨_, h⟩
    · exact ⟨_, hi, trivial⟩
    · exact ⟨_, h, hb⟩
  refine ⟨by simp [hset, hst.n], hst.lt, fun j k b b' hj hk hb hb' dj dk he => ?_, fun k hk => ?_, fun j b hj => ?_⟩
  · obtain ⟨b1, g1, g2⟩ := hget' hj hb
    obtain ⟨b2, g3, g4⟩ := hget' hk hb'
    exact hst.inj j k b1 b2 g1 g3 g2 g4 dj dk he
  · obtain ⟨h1, h2⟩ := hst.st k hk
    refine ⟨h1, fun j b hj hb dj => ?_⟩
    obtain ⟨b1, g1, g2⟩ := hget' hj hb
    exact h2 j b1 g1 g2 dj
  · rcases hget hj with ⟨rfl, rfl⟩ | ⟨_, h⟩
    · have hr := hst.rep j _ hi
      cases hr with
      | cells _ _ vs e fr q1 q2 q3 q4 q5 q6 =>
        refine .cells _ _ vs e fr q1 q2 q3 (by omega) q5 fun m y u hy hu => ?_
        have hlt2 := (List.getElem?_eq_some_iff.1 hy).1
        have hx : cs[m]? = some (cs[m]'(by omega)) := List.getElem?_eq_getElem (by omega)
        exact hs m _ y hx hy u (q6 m _ u hx hu)
      | void _ q1 q2 =>
        have : ds = [] := List.eq_nil_of_length_eq_zero (by simpa using hl.symm)
        subst this
        exact .void _ q1 q2
    · exact hst.rep j b h


theorem rep_void {c : Ctx} {H : AHeap} (hst : St c H) (s : Nat) {v : Value} (h : Rep c.void (.sl true []) v) : Rep c.void (.osl s H.length 1 0 0 0) v := by
  cases h with
  | sl _ _ base len cap s' vs h1 h2 h3 h4 h5 h6 h7 =>
    have hcap := h3 rfl
    simp at h1
    subst h1
    subst hcap
    exact .osl _ _ _ _ _ _ _ (by simp [Ctx.void, hst.n]) (by simp [Ctx.void, hst.n]) rfl (by omega) (fun _ _ => ⟨rfl, rfl, base, rfl⟩) (fun _ hd => by simp [Ctx.void, hst.n] at hd)
/-- A nil slice in a block gets a block of its own. -/
theorem aw_voidH {N : Nat} {code : Code} {Q : APost} {α : AF} {H : AHeap} (i j s : Nat) {v : Nat} {cs : List AV} (hh : hget H i = .cells v cs) (hj : cs[j]? = some (.sl true []))
    (h : aw P N code Q α (hset (H ++ [.cells 1 []]) i (.cells v (cs.set j (.osl s H.length 1 0 0 0))))) : aw P N code Q α H := by
  intro r c a hr hst ha
  have hv := Ext.void c
  have hget := hget_appL hh trivial [.cells 1 []]
  refine wpIn_mono (h r c.void a hr (hst.void.simR hget (by simp) fun k x y hx hy v hr => ?_) ⟨ha.size, ha.defers.mono hv, fun u => (ha.rep u).mono hv⟩) fun _ _ _ ⟨c', α', H', e1, e2, e3, e4, e5⟩ => ⟨c', α', H', e1, e2, hv.trans e3, e4, e5⟩
  by_cases e : k = j
  · subst e
    rw [List.getElem?_set_self (List.getElem?_eq_some_iff.1 hj).1] at hy
    cases hy
    rw [hj] at hx
    cases hx
    exact rep_void hst s hr
  · rw [List.getElem?_set_ne (fun q => e q.symm)] at hy
    rw [hx] at hy
    cases hy
    exact hr
end Go.Aw
/- The document's plan: who walks, what is next, what is behind a turn. No condition but the length of what comes in. -/
namespace Go.Proofs.YtmknmapgfjmioaaGreatDoor
open Go Go.Aw Go.Gw
set_option linter.unusedSimpArgs false
set_option linter.unusedVariables false
set_option maxRecDepth 20000
set_option maxHeartbeats 8000000

theorem rwalk_c (b f1 f2 f3 : Bool) (l : List Nd) (t : Thr) (hk : walksK t.call = true) (hp : t.call.path.length ≤ 1048576) (hl : l.length ≤ 1073741824) (H : AHeap) :
    FnC Tryz.prog 36 [.sl b (l.map ndA), thA f1 f2 f3 t] H (trA (walkN l (wnames t.call) t)) := by
  refine fnC_of Tryz.func36 rfl (Nat.le_of_ble_eq_true rfl) ?_
  have hn := rnames20_c t.call hp
  have h16 := wnames_len t.call
  simp only [hk, ↓reduceIte, caA] at hn
  generalize wnames t.call = ns at *
  unfold thA thF
  rcases hh : t.has with _ | ⟨here, _ | ⟨h2, hs⟩⟩
  · rw [walkN, hh]
    simp only [List.map_nil]
    have ct0 := ct hn callOk9F; repeat' first | ((first | refine cK (by assumption) ?_ | refine cP (by assumption) ?_ | refine cM (by assumption) ?_ | refine callP_false (.bool false) ?_ | refine aw_region rfl ?_ | refine aw_region_draw mixedF rfl (by kernel_rfl) ?_ | refine aE rfl ?_); simp only [go_sem, caA]) | refine callG_y ?_ | refine callG_p ?_ | refine aw_seq ?_ | refine aw_block ?_ | refine aw_scope ?_ | (refine aw_cond rfl (fun h => ?_) (fun h => ?_) <;> try (exfalso; first | (simp at h; done) | (simp at h; omega))) | ((with_reducible refine And.intro ?_ ?_); focus (first | omega | (intros; simp_all; done) | (simp; omega)))
    exact done (by simp only [go_sem]) (.refl _)
  · have e1 : decide (((1 : Nat) : Int) = 0) = false := rfl
    have e2 : decide ((2 : Int) ≤ ((1 : Nat) : Int)) = false := rfl
    have hf := rfind8_c b false l ns hl (by omega)
    obtain ⟨⟨d, e⟩, hde⟩ : ∃ r, findN l ns = r := ⟨_, rfl⟩
    rw [walkN, hh]
    simp only [hde] at hf ⊢
    simp only [findV] at hf
    have hdr := rdir_c d
    simp only [List.map_cons, List.map_nil]
    by_cases hin : 0 ≤ t.at_ ∧ t.at_ < (ns.length : Int)
    · have hlt : t.at_.toNat < ns.length := by omega
      have hz0 : decide (0 ≤ t.at_) = true := decide_eq_true hin.1
      have hz1 : decide (t.at_ < (ns.length : Int)) = true := decide_eq_true hin.2
      have hix : (0 ≤ t.at_ ∧ t.at_ < (ns.length : Int)) = True := eq_true hin
      have hg := getD_map AV.str hlt
      rw [if_pos hin.1, List.getElem?_eq_getElem hlt]
      simp only [Option.bind_some]
      have hch := rchild_c b l here ns[t.at_.toNat] hl
      cases hc : childN l here ns[t.at_.toNat] with
      | none =>
        rw [hc] at hch
        simp only [childV, Option.map_none, Option.getD_none, Option.isSome_none] at hch
        have hd0 := rdir_c 0
        have ct0 := ct hch callOk66F; have ct1 := ct hn callOk9F; have ct2 := ct hd0 callOk64F; have ct3 := ct hf callOk63F; have ct4 := ct hdr callOk64F; repeat' first | ((first | refine cK (by assumption) ?_ | refine cP (by assumption) ?_ | refine cM (by assumption) ?_ | refine callP_false (.bool false) ?_ | refine aw_region rfl ?_ | refine aw_region_draw mixedF rfl (by kernel_rfl) ?_ | refine aE rfl ?_); simp only [go_sem, caA, e1, e2, inA, hz0, hz1, hix, hg]) | refine callG_y ?_ | refine callG_p ?_ | refine aw_seq ?_ | refine aw_block ?_ | refine aw_scope ?_ | (refine aw_cond rfl (fun h => ?_) (fun h => ?_) <;> try (exfalso; first | (simp at h; done) | (simp at h; omega))) | ((with_reducible refine And.intro ?_ ?_); focus (first | omega | (intros; simp_all; done) | (simp; omega)))
        all_goals exact done (by simp only [go_sem]) (.of (by first | (simp_all [trA]; done) | (simp_all [trA]; split <;> simp_all [trA])))
      | some n =>
        rw [hc] at hch
        simp only [childV, Option.map_some, Option.getD_some, Option.isSome_some] at hch
        have hdn := rdir_c n.id
        have ct0 := ct hch callOk66F; have ct1 := ct hn callOk9F; have ct2 := ct hdn callOk64F; have ct3 := ct hf callOk63F; have ct4 := ct hdr callOk64F; repeat' first | ((first | refine cK (by assumption) ?_ | refine cP (by assumption) ?_ | refine cM (by assumption) ?_ | refine callP_false (.bool false) ?_ | refine aw_region rfl ?_ | refine aw_region_draw mixedF rfl (by kernel_rfl) ?_ | refine aE rfl ?_); simp only [go_sem, caA, e1, e2, inA, hz0, hz1, hix, hg]) | refine callG_y ?_ | refine callG_p ?_ | refine aw_seq ?_ | refine aw_block ?_ | refine aw_scope ?_ | (refine aw_cond rfl (fun h => ?_) (fun h => ?_) <;> try (exfalso; first | (simp at h; done) | (simp at h; omega))) | ((with_reducible refine And.intro ?_ ?_); focus (first | omega | (intros; simp_all; done) | (simp; omega)))
        all_goals exact done (by simp only [go_sem]) (.of (by first | (simp_all [trA]; done) | (simp_all [trA]; split <;> simp_all [trA])))
    · have hno : (if 0 ≤ t.at_ then ns[t.at_.toNat]? else none) = none := by
        split
        · exact List.getElem?_eq_none (by omega)
        · rfl
      rw [hno]
      simp only [Option.bind_none]
      have hz : (decide (0 ≤ t.at_) && decide (t.at_ < (ns.length : Int))) = false := by
        rw [Bool.eq_false_iff]; simpa using hin
      have ct0 := ct hn callOk9F; have ct1 := ct hf callOk63F; have ct2 := ct hdr callOk64F; repeat' first | ((first | refine cK (by assumption) ?_ | refine cP (by assumption) ?_ | refine cM (by assumption) ?_ | refine callP_false (.bool false) ?_ | refine aw_region rfl ?_ | refine aw_region_draw mixedF rfl (by kernel_rfl) ?_ | refine aE rfl ?_); simp only [go_sem, caA, e1, e2, inA, hz]) | refine callG_y ?_ | refine callG_p ?_ | refine aw_seq ?_ | refine aw_block ?_ | refine aw_scope ?_ | (refine aw_cond rfl (fun h => ?_) (fun h => ?_) <;> try (exfalso; first | (simp at h; done) | (simp at h; omega))) | ((with_reducible refine And.intro ?_ ?_); focus (first | omega | (intros; simp_all; done) | (simp; omega)))
      all_goals exact done (by simp only [go_sem]) (.of (by first | (simp_all [trA]; done) | (simp_all [trA]; split <;> simp_all [trA])))
  · rw [walkN, hh]
    simp only [List.map_cons, List.headD_cons]
    have e1 : decide (((hs.length + 1 + 1 : Nat) : Int) = 0) = false := decide_eq_false (by omega)
    have e2 : decide ((2 : Int) ≤ ((hs.length + 1 + 1 : Nat) : Int)) = true := decide_eq_true (by omega)
    have ct0 := ct hn callOk9F; repeat' first | ((first | refine cK (by assumption) ?_ | refine cP (by assumption) ?_ | refine cM (by assumption) ?_ | refine callP_false (.bool false) ?_ | refine aw_region rfl ?_ | refine aw_region_draw mixedF rfl (by kernel_rfl) ?_ | refine aE rfl ?_); simp only [go_sem, caA, e1, e2, inA]) | refine callG_y ?_ | refine callG_p ?_ | refine aw_seq ?_ | refine aw_block ?_ | refine aw_scope ?_ | (refine aw_cond rfl (fun h => ?_) (fun h => ?_) <;> try (exfalso; first | (simp at h; done) | (simp at h; omega))) | ((with_reducible refine And.intro ?_ ?_); focus (first | omega | (intros; simp_all; done) | (simp; omega)))
    exact done (by simp only [go_sem]) (.refl _)

theorem turn_excl {c : Cal} (h : walksK c = true) : turnsK c = false := by
  unfold walksK at h
  unfold turnsK
  simp only [Bool.or_eq_true, Bool.and_eq_true, decide_eq_true_eq] at h
  simp only [Bool.or_eq_false_iff, decide_eq_false_iff_not]
  omega

theorem rnext_c (b f1 f2 f3 : Bool) (l : List Nd) (t : Thr) (hp : t.call.path.length ≤ 1048576) (ht : t.call.to.length ≤ 1048576) (hh : t.has.length ≤ 1073741824) (hl : l.length ≤ 1073741824) (H : AHeap) :
    FnC Tryz.prog 15 [.sl b (l.map ndA), thA f1 f2 f3 t] H (trA (nextT l t)) := by
  refine fnC_of Tryz.func15 rfl (Nat.le_of_ble_eq_true rfl) ?_
  unfold thA thF
  unfold nextT
  cases hen : t.ended with
  | true =>
    rw [if_pos rfl]
    repeat' first | ((first | refine callP_false (.bool false) ?_ | refine aw_region rfl ?_ | refine aw_region_draw mixedF rfl (by kernel_rfl) ?_ | refine aE rfl ?_); simp only [go_sem]) | refine callG_y ?_ | refine callG_p ?_ | refine aw_seq ?_ | refine aw_block ?_ | refine aw_scope ?_ | (refine aw_cond rfl (fun h => ?_) (fun h => ?_) <;> try (exfalso; first | (simp at h; done) | (simp at h; omega))) | ((with_reducible refine And.intro ?_ ?_); focus (first | omega | (intros; simp_all; done) | (simp; omega)))
    exact done (by simp only [go_sem]) (.refl _)
  | false =>
  rw [if_neg (fun h => by cases h)]
  cases hdo : t.done with
  | true =>
    rw [if_pos rfl]
    cases hha : t.has with
    | nil =>
      simp only [List.map_nil]
      by_cases hk : t.call.kind = 12
      · have e1 : decide (t.call.kind = 12) = true := decide_eq_true hk
        rw [if_pos hk]
        repeat' first | ((first | refine callP_false (.bool false) ?_ | refine aw_region rfl ?_ | refine aw_region_draw mixedF rfl (by kernel_rfl) ?_ | refine aE rfl ?_); simp only [go_sem, e1]) | refine callG_y ?_ | refine callG_p ?_ | refine aw_seq ?_ | refine aw_block ?_ | refine aw_scope ?_ | (refine aw_cond rfl (fun h => ?_) (fun h => ?_) <;> try (exfalso; first | (simp at h; done) | (simp at h; omega))) | ((with_reducible refine And.intro ?_ ?_); focus (first | omega | (intros; simp_all; done) | (simp; omega)))
        exact done (by simp only [go_sem]) (.refl _)
      · have e1 : decide (t.call.kind = 12) = false := decide_eq_false hk
        rw [if_neg hk]
        repeat' first | ((first | refine callP_false (.bool false) ?_ | refine aw_region rfl ?_ | refine aw_region_draw mixedF rfl (by kernel_rfl) ?_ | refine aE rfl ?_); simp only [go_sem, e1]) | refine callG_y ?_ | refine callG_p ?_ | refine aw_seq ?_ | refine aw_block ?_ | refine aw_scope ?_ | (refine aw_cond rfl (fun h => ?_) (fun h => ?_) <;> try (exfalso; first | (simp at h; done) | (simp at h; omega))) | ((with_reducible refine And.intro ?_ ?_); focus (first | omega | (intros; simp_all; done) | (simp; omega)))
        exact done (by simp only [go_sem]) (.refl _)
    | cons k ks =>
      have e2 : ((0 : Int) < ((ks.length + 1 : Nat) : Int)) = True := eq_true (by omega)
      have e3 : decide ((0 : Int) < ((ks.length + 1 : Nat) : Int)) = true := decide_eq_true (by omega)
      simp only [List.map_cons]
      repeat' first | ((first | refine callP_false (.bool false) ?_ | refine aw_region rfl ?_ | refine aw_region_draw mixedF rfl (by kernel_rfl) ?_ | refine aE rfl ?_); simp only [go_sem, e2, e3, inA]) | refine callG_y ?_ | refine callG_p ?_ | refine aw_seq ?_ | refine aw_block ?_ | refine aw_scope ?_ | (refine aw_cond rfl (fun h => ?_) (fun h => ?_) <;> try (exfalso; first | (simp at h; done) | (simp at h; omega))) | ((with_reducible refine And.intro ?_ ?_); focus (first | omega | (intros; simp_all; done) | (simp; omega)))
      exact done (by simp only [go_sem]) (.refl _)
  | false =>
  rw [if_neg (fun h => by cases h)]
  have hw := rwalks_c t.call
  simp only [caA] at hw
  cases hwk : walksK t.call with
  | true =>
    rw [hwk] at hw
    rw [turn_excl hwk, if_neg (fun h => by cases h), if_pos rfl]
    have hn := fun H => rwalk_c b f1 f2 f3 l t hwk hp hl H
    unfold thA thF at hn
    simp only [hen, hdo, trA] at hn
    have ct0 := ct hw callOk30F; have ct1 := ct hn callOk36F; repeat' first | ((first | refine cK (by assumption) ?_ | refine cP (by assumption) ?_ | refine cM (by assumption) ?_ | refine callP_false (.bool false) ?_ | refine aw_region rfl ?_ | refine aw_region_draw mixedF rfl (by kernel_rfl) ?_ | refine aE rfl ?_); simp only [go_sem, trA]) | refine callG_y ?_ | refine callG_p ?_ | refine aw_seq ?_ | refine aw_block ?_ | refine aw_scope ?_ | (refine aw_cond rfl (fun h => ?_) (fun h => ?_) <;> try (exfalso; first | (simp at h; done) | (simp at h; omega))) | ((with_reducible refine And.intro ?_ ?_); focus (first | omega | (intros; simp_all; done) | (simp; omega)))
    exact done (by simp only [go_sem]) (.refl _)
  | false =>
  rw [hwk] at hw
  have hlk := rlocks20_c b l t.call hp ht hl
  simp only [caA] at hlk
  cases htu : turnsK t.call with
  | false =>
    simp only [htu, Bool.false_eq_true, ↓reduceIte] at hlk ⊢
    have ct0 := ct hw callOk30F; have ct1 := ct hlk callOk11F; repeat' first | ((first | refine cK (by assumption) ?_ | refine cP (by assumption) ?_ | refine cM (by assumption) ?_ | refine callP_false (.bool false) ?_ | refine aw_region rfl ?_ | refine aw_region_draw mixedF rfl (by kernel_rfl) ?_ | refine aE rfl ?_); simp only [go_sem]) | refine callG_y ?_ | refine callG_p ?_ | refine aw_seq ?_ | refine aw_block ?_ | refine aw_scope ?_ | (refine aw_cond rfl (fun h => ?_) (fun h => ?_) <;> try (exfalso; first | (simp at h; done) | (simp at h; omega))) | ((with_reducible refine And.intro ?_ ?_); focus (first | omega | (intros; simp_all; done) | (simp; omega)))
    refine aw_loopS (ι := Unit) (fun k => [(4, .ref (H.length + 1) 0 0), (6, .sl true []), (8, .int .i64 0)]) (fun _ => _) (fun k => True) (fun k => 0) () trivial ?_ rfl ?_
    · simp [go_sem]
    rintro _ _
    repeat' first | ((first | refine callP_false (.bool false) ?_ | refine aw_region rfl ?_ | refine aw_region_draw mixedF rfl (by kernel_rfl) ?_ | refine aE rfl ?_); simp only [go_sem]) | refine callG_y ?_ | refine callG_p ?_ | refine aw_seq ?_ | refine aw_block ?_ | refine aw_scope ?_ | (refine aw_cond rfl (fun h => ?_) (fun h => ?_) <;> try (exfalso; first | (simp at h; done) | (simp at h; omega))) | ((with_reducible refine And.intro ?_ ?_); focus (first | omega | (intros; simp_all; done) | (simp; omega)))
    exact done (by simp only [go_sem]) (.refl _)
  | true =>
  rw [htu] at hlk
  rw [if_pos rfl] at hlk ⊢
  have hll : (locksT l t.call).length ≤ 3 := locksT_len l t.call
  generalize locksT l t.call = ks at *
  obtain ⟨X, hX⟩ : ∃ X, trA (turnN t.has ks) = X := ⟨_, rfl⟩
  rw [hX]
  have hhs := fun n H => rhas20_c f1 t.has n hh H
  have ct0 := ct hw callOk30F; have ct1 := ct hlk callOk11F; repeat' first | ((first | refine cK (by assumption) ?_ | refine cP (by assumption) ?_ | refine cM (by assumption) ?_ | refine callP_false (.bool false) ?_ | refine aw_region rfl ?_ | refine aw_region_draw mixedF rfl (by kernel_rfl) ?_ | refine aE rfl ?_); simp only [go_sem]) | refine callG_y ?_ | refine callG_p ?_ | refine aw_seq ?_ | refine aw_block ?_ | refine aw_scope ?_ | (refine aw_cond rfl (fun h => ?_) (fun h => ?_) <;> try (exfalso; first | (simp at h; done) | (simp at h; omega))) | ((with_reducible refine And.intro ?_ ?_); focus (first | omega | (intros; simp_all; done) | (simp; omega)))
  refine aw_loopS (ι := Nat) (fun k => [(3, .ref H.length 0 0), (4, .ref (H.length + 1) 0 0), (6, .sl false (ks.map inA)), (8, .int .i64 k)]) (fun _ => _) (fun k => k ≤ ks.length ∧ turnN t.has (ks.drop k) = turnN t.has ks) (fun k => ks.length - k) 0 ⟨Nat.zero_le _, rfl⟩ ?_ rfl ?_
  · simp [go_sem]
  rintro k ⟨hk, he⟩
  by_cases hlt : k < ks.length
  · have hli : ((k : Int) < ((ks.length : Nat) : Int)) = True := eq_true (by omega)
    have hp2 := getD_map inA hlt
    have hw2 : IntKind.i64.wrap ((k : Int) + 1) = ((k + 1 : Nat) : Int) := by rw [wrap_i64 (by omega) (by omega)]; rfl
    have hc := hhs ks[k]
    rw [List.drop_eq_getElem_cons hlt, turnN] at he
    cases hcc : t.has.contains ks[k] with
    | true =>
      rw [hcc, if_pos rfl] at he
      rw [hcc] at hc
      have ct0 := ct hc callOk37F; repeat' first | ((first | refine cK (by assumption) ?_ | refine cP (by assumption) ?_ | refine cM (by assumption) ?_ | refine callP_false (.bool false) ?_ | refine aw_region rfl ?_ | refine aw_region_draw mixedF rfl (by kernel_rfl) ?_ | refine aE rfl ?_); simp only [go_sem, hli, hp2, inA]) | refine callG_y ?_ | refine callG_p ?_ | refine aw_seq ?_ | refine aw_block ?_ | refine aw_scope ?_ | (refine aw_cond rfl (fun h => ?_) (fun h => ?_) <;> try (exfalso; first | (simp at h; done) | (simp at h; omega))) | ((with_reducible refine And.intro ?_ ?_); focus (first | omega | (intros; simp_all; done) | (simp; omega)))
      exact ⟨k + 1, ⟨hlt, he⟩, by omega, congrArg _ hw2⟩
    | false =>
      rw [hcc, if_neg (fun h => by cases h)] at he
      rw [hcc] at hc
      rw [← hX, ← he]
      have ct0 := ct hc callOk37F; repeat' first | ((first | refine cK (by assumption) ?_ | refine cP (by assumption) ?_ | refine cM (by assumption) ?_ | refine callP_false (.bool false) ?_ | refine aw_region rfl ?_ | refine aw_region_draw mixedF rfl (by kernel_rfl) ?_ | refine aE rfl ?_); simp only [go_sem, hli, hp2, inA]) | refine callG_y ?_ | refine callG_p ?_ | refine aw_seq ?_ | refine aw_block ?_ | refine aw_scope ?_ | (refine aw_cond rfl (fun h => ?_) (fun h => ?_) <;> try (exfalso; first | (simp at h; done) | (simp at h; omega))) | ((with_reducible refine And.intro ?_ ?_); focus (first | omega | (intros; simp_all; done) | (simp; omega)))
      exact done (by simp only [go_sem]) (.refl _)
  obtain rfl : k = ks.length := by omega
  rw [List.drop_length, turnN] at he
  have hli : ((ks.length : Int) < ((ks.length : Nat) : Int)) = False := eq_false (by omega)
  rw [← hX, ← he]
  repeat' first | ((first | refine callP_false (.bool false) ?_ | refine aw_region rfl ?_ | refine aw_region_draw mixedF rfl (by kernel_rfl) ?_ | refine aE rfl ?_); simp only [go_sem, hli]) | refine callG_y ?_ | refine callG_p ?_ | refine aw_seq ?_ | refine aw_block ?_ | refine aw_scope ?_ | (refine aw_cond rfl (fun h => ?_) (fun h => ?_) <;> try (exfalso; first | (simp at h; done) | (simp at h; omega))) | ((with_reducible refine And.intro ?_ ?_); focus (first | omega | (intros; simp_all; done) | (simp; omega)))
  exact done (by simp only [go_sem]) (.refl _)

/-- A thread with a list of its own becomes fixed, its answer as it came. -/
theorem th_doneF {i v lc k : Nat} {H L : AHeap} {cs rest : List AV} {x : AV} (f2 f3 : Bool) (t : Thr) (hn : H.length ≤ i) (hh : hget (H ++ L) i = .cells v cs) (hcs : cs = t.has.map inA ++ rest) (hk : k = t.has.length) (hx : thA false f2 f3 t = x) :
    ∃ L' y, H ++ L = H ++ L' ∧ Frz H.length (H ++ L) (thF (.osl 1 i v 0 k lc) (.sl f2 (t.ans.names.map AV.str)) (.sl f3 (t.ans.events.map evA)) t) y ∧ y = x := by
  refine ⟨L, _, rfl, ?_, hx⟩
  unfold thA thF
  refine .agg _ _ rfl ?_
  repeat' first | exact frz_nil | refine frz_cons ?_ ?_ | exact .cl _ (.int _ _) | exact .cl _ (.str _) | exact .cl _ (.bool _) | exact .cl _ (strs_cl _ _ _) | exact .cl _ (evs_cl _ _ _)
  exact frz_osl hn hh (by rw [flat_in]; exact hcs) (by rw [List.length_map, hk]) (cells_in _) (fun e he => by obtain ⟨x, _, rfl⟩ := List.mem_map.1 he; exact .int _ _)

/-- What is kept of the locks. -/
def keepU (u : Trn) (x : Int) : Bool := !decide (u.kind = 2) || !decide (x = u.lock)
theorem keepU_2 (u : Trn) (l : List Int) (h : u.kind = 2) : l.filter (keepU u) = l.filter (fun k => !decide (k = u.lock)) := by
  congr 1; funext x; simp [keepU, h]
theorem keepU_n (u : Trn) (l : List Int) (h : u.kind ≠ 2) : l.filter (keepU u) = l := by
  rw [List.filter_eq_self]; intro x _; simp [keepU, h]

theorem rafter_c (f1 f2 f3 : Bool) (t : Thr) (u : Trn) (hs : t.has.length ≤ 1048576) (H : AHeap) : FnC Tryz.prog 18 [thA f1 f2 f3 t, trA u] H (thA false f2 f3 (afterT t u)) := by
  obtain ⟨X, hX⟩ : ∃ X, X = thA false f2 f3 (afterT t u) := ⟨_, rfl⟩
  rw [← hX]
  refine fnC_of Tryz.func18 rfl (Nat.le_of_ble_eq_true rfl) ?_
  have hwk := rwalks_c t.call
  simp only [caA] at hwk
  obtain ⟨uk, ul⟩ := u
  unfold thA thF trA
  have ct0 := ct hwk callOk30F; repeat' first | ((first | refine cK (by assumption) ?_ | refine cP (by assumption) ?_ | refine cM (by assumption) ?_ | refine callP_false (.bool false) ?_ | refine aw_region rfl ?_ | refine aw_region_draw mixedF rfl (by kernel_rfl) ?_ | refine aE rfl ?_); simp only [go_sem]) | refine callG_y ?_ | refine callG_p ?_ | refine aw_seq ?_ | refine aw_block ?_ | refine aw_scope ?_ | (refine aw_cond rfl (fun h => ?_) (fun h => ?_) <;> try (exfalso; first | (simp at h; done) | (simp at h; omega))) | ((with_reducible refine And.intro ?_ ?_); focus (first | omega | (intros; simp_all; done) | (simp; omega)))
  refine aw_voidH (H.length + 3) 5 1 (by simp only [go_sem]; rfl) rfl ?_
  simp only [go_sem]
  refine aw_loopS (ι := Nat) (fun k => [(2, .ref H.length 0 0), (3, .ref (H.length + 1) 0 0), (4, .ref (H.length + 2) 0 0), (5, .bool (walksK t.call)), (6, .ref (H.length + 3) 0 0), (7, .int .i64 k)])
    (fun k => H ++ [.cells 0 [.int .i64 t.call.kind, .str t.call.path, .str t.call.to, .str t.call.data, .int .i64 t.call.n, .sl f1 (t.has.map inA), .int .i64 t.at_, .bool t.done, .bool t.ended, .int .i64 t.upto, .int .i64 t.begin_, .int .i64 t.mark, .int .i64 t.end_, .int .i64 t.ans.err, .str t.ans.data, .sl f2 (t.ans.names.map AV.str), .int .i64 t.ans.n, .sl f3 (t.ans.events.map evA)], .cells 0 [.int .i64 uk, .int .i64 ul], .cells 0 [.int .i64 0, .str [], .str [], .str [], .int .i64 0, .sl true [], .int .i64 0, .bool false, .bool false, .int .i64 0, .int .i64 0, .int .i64 0, .int .i64 0, .int .i64 0, .str [], .sl true [], .int .i64 0, .sl true []],
      .cells 0 [.int .i64 t.call.kind, .str t.call.path, .str t.call.to, .str t.call.data, .int .i64 t.call.n, .osl 1 (H.length + 4) (((t.has.take k).filter (keepU ⟨uk, ul⟩)).length + 1) 0 ((t.has.take k).filter (keepU ⟨uk, ul⟩)).length ((t.has.take k).filter (keepU ⟨uk, ul⟩)).length, .int .i64 t.at_, .bool t.done, .bool t.ended, .int .i64 t.upto, .int .i64 t.begin_, .int .i64 t.mark, .int .i64 t.end_, .int .i64 t.ans.err, .str t.ans.data, .sl f2 (t.ans.names.map AV.str), .int .i64 t.ans.n, .sl f3 (t.ans.events.map evA)],
      .cells (((t.has.take k).filter (keepU ⟨uk, ul⟩)).length + 1) (((t.has.take k).filter (keepU ⟨uk, ul⟩)).map inA)])
    (fun k => k ≤ t.has.length) (fun k => t.has.length - k) 0 (Nat.zero_le _) ?_ rfl ?_
  · simp [go_sem]
  intro k hk
  obtain ⟨M, hM⟩ : ∃ M, (t.has.take k).filter (keepU ⟨uk, ul⟩) = M := ⟨_, rfl⟩
  have hMl : M.length ≤ k := by rw [← hM]; exact Nat.le_trans (List.length_filter_le _ _) (by rw [List.length_take]; omega)
  simp only [hM]
  by_cases hlt : k < t.has.length
  · have hli : decide ((k : Int) < (t.has.length : Int)) = true := decide_eq_true (by omega)
    have hp := getD_map inA hlt
    have hw2 : IntKind.i64.wrap ((k : Int) + 1) = ((k + 1 : Nat) : Int) := by rw [wrap_i64 (by omega) (by omega)]; rfl
    have hq1 : (∀ e, e = AV.int .i64 t.has[k] → e.cells.length = 1) = True := eq_true (fun e he => by rw [he]; rfl)
    have hq2 : ((M.length + 1) * 8 ≤ 140737488355328) = True := eq_true (by omega)
    have hkeep : keepU ⟨uk, ul⟩ t.has[k] = (!decide (uk = 2) || !decide (t.has[k] = ul)) := rfl
    repeat' first | ((first | refine aw_region_mix (id := 8) [.pure 0, .pure 0, .pure 0, .pure 0, .free, .pure 0, .pure 0, .free, .eff [true, true, true, true, false, true], .pure 0, .eff [false, false, false, false, false, false]] mixedF rfl (by kernel_rfl) (by kernel_rfl) ?_ | refine callP_false (.bool false) ?_ | refine aw_region rfl ?_ | refine aw_region_draw mixedF rfl (by kernel_rfl) ?_ | refine aE rfl ?_); simp only [go_sem, hli, hp, inA, hq1, hq2, Nat.mul_one]) | refine callG_y ?_ | refine callG_p ?_ | refine aw_seq ?_ | refine aw_block ?_ | refine aw_scope ?_ | (refine aw_cond rfl (fun h => ?_) (fun h => ?_) <;> try (exfalso; first | (simp at h; done) | (simp at h; omega))) | ((with_reducible refine And.intro ?_ ?_); focus (first | omega | (intros; simp_all; done) | (simp; omega)))
    · have hL : (t.has.take (k + 1)).filter (keepU ⟨uk, ul⟩) = M ++ [t.has[k]] := by rw [List.take_succ_eq_append_getElem hlt, List.filter_append, hM, List.filter_cons, if_pos (by rw [hkeep]; assumption), List.filter_nil]
      exact ⟨k + 1, hlt, by omega, congrArg _ hw2, by simp only [hL]; simp [inA]⟩
    · have hL : (t.has.take (k + 1)).filter (keepU ⟨uk, ul⟩) = M := by rw [List.take_succ_eq_append_getElem hlt, List.filter_append, hM, List.filter_cons, if_neg (by rw [hkeep]; simp_all), List.filter_nil, List.append_nil]
      exact ⟨k + 1, hlt, by omega, congrArg _ hw2, by simp only [hL]⟩
  obtain rfl : k = t.has.length := by omega
  have hli : decide ((t.has.length : Int) < (t.has.length : Int)) = false := decide_eq_false (by omega)
  rw [List.take_length] at hM
  rcases (show uk = 1 ∨ uk = 2 ∨ uk = 3 ∨ uk = 5 ∨ ((uk = 1) = False ∧ (uk = 2) = False ∧ (uk = 3) = False ∧ (uk = 5) = False) by simp only [eq_iff_iff, iff_false]; omega) with rfl | rfl | rfl | rfl | ⟨e1, e2, e3, e5⟩
  · rw [keepU_n _ _ (by simp)] at hM
    subst hM
    have hq1 : (∀ e, e = AV.int .i64 ul → e.cells.length = 1) = True := eq_true (fun e he => by rw [he]; rfl)
    have hq2 : ((t.has.length + 1) * 8 ≤ 140737488355328) = True := eq_true (by omega)
    repeat' first | ((first | refine aw_region_mix (id := 8) [.pure 0, .pure 0, .pure 0, .pure 0, .free, .pure 0, .pure 0, .free, .eff [true, true, true, true, false, true], .pure 0, .eff [false, false, false, false, false, false]] mixedF rfl (by kernel_rfl) (by kernel_rfl) ?_ | refine callP_false (.bool false) ?_ | refine aw_region rfl ?_ | refine aw_region_draw mixedF rfl (by kernel_rfl) ?_ | refine aE rfl ?_); simp only [go_sem, hli, Int.reduceEq, hq1, hq2, Nat.mul_one]) | refine callG_y ?_ | refine callG_p ?_ | refine aw_seq ?_ | refine aw_block ?_ | refine aw_scope ?_ | (refine aw_cond rfl (fun h => ?_) (fun h => ?_) <;> try (exfalso; first | (simp at h; done) | (simp at h; omega))) | ((with_reducible refine And.intro ?_ ?_); focus (first | omega | (intros; simp_all; done) | (simp; omega)))
    · exact th_doneF f2 f3 { t with at_ := IntKind.i64.wrap (t.at_ + 1), has := t.has ++ [ul] } (cs := t.has.map inA ++ [.int .i64 ul]) (by omega) (by simp only [go_sem]) (rest := []) (by simp [inA]) (by simp) (by rw [hX]; simp only [Bool.and_eq_true, decide_eq_true_eq] at h; simp [afterT, h.1, show t.has.length = 1 by omega])
    · exact th_doneF f2 f3 { t with has := t.has ++ [ul] } (cs := t.has.map inA ++ [.int .i64 ul]) (by omega) (by simp only [go_sem]) (rest := []) (by simp [inA]) (by simp) (by rw [hX]; simp only [afterT, ↓reduceIte]; rw [if_neg (by rintro ⟨a, b⟩; simp [b, a] at h)])
  · rw [keepU_2 _ _ rfl] at hM
    repeat' first | ((first | refine aw_region_mix (id := 8) [.pure 0, .pure 0, .pure 0, .pure 0, .free, .pure 0, .pure 0, .free, .eff [true, true, true, true, false, true], .pure 0, .eff [false, false, false, false, false, false]] mixedF rfl (by kernel_rfl) (by kernel_rfl) ?_ | refine callP_false (.bool false) ?_ | refine aw_region rfl ?_ | refine aw_region_draw mixedF rfl (by kernel_rfl) ?_ | refine aE rfl ?_); simp only [go_sem, hli, Int.reduceEq]) | refine callG_y ?_ | refine callG_p ?_ | refine aw_seq ?_ | refine aw_block ?_ | refine aw_scope ?_ | (refine aw_cond rfl (fun h => ?_) (fun h => ?_) <;> try (exfalso; first | (simp at h; done) | (simp at h; omega))) | ((with_reducible refine And.intro ?_ ?_); focus (first | omega | (intros; simp_all; done) | (simp; omega)))
    · exact th_doneF f2 f3 { t with has := M, at_ := 0 } (by omega) (by simp only [go_sem]) (List.append_nil _).symm rfl (by rw [hX]; simp_all [afterT])
    · exact th_doneF f2 f3 { t with has := M } (by omega) (by simp only [go_sem]) (List.append_nil _).symm rfl (by rw [hX]; simp only [afterT, hM, Int.reduceEq, ↓reduceIte]; rw [if_neg (by rintro ⟨a, b, c⟩; simp_all)])
  · rw [keepU_n _ _ (by simp)] at hM
    subst hM
    repeat' first | ((first | refine aw_region_mix (id := 8) [.pure 0, .pure 0, .pure 0, .pure 0, .free, .pure 0, .pure 0, .free, .eff [true, true, true, true, false, true], .pure 0, .eff [false, false, false, false, false, false]] mixedF rfl (by kernel_rfl) (by kernel_rfl) ?_ | refine callP_false (.bool false) ?_ | refine aw_region rfl ?_ | refine aw_region_draw mixedF rfl (by kernel_rfl) ?_ | refine aE rfl ?_); simp only [go_sem, hli, Int.reduceEq]) | refine callG_y ?_ | refine callG_p ?_ | refine aw_seq ?_ | refine aw_block ?_ | refine aw_scope ?_ | (refine aw_cond rfl (fun h => ?_) (fun h => ?_) <;> try (exfalso; first | (simp at h; done) | (simp at h; omega))) | ((with_reducible refine And.intro ?_ ?_); focus (first | omega | (intros; simp_all; done) | (simp; omega)))
    exact th_doneF f2 f3 { t with done := true } (by omega) (by simp only [go_sem]) (List.append_nil _).symm rfl (by rw [hX]; rfl)
  · rw [keepU_n _ _ (by simp)] at hM
    subst hM
    repeat' first | ((first | refine aw_region_mix (id := 8) [.pure 0, .pure 0, .pure 0, .pure 0, .free, .pure 0, .pure 0, .free, .eff [true, true, true, true, false, true], .pure 0, .eff [false, false, false, false, false, false]] mixedF rfl (by kernel_rfl) (by kernel_rfl) ?_ | refine callP_false (.bool false) ?_ | refine aw_region rfl ?_ | refine aw_region_draw mixedF rfl (by kernel_rfl) ?_ | refine aE rfl ?_); simp only [go_sem, hli, Int.reduceEq]) | refine callG_y ?_ | refine callG_p ?_ | refine aw_seq ?_ | refine aw_block ?_ | refine aw_scope ?_ | (refine aw_cond rfl (fun h => ?_) (fun h => ?_) <;> try (exfalso; first | (simp at h; done) | (simp at h; omega))) | ((with_reducible refine And.intro ?_ ?_); focus (first | omega | (intros; simp_all; done) | (simp; omega)))
    exact th_doneF f2 f3 { t with ended := true } (by omega) (by simp only [go_sem]) (List.append_nil _).symm rfl (by rw [hX]; rfl)
  · rw [keepU_n _ _ (by simp [e2])] at hM
    subst hM
    repeat' first | ((first | refine aw_region_mix (id := 8) [.pure 0, .pure 0, .pure 0, .pure 0, .free, .pure 0, .pure 0, .free, .eff [true, true, true, true, false, true], .pure 0, .eff [false, false, false, false, false, false]] mixedF rfl (by kernel_rfl) (by kernel_rfl) ?_ | refine callP_false (.bool false) ?_ | refine aw_region rfl ?_ | refine aw_region_draw mixedF rfl (by kernel_rfl) ?_ | refine aE rfl ?_); simp only [go_sem, hli, Int.reduceEq, e1, e2, e3, e5]) | refine callG_y ?_ | refine callG_p ?_ | refine aw_seq ?_ | refine aw_block ?_ | refine aw_scope ?_ | (refine aw_cond rfl (fun h => ?_) (fun h => ?_) <;> try (exfalso; first | (simp at h; done) | (simp at h; omega))) | ((with_reducible refine And.intro ?_ ?_); focus (first | omega | (intros; simp_all; done) | (simp; omega)))
    exact th_doneF f2 f3 t (by omega) (by simp only [go_sem]) (List.append_nil _).symm rfl (by rw [hX]; simp [afterT, e1, e2, e3, e5])
end Go.Proofs.YtmknmapgfjmioaaGreatDoor
/- The second form of a row: how long the slices are that come in. No condition. -/
namespace Go.Aw
open Go Go.ChangeShapes Go.WideShapes Go.ChangeAt Go.RowKit Go.Proofs.YtmknmapgfjmioaaGreatDoor

theorem bulk_mem {H : Type} {d : DataW H} {l : List (DataW H)} (h : d ∈ l) : Rows.uptoBulk d ≤ Rows.uptoBulkAll l := by
  induction l with
  | nil => cases h
  | cons x r ih =>
    simp only [Rows.uptoBulkAll]
    cases h with
    | head => omega
    | tail _ h => have := ih h; omega
theorem bulk_le {H : Type} {d : DataW H} {l : List (DataW H)} (hk : Rows.uptoSmall H l = true) (h : d ∈ l) : Rows.uptoBulk d ≤ 1048576 := by
  have h1 : Rows.uptoBulkAll l ≤ 1048576 := by simpa [Rows.uptoSmall] using hk
  exact Nat.le_trans (bulk_mem h) h1

mutual
theorem dBulk_eq {H : Type} : ∀ d : DataW H, dBulk d = Rows.uptoBulk d
  | .lit (.string bytes) => by simp [dBulk, Rows.uptoBulk]
  | .lit (.int _ _) => by simp [dBulk, Rows.uptoBulk]
  | .lit (.bool _) => by simp [dBulk, Rows.uptoBulk]
  | .lit l => by cases l <;> simp [dBulk, Rows.uptoBulk]
  | .nil => by simp [dBulk, Rows.uptoBulk]
  | .ptr d => by simp [dBulk, Rows.uptoBulk, dBulk_eq d]
  | .slice elems spare => by simp [dBulk, Rows.uptoBulk, dBulkAll_eq elems, dBulkAll_eq spare]
  | .agg parts => by simp [dBulk, Rows.uptoBulk, dBulkAll_eq parts]
  | .iface _ d => by simp [dBulk, Rows.uptoBulk, dBulk_eq d]
  | .map entries => by simp [dBulk, Rows.uptoBulk, dBulkEntries_eq entries]
  | .held _ => by simp [dBulk, Rows.uptoBulk]
theorem dBulkAll_eq {H : Type} : ∀ l : List (DataW H), dBulkAll l = Rows.uptoBulkAll l
  | [] => by simp [dBulkAll, Rows.uptoBulkAll]
  | d :: r => by simp [dBulkAll, Rows.uptoBulkAll, dBulk_eq d, dBulkAll_eq r]
theorem dBulkEntries_eq {H : Type} : ∀ l : List (Lit × DataW H), dBulkEntries l = Rows.uptoBulkEntries l
  | [] => by simp [dBulkEntries, Rows.uptoBulkEntries]
  | x :: r => by simp [dBulkEntries, Rows.uptoBulkEntries, dBulkEntry_eq x, dBulkEntries_eq r]
theorem dBulkEntry_eq {H : Type} : ∀ x : Lit × DataW H, dBulkEntry x = Rows.uptoBulkEntry x
  | (.string bytes, d) => by simp [dBulkEntry, Rows.uptoBulkEntry, dBulk_eq d]
  | (l, d) => by cases l <;> simp [dBulkEntry, Rows.uptoBulkEntry, dBulk_eq d]
end
/-- What comes in is no longer, nor is any text or slice in it, than the bound. -/
theorem leA_upto {H : Type} {d : DataW H} {l : List (DataW H)} {x : AV} (hk : Rows.uptoSmall H l = true) (h : d ∈ l) (hx : LeA (dBulk d) x) : LeA 1048576 x :=
  hx.mono (by rw [dBulk_eq]; exact bulk_le hk h)
theorem LeA.str_le {n : Nat} {s : List UInt8} (h : LeA n (.str s)) : s.length ≤ n := by cases h; assumption
theorem LeA.sl_le {n : Nat} {f : Bool} {es : List AV} (h : LeA n (.sl f es)) : es.length ≤ n ∧ ∀ x ∈ es, LeA n x := by cases h; exact ⟨by assumption, by assumption⟩
theorem LeA.agg_le {n : Nat} {cs : List AV} (h : LeA n (.agg cs)) : ∀ x ∈ cs, LeA n x := by cases h; assumption

variable {P : Program} {H : Type} {enc : TypeId × Value → H} {W : World} {base : Nat} {sp : Nat → Bool} {held : Bool}
section
variable {H : Type} {enc : TypeId × Value → H}
/-- There is an input that fits, at a world that is written out, of the right shape. -/
theorem witness_row_sh {C : Checked} {os : Os} {f : FuncId} {fn : Func} {s : OpenSpec} {conds : List PathCond} {apart : Bool} {laid : List (String × DataW Unit)} (modest : Bool) (w0 : World) (args : Array Value) (hos : w0.os = os)
    (hsh : (w0.forCall (fun _ _ => 0) ⟨#[], args, []⟩).Shaped C.prog)
    (hok : Input.okWideB C.prog (w0.forCall (fun _ _ => 0) ⟨#[], args, []⟩) f ⟨#[], args, []⟩ = true)
    (hrow : s.preRow enc C.prog fn conds apart laid (w0.forCall (fun _ _ => 0) ⟨#[], args, []⟩).memory args) :
    ∃ (w : World) (tape : Tape) (i : Input), w.os = os ∧ (w.forCall tape i).Shaped C.prog ∧ i.vars = [] ∧ Input.okWide C.prog (w.forCall tape i) .any w.heap.size f i ∧
      s.preRow enc C.prog fn conds apart laid (w.forCall tape i).memory i.args ∧ ({ modest := modest } : Assume).holds C.prog (lone (Frame.enter C.prog f i.args .normal) [] (w.forCall tape i)) :=
  ⟨w0, fun _ _ => 0, ⟨#[], args, []⟩, hos, hsh, (Input.okWide_of_okWideB (base := 0) hok).1, (Input.okWide_of_okWideB hok).2, hrow, by
    simp only [Assume.holds]
    exact ⟨by simp, by simp, fun _ => Modest.zero, by simp, by simp⟩⟩
end
end Go.Aw
/- PlanTells, walked. No condition but the length of what comes in. -/
namespace Go.Proofs.YtmknmapgfjmioaaGreatDoor
open Go Go.Aw Go.Gw
set_option linter.unusedSimpArgs false
set_option linter.unusedVariables false
set_option maxRecDepth 20000
set_option maxHeartbeats 8000000

theorem thS_of {t : Thr} (q : LeA 1048576 (thA false false false t)) : ThS t := by
  unfold thA thF at q
  have h1 := (q.agg_le (.str t.call.path) (by simp)).str_le
  have h2 := (q.agg_le (.sl false (t.has.map inA)) (by simp)).sl_le.1
  have h3 := (q.agg_le (.sl false (t.ans.names.map AV.str)) (by simp)).sl_le.1
  have h4 := (q.agg_le (.sl false (t.ans.events.map evA)) (by simp)).sl_le.1
  rw [List.length_map] at h2 h3 h4
  exact ⟨h1, h2, h3, h4⟩

theorem ptells_c (b : Bool) (l : List Nd) (t : Thr) (u : Trn) (hS : ThS t) (H : AHeap) : FnC Tryz.prog 3 [.sl b (l.map ndA), thA false false false t, trA u] H (.bool true) := by
  refine fnC_of Tryz.func3 rfl (Nat.le_of_ble_eq_true rfl) ?_
  have hfew := few6_c b l 100
  have hcal := rfew20_c false false false t
  unfold thA thF at hcal ⊢
  unfold trA
  cases hA : fewNd l 100 with
  | false =>
    rw [hA] at hfew
    have ct0 := ct awake20_c callOk5F; have ct1 := ct hfew callOk6F; repeat' first | ((first | refine cK (by assumption) ?_ | refine cP (by assumption) ?_ | refine cM (by assumption) ?_ | refine callP_false (.bool false) ?_ | refine aw_region rfl ?_ | refine aw_region_draw mixedF rfl (by kernel_rfl) ?_ | refine aE rfl ?_); simp only [go_sem]) | refine callG_y ?_ | refine callG_p ?_ | refine aw_seq ?_ | refine aw_block ?_ | refine aw_scope ?_ | (refine aw_cond rfl (fun h => ?_) (fun h => ?_) <;> try (exfalso; first | (simp at h; done) | (simp at h; omega))) | ((with_reducible refine And.intro ?_ ?_); focus (first | omega | (intros; simp_all; done) | (simp; omega)))
    exact done (by simp only [go_sem]) (.refl _)
  | true =>
  rw [hA] at hfew
  cases hB : (fewCal [t.call] 1 && decide ((t.has.length : Int) ≤ 100)) with
  | false =>
    rw [hB] at hcal
    have ct0 := ct awake20_c callOk5F; have ct1 := ct hfew callOk6F; have ct2 := ct hcal callOk7F; repeat' first | ((first | refine cK (by assumption) ?_ | refine cP (by assumption) ?_ | refine cM (by assumption) ?_ | refine callP_false (.bool false) ?_ | refine aw_region rfl ?_ | refine aw_region_draw mixedF rfl (by kernel_rfl) ?_ | refine aE rfl ?_); simp only [go_sem]) | refine callG_y ?_ | refine callG_p ?_ | refine aw_seq ?_ | refine aw_block ?_ | refine aw_scope ?_ | (refine aw_cond rfl (fun h => ?_) (fun h => ?_) <;> try (exfalso; first | (simp at h; done) | (simp at h; omega))) | ((with_reducible refine And.intro ?_ ?_); focus (first | omega | (intros; simp_all; done) | (simp; omega)))
    exact done (by simp only [go_sem]) (.refl _)
  | true =>
  rw [hB] at hcal
  rw [Bool.and_eq_true, decide_eq_true_eq] at hB
  obtain ⟨hc1, hc2, hc3⟩ := fewCal_o hB.1
  have hh := hB.2
  have hl : l.length ≤ 100 := by
    unfold fewNd at hA
    rw [Bool.and_eq_true, decide_eq_true_eq] at hA
    have := hA.2; omega
  have hn1 := pnames_c t.call (by omega)
  have hn2 := rnames20_c t.call (by omega)
  have hk1 := plocks_c b l t.call (by omega) (by omega) (by omega)
  have hk2 := rlocks20_c b l t.call (by omega) (by omega) (by omega)
  have hx1 := next_c b false false false l t (by omega) (by omega) (by omega)
  have hx2 := rnext_c b false false false l t (by omega) (by omega) (by omega) (by omega)
  have ha1 := after_c false false false t u hS
  have ha2 := rafter_c false false false t u hS.2.1
  have hg1 := again_c false false false t hS
  have hg2 := ragain20_c false false false t
  have hg3 := same20_c false false false true false false (againT t) (againT t)
  have hs := same20_c false false false false false false (afterT t u) (afterT t u)
  rw [decide_eq_true rfl] at hs hg3
  generalize againT t = tg at *
  generalize afterT t u = ta at *
  obtain ⟨⟨nk, nl⟩, hnx⟩ : ∃ x, nextT l t = x := ⟨_, rfl⟩
  rw [hnx] at hx1 hx2
  unfold thA thF trA at *
  simp only [caA] at hn1 hn2 hk1 hk2
  cases hw : walksK t.call with
  | true =>
    have ht := turn_excl hw
    simp only [hw, ht, and_self, Bool.false_eq_true, ↓reduceIte] at hn1 hn2 hk1 hk2
    have hsn := same1_c false false (wnames t.call) (wnames t.call)
    have hsk := nums6_c true true [] []
    rw [decide_eq_true rfl] at hsn hsk
    simp only [List.map_nil] at hsk
    have ct0 := ct awake20_c callOk5F; have ct1 := ct hfew callOk6F; have ct2 := ct hcal callOk7F; have ct3 := ct hn1 callOk8F; have ct4 := ct hn2 callOk9F; have ct5 := ct hk1 callOk10F; have ct6 := ct hk2 callOk11F; have ct7 := ct hsn callOk12F; have ct8 := ct hsk callOk13F; have ct9 := ct hx1 callOk14F; have ct10 := ct hx2 callOk15F; have ct11 := ct ha1 callOk17F; have ct12 := ct ha2 callOk18F; have ct13 := ct hs callOk16F; have ct14 := ct hg1 callOk19F; have ct15 := ct hg2 callOk20F; have ct16 := ct hg3 callOk16F; repeat' first | ((first | refine cK (by assumption) ?_ | refine cP (by assumption) ?_ | refine cM (by assumption) ?_ | refine callP_false (.bool false) ?_ | refine aw_region rfl ?_ | refine aw_region_draw mixedF rfl (by kernel_rfl) ?_ | refine aE rfl ?_); simp only [go_sem, decide_true]) | refine callG_y ?_ | refine callG_p ?_ | refine aw_seq ?_ | refine aw_block ?_ | refine aw_scope ?_ | (refine aw_cond rfl (fun h => ?_) (fun h => ?_) <;> try (exfalso; first | (simp at h; done) | (simp at h; omega))) | ((with_reducible refine And.intro ?_ ?_); focus (first | omega | (intros; simp_all; done) | (simp; omega)))
    exact done (by simp only [go_sem]) (.refl _)
  | false =>
    have hsn := same1_c true true [] []
    rw [decide_eq_true rfl] at hsn
    simp only [List.map_nil] at hsn
    cases ht : turnsK t.call with
    | true =>
      simp only [hw, ht, Bool.true_eq_false, Bool.false_eq_true, and_self, ↓reduceIte] at hn1 hn2 hk1 hk2
      have hsk := nums6_c false false (locksT l t.call) (locksT l t.call)
      rw [decide_eq_true rfl] at hsk
      have ct0 := ct awake20_c callOk5F; have ct1 := ct hfew callOk6F; have ct2 := ct hcal callOk7F; have ct3 := ct hn1 callOk8F; have ct4 := ct hn2 callOk9F; have ct5 := ct hk1 callOk10F; have ct6 := ct hk2 callOk11F; have ct7 := ct hsn callOk12F; have ct8 := ct hsk callOk13F; have ct9 := ct hx1 callOk14F; have ct10 := ct hx2 callOk15F; have ct11 := ct ha1 callOk17F; have ct12 := ct ha2 callOk18F; have ct13 := ct hs callOk16F; have ct14 := ct hg1 callOk19F; have ct15 := ct hg2 callOk20F; have ct16 := ct hg3 callOk16F; repeat' first | ((first | refine cK (by assumption) ?_ | refine cP (by assumption) ?_ | refine cM (by assumption) ?_ | refine callP_false (.bool false) ?_ | refine aw_region rfl ?_ | refine aw_region_draw mixedF rfl (by kernel_rfl) ?_ | refine aE rfl ?_); simp only [go_sem, decide_true]) | refine callG_y ?_ | refine callG_p ?_ | refine aw_seq ?_ | refine aw_block ?_ | refine aw_scope ?_ | (refine aw_cond rfl (fun h => ?_) (fun h => ?_) <;> try (exfalso; first | (simp at h; done) | (simp at h; omega))) | ((with_reducible refine And.intro ?_ ?_); focus (first | omega | (intros; simp_all; done) | (simp; omega)))
      exact done (by simp only [go_sem]) (.refl _)
    | false =>
      simp only [hw, ht, Bool.true_eq_false, Bool.false_eq_true, and_false, ↓reduceIte] at hn1 hn2 hk1 hk2
      have hsk := nums6_c true true [] []
      rw [decide_eq_true rfl] at hsk
      simp only [List.map_nil] at hsk
      have ct0 := ct awake20_c callOk5F; have ct1 := ct hfew callOk6F; have ct2 := ct hcal callOk7F; have ct3 := ct hn1 callOk8F; have ct4 := ct hn2 callOk9F; have ct5 := ct hk1 callOk10F; have ct6 := ct hk2 callOk11F; have ct7 := ct hsn callOk12F; have ct8 := ct hsk callOk13F; have ct9 := ct hx1 callOk14F; have ct10 := ct hx2 callOk15F; have ct11 := ct ha1 callOk17F; have ct12 := ct ha2 callOk18F; have ct13 := ct hs callOk16F; have ct14 := ct hg1 callOk19F; have ct15 := ct hg2 callOk20F; have ct16 := ct hg3 callOk16F; repeat' first | ((first | refine cK (by assumption) ?_ | refine cP (by assumption) ?_ | refine cM (by assumption) ?_ | refine callP_false (.bool false) ?_ | refine aw_region rfl ?_ | refine aw_region_draw mixedF rfl (by kernel_rfl) ?_ | refine aE rfl ?_); simp only [go_sem, decide_true]) | refine callG_y ?_ | refine callG_p ?_ | refine aw_seq ?_ | refine aw_block ?_ | refine aw_scope ?_ | (refine aw_cond rfl (fun h => ?_) (fun h => ?_) <;> try (exfalso; first | (simp at h; done) | (simp at h; omega))) | ((with_reducible refine And.intro ?_ ?_); focus (first | omega | (intros; simp_all; done) | (simp; omega)))
      exact done (by simp only [go_sem]) (.refl _)
end Go.Proofs.YtmknmapgfjmioaaGreatDoor
