/- The texts 4 of 7 beneath the rows of this seat (joined by program): the abstract machine, and what the functions answer. No condition. -/
import Derived.Test.YtmknmapgfjmioaaGreatDoorWorkC
import Derived.Lib.Bytealg
import Derived.Laws.Externs
import Derived.Laws.Bits64
set_option linter.unusedSimpArgs false
set_option linter.unusedVariables false
set_option linter.unusedSectionVars false
/- What is seen in a directory, in plain Lean, and maps of names as blocks of the abstract heap. No condition. -/
namespace Go.Gw
open Go Go.Aw Go.Proofs.YtmknmapgfjmioaaGreatDoor

/-- A node that is in a directory. -/
def inD (dir : Int) (n : Nd) : Bool := decide (n.parent = dir) && okI n.moved.c n.moved.r
def lookN (s : Txt) : List (Txt × Nd) → Option Nd
  | [] => none
  | (k, n) :: m => if k = s then some n else lookN s m
def setN (s : Txt) (n : Nd) : List (Txt × Nd) → List (Txt × Nd)
  | [] => [(s, n)]
  | (k, x) :: m => if k = s then (s, n) :: m else (k, x) :: setN s n m
/-- One node more that is seen. -/
def putV (m : List (Txt × Nd)) (n : Nd) : List (Txt × Nd) := match lookN n.name m with
  | none => setN n.name n m
  | some o => if lessI n.moved.c n.moved.r o.moved.c o.moved.r = true then m else setN n.name n m
def seeN (dir : Int) (m : List (Txt × Nd)) (n : Nd) : List (Txt × Nd) := if inD dir n = true then putV m n else m
def seenN (l : List Nd) (dir : Int) : List (Txt × Nd) := l.foldl (seeN dir) []
/-- What is seen by a name. -/
def childN (l : List Nd) (dir : Int) (s : Txt) : Option Nd := if chk l = true then lookN s (seenN l dir) else none
/-- What is seen at a path: a number, or an error. -/
def pathN (l : List Nd) : Int → List Txt → Int × Int
  | at_, [] => (at_, 0)
  | at_, s :: names => if dirI at_ = true then (match childN l at_ s with | some n => pathN l n.id names | none => (0, 80)) else (0, 81)
def findN (l : List Nd) (names : List Txt) : Int × Int := pathN l 0 names

/-! ### As a block -/
def nmE : Nat → List (Txt × Nd) → List (AV × AV × Nat)
  | _, [] => []
  | b, p :: m => (.str p.1, ndA p.2, b) :: nmE (b + 1) m

theorem nmE_keys (b : Nat) (m : List (Txt × Nd)) : keysIn .string (nmE b m) := by
  induction m generalizing b with
  | nil => exact fun p hp => by simp [nmE] at hp
  | cons p m ih =>
    intro q hq
    rcases List.mem_cons.1 hq with rfl | hq
    · rfl
    · exact ih _ q hq
theorem nmE_at (b : Nat) (m : List (Txt × Nd)) (s : Txt) : (lookN s m = none ∧ keyAt (.str s) (nmE b m) = none) ∨ ∃ n j, lookN s m = some n ∧ keyAt (.str s) (nmE b m) = some (j, ndA n) := by
  induction m generalizing b with
  | nil => exact .inl ⟨rfl, rfl⟩
  | cons p m ih =>
    obtain ⟨k, n⟩ := p
    by_cases h : k = s
    · subst h; exact .inr ⟨n, 0, by simp [lookN], by simp [nmE, keyAt, keyEq]⟩
    · have h' : keyEq (.str s) (.str k) = false := by simp [keyEq]; exact fun e => h e.symm
      rcases ih (b + 1) with ⟨h1, h2⟩ | ⟨x, j, h1, h2⟩
      · exact .inl ⟨by simp [lookN, h, h1], by simp [nmE, keyAt, h', h2]⟩
      · exact .inr ⟨x, j + 1, by simp [lookN, h, h1], by simp [nmE, keyAt, h', h2]⟩
theorem putKey_cons {x y v w : AV} {b clock : Nat} {es : List (AV × AV × Nat)} (h : keyEq x y = false) : putKey x v ((y, w, b) :: es) clock = (y, w, b) :: putKey x v es clock := by
  simp only [putKey, keyAt, h, cond_false]
  cases keyAt x es with
  | none => rfl
  | some p => rfl
theorem putClock_cons {x y w : AV} {b clock : Nat} {es : List (AV × AV × Nat)} (h : keyEq x y = false) : putClock x ((y, w, b) :: es) clock = putClock x es clock := by
  simp only [putClock, keyAt, h, cond_false]
  cases keyAt x es <;> rfl
theorem nmE_put (b : Nat) (m : List (Txt × Nd)) (s : Txt) (n : Nd) : putKey (.str s) (ndA n) (nmE b m) (b + m.length) = nmE b (setN s n m) ∧ putClock (.str s) (nmE b m) (b + m.length) = b + (setN s n m).length := by
  induction m generalizing b with
  | nil => exact ⟨rfl, rfl⟩
  | cons p m ih =>
    obtain ⟨k, x⟩ := p
    by_cases h : k = s
    · subst h; exact ⟨by simp [nmE, putKey, keyAt, keyEq, setN], by simp [nmE, putClock, keyAt, keyEq, setN]⟩
    · have h' : keyEq (.str s) (.str k) = false := by simp [keyEq]; exact fun e => h e.symm
      obtain ⟨h1, h2⟩ := ih (b + 1)
      have e : b + ((k, x) :: m).length = b + 1 + m.length := by simp; omega
      rw [e]
      simp only [nmE, setN, if_neg h]
      rw [putKey_cons h', putClock_cons h', h1, h2]
      exact ⟨rfl, by simp; omega⟩
theorem nmE_put0 (m : List (Txt × Nd)) (s : Txt) (n : Nd) : ABlk.map (putKey (.str s) (ndA n) (nmE 0 m) m.length) (putClock (.str s) (nmE 0 m) m.length) = .map (nmE 0 (setN s n m)) (setN s n m).length := by
  have := nmE_put 0 m s n
  rw [Nat.zero_add, Nat.zero_add] at this
  rw [this.1, this.2]
theorem nd_cl (k : Nat) (n : Nd) : Cl k (ndA n) := (Pur.agg _ fun x hx => by
  simp only [List.mem_cons, List.not_mem_nil, or_false] at hx
  rcases hx with rfl | rfl | rfl | rfl | rfl | rfl | rfl | rfl <;> first | exact .int _ _ | exact .str _).cl k
theorem nmE_cl (k b : Nat) (m : List (Txt × Nd)) : ∀ p ∈ nmE b m, Cl k p.1 ∧ Cl k p.2.1 := by
  induction m generalizing b with
  | nil => exact fun p hp => by simp [nmE] at hp
  | cons q m ih =>
    intro p hp
    rcases List.mem_cons.1 hp with rfl | hp
    · exact ⟨.str _, nd_cl k _⟩
    · exact ih _ p hp
end Go.Gw
/- The abstract machine: calls of functions without a body: the bytes of a string counted, and sought. No condition. -/
namespace Go.Aw
open Go
variable {P : Program}

/-- A function without a body answers x, and leaves all as it is. -/
def FnX (P : Program) (f : FuncId) (args : List AV) (H : AHeap) (x : AV) : Prop := AExtern P f args H (fun v H' => v = x ∧ H' = H)

theorem callK_ext {f : FuncId} {args : List AV} {H : AHeap} {x : AV} {k : AV → AHeap → Prop} (h : FnX P f args H x) (hk : k x H) : callK P (.func (.func f) [] []) args H k :=
  Or.inr (by
    simp only [List.nil_append, List.append_nil]
    exact h.mono fun y H' ⟨e1, e2⟩ => by subst e1; subst e2; exact hk)
theorem callP_ext {g : Bool} {f : FuncId} {args : List AV} {H : AHeap} {x : AV} {K : AV → Prop} (h : FnX P f args H x) (hk : K x) : callP P g (.func (.func f) [] []) args H K :=
  ⟨x, fun _ => Or.inr (by
    simp only [List.nil_append, List.append_nil]
    exact h), hk⟩

theorem repAll2 {c : Ctx} {x y : AV} {vs : Array Value} (h : RepAll c [x, y] vs) : ∃ u v, vs = #[u, v] ∧ Rep c x u ∧ Rep c y v := by
  obtain ⟨hl, hr⟩ := h
  obtain ⟨l⟩ := vs
  match l, hl, hr with
  | [u, v], _, hr => exact ⟨u, v, rfl, hr 0 _ _ rfl rfl, hr 1 _ _ rfl rfl⟩

theorem indexByte_lt (l : List UInt8) (c : UInt8) : Lib.indexByte l c < (l.length : Int) ∨ l = [] := by
  induction l with
  | nil => exact .inr rfl
  | cons b l ih =>
    refine .inl ?_
    rw [Lib.indexByte, List.length_cons]
    split
    · omega
    · split
      · omega
      · rcases ih with h | h
        · omega
        · subst h; rename_i h1; exact absurd rfl h1

theorem countX {f : FuncId} {fn : Func} (hf : P.funcs[f]? = some fn) (h1 : (fn.name == "runtime.NumGoroutine") = false) (h2 : fn.body.isNone = true) (h3 : Extern.findNext fn = none) (h4 : Extern.find fn = some Extern.BytealgCount.count)
    (s : List UInt8) (b : Int) (H : AHeap) : FnX P f [.str s, .int .u8 b] H (.int .i64 (Lib.countByte s b.toNat.toUInt8)) := by
  intro c vs hst ha
  obtain ⟨u, v, rfl, hu, hv⟩ := repAll2 ha
  cases hu with
  | str _ hs =>
    cases hv with
    | int _ _ hb =>
      refine ⟨_, _, ?_, .int .i64 (Lib.countByte s b.toNat.toUInt8 : Nat) ?_, rfl, rfl⟩
      · rw [run_callFunc_extern hf h1 h2 h3 h4, Lib.run_countString]
        rfl
      · have : Lib.countByte s b.toNat.toUInt8 ≤ s.length := List.count_le_length
        exact ⟨by show (-9223372036854775808 : Int) ≤ _; omega, by show _ ≤ (9223372036854775807 : Int); omega⟩

theorem indexX {f : FuncId} {fn : Func} (hf : P.funcs[f]? = some fn) (h1 : (fn.name == "runtime.NumGoroutine") = false) (h2 : fn.body.isNone = true) (h3 : Extern.findNext fn = none) (h4 : Extern.find fn = some Extern.BytealgIndexByte.indexByte)
    (s : List UInt8) (b : Int) (H : AHeap) : FnX P f [.str s, .int .u8 b] H (.int .i64 (Lib.indexByte s b.toNat.toUInt8)) := by
  intro c vs hst ha
  obtain ⟨u, v, rfl, hu, hv⟩ := repAll2 ha
  cases hu with
  | str _ hs =>
    cases hv with
    | int _ _ hb =>
      refine ⟨_, _, ?_, .int .i64 (Lib.indexByte s b.toNat.toUInt8) ?_, rfl, rfl⟩
      · rw [run_callFunc_extern hf h1 h2 h3 h4, Lib.run_indexByteString]
        rfl
      · have h5 := Lib.indexByte_ge s b.toNat.toUInt8
        have h6 := indexByte_lt s b.toNat.toUInt8
        refine ⟨by show (-9223372036854775808 : Int) ≤ _; omega, by show _ ≤ (9223372036854775807 : Int); rcases h6 with h | h; omega; subst h; show (-1 : Int) ≤ _; omega⟩
end Go.Aw
/- What the library's functions of strings answer, at a separator of one byte. No condition. -/
namespace Go.Proofs.YtmknmapgfjmioaaGreatDoor
open Go Go.Aw Go.Gw
set_option linter.unusedSimpArgs false
set_option maxRecDepth 20000
set_option maxHeartbeats 2000000

theorem u8_back (b : UInt8) : b.toNat.toUInt8 = b := by simp
theorem countS_x (s : List UInt8) (b : Int) (H : AHeap) : FnX Tryz.prog 120 [.str s, .int .u8 b] H (.int .i64 (Lib.countByte s b.toNat.toUInt8)) :=
  countX Tryz.func120 (by kernel_rfl) (by kernel_rfl) (by kernel_rfl) (by kernel_rfl) s b H
theorem indexS_x (s : List UInt8) (b : Int) (H : AHeap) : FnX Tryz.prog 130 [.str s, .int .u8 b] H (.int .i64 (Lib.indexByte s b.toNat.toUInt8)) :=
  indexX Tryz.func130 (by kernel_rfl) (by kernel_rfl) (by kernel_rfl) (by kernel_rfl) s b H

theorem scount_c (s : List UInt8) (b : UInt8) (H : AHeap) : FnC Tryz.prog 109 [.str s, .str [b]] H (.int .i64 (Lib.countByte s b)) := by
  refine fnC_of Tryz.func109 rfl (Nat.le_of_ble_eq_true rfl) ?_
  repeat' first | ((first | refine callK_ext (countS_x _ _ _) ?_ | refine callP_ext (countS_x _ _ _) ?_ | refine callP_false (.bool false) ?_ | refine aw_region rfl ?_ | refine aw_region_draw mixedF rfl (by kernel_rfl) ?_ | refine aE rfl ?_); simp only [go_sem]) | refine callG_y ?_ | refine callG_p ?_ | refine aw_seq ?_ | refine aw_block ?_ | refine aw_scope ?_ | (refine aw_cond rfl (fun h => ?_) (fun h => ?_) <;> try (exfalso; first | (simp at h; done) | (simp at h; omega))) | ((with_reducible refine And.intro ?_ ?_); focus (first | omega | (intros; simp_all; done) | (simp; omega)))
  rw [u8_back]
  exact done0 (by simp only [go_sem]) (.refl _)
theorem sindexb_c (s : List UInt8) (b : UInt8) (H : AHeap) : FnC Tryz.prog 126 [.str s, .int .u8 b.toNat] H (.int .i64 (Lib.indexByte s b)) := by
  refine fnC_of Tryz.func126 rfl (Nat.le_of_ble_eq_true rfl) ?_
  repeat' first | ((first | refine callK_ext (indexS_x _ _ _) ?_ | refine callP_ext (indexS_x _ _ _) ?_ | refine callP_false (.bool false) ?_ | refine aw_region rfl ?_ | refine aw_region_draw mixedF rfl (by kernel_rfl) ?_ | refine aE rfl ?_); simp only [go_sem]) | refine callG_y ?_ | refine callG_p ?_ | refine aw_seq ?_ | refine aw_block ?_ | refine aw_scope ?_ | (refine aw_cond rfl (fun h => ?_) (fun h => ?_) <;> try (exfalso; first | (simp at h; done) | (simp at h; omega))) | ((with_reducible refine And.intro ?_ ?_); focus (first | omega | (intros; simp_all; done) | (simp; omega)))
  rw [u8_back]
  exact done0 (by simp only [go_sem]) (.refl _)
theorem sindex1_c (s : List UInt8) (b : UInt8) (H : AHeap) : FnC Tryz.prog 121 [.str s, .str [b]] H (.int .i64 (Lib.indexByte s b)) := by
  refine fnC_of Tryz.func121 rfl (Nat.le_of_ble_eq_true rfl) ?_
  repeat' first | ((first | refine cK (ct (sindexb_c _ _) callOk126F) ?_ | refine cP (ct (sindexb_c _ _) callOk126F) ?_ | refine cM (ct (sindexb_c _ _) callOk126F) ?_ | refine callP_false (.bool false) ?_ | refine aw_region rfl ?_ | refine aw_region_draw mixedF rfl (by kernel_rfl) ?_ | refine aE rfl ?_); simp only [go_sem]) | refine callG_y ?_ | refine callG_p ?_ | refine aw_seq ?_ | refine aw_block ?_ | refine aw_scope ?_ | (refine aw_cond rfl (fun h => ?_) (fun h => ?_) <;> try (exfalso; first | (simp at h; done) | (simp at h; omega))) | ((with_reducible refine And.intro ?_ ?_); focus (first | omega | (intros; simp_all; done) | (simp; omega)))
  · have e : [b] = s := by simpa using h
    subst e
    refine done0 (by simp only [go_sem]) (.of ?_)
    rw [Lib.indexByte, if_pos (by simp)]
  · exact done0 (by simp only [go_sem]) (.refl _)
theorem sindex_c (s : List UInt8) (b : UInt8) (H : AHeap) : FnC Tryz.prog 110 [.str s, .str [b]] H (.int .i64 (Lib.indexByte s b)) := by
  refine fnC_of Tryz.func110 rfl (Nat.le_of_ble_eq_true rfl) ?_
  repeat' first | ((first | refine cK (ct (sindex1_c _ _) callOk121F) ?_ | refine cP (ct (sindex1_c _ _) callOk121F) ?_ | refine cM (ct (sindex1_c _ _) callOk121F) ?_ | refine callP_false (.bool false) ?_ | refine aw_region rfl ?_ | refine aw_region_draw mixedF rfl (by kernel_rfl) ?_ | refine aE rfl ?_); simp only [go_sem]) | refine callG_y ?_ | refine callG_p ?_ | refine aw_seq ?_ | refine aw_block ?_ | refine aw_scope ?_ | (refine aw_cond rfl (fun h => ?_) (fun h => ?_) <;> try (exfalso; first | (simp at h; done) | (simp at h; omega))) | ((with_reducible refine And.intro ?_ ?_); focus (first | omega | (intros; simp_all; done) | (simp; omega)))
  exact done0 (by simp only [go_sem]) (.refl _)
/-- What stands behind a byte that a text begins with. -/
def cutV (s : List UInt8) (b : UInt8) : AV := match s with
  | [] => .tup [.str [], .bool false]
  | c :: l => if c = b then .tup [.str l, .bool true] else .tup [.str (c :: l), .bool false]
theorem hasPre_c (s : List UInt8) (b : UInt8) (H : AHeap) : FnC Tryz.prog 107 [.str s, .str [b]] H (.bool (decide (s.head? = some b))) := by
  refine fnC_of Tryz.func107 rfl (Nat.le_of_ble_eq_true rfl) ?_
  cases s with
  | nil =>
    repeat' first | ((first | refine callP_false (.bool false) ?_ | refine aw_region rfl ?_ | refine aw_region_draw mixedF rfl (by kernel_rfl) ?_ | refine aE rfl ?_); simp only [go_sem]) | refine callG_y ?_ | refine callG_p ?_ | refine aw_seq ?_ | refine aw_block ?_ | refine aw_scope ?_ | (refine aw_cond rfl (fun h => ?_) (fun h => ?_) <;> try (exfalso; first | (simp at h; done) | (simp at h; omega))) | ((with_reducible refine And.intro ?_ ?_); focus (first | omega | (intros; simp_all; done) | (simp; omega)))
    exact done0 (by simp only [go_sem]) (.refl _)
  | cons c l =>
    repeat' first | ((first | refine callP_false (.bool false) ?_ | refine aw_region rfl ?_ | refine aw_region_draw mixedF rfl (by kernel_rfl) ?_ | refine aE rfl ?_); simp only [go_sem]) | refine callG_y ?_ | refine callG_p ?_ | refine aw_seq ?_ | refine aw_block ?_ | refine aw_scope ?_ | (refine aw_cond rfl (fun h => ?_) (fun h => ?_) <;> try (exfalso; first | (simp at h; done) | (simp at h; omega))) | ((with_reducible refine And.intro ?_ ?_); focus (first | omega | (intros; simp_all; done) | (simp; omega)))
    have e1 : decide ((1 : Int) ≤ ((l.length + 1 : Nat) : Int)) = true := decide_eq_true (by omega)
    have e2 : decide ([c] = [b]) = decide ((c :: l).head? = some b) := by simp
    refine done0 (by simp only [go_sem]) (.of ?_)
    rw [← e2]
    exact congrArg AV.bool (by rw [show ((1 : Nat) : Int) = (1 : Int) from rfl, e1, Bool.true_and])
theorem cutPre_c (s : List UInt8) (b : UInt8) (H : AHeap) : FnC Tryz.prog 98 [.str s, .str [b]] H (cutV s b) := by
  refine fnC_of Tryz.func98 rfl (Nat.le_of_ble_eq_true rfl) ?_
  have hp := hasPre_c s b
  cases s with
  | nil =>
    have ct0 := ct hp callOk107F; repeat' first | ((first | refine cK (by assumption) ?_ | refine cP (by assumption) ?_ | refine cM (by assumption) ?_ | refine callP_false (.bool false) ?_ | refine aw_region rfl ?_ | refine aw_region_draw mixedF rfl (by kernel_rfl) ?_ | refine aE rfl ?_); simp only [go_sem]) | refine callG_y ?_ | refine callG_p ?_ | refine aw_seq ?_ | refine aw_block ?_ | refine aw_scope ?_ | (refine aw_cond rfl (fun h => ?_) (fun h => ?_) <;> try (exfalso; first | (simp at h; done) | (simp at h; omega))) | ((with_reducible refine And.intro ?_ ?_); focus (first | omega | (intros; simp_all; done) | (simp; omega)))
    exact done0 (by simp only [go_sem]) (.refl _)
  | cons c l =>
    by_cases h : c = b
    · rw [decide_eq_true (by rw [h]; rfl)] at hp
      rw [cutV, if_pos h]
      have ct0 := ct hp callOk107F; repeat' first | ((first | refine cK (by assumption) ?_ | refine cP (by assumption) ?_ | refine cM (by assumption) ?_ | refine callP_false (.bool false) ?_ | refine aw_region rfl ?_ | refine aw_region_draw mixedF rfl (by kernel_rfl) ?_ | refine aE rfl ?_); simp only [go_sem]) | refine callG_y ?_ | refine callG_p ?_ | refine aw_seq ?_ | refine aw_block ?_ | refine aw_scope ?_ | (refine aw_cond rfl (fun h => ?_) (fun h => ?_) <;> try (exfalso; first | (simp at h; done) | (simp at h; omega))) | ((with_reducible refine And.intro ?_ ?_); focus (first | omega | (intros; simp_all; done) | (simp; omega)))
      exact done0 (by simp only [go_sem]) (.refl _)
    · rw [decide_eq_false (by simp [h])] at hp
      rw [cutV, if_neg h]
      have ct0 := ct hp callOk107F; repeat' first | ((first | refine cK (by assumption) ?_ | refine cP (by assumption) ?_ | refine cM (by assumption) ?_ | refine callP_false (.bool false) ?_ | refine aw_region rfl ?_ | refine aw_region_draw mixedF rfl (by kernel_rfl) ?_ | refine aE rfl ?_); simp only [go_sem]) | refine callG_y ?_ | refine callG_p ?_ | refine aw_seq ?_ | refine aw_block ?_ | refine aw_scope ?_ | (refine aw_cond rfl (fun h => ?_) (fun h => ?_) <;> try (exfalso; first | (simp at h; done) | (simp at h; omega))) | ((with_reducible refine And.intro ?_ ?_); focus (first | omega | (intros; simp_all; done) | (simp; omega)))
      exact done0 (by simp only [go_sem]) (.refl _)
theorem scut_c (s : List UInt8) (b : UInt8) (H : AHeap) : FnC Tryz.prog 81 [.str s, .str [b]] H (cutV s b) := by
  refine fnC_of Tryz.func81 rfl (Nat.le_of_ble_eq_true rfl) ?_
  have hp := cutPre_c s b
  cases s with
  | nil =>
    simp only [cutV] at hp ⊢
    have ct0 := ct hp callOk98F; repeat' first | ((first | refine cK (by assumption) ?_ | refine cP (by assumption) ?_ | refine cM (by assumption) ?_ | refine callP_false (.bool false) ?_ | refine aw_region rfl ?_ | refine aw_region_draw mixedF rfl (by kernel_rfl) ?_ | refine aE rfl ?_); simp only [go_sem]) | refine callG_y ?_ | refine callG_p ?_ | refine aw_seq ?_ | refine aw_block ?_ | refine aw_scope ?_ | (refine aw_cond rfl (fun h => ?_) (fun h => ?_) <;> try (exfalso; first | (simp at h; done) | (simp at h; omega))) | ((with_reducible refine And.intro ?_ ?_); focus (first | omega | (intros; simp_all; done) | (simp; omega)))
    exact done0 (by simp only [go_sem]) (.refl _)
  | cons c l =>
    by_cases h : c = b
    · simp only [cutV, if_pos h] at hp ⊢
      have ct0 := ct hp callOk98F; repeat' first | ((first | refine cK (by assumption) ?_ | refine cP (by assumption) ?_ | refine cM (by assumption) ?_ | refine callP_false (.bool false) ?_ | refine aw_region rfl ?_ | refine aw_region_draw mixedF rfl (by kernel_rfl) ?_ | refine aE rfl ?_); simp only [go_sem]) | refine callG_y ?_ | refine callG_p ?_ | refine aw_seq ?_ | refine aw_block ?_ | refine aw_scope ?_ | (refine aw_cond rfl (fun h => ?_) (fun h => ?_) <;> try (exfalso; first | (simp at h; done) | (simp at h; omega))) | ((with_reducible refine And.intro ?_ ?_); focus (first | omega | (intros; simp_all; done) | (simp; omega)))
      exact done0 (by simp only [go_sem]) (.refl _)
    · simp only [cutV, if_neg h] at hp ⊢
      have ct0 := ct hp callOk98F; repeat' first | ((first | refine cK (by assumption) ?_ | refine cP (by assumption) ?_ | refine cM (by assumption) ?_ | refine callP_false (.bool false) ?_ | refine aw_region rfl ?_ | refine aw_region_draw mixedF rfl (by kernel_rfl) ?_ | refine aE rfl ?_); simp only [go_sem]) | refine callG_y ?_ | refine callG_p ?_ | refine aw_seq ?_ | refine aw_block ?_ | refine aw_scope ?_ | (refine aw_cond rfl (fun h => ?_) (fun h => ?_) <;> try (exfalso; first | (simp at h; done) | (simp at h; omega))) | ((with_reducible refine And.intro ?_ ?_); focus (first | omega | (intros; simp_all; done) | (simp; omega)))
      exact done0 (by simp only [go_sem]) (.refl _)
end Go.Proofs.YtmknmapgfjmioaaGreatDoor
/- Logs, in plain Lean: an operation is added. No condition. -/
namespace Go.Aw
open Go
@[go_sem] theorem aappendZ_some {P : Program} (ts tx : TypeId) (f g : Bool) (es r : List AV) (e : AV) (H : AHeap) : aappendZ P ts tx (.sl f es) (.sl g (e :: r)) H = aappend P ts tx (.sl f es) (.sl g (e :: r)) H := by
  cases es with
  | nil => rfl
  | cons a es => simp [aappendZ, srcLen]
end Go.Aw
namespace Go.Gw
open Go Go.Aw Go.Proofs.YtmknmapgfjmioaaGreatDoor

def lessS (a b : Stm) : Bool := lessI a.c a.r b.c b.r
def hasAt (l : List Ent) (a : Stm) : Bool := l.any fun e => decide (e.op.at_ = a)

/-- How many of the last entries stand behind a time, and the nodes without them. The entries: the last one first. -/
def undoR (a : Stm) : List Ent → List Nd → Nat × List Nd
  | [], n => (0, n)
  | e :: r, n => if lessS a e.op.at_ = true then ((undoR a r (backL n e.op e.undo)).1 + 1, (undoR a r (backL n e.op e.undo)).2) else (0, n)

/-- Operations, done one behind the other. -/
def redo : List Opn → List Ent → List Nd → List Ent × List Nd
  | [], es, n => (es, n)
  | o :: os, es, n => redo os (es ++ [⟨o, doU n o⟩]) (doL n o)

def addG (g : Lg) (o : Opn) : Lg :=
  if opOk o = false then g else if hasAt g.entries o.at_ = true then g else if (200 : Int) ≤ (g.entries.length : Int) then g
  else
    ⟨(redo (o :: (g.entries.drop (g.entries.length - (undoR o.at_ g.entries.reverse g.nodes).1)).map Ent.op) (g.entries.take (g.entries.length - (undoR o.at_ g.entries.reverse g.nodes).1)) (undoR o.at_ g.entries.reverse g.nodes).2).1,
      (redo (o :: (g.entries.drop (g.entries.length - (undoR o.at_ g.entries.reverse g.nodes).1)).map Ent.op) (g.entries.take (g.entries.length - (undoR o.at_ g.entries.reverse g.nodes).1)) (undoR o.at_ g.entries.reverse g.nodes).2).2⟩
def allG : Lg → List Opn → Lg
  | g, [] => g
  | g, o :: os => allG (addG g o) os
def opsG (g : Lg) : List Opn := g.entries.map Ent.op
theorem undoR_le (a : Stm) (l : List Ent) (n : List Nd) : (undoR a l n).1 ≤ l.length := by
  induction l generalizing n with
  | nil => simp [undoR]
  | cons e l ih => unfold undoR; split <;> simp; exact ih _

theorem backL_len (l : List Nd) (o : Opn) (u : Und) : (backL l o u).length ≤ l.length + 1 := by
  unfold backL
  split
  · omega
  · rename_i h
    have hc : chk l = true := by
      cases hc : chk l with
      | true => rfl
      | false => simp [hc] at h
    have := upto_le l o.node hc
    split
    · have := layN_len l (pos l o.node) (upto l o.node) [u.was] (by omega) (by omega); simp at this; omega
    · have := layN_len l (pos l o.node) (upto l o.node) [] (by omega) (by omega); simp at this; omega
theorem doL_len (l : List Nd) (o : Opn) : (doL l o).length ≤ l.length + 1 := by
  unfold doL
  split
  · omega
  · rename_i h
    have hc : chk l = true := by
      cases hc : chk l with
      | true => rfl
      | false => simp [refused, hc] at h
    have := upto_le l o.node hc
    have := layN_len l (pos l o.node) (upto l o.node) [nodeNew l o] (by omega) (by omega); simp at this; omega
theorem undoR_len (a : Stm) (l : List Ent) (n : List Nd) : (undoR a l n).2.length ≤ n.length + l.length := by
  induction l generalizing n with
  | nil => simp [undoR]
  | cons e l ih =>
    unfold undoR
    split
    · have := ih (backL n e.op e.undo)
      have := backL_len n e.op e.undo
      simp; omega
    · simp
theorem redo_len (l : List Opn) (es : List Ent) (n : List Nd) : (redo l es n).2.length ≤ n.length + l.length ∧ (redo l es n).1.length = es.length + l.length := by
  induction l generalizing es n with
  | nil => simp [redo]
  | cons o l ih =>
    unfold redo
    have := ih (es ++ [⟨o, doU n o⟩]) (doL n o)
    have := doL_len n o
    simp at *; omega
end Go.Gw
/- What the functions of the tree answer: Check, place, Find, above. No condition. -/
namespace Go.Proofs.YtmknmapgfjmioaaGreatDoor
open Go Go.Aw Go.Gw
set_option linter.unusedSimpArgs false
set_option maxRecDepth 20000

theorem wrap_pred {i n : Nat} (h : i < n) (hn : n ≤ 9223372036854775807) : IntKind.i64.wrap ((i : Int) - 1) = (i : Int) - 1 := wrap_i64 (by omega) (by omega)
theorem toNat_pred (i : Nat) : ((i : Int) - 1).toNat = i - 1 := by omega
theorem wrap_succ {i n : Nat} (h : i < n) (hn : n ≤ 9223372036854775807) : IntKind.i64.wrap ((i : Int) + 1) = ((i + 1 : Nat) : Int) := by rw [wrap_i64 (by omega) (by omega)]; rfl

theorem chk_c (b : Bool) (l : List Nd) (H : AHeap) : FnC Tryz.prog 53 [.sl b (l.map ndA)] H (.bool (chk l)) := by
  refine fnC_ok1 fun hok => ?_
  have hl := ok_sl hok
  rw [List.length_map] at hl
  refine fnC_of Tryz.func53 rfl (Nat.le_of_ble_eq_true rfl) ?_
  repeat' first | ((first | refine callP_false (.bool false) ?_ | refine aw_region rfl ?_ | refine aw_region_draw mixedF rfl (by kernel_rfl) ?_ | refine aE rfl ?_); simp only [go_sem]) | refine callG_y ?_ | refine callG_p ?_ | refine aw_seq ?_ | refine aw_block ?_ | refine aw_scope ?_ | (refine aw_cond rfl (fun h => ?_) (fun h => ?_) <;> try (exfalso; first | (simp at h; done) | (simp at h; omega))) | ((with_reducible refine And.intro ?_ ?_); focus (first | omega | (intros; simp_all; done) | (simp; omega)))
  refine aw_loopS (ι := Nat × AHeap) (fun x => [(0, .sl b (l.map ndA)), (8, .sl b (l.map ndA)), (9, .int .i64 l.length), (10, .int .i64 x.1)]) (fun x => H ++ x.2) (fun x => x.1 ≤ l.length ∧ chk l = chkF (prevId l x.1) (l.drop x.1)) (fun x => l.length - x.1) (0, []) ⟨Nat.zero_le _, rfl⟩ ?_ (by simp) ?_
  · simp [go_sem]
  · rintro ⟨i, L⟩ ⟨hi, he⟩
    simp only at hi he ⊢
    generalize hG : H ++ L = G
    by_cases hlt : i < l.length
    · have hp := getD_map ndA hlt
      have hq := getD_map ndA (show i - 1 < l.length by omega)
      have hw := wrap_pred hlt hl
      have ht := toNat_pred i
      rw [chkF_drop hlt] at he
      repeat' first | ((first | refine cK (ct (of_c _) callOk80F) ?_ | refine cP (ct (of_c _) callOk80F) ?_ | refine cM (ct (of_c _) callOk80F) ?_ | refine callP_false (.bool false) ?_ | refine aw_region rfl ?_ | refine aw_region_draw mixedF rfl (by kernel_rfl) ?_ | refine aE rfl ?_); simp only [go_sem, hp, hq, hw, ht, ndA]) | refine callG_y ?_ | refine callG_p ?_ | refine aw_seq ?_ | refine aw_block ?_ | refine aw_scope ?_ | (refine aw_cond rfl (fun h => ?_) (fun h => ?_) <;> try (exfalso; first | (simp at h; done) | (simp at h; omega))) | ((with_reducible refine And.intro ?_ ?_); focus (first | omega | (intros; simp_all; done) | (simp; omega)))
      · refine doneG hG (by simp only [go_sem]) (.of ?_)
        have h2 : (ofOk l[i].id && !(decide ((0 : Int) < (i : Int)) && decide (l[i].id ≤ l[i - 1].id))) = false := by rw [← Bool.not_eq_true', Bool.not_and, Bool.not_not]; exact h
        rw [he, h2]; rfl
      · have h2 : (ofOk l[i].id && !(decide ((0 : Int) < (i : Int)) && decide (l[i].id ≤ l[i - 1].id))) = true := by rw [← Bool.not_eq_false', Bool.not_and, Bool.not_not]; exact h
        rw [h2, Bool.true_and] at he
        exact ⟨(i + 1, _), ⟨hlt, he⟩, by simp only; omega, congrArg _ (wrap_succ hlt hl), growG hG⟩
    · have hi' : i = l.length := by omega
      subst hi'
      repeat' first | ((first | refine callP_false (.bool false) ?_ | refine aw_region rfl ?_ | refine aw_region_draw mixedF rfl (by kernel_rfl) ?_ | refine aE rfl ?_); simp only [go_sem]) | refine callG_y ?_ | refine callG_p ?_ | refine aw_seq ?_ | refine aw_block ?_ | refine aw_scope ?_ | (refine aw_cond rfl (fun h => ?_) (fun h => ?_) <;> try (exfalso; first | (simp at h; done) | (simp at h; omega))) | ((with_reducible refine And.intro ?_ ?_); focus (first | omega | (intros; simp_all; done) | (simp; omega)))
      refine doneG0 hG (by simp only [go_sem]) (.of ?_)
      rw [he, List.drop_length]; rfl

theorem rchk_c (b : Bool) (l : List Nd) (H : AHeap) : FnC Tryz.prog 89 [.sl b (l.map ndA)] H (.bool (chk l)) := by
  refine fnC_ok1 fun hok => ?_
  have hl := ok_sl hok
  rw [List.length_map] at hl
  refine fnC_of Tryz.func89 rfl (Nat.le_of_ble_eq_true rfl) ?_
  repeat' first | ((first | refine callP_false (.bool false) ?_ | refine aw_region rfl ?_ | refine aw_region_draw mixedF rfl (by kernel_rfl) ?_ | refine aE rfl ?_); simp only [go_sem]) | refine callG_y ?_ | refine callG_p ?_ | refine aw_seq ?_ | refine aw_block ?_ | refine aw_scope ?_ | (refine aw_cond rfl (fun h => ?_) (fun h => ?_) <;> try (exfalso; first | (simp at h; done) | (simp at h; omega))) | ((with_reducible refine And.intro ?_ ?_); focus (first | omega | (intros; simp_all; done) | (simp; omega)))
  refine aw_loopS (ι := Nat × AHeap) (fun x => [(0, .sl b (l.map ndA)), (3, .int .i64 x.1)]) (fun x => H ++ x.2) (fun x => x.1 ≤ l.length ∧ chk l = chkF (prevId l x.1) (l.drop x.1)) (fun x => l.length - x.1) (0, []) ⟨Nat.zero_le _, rfl⟩ ?_ (by simp) ?_
  · simp [go_sem]
  · rintro ⟨i, L⟩ ⟨hi, he⟩
    simp only at hi he ⊢
    generalize hG : H ++ L = G
    by_cases hlt : i < l.length
    · have hp := getD_map ndA hlt
      have hq := getD_map ndA (show i - 1 < l.length by omega)
      have hw := wrap_pred hlt hl
      have ht := toNat_pred i
      rw [chkF_drop hlt] at he
      repeat' first | ((first | refine cK (ct (rof_c _) callOk88F) ?_ | refine cP (ct (rof_c _) callOk88F) ?_ | refine cM (ct (rof_c _) callOk88F) ?_ | refine callP_false (.bool false) ?_ | refine aw_region rfl ?_ | refine aw_region_draw mixedF rfl (by kernel_rfl) ?_ | refine aE rfl ?_); simp only [go_sem, hp, hq, hw, ht, ndA]) | refine callG_y ?_ | refine callG_p ?_ | refine aw_seq ?_ | refine aw_block ?_ | refine aw_scope ?_ | (refine aw_cond rfl (fun h => ?_) (fun h => ?_) <;> try (exfalso; first | (simp at h; done) | (simp at h; omega))) | ((with_reducible refine And.intro ?_ ?_); focus (first | omega | (intros; simp_all; done) | (simp; omega)))
      · refine doneG hG (by simp only [go_sem]) (.of ?_)
        have h2 : (ofOk l[i].id && !(decide ((0 : Int) < (i : Int)) && decide (l[i].id ≤ l[i - 1].id))) = false := by rw [← Bool.not_eq_true', Bool.not_and, Bool.not_not]; exact h
        rw [he, h2]; rfl
      · have h2 : (ofOk l[i].id && !(decide ((0 : Int) < (i : Int)) && decide (l[i].id ≤ l[i - 1].id))) = true := by rw [← Bool.not_eq_false', Bool.not_and, Bool.not_not]; exact h
        rw [h2, Bool.true_and] at he
        exact ⟨(i + 1, _), ⟨hlt, he⟩, by simp only; omega, congrArg _ (wrap_succ hlt hl), growG hG⟩
    · have hi' : i = l.length := by omega
      subst hi'
      repeat' first | ((first | refine callP_false (.bool false) ?_ | refine aw_region rfl ?_ | refine aw_region_draw mixedF rfl (by kernel_rfl) ?_ | refine aE rfl ?_); simp only [go_sem]) | refine callG_y ?_ | refine callG_p ?_ | refine aw_seq ?_ | refine aw_block ?_ | refine aw_scope ?_ | (refine aw_cond rfl (fun h => ?_) (fun h => ?_) <;> try (exfalso; first | (simp at h; done) | (simp at h; omega))) | ((with_reducible refine And.intro ?_ ?_); focus (first | omega | (intros; simp_all; done) | (simp; omega)))
      refine doneG0 hG (by simp only [go_sem]) (.of ?_)
      rw [he, List.drop_length]; rfl

/-! ### place -/
def cmpI (a b : Int) : Int := if a < b then -1 else if b < a then 1 else 0

theorem nan_c (a : Int) (H : AHeap) : FnC Tryz.prog 106 [.int .i64 a] H (.bool false) := by
  refine fnC_of Tryz.func106 rfl (Nat.le_of_ble_eq_true rfl) ?_
  repeat' first | ((first | refine callP_false (.bool false) ?_ | refine aw_region rfl ?_ | refine aw_region_draw mixedF rfl (by kernel_rfl) ?_ | refine aE rfl ?_); simp only [go_sem]) | refine callG_y ?_ | refine callG_p ?_ | refine aw_seq ?_ | refine aw_block ?_ | refine aw_scope ?_ | (refine aw_cond rfl (fun h => ?_) (fun h => ?_) <;> try (exfalso; first | (simp at h; done) | (simp at h; omega))) | ((with_reducible refine And.intro ?_ ?_); focus (first | omega | (intros; simp_all; done) | (simp; omega)))
  exact done0 (by simp only [go_sem]) (.of (by simp))

theorem cmp_c (a b : Int) (H : AHeap) : FnC Tryz.prog 97 [.int .i64 a, .int .i64 b] H (.int .i64 (cmpI a b)) := by
  refine fnC_of Tryz.func97 rfl (Nat.le_of_ble_eq_true rfl) ?_
  repeat' first | ((first | refine cK (ct (nan_c _) callOk106F) ?_ | refine cP (ct (nan_c _) callOk106F) ?_ | refine cM (ct (nan_c _) callOk106F) ?_ | refine callP_false (.bool false) ?_ | refine aw_region rfl ?_ | refine aw_region_draw mixedF rfl (by kernel_rfl) ?_ | refine aE rfl ?_); simp only [go_sem]) | refine callG_y ?_ | refine callG_p ?_ | refine aw_seq ?_ | refine aw_block ?_ | refine aw_scope ?_ | (refine aw_cond rfl (fun h => ?_) (fun h => ?_) <;> try (exfalso; first | (simp at h; done) | (simp at h; omega))) | ((with_reducible refine And.intro ?_ ?_); focus (first | omega | (intros; simp_all; done) | (simp; omega)))
  all_goals (simp only [decide_eq_true_eq, decide_eq_false_iff_not] at *)
  · exact done0 (by simp only [go_sem]) (.of (by rw [cmpI, if_pos h]))
  · exact done0 (by simp only [go_sem]) (.of (by rw [cmpI, if_neg (by assumption), if_pos h]))
  · exact done0 (by simp only [go_sem]) (.of (by rw [cmpI, if_neg (by assumption), if_neg h]))

theorem plc1_c (n : Nd) (id : Int) (H : AHeap) : FnC Tryz.prog 96 [ndA n, .int .i64 id] H (.int .i64 (cmpI n.id id)) := by
  refine fnC_of Tryz.func96 rfl (Nat.le_of_ble_eq_true rfl) ?_
  simp only [ndA]
  repeat' first | ((first | refine cK (ct (cmp_c _ _) callOk97F) ?_ | refine cP (ct (cmp_c _ _) callOk97F) ?_ | refine cM (ct (cmp_c _ _) callOk97F) ?_ | refine callP_false (.bool false) ?_ | refine aw_region rfl ?_ | refine aw_region_draw mixedF rfl (by kernel_rfl) ?_ | refine aE rfl ?_); simp only [go_sem]) | refine callG_y ?_ | refine callG_p ?_ | refine aw_seq ?_ | refine aw_block ?_ | refine aw_scope ?_ | (refine aw_cond rfl (fun h => ?_) (fun h => ?_) <;> try (exfalso; first | (simp at h; done) | (simp at h; omega))) | ((with_reducible refine And.intro ?_ ?_); focus (first | omega | (intros; simp_all; done) | (simp; omega)))
  exact done (by simp only [go_sem]) (.refl _)

theorem mid_eq {i j n : Nat} (hi : i ≤ j) (hj : j ≤ n) (hn : n ≤ 9223372036854775807) :
    IntKind.i64.wrap ((IntKind.u64.wrap (IntKind.i64.wrap ((i : Int) + (j : Int)))).fdiv (2 ^ min 1 64)) = (((i + j) / 2 : Nat) : Int) := by
  have e1 : IntKind.u64.wrap (IntKind.i64.wrap ((i : Int) + (j : Int))) = (i : Int) + (j : Int) := by
    rw [IntKind.wrap_i64, IntKind.wrap_u64]; omega
  have e2 : (2 : Int) ^ min 1 64 = 2 := by decide
  rw [e1, e2, Int.fdiv_eq_ediv_of_nonneg _ (by omega), wrap_i64 (by omega) (by omega)]
  omega

theorem bs_c (b : Bool) (l : List Nd) (id : Int) (fn : Fn) (fs cs : List AV) (hs : chk l = true) (H : AHeap) (hf : ∀ n : Nd, FnV Tryz.prog (.func fn fs cs) [ndA n, .int .i64 id] H (.int .i64 (cmpI n.id id))) :
    FnC Tryz.prog 95 [.sl b (l.map ndA), .int .i64 id, .func fn fs cs] H (.tup [.int .i64 (pos l id), .bool (had l id)]) := by
  refine fnC_ok3 fun hok _ _ => ?_
  have hl := ok_sl hok
  rw [List.length_map] at hl
  have hpw := ((chk_iff l).1 hs).2
  rw [List.pairwise_iff_getElem] at hpw
  simp only [ndA] at hf
  refine fnC_of Tryz.func95 rfl (Nat.le_of_ble_eq_true rfl) ?_
  repeat' first | ((first | refine callP_false (.bool false) ?_ | refine aw_region rfl ?_ | refine aw_region_draw mixedF rfl (by kernel_rfl) ?_ | refine aE rfl ?_); simp only [go_sem]) | refine callG_y ?_ | refine callG_p ?_ | refine aw_seq ?_ | refine aw_block ?_ | refine aw_scope ?_ | (refine aw_cond rfl (fun h => ?_) (fun h => ?_) <;> try (exfalso; first | (simp at h; done) | (simp at h; omega))) | ((with_reducible refine And.intro ?_ ?_); focus (first | omega | (intros; simp_all; done) | (simp; omega)))
  refine aw_loopS (ι := Nat × Nat) (fun x => [(0, .sl b (l.map ndA)), (1, .int .i64 id), (2, .func fn fs cs), (8, .int .i64 l.length), (9, .int .i64 x.1), (10, .int .i64 x.2)]) (fun x => H)
    (fun x => x.1 ≤ x.2 ∧ x.2 ≤ l.length ∧ (∀ k (h : k < l.length), k < x.1 → l[k].id < id) ∧ ∀ k (h : k < l.length), x.2 ≤ k → ¬ l[k].id < id) (fun x => x.2 - x.1) (0, l.length) ⟨Nat.zero_le _, Nat.le_refl _, fun k _ h => by simp at h, fun k h h2 => by simp at h2; omega⟩ ?_ rfl ?_
  · simp [go_sem]
  · rintro ⟨i, j⟩ ⟨hi, hj, h1, h2⟩
    simp only at hi hj h1 h2 ⊢
    by_cases hlt : i < j
    · have hm := mid_eq hi hj hl
      have hml : (i + j) / 2 < l.length := by omega
      have hp := getD_map ndA hml
      repeat' first | ((first | refine callP_false (.bool false) ?_ | refine aw_region rfl ?_ | refine aw_region_draw mixedF rfl (by kernel_rfl) ?_ | refine aE rfl ?_); simp only [go_sem, hm, hp, ndA]) | refine callG_y ?_ | refine callG_p ?_ | refine aw_seq ?_ | refine aw_block ?_ | refine aw_scope ?_ | (refine aw_cond rfl (fun h => ?_) (fun h => ?_) <;> try (exfalso; first | (simp at h; done) | (simp at h; omega))) | ((with_reducible refine And.intro ?_ ?_); focus (first | omega | (intros; simp_all; done) | (simp; omega)))
      refine callK_v0 (hf _) ?_
      simp only [go_sem, hm, hp, ndA]
      repeat' first | ((first | refine callP_false (.bool false) ?_ | refine aw_region rfl ?_ | refine aw_region_draw mixedF rfl (by kernel_rfl) ?_ | refine aE rfl ?_); simp only [go_sem, hm, hp, ndA]) | refine callG_y ?_ | refine callG_p ?_ | refine aw_seq ?_ | refine aw_block ?_ | refine aw_scope ?_ | (refine aw_cond rfl (fun h => ?_) (fun h => ?_) <;> try (exfalso; first | (simp at h; done) | (simp at h; omega))) | ((with_reducible refine And.intro ?_ ?_); focus (first | omega | (intros; simp_all; done) | (simp; omega)))
      · have hc : l[(i + j) / 2].id < id := by
          have h' := of_decide_eq_true h
          unfold cmpI at h'
          repeat' split at h'
          all_goals omega
        refine ⟨((i + j) / 2 + 1, j), ⟨by simp only; omega, hj, fun k hk hk2 => ?_, h2⟩, by simp only; omega, congrArg _ (wrap_succ hml hl), rfl⟩
        simp only at hk2
        rcases Nat.lt_or_ge k ((i + j) / 2) with hk3 | hk3
        · exact Int.lt_trans (hpw k _ hk hml hk3) hc
        · obtain rfl : k = (i + j) / 2 := by omega
          exact hc
      · have hc : ¬ l[(i + j) / 2].id < id := by
          have h' := of_decide_eq_false h
          unfold cmpI at h'
          repeat' split at h'
          all_goals omega
        refine ⟨(i, (i + j) / 2), ⟨by simp only; omega, by simp only; omega, h1, fun k hk hk2 => ?_⟩, by simp only; omega, rfl, rfl⟩
        simp only at hk2
        rcases Nat.lt_or_ge ((i + j) / 2) k with hk3 | hk3
        · have := hpw _ k hml hk hk3; omega
        · obtain rfl : k = (i + j) / 2 := by omega
          exact hc
    · have hi' : i = j := by omega
      subst hi'
      have hpos := pos_at hj (fun k hk => h1 k (by omega) hk) (fun h => h2 i h (Nat.le_refl _))
      by_cases hlt2 : i < l.length
      · have hp := getD_map ndA hlt2
        repeat' first | ((first | refine callP_false (.bool false) ?_ | refine aw_region rfl ?_ | refine aw_region_draw mixedF rfl (by kernel_rfl) ?_ | refine aE rfl ?_); simp only [go_sem, hp, ndA]) | refine callG_y ?_ | refine callG_p ?_ | refine aw_seq ?_ | refine aw_block ?_ | refine aw_scope ?_ | (refine aw_cond rfl (fun h => ?_) (fun h => ?_) <;> try (exfalso; first | (simp at h; done) | (simp at h; omega))) | ((with_reducible refine And.intro ?_ ?_); focus (first | omega | (intros; simp_all; done) | (simp; omega)))
        have hf0 := fun n => (hf n) []
        simp only [List.append_nil] at hf0
        refine ⟨_, fun _ => hf0 _, ?_⟩
        simp only [go_sem, hp, ndA]
        repeat' first | ((first | refine callP_false (.bool false) ?_ | refine aw_region rfl ?_ | refine aw_region_draw mixedF rfl (by kernel_rfl) ?_ | refine aE rfl ?_); simp only [go_sem, hp, ndA]) | refine callG_y ?_ | refine callG_p ?_ | refine aw_seq ?_ | refine aw_block ?_ | refine aw_scope ?_ | (refine aw_cond rfl (fun h => ?_) (fun h => ?_) <;> try (exfalso; first | (simp at h; done) | (simp at h; omega))) | ((with_reducible refine And.intro ?_ ?_); focus (first | omega | (intros; simp_all; done) | (simp; omega)))
        refine done0 (by simp only [go_sem]) (.of ?_)
        rw [had_pos hs, hpos, List.getElem?_eq_getElem hlt2]
        have e1 : decide ((i : Int) < (l.length : Int)) = true := by simpa using hlt2
        have e2 : decide (cmpI l[i].id id = 0) = decide (l[i].id = id) := by
          unfold cmpI
          rcases Int.lt_trichotomy l[i].id id with q | q | q
          · rw [if_pos q, decide_eq_false (show ¬ l[i].id = id by omega)]; rfl
          · rw [if_neg (by omega), if_neg (by omega), decide_eq_true q]; rfl
          · rw [if_neg (by omega), if_pos q, decide_eq_false (show ¬ l[i].id = id by omega)]; rfl
        rw [e1, e2]; rfl
      · repeat' first | ((first | refine callP_false (.bool false) ?_ | refine aw_region rfl ?_ | refine aw_region_draw mixedF rfl (by kernel_rfl) ?_ | refine aE rfl ?_); simp only [go_sem, hlt2]) | refine callG_y ?_ | refine callG_p ?_ | refine aw_seq ?_ | refine aw_block ?_ | refine aw_scope ?_ | (refine aw_cond rfl (fun h => ?_) (fun h => ?_) <;> try (exfalso; first | (simp at h; done) | (simp at h; omega))) | ((with_reducible refine And.intro ?_ ?_); focus (first | omega | (intros; simp_all; done) | (simp; omega)))
        have e1 : decide ((i : Int) < (l.length : Int)) = false := by simpa using hlt2
        refine ⟨.int .i64 1, fun hg => ?_, ?_⟩
        · rw [e1] at hg; cases hg
        simp only [go_sem]
        repeat' first | ((first | refine callP_false (.bool false) ?_ | refine aw_region rfl ?_ | refine aw_region_draw mixedF rfl (by kernel_rfl) ?_ | refine aE rfl ?_); simp only [go_sem]) | refine callG_y ?_ | refine callG_p ?_ | refine aw_seq ?_ | refine aw_block ?_ | refine aw_scope ?_ | (refine aw_cond rfl (fun h => ?_) (fun h => ?_) <;> try (exfalso; first | (simp at h; done) | (simp at h; omega))) | ((with_reducible refine And.intro ?_ ?_); focus (first | omega | (intros; simp_all; done) | (simp; omega)))
        refine done0 (by simp only [go_sem]) (.of ?_)
        rw [had_pos hs, hpos, List.getElem?_eq_none (by omega), e1]; rfl

theorem place_c (b : Bool) (l : List Nd) (id : Int) (hs : chk l = true) (H : AHeap) : FnC Tryz.prog 78 [.sl b (l.map ndA), .int .i64 id] H (.tup [.int .i64 (pos l id), .bool (had l id)]) := by
  refine fnC_of Tryz.func78 rfl (Nat.le_of_ble_eq_true rfl) ?_
  have hbs := bs_c b l id (.func 96) [] [] hs H fun n => .mk (first := []) (cap := []) (fun L => plc1_c n id (H ++ L)) callOk96F
  repeat' first | ((first | refine callK_fn (hbs) callOk95F ?_ | refine callP_fn (hbs) callOk95F ?_ | refine callM_fn (fun _ => hbs) callOk95F ?_ | refine callP_false (.bool false) ?_ | refine aw_region rfl ?_ | refine aw_region_draw mixedF rfl (by kernel_rfl) ?_ | refine aE rfl ?_); simp only [go_sem]) | refine callG_y ?_ | refine callG_p ?_ | refine aw_seq ?_ | refine aw_block ?_ | refine aw_scope ?_ | (refine aw_cond rfl (fun h => ?_) (fun h => ?_) <;> try (exfalso; first | (simp at h; done) | (simp at h; omega))) | ((with_reducible refine And.intro ?_ ?_); focus (first | omega | (intros; simp_all; done) | (simp; omega)))
  exact done0 (by simp only [go_sem]) (.refl _)

end Go.Proofs.YtmknmapgfjmioaaGreatDoor
/- What the functions of the tree answer: above, lay, same. No condition. -/
namespace Go.Proofs.YtmknmapgfjmioaaGreatDoor
open Go Go.Aw Go.Gw
set_option linter.unusedSimpArgs false
set_option maxRecDepth 20000

theorem idxInt_c (b : Bool) (l : List Int) (v : Int) (H : AHeap) :
    FnC Tryz.prog 86 [.sl b (l.map inA), .int .i64 v] H (.int .i64 (idxI (fun x => decide (v = x)) l)) := by
  refine fnC_ok2 fun hok _ => ?_
  have hl := ok_sl hok
  rw [List.length_map] at hl
  refine fnC_of Tryz.func86 rfl (Nat.le_of_ble_eq_true rfl) ?_
  repeat' first | ((first | refine callP_false (.bool false) ?_ | refine aw_region rfl ?_ | refine aw_region_draw mixedF rfl (by kernel_rfl) ?_ | refine aE rfl ?_); simp only [go_sem]) | refine callG_y ?_ | refine callG_p ?_ | refine aw_seq ?_ | refine aw_block ?_ | refine aw_scope ?_ | (refine aw_cond rfl (fun h => ?_) (fun h => ?_) <;> try (exfalso; first | (simp at h; done) | (simp at h; omega))) | ((with_reducible refine And.intro ?_ ?_); focus (first | omega | (intros; simp_all; done) | (simp; omega)))
  refine aw_loopS (ι := Nat) (fun i => [(0, .sl b (l.map inA)), (1, .int .i64 v), (7, .int .i64 l.length), (8, .int .i64 i)]) (fun _ => H) (fun i => i ≤ l.length ∧ ∀ k (hk : k < i) (hk2 : k < l.length), decide (v = l[k]) = false) (fun i => l.length - i) 0 ⟨Nat.zero_le _, fun k hk => by omega⟩ ?_ rfl ?_
  · simp [go_sem]
  · rintro i ⟨hi, hno⟩
    by_cases hlt : i < l.length
    · have hp := getD_map inA hlt
      repeat' first | ((first | refine callP_false (.bool false) ?_ | refine aw_region rfl ?_ | refine aw_region_draw mixedF rfl (by kernel_rfl) ?_ | refine aE rfl ?_); simp only [go_sem, hp, inA]) | refine callG_y ?_ | refine callG_p ?_ | refine aw_seq ?_ | refine aw_block ?_ | refine aw_scope ?_ | (refine aw_cond rfl (fun h => ?_) (fun h => ?_) <;> try (exfalso; first | (simp at h; done) | (simp at h; omega))) | ((with_reducible refine And.intro ?_ ?_); focus (first | omega | (intros; simp_all; done) | (simp; omega)))
      · exact done0 (by simp only [go_sem]) (.of (by rw [idxI_at (fun x => decide (v = x)) l i hlt (fun k hk => hno k hk (by omega)) h]))
      · refine ⟨i + 1, ⟨hlt, fun k hk hk2 => ?_⟩, by omega, by rw [wrap_i64 (by omega) (by omega)]; rfl⟩
        by_cases e : k = i
        · subst e; simpa using h
        · simpa using hno k (by omega) hk2
    · have hi' : i = l.length := by omega
      repeat' first | ((first | refine callP_false (.bool false) ?_ | refine aw_region rfl ?_ | refine aw_region_draw mixedF rfl (by kernel_rfl) ?_ | refine aE rfl ?_); simp only [go_sem]) | refine callG_y ?_ | refine callG_p ?_ | refine aw_seq ?_ | refine aw_block ?_ | refine aw_scope ?_ | (refine aw_cond rfl (fun h => ?_) (fun h => ?_) <;> try (exfalso; first | (simp at h; done) | (simp at h; omega))) | ((with_reducible refine And.intro ?_ ?_); focus (first | omega | (intros; simp_all; done) | (simp; omega)))
      subst hi'
      exact done0 (by simp only [go_sem]) (.of (by rw [idxI_no (fun x => decide (v = x)) l fun k hk => hno k hk hk]))

theorem hasInt_c (b : Bool) (l : List Int) (v : Int) (H : AHeap) :
    FnC Tryz.prog 60 [.sl b (l.map inA), .int .i64 v] H (.bool (l.any fun x => decide (x = v))) := by
  refine fnC_of Tryz.func60 rfl (Nat.le_of_ble_eq_true rfl) ?_
  repeat' first | ((first | refine cK (ct (idxInt_c _ _ _) callOk86F) ?_ | refine cP (ct (idxInt_c _ _ _) callOk86F) ?_ | refine cM (ct (idxInt_c _ _ _) callOk86F) ?_ | refine callP_false (.bool false) ?_ | refine aw_region rfl ?_ | refine aw_region_draw mixedF rfl (by kernel_rfl) ?_ | refine aE rfl ?_); simp only [go_sem]) | refine callG_y ?_ | refine callG_p ?_ | refine aw_seq ?_ | refine aw_block ?_ | refine aw_scope ?_ | (refine aw_cond rfl (fun h => ?_) (fun h => ?_) <;> try (exfalso; first | (simp at h; done) | (simp at h; omega))) | ((with_reducible refine And.intro ?_ ?_); focus (first | omega | (intros; simp_all; done) | (simp; omega)))
  refine done0 (by simp only [go_sem]) (.of ?_)
  rw [idxI_any]
  congr 2
  funext x
  exact decide_eq_decide.2 ⟨Eq.symm, Eq.symm⟩

theorem flat_in (l : List Int) : (l.map inA).flatMap AV.cells = l.map inA := by
  induction l with
  | nil => rfl
  | cons x l ih => rw [List.map_cons, List.flatMap_cons, ih]; rfl
theorem cells_in (l : List Int) : ∀ e ∈ l.map inA, e.cells.length = 1 := fun e he => by
  obtain ⟨x, _, rfl⟩ := List.mem_map.1 he; rfl

theorem above_c (b : Bool) (l : List Nd) (id : Int) (hs : chk l = true) (hl : l.length ≤ 1073741824) (H : AHeap) : FnC Tryz.prog 54 [.sl b (l.map ndA), .int .i64 id] H (.sl false ((aboveI l id).map inA)) := by
  refine fnC_of Tryz.func54 rfl (Nat.le_of_ble_eq_true rfl) ?_
  have hpl := fun id => place_c b l id hs
  repeat' first | ((first | refine callP_false (.bool false) ?_ | refine aw_region rfl ?_ | refine aw_region_draw mixedF rfl (by kernel_rfl) ?_ | refine aE rfl ?_); simp only [go_sem]) | refine callG_y ?_ | refine callG_p ?_ | refine aw_seq ?_ | refine aw_block ?_ | refine aw_scope ?_ | (refine aw_cond rfl (fun h => ?_) (fun h => ?_) <;> try (exfalso; first | (simp at h; done) | (simp at h; omega))) | ((with_reducible refine And.intro ?_ ?_); focus (first | omega | (intros; simp_all; done) | (simp; omega)))
  refine aw_void 5 1 (by simp only [go_sem]) ?_
  refine aw_loopS (ι := List Int × Int) (fun x => [(0, .sl b (l.map ndA)), (1, .int .i64 x.2), (5, .osl 1 H.length (x.1.length + 1) 0 x.1.length x.1.length)]) (fun x => H ++ [.cells (x.1.length + 1) (x.1.map inA)])
    (fun x => x.1.length ≤ l.length ∧ x.1 ++ aboveN l (l.length - x.1.length) x.2 = aboveI l id) (fun x => l.length - x.1.length) ([], id) ⟨Nat.zero_le _, rfl⟩ ?_ rfl ?_
  · simp [go_sem]
  · rintro ⟨acc, id'⟩ ⟨hn, he⟩
    simp only at hn he ⊢
    by_cases hlt : acc.length < l.length
    · obtain ⟨m, hm⟩ : ∃ m, l.length - acc.length = m + 1 := ⟨l.length - acc.length - 1, by omega⟩
      rw [hm, aboveN] at he
      cases hh : had l id' with
      | false =>
        rw [fnd_no hh] at he
        repeat' first | ((first | refine cK (ct (hpl _) callOk78F) ?_ | refine cP (ct (hpl _) callOk78F) ?_ | refine cM (ct (hpl _) callOk78F) ?_ | refine callP_false (.bool false) ?_ | refine aw_region rfl ?_ | refine aw_region_draw mixedF rfl (by kernel_rfl) ?_ | refine aE rfl ?_); simp only [go_sem, hh]) | refine callG_y ?_ | refine callG_p ?_ | refine aw_seq ?_ | refine aw_block ?_ | refine aw_scope ?_ | (refine aw_cond rfl (fun h => ?_) (fun h => ?_) <;> try (exfalso; first | (simp at h; done) | (simp at h; omega))) | ((with_reducible refine And.intro ?_ ?_); focus (first | omega | (intros; simp_all; done) | (simp; omega)))
        exact doneOsl (cs := acc.map inA) (es := acc.map inA) (rest := []) (Nat.le_refl _) (by simp only [go_sem]) (by rw [flat_in, List.append_nil]) (by simp) (cells_in acc) (fun e he => by obtain ⟨c, _, rfl⟩ := List.mem_map.1 he; exact .int _ _) (by rw [← he]; simp)
      | true =>
        have hlp := had_lt hs hh
        have hp := getD_map ndA hlp
        rw [fnd_had hs hh] at he
        simp only at he
        repeat' first | ((first | refine cK (ct (hpl _) callOk78F) ?_ | refine cP (ct (hpl _) callOk78F) ?_ | refine cM (ct (hpl _) callOk78F) ?_ | refine callP_false (.bool false) ?_ | refine aw_region rfl ?_ | refine aw_region_draw mixedF rfl (by kernel_rfl) ?_ | refine aE rfl ?_); simp only [go_sem, hh, hp, ndA]) | refine callG_y ?_ | refine callG_p ?_ | refine aw_seq ?_ | refine aw_block ?_ | refine aw_scope ?_ | (refine aw_cond rfl (fun h => ?_) (fun h => ?_) <;> try (exfalso; first | (simp at h; done) | (simp at h; omega))) | ((with_reducible refine And.intro ?_ ?_); focus (first | omega | (intros; simp_all; done) | (simp; omega)))
        · rw [if_pos (of_decide_eq_true h)] at he
          exact doneOsl (cs := acc.map inA) (es := acc.map inA) (rest := []) (Nat.le_refl _) (by simp only [go_sem]) (by rw [flat_in, List.append_nil]) (by simp) (cells_in acc) (fun e he => by obtain ⟨c, _, rfl⟩ := List.mem_map.1 he; exact .int _ _) (by rw [← he]; simp)
        · rw [if_neg (of_decide_eq_false h)] at he
          exact ⟨⟨by omega, fun e he => by rw [he]; rfl, by omega⟩, (acc ++ [l[pos l id'].parent], l[pos l id'].parent), ⟨by simp; omega, by rw [← he]; simp [show l.length - (acc.length + 1) = m by omega]⟩, by simp; omega, ⟨rfl, by simp⟩, by simp [inA]⟩
    · repeat' first | ((first | refine callP_false (.bool false) ?_ | refine aw_region rfl ?_ | refine aw_region_draw mixedF rfl (by kernel_rfl) ?_ | refine aE rfl ?_); simp only [go_sem, hlt]) | refine callG_y ?_ | refine callG_p ?_ | refine aw_seq ?_ | refine aw_block ?_ | refine aw_scope ?_ | (refine aw_cond rfl (fun h => ?_) (fun h => ?_) <;> try (exfalso; first | (simp at h; done) | (simp at h; omega))) | ((with_reducible refine And.intro ?_ ?_); focus (first | omega | (intros; simp_all; done) | (simp; omega)))
      have he2 : l.length - acc.length = 0 := by omega
      rw [he2] at he
      exact doneOsl (cs := acc.map inA) (es := acc.map inA) (rest := []) (Nat.le_refl _) (by simp only [go_sem]) (by rw [flat_in, List.append_nil]) (by simp) (cells_in acc) (fun e he => by obtain ⟨c, _, rfl⟩ := List.mem_map.1 he; exact .int _ _) (by rw [← he]; simp [aboveN])

theorem aboveC_c (b : Bool) (l : List Nd) (id : Int) (hl : l.length ≤ 1073741824) (H : AHeap) : FnC Tryz.prog 25 [.sl b (l.map ndA), .int .i64 id] H (.sl false ((aboveC l id).map inA)) := by
  refine fnC_of Tryz.func25 rfl (Nat.le_of_ble_eq_true rfl) ?_
  unfold aboveC
  cases hs : chk l with
  | false =>
    repeat' first | ((first | refine cK (ct (chk_c _ _) callOk53F) ?_ | refine cP (ct (chk_c _ _) callOk53F) ?_ | refine cM (ct (chk_c _ _) callOk53F) ?_ | refine callP_false (.bool false) ?_ | refine aw_region rfl ?_ | refine aw_region_draw mixedF rfl (by kernel_rfl) ?_ | refine aE rfl ?_); simp only [go_sem, hs]) | refine callG_y ?_ | refine callG_p ?_ | refine aw_seq ?_ | refine aw_block ?_ | refine aw_scope ?_ | (refine aw_cond rfl (fun h => ?_) (fun h => ?_) <;> try (exfalso; first | (simp at h; done) | (simp at h; omega))) | ((with_reducible refine And.intro ?_ ?_); focus (first | omega | (intros; simp_all; done) | (simp; omega)))
    exact done0 (by simp only [go_sem]) (.sl _ _)
  | true =>
    have hab := above_c b l id hs hl
    have ct0 := ct hab callOk54F; repeat' first | ((first | refine cK (by assumption) ?_ | refine cP (by assumption) ?_ | refine cM (by assumption) ?_ | refine cK (ct (chk_c _ _) callOk53F) ?_ | refine cP (ct (chk_c _ _) callOk53F) ?_ | refine cM (ct (chk_c _ _) callOk53F) ?_ | refine callP_false (.bool false) ?_ | refine aw_region rfl ?_ | refine aw_region_draw mixedF rfl (by kernel_rfl) ?_ | refine aE rfl ?_); simp only [go_sem, hs]) | refine callG_y ?_ | refine callG_p ?_ | refine aw_seq ?_ | refine aw_block ?_ | refine aw_scope ?_ | (refine aw_cond rfl (fun h => ?_) (fun h => ?_) <;> try (exfalso; first | (simp at h; done) | (simp at h; omega))) | ((with_reducible refine And.intro ?_ ?_); focus (first | omega | (intros; simp_all; done) | (simp; omega)))
    exact done0 (by simp only [go_sem]) (.refl _)

/-! ### lay -/
theorem flat_nd (l : List Nd) : (l.map ndA).flatMap AV.cells = l.flatMap fun n => (ndA n).cells := by
  rw [List.flatMap_map]
theorem flat_nd_len (l : List Nd) : (l.flatMap fun n => (ndA n).cells).length = l.length * 8 := by
  induction l with
  | nil => rfl
  | cons x l ih => rw [List.flatMap_cons, List.length_append, ih]; simp [ndA, AV.cells]; omega
theorem cells_nd (l : List Nd) : ∀ e ∈ l.map ndA, e.cells.length = 8 := fun e he => by
  obtain ⟨x, _, rfl⟩ := List.mem_map.1 he; rfl
theorem cells_ndT (l : List Nd) : (∀ e ∈ l.map ndA, e.cells.length = 8) = True := eq_true (cells_nd l)
theorem one_nd (l : List Nd) : (l.flatMap fun n => (ndA n).cells).all AV.one = true := by
  rw [List.all_eq_true]
  intro x hx
  obtain ⟨n, _, hn⟩ := List.mem_flatMap.1 hx
  simp only [ndA, AV.cells, List.mem_cons, List.not_mem_nil, or_false] at hn
  rcases hn with rfl | rfl | rfl | rfl | rfl | rfl | rfl | rfl <;> rfl
theorem pur_nd (l : List Nd) : ∀ e ∈ l.map ndA, Pur e := fun e he => by
  obtain ⟨x, _, rfl⟩ := List.mem_map.1 he; exact (by simp only [go_sem])

theorem splice_app {A B X : List AV} {off : Nat} (h : A.length = off) : splice (A ++ B) off X = A ++ (X ++ B.drop X.length) := by
  subst h
  simp [splice, List.drop_append]
def ndZ : AV := .agg [.int .i64 0, .int .i64 0, .str [], .int .i64 0, .int .i64 0, .str [], .int .i64 0, .int .i64 0]
theorem flat_nd_len' (l : List Nd) : (List.flatMap AV.cells (l.map ndA)).length = l.length * 8 := by rw [flat_nd, flat_nd_len]
theorem one_nd' (l : List Nd) : (List.flatMap AV.cells (l.map ndA)).all AV.one = true := by rw [flat_nd]; exact one_nd l
theorem flat_ndZ (n : Nat) : (List.flatMap AV.cells (List.replicate n ndZ)).length = n * 8 := by
  induction n with
  | zero => rfl
  | succ n ih => rw [List.replicate_succ, List.flatMap_cons, List.length_append, ih]; simp [ndZ, AV.cells]; omega

theorem lay_c (b1 b2 : Bool) (l xs : List Nd) (i j : Nat) (hij : i ≤ j) (hj : j ≤ l.length) (hl : l.length + xs.length ≤ 1073741824) (H : AHeap) :
    FnC Tryz.prog 79 [.sl b1 (l.map ndA), .int .i64 i, .int .i64 j, .sl b2 (xs.map ndA)] H (.sl false ((layN l i j xs).map ndA)) := by
  refine fnC_of Tryz.func79 rfl (Nat.le_of_ble_eq_true rfl) ?_
  have e1 : IntKind.i64.wrap (IntKind.i64.wrap (((i + xs.length : Nat) : Int) + (l.length : Int)) - (j : Int)) = ((i + xs.length + (l.length - j) : Nat) : Int) := by
    rw [wrap_i64 (n := ((i + xs.length : Nat) : Int) + l.length) (by omega) (by omega), wrap_i64 (by omega) (by omega)]; omega
  have t1 : List.take i (List.map ndA l) = List.map ndA (l.take i) := List.map_take.symm
  have t2 : List.drop j (List.map ndA l) = List.map ndA (l.drop j) := List.map_drop.symm
  have n1 : (l.take i).length = i := List.length_take_of_le (by omega)
  have n2 : (l.drop j).length = l.length - j := List.length_drop
  have e2 : IntKind.i64.wrap ((i : Int) + (xs.length : Int)) = ((i + xs.length : Nat) : Int) := wrap_i64 (by omega) (by omega)
  have hz : ndZ = .agg [.int .i64 0, .int .i64 0, .str [], .int .i64 0, .int .i64 0, .str [], .int .i64 0, .int .i64 0] := rfl
  have l1 := flat_nd_len' (l.take i)
  have l2 := flat_nd_len' xs
  have l3 := flat_nd_len' (l.drop j)
  have lz := flat_ndZ (i + (xs.length + (l.length - j)))
  rw [n1] at l1
  rw [n2] at l3
  have s1 : splice (List.flatMap AV.cells (List.replicate (i + (xs.length + (l.length - j))) ndZ)) 0 (List.flatMap AV.cells (List.map ndA (l.take i))) =
      List.flatMap AV.cells (List.map ndA (l.take i)) ++ (List.flatMap AV.cells (List.replicate (i + (xs.length + (l.length - j))) ndZ)).drop (i * 8) := by
    have := splice_app (A := []) (B := List.flatMap AV.cells (List.replicate (i + (xs.length + (l.length - j))) ndZ)) (X := List.flatMap AV.cells (List.map ndA (l.take i))) (off := 0) rfl
    rw [l1] at this; exact this
  have s2 : splice (List.flatMap AV.cells (List.map ndA (l.take i)) ++ (List.flatMap AV.cells (List.replicate (i + (xs.length + (l.length - j))) ndZ)).drop (i * 8)) (i * 8) (List.flatMap AV.cells (List.map ndA xs)) =
      List.flatMap AV.cells (List.map ndA (l.take i)) ++ (List.flatMap AV.cells (List.map ndA xs) ++ (List.flatMap AV.cells (List.replicate (i + (xs.length + (l.length - j))) ndZ)).drop (i * 8 + xs.length * 8)) := by
    rw [splice_app l1, l2, List.drop_drop]
  have s3 : splice (List.flatMap AV.cells (List.map ndA (l.take i)) ++ (List.flatMap AV.cells (List.map ndA xs) ++ (List.flatMap AV.cells (List.replicate (i + (xs.length + (l.length - j))) ndZ)).drop (i * 8 + xs.length * 8))) ((i + xs.length) * 8) (List.flatMap AV.cells (List.map ndA (l.drop j))) =
      List.flatMap AV.cells (List.map ndA (layN l i j xs)) := by
    rw [← List.append_assoc, splice_app (by rw [List.length_append, l1, l2]; omega), l3, List.drop_drop, show List.drop (i * 8 + xs.length * 8 + (l.length - j) * 8) (List.flatMap AV.cells (List.replicate (i + (xs.length + (l.length - j))) ndZ)) = [] from List.drop_of_length_le (by rw [lz]; omega)]
    simp [layN, List.append_assoc]
  repeat' first | ((first | refine aw_region_mix (id := 4) [.free, .free, .pure 0, .free, .free, .pure 0, .eff [false, false]] mixedF rfl (by kernel_rfl) (by kernel_rfl) ?_ | refine callP_false (.bool false) ?_ | refine aw_region rfl ?_ | refine aw_region_draw mixedF rfl (by kernel_rfl) ?_ | refine aE rfl ?_); simp only [go_sem, e1, e2, t1, t2, n1, n2, ← hz, s1, s2, s3, l1, l2, l3, lz, one_nd', cells_ndT, List.length_drop]) | refine callG_y ?_ | refine callG_p ?_ | refine aw_seq ?_ | refine aw_block ?_ | refine aw_scope ?_ | (refine aw_cond rfl (fun h => ?_) (fun h => ?_) <;> try (exfalso; first | (simp at h; done) | (simp at h; omega))) | ((with_reducible refine And.intro ?_ ?_); focus (first | omega | (intros; simp_all; done) | (simp; omega)))
  have hlen := layN_len l i j xs hij hj
  exact doneOsl (cs := List.flatMap AV.cells (List.map ndA (layN l i j xs))) (es := (layN l i j xs).map ndA) (rest := []) (Nat.le_refl _) (by simp only [go_sem]) (List.append_nil _).symm (by rw [List.length_map]; omega) (cells_nd _) (pur_nd _) rfl

theorem tsame_c (b : Bool) (l : List Nd) (hl : l.length ≤ 1000000000) (H : AHeap) : FnC Tryz.prog 76 [.sl b (l.map ndA)] H (.sl false (l.map ndA)) := by
  refine fnC_of Tryz.func76 rfl (Nat.le_of_ble_eq_true rfl) ?_
  have hlay := lay_c b true l [] l.length l.length (Nat.le_refl _) (Nat.le_refl _) (by simp; omega) H
  have e : layN l l.length l.length [] = l := by simp [layN]
  rw [e] at hlay
  repeat' first | ((first | refine callK_fn (hlay) callOk79F ?_ | refine callP_fn (hlay) callOk79F ?_ | refine callM_fn (fun _ => hlay) callOk79F ?_ | refine callP_false (.bool false) ?_ | refine aw_region rfl ?_ | refine aw_region_draw mixedF rfl (by kernel_rfl) ?_ | refine aE rfl ?_); simp only [go_sem]) | refine callG_y ?_ | refine callG_p ?_ | refine aw_seq ?_ | refine aw_block ?_ | refine aw_scope ?_ | (refine aw_cond rfl (fun h => ?_) (fun h => ?_) <;> try (exfalso; first | (simp at h; done) | (simp at h; omega))) | ((with_reducible refine And.intro ?_ ?_); focus (first | omega | (intros; simp_all; done) | (simp; omega)))
  exact done0 (by simp only [go_sem]) (.refl _)
end Go.Proofs.YtmknmapgfjmioaaGreatDoor
/- What the functions of the tree answer: Do, Back. No condition. -/
namespace Go.Proofs.YtmknmapgfjmioaaGreatDoor
open Go Go.Aw Go.Gw
set_option linter.unusedSimpArgs false
set_option maxHeartbeats 1000000
set_option maxRecDepth 20000

theorem loops_c (l : List Nd) (o : Opn) (hs : chk l = true) (hl : l.length ≤ 1000000000) (H : AHeap) (i j : Nat) (b : Bool)
    (hi : hget H i = .cells 0 [.int .i64 o.at_.c, .int .i64 o.at_.r, .int .i64 o.kind, .int .i64 o.node, .int .i64 o.parent, .str o.name, .str o.data]) (hj : hget H j = .cells 0 [.sl b (l.map ndA)]) :
    FnC Tryz.prog 77 [.ref i 0 0, .ref j 0 0] H (.bool (loopsI l o)) := by
  refine fnC_of Tryz.func77 rfl (Nat.le_of_ble_eq_true rfl) ?_
  have hab := above_c b l o.parent hs (by omega) H
  repeat' first | ((first | refine callK_fn (hab) callOk54F ?_ | refine callP_fn (hab) callOk54F ?_ | refine callM_fn (fun _ => hab) callOk54F ?_ | refine cK (ct (hasInt_c _ _ _) callOk60F) ?_ | refine cP (ct (hasInt_c _ _ _) callOk60F) ?_ | refine cM (ct (hasInt_c _ _ _) callOk60F) ?_ | refine callP_false (.bool false) ?_ | refine aw_region rfl ?_ | refine aw_region_draw mixedF rfl (by kernel_rfl) ?_ | refine aE rfl ?_); simp only [go_sem, hi, hj]) | refine callG_y ?_ | refine callG_p ?_ | refine aw_seq ?_ | refine aw_block ?_ | refine aw_scope ?_ | (refine aw_cond rfl (fun h => ?_) (fun h => ?_) <;> try (exfalso; first | (simp at h; done) | (simp at h; omega))) | ((with_reducible refine And.intro ?_ ?_); focus (first | omega | (intros; simp_all; done) | (simp; omega)))
  refine done0 (by simp only [go_sem]) (.of ?_)
  rw [loopsI]

theorem do_c (b : Bool) (l : List Nd) (o : Opn) (hs : OpS o) (hl : l.length ≤ 1000000000) (H : AHeap) : FnC Tryz.prog 52 [.sl b (l.map ndA), opA o] H (.tup [.sl false ((doL l o).map ndA), unA (doU l o)]) := by
  refine fnC_of Tryz.func52 rfl (Nat.le_of_ble_eq_true rfl) ?_
  have hok := opOk_c o hs
  have hsm := tsame_c b l hl
  simp only [opA] at hok ⊢
  cases hc : chk l with
  | false =>
    have hr : refused l o = true := by simp [refused, hc]
    rw [doL, if_pos hr, doU, if_pos hr]
    have ct0 := ct hok callOk46F; have ct1 := ct hsm callOk76F; repeat' first | ((first | refine cK (by assumption) ?_ | refine cP (by assumption) ?_ | refine cM (by assumption) ?_ | refine cK (ct (chk_c _ _) callOk53F) ?_ | refine cP (ct (chk_c _ _) callOk53F) ?_ | refine cM (ct (chk_c _ _) callOk53F) ?_ | refine aw_region_mix (id := 15) [.pure 0, .pure 0, .pure 0, .pure 0, .pure 0, .pure 0, .pure 0, .eff [false, true, true, true, true, false, false], .pure 0, .eff [false, true, true, false, false], .pure 0, .eff [false, false, false]] mixedF rfl (by kernel_rfl) (by kernel_rfl) ?_ | refine aw_region_mix (id := 16) [.pure 0, .pure 0, .pure 0, .pure 0, .pure 0, .eff [false, true, true, false, false], .pure 0, .eff [false, false, false]] mixedF rfl (by kernel_rfl) (by kernel_rfl) ?_ | refine aw_region_mix (id := 17) [.pure 0, .free, .free, .pure 0, .free, .pure 0, .pure 0, .free, .eff [false, false, false, false]] mixedF rfl (by kernel_rfl) (by kernel_rfl) ?_ | refine callP_false (.bool false) ?_ | refine aw_region rfl ?_ | refine aw_region_draw mixedF rfl (by kernel_rfl) ?_ | refine aE rfl ?_); simp only [go_sem, hc]) | refine callG_y ?_ | refine callG_p ?_ | refine aw_seq ?_ | refine aw_block ?_ | refine aw_scope ?_ | (refine aw_cond rfl (fun h => ?_) (fun h => ?_) <;> try (exfalso; first | (simp at h; done) | (simp at h; omega))) | ((with_reducible refine And.intro ?_ ?_); focus (first | omega | (intros; simp_all; done) | (simp; omega)))
    exact done (by simp only [go_sem]) (.refl _)
  | true =>
    cases ho : opOk o with
    | false =>
      have hr : refused l o = true := by simp [refused, ho]
      rw [doL, if_pos hr, doU, if_pos hr]
      have ct0 := ct hok callOk46F; have ct1 := ct hsm callOk76F; repeat' first | ((first | refine cK (by assumption) ?_ | refine cP (by assumption) ?_ | refine cM (by assumption) ?_ | refine cK (ct (chk_c _ _) callOk53F) ?_ | refine cP (ct (chk_c _ _) callOk53F) ?_ | refine cM (ct (chk_c _ _) callOk53F) ?_ | refine aw_region_mix (id := 15) [.pure 0, .pure 0, .pure 0, .pure 0, .pure 0, .pure 0, .pure 0, .eff [false, true, true, true, true, false, false], .pure 0, .eff [false, true, true, false, false], .pure 0, .eff [false, false, false]] mixedF rfl (by kernel_rfl) (by kernel_rfl) ?_ | refine aw_region_mix (id := 16) [.pure 0, .pure 0, .pure 0, .pure 0, .pure 0, .eff [false, true, true, false, false], .pure 0, .eff [false, false, false]] mixedF rfl (by kernel_rfl) (by kernel_rfl) ?_ | refine aw_region_mix (id := 17) [.pure 0, .free, .free, .pure 0, .free, .pure 0, .pure 0, .free, .eff [false, false, false, false]] mixedF rfl (by kernel_rfl) (by kernel_rfl) ?_ | refine callP_false (.bool false) ?_ | refine aw_region rfl ?_ | refine aw_region_draw mixedF rfl (by kernel_rfl) ?_ | refine aE rfl ?_); simp only [go_sem, hc, ho]) | refine callG_y ?_ | refine callG_p ?_ | refine aw_seq ?_ | refine aw_block ?_ | refine aw_scope ?_ | (refine aw_cond rfl (fun h => ?_) (fun h => ?_) <;> try (exfalso; first | (simp at h; done) | (simp at h; omega))) | ((with_reducible refine And.intro ?_ ?_); focus (first | omega | (intros; simp_all; done) | (simp; omega)))
      exact done (by simp only [go_sem]) (.refl _)
    | true =>
      have hpl := place_c b l o.node hc
      have hlay := lay_c b true l
      have hup := upto_le l o.node hc
      have hlc := fun H i j hi hj => loops_c l o hc hl H i j b hi hj
      by_cases hk : o.kind = 1
      · have hkd : decide (o.kind = 1) = true := decide_eq_true hk
        cases hlp : loopsI l o with
        | true =>
          have hr : refused l o = true := by simp [refused, hk, hlp]
          rw [doL, if_pos hr, doU, if_pos hr]
          have ct0 := ct hok callOk46F; have ct1 := ct hsm callOk76F; repeat' first | ((first | refine cK (by assumption) ?_ | refine cP (by assumption) ?_ | refine cM (by assumption) ?_ | refine cK (ct (chk_c _ _) callOk53F) ?_ | refine cP (ct (chk_c _ _) callOk53F) ?_ | refine cM (ct (chk_c _ _) callOk53F) ?_ | refine callK_cap (hlc _ _ _ (by simp only [go_sem, hc, ho, hkd, hlp]) (by simp only [go_sem, hc, ho, hkd, hlp])) callOk77F ?_ | refine callP_cap (fun _ => hlc _ _ _ (by simp only [go_sem, hc, ho, hkd, hlp]) (by simp only [go_sem, hc, ho, hkd, hlp])) callOk77F ?_ | refine callM_cap (fun _ => hlc _ _ _ (by simp only [go_sem, hc, ho, hkd, hlp]) (by simp only [go_sem, hc, ho, hkd, hlp])) callOk77F ?_ | refine aw_region_mix (id := 15) [.pure 0, .pure 0, .pure 0, .pure 0, .pure 0, .pure 0, .pure 0, .eff [false, true, true, true, true, false, false], .pure 0, .eff [false, true, true, false, false], .pure 0, .eff [false, false, false]] mixedF rfl (by kernel_rfl) (by kernel_rfl) ?_ | refine aw_region_mix (id := 16) [.pure 0, .pure 0, .pure 0, .pure 0, .pure 0, .eff [false, true, true, false, false], .pure 0, .eff [false, false, false]] mixedF rfl (by kernel_rfl) (by kernel_rfl) ?_ | refine aw_region_mix (id := 17) [.pure 0, .free, .free, .pure 0, .free, .pure 0, .pure 0, .free, .eff [false, false, false, false]] mixedF rfl (by kernel_rfl) (by kernel_rfl) ?_ | refine callP_false (.bool false) ?_ | refine aw_region rfl ?_ | refine aw_region_draw mixedF rfl (by kernel_rfl) ?_ | refine aE rfl ?_); simp only [go_sem, hc, ho, hkd, hlp]) | refine callG_y ?_ | refine callG_p ?_ | refine aw_seq ?_ | refine aw_block ?_ | refine aw_scope ?_ | (refine aw_cond rfl (fun h => ?_) (fun h => ?_) <;> try (exfalso; first | (simp at h; done) | (simp at h; omega))) | ((with_reducible refine And.intro ?_ ?_); focus (first | omega | (intros; simp_all; done) | (simp; omega)))
          exact done (by simp only [go_sem]) (.refl _)
        | false =>
          have hr : ¬ refused l o = true := by simp [refused, hc, ho, hlp]
          cases hh : had l o.node with
          | true =>
            have hlt := had_lt hc hh
            have hp := getD_map ndA hlt
            have hw := wrap_succ hlt (show l.length ≤ 9223372036854775807 by omega)
            have hf := fnd_had hc hh
            have e : nodeNew l o = ⟨l[pos l o.node].id, o.parent, o.name, o.at_, l[pos l o.node].data, l[pos l o.node].wrote⟩ := by
              unfold nodeNew nodeWas
              rw [if_pos hk, hf]
            have eu : upto l o.node = pos l o.node + 1 := by rw [upto, if_pos hh]
            rw [eu] at hup
            have hl1 := hlay [⟨l[pos l o.node].id, o.parent, o.name, o.at_, l[pos l o.node].data, l[pos l o.node].wrote⟩] (pos l o.node) (pos l o.node + 1) hup.1 hup.2 (by simp; omega)
            simp only [List.map_cons, List.map_nil, ndA] at hl1
            rw [doL, if_neg hr, doU, if_neg hr, e, eu, hf]
            have ct0 := ct hok callOk46F; have ct1 := ct hpl callOk78F; have ct2 := ct hl1 callOk79F; repeat' first | ((first | refine cK (by assumption) ?_ | refine cP (by assumption) ?_ | refine cM (by assumption) ?_ | refine cK (ct (chk_c _ _) callOk53F) ?_ | refine cP (ct (chk_c _ _) callOk53F) ?_ | refine cM (ct (chk_c _ _) callOk53F) ?_ | refine callK_cap (hlc _ _ _ (by simp only [go_sem, hc, ho, hkd, hh, hlp, hp, hw, ndA]) (by simp only [go_sem, hc, ho, hkd, hh, hlp, hp, hw, ndA])) callOk77F ?_ | refine callP_cap (fun _ => hlc _ _ _ (by simp only [go_sem, hc, ho, hkd, hh, hlp, hp, hw, ndA]) (by simp only [go_sem, hc, ho, hkd, hh, hlp, hp, hw, ndA])) callOk77F ?_ | refine callM_cap (fun _ => hlc _ _ _ (by simp only [go_sem, hc, ho, hkd, hh, hlp, hp, hw, ndA]) (by simp only [go_sem, hc, ho, hkd, hh, hlp, hp, hw, ndA])) callOk77F ?_ | refine aw_region_mix (id := 15) [.pure 0, .pure 0, .pure 0, .pure 0, .pure 0, .pure 0, .pure 0, .eff [false, true, true, true, true, false, false], .pure 0, .eff [false, true, true, false, false], .pure 0, .eff [false, false, false]] mixedF rfl (by kernel_rfl) (by kernel_rfl) ?_ | refine aw_region_mix (id := 16) [.pure 0, .pure 0, .pure 0, .pure 0, .pure 0, .eff [false, true, true, false, false], .pure 0, .eff [false, false, false]] mixedF rfl (by kernel_rfl) (by kernel_rfl) ?_ | refine aw_region_mix (id := 17) [.pure 0, .free, .free, .pure 0, .free, .pure 0, .pure 0, .free, .eff [false, false, false, false]] mixedF rfl (by kernel_rfl) (by kernel_rfl) ?_ | refine callP_false (.bool false) ?_ | refine aw_region rfl ?_ | refine aw_region_draw mixedF rfl (by kernel_rfl) ?_ | refine aE rfl ?_); simp only [go_sem, hc, ho, hkd, hh, hlp, hp, hw, ndA]) | refine callG_y ?_ | refine callG_p ?_ | refine aw_seq ?_ | refine aw_block ?_ | refine aw_scope ?_ | (refine aw_cond rfl (fun h => ?_) (fun h => ?_) <;> try (exfalso; first | (simp at h; done) | (simp at h; omega))) | ((with_reducible refine And.intro ?_ ?_); focus (first | omega | (intros; simp_all; done) | (simp; omega)))
            exact done (by simp only [go_sem]) (.of (by simp only [unA, hh]; rfl))
          | false =>
            have hf := fnd_no hh
            have e : nodeNew l o = ⟨o.node, o.parent, o.name, o.at_, [], st0⟩ := by
              unfold nodeNew nodeWas
              rw [if_pos hk, hf]; rfl
            have eu : upto l o.node = pos l o.node := by rw [upto, if_neg (by rw [hh]; decide)]
            rw [eu] at hup
            have hl1 := hlay [⟨o.node, o.parent, o.name, o.at_, [], st0⟩] (pos l o.node) (pos l o.node) hup.1 hup.2 (by simp; omega)
            simp only [List.map_cons, List.map_nil, ndA] at hl1
            rw [doL, if_neg hr, doU, if_neg hr, e, eu, hf]
            have ct0 := ct hok callOk46F; have ct1 := ct hpl callOk78F; have ct2 := ct hl1 callOk79F; repeat' first | ((first | refine cK (by assumption) ?_ | refine cP (by assumption) ?_ | refine cM (by assumption) ?_ | refine cK (ct (chk_c _ _) callOk53F) ?_ | refine cP (ct (chk_c _ _) callOk53F) ?_ | refine cM (ct (chk_c _ _) callOk53F) ?_ | refine callK_cap (hlc _ _ _ (by simp only [go_sem, hc, ho, hkd, hh, hlp]) (by simp only [go_sem, hc, ho, hkd, hh, hlp])) callOk77F ?_ | refine callP_cap (fun _ => hlc _ _ _ (by simp only [go_sem, hc, ho, hkd, hh, hlp]) (by simp only [go_sem, hc, ho, hkd, hh, hlp])) callOk77F ?_ | refine callM_cap (fun _ => hlc _ _ _ (by simp only [go_sem, hc, ho, hkd, hh, hlp]) (by simp only [go_sem, hc, ho, hkd, hh, hlp])) callOk77F ?_ | refine aw_region_mix (id := 15) [.pure 0, .pure 0, .pure 0, .pure 0, .pure 0, .pure 0, .pure 0, .eff [false, true, true, true, true, false, false], .pure 0, .eff [false, true, true, false, false], .pure 0, .eff [false, false, false]] mixedF rfl (by kernel_rfl) (by kernel_rfl) ?_ | refine aw_region_mix (id := 16) [.pure 0, .pure 0, .pure 0, .pure 0, .pure 0, .eff [false, true, true, false, false], .pure 0, .eff [false, false, false]] mixedF rfl (by kernel_rfl) (by kernel_rfl) ?_ | refine aw_region_mix (id := 17) [.pure 0, .free, .free, .pure 0, .free, .pure 0, .pure 0, .free, .eff [false, false, false, false]] mixedF rfl (by kernel_rfl) (by kernel_rfl) ?_ | refine callP_false (.bool false) ?_ | refine aw_region rfl ?_ | refine aw_region_draw mixedF rfl (by kernel_rfl) ?_ | refine aE rfl ?_); simp only [go_sem, hc, ho, hkd, hh, hlp]) | refine callG_y ?_ | refine callG_p ?_ | refine aw_seq ?_ | refine aw_block ?_ | refine aw_scope ?_ | (refine aw_cond rfl (fun h => ?_) (fun h => ?_) <;> try (exfalso; first | (simp at h; done) | (simp at h; omega))) | ((with_reducible refine And.intro ?_ ?_); focus (first | omega | (intros; simp_all; done) | (simp; omega)))
            exact done (by simp only [go_sem]) (.of (by simp only [unA, hh]; rfl))
      · have hkd : decide (o.kind = 1) = false := decide_eq_false hk
        have hr : ¬ refused l o = true := by simp [refused, hc, ho, hk]
        cases hh : had l o.node with
        | true =>
          have hlt := had_lt hc hh
          have hp := getD_map ndA hlt
          have hw := wrap_succ hlt (show l.length ≤ 9223372036854775807 by omega)
          have hf := fnd_had hc hh
          have e : nodeNew l o = ⟨l[pos l o.node].id, l[pos l o.node].parent, l[pos l o.node].name, l[pos l o.node].moved, o.data, o.at_⟩ := by
            unfold nodeNew nodeWas
            rw [if_neg hk, hf]
          have eu : upto l o.node = pos l o.node + 1 := by rw [upto, if_pos hh]
          rw [eu] at hup
          have hl1 := hlay [⟨l[pos l o.node].id, l[pos l o.node].parent, l[pos l o.node].name, l[pos l o.node].moved, o.data, o.at_⟩] (pos l o.node) (pos l o.node + 1) hup.1 hup.2 (by simp; omega)
          simp only [List.map_cons, List.map_nil, ndA] at hl1
          rw [doL, if_neg hr, doU, if_neg hr, e, eu, hf]
          have ct0 := ct hok callOk46F; have ct1 := ct hpl callOk78F; have ct2 := ct hl1 callOk79F; repeat' first | ((first | refine cK (by assumption) ?_ | refine cP (by assumption) ?_ | refine cM (by assumption) ?_ | refine cK (ct (chk_c _ _) callOk53F) ?_ | refine cP (ct (chk_c _ _) callOk53F) ?_ | refine cM (ct (chk_c _ _) callOk53F) ?_ | refine aw_region_mix (id := 15) [.pure 0, .pure 0, .pure 0, .pure 0, .pure 0, .pure 0, .pure 0, .eff [false, true, true, true, true, false, false], .pure 0, .eff [false, true, true, false, false], .pure 0, .eff [false, false, false]] mixedF rfl (by kernel_rfl) (by kernel_rfl) ?_ | refine aw_region_mix (id := 16) [.pure 0, .pure 0, .pure 0, .pure 0, .pure 0, .eff [false, true, true, false, false], .pure 0, .eff [false, false, false]] mixedF rfl (by kernel_rfl) (by kernel_rfl) ?_ | refine aw_region_mix (id := 17) [.pure 0, .free, .free, .pure 0, .free, .pure 0, .pure 0, .free, .eff [false, false, false, false]] mixedF rfl (by kernel_rfl) (by kernel_rfl) ?_ | refine callP_false (.bool false) ?_ | refine aw_region rfl ?_ | refine aw_region_draw mixedF rfl (by kernel_rfl) ?_ | refine aE rfl ?_); simp only [go_sem, hc, ho, hkd, hh, hp, hw, ndA]) | refine callG_y ?_ | refine callG_p ?_ | refine aw_seq ?_ | refine aw_block ?_ | refine aw_scope ?_ | (refine aw_cond rfl (fun h => ?_) (fun h => ?_) <;> try (exfalso; first | (simp at h; done) | (simp at h; omega))) | ((with_reducible refine And.intro ?_ ?_); focus (first | omega | (intros; simp_all; done) | (simp; omega)))
          exact done (by simp only [go_sem]) (.of (by simp only [unA, hh]; rfl))
        | false =>
          have hf := fnd_no hh
          have e : nodeNew l o = ⟨o.node, -1, [], st0, o.data, o.at_⟩ := by
            unfold nodeNew nodeWas
            rw [if_neg hk, hf]; rfl
          have eu : upto l o.node = pos l o.node := by rw [upto, if_neg (by rw [hh]; decide)]
          rw [eu] at hup
          have hl1 := hlay [⟨o.node, -1, [], st0, o.data, o.at_⟩] (pos l o.node) (pos l o.node) hup.1 hup.2 (by simp; omega)
          simp only [List.map_cons, List.map_nil, ndA] at hl1
          rw [doL, if_neg hr, doU, if_neg hr, e, eu, hf]
          have ct0 := ct hok callOk46F; have ct1 := ct hpl callOk78F; have ct2 := ct hl1 callOk79F; repeat' first | ((first | refine cK (by assumption) ?_ | refine cP (by assumption) ?_ | refine cM (by assumption) ?_ | refine cK (ct (chk_c _ _) callOk53F) ?_ | refine cP (ct (chk_c _ _) callOk53F) ?_ | refine cM (ct (chk_c _ _) callOk53F) ?_ | refine aw_region_mix (id := 15) [.pure 0, .pure 0, .pure 0, .pure 0, .pure 0, .pure 0, .pure 0, .eff [false, true, true, true, true, false, false], .pure 0, .eff [false, true, true, false, false], .pure 0, .eff [false, false, false]] mixedF rfl (by kernel_rfl) (by kernel_rfl) ?_ | refine aw_region_mix (id := 16) [.pure 0, .pure 0, .pure 0, .pure 0, .pure 0, .eff [false, true, true, false, false], .pure 0, .eff [false, false, false]] mixedF rfl (by kernel_rfl) (by kernel_rfl) ?_ | refine aw_region_mix (id := 17) [.pure 0, .free, .free, .pure 0, .free, .pure 0, .pure 0, .free, .eff [false, false, false, false]] mixedF rfl (by kernel_rfl) (by kernel_rfl) ?_ | refine callP_false (.bool false) ?_ | refine aw_region rfl ?_ | refine aw_region_draw mixedF rfl (by kernel_rfl) ?_ | refine aE rfl ?_); simp only [go_sem, hc, ho, hkd, hh]) | refine callG_y ?_ | refine callG_p ?_ | refine aw_seq ?_ | refine aw_block ?_ | refine aw_scope ?_ | (refine aw_cond rfl (fun h => ?_) (fun h => ?_) <;> try (exfalso; first | (simp at h; done) | (simp at h; omega))) | ((with_reducible refine And.intro ?_ ?_); focus (first | omega | (intros; simp_all; done) | (simp; omega)))
          exact done (by simp only [go_sem]) (.of (by simp only [unA, hh]; rfl))
end Go.Proofs.YtmknmapgfjmioaaGreatDoor
/- What the functions of the logs answer: the step of Add. No condition. -/
namespace Go.Aw
theorem hset_len (H : AHeap) (i : Nat) (b : ABlk) : (hset H i b).length = H.length := by simp [hset]
theorem hget_set_eq {H : AHeap} {i : Nat} (h : i < H.length) (b : ABlk) : hget (hset H i b) i = b := by
  simp only [hget, hset, List.getD_eq_getElem?_getD]; rw [List.getElem?_set_self h]; rfl
end Go.Aw
namespace Go.Proofs.YtmknmapgfjmioaaGreatDoor
open Go Go.Aw Go.Gw
set_option linter.unusedSimpArgs false
set_option maxRecDepth 20000
set_option maxHeartbeats 1000000

end Go.Proofs.YtmknmapgfjmioaaGreatDoor
/- What the functions of the logs answer: Add. No condition. -/
namespace Go.Aw
open Go
variable {P : Program}
def cutQ {ι : Type} (F : ι → AF) (Hp : ι → AHeap) (pre : ι → Prop) (Q : APost) : APost
  | .normal, α, H => ∃ y, pre y ∧ subA (F y) α ∧ H = Hp y
  | e, α, H => Q e α H
section
variable {ι : Type} (F : ι → AF) (Hp : ι → AHeap) (pre : ι → Prop) (Q : APost) (α : AF) (H : AHeap)
@[go_sem] theorem cutQ_normal : cutQ F Hp pre Q .normal α H = ∃ y, pre y ∧ subA (F y) α ∧ H = Hp y := rfl
@[go_sem] theorem cutQ_exit (i : Nat) : cutQ F Hp pre Q (.exit i) α H = Q (.exit i) α H := rfl
@[go_sem] theorem cutQ_ret : cutQ F Hp pre Q .ret α H = Q .ret α H := rfl
end
theorem aw_cutB {N id : Nat} {x y : Code} {Q : APost} {α : AF} {H : AHeap} {ι : Type} (F : ι → AF) (Hp : ι → AHeap) (pre : ι → Prop) (h1 : aw P N x (blockQ id (cutQ F Hp pre Q)) α H) (h2 : ∀ i, pre i → aw P N y Q (F i) (Hp i)) : aw P N x (blockQ id (thenQ P N y Q)) α H := by
  refine aw_mono h1 fun e α' H' h => ?_
  have key : cutQ F Hp pre Q .normal α' H' → thenQ P N y Q .normal α' H' := fun ⟨i, hp, hs, hH⟩ => by subst hH; exact aw_weaken (h2 i hp) (subA_look hs)
  cases e with
  | normal => exact key h
  | exit i =>
    simp only [blockQ] at h ⊢
    by_cases hi : i == id
    · rw [hi, cond_true] at h ⊢; exact key h
    · have hi' : (i == id) = false := by simpa using hi
      rw [hi', cond_false] at h ⊢; exact h
  | _ => exact h
end Go.Aw
namespace Go.Proofs.YtmknmapgfjmioaaGreatDoor
open Go Go.Aw Go.Gw
set_option linter.unusedSimpArgs false
set_option maxRecDepth 20000
set_option maxHeartbeats 1000000

def opCells (o : Opn) : List AV := [.int .i64 o.at_.c, .int .i64 o.at_.r, .int .i64 o.kind, .int .i64 o.node, .int .i64 o.parent, .str o.name, .str o.data]
theorem pre_set {H X : AHeap} {i : Nat} (h : ∃ M, X = H ++ M) (hi : H.length ≤ i) (b : ABlk) : ∃ M, hset X i b = H ++ M := by
  obtain ⟨M, rfl⟩ := h
  obtain ⟨k, rfl⟩ : ∃ k, i = H.length + k := ⟨i - H.length, by omega⟩
  exact ⟨M.set k b, hset_app _ _ _ _⟩
theorem pre_app {H X : AHeap} (h : ∃ M, X = H ++ M) (L : AHeap) : ∃ M, X ++ L = H ++ M := by
  obtain ⟨M, rfl⟩ := h; exact ⟨M ++ L, List.append_assoc ..⟩

end Go.Proofs.YtmknmapgfjmioaaGreatDoor
/- Sorting that keeps the order of what is alike: lists, with no program in sight. No condition. -/
namespace Go.Srt
section
variable {α : Type} (lt : α → α → Bool)

structure SWO : Prop where
  irr : ∀ a, lt a a = false
  ntr : ∀ a b c, lt a b = false → lt b c = false → lt a c = false
  asy : ∀ a b, lt a b = true → lt b a = false

/-- Alike. -/
def eqv (k x : α) : Bool := !lt k x && !lt x k
theorem eqv_t {k x : α} : eqv lt k x = true ↔ lt k x = false ∧ lt x k = false := by simp [eqv]
/-- In order. -/
def Sd (l : List α) : Prop := l.Pairwise (fun a b => lt b a = false)
/-- The same members, and those that are alike in the same order. -/
def Fs (xs ys : List α) : Prop := ys.length = xs.length ∧ ∀ k, ys.filter (eqv lt k) = xs.filter (eqv lt k)

variable {lt}
theorem SWO.ltr (h : SWO lt) {a b c : α} (h1 : lt a b = true) (h2 : lt c b = false) : lt a c = true := by
  cases h3 : lt a c with
  | true => rfl
  | false => rw [h.ntr a c b h3 h2] at h1; cases h1
theorem SWO.rtr (h : SWO lt) {a b c : α} (h1 : lt b a = false) (h2 : lt b c = true) : lt a c = true := by
  cases h3 : lt a c with
  | true => rfl
  | false => rw [h.ntr b a c h1 h3] at h2; cases h2
theorem Fs.refl (xs : List α) : Fs lt xs xs := ⟨rfl, fun _ => rfl⟩
theorem Fs.trans {a b c : List α} (h : Fs lt a b) (k : Fs lt b c) : Fs lt a c := ⟨k.1.trans h.1, fun x => (k.2 x).trans (h.2 x)⟩
theorem Fs.app {a b c d : List α} (h : Fs lt a b) (k : Fs lt c d) : Fs lt (a ++ c) (b ++ d) :=
  ⟨by rw [List.length_append, List.length_append, h.1, k.1], fun x => by rw [List.filter_append, List.filter_append, h.2, k.2]⟩
theorem Fs.mem {a b : List α} (hw : SWO lt) (h : Fs lt a b) (x : α) : x ∈ b ↔ x ∈ a := by
  have e : eqv lt x x = true := eqv_t lt |>.2 ⟨hw.irr x, hw.irr x⟩
  have := h.2 x
  have m1 : x ∈ b.filter (eqv lt x) ↔ x ∈ b := by rw [List.mem_filter]; simp [e]
  have m2 : x ∈ a.filter (eqv lt x) ↔ x ∈ a := by rw [List.mem_filter]; simp [e]
  rw [← m1, ← m2, this]

/-- What is behind, and strictly ahead in the order, may be put ahead. -/
theorem Fs.swap (hw : SWO lt) {A B : List α} (h : ∀ a ∈ A, ∀ b ∈ B, lt b a = true) : Fs lt (A ++ B) (B ++ A) := by
  refine ⟨by rw [List.length_append, List.length_append, Nat.add_comm], fun k => ?_⟩
  rw [List.filter_append, List.filter_append]
  by_cases hA : A.filter (eqv lt k) = []
  · rw [hA, List.append_nil, List.nil_append]
  · obtain ⟨a, ha⟩ := List.exists_mem_of_ne_nil _ hA
    rw [List.mem_filter] at ha
    have hB : B.filter (eqv lt k) = [] := by
      rw [List.filter_eq_nil_iff]
      intro b hb e
      have e1 := (eqv_t lt).1 e
      have e2 := (eqv_t lt).1 ha.2
      have := hw.ntr b k a e1.2 e2.1
      rw [h a ha.1 b hb] at this; cases this
    rw [hB, List.append_nil, List.nil_append]

theorem Sd.app {a b : List α} (ha : Sd lt a) (hb : Sd lt b) (h : ∀ x ∈ a, ∀ y ∈ b, lt y x = false) : Sd lt (a ++ b) := List.pairwise_append.2 ⟨ha, hb, h⟩
theorem Sd.left {a b : List α} (h : Sd lt (a ++ b)) : Sd lt a := (List.pairwise_append.1 h).1
theorem Sd.right {a b : List α} (h : Sd lt (a ++ b)) : Sd lt b := (List.pairwise_append.1 h).2.1
theorem Sd.cross {a b : List α} (h : Sd lt (a ++ b)) : ∀ x ∈ a, ∀ y ∈ b, lt y x = false := (List.pairwise_append.1 h).2.2
theorem Sd.nil : Sd lt ([] : List α) := List.Pairwise.nil
theorem Sd.one (x : α) : Sd lt [x] := List.pairwise_singleton _ _
theorem Sd.get {l : List α} (h : Sd lt l) {i j : Nat} (hij : i < j) (hj : j < l.length) : lt l[j] (l[i]'(by omega)) = false := List.pairwise_iff_getElem.1 h i j (by omega) hj hij

/-- One more, behind those that are not behind it, and ahead of those that are. -/
theorem ins_sd (hw : SWO lt) {S1 S2 : List α} {x : α} (hs : Sd lt (S1 ++ S2)) (h2 : ∀ s ∈ S2, lt x s = true) (h1 : ∀ s ∈ S1, lt x s = false) : Sd lt (S1 ++ x :: S2) := by
  refine Sd.app hs.left (List.pairwise_cons.2 ⟨fun s hsm => hw.asy _ _ (h2 s hsm), hs.right⟩) fun a ha y hy => ?_
  rcases List.mem_cons.1 hy with rfl | hy
  · exact h1 a ha
  · exact hs.cross a ha y hy
theorem ins_fs (hw : SWO lt) {S1 S2 : List α} {x : α} (h2 : ∀ s ∈ S2, lt x s = true) : Fs lt (S1 ++ S2 ++ [x]) (S1 ++ x :: S2) := by
  have h : Fs lt (S2 ++ [x]) ([x] ++ S2) := Fs.swap hw fun a ha b hb => by rw [List.mem_singleton] at hb; subst hb; exact h2 a ha
  have := (Fs.refl (lt := lt) S1).app h
  rw [List.append_assoc]; exact this
/-- In a list in order, what is not behind its last is behind none. -/
theorem sd_last (hw : SWO lt) {S : List α} {x y : α} (hs : Sd lt (S ++ [y])) (h : lt x y = false) : ∀ s ∈ S ++ [y], lt x s = false := by
  intro s hm
  rcases List.mem_append.1 hm with hm | hm
  · exact hw.ntr _ _ _ h (hs.cross s hm y (by simp))
  · rw [List.mem_singleton] at hm; subst hm; exact h

/-- The step of the merge: A1 A2 B1 B2, of which A2 and B1 change places. -/
theorem merge_fs (hw : SWO lt) {A1 A2 B1 B2 : List α} (h : ∀ a ∈ A2, ∀ b ∈ B1, lt b a = true) : Fs lt (A1 ++ A2 ++ (B1 ++ B2)) (A1 ++ B1 ++ (A2 ++ B2)) := by
  have h1 := (Fs.refl (lt := lt) A1).app ((Fs.swap hw h).app (Fs.refl (lt := lt) B2))
  have e1 : A1 ++ A2 ++ (B1 ++ B2) = A1 ++ ((A2 ++ B1) ++ B2) := by simp
  have e2 : A1 ++ B1 ++ (A2 ++ B2) = A1 ++ ((B1 ++ A2) ++ B2) := by simp
  rw [e1, e2]; exact h1
theorem merge_sd (hw : SWO lt) {A1 A2 B1 B2 C D : List α} (hC : Sd lt C) (hD : Sd lt D) (fC : Fs lt (A1 ++ B1) C) (fD : Fs lt (A2 ++ B2) D)
    (hA : ∀ x ∈ A1, ∀ y ∈ A2, lt y x = false) (hB : ∀ x ∈ B1, ∀ y ∈ B2, lt y x = false) (h21 : ∀ a ∈ A2, ∀ b ∈ B1, lt b a = true) (h12 : ∀ x ∈ A1, ∀ y ∈ B2, lt y x = false) : Sd lt (C ++ D) := by
  refine hC.app hD fun x hx y hy => ?_
  rw [fC.mem hw, List.mem_append] at hx
  rw [fD.mem hw, List.mem_append] at hy
  rcases hx with hx | hx <;> rcases hy with hy | hy
  · exact hA x hx y hy
  · exact h12 x hx y hy
  · exact hw.asy _ _ (h21 y hy x hx)
  · exact hB x hx y hy

end
end Go.Srt
/- Sorting of operations in memory: elements, ranges, insertion. No condition. -/
namespace Go.Gw
set_option linter.unusedSimpArgs false
open Go Go.Aw Go.Proofs.YtmknmapgfjmioaaGreatDoor

/-- The cells of operations that lie one behind the other. -/
def fl (D : List Opn) : List AV := (D.map opA).flatMap AV.cells
theorem opC_len (o : Opn) : (opCells o).length = 7 := rfl
theorem opC_one (o : Opn) : (opCells o).all AV.one = true := rfl
theorem fl_cons (o : Opn) (D : List Opn) : fl (o :: D) = opCells o ++ fl D := rfl
theorem fl_app (A B : List Opn) : fl (A ++ B) = fl A ++ fl B := by unfold fl; rw [List.map_append, List.flatMap_append]
theorem fl_len (D : List Opn) : (fl D).length = D.length * 7 := by
  induction D with
  | nil => rfl
  | cons o D ih => rw [fl_cons, List.length_append, ih, opC_len, List.length_cons]; omega
theorem fl_get {A : List Opn} {x : Opn} {R : List Opn} {k : Nat} (h : A.length = k) : List.take 7 (List.drop (k * 7) (fl (A ++ x :: R))) = opCells x := by
  rw [fl_app, fl_cons, List.drop_left' (by rw [fl_len, h])]; exact List.take_left' (opC_len x)
theorem fl_set {A : List Opn} {x y : Opn} {R : List Opn} {k : Nat} (h : A.length = k) : splice (fl (A ++ x :: R)) (k * 7) (opCells y) = fl (A ++ y :: R) := by
  have hl : (fl A).length = k * 7 := by rw [fl_len, h]
  rw [fl_app, splice_app hl, fl_app, fl_cons, fl_cons, opC_len, List.drop_left' (opC_len x)]
end Go.Gw
namespace Go.Aw
set_option linter.unusedSimpArgs false
open Go Go.Gw Go.Proofs.YtmknmapgfjmioaaGreatDoor
theorem hset_set (H : AHeap) (i : Nat) (b b' : ABlk) : hset (hset H i b) i b' = hset H i b' := by simp [hset]
theorem hget_of {H : AHeap} {i : Nat} {b : ABlk} (h : hget H i = b) (hb : b.live) (b' : ABlk) : hget (hset H i b') i = b' := hget_set_eq (hget_lt h hb) b'
theorem hset_id {H : AHeap} {i : Nat} {b : ABlk} (h : hget H i = b) (hb : b.live) : hset H i b = H := hset_same (hget_some h hb)
theorem pur_fl (D : List Opn) : ∀ x ∈ fl D, Pur x := by
  intro x hx
  obtain ⟨y, hy, hx⟩ := List.mem_flatMap.1 hx
  exact Pur.cells (pur_opm D y hy) x hx
where
  pur_opm (l : List Opn) : ∀ e ∈ l.map opA, Pur e := fun e he => by
    obtain ⟨x, _, rfl⟩ := List.mem_map.1 he; exact (by simp only [go_sem])
theorem clb_fl (n v : Nat) (D : List Opn) : ClB n (.cells v (fl D)) := fun x hx => (pur_fl D x hx).cl n
theorem hset_cl {H : AHeap} {i n : Nat} {b : ABlk} (hb : ClB n b) : ∀ (j : Nat) (c : ABlk), (hset H i b)[j]? = some c → H[j]? = some c ∨ ClB n c := by
  intro j c hj
  by_cases e : i = j
  · subst e
    unfold hset at hj
    by_cases hl : i < H.length
    · rw [List.getElem?_set_self hl] at hj; cases hj; exact .inr hb
    · rw [List.getElem?_eq_none (by rw [List.length_set]; omega)] at hj; cases hj
  · unfold hset at hj
    rw [List.getElem?_set_ne e] at hj; exact .inl hj
/-- The end of a function that has changed a block, and answers nothing. -/
theorem doneSet {H : AHeap} {i : Nat} {b : ABlk} (hb : ClB H.length b) (R : AV → AHeap → Prop) (hR : R (.tup []) (hset H i b)) :
    ∃ H1 L y, hset H i b = H1 ++ L ∧ H1.length = H.length ∧ (∀ (j : Nat) (c : ABlk), H1[j]? = some c → H[j]? = some c ∨ ClB H.length c) ∧ Frz H.length (hset H i b) (.tup []) y ∧ R y H1 := by
  exact ⟨hset H i b, [], .tup [], (List.append_nil _).symm, hset_len H i b, hset_cl hb, .cl _ (Pur.cl (.tup _ (fun _ h => by cases h)) _), hR⟩
/-- A comparison that is handed in: it looks at nothing but its arguments. -/
def CmpC (P : Program) (f : AV) (c : Opn → Opn → Int) : Prop := ∀ a b H, ACall P f [opA a, opA b] H (fun v H' => v = .int .i64 (c a b) ∧ H' = H)
theorem callP_cmp {P : Program} {g : Bool} {f : AV} {c : Opn → Opn → Int} {a b : Opn} {H : AHeap} {K : AV → Prop} (h : CmpC P f c) (hk : K (.int .i64 (c a b))) : callP P g f [.agg (opCells a), .agg (opCells b)] H K := ⟨_, fun _ => h a b H, hk⟩
def TestC (P : Program) (f : AV) (c : Opn → Opn → Bool) : Prop := ∀ a b H, ACall P f [opA a, opA b] H (fun v H' => v = .bool (c a b) ∧ H' = H)
theorem callP_test {P : Program} {g : Bool} {f : AV} {c : Opn → Opn → Bool} {a b : Opn} {H : AHeap} {K : AV → Prop} (h : TestC P f c) (hk : K (.bool (c a b))) : callP P g f [.agg (opCells a), .agg (opCells b)] H K := ⟨_, fun _ => h a b H, hk⟩
theorem wrap_nat {n : Nat} {m : Int} (h : (n : Int) = m) (hn : n ≤ 9223372036854775807) : IntKind.i64.wrap m = (n : Int) := by subst h; exact wrap_i64 (by omega) (by omega)
/-- Behind a piece of code only what is told here is kept. -/
theorem aw_cutT {P : Program} {N : Nat} {x y : Code} {Q : APost} {α : AF} {H : AHeap} {ι : Type} (F : ι → AF) (Hp : ι → AHeap) (pre : ι → Prop) (h1 : aw P N x (cutQ F Hp pre Q) α H) (h2 : ∀ i, pre i → aw P N y Q (F i) (Hp i)) : aw P N x (thenQ P N y Q) α H := by
  refine aw_mono h1 fun e α' H' h => ?_
  cases e with
  | normal =>
    obtain ⟨i, hp, hs, rfl⟩ := h
    exact aw_weaken (h2 i hp) (subA_look hs)
  | _ => exact h
end Go.Aw
namespace Go.Proofs.YtmknmapgfjmioaaGreatDoor
open Go Go.Aw Go.Gw Go.Srt
set_option linter.unusedSimpArgs false
set_option maxRecDepth 20000
set_option maxHeartbeats 2000000

theorem swapR_c (X U M V Y : List Opn) (hUV : U.length = V.length) (fn : AV) (H : AHeap) (blk v lc : Nat) (hh : hget H blk = .cells v (fl (X ++ (U ++ (M ++ (V ++ Y)))))) (hl : (X ++ (U ++ (M ++ (V ++ Y)))).length ≤ 1000000000) :
    ACalls Tryz.prog 117 [.osl 7 blk v 0 (X ++ (U ++ (M ++ (V ++ Y)))).length lc, .int .i64 X.length, .int .i64 (X.length + (U.length + M.length) : Nat), .int .i64 U.length, fn] H
      (fun r H' => r = .tup [] ∧ H' = hset H blk (.cells v (fl (X ++ (V ++ (M ++ (U ++ Y))))))) := by
  refine acalls_of Tryz.func117 rfl (Nat.le_of_ble_eq_true rfl) ?_
  have hset1 := fun b => hget_of hh trivial b
  have hset2 := hset_set H blk
  generalize hn : (X ++ (U ++ (M ++ (V ++ Y)))).length = n at *
  simp only [List.length_append] at hn
  repeat' first | ((first | refine callP_false (.bool false) ?_ | refine aw_region rfl ?_ | refine aw_region_draw mixedF rfl (by kernel_rfl) ?_ | refine aE rfl ?_); simp only [go_sem]) | refine callG_y ?_ | refine callG_p ?_ | refine aw_seq ?_ | refine aw_block ?_ | refine aw_scope ?_ | (refine aw_cond rfl (fun h => ?_) (fun h => ?_) <;> try (exfalso; first | (simp at h; done) | (simp at h; omega))) | ((with_reducible refine And.intro ?_ ?_); focus (first | omega | (intros; simp_all; done) | (simp; omega)))
  refine aw_loopS (ι := Nat) (fun k => [(0, .osl 7 blk v 0 n lc), (1, .int .i64 X.length), (2, .int .i64 (X.length + (U.length + M.length) : Nat)), (3, .int .i64 U.length), (10, .int .i64 k)])
    (fun k => hset H blk (.cells v (fl ((X ++ V.take k) ++ ((U.drop k ++ M) ++ (U.take k ++ (V.drop k ++ Y))))))) (fun k => k ≤ U.length) (fun k => U.length - k) 0 (Nat.zero_le _) ?_ ?_ ?_
  · simp [go_sem]
  · simp only [List.take_zero, List.drop_zero, List.append_nil, List.nil_append, List.append_assoc]
    exact (hset_id hh trivial).symm
  · intro k hk
    by_cases hlt : k < U.length
    · have hlv : k < V.length := by omega
      have e1 : U.drop k = U[k] :: U.drop (k + 1) := List.drop_eq_getElem_cons hlt
      have e2 : V.drop k = V[k] :: V.drop (k + 1) := List.drop_eq_getElem_cons hlv
      have e3 : U.take (k + 1) = U.take k ++ [U[k]] := List.take_succ_eq_append_getElem hlt
      have e4 : V.take (k + 1) = V.take k ++ [V[k]] := List.take_succ_eq_append_getElem hlv
      have eD : (X ++ V.take (k + 1)) ++ ((U.drop (k + 1) ++ M) ++ (U.take (k + 1) ++ (V.drop (k + 1) ++ Y))) = (X ++ V.take k) ++ V[k] :: (((U.drop (k + 1) ++ M) ++ U.take k) ++ U[k] :: (V.drop (k + 1) ++ Y)) := by rw [e3, e4]; simp only [List.append_assoc, List.cons_append, List.nil_append]
      have eD0 : (X ++ V.take k) ++ ((U.drop k ++ M) ++ (U.take k ++ (V.drop k ++ Y))) = (X ++ V.take k) ++ U[k] :: (((U.drop (k + 1) ++ M) ++ U.take k) ++ V[k] :: (V.drop (k + 1) ++ Y)) := by rw [e1, e2]; simp only [List.append_assoc, List.cons_append, List.nil_append]
      have l1 : (X ++ V.take k).length = X.length + k := by rw [List.length_append, List.length_take]; omega
      have l2 : ((U.drop (k + 1) ++ M) ++ U.take k).length = U.length + M.length - 1 := by simp only [List.length_append, List.length_drop, List.length_take]; omega
      rw [eD0]
      generalize U[k] = x at *
      generalize V[k] = y at *
      generalize X ++ V.take k = A at *
      generalize (U.drop (k + 1) ++ M) ++ U.take k = B at *
      generalize hC : V.drop (k + 1) ++ Y = C at *
      obtain ⟨p, hp⟩ : ∃ p, p = X.length + k := ⟨_, rfl⟩
      obtain ⟨q, hq⟩ : ∃ q, q = X.length + k + 1 + B.length := ⟨_, rfl⟩
      have hw1 : IntKind.i64.wrap ((X.length : Int) + (k : Int)) = (p : Int) := wrap_nat (by omega) (by omega)
      have hw2 : IntKind.i64.wrap (((X.length + (U.length + M.length) : Nat) : Int) + (k : Int)) = (q : Int) := wrap_nat (by omega) (by omega)
      have l3 : (A ++ x :: B).length = q := by rw [List.length_append, List.length_cons]; omega
      have l4 : (A ++ y :: B).length = q := by rw [List.length_append, List.length_cons]; omega
      have g1 := fl_get (x := x) (R := B ++ y :: C) (l1.trans hp.symm)
      have g2 := fl_get (x := y) (R := C) l3
      have s1 := fl_set (x := x) (y := y) (R := B ++ y :: C) (l1.trans hp.symm)
      have s2 := fl_set (x := y) (y := x) (R := C) l4
      rw [List.append_assoc, List.cons_append] at g2 s2
      rw [List.append_assoc, List.cons_append] at s2
      repeat' first | ((first | refine aw_region_mix (id := 3) [.free, .free, .free, .free, .free, .free, .free, .free, .free, .free, .free, .free, .pure 0, .pure 0, .free, .free, .free, .free, .pure 0, .pure 0, .pure 0, .eff [false, false, true, false, false], .pure 0, .eff [false, false]] mixedF rfl (by kernel_rfl) (by kernel_rfl) ?_ | refine callP_false (.bool false) ?_ | refine aw_region rfl ?_ | refine aw_region_draw mixedF rfl (by kernel_rfl) ?_ | refine aE rfl ?_); simp only [go_sem, hset1, hset2, hw1, hw2, g1, g2, s1, s2, fl_len, opC_len, opC_one]) | refine callG_y ?_ | refine callG_p ?_ | refine aw_seq ?_ | refine aw_block ?_ | refine aw_scope ?_ | (refine aw_cond rfl (fun h => ?_) (fun h => ?_) <;> try (exfalso; first | (simp at h; done) | (simp at h; omega))) | ((with_reducible refine And.intro ?_ ?_); focus (first | omega | (intros; simp_all; done) | (simp; omega)))
      (repeat' (with_reducible refine And.intro ?_ ?_)) <;> try (first | omega | rfl)
      repeat' first | ((first | refine aw_region_mix (id := 3) [.free, .free, .free, .free, .free, .free, .free, .free, .free, .free, .free, .free, .pure 0, .pure 0, .free, .free, .free, .free, .pure 0, .pure 0, .pure 0, .eff [false, false, true, false, false], .pure 0, .eff [false, false]] mixedF rfl (by kernel_rfl) (by kernel_rfl) ?_ | refine callP_false (.bool false) ?_ | refine aw_region rfl ?_ | refine aw_region_draw mixedF rfl (by kernel_rfl) ?_ | refine aE rfl ?_); simp only [go_sem]) | refine callG_y ?_ | refine callG_p ?_ | refine aw_seq ?_ | refine aw_block ?_ | refine aw_scope ?_ | (refine aw_cond rfl (fun h => ?_) (fun h => ?_) <;> try (exfalso; first | (simp at h; done) | (simp at h; omega))) | ((with_reducible refine And.intro ?_ ?_); focus (first | omega | (intros; simp_all; done) | (simp; omega)))
      refine ⟨k + 1, hlt, by omega, congrArg _ (wrap_succ hlt (by omega)), ?_⟩
      rw [← eD, ← hC]
      simp only [List.append_assoc]
    · have hke : k = U.length := by omega
      have hli : decide ((k : Int) < (U.length : Int)) = false := decide_eq_false (by omega)
      repeat' first | ((first | refine aw_region_mix (id := 3) [.free, .free, .free, .free, .free, .free, .free, .free, .free, .free, .free, .free, .pure 0, .pure 0, .free, .free, .free, .free, .pure 0, .pure 0, .pure 0, .eff [false, false, true, false, false], .pure 0, .eff [false, false]] mixedF rfl (by kernel_rfl) (by kernel_rfl) ?_ | refine callP_false (.bool false) ?_ | refine aw_region rfl ?_ | refine aw_region_draw mixedF rfl (by kernel_rfl) ?_ | refine aE rfl ?_); simp only [go_sem, hset1, hset2, hli]) | refine callG_y ?_ | refine callG_p ?_ | refine aw_seq ?_ | refine aw_block ?_ | refine aw_scope ?_ | (refine aw_cond rfl (fun h => ?_) (fun h => ?_) <;> try (exfalso; first | (simp at h; done) | (simp at h; omega))) | ((with_reducible refine And.intro ?_ ?_); focus (first | omega | (intros; simp_all; done) | (simp; omega)))
      refine doneSet (clb_fl _ _ _) _ ⟨rfl, ?_⟩
      rw [hke, List.take_length, List.drop_length, hUV, List.take_length, List.drop_length]
      rfl
theorem swapR {X U M V Y D : List Opn} {n : Nat} {a b k : Int} (hD : D = X ++ (U ++ (M ++ (V ++ Y)))) (hn : n = D.length) (ha : a = X.length) (hb : b = (X.length + (U.length + M.length) : Nat)) (hk : k = U.length) (hUV : U.length = V.length) (fn : AV) (H : AHeap) (blk v lc : Nat)
    (hh : hget H blk = .cells v (fl D)) (hl : n ≤ 1000000000) :
    ACalls Tryz.prog 117 [.osl 7 blk v 0 n lc, .int .i64 a, .int .i64 b, .int .i64 k, fn] H
      (fun r H' => r = .tup [] ∧ H' = hset H blk (.cells v (fl (X ++ (V ++ (M ++ (U ++ Y))))))) := by
  subst hD hn ha hb hk
  exact swapR_c X U M V Y hUV fn H blk v lc hh hl
end Go.Proofs.YtmknmapgfjmioaaGreatDoor
namespace Go.Proofs.YtmknmapgfjmioaaGreatDoor
open Go Go.Aw Go.Gw Go.Srt
set_option linter.unusedSimpArgs false
set_option maxRecDepth 20000
set_option maxHeartbeats 2000000

structure RotS (X U V Y : List Opn) (m : Nat) (s : List Opn × List Opn × List Opn × List Opn) : Prop where
  pos1 : 0 < s.2.1.length
  pos2 : 0 < s.2.2.1.length
  m_eq : m = X.length + s.1.length + s.2.1.length
  goal : s.1 ++ (s.2.2.1 ++ (s.2.1 ++ s.2.2.2)) = V ++ U
def rotD (X Y : List Opn) (s : List Opn × List Opn × List Opn × List Opn) : List Opn := X ++ (s.1 ++ (s.2.1 ++ (s.2.2.1 ++ (s.2.2.2 ++ Y))))

theorem rot_c {X U V Y D : List Opn} {n : Nat} {a m b : Int} (hD : D = X ++ (U ++ (V ++ Y))) (hn : n = D.length) (ha : a = X.length) (hm : m = (X.length + U.length : Nat)) (hb : b = (X.length + U.length + V.length : Nat)) (hU : 0 < U.length) (hV : 0 < V.length) (fn : AV) (H : AHeap) (blk v lc : Nat)
    (hh : hget H blk = .cells v (fl D)) (hl : n ≤ 1000000000) :
    ACalls Tryz.prog 105 [.osl 7 blk v 0 n lc, .int .i64 a, .int .i64 m, .int .i64 b, fn] H
      (fun r H' => r = .tup [] ∧ H' = hset H blk (.cells v (fl (X ++ (V ++ (U ++ Y)))))) := by
  refine acalls_of Tryz.func105 rfl (Nat.le_of_ble_eq_true rfl) ?_
  have hset1 := fun b => hget_of hh trivial b
  have hset2 := hset_set H blk
  have hlen : n = X.length + (U.length + (V.length + Y.length)) := by rw [hn, hD]; simp only [List.length_append]
  obtain ⟨mm, hmm⟩ : ∃ mm : Nat, mm = X.length + U.length := ⟨_, rfl⟩
  have hw1 : IntKind.i64.wrap (m - a) = (U.length : Int) := wrap_nat (by omega) (by omega)
  have hw2 : IntKind.i64.wrap (b - m) = (V.length : Int) := wrap_nat (by omega) (by omega)
  rw [← hmm] at hm
  subst hm
  repeat' first | ((first | refine callP_false (.bool false) ?_ | refine aw_region rfl ?_ | refine aw_region_draw mixedF rfl (by kernel_rfl) ?_ | refine aE rfl ?_); simp only [go_sem, hw1, hw2]) | refine callG_y ?_ | refine callG_p ?_ | refine aw_seq ?_ | refine aw_block ?_ | refine aw_scope ?_ | (refine aw_cond rfl (fun h => ?_) (fun h => ?_) <;> try (exfalso; first | (simp at h; done) | (simp at h; omega))) | ((with_reducible refine And.intro ?_ ?_); focus (first | omega | (intros; simp_all; done) | (simp; omega)))
  refine aw_loopS (ι := List Opn × List Opn × List Opn × List Opn) (fun s => [(0, .osl 7 blk v 0 n lc), (2, .int .i64 mm), (4, fn), (10, .int .i64 s.2.1.length), (11, .int .i64 s.2.2.1.length)])
    (fun s => hset H blk (.cells v (fl (rotD X Y s)))) (RotS X U V Y mm) (fun s => s.2.1.length + s.2.2.1.length) ([], U, V, []) ⟨hU, hV, by simp only [List.length_nil]; omega, by simp⟩ ?_ ?_ ?_
  · simp [go_sem]
  · have e : rotD X Y ([], U, V, []) = D := by rw [hD]; simp [rotD]
    rw [e]; exact (hset_id hh trivial).symm
  · rintro ⟨P, A, B, Q⟩ ⟨h1, h2, h3, h4⟩
    simp only at h1 h2 h3 h4 ⊢
    have hlD : (rotD X Y (P, A, B, Q)).length = n := by
      have := congrArg List.length h4
      simp only [List.length_append] at this
      simp only [rotD, List.length_append]; omega
    have hXP : (X ++ P).length = X.length + P.length := List.length_append
    have hl2 := hlD
    simp only [rotD, List.length_append] at hl2
    by_cases hne : A.length = B.length
    · have hw3 : IntKind.i64.wrap ((mm : Int) - (A.length : Int)) = ((X.length + P.length : Nat) : Int) := wrap_nat (by omega) (by omega)
      have hli : decide ((A.length : Int) = (B.length : Int)) = true := decide_eq_true (by omega)
      repeat' first | ((first | refine callP_false (.bool false) ?_ | refine aw_region rfl ?_ | refine aw_region_draw mixedF rfl (by kernel_rfl) ?_ | refine aE rfl ?_); simp only [go_sem, hset1, hset2, hw3, hli]) | refine callG_y ?_ | refine callG_p ?_ | refine aw_seq ?_ | refine aw_block ?_ | refine aw_scope ?_ | (refine aw_cond rfl (fun h => ?_) (fun h => ?_) <;> try (exfalso; first | (simp at h; done) | (simp at h; omega))) | ((with_reducible refine And.intro ?_ ?_); focus (first | omega | (intros; simp_all; done) | (simp; omega)))
      refine callK_of (swapR (a := ((X.length + P.length : Nat) : Int)) (b := (mm : Int)) (k := (A.length : Int)) (X := X ++ P) (U := A) (M := []) (V := B) (Y := Q ++ Y) (D := rotD X Y (P, A, B, Q)) (by simp [rotD]) hlD.symm (by rw [hXP]) (by rw [hXP, List.length_nil]; omega) rfl hne _ _ _ _ _ (hset1 _) hl) callOk117F ?_
      rintro r H' ⟨rfl, rfl⟩
      simp only [go_sem, hset2]
      repeat' first | ((first | refine callP_false (.bool false) ?_ | refine aw_region rfl ?_ | refine aw_region_draw mixedF rfl (by kernel_rfl) ?_ | refine aE rfl ?_); simp only [go_sem, hset1, hset2]) | refine callG_y ?_ | refine callG_p ?_ | refine aw_seq ?_ | refine aw_block ?_ | refine aw_scope ?_ | (refine aw_cond rfl (fun h => ?_) (fun h => ?_) <;> try (exfalso; first | (simp at h; done) | (simp at h; omega))) | ((with_reducible refine And.intro ?_ ?_); focus (first | omega | (intros; simp_all; done) | (simp; omega)))
      refine doneSet (clb_fl _ _ _) _ ⟨rfl, ?_⟩
      have e : X ++ (P ++ (B ++ (A ++ (Q ++ Y)))) = X ++ ((P ++ (B ++ (A ++ Q))) ++ Y) := by simp only [List.append_assoc]
      rw [e, h4, List.append_assoc]
    · have hli : decide ((A.length : Int) = (B.length : Int)) = false := decide_eq_false (by omega)
      by_cases hgt : B.length < A.length
      · have hAl : (A.take B.length).length = B.length := by rw [List.length_take]; omega
        have hDl : (A.drop B.length).length = A.length - B.length := List.length_drop ..
        have hw3 : IntKind.i64.wrap ((mm : Int) - (A.length : Int)) = ((X.length + P.length : Nat) : Int) := wrap_nat (by omega) (by omega)
        have hw4 : IntKind.i64.wrap ((A.length : Int) - (B.length : Int)) = ((A.drop B.length).length : Int) := wrap_nat (by omega) (by omega)
        have hli2 : decide ((B.length : Int) < (A.length : Int)) = true := decide_eq_true (by omega)
        have eD : rotD X Y (P, A, B, Q) = X ++ P ++ (A.take B.length ++ (A.drop B.length ++ (B ++ (Q ++ Y)))) := by
          have e : X ++ P ++ (A.take B.length ++ (A.drop B.length ++ (B ++ (Q ++ Y)))) = X ++ (P ++ ((A.take B.length ++ A.drop B.length) ++ (B ++ (Q ++ Y)))) := by simp only [List.append_assoc]
          rw [e, List.take_append_drop]; rfl
        repeat' first | ((first | refine callP_false (.bool false) ?_ | refine aw_region rfl ?_ | refine aw_region_draw mixedF rfl (by kernel_rfl) ?_ | refine aE rfl ?_); simp only [go_sem, hset1, hset2, hw3, hw4, hli, hli2]) | refine callG_y ?_ | refine callG_p ?_ | refine aw_seq ?_ | refine aw_block ?_ | refine aw_scope ?_ | (refine aw_cond rfl (fun h => ?_) (fun h => ?_) <;> try (exfalso; first | (simp at h; done) | (simp at h; omega))) | ((with_reducible refine And.intro ?_ ?_); focus (first | omega | (intros; simp_all; done) | (simp; omega)))
        refine callK_of (swapR (a := ((X.length + P.length : Nat) : Int)) (b := (mm : Int)) (k := (B.length : Int)) (X := X ++ P) (U := A.take B.length) (M := A.drop B.length) (V := B) (Y := Q ++ Y) (D := rotD X Y (P, A, B, Q)) eD hlD.symm (by rw [hXP]) (by rw [hXP]; omega) (by rw [hAl]) hAl _ _ _ _ _ (hset1 _) hl) callOk117F ?_
        rintro r H' ⟨rfl, rfl⟩
        simp only [go_sem, hset2]
        repeat' first | ((first | refine callP_false (.bool false) ?_ | refine aw_region rfl ?_ | refine aw_region_draw mixedF rfl (by kernel_rfl) ?_ | refine aE rfl ?_); simp only [go_sem, hset1, hset2, hw4]) | refine callG_y ?_ | refine callG_p ?_ | refine aw_seq ?_ | refine aw_block ?_ | refine aw_scope ?_ | (refine aw_cond rfl (fun h => ?_) (fun h => ?_) <;> try (exfalso; first | (simp at h; done) | (simp at h; omega))) | ((with_reducible refine And.intro ?_ ?_); focus (first | omega | (intros; simp_all; done) | (simp; omega)))
        refine ⟨(P ++ B, A.drop B.length, A.take B.length, Q), ⟨by simp only; omega, by simp only; omega, by simp only [List.length_append]; omega, ?_⟩, by simp only; omega, ⟨rfl, by simp only [hAl]⟩, ?_⟩
        · simp only
          rw [← h4]
          have e : P ++ B ++ (A.take B.length ++ (A.drop B.length ++ Q)) = P ++ (B ++ ((A.take B.length ++ A.drop B.length) ++ Q)) := by simp only [List.append_assoc]
          rw [e, List.take_append_drop]
        · simp only [rotD, List.append_assoc]
      · have hBl : (B.take (B.length - A.length)).length = B.length - A.length := by rw [List.length_take]; omega
        have hDl : (B.drop (B.length - A.length)).length = A.length := by rw [List.length_drop]; omega
        have hw3 : IntKind.i64.wrap ((mm : Int) - (A.length : Int)) = ((X.length + P.length : Nat) : Int) := wrap_nat (by omega) (by omega)
        have hw5 : IntKind.i64.wrap ((mm : Int) + (B.length : Int)) = ((mm + B.length : Nat) : Int) := wrap_nat (by omega) (by omega)
        have hw6 : IntKind.i64.wrap (((mm + B.length : Nat) : Int) - (A.length : Int)) = ((mm + B.length - A.length : Nat) : Int) := wrap_nat (by omega) (by omega)
        have hw4 : IntKind.i64.wrap ((B.length : Int) - (A.length : Int)) = ((B.take (B.length - A.length)).length : Int) := wrap_nat (by omega) (by omega)
        have hli2 : decide ((B.length : Int) < (A.length : Int)) = false := decide_eq_false (by omega)
        have eD : rotD X Y (P, A, B, Q) = X ++ P ++ (A ++ (B.take (B.length - A.length) ++ (B.drop (B.length - A.length) ++ (Q ++ Y)))) := by
          have e : X ++ P ++ (A ++ (B.take (B.length - A.length) ++ (B.drop (B.length - A.length) ++ (Q ++ Y)))) = X ++ (P ++ (A ++ ((B.take (B.length - A.length) ++ B.drop (B.length - A.length)) ++ (Q ++ Y)))) := by simp only [List.append_assoc]
          rw [e, List.take_append_drop]; rfl
        repeat' first | ((first | refine callP_false (.bool false) ?_ | refine aw_region rfl ?_ | refine aw_region_draw mixedF rfl (by kernel_rfl) ?_ | refine aE rfl ?_); simp only [go_sem, hset1, hset2, hw3, hw4, hw5, hw6, hli, hli2]) | refine callG_y ?_ | refine callG_p ?_ | refine aw_seq ?_ | refine aw_block ?_ | refine aw_scope ?_ | (refine aw_cond rfl (fun h => ?_) (fun h => ?_) <;> try (exfalso; first | (simp at h; done) | (simp at h; omega))) | ((with_reducible refine And.intro ?_ ?_); focus (first | omega | (intros; simp_all; done) | (simp; omega)))
        refine callK_of (swapR (a := ((X.length + P.length : Nat) : Int)) (b := ((mm + B.length - A.length : Nat) : Int)) (k := (A.length : Int)) (X := X ++ P) (U := A) (M := B.take (B.length - A.length)) (V := B.drop (B.length - A.length)) (Y := Q ++ Y) (D := rotD X Y (P, A, B, Q)) eD hlD.symm (by rw [hXP]) (by rw [hXP]; omega) rfl hDl.symm _ _ _ _ _ (hset1 _) hl) callOk117F ?_
        rintro r H' ⟨rfl, rfl⟩
        simp only [go_sem, hset2]
        repeat' first | ((first | refine callP_false (.bool false) ?_ | refine aw_region rfl ?_ | refine aw_region_draw mixedF rfl (by kernel_rfl) ?_ | refine aE rfl ?_); simp only [go_sem, hset1, hset2, hw4]) | refine callG_y ?_ | refine callG_p ?_ | refine aw_seq ?_ | refine aw_block ?_ | refine aw_scope ?_ | (refine aw_cond rfl (fun h => ?_) (fun h => ?_) <;> try (exfalso; first | (simp at h; done) | (simp at h; omega))) | ((with_reducible refine And.intro ?_ ?_); focus (first | omega | (intros; simp_all; done) | (simp; omega)))
        refine ⟨(P, B.drop (B.length - A.length), B.take (B.length - A.length), A ++ Q), ⟨by simp only; omega, by simp only; omega, by simp only; omega, ?_⟩, by simp only; omega, ⟨by simp only [hDl], rfl⟩, ?_⟩
        · simp only
          rw [← h4]
          have e : P ++ (B.take (B.length - A.length) ++ (B.drop (B.length - A.length) ++ (A ++ Q))) = P ++ ((B.take (B.length - A.length) ++ B.drop (B.length - A.length)) ++ (A ++ Q)) := by simp only [List.append_assoc]
          rw [e, List.take_append_drop]
        · simp only [rotD, List.append_assoc]
end Go.Proofs.YtmknmapgfjmioaaGreatDoor
namespace Go.Proofs.YtmknmapgfjmioaaGreatDoor
open Go Go.Aw Go.Gw Go.Srt
set_option linter.unusedSimpArgs false
set_option maxRecDepth 20000
set_option maxHeartbeats 4000000

/-- Behind some rounds: the first ones are in order. -/
structure InsO (lt : Opn → Opn → Bool) (X M Y : List Opn) (s : Nat × List Opn) : Prop where
  le : s.1 ≤ M.length
  ex : ∃ S, s.2 = X ++ (S ++ (M.drop s.1 ++ Y)) ∧ Fs lt (M.take s.1) S ∧ Sd lt S

theorem insSort_c {X M Y D : List Opn} {n : Nat} {a b : Int} {lt : Opn → Opn → Bool} {c : Opn → Opn → Int} (hw : SWO lt) (hc : ∀ x y, decide (c x y < 0) = lt x y)
    (hD : D = X ++ (M ++ Y)) (hn : n = D.length) (ha : a = X.length) (hb : b = (X.length + M.length : Nat)) (fn : Fn) (fs cs : List AV) (hf : CmpC Tryz.prog (.func fn fs cs) c) (H : AHeap) (blk v lc : Nat)
    (hh : hget H blk = .cells v (fl D)) (hl : n ≤ 1000000000) :
    ACalls Tryz.prog 93 [.osl 7 blk v 0 n lc, .int .i64 a, .int .i64 b, .func fn fs cs] H
      (fun r H' => r = .tup [] ∧ ∃ S, Fs lt M S ∧ Sd lt S ∧ H' = hset H blk (.cells v (fl (X ++ (S ++ Y))))) := by
  refine acalls_of Tryz.func93 rfl (Nat.le_of_ble_eq_true rfl) ?_
  have hset1 := fun b => hget_of hh trivial b
  have hset2 := hset_set H blk
  have hlen : n = X.length + (M.length + Y.length) := by rw [hn, hD]; simp only [List.length_append]
  cases M with
  | nil =>
    have hw1 : IntKind.i64.wrap (a + 1) = ((X.length + 1 : Nat) : Int) := by subst ha; exact wrap_i64 (by omega) (by omega)
    have hli : decide (((X.length + 1 : Nat) : Int) < b) = false := decide_eq_false (by subst hb; simp only [List.length_nil]; omega)
    repeat' first | ((first | refine callP_false (.bool false) ?_ | refine aw_region rfl ?_ | refine aw_region_draw mixedF rfl (by kernel_rfl) ?_ | refine aE rfl ?_); simp only [go_sem, hw1]) | refine callG_y ?_ | refine callG_p ?_ | refine aw_seq ?_ | refine aw_block ?_ | refine aw_scope ?_ | (refine aw_cond rfl (fun h => ?_) (fun h => ?_) <;> try (exfalso; first | (simp at h; done) | (simp at h; omega))) | ((with_reducible refine And.intro ?_ ?_); focus (first | omega | (intros; simp_all; done) | (simp; omega)))
    refine aw_loopS (ι := Unit) (fun _ => [(2, .int .i64 b), (8, .int .i64 (X.length + 1 : Nat))]) (fun _ => H) (fun _ => True) (fun _ => 0) () trivial ?_ rfl ?_
    · simp [go_sem]
    · intro _ _
      repeat' first | ((first | refine callP_false (.bool false) ?_ | refine aw_region rfl ?_ | refine aw_region_draw mixedF rfl (by kernel_rfl) ?_ | refine aE rfl ?_); simp only [go_sem, hli]) | refine callG_y ?_ | refine callG_p ?_ | refine aw_seq ?_ | refine aw_block ?_ | refine aw_scope ?_ | (refine aw_cond rfl (fun h => ?_) (fun h => ?_) <;> try (exfalso; first | (simp at h; done) | (simp at h; omega))) | ((with_reducible refine And.intro ?_ ?_); focus (first | omega | (intros; simp_all; done) | (simp; omega)))
      have e : H = hset H blk (.cells v (fl (X ++ ([] ++ Y)))) := by rw [← show D = X ++ ([] ++ Y) from hD]; exact (hset_id hh trivial).symm
      conv => enter [1, H1, 1, L, 1, y]; skip
      have h := doneSet (H := H) (i := blk) (b := .cells v (fl (X ++ ([] ++ Y)))) (clb_fl _ _ _) (fun r H' => r = .tup [] ∧ ∃ S, Fs lt [] S ∧ Sd lt S ∧ H' = hset H blk (.cells v (fl (X ++ (S ++ Y))))) ⟨rfl, [], .refl _, .nil, rfl⟩
      rw [← e] at h
      exact h
  | cons m0 M0 =>
    generalize hM : m0 :: M0 = M at *
    have hpos : 1 ≤ M.length := by rw [← hM]; simp
    have hw1 : IntKind.i64.wrap (a + 1) = ((X.length + 1 : Nat) : Int) := by subst ha; exact wrap_i64 (by omega) (by omega)
    repeat' first | ((first | refine callP_false (.bool false) ?_ | refine aw_region rfl ?_ | refine aw_region_draw mixedF rfl (by kernel_rfl) ?_ | refine aE rfl ?_); simp only [go_sem, hw1]) | refine callG_y ?_ | refine callG_p ?_ | refine aw_seq ?_ | refine aw_block ?_ | refine aw_scope ?_ | (refine aw_cond rfl (fun h => ?_) (fun h => ?_) <;> try (exfalso; first | (simp at h; done) | (simp at h; omega))) | ((with_reducible refine And.intro ?_ ?_); focus (first | omega | (intros; simp_all; done) | (simp; omega)))
    refine aw_loopS (ι := Nat × List Opn) (fun s => [(0, .osl 7 blk v 0 n lc), (1, .int .i64 a), (2, .int .i64 b), (3, .func fn fs cs), (8, .int .i64 (X.length + s.1 : Nat))])
      (fun s => hset H blk (.cells v (fl s.2))) (InsO lt X M Y) (fun s => M.length - s.1) (1, D) ⟨hpos, [m0], by rw [hD, ← hM]; rfl, by rw [← hM]; exact .refl _, .one _⟩ ?_ (hset_id hh trivial).symm ?_
    · simp [go_sem]
    · rintro ⟨i, E⟩ ⟨hi, S, hE, hS1, hS2⟩
      simp only at hi hE hS1 hS2 ⊢
      have hSl : S.length = i := by have := hS1.1; rw [List.length_take] at this; omega
      by_cases hlt : i < M.length
      · have e1 : M.drop i = M[i] :: M.drop (i + 1) := List.drop_eq_getElem_cons hlt
        have e2 : M.take (i + 1) = M.take i ++ [M[i]] := List.take_succ_eq_append_getElem hlt
        rw [e1] at hE
        have hdl : (M.drop (i + 1)).length = M.length - (i + 1) := List.length_drop ..
        generalize M[i] = x at *
        generalize hR : M.drop (i + 1) = R at *
        have hli : decide (((X.length + i : Nat) : Int) < b) = true := decide_eq_true (by omega)
        have hw2 : IntKind.i64.wrap (((X.length + i : Nat) : Int) + 1) = ((X.length + (i + 1) : Nat) : Int) := wrap_nat (by omega) (by omega)
        repeat' first | ((first | refine callP_false (.bool false) ?_ | refine aw_region rfl ?_ | refine aw_region_draw mixedF rfl (by kernel_rfl) ?_ | refine aE rfl ?_); simp only [go_sem, hli]) | refine callG_y ?_ | refine callG_p ?_ | refine aw_seq ?_ | refine aw_block ?_ | refine aw_scope ?_ | (refine aw_cond rfl (fun h => ?_) (fun h => ?_) <;> try (exfalso; first | (simp at h; done) | (simp at h; omega))) | ((with_reducible refine And.intro ?_ ?_); focus (first | omega | (intros; simp_all; done) | (simp; omega)))
        refine aw_loopS (ι := List Opn × List Opn) (fun s => [(0, .osl 7 blk v 0 n lc), (1, .int .i64 a), (2, .int .i64 b), (3, .func fn fs cs), (8, .int .i64 (X.length + i : Nat)), (9, .int .i64 (X.length + s.1.length : Nat))])
          (fun s => hset H blk (.cells v (fl ((X ++ s.1) ++ x :: (s.2 ++ (R ++ Y)))))) (fun s => s.1 ++ s.2 = S ∧ ∀ y ∈ s.2, lt x y = true) (fun s => s.1.length) (S, []) ⟨List.append_nil _, by simp⟩ ?_ ?_ ?_
        · simp [go_sem, hSl]
        · rw [hE]; simp only [List.append_assoc, List.cons_append, List.nil_append]
        · rintro ⟨S1, S2⟩ ⟨hSS, hgt⟩
          simp only at hSS hgt ⊢
          have hSSl : S1.length + S2.length = i := by rw [← hSl, ← hSS, List.length_append]
          have fin : (∀ s ∈ S1, lt x s = false) → InsO lt X M Y (i + 1, (X ++ S1) ++ x :: (S2 ++ (R ++ Y))) := fun h1 => by
            refine ⟨hlt, S1 ++ x :: S2, by simp only [hR, List.append_assoc, List.cons_append], ?_, ?_⟩
            · rw [e2]
              refine Fs.trans (hS1.app (.refl [x])) ?_
              rw [← hSS]; exact ins_fs hw hgt
            · rw [← hSS] at hS2; exact ins_sd hw hS2 hgt h1
          rcases List.eq_nil_or_concat S1 with h0 | ⟨S0, y, h0⟩
          · subst h0
            have hj : decide (a < (X.length : Int)) = false := decide_eq_false (by omega)
            rw [List.length_nil, Nat.add_zero]
            repeat' first | ((first | refine aw_region_mix (id := 6) [.free, .free, .free, .free, .free, .free, .free, .free, .pure 0, .pure 0, .free, .free, .pure 0, .pure 0, .pure 0, .eff [false, false, true, false, false], .pure 0, .eff [false, false]] mixedF rfl (by kernel_rfl) (by kernel_rfl) ?_ | refine callP_false (.bool false) ?_ | refine aw_region rfl ?_ | refine aw_region_draw mixedF rfl (by kernel_rfl) ?_ | refine aE rfl ?_); simp only [go_sem, hj, hset1, hset2, hw2]) | refine callG_y ?_ | refine callG_p ?_ | refine aw_seq ?_ | refine aw_block ?_ | refine aw_scope ?_ | (refine aw_cond rfl (fun h => ?_) (fun h => ?_) <;> try (exfalso; first | (simp at h; done) | (simp at h; omega))) | ((with_reducible refine And.intro ?_ ?_); focus (first | omega | (intros; simp_all; done) | (simp; omega)))
            exact ⟨_, fin (by simp), by simp only; omega, rfl, by simp⟩
          · subst h0
            rw [List.concat_eq_append] at *
            obtain ⟨p, hp⟩ : ∃ p, p = X.length + S0.length := ⟨_, rfl⟩
            obtain ⟨q, hq⟩ : ∃ q, q = X.length + S0.length + 1 := ⟨_, rfl⟩
            have hq1 : X.length + (S0 ++ [y]).length = q := by rw [List.length_append, List.length_singleton]; omega
            have hj : decide (a < (q : Int)) = true := decide_eq_true (by omega)
            have hw3 : IntKind.i64.wrap ((q : Int) - 1) = (p : Int) := wrap_nat (by omega) (by omega)
            have eD : (X ++ (S0 ++ [y])) ++ x :: (S2 ++ (R ++ Y)) = (X ++ S0) ++ y :: x :: (S2 ++ (R ++ Y)) := by simp only [List.append_assoc, List.cons_append, List.nil_append]
            have l1 : (X ++ S0).length = p := by rw [List.length_append, hp]
            have l2 : (X ++ (S0 ++ [y])).length = q := by rw [List.length_append, hq1]
            have l3 : (X ++ S0 ++ [y]).length = q := by rw [List.append_assoc]; exact l2
            have g1 := fl_get (x := y) (R := x :: (S2 ++ (R ++ Y))) l1
            have g2 := fl_get (x := x) (R := S2 ++ (R ++ Y)) l3
            have s1 := fl_set (x := x) (y := y) (R := S2 ++ (R ++ Y)) l3
            have s2 := fl_set (x := y) (y := x) (R := y :: (S2 ++ (R ++ Y))) l1
            simp only [List.append_assoc, List.cons_append, List.nil_append] at g1 g2 s1 s2 eD
            simp only [List.length_append, List.length_cons] at hSSl
            rw [hq1]
            simp only [eD, List.append_assoc, List.cons_append, List.nil_append]
            have hli3 : (q : Int) < (n : Int) := by omega
            have hlq : q * 7 + 7 ≤ (fl (X ++ (S0 ++ y :: x :: (S2 ++ (R ++ Y))))).length := by rw [fl_len]; simp only [List.length_append, List.length_cons]; omega
            have hlp : p * 7 + 7 ≤ (fl (X ++ (S0 ++ y :: x :: (S2 ++ (R ++ Y))))).length := by rw [fl_len]; simp only [List.length_append, List.length_cons]; omega
            have hlp2 : p * 7 + 7 ≤ (fl (X ++ (S0 ++ y :: y :: (S2 ++ (R ++ Y))))).length := by rw [fl_len]; simp only [List.length_append, List.length_cons]; omega
            repeat' first | ((first | refine aw_region_mix (id := 6) [.free, .free, .free, .free, .free, .free, .free, .free, .pure 0, .pure 0, .free, .free, .pure 0, .pure 0, .pure 0, .eff [false, false, true, false, false], .pure 0, .eff [false, false]] mixedF rfl (by kernel_rfl) (by kernel_rfl) ?_ | refine callP_false (.bool false) ?_ | refine aw_region rfl ?_ | refine aw_region_draw mixedF rfl (by kernel_rfl) ?_ | refine aE rfl ?_); simp only [go_sem, hj, hset1, hset2, hw2, hw3, g1, g2, opC_len, opC_one]) | refine callG_y ?_ | refine callG_p ?_ | refine aw_seq ?_ | refine aw_block ?_ | refine aw_scope ?_ | (refine aw_cond rfl (fun h => ?_) (fun h => ?_) <;> try (exfalso; first | (simp at h; done) | (simp at h; omega))) | ((with_reducible refine And.intro ?_ ?_); focus (first | omega | (intros; simp_all; done) | (simp; omega)))
            (repeat' (with_reducible refine And.intro ?_ ?_)) <;> try (first | omega | rfl)
            refine callP_cmp hf ?_
            simp only [go_sem, hc]
            cases hxy : lt x y with
            | false =>
              repeat' first | ((first | refine aw_region_mix (id := 6) [.free, .free, .free, .free, .free, .free, .free, .free, .pure 0, .pure 0, .free, .free, .pure 0, .pure 0, .pure 0, .eff [false, false, true, false, false], .pure 0, .eff [false, false]] mixedF rfl (by kernel_rfl) (by kernel_rfl) ?_ | refine callP_false (.bool false) ?_ | refine aw_region rfl ?_ | refine aw_region_draw mixedF rfl (by kernel_rfl) ?_ | refine aE rfl ?_); simp only [go_sem, hxy, hset1, hset2, hw2]) | refine callG_y ?_ | refine callG_p ?_ | refine aw_seq ?_ | refine aw_block ?_ | refine aw_scope ?_ | (refine aw_cond rfl (fun h => ?_) (fun h => ?_) <;> try (exfalso; first | (simp at h; done) | (simp at h; omega))) | ((with_reducible refine And.intro ?_ ?_); focus (first | omega | (intros; simp_all; done) | (simp; omega)))
              refine ⟨_, fin (sd_last hw (by rw [← hSS] at hS2; exact hS2.left) hxy), by simp only; omega, rfl, ?_⟩
              simp only [List.append_assoc, List.cons_append, List.nil_append]
            | true =>
              repeat' first | ((first | refine aw_region_mix (id := 6) [.free, .free, .free, .free, .free, .free, .free, .free, .pure 0, .pure 0, .free, .free, .pure 0, .pure 0, .pure 0, .eff [false, false, true, false, false], .pure 0, .eff [false, false]] mixedF rfl (by kernel_rfl) (by kernel_rfl) ?_ | refine callP_false (.bool false) ?_ | refine aw_region rfl ?_ | refine aw_region_draw mixedF rfl (by kernel_rfl) ?_ | refine aE rfl ?_); simp only [go_sem, hxy, hset1, hset2, hw3, g1, g2, s1, s2, opC_len, opC_one]) | refine callG_y ?_ | refine callG_p ?_ | refine aw_seq ?_ | refine aw_block ?_ | refine aw_scope ?_ | (refine aw_cond rfl (fun h => ?_) (fun h => ?_) <;> try (exfalso; first | (simp at h; done) | (simp at h; omega))) | ((with_reducible refine And.intro ?_ ?_); focus (first | omega | (intros; simp_all; done) | (simp; omega)))
              (repeat' (with_reducible refine And.intro ?_ ?_)) <;> try (first | omega | rfl)
              repeat' first | ((first | refine aw_region_mix (id := 6) [.free, .free, .free, .free, .free, .free, .free, .free, .pure 0, .pure 0, .free, .free, .pure 0, .pure 0, .pure 0, .eff [false, false, true, false, false], .pure 0, .eff [false, false]] mixedF rfl (by kernel_rfl) (by kernel_rfl) ?_ | refine callP_false (.bool false) ?_ | refine aw_region rfl ?_ | refine aw_region_draw mixedF rfl (by kernel_rfl) ?_ | refine aE rfl ?_); simp only [go_sem, hw3]) | refine callG_y ?_ | refine callG_p ?_ | refine aw_seq ?_ | refine aw_block ?_ | refine aw_scope ?_ | (refine aw_cond rfl (fun h => ?_) (fun h => ?_) <;> try (exfalso; first | (simp at h; done) | (simp at h; omega))) | ((with_reducible refine And.intro ?_ ?_); focus (first | omega | (intros; simp_all; done) | (simp; omega)))
              refine ⟨(S0, y :: S2), ⟨by rw [← hSS, List.append_assoc]; rfl, fun z hz => ?_⟩, Nat.lt_succ_self _, by rw [hp], rfl⟩
              rcases List.mem_cons.1 hz with rfl | hz
              · exact hxy
              · exact hgt z hz
      · have hie : i = M.length := by omega
        have hli : decide (((X.length + i : Nat) : Int) < b) = false := decide_eq_false (by omega)
        repeat' first | ((first | refine callP_false (.bool false) ?_ | refine aw_region rfl ?_ | refine aw_region_draw mixedF rfl (by kernel_rfl) ?_ | refine aE rfl ?_); simp only [go_sem, hli]) | refine callG_y ?_ | refine callG_p ?_ | refine aw_seq ?_ | refine aw_block ?_ | refine aw_scope ?_ | (refine aw_cond rfl (fun h => ?_) (fun h => ?_) <;> try (exfalso; first | (simp at h; done) | (simp at h; omega))) | ((with_reducible refine And.intro ?_ ?_); focus (first | omega | (intros; simp_all; done) | (simp; omega)))
        rw [hie, List.take_length] at hS1
        rw [hie, List.drop_length, List.nil_append] at hE
        exact doneSet (clb_fl _ _ _) _ ⟨rfl, S, hS1, hS2, by rw [hE]⟩
end Go.Proofs.YtmknmapgfjmioaaGreatDoor
/- strings.Split at a separator of one byte. No condition but the length of what comes in. -/
namespace Go.Gw
open Go Go.Aw Go.Proofs.YtmknmapgfjmioaaGreatDoor
/-- A text, cut at each of that byte. -/
def splitB (b : UInt8) : List UInt8 → List (List UInt8)
  | [] => [[]]
  | c :: l => match splitB b l with
    | [] => [[]]
    | h :: t => if c = b then [] :: h :: t else (c :: h) :: t
theorem splitB_ne (b : UInt8) (l : List UInt8) : splitB b l ≠ [] := by
  cases l with
  | nil => simp [splitB]
  | cons c l => rw [splitB]; split; simp; split <;> simp
theorem split_none {b : UInt8} {l : List UInt8} (h : Lib.indexByte l b < 0) : splitB b l = [l] ∧ Lib.countByte l b = 0 := by
  induction l with
  | nil => exact ⟨rfl, rfl⟩
  | cons c l ih =>
    rw [Lib.indexByte] at h
    split at h
    · omega
    · rename_i h1
      have h2 : Lib.indexByte l b < 0 := by
        have := Lib.indexByte_ge l b
        split at h
        · rename_i h3; have : Lib.indexByte l b = -1 := by simpa using h3
          omega
        · omega
      obtain ⟨e1, e2⟩ := ih h2
      have h3 : ¬ c = b := by simpa using h1
      refine ⟨by rw [splitB, e1]; simp [h3], ?_⟩
      unfold Lib.countByte at e2 ⊢
      rw [List.count_cons, e2]; simp [h3]
theorem split_some {b : UInt8} {l : List UInt8} {k : Nat} (h : Lib.indexByte l b = k) : k < l.length ∧ splitB b l = l.take k :: splitB b (l.drop (k + 1)) ∧ Lib.countByte l b = Lib.countByte (l.drop (k + 1)) b + 1 := by
  induction l generalizing k with
  | nil => rw [Lib.indexByte] at h; omega
  | cons c l ih =>
    rw [Lib.indexByte] at h
    split at h
    · rename_i h1
      have h1 : c = b := by simpa using h1
      have hk : k = 0 := by omega
      subst hk
      subst h1
      refine ⟨by simp, ?_, ?_⟩
      · rw [splitB]
        cases hs : splitB c l with
        | nil => exact absurd hs (splitB_ne c l)
        | cons x t => simp [hs]
      · unfold Lib.countByte; simp
    · rename_i h1
      have h3 : ¬ c = b := by simpa using h1
      split at h
      · omega
      · obtain ⟨j, rfl⟩ : ∃ j, k = j + 1 := ⟨k - 1, by
          rename_i h4
          have := Lib.indexByte_ge l b
          have h5 : ¬ Lib.indexByte l b = -1 := by simpa using h4
          omega⟩
        obtain ⟨a1, a2, a3⟩ := ih (k := j) (by omega)
        refine ⟨by simpa using a1, ?_, ?_⟩
        · rw [splitB, a2]; simp [h3]
        · unfold Lib.countByte at a3 ⊢
          rw [List.count_cons, a3]; simp [h3]
theorem split_zero {b : UInt8} {l : List UInt8} (h : Lib.countByte l b = 0) : splitB b l = [l] := by
  rcases Int.lt_or_le (Lib.indexByte l b) 0 with h1 | h1
  · exact (split_none h1).1
  · have := (split_some (b := b) (l := l) (k := (Lib.indexByte l b).toNat) (by omega)).2.2
    omega
theorem split_pos {b : UInt8} {l : List UInt8} (h : 0 < Lib.countByte l b) : ∃ k : Nat, Lib.indexByte l b = k := by
  rcases Int.lt_or_le (Lib.indexByte l b) 0 with h1 | h1
  · have := (split_none h1).2; omega
  · exact ⟨(Lib.indexByte l b).toNat, by omega⟩
theorem splice_mid (A B : List AV) (y x : AV) {n : Nat} (h : A.length = n) : splice (A ++ y :: B) (n * 1) [x] = A ++ x :: B := by
  subst h
  rw [Nat.mul_one]
  simp [splice]
end Go.Gw
namespace Go.Proofs.YtmknmapgfjmioaaGreatDoor
open Go Go.Aw Go.Gw
set_option linter.unusedSimpArgs false
set_option maxRecDepth 20000
set_option maxHeartbeats 2000000

theorem gsplit_c (s : List UInt8) (b : UInt8) (hs : s.length ≤ 1048576) (H : AHeap) : FnC Tryz.prog 99 [.str s, .str [b], .int .i64 0, .int .i64 (-1)] H (.sl false ((splitB b s).map AV.str)) := by
  refine fnC_of Tryz.func99 rfl (Nat.le_of_ble_eq_true rfl) ?_
  have hcle : Lib.countByte s b ≤ s.length := List.count_le_length
  have hcnt := scount_c s b
  generalize hm : Lib.countByte s b = m at *
  have w1 : IntKind.i64.wrap ((m : Int) + 1) = ((m + 1 : Nat) : Int) := by rw [wrap_i64 (by omega) (by omega)]; rfl
  have w2 : IntKind.i64.wrap ((s.length : Int) + 1) = ((s.length + 1 : Nat) : Int) := by rw [wrap_i64 (by omega) (by omega)]; rfl
  have w3 : min ((m + 1 : Nat) : Int) ((s.length + 1 : Nat) : Int) = ((m + 1 : Nat) : Int) := by omega
  have w4 : IntKind.i64.wrap (((m + 1 : Nat) : Int) - 1) = (m : Int) := by rw [wrap_i64 (by omega) (by omega)]; omega
  have w5 : (((m + 1 : Nat) : Int)).toNat = m + 1 := Int.toNat_natCast _
  have e0 : List.flatMap AV.cells (List.replicate (m + 1) (AV.str [])) = List.replicate (m + 1) (AV.str []) := by
    rw [List.flatMap_replicate]; simp [AV.cells]
  have hc1 : ∀ l : List (List UInt8), (l.map AV.str).flatMap AV.cells = l.map AV.str := fun l => by
    rw [List.flatMap_map]; induction l with | nil => rfl | cons x l ih => rw [List.flatMap_cons, List.map_cons, ih]; rfl
  have ct0 := ct hcnt callOk109F; repeat' first | ((first | refine cK (by assumption) ?_ | refine cP (by assumption) ?_ | refine cM (by assumption) ?_ | refine callP_false (.bool false) ?_ | refine aw_region rfl ?_ | refine aw_region_draw mixedF rfl (by kernel_rfl) ?_ | refine aE rfl ?_); simp only [go_sem, w1, w2, w3, w4, w5, e0]) | refine callG_y ?_ | refine callG_p ?_ | refine aw_seq ?_ | refine aw_block ?_ | refine aw_scope ?_ | (refine aw_cond rfl (fun h => ?_) (fun h => ?_) <;> try (exfalso; first | (simp at h; done) | (simp at h; omega))) | ((with_reducible refine And.intro ?_ ?_); focus (first | omega | (intros; simp_all; done) | (simp; omega)))
  refine aw_loopS (ι := Nat × List (List UInt8) × List UInt8) (fun x => [(0, .str x.2.2), (1, .str [b]), (2, .int .i64 0), (3, .int .i64 m), (9, .osl 1 H.length 1 0 (m + 1) (m + 1)), (10, .int .i64 x.1)])
    (fun x => H ++ [.cells 1 (x.2.1.map AV.str ++ List.replicate (m + 1 - x.1) (.str []))])
    (fun x => x.1 ≤ m ∧ x.2.1.length = x.1 ∧ splitB b s = x.2.1 ++ splitB b x.2.2 ∧ Lib.countByte x.2.2 b + x.1 = m ∧ x.2.2.length ≤ s.length) (fun x => m - x.1) (0, [], s) ⟨Nat.zero_le _, rfl, rfl, hm, Nat.le_refl _⟩ ?_ (by simp) ?_
  · simp [go_sem]
  · rintro ⟨i, pre, r⟩ ⟨hi, hl, hsp, hct, hrl⟩
    simp only at hi hl hsp hct hrl ⊢
    by_cases hlt : i < m
    · obtain ⟨k, hk⟩ := split_pos (b := b) (l := r) (by omega)
      obtain ⟨k1, k2, k3⟩ := split_some hk
      have hix := sindex_c r b
      rw [hk] at hix
      have hli : decide ((i : Int) < (m : Int)) = true := decide_eq_true (by omega)
      have hkn : decide ((k : Int) < 0) = false := decide_eq_false (by omega)
      have x1 : IntKind.i64.wrap ((k : Int) + 0) = (k : Int) := by rw [wrap_i64 (by omega) (by omega)]; omega
      have x2 : IntKind.i64.wrap ((k : Int) + 1) = ((k + 1 : Nat) : Int) := by rw [wrap_i64 (by omega) (by omega)]; rfl
      have ct0 := ct hix callOk110F; repeat' first | ((first | refine cK (by assumption) ?_ | refine cP (by assumption) ?_ | refine cM (by assumption) ?_ | refine callP_false (.bool false) ?_ | refine aw_region rfl ?_ | refine aw_region_draw mixedF rfl (by kernel_rfl) ?_ | refine aE rfl ?_); simp only [go_sem, hli, hkn, x1, x2]) | refine callG_y ?_ | refine callG_p ?_ | refine aw_seq ?_ | refine aw_block ?_ | refine aw_scope ?_ | (refine aw_cond rfl (fun h => ?_) (fun h => ?_) <;> try (exfalso; first | (simp at h; done) | (simp at h; omega))) | ((with_reducible refine And.intro ?_ ?_); focus (first | omega | (intros; simp_all; done) | (simp; omega)))
      have x3 : (IntKind.i64.wrap ((k : Int) + ((1 : Nat) : Int))).toNat = k + 1 := by rw [wrap_i64 (by omega) (by omega)]; omega
      refine ⟨(i + 1, pre ++ [r.take k], r.drop (k + 1)), ⟨hlt, by simp [hl], by rw [hsp, k2]; simp, by simp only; omega, by simp only [List.length_drop]; omega⟩, by simp only; omega, ⟨by rw [x3], congrArg _ (wrap_succ hlt (by omega))⟩, ?_⟩
      have e1 : m + 1 - i = (m - i) + 1 := by omega
      have e2 : m + 1 - (i + 1) = m - i := by omega
      simp only [e1, e2, List.replicate_succ]
      rw [splice_mid _ _ _ _ (by rw [List.length_map]; exact hl)]
      simp
    · have hie : i = m := by omega
      subst hie
      have hli : decide ((i : Int) < (i : Int)) = false := by simp
      repeat' first | ((first | refine callP_false (.bool false) ?_ | refine aw_region rfl ?_ | refine aw_region_draw mixedF rfl (by kernel_rfl) ?_ | refine aE rfl ?_); simp only [go_sem, hli]) | refine callG_y ?_ | refine callG_p ?_ | refine aw_seq ?_ | refine aw_block ?_ | refine aw_scope ?_ | (refine aw_cond rfl (fun h => ?_) (fun h => ?_) <;> try (exfalso; first | (simp at h; done) | (simp at h; omega))) | ((with_reducible refine And.intro ?_ ?_); focus (first | omega | (intros; simp_all; done) | (simp; omega)))
      have e1 : i + 1 - i = 1 := by omega
      have e3 : (IntKind.i64.wrap ((i : Int) + 1)).toNat = i + 1 := by rw [wrap_i64 (by omega) (by omega)]; omega
      have e4 : splitB b s = pre ++ [r] := by rw [hsp, split_zero (b := b) (l := r) (by omega)]
      simp only [e1, e3, List.replicate_succ, List.replicate_zero]
      rw [splice_mid _ _ _ _ (by rw [List.length_map]; exact hl)]
      have e5 : pre.map AV.str ++ [AV.str r] = (splitB b s).map AV.str := by rw [e4]; simp
      rw [e5]
      exact doneOsl (cs := (splitB b s).map AV.str) (es := (splitB b s).map AV.str) (rest := []) (by omega) (by simp only [go_sem]) (by rw [hc1, List.append_nil]) (by rw [List.length_map, e4]; simp [hl]) (fun e he => by obtain ⟨x, _, rfl⟩ := List.mem_map.1 he; rfl) (fun e he => by obtain ⟨x, _, rfl⟩ := List.mem_map.1 he; exact (by simp only [go_sem])) rfl
end Go.Proofs.YtmknmapgfjmioaaGreatDoor
/- Paths: name.fit and name.Split. No condition but the length of what comes in. -/
namespace Go.Gw
open Go Go.Aw Go.Proofs.YtmknmapgfjmioaaGreatDoor
theorem split_mem {b : UInt8} {l : List UInt8} : ∀ x ∈ splitB b l, x.length ≤ l.length := by
  induction l with
  | nil => intro x hx; simp [splitB] at hx; simp [hx]
  | cons c l ih =>
    intro x hx
    rw [splitB] at hx
    cases hs : splitB b l with
    | nil => exact absurd hs (splitB_ne b l)
    | cons y t =>
      rw [hs] at ih
      simp only [hs] at hx
      rw [List.length_cons]
      by_cases h : c = b
      · rw [if_pos h] at hx
        rcases List.mem_cons.1 hx with q | q
        · rw [q]; simp
        · have := ih x q; omega
      · rw [if_neg h] at hx
        rcases List.mem_cons.1 hx with q | q
        · have := ih y (by simp); rw [q, List.length_cons]; omega
        · have := ih x (by simp [q]); omega
/-- Whether these may be a path's names. -/
def fitN (l : List Txt) : Bool := decide ((l.length : Int) ≤ 16) && l.all nameOk
/-- A path's names: none, if it is none. -/
def namesOf (p : Txt) : Option (List Txt) :=
  if p = [47] then some [] else match p with
  | [] => none
  | c :: l => if c = 47 then (if fitN (splitB 47 l) = true then some (splitB 47 l) else none) else none
end Go.Gw
namespace Go.Proofs.YtmknmapgfjmioaaGreatDoor
open Go Go.Aw Go.Gw
set_option linter.unusedSimpArgs false
set_option maxRecDepth 20000
set_option maxHeartbeats 2000000

theorem ssplit_c (s : List UInt8) (b : UInt8) (hs : s.length ≤ 1048576) (H : AHeap) : FnC Tryz.prog 82 [.str s, .str [b]] H (.sl false ((splitB b s).map AV.str)) := by
  refine fnC_of Tryz.func82 rfl (Nat.le_of_ble_eq_true rfl) ?_
  have hg := gsplit_c s b hs
  have ct0 := ct hg callOk99F; repeat' first | ((first | refine cK (by assumption) ?_ | refine cP (by assumption) ?_ | refine cM (by assumption) ?_ | refine callP_false (.bool false) ?_ | refine aw_region rfl ?_ | refine aw_region_draw mixedF rfl (by kernel_rfl) ?_ | refine aE rfl ?_); simp only [go_sem]) | refine callG_y ?_ | refine callG_p ?_ | refine aw_seq ?_ | refine aw_block ?_ | refine aw_scope ?_ | (refine aw_cond rfl (fun h => ?_) (fun h => ?_) <;> try (exfalso; first | (simp at h; done) | (simp at h; omega))) | ((with_reducible refine And.intro ?_ ?_); focus (first | omega | (intros; simp_all; done) | (simp; omega)))
  exact done0 (by simp only [go_sem]) (.refl _)

theorem fit_c (f : Bool) (l : List Txt) (hl : ∀ x ∈ l, x.length ≤ 1048576) (H : AHeap) : FnC Tryz.prog 83 [.sl f (l.map AV.str)] H (.bool (fitN l)) := by
  refine fnC_of Tryz.func83 rfl (Nat.le_of_ble_eq_true rfl) ?_
  by_cases h16 : (l.length : Int) ≤ 16
  · have hd : decide ((16 : Int) < (l.length : Int)) = false := decide_eq_false (by omega)
    have hF : fitN l = l.all nameOk := by rw [fitN, decide_eq_true h16, Bool.true_and]
    rw [hF]
    repeat' first | ((first | refine callP_false (.bool false) ?_ | refine aw_region rfl ?_ | refine aw_region_draw mixedF rfl (by kernel_rfl) ?_ | refine aE rfl ?_); simp only [go_sem, hd]) | refine callG_y ?_ | refine callG_p ?_ | refine aw_seq ?_ | refine aw_block ?_ | refine aw_scope ?_ | (refine aw_cond rfl (fun h => ?_) (fun h => ?_) <;> try (exfalso; first | (simp at h; done) | (simp at h; omega))) | ((with_reducible refine And.intro ?_ ?_); focus (first | omega | (intros; simp_all; done) | (simp; omega)))
    refine aw_loopS (ι := Nat) (fun i => [(8, .sl f (l.map AV.str)), (9, .int .i64 l.length), (10, .int .i64 i)]) (fun _ => H) (fun i => i ≤ l.length ∧ ∀ x ∈ l.take i, nameOk x = true) (fun i => l.length - i) 0 ⟨Nat.zero_le _, by simp⟩ ?_ rfl ?_
    · simp [go_sem]
    · rintro i ⟨hi, hok⟩
      by_cases hlt : i < l.length
      · have hp := getD_map AV.str hlt
        have hli : decide ((i : Int) < (l.length : Int)) = true := decide_eq_true (by omega)
        have hn := nameOk_c l[i] (by have := hl _ (List.getElem_mem hlt); omega)
        cases hk : nameOk l[i] with
        | false =>
          rw [hk] at hn
          have hall : l.all nameOk = false := by rw [List.all_eq_false]; exact ⟨l[i], List.getElem_mem hlt, by rw [hk]; decide⟩
          rw [hall]
          have ct0 := ct hn callOk100F; repeat' first | ((first | refine cK (by assumption) ?_ | refine cP (by assumption) ?_ | refine cM (by assumption) ?_ | refine callP_false (.bool false) ?_ | refine aw_region rfl ?_ | refine aw_region_draw mixedF rfl (by kernel_rfl) ?_ | refine aE rfl ?_); simp only [go_sem, hp, hli]) | refine callG_y ?_ | refine callG_p ?_ | refine aw_seq ?_ | refine aw_block ?_ | refine aw_scope ?_ | (refine aw_cond rfl (fun h => ?_) (fun h => ?_) <;> try (exfalso; first | (simp at h; done) | (simp at h; omega))) | ((with_reducible refine And.intro ?_ ?_); focus (first | omega | (intros; simp_all; done) | (simp; omega)))
          exact done0 (by simp only [go_sem]) (.refl _)
        | true =>
          rw [hk] at hn
          have ct0 := ct hn callOk100F; repeat' first | ((first | refine cK (by assumption) ?_ | refine cP (by assumption) ?_ | refine cM (by assumption) ?_ | refine callP_false (.bool false) ?_ | refine aw_region rfl ?_ | refine aw_region_draw mixedF rfl (by kernel_rfl) ?_ | refine aE rfl ?_); simp only [go_sem, hp, hli]) | refine callG_y ?_ | refine callG_p ?_ | refine aw_seq ?_ | refine aw_block ?_ | refine aw_scope ?_ | (refine aw_cond rfl (fun h => ?_) (fun h => ?_) <;> try (exfalso; first | (simp at h; done) | (simp at h; omega))) | ((with_reducible refine And.intro ?_ ?_); focus (first | omega | (intros; simp_all; done) | (simp; omega)))
          refine ⟨i + 1, ⟨hlt, fun x hx => ?_⟩, by omega, congrArg _ (wrap_succ hlt (by omega))⟩
          rw [List.take_succ_eq_append_getElem hlt, List.mem_append, List.mem_singleton] at hx
          rcases hx with q | q
          · exact hok x q
          · rw [q]; exact hk
      · have hie : i = l.length := by omega
        subst hie
        have hli : decide ((l.length : Int) < (l.length : Int)) = false := by simp
        have hall : l.all nameOk = true := List.all_eq_true.2 (by rwa [List.take_length] at hok)
        rw [hall]
        repeat' first | ((first | refine callP_false (.bool false) ?_ | refine aw_region rfl ?_ | refine aw_region_draw mixedF rfl (by kernel_rfl) ?_ | refine aE rfl ?_); simp only [go_sem, hli]) | refine callG_y ?_ | refine callG_p ?_ | refine aw_seq ?_ | refine aw_block ?_ | refine aw_scope ?_ | (refine aw_cond rfl (fun h => ?_) (fun h => ?_) <;> try (exfalso; first | (simp at h; done) | (simp at h; omega))) | ((with_reducible refine And.intro ?_ ?_); focus (first | omega | (intros; simp_all; done) | (simp; omega)))
        exact done0 (by simp only [go_sem]) (.refl _)
  · have hd : decide ((16 : Int) < (l.length : Int)) = true := decide_eq_true (by omega)
    have hF : fitN l = false := by rw [fitN, decide_eq_false h16, Bool.false_and]
    rw [hF]
    repeat' first | ((first | refine callP_false (.bool false) ?_ | refine aw_region rfl ?_ | refine aw_region_draw mixedF rfl (by kernel_rfl) ?_ | refine aE rfl ?_); simp only [go_sem, hd]) | refine callG_y ?_ | refine callG_p ?_ | refine aw_seq ?_ | refine aw_block ?_ | refine aw_scope ?_ | (refine aw_cond rfl (fun h => ?_) (fun h => ?_) <;> try (exfalso; first | (simp at h; done) | (simp at h; omega))) | ((with_reducible refine And.intro ?_ ?_); focus (first | omega | (intros; simp_all; done) | (simp; omega)))
    exact done0 (by simp only [go_sem]) (.refl _)

/-- What name.Split answers. -/
def pathV (p : Txt) : AV := match namesOf p with
  | none => .tup [.sl true [], .int .i64 10]
  | some l => .tup [.sl (decide (p = [47])) (l.map AV.str), .int .i64 0]
theorem path_c (p : Txt) (hs : p.length ≤ 1048576) (H : AHeap) : FnC Tryz.prog 55 [.str p] H (pathV p) := by
  refine fnC_of Tryz.func55 rfl (Nat.le_of_ble_eq_true rfl) ?_
  have hcut := scut_c p 47
  by_cases h1 : p = [47]
  · have hd : decide (p = [47]) = true := decide_eq_true h1
    simp only [pathV, namesOf, if_pos h1, hd]
    repeat' first | ((first | refine callP_false (.bool false) ?_ | refine aw_region rfl ?_ | refine aw_region_draw mixedF rfl (by kernel_rfl) ?_ | refine aE rfl ?_); simp only [go_sem, hd]) | refine callG_y ?_ | refine callG_p ?_ | refine aw_seq ?_ | refine aw_block ?_ | refine aw_scope ?_ | (refine aw_cond rfl (fun h => ?_) (fun h => ?_) <;> try (exfalso; first | (simp at h; done) | (simp at h; omega))) | ((with_reducible refine And.intro ?_ ?_); focus (first | omega | (intros; simp_all; done) | (simp; omega)))
    exact done0 (by simp only [go_sem]) (.refl _)
  · have hd : decide (p = [47]) = false := decide_eq_false h1
    simp only [pathV, namesOf, if_neg h1, hd]
    cases p with
    | nil =>
      simp only [cutV] at hcut
      have ct0 := ct hcut callOk81F; repeat' first | ((first | refine cK (by assumption) ?_ | refine cP (by assumption) ?_ | refine cM (by assumption) ?_ | refine callP_false (.bool false) ?_ | refine aw_region rfl ?_ | refine aw_region_draw mixedF rfl (by kernel_rfl) ?_ | refine aE rfl ?_); simp only [go_sem, hd]) | refine callG_y ?_ | refine callG_p ?_ | refine aw_seq ?_ | refine aw_block ?_ | refine aw_scope ?_ | (refine aw_cond rfl (fun h => ?_) (fun h => ?_) <;> try (exfalso; first | (simp at h; done) | (simp at h; omega))) | ((with_reducible refine And.intro ?_ ?_); focus (first | omega | (intros; simp_all; done) | (simp; omega)))
      exact done0 (by simp only [go_sem]) (.refl _)
    | cons c l =>
      rw [List.length_cons] at hs
      by_cases h2 : c = 47
      · simp only [cutV, if_pos h2] at hcut ⊢
        have hsp := ssplit_c l 47 (by omega)
        have hfi := fit_c false (splitB 47 l) (fun x hx => by have := split_mem x hx; omega)
        cases hf : fitN (splitB 47 l) with
        | false =>
          rw [hf] at hfi
          have ct0 := ct hcut callOk81F; have ct1 := ct hsp callOk82F; have ct2 := ct hfi callOk83F; repeat' first | ((first | refine cK (by assumption) ?_ | refine cP (by assumption) ?_ | refine cM (by assumption) ?_ | refine callP_false (.bool false) ?_ | refine aw_region rfl ?_ | refine aw_region_draw mixedF rfl (by kernel_rfl) ?_ | refine aE rfl ?_); simp only [go_sem, hd]) | refine callG_y ?_ | refine callG_p ?_ | refine aw_seq ?_ | refine aw_block ?_ | refine aw_scope ?_ | (refine aw_cond rfl (fun h => ?_) (fun h => ?_) <;> try (exfalso; first | (simp at h; done) | (simp at h; omega))) | ((with_reducible refine And.intro ?_ ?_); focus (first | omega | (intros; simp_all; done) | (simp; omega)))
          exact done0 (by simp only [go_sem]) (.refl _)
        | true =>
          rw [hf] at hfi
          have ct0 := ct hcut callOk81F; have ct1 := ct hsp callOk82F; have ct2 := ct hfi callOk83F; repeat' first | ((first | refine cK (by assumption) ?_ | refine cP (by assumption) ?_ | refine cM (by assumption) ?_ | refine callP_false (.bool false) ?_ | refine aw_region rfl ?_ | refine aw_region_draw mixedF rfl (by kernel_rfl) ?_ | refine aE rfl ?_); simp only [go_sem, hd]) | refine callG_y ?_ | refine callG_p ?_ | refine aw_seq ?_ | refine aw_block ?_ | refine aw_scope ?_ | (refine aw_cond rfl (fun h => ?_) (fun h => ?_) <;> try (exfalso; first | (simp at h; done) | (simp at h; omega))) | ((with_reducible refine And.intro ?_ ?_); focus (first | omega | (intros; simp_all; done) | (simp; omega)))
          exact done0 (by simp only [go_sem]) (.refl _)
      · simp only [cutV, if_neg h2] at hcut ⊢
        have ct0 := ct hcut callOk81F; repeat' first | ((first | refine cK (by assumption) ?_ | refine cP (by assumption) ?_ | refine cM (by assumption) ?_ | refine callP_false (.bool false) ?_ | refine aw_region rfl ?_ | refine aw_region_draw mixedF rfl (by kernel_rfl) ?_ | refine aE rfl ?_); simp only [go_sem, hd]) | refine callG_y ?_ | refine callG_p ?_ | refine aw_seq ?_ | refine aw_block ?_ | refine aw_scope ?_ | (refine aw_cond rfl (fun h => ?_) (fun h => ?_) <;> try (exfalso; first | (simp at h; done) | (simp at h; omega))) | ((with_reducible refine And.intro ?_ ?_); focus (first | omega | (intros; simp_all; done) | (simp; omega)))
        exact done0 (by simp only [go_sem]) (.refl _)
end Go.Proofs.YtmknmapgfjmioaaGreatDoor
/- Calls, threads and turns, and what a call does next, in plain Lean. No condition. -/
namespace Go.Gw
open Go Go.Aw Go.Proofs.YtmknmapgfjmioaaGreatDoor

structure Cal where
  kind : Int
  path : Txt
  to : Txt
  data : Txt
  n : Int
deriving DecidableEq, Inhabited
structure Evt where
  kind : Int
  path : Txt
deriving DecidableEq, Inhabited
structure Ans where
  err : Int
  data : Txt
  names : List Txt
  n : Int
  events : List Evt
deriving DecidableEq, Inhabited
structure Thr where
  call : Cal
  has : List Int
  at_ : Int
  done : Bool
  ended : Bool
  upto : Int
  begin_ : Int
  mark : Int
  end_ : Int
  ans : Ans
deriving DecidableEq, Inhabited
structure Trn where
  kind : Int
  lock : Int
deriving DecidableEq, Inhabited

def stA' (s : Txt) : AV := .str s
def caA (c : Cal) : AV := .agg [.int .i64 c.kind, .str c.path, .str c.to, .str c.data, .int .i64 c.n]
def evA (e : Evt) : AV := .agg [.int .i64 e.kind, .str e.path]
def trA (t : Trn) : AV := .agg [.int .i64 t.kind, .int .i64 t.lock]
/-- A thread, its lists as they are told. -/
def thF (h n e : AV) (t : Thr) : AV := .agg [.int .i64 t.call.kind, .str t.call.path, .str t.call.to, .str t.call.data, .int .i64 t.call.n, h, .int .i64 t.at_, .bool t.done, .bool t.ended, .int .i64 t.upto, .int .i64 t.begin_, .int .i64 t.mark, .int .i64 t.end_,
  .int .i64 t.ans.err, .str t.ans.data, n, .int .i64 t.ans.n, e]
def thA (f1 f2 f3 : Bool) (t : Thr) : AV := thF (.sl f1 (t.has.map inA)) (.sl f2 (t.ans.names.map AV.str)) (.sl f3 (t.ans.events.map evA)) t
@[go_sem] theorem pu_caA (x : Cal) : Pur (caA x) = True := by simp only [caA, go_sem]
@[go_sem] theorem pu_evA (x : Evt) : Pur (evA x) = True := by simp only [evA, go_sem]
@[go_sem] theorem pu_trA (x : Trn) : Pur (trA x) = True := by simp only [trA, go_sem]
@[go_sem] theorem pu_thA (f1 f2 f3 : Bool) (x : Thr) : Pur (thA f1 f2 f3 x) = True := by simp only [thA, thF, go_sem]
def ca0 : Cal := ⟨0, [], [], [], 0⟩
def an0 : Ans := ⟨0, [], [], 0, []⟩
def th0 (c : Cal) : Thr := ⟨c, [], 0, false, false, 0, 0, 0, 0, an0⟩

def walksK (c : Cal) : Bool := decide (c.kind = 1) || decide (c.kind = 2) || decide (c.kind = 3) || decide (c.kind = 10) || (decide (c.kind = 4) || decide (c.kind = 7)) && decide (c.n = 0)
def turnsK (c : Cal) : Bool := decide (c.kind = 5) || decide (c.kind = 6) || decide (c.kind = 13)
/-- The names that a call walks by. -/
def wnames (c : Cal) : List Txt := match namesOf c.path with
  | none => []
  | some l => if c.kind = 7 ∨ c.kind = 10 then l else l.dropLast

theorem namesOf_len {p : Txt} {l : List Txt} (h : namesOf p = some l) : l.length ≤ 16 := by
  unfold namesOf at h
  split at h
  · cases h; simp
  · split at h
    · cases h
    · split at h
      · split at h
        · rename_i hf
          cases h
          simp only [fitN, Bool.and_eq_true, decide_eq_true_eq] at hf
          omega
        · cases h
      · cases h
/-- A path's directory. -/
def dirOf (l : List Nd) (p : Txt) : Option Int := match namesOf p with
  | some (x :: xs) => if (findN l (x :: xs).dropLast).2 = 0 ∧ dirI (findN l (x :: xs).dropLast).1 = true then some (findN l (x :: xs).dropLast).1 else none
  | _ => none
def addD (ds : List Int) (o : Option Int) : List Int := match o with
  | some d => if ds.contains d = true then ds else ds ++ [d]
  | none => ds
def pathsK (c : Cal) : List Txt := if c.kind = 5 then [c.path, c.to] else if c.kind = 6 then [c.path] else []
def locksD (l : List Nd) (c : Cal) : List Int := (pathsK c).foldl (fun ds p => addD ds (dirOf l p)) []
def aboveB (l : List Nd) (a b : Int) : Bool := (aboveC l b).contains a
def locksO (l : List Nd) (ds : List Int) : List Int := match ds with
  | [a, b] => if (!aboveB l a b && (aboveB l b a || decide (b < a))) = true then [b, a] else [a, b]
  | ds => ds
def locksT (l : List Nd) (c : Cal) : List Int := 1 :: locksO l (locksD l c)

/-- What a thread that turns the tree does next. -/
def turnN (has : List Int) : List Int → Trn
  | [] => ⟨3, 0⟩
  | k :: ks => if has.contains k = true then turnN has ks else ⟨1, k⟩
/-- What a thread that walks does next. -/
def walkN (l : List Nd) (names : List Txt) (t : Thr) : Trn := match t.has with
  | [] => ⟨1, 0⟩
  | _ :: _ :: _ => ⟨2, t.has.headD 0⟩
  | [here] =>
    match (if 0 ≤ t.at_ then names[t.at_.toNat]? else none).bind (childN l here) with
    | some n => if dirI n.id = true then ⟨1, n.id⟩ else if (findN l names).2 = 0 ∧ dirI (findN l names).1 = true ∧ (findN l names).1 ≠ here then ⟨2, here⟩ else ⟨3, 0⟩
    | none => if (findN l names).2 = 0 ∧ dirI (findN l names).1 = true ∧ (findN l names).1 ≠ here then ⟨2, here⟩ else ⟨3, 0⟩
def nextT (l : List Nd) (t : Thr) : Trn :=
  if t.ended = true then ⟨0, 0⟩ else if t.done = true then (match t.has with | k :: _ => ⟨2, k⟩ | [] => if t.call.kind = 12 then ⟨4, 0⟩ else ⟨5, 0⟩)
  else if turnsK t.call = true then turnN t.has (locksT l t.call) else if walksK t.call = true then walkN l (wnames t.call) t else ⟨3, 0⟩

def afterT (t : Thr) (u : Trn) : Thr :=
  if u.kind = 1 then { t with at_ := if t.has.length = 1 ∧ walksK t.call = true then IntKind.i64.wrap (t.at_ + 1) else t.at_, has := t.has ++ [u.lock] }
  else if u.kind = 2 then { t with has := t.has.filter (fun k => !decide (k = u.lock)), at_ := if t.has.filter (fun k => !decide (k = u.lock)) = [] ∧ t.done = false ∧ walksK t.call = true then 0 else t.at_ }
  else if u.kind = 3 then { t with done := true } else if u.kind = 5 then { t with ended := true } else t
def againT (t : Thr) : Thr := { t with has := [], at_ := 0 }
end Go.Gw
/- What comes in with a row of the Plan laws: a call, numbers. No condition. -/
namespace Go.Proofs.YtmknmapgfjmioaaGreatDoor
set_option maxRecDepth 20000
open Go Go.Aw Go.Gw Go.ChangeShapes Go.WideShapes Go.ChangeAt Go.RowKit
theorem kindCa : kindB Tryz.prog 24 = true := by kernel_rfl
theorem kindIns : kindB Tryz.prog 25 = true := by kernel_rfl
theorem cells_ca {ys : List AV} (h : Sh Tryz.prog 24 ys) : ∃ o : Cal, ys = (caA o).cells := by
  obtain ⟨y1, ys1, rfl, h1, r1⟩ := shF_cons (sh_struct Tryz.underlying24 kindCa h)
  obtain ⟨y2, ys2, rfl, h2, r2⟩ := shF_cons r1
  obtain ⟨y3, ys3, rfl, h3, r3⟩ := shF_cons r2
  obtain ⟨y4, ys4, rfl, h4, r4⟩ := shF_cons r3
  obtain ⟨y5, ys5, rfl, h5, r5⟩ := shF_cons r4
  obtain rfl := shF_nil r5
  obtain ⟨a, rfl, _⟩ := sh_int Tryz.underlying3 h1
  obtain ⟨s, rfl, _⟩ := sh_str Tryz.underlying9 h2
  obtain ⟨u, rfl, _⟩ := sh_str Tryz.underlying9 h3
  obtain ⟨v, rfl, _⟩ := sh_str Tryz.underlying9 h4
  obtain ⟨b, rfl, _⟩ := sh_int Tryz.underlying3 h5
  exact ⟨⟨a, s, u, v, b⟩, rfl⟩
theorem list_in {zs : List (List AV)} (h : ∀ z ∈ zs, Sh Tryz.prog 3 z) : ∃ l : List Int, zs.map (mkA Tryz.prog 3) = l.map inA ∧ l.length = zs.length := by
  induction zs with
  | nil => exact ⟨[], rfl, rfl⟩
  | cons z zs ih =>
    obtain ⟨p, rfl, _⟩ := sh_int Tryz.underlying3 (h z (by simp))
    obtain ⟨l, h1, h2⟩ := ih fun z hz => h z (by simp [hz])
    refine ⟨p :: l, ?_, by simp [h2]⟩
    rw [List.map_cons, List.map_cons, h1, mkA, if_neg (by rw [aggInt]; decide)]; rfl
end Go.Proofs.YtmknmapgfjmioaaGreatDoor
/- What comes in with a row of PlanTells: a thread, a turn. No condition. -/
namespace Go.Proofs.YtmknmapgfjmioaaGreatDoor
set_option maxRecDepth 20000
open Go Go.Aw Go.Gw Go.ChangeShapes Go.WideShapes Go.ChangeAt Go.RowKit
theorem aggTh : isAggT Tryz.prog 32 = true := by kernel_rfl
theorem kindTh : kindB Tryz.prog 32 = true := by kernel_rfl
theorem aggTu : isAggT Tryz.prog 34 = true := by kernel_rfl
theorem kindTu : kindB Tryz.prog 34 = true := by kernel_rfl
theorem kindAn : kindB Tryz.prog 30 = true := by kernel_rfl
theorem aggEv : isAggT Tryz.prog 110 = true := by kernel_rfl
theorem kindEv : kindB Tryz.prog 110 = true := by kernel_rfl
theorem kindEvs : kindB Tryz.prog 28 = true := by kernel_rfl
theorem aggStr : isAggT Tryz.prog 9 = false := by kernel_rfl
theorem kindStrs : kindB Tryz.prog 27 = true := by kernel_rfl
theorem cells_ev {ys : List AV} (h : Sh Tryz.prog 110 ys) : ∃ o : Evt, ys = (evA o).cells := by
  obtain ⟨y1, ys1, rfl, h1, r1⟩ := shF_cons (sh_struct Tryz.underlying110 kindEv h)
  obtain ⟨y2, ys2, rfl, h2, r2⟩ := shF_cons r1
  obtain rfl := shF_nil r2
  obtain ⟨a, rfl, _⟩ := sh_int Tryz.underlying3 h1
  obtain ⟨s, rfl, _⟩ := sh_str Tryz.underlying9 h2
  exact ⟨⟨a, s⟩, rfl⟩
theorem cells_ints {ys : List AV} (h : Sh Tryz.prog 25 ys) : ∃ l : List Int, ys = [.sl false (l.map inA)] := by
  obtain ⟨zs, rfl, hl, hz⟩ := sh_slice Tryz.underlying25 kindIns h
  obtain ⟨l, h1, h2⟩ := list_in hz
  exact ⟨l, by rw [h1]⟩
theorem list_str {zs : List (List AV)} (h : ∀ z ∈ zs, Sh Tryz.prog 9 z) : ∃ l : List Txt, zs.map (mkA Tryz.prog 9) = l.map AV.str := by
  induction zs with
  | nil => exact ⟨[], rfl⟩
  | cons z zs ih =>
    obtain ⟨p, rfl, _⟩ := sh_str Tryz.underlying9 (h z (by simp))
    obtain ⟨l, h1⟩ := ih fun z hz => h z (by simp [hz])
    refine ⟨p :: l, ?_⟩
    rw [List.map_cons, List.map_cons, h1, mkA, if_neg (by rw [aggStr]; decide)]; rfl
theorem cells_strs {ys : List AV} (h : Sh Tryz.prog 27 ys) : ∃ l : List Txt, ys = [.sl false (l.map AV.str)] := by
  obtain ⟨zs, rfl, hl, hz⟩ := sh_slice Tryz.underlying27 kindStrs h
  obtain ⟨l, h1⟩ := list_str hz
  exact ⟨l, by rw [h1]⟩
theorem list_ev {zs : List (List AV)} (h : ∀ z ∈ zs, Sh Tryz.prog 110 z) : ∃ l : List Evt, zs.map (mkA Tryz.prog 110) = l.map evA := by
  induction zs with
  | nil => exact ⟨[], rfl⟩
  | cons z zs ih =>
    obtain ⟨p, rfl⟩ := cells_ev (h z (by simp))
    obtain ⟨l, h1⟩ := ih fun z hz => h z (by simp [hz])
    refine ⟨p :: l, ?_⟩
    rw [List.map_cons, List.map_cons, h1, mkA, if_pos aggEv]; rfl
theorem cells_evs {ys : List AV} (h : Sh Tryz.prog 28 ys) : ∃ l : List Evt, ys = [.sl false (l.map evA)] := by
  obtain ⟨zs, rfl, hl, hz⟩ := sh_slice Tryz.underlying28 kindEvs h
  obtain ⟨l, h1⟩ := list_ev hz
  exact ⟨l, by rw [h1]⟩
theorem cells_an {ys : List AV} (h : Sh Tryz.prog 30 ys) : ∃ a : Ans, ys = [.int .i64 a.err, .str a.data, .sl false (a.names.map AV.str), .int .i64 a.n, .sl false (a.events.map evA)] := by
  obtain ⟨y1, ys1, rfl, h1, r1⟩ := shF_cons (sh_struct Tryz.underlying30 kindAn h)
  obtain ⟨y2, ys2, rfl, h2, r2⟩ := shF_cons r1
  obtain ⟨y3, ys3, rfl, h3, r3⟩ := shF_cons r2
  obtain ⟨y4, ys4, rfl, h4, r4⟩ := shF_cons r3
  obtain ⟨y5, ys5, rfl, h5, r5⟩ := shF_cons r4
  obtain rfl := shF_nil r5
  obtain ⟨a, rfl, _⟩ := sh_int Tryz.underlying26 h1
  obtain ⟨s, rfl, _⟩ := sh_str Tryz.underlying9 h2
  obtain ⟨l, rfl⟩ := cells_strs h3
  obtain ⟨b, rfl, _⟩ := sh_int Tryz.underlying3 h4
  obtain ⟨e, rfl⟩ := cells_evs h5
  exact ⟨⟨a, s, l, b, e⟩, rfl⟩
theorem sh_bool' {ys : List AV} (h : Sh Tryz.prog 4 ys) : ∃ b : Bool, ys = [.bool b] := by
  obtain ⟨b, rfl⟩ := sh_bool Tryz.underlying4 h
  exact ⟨b, rfl⟩
theorem cells_th {ys : List AV} (h : Sh Tryz.prog 32 ys) : ∃ t : Thr, ys = (thA false false false t).cells := by
  obtain ⟨y1, ys1, rfl, h1, r1⟩ := shF_cons (sh_struct Tryz.underlying32 kindTh h)
  obtain ⟨y2, ys2, rfl, h2, r2⟩ := shF_cons r1
  obtain ⟨y3, ys3, rfl, h3, r3⟩ := shF_cons r2
  obtain ⟨y4, ys4, rfl, h4, r4⟩ := shF_cons r3
  obtain ⟨y5, ys5, rfl, h5, r5⟩ := shF_cons r4
  obtain ⟨y6, ys6, rfl, h6, r6⟩ := shF_cons r5
  obtain ⟨y7, ys7, rfl, h7, r7⟩ := shF_cons r6
  obtain ⟨y8, ys8, rfl, h8, r8⟩ := shF_cons r7
  obtain ⟨y9, ys9, rfl, h9, r9⟩ := shF_cons r8
  obtain ⟨ya, ysa, rfl, ha, ra⟩ := shF_cons r9
  obtain rfl := shF_nil ra
  obtain ⟨c, rfl⟩ := cells_ca h1
  obtain ⟨hs, rfl⟩ := cells_ints h2
  obtain ⟨at_, rfl, _⟩ := sh_int Tryz.underlying3 h3
  obtain ⟨d, rfl⟩ := sh_bool' h4
  obtain ⟨e, rfl⟩ := sh_bool' h5
  obtain ⟨u, rfl, _⟩ := sh_int Tryz.underlying3 h6
  obtain ⟨b, rfl, _⟩ := sh_int Tryz.underlying3 h7
  obtain ⟨m, rfl, _⟩ := sh_int Tryz.underlying3 h8
  obtain ⟨n, rfl, _⟩ := sh_int Tryz.underlying3 h9
  obtain ⟨a, rfl⟩ := cells_an ha
  exact ⟨⟨c, hs, at_, d, e, u, b, m, n, a⟩, rfl⟩
theorem in_thr {x : AV} (h : ∃ ys, x = mkA Tryz.prog 32 ys ∧ Sh Tryz.prog 32 ys ∧ (isAggT Tryz.prog 32 = true ∨ ys.length = 1)) : ∃ a, x = thA false false false a := by
  obtain ⟨ys, rfl, h, _⟩ := h
  obtain ⟨p, rfl⟩ := cells_th h
  exact ⟨p, by rw [mkA, if_pos aggTh]; rfl⟩
theorem in_trn {x : AV} (h : ∃ ys, x = mkA Tryz.prog 34 ys ∧ Sh Tryz.prog 34 ys ∧ (isAggT Tryz.prog 34 = true ∨ ys.length = 1)) : ∃ a, x = trA a := by
  obtain ⟨ys, rfl, h, _⟩ := h
  obtain ⟨y1, ys1, rfl, h1, r1⟩ := shF_cons (sh_struct Tryz.underlying34 kindTu h)
  obtain ⟨y2, ys2, rfl, h2, r2⟩ := shF_cons r1
  obtain rfl := shF_nil r2
  obtain ⟨a, rfl, _⟩ := sh_int Tryz.underlying3 h1
  obtain ⟨s, rfl, _⟩ := sh_int Tryz.underlying3 h2
  exact ⟨⟨a, s⟩, by rw [mkA, if_pos aggTu]; rfl⟩
end Go.Proofs.YtmknmapgfjmioaaGreatDoor
/- view.inside, seen, Child and Find: what they answer. No condition but the length of what comes in. -/
namespace Go.Proofs.YtmknmapgfjmioaaGreatDoor
open Go Go.Aw Go.Gw
set_option linter.unusedSimpArgs false
set_option maxRecDepth 20000
set_option maxHeartbeats 2000000

theorem inside1_c (b : Bool) (l : List Nd) (dir : Int) (y : Nat) (J : Nat → AHeap → Prop) (hA : ∀ i G L, J i G → J i (G ++ L))
    (hN : ∀ i (h : i < l.length) G, J i G → inD dir l[i] = false → J (i + 1) G)
    (hY : ∀ i (h : i < l.length) G, J i G → inD dir l[i] = true → AYield Tryz.prog y [ndA l[i]] G (fun v G' => v = .bool true ∧ J (i + 1) G')) (hl : l.length ≤ 1073741824) (H : AHeap) (h0 : J 0 H) :
    ACalls Tryz.prog 124 [.func (.yield y) [] [], .cptr [.sl b (l.map ndA)], .cptr [.int .i64 dir]] H (fun _ G => J l.length G) := by
  refine acalls_of_aw Tryz.func124 rfl (Nat.le_of_ble_eq_true rfl) ?_
  repeat' first | ((first | refine callP_false (.bool false) ?_ | refine aw_region rfl ?_ | refine aw_region_draw mixedF rfl (by kernel_rfl) ?_ | refine aE rfl ?_); simp only [go_sem]) | refine callG_y ?_ | refine callG_p ?_ | refine aw_seq ?_ | refine aw_block ?_ | refine aw_scope ?_ | (refine aw_cond rfl (fun h => ?_) (fun h => ?_) <;> try (exfalso; first | (simp at h; done) | (simp at h; omega))) | ((with_reducible refine And.intro ?_ ?_); focus (first | omega | (intros; simp_all; done) | (simp; omega)))
  refine aw_loopS (ι := Nat × AHeap) (fun p => [(0, .func (.yield y) [] []), (2, .cptr [.int .i64 dir]), (6, .sl b (l.map ndA)), (7, .int .i64 l.length), (8, .int .i64 p.1)]) (fun p => p.2) (fun p => p.1 ≤ l.length ∧ J p.1 p.2) (fun p => l.length - p.1) (0, H) ⟨Nat.zero_le _, h0⟩ ?_ rfl ?_
  · simp [go_sem]
  · rintro ⟨i, G⟩ ⟨hi, hJ⟩
    simp only at hi hJ ⊢
    by_cases hlt : i < l.length
    · have hp := getD_map ndA hlt
      have hli : decide ((i : Int) < (l.length : Int)) = true := decide_eq_true (by omega)
      have hw := wrap_succ hlt (by omega)
      have hck := check_c l[i].moved.c l[i].moved.r
      by_cases h1 : l[i].parent = dir
      · have hd : decide (l[i].parent = dir) = true := decide_eq_true h1
        cases h2 : okI l[i].moved.c l[i].moved.r with
        | false =>
          rw [h2] at hck
          have ct0 := ct hck callOk72F; repeat' first | ((first | refine cK (by assumption) ?_ | refine cP (by assumption) ?_ | refine cM (by assumption) ?_ | refine callP_false (.bool false) ?_ | refine aw_region rfl ?_ | refine aw_region_draw mixedF rfl (by kernel_rfl) ?_ | refine aE rfl ?_); simp only [go_sem, hp, hli, hd, ndA]) | refine callG_y ?_ | refine callG_p ?_ | refine aw_seq ?_ | refine aw_block ?_ | refine aw_scope ?_ | (refine aw_cond rfl (fun h => ?_) (fun h => ?_) <;> try (exfalso; first | (simp at h; done) | (simp at h; omega))) | ((with_reducible refine And.intro ?_ ?_); focus (first | omega | (intros; simp_all; done) | (simp; omega)))
          exact ⟨(i + 1, _), ⟨hlt, hN i hlt _ (hA _ _ _ hJ) (by simp [inD, h2])⟩, by simp only; omega, congrArg _ hw, rfl⟩
        | true =>
          rw [h2] at hck
          have hy := hY i hlt _ (hA i G [.cells 0 (ndA l[i]).cells] hJ) (by simp [inD, h1, h2])
          have ct0 := ct hck callOk72F; repeat' first | ((first | refine cK (by assumption) ?_ | refine cP (by assumption) ?_ | refine cM (by assumption) ?_ | refine callP_false (.bool false) ?_ | refine aw_region rfl ?_ | refine aw_region_draw mixedF rfl (by kernel_rfl) ?_ | refine aE rfl ?_); simp only [go_sem, hp, hli, hd, ndA]) | refine callG_y ?_ | refine callG_p ?_ | refine aw_seq ?_ | refine aw_block ?_ | refine aw_scope ?_ | (refine aw_cond rfl (fun h => ?_) (fun h => ?_) <;> try (exfalso; first | (simp at h; done) | (simp at h; omega))) | ((with_reducible refine And.intro ?_ ?_); focus (first | omega | (intros; simp_all; done) | (simp; omega)))
          refine callK_yield hy ?_
          rintro v G' ⟨rfl, hJ'⟩
          simp only [go_sem]
          repeat' first | ((first | refine callP_false (.bool false) ?_ | refine aw_region rfl ?_ | refine aw_region_draw mixedF rfl (by kernel_rfl) ?_ | refine aE rfl ?_); simp only [go_sem]) | refine callG_y ?_ | refine callG_p ?_ | refine aw_seq ?_ | refine aw_block ?_ | refine aw_scope ?_ | (refine aw_cond rfl (fun h => ?_) (fun h => ?_) <;> try (exfalso; first | (simp at h; done) | (simp at h; omega))) | ((with_reducible refine And.intro ?_ ?_); focus (first | omega | (intros; simp_all; done) | (simp; omega)))
          exact ⟨(i + 1, G'), ⟨hlt, hJ'⟩, by simp only; omega, congrArg _ hw, rfl⟩
      · have hd : decide (l[i].parent = dir) = false := decide_eq_false h1
        repeat' first | ((first | refine callP_false (.bool false) ?_ | refine aw_region rfl ?_ | refine aw_region_draw mixedF rfl (by kernel_rfl) ?_ | refine aE rfl ?_); simp only [go_sem, hp, hli, hd, ndA]) | refine callG_y ?_ | refine callG_p ?_ | refine aw_seq ?_ | refine aw_block ?_ | refine aw_scope ?_ | (refine aw_cond rfl (fun h => ?_) (fun h => ?_) <;> try (exfalso; first | (simp at h; done) | (simp at h; omega))) | ((with_reducible refine And.intro ?_ ?_); focus (first | omega | (intros; simp_all; done) | (simp; omega)))
        exact ⟨(i + 1, _), ⟨hlt, hN i hlt _ (hA _ _ _ hJ) (by simp [inD, h1])⟩, by simp only; omega, congrArg _ hw, rfl⟩
    · have hie : i = l.length := by omega
      subst hie
      repeat' first | ((first | refine callP_false (.bool false) ?_ | refine aw_region rfl ?_ | refine aw_region_draw mixedF rfl (by kernel_rfl) ?_ | refine aE rfl ?_); simp only [go_sem]) | refine callG_y ?_ | refine callG_p ?_ | refine aw_seq ?_ | refine aw_block ?_ | refine aw_scope ?_ | (refine aw_cond rfl (fun h => ?_) (fun h => ?_) <;> try (exfalso; first | (simp at h; done) | (simp at h; omega))) | ((with_reducible refine And.intro ?_ ?_); focus (first | omega | (intros; simp_all; done) | (simp; omega)))
      exact hJ

theorem sl_cl (k : Nat) (b : Bool) (l : List Nd) : Cl k (.sl b (l.map ndA)) := (Pur.sl b _ (pur_nd l)).cl k
theorem inside_c (b : Bool) (l : List Nd) (dir : Int) (H : AHeap) : FnC Tryz.prog 114 [.sl b (l.map ndA), .int .i64 dir] H (.func (.func 124) [] [.cptr [.sl b (l.map ndA)], .cptr [.int .i64 dir]]) := by
  refine fnC_of Tryz.func114 rfl (Nat.le_of_ble_eq_true rfl) ?_
  repeat' first | ((first | refine callP_false (.bool false) ?_ | refine aw_region rfl ?_ | refine aw_region_draw mixedF rfl (by kernel_rfl) ?_ | refine aE rfl ?_); simp only [go_sem]) | refine callG_y ?_ | refine callG_p ?_ | refine aw_seq ?_ | refine aw_block ?_ | refine aw_scope ?_ | (refine aw_cond rfl (fun h => ?_) (fun h => ?_) <;> try (exfalso; first | (simp at h; done) | (simp at h; omega))) | ((with_reducible refine And.intro ?_ ?_); focus (first | omega | (intros; simp_all; done) | (simp; omega)))
  refine ⟨_, _, rfl, ?_, rfl⟩
  refine .func _ _ _ _ _ rfl rfl frz_nil (frz_cons (frz_box (Nat.le_refl _) (by simp only [go_sem]) ?_) (frz_cons (frz_box (by omega) (by simp only [go_sem]) ?_) frz_nil))
  · simp only [List.mem_singleton, forall_eq]; exact sl_cl _ _ _
  · simp only [List.mem_singleton, forall_eq]; exact .int _ _

theorem seen_c (b : Bool) (l : List Nd) (dir : Int) (hl : l.length ≤ 1073741824) (H : AHeap) :
    ACalls Tryz.prog 101 [.sl b (l.map ndA), .int .i64 dir] H (fun v H' => v = .map H.length ∧ H' = H ++ [.map (nmE 0 (seenN l dir)) (seenN l dir).length]) := by
  refine acalls_keep Tryz.func101 rfl (Nat.le_of_ble_eq_true rfl) ?_
  repeat' first | ((first | refine cK (ct (inside_c _ _ _) callOk114F) ?_ | refine cP (ct (inside_c _ _ _) callOk114F) ?_ | refine cM (ct (inside_c _ _ _) callOk114F) ?_ | refine callP_false (.bool false) ?_ | refine aw_region rfl ?_ | refine aw_region_draw mixedF rfl (by kernel_rfl) ?_ | refine aE rfl ?_); simp only [go_sem]) | refine callG_y ?_ | refine callG_p ?_ | refine aw_seq ?_ | refine aw_block ?_ | refine aw_scope ?_ | (refine aw_cond rfl (fun h => ?_) (fun h => ?_) <;> try (exfalso; first | (simp at h; done) | (simp at h; omega))) | ((with_reducible refine And.intro ?_ ?_); focus (first | omega | (intros; simp_all; done) | (simp; omega)))
  refine aw_sub [(5, .ref (H.length + 1) 0 0), (12, .func (.func 124) [] [.cptr [.sl b (l.map ndA)], .cptr [.int .i64 dir]])] (by simp [go_sem]) ?_
  refine aw_rangeFunc rfl callOk124F fun y LB hLB => ?_
  have hlen2 : (H ++ [ABlk.map [] 0, .cells 0 [.map H.length]]).length = H.length + 2 := by simp
  rw [hlen2, List.append_assoc]
  let M : Nat → List (Txt × Nd) := fun i => (l.take i).foldl (seeN dir) []
  let J : Nat → AHeap → Prop := fun i G => ∃ L, G = (H ++ [.map (nmE 0 (M i)) (M i).length, .cells 0 [.map H.length], LB]) ++ L
  have hM : ∀ i (h : i < l.length), M (i + 1) = seeN dir (M i) l[i] := fun i h => by
    simp only [M]; rw [List.take_succ_eq_append_getElem h, List.foldl_append]; rfl
  refine (inside1_c b l dir y J (fun i G L ⟨L', e⟩ => ⟨L' ++ L, by rw [e, List.append_assoc]⟩) (fun i h G ⟨L, e⟩ hd => ⟨L, by rw [e, hM i h, seeN, if_neg (by rw [hd]; simp)]⟩) (fun i h G ⟨L, e⟩ hd => ?_) hl _ ⟨[], by simp [M, nmE]⟩).mono fun _ G ⟨L, e⟩ => ?_
  · have hmi := hM i h
    rw [seeN, if_pos hd] at hmi
    have e1 : hget G H.length = .map (nmE 0 (M i)) (M i).length := by rw [e]; exact hget_appL (b := .map _ _) (by simp only [go_sem]) trivial L
    have e2 : hget G (H.length + 1) = .cells 0 [.map H.length] := by rw [e]; exact hget_appL (b := .cells _ _) (by simp only [go_sem]) trivial L
    have e3 : hget G (H.length + 2) = LB := by rw [e]; exact hget_appL (by simp only [go_sem]) (by rw [hLB]; trivial) L
    have hlv : LB.live := by rw [hLB]; trivial
    refine ayield_of e3 hLB rfl rfl rfl rfl fun BB fin hBB hlB hf1 hf2 => ?_
    have f3 := hget_on e3 hlv
    have g3 := hset_on e3 hlv
    simp only [putPs]
    refine aw_region rfl ?_
    simp only [go_sem, f3, g3, ndA]
    obtain ⟨G1, hG1⟩ : ∃ G1, hset G (H.length + 2) BB = G1 := ⟨_, rfl⟩
    rw [hG1]
    have hl3 := hget_lt e3 hlv
    have hlen : G.length = G1.length := by rw [← hG1]; simp [hset]
    have a1 : hget G1 H.length = .map (nmE 0 (M i)) (M i).length := by rw [← hG1]; exact hget_ne e1 (by omega) BB
    have a2 : hget G1 (H.length + 1) = .cells 0 [.map H.length] := by rw [← hG1]; exact hget_ne e2 (by omega) BB
    have a3 : hget G1 (H.length + 2) = BB := by rw [← hG1]; exact hget_eq hl3 BB
    have k1 := hget_on a1 trivial
    have k2 := hget_on a2 trivial
    have k3 := hget_on a3 hlB
    have s1 := hset_on a1 trivial
    rw [hlen]
    have hks : keysIn .string (nmE 0 (M i)) = True := eq_true (nmE_keys 0 _)
    clear hLB hBB hf2
    have hno : ∀ Y, M (i + 1) = M i → roundE (H.length + 2) BB fin G1 (fun v G' => v = .bool true ∧ J (i + 1) G') true none (G1 ++ Y) := fun Y hY =>
      ⟨k3 _, G1, Y, rfl, rfl, fun _ _ h => .inl h, rfl, L, by rw [hf1, ← hG1, hset_twice, hset_own e3 hlv, hY]; exact e⟩
    have hyes : ∀ Y, M (i + 1) = setN l[i].name l[i] (M i) → roundE (H.length + 2) BB fin G1 (fun v G' => v = .bool true ∧ J (i + 1) G') true none
        (hset G1 H.length (.map (putKey (.str l[i].name) (ndA l[i]) (nmE 0 (M i)) (M i).length) (putClock (.str l[i].name) (nmE 0 (M i)) (M i).length)) ++ Y) := fun Y hY => by
      rw [nmE_put0, ← hY]
      refine ⟨hget_on (hget_ne a3 (by omega) _) hlB _, _, Y, rfl, by rw [hset_ln], keep_set (nmE_cl _ _ _), rfl, L, ?_⟩
      rw [hf1, ← hG1, hset_comm _ _ _ (by omega), hset_twice, hset_own e3 hlv, e]
      simp [hset, List.set_append]
    rcases nmE_at 0 (M i) l[i].name with ⟨q1, q2⟩ | ⟨o, j, q1, q2⟩
    · repeat' first | ((first | refine callP_false (.bool false) ?_ | refine aw_region rfl ?_ | refine aw_region_draw mixedF rfl (by kernel_rfl) ?_ | refine aE rfl ?_); simp only [go_sem, k1, k2, k3, s1, hks, q2, ndA]) | refine callG_y ?_ | refine callG_p ?_ | refine aw_seq ?_ | refine aw_block ?_ | refine aw_scope ?_ | (refine aw_cond rfl (fun h => ?_) (fun h => ?_) <;> try (exfalso; first | (simp at h; done) | (simp at h; omega))) | ((with_reducible refine And.intro ?_ ?_); focus (first | omega | (intros; simp_all; done) | (simp; omega)))
      exact hyes _ (by rw [hmi, putV, q1])
    · have hless := less_c l[i].moved.c l[i].moved.r o.moved.c o.moved.r
      cases hlt : lessI l[i].moved.c l[i].moved.r o.moved.c o.moved.r with
      | true =>
        rw [hlt] at hless
        have ct0 := ct hless callOk75F; repeat' first | ((first | refine cK (by assumption) ?_ | refine cP (by assumption) ?_ | refine cM (by assumption) ?_ | refine callP_false (.bool false) ?_ | refine aw_region rfl ?_ | refine aw_region_draw mixedF rfl (by kernel_rfl) ?_ | refine aE rfl ?_); simp only [go_sem, k1, k2, k3, s1, hks, q2, ndA]) | refine callG_y ?_ | refine callG_p ?_ | refine aw_seq ?_ | refine aw_block ?_ | refine aw_scope ?_ | (refine aw_cond rfl (fun h => ?_) (fun h => ?_) <;> try (exfalso; first | (simp at h; done) | (simp at h; omega))) | ((with_reducible refine And.intro ?_ ?_); focus (first | omega | (intros; simp_all; done) | (simp; omega)))
        exact hno _ (by rw [hmi, putV, q1]; exact if_pos hlt)
      | false =>
        rw [hlt] at hless
        have ct0 := ct hless callOk75F; repeat' first | ((first | refine cK (by assumption) ?_ | refine cP (by assumption) ?_ | refine cM (by assumption) ?_ | refine callP_false (.bool false) ?_ | refine aw_region rfl ?_ | refine aw_region_draw mixedF rfl (by kernel_rfl) ?_ | refine aE rfl ?_); simp only [go_sem, k1, k2, k3, s1, hks, q2, ndA]) | refine callG_y ?_ | refine callG_p ?_ | refine aw_seq ?_ | refine aw_block ?_ | refine aw_scope ?_ | (refine aw_cond rfl (fun h => ?_) (fun h => ?_) <;> try (exfalso; first | (simp at h; done) | (simp at h; omega))) | ((with_reducible refine And.intro ?_ ?_); focus (first | omega | (intros; simp_all; done) | (simp; omega)))
        exact hyes _ (by rw [hmi, putV, q1]; exact if_neg (by rw [hlt]; simp))
  · have hml : M l.length = seenN l dir := by simp only [M]; rw [List.take_length]; rfl
    rw [hml] at e
    have e1 : hget G H.length = .map (nmE 0 (seenN l dir)) (seenN l dir).length := by rw [e]; exact hget_appL (b := .map _ _) (by simp only [go_sem]) trivial L
    have e2 : hget G (H.length + 1) = .cells 0 [.map H.length] := by rw [e]; exact hget_appL (b := .cells _ _) (by simp only [go_sem]) trivial L
    have e3 : hget G (H.length + 2) = LB := by rw [e]; exact hget_appL (by simp only [go_sem]) (by rw [hLB]; trivial) L
    refine .inl ⟨.ready, by simp, e3.trans hLB, fun X => ?_⟩
    have e4 := hget_ne e2 (i := H.length + 2) (by omega) X
    have e5 : hset G (H.length + 2) X = (H ++ [.map (nmE 0 (seenN l dir)) (seenN l dir).length]) ++ (.cells 0 [.map H.length] :: X :: L) := by rw [e]; simp [hset, List.set_append]
    obtain ⟨G2, hG2⟩ : ∃ G2, hset G (H.length + 2) X = G2 := ⟨_, rfl⟩
    rw [hG2] at e4 e5 ⊢
    simp only [go_sem]
    repeat' first | ((first | refine callP_false (.bool false) ?_ | refine aw_region rfl ?_ | refine aw_region_draw mixedF rfl (by kernel_rfl) ?_ | refine aE rfl ?_); simp only [go_sem, e4]) | refine callG_y ?_ | refine callG_p ?_ | refine aw_seq ?_ | refine aw_block ?_ | refine aw_scope ?_ | (refine aw_cond rfl (fun h => ?_) (fun h => ?_) <;> try (exfalso; first | (simp at h; done) | (simp at h; omega))) | ((with_reducible refine And.intro ?_ ?_); focus (first | omega | (intros; simp_all; done) | (simp; omega)))
    refine ⟨_, _, _, e5, by simp, fun j b' hj => ?_, .cl _ (.map _ (by simp)), rfl, rfl⟩
    by_cases hlt : j < H.length
    · rw [List.getElem?_append_left hlt] at hj; exact .inl hj
    · rw [List.getElem?_append_right (by omega)] at hj
      refine .inr ?_
      cases hk : j - H.length with
      | zero => rw [hk] at hj; cases hj; exact nmE_cl _ _ _
      | succ k => rw [hk] at hj; simp at hj

/-- What Child answers. -/
def childV (o : Option Nd) : AV := .tup [.int .i64 ((o.map (·.id)).getD 0), .bool o.isSome]
theorem child_c (b : Bool) (l : List Nd) (dir : Int) (s : Txt) (hl : l.length ≤ 1073741824) (H : AHeap) : FnC Tryz.prog 84 [.sl b (l.map ndA), .int .i64 dir, .str s] H (childV (childN l dir s)) := by
  refine fnC_of Tryz.func84 rfl (Nat.le_of_ble_eq_true rfl) ?_
  cases hs : chk l with
  | false =>
    have he : childN l dir s = none := by simp [childN, hs]
    rw [he]
    repeat' first | ((first | refine cK (ct (chk_c _ _) callOk53F) ?_ | refine cP (ct (chk_c _ _) callOk53F) ?_ | refine cM (ct (chk_c _ _) callOk53F) ?_ | refine callP_false (.bool false) ?_ | refine aw_region rfl ?_ | refine aw_region_draw mixedF rfl (by kernel_rfl) ?_ | refine aE rfl ?_); simp only [go_sem, hs]) | refine callG_y ?_ | refine callG_p ?_ | refine aw_seq ?_ | refine aw_block ?_ | refine aw_scope ?_ | (refine aw_cond rfl (fun h => ?_) (fun h => ?_) <;> try (exfalso; first | (simp at h; done) | (simp at h; omega))) | ((with_reducible refine And.intro ?_ ?_); focus (first | omega | (intros; simp_all; done) | (simp; omega)))
    exact done0 (by simp only [go_sem]) (.refl _)
  | true =>
    have he : childN l dir s = lookN s (seenN l dir) := by simp [childN, hs]
    rw [he]
    repeat' first | ((first | refine cK (ct (chk_c _ _) callOk53F) ?_ | refine cP (ct (chk_c _ _) callOk53F) ?_ | refine cM (ct (chk_c _ _) callOk53F) ?_ | refine callP_false (.bool false) ?_ | refine aw_region rfl ?_ | refine aw_region_draw mixedF rfl (by kernel_rfl) ?_ | refine aE rfl ?_); simp only [go_sem, hs]) | refine callG_y ?_ | refine callG_p ?_ | refine aw_seq ?_ | refine aw_block ?_ | refine aw_scope ?_ | (refine aw_cond rfl (fun h => ?_) (fun h => ?_) <;> try (exfalso; first | (simp at h; done) | (simp at h; omega))) | ((with_reducible refine And.intro ?_ ?_); focus (first | omega | (intros; simp_all; done) | (simp; omega)))
    refine callK_of (seen_c b l dir hl H) callOk101F ?_
    rintro v H' ⟨rfl, rfl⟩
    have hks : keysIn .string (nmE 0 (seenN l dir)) = True := eq_true (nmE_keys 0 _)
    rcases nmE_at 0 (seenN l dir) s with ⟨q1, q2⟩ | ⟨o, j, q1, q2⟩
    · rw [q1]
      simp only [go_sem, hks, q2]
      repeat' first | ((first | refine callP_false (.bool false) ?_ | refine aw_region rfl ?_ | refine aw_region_draw mixedF rfl (by kernel_rfl) ?_ | refine aE rfl ?_); simp only [go_sem, hks, q2, ndA]) | refine callG_y ?_ | refine callG_p ?_ | refine aw_seq ?_ | refine aw_block ?_ | refine aw_scope ?_ | (refine aw_cond rfl (fun h => ?_) (fun h => ?_) <;> try (exfalso; first | (simp at h; done) | (simp at h; omega))) | ((with_reducible refine And.intro ?_ ?_); focus (first | omega | (intros; simp_all; done) | (simp; omega)))
      exact done (by simp only [go_sem]) (.refl _)
    · rw [q1]
      simp only [go_sem, hks, q2, ndA]
      repeat' first | ((first | refine callP_false (.bool false) ?_ | refine aw_region rfl ?_ | refine aw_region_draw mixedF rfl (by kernel_rfl) ?_ | refine aE rfl ?_); simp only [go_sem, hks, q2, ndA]) | refine callG_y ?_ | refine callG_p ?_ | refine aw_seq ?_ | refine aw_block ?_ | refine aw_scope ?_ | (refine aw_cond rfl (fun h => ?_) (fun h => ?_) <;> try (exfalso; first | (simp at h; done) | (simp at h; omega))) | ((with_reducible refine And.intro ?_ ?_); focus (first | omega | (intros; simp_all; done) | (simp; omega)))
      exact done (by simp only [go_sem]) (.refl _)

/-- What Find answers. -/
def findV (r : Int × Int) : AV := .tup [.int .i64 r.1, .int .i64 r.2]
theorem pathN_step (l : List Nd) (at_ : Int) (s : Txt) (names : List Txt) : pathN l at_ (s :: names) = if dirI at_ = true then (match childN l at_ s with | some n => pathN l n.id names | none => (0, 80)) else (0, 81) := rfl
theorem vfind_c (b b' : Bool) (l : List Nd) (names : List Txt) (hl : l.length ≤ 1073741824) (H : AHeap) : FnC Tryz.prog 56 [.sl b (l.map ndA), .sl b' (names.map AV.str)] H (findV (findN l names)) := by
  refine fnC_ok2 fun _ hok => ?_
  have hn := ok_sl hok
  rw [List.length_map] at hn
  refine fnC_of Tryz.func56 rfl (Nat.le_of_ble_eq_true rfl) ?_
  repeat' first | ((first | refine callP_false (.bool false) ?_ | refine aw_region rfl ?_ | refine aw_region_draw mixedF rfl (by kernel_rfl) ?_ | refine aE rfl ?_); simp only [go_sem]) | refine callG_y ?_ | refine callG_p ?_ | refine aw_seq ?_ | refine aw_block ?_ | refine aw_scope ?_ | (refine aw_cond rfl (fun h => ?_) (fun h => ?_) <;> try (exfalso; first | (simp at h; done) | (simp at h; omega))) | ((with_reducible refine And.intro ?_ ?_); focus (first | omega | (intros; simp_all; done) | (simp; omega)))
  refine aw_loopS (ι := Nat × Int) (fun p => [(0, .sl b (l.map ndA)), (11, .sl b' (names.map AV.str)), (12, .int .i64 names.length), (13, .int .i64 p.1), (6, .int .i64 p.2)]) (fun _ => H) (fun p => p.1 ≤ names.length ∧ findN l names = pathN l p.2 (names.drop p.1)) (fun p => names.length - p.1) (0, 0) ⟨Nat.zero_le _, rfl⟩ ?_ rfl ?_
  · simp [go_sem]
  · rintro ⟨i, at_⟩ ⟨hi, he⟩
    simp only at hi he ⊢
    by_cases hlt : i < names.length
    · have hp := getD_map AV.str hlt
      have hli : decide ((i : Int) < (names.length : Int)) = true := decide_eq_true (by omega)
      have hw := wrap_succ hlt hn
      have hd := dir_c at_
      have hch := child_c b l at_ names[i] hl
      rw [List.drop_eq_getElem_cons hlt, pathN_step] at he
      cases h1 : dirI at_ with
      | false =>
        rw [h1] at hd he
        have ct0 := ct hd callOk57F; repeat' first | ((first | refine cK (by assumption) ?_ | refine cP (by assumption) ?_ | refine cM (by assumption) ?_ | refine callP_false (.bool false) ?_ | refine aw_region rfl ?_ | refine aw_region_draw mixedF rfl (by kernel_rfl) ?_ | refine aE rfl ?_); simp only [go_sem, hp, hli]) | refine callG_y ?_ | refine callG_p ?_ | refine aw_seq ?_ | refine aw_block ?_ | refine aw_scope ?_ | (refine aw_cond rfl (fun h => ?_) (fun h => ?_) <;> try (exfalso; first | (simp at h; done) | (simp at h; omega))) | ((with_reducible refine And.intro ?_ ?_); focus (first | omega | (intros; simp_all; done) | (simp; omega)))
        exact done0 (by simp only [go_sem]) (.of (by rw [he]; rfl))
      | true =>
        rw [h1, if_pos rfl] at he
        rw [h1] at hd
        cases h2 : childN l at_ names[i] with
        | none =>
          rw [h2] at hch he
          simp only [childV, Option.map_none, Option.getD_none, Option.isSome_none] at hch
          have ct0 := ct hd callOk57F; have ct1 := ct hch callOk84F; repeat' first | ((first | refine cK (by assumption) ?_ | refine cP (by assumption) ?_ | refine cM (by assumption) ?_ | refine callP_false (.bool false) ?_ | refine aw_region rfl ?_ | refine aw_region_draw mixedF rfl (by kernel_rfl) ?_ | refine aE rfl ?_); simp only [go_sem, hp, hli]) | refine callG_y ?_ | refine callG_p ?_ | refine aw_seq ?_ | refine aw_block ?_ | refine aw_scope ?_ | (refine aw_cond rfl (fun h => ?_) (fun h => ?_) <;> try (exfalso; first | (simp at h; done) | (simp at h; omega))) | ((with_reducible refine And.intro ?_ ?_); focus (first | omega | (intros; simp_all; done) | (simp; omega)))
          exact done0 (by simp only [go_sem]) (.of (by rw [he]; rfl))
        | some n =>
          rw [h2] at hch he
          simp only [childV, Option.map_some, Option.getD_some, Option.isSome_some] at hch
          have ct0 := ct hd callOk57F; have ct1 := ct hch callOk84F; repeat' first | ((first | refine cK (by assumption) ?_ | refine cP (by assumption) ?_ | refine cM (by assumption) ?_ | refine callP_false (.bool false) ?_ | refine aw_region rfl ?_ | refine aw_region_draw mixedF rfl (by kernel_rfl) ?_ | refine aE rfl ?_); simp only [go_sem, hp, hli]) | refine callG_y ?_ | refine callG_p ?_ | refine aw_seq ?_ | refine aw_block ?_ | refine aw_scope ?_ | (refine aw_cond rfl (fun h => ?_) (fun h => ?_) <;> try (exfalso; first | (simp at h; done) | (simp at h; omega))) | ((with_reducible refine And.intro ?_ ?_); focus (first | omega | (intros; simp_all; done) | (simp; omega)))
          exact ⟨(i + 1, n.id), ⟨hlt, he⟩, by simp only; omega, congrArg _ hw, rfl⟩
    · have hie : i = names.length := by omega
      subst hie
      have hli : decide ((names.length : Int) < (names.length : Int)) = false := by simp
      repeat' first | ((first | refine callP_false (.bool false) ?_ | refine aw_region rfl ?_ | refine aw_region_draw mixedF rfl (by kernel_rfl) ?_ | refine aE rfl ?_); simp only [go_sem, hli]) | refine callG_y ?_ | refine callG_p ?_ | refine aw_seq ?_ | refine aw_block ?_ | refine aw_scope ?_ | (refine aw_cond rfl (fun h => ?_) (fun h => ?_) <;> try (exfalso; first | (simp at h; done) | (simp at h; omega))) | ((with_reducible refine And.intro ?_ ?_); focus (first | omega | (intros; simp_all; done) | (simp; omega)))
      exact done0 (by simp only [go_sem]) (.of (by rw [he, List.drop_length]; rfl))
end Go.Proofs.YtmknmapgfjmioaaGreatDoor
/- plan.wayOf, walks, Names, paths: what they answer. No condition but the length of what comes in. -/
namespace Go.Proofs.YtmknmapgfjmioaaGreatDoor
open Go Go.Aw Go.Gw
set_option linter.unusedSimpArgs false
set_option maxRecDepth 20000
set_option maxHeartbeats 4000000

theorem sims_one {a b : AV} (h : Sim a b) : ∀ (i : Nat) (x y : AV), [a][i]? = some x → [b][i]? = some y → Sim x y := sims_cons h sims_nil

/-- What wayOf answers. -/
def wayV (c : Cal) : AV := if turnsK c = true then .iface 76 (caA c) else if walksK c = true then .iface 67 (.agg [.sl false ((wnames c).map AV.str)]) else .iface 101 (.agg [])

theorem str_pur (l : List Txt) : ∀ e ∈ l.map AV.str, Pur e := fun e he => by
  obtain ⟨x, _, rfl⟩ := List.mem_map.1 he; exact .str _
theorem walker_done {n : Nat} {H L : AHeap} {f : Bool} {l m : List Txt} (e : l = m) : ∃ L' y, H ++ L = H ++ L' ∧ Frz n (H ++ L) (.iface 67 (.agg [.sl f (l.map AV.str)])) y ∧ y = .iface 67 (.agg [.sl false (m.map AV.str)]) := by
  subst e
  exact done (.iface _ _ (.agg _ (by simp only [List.mem_singleton, forall_eq]; exact .sl _ _ (str_pur l)))) (.iface _ _ _ (.agg _ _ rfl (sims_one (.sl _ _))))

theorem kind_cases (k : Int) : k = 4 ∨ k = 7 ∨ k = 1 ∨ k = 2 ∨ k = 3 ∨ k = 10 ∨ k = 5 ∨ k = 6 ∨ k = 13 ∨ ((k = 4) = False ∧ (k = 7) = False ∧ (k = 1) = False ∧ (k = 2) = False ∧ (k = 3) = False ∧ (k = 10) = False ∧ (k = 5) = False ∧ (k = 6) = False ∧ (k = 13) = False) := by
  simp only [eq_iff_iff, iff_false]; omega

theorem way_c (c : Cal) (hp : c.path.length ≤ 1048576) (H : AHeap) : FnC Tryz.prog 28 [caA c] H (wayV c) := by
  refine fnC_of Tryz.func28 rfl (Nat.le_of_ble_eq_true rfl) ?_
  obtain ⟨k, path, to, data, n⟩ := c
  simp only at hp
  have hpath := path_c path hp
  have hn : (∀ l, namesOf path = some l → l.length ≤ 16) := fun l hl => namesOf_len hl
  rcases kind_cases k with rfl | rfl | rfl | rfl | rfl | rfl | rfl | rfl | rfl | ⟨e1, e2, e3, e4, e5, e6, e7, e8, e9⟩
  case inr.inr.inr.inr.inr.inr.inl =>
    repeat' first | ((first | refine callP_false (.bool false) ?_ | refine aw_region rfl ?_ | refine aw_region_draw mixedF rfl (by kernel_rfl) ?_ | refine aE rfl ?_); simp only [go_sem, caA, Int.reduceEq]) | refine callG_y ?_ | refine callG_p ?_ | refine aw_seq ?_ | refine aw_block ?_ | refine aw_scope ?_ | (refine aw_cond rfl (fun h => ?_) (fun h => ?_) <;> try (exfalso; first | (simp at h; done) | (simp at h; omega))) | ((with_reducible refine And.intro ?_ ?_); focus (first | omega | (intros; simp_all; done) | (simp; omega)))
    exact done (by simp only [go_sem]) (.refl _)
  case inr.inr.inr.inr.inr.inr.inr.inl =>
    repeat' first | ((first | refine callP_false (.bool false) ?_ | refine aw_region rfl ?_ | refine aw_region_draw mixedF rfl (by kernel_rfl) ?_ | refine aE rfl ?_); simp only [go_sem, caA, Int.reduceEq]) | refine callG_y ?_ | refine callG_p ?_ | refine aw_seq ?_ | refine aw_block ?_ | refine aw_scope ?_ | (refine aw_cond rfl (fun h => ?_) (fun h => ?_) <;> try (exfalso; first | (simp at h; done) | (simp at h; omega))) | ((with_reducible refine And.intro ?_ ?_); focus (first | omega | (intros; simp_all; done) | (simp; omega)))
    exact done (by simp only [go_sem]) (.refl _)
  case inr.inr.inr.inr.inr.inr.inr.inr.inl =>
    repeat' first | ((first | refine callP_false (.bool false) ?_ | refine aw_region rfl ?_ | refine aw_region_draw mixedF rfl (by kernel_rfl) ?_ | refine aE rfl ?_); simp only [go_sem, caA, Int.reduceEq]) | refine callG_y ?_ | refine callG_p ?_ | refine aw_seq ?_ | refine aw_block ?_ | refine aw_scope ?_ | (refine aw_cond rfl (fun h => ?_) (fun h => ?_) <;> try (exfalso; first | (simp at h; done) | (simp at h; omega))) | ((with_reducible refine And.intro ?_ ?_); focus (first | omega | (intros; simp_all; done) | (simp; omega)))
    exact done (by simp only [go_sem]) (.refl _)
  case inr.inr.inr.inr.inr.inr.inr.inr.inr =>
    repeat' first | ((first | refine callP_false (.bool false) ?_ | refine aw_region rfl ?_ | refine aw_region_draw mixedF rfl (by kernel_rfl) ?_ | refine aE rfl ?_); simp only [go_sem, caA, e1, e2, e3, e4, e5, e6, e7, e8, e9]) | refine callG_y ?_ | refine callG_p ?_ | refine aw_seq ?_ | refine aw_block ?_ | refine aw_scope ?_ | (refine aw_cond rfl (fun h => ?_) (fun h => ?_) <;> try (exfalso; first | (simp at h; done) | (simp at h; omega))) | ((with_reducible refine And.intro ?_ ?_); focus (first | omega | (intros; simp_all; done) | (simp; omega)))
    exact done (by simp only [go_sem]) (.of (by simp only [wayV, turnsK, walksK, e1, e2, e3, e4, e5, e6, e7, e8, e9]; rfl))
  case inl =>
    by_cases h0 : n = 0
    · subst h0
      cases hns : namesOf path with
      | none =>
        simp only [pathV, hns] at hpath
        have ct0 := ct hpath callOk55F; repeat' first | ((first | refine cK (by assumption) ?_ | refine cP (by assumption) ?_ | refine cM (by assumption) ?_ | refine callP_false (.bool false) ?_ | refine aw_region rfl ?_ | refine aw_region_draw mixedF rfl (by kernel_rfl) ?_ | refine aE rfl ?_); simp only [go_sem, caA, Int.reduceEq]) | refine callG_y ?_ | refine callG_p ?_ | refine aw_seq ?_ | refine aw_block ?_ | refine aw_scope ?_ | (refine aw_cond rfl (fun h => ?_) (fun h => ?_) <;> try (exfalso; first | (simp at h; done) | (simp at h; omega))) | ((with_reducible refine And.intro ?_ ?_); focus (first | omega | (intros; simp_all; done) | (simp; omega)))
        exact walker_done (l := []) (by simp only [wnames, hns])
      | some l =>
        simp only [pathV, hns] at hpath
        cases l with
        | nil =>
          have ct0 := ct hpath callOk55F; repeat' first | ((first | refine cK (by assumption) ?_ | refine cP (by assumption) ?_ | refine cM (by assumption) ?_ | refine callP_false (.bool false) ?_ | refine aw_region rfl ?_ | refine aw_region_draw mixedF rfl (by kernel_rfl) ?_ | refine aE rfl ?_); simp only [go_sem, caA, Int.reduceEq]) | refine callG_y ?_ | refine callG_p ?_ | refine aw_seq ?_ | refine aw_block ?_ | refine aw_scope ?_ | (refine aw_cond rfl (fun h => ?_) (fun h => ?_) <;> try (exfalso; first | (simp at h; done) | (simp at h; omega))) | ((with_reducible refine And.intro ?_ ?_); focus (first | omega | (intros; simp_all; done) | (simp; omega)))
          exact walker_done (l := []) (by simp only [wnames, hns]; rfl)
        | cons x xs =>
          have hl := hn _ hns
          rw [List.length_cons] at hl
          have hw : IntKind.i64.wrap (((xs.length + 1 : Nat) : Int) - 1) = (xs.length : Int) := by rw [wrap_i64 (by omega) (by omega)]; omega
          have hlz : decide ((0 : Int) < ((xs.length + 1 : Nat) : Int)) = true := decide_eq_true (by omega)
          have hb : ((0 : Int) ≤ (xs.length : Int) ∧ (xs.length : Int) ≤ ((xs.length + 1 : Nat) : Int)) = True := eq_true (by omega)
          have ct0 := ct hpath callOk55F; repeat' first | ((first | refine cK (by assumption) ?_ | refine cP (by assumption) ?_ | refine cM (by assumption) ?_ | refine callP_false (.bool false) ?_ | refine aw_region rfl ?_ | refine aw_region_draw mixedF rfl (by kernel_rfl) ?_ | refine aE rfl ?_); simp only [go_sem, caA, Int.reduceEq, hw, hlz, hb, Int.toNat_natCast, List.map_cons]) | refine callG_y ?_ | refine callG_p ?_ | refine aw_seq ?_ | refine aw_block ?_ | refine aw_scope ?_ | (refine aw_cond rfl (fun h => ?_) (fun h => ?_) <;> try (exfalso; first | (simp at h; done) | (simp at h; omega))) | ((with_reducible refine And.intro ?_ ?_); focus (first | omega | (intros; simp_all; done) | (simp; omega)))
          rw [← List.map_cons (f := AV.str), ← List.map_take]
          exact walker_done (by simp only [wnames, hns]; exact (List.dropLast_eq_take (l := x :: xs)).symm)
    · have e0 : (n = 0) = False := eq_false h0
      repeat' first | ((first | refine callP_false (.bool false) ?_ | refine aw_region rfl ?_ | refine aw_region_draw mixedF rfl (by kernel_rfl) ?_ | refine aE rfl ?_); simp only [go_sem, caA, Int.reduceEq, e0]) | refine callG_y ?_ | refine callG_p ?_ | refine aw_seq ?_ | refine aw_block ?_ | refine aw_scope ?_ | (refine aw_cond rfl (fun h => ?_) (fun h => ?_) <;> try (exfalso; first | (simp at h; done) | (simp at h; omega))) | ((with_reducible refine And.intro ?_ ?_); focus (first | omega | (intros; simp_all; done) | (simp; omega)))
      exact done (by simp only [go_sem]) (.of (by simp only [wayV, turnsK, walksK, e0]; rfl))
  case inr.inl =>
    by_cases h0 : n = 0
    · subst h0
      cases hns : namesOf path with
      | none =>
        simp only [pathV, hns] at hpath
        have ct0 := ct hpath callOk55F; repeat' first | ((first | refine cK (by assumption) ?_ | refine cP (by assumption) ?_ | refine cM (by assumption) ?_ | refine callP_false (.bool false) ?_ | refine aw_region rfl ?_ | refine aw_region_draw mixedF rfl (by kernel_rfl) ?_ | refine aE rfl ?_); simp only [go_sem, caA, Int.reduceEq]) | refine callG_y ?_ | refine callG_p ?_ | refine aw_seq ?_ | refine aw_block ?_ | refine aw_scope ?_ | (refine aw_cond rfl (fun h => ?_) (fun h => ?_) <;> try (exfalso; first | (simp at h; done) | (simp at h; omega))) | ((with_reducible refine And.intro ?_ ?_); focus (first | omega | (intros; simp_all; done) | (simp; omega)))
        exact walker_done (l := []) (by simp only [wnames, hns])
      | some l =>
        simp only [pathV, hns] at hpath
        cases l with
        | nil =>
          have ct0 := ct hpath callOk55F; repeat' first | ((first | refine cK (by assumption) ?_ | refine cP (by assumption) ?_ | refine cM (by assumption) ?_ | refine callP_false (.bool false) ?_ | refine aw_region rfl ?_ | refine aw_region_draw mixedF rfl (by kernel_rfl) ?_ | refine aE rfl ?_); simp only [go_sem, caA, Int.reduceEq]) | refine callG_y ?_ | refine callG_p ?_ | refine aw_seq ?_ | refine aw_block ?_ | refine aw_scope ?_ | (refine aw_cond rfl (fun h => ?_) (fun h => ?_) <;> try (exfalso; first | (simp at h; done) | (simp at h; omega))) | ((with_reducible refine And.intro ?_ ?_); focus (first | omega | (intros; simp_all; done) | (simp; omega)))
          exact walker_done (l := []) (by simp only [wnames, hns]; rfl)
        | cons x xs =>
          have hl := hn _ hns
          rw [List.length_cons] at hl
          have hw : IntKind.i64.wrap (((xs.length + 1 : Nat) : Int) - 1) = (xs.length : Int) := by rw [wrap_i64 (by omega) (by omega)]; omega
          have hlz : decide ((0 : Int) < ((xs.length + 1 : Nat) : Int)) = true := decide_eq_true (by omega)
          have hb : ((0 : Int) ≤ (xs.length : Int) ∧ (xs.length : Int) ≤ ((xs.length + 1 : Nat) : Int)) = True := eq_true (by omega)
          have ct0 := ct hpath callOk55F; repeat' first | ((first | refine cK (by assumption) ?_ | refine cP (by assumption) ?_ | refine cM (by assumption) ?_ | refine callP_false (.bool false) ?_ | refine aw_region rfl ?_ | refine aw_region_draw mixedF rfl (by kernel_rfl) ?_ | refine aE rfl ?_); simp only [go_sem, caA, Int.reduceEq, hw, hlz, hb, Int.toNat_natCast, List.map_cons]) | refine callG_y ?_ | refine callG_p ?_ | refine aw_seq ?_ | refine aw_block ?_ | refine aw_scope ?_ | (refine aw_cond rfl (fun h => ?_) (fun h => ?_) <;> try (exfalso; first | (simp at h; done) | (simp at h; omega))) | ((with_reducible refine And.intro ?_ ?_); focus (first | omega | (intros; simp_all; done) | (simp; omega)))
          exact walker_done (l := x :: xs) (by simp only [wnames, hns]; rfl)
    · have e0 : (n = 0) = False := eq_false h0
      repeat' first | ((first | refine callP_false (.bool false) ?_ | refine aw_region rfl ?_ | refine aw_region_draw mixedF rfl (by kernel_rfl) ?_ | refine aE rfl ?_); simp only [go_sem, caA, Int.reduceEq, e0]) | refine callG_y ?_ | refine callG_p ?_ | refine aw_seq ?_ | refine aw_block ?_ | refine aw_scope ?_ | (refine aw_cond rfl (fun h => ?_) (fun h => ?_) <;> try (exfalso; first | (simp at h; done) | (simp at h; omega))) | ((with_reducible refine And.intro ?_ ?_); focus (first | omega | (intros; simp_all; done) | (simp; omega)))
      exact done (by simp only [go_sem]) (.of (by simp only [wayV, turnsK, walksK, e0]; rfl))
  case inr.inr.inl =>
    cases hns : namesOf path with
    | none =>
      simp only [pathV, hns] at hpath
      have ct0 := ct hpath callOk55F; repeat' first | ((first | refine cK (by assumption) ?_ | refine cP (by assumption) ?_ | refine cM (by assumption) ?_ | refine callP_false (.bool false) ?_ | refine aw_region rfl ?_ | refine aw_region_draw mixedF rfl (by kernel_rfl) ?_ | refine aE rfl ?_); simp only [go_sem, caA, Int.reduceEq]) | refine callG_y ?_ | refine callG_p ?_ | refine aw_seq ?_ | refine aw_block ?_ | refine aw_scope ?_ | (refine aw_cond rfl (fun h => ?_) (fun h => ?_) <;> try (exfalso; first | (simp at h; done) | (simp at h; omega))) | ((with_reducible refine And.intro ?_ ?_); focus (first | omega | (intros; simp_all; done) | (simp; omega)))
      exact walker_done (l := []) (by simp only [wnames, hns])
    | some l =>
      simp only [pathV, hns] at hpath
      cases l with
      | nil =>
        have ct0 := ct hpath callOk55F; repeat' first | ((first | refine cK (by assumption) ?_ | refine cP (by assumption) ?_ | refine cM (by assumption) ?_ | refine callP_false (.bool false) ?_ | refine aw_region rfl ?_ | refine aw_region_draw mixedF rfl (by kernel_rfl) ?_ | refine aE rfl ?_); simp only [go_sem, caA, Int.reduceEq]) | refine callG_y ?_ | refine callG_p ?_ | refine aw_seq ?_ | refine aw_block ?_ | refine aw_scope ?_ | (refine aw_cond rfl (fun h => ?_) (fun h => ?_) <;> try (exfalso; first | (simp at h; done) | (simp at h; omega))) | ((with_reducible refine And.intro ?_ ?_); focus (first | omega | (intros; simp_all; done) | (simp; omega)))
        exact walker_done (l := []) (by simp only [wnames, hns]; rfl)
      | cons x xs =>
        have hl := hn _ hns
        rw [List.length_cons] at hl
        have hw : IntKind.i64.wrap (((xs.length + 1 : Nat) : Int) - 1) = (xs.length : Int) := by rw [wrap_i64 (by omega) (by omega)]; omega
        have hlz : decide ((0 : Int) < ((xs.length + 1 : Nat) : Int)) = true := decide_eq_true (by omega)
        have hb : ((0 : Int) ≤ (xs.length : Int) ∧ (xs.length : Int) ≤ ((xs.length + 1 : Nat) : Int)) = True := eq_true (by omega)
        have ct0 := ct hpath callOk55F; repeat' first | ((first | refine cK (by assumption) ?_ | refine cP (by assumption) ?_ | refine cM (by assumption) ?_ | refine callP_false (.bool false) ?_ | refine aw_region rfl ?_ | refine aw_region_draw mixedF rfl (by kernel_rfl) ?_ | refine aE rfl ?_); simp only [go_sem, caA, Int.reduceEq, hw, hlz, hb, Int.toNat_natCast, List.map_cons]) | refine callG_y ?_ | refine callG_p ?_ | refine aw_seq ?_ | refine aw_block ?_ | refine aw_scope ?_ | (refine aw_cond rfl (fun h => ?_) (fun h => ?_) <;> try (exfalso; first | (simp at h; done) | (simp at h; omega))) | ((with_reducible refine And.intro ?_ ?_); focus (first | omega | (intros; simp_all; done) | (simp; omega)))
        rw [← List.map_cons (f := AV.str), ← List.map_take]
        exact walker_done (by simp only [wnames, hns]; exact (List.dropLast_eq_take (l := x :: xs)).symm)
  case inr.inr.inr.inl =>
    cases hns : namesOf path with
    | none =>
      simp only [pathV, hns] at hpath
      have ct0 := ct hpath callOk55F; repeat' first | ((first | refine cK (by assumption) ?_ | refine cP (by assumption) ?_ | refine cM (by assumption) ?_ | refine callP_false (.bool false) ?_ | refine aw_region rfl ?_ | refine aw_region_draw mixedF rfl (by kernel_rfl) ?_ | refine aE rfl ?_); simp only [go_sem, caA, Int.reduceEq]) | refine callG_y ?_ | refine callG_p ?_ | refine aw_seq ?_ | refine aw_block ?_ | refine aw_scope ?_ | (refine aw_cond rfl (fun h => ?_) (fun h => ?_) <;> try (exfalso; first | (simp at h; done) | (simp at h; omega))) | ((with_reducible refine And.intro ?_ ?_); focus (first | omega | (intros; simp_all; done) | (simp; omega)))
      exact walker_done (l := []) (by simp only [wnames, hns])
    | some l =>
      simp only [pathV, hns] at hpath
      cases l with
      | nil =>
        have ct0 := ct hpath callOk55F; repeat' first | ((first | refine cK (by assumption) ?_ | refine cP (by assumption) ?_ | refine cM (by assumption) ?_ | refine callP_false (.bool false) ?_ | refine aw_region rfl ?_ | refine aw_region_draw mixedF rfl (by kernel_rfl) ?_ | refine aE rfl ?_); simp only [go_sem, caA, Int.reduceEq]) | refine callG_y ?_ | refine callG_p ?_ | refine aw_seq ?_ | refine aw_block ?_ | refine aw_scope ?_ | (refine aw_cond rfl (fun h => ?_) (fun h => ?_) <;> try (exfalso; first | (simp at h; done) | (simp at h; omega))) | ((with_reducible refine And.intro ?_ ?_); focus (first | omega | (intros; simp_all; done) | (simp; omega)))
        exact walker_done (l := []) (by simp only [wnames, hns]; rfl)
      | cons x xs =>
        have hl := hn _ hns
        rw [List.length_cons] at hl
        have hw : IntKind.i64.wrap (((xs.length + 1 : Nat) : Int) - 1) = (xs.length : Int) := by rw [wrap_i64 (by omega) (by omega)]; omega
        have hlz : decide ((0 : Int) < ((xs.length + 1 : Nat) : Int)) = true := decide_eq_true (by omega)
        have hb : ((0 : Int) ≤ (xs.length : Int) ∧ (xs.length : Int) ≤ ((xs.length + 1 : Nat) : Int)) = True := eq_true (by omega)
        have ct0 := ct hpath callOk55F; repeat' first | ((first | refine cK (by assumption) ?_ | refine cP (by assumption) ?_ | refine cM (by assumption) ?_ | refine callP_false (.bool false) ?_ | refine aw_region rfl ?_ | refine aw_region_draw mixedF rfl (by kernel_rfl) ?_ | refine aE rfl ?_); simp only [go_sem, caA, Int.reduceEq, hw, hlz, hb, Int.toNat_natCast, List.map_cons]) | refine callG_y ?_ | refine callG_p ?_ | refine aw_seq ?_ | refine aw_block ?_ | refine aw_scope ?_ | (refine aw_cond rfl (fun h => ?_) (fun h => ?_) <;> try (exfalso; first | (simp at h; done) | (simp at h; omega))) | ((with_reducible refine And.intro ?_ ?_); focus (first | omega | (intros; simp_all; done) | (simp; omega)))
        rw [← List.map_cons (f := AV.str), ← List.map_take]
        exact walker_done (by simp only [wnames, hns]; exact (List.dropLast_eq_take (l := x :: xs)).symm)
  case inr.inr.inr.inr.inl =>
    cases hns : namesOf path with
    | none =>
      simp only [pathV, hns] at hpath
      have ct0 := ct hpath callOk55F; repeat' first | ((first | refine cK (by assumption) ?_ | refine cP (by assumption) ?_ | refine cM (by assumption) ?_ | refine callP_false (.bool false) ?_ | refine aw_region rfl ?_ | refine aw_region_draw mixedF rfl (by kernel_rfl) ?_ | refine aE rfl ?_); simp only [go_sem, caA, Int.reduceEq]) | refine callG_y ?_ | refine callG_p ?_ | refine aw_seq ?_ | refine aw_block ?_ | refine aw_scope ?_ | (refine aw_cond rfl (fun h => ?_) (fun h => ?_) <;> try (exfalso; first | (simp at h; done) | (simp at h; omega))) | ((with_reducible refine And.intro ?_ ?_); focus (first | omega | (intros; simp_all; done) | (simp; omega)))
      exact walker_done (l := []) (by simp only [wnames, hns])
    | some l =>
      simp only [pathV, hns] at hpath
      cases l with
      | nil =>
        have ct0 := ct hpath callOk55F; repeat' first | ((first | refine cK (by assumption) ?_ | refine cP (by assumption) ?_ | refine cM (by assumption) ?_ | refine callP_false (.bool false) ?_ | refine aw_region rfl ?_ | refine aw_region_draw mixedF rfl (by kernel_rfl) ?_ | refine aE rfl ?_); simp only [go_sem, caA, Int.reduceEq]) | refine callG_y ?_ | refine callG_p ?_ | refine aw_seq ?_ | refine aw_block ?_ | refine aw_scope ?_ | (refine aw_cond rfl (fun h => ?_) (fun h => ?_) <;> try (exfalso; first | (simp at h; done) | (simp at h; omega))) | ((with_reducible refine And.intro ?_ ?_); focus (first | omega | (intros; simp_all; done) | (simp; omega)))
        exact walker_done (l := []) (by simp only [wnames, hns]; rfl)
      | cons x xs =>
        have hl := hn _ hns
        rw [List.length_cons] at hl
        have hw : IntKind.i64.wrap (((xs.length + 1 : Nat) : Int) - 1) = (xs.length : Int) := by rw [wrap_i64 (by omega) (by omega)]; omega
        have hlz : decide ((0 : Int) < ((xs.length + 1 : Nat) : Int)) = true := decide_eq_true (by omega)
        have hb : ((0 : Int) ≤ (xs.length : Int) ∧ (xs.length : Int) ≤ ((xs.length + 1 : Nat) : Int)) = True := eq_true (by omega)
        have ct0 := ct hpath callOk55F; repeat' first | ((first | refine cK (by assumption) ?_ | refine cP (by assumption) ?_ | refine cM (by assumption) ?_ | refine callP_false (.bool false) ?_ | refine aw_region rfl ?_ | refine aw_region_draw mixedF rfl (by kernel_rfl) ?_ | refine aE rfl ?_); simp only [go_sem, caA, Int.reduceEq, hw, hlz, hb, Int.toNat_natCast, List.map_cons]) | refine callG_y ?_ | refine callG_p ?_ | refine aw_seq ?_ | refine aw_block ?_ | refine aw_scope ?_ | (refine aw_cond rfl (fun h => ?_) (fun h => ?_) <;> try (exfalso; first | (simp at h; done) | (simp at h; omega))) | ((with_reducible refine And.intro ?_ ?_); focus (first | omega | (intros; simp_all; done) | (simp; omega)))
        rw [← List.map_cons (f := AV.str), ← List.map_take]
        exact walker_done (by simp only [wnames, hns]; exact (List.dropLast_eq_take (l := x :: xs)).symm)
  case inr.inr.inr.inr.inr.inl =>
    cases hns : namesOf path with
    | none =>
      simp only [pathV, hns] at hpath
      have ct0 := ct hpath callOk55F; repeat' first | ((first | refine cK (by assumption) ?_ | refine cP (by assumption) ?_ | refine cM (by assumption) ?_ | refine callP_false (.bool false) ?_ | refine aw_region rfl ?_ | refine aw_region_draw mixedF rfl (by kernel_rfl) ?_ | refine aE rfl ?_); simp only [go_sem, caA, Int.reduceEq]) | refine callG_y ?_ | refine callG_p ?_ | refine aw_seq ?_ | refine aw_block ?_ | refine aw_scope ?_ | (refine aw_cond rfl (fun h => ?_) (fun h => ?_) <;> try (exfalso; first | (simp at h; done) | (simp at h; omega))) | ((with_reducible refine And.intro ?_ ?_); focus (first | omega | (intros; simp_all; done) | (simp; omega)))
      exact walker_done (l := []) (by simp only [wnames, hns])
    | some l =>
      simp only [pathV, hns] at hpath
      cases l with
      | nil =>
        have ct0 := ct hpath callOk55F; repeat' first | ((first | refine cK (by assumption) ?_ | refine cP (by assumption) ?_ | refine cM (by assumption) ?_ | refine callP_false (.bool false) ?_ | refine aw_region rfl ?_ | refine aw_region_draw mixedF rfl (by kernel_rfl) ?_ | refine aE rfl ?_); simp only [go_sem, caA, Int.reduceEq]) | refine callG_y ?_ | refine callG_p ?_ | refine aw_seq ?_ | refine aw_block ?_ | refine aw_scope ?_ | (refine aw_cond rfl (fun h => ?_) (fun h => ?_) <;> try (exfalso; first | (simp at h; done) | (simp at h; omega))) | ((with_reducible refine And.intro ?_ ?_); focus (first | omega | (intros; simp_all; done) | (simp; omega)))
        exact walker_done (l := []) (by simp only [wnames, hns]; rfl)
      | cons x xs =>
        have hl := hn _ hns
        rw [List.length_cons] at hl
        have hw : IntKind.i64.wrap (((xs.length + 1 : Nat) : Int) - 1) = (xs.length : Int) := by rw [wrap_i64 (by omega) (by omega)]; omega
        have hlz : decide ((0 : Int) < ((xs.length + 1 : Nat) : Int)) = true := decide_eq_true (by omega)
        have hb : ((0 : Int) ≤ (xs.length : Int) ∧ (xs.length : Int) ≤ ((xs.length + 1 : Nat) : Int)) = True := eq_true (by omega)
        have ct0 := ct hpath callOk55F; repeat' first | ((first | refine cK (by assumption) ?_ | refine cP (by assumption) ?_ | refine cM (by assumption) ?_ | refine callP_false (.bool false) ?_ | refine aw_region rfl ?_ | refine aw_region_draw mixedF rfl (by kernel_rfl) ?_ | refine aE rfl ?_); simp only [go_sem, caA, Int.reduceEq, hw, hlz, hb, Int.toNat_natCast, List.map_cons]) | refine callG_y ?_ | refine callG_p ?_ | refine aw_seq ?_ | refine aw_block ?_ | refine aw_scope ?_ | (refine aw_cond rfl (fun h => ?_) (fun h => ?_) <;> try (exfalso; first | (simp at h; done) | (simp at h; omega))) | ((with_reducible refine And.intro ?_ ?_); focus (first | omega | (intros; simp_all; done) | (simp; omega)))
        exact walker_done (l := x :: xs) (by simp only [wnames, hns]; rfl)

theorem walks_c (c : Cal) (hp : c.path.length ≤ 1048576) (H : AHeap) : FnC Tryz.prog 40 [caA c] H (.bool (walksK c)) := by
  refine fnC_of Tryz.func40 rfl (Nat.le_of_ble_eq_true rfl) ?_
  have hw := way_c c hp
  have hx : turnsK c = true → walksK c = false := by simp only [turnsK, walksK]; intro h; simp at h ⊢; omega
  unfold wayV at hw
  cases ht : turnsK c with
  | true =>
    rw [ht, if_pos rfl] at hw
    rw [hx ht]
    have ct0 := ct hw callOk28F; repeat' first | ((first | refine cK (by assumption) ?_ | refine cP (by assumption) ?_ | refine cM (by assumption) ?_ | refine callP_false (.bool false) ?_ | refine aw_region rfl ?_ | refine aw_region_draw mixedF rfl (by kernel_rfl) ?_ | refine aE rfl ?_); simp only [go_sem, caA]) | refine callG_y ?_ | refine callG_p ?_ | refine aw_seq ?_ | refine aw_block ?_ | refine aw_scope ?_ | (refine aw_cond rfl (fun h => ?_) (fun h => ?_) <;> try (exfalso; first | (simp at h; done) | (simp at h; omega))) | ((with_reducible refine And.intro ?_ ?_); focus (first | omega | (intros; simp_all; done) | (simp; omega)))
    exact done (by simp only [go_sem]) (.refl _)
  | false =>
    rw [ht, if_neg (by simp)] at hw
    cases hk : walksK c with
    | true =>
      rw [hk, if_pos rfl] at hw
      have ct0 := ct hw callOk28F; repeat' first | ((first | refine cK (by assumption) ?_ | refine cP (by assumption) ?_ | refine cM (by assumption) ?_ | refine callP_false (.bool false) ?_ | refine aw_region rfl ?_ | refine aw_region_draw mixedF rfl (by kernel_rfl) ?_ | refine aE rfl ?_); simp only [go_sem, caA]) | refine callG_y ?_ | refine callG_p ?_ | refine aw_seq ?_ | refine aw_block ?_ | refine aw_scope ?_ | (refine aw_cond rfl (fun h => ?_) (fun h => ?_) <;> try (exfalso; first | (simp at h; done) | (simp at h; omega))) | ((with_reducible refine And.intro ?_ ?_); focus (first | omega | (intros; simp_all; done) | (simp; omega)))
      exact done (by simp only [go_sem]) (.refl _)
    | false =>
      rw [hk, if_neg (by simp)] at hw
      have ct0 := ct hw callOk28F; repeat' first | ((first | refine cK (by assumption) ?_ | refine cP (by assumption) ?_ | refine cM (by assumption) ?_ | refine callP_false (.bool false) ?_ | refine aw_region rfl ?_ | refine aw_region_draw mixedF rfl (by kernel_rfl) ?_ | refine aE rfl ?_); simp only [go_sem, caA]) | refine callG_y ?_ | refine callG_p ?_ | refine aw_seq ?_ | refine aw_block ?_ | refine aw_scope ?_ | (refine aw_cond rfl (fun h => ?_) (fun h => ?_) <;> try (exfalso; first | (simp at h; done) | (simp at h; omega))) | ((with_reducible refine And.intro ?_ ?_); focus (first | omega | (intros; simp_all; done) | (simp; omega)))
      exact done (by simp only [go_sem]) (.refl _)

theorem paths_c (c : Cal) (H : AHeap) : FnC Tryz.prog 59 [caA c] H (.sl true ((pathsK c).map AV.str)) := by
  refine fnC_of Tryz.func59 rfl (Nat.le_of_ble_eq_true rfl) ?_
  unfold pathsK
  by_cases h5 : c.kind = 5
  · rw [if_pos h5]
    have hd : decide (c.kind = 5) = true := decide_eq_true h5
    repeat' first | ((first | refine callP_false (.bool false) ?_ | refine aw_region rfl ?_ | refine aw_region_draw mixedF rfl (by kernel_rfl) ?_ | refine aE rfl ?_); simp only [go_sem, caA, hd]) | refine callG_y ?_ | refine callG_p ?_ | refine aw_seq ?_ | refine aw_block ?_ | refine aw_scope ?_ | (refine aw_cond rfl (fun h => ?_) (fun h => ?_) <;> try (exfalso; first | (simp at h; done) | (simp at h; omega))) | ((with_reducible refine And.intro ?_ ?_); focus (first | omega | (intros; simp_all; done) | (simp; omega)))
    exact done (by simp only [go_sem]) (.refl _)
  · rw [if_neg h5]
    have hd : decide (c.kind = 5) = false := decide_eq_false h5
    by_cases h6 : c.kind = 6
    · rw [if_pos h6]
      have hd' : decide (c.kind = 6) = true := decide_eq_true h6
      repeat' first | ((first | refine callP_false (.bool false) ?_ | refine aw_region rfl ?_ | refine aw_region_draw mixedF rfl (by kernel_rfl) ?_ | refine aE rfl ?_); simp only [go_sem, caA, hd, hd']) | refine callG_y ?_ | refine callG_p ?_ | refine aw_seq ?_ | refine aw_block ?_ | refine aw_scope ?_ | (refine aw_cond rfl (fun h => ?_) (fun h => ?_) <;> try (exfalso; first | (simp at h; done) | (simp at h; omega))) | ((with_reducible refine And.intro ?_ ?_); focus (first | omega | (intros; simp_all; done) | (simp; omega)))
      exact done (by simp only [go_sem]) (.refl _)
    · rw [if_neg h6]
      have hd' : decide (c.kind = 6) = false := decide_eq_false h6
      repeat' first | ((first | refine callP_false (.bool false) ?_ | refine aw_region rfl ?_ | refine aw_region_draw mixedF rfl (by kernel_rfl) ?_ | refine aE rfl ?_); simp only [go_sem, caA, hd, hd']) | refine callG_y ?_ | refine callG_p ?_ | refine aw_seq ?_ | refine aw_block ?_ | refine aw_scope ?_ | (refine aw_cond rfl (fun h => ?_) (fun h => ?_) <;> try (exfalso; first | (simp at h; done) | (simp at h; omega))) | ((with_reducible refine And.intro ?_ ?_); focus (first | omega | (intros; simp_all; done) | (simp; omega)))
      exact done (by simp only [go_sem]) (.refl _)
end Go.Proofs.YtmknmapgfjmioaaGreatDoor
