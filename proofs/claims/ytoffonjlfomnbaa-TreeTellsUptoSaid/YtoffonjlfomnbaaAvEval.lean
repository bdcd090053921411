/- The abstract machine's equations, for evaluation by simp only [go_sem]. No condition. -/
import Derived.Test.YtoffonjlfomnbaaAvFun
import Derived.Attr
namespace Go.Aw
open Go
set_option linter.unusedSimpArgs false

variable {P : Program}

/-! ### Code -/

/-- What is to be shown of a piece of code: `aw`, spelled as a function that steps. -/
theorem aw_seq' {N : Nat} {x y : Code} {Q : APost} {α : AF} {H : AHeap} (h : aw P N x (thenQ P N y Q) α H) : aw P N (.seq x y) Q α H := aw_seq h

theorem aw_cond {N : Nat} {x : Operand} {y z : Code} {Q : APost} {α : AF} {H : AHeap} {b : Bool} (hx : ev α x = .bool b) (h1 : b = true → aw P N y Q α H) (h2 : b = false → aw P N z Q α H) : aw P N (.cond x y z) Q α H := by
  intro c a hs ha
  have := rep_ev ha x
  rw [hx] at this
  exact wp_cond_split this.bool_inv (fun hb => h1 hb c a hs ha) (fun hb => h2 hb c a hs ha)

@[go_sem] theorem thenQ_normal (N : Nat) (y : Code) (Q : APost) (α : AF) (H : AHeap) : thenQ P N y Q .normal α H = aw P N y Q α H := rfl
@[go_sem] theorem thenQ_ret (N : Nat) (y : Code) (Q : APost) (α : AF) (H : AHeap) : thenQ P N y Q .ret α H = Q .ret α H := rfl
@[go_sem] theorem thenQ_exit (N i : Nat) (y : Code) (Q : APost) (α : AF) (H : AHeap) : thenQ P N y Q (.exit i) α H = Q (.exit i) α H := rfl
@[go_sem] theorem blockQ_normal (i : Nat) (Q : APost) (α : AF) (H : AHeap) : blockQ i Q .normal α H = Q .normal α H := rfl
@[go_sem] theorem blockQ_ret (i : Nat) (Q : APost) (α : AF) (H : AHeap) : blockQ i Q .ret α H = Q .ret α H := rfl
@[go_sem] theorem blockQ_exit (i j : Nat) (Q : APost) (α : AF) (H : AHeap) : blockQ i Q (.exit j) α H = if j = i then Q .normal α H else Q (.exit j) α H := by
  simp only [blockQ]; by_cases h : j = i <;> simp [h]
attribute [go_sem] loopQ retQ aresAll ares retV List.map_cons List.map_nil frameOf

/-! ### Frames -/
@[go_sem] theorem look_cons (d : Nat) (v : AV) (α : AF) (t : Nat) : look ((d, v) :: α) t = if d = t then v else look α t := by
  simp only [look]
  by_cases h : d = t
  · simp [h]
  · have hb : (d == t) = false := by simpa using h
    simp [h, hb]
@[go_sem] theorem look_nil (t : Nat) : look [] t = .top := rfl
attribute [go_sem] putA ev evu ofConst if_true if_false
@[go_sem] theorem ofCell_i64 (n : Int) (h1 : -9223372036854775808 ≤ n) (h2 : n ≤ 9223372036854775807) : ofCell (.int .i64 n) = .int .i64 n := by
  have : inRB .i64 n = true := inRB_t.2 (inR_i64.2 ⟨h1, h2⟩)
  simp [ofCell, this]
@[go_sem] theorem ofCell_u8 (n : Int) (h1 : 0 ≤ n) (h2 : n ≤ 255) : ofCell (.int .u8 n) = .int .u8 n := by
  have : inRB .u8 n = true := inRB_t.2 (inR_u8.2 ⟨h1, h2⟩)
  simp [ofCell, this]
@[go_sem] theorem ofCell_i32 (n : Int) (h1 : -2147483648 ≤ n) (h2 : n ≤ 2147483647) : ofCell (.int .i32 n) = .int .i32 n := by
  have : inRB .i32 n = true := inRB_t.2 (inR_i32.2 ⟨h1, h2⟩)
  simp [ofCell, this]
@[go_sem] theorem ofCell_u64 (n : Int) (h1 : 0 ≤ n) (h2 : n ≤ 18446744073709551615) : ofCell (.int .u64 n) = .int .u64 n := by
  have : inRB .u64 n = true := inRB_t.2 ⟨h1, h2⟩
  simp [ofCell, this]
@[go_sem] theorem ofCell_u32 (n : Int) (h1 : 0 ≤ n) (h2 : n ≤ 4294967295) : ofCell (.int .u32 n) = .int .u32 n := by
  have : inRB .u32 n = true := inRB_t.2 ⟨h1, h2⟩
  simp [ofCell, this]
@[go_sem] theorem ofCell_u16 (n : Int) (h1 : 0 ≤ n) (h2 : n ≤ 65535) : ofCell (.int .u16 n) = .int .u16 n := by
  have : inRB .u16 n = true := inRB_t.2 ⟨h1, h2⟩
  simp [ofCell, this]
@[go_sem] theorem ofCell_bool (b : Bool) : ofCell (.bool b) = .bool b := rfl
@[go_sem] theorem ofCell_nilptr : ofCell (.pointer none) = .nilptr := rfl
@[go_sem] theorem ofCell_nilsl : ofCell (.slice none 0 0) = .sl true [] := rfl
@[go_sem] theorem ofCell_nilmap : ofCell (.map none) = .nilmap := rfl
@[go_sem] theorem ofCell_nilfunc : ofCell .nilFunc = .nilfunc := rfl
@[go_sem] theorem ofCell_nilif : ofCell .nilIface = .nilIface := rfl
@[go_sem] theorem ofCell_str (s : ByteArray) (h : s.data.toList.length ≤ 9223372036854775807) : ofCell (.string s) = .str s.data.toList := by
  have : Nat.ble s.data.toList.length 9223372036854775807 = true := Nat.ble_eq_true_of_le h
  simp only [ofCell, this, cond_true]
@[go_sem] theorem toList_arr {α : Type} (l : List α) : (l.toArray).toList = l := rfl

/-! ### Regions -/
section
variable (all os : List Oper) (α : AF) (H : AHeap) (k : AF → AHeap → Prop) (kp : AF → Prop) (dst : Option Tmp) (ty : TypeId) (pos : String) (after : Array Edge)

/-- What goes on behind a call. -/
def aopsK (P : Program) (all os : List Oper) (dst : Option Tmp) (α : AF) (k : AF → AHeap → Prop) : AV → AHeap → Prop := fun v H' => aops P all os (putA dst v α) H' k
def aopsG (P : Program) (all os : List Oper) (dst : Option Tmp) (g : Bool) (α : AF) (H : AHeap) (k : AF → AHeap → Prop) : AV → Prop := fun v => aops P all os (putA dst (.opt g v) α) H k
def aopsPK (P : Program) (all : List Oper) (H : AHeap) (os : List Oper) (dst : Option Tmp) (α : AF) (kp : AF → Prop) : AV → Prop := fun v => aopsP P all H os (putA dst v α) kp
def aopsPG (P : Program) (all : List Oper) (H : AHeap) (os : List Oper) (dst : Option Tmp) (g : Bool) (α : AF) (kp : AF → Prop) : AV → Prop := fun v => aopsP P all H os (putA dst (.opt g v) α) kp

def aopsN (P : Program) (all os : List Oper) (dst : Option Tmp) (α : AF) (H : AHeap) (k : AF → AHeap → Prop) : AV → Prop := fun v => aops P all os (putA dst v α) H k
@[go_sem] theorem aops_nil : aops P all [] α H k = k α H := rfl
@[go_sem] theorem aopsP_nil : aopsP P all H [] α kp = kp α := rfl

@[go_sem] theorem aops_pick (x y z : Operand) : aops P all (⟨dst, .pick x y z, ty, pos, after, none⟩ :: os) α H k =
    ((apick true (ev α x) (ev α y) (ev α z)).s ∧ aops P all os (putA dst (apick true (ev α x) (ev α y) (ev α z)).v α) H k) := rfl
@[go_sem] theorem aops_callf (f : Operand) (xs : Array Operand) (ts : Array TypeId) : aops P all (⟨dst, .call ⟨.value f, xs, ts⟩, ty, pos, after, none⟩ :: os) α H k =
    callK P (ev α f) (xs.toList.map (ev α)) H (aopsK P all os dst α k) := rfl
@[go_sem] theorem aops_invoke (r : Operand) (m : String) (xs : Array Operand) (ts : Array TypeId) : aops P all (⟨dst, .call ⟨.invoke r m, xs, ts⟩, ty, pos, after, none⟩ :: os) α H k =
    callK P (methodAV P m (ev α r)) (xs.toList.map (ev α)) H (aopsK P all os dst α k) := rfl
@[go_sem] theorem aops_ginvoke (r : Operand) (m : String) (xs : Array Operand) (ts : Array TypeId) (j : Nat) (w : Bool) : aops P all (⟨dst, .call ⟨.invoke r m, xs, ts⟩, ty, pos, after, some (j, w)⟩ :: os) α H k =
    (gok (slotV α (nth all j)) ∧ oblAll (gval (slotV α (nth all j)) w) α (r :: xs.toList) ∧
        callP P (gval (slotV α (nth all j)) w) (methodAV P m (evu α r)) (xs.toList.map (evu α)) H (aopsG P all os dst (gval (slotV α (nth all j)) w) α H k)) := rfl
@[go_sem] theorem aopsP_invoke (r : Operand) (m : String) (xs : Array Operand) (ts : Array TypeId) : aopsP P all H (⟨dst, .call ⟨.invoke r m, xs, ts⟩, ty, pos, after, none⟩ :: os) α kp =
    callP P true (methodAV P m (ev α r)) (xs.toList.map (ev α)) H (aopsPK P all H os dst α kp) := rfl
@[go_sem] theorem aopsP_ginvoke (r : Operand) (m : String) (xs : Array Operand) (ts : Array TypeId) (j : Nat) (w : Bool) : aopsP P all H (⟨dst, .call ⟨.invoke r m, xs, ts⟩, ty, pos, after, some (j, w)⟩ :: os) α kp =
    (gok (slotV α (nth all j)) ∧ oblAll (gval (slotV α (nth all j)) w) α (r :: xs.toList) ∧
        callP P (gval (slotV α (nth all j)) w) (methodAV P m (evu α r)) (xs.toList.map (evu α)) H (aopsPG P all H os dst (gval (slotV α (nth all j)) w) α kp)) := rfl
@[go_sem] theorem aops_gpick (x y z : Operand) (j : Nat) (w : Bool) : aops P all (⟨dst, .pick x y z, ty, pos, after, some (j, w)⟩ :: os) α H k =
    (gok (slotV α (nth all j)) ∧ ((gval (slotV α (nth all j)) w) = true → (apick (gval (slotV α (nth all j)) w) (ev α x) (ev α y) (ev α z)).s) ∧
        aops P all os (putA dst (.opt (gval (slotV α (nth all j)) w) (apick (gval (slotV α (nth all j)) w) (ev α x) (ev α y) (ev α z)).v) α) H k) := rfl
@[go_sem] theorem aops_gcallf (f : Operand) (xs : Array Operand) (ts : Array TypeId) (j : Nat) (w : Bool) : aops P all (⟨dst, .call ⟨.value f, xs, ts⟩, ty, pos, after, some (j, w)⟩ :: os) α H k =
    (gok (slotV α (nth all j)) ∧ oblAll (gval (slotV α (nth all j)) w) α (f :: xs.toList) ∧
      callP P (gval (slotV α (nth all j)) w) (evu α f) (xs.toList.map (evu α)) H (aopsG P all os dst (gval (slotV α (nth all j)) w) α H k)) := rfl

@[go_sem] theorem aopsP_pick (x y z : Operand) : aopsP P all H (⟨dst, .pick x y z, ty, pos, after, none⟩ :: os) α kp =
    ((apick true (ev α x) (ev α y) (ev α z)).s ∧ aopsP P all H os (putA dst (apick true (ev α x) (ev α y) (ev α z)).v α) kp) := rfl
@[go_sem] theorem aopsP_callf (f : Operand) (xs : Array Operand) (ts : Array TypeId) : aopsP P all H (⟨dst, .call ⟨.value f, xs, ts⟩, ty, pos, after, none⟩ :: os) α kp =
    callP P true (ev α f) (xs.toList.map (ev α)) H (aopsPK P all H os dst α kp) := rfl
@[go_sem] theorem aopsP_gpick (x y z : Operand) (j : Nat) (w : Bool) : aopsP P all H (⟨dst, .pick x y z, ty, pos, after, some (j, w)⟩ :: os) α kp =
    (gok (slotV α (nth all j)) ∧ ((gval (slotV α (nth all j)) w) = true → (apick (gval (slotV α (nth all j)) w) (ev α x) (ev α y) (ev α z)).s) ∧
        aopsP P all H os (putA dst (.opt (gval (slotV α (nth all j)) w) (apick (gval (slotV α (nth all j)) w) (ev α x) (ev α y) (ev α z)).v) α) kp) := rfl
@[go_sem] theorem aopsP_gcallf (f : Operand) (xs : Array Operand) (ts : Array TypeId) (j : Nat) (w : Bool) : aopsP P all H (⟨dst, .call ⟨.value f, xs, ts⟩, ty, pos, after, some (j, w)⟩ :: os) α kp =
    (gok (slotV α (nth all j)) ∧ oblAll (gval (slotV α (nth all j)) w) α (f :: xs.toList) ∧
      callP P (gval (slotV α (nth all j)) w) (evu α f) (xs.toList.map (evu α)) H (aopsPG P all H os dst (gval (slotV α (nth all j)) w) α kp)) := rfl

@[go_sem] theorem aops_move (x : Operand) : aops P all (⟨dst, .move x, ty, pos, after, none⟩ :: os) α H k = (aops P all os (putA dst (ev α x) α) H k) :=
  (show _ = ((opEval P (.move x) (ev α) H).s ∧ aops P all os (putA dst (opEval P (.move x) (ev α) H).v α) (opEval P (.move x) (ev α) H).H k) from rfl).trans (by simp only [opEval, ofBR, true_and, and_true, implies_true, and_assoc])
@[go_sem] theorem aops_gmove (x : Operand) (j : Nat) (w : Bool) : aops P all (⟨dst, .move x, ty, pos, after, some (j, w)⟩ :: os) α H k = (gok (slotV α (nth all j)) ∧ oblAll (gval (slotV α (nth all j)) w) α [x] ∧ aops P all os (putA dst (.opt (gval (slotV α (nth all j)) w) (evu α  x)) α) H k) :=
  (show _ = (gok (slotV α (nth all j)) ∧ oblAll (gval (slotV α (nth all j)) w) α [x] ∧ ((gval (slotV α (nth all j)) w) = true → (opEval P (.move x) (evu α) H).s ∧ (opEval P (.move x) (evu α) H).H = H) ∧ aops P all os (putA dst (.opt (gval (slotV α (nth all j)) w) (opEval P (.move x) (evu α) H).v) α) H k) from rfl).trans (by simp only [opEval, ofBR, true_and, and_true, implies_true, and_assoc])
@[go_sem] theorem aopsP_move (x : Operand) : aopsP P all H (⟨dst, .move x, ty, pos, after, none⟩ :: os) α kp = (aopsP P all H os (putA dst (ev α x) α) kp) :=
  (show _ = ((opEval P (.move x) (ev α) H).s ∧ (opEval P (.move x) (ev α) H).H = H ∧ aopsP P all H os (putA dst (opEval P (.move x) (ev α) H).v α) kp) from rfl).trans (by simp only [opEval, ofBR, true_and, and_true, implies_true, and_assoc])
@[go_sem] theorem aopsP_gmove (x : Operand) (j : Nat) (w : Bool) : aopsP P all H (⟨dst, .move x, ty, pos, after, some (j, w)⟩ :: os) α kp = (gok (slotV α (nth all j)) ∧ oblAll (gval (slotV α (nth all j)) w) α [x] ∧ aopsP P all H os (putA dst (.opt (gval (slotV α (nth all j)) w) (evu α  x)) α) kp) :=
  (show _ = (gok (slotV α (nth all j)) ∧ oblAll (gval (slotV α (nth all j)) w) α [x] ∧ ((gval (slotV α (nth all j)) w) = true → (opEval P (.move x) (evu α) H).s ∧ (opEval P (.move x) (evu α) H).H = H) ∧ aopsP P all H os (putA dst (.opt (gval (slotV α (nth all j)) w) (opEval P (.move x) (evu α) H).v) α) kp) from rfl).trans (by simp only [opEval, ofBR, true_and, and_true, implies_true, and_assoc])
@[go_sem] theorem aops_assign (x : Operand) : aops P all (⟨dst, .assign x, ty, pos, after, none⟩ :: os) α H k = (aops P all os (putA dst (ev α x) α) H k) :=
  (show _ = ((opEval P (.assign x) (ev α) H).s ∧ aops P all os (putA dst (opEval P (.assign x) (ev α) H).v α) (opEval P (.assign x) (ev α) H).H k) from rfl).trans (by simp only [opEval, ofBR, true_and, and_true, implies_true, and_assoc])
@[go_sem] theorem aops_gassign (x : Operand) (j : Nat) (w : Bool) : aops P all (⟨dst, .assign x, ty, pos, after, some (j, w)⟩ :: os) α H k = (gok (slotV α (nth all j)) ∧ oblAll (gval (slotV α (nth all j)) w) α [x] ∧ aops P all os (putA dst (.opt (gval (slotV α (nth all j)) w) (evu α  x)) α) H k) :=
  (show _ = (gok (slotV α (nth all j)) ∧ oblAll (gval (slotV α (nth all j)) w) α [x] ∧ ((gval (slotV α (nth all j)) w) = true → (opEval P (.assign x) (evu α) H).s ∧ (opEval P (.assign x) (evu α) H).H = H) ∧ aops P all os (putA dst (.opt (gval (slotV α (nth all j)) w) (opEval P (.assign x) (evu α) H).v) α) H k) from rfl).trans (by simp only [opEval, ofBR, true_and, and_true, implies_true, and_assoc])
@[go_sem] theorem aopsP_assign (x : Operand) : aopsP P all H (⟨dst, .assign x, ty, pos, after, none⟩ :: os) α kp = (aopsP P all H os (putA dst (ev α x) α) kp) :=
  (show _ = ((opEval P (.assign x) (ev α) H).s ∧ (opEval P (.assign x) (ev α) H).H = H ∧ aopsP P all H os (putA dst (opEval P (.assign x) (ev α) H).v α) kp) from rfl).trans (by simp only [opEval, ofBR, true_and, and_true, implies_true, and_assoc])
@[go_sem] theorem aopsP_gassign (x : Operand) (j : Nat) (w : Bool) : aopsP P all H (⟨dst, .assign x, ty, pos, after, some (j, w)⟩ :: os) α kp = (gok (slotV α (nth all j)) ∧ oblAll (gval (slotV α (nth all j)) w) α [x] ∧ aopsP P all H os (putA dst (.opt (gval (slotV α (nth all j)) w) (evu α  x)) α) kp) :=
  (show _ = (gok (slotV α (nth all j)) ∧ oblAll (gval (slotV α (nth all j)) w) α [x] ∧ ((gval (slotV α (nth all j)) w) = true → (opEval P (.assign x) (evu α) H).s ∧ (opEval P (.assign x) (evu α) H).H = H) ∧ aopsP P all H os (putA dst (.opt (gval (slotV α (nth all j)) w) (opEval P (.assign x) (evu α) H).v) α) kp) from rfl).trans (by simp only [opEval, ofBR, true_and, and_true, implies_true, and_assoc])
@[go_sem] theorem aops_alloc (t : TypeId) : aops P all (⟨dst, .alloc t, ty, pos, after, none⟩ :: os) α H k = ((aalloc P t H).s ∧ aops P all os (putA dst (aalloc P t H).v α) (aalloc P t H).H k) :=
  (show _ = ((opEval P (.alloc t) (ev α) H).s ∧ aops P all os (putA dst (opEval P (.alloc t) (ev α) H).v α) (opEval P (.alloc t) (ev α) H).H k) from rfl).trans (by simp only [opEval, ofBR, true_and, and_true, implies_true, and_assoc])
@[go_sem] theorem aops_galloc (t : TypeId) (j : Nat) (w : Bool) : aops P all (⟨dst, .alloc t, ty, pos, after, some (j, w)⟩ :: os) α H k = (gok (slotV α (nth all j)) ∧ oblAll (gval (slotV α (nth all j)) w) α [] ∧ ((gval (slotV α (nth all j)) w) = true → (aalloc P t H).s ∧ (aalloc P t H).H = H) ∧ aops P all os (putA dst (.opt (gval (slotV α (nth all j)) w) (aalloc P t H).v) α) H k) :=
  (show _ = (gok (slotV α (nth all j)) ∧ oblAll (gval (slotV α (nth all j)) w) α [] ∧ ((gval (slotV α (nth all j)) w) = true → (opEval P (.alloc t) (evu α) H).s ∧ (opEval P (.alloc t) (evu α) H).H = H) ∧ aops P all os (putA dst (.opt (gval (slotV α (nth all j)) w) (opEval P (.alloc t) (evu α) H).v) α) H k) from rfl).trans (by simp only [opEval, ofBR, true_and, and_true, implies_true, and_assoc])
@[go_sem] theorem aopsP_alloc (t : TypeId) : aopsP P all H (⟨dst, .alloc t, ty, pos, after, none⟩ :: os) α kp = ((aalloc P t H).s ∧ (aalloc P t H).H = H ∧ aopsP P all H os (putA dst (aalloc P t H).v α) kp) :=
  (show _ = ((opEval P (.alloc t) (ev α) H).s ∧ (opEval P (.alloc t) (ev α) H).H = H ∧ aopsP P all H os (putA dst (opEval P (.alloc t) (ev α) H).v α) kp) from rfl).trans (by simp only [opEval, ofBR, true_and, and_true, implies_true, and_assoc])
@[go_sem] theorem aopsP_galloc (t : TypeId) (j : Nat) (w : Bool) : aopsP P all H (⟨dst, .alloc t, ty, pos, after, some (j, w)⟩ :: os) α kp = (gok (slotV α (nth all j)) ∧ oblAll (gval (slotV α (nth all j)) w) α [] ∧ ((gval (slotV α (nth all j)) w) = true → (aalloc P t H).s ∧ (aalloc P t H).H = H) ∧ aopsP P all H os (putA dst (.opt (gval (slotV α (nth all j)) w) (aalloc P t H).v) α) kp) :=
  (show _ = (gok (slotV α (nth all j)) ∧ oblAll (gval (slotV α (nth all j)) w) α [] ∧ ((gval (slotV α (nth all j)) w) = true → (opEval P (.alloc t) (evu α) H).s ∧ (opEval P (.alloc t) (evu α) H).H = H) ∧ aopsP P all H os (putA dst (.opt (gval (slotV α (nth all j)) w) (opEval P (.alloc t) (evu α) H).v) α) kp) from rfl).trans (by simp only [opEval, ofBR, true_and, and_true, implies_true, and_assoc])
@[go_sem] theorem aops_box (t : TypeId) (x : Operand) : aops P all (⟨dst, .box t x, ty, pos, after, none⟩ :: os) α H k = ((abox (ev α x) H).s ∧ aops P all os (putA dst (abox (ev α x) H).v α) (abox (ev α x) H).H k) :=
  (show _ = ((opEval P (.box t x) (ev α) H).s ∧ aops P all os (putA dst (opEval P (.box t x) (ev α) H).v α) (opEval P (.box t x) (ev α) H).H k) from rfl).trans (by simp only [opEval, ofBR, true_and, and_true, implies_true, and_assoc])
@[go_sem] theorem aops_gbox (t : TypeId) (x : Operand) (j : Nat) (w : Bool) : aops P all (⟨dst, .box t x, ty, pos, after, some (j, w)⟩ :: os) α H k = (gok (slotV α (nth all j)) ∧ oblAll (gval (slotV α (nth all j)) w) α [x] ∧ ((gval (slotV α (nth all j)) w) = true → (abox (evu α  x) H).s ∧ (abox (evu α  x) H).H = H) ∧ aops P all os (putA dst (.opt (gval (slotV α (nth all j)) w) (abox (evu α  x) H).v) α) H k) :=
  (show _ = (gok (slotV α (nth all j)) ∧ oblAll (gval (slotV α (nth all j)) w) α [x] ∧ ((gval (slotV α (nth all j)) w) = true → (opEval P (.box t x) (evu α) H).s ∧ (opEval P (.box t x) (evu α) H).H = H) ∧ aops P all os (putA dst (.opt (gval (slotV α (nth all j)) w) (opEval P (.box t x) (evu α) H).v) α) H k) from rfl).trans (by simp only [opEval, ofBR, true_and, and_true, implies_true, and_assoc])
@[go_sem] theorem aopsP_box (t : TypeId) (x : Operand) : aopsP P all H (⟨dst, .box t x, ty, pos, after, none⟩ :: os) α kp = ((abox (ev α x) H).s ∧ (abox (ev α x) H).H = H ∧ aopsP P all H os (putA dst (abox (ev α x) H).v α) kp) :=
  (show _ = ((opEval P (.box t x) (ev α) H).s ∧ (opEval P (.box t x) (ev α) H).H = H ∧ aopsP P all H os (putA dst (opEval P (.box t x) (ev α) H).v α) kp) from rfl).trans (by simp only [opEval, ofBR, true_and, and_true, implies_true, and_assoc])
@[go_sem] theorem aopsP_gbox (t : TypeId) (x : Operand) (j : Nat) (w : Bool) : aopsP P all H (⟨dst, .box t x, ty, pos, after, some (j, w)⟩ :: os) α kp = (gok (slotV α (nth all j)) ∧ oblAll (gval (slotV α (nth all j)) w) α [x] ∧ ((gval (slotV α (nth all j)) w) = true → (abox (evu α  x) H).s ∧ (abox (evu α  x) H).H = H) ∧ aopsP P all H os (putA dst (.opt (gval (slotV α (nth all j)) w) (abox (evu α  x) H).v) α) kp) :=
  (show _ = (gok (slotV α (nth all j)) ∧ oblAll (gval (slotV α (nth all j)) w) α [x] ∧ ((gval (slotV α (nth all j)) w) = true → (opEval P (.box t x) (evu α) H).s ∧ (opEval P (.box t x) (evu α) H).H = H) ∧ aopsP P all H os (putA dst (.opt (gval (slotV α (nth all j)) w) (opEval P (.box t x) (evu α) H).v) α) kp) from rfl).trans (by simp only [opEval, ofBR, true_and, and_true, implies_true, and_assoc])
@[go_sem] theorem aops_build (t : TypeId) (ps : Array (Nat × Operand)) : aops P all (⟨dst, .build t ps, ty, pos, after, none⟩ :: os) α H k = (fieldsKnown P t = true ∧ (abuild P t (ps.toList.map fun p => (p.1, ev α  p.2))).s ∧ aops P all os (putA dst (abuild P t (ps.toList.map fun p => (p.1, ev α  p.2))).v α) H k) :=
  (show _ = ((opEval P (.build t ps) (ev α) H).s ∧ aops P all os (putA dst (opEval P (.build t ps) (ev α) H).v α) (opEval P (.build t ps) (ev α) H).H k) from rfl).trans (by simp only [opEval, ofBR, true_and, and_true, implies_true, and_assoc])
@[go_sem] theorem aops_gbuild (t : TypeId) (ps : Array (Nat × Operand)) (j : Nat) (w : Bool) : aops P all (⟨dst, .build t ps, ty, pos, after, some (j, w)⟩ :: os) α H k = (gok (slotV α (nth all j)) ∧ oblAll (gval (slotV α (nth all j)) w) α (ps.toList.map (·.2)) ∧ ((gval (slotV α (nth all j)) w) = true → fieldsKnown P t = true ∧ (abuild P t (ps.toList.map fun p => (p.1, evu α  p.2))).s) ∧ aops P all os (putA dst (.opt (gval (slotV α (nth all j)) w) (abuild P t (ps.toList.map fun p => (p.1, evu α  p.2))).v) α) H k) :=
  (show _ = (gok (slotV α (nth all j)) ∧ oblAll (gval (slotV α (nth all j)) w) α (ps.toList.map (·.2)) ∧ ((gval (slotV α (nth all j)) w) = true → (opEval P (.build t ps) (evu α) H).s ∧ (opEval P (.build t ps) (evu α) H).H = H) ∧ aops P all os (putA dst (.opt (gval (slotV α (nth all j)) w) (opEval P (.build t ps) (evu α) H).v) α) H k) from rfl).trans (by simp only [opEval, ofBR, true_and, and_true, implies_true, and_assoc])
@[go_sem] theorem aopsP_build (t : TypeId) (ps : Array (Nat × Operand)) : aopsP P all H (⟨dst, .build t ps, ty, pos, after, none⟩ :: os) α kp = (fieldsKnown P t = true ∧ (abuild P t (ps.toList.map fun p => (p.1, ev α  p.2))).s ∧ aopsP P all H os (putA dst (abuild P t (ps.toList.map fun p => (p.1, ev α  p.2))).v α) kp) :=
  (show _ = ((opEval P (.build t ps) (ev α) H).s ∧ (opEval P (.build t ps) (ev α) H).H = H ∧ aopsP P all H os (putA dst (opEval P (.build t ps) (ev α) H).v α) kp) from rfl).trans (by simp only [opEval, ofBR, true_and, and_true, implies_true, and_assoc])
@[go_sem] theorem aopsP_gbuild (t : TypeId) (ps : Array (Nat × Operand)) (j : Nat) (w : Bool) : aopsP P all H (⟨dst, .build t ps, ty, pos, after, some (j, w)⟩ :: os) α kp = (gok (slotV α (nth all j)) ∧ oblAll (gval (slotV α (nth all j)) w) α (ps.toList.map (·.2)) ∧ ((gval (slotV α (nth all j)) w) = true → fieldsKnown P t = true ∧ (abuild P t (ps.toList.map fun p => (p.1, evu α  p.2))).s) ∧ aopsP P all H os (putA dst (.opt (gval (slotV α (nth all j)) w) (abuild P t (ps.toList.map fun p => (p.1, evu α  p.2))).v) α) kp) :=
  (show _ = (gok (slotV α (nth all j)) ∧ oblAll (gval (slotV α (nth all j)) w) α (ps.toList.map (·.2)) ∧ ((gval (slotV α (nth all j)) w) = true → (opEval P (.build t ps) (evu α) H).s ∧ (opEval P (.build t ps) (evu α) H).H = H) ∧ aopsP P all H os (putA dst (.opt (gval (slotV α (nth all j)) w) (opEval P (.build t ps) (evu α) H).v) α) kp) from rfl).trans (by simp only [opEval, ofBR, true_and, and_true, implies_true, and_assoc])
@[go_sem] theorem aops_buildSlice (t : TypeId) (n : Nat) (ps : Array (Nat × Operand)) : aops P all (⟨dst, .buildSlice t n ps, ty, pos, after, none⟩ :: os) α H k = ((abuildSlice P t n (ps.toList.map fun p => (p.1, ev α  p.2))).s ∧ aops P all os (putA dst (abuildSlice P t n (ps.toList.map fun p => (p.1, ev α  p.2))).v α) H k) :=
  (show _ = ((opEval P (.buildSlice t n ps) (ev α) H).s ∧ aops P all os (putA dst (opEval P (.buildSlice t n ps) (ev α) H).v α) (opEval P (.buildSlice t n ps) (ev α) H).H k) from rfl).trans (by simp only [opEval, ofBR, true_and, and_true, implies_true, and_assoc])
@[go_sem] theorem aops_gbuildSlice (t : TypeId) (n : Nat) (ps : Array (Nat × Operand)) (j : Nat) (w : Bool) : aops P all (⟨dst, .buildSlice t n ps, ty, pos, after, some (j, w)⟩ :: os) α H k = (gok (slotV α (nth all j)) ∧ oblAll (gval (slotV α (nth all j)) w) α (ps.toList.map (·.2)) ∧ ((gval (slotV α (nth all j)) w) = true → (abuildSlice P t n (ps.toList.map fun p => (p.1, evu α  p.2))).s) ∧ aops P all os (putA dst (.opt (gval (slotV α (nth all j)) w) (abuildSlice P t n (ps.toList.map fun p => (p.1, evu α  p.2))).v) α) H k) :=
  (show _ = (gok (slotV α (nth all j)) ∧ oblAll (gval (slotV α (nth all j)) w) α (ps.toList.map (·.2)) ∧ ((gval (slotV α (nth all j)) w) = true → (opEval P (.buildSlice t n ps) (evu α) H).s ∧ (opEval P (.buildSlice t n ps) (evu α) H).H = H) ∧ aops P all os (putA dst (.opt (gval (slotV α (nth all j)) w) (opEval P (.buildSlice t n ps) (evu α) H).v) α) H k) from rfl).trans (by simp only [opEval, ofBR, true_and, and_true, implies_true, and_assoc])
@[go_sem] theorem aopsP_buildSlice (t : TypeId) (n : Nat) (ps : Array (Nat × Operand)) : aopsP P all H (⟨dst, .buildSlice t n ps, ty, pos, after, none⟩ :: os) α kp = ((abuildSlice P t n (ps.toList.map fun p => (p.1, ev α  p.2))).s ∧ aopsP P all H os (putA dst (abuildSlice P t n (ps.toList.map fun p => (p.1, ev α  p.2))).v α) kp) :=
  (show _ = ((opEval P (.buildSlice t n ps) (ev α) H).s ∧ (opEval P (.buildSlice t n ps) (ev α) H).H = H ∧ aopsP P all H os (putA dst (opEval P (.buildSlice t n ps) (ev α) H).v α) kp) from rfl).trans (by simp only [opEval, ofBR, true_and, and_true, implies_true, and_assoc])
@[go_sem] theorem aopsP_gbuildSlice (t : TypeId) (n : Nat) (ps : Array (Nat × Operand)) (j : Nat) (w : Bool) : aopsP P all H (⟨dst, .buildSlice t n ps, ty, pos, after, some (j, w)⟩ :: os) α kp = (gok (slotV α (nth all j)) ∧ oblAll (gval (slotV α (nth all j)) w) α (ps.toList.map (·.2)) ∧ ((gval (slotV α (nth all j)) w) = true → (abuildSlice P t n (ps.toList.map fun p => (p.1, evu α  p.2))).s) ∧ aopsP P all H os (putA dst (.opt (gval (slotV α (nth all j)) w) (abuildSlice P t n (ps.toList.map fun p => (p.1, evu α  p.2))).v) α) kp) :=
  (show _ = (gok (slotV α (nth all j)) ∧ oblAll (gval (slotV α (nth all j)) w) α (ps.toList.map (·.2)) ∧ ((gval (slotV α (nth all j)) w) = true → (opEval P (.buildSlice t n ps) (evu α) H).s ∧ (opEval P (.buildSlice t n ps) (evu α) H).H = H) ∧ aopsP P all H os (putA dst (.opt (gval (slotV α (nth all j)) w) (opEval P (.buildSlice t n ps) (evu α) H).v) α) kp) from rfl).trans (by simp only [opEval, ofBR, true_and, and_true, implies_true, and_assoc])
@[go_sem] theorem aops_load (t : TypeId) (x : Operand) : aops P all (⟨dst, .load t x, ty, pos, after, none⟩ :: os) α H k = ((aload P t (ev α x) H).s ∧ aops P all os (putA dst (aload P t (ev α x) H).v α) H k) :=
  (show _ = ((opEval P (.load t x) (ev α) H).s ∧ aops P all os (putA dst (opEval P (.load t x) (ev α) H).v α) (opEval P (.load t x) (ev α) H).H k) from rfl).trans (by simp only [opEval, ofBR, true_and, and_true, implies_true, and_assoc])
@[go_sem] theorem aops_gload (t : TypeId) (x : Operand) (j : Nat) (w : Bool) : aops P all (⟨dst, .load t x, ty, pos, after, some (j, w)⟩ :: os) α H k = (gok (slotV α (nth all j)) ∧ oblAll (gval (slotV α (nth all j)) w) α [x] ∧ ((gval (slotV α (nth all j)) w) = true → (aload P t (evu α  x) H).s) ∧ aops P all os (putA dst (.opt (gval (slotV α (nth all j)) w) (aload P t (evu α  x) H).v) α) H k) :=
  (show _ = (gok (slotV α (nth all j)) ∧ oblAll (gval (slotV α (nth all j)) w) α [x] ∧ ((gval (slotV α (nth all j)) w) = true → (opEval P (.load t x) (evu α) H).s ∧ (opEval P (.load t x) (evu α) H).H = H) ∧ aops P all os (putA dst (.opt (gval (slotV α (nth all j)) w) (opEval P (.load t x) (evu α) H).v) α) H k) from rfl).trans (by simp only [opEval, ofBR, true_and, and_true, implies_true, and_assoc])
@[go_sem] theorem aopsP_load (t : TypeId) (x : Operand) : aopsP P all H (⟨dst, .load t x, ty, pos, after, none⟩ :: os) α kp = ((aload P t (ev α x) H).s ∧ aopsP P all H os (putA dst (aload P t (ev α x) H).v α) kp) :=
  (show _ = ((opEval P (.load t x) (ev α) H).s ∧ (opEval P (.load t x) (ev α) H).H = H ∧ aopsP P all H os (putA dst (opEval P (.load t x) (ev α) H).v α) kp) from rfl).trans (by simp only [opEval, ofBR, true_and, and_true, implies_true, and_assoc])
@[go_sem] theorem aopsP_gload (t : TypeId) (x : Operand) (j : Nat) (w : Bool) : aopsP P all H (⟨dst, .load t x, ty, pos, after, some (j, w)⟩ :: os) α kp = (gok (slotV α (nth all j)) ∧ oblAll (gval (slotV α (nth all j)) w) α [x] ∧ ((gval (slotV α (nth all j)) w) = true → (aload P t (evu α  x) H).s) ∧ aopsP P all H os (putA dst (.opt (gval (slotV α (nth all j)) w) (aload P t (evu α  x) H).v) α) kp) :=
  (show _ = (gok (slotV α (nth all j)) ∧ oblAll (gval (slotV α (nth all j)) w) α [x] ∧ ((gval (slotV α (nth all j)) w) = true → (opEval P (.load t x) (evu α) H).s ∧ (opEval P (.load t x) (evu α) H).H = H) ∧ aopsP P all H os (putA dst (.opt (gval (slotV α (nth all j)) w) (opEval P (.load t x) (evu α) H).v) α) kp) from rfl).trans (by simp only [opEval, ofBR, true_and, and_true, implies_true, and_assoc])
@[go_sem] theorem aops_store (t : TypeId) (x y : Operand) : aops P all (⟨dst, .store t x y, ty, pos, after, none⟩ :: os) α H k = ((astore P t (ev α x) (ev α y) H).s ∧ aops P all os (putA dst (astore P t (ev α x) (ev α y) H).v α) (astore P t (ev α x) (ev α y) H).H k) :=
  (show _ = ((opEval P (.store t x y) (ev α) H).s ∧ aops P all os (putA dst (opEval P (.store t x y) (ev α) H).v α) (opEval P (.store t x y) (ev α) H).H k) from rfl).trans (by simp only [opEval, ofBR, true_and, and_true, implies_true, and_assoc])
@[go_sem] theorem aops_gstore (t : TypeId) (x y : Operand) (j : Nat) (w : Bool) : aops P all (⟨dst, .store t x y, ty, pos, after, some (j, w)⟩ :: os) α H k = (gok (slotV α (nth all j)) ∧ oblAll (gval (slotV α (nth all j)) w) α [x, y] ∧ ((gval (slotV α (nth all j)) w) = true → (astore P t (evu α  x) (evu α  y) H).s ∧ (astore P t (evu α  x) (evu α  y) H).H = H) ∧ aops P all os (putA dst (.opt (gval (slotV α (nth all j)) w) (astore P t (evu α  x) (evu α  y) H).v) α) H k) :=
  (show _ = (gok (slotV α (nth all j)) ∧ oblAll (gval (slotV α (nth all j)) w) α [x, y] ∧ ((gval (slotV α (nth all j)) w) = true → (opEval P (.store t x y) (evu α) H).s ∧ (opEval P (.store t x y) (evu α) H).H = H) ∧ aops P all os (putA dst (.opt (gval (slotV α (nth all j)) w) (opEval P (.store t x y) (evu α) H).v) α) H k) from rfl).trans (by simp only [opEval, ofBR, true_and, and_true, implies_true, and_assoc])
@[go_sem] theorem aopsP_store (t : TypeId) (x y : Operand) : aopsP P all H (⟨dst, .store t x y, ty, pos, after, none⟩ :: os) α kp = ((astore P t (ev α x) (ev α y) H).s ∧ (astore P t (ev α x) (ev α y) H).H = H ∧ aopsP P all H os (putA dst (astore P t (ev α x) (ev α y) H).v α) kp) :=
  (show _ = ((opEval P (.store t x y) (ev α) H).s ∧ (opEval P (.store t x y) (ev α) H).H = H ∧ aopsP P all H os (putA dst (opEval P (.store t x y) (ev α) H).v α) kp) from rfl).trans (by simp only [opEval, ofBR, true_and, and_true, implies_true, and_assoc])
@[go_sem] theorem aopsP_gstore (t : TypeId) (x y : Operand) (j : Nat) (w : Bool) : aopsP P all H (⟨dst, .store t x y, ty, pos, after, some (j, w)⟩ :: os) α kp = (gok (slotV α (nth all j)) ∧ oblAll (gval (slotV α (nth all j)) w) α [x, y] ∧ ((gval (slotV α (nth all j)) w) = true → (astore P t (evu α  x) (evu α  y) H).s ∧ (astore P t (evu α  x) (evu α  y) H).H = H) ∧ aopsP P all H os (putA dst (.opt (gval (slotV α (nth all j)) w) (astore P t (evu α  x) (evu α  y) H).v) α) kp) :=
  (show _ = (gok (slotV α (nth all j)) ∧ oblAll (gval (slotV α (nth all j)) w) α [x, y] ∧ ((gval (slotV α (nth all j)) w) = true → (opEval P (.store t x y) (evu α) H).s ∧ (opEval P (.store t x y) (evu α) H).H = H) ∧ aopsP P all H os (putA dst (.opt (gval (slotV α (nth all j)) w) (opEval P (.store t x y) (evu α) H).v) α) kp) from rfl).trans (by simp only [opEval, ofBR, true_and, and_true, implies_true, and_assoc])
@[go_sem] theorem aops_nilCheck (x : Operand) : aops P all (⟨dst, .nilCheck x, ty, pos, after, none⟩ :: os) α H k = ((anil (ev α x) H).s ∧ aops P all os (putA dst (anil (ev α x) H).v α) (anil (ev α x) H).H k) :=
  (show _ = ((opEval P (.nilCheck x) (ev α) H).s ∧ aops P all os (putA dst (opEval P (.nilCheck x) (ev α) H).v α) (opEval P (.nilCheck x) (ev α) H).H k) from rfl).trans (by simp only [opEval, ofBR, true_and, and_true, implies_true, and_assoc])
@[go_sem] theorem aops_gnilCheck (x : Operand) (j : Nat) (w : Bool) : aops P all (⟨dst, .nilCheck x, ty, pos, after, some (j, w)⟩ :: os) α H k = (gok (slotV α (nth all j)) ∧ oblAll (gval (slotV α (nth all j)) w) α [x] ∧ ((gval (slotV α (nth all j)) w) = true → (anil (evu α  x) H).s ∧ (anil (evu α  x) H).H = H) ∧ aops P all os (putA dst (.opt (gval (slotV α (nth all j)) w) (anil (evu α  x) H).v) α) H k) :=
  (show _ = (gok (slotV α (nth all j)) ∧ oblAll (gval (slotV α (nth all j)) w) α [x] ∧ ((gval (slotV α (nth all j)) w) = true → (opEval P (.nilCheck x) (evu α) H).s ∧ (opEval P (.nilCheck x) (evu α) H).H = H) ∧ aops P all os (putA dst (.opt (gval (slotV α (nth all j)) w) (opEval P (.nilCheck x) (evu α) H).v) α) H k) from rfl).trans (by simp only [opEval, ofBR, true_and, and_true, implies_true, and_assoc])
@[go_sem] theorem aopsP_nilCheck (x : Operand) : aopsP P all H (⟨dst, .nilCheck x, ty, pos, after, none⟩ :: os) α kp = ((anil (ev α x) H).s ∧ (anil (ev α x) H).H = H ∧ aopsP P all H os (putA dst (anil (ev α x) H).v α) kp) :=
  (show _ = ((opEval P (.nilCheck x) (ev α) H).s ∧ (opEval P (.nilCheck x) (ev α) H).H = H ∧ aopsP P all H os (putA dst (opEval P (.nilCheck x) (ev α) H).v α) kp) from rfl).trans (by simp only [opEval, ofBR, true_and, and_true, implies_true, and_assoc])
@[go_sem] theorem aopsP_gnilCheck (x : Operand) (j : Nat) (w : Bool) : aopsP P all H (⟨dst, .nilCheck x, ty, pos, after, some (j, w)⟩ :: os) α kp = (gok (slotV α (nth all j)) ∧ oblAll (gval (slotV α (nth all j)) w) α [x] ∧ ((gval (slotV α (nth all j)) w) = true → (anil (evu α  x) H).s ∧ (anil (evu α  x) H).H = H) ∧ aopsP P all H os (putA dst (.opt (gval (slotV α (nth all j)) w) (anil (evu α  x) H).v) α) kp) :=
  (show _ = (gok (slotV α (nth all j)) ∧ oblAll (gval (slotV α (nth all j)) w) α [x] ∧ ((gval (slotV α (nth all j)) w) = true → (opEval P (.nilCheck x) (evu α) H).s ∧ (opEval P (.nilCheck x) (evu α) H).H = H) ∧ aopsP P all H os (putA dst (.opt (gval (slotV α (nth all j)) w) (opEval P (.nilCheck x) (evu α) H).v) α) kp) from rfl).trans (by simp only [opEval, ofBR, true_and, and_true, implies_true, and_assoc])
@[go_sem] theorem aops_binOp (op : BinOp) (t t' : TypeId) (x y : Operand) : aops P all (⟨dst, .binOp op t x y t', ty, pos, after, none⟩ :: os) α H k =
    bif isEql op && isNilO y then nilK P t H (ev α x) (aopsN P all os dst α H k)
    else ((aBinX P (isK x || isK y) op t (ev α x) (ev α y)).s ∧ aops P all os (putA dst (aBinX P (isK x || isK y) op t (ev α x) (ev α y)).v α) H k) := rfl
@[go_sem] theorem aops_gbinOp (op : BinOp) (t t' : TypeId) (x y : Operand) (j : Nat) (w : Bool) : aops P all (⟨dst, .binOp op t x y t', ty, pos, after, some (j, w)⟩ :: os) α H k = (gok (slotV α (nth all j)) ∧ oblAll (gval (slotV α (nth all j)) w) α [x, y] ∧ ((gval (slotV α (nth all j)) w) = true → (aBinX P (isK x || isK y) op t (evu α  x) (evu α  y)).s) ∧ aops P all os (putA dst (.opt (gval (slotV α (nth all j)) w) (aBinX P (isK x || isK y) op t (evu α  x) (evu α  y)).v) α) H k) :=
  (show _ = (gok (slotV α (nth all j)) ∧ oblAll (gval (slotV α (nth all j)) w) α [x, y] ∧ ((gval (slotV α (nth all j)) w) = true → (opEval P (.binOp op t x y t') (evu α) H).s ∧ (opEval P (.binOp op t x y t') (evu α) H).H = H) ∧ aops P all os (putA dst (.opt (gval (slotV α (nth all j)) w) (opEval P (.binOp op t x y t') (evu α) H).v) α) H k) from rfl).trans (by simp only [opEval, ofBR, true_and, and_true, implies_true, and_assoc])
@[go_sem] theorem aopsP_binOp (op : BinOp) (t t' : TypeId) (x y : Operand) : aopsP P all H (⟨dst, .binOp op t x y t', ty, pos, after, none⟩ :: os) α kp = ((aBinX P (isK x || isK y) op t (ev α x) (ev α y)).s ∧ aopsP P all H os (putA dst (aBinX P (isK x || isK y) op t (ev α x) (ev α y)).v α) kp) :=
  (show _ = ((opEval P (.binOp op t x y t') (ev α) H).s ∧ (opEval P (.binOp op t x y t') (ev α) H).H = H ∧ aopsP P all H os (putA dst (opEval P (.binOp op t x y t') (ev α) H).v α) kp) from rfl).trans (by simp only [opEval, ofBR, true_and, and_true, implies_true, and_assoc])
@[go_sem] theorem aopsP_gbinOp (op : BinOp) (t t' : TypeId) (x y : Operand) (j : Nat) (w : Bool) : aopsP P all H (⟨dst, .binOp op t x y t', ty, pos, after, some (j, w)⟩ :: os) α kp = (gok (slotV α (nth all j)) ∧ oblAll (gval (slotV α (nth all j)) w) α [x, y] ∧ ((gval (slotV α (nth all j)) w) = true → (aBinX P (isK x || isK y) op t (evu α  x) (evu α  y)).s) ∧ aopsP P all H os (putA dst (.opt (gval (slotV α (nth all j)) w) (aBinX P (isK x || isK y) op t (evu α  x) (evu α  y)).v) α) kp) :=
  (show _ = (gok (slotV α (nth all j)) ∧ oblAll (gval (slotV α (nth all j)) w) α [x, y] ∧ ((gval (slotV α (nth all j)) w) = true → (opEval P (.binOp op t x y t') (evu α) H).s ∧ (opEval P (.binOp op t x y t') (evu α) H).H = H) ∧ aopsP P all H os (putA dst (.opt (gval (slotV α (nth all j)) w) (opEval P (.binOp op t x y t') (evu α) H).v) α) kp) from rfl).trans (by simp only [opEval, ofBR, true_and, and_true, implies_true, and_assoc])
@[go_sem] theorem aops_unOp (op : UnOp) (t : TypeId) (x : Operand) : aops P all (⟨dst, .unOp op t x, ty, pos, after, none⟩ :: os) α H k = ((aun op (ev α x)).s ∧ aops P all os (putA dst (aun op (ev α x)).v α) H k) :=
  (show _ = ((opEval P (.unOp op t x) (ev α) H).s ∧ aops P all os (putA dst (opEval P (.unOp op t x) (ev α) H).v α) (opEval P (.unOp op t x) (ev α) H).H k) from rfl).trans (by simp only [opEval, ofBR, true_and, and_true, implies_true, and_assoc])
@[go_sem] theorem aops_gunOp (op : UnOp) (t : TypeId) (x : Operand) (j : Nat) (w : Bool) : aops P all (⟨dst, .unOp op t x, ty, pos, after, some (j, w)⟩ :: os) α H k = (gok (slotV α (nth all j)) ∧ oblAll (gval (slotV α (nth all j)) w) α [x] ∧ ((gval (slotV α (nth all j)) w) = true → (aun op (evu α  x)).s) ∧ aops P all os (putA dst (.opt (gval (slotV α (nth all j)) w) (aun op (evu α  x)).v) α) H k) :=
  (show _ = (gok (slotV α (nth all j)) ∧ oblAll (gval (slotV α (nth all j)) w) α [x] ∧ ((gval (slotV α (nth all j)) w) = true → (opEval P (.unOp op t x) (evu α) H).s ∧ (opEval P (.unOp op t x) (evu α) H).H = H) ∧ aops P all os (putA dst (.opt (gval (slotV α (nth all j)) w) (opEval P (.unOp op t x) (evu α) H).v) α) H k) from rfl).trans (by simp only [opEval, ofBR, true_and, and_true, implies_true, and_assoc])
@[go_sem] theorem aopsP_unOp (op : UnOp) (t : TypeId) (x : Operand) : aopsP P all H (⟨dst, .unOp op t x, ty, pos, after, none⟩ :: os) α kp = ((aun op (ev α x)).s ∧ aopsP P all H os (putA dst (aun op (ev α x)).v α) kp) :=
  (show _ = ((opEval P (.unOp op t x) (ev α) H).s ∧ (opEval P (.unOp op t x) (ev α) H).H = H ∧ aopsP P all H os (putA dst (opEval P (.unOp op t x) (ev α) H).v α) kp) from rfl).trans (by simp only [opEval, ofBR, true_and, and_true, implies_true, and_assoc])
@[go_sem] theorem aopsP_gunOp (op : UnOp) (t : TypeId) (x : Operand) (j : Nat) (w : Bool) : aopsP P all H (⟨dst, .unOp op t x, ty, pos, after, some (j, w)⟩ :: os) α kp = (gok (slotV α (nth all j)) ∧ oblAll (gval (slotV α (nth all j)) w) α [x] ∧ ((gval (slotV α (nth all j)) w) = true → (aun op (evu α  x)).s) ∧ aopsP P all H os (putA dst (.opt (gval (slotV α (nth all j)) w) (aun op (evu α  x)).v) α) kp) :=
  (show _ = (gok (slotV α (nth all j)) ∧ oblAll (gval (slotV α (nth all j)) w) α [x] ∧ ((gval (slotV α (nth all j)) w) = true → (opEval P (.unOp op t x) (evu α) H).s ∧ (opEval P (.unOp op t x) (evu α) H).H = H) ∧ aopsP P all H os (putA dst (.opt (gval (slotV α (nth all j)) w) (opEval P (.unOp op t x) (evu α) H).v) α) kp) from rfl).trans (by simp only [opEval, ofBR, true_and, and_true, implies_true, and_assoc])
@[go_sem] theorem aops_convert (s d : TypeId) (x : Operand) : aops P all (⟨dst, .convert s d x, ty, pos, after, none⟩ :: os) α H k = ((aconv P s d (ev α x)).s ∧ aops P all os (putA dst (aconv P s d (ev α x)).v α) H k) :=
  (show _ = ((opEval P (.convert s d x) (ev α) H).s ∧ aops P all os (putA dst (opEval P (.convert s d x) (ev α) H).v α) (opEval P (.convert s d x) (ev α) H).H k) from rfl).trans (by simp only [opEval, ofBR, true_and, and_true, implies_true, and_assoc])
@[go_sem] theorem aops_gconvert (s d : TypeId) (x : Operand) (j : Nat) (w : Bool) : aops P all (⟨dst, .convert s d x, ty, pos, after, some (j, w)⟩ :: os) α H k = (gok (slotV α (nth all j)) ∧ oblAll (gval (slotV α (nth all j)) w) α [x] ∧ ((gval (slotV α (nth all j)) w) = true → (aconv P s d (evu α  x)).s) ∧ aops P all os (putA dst (.opt (gval (slotV α (nth all j)) w) (aconv P s d (evu α  x)).v) α) H k) :=
  (show _ = (gok (slotV α (nth all j)) ∧ oblAll (gval (slotV α (nth all j)) w) α [x] ∧ ((gval (slotV α (nth all j)) w) = true → (opEval P (.convert s d x) (evu α) H).s ∧ (opEval P (.convert s d x) (evu α) H).H = H) ∧ aops P all os (putA dst (.opt (gval (slotV α (nth all j)) w) (opEval P (.convert s d x) (evu α) H).v) α) H k) from rfl).trans (by simp only [opEval, ofBR, true_and, and_true, implies_true, and_assoc])
@[go_sem] theorem aopsP_convert (s d : TypeId) (x : Operand) : aopsP P all H (⟨dst, .convert s d x, ty, pos, after, none⟩ :: os) α kp = ((aconv P s d (ev α x)).s ∧ aopsP P all H os (putA dst (aconv P s d (ev α x)).v α) kp) :=
  (show _ = ((opEval P (.convert s d x) (ev α) H).s ∧ (opEval P (.convert s d x) (ev α) H).H = H ∧ aopsP P all H os (putA dst (opEval P (.convert s d x) (ev α) H).v α) kp) from rfl).trans (by simp only [opEval, ofBR, true_and, and_true, implies_true, and_assoc])
@[go_sem] theorem aopsP_gconvert (s d : TypeId) (x : Operand) (j : Nat) (w : Bool) : aopsP P all H (⟨dst, .convert s d x, ty, pos, after, some (j, w)⟩ :: os) α kp = (gok (slotV α (nth all j)) ∧ oblAll (gval (slotV α (nth all j)) w) α [x] ∧ ((gval (slotV α (nth all j)) w) = true → (aconv P s d (evu α  x)).s) ∧ aopsP P all H os (putA dst (.opt (gval (slotV α (nth all j)) w) (aconv P s d (evu α  x)).v) α) kp) :=
  (show _ = (gok (slotV α (nth all j)) ∧ oblAll (gval (slotV α (nth all j)) w) α [x] ∧ ((gval (slotV α (nth all j)) w) = true → (opEval P (.convert s d x) (evu α) H).s ∧ (opEval P (.convert s d x) (evu α) H).H = H) ∧ aopsP P all H os (putA dst (.opt (gval (slotV α (nth all j)) w) (opEval P (.convert s d x) (evu α) H).v) α) kp) from rfl).trans (by simp only [opEval, ofBR, true_and, and_true, implies_true, and_assoc])
@[go_sem] theorem aops_makeInterface (t : TypeId) (x : Operand) : aops P all (⟨dst, .makeInterface t x, ty, pos, after, none⟩ :: os) α H k = (concrete P t = true ∧ aops P all os (putA dst (.iface t (ev α x)) α) H k) :=
  (show _ = ((opEval P (.makeInterface t x) (ev α) H).s ∧ aops P all os (putA dst (opEval P (.makeInterface t x) (ev α) H).v α) (opEval P (.makeInterface t x) (ev α) H).H k) from rfl).trans (by simp only [opEval, ofBR, true_and, and_true, implies_true, and_assoc])
@[go_sem] theorem aops_gmakeInterface (t : TypeId) (x : Operand) (j : Nat) (w : Bool) : aops P all (⟨dst, .makeInterface t x, ty, pos, after, some (j, w)⟩ :: os) α H k = (gok (slotV α (nth all j)) ∧ oblAll (gval (slotV α (nth all j)) w) α [x] ∧ ((gval (slotV α (nth all j)) w) = true → concrete P t = true) ∧ aops P all os (putA dst (.opt (gval (slotV α (nth all j)) w) (.iface t (evu α  x))) α) H k) :=
  (show _ = (gok (slotV α (nth all j)) ∧ oblAll (gval (slotV α (nth all j)) w) α [x] ∧ ((gval (slotV α (nth all j)) w) = true → (opEval P (.makeInterface t x) (evu α) H).s ∧ (opEval P (.makeInterface t x) (evu α) H).H = H) ∧ aops P all os (putA dst (.opt (gval (slotV α (nth all j)) w) (opEval P (.makeInterface t x) (evu α) H).v) α) H k) from rfl).trans (by simp only [opEval, ofBR, true_and, and_true, implies_true, and_assoc])
@[go_sem] theorem aopsP_makeInterface (t : TypeId) (x : Operand) : aopsP P all H (⟨dst, .makeInterface t x, ty, pos, after, none⟩ :: os) α kp = (concrete P t = true ∧ aopsP P all H os (putA dst (.iface t (ev α x)) α) kp) :=
  (show _ = ((opEval P (.makeInterface t x) (ev α) H).s ∧ (opEval P (.makeInterface t x) (ev α) H).H = H ∧ aopsP P all H os (putA dst (opEval P (.makeInterface t x) (ev α) H).v α) kp) from rfl).trans (by simp only [opEval, ofBR, true_and, and_true, implies_true, and_assoc])
@[go_sem] theorem aopsP_gmakeInterface (t : TypeId) (x : Operand) (j : Nat) (w : Bool) : aopsP P all H (⟨dst, .makeInterface t x, ty, pos, after, some (j, w)⟩ :: os) α kp = (gok (slotV α (nth all j)) ∧ oblAll (gval (slotV α (nth all j)) w) α [x] ∧ ((gval (slotV α (nth all j)) w) = true → concrete P t = true) ∧ aopsP P all H os (putA dst (.opt (gval (slotV α (nth all j)) w) (.iface t (evu α  x))) α) kp) :=
  (show _ = (gok (slotV α (nth all j)) ∧ oblAll (gval (slotV α (nth all j)) w) α [x] ∧ ((gval (slotV α (nth all j)) w) = true → (opEval P (.makeInterface t x) (evu α) H).s ∧ (opEval P (.makeInterface t x) (evu α) H).H = H) ∧ aopsP P all H os (putA dst (.opt (gval (slotV α (nth all j)) w) (opEval P (.makeInterface t x) (evu α) H).v) α) kp) from rfl).trans (by simp only [opEval, ofBR, true_and, and_true, implies_true, and_assoc])
@[go_sem] theorem aops_makeFunc (fn : Go.Fn) (f cs : Array Operand) : aops P all (⟨dst, .makeFunc fn f cs, ty, pos, after, none⟩ :: os) α H k = (aops P all os (putA dst (.func fn (f.toList.map (ev α)) (cs.toList.map (ev α))) α) H k) :=
  (show _ = ((opEval P (.makeFunc fn f cs) (ev α) H).s ∧ aops P all os (putA dst (opEval P (.makeFunc fn f cs) (ev α) H).v α) (opEval P (.makeFunc fn f cs) (ev α) H).H k) from rfl).trans (by simp only [opEval, ofBR, true_and, and_true, implies_true, and_assoc])
@[go_sem] theorem aops_gmakeFunc (fn : Go.Fn) (f cs : Array Operand) (j : Nat) (w : Bool) : aops P all (⟨dst, .makeFunc fn f cs, ty, pos, after, some (j, w)⟩ :: os) α H k = (gok (slotV α (nth all j)) ∧ oblAll (gval (slotV α (nth all j)) w) α (f ++ cs).toList ∧ aops P all os (putA dst (.opt (gval (slotV α (nth all j)) w) (.func fn (f.toList.map (evu α)) (cs.toList.map (evu α)))) α) H k) :=
  (show _ = (gok (slotV α (nth all j)) ∧ oblAll (gval (slotV α (nth all j)) w) α (f ++ cs).toList ∧ ((gval (slotV α (nth all j)) w) = true → (opEval P (.makeFunc fn f cs) (evu α) H).s ∧ (opEval P (.makeFunc fn f cs) (evu α) H).H = H) ∧ aops P all os (putA dst (.opt (gval (slotV α (nth all j)) w) (opEval P (.makeFunc fn f cs) (evu α) H).v) α) H k) from rfl).trans (by simp only [opEval, ofBR, true_and, and_true, implies_true, and_assoc])
@[go_sem] theorem aopsP_makeFunc (fn : Go.Fn) (f cs : Array Operand) : aopsP P all H (⟨dst, .makeFunc fn f cs, ty, pos, after, none⟩ :: os) α kp = (aopsP P all H os (putA dst (.func fn (f.toList.map (ev α)) (cs.toList.map (ev α))) α) kp) :=
  (show _ = ((opEval P (.makeFunc fn f cs) (ev α) H).s ∧ (opEval P (.makeFunc fn f cs) (ev α) H).H = H ∧ aopsP P all H os (putA dst (opEval P (.makeFunc fn f cs) (ev α) H).v α) kp) from rfl).trans (by simp only [opEval, ofBR, true_and, and_true, implies_true, and_assoc])
@[go_sem] theorem aopsP_gmakeFunc (fn : Go.Fn) (f cs : Array Operand) (j : Nat) (w : Bool) : aopsP P all H (⟨dst, .makeFunc fn f cs, ty, pos, after, some (j, w)⟩ :: os) α kp = (gok (slotV α (nth all j)) ∧ oblAll (gval (slotV α (nth all j)) w) α (f ++ cs).toList ∧ aopsP P all H os (putA dst (.opt (gval (slotV α (nth all j)) w) (.func fn (f.toList.map (evu α)) (cs.toList.map (evu α)))) α) kp) :=
  (show _ = (gok (slotV α (nth all j)) ∧ oblAll (gval (slotV α (nth all j)) w) α (f ++ cs).toList ∧ ((gval (slotV α (nth all j)) w) = true → (opEval P (.makeFunc fn f cs) (evu α) H).s ∧ (opEval P (.makeFunc fn f cs) (evu α) H).H = H) ∧ aopsP P all H os (putA dst (.opt (gval (slotV α (nth all j)) w) (opEval P (.makeFunc fn f cs) (evu α) H).v) α) kp) from rfl).trans (by simp only [opEval, ofBR, true_and, and_true, implies_true, and_assoc])
@[go_sem] theorem aops_slice (t : TypeId) (x : Operand) (lo hi mx : Option Operand) : aops P all (⟨dst, .slice t x lo hi mx, ty, pos, after, none⟩ :: os) α H k = ((aslice P t (ev α x) (lo.map (ev α)) (hi.map (ev α)) (mx.map (ev α)) H).s ∧ aops P all os (putA dst (aslice P t (ev α x) (lo.map (ev α)) (hi.map (ev α)) (mx.map (ev α)) H).v α) H k) :=
  (show _ = ((opEval P (.slice t x lo hi mx) (ev α) H).s ∧ aops P all os (putA dst (opEval P (.slice t x lo hi mx) (ev α) H).v α) (opEval P (.slice t x lo hi mx) (ev α) H).H k) from rfl).trans (by simp only [opEval, ofBR, true_and, and_true, implies_true, and_assoc])
@[go_sem] theorem aops_gslice (t : TypeId) (x : Operand) (lo hi mx : Option Operand) (j : Nat) (w : Bool) : aops P all (⟨dst, .slice t x lo hi mx, ty, pos, after, some (j, w)⟩ :: os) α H k = (gok (slotV α (nth all j)) ∧ oblAll (gval (slotV α (nth all j)) w) α (#[x] ++ lo.toArray ++ hi.toArray ++ mx.toArray).toList ∧ ((gval (slotV α (nth all j)) w) = true → (aslice P t (evu α  x) (lo.map (evu α)) (hi.map (evu α)) (mx.map (evu α)) H).s) ∧ aops P all os (putA dst (.opt (gval (slotV α (nth all j)) w) (aslice P t (evu α  x) (lo.map (evu α)) (hi.map (evu α)) (mx.map (evu α)) H).v) α) H k) :=
  (show _ = (gok (slotV α (nth all j)) ∧ oblAll (gval (slotV α (nth all j)) w) α (#[x] ++ lo.toArray ++ hi.toArray ++ mx.toArray).toList ∧ ((gval (slotV α (nth all j)) w) = true → (opEval P (.slice t x lo hi mx) (evu α) H).s ∧ (opEval P (.slice t x lo hi mx) (evu α) H).H = H) ∧ aops P all os (putA dst (.opt (gval (slotV α (nth all j)) w) (opEval P (.slice t x lo hi mx) (evu α) H).v) α) H k) from rfl).trans (by simp only [opEval, ofBR, true_and, and_true, implies_true, and_assoc])
@[go_sem] theorem aopsP_slice (t : TypeId) (x : Operand) (lo hi mx : Option Operand) : aopsP P all H (⟨dst, .slice t x lo hi mx, ty, pos, after, none⟩ :: os) α kp = ((aslice P t (ev α x) (lo.map (ev α)) (hi.map (ev α)) (mx.map (ev α)) H).s ∧ aopsP P all H os (putA dst (aslice P t (ev α x) (lo.map (ev α)) (hi.map (ev α)) (mx.map (ev α)) H).v α) kp) :=
  (show _ = ((opEval P (.slice t x lo hi mx) (ev α) H).s ∧ (opEval P (.slice t x lo hi mx) (ev α) H).H = H ∧ aopsP P all H os (putA dst (opEval P (.slice t x lo hi mx) (ev α) H).v α) kp) from rfl).trans (by simp only [opEval, ofBR, true_and, and_true, implies_true, and_assoc])
@[go_sem] theorem aopsP_gslice (t : TypeId) (x : Operand) (lo hi mx : Option Operand) (j : Nat) (w : Bool) : aopsP P all H (⟨dst, .slice t x lo hi mx, ty, pos, after, some (j, w)⟩ :: os) α kp = (gok (slotV α (nth all j)) ∧ oblAll (gval (slotV α (nth all j)) w) α (#[x] ++ lo.toArray ++ hi.toArray ++ mx.toArray).toList ∧ ((gval (slotV α (nth all j)) w) = true → (aslice P t (evu α  x) (lo.map (evu α)) (hi.map (evu α)) (mx.map (evu α)) H).s) ∧ aopsP P all H os (putA dst (.opt (gval (slotV α (nth all j)) w) (aslice P t (evu α  x) (lo.map (evu α)) (hi.map (evu α)) (mx.map (evu α)) H).v) α) kp) :=
  (show _ = (gok (slotV α (nth all j)) ∧ oblAll (gval (slotV α (nth all j)) w) α (#[x] ++ lo.toArray ++ hi.toArray ++ mx.toArray).toList ∧ ((gval (slotV α (nth all j)) w) = true → (opEval P (.slice t x lo hi mx) (evu α) H).s ∧ (opEval P (.slice t x lo hi mx) (evu α) H).H = H) ∧ aopsP P all H os (putA dst (.opt (gval (slotV α (nth all j)) w) (opEval P (.slice t x lo hi mx) (evu α) H).v) α) kp) from rfl).trans (by simp only [opEval, ofBR, true_and, and_true, implies_true, and_assoc])
@[go_sem] theorem aops_fieldAddr (t : TypeId) (x : Operand) (f : Nat) : aops P all (⟨dst, .fieldAddr t x f, ty, pos, after, none⟩ :: os) α H k = (liveRef H (ev α x) ∧ (afieldAddr P t f (ev α x)).s ∧ aops P all os (putA dst (afieldAddr P t f (ev α x)).v α) H k) :=
  (show _ = ((opEval P (.fieldAddr t x f) (ev α) H).s ∧ aops P all os (putA dst (opEval P (.fieldAddr t x f) (ev α) H).v α) (opEval P (.fieldAddr t x f) (ev α) H).H k) from rfl).trans (by simp only [opEval, ofBR, true_and, and_true, implies_true, and_assoc])
@[go_sem] theorem aops_gfieldAddr (t : TypeId) (x : Operand) (f : Nat) (j : Nat) (w : Bool) : aops P all (⟨dst, .fieldAddr t x f, ty, pos, after, some (j, w)⟩ :: os) α H k = (gok (slotV α (nth all j)) ∧ oblAll (gval (slotV α (nth all j)) w) α [x] ∧ ((gval (slotV α (nth all j)) w) = true → liveRef H (evu α  x) ∧ (afieldAddr P t f (evu α  x)).s) ∧ aops P all os (putA dst (.opt (gval (slotV α (nth all j)) w) (afieldAddr P t f (evu α  x)).v) α) H k) :=
  (show _ = (gok (slotV α (nth all j)) ∧ oblAll (gval (slotV α (nth all j)) w) α [x] ∧ ((gval (slotV α (nth all j)) w) = true → (opEval P (.fieldAddr t x f) (evu α) H).s ∧ (opEval P (.fieldAddr t x f) (evu α) H).H = H) ∧ aops P all os (putA dst (.opt (gval (slotV α (nth all j)) w) (opEval P (.fieldAddr t x f) (evu α) H).v) α) H k) from rfl).trans (by simp only [opEval, ofBR, true_and, and_true, implies_true, and_assoc])
@[go_sem] theorem aopsP_fieldAddr (t : TypeId) (x : Operand) (f : Nat) : aopsP P all H (⟨dst, .fieldAddr t x f, ty, pos, after, none⟩ :: os) α kp = (liveRef H (ev α x) ∧ (afieldAddr P t f (ev α x)).s ∧ aopsP P all H os (putA dst (afieldAddr P t f (ev α x)).v α) kp) :=
  (show _ = ((opEval P (.fieldAddr t x f) (ev α) H).s ∧ (opEval P (.fieldAddr t x f) (ev α) H).H = H ∧ aopsP P all H os (putA dst (opEval P (.fieldAddr t x f) (ev α) H).v α) kp) from rfl).trans (by simp only [opEval, ofBR, true_and, and_true, implies_true, and_assoc])
@[go_sem] theorem aopsP_gfieldAddr (t : TypeId) (x : Operand) (f : Nat) (j : Nat) (w : Bool) : aopsP P all H (⟨dst, .fieldAddr t x f, ty, pos, after, some (j, w)⟩ :: os) α kp = (gok (slotV α (nth all j)) ∧ oblAll (gval (slotV α (nth all j)) w) α [x] ∧ ((gval (slotV α (nth all j)) w) = true → liveRef H (evu α  x) ∧ (afieldAddr P t f (evu α  x)).s) ∧ aopsP P all H os (putA dst (.opt (gval (slotV α (nth all j)) w) (afieldAddr P t f (evu α  x)).v) α) kp) :=
  (show _ = (gok (slotV α (nth all j)) ∧ oblAll (gval (slotV α (nth all j)) w) α [x] ∧ ((gval (slotV α (nth all j)) w) = true → (opEval P (.fieldAddr t x f) (evu α) H).s ∧ (opEval P (.fieldAddr t x f) (evu α) H).H = H) ∧ aopsP P all H os (putA dst (.opt (gval (slotV α (nth all j)) w) (opEval P (.fieldAddr t x f) (evu α) H).v) α) kp) from rfl).trans (by simp only [opEval, ofBR, true_and, and_true, implies_true, and_assoc])
@[go_sem] theorem aops_field (t : TypeId) (x : Operand) (f : Nat) : aops P all (⟨dst, .field t x f, ty, pos, after, none⟩ :: os) α H k = ((afield P t f (ev α x)).s ∧ aops P all os (putA dst (afield P t f (ev α x)).v α) H k) :=
  (show _ = ((opEval P (.field t x f) (ev α) H).s ∧ aops P all os (putA dst (opEval P (.field t x f) (ev α) H).v α) (opEval P (.field t x f) (ev α) H).H k) from rfl).trans (by simp only [opEval, ofBR, true_and, and_true, implies_true, and_assoc])
@[go_sem] theorem aops_gfield (t : TypeId) (x : Operand) (f : Nat) (j : Nat) (w : Bool) : aops P all (⟨dst, .field t x f, ty, pos, after, some (j, w)⟩ :: os) α H k = (gok (slotV α (nth all j)) ∧ oblAll (gval (slotV α (nth all j)) w) α [x] ∧ ((gval (slotV α (nth all j)) w) = true → (afield P t f (evu α  x)).s) ∧ aops P all os (putA dst (.opt (gval (slotV α (nth all j)) w) (afield P t f (evu α  x)).v) α) H k) :=
  (show _ = (gok (slotV α (nth all j)) ∧ oblAll (gval (slotV α (nth all j)) w) α [x] ∧ ((gval (slotV α (nth all j)) w) = true → (opEval P (.field t x f) (evu α) H).s ∧ (opEval P (.field t x f) (evu α) H).H = H) ∧ aops P all os (putA dst (.opt (gval (slotV α (nth all j)) w) (opEval P (.field t x f) (evu α) H).v) α) H k) from rfl).trans (by simp only [opEval, ofBR, true_and, and_true, implies_true, and_assoc])
@[go_sem] theorem aopsP_field (t : TypeId) (x : Operand) (f : Nat) : aopsP P all H (⟨dst, .field t x f, ty, pos, after, none⟩ :: os) α kp = ((afield P t f (ev α x)).s ∧ aopsP P all H os (putA dst (afield P t f (ev α x)).v α) kp) :=
  (show _ = ((opEval P (.field t x f) (ev α) H).s ∧ (opEval P (.field t x f) (ev α) H).H = H ∧ aopsP P all H os (putA dst (opEval P (.field t x f) (ev α) H).v α) kp) from rfl).trans (by simp only [opEval, ofBR, true_and, and_true, implies_true, and_assoc])
@[go_sem] theorem aopsP_gfield (t : TypeId) (x : Operand) (f : Nat) (j : Nat) (w : Bool) : aopsP P all H (⟨dst, .field t x f, ty, pos, after, some (j, w)⟩ :: os) α kp = (gok (slotV α (nth all j)) ∧ oblAll (gval (slotV α (nth all j)) w) α [x] ∧ ((gval (slotV α (nth all j)) w) = true → (afield P t f (evu α  x)).s) ∧ aopsP P all H os (putA dst (.opt (gval (slotV α (nth all j)) w) (afield P t f (evu α  x)).v) α) kp) :=
  (show _ = (gok (slotV α (nth all j)) ∧ oblAll (gval (slotV α (nth all j)) w) α [x] ∧ ((gval (slotV α (nth all j)) w) = true → (opEval P (.field t x f) (evu α) H).s ∧ (opEval P (.field t x f) (evu α) H).H = H) ∧ aopsP P all H os (putA dst (.opt (gval (slotV α (nth all j)) w) (opEval P (.field t x f) (evu α) H).v) α) kp) from rfl).trans (by simp only [opEval, ofBR, true_and, and_true, implies_true, and_assoc])
@[go_sem] theorem aops_indexAddr (t : TypeId) (x i : Operand) : aops P all (⟨dst, .indexAddr t x i, ty, pos, after, none⟩ :: os) α H k = (liveRef H (ev α x) ∧ (aindexAddr P t (ev α x) (ev α i)).s ∧ aops P all os (putA dst (aindexAddr P t (ev α x) (ev α i)).v α) H k) :=
  (show _ = ((opEval P (.indexAddr t x i) (ev α) H).s ∧ aops P all os (putA dst (opEval P (.indexAddr t x i) (ev α) H).v α) (opEval P (.indexAddr t x i) (ev α) H).H k) from rfl).trans (by simp only [opEval, ofBR, true_and, and_true, implies_true, and_assoc])
@[go_sem] theorem aops_gindexAddr (t : TypeId) (x i : Operand) (j : Nat) (w : Bool) : aops P all (⟨dst, .indexAddr t x i, ty, pos, after, some (j, w)⟩ :: os) α H k = (gok (slotV α (nth all j)) ∧ oblAll (gval (slotV α (nth all j)) w) α [x, i] ∧ ((gval (slotV α (nth all j)) w) = true → liveRef H (evu α  x) ∧ (aindexAddr P t (evu α  x) (evu α  i)).s) ∧ aops P all os (putA dst (.opt (gval (slotV α (nth all j)) w) (aindexAddr P t (evu α  x) (evu α  i)).v) α) H k) :=
  (show _ = (gok (slotV α (nth all j)) ∧ oblAll (gval (slotV α (nth all j)) w) α [x, i] ∧ ((gval (slotV α (nth all j)) w) = true → (opEval P (.indexAddr t x i) (evu α) H).s ∧ (opEval P (.indexAddr t x i) (evu α) H).H = H) ∧ aops P all os (putA dst (.opt (gval (slotV α (nth all j)) w) (opEval P (.indexAddr t x i) (evu α) H).v) α) H k) from rfl).trans (by simp only [opEval, ofBR, true_and, and_true, implies_true, and_assoc])
@[go_sem] theorem aopsP_indexAddr (t : TypeId) (x i : Operand) : aopsP P all H (⟨dst, .indexAddr t x i, ty, pos, after, none⟩ :: os) α kp = (liveRef H (ev α x) ∧ (aindexAddr P t (ev α x) (ev α i)).s ∧ aopsP P all H os (putA dst (aindexAddr P t (ev α x) (ev α i)).v α) kp) :=
  (show _ = ((opEval P (.indexAddr t x i) (ev α) H).s ∧ (opEval P (.indexAddr t x i) (ev α) H).H = H ∧ aopsP P all H os (putA dst (opEval P (.indexAddr t x i) (ev α) H).v α) kp) from rfl).trans (by simp only [opEval, ofBR, true_and, and_true, implies_true, and_assoc])
@[go_sem] theorem aopsP_gindexAddr (t : TypeId) (x i : Operand) (j : Nat) (w : Bool) : aopsP P all H (⟨dst, .indexAddr t x i, ty, pos, after, some (j, w)⟩ :: os) α kp = (gok (slotV α (nth all j)) ∧ oblAll (gval (slotV α (nth all j)) w) α [x, i] ∧ ((gval (slotV α (nth all j)) w) = true → liveRef H (evu α  x) ∧ (aindexAddr P t (evu α  x) (evu α  i)).s) ∧ aopsP P all H os (putA dst (.opt (gval (slotV α (nth all j)) w) (aindexAddr P t (evu α  x) (evu α  i)).v) α) kp) :=
  (show _ = (gok (slotV α (nth all j)) ∧ oblAll (gval (slotV α (nth all j)) w) α [x, i] ∧ ((gval (slotV α (nth all j)) w) = true → (opEval P (.indexAddr t x i) (evu α) H).s ∧ (opEval P (.indexAddr t x i) (evu α) H).H = H) ∧ aopsP P all H os (putA dst (.opt (gval (slotV α (nth all j)) w) (opEval P (.indexAddr t x i) (evu α) H).v) α) kp) from rfl).trans (by simp only [opEval, ofBR, true_and, and_true, implies_true, and_assoc])
@[go_sem] theorem aops_index (t : TypeId) (x i : Operand) : aops P all (⟨dst, .index t x i, ty, pos, after, none⟩ :: os) α H k = ((aindex P t (ev α x) (ev α i)).s ∧ aops P all os (putA dst (aindex P t (ev α x) (ev α i)).v α) H k) :=
  (show _ = ((opEval P (.index t x i) (ev α) H).s ∧ aops P all os (putA dst (opEval P (.index t x i) (ev α) H).v α) (opEval P (.index t x i) (ev α) H).H k) from rfl).trans (by simp only [opEval, ofBR, true_and, and_true, implies_true, and_assoc])
@[go_sem] theorem aops_gindex (t : TypeId) (x i : Operand) (j : Nat) (w : Bool) : aops P all (⟨dst, .index t x i, ty, pos, after, some (j, w)⟩ :: os) α H k = (gok (slotV α (nth all j)) ∧ oblAll (gval (slotV α (nth all j)) w) α [x, i] ∧ ((gval (slotV α (nth all j)) w) = true → (aindex P t (evu α  x) (evu α  i)).s) ∧ aops P all os (putA dst (.opt (gval (slotV α (nth all j)) w) (aindex P t (evu α  x) (evu α  i)).v) α) H k) :=
  (show _ = (gok (slotV α (nth all j)) ∧ oblAll (gval (slotV α (nth all j)) w) α [x, i] ∧ ((gval (slotV α (nth all j)) w) = true → (opEval P (.index t x i) (evu α) H).s ∧ (opEval P (.index t x i) (evu α) H).H = H) ∧ aops P all os (putA dst (.opt (gval (slotV α (nth all j)) w) (opEval P (.index t x i) (evu α) H).v) α) H k) from rfl).trans (by simp only [opEval, ofBR, true_and, and_true, implies_true, and_assoc])
@[go_sem] theorem aopsP_index (t : TypeId) (x i : Operand) : aopsP P all H (⟨dst, .index t x i, ty, pos, after, none⟩ :: os) α kp = ((aindex P t (ev α x) (ev α i)).s ∧ aopsP P all H os (putA dst (aindex P t (ev α x) (ev α i)).v α) kp) :=
  (show _ = ((opEval P (.index t x i) (ev α) H).s ∧ (opEval P (.index t x i) (ev α) H).H = H ∧ aopsP P all H os (putA dst (opEval P (.index t x i) (ev α) H).v α) kp) from rfl).trans (by simp only [opEval, ofBR, true_and, and_true, implies_true, and_assoc])
@[go_sem] theorem aopsP_gindex (t : TypeId) (x i : Operand) (j : Nat) (w : Bool) : aopsP P all H (⟨dst, .index t x i, ty, pos, after, some (j, w)⟩ :: os) α kp = (gok (slotV α (nth all j)) ∧ oblAll (gval (slotV α (nth all j)) w) α [x, i] ∧ ((gval (slotV α (nth all j)) w) = true → (aindex P t (evu α  x) (evu α  i)).s) ∧ aopsP P all H os (putA dst (.opt (gval (slotV α (nth all j)) w) (aindex P t (evu α  x) (evu α  i)).v) α) kp) :=
  (show _ = (gok (slotV α (nth all j)) ∧ oblAll (gval (slotV α (nth all j)) w) α [x, i] ∧ ((gval (slotV α (nth all j)) w) = true → (opEval P (.index t x i) (evu α) H).s ∧ (opEval P (.index t x i) (evu α) H).H = H) ∧ aopsP P all H os (putA dst (.opt (gval (slotV α (nth all j)) w) (opEval P (.index t x i) (evu α) H).v) α) kp) from rfl).trans (by simp only [opEval, ofBR, true_and, and_true, implies_true, and_assoc])
@[go_sem] theorem aops_typeAssert (x : Operand) (u t : TypeId) (b : Bool) : aops P all (⟨dst, .typeAssert x u t b, ty, pos, after, none⟩ :: os) α H k = ((aassert P (ev α x) t b).s ∧ aops P all os (putA dst (aassert P (ev α x) t b).v α) H k) :=
  (show _ = ((opEval P (.typeAssert x u t b) (ev α) H).s ∧ aops P all os (putA dst (opEval P (.typeAssert x u t b) (ev α) H).v α) (opEval P (.typeAssert x u t b) (ev α) H).H k) from rfl).trans (by simp only [opEval, ofBR, true_and, and_true, implies_true, and_assoc])
@[go_sem] theorem aops_gtypeAssert (x : Operand) (u t : TypeId) (b : Bool) (j : Nat) (w : Bool) : aops P all (⟨dst, .typeAssert x u t b, ty, pos, after, some (j, w)⟩ :: os) α H k = (gok (slotV α (nth all j)) ∧ oblAll (gval (slotV α (nth all j)) w) α [x] ∧ ((gval (slotV α (nth all j)) w) = true → (aassert P (evu α  x) t b).s) ∧ aops P all os (putA dst (.opt (gval (slotV α (nth all j)) w) (aassert P (evu α  x) t b).v) α) H k) :=
  (show _ = (gok (slotV α (nth all j)) ∧ oblAll (gval (slotV α (nth all j)) w) α [x] ∧ ((gval (slotV α (nth all j)) w) = true → (opEval P (.typeAssert x u t b) (evu α) H).s ∧ (opEval P (.typeAssert x u t b) (evu α) H).H = H) ∧ aops P all os (putA dst (.opt (gval (slotV α (nth all j)) w) (opEval P (.typeAssert x u t b) (evu α) H).v) α) H k) from rfl).trans (by simp only [opEval, ofBR, true_and, and_true, implies_true, and_assoc])
@[go_sem] theorem aopsP_typeAssert (x : Operand) (u t : TypeId) (b : Bool) : aopsP P all H (⟨dst, .typeAssert x u t b, ty, pos, after, none⟩ :: os) α kp = ((aassert P (ev α x) t b).s ∧ aopsP P all H os (putA dst (aassert P (ev α x) t b).v α) kp) :=
  (show _ = ((opEval P (.typeAssert x u t b) (ev α) H).s ∧ (opEval P (.typeAssert x u t b) (ev α) H).H = H ∧ aopsP P all H os (putA dst (opEval P (.typeAssert x u t b) (ev α) H).v α) kp) from rfl).trans (by simp only [opEval, ofBR, true_and, and_true, implies_true, and_assoc])
@[go_sem] theorem aopsP_gtypeAssert (x : Operand) (u t : TypeId) (b : Bool) (j : Nat) (w : Bool) : aopsP P all H (⟨dst, .typeAssert x u t b, ty, pos, after, some (j, w)⟩ :: os) α kp = (gok (slotV α (nth all j)) ∧ oblAll (gval (slotV α (nth all j)) w) α [x] ∧ ((gval (slotV α (nth all j)) w) = true → (aassert P (evu α  x) t b).s) ∧ aopsP P all H os (putA dst (.opt (gval (slotV α (nth all j)) w) (aassert P (evu α  x) t b).v) α) kp) :=
  (show _ = (gok (slotV α (nth all j)) ∧ oblAll (gval (slotV α (nth all j)) w) α [x] ∧ ((gval (slotV α (nth all j)) w) = true → (opEval P (.typeAssert x u t b) (evu α) H).s ∧ (opEval P (.typeAssert x u t b) (evu α) H).H = H) ∧ aopsP P all H os (putA dst (.opt (gval (slotV α (nth all j)) w) (opEval P (.typeAssert x u t b) (evu α) H).v) α) kp) from rfl).trans (by simp only [opEval, ofBR, true_and, and_true, implies_true, and_assoc])
@[go_sem] theorem aops_extract (x : Operand) (i : Nat) : aops P all (⟨dst, .extract x i, ty, pos, after, none⟩ :: os) α H k = ((aextract (ev α x) i).s ∧ aops P all os (putA dst (aextract (ev α x) i).v α) H k) :=
  (show _ = ((opEval P (.extract x i) (ev α) H).s ∧ aops P all os (putA dst (opEval P (.extract x i) (ev α) H).v α) (opEval P (.extract x i) (ev α) H).H k) from rfl).trans (by simp only [opEval, ofBR, true_and, and_true, implies_true, and_assoc])
@[go_sem] theorem aops_gextract (x : Operand) (i : Nat) (j : Nat) (w : Bool) : aops P all (⟨dst, .extract x i, ty, pos, after, some (j, w)⟩ :: os) α H k = (gok (slotV α (nth all j)) ∧ oblAll (gval (slotV α (nth all j)) w) α [x] ∧ ((gval (slotV α (nth all j)) w) = true → (aextract (evu α  x) i).s) ∧ aops P all os (putA dst (.opt (gval (slotV α (nth all j)) w) (aextract (evu α  x) i).v) α) H k) :=
  (show _ = (gok (slotV α (nth all j)) ∧ oblAll (gval (slotV α (nth all j)) w) α [x] ∧ ((gval (slotV α (nth all j)) w) = true → (opEval P (.extract x i) (evu α) H).s ∧ (opEval P (.extract x i) (evu α) H).H = H) ∧ aops P all os (putA dst (.opt (gval (slotV α (nth all j)) w) (opEval P (.extract x i) (evu α) H).v) α) H k) from rfl).trans (by simp only [opEval, ofBR, true_and, and_true, implies_true, and_assoc])
@[go_sem] theorem aopsP_extract (x : Operand) (i : Nat) : aopsP P all H (⟨dst, .extract x i, ty, pos, after, none⟩ :: os) α kp = ((aextract (ev α x) i).s ∧ aopsP P all H os (putA dst (aextract (ev α x) i).v α) kp) :=
  (show _ = ((opEval P (.extract x i) (ev α) H).s ∧ (opEval P (.extract x i) (ev α) H).H = H ∧ aopsP P all H os (putA dst (opEval P (.extract x i) (ev α) H).v α) kp) from rfl).trans (by simp only [opEval, ofBR, true_and, and_true, implies_true, and_assoc])
@[go_sem] theorem aopsP_gextract (x : Operand) (i : Nat) (j : Nat) (w : Bool) : aopsP P all H (⟨dst, .extract x i, ty, pos, after, some (j, w)⟩ :: os) α kp = (gok (slotV α (nth all j)) ∧ oblAll (gval (slotV α (nth all j)) w) α [x] ∧ ((gval (slotV α (nth all j)) w) = true → (aextract (evu α  x) i).s) ∧ aopsP P all H os (putA dst (.opt (gval (slotV α (nth all j)) w) (aextract (evu α  x) i).v) α) kp) :=
  (show _ = (gok (slotV α (nth all j)) ∧ oblAll (gval (slotV α (nth all j)) w) α [x] ∧ ((gval (slotV α (nth all j)) w) = true → (opEval P (.extract x i) (evu α) H).s ∧ (opEval P (.extract x i) (evu α) H).H = H) ∧ aopsP P all H os (putA dst (.opt (gval (slotV α (nth all j)) w) (opEval P (.extract x i) (evu α) H).v) α) kp) from rfl).trans (by simp only [opEval, ofBR, true_and, and_true, implies_true, and_assoc])
@[go_sem] theorem aops_makeSlice (t : TypeId) (x y : Operand) : aops P all (⟨dst, .makeSlice t x y, ty, pos, after, none⟩ :: os) α H k = ((amakeSlice P t (ev α x) (ev α y) H).s ∧ aops P all os (putA dst (amakeSlice P t (ev α x) (ev α y) H).v α) (amakeSlice P t (ev α x) (ev α y) H).H k) :=
  (show _ = ((opEval P (.makeSlice t x y) (ev α) H).s ∧ aops P all os (putA dst (opEval P (.makeSlice t x y) (ev α) H).v α) (opEval P (.makeSlice t x y) (ev α) H).H k) from rfl).trans (by simp only [opEval, ofBR, true_and, and_true, implies_true, and_assoc])
@[go_sem] theorem aops_gmakeSlice (t : TypeId) (x y : Operand) (j : Nat) (w : Bool) : aops P all (⟨dst, .makeSlice t x y, ty, pos, after, some (j, w)⟩ :: os) α H k = (gok (slotV α (nth all j)) ∧ oblAll (gval (slotV α (nth all j)) w) α [x, y] ∧ ((gval (slotV α (nth all j)) w) = true → (amakeSlice P t (evu α  x) (evu α  y) H).s ∧ (amakeSlice P t (evu α  x) (evu α  y) H).H = H) ∧ aops P all os (putA dst (.opt (gval (slotV α (nth all j)) w) (amakeSlice P t (evu α  x) (evu α  y) H).v) α) H k) :=
  (show _ = (gok (slotV α (nth all j)) ∧ oblAll (gval (slotV α (nth all j)) w) α [x, y] ∧ ((gval (slotV α (nth all j)) w) = true → (opEval P (.makeSlice t x y) (evu α) H).s ∧ (opEval P (.makeSlice t x y) (evu α) H).H = H) ∧ aops P all os (putA dst (.opt (gval (slotV α (nth all j)) w) (opEval P (.makeSlice t x y) (evu α) H).v) α) H k) from rfl).trans (by simp only [opEval, ofBR, true_and, and_true, implies_true, and_assoc])
@[go_sem] theorem aopsP_makeSlice (t : TypeId) (x y : Operand) : aopsP P all H (⟨dst, .makeSlice t x y, ty, pos, after, none⟩ :: os) α kp = ((amakeSlice P t (ev α x) (ev α y) H).s ∧ (amakeSlice P t (ev α x) (ev α y) H).H = H ∧ aopsP P all H os (putA dst (amakeSlice P t (ev α x) (ev α y) H).v α) kp) :=
  (show _ = ((opEval P (.makeSlice t x y) (ev α) H).s ∧ (opEval P (.makeSlice t x y) (ev α) H).H = H ∧ aopsP P all H os (putA dst (opEval P (.makeSlice t x y) (ev α) H).v α) kp) from rfl).trans (by simp only [opEval, ofBR, true_and, and_true, implies_true, and_assoc])
@[go_sem] theorem aopsP_gmakeSlice (t : TypeId) (x y : Operand) (j : Nat) (w : Bool) : aopsP P all H (⟨dst, .makeSlice t x y, ty, pos, after, some (j, w)⟩ :: os) α kp = (gok (slotV α (nth all j)) ∧ oblAll (gval (slotV α (nth all j)) w) α [x, y] ∧ ((gval (slotV α (nth all j)) w) = true → (amakeSlice P t (evu α  x) (evu α  y) H).s ∧ (amakeSlice P t (evu α  x) (evu α  y) H).H = H) ∧ aopsP P all H os (putA dst (.opt (gval (slotV α (nth all j)) w) (amakeSlice P t (evu α  x) (evu α  y) H).v) α) kp) :=
  (show _ = (gok (slotV α (nth all j)) ∧ oblAll (gval (slotV α (nth all j)) w) α [x, y] ∧ ((gval (slotV α (nth all j)) w) = true → (opEval P (.makeSlice t x y) (evu α) H).s ∧ (opEval P (.makeSlice t x y) (evu α) H).H = H) ∧ aopsP P all H os (putA dst (.opt (gval (slotV α (nth all j)) w) (opEval P (.makeSlice t x y) (evu α) H).v) α) kp) from rfl).trans (by simp only [opEval, ofBR, true_and, and_true, implies_true, and_assoc])
@[go_sem] theorem aops_range (t : TypeId) (x : Operand) : aops P all (⟨dst, .range t x, ty, pos, after, none⟩ :: os) α H k = ((arange P t (ev α x) H).s ∧ aops P all os (putA dst (arange P t (ev α x) H).v α) (arange P t (ev α x) H).H k) :=
  (show _ = ((opEval P (.range t x) (ev α) H).s ∧ aops P all os (putA dst (opEval P (.range t x) (ev α) H).v α) (opEval P (.range t x) (ev α) H).H k) from rfl).trans (by simp only [opEval, ofBR, true_and, and_true, implies_true, and_assoc])
@[go_sem] theorem aops_grange (t : TypeId) (x : Operand) (j : Nat) (w : Bool) : aops P all (⟨dst, .range t x, ty, pos, after, some (j, w)⟩ :: os) α H k = (gok (slotV α (nth all j)) ∧ oblAll (gval (slotV α (nth all j)) w) α [x] ∧ ((gval (slotV α (nth all j)) w) = true → (arange P t (evu α  x) H).s ∧ (arange P t (evu α  x) H).H = H) ∧ aops P all os (putA dst (.opt (gval (slotV α (nth all j)) w) (arange P t (evu α  x) H).v) α) H k) :=
  (show _ = (gok (slotV α (nth all j)) ∧ oblAll (gval (slotV α (nth all j)) w) α [x] ∧ ((gval (slotV α (nth all j)) w) = true → (opEval P (.range t x) (evu α) H).s ∧ (opEval P (.range t x) (evu α) H).H = H) ∧ aops P all os (putA dst (.opt (gval (slotV α (nth all j)) w) (opEval P (.range t x) (evu α) H).v) α) H k) from rfl).trans (by simp only [opEval, ofBR, true_and, and_true, implies_true, and_assoc])
@[go_sem] theorem aopsP_range (t : TypeId) (x : Operand) : aopsP P all H (⟨dst, .range t x, ty, pos, after, none⟩ :: os) α kp = ((arange P t (ev α x) H).s ∧ (arange P t (ev α x) H).H = H ∧ aopsP P all H os (putA dst (arange P t (ev α x) H).v α) kp) :=
  (show _ = ((opEval P (.range t x) (ev α) H).s ∧ (opEval P (.range t x) (ev α) H).H = H ∧ aopsP P all H os (putA dst (opEval P (.range t x) (ev α) H).v α) kp) from rfl).trans (by simp only [opEval, ofBR, true_and, and_true, implies_true, and_assoc])
@[go_sem] theorem aopsP_grange (t : TypeId) (x : Operand) (j : Nat) (w : Bool) : aopsP P all H (⟨dst, .range t x, ty, pos, after, some (j, w)⟩ :: os) α kp = (gok (slotV α (nth all j)) ∧ oblAll (gval (slotV α (nth all j)) w) α [x] ∧ ((gval (slotV α (nth all j)) w) = true → (arange P t (evu α  x) H).s ∧ (arange P t (evu α  x) H).H = H) ∧ aopsP P all H os (putA dst (.opt (gval (slotV α (nth all j)) w) (arange P t (evu α  x) H).v) α) kp) :=
  (show _ = (gok (slotV α (nth all j)) ∧ oblAll (gval (slotV α (nth all j)) w) α [x] ∧ ((gval (slotV α (nth all j)) w) = true → (opEval P (.range t x) (evu α) H).s ∧ (opEval P (.range t x) (evu α) H).H = H) ∧ aopsP P all H os (putA dst (.opt (gval (slotV α (nth all j)) w) (opEval P (.range t x) (evu α) H).v) α) kp) from rfl).trans (by simp only [opEval, ofBR, true_and, and_true, implies_true, and_assoc])
@[go_sem] theorem aops_next (x : Operand) (b : Bool) : aops P all (⟨dst, .next x b, ty, pos, after, none⟩ :: os) α H k = ((anext (ev α x) b H).s ∧ aops P all os (putA dst (anext (ev α x) b H).v α) (anext (ev α x) b H).H k) :=
  (show _ = ((opEval P (.next x b) (ev α) H).s ∧ aops P all os (putA dst (opEval P (.next x b) (ev α) H).v α) (opEval P (.next x b) (ev α) H).H k) from rfl).trans (by simp only [opEval, ofBR, true_and, and_true, implies_true, and_assoc])
@[go_sem] theorem aops_gnext (x : Operand) (b : Bool) (j : Nat) (w : Bool) : aops P all (⟨dst, .next x b, ty, pos, after, some (j, w)⟩ :: os) α H k = (gok (slotV α (nth all j)) ∧ oblAll (gval (slotV α (nth all j)) w) α [x] ∧ ((gval (slotV α (nth all j)) w) = true → (anext (evu α  x) b H).s ∧ (anext (evu α  x) b H).H = H) ∧ aops P all os (putA dst (.opt (gval (slotV α (nth all j)) w) (anext (evu α  x) b H).v) α) H k) :=
  (show _ = (gok (slotV α (nth all j)) ∧ oblAll (gval (slotV α (nth all j)) w) α [x] ∧ ((gval (slotV α (nth all j)) w) = true → (opEval P (.next x b) (evu α) H).s ∧ (opEval P (.next x b) (evu α) H).H = H) ∧ aops P all os (putA dst (.opt (gval (slotV α (nth all j)) w) (opEval P (.next x b) (evu α) H).v) α) H k) from rfl).trans (by simp only [opEval, ofBR, true_and, and_true, implies_true, and_assoc])
@[go_sem] theorem aopsP_next (x : Operand) (b : Bool) : aopsP P all H (⟨dst, .next x b, ty, pos, after, none⟩ :: os) α kp = ((anext (ev α x) b H).s ∧ (anext (ev α x) b H).H = H ∧ aopsP P all H os (putA dst (anext (ev α x) b H).v α) kp) :=
  (show _ = ((opEval P (.next x b) (ev α) H).s ∧ (opEval P (.next x b) (ev α) H).H = H ∧ aopsP P all H os (putA dst (opEval P (.next x b) (ev α) H).v α) kp) from rfl).trans (by simp only [opEval, ofBR, true_and, and_true, implies_true, and_assoc])
@[go_sem] theorem aopsP_gnext (x : Operand) (b : Bool) (j : Nat) (w : Bool) : aopsP P all H (⟨dst, .next x b, ty, pos, after, some (j, w)⟩ :: os) α kp = (gok (slotV α (nth all j)) ∧ oblAll (gval (slotV α (nth all j)) w) α [x] ∧ ((gval (slotV α (nth all j)) w) = true → (anext (evu α  x) b H).s ∧ (anext (evu α  x) b H).H = H) ∧ aopsP P all H os (putA dst (.opt (gval (slotV α (nth all j)) w) (anext (evu α  x) b H).v) α) kp) :=
  (show _ = (gok (slotV α (nth all j)) ∧ oblAll (gval (slotV α (nth all j)) w) α [x] ∧ ((gval (slotV α (nth all j)) w) = true → (opEval P (.next x b) (evu α) H).s ∧ (opEval P (.next x b) (evu α) H).H = H) ∧ aopsP P all H os (putA dst (.opt (gval (slotV α (nth all j)) w) (opEval P (.next x b) (evu α) H).v) α) kp) from rfl).trans (by simp only [opEval, ofBR, true_and, and_true, implies_true, and_assoc])
@[go_sem] theorem aops_builtin (b : Builtin) (xs : Array Operand) (ts : Array TypeId) : aops P all (⟨dst, .call ⟨.builtin b, xs, ts⟩, ty, pos, after, none⟩ :: os) α H k = ((abuiltin P b ts.toList (xs.toList.map (ev α)) H).s ∧ aops P all os (putA dst (abuiltin P b ts.toList (xs.toList.map (ev α)) H).v α) (abuiltin P b ts.toList (xs.toList.map (ev α)) H).H k) :=
  (show _ = ((opEval P (.call ⟨.builtin b, xs, ts⟩) (ev α) H).s ∧ aops P all os (putA dst (opEval P (.call ⟨.builtin b, xs, ts⟩) (ev α) H).v α) (opEval P (.call ⟨.builtin b, xs, ts⟩) (ev α) H).H k) from rfl).trans (by simp only [opEval, ofBR, true_and, and_true, implies_true, and_assoc])
@[go_sem] theorem aops_gbuiltin (b : Builtin) (xs : Array Operand) (ts : Array TypeId) (j : Nat) (w : Bool) : aops P all (⟨dst, .call ⟨.builtin b, xs, ts⟩, ty, pos, after, some (j, w)⟩ :: os) α H k = (gok (slotV α (nth all j)) ∧ oblAll (gval (slotV α (nth all j)) w) α ((#[] : Array Operand) ++ xs).toList ∧ ((gval (slotV α (nth all j)) w) = true → (abuiltin P b ts.toList (xs.toList.map (evu α)) H).s ∧ (abuiltin P b ts.toList (xs.toList.map (evu α)) H).H = H) ∧ aops P all os (putA dst (.opt (gval (slotV α (nth all j)) w) (abuiltin P b ts.toList (xs.toList.map (evu α)) H).v) α) H k) :=
  (show _ = (gok (slotV α (nth all j)) ∧ oblAll (gval (slotV α (nth all j)) w) α ((#[] : Array Operand) ++ xs).toList ∧ ((gval (slotV α (nth all j)) w) = true → (opEval P (.call ⟨.builtin b, xs, ts⟩) (evu α) H).s ∧ (opEval P (.call ⟨.builtin b, xs, ts⟩) (evu α) H).H = H) ∧ aops P all os (putA dst (.opt (gval (slotV α (nth all j)) w) (opEval P (.call ⟨.builtin b, xs, ts⟩) (evu α) H).v) α) H k) from rfl).trans (by simp only [opEval, ofBR, true_and, and_true, implies_true, and_assoc])
@[go_sem] theorem aopsP_builtin (b : Builtin) (xs : Array Operand) (ts : Array TypeId) : aopsP P all H (⟨dst, .call ⟨.builtin b, xs, ts⟩, ty, pos, after, none⟩ :: os) α kp = ((abuiltin P b ts.toList (xs.toList.map (ev α)) H).s ∧ (abuiltin P b ts.toList (xs.toList.map (ev α)) H).H = H ∧ aopsP P all H os (putA dst (abuiltin P b ts.toList (xs.toList.map (ev α)) H).v α) kp) :=
  (show _ = ((opEval P (.call ⟨.builtin b, xs, ts⟩) (ev α) H).s ∧ (opEval P (.call ⟨.builtin b, xs, ts⟩) (ev α) H).H = H ∧ aopsP P all H os (putA dst (opEval P (.call ⟨.builtin b, xs, ts⟩) (ev α) H).v α) kp) from rfl).trans (by simp only [opEval, ofBR, true_and, and_true, implies_true, and_assoc])
@[go_sem] theorem aopsP_gbuiltin (b : Builtin) (xs : Array Operand) (ts : Array TypeId) (j : Nat) (w : Bool) : aopsP P all H (⟨dst, .call ⟨.builtin b, xs, ts⟩, ty, pos, after, some (j, w)⟩ :: os) α kp = (gok (slotV α (nth all j)) ∧ oblAll (gval (slotV α (nth all j)) w) α ((#[] : Array Operand) ++ xs).toList ∧ ((gval (slotV α (nth all j)) w) = true → (abuiltin P b ts.toList (xs.toList.map (evu α)) H).s ∧ (abuiltin P b ts.toList (xs.toList.map (evu α)) H).H = H) ∧ aopsP P all H os (putA dst (.opt (gval (slotV α (nth all j)) w) (abuiltin P b ts.toList (xs.toList.map (evu α)) H).v) α) kp) :=
  (show _ = (gok (slotV α (nth all j)) ∧ oblAll (gval (slotV α (nth all j)) w) α ((#[] : Array Operand) ++ xs).toList ∧ ((gval (slotV α (nth all j)) w) = true → (opEval P (.call ⟨.builtin b, xs, ts⟩) (evu α) H).s ∧ (opEval P (.call ⟨.builtin b, xs, ts⟩) (evu α) H).H = H) ∧ aopsP P all H os (putA dst (.opt (gval (slotV α (nth all j)) w) (opEval P (.call ⟨.builtin b, xs, ts⟩) (evu α) H).v) α) kp) from rfl).trans (by simp only [opEval, ofBR, true_and, and_true, implies_true, and_assoc])
end

/-! ### What the operations come to -/

attribute [go_sem] true_and and_true implies_true and_self not_true_eq_false Bool.not_true Bool.not_false eq_self decide_true decide_false Bool.true_eq_false Bool.false_eq_true
  List.getD_cons_zero List.getD_cons_succ List.getD_nil List.set_cons_zero List.set_cons_succ List.length_cons List.length_nil List.length_append List.append_assoc List.cons_append List.nil_append List.append_nil
  List.drop_zero List.drop_succ_cons List.drop_nil List.take_zero List.take_succ_cons List.take_nil Option.map_some Option.map_none Nat.zero_add Nat.add_zero Nat.add_assoc
  List.size_toArray List.toList_toArray Int.toNat_natCast Array.toList_append Array.toList_empty

@[go_sem] theorem hget_app0 (h L : AHeap) : hget (h ++ L) h.length = L.getD 0 .gone := by
  simp only [hget, List.getD_eq_getElem?_getD]; rw [List.getElem?_append_right (Nat.le_refl _)]; simp
@[go_sem] theorem hget_app (h L : AHeap) (k : Nat) : hget (h ++ L) (h.length + k) = L.getD k .gone := by
  simp only [hget, List.getD_eq_getElem?_getD]; rw [List.getElem?_append_right (by omega)]; simp
@[go_sem] theorem hset_app0 (h L : AHeap) (b : ABlk) : hset (h ++ L) h.length b = h ++ L.set 0 b := by
  simp [hset]
@[go_sem] theorem hset_app (h L : AHeap) (k : Nat) (b : ABlk) : hset (h ++ L) (h.length + k) b = h ++ L.set k b := by
  simp [hset]

section
variable (P) (t : TypeId) (k : IntKind) (a b : Int) (s u : List UInt8) (x y : Bool)
@[go_sem] theorem aBin_add : aBin P .add t (.int k a) (.int k b) = ⟨.int k (k.wrap (a + b)), True⟩ := by simp [aBin, aBinInt]
@[go_sem] theorem aBin_sub : aBin P .sub t (.int k a) (.int k b) = ⟨.int k (k.wrap (a - b)), True⟩ := by simp [aBin, aBinInt]
@[go_sem] theorem aBin_mul : aBin P .mul t (.int k a) (.int k b) = ⟨.int k (k.wrap (a * b)), True⟩ := by simp [aBin, aBinInt]
@[go_sem] theorem aBin_quo : aBin P .quo t (.int k a) (.int k b) = ⟨.int k (k.wrap (a.tdiv b)), b ≠ 0⟩ := by simp [aBin, aBinInt]
@[go_sem] theorem aBin_rem : aBin P .rem t (.int k a) (.int k b) = ⟨.int k (a.tmod b), b ≠ 0⟩ := by simp [aBin, aBinInt]
@[go_sem] theorem aBin_and : aBin P .and t (.int k a) (.int k b) = ⟨.int k (aBits .and k a b), True⟩ := by simp [aBin, aBinInt]
@[go_sem] theorem aBin_or : aBin P .or t (.int k a) (.int k b) = ⟨.int k (aBits .or k a b), True⟩ := by simp [aBin, aBinInt]
@[go_sem] theorem aBin_xor : aBin P .xor t (.int k a) (.int k b) = ⟨.int k (aBits .xor k a b), True⟩ := by simp [aBin, aBinInt]
@[go_sem] theorem aBin_eql : aBin P .eql t (.int k a) (.int k b) = ⟨.bool (decide (a = b)), True⟩ := by simp [aBin, aBinInt]
@[go_sem] theorem aBin_neq : aBin P .neq t (.int k a) (.int k b) = ⟨.bool (!decide (a = b)), True⟩ := by simp [aBin, aBinInt]
@[go_sem] theorem aBin_lss : aBin P .lss t (.int k a) (.int k b) = ⟨.bool (decide (a < b)), True⟩ := by simp [aBin, aBinInt]
@[go_sem] theorem aBin_leq : aBin P .leq t (.int k a) (.int k b) = ⟨.bool (decide (a ≤ b)), True⟩ := by simp [aBin, aBinInt]
@[go_sem] theorem aBin_gtr : aBin P .gtr t (.int k a) (.int k b) = ⟨.bool (decide (b < a)), True⟩ := by simp [aBin, aBinInt]
@[go_sem] theorem aBin_geq : aBin P .geq t (.int k a) (.int k b) = ⟨.bool (decide (b ≤ a)), True⟩ := by simp [aBin, aBinInt]
@[go_sem] theorem aBin_shl (k' : IntKind) : aBin P .shl t (.int k a) (.int k' b) = ⟨.int k (k.wrap (a * 2 ^ (min b.toNat k.bits))), 0 ≤ b⟩ := by simp [aBin, aBinInt]
@[go_sem] theorem aBin_shr (k' : IntKind) : aBin P .shr t (.int k a) (.int k' b) = ⟨.int k (a.fdiv (2 ^ (min b.toNat k.bits))), 0 ≤ b⟩ := by simp [aBin, aBinInt]
@[go_sem] theorem aBin_sadd : aBin P .add t (.str s) (.str u) = ⟨.str (s ++ u), s.length + u.length ≤ 9223372036854775807⟩ := by simp [aBin, aBinStr]
@[go_sem] theorem aBin_seql : aBin P .eql t (.str s) (.str u) = ⟨.bool (decide (s = u)), True⟩ := by simp [aBin, aBinStr]
@[go_sem] theorem aBin_sneq : aBin P .neq t (.str s) (.str u) = ⟨.bool (!decide (s = u)), True⟩ := by simp [aBin, aBinStr]
@[go_sem] theorem aBin_beql : aBin P .eql t (.bool x) (.bool y) = ⟨.bool (x == y), P.underlying t = some .bool⟩ := by simp [aBin]
@[go_sem] theorem aBin_bneq : aBin P .neq t (.bool x) (.bool y) = ⟨.bool (!(x == y)), P.underlying t = some .bool⟩ := by simp [aBin]
@[go_sem] theorem aBin_aeql (xs ys : List AV) : aBin P .eql t (.agg xs) (.agg ys) = ⟨.bool (aEq P 30 t (.agg xs) (.agg ys)).b, P.eqGuardType P.depth t = false ∧ (aEq P 30 t (.agg xs) (.agg ys)).s⟩ := by simp [aBin]
@[go_sem] theorem aBin_aneq (xs ys : List AV) : aBin P .neq t (.agg xs) (.agg ys) = ⟨.bool (!(aEq P 30 t (.agg xs) (.agg ys)).b), P.eqGuardType P.depth t = false ∧ (aEq P 30 t (.agg xs) (.agg ys)).s⟩ := by simp [aBin]
end

@[go_sem] theorem cells_agg (cs : List AV) : (AV.agg cs).cells = cs := rfl
@[go_sem] theorem cells_int (k : IntKind) (n : Int) : AV.cells (.int k n) = [.int k n] := rfl
@[go_sem] theorem cells_bool (b : Bool) : AV.cells (.bool b) = [.bool b] := rfl
@[go_sem] theorem cells_str (s : List UInt8) : AV.cells (.str s) = [.str s] := rfl
@[go_sem] theorem cells_tup (cs : List AV) : AV.cells (.tup cs) = [.tup cs] := rfl
@[go_sem] theorem cells_sl (f : Bool) (es : List AV) : AV.cells (.sl f es) = [.sl f es] := rfl
@[go_sem] theorem cells_cptr (cs : List AV) : AV.cells (.cptr cs) = [.cptr cs] := rfl
@[go_sem] theorem cells_ref (i v o : Nat) : AV.cells (.ref i v o) = [.ref i v o] := rfl
@[go_sem] theorem cells_osl (a b c d e f : Nat) : AV.cells (.osl a b c d e f) = [.osl a b c d e f] := rfl
@[go_sem] theorem cells_nilptr  : AV.cells (.nilptr) = [.nilptr] := rfl
@[go_sem] theorem cells_map (i : Nat) : AV.cells (.map i) = [.map i] := rfl
@[go_sem] theorem cells_nilmap  : AV.cells (.nilmap) = [.nilmap] := rfl
@[go_sem] theorem cells_iter (i : Nat) : AV.cells (.iter i) = [.iter i] := rfl
@[go_sem] theorem cells_func (f : Fn) (a b : List AV) : AV.cells (.func f a b) = [.func f a b] := rfl
@[go_sem] theorem cells_nilfunc  : AV.cells (.nilfunc) = [.nilfunc] := rfl
@[go_sem] theorem cells_iface (t : TypeId) (x : AV) : AV.cells (.iface t x) = [.iface t x] := rfl
@[go_sem] theorem cells_nilIface  : AV.cells (.nilIface) = [.nilIface] := rfl
@[go_sem] theorem cells_opt (g : Bool) (x : AV) : AV.cells (.opt g x) = [.opt g x] := rfl
@[go_sem] theorem cells_top  : AV.cells (.top) = [.top] := rfl
@[go_sem] theorem optl_none {α : Type} : (none : Option α).toArray.toList = [] := rfl
@[go_sem] theorem optl_some {α : Type} (x : α) : (some x).toArray.toList = [x] := rfl
@[go_sem] theorem isEql_eql : isEql .eql = true := rfl
@[go_sem] theorem isEql_neq : isEql .neq = false := rfl
@[go_sem] theorem isEql_add : isEql .add = false := rfl
@[go_sem] theorem isEql_sub : isEql .sub = false := rfl
@[go_sem] theorem isEql_mul : isEql .mul = false := rfl
@[go_sem] theorem isEql_quo : isEql .quo = false := rfl
@[go_sem] theorem isEql_rem : isEql .rem = false := rfl
@[go_sem] theorem isEql_and : isEql .and = false := rfl
@[go_sem] theorem isEql_or : isEql .or = false := rfl
@[go_sem] theorem isEql_xor : isEql .xor = false := rfl
@[go_sem] theorem isEql_andNot : isEql .andNot = false := rfl
@[go_sem] theorem isEql_shl : isEql .shl = false := rfl
@[go_sem] theorem isEql_shr : isEql .shr = false := rfl
@[go_sem] theorem isEql_lss : isEql .lss = false := rfl
@[go_sem] theorem isEql_leq : isEql .leq = false := rfl
@[go_sem] theorem isEql_gtr : isEql .gtr = false := rfl
@[go_sem] theorem isEql_geq : isEql .geq = false := rfl
@[go_sem] theorem isNilO_tmp (t : Nat) : isNilO (.tmp t) = false := rfl
@[go_sem] theorem isNilO_global (t : Nat) : isNilO (.global t) = false := rfl
@[go_sem] theorem isNilO_func (t : Nat) : isNilO (.func t) = false := rfl
@[go_sem] theorem isNilO_const (v : Value) : isNilO (.const v) = isNilV v := rfl
@[go_sem] theorem isNilV_int (k : IntKind) (n : Int) : isNilV (.int k n) = false := rfl
@[go_sem] theorem isNilV_bool (b : Bool) : isNilV (.bool b) = false := rfl
@[go_sem] theorem isNilV_str (s : ByteArray) : isNilV (.string s) = false := rfl
@[go_sem] theorem isNilV_nilI : isNilV .nilIface = false := rfl
@[go_sem] theorem isNilV_nilF : isNilV .nilFunc = false := rfl
@[go_sem] theorem isNilV_ptr (a : Option Addr) : isNilV (.pointer a) = false := rfl
@[go_sem] theorem isNilV_map (a : Option Nat) : isNilV (.map a) = false := rfl
@[go_sem] theorem isNilV_agg (a : Array Value) : isNilV (.agg a) = false := rfl
@[go_sem] theorem isNilV_sl : isNilV (.slice none 0 0) = true := rfl
attribute [go_sem] nilK
attribute [go_sem] isK anilEq aBinX amakeSlice acopy aclear arange anext methodAV
section
variable {P : Program}
@[go_sem] theorem aappendZ_nil (ts tx : TypeId) (f : Bool) (x : AV) (H : AHeap) : aappendZ P ts tx (.sl f []) x H = aappend P ts tx (.sl f []) x H := rfl
@[go_sem] theorem aappendZ_osl (ts tx : TypeId) (s i v o l c : Nat) (x : AV) (H : AHeap) : aappendZ P ts tx (.osl s i v o l c) x H = aappend P ts tx (.osl s i v o l c) x H := rfl
@[go_sem] theorem aappendZ_cons (ts tx : TypeId) (f : Bool) (e0 : AV) (es : List AV) (x : AV) (H : AHeap) : aappendZ P ts tx (.sl f (e0 :: es)) x H = (if srcLen x = 0 then (match P.underlying ts with
      | some (.slice e) => ⟨.sl f (e0 :: es), H, elemOk P e = true ∧ notInt P tx = true ∧ srcOk x (P.cellsOf e) H⟩
      | _ => ⟨.top, H, False⟩) else aappend P ts tx (.sl f (e0 :: es)) x H) := rfl
end
section
@[go_sem] theorem isNilI_int (k : IntKind) (n : Int) : isNilI (.int k n) = false := rfl
@[go_sem] theorem isNilI_bool (b : Bool) : isNilI (.bool b) = false := rfl
@[go_sem] theorem isNilI_str (s : List UInt8) : isNilI (.str s) = false := rfl
@[go_sem] theorem isNilI_agg (s : List AV) : isNilI (.agg s) = false := rfl
@[go_sem] theorem isNilI_iface (t : TypeId) (x : AV) : isNilI (.iface t x) = false := rfl
@[go_sem] theorem isNilI_nil : isNilI .nilIface = true := rfl
end
@[go_sem] theorem splice_nil (cs : List AV) (n : Nat) : splice cs n [] = cs := by simp [splice]
@[go_sem] theorem splice_zero (c x : AV) (cs xs : List AV) : splice (c :: cs) 0 (x :: xs) = x :: splice cs 0 xs := by simp [splice]
@[go_sem] theorem splice_succ (c : AV) (cs xs : List AV) (n : Nat) : splice (c :: cs) (n + 1) xs = c :: splice cs n xs := by
  simp [splice, Nat.add_right_comm n 1]
attribute [go_sem] abox AV.known AV.one aload aread astore afieldAddr aindexAddr liveRef aslice afield aindex alen aappend srcLen srcCells srcOk aconv aextract aassert amax amin abuildSlice abuild afill aplace abuiltin anil apart
  aun apick toldB tolds boolOf isB gval gok false_implies unopt gobl guardSlot slotV oblAll nth aalloc bad aEq aEqF List.all_cons List.all_nil Bool.and_true Bool.true_and Bool.and_false Bool.false_and Bool.or_false Bool.or_true Bool.false_or Bool.true_or Bool.not_not
  List.flatMap_cons List.flatMap_nil List.flatMap_nil ge_iff_le gt_iff_lt beq_self_eq_true BEq.rfl List.mem_cons List.not_mem_nil forall_eq_or_imp forall_const or_false false_or ne_eq reduceCtorEq

@[go_sem] theorem ble_dec (a b : Nat) : Nat.ble a b = decide (a ≤ b) := by
  rw [Bool.eq_iff_iff]; simp
attribute [go_sem] decide_true decide_false Bool.cond_true Bool.cond_false
@[go_sem] theorem cond_t {α : Type} (a b : α) : (bif true then a else b) = a := rfl
@[go_sem] theorem cond_f {α : Type} (a b : α) : (bif false then a else b) = b := rfl
@[go_sem] theorem cond_and (b x : Bool) : (bif b then x else false) = (b && x) := by cases b <;> rfl
@[go_sem] theorem cond_or (b x : Bool) : (bif b then true else x) = (b || x) := by cases b <;> rfl
@[go_sem] theorem imp_same (p : Prop) : (p → p) = True := by simp
@[go_sem] theorem imp_and1 (a b : Bool) : ((a && b) = true → a = true) = True := by cases a <;> simp
@[go_sem] theorem imp_andr (a b : Bool) : (a = true → b = true → (a && b) = true) = True := by cases a <;> simp
@[go_sem] theorem imp_andn (a b : Bool) : (a = true → b = false → (a && !b) = true) = True := by cases a <;> simp
@[go_sem] theorem imp_not (b : Bool) : (b = false → (!b) = true) = True := by simp
@[go_sem] theorem true_imp (p : Prop) : (True → p) = p := by simp
@[go_sem] theorem decide_eq_t (p : Prop) [Decidable p] : (decide p = true) = p := by simp
@[go_sem] theorem decide_eq_f (p : Prop) [Decidable p] : (decide p = false) = ¬ p := by simp
@[go_sem] theorem not_eq_t (b : Bool) : ((!b) = true) = (b = false) := by simp
@[go_sem] theorem not_eq_f (b : Bool) : ((!b) = false) = (b = true) := by simp
@[go_sem] theorem and_eq_t (a b : Bool) : ((a && b) = true) = (a = true ∧ b = true) := by simp
@[go_sem] theorem or_eq_f (a b : Bool) : ((a || b) = false) = (a = false ∧ b = false) := by simp

end Go.Aw
