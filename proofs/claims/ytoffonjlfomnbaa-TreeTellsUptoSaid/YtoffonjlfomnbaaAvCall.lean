/- The abstract machine: calls by contract, and integers that do not wrap. No condition. -/
import Derived.Test.YtoffonjlfomnbaaAvEval
namespace Go.Aw
open Go
variable {P : Program}

theorem callK_fn {f : FuncId} {args : List AV} {H : AHeap} {x : AV} {k : AV → AHeap → Prop} (h : FnC P f args H x) (ok : callOk P f = true) (hk : k x H) : callK P (.func (.func f) [] []) args H k :=
  ⟨ok, by
    simp only [List.nil_append, List.append_nil]
    exact h.mono fun y H' ⟨e1, e2⟩ => by subst e1; subst e2; exact hk⟩

theorem callK_of {f : FuncId} {args : List AV} {H : AHeap} {R : AV → AHeap → Prop} {k : AV → AHeap → Prop} (h : ACalls P f args H R) (ok : callOk P f = true) (hk : ∀ x H', R x H' → k x H') : callK P (.func (.func f) [] []) args H k :=
  ⟨ok, by
    simp only [List.nil_append, List.append_nil]
    exact h.mono hk⟩

theorem callP_fn {g : Bool} {f : FuncId} {args : List AV} {H : AHeap} {x : AV} {K : AV → Prop} (h : FnC P f args H x) (ok : callOk P f = true) (hk : K x) : callP P g (.func (.func f) [] []) args H K :=
  ⟨x, fun _ => ⟨ok, by
    simp only [List.nil_append, List.append_nil]
    exact h⟩, hk⟩

theorem callP_fn_if {g : Bool} {f : FuncId} {args : List AV} {H : AHeap} {x : AV} {K : AV → Prop} (h : g = true → FnC P f args H x) (ok : callOk P f = true) (hk : K x) : callP P g (.func (.func f) [] []) args H K :=
  ⟨x, fun hg => ⟨ok, by
    simp only [List.nil_append, List.append_nil]
    exact h hg⟩, hk⟩

theorem fnC_of {f : FuncId} {fn : Func} {code : Code} {args : List AV} {H : AHeap} {x : AV} (hf : P.funcs[f]? = some fn) (hb : fn.body = some code) (hn : args.length ≤ fn.ntmps)
    (h : aw P fn.ntmps code (retQ P fn.results.toList fun v H' => ∃ L y, H' = H ++ L ∧ Frz H.length H' v y ∧ y = x) (frameOf 0 args) H) : FnC P f args H x :=
  fn_of_aw hf hb hn h

theorem wrap_i64 {n : Int} (h1 : -9223372036854775808 ≤ n) (h2 : n ≤ 9223372036854775807) : IntKind.i64.wrap n = n := by
  simp only [IntKind.wrap, IntKind.signed, IntKind.bits, Bool.true_and]
  split
  · rename_i h; have h := of_decide_eq_true h; omega
  · rename_i h; have h : ¬ n % 2 ^ 64 ≥ 2 ^ (64 - 1) := fun q => h (decide_eq_true q); omega

/-- Nothing in it that lies in the heap. -/
def plainN : Nat → AV → Bool
  | _, .int _ _ | _, .bool _ | _, .str _ | _, .nilptr | _, .nilmap | _, .nilfunc | _, .nilIface | _, .top => true
  | k + 1, .agg cs => cs.all (plainN k)
  | k + 1, .tup cs => cs.all (plainN k)
  | k + 1, .iface _ x => plainN k x
  | _, _ => false

theorem cl_plain {n : Nat} : ∀ (k : Nat) {x : AV}, plainN k x = true → Cl n x := by
  intro k
  induction k with
  | zero =>
    intro x h
    cases x <;> first | (simp [plainN] at h; done) | constructor
  | succ k ih =>
    intro x h
    cases x <;> first
      | (simp [plainN] at h; done)
      | (rename_i cs; exact .agg cs fun i y hy => ih (List.all_eq_true.1 h y (List.mem_of_getElem? hy)))
      | (rename_i cs; exact .tup cs fun i y hy => ih (List.all_eq_true.1 h y (List.mem_of_getElem? hy)))
      | (rename_i t y; exact .iface t y (ih h))
      | constructor

/-- The end of a function whose answer has nothing in the heap. -/
theorem done_plain {n k : Nat} {H L : AHeap} {v x : AV} (hk : plainN k v = true) (he : v = x) : ∃ L' y, H ++ L = H ++ L' ∧ Frz n (H ++ L) v y ∧ y = x :=
  ⟨L, v, rfl, .cl _ (cl_plain k hk), he⟩
theorem done_plain0 {n k : Nat} {H : AHeap} {v x : AV} (hk : plainN k v = true) (he : v = x) : ∃ L' y, H = H ++ L' ∧ Frz n H v y ∧ y = x :=
  ⟨[], v, (List.append_nil H).symm, .cl _ (cl_plain k hk), he⟩

/-! ### Loops -/
@[go_sem] def subA : AF → AF → Prop
  | [], _ => True
  | (k, v) :: β, α => look α k = v ∧ subA β α

theorem subA_look {α : AF} : ∀ {β : AF}, subA β α → ∀ t, look β t = .top ∨ look β t = look α t
  | [], _, t => .inl rfl
  | (k, v) :: β, h, t => by
    rw [look_cons]
    by_cases e : k = t
    · subst e; rw [if_pos rfl]; exact .inr h.1.symm
    · rw [if_neg e]; exact subA_look h.2 t

def loopS {ι : Type} (F : ι → AF) (Hp : ι → AHeap) (pre : ι → Prop) (m : ι → Nat) (x : ι) (Q : APost) : APost
  | .normal, α, H => ∃ y, pre y ∧ m y < m x ∧ subA (F y) α ∧ H = Hp y
  | e, α, H => Q e α H

section
variable {ι : Type} (F : ι → AF) (Hp : ι → AHeap) (pre : ι → Prop) (m : ι → Nat) (x : ι) (Q : APost) (α : AF) (H : AHeap)
@[go_sem] theorem loopS_normal : loopS F Hp pre m x Q .normal α H = ∃ y, pre y ∧ m y < m x ∧ subA (F y) α ∧ H = Hp y := rfl
@[go_sem] theorem loopS_exit (i : Nat) : loopS F Hp pre m x Q (.exit i) α H = Q (.exit i) α H := rfl
@[go_sem] theorem loopS_ret : loopS F Hp pre m x Q .ret α H = Q .ret α H := rfl
end

theorem aw_loopS {N : Nat} {body : Code} {Q : APost} {α : AF} {H : AHeap} {ι : Type} (F : ι → AF) (Hp : ι → AHeap) (pre : ι → Prop) (m : ι → Nat) (x₀ : ι) (h0 : pre x₀)
    (hF : subA (F x₀) α) (hH : H = Hp x₀) (round : ∀ x, pre x → aw P N body (loopS F Hp pre m x Q) (F x) (Hp x)) : aw P N (.loop body) Q α H :=
  aw_loop F Hp pre m x₀ h0 (subA_look hF) hH fun x hx => aw_mono (round x hx) fun e α' H' h => by
    cases e <;> first
      | exact h
      | (obtain ⟨y, h1, h2, h3, h4⟩ := h; exact ⟨y, h1, h2, subA_look h3, h4⟩)
end Go.Aw
