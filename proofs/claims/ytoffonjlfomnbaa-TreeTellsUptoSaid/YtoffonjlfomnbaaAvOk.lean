/- The abstract machine: what the representation tells (ranges of integers, lengths), scopes, calls of values. No condition. -/
import Derived.Test.YtoffonjlfomnbaaAvFrz
import Derived.Scope
namespace Go.Aw
open Go
set_option linter.unusedVariables false
variable {P : Program}

/-- Integers lie in their ranges, slices and texts are not too long. -/
inductive Ok : AV → Prop
  | int (k : IntKind) (n : Int) (h : inR k n) : Ok (.int k n)
  | bool (b : Bool) : Ok (.bool b)
  | str (s : List UInt8) (h : s.length ≤ 9223372036854775807) : Ok (.str s)
  | agg (cs : List AV) (h : ∀ x ∈ cs, Ok x) : Ok (.agg cs)
  | tup (cs : List AV) (h : ∀ x ∈ cs, Ok x) : Ok (.tup cs)
  | sl (f : Bool) (es : List AV) (hl : es.length ≤ 9223372036854775807) (h : ∀ e ∈ es, ∀ x ∈ e.cells, Ok x) : Ok (.sl f es)
  | cptr (cs : List AV) : Ok (.cptr cs)
  | ref (i v off : Nat) : Ok (.ref i v off)
  | osl (s i v off len lc : Nat) (h : lc ≤ 9223372036854775807) : Ok (.osl s i v off len lc)
  | nilptr : Ok .nilptr
  | map (i : Nat) : Ok (.map i)
  | nilmap : Ok .nilmap
  | iter (i : Nat) : Ok (.iter i)
  | func (fn : Fn) (fs cs : List AV) : Ok (.func fn fs cs)
  | nilfunc : Ok .nilfunc
  | iface (t : TypeId) (x : AV) (h : Ok x) : Ok (.iface t x)
  | nilIface : Ok .nilIface
  | opt (g : Bool) (x : AV) (h : g = true → Ok x) : Ok (.opt g x)
  | top : Ok .top

theorem mem_get {α : Type} {l : List α} {x : α} (h : x ∈ l) : ∃ i : Nat, l[i]? = some x := by
  obtain ⟨i, hi, he⟩ := List.getElem_of_mem h
  exact ⟨i, by rw [List.getElem?_eq_getElem hi, he]⟩

theorem Rep.ok {c : Ctx} {x : AV} {v : Value} (h : Rep c x v) : Ok x := by
  induction h with
  | int k n h => exact .int k n h
  | bool b => exact .bool b
  | str s h => exact .str s h
  | agg cs vs hl _ ih => exact .agg cs fun x hx => let ⟨i, hi⟩ := mem_get hx; let ⟨v, hv⟩ := get_of_len hl hi; ih i x v hi hv
  | tup cs vs hl _ ih => exact .tup cs fun x hx => let ⟨i, hi⟩ := mem_get hx; let ⟨v, hv⟩ := get_of_len hl hi; ih i x v hi hv
  | sl full es base len cap s vs hlen _ _ _ _ _ hmax ih => exact .sl full es (by omega) fun e he x hx => let ⟨k, hk⟩ := mem_get he; let ⟨j, hj⟩ := mem_get hx; ih k e j x hk hj
  | cptr cs => exact .cptr cs
  | ref i v off => exact .ref i v off
  | osl s i v off len lc val _ _ _ h => exact .osl s i v off len lc h
  | nilptr => exact .nilptr
  | map i => exact .map i
  | nilmap => exact .nilmap
  | iter i => exact .iter i
  | func fn fs cs => exact .func fn fs cs
  | nilfunc => exact .nilfunc
  | iface t x _ _ ih => exact .iface t x ih
  | nilIface => exact .nilIface
  | opt g x _ _ _ ih => exact .opt g x ih
  | top => exact .top

theorem ok_int {k : IntKind} {n : Int} (h : Ok (.int k n)) : inR k n := by cases h; assumption
theorem ok_i64 {n : Int} (h : Ok (.int .i64 n)) : -9223372036854775808 ≤ n ∧ n ≤ 9223372036854775807 := inR_i64.1 (ok_int h)
theorem ok_u8 {n : Int} (h : Ok (.int .u8 n)) : 0 ≤ n ∧ n ≤ 255 := inR_u8.1 (ok_int h)
theorem ok_str {s : List UInt8} (h : Ok (.str s)) : s.length ≤ 9223372036854775807 := by cases h; assumption
theorem ok_agg {cs : List AV} (h : Ok (.agg cs)) : ∀ x ∈ cs, Ok x := by cases h; assumption
theorem ok_tup {cs : List AV} (h : Ok (.tup cs)) : ∀ x ∈ cs, Ok x := by cases h; assumption
theorem ok_sl {f : Bool} {es : List AV} (h : Ok (.sl f es)) : es.length ≤ 9223372036854775807 := by cases h; assumption
theorem ok_slm {f : Bool} {es : List AV} (h : Ok (.sl f es)) : ∀ e ∈ es, ∀ x ∈ e.cells, Ok x := by cases h; assumption
theorem ok_osl {s i v off len lc : Nat} (h : Ok (.osl s i v off len lc)) : lc ≤ 9223372036854775807 := by cases h; assumption
theorem ok_iface {t : TypeId} {x : AV} (h : Ok (.iface t x)) : Ok x := by cases h; assumption
/-- A slice of structs: the cells of each are fine. -/
theorem ok_slmap {α : Type} {f : Bool} {g : α → List AV} {l : List α} (h : Ok (.sl f (l.map fun x => .agg (g x)))) : ∀ x ∈ l, ∀ y ∈ g x, Ok y :=
  fun x hx y hy => ok_slm h _ (List.mem_map_of_mem hx) y hy

theorem RepAll.ok {c : Ctx} {xs : List AV} {vs : Array Value} (h : RepAll c xs vs) : ∀ x ∈ xs, Ok x := fun x hx =>
  let ⟨i, hi⟩ := mem_get hx
  let ⟨v, hv⟩ := get_of_len h.1 hi
  (h.2 i x v hi hv).ok

theorem acalls_ok {f : FuncId} {args : List AV} {H : AHeap} {R : AV → AHeap → Prop} (h : (∀ x ∈ args, Ok x) → ACalls P f args H R) : ACalls P f args H R :=
  fun c vs hs ha => h ha.ok c vs hs ha
theorem fnC_ok {f : FuncId} {args : List AV} {H : AHeap} {x : AV} (h : (∀ x ∈ args, Ok x) → FnC P f args H x) : FnC P f args H x := acalls_ok h
theorem fnC_ok1 {f : FuncId} {a : AV} {H : AHeap} {x : AV} (h : Ok a → FnC P f [a] H x) : FnC P f [a] H x := fnC_ok fun k => h (k _ (by simp))
theorem fnC_ok2 {f : FuncId} {a b : AV} {H : AHeap} {x : AV} (h : Ok a → Ok b → FnC P f [a, b] H x) : FnC P f [a, b] H x := fnC_ok fun k => h (k _ (by simp)) (k _ (by simp))
theorem fnC_ok3 {f : FuncId} {a b d : AV} {H : AHeap} {x : AV} (h : Ok a → Ok b → Ok d → FnC P f [a, b, d] H x) : FnC P f [a, b, d] H x := fnC_ok fun k => h (k _ (by simp)) (k _ (by simp)) (k _ (by simp))
theorem fnC_ok4 {f : FuncId} {a b d e : AV} {H : AHeap} {x : AV} (h : Ok a → Ok b → Ok d → Ok e → FnC P f [a, b, d, e] H x) : FnC P f [a, b, d, e] H x := fnC_ok fun k => h (k _ (by simp)) (k _ (by simp)) (k _ (by simp)) (k _ (by simp))

theorem aw_ok {N : Nat} {code : Code} {Q : APost} {α : AF} {H : AHeap} (t : Nat) {x : AV} (hx : look α t = x) (h : Ok x → aw P N code Q α H) : aw P N code Q α H :=
  fun c a hs ha => h (hx ▸ (ha.rep t).ok) c a hs ha

theorem St.okCells {c : Ctx} {H : AHeap} (hs : St c H) {i v : Nat} {cs : List AV} (hh : hget H i = .cells v cs) : ∀ x ∈ cs, Ok x := by
  intro x hx
  obtain ⟨j, hj⟩ := mem_get hx
  have hr := hs.rep i _ (hget_some hh trivial)
  cases hr with
  | cells _ _ vs _ _ _ _ _ hl _ hr =>
    have hlt := (List.getElem?_eq_some_iff.1 hj).1
    exact (hr j x _ hj (Array.getElem?_eq_getElem (by omega))).ok
  | void => simp at hx

theorem aw_okH {N : Nat} {code : Code} {Q : APost} {α : AF} {H : AHeap} {i v : Nat} {cs : List AV} (hh : hget H i = .cells v cs) (h : (∀ x ∈ cs, Ok x) → aw P N code Q α H) : aw P N code Q α H :=
  fun c a hs ha => h (hs.okCells hh) c a hs ha

theorem acalls_okH {f : FuncId} {args : List AV} {H : AHeap} {R : AV → AHeap → Prop} {i v : Nat} {cs : List AV} (hh : hget H i = .cells v cs) (h : (∀ x ∈ cs, Ok x) → ACalls P f args H R) : ACalls P f args H R :=
  fun c vs hs ha => h (hs.okCells hh) c vs hs ha

/-! ### Scopes -/
def scopeQ (Q : APost) : APost
  | .goto _, _, _ => False
  | e, α, H => Q e α H

section
variable (Q : APost) (α : AF) (H : AHeap)
@[go_sem] theorem scopeQ_normal : scopeQ Q .normal α H = Q .normal α H := rfl
@[go_sem] theorem scopeQ_ret : scopeQ Q .ret α H = Q .ret α H := rfl
@[go_sem] theorem scopeQ_exit (i : Nat) : scopeQ Q (.exit i) α H = Q (.exit i) α H := rfl
end

theorem aw_scope {N : Nat} {x : Code} {Q : APost} {α : AF} {H : AHeap} (h : aw P N x (scopeQ Q) α H) : aw P N (.scope x) Q α H := by
  intro c a hs ha
  refine wp_scope_straight (wp_mono (h c a hs ha) fun e a' w' ⟨c', α', H', e1, e2, e3, e4, e5⟩ => ?_)
  cases e with
  | goto l => exact e5.elim
  | _ => exact ⟨c', α', H', e1, e2, e3, e4, e5⟩

/-! ### Calls of function values -/
theorem callK_cap {f : FuncId} {first args cap : List AV} {H : AHeap} {x : AV} {k : AV → AHeap → Prop} (h : FnC P f (first ++ args ++ cap) H x) (ok : callOk P f = true) (hk : k x H) : callK P (.func (.func f) first cap) args H k :=
  ⟨ok, h.mono fun y H' ⟨e1, e2⟩ => by subst e1; subst e2; exact hk⟩
theorem callK_ofcap {f : FuncId} {first args cap : List AV} {H : AHeap} {R : AV → AHeap → Prop} {k : AV → AHeap → Prop} (h : ACalls P f (first ++ args ++ cap) H R) (ok : callOk P f = true) (hk : ∀ x H', R x H' → k x H') : callK P (.func (.func f) first cap) args H k :=
  ⟨ok, h.mono hk⟩
theorem callP_cap {g : Bool} {f : FuncId} {first args cap : List AV} {H : AHeap} {x : AV} {K : AV → Prop} (h : g = true → FnC P f (first ++ args ++ cap) H x) (ok : callOk P f = true) (hk : K x) : callP P g (.func (.func f) first cap) args H K :=
  ⟨x, fun hg => ⟨ok, h hg⟩, hk⟩

theorem callP_false {f : AV} {args : List AV} {H : AHeap} {K : AV → Prop} (v : AV) (hk : K v) : callP P false f args H K := ⟨v, (fun h => by cases h), hk⟩

/-- A function value, called in a heap that may have grown, leaves it alone and answers. -/
def FnV (P : Program) (f : AV) (args : List AV) (H : AHeap) (x : AV) : Prop := ∀ L, ACall P f args (H ++ L) (fun v H' => v = x ∧ H' = H ++ L)

theorem FnV.mk {f : FuncId} {first args cap : List AV} {H : AHeap} {x : AV} (h : ∀ L, FnC P f (first ++ args ++ cap) (H ++ L) x) (ok : callOk P f = true) : FnV P (.func (.func f) first cap) args H x :=
  fun L => ⟨ok, h L⟩
theorem FnV.grow {f : AV} {args : List AV} {H : AHeap} {x : AV} (h : FnV P f args H x) (L : AHeap) : FnV P f args (H ++ L) x :=
  fun M => by rw [List.append_assoc]; exact h (L ++ M)

theorem callK_v {f : AV} {args : List AV} {H L : AHeap} {x : AV} {k : AV → AHeap → Prop} (h : FnV P f args H x) (hk : k x (H ++ L)) : callK P f args (H ++ L) k := by
  have h1 := h L
  unfold callK
  unfold ACall at h1 ⊢
  split at h1
  · exact ⟨h1.1, h1.2.mono fun y H' ⟨e1, e2⟩ => by subst e1; subst e2; exact hk⟩
  · exact h1.elim
theorem callK_v0 {f : AV} {args : List AV} {H : AHeap} {x : AV} {k : AV → AHeap → Prop} (h : FnV P f args H x) (hk : k x H) : callK P f args H k := by
  have h1 := callK_v (L := []) (k := k) h (by rw [List.append_nil]; exact hk)
  rwa [List.append_nil] at h1
theorem callP_v {g : Bool} {f : AV} {args : List AV} {H L : AHeap} {x : AV} {K : AV → Prop} (h : g = true → FnV P f args H x) (hk : K x) : callP P g f args (H ++ L) K :=
  ⟨x, fun hg => h hg L, hk⟩

theorem hget_appL {H : AHeap} {i : Nat} {b : ABlk} (h : hget H i = b) (hb : b.live) (L : AHeap) : hget (H ++ L) i = b := by
  have hlt := hget_lt h hb
  have h1 := hget_some h hb
  simp only [hget, List.getD_eq_getElem?_getD]
  rw [List.getElem?_append_left hlt, h1]; rfl

theorem hset_appL {H : AHeap} {i : Nat} (h : i < H.length) (L : AHeap) (b : ABlk) : hset (H ++ L) i b = hset H i b ++ L := by
  unfold hset
  rw [List.set_append_left _ _ h]

end Go.Aw
