/- The abstract machine: regions, in the order of the text and in whatever order; functions. No condition. -/
import Derived.Test.YtoffonjlfomnbaaAvMach
namespace Go.Aw
open Go
set_option linter.unusedSimpArgs false

variable {P : Program}

/-- The slot that an operation of a region writes. -/
def nth : List Oper → Nat → Option Tmp
  | [], _ => none
  | o :: _, 0 => o.dst
  | _ :: os, n + 1 => nth os n

theorem nth_eq (l : List Oper) (j : Nat) : nth l j = (l[j]?).bind (·.dst) := by
  induction l generalizing j with
  | nil => rfl
  | cons o os ih => cases j with
    | zero => rfl
    | succ n => simpa [nth] using ih n

def oblAll (g : Bool) (α : AF) : List Operand → Prop
  | [] => True
  | x :: xs => gobl g (ev α x) ∧ oblAll g α xs

def evu (α : AF) (x : Operand) : AV := unopt (ev α x)

/-- A call under a guard, that leaves the heap alone. -/
def callP (P : Program) (g : Bool) (f : AV) (xs : List AV) (H : AHeap) (K : AV → Prop) : Prop :=
  ∃ v, (g = true → ACall P f xs H (fun v' H' => v' = v ∧ H' = H)) ∧ K v

def callK (P : Program) (f : AV) (xs : List AV) (H : AHeap) (K : AV → AHeap → Prop) : Prop := ACall P f xs H K

/-- The operations of a region, in the order of the text. -/
def aops (P : Program) (all : List Oper) : List Oper → AF → AHeap → (AF → AHeap → Prop) → Prop
  | [], α, H, k => k α H
  | ⟨dst, op, _, _, _, guard⟩ :: os, α, H, k =>
    match guard, op with
    | none, .pick x y z => (apick true (ev α x) (ev α y) (ev α z)).s ∧ aops P all os (putA dst (apick true (ev α x) (ev α y) (ev α z)).v α) H k
    | none, .call ⟨.value f, xs, _⟩ => callK P (ev α f) (xs.toList.map (ev α)) H (fun v H' => aops P all os (putA dst v α) H' k)
    | none, .call ⟨.invoke r m, xs, _⟩ => callK P (methodAV P m (ev α r)) (xs.toList.map (ev α)) H (fun v H' => aops P all os (putA dst v α) H' k)
    | none, .binOp op t x y t' => bif isEql op && isNilO y then nilK P t H (ev α x) (fun v => aops P all os (putA dst v α) H k)
        else (opEval P (.binOp op t x y t') (ev α) H).s ∧ aops P all os (putA dst (opEval P (.binOp op t x y t') (ev α) H).v α) (opEval P (.binOp op t x y t') (ev α) H).H k
    | none, op => (opEval P op (ev α) H).s ∧ aops P all os (putA dst (opEval P op (ev α) H).v α) (opEval P op (ev α) H).H k
    | some (j, want), .pick x y z =>
      gok (slotV α (nth all j)) ∧ ((gval (slotV α (nth all j)) want) = true → (apick (gval (slotV α (nth all j)) want) (ev α x) (ev α y) (ev α z)).s) ∧
        aops P all os (putA dst (.opt (gval (slotV α (nth all j)) want) (apick (gval (slotV α (nth all j)) want) (ev α x) (ev α y) (ev α z)).v) α) H k
    | some (j, want), .call ⟨.value f, xs, _⟩ =>
      gok (slotV α (nth all j)) ∧ oblAll (gval (slotV α (nth all j)) want) α (f :: xs.toList) ∧
        callP P (gval (slotV α (nth all j)) want) (evu α f) (xs.toList.map (evu α)) H (fun v => aops P all os (putA dst (.opt (gval (slotV α (nth all j)) want) v) α) H k)
    | some (j, want), .call ⟨.invoke r m, xs, _⟩ =>
      gok (slotV α (nth all j)) ∧ oblAll (gval (slotV α (nth all j)) want) α (r :: xs.toList) ∧
        callP P (gval (slotV α (nth all j)) want) (methodAV P m (evu α r)) (xs.toList.map (evu α)) H (fun v => aops P all os (putA dst (.opt (gval (slotV α (nth all j)) want) v) α) H k)
    | some (j, want), op =>
      gok (slotV α (nth all j)) ∧ oblAll (gval (slotV α (nth all j)) want) α op.operands.toList ∧ ((gval (slotV α (nth all j)) want) = true → (opEval P op (evu α) H).s ∧ (opEval P op (evu α) H).H = H) ∧
        aops P all os (putA dst (.opt (gval (slotV α (nth all j)) want) (opEval P op (evu α) H).v) α) H k

/-- The same where nothing may change the heap (the order does not matter). -/
def aopsP (P : Program) (all : List Oper) (H : AHeap) : List Oper → AF → (AF → Prop) → Prop
  | [], α, k => k α
  | ⟨dst, op, _, _, _, guard⟩ :: os, α, k =>
    match guard, op with
    | none, .pick x y z => (apick true (ev α x) (ev α y) (ev α z)).s ∧ aopsP P all H os (putA dst (apick true (ev α x) (ev α y) (ev α z)).v α) k
    | none, .call ⟨.value f, xs, _⟩ => callP P true (ev α f) (xs.toList.map (ev α)) H (fun v => aopsP P all H os (putA dst v α) k)
    | none, .call ⟨.invoke r m, xs, _⟩ => callP P true (methodAV P m (ev α r)) (xs.toList.map (ev α)) H (fun v => aopsP P all H os (putA dst v α) k)
    | none, op => (opEval P op (ev α) H).s ∧ (opEval P op (ev α) H).H = H ∧ aopsP P all H os (putA dst (opEval P op (ev α) H).v α) k
    | some (j, want), .pick x y z =>
      gok (slotV α (nth all j)) ∧ ((gval (slotV α (nth all j)) want) = true → (apick (gval (slotV α (nth all j)) want) (ev α x) (ev α y) (ev α z)).s) ∧
        aopsP P all H os (putA dst (.opt (gval (slotV α (nth all j)) want) (apick (gval (slotV α (nth all j)) want) (ev α x) (ev α y) (ev α z)).v) α) k
    | some (j, want), .call ⟨.value f, xs, _⟩ =>
      gok (slotV α (nth all j)) ∧ oblAll (gval (slotV α (nth all j)) want) α (f :: xs.toList) ∧
        callP P (gval (slotV α (nth all j)) want) (evu α f) (xs.toList.map (evu α)) H (fun v => aopsP P all H os (putA dst (.opt (gval (slotV α (nth all j)) want) v) α) k)
    | some (j, want), .call ⟨.invoke r m, xs, _⟩ =>
      gok (slotV α (nth all j)) ∧ oblAll (gval (slotV α (nth all j)) want) α (r :: xs.toList) ∧
        callP P (gval (slotV α (nth all j)) want) (methodAV P m (evu α r)) (xs.toList.map (evu α)) H (fun v => aopsP P all H os (putA dst (.opt (gval (slotV α (nth all j)) want) v) α) k)
    | some (j, want), op =>
      gok (slotV α (nth all j)) ∧ oblAll (gval (slotV α (nth all j)) want) α op.operands.toList ∧ ((gval (slotV α (nth all j)) want) = true → (opEval P op (evu α) H).s ∧ (opEval P op (evu α) H).H = H) ∧
        aopsP P all H os (putA dst (.opt (gval (slotV α (nth all j)) want) (opEval P op (evu α) H).v) α) k

/-! ### What one operation yields -/

/-- One operation, with its guard, looked at alone: it yields a value of which `R` holds. Only the slots that it looks at count. -/
def YG (P : Program) (N : Nat) (ops : Array Oper) (H : AHeap) (o : Oper) (α : AF) (R : AV → AHeap → Prop) : Prop :=
  ∀ (c : Ctx) (a : Act) (next : Act → World → Prop) (Q : Exit → Act → World → Prop), St c H → a.tmps.size = N → (∀ t ∈ o.looksAt ops, Rep c (look α t) (a.tmps.getD t undef)) →
    (∀ c' x v H', St c' H' → Ext c c' → Rep c' x v → R x H' → next (a.put o.dst v) c'.w) →
    if Region.wanted o (yielded ops a.tmps) then o.wp P a c.w next Q else next (a.put o.dst undef) c.w

theorem rep_ev' {c : Ctx} {α : AF} {a : Act} {x : Operand} (h : ∀ t, x = .tmp t → Rep c (look α t) (a.tmps.getD t undef)) : Rep c (ev α x) (a.eval x) := by
  cases x with
  | tmp t => exact h t rfl
  | const v => exact rep_ofConst c v
  | global g => exact .top _
  | func f => exact .func _ [] [] _ _ rfl rfl (by simp) (by simp)

theorem looksAt_operand {ops : Array Oper} {o : Oper} {t : Nat} (h : Operand.tmp t ∈ o.op.operands.toList) : t ∈ o.looksAt ops := by
  unfold Oper.looksAt
  exact List.mem_append.2 (.inl (List.mem_filterMap.2 ⟨_, h, rfl⟩))

theorem YG.of_does {N : Nat} {ops : Array Oper} {H : AHeap} {o : Oper} {α : AF} {R : AV → AHeap → Prop} (hg : o.guard = none) (h : Does P o (ev α) H R) : YG P N ops H o α R := by
  intro c a next Q hs hsz hl hk
  have hw : Region.wanted o (yielded ops a.tmps) = true := by unfold Region.wanted; rw [hg]
  rw [if_pos hw]
  exact h c a next Q hs (fun x hx => rep_ev' fun t ht => hl t (looksAt_operand (by subst ht; exact hx))) hk

theorem gval_wanted {c : Ctx} {ops : Array Oper} {o : Oper} {α : AF} {a : Act} {j : Nat} {want : Bool} (hg : o.guard = some (j, want)) (hl : ∀ t ∈ o.looksAt ops, Rep c (look α t) (a.tmps.getD t undef))
    (hok : gok (slotV α (nth ops.toList j))) : Region.wanted o (yielded ops a.tmps) = gval (slotV α (nth ops.toList j)) want := by
  have hn : nth ops.toList j = (ops[j]?).bind (·.dst) := by rw [nth_eq, Array.getElem?_toList]
  rw [hn] at hok ⊢
  unfold Region.wanted
  rw [hg]
  simp only
  unfold yielded
  cases hd : (ops[j]?).bind (·.dst) with
  | none => rw [hd] at hok; exact hok.elim
  | some t =>
    rw [hd] at hok
    simp only [slotV] at hok ⊢
    have hr := hl t (by
      unfold Oper.looksAt
      refine List.mem_append.2 (.inr ?_)
      rw [hg]
      simp only
      rw [hd]
      simp)
    have key : ∀ b : Bool, a.tmps.getD t undef = .bool b → a.tmps[t]? = some (.bool b) := by
      intro b hb
      rw [Array.getD_eq_getD_getElem?] at hb
      cases ht : a.tmps[t]? with
      | none => rw [ht] at hb; simp [undef] at hb
      | some v => rw [ht] at hb; simpa using hb
    generalize look α t = sv at hr hok ⊢
    unfold gok at hok
    split at hok
    · rename_i b
      have h1 := key b hr.bool_inv
      simp only [Option.bind_some, h1, gval]
      cases b <;> cases want <;> rfl
    · rename_i g x
      cases hr with
      | opt _ _ _ h1 h2 =>
        cases g with
        | true =>
          have h4 := h1 rfl
          rw [isB_eq (hok rfl)] at h4
          have h3 := key (boolOf x) h4.bool_inv
          simp only [Option.bind_some, h3, gval]
          generalize boolOf x = b
          cases b <;> cases want <;> rfl
        | false =>
          have h3 := h2 rfl
          rw [Array.getD_eq_getD_getElem?] at h3
          simp only [Option.bind_some, gval, Bool.false_and]
          cases ht : a.tmps[t]? with
          | none => simp
          | some v =>
            rw [ht] at h3
            simp at h3
            subst h3
            simp [undef]
    · exact hok.elim

theorem oblAll_mem {g : Bool} {α : AF} : ∀ {xs : List Operand}, oblAll g α xs → ∀ x ∈ xs, gobl g (ev α x)
  | [], _, _, hx => by cases hx
  | y :: ys, h, x, hx => by
    cases hx with
    | head => exact h.1
    | tail _ hm => exact oblAll_mem h.2 x hm

theorem rep_unopt {c : Ctx} {g : Bool} {x : AV} {v : Value} (h : Rep c x v) (ho : gobl g x) (hg : g = true) : Rep c (unopt x) v := by
  cases x with
  | opt g' y =>
    cases h with
    | opt _ _ _ h1 => exact h1 (ho hg)
  | _ => exact h

/-- An operation under a guard. -/
theorem YG.of_guard {N : Nat} {ops : Array Oper} {H : AHeap} {o : Oper} {α : AF} {v : AV} {j : Nat} {want : Bool} (hg : o.guard = some (j, want)) (hok : gok (slotV α (nth ops.toList j)))
    (ρ : Operand → AV) (hρ : ∀ (c : Ctx) (a : Act), gval (slotV α (nth ops.toList j)) want = true → (∀ t ∈ o.looksAt ops, Rep c (look α t) (a.tmps.getD t undef)) → ∀ x ∈ o.op.operands.toList, Rep c (ρ x) (a.eval x))
    (h : gval (slotV α (nth ops.toList j)) want = true → Does P o ρ H (fun v' H' => v' = v ∧ H' = H)) : YG P N ops H o α (fun v' H' => v' = .opt (gval (slotV α (nth ops.toList j)) want) v ∧ H' = H) := by
  intro c a next Q hs hsz hl hk
  rw [gval_wanted hg hl hok]
  cases hgv : gval (slotV α (nth ops.toList j)) want with
  | true =>
    simp only [if_true]
    rw [hgv] at hk
    refine h hgv c a next Q hs (hρ c a hgv hl) fun c' x v' H' h1 h2 h3 h4 => ?_
    obtain ⟨rfl, rfl⟩ := h4
    exact hk c' _ v' _ h1 h2 (.opt _ _ _ (fun _ => h3) (fun h => by cases h)) ⟨rfl, rfl⟩
  | false =>
    simp only [Bool.false_eq_true, if_false]
    rw [hgv] at hk
    exact hk c _ undef H hs (Ext.refl c) (.opt _ _ _ (fun h => by cases h) (fun _ => rfl)) ⟨rfl, rfl⟩

theorem YG.mono {N : Nat} {ops : Array Oper} {H : AHeap} {o : Oper} {α : AF} {R R' : AV → AHeap → Prop} (h : YG P N ops H o α R) (hr : ∀ x H', R x H' → R' x H') : YG P N ops H o α R' :=
  fun c a next Q h1 h2 h3 hk => h c a next Q h1 h2 h3 fun c' x v H' k1 k2 k3 k4 => hk c' x v H' k1 k2 k3 (hr _ _ k4)

/-- The first operation of a list yields something of which the rest holds. -/
theorem aops_cons {N : Nat} {ops : Array Oper} {o : Oper} {os : List Oper} {α : AF} {H : AHeap} {k : AF → AHeap → Prop} (h : aops P ops.toList (o :: os) α H k) :
    YG P N ops H o α (fun v H' => aops P ops.toList os (putA o.dst v α) H' k) := by
  obtain ⟨dst, op, ty, pos, after, guard⟩ := o
  have hpure : ∀ (op : Op) (hop : op.operands = op.operands) (ρ : Operand → AV), True := fun _ _ _ => trivial
  unfold aops at h
  split at h
  · rename_i x y z
    exact (YG.of_does rfl ((apick_does (o := ⟨dst, .pick x y z, ty, pos, after, none⟩) (ρ := ev α) (H := H) rfl rfl h.1))).mono fun v H' ⟨e1, e2⟩ => by subst e1; subst e2; exact h.2
  · rename_i f xs ts
    exact YG.of_does rfl (does_call rfl h)
  · rename_i f m xs ts
    exact YG.of_does rfl (does_invoke rfl h)
  · rename_i op t x y t'
    cases hn : isEql op && isNilO y with
    | true =>
      rw [hn, cond_true] at h
      exact (YG.of_does rfl (does_nil (o := ⟨dst, .binOp op t x y t', ty, pos, after, none⟩) rfl hn h)).mono fun v H' ⟨e1, e2⟩ => by subst e2; exact e1
    | false =>
      rw [hn, cond_false] at h
      exact (YG.of_does rfl (opEval_does (o := ⟨dst, .binOp op t x y t', ty, pos, after, none⟩) h.1)).mono fun v H' ⟨e1, e2⟩ => by subst e1; subst e2; exact h.2
  · rename_i op' _ _
    exact (YG.of_does rfl (opEval_does (o := ⟨dst, op, ty, pos, after, none⟩) h.1)).mono fun v H' ⟨e1, e2⟩ => by subst e1; subst e2; exact h.2
  · rename_i j want x y z
    obtain ⟨h1, h2, h3⟩ := h
    exact (YG.of_guard (o := ⟨dst, .pick x y z, ty, pos, after, some (j, want)⟩) rfl h1 (ev α) (fun c a _ hl x hx => rep_ev' fun t ht => hl t (looksAt_operand (by subst ht; exact hx)))
      (fun hg => apick_does (g := gval (slotV α (nth ops.toList j)) want) rfl hg (h2 hg))).mono fun v H' ⟨e1, e2⟩ => by subst e1; subst e2; exact h3
  · rename_i j want f xs ts
    obtain ⟨h1, h2, v, h3, h4⟩ := h
    refine (YG.of_guard (o := ⟨dst, .call ⟨.value f, xs, ts⟩, ty, pos, after, some (j, want)⟩) rfl h1 (evu α) (fun c a hg hl x hx => rep_unopt (rep_ev' fun t ht => hl t (looksAt_operand (by subst ht; exact hx))) (oblAll_mem h2 x (by simpa [Op.operands, Call.operands] using hx)) hg)
      (fun hg => does_call rfl (h3 hg))).mono fun v H' ⟨e1, e2⟩ => by subst e1; subst e2; exact h4
  · rename_i j want f m xs ts
    obtain ⟨h1, h2, v, h3, h4⟩ := h
    refine (YG.of_guard (o := ⟨dst, .call ⟨.invoke f m, xs, ts⟩, ty, pos, after, some (j, want)⟩) rfl h1 (evu α) (fun c a hg hl x hx => rep_unopt (rep_ev' fun t ht => hl t (looksAt_operand (by subst ht; exact hx))) (oblAll_mem h2 x (by simpa [Op.operands, Call.operands] using hx)) hg)
      (fun hg => does_invoke rfl (h3 hg))).mono fun v H' ⟨e1, e2⟩ => by subst e1; subst e2; exact h4
  · obtain ⟨h1, h2, h3, h4⟩ := h
    refine YG.mono (YG.of_guard (v := (opEval P op (evu α) H).v) rfl h1 (evu α) (fun c a hg hl x hx => rep_unopt (rep_ev' fun t ht => hl t (looksAt_operand (by subst ht; exact hx))) (oblAll_mem h2 x hx) hg)
      (fun hg => (opEval_does (h3 hg).1).mono fun v H' ⟨e1, e2⟩ => ⟨e1, e2.trans (h3 hg).2⟩)) fun v H' ⟨e1, e2⟩ => by subst e1; subst e2; exact h4

theorem aopsP_cons {N : Nat} {ops : Array Oper} {o : Oper} {os : List Oper} {α : AF} {H : AHeap} {k : AF → Prop} (h : aopsP P ops.toList H (o :: os) α k) :
    ∃ v, YG P N ops H o α (fun v' H' => v' = v ∧ H' = H) ∧ aopsP P ops.toList H os (putA o.dst v α) k := by
  obtain ⟨dst, op, ty, pos, after, guard⟩ := o
  unfold aopsP at h
  split at h
  · rename_i x y z
    exact ⟨_, YG.of_does rfl (apick_does (o := ⟨dst, .pick x y z, ty, pos, after, none⟩) (ρ := ev α) (H := H) rfl rfl h.1), h.2⟩
  · rename_i f xs ts
    obtain ⟨v, h1, h2⟩ := h
    exact ⟨v, YG.of_does rfl (does_call rfl (h1 rfl)), h2⟩
  · rename_i f m xs ts
    obtain ⟨v, h1, h2⟩ := h
    exact ⟨v, YG.of_does rfl (does_invoke rfl (h1 rfl)), h2⟩
  · exact ⟨_, (YG.of_does rfl (opEval_does h.1)).mono fun v H' ⟨e1, e2⟩ => ⟨e1, e2.trans h.2.1⟩, h.2.2⟩
  · rename_i j want x y z
    obtain ⟨h1, h2, h3⟩ := h
    exact ⟨_, YG.of_guard (o := ⟨dst, .pick x y z, ty, pos, after, some (j, want)⟩) rfl h1 (ev α) (fun c a _ hl x hx => rep_ev' fun t ht => hl t (looksAt_operand (by subst ht; exact hx)))
      (fun hg => apick_does (g := gval (slotV α (nth ops.toList j)) want) rfl hg (h2 hg)), h3⟩
  · rename_i j want f xs ts
    obtain ⟨h1, h2, v, h3, h4⟩ := h
    exact ⟨_, YG.of_guard (o := ⟨dst, .call ⟨.value f, xs, ts⟩, ty, pos, after, some (j, want)⟩) rfl h1 (evu α) (fun c a hg hl x hx => rep_unopt (rep_ev' fun t ht => hl t (looksAt_operand (by subst ht; exact hx))) (oblAll_mem h2 x (by simpa [Op.operands, Call.operands] using hx)) hg)
      (fun hg => does_call rfl (h3 hg)), h4⟩
  · rename_i j want f m xs ts
    obtain ⟨h1, h2, v, h3, h4⟩ := h
    exact ⟨_, YG.of_guard (o := ⟨dst, .call ⟨.invoke f m, xs, ts⟩, ty, pos, after, some (j, want)⟩) rfl h1 (evu α) (fun c a hg hl x hx => rep_unopt (rep_ev' fun t ht => hl t (looksAt_operand (by subst ht; exact hx))) (oblAll_mem h2 x (by simpa [Op.operands, Call.operands] using hx)) hg)
      (fun hg => does_invoke rfl (h3 hg)), h4⟩
  · obtain ⟨h1, h2, h3, h4⟩ := h
    exact ⟨_, YG.of_guard (v := (opEval P op (evu α) H).v) rfl h1 (evu α) (fun c a hg hl x hx => rep_unopt (rep_ev' fun t ht => hl t (looksAt_operand (by subst ht; exact hx))) (oblAll_mem h2 x hx) hg)
      (fun hg => (opEval_does (h3 hg).1).mono fun v H' ⟨e1, e2⟩ => ⟨e1, e2.trans (h3 hg).2⟩), h4⟩

/-! ### A region in the order of the text -/

def dstsOk (N : Nat) (ops : Array Oper) : Bool := ops.toList.all fun o => dstOk N o.dst

/-- The post of a region, concretely. -/
abbrev CPost (N : Nat) (c : Ctx) (Q : APost) : Exit → Act → World → Prop := fun e a' w' => ∃ c' α' H', c'.w = w' ∧ St c' H' ∧ Ext c c' ∧ ARep c' N α' a' ∧ Q e α' H'

theorem wpOps_of_aops {N : Nat} {ops : Array Oper} {Q : APost} (hd : dstsOk N ops = true) (c₀ : Ctx) : ∀ (os : List Oper) (k : Nat) (α : AF) (H : AHeap) (c : Ctx) (a : Act), (∀ i, os[i]? = ops[k + i]?) → St c H → Ext c₀ c → ARep c N α a →
    aops P ops.toList os α H (fun α' H' => Q .normal α' H') → wpOps P ops (CPost N c₀ Q) (List.range' k os.length) a c.w
  | [], k, α, H, c, a, _, hs, hx, ha, h => ⟨c, α, H, rfl, hs, hx, ha, h⟩
  | o :: os, k, α, H, c, a, hos, hs, hx, ha, h => by
    have h0 : ops[k]? = some o := by simpa using (hos 0).symm
    have hdo : dstOk N o.dst = true := List.all_eq_true.1 hd o (by rw [Array.mem_toList_iff]; exact Array.mem_of_getElem? h0)
    simp only [List.length_cons, List.range'_succ, wpOps, h0]
    have hy := aops_cons (N := N) h c a (wpOps P ops (CPost N c₀ Q) (List.range' (k + 1) os.length)) (CPost N c₀ Q) hs ha.size (fun t _ => ha.rep t) fun c' x v H' h1 h2 h3 h4 =>
      wpOps_of_aops hd c₀ os (k + 1) _ H' c' _ (fun i => by have := hos (i + 1); simpa [Nat.add_assoc, Nat.add_comm 1 i] using this) h1 (hx.trans h2) ((ha.mono h2).put hdo h3) h4
    by_cases hw : Region.wanted o (yielded ops a.tmps) = true
    · rw [if_pos hw] at hy ⊢
      exact .inl hy
    · rw [if_neg hw] at hy ⊢
      exact hy

theorem aw_region {N id : Nat} {ops : Array Oper} {Q : APost} {α : AF} {H : AHeap} (hd : dstsOk N ops = true) (h : aops P ops.toList ops.toList α H (fun α' H' => Q .normal α' H')) : aw P N (.region id ops false) Q α H := by
  intro c a hs ha
  refine wp_region ?_
  have := wpOps_of_aops (P := P) hd c ops.toList 0 α H c a (by simp) hs (Ext.refl c) ha h
  rw [List.range_eq_range']
  rw [Array.length_toList] at this
  exact this

/-! ### A region in whatever order, that changes nothing -/

section draw
variable {N : Nat} {ops : Array Oper} {H : AHeap}

def qA (P : Program) (N : Nat) (ops : Array Oper) (H : AHeap) (i : Nat) (K : AF → Prop) (α : AF) : Prop :=
  match ops[i]? with
  | none => K α
  | some o => ∃ v, YG P N ops H o α (fun v' H' => v' = v ∧ H' = H) ∧ K (putA o.dst v α)

def anyA (P : Program) (N : Nat) (ops : Array Oper) (H : AHeap) (K : AF → Prop) : Nat → Array Bool → AF → Prop
  | 0, listed, α => Region.ready .any ops listed = [] ∧ K α
  | fuel + 1, listed, α => (Region.ready .any ops listed = [] → K α) ∧ ∀ i ∈ Region.ready .any ops listed, qA P N ops H i (anyA P N ops H K fuel (listed.setIfInBounds i true)) α

/-- Frames that look alike. -/
def Alike (α β : AF) : Prop := ∀ t, look α t = look β t

theorem Alike.put {α β : AF} (h : Alike α β) (d : Option Tmp) (v : AV) : Alike (putA d v α) (putA d v β) := by
  cases d with
  | none => exact h
  | some d => intro t; simp only [putA, look]; cases d == t <;> simp [h t]

theorem YG.alike {o : Oper} {α β : AF} {R : AV → AHeap → Prop} (hab : Alike α β) (h : YG P N ops H o α R) : YG P N ops H o β R :=
  fun c a next Q h1 h2 h3 hk => h c a next Q h1 h2 (fun t ht => by rw [hab t]; exact h3 t ht) hk

theorem anyA_alike {K : AF → Prop} (hK : ∀ α β, Alike α β → K α → K β) : ∀ (n : Nat) (listed : Array Bool) (α β : AF), Alike α β → anyA P N ops H K n listed α → anyA P N ops H K n listed β
  | 0, _, _, _, hab, h => ⟨h.1, hK _ _ hab h.2⟩
  | n + 1, listed, α, β, hab, h => by
    refine ⟨fun h0 => hK _ _ hab (h.1 h0), fun i hi => ?_⟩
    have := h.2 i hi
    unfold qA at this ⊢
    split
    · rename_i ho; simp only [ho] at this; exact anyA_alike hK n _ _ _ hab this
    · rename_i o ho
      simp only [ho] at this
      obtain ⟨v, h1, h2⟩ := this
      exact ⟨v, h1.alike hab, anyA_alike hK n _ _ _ (hab.put _ _) h2⟩

theorem wpAny_of_anyA {Q : Exit → Act → World → Prop} {K : AF → Prop} (hd : dstsOk N ops = true) (c₀ : Ctx) (hK : ∀ α c a, K α → St c H → Ext c₀ c → ARep c N α a → Q .normal a c.w) :
    ∀ (n : Nat) (listed : Array Bool) (α : AF) (c : Ctx) (a : Act), St c H → Ext c₀ c → ARep c N α a → anyA P N ops H K n listed α → wpAny P .any ops Q n listed a c.w
  | 0, _, _, _, _, hs, hx, ha, h => ⟨h.1, hK _ _ _ h.2 hs hx ha⟩
  | n + 1, listed, α, c, a, hs, hx, ha, h => by
    refine ⟨fun h0 => hK _ _ _ (h.1 h0) hs hx ha, fun i hi => ?_⟩
    have h1 := h.2 i hi
    unfold qA at h1
    unfold wpOp
    split
    · rename_i ho; simp only [ho] at h1; exact wpAny_of_anyA hd c₀ hK n _ _ _ _ hs hx ha h1
    · rename_i o ho
      simp only [ho] at h1
      obtain ⟨v, hy, hk⟩ := h1
      have hdo : dstOk N o.dst = true := List.all_eq_true.1 hd o (by rw [Array.mem_toList_iff]; exact Array.mem_of_getElem? ho)
      have := hy c a (wpAny P .any ops Q n (listed.setIfInBounds i true)) Q hs ha.size (fun t _ => ha.rep t) fun c' x v' H' g1 g2 g3 g4 => by
        obtain ⟨e1, e2⟩ := g4
        rw [e2] at g1
        rw [e1] at g3
        exact wpAny_of_anyA hd c₀ hK n _ _ _ _ g1 (hx.trans g2) ((ha.mono g2).put hdo g3) hk
      by_cases hw : Region.wanted o (yielded ops a.tmps) = true
      · rw [if_pos hw] at this ⊢; exact .inl this
      · rw [if_neg hw] at this ⊢; exact this

theorem look_put_ne {α : AF} {d : Option Tmp} {v : AV} {t : Nat} (h : ∀ x, d = some x → x ≠ t) : look (putA d v α) t = look α t := by
  cases d with
  | none => rfl
  | some d => have hb : (d == t) = false := by simpa using h d rfl
              simp [putA, look, hb]

/-- What another operation writes does not matter to one that does not look there. -/
theorem YG.put_apart {oi oj : Oper} {α : AF} {v u : AV} (h : YG P N ops H oi α (fun v' H' => v' = v ∧ H' = H)) (hap : ∀ d, oj.dst = some d → d ∉ oi.looksAt ops) : YG P N ops H oi (putA oj.dst u α) (fun v' H' => v' = v ∧ H' = H) :=
  fun c a next Q h1 h2 h3 hk => h c a next Q h1 h2 (fun t ht => by
    have := h3 t ht
    rwa [look_put_ne fun x hx e => hap x hx (e ▸ ht)] at this) hk

theorem YG.unput_apart {oi oj : Oper} {α : AF} {v u : AV} (h : YG P N ops H oi (putA oj.dst u α) (fun v' H' => v' = v ∧ H' = H)) (hap : ∀ d, oj.dst = some d → d ∉ oi.looksAt ops) : YG P N ops H oi α (fun v' H' => v' = v ∧ H' = H) :=
  fun c a next Q h1 h2 h3 hk => h c a next Q h1 h2 (fun t ht => by
    rw [look_put_ne fun x hx e => hap x hx (e ▸ ht)]
    exact h3 t ht) hk

theorem put_comm_alike {α : AF} {x y : Option Tmp} {v u : AV} (h : ∀ d, x = some d → y ≠ some d) : Alike (putA y u (putA x v α)) (putA x v (putA y u α)) := by
  intro t
  cases x with
  | none => rfl
  | some d => cases y with
    | none => rfl
    | some e =>
      have hne : d ≠ e := fun h' => h d rfl (by rw [h'])
      simp only [putA, look]
      by_cases h1 : d = t
      · subst h1
        have hb : (e == d) = false := by simpa using Ne.symm hne
        simp [hb]
      · have hb : (d == t) = false := by simpa using h1
        simp only [hb, cond_false]

theorem anyA_first {K : AF → Prop} (hK : ∀ α β, Alike α β → K α → K β) {i : Nat} {oi : Oper} {v : AV} (hi : ops[i]? = some oi) :
    ∀ (fuel : Nat) (listed : Array Bool) (α : AF),
      (∀ j oj, ops[j]? = some oj → j ≠ i → listed.getD j true = false → (∀ e ∈ oj.after, Region.binds .any e = true → e.on ≠ i) → oi.apart ops oj = true) →
      i ∈ Region.ready .any ops listed → YG P N ops H oi α (fun v' H' => v' = v ∧ H' = H) →
      anyA P N ops H K fuel (listed.setIfInBounds i true) (putA oi.dst v α) → anyA P N ops H K (fuel + 1) listed α := by
  have qi : ∀ (K : AF → Prop) (α : AF), YG P N ops H oi α (fun v' H' => v' = v ∧ H' = H) → K (putA oi.dst v α) → qA P N ops H i K α := by
    intro K α hy hk
    unfold qA
    simp only [hi]
    exact ⟨v, hy, hk⟩
  intro fuel
  induction fuel with
  | zero =>
    intro listed α _ hr hy hh
    refine ⟨fun h => (by rw [h] at hr; cases hr), fun j hj => ?_⟩
    by_cases hji : j = i
    · subst hji; exact qi _ _ hy hh
    · have := ready_mono hj hji
      rw [hh.1] at this
      cases this
  | succ fuel ih =>
    intro listed α hfree hr hy hh
    refine ⟨fun h => (by rw [h] at hr; cases hr), fun j hj => ?_⟩
    by_cases hji : j = i
    · subst hji; exact qi _ _ hy hh
    · have h1 := hh.2 j (ready_mono hj hji)
      obtain ⟨hjun, oj, hoj, hall⟩ := mem_ready.1 hj
      have hnot : ∀ e ∈ oj.after, Region.binds .any e = true → e.on ≠ i := fun e he hb heq => by
        have h1 := hall e he hb
        have h0 := (mem_ready.1 hr).1
        rw [heq] at h1
        rcases Nat.lt_or_ge i listed.size with h' | h'
        · simp [h'] at h0 h1; rw [h0] at h1; cases h1
        · simp [Array.getElem?_eq_none h'] at h1
      obtain ⟨p1, p2, p3⟩ := Oper.apart_spec (hfree j oj hoj hji hjun hnot)
      unfold qA at h1 ⊢
      simp only [hoj] at h1 ⊢
      obtain ⟨u, hyj, hkj⟩ := h1
      refine ⟨u, hyj.unput_apart p1, ?_⟩
      have hfree' : ∀ k ok, ops[k]? = some ok → k ≠ i → (listed.setIfInBounds j true).getD k true = false →
          (∀ e ∈ ok.after, Region.binds .any e = true → e.on ≠ i) → oi.apart ops ok = true := fun k ok hk hki hun hno => by
        refine hfree k ok hk hki ?_ hno
        by_cases hjk : j = k
        · subst hjk; exact hjun
        · rw [getD_set_ne true hjk] at hun; exact hun
      refine ih (listed.setIfInBounds j true) _ hfree' (ready_mono hr (Ne.symm hji)) (hy.put_apart p3) ?_
      rw [Array.setIfInBounds_comm _ _ hji]
      exact anyA_alike hK _ _ _ _ (put_comm_alike p2) hkj

theorem anyA_lex {K : AF → Prop} (hK : ∀ α β, Alike α β → K α → K β) : ∀ (l : List Oper) (k : Nat) (listed : Array Bool) (α : AF), (∀ j, l[j]? = ops[k + j]?) →
    Region.lexFrom .any ops l.length k listed = true → aopsP P ops.toList H l α K → anyA P N ops H K l.length listed α
  | [], _, _, _, _, hB, h => ⟨by simpa [Region.lexFrom] using hB, h⟩
  | o :: l, k, listed, α, hl, hB, h => by
    have h0 : ops[k]? = some o := by simpa using (hl 0).symm
    simp only [List.length_cons, Region.lexFrom, Bool.and_eq_true] at hB
    obtain ⟨⟨hr, hf⟩, hB'⟩ := hB
    obtain ⟨v, hy, hk⟩ := aopsP_cons (N := N) h
    exact anyA_first hK h0 l.length listed α (Region.free_spec h0 hf) (by simpa using hr) hy
      (anyA_lex hK l (k + 1) _ _ (fun j => by have := hl (j + 1); simpa [Nat.add_assoc, Nat.add_comm 1 j] using this) hB' hk)

end draw

theorem aopsP_mono {all : List Oper} {H : AHeap} {k k' : AF → Prop} (hk : ∀ α, k α → k' α) : ∀ (l : List Oper) (α : AF), aopsP P all H l α k → aopsP P all H l α k'
  | [], α, h => hk α h
  | ⟨dst, op, ty, pos, after, guard⟩ :: os, α, h => by
    unfold aopsP at h ⊢
    split at h
    · exact ⟨h.1, aopsP_mono hk os _ h.2⟩
    · obtain ⟨v, h1, h2⟩ := h
      exact ⟨v, h1, aopsP_mono hk os _ h2⟩
    · obtain ⟨v, h1, h2⟩ := h
      exact ⟨v, h1, aopsP_mono hk os _ h2⟩
    · exact ⟨h.1, h.2.1, aopsP_mono hk os _ h.2.2⟩
    · exact ⟨h.1, h.2.1, aopsP_mono hk os _ h.2.2⟩
    · obtain ⟨h1, h2, v, h3, h4⟩ := h
      exact ⟨h1, h2, v, h3, aopsP_mono hk os _ h4⟩
    · obtain ⟨h1, h2, v, h3, h4⟩ := h
      exact ⟨h1, h2, v, h3, aopsP_mono hk os _ h4⟩
    · exact ⟨h.1, h.2.1, h.2.2.1, aopsP_mono hk os _ h.2.2.2⟩

theorem aw_region_draw {N id : Nat} {ops : Array Oper} {Q : APost} {α : AF} {H : AHeap} (hm : P.follows .mixedOrders = true) (hd : dstsOk N ops = true) (hB : Region.lexB .any ops = true)
    (h : aopsP P ops.toList H ops.toList α (fun α' => Q .normal α' H)) : aw P N (.region id ops true) Q α H := by
  intro c a hs ha
  simp only [Region.lexB, Bool.and_eq_true] at hB
  refine wp_region_any hm ?_
  have h1 : aopsP P ops.toList H ops.toList α (fun α' => ∃ β, Alike α' β ∧ Q .normal β H) := aopsP_mono (fun α' hq => ⟨α', fun _ => rfl, hq⟩) _ _ h
  have h2 := anyA_lex (P := P) (N := N) (ops := ops) (H := H) (K := fun α' => ∃ β, Alike α' β ∧ Q .normal β H) (fun α β hab ⟨γ, hg, hq⟩ => ⟨γ, fun t => (hab t).symm.trans (hg t), hq⟩)
    ops.toList 0 (Array.replicate ops.size false) α (by simp) (by simpa using hB.2) h1
  have h3 := wpAny_of_anyA (P := P) (Q := CPost N c Q) hd c (fun α' c' a' ⟨β, hab, hq⟩ hs' hx' ha' => ⟨c', β, H, rfl, hs', hx', ha'.weaken fun t => .inr (hab t).symm, hq⟩)
    ops.toList.length (Array.replicate ops.size false) α c.draw a hs.draw (Ext.draw c) (ha.mono (Ext.draw c)) h2
  rw [Array.length_toList] at h3
  exact h3

end Go.Aw
