/- The abstract machine: a region in whatever order, in which what changes the heap comes one behind the other. No condition. -/
import Derived.Test.YtoffonjlfomnbaaAvReg
namespace Go.Aw
open Go
set_option linter.unusedSimpArgs false
variable {P : Program}

/-! ### What must have been done before -/
section before
variable (ops : Array Oper)

def Closed (listed : Array Bool) : Prop := ∀ q o, listed.getD q false = true → ops[q]? = some o → ∀ e ∈ o.after, Region.binds .any e = true → listed.getD e.on false = true
/-- Whoever is done, this was, too. -/
def Lst (i q : Nat) : Prop := ∀ listed, Closed ops listed → listed.getD q false = true → listed.getD i false = true
def Bef (i j : Nat) : Prop := ∀ listed, Closed ops listed → j ∈ Region.ready .any ops listed → listed.getD i false = true
def dirB (i j : Nat) : Bool :=
  match ops[j]? with
  | some o => o.after.any fun e => Region.binds .any e && e.on == i
  | none => false
variable {ops}

theorem dirB_spec {i j : Nat} (h : dirB ops i j = true) : ∃ o e, ops[j]? = some o ∧ e ∈ o.after ∧ Region.binds .any e = true ∧ e.on = i := by
  unfold dirB at h
  split at h
  · rename_i o ho
    obtain ⟨e, he, h1⟩ := Array.any_eq_true'.1 h
    rw [Bool.and_eq_true, beq_iff_eq] at h1
    exact ⟨o, e, ho, he, h1.1, h1.2⟩
  · cases h

theorem Lst.refl (i : Nat) : Lst ops i i := fun _ _ h => h
theorem Lst.trans {i j k : Nat} (h : Lst ops i j) (h' : Lst ops j k) : Lst ops i k := fun l hc hk => h l hc (h' l hc hk)
theorem Lst.dir {i j : Nat} (h : dirB ops i j = true) : Lst ops i j := fun l hc hj => by
  obtain ⟨o, e, ho, he, hb, rfl⟩ := dirB_spec h
  exact hc j o hj ho e he hb
theorem Bef.dir {i q j : Nat} (h : dirB ops q j = true) (hl : Lst ops i q) : Bef ops i j := fun l hc hj => by
  obtain ⟨o, e, ho, he, hb, rfl⟩ := dirB_spec h
  obtain ⟨_, o', ho', hall⟩ := mem_ready.1 hj
  rw [ho] at ho'
  cases ho'
  exact hl l hc (hall e he hb)

theorem Closed.set {listed : Array Bool} {j : Nat} (hc : Closed ops listed) (hj : j ∈ Region.ready .any ops listed) : Closed ops (listed.setIfInBounds j true) := by
  intro q o hq ho e he hb
  by_cases hqj : j = q
  · subst hqj
    obtain ⟨_, o', ho', hall⟩ := mem_ready.1 hj
    rw [ho] at ho'
    cases ho'
    exact getD_set_true (hall e he hb)
  · rw [getD_set_ne false hqj] at hq
    exact getD_set_true (hc q o hq ho e he hb)

theorem not_bef {i j : Nat} {listed : Array Bool} (hc : Closed ops listed) (hi : i ∈ Region.ready .any ops listed) (hj : j ∈ Region.ready .any ops listed) : ¬ Bef ops i j := fun h => by
  have h1 := h listed hc hj
  obtain ⟨h0, _, hi', _⟩ := mem_ready.1 hi
  rcases Nat.lt_or_ge i listed.size with h' | h'
  · simp [h'] at h0 h1; rw [h0] at h1; cases h1
  · simp [Array.getElem?_eq_none h'] at h1
end before

/-! ### The tree of all orders -/
section tree
variable (P) (N : Nat) (ops : Array Oper) (eff : Nat → Bool)

abbrev Hist := List (Nat × AHeap)
abbrev Past := List (Nat × (AHeap → Prop))

def yv (o : Oper) (α : AF) (v : AV) (h h' : AHeap) : Prop := YG P N ops h o α (fun v' H' => v' = v ∧ H' = h')

def qM (i : Nat) (K : AF → AHeap → Hist → Past → Prop) (α : AF) (H : AHeap) (hist : Hist) (past : Past) : Prop :=
  match ops[i]? with
  | none => K α H hist past
  | some o =>
    if eff i = true then ∃ v H1, yv P N ops o α v H H1 ∧ (∀ p ∈ past, ¬ Bef ops p.1 i → p.2 H1) ∧ K (putA o.dst v α) H1 ((i, H) :: hist) past
    else ∃ v, yv P N ops o α v H H ∧ (∀ e ∈ hist, ¬ Bef ops e.1 i → yv P N ops o α v e.2 e.2) ∧ K (putA o.dst v α) H hist ((i, fun h => yv P N ops o α v h h) :: past)

def anyM (K : AF → AHeap → Prop) : Nat → Array Bool → AF → AHeap → Hist → Past → Prop
  | 0, listed, α, H, _, _ => Region.ready .any ops listed = [] ∧ K α H
  | fuel + 1, listed, α, H, hist, past => (Region.ready .any ops listed = [] → K α H) ∧ ∀ i ∈ Region.ready .any ops listed, qM P N ops eff i (anyM K fuel (listed.setIfInBounds i true)) α H hist past
variable {P} {N} {ops} {eff}

theorem yv.alike {o : Oper} {α β : AF} {v : AV} {h h' : AHeap} (hab : Alike α β) (k : yv P N ops o α v h h') : yv P N ops o β v h h' := YG.alike hab k
theorem yv.put {oi oj : Oper} {α : AF} {v u : AV} {h h' : AHeap} (k : yv P N ops oi α v h h') (hap : ∀ d, oj.dst = some d → d ∉ oi.looksAt ops) : yv P N ops oi (putA oj.dst u α) v h h' :=
  fun c a next Q h1 h2 h3 hk => k c a next Q h1 h2 (fun t ht => by
    have := h3 t ht
    rwa [look_put_ne fun x hx e => hap x hx (e ▸ ht)] at this) hk
theorem yv.unput {oi oj : Oper} {α : AF} {v u : AV} {h h' : AHeap} (k : yv P N ops oi (putA oj.dst u α) v h h') (hap : ∀ d, oj.dst = some d → d ∉ oi.looksAt ops) : yv P N ops oi α v h h' :=
  fun c a next Q h1 h2 h3 hk => k c a next Q h1 h2 (fun t ht => by
    rw [look_put_ne fun x hx e => hap x hx (e ▸ ht)]
    exact h3 t ht) hk

def PastLe (p q : Past) : Prop := ∀ x ∈ q, ∃ y ∈ p, y.1 = x.1 ∧ ∀ h, y.2 h → x.2 h

theorem PastLe.refl (p : Past) : PastLe p p := fun x hx => ⟨x, hx, rfl, fun _ h => h⟩
theorem PastLe.cons {p q : Past} {i : Nat} {φ ψ : AHeap → Prop} (h : ∀ x, φ x → ψ x) (hpq : PastLe p q) : PastLe ((i, φ) :: p) ((i, ψ) :: q) := by
  intro x hx
  cases hx with
  | head => exact ⟨_, .head _, rfl, h⟩
  | tail _ hx => obtain ⟨y, hy, h1, h2⟩ := hpq x hx; exact ⟨y, .tail _ hy, h1, h2⟩
theorem PastLe.swap {p : Past} {i j : Nat} {φ φ' ψ ψ' : AHeap → Prop} (h : ∀ x, φ x → φ' x) (k : ∀ x, ψ x → ψ' x) : PastLe ((j, ψ) :: (i, φ) :: p) ((i, φ') :: (j, ψ') :: p) := by
  intro x hx
  cases hx with
  | head => exact ⟨_, .tail _ (.head _), rfl, h⟩
  | tail _ hx =>
    cases hx with
    | head => exact ⟨_, .head _, rfl, k⟩
    | tail _ hx => exact ⟨x, .tail _ (.tail _ hx), rfl, fun _ h => h⟩

theorem anyM_mono {K : AF → AHeap → Prop} (hK : ∀ α β H, Alike α β → K α H → K β H) : ∀ (n : Nat) (listed : Array Bool) (α β : AF) (H : AHeap) (hist : Hist) (past past' : Past), Alike α β → PastLe past past' →
    anyM P N ops eff K n listed α H hist past → anyM P N ops eff K n listed β H hist past'
  | 0, _, _, _, _, _, _, _, hab, _, h => ⟨h.1, hK _ _ _ hab h.2⟩
  | n + 1, listed, α, β, H, hist, past, past', hab, hp, h => by
    refine ⟨fun h0 => hK _ _ _ hab (h.1 h0), fun i hi => ?_⟩
    have := h.2 i hi
    unfold qM at this ⊢
    split
    · rename_i ho; simp only [ho] at this; exact anyM_mono hK n _ _ _ _ _ _ _ hab hp this
    · rename_i o ho
      simp only [ho] at this
      split
      · rename_i he
        rw [if_pos he] at this
        obtain ⟨v, H1, h1, h2, h3⟩ := this
        refine ⟨v, H1, h1.alike hab, fun p hpp hb => ?_, anyM_mono hK n _ _ _ _ _ _ _ (hab.put _ _) hp h3⟩
        obtain ⟨y, hy, e1, e2⟩ := hp p hpp
        exact e2 _ (h2 y hy (by rw [e1]; exact hb))
      · rename_i he
        rw [if_neg he] at this
        obtain ⟨v, h1, h2, h3⟩ := this
        exact ⟨v, h1.alike hab, fun e hee hb => (h2 e hee hb).alike hab, anyM_mono hK n _ _ _ _ _ _ _ (hab.put _ _) (.cons (fun _ h => h.alike hab) hp) h3⟩

/-- What is known of the operation that the text names first. -/
def Head (P : Program) (N : Nat) (ops : Array Oper) (eff : Nat → Bool) (i : Nat) (oi : Oper) (v : AV) (H1 : AHeap) (α : AF) (H : AHeap) (hist : Hist) (past : Past) : Prop :=
  yv P N ops oi α v H H1 ∧ (eff i = true → ∀ p ∈ past, ¬ Bef ops p.1 i → p.2 H1) ∧ (eff i = false → H1 = H ∧ ∀ e ∈ hist, ¬ Bef ops e.1 i → yv P N ops oi α v e.2 e.2)

theorem Head.qM {K : AF → AHeap → Hist → Past → Prop} {i : Nat} {oi : Oper} {v : AV} {H1 : AHeap} {α : AF} {H : AHeap} {hist : Hist} {past : Past} (hi : ops[i]? = some oi) (h : Head P N ops eff i oi v H1 α H hist past)
    (hk : K (putA oi.dst v α) H1 (if eff i = true then (i, H) :: hist else hist) (if eff i = true then past else (i, fun h => yv P N ops oi α v h h) :: past)) : qM P N ops eff i K α H hist past := by
  unfold Go.Aw.qM
  simp only [hi]
  cases he : eff i with
  | true =>
    rw [he] at hk
    rw [if_pos rfl]
    exact ⟨v, H1, h.1, h.2.1 he, hk⟩
  | false =>
    rw [he] at hk
    obtain ⟨e1, e2⟩ := h.2.2 he
    subst e1
    rw [if_neg (by simp)]
    exact ⟨v, h.1, e2, hk⟩

theorem anyM_first {K : AF → AHeap → Prop} (hK : ∀ α β H, Alike α β → K α H → K β H) {i : Nat} {oi : Oper} {v : AV} (hi : ops[i]? = some oi) (hEE : eff i = true → ∀ j, eff j = true → j ≠ i → ∀ listed, Closed ops listed → i ∈ Region.ready .any ops listed → j ∈ Region.ready .any ops listed → False) :
    ∀ (fuel : Nat) (listed : Array Bool) (α : AF) (H H1 : AHeap) (hist : Hist) (past : Past), Closed ops listed →
      (∀ j oj, ops[j]? = some oj → j ≠ i → listed.getD j true = false → (∀ e ∈ oj.after, Region.binds .any e = true → e.on ≠ i) → oi.apart ops oj = true) →
      i ∈ Region.ready .any ops listed → Head P N ops eff i oi v H1 α H hist past →
      anyM P N ops eff K fuel (listed.setIfInBounds i true) (putA oi.dst v α) H1 (if eff i = true then (i, H) :: hist else hist) (if eff i = true then past else (i, fun h => yv P N ops oi α v h h) :: past) →
      anyM P N ops eff K (fuel + 1) listed α H hist past := by
  intro fuel
  induction fuel with
  | zero =>
    intro listed α H H1 hist past _ _ hr hy hh
    refine ⟨fun h => (by rw [h] at hr; cases hr), fun j hj => ?_⟩
    by_cases hji : j = i
    · subst hji; exact hy.qM hi hh
    · have := ready_mono hj hji
      rw [hh.1] at this
      cases this
  | succ fuel ih =>
    intro listed α H H1 hist past hcl hfree hr hy hh
    refine ⟨fun h => (by rw [h] at hr; cases hr), fun j hj => ?_⟩
    by_cases hji : j = i
    · subst hji; exact hy.qM hi hh
    · have h1 := hh.2 j (ready_mono hj hji)
      obtain ⟨hjun, oj, hoj, hall⟩ := mem_ready.1 hj
      have hnb : ¬ Bef ops i j := not_bef hcl hr hj
      have hnot : ∀ e ∈ oj.after, Region.binds .any e = true → e.on ≠ i := fun e he hb heq => by
        have h1 := hall e he hb
        have h0 := (mem_ready.1 hr).1
        rw [heq] at h1
        rcases Nat.lt_or_ge i listed.size with h' | h'
        · simp [h'] at h0 h1; rw [h0] at h1; cases h1
        · simp [Array.getElem?_eq_none h'] at h1
      obtain ⟨p1, p2, p3⟩ := Oper.apart_spec (hfree j oj hoj hji hjun hnot)
      have hcl' := hcl.set hj
      have hfree' : ∀ k ok, ops[k]? = some ok → k ≠ i → (listed.setIfInBounds j true).getD k true = false →
          (∀ e ∈ ok.after, Region.binds .any e = true → e.on ≠ i) → oi.apart ops ok = true := fun k ok hk hki hun hno => by
        refine hfree k ok hk hki ?_ hno
        by_cases hjk : j = k
        · subst hjk; exact hjun
        · rw [getD_set_ne true hjk] at hun; exact hun
      have hr' := ready_mono hr (Ne.symm hji)
      have hcomm := Array.setIfInBounds_comm (xs := listed) true true (Ne.symm hji)
      unfold Go.Aw.qM at h1 ⊢
      simp only [hoj] at h1 ⊢
      cases hej : eff j with
      | true =>
        rw [hej, if_pos rfl] at h1
        rw [if_pos rfl]
        obtain ⟨u, H2, hyj, hpj, hkj⟩ := h1
        cases hei : eff i with
        | true => exact (hEE hei j hej hji listed hcl hr hj).elim
        | false =>
          obtain ⟨e1, e2⟩ := hy.2.2 hei
          subst e1
          simp only [hei, Bool.false_eq_true, if_false] at hpj hkj
          have hyi2 := hpj (i, fun h => yv P N ops oi α v h h) (.head _) hnb
          refine ⟨u, H2, hyj.unput p1, fun p hp hb => hpj p (.tail _ hp) hb, ?_⟩
          refine ih (listed.setIfInBounds j true) (putA oj.dst u α) H2 H2 ((j, H1) :: hist) past hcl' hfree' hr' ⟨yv.put hyi2 p3, fun h => (by rw [hei] at h; cases h), fun _ => ⟨rfl, fun e he hb => ?_⟩⟩ ?_
          · cases he with
            | head => exact hy.1.put p3
            | tail _ he => exact (e2 e he hb).put p3
          · simp only [hei, Bool.false_eq_true, if_false]
            rw [Array.setIfInBounds_comm _ _ hji]
            exact anyM_mono hK _ _ _ _ _ _ _ _ (put_comm_alike p2) (.cons (fun _ h => h.put p3) (.refl _)) hkj
      | false =>
        rw [hej, if_neg (by simp)] at h1
        rw [if_neg (by simp)]
        obtain ⟨u, hyj, hhj, hkj⟩ := h1
        cases hei : eff i with
        | true =>
          simp only [hei, if_true] at hhj hkj
          have hyj0 : yv P N ops oj α u H H := (hhj (i, H) (.head _) hnb).unput p1
          refine ⟨u, hyj0, fun e he hb => (hhj e (.tail _ he) hb).unput p1, ?_⟩
          refine ih (listed.setIfInBounds j true) (putA oj.dst u α) H H1 hist _ hcl' hfree' hr' ⟨hy.1.put p3, fun _ p hp hb => ?_, fun h => (by rw [hei] at h; cases h)⟩ ?_
          · cases hp with
            | head => exact hyj.unput p1
            | tail _ hp => exact hy.2.1 hei p hp hb
          · simp only [hei, if_true]
            rw [Array.setIfInBounds_comm _ _ hji]
            exact anyM_mono hK _ _ _ _ _ _ _ _ (put_comm_alike p2) (.cons (fun _ h => h.unput p1) (.refl _)) hkj
        | false =>
          obtain ⟨e1, e2⟩ := hy.2.2 hei
          subst e1
          simp only [hei, Bool.false_eq_true, if_false] at hhj hkj
          refine ⟨u, hyj.unput p1, fun e he hb => (hhj e he hb).unput p1, ?_⟩
          refine ih (listed.setIfInBounds j true) (putA oj.dst u α) H1 H1 hist _ hcl' hfree' hr' ⟨hy.1.put p3, fun h => (by rw [hei] at h; cases h), fun _ => ⟨rfl, fun e he hb => (e2 e he hb).put p3⟩⟩ ?_
          simp only [hei, Bool.false_eq_true, if_false]
          rw [Array.setIfInBounds_comm _ _ hji]
          exact anyM_mono hK _ _ _ _ _ _ _ _ (put_comm_alike p2) (.swap (fun _ h => h.put p3) (fun _ h => h.unput p1)) hkj

/-- The operations in the order of the text, each with what is known of it. -/
def aM (P : Program) (N : Nat) (ops : Array Oper) (eff : Nat → Bool) (K : AF → AHeap → Prop) : List Oper → Nat → AF → AHeap → Hist → Past → Prop
  | [], _, α, H, _, _ => K α H
  | o :: os, k, α, H, hist, past => ∃ v H1, Head P N ops eff k o v H1 α H hist past ∧
      aM P N ops eff K os (k + 1) (putA o.dst v α) H1 (if eff k = true then (k, H) :: hist else hist) (if eff k = true then past else (k, fun h => yv P N ops o α v h h) :: past)

theorem anyM_lex {K : AF → AHeap → Prop} (hK : ∀ α β H, Alike α β → K α H → K β H) (hEE : ∀ i j, eff i = true → eff j = true → j ≠ i → ∀ listed, Closed ops listed → i ∈ Region.ready .any ops listed → j ∈ Region.ready .any ops listed → False) :
    ∀ (l : List Oper) (k : Nat) (listed : Array Bool) (α : AF) (H : AHeap) (hist : Hist) (past : Past), (∀ j, l[j]? = ops[k + j]?) → Closed ops listed →
    Region.lexFrom .any ops l.length k listed = true → aM P N ops eff K l k α H hist past → anyM P N ops eff K l.length listed α H hist past
  | [], _, _, _, _, _, _, _, _, hB, h => ⟨by simpa [Region.lexFrom] using hB, h⟩
  | o :: l, k, listed, α, H, hist, past, hl, hc, hB, h => by
    have h0 : ops[k]? = some o := by simpa using (hl 0).symm
    simp only [List.length_cons, Region.lexFrom, Bool.and_eq_true] at hB
    obtain ⟨⟨hr, hf⟩, hB'⟩ := hB
    obtain ⟨v, H1, hy, hk⟩ := h
    have hr' : k ∈ Region.ready .any ops listed := by simpa using hr
    exact anyM_first hK h0 (fun he j hj hne => hEE k j he hj hne) l.length listed α H H1 hist past hc (Region.free_spec h0 hf) hr' hy
      (anyM_lex hK hEE l (k + 1) _ _ _ _ _ (fun j => by have := hl (j + 1); simpa [Nat.add_assoc, Nat.add_comm 1 j] using this) (hc.set hr') hB' hk)

theorem wpAny_of_anyM {Q : Exit → Act → World → Prop} {K : AF → AHeap → Prop} (hd : dstsOk N ops = true) (c₀ : Ctx) (hK : ∀ α H c a, K α H → St c H → Ext c₀ c → ARep c N α a → Q .normal a c.w) :
    ∀ (n : Nat) (listed : Array Bool) (α : AF) (H : AHeap) (hist : Hist) (past : Past) (c : Ctx) (a : Act), St c H → Ext c₀ c → ARep c N α a → anyM P N ops eff K n listed α H hist past → wpAny P .any ops Q n listed a c.w
  | 0, _, _, _, _, _, _, _, hs, hx, ha, h => ⟨h.1, hK _ _ _ _ h.2 hs hx ha⟩
  | n + 1, listed, α, H, hist, past, c, a, hs, hx, ha, h => by
    refine ⟨fun h0 => hK _ _ _ _ (h.1 h0) hs hx ha, fun i hi => ?_⟩
    have h1 := h.2 i hi
    unfold qM at h1
    unfold wpOp
    split
    · rename_i ho; simp only [ho] at h1; exact wpAny_of_anyM hd c₀ hK n _ _ _ _ _ _ _ hs hx ha h1
    · rename_i o ho
      simp only [ho] at h1
      have hdo : dstOk N o.dst = true := List.all_eq_true.1 hd o (by rw [Array.mem_toList_iff]; exact Array.mem_of_getElem? ho)
      have go : ∀ v H1 hist' past', yv P N ops o α v H H1 → anyM P N ops eff K n (listed.setIfInBounds i true) (putA o.dst v α) H1 hist' past' →
          if Region.wanted o (yielded ops a.tmps) then o.wp P a c.w (wpAny P .any ops Q n (listed.setIfInBounds i true)) Q ∨ (o.asks P a c.w ∧ LetsOut Q) else wpAny P .any ops Q n (listed.setIfInBounds i true) (a.put o.dst undef) c.w := by
        intro v H1 hist' past' hy hk
        have := hy c a (wpAny P .any ops Q n (listed.setIfInBounds i true)) Q hs ha.size (fun t _ => ha.rep t) fun c' x v' H' g1 g2 g3 g4 => by
          obtain ⟨e1, e2⟩ := g4
          rw [e2] at g1
          rw [e1] at g3
          exact wpAny_of_anyM hd c₀ hK n _ _ _ _ _ _ _ g1 (hx.trans g2) ((ha.mono g2).put hdo g3) hk
        by_cases hw : Region.wanted o (yielded ops a.tmps) = true
        · rw [if_pos hw] at this ⊢; exact .inl this
        · rw [if_neg hw] at this ⊢; exact this
      by_cases he : eff i = true
      · rw [if_pos he] at h1
        obtain ⟨v, H1, hy, _, hk⟩ := h1
        exact go v H1 _ _ hy hk
      · rw [if_neg he] at h1
        obtain ⟨v, hy, _, hk⟩ := h1
        exact go v H _ _ hy hk
end tree

/-! ### What comes one behind the other -/
section chain
variable {ops : Array Oper}
def chainB (ops : Array Oper) : List Nat → Bool
  | a :: b :: l => dirB ops a b && chainB ops (b :: l)
  | _ => true

theorem chain_bef : ∀ {a : Nat} {l : List Nat}, chainB ops (a :: l) = true → ∀ j ∈ l, Bef ops a j ∧ Lst ops a j
  | a, [], _, j, hj => by cases hj
  | a, b :: l, h, j, hj => by
    rw [chainB, Bool.and_eq_true] at h
    cases hj with
    | head => exact ⟨.dir h.1 (.refl _), .dir h.1⟩
    | tail _ hj =>
      obtain ⟨_, h2⟩ := chain_bef h.2 j hj
      have key : ∀ {b : Nat} {l : List Nat}, chainB ops (b :: l) = true → ∀ x, Lst ops x b → ∀ j ∈ l, Bef ops x j := by
        intro b l
        induction l generalizing b with
        | nil => intro _ x _ j hj; cases hj
        | cons c l ih =>
          intro h x hx j hj
          rw [chainB, Bool.and_eq_true] at h
          cases hj with
          | head => exact .dir h.1 hx
          | tail _ hj => exact ih h.2 x (hx.trans (.dir h.1)) j hj
      exact ⟨key h.2 a (.dir h.1) j hj, (Lst.dir h.1).trans h2⟩

theorem chain_tail {a : Nat} {l : List Nat} (h : chainB ops (a :: l) = true) : chainB ops l = true := by
  cases l with
  | nil => rfl
  | cons b l => rw [chainB, Bool.and_eq_true] at h; exact h.2

theorem chain_ee : ∀ {l : List Nat}, chainB ops l = true → ∀ i j, i ∈ l → j ∈ l → j ≠ i → Bef ops i j ∨ Bef ops j i
  | [], _, i, _, hi, _, _ => by cases hi
  | a :: l, h, i, j, hi, hj, hne => by
    cases hi with
    | head =>
      cases hj with
      | head => exact absurd rfl hne
      | tail _ hj => exact .inl (chain_bef h j hj).1
    | tail _ hi =>
      cases hj with
      | head => exact .inr (chain_bef h i hi).1
      | tail _ hj => exact chain_ee (chain_tail h) i j hi hj hne
end chain

/-! ### The evaluation -/

/-- How an operation is looked at: it does not look at the heap; it looks at it, and the last `w` changes may as well come behind it; it changes the heap, and these of those that came before may as well come behind it. -/
inductive Pl where
  | free
  | pure (w : Nat)
  | eff (fs : List Bool)

def freeOp : Op → Bool
  | .move _ | .assign _ | .build _ _ | .buildSlice _ _ _ | .binOp _ _ _ _ _ | .unOp _ _ _ | .convert _ _ _ | .makeInterface _ _ | .makeFunc _ _ _ | .field _ _ _ | .typeAssert _ _ _ _ | .extract _ _ | .pick _ _ _ => true
  | _ => false

def pureAt (P : Program) (all : List Oper) (h : AHeap) (o : Oper) (α : AF) (v : AV) : Prop :=
  match o with
  | ⟨_, op, _, _, _, guard⟩ =>
    match guard, op with
    | none, .pick x y z => (apick true (ev α x) (ev α y) (ev α z)).s ∧ v = (apick true (ev α x) (ev α y) (ev α z)).v
    | none, .call ⟨.value f, xs, _⟩ => ACall P (ev α f) (xs.toList.map (ev α)) h (fun v' H' => v' = v ∧ H' = h)
    | none, op => (opEval P op (ev α) h).s ∧ (opEval P op (ev α) h).H = h ∧ v = (opEval P op (ev α) h).v
    | some (j, want), .pick x y z =>
      gok (slotV α (nth all j)) ∧ ((gval (slotV α (nth all j)) want) = true → (apick (gval (slotV α (nth all j)) want) (ev α x) (ev α y) (ev α z)).s) ∧
        v = .opt (gval (slotV α (nth all j)) want) (apick (gval (slotV α (nth all j)) want) (ev α x) (ev α y) (ev α z)).v
    | some (j, want), .call ⟨.value f, xs, _⟩ =>
      gok (slotV α (nth all j)) ∧ oblAll (gval (slotV α (nth all j)) want) α (f :: xs.toList) ∧
        ∃ u, (gval (slotV α (nth all j)) want = true → ACall P (evu α f) (xs.toList.map (evu α)) h (fun v' H' => v' = u ∧ H' = h)) ∧ v = .opt (gval (slotV α (nth all j)) want) u
    | some (j, want), op =>
      gok (slotV α (nth all j)) ∧ oblAll (gval (slotV α (nth all j)) want) α op.operands.toList ∧ ((gval (slotV α (nth all j)) want) = true → (opEval P op (evu α) h).s ∧ (opEval P op (evu α) h).H = h) ∧
        v = .opt (gval (slotV α (nth all j)) want) (opEval P op (evu α) h).v

theorem pureAt.yv {N : Nat} {ops : Array Oper} {o : Oper} {α : AF} {h : AHeap} {v : AV} (k : pureAt P ops.toList h o α v) : yv P N ops o α v h h := by
  obtain ⟨dst, op, ty, pos, after, guard⟩ := o
  dsimp only [pureAt] at k
  split at k
  · obtain ⟨h1, rfl⟩ := k
    exact YG.of_does rfl (apick_does (o := ⟨dst, .pick _ _ _, ty, pos, after, none⟩) (ρ := ev α) (H := h) rfl rfl h1)
  · exact YG.of_does rfl (does_call rfl k)
  · obtain ⟨h1, h2, rfl⟩ := k
    exact (YG.of_does rfl (opEval_does h1)).mono fun v H' ⟨e1, e2⟩ => ⟨e1, e2.trans h2⟩
  · rename_i j want x y z
    obtain ⟨h1, h2, rfl⟩ := k
    exact YG.of_guard (o := ⟨dst, .pick x y z, ty, pos, after, some (j, want)⟩) rfl h1 (ev α) (fun c a _ hl x hx => rep_ev' fun t ht => hl t (looksAt_operand (by subst ht; exact hx)))
      (fun hg => apick_does (g := gval (slotV α (nth ops.toList j)) want) rfl hg (h2 hg))
  · rename_i j want f xs ts
    obtain ⟨h1, h2, u, h3, rfl⟩ := k
    exact YG.of_guard (o := ⟨dst, .call ⟨.value f, xs, ts⟩, ty, pos, after, some (j, want)⟩) rfl h1 (evu α) (fun c a hg hl x hx => rep_unopt (rep_ev' fun t ht => hl t (looksAt_operand (by subst ht; exact hx))) (oblAll_mem h2 x (by simpa [Op.operands, Call.operands] using hx)) hg)
      (fun hg => does_call rfl (h3 hg))
  · rename_i j want op' _ _
    obtain ⟨h1, h2, h3, rfl⟩ := k
    exact YG.of_guard (v := (opEval P op (evu α) h).v) rfl h1 (evu α) (fun c a hg hl x hx => rep_unopt (rep_ev' fun t ht => hl t (looksAt_operand (by subst ht; exact hx))) (oblAll_mem h2 x hx) hg)
      (fun hg => (opEval_does (h3 hg).1).mono fun v H' ⟨e1, e2⟩ => ⟨e1, e2.trans (h3 hg).2⟩)

theorem freeOp_eval {op : Op} (hf : freeOp op = true) (ρ : Operand → AV) (h h' : AHeap) : (opEval P op ρ h').s = (opEval P op ρ h).s ∧ (opEval P op ρ h').v = (opEval P op ρ h).v ∧ (opEval P op ρ h').H = h' := by
  cases op <;> first | (simp [freeOp] at hf; done) | exact ⟨rfl, rfl, rfl⟩ | skip
  all_goals simp [opEval]

theorem pureAt_free {all : List Oper} {h h' : AHeap} {o : Oper} {α : AF} {v : AV} (hf : freeOp o.op = true) (k : pureAt P all h o α v) : pureAt P all h' o α v := by
  obtain ⟨dst, op, ty, pos, after, guard⟩ := o
  have hf : freeOp op = true := hf
  dsimp only [pureAt] at k ⊢
  split at k
  · exact k
  · simp [freeOp] at hf
  · rename_i op' hp hc
    obtain ⟨e1, e2, e3⟩ := freeOp_eval (P := P) hf (ev α) h h'
    rw [← e1, ← e2] at k
    exact ⟨k.1, e3, k.2.2⟩
  · exact k
  · simp [freeOp] at hf
  · rename_i j want hp hc
    obtain ⟨e1, e2, e3⟩ := freeOp_eval (P := P) hf (evu α) h h'
    rw [← e1, ← e2] at k
    exact ⟨k.1, k.2.1, fun hg => ⟨(k.2.2.1 hg).1, e3⟩, k.2.2.2⟩

def pAll : List Bool → Past → AHeap → Prop
  | true :: fs, p :: ps, h => p.2 h ∧ pAll fs ps h
  | false :: fs, _ :: ps, h => pAll fs ps h
  | _, _, _ => True
def pKeep {α : Type} : List Bool → List α → List α
  | true :: fs, p :: ps => p :: pKeep fs ps
  | false :: fs, _ :: ps => pKeep fs ps
  | _, _ => []
def wAll : Nat → List AHeap → (AHeap → Prop) → Prop
  | n + 1, h :: hs, φ => φ h ∧ wAll n hs φ
  | _, _, _ => True

/-- What changes the heap, perhaps under a guard: whether it may be, what it yields, the heap behind it. -/
def effS (P : Program) (all : List Oper) (o : Oper) (α : AF) (H : AHeap) : Prop :=
  match o.guard with
  | none => (opEval P o.op (ev α) H).s
  | some (j, want) => gok (slotV α (nth all j)) ∧ oblAll (gval (slotV α (nth all j)) want) α o.op.operands.toList ∧ (gval (slotV α (nth all j)) want = true → (opEval P o.op (evu α) H).s)
def effV (P : Program) (all : List Oper) (o : Oper) (α : AF) (H : AHeap) : AV :=
  match o.guard with
  | none => (opEval P o.op (ev α) H).v
  | some (j, want) => .opt (gval (slotV α (nth all j)) want) (opEval P o.op (evu α) H).v
def effH (P : Program) (all : List Oper) (o : Oper) (α : AF) (H : AHeap) : AHeap :=
  match o.guard with
  | none => (opEval P o.op (ev α) H).H
  | some (j, want) => bif gval (slotV α (nth all j)) want then (opEval P o.op (evu α) H).H else H

theorem YG.of_guardE {N : Nat} {ops : Array Oper} {H H1 : AHeap} {o : Oper} {α : AF} {v : AV} {j : Nat} {want : Bool} (hg : o.guard = some (j, want)) (hok : gok (slotV α (nth ops.toList j)))
    (ρ : Operand → AV) (hρ : ∀ (c : Ctx) (a : Act), gval (slotV α (nth ops.toList j)) want = true → (∀ t ∈ o.looksAt ops, Rep c (look α t) (a.tmps.getD t undef)) → ∀ x ∈ o.op.operands.toList, Rep c (ρ x) (a.eval x))
    (h : gval (slotV α (nth ops.toList j)) want = true → Does P o ρ H (fun v' H' => v' = v ∧ H' = H1)) :
    YG P N ops H o α (fun v' H' => v' = .opt (gval (slotV α (nth ops.toList j)) want) v ∧ H' = bif gval (slotV α (nth ops.toList j)) want then H1 else H) := by
  intro c a next Q hs hsz hl hk
  rw [gval_wanted hg hl hok]
  cases hgv : gval (slotV α (nth ops.toList j)) want with
  | true =>
    simp only [if_true]
    rw [hgv] at hk
    refine h hgv c a next Q hs (hρ c a hgv hl) fun c' x v' H' h1 h2 h3 h4 => ?_
    obtain ⟨rfl, rfl⟩ := h4
    exact hk c' _ v' _ h1 h2 (.opt _ _ _ (fun _ => h3) (fun h => by cases h)) ⟨rfl, rfl⟩
  | false =>
    simp only [Bool.false_eq_true, if_false]
    rw [hgv] at hk
    exact hk c _ undef H hs (Ext.refl c) (.opt _ _ _ (fun h => by cases h) (fun _ => rfl)) ⟨rfl, rfl⟩

theorem effS_yv {N : Nat} {ops : Array Oper} {o : Oper} {α : AF} {H : AHeap} (h : effS P ops.toList o α H) : yv P N ops o α (effV P ops.toList o α H) H (effH P ops.toList o α H) := by
  obtain ⟨dst, op, ty, pos, after, guard⟩ := o
  cases guard with
  | none => exact YG.of_does rfl (opEval_does (o := ⟨dst, op, ty, pos, after, none⟩) h)
  | some g =>
    obtain ⟨j, want⟩ := g
    obtain ⟨h1, h2, h3⟩ := h
    exact YG.of_guardE (o := ⟨dst, op, ty, pos, after, some (j, want)⟩) (v := (opEval P op (evu α) H).v) (H1 := (opEval P op (evu α) H).H) rfl h1 (evu α)
      (fun c a hg hl x hx => rep_unopt (rep_ev' fun t ht => hl t (looksAt_operand (by subst ht; exact hx))) (oblAll_mem h2 x hx) hg)
      (fun hg => opEval_does (h3 hg))

/-- What changes the heap, a call too. -/
def effR (P : Program) (all : List Oper) (o : Oper) (α : AF) (H : AHeap) (v : AV) (H1 : AHeap) : Prop :=
  match o with
  | ⟨_, .call ⟨.value f, xs, _⟩, _, _, _, none⟩ => ACall P (ev α f) (xs.toList.map (ev α)) H (fun v' H' => v' = v ∧ H' = H1)
  | ⟨_, .call ⟨.value f, xs, _⟩, _, _, _, some (j, want)⟩ => gok (slotV α (nth all j)) ∧ oblAll (gval (slotV α (nth all j)) want) α (f :: xs.toList) ∧
      ∃ u, (gval (slotV α (nth all j)) want = true → ACall P (evu α f) (xs.toList.map (evu α)) H (fun v' H' => v' = u ∧ H' = H1)) ∧ (gval (slotV α (nth all j)) want = false → H1 = H) ∧ v = .opt (gval (slotV α (nth all j)) want) u
  | o => effS P all o α H ∧ v = effV P all o α H ∧ H1 = effH P all o α H

theorem effR_yv {N : Nat} {ops : Array Oper} {o : Oper} {α : AF} {H H1 : AHeap} {v : AV} (h : effR P ops.toList o α H v H1) : yv P N ops o α v H H1 := by
  unfold effR at h
  split at h
  · exact YG.of_does rfl (does_call rfl h)
  · rename_i dst f xs ts ty pos after j want
    obtain ⟨h1, h2, u, h3, h4, rfl⟩ := h
    refine YG.mono (YG.of_guardE (o := ⟨dst, .call ⟨.value f, xs, ts⟩, ty, pos, after, some (j, want)⟩) (H1 := H1) rfl h1 (evu α) (fun c a hg hl x hx => rep_unopt (rep_ev' fun t ht => hl t (looksAt_operand (by subst ht; exact hx))) (oblAll_mem h2 x (by simpa [Op.operands, Call.operands] using hx)) hg)
      (fun hg => does_call rfl (h3 hg))) fun v' H' ⟨e1, e2⟩ => ⟨e1, e2.trans ?_⟩
    cases hg : gval (slotV α (nth ops.toList j)) want with
    | true => rfl
    | false => exact (h4 hg).symm
  · obtain ⟨h1, rfl, rfl⟩ := h
    exact effS_yv h1

/-- The operations, in the order of the text, so that the order does not matter. -/
def aopsM (P : Program) (all : List Oper) : List Pl → List Oper → Nat → AF → AHeap → List AHeap → Past → (AF → AHeap → Prop) → Prop
  | [], [], _, α, H, _, _, kont => kont α H
  | .free :: ps, o :: os, k, α, H, hist, past, kont => ∃ v, pureAt P all H o α v ∧ aopsM P all ps os (k + 1) (putA o.dst v α) H hist past kont
  | .pure w :: ps, o :: os, k, α, H, hist, past, kont => ∃ v, pureAt P all H o α v ∧ wAll w hist (fun h => pureAt P all h o α v) ∧
      aopsM P all ps os (k + 1) (putA o.dst v α) H hist ((k, fun h => pureAt P all h o α v) :: past) kont
  | .eff fs :: ps, o :: os, k, α, H, hist, past, kont => ∃ v H1, effR P all o α H v H1 ∧ pAll fs past H1 ∧
      aopsM P all ps os (k + 1) (putA o.dst v α) H1 (H :: hist) (pKeep fs past) kont
  | _, _, _, _, _, _, _, _ => False

/-- A plan that fits a region. -/
def planOk (ops : Array Oper) : List Oper → List Pl → Nat → List Nat → List Nat → Bool
  | [], [], _, _, _ => true
  | o :: os, .free :: ps, k, effs, past => freeOp o.op && planOk ops os ps (k + 1) effs past
  | _ :: os, .pure w :: ps, k, effs, past => (match effs[w]? with | some e => dirB ops e k | none => true) && planOk ops os ps (k + 1) effs (k :: past)
  | _ :: os, .eff fs :: ps, k, effs, past => (match effs with | e :: _ => dirB ops e k | [] => true) && (fs.length == past.length) && (fs.zip past).all (fun x => x.1 || dirB ops x.2 k) && planOk ops os ps (k + 1) (k :: effs) (pKeep fs past)
  | _, _, _, _, _ => false

/-- Which operations of a plan change the heap. -/
def effsOf : List Pl → Nat → List Nat
  | [], _ => []
  | .eff _ :: ps, k => k :: effsOf ps (k + 1)
  | _ :: ps, k => effsOf ps (k + 1)

theorem mem_effsOf : ∀ (pl : List Pl) (k i : Nat), i ∈ effsOf pl k → k ≤ i
  | [], _, _, h => by cases h
  | .eff _ :: ps, k, i, h => by
    cases h with
    | head => exact Nat.le_refl _
    | tail _ h => exact Nat.le_trans (Nat.le_succ _) (mem_effsOf ps (k + 1) i h)
  | .free :: ps, k, i, h => Nat.le_trans (Nat.le_succ _) (mem_effsOf ps (k + 1) i h)
  | .pure _ :: ps, k, i, h => Nat.le_trans (Nat.le_succ _) (mem_effsOf ps (k + 1) i h)

theorem wAll_spec {φ : AHeap → Prop} : ∀ {w : Nat} {hs : List AHeap}, wAll w hs φ → ∀ i h, i < w → hs[i]? = some h → φ h
  | 0, _, _, _, _, hi, _ => absurd hi (Nat.not_lt_zero _)
  | w + 1, [], _, i, h, _, hh => by simp at hh
  | w + 1, g :: hs, k, 0, h, _, hh => by simp at hh; subst hh; exact k.1
  | w + 1, g :: hs, k, i + 1, h, hi, hh => wAll_spec k.2 i h (Nat.lt_of_succ_lt_succ hi) (by simpa using hh)

/-- The effects of a region that are done, the last one first: each stands behind the next. -/
def Falls (ops : Array Oper) : List Nat → Prop
  | a :: b :: l => dirB ops b a = true ∧ Falls ops (b :: l)
  | _ => True

theorem Falls.tail {ops : Array Oper} {a : Nat} {l : List Nat} (h : Falls ops (a :: l)) : Falls ops l := by
  cases l with
  | nil => trivial
  | cons b l => exact h.2

theorem falls_lst {ops : Array Oper} : ∀ {l : List Nat}, Falls ops l → ∀ (p q a b : Nat), p ≤ q → l[p]? = some a → l[q]? = some b → Lst ops b a
  | [], _, p, _, _, _, _, h, _ => by simp at h
  | x :: l, hf, 0, 0, a, b, _, h1, h2 => by simp at h1 h2; subst h1; subst h2; exact .refl _
  | x :: l, hf, p + 1, 0, _, _, h, _, _ => absurd h (Nat.not_succ_le_zero p)
  | x :: l, hf, p + 1, q + 1, a, b, h, h1, h2 => falls_lst hf.tail p q a b (Nat.le_of_succ_le_succ h) (by simpa using h1) (by simpa using h2)
  | x :: l, hf, 0, q + 1, a, b, _, h1, h2 => by
    simp at h1; subst h1
    cases l with
    | nil => simp at h2
    | cons y l => exact (falls_lst hf.tail 0 q y b (Nat.zero_le _) (by simp) (by simpa using h2)).trans (.dir hf.1)

theorem pAll_spec {ops : Array Oper} {k : Nat} {h : AHeap} : ∀ {fs : List Bool} {ps : Past}, pAll fs ps h → fs.length = ps.length → (∀ x ∈ fs.zip (ps.map (·.1)), (x.1 || dirB ops x.2 k) = true) →
    ∀ p ∈ ps, p.2 h ∨ dirB ops p.1 k = true
  | [], [], _, _, _, p, hp => by cases hp
  | true :: fs, q :: ps, ha, hl, hz, p, hp => by
    cases hp with
    | head => exact .inl ha.1
    | tail _ hp => exact pAll_spec ha.2 (by simpa using hl) (fun x hx => hz x (by simp only [List.map_cons, List.zip_cons_cons]; exact .tail _ hx)) p hp
  | false :: fs, q :: ps, ha, hl, hz, p, hp => by
    cases hp with
    | head => have := hz (false, q.1) (by simp); simpa using Or.inr this
    | tail _ hp => exact pAll_spec (show pAll fs ps h from ha) (by simpa using hl) (fun x hx => hz x (by simp only [List.map_cons, List.zip_cons_cons]; exact .tail _ hx)) p hp
  | [], _ :: _, _, hl, _, _, _ => by simp at hl
  | _ :: _, [], _, hl, _, _, _ => by simp at hl

theorem pKeep_map {β : Type} (f : (Nat × (AHeap → Prop)) → β) : ∀ (fs : List Bool) (ps : Past), (pKeep fs ps).map f = pKeep fs (ps.map f)
  | [], ps => by cases ps <;> rfl
  | true :: fs, [] => rfl
  | false :: fs, [] => rfl
  | true :: fs, p :: ps => by simp [pKeep, pKeep_map f fs ps]
  | false :: fs, p :: ps => by simp [pKeep, pKeep_map f fs ps]

theorem pKeep_spec {ops : Array Oper} {k : Nat} : ∀ {fs : List Bool} {ps : Past}, fs.length = ps.length → (∀ x ∈ fs.zip (ps.map (·.1)), (x.1 || dirB ops x.2 k) = true) → ∀ p ∈ ps, p ∈ pKeep fs ps ∨ dirB ops p.1 k = true
  | [], [], _, _, p, hp => by cases hp
  | true :: fs, q :: ps, hl, hz, p, hp => by
    cases hp with
    | head => exact .inl (.head _)
    | tail _ hp => exact (pKeep_spec (by simpa using hl) (fun x hx => hz x (by simp only [List.map_cons, List.zip_cons_cons]; exact .tail _ hx)) p hp).imp (.tail _) id
  | false :: fs, q :: ps, hl, hz, p, hp => by
    cases hp with
    | head => have := hz (false, q.1) (by simp); simpa using Or.inr this
    | tail _ hp => exact (pKeep_spec (by simpa using hl) (fun x hx => hz x (by simp only [List.map_cons, List.zip_cons_cons]; exact .tail _ hx)) p hp).imp id id
  | [], _ :: _, hl, _, _, _ => by simp at hl
  | _ :: _, [], hl, _, _, _ => by simp at hl

/-- What of the past is still to be looked at: what does not look at the heap, or stands ahead of the last change, need not be. -/
def PastOk (ops : Array Oper) (effs : List Nat) (tp sp : Past) : Prop :=
  ∀ p ∈ tp, (∃ e l, effs = e :: l ∧ Lst ops p.1 e) ∨ (∀ h, p.2 h) ∨ ∃ q ∈ sp, q.1 = p.1 ∧ ∀ h, q.2 h → p.2 h

theorem aM_of_aopsM {N : Nat} {ops : Array Oper} {plan : List Pl} {K : AF → AHeap → Prop} (hN : True) :
    ∀ (os : List Oper) (pl : List Pl) (k : Nat) (α : AF) (H : AHeap) (effs : List Nat) (hist : List AHeap) (tp sp : Past), planOk ops os pl k effs (sp.map (·.1)) = true →
      (∀ i, k ≤ i → (i ∈ effsOf plan 0 ↔ i ∈ effsOf pl k)) → effs.length = hist.length → Falls ops effs → PastOk ops effs tp sp →
      aopsM P ops.toList pl os k α H hist sp K → aM P N ops (fun i => (effsOf plan 0).contains i) K os k α H (effs.zip hist) tp
  | [], [], _, _, _, _, _, _, _, _, _, _, _, _, h => h
  | o :: os, .free :: pl, k, α, H, effs, hist, tp, sp, hp, he, hl, hf, hpo, h => by
    rw [planOk, Bool.and_eq_true] at hp
    obtain ⟨v, h1, h2⟩ := h
    have hne : (effsOf plan 0).contains k = false := by
      rw [← Bool.not_eq_true, List.contains_iff_mem, he k (Nat.le_refl _)]
      intro hm
      have := mem_effsOf pl (k + 1) k hm
      omega
    refine ⟨v, H, ⟨h1.yv, fun q => Bool.noConfusion (hne.symm.trans q), fun _ => ⟨rfl, fun e _ _ => (pureAt_free hp.1 h1).yv⟩⟩, ?_⟩
    simp only [hne, Bool.false_eq_true, if_false]
    refine aM_of_aopsM hN os pl (k + 1) _ H effs hist _ sp hp.2 (fun i hi => he i (by omega)) hl hf ?_ h2
    intro p hpp
    cases hpp with
    | head => exact .inr (.inl fun h => (pureAt_free hp.1 h1).yv)
    | tail _ hpp => exact hpo p hpp
  | o :: os, .pure w :: pl, k, α, H, effs, hist, tp, sp, hp, he, hl, hf, hpo, h => by
    rw [planOk, Bool.and_eq_true] at hp
    obtain ⟨v, h1, h2, h3⟩ := h
    have hne : (effsOf plan 0).contains k = false := by
      rw [← Bool.not_eq_true, List.contains_iff_mem, he k (Nat.le_refl _)]
      intro hm
      have := mem_effsOf pl (k + 1) k hm
      omega
    refine ⟨v, H, ⟨h1.yv, fun q => Bool.noConfusion (hne.symm.trans q), fun _ => ⟨rfl, fun e hee hb => ?_⟩⟩, ?_⟩
    · obtain ⟨i, hi⟩ := List.getElem?_of_mem hee
      rw [List.getElem?_zip_eq_some] at hi
      by_cases hw : i < w
      · exact (wAll_spec h2 i e.2 hw hi.2).yv
      · have hle : i < effs.length := (List.getElem?_eq_some_iff.1 hi.1).1
        have hwl : effs[w]? = some (effs[w]'(by omega)) := List.getElem?_eq_getElem (by omega)
        rw [hwl] at hp
        exact absurd (.dir hp.1 (falls_lst hf w i _ _ (by omega) hwl hi.1)) hb
    · simp only [hne, Bool.false_eq_true, if_false]
      refine aM_of_aopsM hN os pl (k + 1) _ H effs hist _ _ (by simpa using hp.2) (fun i hi => he i (by omega)) hl hf ?_ h3
      intro p hpp
      cases hpp with
      | head => exact .inr (.inr ⟨_, .head _, rfl, fun h hh => hh.yv⟩)
      | tail _ hpp =>
        rcases hpo p hpp with q | q | ⟨q, hq, q1, q2⟩
        · exact .inl q
        · exact .inr (.inl q)
        · exact .inr (.inr ⟨q, .tail _ hq, q1, q2⟩)
  | o :: os, .eff fs :: pl, k, α, H, effs, hist, tp, sp, hp, he, hl, hf, hpo, h => by
    simp only [planOk, Bool.and_eq_true] at hp
    obtain ⟨⟨⟨hch, hfl⟩, hz⟩, hrest⟩ := hp
    obtain ⟨v, H1, h1, h2, h3⟩ := h
    have hee : (effsOf plan 0).contains k = true := by
      rw [List.contains_iff_mem, he k (Nat.le_refl _)]; exact .head _
    have hfl' : fs.length = sp.length := by simpa using hfl
    have hz' : ∀ x ∈ fs.zip (sp.map (·.1)), (x.1 || dirB ops x.2 k) = true := List.all_eq_true.1 hz
    refine ⟨_, _, ⟨effR_yv h1, fun _ p hpp hb => ?_, fun q => Bool.noConfusion (hee.symm.trans q)⟩, ?_⟩
    · rcases hpo p hpp with ⟨e, l, he', q⟩ | q | ⟨q, hq, q1, q2⟩
      · rw [he'] at hch
        exact absurd (.dir hch q) hb
      · exact q _
      · rcases pAll_spec h2 hfl' hz' q hq with r | r
        · exact q2 _ r
        · rw [q1] at r
          exact absurd (.dir r (.refl _)) hb
    · simp only [hee, if_true]
      refine aM_of_aopsM hN os pl (k + 1) _ _ (k :: effs) (H :: hist) tp _ (by rw [pKeep_map]; exact hrest) (fun i hi => ?_) (by simp [hl]) ?_ ?_ h3
      · rw [he i (by omega)]
        constructor
        · intro hm
          cases hm with
          | head => omega
          | tail _ hm => exact hm
        · exact .tail _
      · cases effs with
        | nil => trivial
        | cons e l => exact ⟨hch, hf⟩
      · intro p hpp
        rcases hpo p hpp with ⟨e, l, he', q⟩ | q | ⟨q, hq, q1, q2⟩
        · rw [he'] at hch
          exact .inl ⟨k, effs, rfl, q.trans (.dir hch)⟩
        · exact .inr (.inl q)
        · rcases pKeep_spec hfl' hz' q hq with r | r
          · exact .inr (.inr ⟨q, r, q1, q2⟩)
          · rw [q1] at r
            exact .inl ⟨k, effs, rfl, .dir r⟩

theorem aopsM_mono {all : List Oper} {k k' : AF → AHeap → Prop} (hk : ∀ α H, k α H → k' α H) (pl : List Pl) : ∀ (l : List Oper) (n : Nat) (α : AF) (H : AHeap) (hist : List AHeap) (past : Past), aopsM P all pl l n α H hist past k → aopsM P all pl l n α H hist past k' := by
  induction pl with
  | nil =>
    intro l n α H hist past h
    cases l with
    | nil => exact hk α H h
    | cons o os => exact h
  | cons p ps ih =>
    intro l n α H hist past h
    cases l with
    | nil => cases p <;> exact h
    | cons o os =>
      cases p with
      | free => obtain ⟨v, h1, h2⟩ := h; exact ⟨v, h1, ih _ _ _ _ _ _ h2⟩
      | pure w => obtain ⟨v, h1, h2, h3⟩ := h; exact ⟨v, h1, h2, ih _ _ _ _ _ _ h3⟩
      | eff fs => obtain ⟨v, H1, h1, h2, h3⟩ := h; exact ⟨v, H1, h1, h2, ih _ _ _ _ _ _ h3⟩

theorem aw_region_mix {N id : Nat} {ops : Array Oper} {Q : APost} {α : AF} {H : AHeap} (plan : List Pl) (hm : P.follows .mixedOrders = true) (hd : dstsOk N ops = true) (hB : Region.lexB .any ops = true)
    (hp : (planOk ops ops.toList plan 0 [] [] && chainB ops (effsOf plan 0)) = true) (h : aopsM P ops.toList plan ops.toList 0 α H [] [] (fun α' H' => Q .normal α' H')) : aw P N (.region id ops true) Q α H := by
  intro c a hs ha
  simp only [Region.lexB, Bool.and_eq_true] at hB hp
  refine wp_region_any hm ?_
  have h1 := aopsM_mono (k' := fun α' H' => ∃ β, Alike α' β ∧ Q .normal β H') (fun α' H' hq => ⟨α', fun _ => rfl, hq⟩) _ _ _ _ _ _ _ h
  have h2 := aM_of_aopsM (P := P) (N := N) (ops := ops) (plan := plan) trivial ops.toList plan 0 α H [] [] [] [] hp.1 (fun _ _ => Iff.rfl) rfl trivial (fun p hp => by cases hp) h1
  have hEE : ∀ i j, (effsOf plan 0).contains i = true → (effsOf plan 0).contains j = true → j ≠ i → ∀ listed, Closed ops listed → i ∈ Region.ready .any ops listed → j ∈ Region.ready .any ops listed → False := by
    intro i j hi hj hne listed hc h1 h2
    rcases chain_ee hp.2 i j (List.contains_iff_mem.1 hi) (List.contains_iff_mem.1 hj) hne with q | q
    · exact not_bef hc h1 h2 q
    · exact not_bef hc h2 h1 q
  have hc0 : Closed ops (Array.replicate ops.size false) := by
    intro q o hq
    rw [Array.getD_eq_getD_getElem?] at hq
    by_cases hlt : q < ops.size <;> simp [Array.getElem?_replicate, hlt] at hq
  have h3 := anyM_lex (fun α β H hab ⟨γ, hg, hq⟩ => ⟨γ, fun t => (hab t).symm.trans (hg t), hq⟩) hEE ops.toList 0 (Array.replicate ops.size false) α H _ _ (by simp) hc0 (by simpa using hB.2) h2
  have h4 := wpAny_of_anyM (P := P) (Q := CPost N c Q) hd c (fun α' H' c' a' ⟨β, hab, hq⟩ hs' hx' ha' => ⟨c', β, H', rfl, hs', hx', ha'.weaken fun t => .inr (hab t).symm, hq⟩)
    ops.toList.length (Array.replicate ops.size false) α H _ _ c.draw a hs.draw (Ext.draw c) (ha.mono (Ext.draw c)) h3
  rw [Array.length_toList] at h4
  exact h4
end Go.Aw
