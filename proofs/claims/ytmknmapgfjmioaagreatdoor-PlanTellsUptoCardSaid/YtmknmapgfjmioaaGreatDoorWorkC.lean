/- The texts 3 of 7 beneath the rows of this seat (joined by program): the abstract machine, and what the functions answer. No condition. -/
import Derived.Test.YtmknmapgfjmioaaGreatDoorWorkB
import Derived.Test.YtmknmapgfjmioaaGreatDoorChecked
import Derived.KernelRfl
import Derived.WalkKit
import Derived.ProofKit
import Derived.OpenShut
import Derived.ShutString
import Derived.ChangeOld
import Derived.Below
import Derived.Carry
import Derived.RangeFuncIn
import Derived.LoopNIn
set_option linter.unusedSimpArgs false
set_option linter.unusedVariables false
set_option linter.unusedSectionVars false
/- The abstract machine: a region in whatever order, in which what changes the heap comes one behind the other. No condition. -/
namespace Go.Aw
open Go
set_option linter.unusedSimpArgs false
variable {P : Program}

/-! ### What must have been done before -/
section before
variable (ops : Array Oper)

def Closed (listed : Array Bool) : Prop := ∀ q o, listed.getD q false = true → ops[q]? = some o → ∀ e ∈ o.after, Region.binds .any e = true → listed.getD e.on false = true
/-- Whoever is done, this was, too. -/
def Lst (i q : Nat) : Prop := ∀ listed, Closed ops listed → listed.getD q false = true → listed.getD i false = true
def Bef (i j : Nat) : Prop := ∀ listed, Closed ops listed → j ∈ Region.ready .any ops listed → listed.getD i false = true
def dirB (i j : Nat) : Bool :=
  match ops[j]? with
  | some o => o.after.any fun e => Region.binds .any e && e.on == i
  | none => false
variable {ops}

theorem dirB_spec {i j : Nat} (h : dirB ops i j = true) : ∃ o e, ops[j]? = some o ∧ e ∈ o.after ∧ Region.binds .any e = true ∧ e.on = i := by
  unfold dirB at h
  split at h
  · rename_i o ho
    obtain ⟨e, he, h1⟩ := Array.any_eq_true'.1 h
    rw [Bool.and_eq_true, beq_iff_eq] at h1
    exact ⟨o, e, ho, he, h1.1, h1.2⟩
  · cases h

theorem Lst.refl (i : Nat) : Lst ops i i := fun _ _ h => h
theorem Lst.trans {i j k : Nat} (h : Lst ops i j) (h' : Lst ops j k) : Lst ops i k := fun l hc hk => h l hc (h' l hc hk)
theorem Lst.dir {i j : Nat} (h : dirB ops i j = true) : Lst ops i j := fun l hc hj => by
  obtain ⟨o, e, ho, he, hb, rfl⟩ := dirB_spec h
  exact hc j o hj ho e he hb
theorem Bef.dir {i q j : Nat} (h : dirB ops q j = true) (hl : Lst ops i q) : Bef ops i j := fun l hc hj => by
  obtain ⟨o, e, ho, he, hb, rfl⟩ := dirB_spec h
  obtain ⟨_, o', ho', hall⟩ := mem_ready.1 hj
  rw [ho] at ho'
  cases ho'
  exact hl l hc (hall e he hb)

theorem Closed.set {listed : Array Bool} {j : Nat} (hc : Closed ops listed) (hj : j ∈ Region.ready .any ops listed) : Closed ops (listed.setIfInBounds j true) := by
  intro q o hq ho e he hb
  by_cases hqj : j = q
  · subst hqj
    obtain ⟨_, o', ho', hall⟩ := mem_ready.1 hj
    rw [ho] at ho'
    cases ho'
    exact getD_set_true (hall e he hb)
  · rw [getD_set_ne false hqj] at hq
    exact getD_set_true (hc q o hq ho e he hb)

theorem not_bef {i j : Nat} {listed : Array Bool} (hc : Closed ops listed) (hi : i ∈ Region.ready .any ops listed) (hj : j ∈ Region.ready .any ops listed) : ¬ Bef ops i j := fun h => by
  have h1 := h listed hc hj
  obtain ⟨h0, _, hi', _⟩ := mem_ready.1 hi
  rcases Nat.lt_or_ge i listed.size with h' | h'
  · simp [h'] at h0 h1; rw [h0] at h1; cases h1
  · simp [Array.getElem?_eq_none h'] at h1
end before

/-! ### The tree of all orders -/
section tree
variable (P) (N : Nat) (ops : Array Oper) (eff : Nat → Bool)

abbrev Hist := List (Nat × AHeap)
abbrev Past := List (Nat × (AHeap → Prop))

def yv (o : Oper) (α : AF) (v : AV) (h h' : AHeap) : Prop := YG P N ops h o α (fun v' H' => v' = v ∧ H' = h')

def qM (i : Nat) (K : AF → AHeap → Hist → Past → Prop) (α : AF) (H : AHeap) (hist : Hist) (past : Past) : Prop :=
  match ops[i]? with
  | none => K α H hist past
  | some o =>
    if eff i = true then ∃ v H1, yv P N ops o α v H H1 ∧ (∀ p ∈ past, ¬ Bef ops p.1 i → p.2 H1) ∧ K (putA o.dst v α) H1 ((i, H) :: hist) past
    else ∃ v, yv P N ops o α v H H ∧ (∀ e ∈ hist, ¬ Bef ops e.1 i → yv P N ops o α v e.2 e.2) ∧ K (putA o.dst v α) H hist ((i, fun h => yv P N ops o α v h h) :: past)

def anyM (K : AF → AHeap → Prop) : Nat → Array Bool → AF → AHeap → Hist → Past → Prop
  | 0, listed, α, H, _, _ => Region.ready .any ops listed = [] ∧ K α H
  | fuel + 1, listed, α, H, hist, past => (Region.ready .any ops listed = [] → K α H) ∧ ∀ i ∈ Region.ready .any ops listed, qM P N ops eff i (anyM K fuel (listed.setIfInBounds i true)) α H hist past
variable {P} {N} {ops} {eff}

theorem yv.alike {o : Oper} {α β : AF} {v : AV} {h h' : AHeap} (hab : Alike α β) (k : yv P N ops o α v h h') : yv P N ops o β v h h' := YG.alike hab k
theorem yv.put {oi oj : Oper} {α : AF} {v u : AV} {h h' : AHeap} (k : yv P N ops oi α v h h') (hap : ∀ d, oj.dst = some d → d ∉ oi.looksAt ops) : yv P N ops oi (putA oj.dst u α) v h h' :=
  fun r c a next Q h1 h2 h3 hk => k r c a next Q h1 h2 (fun t ht => by
    have := h3 t ht
    rwa [look_put_ne fun x hx e => hap x hx (e ▸ ht)] at this) hk
theorem yv.unput {oi oj : Oper} {α : AF} {v u : AV} {h h' : AHeap} (k : yv P N ops oi (putA oj.dst u α) v h h') (hap : ∀ d, oj.dst = some d → d ∉ oi.looksAt ops) : yv P N ops oi α v h h' :=
  fun r c a next Q h1 h2 h3 hk => k r c a next Q h1 h2 (fun t ht => by
    rw [look_put_ne fun x hx e => hap x hx (e ▸ ht)]
    exact h3 t ht) hk

def PastLe (p q : Past) : Prop := ∀ x ∈ q, ∃ y ∈ p, y.1 = x.1 ∧ ∀ h, y.2 h → x.2 h

theorem PastLe.refl (p : Past) : PastLe p p := fun x hx => ⟨x, hx, rfl, fun _ h => h⟩
theorem PastLe.cons {p q : Past} {i : Nat} {φ ψ : AHeap → Prop} (h : ∀ x, φ x → ψ x) (hpq : PastLe p q) : PastLe ((i, φ) :: p) ((i, ψ) :: q) := by
  intro x hx
  cases hx with
  | head => exact ⟨_, .head _, rfl, h⟩
  | tail _ hx => obtain ⟨y, hy, h1, h2⟩ := hpq x hx; exact ⟨y, .tail _ hy, h1, h2⟩
theorem PastLe.swap {p : Past} {i j : Nat} {φ φ' ψ ψ' : AHeap → Prop} (h : ∀ x, φ x → φ' x) (k : ∀ x, ψ x → ψ' x) : PastLe ((j, ψ) :: (i, φ) :: p) ((i, φ') :: (j, ψ') :: p) := by
  intro x hx
  cases hx with
  | head => exact ⟨_, .tail _ (.head _), rfl, h⟩
  | tail _ hx =>
    cases hx with
    | head => exact ⟨_, .head _, rfl, k⟩
    | tail _ hx => exact ⟨x, .tail _ (.tail _ hx), rfl, fun _ h => h⟩

theorem anyM_mono {K : AF → AHeap → Prop} (hK : ∀ α β H, Alike α β → K α H → K β H) : ∀ (n : Nat) (listed : Array Bool) (α β : AF) (H : AHeap) (hist : Hist) (past past' : Past), Alike α β → PastLe past past' →
    anyM P N ops eff K n listed α H hist past → anyM P N ops eff K n listed β H hist past'
  | 0, _, _, _, _, _, _, _, hab, _, h => ⟨h.1, hK _ _ _ hab h.2⟩
  | n + 1, listed, α, β, H, hist, past, past', hab, hp, h => by
    refine ⟨fun h0 => hK _ _ _ hab (h.1 h0), fun i hi => ?_⟩
    have := h.2 i hi
    unfold qM at this ⊢
    split
    · rename_i ho; simp only [ho] at this; exact anyM_mono hK n _ _ _ _ _ _ _ hab hp this
    · rename_i o ho
      simp only [ho] at this
      split
      · rename_i he
        rw [if_pos he] at this
        obtain ⟨v, H1, h1, h2, h3⟩ := this
        refine ⟨v, H1, h1.alike hab, fun p hpp hb => ?_, anyM_mono hK n _ _ _ _ _ _ _ (hab.put _ _) hp h3⟩
        obtain ⟨y, hy, e1, e2⟩ := hp p hpp
        exact e2 _ (h2 y hy (by rw [e1]; exact hb))
      · rename_i he
        rw [if_neg he] at this
        obtain ⟨v, h1, h2, h3⟩ := this
        exact ⟨v, h1.alike hab, fun e hee hb => (h2 e hee hb).alike hab, anyM_mono hK n _ _ _ _ _ _ _ (hab.put _ _) (.cons (fun _ h => h.alike hab) hp) h3⟩

/-- What is known of the operation that the text names first. -/
def Head (P : Program) (N : Nat) (ops : Array Oper) (eff : Nat → Bool) (i : Nat) (oi : Oper) (v : AV) (H1 : AHeap) (α : AF) (H : AHeap) (hist : Hist) (past : Past) : Prop :=
  yv P N ops oi α v H H1 ∧ (eff i = true → ∀ p ∈ past, ¬ Bef ops p.1 i → p.2 H1) ∧ (eff i = false → H1 = H ∧ ∀ e ∈ hist, ¬ Bef ops e.1 i → yv P N ops oi α v e.2 e.2)

theorem Head.qM {K : AF → AHeap → Hist → Past → Prop} {i : Nat} {oi : Oper} {v : AV} {H1 : AHeap} {α : AF} {H : AHeap} {hist : Hist} {past : Past} (hi : ops[i]? = some oi) (h : Head P N ops eff i oi v H1 α H hist past)
    (hk : K (putA oi.dst v α) H1 (if eff i = true then (i, H) :: hist else hist) (if eff i = true then past else (i, fun h => yv P N ops oi α v h h) :: past)) : qM P N ops eff i K α H hist past := by
  unfold Go.Aw.qM
  simp only [hi]
  cases he : eff i with
  | true =>
    rw [he] at hk
    rw [if_pos rfl]
    exact ⟨v, H1, h.1, h.2.1 he, hk⟩
  | false =>
    rw [he] at hk
    obtain ⟨e1, e2⟩ := h.2.2 he
    subst e1
    rw [if_neg (by simp)]
    exact ⟨v, h.1, e2, hk⟩

theorem anyM_first {K : AF → AHeap → Prop} (hK : ∀ α β H, Alike α β → K α H → K β H) {i : Nat} {oi : Oper} {v : AV} (hi : ops[i]? = some oi) (hEE : eff i = true → ∀ j, eff j = true → j ≠ i → ∀ listed, Closed ops listed → i ∈ Region.ready .any ops listed → j ∈ Region.ready .any ops listed → False) :
    ∀ (fuel : Nat) (listed : Array Bool) (α : AF) (H H1 : AHeap) (hist : Hist) (past : Past), Closed ops listed →
      (∀ j oj, ops[j]? = some oj → j ≠ i → listed.getD j true = false → (∀ e ∈ oj.after, Region.binds .any e = true → e.on ≠ i) → oi.apart ops oj = true) →
      i ∈ Region.ready .any ops listed → Head P N ops eff i oi v H1 α H hist past →
      anyM P N ops eff K fuel (listed.setIfInBounds i true) (putA oi.dst v α) H1 (if eff i = true then (i, H) :: hist else hist) (if eff i = true then past else (i, fun h => yv P N ops oi α v h h) :: past) →
      anyM P N ops eff K (fuel + 1) listed α H hist past := by
  intro fuel
  induction fuel with
  | zero =>
    intro listed α H H1 hist past _ _ hr hy hh
    refine ⟨fun h => (by rw [h] at hr; cases hr), fun j hj => ?_⟩
    by_cases hji : j = i
    · subst hji; exact hy.qM hi hh
    · have := ready_mono hj hji
      rw [hh.1] at this
      cases this
  | succ fuel ih =>
    intro listed α H H1 hist past hcl hfree hr hy hh
    refine ⟨fun h => (by rw [h] at hr; cases hr), fun j hj => ?_⟩
    by_cases hji : j = i
    · subst hji; exact hy.qM hi hh
    · have h1 := hh.2 j (ready_mono hj hji)
      obtain ⟨hjun, oj, hoj, hall⟩ := mem_ready.1 hj
      have hnb : ¬ Bef ops i j := not_bef hcl hr hj
      have hnot : ∀ e ∈ oj.after, Region.binds .any e = true → e.on ≠ i := fun e he hb heq => by
        have h1 := hall e he hb
        have h0 := (mem_ready.1 hr).1
        rw [heq] at h1
        rcases Nat.lt_or_ge i listed.size with h' | h'
        · simp [h'] at h0 h1; rw [h0] at h1; cases h1
        · simp [Array.getElem?_eq_none h'] at h1
      obtain ⟨p1, p2, p3⟩ := Oper.apart_spec (hfree j oj hoj hji hjun hnot)
      have hcl' := hcl.set hj
      have hfree' : ∀ k ok, ops[k]? = some ok → k ≠ i → (listed.setIfInBounds j true).getD k true = false →
          (∀ e ∈ ok.after, Region.binds .any e = true → e.on ≠ i) → oi.apart ops ok = true := fun k ok hk hki hun hno => by
        refine hfree k ok hk hki ?_ hno
        by_cases hjk : j = k
        · subst hjk; exact hjun
        · rw [getD_set_ne true hjk] at hun; exact hun
      have hr' := ready_mono hr (Ne.symm hji)
      have hcomm := Array.setIfInBounds_comm (xs := listed) true true (Ne.symm hji)
      unfold Go.Aw.qM at h1 ⊢
      simp only [hoj] at h1 ⊢
      cases hej : eff j with
      | true =>
        rw [hej, if_pos rfl] at h1
        rw [if_pos rfl]
        obtain ⟨u, H2, hyj, hpj, hkj⟩ := h1
        cases hei : eff i with
        | true => exact (hEE hei j hej hji listed hcl hr hj).elim
        | false =>
          obtain ⟨e1, e2⟩ := hy.2.2 hei
          subst e1
          simp only [hei, Bool.false_eq_true, if_false] at hpj hkj
          have hyi2 := hpj (i, fun h => yv P N ops oi α v h h) (.head _) hnb
          refine ⟨u, H2, hyj.unput p1, fun p hp hb => hpj p (.tail _ hp) hb, ?_⟩
          refine ih (listed.setIfInBounds j true) (putA oj.dst u α) H2 H2 ((j, H1) :: hist) past hcl' hfree' hr' ⟨yv.put hyi2 p3, fun h => (by rw [hei] at h; cases h), fun _ => ⟨rfl, fun e he hb => ?_⟩⟩ ?_
          · cases he with
            | head => exact hy.1.put p3
            | tail _ he => exact (e2 e he hb).put p3
          · simp only [hei, Bool.false_eq_true, if_false]
            rw [Array.setIfInBounds_comm _ _ hji]
            exact anyM_mono hK _ _ _ _ _ _ _ _ (put_comm_alike p2) (.cons (fun _ h => h.put p3) (.refl _)) hkj
      | false =>
        rw [hej, if_neg (by simp)] at h1
        rw [if_neg (by simp)]
        obtain ⟨u, hyj, hhj, hkj⟩ := h1
        cases hei : eff i with
        | true =>
          simp only [hei, if_true] at hhj hkj
          have hyj0 : yv P N ops oj α u H H := (hhj (i, H) (.head _) hnb).unput p1
          refine ⟨u, hyj0, fun e he hb => (hhj e (.tail _ he) hb).unput p1, ?_⟩
          refine ih (listed.setIfInBounds j true) (putA oj.dst u α) H H1 hist _ hcl' hfree' hr' ⟨hy.1.put p3, fun _ p hp hb => ?_, fun h => (by rw [hei] at h; cases h)⟩ ?_
          · cases hp with
            | head => exact hyj.unput p1
            | tail _ hp => exact hy.2.1 hei p hp hb
          · simp only [hei, if_true]
            rw [Array.setIfInBounds_comm _ _ hji]
            exact anyM_mono hK _ _ _ _ _ _ _ _ (put_comm_alike p2) (.cons (fun _ h => h.unput p1) (.refl _)) hkj
        | false =>
          obtain ⟨e1, e2⟩ := hy.2.2 hei
          subst e1
          simp only [hei, Bool.false_eq_true, if_false] at hhj hkj
          refine ⟨u, hyj.unput p1, fun e he hb => (hhj e he hb).unput p1, ?_⟩
          refine ih (listed.setIfInBounds j true) (putA oj.dst u α) H1 H1 hist _ hcl' hfree' hr' ⟨hy.1.put p3, fun h => (by rw [hei] at h; cases h), fun _ => ⟨rfl, fun e he hb => (e2 e he hb).put p3⟩⟩ ?_
          simp only [hei, Bool.false_eq_true, if_false]
          rw [Array.setIfInBounds_comm _ _ hji]
          exact anyM_mono hK _ _ _ _ _ _ _ _ (put_comm_alike p2) (.swap (fun _ h => h.put p3) (fun _ h => h.unput p1)) hkj

/-- The operations in the order of the text, each with what is known of it. -/
def aM (P : Program) (N : Nat) (ops : Array Oper) (eff : Nat → Bool) (K : AF → AHeap → Prop) : List Oper → Nat → AF → AHeap → Hist → Past → Prop
  | [], _, α, H, _, _ => K α H
  | o :: os, k, α, H, hist, past => ∃ v H1, Head P N ops eff k o v H1 α H hist past ∧
      aM P N ops eff K os (k + 1) (putA o.dst v α) H1 (if eff k = true then (k, H) :: hist else hist) (if eff k = true then past else (k, fun h => yv P N ops o α v h h) :: past)

theorem anyM_lex {K : AF → AHeap → Prop} (hK : ∀ α β H, Alike α β → K α H → K β H) (hEE : ∀ i j, eff i = true → eff j = true → j ≠ i → ∀ listed, Closed ops listed → i ∈ Region.ready .any ops listed → j ∈ Region.ready .any ops listed → False) :
    ∀ (l : List Oper) (k : Nat) (listed : Array Bool) (α : AF) (H : AHeap) (hist : Hist) (past : Past), (∀ j, l[j]? = ops[k + j]?) → Closed ops listed →
    Region.lexFrom .any ops l.length k listed = true → aM P N ops eff K l k α H hist past → anyM P N ops eff K l.length listed α H hist past
  | [], _, _, _, _, _, _, _, _, hB, h => ⟨by simpa [Region.lexFrom] using hB, h⟩
  | o :: l, k, listed, α, H, hist, past, hl, hc, hB, h => by
    have h0 : ops[k]? = some o := by simpa using (hl 0).symm
    simp only [List.length_cons, Region.lexFrom, Bool.and_eq_true] at hB
    obtain ⟨⟨hr, hf⟩, hB'⟩ := hB
    obtain ⟨v, H1, hy, hk⟩ := h
    have hr' : k ∈ Region.ready .any ops listed := by simpa using hr
    exact anyM_first hK h0 (fun he j hj hne => hEE k j he hj hne) l.length listed α H H1 hist past hc (Region.free_spec h0 hf) hr' hy
      (anyM_lex hK hEE l (k + 1) _ _ _ _ _ (fun j => by have := hl (j + 1); simpa [Nat.add_assoc, Nat.add_comm 1 j] using this) (hc.set hr') hB' hk)

theorem wpAny_of_anyM {r : Option Nat} {Q : Exit → Act → World → Prop} {K : AF → AHeap → Prop} (hd : dstsOk N ops = true) (c₀ : Ctx) (hK : ∀ α H c a, K α H → St c H → Ext c₀ c → ARep c N α a → Q .normal a c.w) :
    ∀ (n : Nat) (listed : Array Bool) (α : AF) (H : AHeap) (hist : Hist) (past : Past) (c : Ctx) (a : Act), St c H → Ext c₀ c → ARep c N α a → anyM P N ops eff K n listed α H hist past → wpAnyIn (wf r) 0 P .any ops Q n listed a c.w
  | 0, _, _, _, _, _, _, _, hs, hx, ha, h => ⟨h.1, hK _ _ _ _ h.2 hs hx ha⟩
  | n + 1, listed, α, H, hist, past, c, a, hs, hx, ha, h => by
    refine ⟨fun h0 => hK _ _ _ _ (h.1 h0) hs hx ha, fun i hi => ?_⟩
    have h1 := h.2 i hi
    unfold qM at h1
    unfold wpOpIn
    split
    · rename_i ho; simp only [ho] at h1; exact wpAny_of_anyM hd c₀ hK n _ _ _ _ _ _ _ hs hx ha h1
    · rename_i o ho
      simp only [ho] at h1
      have hdo : dstOk N o.dst = true := List.all_eq_true.1 hd o (by rw [Array.mem_toList_iff]; exact Array.mem_of_getElem? ho)
      have go : ∀ v H1 hist' past', yv P N ops o α v H H1 → anyM P N ops eff K n (listed.setIfInBounds i true) (putA o.dst v α) H1 hist' past' →
          if Region.wanted o (yielded ops a.tmps) then o.wpIn (wf r) 0 P a c.w (wpAnyIn (wf r) 0 P .any ops Q n (listed.setIfInBounds i true)) Q else (∀ f, o.about P c.w a.eval = some f → (wf r).fn f) ∧ wpAnyIn (wf r) 0 P .any ops Q n (listed.setIfInBounds i true) (a.put o.dst undef) c.w := by
        intro v H1 hist' past' hy hk
        have := hy r c a (wpAnyIn (wf r) 0 P .any ops Q n (listed.setIfInBounds i true)) Q hs ha.size (fun t _ => ha.rep t) fun c' x v' H' g1 g2 g3 g4 => by
          obtain ⟨e1, e2⟩ := g4
          rw [e2] at g1
          rw [e1] at g3
          exact wpAny_of_anyM hd c₀ hK n _ _ _ _ _ _ _ g1 (hx.trans g2) ((ha.mono g2).put hdo g3) hk
        by_cases hw : Region.wanted o (yielded ops a.tmps) = true
        · rw [if_pos hw] at this ⊢; exact this
        · rw [if_neg hw] at this ⊢; exact ⟨fun _ _ => trivial, this⟩
      by_cases he : eff i = true
      · rw [if_pos he] at h1
        obtain ⟨v, H1, hy, _, hk⟩ := h1
        exact go v H1 _ _ hy hk
      · rw [if_neg he] at h1
        obtain ⟨v, hy, _, hk⟩ := h1
        exact go v H _ _ hy hk
end tree

/-! ### What comes one behind the other -/
section chain
variable {ops : Array Oper}
def chainB (ops : Array Oper) : List Nat → Bool
  | a :: b :: l => dirB ops a b && chainB ops (b :: l)
  | _ => true

theorem chain_bef : ∀ {a : Nat} {l : List Nat}, chainB ops (a :: l) = true → ∀ j ∈ l, Bef ops a j ∧ Lst ops a j
  | a, [], _, j, hj => by cases hj
  | a, b :: l, h, j, hj => by
    rw [chainB, Bool.and_eq_true] at h
    cases hj with
    | head => exact ⟨.dir h.1 (.refl _), .dir h.1⟩
    | tail _ hj =>
      obtain ⟨_, h2⟩ := chain_bef h.2 j hj
      have key : ∀ {b : Nat} {l : List Nat}, chainB ops (b :: l) = true → ∀ x, Lst ops x b → ∀ j ∈ l, Bef ops x j := by
        intro b l
        induction l generalizing b with
        | nil => intro _ x _ j hj; cases hj
        | cons c l ih =>
          intro h x hx j hj
          rw [chainB, Bool.and_eq_true] at h
          cases hj with
          | head => exact .dir h.1 hx
          | tail _ hj => exact ih h.2 x (hx.trans (.dir h.1)) j hj
      exact ⟨key h.2 a (.dir h.1) j hj, (Lst.dir h.1).trans h2⟩

theorem chain_tail {a : Nat} {l : List Nat} (h : chainB ops (a :: l) = true) : chainB ops l = true := by
  cases l with
  | nil => rfl
  | cons b l => rw [chainB, Bool.and_eq_true] at h; exact h.2

theorem chain_ee : ∀ {l : List Nat}, chainB ops l = true → ∀ i j, i ∈ l → j ∈ l → j ≠ i → Bef ops i j ∨ Bef ops j i
  | [], _, i, _, hi, _, _ => by cases hi
  | a :: l, h, i, j, hi, hj, hne => by
    cases hi with
    | head =>
      cases hj with
      | head => exact absurd rfl hne
      | tail _ hj => exact .inl (chain_bef h j hj).1
    | tail _ hi =>
      cases hj with
      | head => exact .inr (chain_bef h i hi).1
      | tail _ hj => exact chain_ee (chain_tail h) i j hi hj hne
end chain

/-! ### The evaluation -/

/-- How an operation is looked at: it does not look at the heap; it looks at it, and the last `w` changes may as well come behind it; it changes the heap, and these of those that came before may as well come behind it. -/
inductive Pl where
  | free
  | pure (w : Nat)
  | eff (fs : List Bool)

def freeOp : Op → Bool
  | .move _ | .assign _ | .build _ _ | .buildSlice _ _ _ | .binOp _ _ _ _ _ | .unOp _ _ _ | .convert _ _ _ | .makeInterface _ _ | .makeFunc _ _ _ | .field _ _ _ | .typeAssert _ _ _ _ | .extract _ _ | .pick _ _ _ => true
  | _ => false

def pureAt (P : Program) (all : List Oper) (h : AHeap) (o : Oper) (α : AF) (v : AV) : Prop :=
  match o with
  | ⟨_, op, _, _, _, guard⟩ =>
    match guard, op with
    | none, .pick x y z => (apick true (ev α x) (ev α y) (ev α z)).s ∧ v = (apick true (ev α x) (ev α y) (ev α z)).v
    | none, .call ⟨.value f, xs, _⟩ => ACall P (ev α f) (xs.toList.map (ev α)) h (fun v' H' => v' = v ∧ H' = h)
    | none, .call ⟨.invoke r m, xs, _⟩ => ACall P (methodAV P m (ev α r)) (xs.toList.map (ev α)) h (fun v' H' => v' = v ∧ H' = h)
    | none, op => (opEval P op (ev α) h).s ∧ (opEval P op (ev α) h).H = h ∧ v = (opEval P op (ev α) h).v
    | some (j, want), .pick x y z =>
      gok (slotV α (nth all j)) ∧ ((gval (slotV α (nth all j)) want) = true → (apick (gval (slotV α (nth all j)) want) (ev α x) (ev α y) (ev α z)).s) ∧
        v = .opt (gval (slotV α (nth all j)) want) (apick (gval (slotV α (nth all j)) want) (ev α x) (ev α y) (ev α z)).v
    | some (j, want), .call ⟨.value f, xs, _⟩ =>
      gok (slotV α (nth all j)) ∧ oblAll (gval (slotV α (nth all j)) want) α (f :: xs.toList) ∧
        ∃ u, (gval (slotV α (nth all j)) want = true → ACall P (evu α f) (xs.toList.map (evu α)) h (fun v' H' => v' = u ∧ H' = h)) ∧ v = .opt (gval (slotV α (nth all j)) want) u
    | some (j, want), op =>
      gok (slotV α (nth all j)) ∧ oblAll (gval (slotV α (nth all j)) want) α op.operands.toList ∧ ((gval (slotV α (nth all j)) want) = true → (opEval P op (evu α) h).s ∧ (opEval P op (evu α) h).H = h) ∧
        v = .opt (gval (slotV α (nth all j)) want) (opEval P op (evu α) h).v

theorem pureAt.yv {N : Nat} {ops : Array Oper} {o : Oper} {α : AF} {h : AHeap} {v : AV} (k : pureAt P ops.toList h o α v) : yv P N ops o α v h h := by
  obtain ⟨dst, op, ty, pos, after, guard⟩ := o
  dsimp only [pureAt] at k
  split at k
  · obtain ⟨h1, rfl⟩ := k
    exact YG.of_does rfl (apick_does (o := ⟨dst, .pick _ _ _, ty, pos, after, none⟩) (ρ := ev α) (H := h) rfl rfl h1)
  · exact YG.of_does rfl (does_call rfl k)
  · exact YG.of_does rfl (does_invoke rfl k)
  · obtain ⟨h1, h2, rfl⟩ := k
    exact (YG.of_does rfl (opEval_does h1)).mono fun v H' ⟨e1, e2⟩ => ⟨e1, e2.trans h2⟩
  · rename_i j want x y z
    obtain ⟨h1, h2, rfl⟩ := k
    exact YG.of_guard (o := ⟨dst, .pick x y z, ty, pos, after, some (j, want)⟩) rfl h1 (ev α) (fun c a _ hl x hx => rep_ev' fun t ht => hl t (looksAt_operand (by subst ht; exact hx)))
      (fun hg => apick_does (g := gval (slotV α (nth ops.toList j)) want) rfl hg (h2 hg))
  · rename_i j want f xs ts
    obtain ⟨h1, h2, u, h3, rfl⟩ := k
    exact YG.of_guard (o := ⟨dst, .call ⟨.value f, xs, ts⟩, ty, pos, after, some (j, want)⟩) rfl h1 (evu α) (fun c a hg hl x hx => rep_unopt (rep_ev' fun t ht => hl t (looksAt_operand (by subst ht; exact hx))) (oblAll_mem h2 x (by simpa [Op.operands, Call.operands] using hx)) hg)
      (fun hg => does_call rfl (h3 hg))
  · rename_i j want op' _ _
    obtain ⟨h1, h2, h3, rfl⟩ := k
    exact YG.of_guard (v := (opEval P op (evu α) h).v) rfl h1 (evu α) (fun c a hg hl x hx => rep_unopt (rep_ev' fun t ht => hl t (looksAt_operand (by subst ht; exact hx))) (oblAll_mem h2 x hx) hg)
      (fun hg => (opEval_does (h3 hg).1).mono fun v H' ⟨e1, e2⟩ => ⟨e1, e2.trans (h3 hg).2⟩)

theorem freeOp_eval {op : Op} (hf : freeOp op = true) (ρ : Operand → AV) (h h' : AHeap) : (opEval P op ρ h').s = (opEval P op ρ h).s ∧ (opEval P op ρ h').v = (opEval P op ρ h).v ∧ (opEval P op ρ h').H = h' := by
  cases op <;> first | (simp [freeOp] at hf; done) | exact ⟨rfl, rfl, rfl⟩ | skip
  all_goals simp [opEval]

theorem pureAt_free {all : List Oper} {h h' : AHeap} {o : Oper} {α : AF} {v : AV} (hf : freeOp o.op = true) (k : pureAt P all h o α v) : pureAt P all h' o α v := by
  obtain ⟨dst, op, ty, pos, after, guard⟩ := o
  have hf : freeOp op = true := hf
  dsimp only [pureAt] at k ⊢
  split at k
  · exact k
  · simp [freeOp] at hf
  · simp [freeOp] at hf
  · rename_i op' hp hc _
    obtain ⟨e1, e2, e3⟩ := freeOp_eval (P := P) hf (ev α) h h'
    rw [← e1, ← e2] at k
    exact ⟨k.1, e3, k.2.2⟩
  · exact k
  · simp [freeOp] at hf
  · rename_i j want hp hc
    obtain ⟨e1, e2, e3⟩ := freeOp_eval (P := P) hf (evu α) h h'
    rw [← e1, ← e2] at k
    exact ⟨k.1, k.2.1, fun hg => ⟨(k.2.2.1 hg).1, e3⟩, k.2.2.2⟩

def pAll : List Bool → Past → AHeap → Prop
  | true :: fs, p :: ps, h => p.2 h ∧ pAll fs ps h
  | false :: fs, _ :: ps, h => pAll fs ps h
  | _, _, _ => True
def pKeep {α : Type} : List Bool → List α → List α
  | true :: fs, p :: ps => p :: pKeep fs ps
  | false :: fs, _ :: ps => pKeep fs ps
  | _, _ => []
def wAll : Nat → List AHeap → (AHeap → Prop) → Prop
  | n + 1, h :: hs, φ => φ h ∧ wAll n hs φ
  | _, _, _ => True

/-- What changes the heap, perhaps under a guard: whether it may be, what it yields, the heap behind it. -/
def effS (P : Program) (all : List Oper) (o : Oper) (α : AF) (H : AHeap) : Prop :=
  match o.guard with
  | none => (opEval P o.op (ev α) H).s
  | some (j, want) => gok (slotV α (nth all j)) ∧ oblAll (gval (slotV α (nth all j)) want) α o.op.operands.toList ∧ (gval (slotV α (nth all j)) want = true → (opEval P o.op (evu α) H).s)
def effV (P : Program) (all : List Oper) (o : Oper) (α : AF) (H : AHeap) : AV :=
  match o.guard with
  | none => (opEval P o.op (ev α) H).v
  | some (j, want) => .opt (gval (slotV α (nth all j)) want) (opEval P o.op (evu α) H).v
def effH (P : Program) (all : List Oper) (o : Oper) (α : AF) (H : AHeap) : AHeap :=
  match o.guard with
  | none => (opEval P o.op (ev α) H).H
  | some (j, want) => bif gval (slotV α (nth all j)) want then (opEval P o.op (evu α) H).H else H

theorem YG.of_guardE {N : Nat} {ops : Array Oper} {H H1 : AHeap} {o : Oper} {α : AF} {v : AV} {j : Nat} {want : Bool} (hg : o.guard = some (j, want)) (hok : gok (slotV α (nth ops.toList j)))
    (ρ : Operand → AV) (hρ : ∀ (c : Ctx) (a : Act), gval (slotV α (nth ops.toList j)) want = true → (∀ t ∈ o.looksAt ops, Rep c (look α t) (a.tmps.getD t undef)) → ∀ x ∈ o.op.operands.toList, Rep c (ρ x) (a.eval x))
    (h : gval (slotV α (nth ops.toList j)) want = true → Does P o ρ H (fun v' H' => v' = v ∧ H' = H1)) :
    YG P N ops H o α (fun v' H' => v' = .opt (gval (slotV α (nth ops.toList j)) want) v ∧ H' = bif gval (slotV α (nth ops.toList j)) want then H1 else H) := by
  intro r c a next Q hs hsz hl hk
  rw [gval_wanted hg hl hok]
  cases hgv : gval (slotV α (nth ops.toList j)) want with
  | true =>
    simp only [if_true]
    rw [hgv] at hk
    refine h hgv r c a next Q hs (hρ c a hgv hl) fun c' x v' H' h1 h2 h3 h4 => ?_
    obtain ⟨rfl, rfl⟩ := h4
    exact hk c' _ v' _ h1 h2 (.opt _ _ _ (fun _ => h3) (fun h => by cases h)) ⟨rfl, rfl⟩
  | false =>
    simp only [Bool.false_eq_true, if_false]
    rw [hgv] at hk
    exact hk c _ undef H hs (Ext.refl c) (.opt _ _ _ (fun h => by cases h) (fun _ => rfl)) ⟨rfl, rfl⟩

theorem effS_yv {N : Nat} {ops : Array Oper} {o : Oper} {α : AF} {H : AHeap} (h : effS P ops.toList o α H) : yv P N ops o α (effV P ops.toList o α H) H (effH P ops.toList o α H) := by
  obtain ⟨dst, op, ty, pos, after, guard⟩ := o
  cases guard with
  | none => exact YG.of_does rfl (opEval_does (o := ⟨dst, op, ty, pos, after, none⟩) h)
  | some g =>
    obtain ⟨j, want⟩ := g
    obtain ⟨h1, h2, h3⟩ := h
    exact YG.of_guardE (o := ⟨dst, op, ty, pos, after, some (j, want)⟩) (v := (opEval P op (evu α) H).v) (H1 := (opEval P op (evu α) H).H) rfl h1 (evu α)
      (fun c a hg hl x hx => rep_unopt (rep_ev' fun t ht => hl t (looksAt_operand (by subst ht; exact hx))) (oblAll_mem h2 x hx) hg)
      (fun hg => opEval_does (h3 hg))

/-- What changes the heap, a call too. -/
def effR (P : Program) (all : List Oper) (o : Oper) (α : AF) (H : AHeap) (v : AV) (H1 : AHeap) : Prop :=
  match o with
  | ⟨_, .call ⟨.value f, xs, _⟩, _, _, _, none⟩ => ACall P (ev α f) (xs.toList.map (ev α)) H (fun v' H' => v' = v ∧ H' = H1)
  | ⟨_, .call ⟨.value f, xs, _⟩, _, _, _, some (j, want)⟩ => gok (slotV α (nth all j)) ∧ oblAll (gval (slotV α (nth all j)) want) α (f :: xs.toList) ∧
      ∃ u, (gval (slotV α (nth all j)) want = true → ACall P (evu α f) (xs.toList.map (evu α)) H (fun v' H' => v' = u ∧ H' = H1)) ∧ (gval (slotV α (nth all j)) want = false → H1 = H) ∧ v = .opt (gval (slotV α (nth all j)) want) u
  | o => effS P all o α H ∧ v = effV P all o α H ∧ H1 = effH P all o α H

theorem effR_yv {N : Nat} {ops : Array Oper} {o : Oper} {α : AF} {H H1 : AHeap} {v : AV} (h : effR P ops.toList o α H v H1) : yv P N ops o α v H H1 := by
  unfold effR at h
  split at h
  · exact YG.of_does rfl (does_call rfl h)
  · rename_i dst f xs ts ty pos after j want
    obtain ⟨h1, h2, u, h3, h4, rfl⟩ := h
    refine YG.mono (YG.of_guardE (o := ⟨dst, .call ⟨.value f, xs, ts⟩, ty, pos, after, some (j, want)⟩) (H1 := H1) rfl h1 (evu α) (fun c a hg hl x hx => rep_unopt (rep_ev' fun t ht => hl t (looksAt_operand (by subst ht; exact hx))) (oblAll_mem h2 x (by simpa [Op.operands, Call.operands] using hx)) hg)
      (fun hg => does_call rfl (h3 hg))) fun v' H' ⟨e1, e2⟩ => ⟨e1, e2.trans ?_⟩
    cases hg : gval (slotV α (nth ops.toList j)) want with
    | true => rfl
    | false => exact (h4 hg).symm
  · obtain ⟨h1, rfl, rfl⟩ := h
    exact effS_yv h1

/-- The operations, in the order of the text, so that the order does not matter. -/
def aopsM (P : Program) (all : List Oper) : List Pl → List Oper → Nat → AF → AHeap → List AHeap → Past → (AF → AHeap → Prop) → Prop
  | [], [], _, α, H, _, _, kont => kont α H
  | .free :: ps, o :: os, k, α, H, hist, past, kont => ∃ v, pureAt P all H o α v ∧ aopsM P all ps os (k + 1) (putA o.dst v α) H hist past kont
  | .pure w :: ps, o :: os, k, α, H, hist, past, kont => ∃ v, pureAt P all H o α v ∧ wAll w hist (fun h => pureAt P all h o α v) ∧
      aopsM P all ps os (k + 1) (putA o.dst v α) H hist ((k, fun h => pureAt P all h o α v) :: past) kont
  | .eff fs :: ps, o :: os, k, α, H, hist, past, kont => ∃ v H1, effR P all o α H v H1 ∧ pAll fs past H1 ∧
      aopsM P all ps os (k + 1) (putA o.dst v α) H1 (H :: hist) (pKeep fs past) kont
  | _, _, _, _, _, _, _, _ => False

/-- A plan that fits a region. -/
def planOk (ops : Array Oper) : List Oper → List Pl → Nat → List Nat → List Nat → Bool
  | [], [], _, _, _ => true
  | o :: os, .free :: ps, k, effs, past => freeOp o.op && planOk ops os ps (k + 1) effs past
  | _ :: os, .pure w :: ps, k, effs, past => (match effs[w]? with | some e => dirB ops e k | none => true) && planOk ops os ps (k + 1) effs (k :: past)
  | _ :: os, .eff fs :: ps, k, effs, past => (match effs with | e :: _ => dirB ops e k | [] => true) && (fs.length == past.length) && (fs.zip past).all (fun x => x.1 || dirB ops x.2 k) && planOk ops os ps (k + 1) (k :: effs) (pKeep fs past)
  | _, _, _, _, _ => false

/-- Which operations of a plan change the heap. -/
def effsOf : List Pl → Nat → List Nat
  | [], _ => []
  | .eff _ :: ps, k => k :: effsOf ps (k + 1)
  | _ :: ps, k => effsOf ps (k + 1)

theorem mem_effsOf : ∀ (pl : List Pl) (k i : Nat), i ∈ effsOf pl k → k ≤ i
  | [], _, _, h => by cases h
  | .eff _ :: ps, k, i, h => by
    cases h with
    | head => exact Nat.le_refl _
    | tail _ h => exact Nat.le_trans (Nat.le_succ _) (mem_effsOf ps (k + 1) i h)
  | .free :: ps, k, i, h => Nat.le_trans (Nat.le_succ _) (mem_effsOf ps (k + 1) i h)
  | .pure _ :: ps, k, i, h => Nat.le_trans (Nat.le_succ _) (mem_effsOf ps (k + 1) i h)

theorem wAll_spec {φ : AHeap → Prop} : ∀ {w : Nat} {hs : List AHeap}, wAll w hs φ → ∀ i h, i < w → hs[i]? = some h → φ h
  | 0, _, _, _, _, hi, _ => absurd hi (Nat.not_lt_zero _)
  | w + 1, [], _, i, h, _, hh => by simp at hh
  | w + 1, g :: hs, k, 0, h, _, hh => by simp at hh; subst hh; exact k.1
  | w + 1, g :: hs, k, i + 1, h, hi, hh => wAll_spec k.2 i h (Nat.lt_of_succ_lt_succ hi) (by simpa using hh)

/-- The effects of a region that are done, the last one first: each stands behind the next. -/
def Falls (ops : Array Oper) : List Nat → Prop
  | a :: b :: l => dirB ops b a = true ∧ Falls ops (b :: l)
  | _ => True

theorem Falls.tail {ops : Array Oper} {a : Nat} {l : List Nat} (h : Falls ops (a :: l)) : Falls ops l := by
  cases l with
  | nil => trivial
  | cons b l => exact h.2

theorem falls_lst {ops : Array Oper} : ∀ {l : List Nat}, Falls ops l → ∀ (p q a b : Nat), p ≤ q → l[p]? = some a → l[q]? = some b → Lst ops b a
  | [], _, p, _, _, _, _, h, _ => by simp at h
  | x :: l, hf, 0, 0, a, b, _, h1, h2 => by simp at h1 h2; subst h1; subst h2; exact .refl _
  | x :: l, hf, p + 1, 0, _, _, h, _, _ => absurd h (Nat.not_succ_le_zero p)
  | x :: l, hf, p + 1, q + 1, a, b, h, h1, h2 => falls_lst hf.tail p q a b (Nat.le_of_succ_le_succ h) (by simpa using h1) (by simpa using h2)
  | x :: l, hf, 0, q + 1, a, b, _, h1, h2 => by
    simp at h1; subst h1
    cases l with
    | nil => simp at h2
    | cons y l => exact (falls_lst hf.tail 0 q y b (Nat.zero_le _) (by simp) (by simpa using h2)).trans (.dir hf.1)

theorem pAll_spec {ops : Array Oper} {k : Nat} {h : AHeap} : ∀ {fs : List Bool} {ps : Past}, pAll fs ps h → fs.length = ps.length → (∀ x ∈ fs.zip (ps.map (·.1)), (x.1 || dirB ops x.2 k) = true) →
    ∀ p ∈ ps, p.2 h ∨ dirB ops p.1 k = true
  | [], [], _, _, _, p, hp => by cases hp
  | true :: fs, q :: ps, ha, hl, hz, p, hp => by
    cases hp with
    | head => exact .inl ha.1
    | tail _ hp => exact pAll_spec ha.2 (by simpa using hl) (fun x hx => hz x (by simp only [List.map_cons, List.zip_cons_cons]; exact .tail _ hx)) p hp
  | false :: fs, q :: ps, ha, hl, hz, p, hp => by
    cases hp with
    | head => have := hz (false, q.1) (by simp); simpa using Or.inr this
    | tail _ hp => exact pAll_spec (show pAll fs ps h from ha) (by simpa using hl) (fun x hx => hz x (by simp only [List.map_cons, List.zip_cons_cons]; exact .tail _ hx)) p hp
  | [], _ :: _, _, hl, _, _, _ => by simp at hl
  | _ :: _, [], _, hl, _, _, _ => by simp at hl

theorem pKeep_map {β : Type} (f : (Nat × (AHeap → Prop)) → β) : ∀ (fs : List Bool) (ps : Past), (pKeep fs ps).map f = pKeep fs (ps.map f)
  | [], ps => by cases ps <;> rfl
  | true :: fs, [] => rfl
  | false :: fs, [] => rfl
  | true :: fs, p :: ps => by simp [pKeep, pKeep_map f fs ps]
  | false :: fs, p :: ps => by simp [pKeep, pKeep_map f fs ps]

theorem pKeep_spec {ops : Array Oper} {k : Nat} : ∀ {fs : List Bool} {ps : Past}, fs.length = ps.length → (∀ x ∈ fs.zip (ps.map (·.1)), (x.1 || dirB ops x.2 k) = true) → ∀ p ∈ ps, p ∈ pKeep fs ps ∨ dirB ops p.1 k = true
  | [], [], _, _, p, hp => by cases hp
  | true :: fs, q :: ps, hl, hz, p, hp => by
    cases hp with
    | head => exact .inl (.head _)
    | tail _ hp => exact (pKeep_spec (by simpa using hl) (fun x hx => hz x (by simp only [List.map_cons, List.zip_cons_cons]; exact .tail _ hx)) p hp).imp (.tail _) id
  | false :: fs, q :: ps, hl, hz, p, hp => by
    cases hp with
    | head => have := hz (false, q.1) (by simp); simpa using Or.inr this
    | tail _ hp => exact (pKeep_spec (by simpa using hl) (fun x hx => hz x (by simp only [List.map_cons, List.zip_cons_cons]; exact .tail _ hx)) p hp).imp id id
  | [], _ :: _, hl, _, _, _ => by simp at hl
  | _ :: _, [], hl, _, _, _ => by simp at hl

/-- What of the past is still to be looked at: what does not look at the heap, or stands ahead of the last change, need not be. -/
def PastOk (ops : Array Oper) (effs : List Nat) (tp sp : Past) : Prop :=
  ∀ p ∈ tp, (∃ e l, effs = e :: l ∧ Lst ops p.1 e) ∨ (∀ h, p.2 h) ∨ ∃ q ∈ sp, q.1 = p.1 ∧ ∀ h, q.2 h → p.2 h

theorem aM_of_aopsM {N : Nat} {ops : Array Oper} {plan : List Pl} {K : AF → AHeap → Prop} (hN : True) :
    ∀ (os : List Oper) (pl : List Pl) (k : Nat) (α : AF) (H : AHeap) (effs : List Nat) (hist : List AHeap) (tp sp : Past), planOk ops os pl k effs (sp.map (·.1)) = true →
      (∀ i, k ≤ i → (i ∈ effsOf plan 0 ↔ i ∈ effsOf pl k)) → effs.length = hist.length → Falls ops effs → PastOk ops effs tp sp →
      aopsM P ops.toList pl os k α H hist sp K → aM P N ops (fun i => (effsOf plan 0).contains i) K os k α H (effs.zip hist) tp
  | [], [], _, _, _, _, _, _, _, _, _, _, _, _, h => h
  | o :: os, .free :: pl, k, α, H, effs, hist, tp, sp, hp, he, hl, hf, hpo, h => by
    rw [planOk, Bool.and_eq_true] at hp
    obtain ⟨v, h1, h2⟩ := h
    have hne : (effsOf plan 0).contains k = false := by
      rw [← Bool.not_eq_true, List.contains_iff_mem, he k (Nat.le_refl _)]
      intro hm
      have := mem_effsOf pl (k + 1) k hm
      omega
    refine ⟨v, H, ⟨h1.yv, fun q => Bool.noConfusion (hne.symm.trans q), fun _ => ⟨rfl, fun e _ _ => (pureAt_free hp.1 h1).yv⟩⟩, ?_⟩
    simp only [hne, Bool.false_eq_true, if_false]
    refine aM_of_aopsM hN os pl (k + 1) _ H effs hist _ sp hp.2 (fun i hi => he i (by omega)) hl hf ?_ h2
    intro p hpp
    cases hpp with
    | head => exact .inr (.inl fun h => (pureAt_free hp.1 h1).yv)
    | tail _ hpp => exact hpo p hpp
  | o :: os, .pure w :: pl, k, α, H, effs, hist, tp, sp, hp, he, hl, hf, hpo, h => by
    rw [planOk, Bool.and_eq_true] at hp
    obtain ⟨v, h1, h2, h3⟩ := h
    have hne : (effsOf plan 0).contains k = false := by
      rw [← Bool.not_eq_true, List.contains_iff_mem, he k (Nat.le_refl _)]
      intro hm
      have := mem_effsOf pl (k + 1) k hm
      omega
    refine ⟨v, H, ⟨h1.yv, fun q => Bool.noConfusion (hne.symm.trans q), fun _ => ⟨rfl, fun e hee hb => ?_⟩⟩, ?_⟩
    · obtain ⟨i, hi⟩ := List.getElem?_of_mem hee
      rw [List.getElem?_zip_eq_some] at hi
      by_cases hw : i < w
      · exact (wAll_spec h2 i e.2 hw hi.2).yv
      · have hle : i < effs.length := (List.getElem?_eq_some_iff.1 hi.1).1
        have hwl : effs[w]? = some (effs[w]'(by omega)) := List.getElem?_eq_getElem (by omega)
        rw [hwl] at hp
        exact absurd (.dir hp.1 (falls_lst hf w i _ _ (by omega) hwl hi.1)) hb
    · simp only [hne, Bool.false_eq_true, if_false]
      refine aM_of_aopsM hN os pl (k + 1) _ H effs hist _ _ (by simpa using hp.2) (fun i hi => he i (by omega)) hl hf ?_ h3
      intro p hpp
      cases hpp with
      | head => exact .inr (.inr ⟨_, .head _, rfl, fun h hh => hh.yv⟩)
      | tail _ hpp =>
        rcases hpo p hpp with q | q | ⟨q, hq, q1, q2⟩
        · exact .inl q
        · exact .inr (.inl q)
        · exact .inr (.inr ⟨q, .tail _ hq, q1, q2⟩)
  | o :: os, .eff fs :: pl, k, α, H, effs, hist, tp, sp, hp, he, hl, hf, hpo, h => by
    simp only [planOk, Bool.and_eq_true] at hp
    obtain ⟨⟨⟨hch, hfl⟩, hz⟩, hrest⟩ := hp
    obtain ⟨v, H1, h1, h2, h3⟩ := h
    have hee : (effsOf plan 0).contains k = true := by
      rw [List.contains_iff_mem, he k (Nat.le_refl _)]; exact .head _
    have hfl' : fs.length = sp.length := by simpa using hfl
    have hz' : ∀ x ∈ fs.zip (sp.map (·.1)), (x.1 || dirB ops x.2 k) = true := List.all_eq_true.1 hz
    refine ⟨_, _, ⟨effR_yv h1, fun _ p hpp hb => ?_, fun q => Bool.noConfusion (hee.symm.trans q)⟩, ?_⟩
    · rcases hpo p hpp with ⟨e, l, he', q⟩ | q | ⟨q, hq, q1, q2⟩
      · rw [he'] at hch
        exact absurd (.dir hch q) hb
      · exact q _
      · rcases pAll_spec h2 hfl' hz' q hq with r | r
        · exact q2 _ r
        · rw [q1] at r
          exact absurd (.dir r (.refl _)) hb
    · simp only [hee, if_true]
      refine aM_of_aopsM hN os pl (k + 1) _ _ (k :: effs) (H :: hist) tp _ (by rw [pKeep_map]; exact hrest) (fun i hi => ?_) (by simp [hl]) ?_ ?_ h3
      · rw [he i (by omega)]
        constructor
        · intro hm
          cases hm with
          | head => omega
          | tail _ hm => exact hm
        · exact .tail _
      · cases effs with
        | nil => trivial
        | cons e l => exact ⟨hch, hf⟩
      · intro p hpp
        rcases hpo p hpp with ⟨e, l, he', q⟩ | q | ⟨q, hq, q1, q2⟩
        · rw [he'] at hch
          exact .inl ⟨k, effs, rfl, q.trans (.dir hch)⟩
        · exact .inr (.inl q)
        · rcases pKeep_spec hfl' hz' q hq with r | r
          · exact .inr (.inr ⟨q, r, q1, q2⟩)
          · rw [q1] at r
            exact .inl ⟨k, effs, rfl, .dir r⟩

theorem aopsM_mono {all : List Oper} {k k' : AF → AHeap → Prop} (hk : ∀ α H, k α H → k' α H) (pl : List Pl) : ∀ (l : List Oper) (n : Nat) (α : AF) (H : AHeap) (hist : List AHeap) (past : Past), aopsM P all pl l n α H hist past k → aopsM P all pl l n α H hist past k' := by
  induction pl with
  | nil =>
    intro l n α H hist past h
    cases l with
    | nil => exact hk α H h
    | cons o os => exact h
  | cons p ps ih =>
    intro l n α H hist past h
    cases l with
    | nil => cases p <;> exact h
    | cons o os =>
      cases p with
      | free => obtain ⟨v, h1, h2⟩ := h; exact ⟨v, h1, ih _ _ _ _ _ _ h2⟩
      | pure w => obtain ⟨v, h1, h2, h3⟩ := h; exact ⟨v, h1, h2, ih _ _ _ _ _ _ h3⟩
      | eff fs => obtain ⟨v, H1, h1, h2, h3⟩ := h; exact ⟨v, H1, h1, h2, ih _ _ _ _ _ _ h3⟩

theorem aw_region_mix {N id : Nat} {ops : Array Oper} {Q : APost} {α : AF} {H : AHeap} (plan : List Pl) (hm : P.follows .mixedOrders = true) (hd : dstsOk N ops = true) (hB : Region.lexB .any ops = true)
    (hp : (planOk ops ops.toList plan 0 [] [] && chainB ops (effsOf plan 0)) = true) (h : aopsM P ops.toList plan ops.toList 0 α H [] [] (fun α' H' => Q .normal α' H')) : aw P N (.region id ops true) Q α H := by
  intro r c a _ hs ha
  simp only [Region.lexB, Bool.and_eq_true] at hB hp
  refine wpIn_region_any hm ?_
  have h1 := aopsM_mono (k' := fun α' H' => ∃ β, Alike α' β ∧ Q .normal β H') (fun α' H' hq => ⟨α', fun _ => rfl, hq⟩) _ _ _ _ _ _ _ h
  have h2 := aM_of_aopsM (P := P) (N := N) (ops := ops) (plan := plan) trivial ops.toList plan 0 α H [] [] [] [] hp.1 (fun _ _ => Iff.rfl) rfl trivial (fun p hp => by cases hp) h1
  have hEE : ∀ i j, (effsOf plan 0).contains i = true → (effsOf plan 0).contains j = true → j ≠ i → ∀ listed, Closed ops listed → i ∈ Region.ready .any ops listed → j ∈ Region.ready .any ops listed → False := by
    intro i j hi hj hne listed hc h1 h2
    rcases chain_ee hp.2 i j (List.contains_iff_mem.1 hi) (List.contains_iff_mem.1 hj) hne with q | q
    · exact not_bef hc h1 h2 q
    · exact not_bef hc h2 h1 q
  have hc0 : Closed ops (Array.replicate ops.size false) := by
    intro q o hq
    rw [Array.getD_eq_getD_getElem?] at hq
    by_cases hlt : q < ops.size <;> simp [Array.getElem?_replicate, hlt] at hq
  have h3 := anyM_lex (fun α β H hab ⟨γ, hg, hq⟩ => ⟨γ, fun t => (hab t).symm.trans (hg t), hq⟩) hEE ops.toList 0 (Array.replicate ops.size false) α H _ _ (by simp) hc0 (by simpa using hB.2) h2
  have h4 := wpAny_of_anyM (r := r) (P := P) (Q := CPost N c Q) hd c (fun α' H' c' a' ⟨β, hab, hq⟩ hs' hx' ha' => ⟨c', β, H', rfl, hs', hx', ha'.weaken fun t => .inr (hab t).symm, hq⟩)
    ops.toList.length (Array.replicate ops.size false) α H _ _ c.draw a hs.draw (Ext.draw c) (ha.mono (Ext.draw c)) h3
  rw [Array.length_toList] at h4
  exact h4
end Go.Aw
/- The abstract machine: the equations of regions in mixed order, for evaluation by simp only [go_sem]. No condition. -/
namespace Go.Aw
open Go
set_option linter.unusedVariables false
set_option linter.unusedSimpArgs false
variable {P : Program}

theorem exF {A B : Prop} {b : AV} {X : AV → Prop} : (∃ v, (A ∧ B ∧ v = b) ∧ X v) = (A ∧ B ∧ X b) :=
  propext ⟨fun ⟨_, ⟨h1, h2, e⟩, x⟩ => ⟨h1, h2, e ▸ x⟩, fun ⟨h1, h2, x⟩ => ⟨b, ⟨h1, h2, rfl⟩, x⟩⟩
theorem exG {A B C : Prop} {b : AV} {X : AV → Prop} : (∃ v, (A ∧ B ∧ C ∧ v = b) ∧ X v) = (A ∧ B ∧ C ∧ X b) :=
  propext ⟨fun ⟨_, ⟨h1, h2, h3, e⟩, x⟩ => ⟨h1, h2, h3, e ▸ x⟩, fun ⟨h1, h2, h3, x⟩ => ⟨b, ⟨h1, h2, h3, rfl⟩, x⟩⟩
theorem exP {A B : Prop} {b : AV} {W X : AV → Prop} : (∃ v, (A ∧ B ∧ v = b) ∧ W v ∧ X v) = (A ∧ B ∧ W b ∧ X b) :=
  propext ⟨fun ⟨_, ⟨h1, h2, e⟩, y, x⟩ => ⟨h1, h2, e ▸ y, e ▸ x⟩, fun ⟨h1, h2, y, x⟩ => ⟨b, ⟨h1, h2, rfl⟩, y, x⟩⟩
theorem exQ {A B C : Prop} {b : AV} {W X : AV → Prop} : (∃ v, (A ∧ B ∧ C ∧ v = b) ∧ W v ∧ X v) = (A ∧ B ∧ C ∧ W b ∧ X b) :=
  propext ⟨fun ⟨_, ⟨h1, h2, h3, e⟩, y, x⟩ => ⟨h1, h2, h3, e ▸ y, e ▸ x⟩, fun ⟨h1, h2, h3, y, x⟩ => ⟨b, ⟨h1, h2, h3, rfl⟩, y, x⟩⟩

theorem exE {A : Prop} {b : AV} {G : AHeap} {W : AHeap → Prop} {X : AV → AHeap → Prop} : (∃ v H1, (A ∧ v = b ∧ H1 = G) ∧ W H1 ∧ X v H1) = (A ∧ W G ∧ X b G) :=
  propext ⟨fun ⟨_, _, ⟨h1, e, e'⟩, y, x⟩ => by subst e; subst e'; exact ⟨h1, y, x⟩, fun ⟨h1, y, x⟩ => ⟨b, G, ⟨h1, rfl, rfl⟩, y, x⟩⟩

attribute [go_sem] pAll pKeep wAll

/-- A call that changes the heap, in a region. -/
def callE (P : Program) (g : Bool) (f : AV) (xs : List AV) (H : AHeap) (K : AV → AHeap → Prop) : Prop :=
  ∃ v H1, (g = true → ACall P f xs H (fun v' H' => v' = v ∧ H' = H1)) ∧ (g = false → H1 = H) ∧ K v H1


/-- A call that leaves the heap alone, at this heap and at some others. -/
def callAt (P : Program) (g : Bool) (f : AV) (xs : List AV) (v : AV) : AHeap → Prop := fun h => g = true → ACall P f xs h (fun v' H' => v' = v ∧ H' = h)
def callM (P : Program) (g : Bool) (f : AV) (xs : List AV) (H : AHeap) (w : Nat) (hist : List AHeap) (K : AV → Prop) : Prop := ∃ v, callAt P g f xs v H ∧ wAll w hist (callAt P g f xs v) ∧ K v

section
variable (all os : List Oper) (pp : List Pl) (w k : Nat) (fs : List Bool) (α : AF) (H : AHeap) (hist : List AHeap) (past : Past) (kont : AF → AHeap → Prop) (dst : Option Tmp) (ty : TypeId) (pos : String) (after : Array Edge)

def aopsMK (P : Program) (all : List Oper) (pp : List Pl) (os : List Oper) (k : Nat) (dst : Option Tmp) (α : AF) (H : AHeap) (hist : List AHeap) (past : Past) (kont : AF → AHeap → Prop) (f : AV) (xs : List AV) : AV → Prop :=
  fun v => aopsM P all pp os (k + 1) (putA dst v α) H hist ((k, callAt P true f xs v) :: past) kont
def aopsMG (P : Program) (all : List Oper) (pp : List Pl) (os : List Oper) (k : Nat) (dst : Option Tmp) (g : Bool) (α : AF) (H : AHeap) (hist : List AHeap) (past : Past) (kont : AF → AHeap → Prop) (f : AV) (xs : List AV) : AV → Prop :=
  fun v => aopsM P all pp os (k + 1) (putA dst (.opt g v) α) H hist ((k, callAt P g f xs v) :: past) kont

@[go_sem] theorem mN : aopsM P all [] [] k α H hist past kont = kont α H := rfl

@[go_sem] theorem mP_callf (f : Operand) (xs : Array Operand) (ts : Array TypeId) : aopsM P all (.pure w :: pp) (⟨dst, .call ⟨.value f, xs, ts⟩, ty, pos, after, none⟩ :: os) k α H hist past kont =
    callM P true (ev α f) (xs.toList.map (ev α)) H w hist (aopsMK P all pp os k dst α H hist past kont (ev α f) (xs.toList.map (ev α))) := by
  have e : ∀ v, (fun h => pureAt P all h ⟨dst, .call ⟨.value f, xs, ts⟩, ty, pos, after, none⟩ α v) = callAt P true (ev α f) (xs.toList.map (ev α)) v := fun v => funext fun h => propext ⟨fun k _ => k, fun k => k rfl⟩
  show (∃ v, (fun h => pureAt P all h ⟨dst, .call ⟨.value f, xs, ts⟩, ty, pos, after, none⟩ α v) H ∧ wAll w hist (fun h => pureAt P all h ⟨dst, .call ⟨.value f, xs, ts⟩, ty, pos, after, none⟩ α v) ∧ aopsM P all pp os (k + 1) (putA dst v α) H hist ((k, fun h => pureAt P all h ⟨dst, .call ⟨.value f, xs, ts⟩, ty, pos, after, none⟩ α v) :: past) kont) = _
  have e' : ∀ v, pureAt P all H ⟨dst, .call ⟨.value f, xs, ts⟩, ty, pos, after, none⟩ α v = callAt P true (ev α f) (xs.toList.map (ev α)) v H := fun v => congrFun (e v) H
  simp only [e, e']; rfl

@[go_sem] theorem mP_invoke (r : Operand) (m : String) (xs : Array Operand) (ts : Array TypeId) : aopsM P all (.pure w :: pp) (⟨dst, .call ⟨.invoke r m, xs, ts⟩, ty, pos, after, none⟩ :: os) k α H hist past kont =
    callM P true (methodAV P m (ev α r)) (xs.toList.map (ev α)) H w hist (aopsMK P all pp os k dst α H hist past kont (methodAV P m (ev α r)) (xs.toList.map (ev α))) := by
  have e : ∀ v, (fun h => pureAt P all h ⟨dst, .call ⟨.invoke r m, xs, ts⟩, ty, pos, after, none⟩ α v) = callAt P true (methodAV P m (ev α r)) (xs.toList.map (ev α)) v := fun v => funext fun h => propext ⟨fun k _ => k, fun k => k rfl⟩
  show (∃ v, (fun h => pureAt P all h ⟨dst, .call ⟨.invoke r m, xs, ts⟩, ty, pos, after, none⟩ α v) H ∧ wAll w hist (fun h => pureAt P all h ⟨dst, .call ⟨.invoke r m, xs, ts⟩, ty, pos, after, none⟩ α v) ∧ aopsM P all pp os (k + 1) (putA dst v α) H hist ((k, fun h => pureAt P all h ⟨dst, .call ⟨.invoke r m, xs, ts⟩, ty, pos, after, none⟩ α v) :: past) kont) = _
  have e' : ∀ v, pureAt P all H ⟨dst, .call ⟨.invoke r m, xs, ts⟩, ty, pos, after, none⟩ α v = callAt P true (methodAV P m (ev α r)) (xs.toList.map (ev α)) v H := fun v => congrFun (e v) H
  simp only [e, e']; rfl

@[go_sem] theorem mPg_callf (f : Operand) (xs : Array Operand) (ts : Array TypeId) (j : Nat) (w0 : Bool) : aopsM P all (.pure w :: pp) (⟨dst, .call ⟨.value f, xs, ts⟩, ty, pos, after, some (j, w0)⟩ :: os) k α H hist past kont =
    (gok (slotV α (nth all j)) ∧ oblAll (gval (slotV α (nth all j)) w0) α (f :: xs.toList) ∧
      callM P (gval (slotV α (nth all j)) w0) (evu α f) (xs.toList.map (evu α)) H w hist (aopsMG P all pp os k dst (gval (slotV α (nth all j)) w0) α H hist past kont (evu α f) (xs.toList.map (evu α)))) := by
  refine propext ⟨?_, ?_⟩
  · rintro ⟨v, ⟨h1, h2, u, h3, rfl⟩, h4, h5⟩
    have e : (fun h => pureAt P all h ⟨dst, .call ⟨.value f, xs, ts⟩, ty, pos, after, some (j, w0)⟩ α (.opt (gval (slotV α (nth all j)) w0) u)) = callAt P (gval (slotV α (nth all j)) w0) (evu α f) (xs.toList.map (evu α)) u :=
      funext fun h => propext ⟨fun ⟨_, _, u', k1, k2⟩ => by cases k2; exact k1, fun k1 => ⟨h1, h2, u, k1, rfl⟩⟩
    rw [e] at h4 h5
    exact ⟨h1, h2, u, h3, h4, h5⟩
  · rintro ⟨h1, h2, u, h3, h4, h5⟩
    have e : (fun h => pureAt P all h ⟨dst, .call ⟨.value f, xs, ts⟩, ty, pos, after, some (j, w0)⟩ α (.opt (gval (slotV α (nth all j)) w0) u)) = callAt P (gval (slotV α (nth all j)) w0) (evu α f) (xs.toList.map (evu α)) u :=
      funext fun h => propext ⟨fun ⟨_, _, u', k1, k2⟩ => by cases k2; exact k1, fun k1 => ⟨h1, h2, u, k1, rfl⟩⟩
    refine ⟨_, ⟨h1, h2, u, h3, rfl⟩, ?_, ?_⟩
    · show wAll w hist (fun h => pureAt P all h ⟨dst, .call ⟨.value f, xs, ts⟩, ty, pos, after, some (j, w0)⟩ α (.opt (gval (slotV α (nth all j)) w0) u))
      rw [e]; exact h4
    · show aopsM P all pp os (k + 1) _ H hist ((k, fun h => pureAt P all h ⟨dst, .call ⟨.value f, xs, ts⟩, ty, pos, after, some (j, w0)⟩ α (.opt (gval (slotV α (nth all j)) w0) u)) :: past) kont
      rw [e]; exact h5

def aopsME (P : Program) (all : List Oper) (pp : List Pl) (os : List Oper) (k : Nat) (fs : List Bool) (dst : Option Tmp) (g : Bool) (α : AF) (H : AHeap) (hist : List AHeap) (past : Past) (kont : AF → AHeap → Prop) : AV → AHeap → Prop :=
  fun v H1 => pAll fs past H1 ∧ aopsM P all pp os (k + 1) (putA dst (.opt g v) α) H1 (H :: hist) (pKeep fs past) kont
def aopsMF (P : Program) (all : List Oper) (pp : List Pl) (os : List Oper) (k : Nat) (fs : List Bool) (dst : Option Tmp) (α : AF) (H : AHeap) (hist : List AHeap) (past : Past) (kont : AF → AHeap → Prop) : AV → AHeap → Prop :=
  fun v H1 => pAll fs past H1 ∧ aopsM P all pp os (k + 1) (putA dst v α) H1 (H :: hist) (pKeep fs past) kont
@[go_sem] theorem mE_callf (f : Operand) (xs : Array Operand) (ts : Array TypeId) : aopsM P all (.eff fs :: pp) (⟨dst, .call ⟨.value f, xs, ts⟩, ty, pos, after, none⟩ :: os) k α H hist past kont =
    callE P true (ev α f) (xs.toList.map (ev α)) H (aopsMF P all pp os k fs dst α H hist past kont) :=
  propext ⟨fun ⟨v, H1, h1, h2⟩ => ⟨v, H1, fun _ => h1, fun h => (by cases h), h2⟩, fun ⟨v, H1, h1, _, h2⟩ => ⟨v, H1, h1 rfl, h2⟩⟩
@[go_sem] theorem mEg_callf (f : Operand) (xs : Array Operand) (ts : Array TypeId) (j : Nat) (w0 : Bool) : aopsM P all (.eff fs :: pp) (⟨dst, .call ⟨.value f, xs, ts⟩, ty, pos, after, some (j, w0)⟩ :: os) k α H hist past kont =
    (gok (slotV α (nth all j)) ∧ oblAll (gval (slotV α (nth all j)) w0) α (f :: xs.toList) ∧
      callE P (gval (slotV α (nth all j)) w0) (evu α f) (xs.toList.map (evu α)) H (aopsME P all pp os k fs dst (gval (slotV α (nth all j)) w0) α H hist past kont)) :=
  propext ⟨fun ⟨_, H1, ⟨h1, h2, u, h3, h4, rfl⟩, h5⟩ => ⟨h1, h2, u, H1, h3, h4, h5⟩, fun ⟨h1, h2, u, H1, h3, h4, h5⟩ => ⟨_, H1, ⟨h1, h2, u, h3, h4, rfl⟩, h5⟩⟩

@[go_sem] theorem mF_pick (x y z : Operand) : aopsM P all (.free :: pp) (⟨dst, .pick x y z, ty, pos, after, none⟩ :: os) k α H hist past kont =
    ((apick true (ev α x) (ev α y) (ev α z)).s ∧ aopsM P all pp os (k + 1) (putA dst (apick true (ev α x) (ev α y) (ev α z)).v α) H hist past kont) :=
  propext ⟨fun ⟨_, ⟨h1, e⟩, x⟩ => ⟨h1, e ▸ x⟩, fun ⟨h1, x⟩ => ⟨_, ⟨h1, rfl⟩, x⟩⟩
@[go_sem] theorem mFg_pick (x y z : Operand) (j : Nat) (w0 : Bool) : aopsM P all (.free :: pp) (⟨dst, .pick x y z, ty, pos, after, some (j, w0)⟩ :: os) k α H hist past kont =
    (gok (slotV α (nth all j)) ∧ ((gval (slotV α (nth all j)) w0) = true → (apick (gval (slotV α (nth all j)) w0) (ev α x) (ev α y) (ev α z)).s) ∧
        aopsM P all pp os (k + 1) (putA dst (.opt (gval (slotV α (nth all j)) w0) (apick (gval (slotV α (nth all j)) w0) (ev α x) (ev α y) (ev α z)).v) α) H hist past kont) :=
  propext ⟨fun ⟨_, ⟨h1, h2, e⟩, x⟩ => ⟨h1, h2, e ▸ x⟩, fun ⟨h1, h2, x⟩ => ⟨_, ⟨h1, h2, rfl⟩, x⟩⟩

def optM (g : Bool) (v : AV) : AV := .opt g v
attribute [go_sem] optM
section
variable (op : Op) (h : ordG op = true) (j : Nat) (w0 : Bool) (v : AV)
include h
theorem pureAt_ord : pureAt P all H ⟨dst, op, ty, pos, after, none⟩ α v = ((opEval P op (ev α) H).s ∧ (opEval P op (ev α) H).H = H ∧ v = (opEval P op (ev α) H).v) := by
  cases op <;> first | rfl | (cases h; done) | skip
  rename_i c; obtain ⟨ce, xs, ts⟩ := c; cases ce <;> first | rfl | cases h
theorem pureAt_gord : pureAt P all H ⟨dst, op, ty, pos, after, some (j, w0)⟩ α v = (gok (slotV α (nth all j)) ∧ oblAll (gval (slotV α (nth all j)) w0) α (opl op) ∧ ((gval (slotV α (nth all j)) w0) = true → (opEval P op (evu α) H).s ∧ (opEval P op (evu α) H).H = H) ∧ v = .opt (gval (slotV α (nth all j)) w0) (opEval P op (evu α) H).v) := by
  cases op <;> first | rfl | (cases h; done) | skip
  rename_i c; obtain ⟨ce, xs, ts⟩ := c; cases ce <;> first | rfl | cases h
@[go_sem] theorem mF_ord : aopsM P all (.free :: pp) (⟨dst, op, ty, pos, after, none⟩ :: os) k α H hist past kont =
    ((opEval P op (ev α) H).s ∧ (opEval P op (ev α) H).H = H ∧ aopsM P all pp os (k + 1) (putA dst (opEval P op (ev α) H).v α) H hist past kont) := by
  simp only [aopsM, pureAt_ord (h := h)]; exact exF
@[go_sem] theorem mFg_ord : aopsM P all (.free :: pp) (⟨dst, op, ty, pos, after, some (j, w0)⟩ :: os) k α H hist past kont =
    (gok (slotV α (nth all j)) ∧ oblAll (gval (slotV α (nth all j)) w0) α (opl op) ∧ ((gval (slotV α (nth all j)) w0) = true → (opEval P op (evu α) H).s ∧ (opEval P op (evu α) H).H = H) ∧ aopsM P all pp os (k + 1) (putA dst (.opt (gval (slotV α (nth all j)) w0) (opEval P op (evu α) H).v) α) H hist past kont) := by
  simp only [aopsM, pureAt_gord (h := h)]; exact exG
@[go_sem] theorem mP_ord : aopsM P all (.pure w :: pp) (⟨dst, op, ty, pos, after, none⟩ :: os) k α H hist past kont =
    ((opEval P op (ev α) H).s ∧ (opEval P op (ev α) H).H = H ∧ wAll w hist (fun h => (opEval P op (ev α) h).s ∧ (opEval P op (ev α) h).H = h ∧ (opEval P op (ev α) H).v = (opEval P op (ev α) h).v) ∧
      aopsM P all pp os (k + 1) (putA dst (opEval P op (ev α) H).v α) H hist ((k, fun h => (opEval P op (ev α) h).s ∧ (opEval P op (ev α) h).H = h ∧ (opEval P op (ev α) H).v = (opEval P op (ev α) h).v) :: past) kont) := by
  simp only [aopsM, pureAt_ord (h := h)]; exact exP
@[go_sem] theorem mPg_ord : aopsM P all (.pure w :: pp) (⟨dst, op, ty, pos, after, some (j, w0)⟩ :: os) k α H hist past kont =
    (gok (slotV α (nth all j)) ∧ oblAll (gval (slotV α (nth all j)) w0) α (opl op) ∧ ((gval (slotV α (nth all j)) w0) = true → (opEval P op (evu α) H).s ∧ (opEval P op (evu α) H).H = H) ∧
      wAll w hist (fun h => gok (slotV α (nth all j)) ∧ oblAll (gval (slotV α (nth all j)) w0) α (opl op) ∧ ((gval (slotV α (nth all j)) w0) = true → (opEval P op (evu α) h).s ∧ (opEval P op (evu α) h).H = h) ∧ AV.opt (gval (slotV α (nth all j)) w0) (opEval P op (evu α) H).v = .opt (gval (slotV α (nth all j)) w0) (opEval P op (evu α) h).v) ∧
      aopsM P all pp os (k + 1) (putA dst (.opt (gval (slotV α (nth all j)) w0) (opEval P op (evu α) H).v) α) H hist ((k, fun h => gok (slotV α (nth all j)) ∧ oblAll (gval (slotV α (nth all j)) w0) α (opl op) ∧ ((gval (slotV α (nth all j)) w0) = true → (opEval P op (evu α) h).s ∧ (opEval P op (evu α) h).H = h) ∧ AV.opt (gval (slotV α (nth all j)) w0) (opEval P op (evu α) H).v = .opt (gval (slotV α (nth all j)) w0) (opEval P op (evu α) h).v) :: past) kont) := by
  simp only [aopsM, pureAt_gord (h := h)]; exact exQ
theorem effR_ord (H1 : AHeap) : effR P all ⟨dst, op, ty, pos, after, none⟩ α H v H1 = ((opEval P op (ev α) H).s ∧ v = (opEval P op (ev α) H).v ∧ H1 = (opEval P op (ev α) H).H) := by
  cases op <;> first | rfl | (cases h; done) | skip
  rename_i c; obtain ⟨ce, xs, ts⟩ := c; cases ce <;> first | rfl | cases h
theorem effR_gord (H1 : AHeap) : effR P all ⟨dst, op, ty, pos, after, some (j, w0)⟩ α H v H1 = ((gok (slotV α (nth all j)) ∧ oblAll (gval (slotV α (nth all j)) w0) α (opl op) ∧ ((gval (slotV α (nth all j)) w0) = true → (opEval P op (evu α) H).s)) ∧ v = .opt (gval (slotV α (nth all j)) w0) (opEval P op (evu α) H).v ∧ H1 = (bif (gval (slotV α (nth all j)) w0) then (opEval P op (evu α) H).H else H)) := by
  cases op <;> first | rfl | (cases h; done) | skip
  rename_i c; obtain ⟨ce, xs, ts⟩ := c; cases ce <;> first | rfl | cases h
@[go_sem] theorem mE_ord : aopsM P all (.eff fs :: pp) (⟨dst, op, ty, pos, after, none⟩ :: os) k α H hist past kont =
    ((opEval P op (ev α) H).s ∧ pAll fs past (opEval P op (ev α) H).H ∧ aopsM P all pp os (k + 1) (putA dst (opEval P op (ev α) H).v α) (opEval P op (ev α) H).H (H :: hist) (pKeep fs past) kont) := by
  simp only [aopsM, effR_ord (h := h)]; exact exE (X := fun v H1 => aopsM P all pp os (k + 1) (putA dst v α) H1 (H :: hist) (pKeep fs past) kont)
@[go_sem] theorem mEg_ord : aopsM P all (.eff fs :: pp) (⟨dst, op, ty, pos, after, some (j, w0)⟩ :: os) k α H hist past kont =
    ((gok (slotV α (nth all j)) ∧ oblAll (gval (slotV α (nth all j)) w0) α (opl op) ∧ ((gval (slotV α (nth all j)) w0) = true → (opEval P op (evu α) H).s)) ∧ pAll fs past (bif (gval (slotV α (nth all j)) w0) then (opEval P op (evu α) H).H else H) ∧
      aopsM P all pp os (k + 1) (putA dst (.opt (gval (slotV α (nth all j)) w0) (opEval P op (evu α) H).v) α) (bif (gval (slotV α (nth all j)) w0) then (opEval P op (evu α) H).H else H) (H :: hist) (pKeep fs past) kont) := by
  simp only [aopsM, effR_gord (h := h)]; exact exE (X := fun v H1 => aopsM P all pp os (k + 1) (putA dst v α) H1 (H :: hist) (pKeep fs past) kont)
end

end

@[go_sem] theorem aopsME_eq (all os : List Oper) (pp : List Pl) (k : Nat) (fs : List Bool) (dst : Option Tmp) (g : Bool) (α : AF) (H : AHeap) (hist : List AHeap) (past : Past) (kont : AF → AHeap → Prop) (v : AV) (H1 : AHeap) :
    aopsME P all pp os k fs dst g α H hist past kont v H1 = (pAll fs past H1 ∧ aopsM P all pp os (k + 1) (putA dst (.opt g v) α) H1 (H :: hist) (pKeep fs past) kont) := rfl
@[go_sem] theorem aopsMF_eq (all os : List Oper) (pp : List Pl) (k : Nat) (fs : List Bool) (dst : Option Tmp) (α : AF) (H : AHeap) (hist : List AHeap) (past : Past) (kont : AF → AHeap → Prop) (v : AV) (H1 : AHeap) :
    aopsMF P all pp os k fs dst α H hist past kont v H1 = (pAll fs past H1 ∧ aopsM P all pp os (k + 1) (putA dst v α) H1 (H :: hist) (pKeep fs past) kont) := rfl

theorem callAt_fn {g : Bool} {f : FuncId} {args : List AV} {x : AV} {h : AHeap} (hf : ∀ h, FnC P f args h x) (ok : callOk P f = true) : callAt P g (.func (.func f) [] []) args x h :=
  fun _ => Or.inl ⟨ok, by simp only [List.nil_append, List.append_nil]; exact hf h⟩
theorem callM_cap {g : Bool} {f : FuncId} {first args cap : List AV} {H : AHeap} {x : AV} {w : Nat} {hist : List AHeap} {K : AV → Prop} (hf : ∀ h, FnC P f (first ++ args ++ cap) h x) (ok : callOk P f = true) (hk : K x) : callM P g (.func (.func f) first cap) args H w hist K := by
  have hc : ∀ h, callAt P g (.func (.func f) first cap) args x h := fun h _ => Or.inl ⟨ok, hf h⟩
  refine ⟨x, hc H, ?_, hk⟩
  have : ∀ (w : Nat) (hs : List AHeap), wAll w hs (callAt P g (.func (.func f) first cap) args x) := by
    intro w
    induction w with
    | zero => intro hs; trivial
    | succ w ih => intro hs; cases hs with
      | nil => trivial
      | cons h hs => exact ⟨hc h, ih hs⟩
  exact this w hist
theorem callM_fn {g : Bool} {f : FuncId} {args : List AV} {H : AHeap} {x : AV} {w : Nat} {hist : List AHeap} {K : AV → Prop} (hf : ∀ h, FnC P f args h x) (ok : callOk P f = true) (hk : K x) : callM P g (.func (.func f) [] []) args H w hist K := by
  refine ⟨x, callAt_fn hf ok, ?_, hk⟩
  have : ∀ (w : Nat) (hs : List AHeap), wAll w hs (callAt P g (.func (.func f) [] []) args x) := by
    intro w
    induction w with
    | zero => intro hs; trivial
    | succ w ih => intro hs; cases hs with
      | nil => trivial
      | cons h hs => exact ⟨callAt_fn hf ok, ih hs⟩
  exact this w hist
end Go.Aw
/- The data of the program, as plain Lean, and as abstract values: stamps, operations, nodes, what an operation changed, entries, logs. No condition. -/
namespace Go.Aw
open Go
attribute [go_sem] aopsK aopsG aopsPK aopsPG aopsMK aopsMG aopsN TypeDesc.isAgg Option.isSome_some Option.isSome_none Bool.false_eq_true Bool.true_eq_false not_true_eq_false not_false_eq_true true_and and_true and_self List.getElem?_toArray List.getElem?_cons_zero List.getElem?_cons_succ List.getElem?_nil List.length_map List.append_eq List.range_zero List.cons_append List.nil_append Nat.one_ne_zero implies_true
attribute [go_sem] Nat.reduceEqDiff Nat.reduceAdd Nat.reduceSub Nat.reduceMul Nat.reduceLeDiff Nat.reduceLT Nat.reduceBEq Int.reduceNeg Int.reduceLE Int.reduceLT Int.reduceToNat String.reduceEq
attribute [go_sem ↓] reduceIte
/-- A function that leaves the heap alone and answers. -/
def Ct (P : Program) (f : FuncId) (args : List AV) (x : AV) : Prop := callOk P f = true ∧ ∀ H, FnC P f args H x
section
variable {P : Program} {f : FuncId} {args : List AV} {x : AV} {H : AHeap}
theorem ct (h : ∀ H, FnC P f args H x) (ok : callOk P f = true) : Ct P f args x := ⟨ok, h⟩
theorem cK {k : AV → AHeap → Prop} (h : Ct P f args x) (hk : k x H) : callK P (.func (.func f) [] []) args H k := callK_fn (h.2 H) h.1 hk
theorem cP {g : Bool} {k : AV → Prop} (h : Ct P f args x) (hk : k x) : callP P g (.func (.func f) [] []) args H k := callP_fn (h.2 H) h.1 hk
theorem cM {g : Bool} {w : Nat} {hist : List AHeap} {k : AV → Prop} (h : Ct P f args x) (hk : k x) : callM P g (.func (.func f) [] []) args H w hist k := callM_fn (fun H => h.2 H) h.1 hk
end
/-- The end of a piece of code. -/
def isE : Code → Bool
  | .skip | .ret | .exit _ | .label _ => true
  | _ => false
def endE : Code → Exit
  | .ret => .ret
  | .exit i => .exit i
  | _ => .normal
theorem aE {P : Program} {N : Nat} {c : Code} {Q : APost} {α : AF} {H : AHeap} (hc : isE c = true) (h : Q (endE c) α H) : aw P N c Q α H := by
  cases c <;> first
    | exact aw_skip h
    | exact aw_ret h
    | exact aw_exit h
    | exact aw_label h
    | cases hc
@[go_sem] theorem endE_skip : endE .skip = .normal := rfl
@[go_sem] theorem endE_ret : endE .ret = .ret := rfl
@[go_sem] theorem endE_exit (i : Nat) : endE (.exit i) = .exit i := rfl
@[go_sem] theorem endE_label (i : Nat) : endE (.label i) = .normal := rfl
end Go.Aw
namespace Go.Gw
open Go Go.Aw

abbrev Txt := List UInt8

structure Stm where
  c : Int
  r : Int
deriving DecidableEq, Inhabited

structure Opn where
  at_ : Stm
  kind : Int
  node : Int
  parent : Int
  name : Txt
  data : Txt
deriving DecidableEq, Inhabited

structure Nd where
  id : Int
  parent : Int
  name : Txt
  moved : Stm
  data : Txt
  wrote : Stm
deriving DecidableEq, Inhabited

structure Und where
  did : Bool
  had : Bool
  was : Nd
deriving DecidableEq, Inhabited

structure Ent where
  op : Opn
  undo : Und
deriving DecidableEq, Inhabited

structure Lg where
  entries : List Ent
  nodes : List Nd
deriving DecidableEq, Inhabited

def st0 : Stm := ⟨0, 0⟩
def nd0 : Nd := ⟨0, 0, [], st0, [], st0⟩
def und0 : Und := ⟨false, false, nd0⟩
def op0 : Opn := ⟨st0, 0, 0, 0, [], []⟩

def stA (s : Stm) : AV := .agg [.int .i64 s.c, .int .i64 s.r]
def opA (o : Opn) : AV := .agg [.int .i64 o.at_.c, .int .i64 o.at_.r, .int .i64 o.kind, .int .i64 o.node, .int .i64 o.parent, .str o.name, .str o.data]
def ndA (n : Nd) : AV := .agg [.int .i64 n.id, .int .i64 n.parent, .str n.name, .int .i64 n.moved.c, .int .i64 n.moved.r, .str n.data, .int .i64 n.wrote.c, .int .i64 n.wrote.r]
def unA (u : Und) : AV := .agg [.bool u.did, .bool u.had, .int .i64 u.was.id, .int .i64 u.was.parent, .str u.was.name, .int .i64 u.was.moved.c, .int .i64 u.was.moved.r, .str u.was.data, .int .i64 u.was.wrote.c, .int .i64 u.was.wrote.r]
def enA (e : Ent) : AV := .agg [.int .i64 e.op.at_.c, .int .i64 e.op.at_.r, .int .i64 e.op.kind, .int .i64 e.op.node, .int .i64 e.op.parent, .str e.op.name, .str e.op.data,
  .bool e.undo.did, .bool e.undo.had, .int .i64 e.undo.was.id, .int .i64 e.undo.was.parent, .str e.undo.was.name, .int .i64 e.undo.was.moved.c, .int .i64 e.undo.was.moved.r, .str e.undo.was.data, .int .i64 e.undo.was.wrote.c, .int .i64 e.undo.was.wrote.r]
def inA (n : Int) : AV := .int .i64 n
def lgF (f1 f2 : Bool) (g : Lg) : AV := .agg [.sl f1 (g.entries.map enA), .sl f2 (g.nodes.map ndA)]
def lgA (g : Lg) : AV := lgF false false g

@[go_sem] theorem pu_stA (x : Stm) : Pur (stA x) = True := by simp only [stA, go_sem]
@[go_sem] theorem pu_opA (x : Opn) : Pur (opA x) = True := by simp only [opA, go_sem]
@[go_sem] theorem pu_ndA (x : Nd) : Pur (ndA x) = True := by simp only [ndA, go_sem]
@[go_sem] theorem pu_unA (x : Und) : Pur (unA x) = True := by simp only [unA, go_sem]
@[go_sem] theorem pu_enA (x : Ent) : Pur (enA x) = True := by simp only [enA, go_sem]
@[go_sem] theorem pu_inA (x : Int) : Pur (inA x) = True := by simp only [inA, go_sem]
@[go_sem] theorem pu_lgF (f1 f2 : Bool) (x : Lg) : Pur (lgF f1 f2 x) = True := by simp only [lgF, go_sem]
@[go_sem] theorem pu_lgA (x : Lg) : Pur (lgA x) = True := by simp only [lgA, go_sem]
theorem getD_map {α : Type} (g : α → AV) {l : List α} {i : Nat} (h : i < l.length) : (l.map g).getD i .top = g l[i] := by
  rw [List.getD_eq_getElem?_getD, List.getElem?_map, List.getElem?_eq_getElem h]; rfl

theorem stm_eq (a b : Stm) : (decide (a.c = b.c) && decide (a.r = b.r)) = decide (a = b) := by
  cases a; cases b; rw [Bool.eq_iff_iff]; simp
end Go.Gw
/- Written by a program of mine out of the translation: what the types and functions of this program are to the abstract machine. No condition. -/
namespace Go.Proofs.YtmknmapgfjmioaaGreatDoor
open Go Go.Aw
@[go_sem] theorem mixedF : Tryz.prog.follows .mixedOrders = true := by kernel_rfl
attribute [go_sem] Tryz.underlying0
@[go_sem] theorem cells0F : Tryz.prog.cellsOf 0 = 1 := by kernel_rfl
@[go_sem] theorem bytes0F : Tryz.prog.bytesOf 0 = 0 := by kernel_rfl
@[go_sem] theorem notInt0F : notInt Tryz.prog 0 = true := by kernel_rfl
@[go_sem] theorem concrete0F : concrete Tryz.prog 0 = true := by kernel_rfl
attribute [go_sem] Tryz.underlying3
@[go_sem] theorem cells3F : Tryz.prog.cellsOf 3 = 1 := by kernel_rfl
@[go_sem] theorem bytes3F : Tryz.prog.bytesOf 3 = 8 := by kernel_rfl
@[go_sem] theorem elemOk3F : elemOk Tryz.prog 3 = true := by kernel_rfl
@[go_sem] theorem azero3F : azero Tryz.prog 3 = .int .i64 0 := by kernel_rfl
@[go_sem] theorem concrete3F : concrete Tryz.prog 3 = true := by kernel_rfl
attribute [go_sem] Tryz.underlying4
@[go_sem] theorem cells4F : Tryz.prog.cellsOf 4 = 1 := by kernel_rfl
@[go_sem] theorem bytes4F : Tryz.prog.bytesOf 4 = 1 := by kernel_rfl
@[go_sem] theorem elemOk4F : elemOk Tryz.prog 4 = true := by kernel_rfl
@[go_sem] theorem azero4F : azero Tryz.prog 4 = .bool false := by kernel_rfl
@[go_sem] theorem notInt4F : notInt Tryz.prog 4 = true := by kernel_rfl
@[go_sem] theorem concrete4F : concrete Tryz.prog 4 = true := by kernel_rfl
attribute [go_sem] Tryz.underlying5
@[go_sem] theorem cells5F : Tryz.prog.cellsOf 5 = 1 := by kernel_rfl
@[go_sem] theorem bytes5F : Tryz.prog.bytesOf 5 = 1 := by kernel_rfl
@[go_sem] theorem elemOk5F : elemOk Tryz.prog 5 = true := by kernel_rfl
@[go_sem] theorem azero5F : azero Tryz.prog 5 = .int .u8 0 := by kernel_rfl
@[go_sem] theorem concrete5F : concrete Tryz.prog 5 = true := by kernel_rfl
attribute [go_sem] Tryz.underlying9
@[go_sem] theorem cells9F : Tryz.prog.cellsOf 9 = 1 := by kernel_rfl
@[go_sem] theorem bytes9F : Tryz.prog.bytesOf 9 = 16 := by kernel_rfl
@[go_sem] theorem elemOk9F : elemOk Tryz.prog 9 = true := by kernel_rfl
@[go_sem] theorem azero9F : azero Tryz.prog 9 = .str [] := by kernel_rfl
@[go_sem] theorem notInt9F : notInt Tryz.prog 9 = true := by kernel_rfl
@[go_sem] theorem concrete9F : concrete Tryz.prog 9 = true := by kernel_rfl
attribute [go_sem] Tryz.underlying12
@[go_sem] theorem cells12F : Tryz.prog.cellsOf 12 = 1 := by kernel_rfl
@[go_sem] theorem bytes12F : Tryz.prog.bytesOf 12 = 8 := by kernel_rfl
@[go_sem] theorem elemOk12F : elemOk Tryz.prog 12 = true := by kernel_rfl
@[go_sem] theorem azero12F : azero Tryz.prog 12 = .int .u64 0 := by kernel_rfl
@[go_sem] theorem concrete12F : concrete Tryz.prog 12 = true := by kernel_rfl
attribute [go_sem] Tryz.underlying13
@[go_sem] theorem cells13F : Tryz.prog.cellsOf 13 = 2 := by kernel_rfl
@[go_sem] theorem bytes13F : Tryz.prog.bytesOf 13 = 24 := by kernel_rfl
@[go_sem] theorem elemOk13F : elemOk Tryz.prog 13 = true := by kernel_rfl
@[go_sem] theorem azero13F : azero Tryz.prog 13 = .agg [.str [], .int .u64 0] := by kernel_rfl
@[go_sem] theorem notInt13F : notInt Tryz.prog 13 = true := by kernel_rfl
@[go_sem] theorem concrete13F : concrete Tryz.prog 13 = true := by kernel_rfl
@[go_sem] theorem fieldsKnown13F : fieldsKnown Tryz.prog 13 = true := by kernel_rfl
@[go_sem] theorem eqGuard13F : Tryz.prog.eqGuardType Tryz.prog.depth 13 = false := by kernel_rfl
attribute [go_sem] Tryz.underlying20
@[go_sem] theorem cells20F : Tryz.prog.cellsOf 20 = 1 := by kernel_rfl
@[go_sem] theorem bytes20F : Tryz.prog.bytesOf 20 = 16 := by kernel_rfl
@[go_sem] theorem elemOk20F : elemOk Tryz.prog 20 = true := by kernel_rfl
@[go_sem] theorem azero20F : azero Tryz.prog 20 = .nilIface := by kernel_rfl
@[go_sem] theorem notInt20F : notInt Tryz.prog 20 = true := by kernel_rfl
@[go_sem] theorem isIf20F : isIf Tryz.prog 20 = true := by kernel_rfl
attribute [go_sem] Tryz.underlying21
@[go_sem] theorem cells21F : Tryz.prog.cellsOf 21 = 1 := by kernel_rfl
@[go_sem] theorem bytes21F : Tryz.prog.bytesOf 21 = 4 := by kernel_rfl
@[go_sem] theorem elemOk21F : elemOk Tryz.prog 21 = true := by kernel_rfl
@[go_sem] theorem azero21F : azero Tryz.prog 21 = .int .i32 0 := by kernel_rfl
@[go_sem] theorem concrete21F : concrete Tryz.prog 21 = true := by kernel_rfl
attribute [go_sem] Tryz.underlying22
@[go_sem] theorem cells22F : Tryz.prog.cellsOf 22 = 1 := by kernel_rfl
@[go_sem] theorem bytes22F : Tryz.prog.bytesOf 22 = 24 := by kernel_rfl
@[go_sem] theorem elemOk22F : elemOk Tryz.prog 22 = true := by kernel_rfl
@[go_sem] theorem azero22F : azero Tryz.prog 22 = .sl true [] := by kernel_rfl
@[go_sem] theorem notInt22F : notInt Tryz.prog 22 = true := by kernel_rfl
@[go_sem] theorem isSl22F : isSl Tryz.prog 22 = true := by kernel_rfl
@[go_sem] theorem concrete22F : concrete Tryz.prog 22 = true := by kernel_rfl
attribute [go_sem] Tryz.underlying24
@[go_sem] theorem cells24F : Tryz.prog.cellsOf 24 = 5 := by kernel_rfl
@[go_sem] theorem bytes24F : Tryz.prog.bytesOf 24 = 64 := by kernel_rfl
@[go_sem] theorem elemOk24F : elemOk Tryz.prog 24 = true := by kernel_rfl
@[go_sem] theorem azero24F : azero Tryz.prog 24 = .agg [.int .i64 0, .str [], .str [], .str [], .int .i64 0] := by kernel_rfl
@[go_sem] theorem notInt24F : notInt Tryz.prog 24 = true := by kernel_rfl
@[go_sem] theorem concrete24F : concrete Tryz.prog 24 = true := by kernel_rfl
@[go_sem] theorem fieldsKnown24F : fieldsKnown Tryz.prog 24 = true := by kernel_rfl
@[go_sem] theorem stood24F : Tryz.prog.stoodInHeld 24 = false := by kernel_rfl
@[go_sem] theorem eqGuard24F : Tryz.prog.eqGuardType Tryz.prog.depth 24 = false := by kernel_rfl
attribute [go_sem] Tryz.underlying25
@[go_sem] theorem cells25F : Tryz.prog.cellsOf 25 = 1 := by kernel_rfl
@[go_sem] theorem bytes25F : Tryz.prog.bytesOf 25 = 24 := by kernel_rfl
@[go_sem] theorem elemOk25F : elemOk Tryz.prog 25 = true := by kernel_rfl
@[go_sem] theorem azero25F : azero Tryz.prog 25 = .sl true [] := by kernel_rfl
@[go_sem] theorem notInt25F : notInt Tryz.prog 25 = true := by kernel_rfl
@[go_sem] theorem isSl25F : isSl Tryz.prog 25 = true := by kernel_rfl
@[go_sem] theorem concrete25F : concrete Tryz.prog 25 = true := by kernel_rfl
attribute [go_sem] Tryz.underlying26
@[go_sem] theorem cells26F : Tryz.prog.cellsOf 26 = 1 := by kernel_rfl
@[go_sem] theorem bytes26F : Tryz.prog.bytesOf 26 = 8 := by kernel_rfl
@[go_sem] theorem elemOk26F : elemOk Tryz.prog 26 = true := by kernel_rfl
@[go_sem] theorem azero26F : azero Tryz.prog 26 = .int .i64 0 := by kernel_rfl
@[go_sem] theorem concrete26F : concrete Tryz.prog 26 = true := by kernel_rfl
attribute [go_sem] Tryz.underlying27
@[go_sem] theorem cells27F : Tryz.prog.cellsOf 27 = 1 := by kernel_rfl
@[go_sem] theorem bytes27F : Tryz.prog.bytesOf 27 = 24 := by kernel_rfl
@[go_sem] theorem elemOk27F : elemOk Tryz.prog 27 = true := by kernel_rfl
@[go_sem] theorem azero27F : azero Tryz.prog 27 = .sl true [] := by kernel_rfl
@[go_sem] theorem notInt27F : notInt Tryz.prog 27 = true := by kernel_rfl
@[go_sem] theorem isSl27F : isSl Tryz.prog 27 = true := by kernel_rfl
@[go_sem] theorem concrete27F : concrete Tryz.prog 27 = true := by kernel_rfl
attribute [go_sem] Tryz.underlying28
@[go_sem] theorem cells28F : Tryz.prog.cellsOf 28 = 1 := by kernel_rfl
@[go_sem] theorem bytes28F : Tryz.prog.bytesOf 28 = 24 := by kernel_rfl
@[go_sem] theorem elemOk28F : elemOk Tryz.prog 28 = true := by kernel_rfl
@[go_sem] theorem azero28F : azero Tryz.prog 28 = .sl true [] := by kernel_rfl
@[go_sem] theorem notInt28F : notInt Tryz.prog 28 = true := by kernel_rfl
@[go_sem] theorem isSl28F : isSl Tryz.prog 28 = true := by kernel_rfl
@[go_sem] theorem concrete28F : concrete Tryz.prog 28 = true := by kernel_rfl
attribute [go_sem] Tryz.underlying30
@[go_sem] theorem cells30F : Tryz.prog.cellsOf 30 = 5 := by kernel_rfl
@[go_sem] theorem bytes30F : Tryz.prog.bytesOf 30 = 80 := by kernel_rfl
@[go_sem] theorem elemOk30F : elemOk Tryz.prog 30 = true := by kernel_rfl
@[go_sem] theorem azero30F : azero Tryz.prog 30 = .agg [.int .i64 0, .str [], .sl true [], .int .i64 0, .sl true []] := by kernel_rfl
@[go_sem] theorem notInt30F : notInt Tryz.prog 30 = true := by kernel_rfl
@[go_sem] theorem concrete30F : concrete Tryz.prog 30 = true := by kernel_rfl
@[go_sem] theorem fieldsKnown30F : fieldsKnown Tryz.prog 30 = true := by kernel_rfl
@[go_sem] theorem stood30F : Tryz.prog.stoodInHeld 30 = false := by kernel_rfl
@[go_sem] theorem eqGuard30F : Tryz.prog.eqGuardType Tryz.prog.depth 30 = false := by kernel_rfl
attribute [go_sem] Tryz.underlying32
@[go_sem] theorem cells32F : Tryz.prog.cellsOf 32 = 18 := by kernel_rfl
@[go_sem] theorem bytes32F : Tryz.prog.bytesOf 32 = 216 := by kernel_rfl
@[go_sem] theorem elemOk32F : elemOk Tryz.prog 32 = true := by kernel_rfl
@[go_sem] theorem azero32F : azero Tryz.prog 32 = .agg [.int .i64 0, .str [], .str [], .str [], .int .i64 0, .sl true [], .int .i64 0, .bool false, .bool false, .int .i64 0, .int .i64 0, .int .i64 0, .int .i64 0, .int .i64 0, .str [], .sl true [], .int .i64 0, .sl true []] := by kernel_rfl
@[go_sem] theorem notInt32F : notInt Tryz.prog 32 = true := by kernel_rfl
@[go_sem] theorem concrete32F : concrete Tryz.prog 32 = true := by kernel_rfl
@[go_sem] theorem fieldsKnown32F : fieldsKnown Tryz.prog 32 = true := by kernel_rfl
@[go_sem] theorem stood32F : Tryz.prog.stoodInHeld 32 = false := by kernel_rfl
@[go_sem] theorem eqGuard32F : Tryz.prog.eqGuardType Tryz.prog.depth 32 = false := by kernel_rfl
attribute [go_sem] Tryz.underlying34
@[go_sem] theorem cells34F : Tryz.prog.cellsOf 34 = 2 := by kernel_rfl
@[go_sem] theorem bytes34F : Tryz.prog.bytesOf 34 = 16 := by kernel_rfl
@[go_sem] theorem elemOk34F : elemOk Tryz.prog 34 = true := by kernel_rfl
@[go_sem] theorem azero34F : azero Tryz.prog 34 = .agg [.int .i64 0, .int .i64 0] := by kernel_rfl
@[go_sem] theorem notInt34F : notInt Tryz.prog 34 = true := by kernel_rfl
@[go_sem] theorem concrete34F : concrete Tryz.prog 34 = true := by kernel_rfl
@[go_sem] theorem fieldsKnown34F : fieldsKnown Tryz.prog 34 = true := by kernel_rfl
@[go_sem] theorem stood34F : Tryz.prog.stoodInHeld 34 = false := by kernel_rfl
@[go_sem] theorem eqGuard34F : Tryz.prog.eqGuardType Tryz.prog.depth 34 = false := by kernel_rfl
attribute [go_sem] Tryz.underlying35
@[go_sem] theorem cells35F : Tryz.prog.cellsOf 35 = 1 := by kernel_rfl
@[go_sem] theorem bytes35F : Tryz.prog.bytesOf 35 = 8 := by kernel_rfl
@[go_sem] theorem elemOk35F : elemOk Tryz.prog 35 = true := by kernel_rfl
@[go_sem] theorem azero35F : azero Tryz.prog 35 = .nilfunc := by kernel_rfl
@[go_sem] theorem notInt35F : notInt Tryz.prog 35 = true := by kernel_rfl
@[go_sem] theorem concrete35F : concrete Tryz.prog 35 = true := by kernel_rfl
attribute [go_sem] Tryz.underlying38
@[go_sem] theorem cells38F : Tryz.prog.cellsOf 38 = 1 := by kernel_rfl
@[go_sem] theorem bytes38F : Tryz.prog.bytesOf 38 = 0 := by kernel_rfl
@[go_sem] theorem notInt38F : notInt Tryz.prog 38 = true := by kernel_rfl
@[go_sem] theorem concrete38F : concrete Tryz.prog 38 = true := by kernel_rfl
attribute [go_sem] Tryz.underlying40
@[go_sem] theorem cells40F : Tryz.prog.cellsOf 40 = 1 := by kernel_rfl
@[go_sem] theorem bytes40F : Tryz.prog.bytesOf 40 = 0 := by kernel_rfl
@[go_sem] theorem notInt40F : notInt Tryz.prog 40 = true := by kernel_rfl
@[go_sem] theorem concrete40F : concrete Tryz.prog 40 = true := by kernel_rfl
attribute [go_sem] Tryz.underlying49
@[go_sem] theorem cells49F : Tryz.prog.cellsOf 49 = 1 := by kernel_rfl
@[go_sem] theorem bytes49F : Tryz.prog.bytesOf 49 = 24 := by kernel_rfl
@[go_sem] theorem elemOk49F : elemOk Tryz.prog 49 = true := by kernel_rfl
@[go_sem] theorem azero49F : azero Tryz.prog 49 = .sl true [] := by kernel_rfl
@[go_sem] theorem notInt49F : notInt Tryz.prog 49 = true := by kernel_rfl
@[go_sem] theorem isSl49F : isSl Tryz.prog 49 = true := by kernel_rfl
@[go_sem] theorem concrete49F : concrete Tryz.prog 49 = true := by kernel_rfl
attribute [go_sem] Tryz.underlying52
@[go_sem] theorem cells52F : Tryz.prog.cellsOf 52 = 1 := by kernel_rfl
@[go_sem] theorem bytes52F : Tryz.prog.bytesOf 52 = 24 := by kernel_rfl
@[go_sem] theorem elemOk52F : elemOk Tryz.prog 52 = true := by kernel_rfl
@[go_sem] theorem azero52F : azero Tryz.prog 52 = .sl true [] := by kernel_rfl
@[go_sem] theorem notInt52F : notInt Tryz.prog 52 = true := by kernel_rfl
@[go_sem] theorem isSl52F : isSl Tryz.prog 52 = true := by kernel_rfl
@[go_sem] theorem concrete52F : concrete Tryz.prog 52 = true := by kernel_rfl
attribute [go_sem] Tryz.underlying59
@[go_sem] theorem cells59F : Tryz.prog.cellsOf 59 = 2 := by kernel_rfl
@[go_sem] theorem bytes59F : Tryz.prog.bytesOf 59 = 16 := by kernel_rfl
@[go_sem] theorem elemOk59F : elemOk Tryz.prog 59 = true := by kernel_rfl
@[go_sem] theorem azero59F : azero Tryz.prog 59 = .agg [.int .i64 0, .int .i64 0] := by kernel_rfl
@[go_sem] theorem notInt59F : notInt Tryz.prog 59 = true := by kernel_rfl
@[go_sem] theorem concrete59F : concrete Tryz.prog 59 = true := by kernel_rfl
@[go_sem] theorem fieldsKnown59F : fieldsKnown Tryz.prog 59 = true := by kernel_rfl
@[go_sem] theorem stood59F : Tryz.prog.stoodInHeld 59 = false := by kernel_rfl
@[go_sem] theorem eqGuard59F : Tryz.prog.eqGuardType Tryz.prog.depth 59 = false := by kernel_rfl
attribute [go_sem] Tryz.underlying61
@[go_sem] theorem cells61F : Tryz.prog.cellsOf 61 = 7 := by kernel_rfl
@[go_sem] theorem bytes61F : Tryz.prog.bytesOf 61 = 72 := by kernel_rfl
@[go_sem] theorem elemOk61F : elemOk Tryz.prog 61 = true := by kernel_rfl
@[go_sem] theorem azero61F : azero Tryz.prog 61 = .agg [.int .i64 0, .int .i64 0, .int .i64 0, .int .i64 0, .int .i64 0, .str [], .str []] := by kernel_rfl
@[go_sem] theorem notInt61F : notInt Tryz.prog 61 = true := by kernel_rfl
@[go_sem] theorem concrete61F : concrete Tryz.prog 61 = true := by kernel_rfl
@[go_sem] theorem fieldsKnown61F : fieldsKnown Tryz.prog 61 = true := by kernel_rfl
@[go_sem] theorem stood61F : Tryz.prog.stoodInHeld 61 = false := by kernel_rfl
@[go_sem] theorem eqGuard61F : Tryz.prog.eqGuardType Tryz.prog.depth 61 = false := by kernel_rfl
attribute [go_sem] Tryz.underlying63
@[go_sem] theorem cells63F : Tryz.prog.cellsOf 63 = 1 := by kernel_rfl
@[go_sem] theorem bytes63F : Tryz.prog.bytesOf 63 = 24 := by kernel_rfl
@[go_sem] theorem elemOk63F : elemOk Tryz.prog 63 = true := by kernel_rfl
@[go_sem] theorem azero63F : azero Tryz.prog 63 = .sl true [] := by kernel_rfl
@[go_sem] theorem notInt63F : notInt Tryz.prog 63 = true := by kernel_rfl
@[go_sem] theorem isSl63F : isSl Tryz.prog 63 = true := by kernel_rfl
@[go_sem] theorem concrete63F : concrete Tryz.prog 63 = true := by kernel_rfl
attribute [go_sem] Tryz.underlying65
@[go_sem] theorem cells65F : Tryz.prog.cellsOf 65 = 8 := by kernel_rfl
@[go_sem] theorem bytes65F : Tryz.prog.bytesOf 65 = 80 := by kernel_rfl
@[go_sem] theorem elemOk65F : elemOk Tryz.prog 65 = true := by kernel_rfl
@[go_sem] theorem azero65F : azero Tryz.prog 65 = .agg [.int .i64 0, .int .i64 0, .str [], .int .i64 0, .int .i64 0, .str [], .int .i64 0, .int .i64 0] := by kernel_rfl
@[go_sem] theorem notInt65F : notInt Tryz.prog 65 = true := by kernel_rfl
@[go_sem] theorem concrete65F : concrete Tryz.prog 65 = true := by kernel_rfl
@[go_sem] theorem fieldsKnown65F : fieldsKnown Tryz.prog 65 = true := by kernel_rfl
@[go_sem] theorem stood65F : Tryz.prog.stoodInHeld 65 = false := by kernel_rfl
@[go_sem] theorem eqGuard65F : Tryz.prog.eqGuardType Tryz.prog.depth 65 = false := by kernel_rfl
attribute [go_sem] Tryz.underlying67
@[go_sem] theorem cells67F : Tryz.prog.cellsOf 67 = 1 := by kernel_rfl
@[go_sem] theorem bytes67F : Tryz.prog.bytesOf 67 = 24 := by kernel_rfl
@[go_sem] theorem elemOk67F : elemOk Tryz.prog 67 = true := by kernel_rfl
@[go_sem] theorem azero67F : azero Tryz.prog 67 = .agg [.sl true []] := by kernel_rfl
@[go_sem] theorem notInt67F : notInt Tryz.prog 67 = true := by kernel_rfl
@[go_sem] theorem concrete67F : concrete Tryz.prog 67 = true := by kernel_rfl
@[go_sem] theorem fieldsKnown67F : fieldsKnown Tryz.prog 67 = true := by kernel_rfl
@[go_sem] theorem stood67F : Tryz.prog.stoodInHeld 67 = false := by kernel_rfl
@[go_sem] theorem eqGuard67F : Tryz.prog.eqGuardType Tryz.prog.depth 67 = false := by kernel_rfl
attribute [go_sem] Tryz.underlying68
@[go_sem] theorem cells68F : Tryz.prog.cellsOf 68 = 1 := by kernel_rfl
@[go_sem] theorem bytes68F : Tryz.prog.bytesOf 68 = 0 := by kernel_rfl
@[go_sem] theorem notInt68F : notInt Tryz.prog 68 = true := by kernel_rfl
@[go_sem] theorem concrete68F : concrete Tryz.prog 68 = true := by kernel_rfl
attribute [go_sem] Tryz.underlying70
@[go_sem] theorem cells70F : Tryz.prog.cellsOf 70 = 1 := by kernel_rfl
@[go_sem] theorem bytes70F : Tryz.prog.bytesOf 70 = 16 := by kernel_rfl
@[go_sem] theorem elemOk70F : elemOk Tryz.prog 70 = true := by kernel_rfl
@[go_sem] theorem azero70F : azero Tryz.prog 70 = .nilIface := by kernel_rfl
@[go_sem] theorem notInt70F : notInt Tryz.prog 70 = true := by kernel_rfl
@[go_sem] theorem isIf70F : isIf Tryz.prog 70 = true := by kernel_rfl
attribute [go_sem] Tryz.underlying73
@[go_sem] theorem cells73F : Tryz.prog.cellsOf 73 = 1 := by kernel_rfl
@[go_sem] theorem bytes73F : Tryz.prog.bytesOf 73 = 0 := by kernel_rfl
@[go_sem] theorem notInt73F : notInt Tryz.prog 73 = true := by kernel_rfl
@[go_sem] theorem concrete73F : concrete Tryz.prog 73 = true := by kernel_rfl
attribute [go_sem] Tryz.underlying76
@[go_sem] theorem cells76F : Tryz.prog.cellsOf 76 = 5 := by kernel_rfl
@[go_sem] theorem bytes76F : Tryz.prog.bytesOf 76 = 64 := by kernel_rfl
@[go_sem] theorem elemOk76F : elemOk Tryz.prog 76 = true := by kernel_rfl
@[go_sem] theorem azero76F : azero Tryz.prog 76 = .agg [.int .i64 0, .str [], .str [], .str [], .int .i64 0] := by kernel_rfl
@[go_sem] theorem notInt76F : notInt Tryz.prog 76 = true := by kernel_rfl
@[go_sem] theorem concrete76F : concrete Tryz.prog 76 = true := by kernel_rfl
@[go_sem] theorem fieldsKnown76F : fieldsKnown Tryz.prog 76 = true := by kernel_rfl
@[go_sem] theorem stood76F : Tryz.prog.stoodInHeld 76 = false := by kernel_rfl
@[go_sem] theorem eqGuard76F : Tryz.prog.eqGuardType Tryz.prog.depth 76 = false := by kernel_rfl
attribute [go_sem] Tryz.underlying77
@[go_sem] theorem cells77F : Tryz.prog.cellsOf 77 = 1 := by kernel_rfl
@[go_sem] theorem bytes77F : Tryz.prog.bytesOf 77 = 0 := by kernel_rfl
@[go_sem] theorem notInt77F : notInt Tryz.prog 77 = true := by kernel_rfl
@[go_sem] theorem concrete77F : concrete Tryz.prog 77 = true := by kernel_rfl
attribute [go_sem] Tryz.underlying83
@[go_sem] theorem cells83F : Tryz.prog.cellsOf 83 = 1 := by kernel_rfl
@[go_sem] theorem bytes83F : Tryz.prog.bytesOf 83 = 8 := by kernel_rfl
@[go_sem] theorem elemOk83F : elemOk Tryz.prog 83 = true := by kernel_rfl
@[go_sem] theorem azero83F : azero Tryz.prog 83 = .nilfunc := by kernel_rfl
@[go_sem] theorem notInt83F : notInt Tryz.prog 83 = true := by kernel_rfl
@[go_sem] theorem concrete83F : concrete Tryz.prog 83 = true := by kernel_rfl
attribute [go_sem] Tryz.underlying84
@[go_sem] theorem cells84F : Tryz.prog.cellsOf 84 = 1 := by kernel_rfl
@[go_sem] theorem bytes84F : Tryz.prog.bytesOf 84 = 0 := by kernel_rfl
@[go_sem] theorem notInt84F : notInt Tryz.prog 84 = true := by kernel_rfl
@[go_sem] theorem concrete84F : concrete Tryz.prog 84 = true := by kernel_rfl
attribute [go_sem] Tryz.underlying86
@[go_sem] theorem cells86F : Tryz.prog.cellsOf 86 = 1 := by kernel_rfl
@[go_sem] theorem bytes86F : Tryz.prog.bytesOf 86 = 8 := by kernel_rfl
@[go_sem] theorem elemOk86F : elemOk Tryz.prog 86 = true := by kernel_rfl
@[go_sem] theorem azero86F : azero Tryz.prog 86 = .nilfunc := by kernel_rfl
@[go_sem] theorem notInt86F : notInt Tryz.prog 86 = true := by kernel_rfl
@[go_sem] theorem concrete86F : concrete Tryz.prog 86 = true := by kernel_rfl
attribute [go_sem] Tryz.underlying90
@[go_sem] theorem cells90F : Tryz.prog.cellsOf 90 = 1 := by kernel_rfl
@[go_sem] theorem bytes90F : Tryz.prog.bytesOf 90 = 8 := by kernel_rfl
@[go_sem] theorem elemOk90F : elemOk Tryz.prog 90 = true := by kernel_rfl
@[go_sem] theorem azero90F : azero Tryz.prog 90 = .nilfunc := by kernel_rfl
@[go_sem] theorem notInt90F : notInt Tryz.prog 90 = true := by kernel_rfl
@[go_sem] theorem concrete90F : concrete Tryz.prog 90 = true := by kernel_rfl
attribute [go_sem] Tryz.underlying91
@[go_sem] theorem cells91F : Tryz.prog.cellsOf 91 = 1 := by kernel_rfl
@[go_sem] theorem bytes91F : Tryz.prog.bytesOf 91 = 8 := by kernel_rfl
@[go_sem] theorem elemOk91F : elemOk Tryz.prog 91 = true := by kernel_rfl
@[go_sem] theorem azero91F : azero Tryz.prog 91 = .nilfunc := by kernel_rfl
@[go_sem] theorem notInt91F : notInt Tryz.prog 91 = true := by kernel_rfl
@[go_sem] theorem concrete91F : concrete Tryz.prog 91 = true := by kernel_rfl
attribute [go_sem] Tryz.underlying94
@[go_sem] theorem cells94F : Tryz.prog.cellsOf 94 = 10 := by kernel_rfl
@[go_sem] theorem bytes94F : Tryz.prog.bytesOf 94 = 88 := by kernel_rfl
@[go_sem] theorem elemOk94F : elemOk Tryz.prog 94 = true := by kernel_rfl
@[go_sem] theorem azero94F : azero Tryz.prog 94 = .agg [.bool false, .bool false, .int .i64 0, .int .i64 0, .str [], .int .i64 0, .int .i64 0, .str [], .int .i64 0, .int .i64 0] := by kernel_rfl
@[go_sem] theorem notInt94F : notInt Tryz.prog 94 = true := by kernel_rfl
@[go_sem] theorem concrete94F : concrete Tryz.prog 94 = true := by kernel_rfl
@[go_sem] theorem fieldsKnown94F : fieldsKnown Tryz.prog 94 = true := by kernel_rfl
@[go_sem] theorem stood94F : Tryz.prog.stoodInHeld 94 = false := by kernel_rfl
@[go_sem] theorem eqGuard94F : Tryz.prog.eqGuardType Tryz.prog.depth 94 = false := by kernel_rfl
attribute [go_sem] Tryz.underlying95
@[go_sem] theorem cells95F : Tryz.prog.cellsOf 95 = 1 := by kernel_rfl
@[go_sem] theorem bytes95F : Tryz.prog.bytesOf 95 = 0 := by kernel_rfl
@[go_sem] theorem notInt95F : notInt Tryz.prog 95 = true := by kernel_rfl
@[go_sem] theorem concrete95F : concrete Tryz.prog 95 = true := by kernel_rfl
attribute [go_sem] Tryz.underlying98
@[go_sem] theorem cells98F : Tryz.prog.cellsOf 98 = 1 := by kernel_rfl
@[go_sem] theorem bytes98F : Tryz.prog.bytesOf 98 = 0 := by kernel_rfl
@[go_sem] theorem notInt98F : notInt Tryz.prog 98 = true := by kernel_rfl
@[go_sem] theorem concrete98F : concrete Tryz.prog 98 = true := by kernel_rfl
attribute [go_sem] Tryz.underlying101
@[go_sem] theorem cells101F : Tryz.prog.cellsOf 101 = 0 := by kernel_rfl
@[go_sem] theorem bytes101F : Tryz.prog.bytesOf 101 = 0 := by kernel_rfl
@[go_sem] theorem elemOk101F : elemOk Tryz.prog 101 = true := by kernel_rfl
@[go_sem] theorem azero101F : azero Tryz.prog 101 = .agg [] := by kernel_rfl
@[go_sem] theorem notInt101F : notInt Tryz.prog 101 = true := by kernel_rfl
@[go_sem] theorem concrete101F : concrete Tryz.prog 101 = true := by kernel_rfl
@[go_sem] theorem fieldsKnown101F : fieldsKnown Tryz.prog 101 = true := by kernel_rfl
@[go_sem] theorem stood101F : Tryz.prog.stoodInHeld 101 = false := by kernel_rfl
@[go_sem] theorem eqGuard101F : Tryz.prog.eqGuardType Tryz.prog.depth 101 = false := by kernel_rfl
attribute [go_sem] Tryz.underlying103
@[go_sem] theorem cells103F : Tryz.prog.cellsOf 103 = 1 := by kernel_rfl
@[go_sem] theorem bytes103F : Tryz.prog.bytesOf 103 = 8 := by kernel_rfl
@[go_sem] theorem elemOk103F : elemOk Tryz.prog 103 = true := by kernel_rfl
@[go_sem] theorem azero103F : azero Tryz.prog 103 = .nilfunc := by kernel_rfl
@[go_sem] theorem notInt103F : notInt Tryz.prog 103 = true := by kernel_rfl
@[go_sem] theorem concrete103F : concrete Tryz.prog 103 = true := by kernel_rfl
attribute [go_sem] Tryz.underlying110
@[go_sem] theorem cells110F : Tryz.prog.cellsOf 110 = 2 := by kernel_rfl
@[go_sem] theorem bytes110F : Tryz.prog.bytesOf 110 = 24 := by kernel_rfl
@[go_sem] theorem elemOk110F : elemOk Tryz.prog 110 = true := by kernel_rfl
@[go_sem] theorem azero110F : azero Tryz.prog 110 = .agg [.int .i64 0, .str []] := by kernel_rfl
@[go_sem] theorem notInt110F : notInt Tryz.prog 110 = true := by kernel_rfl
@[go_sem] theorem concrete110F : concrete Tryz.prog 110 = true := by kernel_rfl
@[go_sem] theorem fieldsKnown110F : fieldsKnown Tryz.prog 110 = true := by kernel_rfl
@[go_sem] theorem stood110F : Tryz.prog.stoodInHeld 110 = false := by kernel_rfl
@[go_sem] theorem eqGuard110F : Tryz.prog.eqGuardType Tryz.prog.depth 110 = false := by kernel_rfl
attribute [go_sem] Tryz.underlying113
@[go_sem] theorem cells113F : Tryz.prog.cellsOf 113 = 1 := by kernel_rfl
@[go_sem] theorem bytes113F : Tryz.prog.bytesOf 113 = 16 := by kernel_rfl
@[go_sem] theorem elemOk113F : elemOk Tryz.prog 113 = true := by kernel_rfl
@[go_sem] theorem azero113F : azero Tryz.prog 113 = .nilIface := by kernel_rfl
@[go_sem] theorem notInt113F : notInt Tryz.prog 113 = true := by kernel_rfl
@[go_sem] theorem isIf113F : isIf Tryz.prog 113 = true := by kernel_rfl
attribute [go_sem] Tryz.underlying122
@[go_sem] theorem cells122F : Tryz.prog.cellsOf 122 = 1 := by kernel_rfl
@[go_sem] theorem bytes122F : Tryz.prog.bytesOf 122 = 0 := by kernel_rfl
@[go_sem] theorem notInt122F : notInt Tryz.prog 122 = true := by kernel_rfl
@[go_sem] theorem concrete122F : concrete Tryz.prog 122 = true := by kernel_rfl
attribute [go_sem] Tryz.underlying124
@[go_sem] theorem cells124F : Tryz.prog.cellsOf 124 = 1 := by kernel_rfl
@[go_sem] theorem bytes124F : Tryz.prog.bytesOf 124 = 0 := by kernel_rfl
@[go_sem] theorem notInt124F : notInt Tryz.prog 124 = true := by kernel_rfl
@[go_sem] theorem concrete124F : concrete Tryz.prog 124 = true := by kernel_rfl
attribute [go_sem] Tryz.underlying130
@[go_sem] theorem cells130F : Tryz.prog.cellsOf 130 = 1 := by kernel_rfl
@[go_sem] theorem bytes130F : Tryz.prog.bytesOf 130 = 24 := by kernel_rfl
@[go_sem] theorem elemOk130F : elemOk Tryz.prog 130 = true := by kernel_rfl
@[go_sem] theorem azero130F : azero Tryz.prog 130 = .sl true [] := by kernel_rfl
@[go_sem] theorem notInt130F : notInt Tryz.prog 130 = true := by kernel_rfl
@[go_sem] theorem isSl130F : isSl Tryz.prog 130 = true := by kernel_rfl
@[go_sem] theorem concrete130F : concrete Tryz.prog 130 = true := by kernel_rfl
attribute [go_sem] Tryz.underlying136
@[go_sem] theorem cells136F : Tryz.prog.cellsOf 136 = 7 := by kernel_rfl
@[go_sem] theorem bytes136F : Tryz.prog.bytesOf 136 = 72 := by kernel_rfl
@[go_sem] theorem elemOk136F : elemOk Tryz.prog 136 = true := by kernel_rfl
@[go_sem] theorem azero136F : azero Tryz.prog 136 = .agg [.int .i64 0, .int .i64 0, .int .i64 0, .int .i64 0, .int .i64 0, .str [], .str []] := by kernel_rfl
@[go_sem] theorem notInt136F : notInt Tryz.prog 136 = true := by kernel_rfl
@[go_sem] theorem concrete136F : concrete Tryz.prog 136 = true := by kernel_rfl
@[go_sem] theorem fieldsKnown136F : fieldsKnown Tryz.prog 136 = true := by kernel_rfl
@[go_sem] theorem stood136F : Tryz.prog.stoodInHeld 136 = false := by kernel_rfl
@[go_sem] theorem eqGuard136F : Tryz.prog.eqGuardType Tryz.prog.depth 136 = false := by kernel_rfl
attribute [go_sem] Tryz.underlying137
@[go_sem] theorem cells137F : Tryz.prog.cellsOf 137 = 7 := by kernel_rfl
@[go_sem] theorem bytes137F : Tryz.prog.bytesOf 137 = 72 := by kernel_rfl
@[go_sem] theorem elemOk137F : elemOk Tryz.prog 137 = true := by kernel_rfl
@[go_sem] theorem azero137F : azero Tryz.prog 137 = .agg [.int .i64 0, .int .i64 0, .int .i64 0, .int .i64 0, .int .i64 0, .str [], .str []] := by kernel_rfl
@[go_sem] theorem notInt137F : notInt Tryz.prog 137 = true := by kernel_rfl
@[go_sem] theorem concrete137F : concrete Tryz.prog 137 = true := by kernel_rfl
@[go_sem] theorem fieldsKnown137F : fieldsKnown Tryz.prog 137 = true := by kernel_rfl
@[go_sem] theorem stood137F : Tryz.prog.stoodInHeld 137 = false := by kernel_rfl
@[go_sem] theorem eqGuard137F : Tryz.prog.eqGuardType Tryz.prog.depth 137 = false := by kernel_rfl
attribute [go_sem] Tryz.underlying142
@[go_sem] theorem cells142F : Tryz.prog.cellsOf 142 = 1 := by kernel_rfl
@[go_sem] theorem bytes142F : Tryz.prog.bytesOf 142 = 8 := by kernel_rfl
@[go_sem] theorem elemOk142F : elemOk Tryz.prog 142 = true := by kernel_rfl
@[go_sem] theorem azero142F : azero Tryz.prog 142 = .nilfunc := by kernel_rfl
@[go_sem] theorem notInt142F : notInt Tryz.prog 142 = true := by kernel_rfl
@[go_sem] theorem concrete142F : concrete Tryz.prog 142 = true := by kernel_rfl
attribute [go_sem] Tryz.underlying144
@[go_sem] theorem cells144F : Tryz.prog.cellsOf 144 = 1 := by kernel_rfl
@[go_sem] theorem bytes144F : Tryz.prog.bytesOf 144 = 0 := by kernel_rfl
@[go_sem] theorem notInt144F : notInt Tryz.prog 144 = true := by kernel_rfl
@[go_sem] theorem concrete144F : concrete Tryz.prog 144 = true := by kernel_rfl
attribute [go_sem] Tryz.underlying145
@[go_sem] theorem cells145F : Tryz.prog.cellsOf 145 = 1 := by kernel_rfl
@[go_sem] theorem bytes145F : Tryz.prog.bytesOf 145 = 8 := by kernel_rfl
@[go_sem] theorem elemOk145F : elemOk Tryz.prog 145 = true := by kernel_rfl
@[go_sem] theorem azero145F : azero Tryz.prog 145 = .nilmap := by kernel_rfl
@[go_sem] theorem notInt145F : notInt Tryz.prog 145 = true := by kernel_rfl
@[go_sem] theorem concrete145F : concrete Tryz.prog 145 = true := by kernel_rfl
@[go_sem] theorem mapTy145F : mapTy Tryz.prog 145 = some (.string, 65) := by kernel_rfl
@[go_sem] theorem mapD145F : mapD Tryz.prog 145 = .string := by kernel_rfl
@[go_sem] theorem mapE145F : mapE Tryz.prog 145 = 65 := by kernel_rfl
attribute [go_sem] Tryz.underlying147
@[go_sem] theorem cells147F : Tryz.prog.cellsOf 147 = 1 := by kernel_rfl
@[go_sem] theorem bytes147F : Tryz.prog.bytesOf 147 = 0 := by kernel_rfl
@[go_sem] theorem notInt147F : notInt Tryz.prog 147 = true := by kernel_rfl
@[go_sem] theorem concrete147F : concrete Tryz.prog 147 = true := by kernel_rfl
attribute [go_sem] Tryz.underlying149
@[go_sem] theorem cells149F : Tryz.prog.cellsOf 149 = 1 := by kernel_rfl
@[go_sem] theorem bytes149F : Tryz.prog.bytesOf 149 = 8 := by kernel_rfl
@[go_sem] theorem elemOk149F : elemOk Tryz.prog 149 = true := by kernel_rfl
@[go_sem] theorem azero149F : azero Tryz.prog 149 = .int .u64 0 := by kernel_rfl
@[go_sem] theorem concrete149F : concrete Tryz.prog 149 = true := by kernel_rfl
attribute [go_sem] Tryz.underlying153
@[go_sem] theorem cells153F : Tryz.prog.cellsOf 153 = 1 := by kernel_rfl
@[go_sem] theorem bytes153F : Tryz.prog.bytesOf 153 = 24 := by kernel_rfl
@[go_sem] theorem elemOk153F : elemOk Tryz.prog 153 = true := by kernel_rfl
@[go_sem] theorem azero153F : azero Tryz.prog 153 = .sl true [] := by kernel_rfl
@[go_sem] theorem notInt153F : notInt Tryz.prog 153 = true := by kernel_rfl
@[go_sem] theorem isSl153F : isSl Tryz.prog 153 = true := by kernel_rfl
@[go_sem] theorem concrete153F : concrete Tryz.prog 153 = true := by kernel_rfl
attribute [go_sem] Tryz.underlying154
@[go_sem] theorem cells154F : Tryz.prog.cellsOf 154 = 1 := by kernel_rfl
@[go_sem] theorem bytes154F : Tryz.prog.bytesOf 154 = 0 := by kernel_rfl
@[go_sem] theorem notInt154F : notInt Tryz.prog 154 = true := by kernel_rfl
@[go_sem] theorem concrete154F : concrete Tryz.prog 154 = true := by kernel_rfl
attribute [go_sem] Tryz.underlying157
@[go_sem] theorem cells157F : Tryz.prog.cellsOf 157 = 1 := by kernel_rfl
@[go_sem] theorem bytes157F : Tryz.prog.bytesOf 157 = 8 := by kernel_rfl
@[go_sem] theorem elemOk157F : elemOk Tryz.prog 157 = true := by kernel_rfl
@[go_sem] theorem azero157F : azero Tryz.prog 157 = .nilfunc := by kernel_rfl
@[go_sem] theorem notInt157F : notInt Tryz.prog 157 = true := by kernel_rfl
@[go_sem] theorem concrete157F : concrete Tryz.prog 157 = true := by kernel_rfl
attribute [go_sem] Tryz.underlying158
@[go_sem] theorem cells158F : Tryz.prog.cellsOf 158 = 1 := by kernel_rfl
@[go_sem] theorem bytes158F : Tryz.prog.bytesOf 158 = 8 := by kernel_rfl
@[go_sem] theorem elemOk158F : elemOk Tryz.prog 158 = true := by kernel_rfl
@[go_sem] theorem azero158F : azero Tryz.prog 158 = .nilfunc := by kernel_rfl
@[go_sem] theorem notInt158F : notInt Tryz.prog 158 = true := by kernel_rfl
@[go_sem] theorem concrete158F : concrete Tryz.prog 158 = true := by kernel_rfl
attribute [go_sem] Tryz.underlying159
@[go_sem] theorem cells159F : Tryz.prog.cellsOf 159 = 1 := by kernel_rfl
@[go_sem] theorem bytes159F : Tryz.prog.bytesOf 159 = 8 := by kernel_rfl
@[go_sem] theorem elemOk159F : elemOk Tryz.prog 159 = true := by kernel_rfl
@[go_sem] theorem azero159F : azero Tryz.prog 159 = .nilfunc := by kernel_rfl
@[go_sem] theorem notInt159F : notInt Tryz.prog 159 = true := by kernel_rfl
@[go_sem] theorem concrete159F : concrete Tryz.prog 159 = true := by kernel_rfl
attribute [go_sem] Tryz.underlying164
@[go_sem] theorem cells164F : Tryz.prog.cellsOf 164 = 1 := by kernel_rfl
@[go_sem] theorem bytes164F : Tryz.prog.bytesOf 164 = 0 := by kernel_rfl
@[go_sem] theorem notInt164F : notInt Tryz.prog 164 = true := by kernel_rfl
@[go_sem] theorem concrete164F : concrete Tryz.prog 164 = true := by kernel_rfl
attribute [go_sem] Tryz.underlying168
@[go_sem] theorem cells168F : Tryz.prog.cellsOf 168 = 1 := by kernel_rfl
@[go_sem] theorem bytes168F : Tryz.prog.bytesOf 168 = 8 := by kernel_rfl
@[go_sem] theorem elemOk168F : elemOk Tryz.prog 168 = true := by kernel_rfl
@[go_sem] theorem azero168F : azero Tryz.prog 168 = .nilfunc := by kernel_rfl
@[go_sem] theorem notInt168F : notInt Tryz.prog 168 = true := by kernel_rfl
@[go_sem] theorem concrete168F : concrete Tryz.prog 168 = true := by kernel_rfl
attribute [go_sem] Tryz.underlying169
@[go_sem] theorem cells169F : Tryz.prog.cellsOf 169 = 256 := by kernel_rfl
@[go_sem] theorem bytes169F : Tryz.prog.bytesOf 169 = 256 := by kernel_rfl
@[go_sem] theorem elemOk169F : elemOk Tryz.prog 169 = true := by kernel_rfl
@[go_sem] theorem azero169F : azero Tryz.prog 169 = .agg [.int .u8 0, .int .u8 0, .int .u8 0, .int .u8 0, .int .u8 0, .int .u8 0, .int .u8 0, .int .u8 0, .int .u8 0, .int .u8 0, .int .u8 0, .int .u8 0, .int .u8 0, .int .u8 0, .int .u8 0, .int .u8 0, .int .u8 0, .int .u8 0, .int .u8 0, .int .u8 0, .int .u8 0, .int .u8 0, .int .u8 0, .int .u8 0, .int .u8 0, .int .u8 0, .int .u8 0, .int .u8 0, .int .u8 0, .int .u8 0, .int .u8 0, .int .u8 0, .int .u8 0, .int .u8 0, .int .u8 0, .int .u8 0, .int .u8 0, .int .u8 0, .int .u8 0, .int .u8 0, .int .u8 0, .int .u8 0, .int .u8 0, .int .u8 0, .int .u8 0, .int .u8 0, .int .u8 0, .int .u8 0, .int .u8 0, .int .u8 0, .int .u8 0, .int .u8 0, .int .u8 0, .int .u8 0, .int .u8 0, .int .u8 0, .int .u8 0, .int .u8 0, .int .u8 0, .int .u8 0, .int .u8 0, .int .u8 0, .int .u8 0, .int .u8 0, .int .u8 0, .int .u8 0, .int .u8 0, .int .u8 0, .int .u8 0, .int .u8 0, .int .u8 0, .int .u8 0, .int .u8 0, .int .u8 0, .int .u8 0, .int .u8 0, .int .u8 0, .int .u8 0, .int .u8 0, .int .u8 0, .int .u8 0, .int .u8 0, .int .u8 0, .int .u8 0, .int .u8 0, .int .u8 0, .int .u8 0, .int .u8 0, .int .u8 0, .int .u8 0, .int .u8 0, .int .u8 0, .int .u8 0, .int .u8 0, .int .u8 0, .int .u8 0, .int .u8 0, .int .u8 0, .int .u8 0, .int .u8 0, .int .u8 0, .int .u8 0, .int .u8 0, .int .u8 0, .int .u8 0, .int .u8 0, .int .u8 0, .int .u8 0, .int .u8 0, .int .u8 0, .int .u8 0, .int .u8 0, .int .u8 0, .int .u8 0, .int .u8 0, .int .u8 0, .int .u8 0, .int .u8 0, .int .u8 0, .int .u8 0, .int .u8 0, .int .u8 0, .int .u8 0, .int .u8 0, .int .u8 0, .int .u8 0, .int .u8 0, .int .u8 0, .int .u8 0, .int .u8 0, .int .u8 0, .int .u8 0, .int .u8 0, .int .u8 0, .int .u8 0, .int .u8 0, .int .u8 0, .int .u8 0, .int .u8 0, .int .u8 0, .int .u8 0, .int .u8 0, .int .u8 0, .int .u8 0, .int .u8 0, .int .u8 0, .int .u8 0, .int .u8 0, .int .u8 0, .int .u8 0, .int .u8 0, .int .u8 0, .int .u8 0, .int .u8 0, .int .u8 0, .int .u8 0, .int .u8 0, .int .u8 0, .int .u8 0, .int .u8 0, .int .u8 0, .int .u8 0, .int .u8 0, .int .u8 0, .int .u8 0, .int .u8 0, .int .u8 0, .int .u8 0, .int .u8 0, .int .u8 0, .int .u8 0, .int .u8 0, .int .u8 0, .int .u8 0, .int .u8 0, .int .u8 0, .int .u8 0, .int .u8 0, .int .u8 0, .int .u8 0, .int .u8 0, .int .u8 0, .int .u8 0, .int .u8 0, .int .u8 0, .int .u8 0, .int .u8 0, .int .u8 0, .int .u8 0, .int .u8 0, .int .u8 0, .int .u8 0, .int .u8 0, .int .u8 0, .int .u8 0, .int .u8 0, .int .u8 0, .int .u8 0, .int .u8 0, .int .u8 0, .int .u8 0, .int .u8 0, .int .u8 0, .int .u8 0, .int .u8 0, .int .u8 0, .int .u8 0, .int .u8 0, .int .u8 0, .int .u8 0, .int .u8 0, .int .u8 0, .int .u8 0, .int .u8 0, .int .u8 0, .int .u8 0, .int .u8 0, .int .u8 0, .int .u8 0, .int .u8 0, .int .u8 0, .int .u8 0, .int .u8 0, .int .u8 0, .int .u8 0, .int .u8 0, .int .u8 0, .int .u8 0, .int .u8 0, .int .u8 0, .int .u8 0, .int .u8 0, .int .u8 0, .int .u8 0, .int .u8 0, .int .u8 0, .int .u8 0, .int .u8 0, .int .u8 0, .int .u8 0, .int .u8 0, .int .u8 0, .int .u8 0, .int .u8 0, .int .u8 0, .int .u8 0, .int .u8 0, .int .u8 0, .int .u8 0, .int .u8 0, .int .u8 0, .int .u8 0, .int .u8 0, .int .u8 0, .int .u8 0, .int .u8 0] := by kernel_rfl
@[go_sem] theorem notInt169F : notInt Tryz.prog 169 = true := by kernel_rfl
@[go_sem] theorem concrete169F : concrete Tryz.prog 169 = true := by kernel_rfl
@[go_sem] theorem fieldsKnown169F : fieldsKnown Tryz.prog 169 = true := by kernel_rfl
@[go_sem] theorem stood169F : Tryz.prog.stoodInHeld 169 = false := by kernel_rfl
@[go_sem] theorem eqGuard169F : Tryz.prog.eqGuardType Tryz.prog.depth 169 = false := by kernel_rfl
attribute [go_sem] Tryz.underlying171
@[go_sem] theorem cells171F : Tryz.prog.cellsOf 171 = 2 := by kernel_rfl
@[go_sem] theorem bytes171F : Tryz.prog.bytesOf 171 = 2 := by kernel_rfl
@[go_sem] theorem elemOk171F : elemOk Tryz.prog 171 = true := by kernel_rfl
@[go_sem] theorem azero171F : azero Tryz.prog 171 = .agg [.int .u8 0, .int .u8 0] := by kernel_rfl
@[go_sem] theorem notInt171F : notInt Tryz.prog 171 = true := by kernel_rfl
@[go_sem] theorem concrete171F : concrete Tryz.prog 171 = true := by kernel_rfl
@[go_sem] theorem fieldsKnown171F : fieldsKnown Tryz.prog 171 = true := by kernel_rfl
@[go_sem] theorem stood171F : Tryz.prog.stoodInHeld 171 = false := by kernel_rfl
@[go_sem] theorem eqGuard171F : Tryz.prog.eqGuardType Tryz.prog.depth 171 = false := by kernel_rfl
attribute [go_sem] Tryz.underlying172
@[go_sem] theorem cells172F : Tryz.prog.cellsOf 172 = 32 := by kernel_rfl
@[go_sem] theorem bytes172F : Tryz.prog.bytesOf 172 = 32 := by kernel_rfl
@[go_sem] theorem elemOk172F : elemOk Tryz.prog 172 = true := by kernel_rfl
@[go_sem] theorem azero172F : azero Tryz.prog 172 = .agg [.int .u8 0, .int .u8 0, .int .u8 0, .int .u8 0, .int .u8 0, .int .u8 0, .int .u8 0, .int .u8 0, .int .u8 0, .int .u8 0, .int .u8 0, .int .u8 0, .int .u8 0, .int .u8 0, .int .u8 0, .int .u8 0, .int .u8 0, .int .u8 0, .int .u8 0, .int .u8 0, .int .u8 0, .int .u8 0, .int .u8 0, .int .u8 0, .int .u8 0, .int .u8 0, .int .u8 0, .int .u8 0, .int .u8 0, .int .u8 0, .int .u8 0, .int .u8 0] := by kernel_rfl
@[go_sem] theorem notInt172F : notInt Tryz.prog 172 = true := by kernel_rfl
@[go_sem] theorem concrete172F : concrete Tryz.prog 172 = true := by kernel_rfl
@[go_sem] theorem fieldsKnown172F : fieldsKnown Tryz.prog 172 = true := by kernel_rfl
@[go_sem] theorem stood172F : Tryz.prog.stoodInHeld 172 = false := by kernel_rfl
@[go_sem] theorem eqGuard172F : Tryz.prog.eqGuardType Tryz.prog.depth 172 = false := by kernel_rfl
attribute [go_sem] Tryz.underlying173
@[go_sem] theorem cells173F : Tryz.prog.cellsOf 173 = 1 := by kernel_rfl
@[go_sem] theorem bytes173F : Tryz.prog.bytesOf 173 = 4 := by kernel_rfl
@[go_sem] theorem elemOk173F : elemOk Tryz.prog 173 = true := by kernel_rfl
@[go_sem] theorem azero173F : azero Tryz.prog 173 = .int .u32 0 := by kernel_rfl
@[go_sem] theorem concrete173F : concrete Tryz.prog 173 = true := by kernel_rfl
attribute [go_sem] Tryz.underlying174
@[go_sem] theorem cells174F : Tryz.prog.cellsOf 174 = 1 := by kernel_rfl
@[go_sem] theorem bytes174F : Tryz.prog.bytesOf 174 = 0 := by kernel_rfl
@[go_sem] theorem notInt174F : notInt Tryz.prog 174 = true := by kernel_rfl
@[go_sem] theorem concrete174F : concrete Tryz.prog 174 = true := by kernel_rfl
@[go_sem] theorem amethod67_0F : amethod Tryz.prog 67 "gunwale/plan.next" = some 147 := by kernel_rfl
@[go_sem] theorem amethod76_0F : amethod Tryz.prog 76 "gunwale/plan.next" = some 148 := by kernel_rfl
@[go_sem] theorem amethod101_0F : amethod Tryz.prog 101 "gunwale/plan.next" = some 149 := by kernel_rfl
@[go_sem] theorem amethod136_1F : amethod Tryz.prog 136 "gunwale/op.fits" = some 150 := by kernel_rfl
@[go_sem] theorem amethod137_1F : amethod Tryz.prog 137 "gunwale/op.fits" = some 152 := by kernel_rfl
attribute [go_sem] Tryz.ntmps2 Tryz.results2
@[go_sem] theorem callOk2F : callOk Tryz.prog 2 = true := by kernel_rfl
attribute [go_sem] Tryz.ntmps3 Tryz.results3
@[go_sem] theorem callOk3F : callOk Tryz.prog 3 = true := by kernel_rfl
attribute [go_sem] Tryz.ntmps4 Tryz.results4
@[go_sem] theorem callOk4F : callOk Tryz.prog 4 = true := by kernel_rfl
attribute [go_sem] Tryz.ntmps5 Tryz.results5
@[go_sem] theorem callOk5F : callOk Tryz.prog 5 = true := by kernel_rfl
attribute [go_sem] Tryz.ntmps6 Tryz.results6
@[go_sem] theorem callOk6F : callOk Tryz.prog 6 = true := by kernel_rfl
attribute [go_sem] Tryz.ntmps7 Tryz.results7
@[go_sem] theorem callOk7F : callOk Tryz.prog 7 = true := by kernel_rfl
attribute [go_sem] Tryz.ntmps8 Tryz.results8
@[go_sem] theorem callOk8F : callOk Tryz.prog 8 = true := by kernel_rfl
attribute [go_sem] Tryz.ntmps9 Tryz.results9
@[go_sem] theorem callOk9F : callOk Tryz.prog 9 = true := by kernel_rfl
attribute [go_sem] Tryz.ntmps10 Tryz.results10
@[go_sem] theorem callOk10F : callOk Tryz.prog 10 = true := by kernel_rfl
attribute [go_sem] Tryz.ntmps11 Tryz.results11
@[go_sem] theorem callOk11F : callOk Tryz.prog 11 = true := by kernel_rfl
attribute [go_sem] Tryz.ntmps12 Tryz.results12
@[go_sem] theorem callOk12F : callOk Tryz.prog 12 = true := by kernel_rfl
attribute [go_sem] Tryz.ntmps13 Tryz.results13
@[go_sem] theorem callOk13F : callOk Tryz.prog 13 = true := by kernel_rfl
attribute [go_sem] Tryz.ntmps14 Tryz.results14
@[go_sem] theorem callOk14F : callOk Tryz.prog 14 = true := by kernel_rfl
attribute [go_sem] Tryz.ntmps15 Tryz.results15
@[go_sem] theorem callOk15F : callOk Tryz.prog 15 = true := by kernel_rfl
attribute [go_sem] Tryz.ntmps16 Tryz.results16
@[go_sem] theorem callOk16F : callOk Tryz.prog 16 = true := by kernel_rfl
attribute [go_sem] Tryz.ntmps17 Tryz.results17
@[go_sem] theorem callOk17F : callOk Tryz.prog 17 = true := by kernel_rfl
attribute [go_sem] Tryz.ntmps18 Tryz.results18
@[go_sem] theorem callOk18F : callOk Tryz.prog 18 = true := by kernel_rfl
attribute [go_sem] Tryz.ntmps19 Tryz.results19
@[go_sem] theorem callOk19F : callOk Tryz.prog 19 = true := by kernel_rfl
attribute [go_sem] Tryz.ntmps20 Tryz.results20
@[go_sem] theorem callOk20F : callOk Tryz.prog 20 = true := by kernel_rfl
attribute [go_sem] Tryz.ntmps21 Tryz.results21
@[go_sem] theorem callOk21F : callOk Tryz.prog 21 = true := by kernel_rfl
attribute [go_sem] Tryz.ntmps22 Tryz.results22
@[go_sem] theorem callOk22F : callOk Tryz.prog 22 = true := by kernel_rfl
attribute [go_sem] Tryz.ntmps23 Tryz.results23
@[go_sem] theorem callOk23F : callOk Tryz.prog 23 = true := by kernel_rfl
attribute [go_sem] Tryz.ntmps24 Tryz.results24
@[go_sem] theorem callOk24F : callOk Tryz.prog 24 = true := by kernel_rfl
attribute [go_sem] Tryz.ntmps25 Tryz.results25
@[go_sem] theorem callOk25F : callOk Tryz.prog 25 = true := by kernel_rfl
attribute [go_sem] Tryz.ntmps26 Tryz.results26
@[go_sem] theorem callOk26F : callOk Tryz.prog 26 = true := by kernel_rfl
attribute [go_sem] Tryz.ntmps27 Tryz.results27
@[go_sem] theorem callOk27F : callOk Tryz.prog 27 = true := by kernel_rfl
attribute [go_sem] Tryz.ntmps28 Tryz.results28
@[go_sem] theorem callOk28F : callOk Tryz.prog 28 = true := by kernel_rfl
attribute [go_sem] Tryz.ntmps29 Tryz.results29
@[go_sem] theorem callOk29F : callOk Tryz.prog 29 = true := by kernel_rfl
attribute [go_sem] Tryz.ntmps30 Tryz.results30
@[go_sem] theorem callOk30F : callOk Tryz.prog 30 = true := by kernel_rfl
attribute [go_sem] Tryz.ntmps31 Tryz.results31
@[go_sem] theorem callOk31F : callOk Tryz.prog 31 = true := by kernel_rfl
attribute [go_sem] Tryz.ntmps32 Tryz.results32
@[go_sem] theorem callOk32F : callOk Tryz.prog 32 = true := by kernel_rfl
attribute [go_sem] Tryz.ntmps33 Tryz.results33
@[go_sem] theorem callOk33F : callOk Tryz.prog 33 = true := by kernel_rfl
attribute [go_sem] Tryz.ntmps34 Tryz.results34
@[go_sem] theorem callOk34F : callOk Tryz.prog 34 = true := by kernel_rfl
attribute [go_sem] Tryz.ntmps35 Tryz.results35
@[go_sem] theorem callOk35F : callOk Tryz.prog 35 = true := by kernel_rfl
attribute [go_sem] Tryz.ntmps36 Tryz.results36
@[go_sem] theorem callOk36F : callOk Tryz.prog 36 = true := by kernel_rfl
attribute [go_sem] Tryz.ntmps37 Tryz.results37
@[go_sem] theorem callOk37F : callOk Tryz.prog 37 = true := by kernel_rfl
attribute [go_sem] Tryz.ntmps38 Tryz.results38
@[go_sem] theorem callOk38F : callOk Tryz.prog 38 = true := by kernel_rfl
attribute [go_sem] Tryz.ntmps39 Tryz.results39
@[go_sem] theorem callOk39F : callOk Tryz.prog 39 = true := by kernel_rfl
attribute [go_sem] Tryz.ntmps40 Tryz.results40
@[go_sem] theorem callOk40F : callOk Tryz.prog 40 = true := by kernel_rfl
attribute [go_sem] Tryz.ntmps41 Tryz.results41
@[go_sem] theorem callOk41F : callOk Tryz.prog 41 = true := by kernel_rfl
attribute [go_sem] Tryz.ntmps42 Tryz.results42
@[go_sem] theorem callOk42F : callOk Tryz.prog 42 = true := by kernel_rfl
attribute [go_sem] Tryz.ntmps43 Tryz.results43
@[go_sem] theorem callOk43F : callOk Tryz.prog 43 = true := by kernel_rfl
attribute [go_sem] Tryz.ntmps44 Tryz.results44
@[go_sem] theorem callOk44F : callOk Tryz.prog 44 = true := by kernel_rfl
attribute [go_sem] Tryz.ntmps45 Tryz.results45
@[go_sem] theorem callOk45F : callOk Tryz.prog 45 = true := by kernel_rfl
attribute [go_sem] Tryz.ntmps46 Tryz.results46
@[go_sem] theorem callOk46F : callOk Tryz.prog 46 = true := by kernel_rfl
attribute [go_sem] Tryz.ntmps47 Tryz.results47
@[go_sem] theorem callOk47F : callOk Tryz.prog 47 = true := by kernel_rfl
attribute [go_sem] Tryz.ntmps48 Tryz.results48
@[go_sem] theorem callOk48F : callOk Tryz.prog 48 = true := by kernel_rfl
attribute [go_sem] Tryz.ntmps49 Tryz.results49
@[go_sem] theorem callOk49F : callOk Tryz.prog 49 = true := by kernel_rfl
attribute [go_sem] Tryz.ntmps50 Tryz.results50
@[go_sem] theorem callOk50F : callOk Tryz.prog 50 = true := by kernel_rfl
attribute [go_sem] Tryz.ntmps51 Tryz.results51
@[go_sem] theorem callOk51F : callOk Tryz.prog 51 = true := by kernel_rfl
attribute [go_sem] Tryz.ntmps52 Tryz.results52
@[go_sem] theorem callOk52F : callOk Tryz.prog 52 = true := by kernel_rfl
attribute [go_sem] Tryz.ntmps53 Tryz.results53
@[go_sem] theorem callOk53F : callOk Tryz.prog 53 = true := by kernel_rfl
attribute [go_sem] Tryz.ntmps54 Tryz.results54
@[go_sem] theorem callOk54F : callOk Tryz.prog 54 = true := by kernel_rfl
attribute [go_sem] Tryz.ntmps55 Tryz.results55
@[go_sem] theorem callOk55F : callOk Tryz.prog 55 = true := by kernel_rfl
attribute [go_sem] Tryz.ntmps56 Tryz.results56
@[go_sem] theorem callOk56F : callOk Tryz.prog 56 = true := by kernel_rfl
attribute [go_sem] Tryz.ntmps57 Tryz.results57
@[go_sem] theorem callOk57F : callOk Tryz.prog 57 = true := by kernel_rfl
attribute [go_sem] Tryz.ntmps58 Tryz.results58
@[go_sem] theorem callOk58F : callOk Tryz.prog 58 = true := by kernel_rfl
attribute [go_sem] Tryz.ntmps59 Tryz.results59
@[go_sem] theorem callOk59F : callOk Tryz.prog 59 = true := by kernel_rfl
attribute [go_sem] Tryz.ntmps60 Tryz.results60
@[go_sem] theorem callOk60F : callOk Tryz.prog 60 = true := by kernel_rfl
attribute [go_sem] Tryz.ntmps61 Tryz.results61
@[go_sem] theorem callOk61F : callOk Tryz.prog 61 = true := by kernel_rfl
attribute [go_sem] Tryz.ntmps62 Tryz.results62
@[go_sem] theorem callOk62F : callOk Tryz.prog 62 = true := by kernel_rfl
attribute [go_sem] Tryz.ntmps63 Tryz.results63
@[go_sem] theorem callOk63F : callOk Tryz.prog 63 = true := by kernel_rfl
attribute [go_sem] Tryz.ntmps64 Tryz.results64
@[go_sem] theorem callOk64F : callOk Tryz.prog 64 = true := by kernel_rfl
attribute [go_sem] Tryz.ntmps65 Tryz.results65
@[go_sem] theorem callOk65F : callOk Tryz.prog 65 = true := by kernel_rfl
attribute [go_sem] Tryz.ntmps66 Tryz.results66
@[go_sem] theorem callOk66F : callOk Tryz.prog 66 = true := by kernel_rfl
attribute [go_sem] Tryz.ntmps67 Tryz.results67
@[go_sem] theorem callOk67F : callOk Tryz.prog 67 = true := by kernel_rfl
attribute [go_sem] Tryz.ntmps68 Tryz.results68
@[go_sem] theorem callOk68F : callOk Tryz.prog 68 = true := by kernel_rfl
attribute [go_sem] Tryz.ntmps69 Tryz.results69
@[go_sem] theorem callOk69F : callOk Tryz.prog 69 = true := by kernel_rfl
attribute [go_sem] Tryz.ntmps70 Tryz.results70
@[go_sem] theorem callOk70F : callOk Tryz.prog 70 = true := by kernel_rfl
attribute [go_sem] Tryz.ntmps71 Tryz.results71
@[go_sem] theorem callOk71F : callOk Tryz.prog 71 = true := by kernel_rfl
attribute [go_sem] Tryz.ntmps72 Tryz.results72
@[go_sem] theorem callOk72F : callOk Tryz.prog 72 = true := by kernel_rfl
attribute [go_sem] Tryz.ntmps73 Tryz.results73
@[go_sem] theorem callOk73F : callOk Tryz.prog 73 = true := by kernel_rfl
attribute [go_sem] Tryz.ntmps74 Tryz.results74
@[go_sem] theorem callOk74F : callOk Tryz.prog 74 = true := by kernel_rfl
attribute [go_sem] Tryz.ntmps75 Tryz.results75
@[go_sem] theorem callOk75F : callOk Tryz.prog 75 = true := by kernel_rfl
attribute [go_sem] Tryz.ntmps76 Tryz.results76
@[go_sem] theorem callOk76F : callOk Tryz.prog 76 = true := by kernel_rfl
attribute [go_sem] Tryz.ntmps77 Tryz.results77
@[go_sem] theorem callOk77F : callOk Tryz.prog 77 = true := by kernel_rfl
attribute [go_sem] Tryz.ntmps78 Tryz.results78
@[go_sem] theorem callOk78F : callOk Tryz.prog 78 = true := by kernel_rfl
attribute [go_sem] Tryz.ntmps79 Tryz.results79
@[go_sem] theorem callOk79F : callOk Tryz.prog 79 = true := by kernel_rfl
attribute [go_sem] Tryz.ntmps80 Tryz.results80
@[go_sem] theorem callOk80F : callOk Tryz.prog 80 = true := by kernel_rfl
attribute [go_sem] Tryz.ntmps81 Tryz.results81
@[go_sem] theorem callOk81F : callOk Tryz.prog 81 = true := by kernel_rfl
attribute [go_sem] Tryz.ntmps82 Tryz.results82
@[go_sem] theorem callOk82F : callOk Tryz.prog 82 = true := by kernel_rfl
attribute [go_sem] Tryz.ntmps83 Tryz.results83
@[go_sem] theorem callOk83F : callOk Tryz.prog 83 = true := by kernel_rfl
attribute [go_sem] Tryz.ntmps84 Tryz.results84
@[go_sem] theorem callOk84F : callOk Tryz.prog 84 = true := by kernel_rfl
attribute [go_sem] Tryz.ntmps85 Tryz.results85
@[go_sem] theorem callOk85F : callOk Tryz.prog 85 = true := by kernel_rfl
attribute [go_sem] Tryz.ntmps86 Tryz.results86
@[go_sem] theorem callOk86F : callOk Tryz.prog 86 = true := by kernel_rfl
attribute [go_sem] Tryz.ntmps87 Tryz.results87
@[go_sem] theorem callOk87F : callOk Tryz.prog 87 = true := by kernel_rfl
attribute [go_sem] Tryz.ntmps88 Tryz.results88
@[go_sem] theorem callOk88F : callOk Tryz.prog 88 = true := by kernel_rfl
attribute [go_sem] Tryz.ntmps89 Tryz.results89
@[go_sem] theorem callOk89F : callOk Tryz.prog 89 = true := by kernel_rfl
attribute [go_sem] Tryz.ntmps90 Tryz.results90
@[go_sem] theorem callOk90F : callOk Tryz.prog 90 = true := by kernel_rfl
attribute [go_sem] Tryz.ntmps91 Tryz.results91
@[go_sem] theorem callOk91F : callOk Tryz.prog 91 = true := by kernel_rfl
attribute [go_sem] Tryz.ntmps92 Tryz.results92
@[go_sem] theorem callOk92F : callOk Tryz.prog 92 = true := by kernel_rfl
attribute [go_sem] Tryz.ntmps93 Tryz.results93
@[go_sem] theorem callOk93F : callOk Tryz.prog 93 = true := by kernel_rfl
attribute [go_sem] Tryz.ntmps94 Tryz.results94
@[go_sem] theorem callOk94F : callOk Tryz.prog 94 = true := by kernel_rfl
attribute [go_sem] Tryz.ntmps95 Tryz.results95
@[go_sem] theorem callOk95F : callOk Tryz.prog 95 = true := by kernel_rfl
attribute [go_sem] Tryz.ntmps96 Tryz.results96
@[go_sem] theorem callOk96F : callOk Tryz.prog 96 = true := by kernel_rfl
attribute [go_sem] Tryz.ntmps97 Tryz.results97
@[go_sem] theorem callOk97F : callOk Tryz.prog 97 = true := by kernel_rfl
attribute [go_sem] Tryz.ntmps98 Tryz.results98
@[go_sem] theorem callOk98F : callOk Tryz.prog 98 = true := by kernel_rfl
attribute [go_sem] Tryz.ntmps99 Tryz.results99
@[go_sem] theorem callOk99F : callOk Tryz.prog 99 = true := by kernel_rfl
attribute [go_sem] Tryz.ntmps100 Tryz.results100
@[go_sem] theorem callOk100F : callOk Tryz.prog 100 = true := by kernel_rfl
attribute [go_sem] Tryz.ntmps101 Tryz.results101
@[go_sem] theorem callOk101F : callOk Tryz.prog 101 = true := by kernel_rfl
attribute [go_sem] Tryz.ntmps102 Tryz.results102
@[go_sem] theorem callOk102F : callOk Tryz.prog 102 = true := by kernel_rfl
attribute [go_sem] Tryz.ntmps103 Tryz.results103
@[go_sem] theorem callOk103F : callOk Tryz.prog 103 = true := by kernel_rfl
attribute [go_sem] Tryz.ntmps104 Tryz.results104
@[go_sem] theorem callOk104F : callOk Tryz.prog 104 = true := by kernel_rfl
attribute [go_sem] Tryz.ntmps105 Tryz.results105
@[go_sem] theorem callOk105F : callOk Tryz.prog 105 = true := by kernel_rfl
attribute [go_sem] Tryz.ntmps106 Tryz.results106
@[go_sem] theorem callOk106F : callOk Tryz.prog 106 = true := by kernel_rfl
attribute [go_sem] Tryz.ntmps107 Tryz.results107
@[go_sem] theorem callOk107F : callOk Tryz.prog 107 = true := by kernel_rfl
attribute [go_sem] Tryz.ntmps108 Tryz.results108
@[go_sem] theorem callOk108F : callOk Tryz.prog 108 = true := by kernel_rfl
attribute [go_sem] Tryz.ntmps109 Tryz.results109
@[go_sem] theorem callOk109F : callOk Tryz.prog 109 = true := by kernel_rfl
attribute [go_sem] Tryz.ntmps110 Tryz.results110
@[go_sem] theorem callOk110F : callOk Tryz.prog 110 = true := by kernel_rfl
attribute [go_sem] Tryz.ntmps111 Tryz.results111
@[go_sem] theorem callOk111F : callOk Tryz.prog 111 = true := by kernel_rfl
attribute [go_sem] Tryz.ntmps112 Tryz.results112
@[go_sem] theorem callOk112F : callOk Tryz.prog 112 = true := by kernel_rfl
attribute [go_sem] Tryz.ntmps113 Tryz.results113
@[go_sem] theorem callOk113F : callOk Tryz.prog 113 = true := by kernel_rfl
attribute [go_sem] Tryz.ntmps114 Tryz.results114
@[go_sem] theorem callOk114F : callOk Tryz.prog 114 = true := by kernel_rfl
attribute [go_sem] Tryz.ntmps115 Tryz.results115
@[go_sem] theorem callOk115F : callOk Tryz.prog 115 = true := by kernel_rfl
attribute [go_sem] Tryz.ntmps116 Tryz.results116
@[go_sem] theorem callOk116F : callOk Tryz.prog 116 = true := by kernel_rfl
attribute [go_sem] Tryz.ntmps117 Tryz.results117
@[go_sem] theorem callOk117F : callOk Tryz.prog 117 = true := by kernel_rfl
attribute [go_sem] Tryz.ntmps118 Tryz.results118
@[go_sem] theorem callOk118F : callOk Tryz.prog 118 = true := by kernel_rfl
attribute [go_sem] Tryz.ntmps119 Tryz.results119
@[go_sem] theorem callOk119F : callOk Tryz.prog 119 = true := by kernel_rfl
attribute [go_sem] Tryz.ntmps121 Tryz.results121
@[go_sem] theorem callOk121F : callOk Tryz.prog 121 = true := by kernel_rfl
attribute [go_sem] Tryz.ntmps122 Tryz.results122
@[go_sem] theorem callOk122F : callOk Tryz.prog 122 = true := by kernel_rfl
attribute [go_sem] Tryz.ntmps123 Tryz.results123
@[go_sem] theorem callOk123F : callOk Tryz.prog 123 = true := by kernel_rfl
attribute [go_sem] Tryz.ntmps124 Tryz.results124
@[go_sem] theorem callOk124F : callOk Tryz.prog 124 = true := by kernel_rfl
attribute [go_sem] Tryz.ntmps125 Tryz.results125
@[go_sem] theorem callOk125F : callOk Tryz.prog 125 = true := by kernel_rfl
attribute [go_sem] Tryz.ntmps126 Tryz.results126
@[go_sem] theorem callOk126F : callOk Tryz.prog 126 = true := by kernel_rfl
attribute [go_sem] Tryz.ntmps128 Tryz.results128
@[go_sem] theorem callOk128F : callOk Tryz.prog 128 = true := by kernel_rfl
attribute [go_sem] Tryz.ntmps129 Tryz.results129
@[go_sem] theorem callOk129F : callOk Tryz.prog 129 = true := by kernel_rfl
attribute [go_sem] Tryz.ntmps131 Tryz.results131
@[go_sem] theorem callOk131F : callOk Tryz.prog 131 = true := by kernel_rfl
attribute [go_sem] Tryz.ntmps147 Tryz.results147
@[go_sem] theorem callOk147F : callOk Tryz.prog 147 = true := by kernel_rfl
attribute [go_sem] Tryz.ntmps148 Tryz.results148
@[go_sem] theorem callOk148F : callOk Tryz.prog 148 = true := by kernel_rfl
attribute [go_sem] Tryz.ntmps149 Tryz.results149
@[go_sem] theorem callOk149F : callOk Tryz.prog 149 = true := by kernel_rfl
attribute [go_sem] Tryz.ntmps150 Tryz.results150
@[go_sem] theorem callOk150F : callOk Tryz.prog 150 = true := by kernel_rfl
attribute [go_sem] Tryz.ntmps152 Tryz.results152
@[go_sem] theorem callOk152F : callOk Tryz.prog 152 = true := by kernel_rfl
attribute [go_sem] Tryz.ntmps159 Tryz.results159
@[go_sem] theorem callOk159F : callOk Tryz.prog 159 = true := by kernel_rfl
end Go.Proofs.YtmknmapgfjmioaaGreatDoor
/- The abstract machine: what a row hands in, as abstract values; and a function that leaves the heap alone, as a step of a row. No condition. -/
namespace Go.Aw
open Go Go.ChangeShapes Go.WideShapes Go.ChangeAt Go.RowKit
variable {P : Program}

def isAggT (P : Program) (t : TypeId) : Bool :=
  match P.underlying t with
  | some (.struct _) | some (.array _ _) => true
  | _ => false

/-- The value that has these cells. -/
def mkA (P : Program) (t : TypeId) (ys : List AV) : AV := if isAggT P t = true then .agg ys else ys.headD .top

/-- The fields of a struct lie one behind the other. -/
def layB (P : Program) : Nat → List Field → Bool
  | _, [] => true
  | off, f :: fs => (f.offset == off) && layB P (off + P.cellsOf f.type) fs

def layEnd (P : Program) : Nat → List Field → Nat
  | off, [] => off
  | off, f :: fs => layEnd P (off + P.cellsOf f.type) fs

/-- A type that is read cell by cell. -/
def kindB (P : Program) (t : TypeId) : Bool :=
  match P.underlying t with
  | some .bool | some (.int _) | some .string => true
  | some (.slice e) => (P.cellsOf e != 0) && (isAggT P e || (P.cellsOf e == 1))
  | some (.struct fs) => layB P 0 fs.toList && (layEnd P 0 fs.toList == P.cellsOf t)
  | _ => false

mutual
/-- The cells of a value of this type, as they came in. -/
inductive Sh (P : Program) : TypeId → List AV → Prop
  | bool (t : TypeId) (b : Bool) (h : P.underlying t = some .bool) : Sh P t [.bool b]
  | int (t : TypeId) (k : IntKind) (n : Int) (h : P.underlying t = some (.int k)) (hw : (Lit.int k n).wf = true) : Sh P t [.int k n]
  | str (t : TypeId) (s : List UInt8) (h : P.underlying t = some .string) (hl : s.length ≤ maxLen) : Sh P t [.str s]
  | slice (t e : TypeId) (zs : List (List AV)) (h : P.underlying t = some (.slice e)) (hl : zs.length ≤ maxLen) (hz : ∀ z ∈ zs, Sh P e z) (hc : ∀ z ∈ zs, z.length = P.cellsOf e) : Sh P t [.sl false (zs.map (mkA P e))]
  | struct (t : TypeId) (fs : Array Field) (ys : List AV) (h : P.underlying t = some (.struct fs)) (hf : ShF P fs.toList ys) : Sh P t ys
  | other (t : TypeId) (ys : List AV) (h : kindB P t = false) (hy : ∀ y ∈ ys, y = .top) : Sh P t ys
inductive ShF (P : Program) : List Field → List AV → Prop
  | nil : ShF P [] []
  | cons (f : Field) (fs : List Field) (z ys : List AV) (h : Sh P f.type z) (hs : ShF P fs ys) : ShF P (f :: fs) (z ++ ys)
end

theorem sh_bool {t : TypeId} {ys : List AV} (ht : P.underlying t = some .bool) (h : Sh P t ys) : ∃ b, ys = [.bool b] := by
  cases h with
  | bool _ b => exact ⟨b, rfl⟩
  | int _ _ _ h => rw [ht] at h; cases h
  | str _ _ h => rw [ht] at h; cases h
  | slice _ _ _ h => rw [ht] at h; cases h
  | struct _ _ _ h => rw [ht] at h; cases h
  | other _ _ h _ => rw [kindB, ht] at h; cases h
theorem sh_int {t : TypeId} {k : IntKind} {ys : List AV} (ht : P.underlying t = some (.int k)) (h : Sh P t ys) : ∃ n, ys = [.int k n] ∧ (Lit.int k n).wf = true := by
  cases h with
  | bool _ _ h => rw [ht] at h; cases h
  | int _ _ n h hw => rw [ht] at h; cases h; exact ⟨n, rfl, hw⟩
  | str _ _ h => rw [ht] at h; cases h
  | slice _ _ _ h => rw [ht] at h; cases h
  | struct _ _ _ h => rw [ht] at h; cases h
  | other _ _ h _ => rw [kindB, ht] at h; cases h
theorem sh_str {t : TypeId} {ys : List AV} (ht : P.underlying t = some .string) (h : Sh P t ys) : ∃ s, ys = [.str s] ∧ s.length ≤ maxLen := by
  cases h with
  | bool _ _ h => rw [ht] at h; cases h
  | int _ _ _ h => rw [ht] at h; cases h
  | str _ s _ hl => exact ⟨s, rfl, hl⟩
  | slice _ _ _ h => rw [ht] at h; cases h
  | struct _ _ _ h => rw [ht] at h; cases h
  | other _ _ h _ => rw [kindB, ht] at h; cases h
theorem sh_slice {t e : TypeId} {ys : List AV} (ht : P.underlying t = some (.slice e)) (hk : kindB P t = true) (h : Sh P t ys) :
    ∃ zs : List (List AV), ys = [.sl false (zs.map (mkA P e))] ∧ zs.length ≤ maxLen ∧ ∀ z ∈ zs, Sh P e z := by
  cases h with
  | bool _ _ h => rw [ht] at h; cases h
  | int _ _ _ h => rw [ht] at h; cases h
  | str _ _ h => rw [ht] at h; cases h
  | slice _ _ zs h hl hz => rw [ht] at h; cases h; exact ⟨zs, rfl, hl, hz⟩
  | struct _ _ _ h => rw [ht] at h; cases h
  | other _ _ h _ => rw [hk] at h; cases h
theorem sh_struct {t : TypeId} {fs : Array Field} {ys : List AV} (ht : P.underlying t = some (.struct fs)) (hk : kindB P t = true) (h : Sh P t ys) : ShF P fs.toList ys := by
  cases h with
  | bool _ _ h => rw [ht] at h; cases h
  | int _ _ _ h => rw [ht] at h; cases h
  | str _ _ h => rw [ht] at h; cases h
  | slice _ _ _ h => rw [ht] at h; cases h
  | struct _ _ _ h hf => rw [ht] at h; cases h; exact hf
  | other _ _ h => rw [hk] at h; cases h
theorem shF_nil {ys : List AV} (h : ShF P [] ys) : ys = [] := by cases h; rfl
theorem shF_cons {f : Field} {fs : List Field} {ys : List AV} (h : ShF P (f :: fs) ys) : ∃ z zs, ys = z ++ zs ∧ Sh P f.type z ∧ ShF P fs zs := by
  cases h with
  | cons _ _ z zs h hs => exact ⟨z, zs, rfl, h, hs⟩

/-- Cells that stand for these. -/
def RepC (c : Ctx) (ys : List AV) (cs : List Value) : Prop := ys.length = cs.length ∧ ∀ (i : Nat) (y : AV) (v : Value), ys[i]? = some y → cs[i]? = some v → Rep c y v

theorem repC_one {c : Ctx} {y : AV} {v : Value} (h : Rep c y v) : RepC c [y] [v] := by
  refine ⟨rfl, fun i x u hx hu => ?_⟩
  cases i with
  | zero => simp at hx hu; subst hx; subst hu; exact h
  | succ i => simp at hx

theorem repC_top {c : Ctx} (cs : List Value) : RepC c (cs.map fun _ => .top) cs := by
  refine ⟨by simp, fun i x u hx _ => ?_⟩
  rw [List.getElem?_map] at hx
  obtain ⟨_, _, rfl⟩ := Option.map_eq_some_iff.1 hx
  exact .top _

theorem repC_app {c : Ctx} {y z : List AV} {a b : List Value} (h : RepC c y a) (k : RepC c z b) : RepC c (y ++ z) (a ++ b) := by
  refine ⟨by simp [h.1, k.1], fun i x u hx hu => ?_⟩
  by_cases hi : i < y.length
  · rw [List.getElem?_append_left hi] at hx
    rw [List.getElem?_append_left (by rw [← h.1]; exact hi)] at hu
    exact h.2 i x u hx hu
  · rw [List.getElem?_append_right (by omega)] at hx
    rw [List.getElem?_append_right (by rw [← h.1]; omega), ← h.1] at hu
    exact k.2 _ x u hx hu

theorem lt_of_cell {w : World} {a : Addr} {v : Value} (h : w.cell? a = some v) : a.block < w.heap.size := by
  unfold World.cell? at h
  cases hb : w.heap[a.block]? with
  | none => rw [hb] at h; simp at h
  | some o => exact (Array.getElem?_eq_some_iff.1 hb).1

section
variable {H : Type} {enc : TypeId × Value → H} {W : World} {base : Nat} {sp : Nat → Bool} {held : Bool}

theorem wf_inR {k : IntKind} {n : Int} (h : (Lit.int k n).wf = true) : inR k n := by
  have h2 : (decide (k.min ≤ n) && decide (n ≤ k.max)) = true := h
  simpa [inR] using h2

/-- Texts and slices are no longer than so much. -/
inductive LeA (n : Nat) : AV → Prop
  | int (k m) : LeA n (.int k m)
  | bool (b) : LeA n (.bool b)
  | str (s) (h : s.length ≤ n) : LeA n (.str s)
  | agg (cs : List AV) (h : ∀ x ∈ cs, LeA n x) : LeA n (.agg cs)
  | sl (f) (es : List AV) (hl : es.length ≤ n) (h : ∀ x ∈ es, LeA n x) : LeA n (.sl f es)
  | top : LeA n .top
theorem LeA.mono {n m : Nat} {x : AV} (h : LeA n x) (hm : n ≤ m) : LeA m x := by
  induction h with
  | int => exact .int _ _
  | bool => exact .bool _
  | str s h => exact .str s (Nat.le_trans h hm)
  | agg cs _ ih => exact .agg cs ih
  | sl f es hl _ ih => exact .sl f es (Nat.le_trans hl hm) ih
  | top => exact .top
theorem LeA.mk {n : Nat} {P : Program} {t : TypeId} {ys : List AV} (h : ∀ y ∈ ys, LeA n y) : LeA n (mkA P t ys) := by
  unfold mkA
  split
  · exact .agg ys h
  · cases ys with
    | nil => exact .top
    | cons y ys => exact h y (by simp)
mutual
def dBulk {H : Type} : DataW H → Nat
  | .lit (.string bytes) => bytes.length + 1
  | .lit _ => 1
  | .nil => 1
  | .ptr d => dBulk d + 1
  | .slice elems spare => dBulkAll elems + dBulkAll spare + 1
  | .agg parts => dBulkAll parts + 1
  | .iface _ d => dBulk d + 1
  | .map entries => dBulkEntries entries + 1
  | .held _ => 1
def dBulkAll {H : Type} : List (DataW H) → Nat
  | [] => 0
  | d :: r => dBulk d + dBulkAll r
def dBulkEntries {H : Type} : List (Lit × DataW H) → Nat
  | [] => 0
  | x :: r => dBulkEntry x + dBulkEntries r
def dBulkEntry {H : Type} : Lit × DataW H → Nat
  | (.string bytes, d) => bytes.length + dBulk d + 1
  | (_, d) => dBulk d + 1
end
theorem dBulk_one {H : Type} (d : DataW H) : 1 ≤ dBulk d := by
  cases d with
  | lit l => cases l <;> simp [dBulk]
  | _ => simp [dBulk]
theorem dBulk_len {H : Type} (l : List (DataW H)) : l.length ≤ dBulkAll l := by
  induction l with
  | nil => simp [dBulkAll]
  | cons x r ih => have := dBulk_one x; simp only [dBulkAll, List.length_cons]; omega
theorem dBulk_mem {H : Type} {d : DataW H} {l : List (DataW H)} (h : d ∈ l) : dBulk d ≤ dBulkAll l := by
  induction l with
  | nil => cases h
  | cons x r ih =>
    simp only [dBulkAll]
    cases h with
    | head => omega
    | tail _ h => have := ih h; omega

theorem trod_rep {c : Ctx} (hw : c.w = W) (hst : ∀ b, b < W.heap.size → c.stable b) : ∀ (fuel : Nat) (t : TypeId) (cs : List Value) (x : DataW H × List MemPlace), DataW.trod enc P W base sp held fuel t cs = some x →
    ∃ ys, Sh P t ys ∧ RepC c ys cs ∧ ∀ y ∈ ys, LeA (dBulk x.1) y := by
  intro fuel
  induction fuel with
  | zero => intro t cs x h; simp [DataW.trod] at h
  | succ fuel ih =>
    intro t cs x h
    cases hk : kindB P t with
    | false => exact ⟨_, .other t _ hk (by simp), repC_top cs, fun y hy => by simp at hy; rw [← hy.2]; exact .top⟩
    | true =>
      have hk' := hk
      unfold kindB at hk
      split at hk
      · rename_i hu
        obtain ⟨b, rfl, -⟩ := DataW.trod_bool hu h
        exact ⟨_, .bool t b hu, repC_one (.bool b), fun y hy => by simp at hy; subst hy; exact .bool _⟩
      · rename_i k hu
        obtain ⟨n, rfl, -, hwf⟩ := DataW.trod_int hu h
        exact ⟨_, .int t k n hu hwf, repC_one (.int k n (wf_inR hwf)), fun y hy => by simp at hy; subst hy; exact .int _ _⟩
      · rename_i hu
        obtain ⟨s, rfl, hx, hl⟩ := DataW.trod_string hu h
        refine ⟨_, .str t s.data.toList hu (by simpa using hl), repC_one ?_, fun y hy => by simp at hy; subst hy; exact .str _ (by rw [hx]; simp [dBulk])⟩
        have := Rep.str (c := c) s.data.toList (by simpa [maxLen] using hl)
        simpa using this
      · rename_i e hu
        rw [Bool.and_eq_true] at hk
        have he : P.cellsOf e ≠ 0 := by simpa using hk.1
        have he1 : isAggT P e = true ∨ P.cellsOf e = 1 := by simpa using hk.2
        rcases DataW.trod_slice hu h with ⟨rfl, -⟩ | ⟨a, len, cap, elems, rest, n, hn, rfl, hx, hb, hl, hm, hlen, hel, -, -⟩
        · refine ⟨[.sl false (([] : List (List AV)).map (mkA P e))], .slice t e [] hu (Nat.zero_le _) (by simp) (by simp), repC_one ?_, fun y hy => by simp at hy; subst hy; exact .sl _ _ (Nat.zero_le _) (by simp)⟩
          exact .sl false [] none 0 0 0 (fun _ _ => undef) rfl (Nat.le_refl _) (fun h => by cases h) (fun h => absurd rfl h) (by simp) (by simp) (by omega)
        · obtain rfl : fuel = n := by omega
          have each : ∀ i, i < len → ∃ (us : List Value) (ys : List AV), us.length = P.cellsOf e ∧ (∀ j, j < P.cellsOf e → W.cell? (a.add (i * P.cellsOf e + j)) = us[j]?) ∧ Sh P e ys ∧ RepC c ys us ∧ ∀ y ∈ ys, LeA (dBulk x.1) y := by
            intro i hi
            have h1 := hel i hi
            rw [List.getElem?_eq_getElem (by omega), Option.bind_eq_some_iff] at h1
            obtain ⟨us, hus, htr⟩ := h1
            obtain ⟨_, g2, g3⟩ := World.cells?_some hus
            obtain ⟨ys, k1, k2, k3⟩ := ih e us _ htr
            refine ⟨us, ys, g2, fun j hj => ?_, k1, k2, fun y hy => (k3 y hy).mono ?_⟩
            case refine_2 =>
              have := dBulk_mem (List.mem_map_of_mem (f := (·.1)) (List.getElem_mem (show i < elems.length by omega)))
              rw [hx]; simp only [dBulk]; omega
            rw [← g3 j hj, _root_.Go.Addr.add_add]
          let f : Nat → List AV := fun i => if hi : i < len then (each i hi).choose_spec.choose else []
          let g : Nat → List Value := fun i => if hi : i < len then (each i hi).choose else []
          have hfg : ∀ i, i < len → (g i).length = P.cellsOf e ∧ (∀ j, j < P.cellsOf e → W.cell? (a.add (i * P.cellsOf e + j)) = (g i)[j]?) ∧ Sh P e (f i) ∧ RepC c (f i) (g i) ∧ ∀ y ∈ f i, LeA (dBulk x.1) y := by
            intro i hi
            have := (each i hi).choose_spec.choose_spec
            simp only [f, g, hi, dif_pos]
            exact this
          have hsize : ∀ i, i < len → (f i).length = P.cellsOf e := fun i hi => by
            obtain ⟨q1, _, _, q4, _⟩ := hfg i hi
            rw [q4.1, q1]
          have hcells : ∀ i, i < len → (mkA P e (f i)).cells = f i := by
            intro i hi
            unfold mkA
            by_cases ha : isAggT P e = true
            · rw [if_pos ha]; rfl
            · rw [if_neg ha]
              have hs := (hfg i hi).2.2.1
              have hno : ∀ fs, P.underlying e ≠ some (.struct fs) := fun fs q => ha (by rw [isAggT, q])
              have hone : (f i).length = 1 := (hsize i hi).trans (he1.resolve_left ha)
              generalize f i = z at hs hone ⊢
              cases hs with
              | bool => rfl
              | int => rfl
              | str => rfl
              | slice => rfl
              | struct _ fs _ q => exact absurd q (hno fs)
              | other _ _ _ q =>
                match z, hone with
                | [y], _ => rw [q y (by simp)]; rfl
          refine ⟨[.sl false (((List.range len).map f).map (mkA P e))], .slice t e _ hu (by simp; omega) ?_ ?_, repC_one ?_, fun y hy => ?_⟩
          rotate_right
          · simp at hy
            subst hy
            refine .sl _ _ ?_ fun z hz => ?_
            · have := dBulk_len (elems.map (·.1))
              rw [List.length_map] at this
              rw [hx]; simp only [dBulk, List.length_map, List.length_range]; omega
            · simp only [List.map_map, List.mem_map, List.mem_range, Function.comp] at hz
              obtain ⟨i, hi, rfl⟩ := hz
              exact .mk (hfg i hi).2.2.2.2
          · intro z hz
            obtain ⟨i, hi, rfl⟩ := List.mem_map.1 hz
            exact (hfg i (by simpa using hi)).2.2.1
          · intro z hz
            obtain ⟨i, hi, rfl⟩ := List.mem_map.1 hz
            exact hsize i (by simpa using hi)
          · refine .sl false _ (some a) len cap (P.cellsOf e) (fun k j => (g k).getD j undef) (by simp) hl (fun h => by cases h) (fun hne => ?_) ?_ ?_ (by have : cap ≤ maxLen := hm; simp only [maxLen] at this; omega)
            · have hlen0 : 0 < len := by
                rcases Nat.eq_zero_or_pos len with h0 | h0
                · subst h0; simp at hne
                · exact h0
              have hcell : ∀ k j, k < len → j < P.cellsOf e → W.cell? (a.add (k * P.cellsOf e + j)) = some ((g k).getD j undef) := by
                intro k j hk hj
                obtain ⟨q1, q2, _, _⟩ := hfg k hk
                rw [q2 j hj, List.getD_eq_getElem?_getD, List.getElem?_eq_getElem (by omega)]; rfl
              have h00 := hcell 0 0 hlen0 (by omega)
              refine ⟨a, rfl, ?_, hst _ ?_, fun k j hk hj => ?_⟩
              · have := World.cell?_spot h00
                simpa [Addr.add] using this
              · have := lt_of_cell h00
                rwa [Addr.add_block] at this
              · rw [hw]; exact hcell k j (by simpa using hk) hj
            · intro z hz
              simp only [List.map_map, List.mem_map, List.mem_range, Function.comp] at hz
              obtain ⟨i, hi, rfl⟩ := hz
              rw [hcells i hi, hsize i hi]
            · intro k z j y hz hy
              have hk : k < len := by
                have := (List.getElem?_eq_some_iff.1 hz).1
                simpa using this
              have : z = mkA P e (f k) := by
                simp only [List.map_map, List.getElem?_map, List.getElem?_range hk, Option.map_some, Function.comp, Option.some.injEq] at hz
                exact hz.symm
              subst this
              rw [hcells k hk] at hy
              obtain ⟨q1, _, _, q4, _⟩ := hfg k hk
              have hj := (List.getElem?_eq_some_iff.1 hy).1
              refine q4.2 j y _ hy ?_
              rw [List.getD_eq_getElem?_getD, List.getElem?_eq_getElem (by rw [← q4.1]; exact hj)]; rfl
      · rename_i fs hu
        rw [Bool.and_eq_true, beq_iff_eq] at hk
        obtain ⟨xs, n, hn, hx, hcl, hxl, hfs⟩ := DataW.trod_struct hu h
        obtain rfl : fuel = n := by omega
        have each : ∀ f ∈ fs.toList, ∃ ys, Sh P f.type ys ∧ RepC c ys ((cs.drop f.offset).take (P.cellsOf f.type)) ∧ ∀ y ∈ ys, LeA (dBulk x.1) y := by
          intro f hf
          obtain ⟨i, hi⟩ := List.getElem?_of_mem hf
          have hi' : fs[i]? = some f := by simpa using hi
          have hlt : i < fs.size := (Array.getElem?_eq_some_iff.1 hi').1
          have := hfs i f hi'
          rw [List.getElem?_eq_getElem (by omega)] at this
          obtain ⟨ys, k1, k2, k3⟩ := ih _ _ _ this
          refine ⟨ys, k1, k2, fun y hy => (k3 y hy).mono ?_⟩
          have := dBulk_mem (List.mem_map_of_mem (f := (·.1)) (List.getElem_mem (show i < xs.length by omega)))
          rw [hx]; simp only [dBulk]; omega
        have key : ∀ (l : List Field) (off : Nat), layB P off l = true → layEnd P off l ≤ cs.length → (∀ f ∈ l, ∃ ys, Sh P f.type ys ∧ RepC c ys ((cs.drop f.offset).take (P.cellsOf f.type)) ∧ ∀ y ∈ ys, LeA (dBulk x.1) y) →
            off ≤ layEnd P off l ∧ ∃ ys, ShF P l ys ∧ RepC c ys ((cs.drop off).take (layEnd P off l - off)) ∧ ∀ y ∈ ys, LeA (dBulk x.1) y := by
          intro l
          induction l with
          | nil => intro off _ _ _; exact ⟨Nat.le_refl _, [], .nil, by simp [layEnd, RepC], fun y hy => by cases hy⟩
          | cons f l ihl =>
            intro off h1 h2 h3
            rw [layB, Bool.and_eq_true, beq_iff_eq] at h1
            rw [layEnd] at h2 ⊢
            obtain ⟨q0, ys, q1, q2, q3⟩ := ihl _ h1.2 h2 (fun g hg => h3 g (by simp [hg]))
            obtain ⟨z, r1, r2, r3⟩ := h3 f (by simp)
            refine ⟨by omega, z ++ ys, .cons f l z ys r1 q1, ?_, fun y hy => (List.mem_append.1 hy).elim (r3 y) (q3 y)⟩
            have e : (cs.drop off).take (layEnd P (off + P.cellsOf f.type) l - off) = (cs.drop f.offset).take (P.cellsOf f.type) ++ (cs.drop (off + P.cellsOf f.type)).take (layEnd P (off + P.cellsOf f.type) l - (off + P.cellsOf f.type)) := by
              rw [h1.1, ← List.drop_drop, show layEnd P (off + P.cellsOf f.type) l - off = P.cellsOf f.type + (layEnd P (off + P.cellsOf f.type) l - (off + P.cellsOf f.type)) by omega, List.take_add]
            rw [e]
            exact repC_app r2 q2
        obtain ⟨_, ys, k1, k2, k3⟩ := key fs.toList 0 hk.1 (by omega) each
        refine ⟨ys, .struct t fs ys hu k1, ?_, k3⟩
        rw [List.drop_zero, Nat.sub_zero, hk.2, ← hcl, List.take_length] at k2
        exact k2
      · cases hk


/-- What a row hands in, at the beginning: nothing is the function's own. -/
def ctx0 (W : World) : Ctx := { w := W, n := 0, blk := fun _ => 0, ver := fun _ => 0, vd := fun _ => false, stable := fun b => b < W.heap.size, base := 0 }

theorem st0 (W : World) : St (ctx0 W) [] where
  n := rfl
  lt := fun i hi => absurd hi (Nat.not_lt_zero i)
  inj := fun i j b b' hi => by simp at hi
  st := fun k hk => ⟨hk, fun i b hi => by simp at hi⟩
  rep := fun i b hi => by simp at hi

theorem one_okWide {r : Reach} {b0 : Nat} {t : TypeId} {v : Value} (hk : kindB P t = true) (ha : isAggT P t = false) (hv : Value.okWide P W r b0 t v) : v.cells = #[v] := by
  unfold kindB at hk
  split at hk
  · rename_i hu; obtain ⟨b, rfl⟩ := okWide_bool hu hv; rfl
  · rename_i k hu; obtain ⟨n, rfl⟩ := okWide_int hu hv; rfl
  · rename_i hu; obtain ⟨s, rfl⟩ := okWide_string hu hv; rfl
  · rename_i e hu; obtain ⟨a, l, c, rfl⟩ := okWide_slice hu hv; rfl
  · rename_i fs hu; rw [isAggT, hu] at ha; cases ha
  · cases hk

theorem open_avB {r : Reach} {b0 : Nat} {t : TypeId} {v : Value} {d : DataW H} {p : List MemPlace} (hk : kindB P t = true) (hv : Value.okWide P W r b0 t v) (h : DataW.Trod enc P W base sp held t v d p) :
    ∃ x, (∃ ys, x = mkA P t ys ∧ Sh P t ys ∧ (isAggT P t = true ∨ ys.length = 1)) ∧ Rep (ctx0 W) x v ∧ LeA (dBulk d) x := by
  obtain ⟨fuel, hf⟩ := h
  obtain ⟨ys, h1, h2, h3⟩ := trod_rep (c := ctx0 W) rfl (fun b hb => hb) fuel t _ _ hf
  cases ha : isAggT P t with
  | true =>
    refine ⟨_, ⟨ys, rfl, h1, .inl rfl⟩, ?_, .mk h3⟩
    have : ∃ cs, v = .agg cs := by
      unfold isAggT at ha
      unfold kindB at hk
      split at ha
      · rename_i fs hu; obtain ⟨cs, rfl, -⟩ := okWide_struct hu hv; exact ⟨cs, rfl⟩
      · rename_i n e hu; rw [hu] at hk; cases hk
      · cases ha
    obtain ⟨cs, rfl⟩ := this
    rw [mkA, if_pos ha]
    exact .agg ys cs (by simpa [Value.cells] using h2.1.symm) fun i y u hy hu => h2.2 i y u hy (by simpa [Value.cells] using hu)
  | false =>
    have hc := one_okWide hk ha hv
    rw [hc] at h2
    have hl : ys.length = 1 := by simpa using h2.1
    refine ⟨_, ⟨ys, rfl, h1, .inr hl⟩, ?_, .mk h3⟩
    match ys, hl with
    | [y], _ =>
      rw [mkA, if_neg (by simp [ha])]
      exact h2.2 0 y v rfl rfl

/-- A function that leaves the heap alone and answers true, as a step of a row. -/
theorem step_of_fn {f : FuncId} {xs : List AV} {args : Array Value} (h : FnC P f xs [] (.bool true)) (ha : RepAll (ctx0 W) xs args) : Calls P f args W fun e W' => e = .returned (.bool true) ∧ Below W.heap.size W W' :=
  (h (ctx0 W) args (st0 W) ha).mono fun e W' ⟨c', x, v, H', e1, e2, _, e4, e5, e6, _⟩ => by
    subst e6
    refine ⟨by rw [e1, e5.bool_inv], ?_⟩
    subst e2
    exact ⟨e4.os, e4.tape, e4.output, e4.size, fun k hk => (e4.st k hk).2⟩

theorem repAll_of {c : Ctx} {xs : List AV} {vs : List Value} (h : RepC c xs vs) : RepAll c xs vs.toArray :=
  ⟨by simp [h.1], fun i x v hx hv => h.2 i x v hx (by simpa using hv)⟩
theorem repC_cons {c : Ctx} {x : AV} {v : Value} {xs : List AV} {vs : List Value} (h : Rep c x v) (hs : RepC c xs vs) : RepC c (x :: xs) (v :: vs) := repC_app (repC_one h) hs
theorem repC_nil {c : Ctx} : RepC c [] [] := ⟨rfl, fun i x v hx => by simp at hx⟩
end
end Go.Aw
/- What comes in with a row, as abstract values: stamps, operations, nodes, what was changed, numbers, bools. No condition. -/
namespace Go.Proofs.YtmknmapgfjmioaaGreatDoor
set_option maxRecDepth 20000
open Go Go.Aw Go.Gw Go.ChangeShapes Go.WideShapes Go.ChangeAt Go.RowKit

theorem own : ownKnob Tryz.prog.godebug = none := by kernel_rfl
theorem laidOut : laidOutB Tryz.prog = true := by kernel_rfl

theorem kindSt : kindB Tryz.prog 59 = true := by kernel_rfl
theorem aggNd : isAggT Tryz.prog 65 = true := by kernel_rfl
theorem kindNd : kindB Tryz.prog 65 = true := by kernel_rfl
theorem aggNds : isAggT Tryz.prog 22 = false := by kernel_rfl
theorem kindNds : kindB Tryz.prog 22 = true := by kernel_rfl
theorem aggInt : isAggT Tryz.prog 3 = false := by kernel_rfl
theorem cells_st {ys : List AV} (h : Sh Tryz.prog 59 ys) : ∃ p : Stm, ys = [.int .i64 p.c, .int .i64 p.r] := by
  obtain ⟨y, ys', rfl, h1, h2⟩ := shF_cons (sh_struct Tryz.underlying59 kindSt h)
  obtain ⟨z, zs, rfl, h3, h4⟩ := shF_cons h2
  obtain rfl := shF_nil h4
  obtain ⟨a, rfl, _⟩ := sh_int Tryz.underlying3 h1
  obtain ⟨b, rfl, _⟩ := sh_int Tryz.underlying3 h3
  exact ⟨⟨a, b⟩, rfl⟩

theorem cells_nd' {ys : List AV} (h : Sh Tryz.prog 65 ys) : ∃ o : Nd, ys = (ndA o).cells := by
  obtain ⟨y1, ys1, rfl, h1, r1⟩ := shF_cons (sh_struct Tryz.underlying65 kindNd h)
  obtain ⟨y2, ys2, rfl, h2, r2⟩ := shF_cons r1
  obtain ⟨y3, ys3, rfl, h3, r3⟩ := shF_cons r2
  obtain ⟨y4, ys4, rfl, h4, r4⟩ := shF_cons r3
  obtain ⟨y5, ys5, rfl, h5, r5⟩ := shF_cons r4
  obtain ⟨y6, ys6, rfl, h6, r6⟩ := shF_cons r5
  obtain rfl := shF_nil r6
  obtain ⟨a, rfl, _⟩ := sh_int Tryz.underlying3 h1
  obtain ⟨b, rfl, _⟩ := sh_int Tryz.underlying3 h2
  obtain ⟨s, rfl, _⟩ := sh_str Tryz.underlying9 h3
  obtain ⟨p, rfl⟩ := cells_st h4
  obtain ⟨u, rfl, _⟩ := sh_str Tryz.underlying9 h5
  obtain ⟨q, rfl⟩ := cells_st h6
  exact ⟨⟨a, b, s, p, u, q⟩, rfl⟩

theorem list_nd {zs : List (List AV)} (h : ∀ z ∈ zs, Sh Tryz.prog 65 z) : ∃ l : List Nd, zs.map (mkA Tryz.prog 65) = l.map ndA ∧ l.length = zs.length := by
  induction zs with
  | nil => exact ⟨[], rfl, rfl⟩
  | cons z zs ih =>
    obtain ⟨p, rfl⟩ := cells_nd' (h z (by simp))
    obtain ⟨l, h1, h2⟩ := ih fun z hz => h z (by simp [hz])
    refine ⟨p :: l, ?_, by simp [h2]⟩
    rw [List.map_cons, List.map_cons, h1, mkA, if_pos aggNd]; rfl

theorem in_nds {x : AV} (h : ∃ ys, x = mkA Tryz.prog 22 ys ∧ Sh Tryz.prog 22 ys ∧ (isAggT Tryz.prog 22 = true ∨ ys.length = 1)) : ∃ l : List Nd, x = .sl false (l.map ndA) ∧ l.length ≤ maxLen := by
  obtain ⟨ys, rfl, h, _⟩ := h
  obtain ⟨zs, rfl, hl, hz⟩ := sh_slice Tryz.underlying22 kindNds h
  obtain ⟨l, h1, h2⟩ := list_nd hz
  refine ⟨l, ?_, by rw [h2]; exact hl⟩
  rw [mkA, if_neg (by rw [aggNds]; decide), h1]; rfl
end Go.Proofs.YtmknmapgfjmioaaGreatDoor
/- The abstract machine: ranges over functions: a round, from the body of the loop; the loop, from what the function does that is ranged over. No condition. -/
namespace Go.Aw
open Go
variable {P : Program}

/-- The parameters of a round. -/
def putPs : List Nat → List AV → AF → AF
  | p :: ps, v :: vs, α => putPs ps vs ((p, v) :: α)
  | _, _, α => α

theorem rep_putPs {c : Ctx} {N : Nat} : ∀ (ps : List Nat) (us : List Value) (vs : List AV) (α : AF) (ts : Array Value), us.length = vs.length → ps.length = vs.length → (∀ p ∈ ps, p < N) → ts.size = N →
    (∀ (i : Nat) (x : AV) (v : Value), vs[i]? = some x → us[i]? = some v → Rep c x v) → (∀ t, Rep c (look α t) (ts.getD t undef)) →
    ((ps.zip us).foldl (fun tmps (t, a) => tmps.setIfInBounds t a) ts).size = N ∧ ∀ t, Rep c (look (putPs ps vs α) t) (((ps.zip us).foldl (fun tmps (t, a) => tmps.setIfInBounds t a) ts).getD t undef)
  | [], us, vs, α, ts, _, _, _, hN, _, h => by simp only [List.zip_nil_left, List.foldl_nil]; exact ⟨hN, by cases vs <;> exact h⟩
  | p :: ps, [], vs, α, ts, h1, h2, _, _, _, _ => by simp at h1 h2; omega
  | p :: ps, u :: us, [], α, ts, h1, _, _, _, _, _ => by simp at h1
  | p :: ps, u :: us, v :: vs, α, ts, h1, h2, hp, hN, hr, h => by
    simp only [List.zip_cons_cons, List.foldl_cons, putPs]
    refine rep_putPs ps us vs ((p, v) :: α) (ts.setIfInBounds p u) (by simpa using h1) (by simpa using h2) (fun q hq => hp q (by simp [hq])) (by simpa using hN) (fun i x w a b => hr (i + 1) x w (by simpa using a) (by simpa using b)) fun t => ?_
    have hlt : p < ts.size := by rw [hN]; exact hp p (by simp)
    simp only [look]
    by_cases hpt : p = t
    · subst hpt
      simp only [beq_self_eq_true, cond_true]
      have := hr 0 v u rfl rfl
      simpa [hlt] using this
    · have hb : (p == t) = false := by simp [hpt]
      rw [hb, cond_false]
      have := h t
      simpa [Array.getD_eq_getD_getElem?, Array.getElem?_setIfInBounds_ne hpt] using this

/-- What is asked at the end of a round: what it made is dropped. -/
def roundE (i : Nat) (LB : ABlk) (fin : Bool → Option Code → ABlk) (H0 : AHeap) (R : AV → AHeap → Prop) (go : Bool) (pe : Option Code) (H : AHeap) : Prop :=
  hget H i = LB ∧ ∃ H1 L, H = H1 ++ L ∧ H1.length = H0.length ∧ (∀ (j : Nat) (b : ABlk), H1[j]? = some b → H0[j]? = some b ∨ ClB H0.length b) ∧ R (.bool go) (hset H1 i (fin go pe))
def roundQ (i : Nat) (LB : ABlk) (fin : Bool → Option Code → ABlk) (H0 : AHeap) (R : AV → AHeap → Prop) : APost
  | .normal, _, H => roundE i LB fin H0 R true none H
  | .ret, _, H => roundE i LB fin H0 R false (some .ret) H
  | .exit id, _, H => roundE i LB fin H0 R false (some (.exit id)) H
  | _, _, _ => False

/-- What is asked behind the assignments of a round. -/
def assignQ (P : Program) (N i : Nat) (bd : Code) (LR LB : ABlk) (fin : Bool → Option Code → ABlk) (H0 : AHeap) (R : AV → AHeap → Prop) : APost
  | .normal, β, H => hget H i = LR ∧ aw P N bd (roundQ i LB fin (hset H0 i LB) R) β (hset H i LB)
  | _, _, _ => False

section
variable (N i : Nat) (bd : Code) (LR LB : ABlk) (fin : Bool → Option Code → ABlk) (H0 : AHeap) (R : AV → AHeap → Prop) (β : AF) (H : AHeap)
@[go_sem] theorem roundQ_normal : roundQ i LB fin H0 R .normal β H = roundE i LB fin H0 R true none H := rfl
@[go_sem] theorem roundQ_ret : roundQ i LB fin H0 R .ret β H = roundE i LB fin H0 R false (some .ret) H := rfl
@[go_sem] theorem roundQ_exit (id : Nat) : roundQ i LB fin H0 R (.exit id) β H = roundE i LB fin H0 R false (some (.exit id)) H := rfl
@[go_sem] theorem assignQ_normal : assignQ P N i bd LR LB fin H0 R .normal β H = (hget H i = LR ∧ aw P N bd (roundQ i LB fin (hset H0 i LB) R) β (hset H i LB)) := rfl
end

theorem St.loop {c : Ctx} {H : AHeap} (h : St c H) {i l N : Nat} {α : AF} {st : LoopState} {pe : Option Code} {ps : Array Tmp} {asg bd : Code} (hh : hget H i = .loop l α N st pe ps asg bd) :
    i < c.n ∧ c.ver i = 0 ∧ c.vd i = false ∧ c.blk i = l ∧ ∃ fn D ts, c.w.heap[l]? = some (.loop { state := st, pending := pe, fn := fn, tmps := ts, params := ps, assign := asg, body := bd, defers := D }) ∧ ts.size = N ∧ ∀ t, Rep c (look α t) (ts.getD t undef) := by
  have hs := hget_some hh trivial
  refine ⟨by rw [h.n]; exact hget_lt hh trivial, ?_⟩
  cases h.rep i _ hs with
  | loop _ _ _ _ _ _ _ _ fn D ts hv hd hl hb hN hr => exact ⟨hv, hd, hl, fn, D, ts, by rw [← hl]; exact hb, hN, hr⟩

/-- The record is turned. -/
theorem loopTurn {c : Ctx} {H : AHeap} (h : St c H) {i l N : Nat} {α : AF} {st : LoopState} {pe : Option Code} {ps : Array Tmp} {asg bd : Code} (hh : hget H i = .loop l α N st pe ps asg bd) (st' : LoopState) (pe' : Option Code) {fn D : Nat} {ts : Array Value}
    (hb : c.w.heap[l]? = some (.loop { state := st, pending := pe, fn := fn, tmps := ts, params := ps, assign := asg, body := bd, defers := D })) :
    Ext c { c with w := c.w.putObj l (.loop { state := st', pending := pe', fn := fn, tmps := ts, params := ps, assign := asg, body := bd, defers := D }) } ∧
    St { c with w := c.w.putObj l (.loop { state := st', pending := pe', fn := fn, tmps := ts, params := ps, assign := asg, body := bd, defers := D }) } (hset H i (.loop l α N st' pe' ps asg bd)) := by
  obtain ⟨hin, hv, hd, hl, fn', D', ts', hb', hN, hr⟩ := h.loop hh
  rw [hb] at hb'
  cases hb'
  have hsome := hget_some hh trivial
  have hlt := (Array.getElem?_eq_some_iff.1 hb).1
  let o : Obj := .loop { state := st', pending := pe', fn := fn, tmps := ts, params := ps, assign := asg, body := bd, defers := D }
  have hsame : (c.w.putObj l o).heap[c.blk i]? = some o := by rw [hl]; exact World.putObj_heap_same hlt
  have hoth : ∀ b, b ≠ c.blk i → (c.w.putObj l o).heap[b]? = c.w.heap[b]? := fun b hne => World.putObj_heap_other (by rw [← hl]; exact hne)
  have hbs : bsize (c.w.putObj l o) (c.blk i) = bsize c.w (c.blk i) := by
    unfold bsize
    rw [hsame, hl, hb]
  have hx : Ext c { c with w := c.w.putObj l o } := by
    refine ⟨Nat.le_refl _, by simp, fun b hb' => ⟨hb', hoth b fun e => (h.st b hb').2 i _ hsome trivial hd e.symm⟩, fun _ _ => Nat.le_refl _, fun j hj _ => ⟨rfl, rfl, fun _ => ?_⟩, rfl, rfl, rfl, rfl⟩
    by_cases e : c.blk j = c.blk i
    · simp only [e]; exact hbs
    · simp only [bsize]; rw [hoth _ e]
  exact h.update (B' := .loop l α N st' pe' ps asg bd) hsome trivial hd (c.w.putObj l o) (by simp) hoth hbs rfl rfl rfl (.loop l α N st' pe' ps asg bd fn D ts hv hd hl hsame hN fun t => (hr t).mono hx)

/-- A round, from the loop's assignments and its body. -/
theorem ayield_of {l N i : Nat} {α : AF} {ps : Array Tmp} {asg bd : Code} {vs : List AV} {H : AHeap} {R : AV → AHeap → Prop} {LR : ABlk} (hhR : hget H i = LR) (hLR : LR = .loop l α N .ready none ps asg bd) (hps : ps.size = vs.length) (hpN : (ps.toList.all fun p => Nat.blt p N) = true)
    (hfa : flat asg = true) (hfb : flat bd = true) (h : ∀ (LB : ABlk) (fin : Bool → Option Code → ABlk), LB = .loop l α N .busy none ps asg bd → LB.live → (fin true none = LR) → (∀ go pe, fin go pe = .loop l α N (bif go then .ready else .done) pe ps asg bd) →
      aw P N asg (assignQ P N i bd LR LB fin H R) (putPs ps.toList vs α) H) : AYield P l vs H R := by
  have hh : hget H i = .loop l α N .ready none ps asg bd := hhR.trans hLR
  replace h := h _ (fun go pe => .loop l α N (bif go then .ready else .done) pe ps asg bd) rfl trivial hLR.symm (fun _ _ => rfl)
  intro c us hst ⟨hul, hur⟩
  obtain ⟨hin, hv, hd, hl, fn, D, ts, hb, hN, hr⟩ := hst.loop hh
  refine ⟨fn, _, asg, bd, run_yield hb (by simp; omega), roundIn_of_wpIn (F := Fence.wide) (n := 0) trivial ?_⟩
  obtain ⟨hsz, hrep⟩ := rep_putPs (c := c) (N := N) ps.toList us.toList vs α ts (by simpa using hul) (by simpa using hps) (fun p hp => by have := List.all_eq_true.1 hpN p hp; simpa [Nat.blt_eq] using this) hN (fun i x v a b => hur i x v a (by simpa using b)) hr
  have hfold : (ps.zip us).foldl (fun tmps (t, a) => tmps.setIfInBounds t a) ts = (ps.toList.zip us.toList).foldl (fun tmps (t, a) => tmps.setIfInBounds t a) ts := by
    rw [← Array.foldl_toList, Array.toList_zip]
  rw [← hfold] at hsz hrep
  have hc : St (c.rebase c.w.heap.size) H := hst.rebase _
  have ha : ARep (c.rebase c.w.heap.size) N (putPs ps.toList vs α) { tmps := (ps.zip us).foldl (fun tmps (t, a) => tmps.setIfInBounds t a) ts, defers := [] } :=
    ⟨hsz, ⟨Nat.le_refl _, [], rfl, by simp, by simp⟩, fun t => (hrep t).rebase _⟩
  refine wpIn_mono (h (some l) (c.rebase c.w.heap.size) _ (.inr hfa) hc ha) fun e a₁ w₁ ⟨c1, β, H1, e1, e2, e3, e4, e5⟩ => ?_
  cases e <;> simp only [assignQ] at e5 <;> try exact e5.elim
  obtain ⟨hh1, hbody⟩ := e5
  rw [hLR] at hh1
  subst e1
  obtain ⟨_, _, _, _, fn1, D1, ts1, hb1, -, -⟩ := e2.loop hh1
  obtain ⟨x1, s1⟩ := loopTurn e2 hh1 .busy none hb1
  refine ⟨_, run_beginRound hb1 rfl, ?_⟩
  refine wpIn_mono (hbody (some l) _ a₁ (.inr hfb) s1 (e4.mono x1)) fun e a₂ w₂ ⟨c2, γ, H2, g1, g2, g3, g4, g5⟩ => ?_
  have key : ∀ (jump : Option Code), roundE i (.loop l α N .busy none ps asg bd) (fun go pe => .loop l α N (bif go then .ready else .done) pe ps asg bd) (hset H i (.loop l α N .busy none ps asg bd)) R jump.isNone jump H2 →
      ∃ v w', (Instr.endRound l jump).run P c2.w = .ok v w' ∧ ∃ c' x u H', Ending.returned v = .returned u ∧ c'.w = w' ∧ St c' H' ∧ Ext c c' ∧ Rep c' x u ∧ R x H' := by
    rintro jump ⟨hh2, H3, L, rfl, hlen, hcl, hR⟩
    have hlen : H3.length = H.length := by simpa [hset] using hlen
    have hlenB : (hset H i (.loop l α N .busy none ps asg bd)).length = H.length := by simp [hset]
    have xx := (e3.trans x1).trans g3
    have hcn : (c.rebase c.w.heap.size).n = H.length := hc.n
    have hlB : ClB H.length (.loop l α N .busy none ps asg bd) := by
      have := hst.cl0 (hget_some hh trivial)
      rw [hst.n] at this
      exact this
    have hdrop : St (c2.drop H.length) H3 := St.dropG hlen.symm g2 fun j b hj => by
      rcases hcl j b hj with q | q
      · by_cases hji : j = i
        · subst hji
          rw [hset, List.getElem?_set_self (hget_lt hh trivial)] at q
          cases q
          exact hlB
        · rw [hset, List.getElem?_set_ne (fun e => hji e.symm)] at q
          have := hst.cl0 q
          rwa [hst.n] at this
      · rwa [hlenB] at q
    have hh3 : hget H3 i = .loop l α N .busy none ps asg bd := by
      have hlt : i < H3.length := by rw [hlen]; exact hget_lt hh trivial
      simpa [hget, List.getD_eq_getElem?_getD, List.getElem?_append_left hlt] using hh2
    obtain ⟨_, _, _, _, fn2, D2, ts2, hb2, -, -⟩ := hdrop.loop hh3
    obtain ⟨x2, s2⟩ := loopTurn hdrop hh3 (if jump.isNone then .ready else .done) jump hb2
    have hst' : (if jump.isNone = true then LoopState.ready else LoopState.done) = bif jump.isNone then .ready else .done := by cases jump <;> rfl
    have yy := (xx.dropN (n := H.length) (by rw [hcn]; exact Nat.le_refl _)).trans x2
    refine ⟨_, _, run_endRound jump hb2, ({ c2.drop H.length with w := _ } : Ctx).rebase c.base, .bool jump.isNone, _, _, rfl, rfl, s2.rebase _, ?_, .bool _, hst' ▸ hR⟩
    exact ⟨yy.n, yy.size, yy.st, yy.ver, yy.blk, yy.os, yy.tape, yy.output, rfl⟩
  subst g1
  cases e <;> simp only [roundQ] at g5 <;> try exact g5.elim
  · exact key none g5
  · exact key (some (.exit _)) g5
  · exact key (some .ret) g5

/-- What is asked behind the function that was ranged over. -/
def behindQ (i l : Nat) (α : AF) (N : Nat) (ps : Array Tmp) (asg bd : Code) (Q : APost) (H : AHeap) : Prop :=
  (∃ st, st ≠ .busy ∧ hget H i = .loop l α N st none ps asg bd ∧ ∀ X, Q .normal α (hset H i X)) ∨
  (hget H i = .loop l α N .done (some .ret) ps asg bd ∧ ∀ X, Q .ret α (hset H i X)) ∨
  (∃ id, hget H i = .loop l α N .done (some (.exit id)) ps asg bd ∧ ∀ X, Q (.exit id) α (hset H i X))

theorem aw_rangeFunc {N : Nat} {g : Operand} {ps : Array Tmp} {asg bd : Code} {Q : APost} {α : AF} {H : AHeap} {gf : Nat} {lb : List AV} (hg : ev α g = .func (.func gf) [] lb) (hok : callOk P gf = true)
    (h : ∀ l LB, LB = ABlk.loop l α N .ready none ps asg bd → ACalls P gf (.func (.yield l) [] [] :: lb) (H ++ [LB]) (fun _ H' => behindQ H.length l α N ps asg bd Q H')) : aw P N (.rangeFunc g ps asg bd) Q α H := by
  intro r c a hr hst ha
  have hr0 : r = none := hr.resolve_right (by simp [flat])
  subst hr0
  refine wpIn_rangeFunc fun fn _ => ?_
  have hgv := rep_ev ha g
  rw [hg] at hgv
  generalize hev : a.eval g = vg at hgv
  cases hgv with
  | func _ _ _ v1 v2 hl1 hl2 hr1 hr2 =>
    obtain rfl : v1 = #[] := Array.eq_empty_of_size_eq_zero hl1
    let rec0 : Obj := .loop { state := .ready, pending := none, fn := fn, tmps := a.tmps, params := ps, assign := asg, body := bd, defers := c.w.heap.size }
    let c1 : Ctx := c.fix (.deferred (some []))
    have s1 : St c1 H := hst.fix _
    have x1 : Ext c c1 := Ext.fix hst _
    have hsz1 : c1.w.heap.size = c.w.heap.size + 1 := by simp [c1, Ctx.fix]
    have a1 := ha.mono x1
    let c2 : Ctx := c1.push rec0
    have x2 : Ext c1 c2 := Ext.push s1 _ 0
    have s2 : St c2 (H ++ [.loop c1.w.heap.size α N .ready none ps asg bd]) := by
      refine s1.push rec0 0 (.loop _ α N .ready none ps asg bd fn c.w.heap.size a.tmps (by simp [Ctx.push]) (by simp [Ctx.push]) (by simp [Ctx.push]) ?_ a1.size fun t => (a1.rep t).mono x2)
      simp only [Ctx.push, if_true]
      exact heap_alloc_new _ _
    have hD2 : c2.w.heap[c.w.heap.size]? = some (.deferred (some [])) := by
      have h1 : c1.w.heap[c.w.heap.size]? = some (.deferred (some [])) := heap_alloc_new _ _
      exact ((x2.st _ (.inr rfl)).2).trans h1
    have hall : RepAll c2 (.func (.yield c1.w.heap.size) [] [] :: lb) (#[.func (.yield c1.w.heap.size) #[] #[]] ++ v2) := by
      refine ⟨by simp [hl2]; omega, fun j x v g1 g2 => ?_⟩
      cases j with
      | zero =>
        rw [Array.getElem?_append_left (by simp)] at g2
        cases g1; cases g2
        exact .func _ [] [] _ _ rfl rfl (by simp) (by simp)
      | succ j =>
        rw [Array.getElem?_append_right (by simp)] at g2
        rw [List.getElem?_cons_succ] at g1
        exact ((hr2 j x v g1 (by simpa using g2)).mono x1).mono x2
    have hcall := h c1.w.heap.size _ rfl c2 _ s2 hall
    refine ⟨c1.w.heap.size, [{ target := .collected c.w.heap.size, args := #[] }], c2.w, { target := .fn (.func gf) v2, args := #[.func (.yield c1.w.heap.size) #[] #[]] }, c2.w, gf, #[.func (.yield c1.w.heap.size) #[] #[]] ++ v2, c2.w, ?_, ?_, fun _ _ => trivial, ?_, fun h => (by cases h), ?_⟩
    · have := run_enterLoop_outer (P := P) (w := c.w) fn a.tmps ps asg bd
      rw [hsz1]
      exact this
    · simp only [resolve, hev]
      simp [go_sem, Deferred.ofValue]
    · simp [invoke, go_sem]
      simpa using run_callFunc_ok hok _ _
    · refine (callsIn_wide (n := 0)).2 (hcall.mono ?_)
      rintro e w3 ⟨c3, x, v, H3, rfl, rfl, s3, x3, -, hb⟩
      have a3 : ARep c3 N α { a with defers := [{ target := .collected c.w.heap.size, args := #[] }] ++ a.defers } := by
        have m := ((ha.mono x1).mono x2).mono x3
        obtain ⟨m0, Ds, e, hn, hD⟩ := m.defers
        obtain ⟨n0, Ds', e', hn', hD'⟩ := ha.defers
        have hbase : c3.base = c.base := (x3.base.trans x2.base).trans x1.base
        have hinj : Ds = Ds' := by
          have := e.symm.trans e'
          clear hD hD' hn hn' e e' m
          induction Ds generalizing Ds' with
          | nil => cases Ds' with
            | nil => rfl
            | cons _ _ => simp at this
          | cons d Ds ih => cases Ds' with
            | nil => simp at this
            | cons d' Ds' => simp at this; rw [this.1, ih _ (by simpa using this.2)]
        subst hinj
        refine ⟨m.size, ⟨m0, c.w.heap.size :: Ds, by simp [e], List.nodup_cons.2 ⟨fun hm => ?_, hn⟩, fun D hm => ?_⟩, m.rep⟩
        · have := (Array.getElem?_eq_some_iff.1 (hD' _ hm).2.2).1
          omega
        · rcases List.mem_cons.1 hm with rfl | hm
          · exact ⟨by rw [hbase]; exact n0, (x3.st _ (x2.st _ (.inr rfl)).1).1, ((x3.st _ (x2.st _ (.inr rfl)).1).2).trans hD2⟩
          · exact hD D hm
      have done : ∀ (st : LoopState) (pe : Option Code), st ≠ .busy → hget H3 H.length = .loop c1.w.heap.size α N st pe ps asg bd →
          ∃ c4 : Ctx, (Instr.endLoop c1.w.heap.size).run P c3.w = .ok pe c4.w ∧ St c4 (hset H3 H.length (.loop c1.w.heap.size α N .exhausted pe ps asg bd)) ∧ Ext c c4 ∧ ARep c4 N α { a with defers := [{ target := .collected c.w.heap.size, args := #[] }] ++ a.defers } := by
        intro st pe hb3 hh3
        obtain ⟨_, _, _, _, fn3, D3, ts3, hb3', -, -⟩ := s3.loop hh3
        obtain ⟨x4, s4⟩ := loopTurn s3 hh3 .exhausted pe hb3'
        exact ⟨_, run_endLoop hb3' hb3, s4, ((x1.trans x2).trans x3).trans x4, a3.mono x4⟩
      rcases hb with ⟨st, hbu, hh3, hq⟩ | ⟨hh3, hq⟩ | ⟨id, hh3, hq⟩
      · obtain ⟨c4, q1, q2, q3, q4⟩ := done st none hbu hh3
        exact ⟨none, c4.w, q1, c4, α, _, rfl, q2, q3, q4, hq _⟩
      · obtain ⟨c4, q1, q2, q3, q4⟩ := done .done _ (by simp) hh3
        exact ⟨some .ret, c4.w, q1, wpIn_ret ⟨c4, α, _, rfl, q2, q3, q4, hq _⟩⟩
      · obtain ⟨c4, q1, q2, q3, q4⟩ := done .done _ (by simp) hh3
        exact ⟨some (.exit id), c4.w, q1, wpIn_exit ⟨c4, α, _, rfl, q2, q3, q4, hq _⟩⟩
theorem callK_yield {l : Nat} {args : List AV} {H : AHeap} {R K : AV → AHeap → Prop} (h : AYield P l args H R) (hk : ∀ v H', R v H' → K v H') : callK P (.func (.yield l) [] []) args H K := h.mono hk

theorem aw_sub {N : Nat} {code : Code} {Q : APost} {α : AF} {H : AHeap} (β : AF) (hs : subA β α) (h : aw P N code Q β H) : aw P N code Q α H := aw_weaken h (subA_look hs)

/-- A closure's captured variable that is not written any more. -/
theorem frz_box {n i v : Nat} {H : AHeap} {cs : List AV} (hn : n ≤ i) (hh : hget H i = .cells v cs) (hc : ∀ x ∈ cs, Cl n x) : Frz n H (.ref i v 0) (.cptr cs) :=
  .ref i v 0 cs cs hn hh (by omega) fun j x y hx hy => by
    rw [Nat.zero_add, hy] at hx
    cases hx
    exact .cl _ (hc _ (List.mem_of_getElem? hy))
theorem frz_cons {n : Nat} {H : AHeap} {a b : AV} {cs ds : List AV} (h : Frz n H a b) (hs : ∀ (i : Nat) (x y : AV), cs[i]? = some x → ds[i]? = some y → Frz n H x y) : ∀ (i : Nat) (x y : AV), (a :: cs)[i]? = some x → (b :: ds)[i]? = some y → Frz n H x y
  | 0, x, y, hx, hy => by simp at hx hy; subst hx; subst hy; exact h
  | i + 1, x, y, hx, hy => hs i x y (by simpa using hx) (by simpa using hy)
theorem frz_nil {n : Nat} {H : AHeap} : ∀ (i : Nat) (x y : AV), ([] : List AV)[i]? = some x → ([] : List AV)[i]? = some y → Frz n H x y := fun _ _ _ h => by simp at h

/-- A heap that goes on. -/
theorem hget_on {G : AHeap} {i : Nat} {b : ABlk} (h : hget G i = b) (hb : b.live) : ∀ L, hget (G ++ L) i = b := fun L => hget_appL h hb L
theorem hset_on {G : AHeap} {i : Nat} {b : ABlk} (h : hget G i = b) (hb : b.live) : ∀ L c, hset (G ++ L) i c = hset G i c ++ L := fun L c => hset_appL (hget_lt h hb) L c
theorem hset_ln (H : AHeap) (i : Nat) (b : ABlk) : (hset H i b).length = H.length := by simp [hset]
theorem hget_ne {H : AHeap} {i j : Nat} {x : ABlk} (h : hget H j = x) (hn : i ≠ j) (b : ABlk) : hget (hset H i b) j = x := by
  rw [← h]; simp [hget, hset, List.getD_eq_getElem?_getD, List.getElem?_set_ne hn]
theorem hget_eq {H : AHeap} {i : Nat} (h : i < H.length) (b : ABlk) : hget (hset H i b) i = b := by
  simp [hget, hset, List.getD_eq_getElem?_getD, h]
theorem keep_set {H : AHeap} {i n : Nat} {b : ABlk} (hb : ClB n b) : ∀ (j : Nat) (c : ABlk), (hset H i b)[j]? = some c → H[j]? = some c ∨ ClB n c := fun j c h => by
  by_cases e : i = j
  · subst e
    by_cases hlt : i < H.length
    · rw [hset, List.getElem?_set_self hlt] at h; cases h; exact .inr hb
    · rw [hset, List.getElem?_eq_none (by simp; omega)] at h; cases h
  · rw [hset, List.getElem?_set_ne e] at h; exact .inl h
theorem hset_twice (H : AHeap) (i : Nat) (b c : ABlk) : hset (hset H i b) i c = hset H i c := by simp [hset]
theorem hset_comm (H : AHeap) {i j : Nat} (b c : ABlk) (h : i ≠ j) : hset (hset H i b) j c = hset (hset H j c) i b := by simp only [hset]; exact List.set_comm _ _ h
theorem hset_own {H : AHeap} {i : Nat} {b : ABlk} (h : hget H i = b) (hb : b.live) : hset H i b = H := hset_same (hget_some h hb)
/-! ### A loop of so many rounds at most, round by round -/
def goesQ (K : AF → AHeap → Prop) (Q : APost) : APost
  | .normal, α, H => K α H
  | e, α, H => Q e α H
def aRounds (P : Program) (N : Nat) (body : Code) (Q : APost) : Nat → AF → AHeap → Prop
  | 0, _, _ => False
  | m + 1, α, H => aw P N body (goesQ (aRounds P N body Q m) Q) α H
section
variable (K : AF → AHeap → Prop) (Q : APost) (α : AF) (H : AHeap)
@[go_sem] theorem goesQ_normal : goesQ K Q .normal α H = K α H := rfl
@[go_sem] theorem goesQ_ret : goesQ K Q .ret α H = Q .ret α H := rfl
@[go_sem] theorem goesQ_exit (i : Nat) : goesQ K Q (.exit i) α H = Q (.exit i) α H := rfl
end
theorem aw_rounds {N : Nat} {body : Code} {Q : APost} {α : AF} {H : AHeap} (m : Nat) (h : aRounds P N body Q m α H) : aw P N (.loop body) Q α H := by
  intro r c a hr hs ha
  refine wpIn_loop_rounds m ?_
  have key : ∀ m α H c' a, aRounds P N body Q m α H → St c' H → Ext c c' → ARep c' N α a → Code.roundsIn (wf r) 0 P body (fun e a' w' => ∃ c' α' H', c'.w = w' ∧ St c' H' ∧ Ext c c' ∧ ARep c' N α' a' ∧ Q e α' H') m a c'.w := by
    intro m
    induction m with
    | zero => intro α H c' a h; exact h.elim
    | succ m ih =>
      intro α H c' a h hs hx ha
      refine wpIn_mono (h r c' a hr hs ha) fun e a' w' ⟨c2, α', H', e1, e2, e3, e4, e5⟩ => ?_
      subst e1
      cases e with
      | normal => exact ih _ _ _ _ e5 e2 (hx.trans e3) e4
      | exit id => exact ⟨c2, α', H', rfl, e2, hx.trans e3, e4, e5⟩
      | goto l => exact ⟨c2, α', H', rfl, e2, hx.trans e3, e4, e5⟩
      | ret => exact ⟨c2, α', H', rfl, e2, hx.trans e3, e4, e5⟩
      | panic ch => exact ⟨c2, α', H', rfl, e2, hx.trans e3, e4, e5⟩
      | outgrown => exact ⟨c2, α', H', rfl, e2, hx.trans e3, e4, e5⟩
  exact key m α H c a h hs (Ext.refl c) ha
/-! ### Nothing beyond -/
theorem all_nil {α : Type} {p : α → Prop} : ∀ x ∈ ([] : List α), p x := fun _ h => by cases h
theorem all_cons {α : Type} {p : α → Prop} {a : α} {l : List α} (h : p a) (hs : ∀ x ∈ l, p x) : ∀ x ∈ a :: l, p x := List.forall_mem_cons.2 ⟨h, hs⟩
theorem clb_cells {n v : Nat} {cs : List AV} (h : ∀ x ∈ cs, Cl n x) : ClB n (.cells v cs) := h
theorem cl_agg {n : Nat} {cs : List AV} (h : ∀ x ∈ cs, Cl n x) : Cl n (.agg cs) := .agg _ fun _ x hx => h x (List.mem_of_getElem? hx)
theorem cl_tup {n : Nat} {cs : List AV} (h : ∀ x ∈ cs, Cl n x) : Cl n (.tup cs) := .tup _ fun _ x hx => h x (List.mem_of_getElem? hx)
theorem cl_func {n : Nat} {f : Fn} {fs cs : List AV} (h1 : ∀ x ∈ fs, Cl n x) (h2 : ∀ x ∈ cs, Cl n x) : Cl n (.func f fs cs) := .func _ _ _ (fun _ x hx => h1 x (List.mem_of_getElem? hx)) (fun _ x hx => h2 x (List.mem_of_getElem? hx))
theorem cl_cptr {n : Nat} {cs : List AV} (h : ∀ x ∈ cs, Cl n x) : Cl n (.cptr cs) := .cptr _ fun _ x hx => h x (List.mem_of_getElem? hx)
theorem keep_new {H M : AHeap} {n : Nat} (h : ∀ b ∈ M, ClB n b) : ∀ (i : Nat) (b : ABlk), (H ++ M)[i]? = some b → H[i]? = some b ∨ ClB n b := fun i b hi => by
  by_cases hlt : i < H.length
  · rw [List.getElem?_append_left hlt] at hi; exact .inl hi
  · rw [List.getElem?_append_right (by omega)] at hi; exact .inr (h b (List.mem_of_getElem? hi))
theorem callK_a {f : AV} {args : List AV} {H : AHeap} {x : AV} {k : AV → AHeap → Prop} (h : ACall P f args H (fun r G => r = x ∧ G = H)) (hk : k x H) : callK P f args H k :=
  h.mono fun _ _ ⟨e1, e2⟩ => by rw [e1, e2]; exact hk
end Go.Aw
/- What the functions of the stamps answer. No condition. -/
namespace Go.Proofs.YtmknmapgfjmioaaGreatDoor
open Go Go.Aw Go.Gw
set_option linter.unusedSimpArgs false
set_option maxRecDepth 20000

def okI (a b : Int) : Bool := decide (1 ≤ a) && decide (a ≤ 1048576) && decide (0 ≤ b) && decide (b ≤ 63)

theorem okI_t {a b : Int} : okI a b = true ↔ 1 ≤ a ∧ a ≤ 1048576 ∧ 0 ≤ b ∧ b ≤ 63 := by
  simp [okI, and_assoc]

theorem check_c (a b : Int) (H : AHeap) : FnC Tryz.prog 72 [.agg [.int .i64 a, .int .i64 b]] H (.bool (okI a b)) := by
  refine fnC_of Tryz.func72 rfl (Nat.le_of_ble_eq_true rfl) ?_
  repeat' first | ((first | refine callP_false (.bool false) ?_ | refine aw_region rfl ?_ | refine aw_region_draw mixedF rfl (by kernel_rfl) ?_ | refine aE rfl ?_); simp only [go_sem]) | refine callG_y ?_ | refine callG_p ?_ | refine aw_seq ?_ | refine aw_block ?_ | refine aw_scope ?_ | (refine aw_cond rfl (fun h => ?_) (fun h => ?_) <;> try (exfalso; first | (simp at h; done) | (simp at h; omega))) | ((with_reducible refine And.intro ?_ ?_); focus (first | omega | (intros; simp_all; done) | (simp; omega)))
  exact ⟨_, _, rfl, .cl _ (.bool _), rfl⟩

theorem rcheck_c (a b : Int) (H : AHeap) : FnC Tryz.prog 103 [.agg [.int .i64 a, .int .i64 b]] H (.bool (okI a b)) := by
  refine fnC_of Tryz.func103 rfl (Nat.le_of_ble_eq_true rfl) ?_
  repeat' first | ((first | refine callP_false (.bool false) ?_ | refine aw_region rfl ?_ | refine aw_region_draw mixedF rfl (by kernel_rfl) ?_ | refine aE rfl ?_); simp only [go_sem]) | refine callG_y ?_ | refine callG_p ?_ | refine aw_seq ?_ | refine aw_block ?_ | refine aw_scope ?_ | (refine aw_cond rfl (fun h => ?_) (fun h => ?_) <;> try (exfalso; first | (simp at h; done) | (simp at h; omega))) | ((with_reducible refine And.intro ?_ ?_); focus (first | omega | (intros; simp_all; done) | (simp; omega)))
  exact ⟨_, _, rfl, .cl _ (.bool _), rfl⟩

def lessI (a b c d : Int) : Bool := decide (a < c) || (decide (a = c) && decide (b < d))

theorem lessI_t {a b c d : Int} : lessI a b c d = true ↔ (a < c ∨ (a = c ∧ b < d)) := by
  simp [lessI]

theorem less_c (a b c d : Int) (H : AHeap) : FnC Tryz.prog 75 [.agg [.int .i64 a, .int .i64 b], .agg [.int .i64 c, .int .i64 d]] H (.bool (lessI a b c d)) := by
  refine fnC_of Tryz.func75 rfl (Nat.le_of_ble_eq_true rfl) ?_
  repeat' first | ((first | refine callP_false (.bool false) ?_ | refine aw_region rfl ?_ | refine aw_region_draw mixedF rfl (by kernel_rfl) ?_ | refine aE rfl ?_); simp only [go_sem]) | refine callG_y ?_ | refine callG_p ?_ | refine aw_seq ?_ | refine aw_block ?_ | refine aw_scope ?_ | (refine aw_cond rfl (fun h => ?_) (fun h => ?_) <;> try (exfalso; first | (simp at h; done) | (simp at h; omega))) | ((with_reducible refine And.intro ?_ ?_); focus (first | omega | (intros; simp_all; done) | (simp; omega)))
  all_goals refine ⟨_, _, rfl, .cl _ (.bool _), congrArg AV.bool ?_⟩
  all_goals (rw [Bool.eq_iff_iff, lessI_t]; simp at *; omega)

theorem rless_c (a b c d : Int) (H : AHeap) : FnC Tryz.prog 104 [.agg [.int .i64 a, .int .i64 b], .agg [.int .i64 c, .int .i64 d]] H (.bool (lessI a b c d)) := by
  refine fnC_of Tryz.func104 rfl (Nat.le_of_ble_eq_true rfl) ?_
  repeat' first | ((first | refine callP_false (.bool false) ?_ | refine aw_region rfl ?_ | refine aw_region_draw mixedF rfl (by kernel_rfl) ?_ | refine aE rfl ?_); simp only [go_sem]) | refine callG_y ?_ | refine callG_p ?_ | refine aw_seq ?_ | refine aw_block ?_ | refine aw_scope ?_ | (refine aw_cond rfl (fun h => ?_) (fun h => ?_) <;> try (exfalso; first | (simp at h; done) | (simp at h; omega))) | ((with_reducible refine And.intro ?_ ?_); focus (first | omega | (intros; simp_all; done) | (simp; omega)))
  exact ⟨_, _, rfl, .cl _ (.bool _), rfl⟩

def ofOk (n : Int) : Bool := decide (128 ≤ n) && decide (n < 134217856)
theorem ofOk_t {n : Int} : ofOk n = true ↔ 128 ≤ n ∧ n < 134217856 := by simp [ofOk]
theorem ofOk_f {n : Int} : ofOk n = false ↔ ¬ (128 ≤ n ∧ n < 134217856) := by rw [← ofOk_t, Bool.not_eq_true]
def oA (n : Int) : Int := if ofOk n = true then n / 128 else 0
def oB (n : Int) : Int := if ofOk n = true then n % 128 / 2 else 0
def oC (n : Int) : Bool := ofOk n && decide (n % 2 = 1)

theorem of_c (n : Int) (H : AHeap) : FnC Tryz.prog 80 [.int .i64 n] H (.tup [.agg [.int .i64 (oA n), .int .i64 (oB n)], .bool (oC n), .bool (ofOk n)]) := by
  refine fnC_ok1 fun hok => ?_
  have hn := (ok_i64 hok).2
  refine fnC_of Tryz.func80 rfl (Nat.le_of_ble_eq_true rfl) ?_
  repeat' first | ((first | refine cK (ct (check_c _ _) callOk72F) ?_ | refine cP (ct (check_c _ _) callOk72F) ?_ | refine cM (ct (check_c _ _) callOk72F) ?_ | refine callP_false (.bool false) ?_ | refine aw_region rfl ?_ | refine aw_region_draw mixedF rfl (by kernel_rfl) ?_ | refine aE rfl ?_); simp only [go_sem]) | refine callG_y ?_ | refine callG_p ?_ | refine aw_seq ?_ | refine aw_block ?_ | refine aw_scope ?_ | (refine aw_cond rfl (fun h => ?_) (fun h => ?_) <;> try (exfalso; first | (simp at h; done) | (simp at h; omega))) | ((with_reducible refine And.intro ?_ ?_); focus (first | omega | (intros; simp_all; done) | (simp; omega)))
  all_goals refine done_plain (k := 3) rfl ?_
  · have e : ofOk n = false := ofOk_f.2 (by simp at h; omega)
    simp [oA, oB, oC, e]
  · rename_i h0
    simp at h0
    rw [Int.tdiv_eq_ediv_of_nonneg (by omega), Int.tmod_eq_emod_of_nonneg (by omega), Int.tdiv_eq_ediv_of_nonneg (by omega), wrap_i64 (by omega) (by omega), wrap_i64 (by omega) (by omega)] at h
    have h' : ¬ okI (n / 128) (n % 128 / 2) = true := by simpa using h
    rw [okI_t] at h'
    have e : ofOk n = false := ofOk_f.2 (by omega)
    simp [oA, oB, oC, e]
  · rename_i h0
    simp at h0
    rw [Int.tdiv_eq_ediv_of_nonneg (by omega), Int.tmod_eq_emod_of_nonneg (by omega), Int.tdiv_eq_ediv_of_nonneg (by omega), wrap_i64 (by omega) (by omega), wrap_i64 (by omega) (by omega)] at h ⊢
    rw [Int.tmod_eq_emod_of_nonneg (by omega)]
    have h' : okI (n / 128) (n % 128 / 2) = true := by simpa using h
    rw [okI_t] at h'
    have e : ofOk n = true := ofOk_t.2 (by omega)
    simp [oA, oB, oC, e]

theorem rof_c (n : Int) (H : AHeap) : FnC Tryz.prog 88 [.int .i64 n] H (.tup [.agg [.int .i64 (oA n), .int .i64 (oB n)], .bool (oC n), .bool (ofOk n)]) := by
  refine fnC_of Tryz.func88 rfl (Nat.le_of_ble_eq_true rfl) ?_
  repeat' first | ((first | refine callP_false (.bool false) ?_ | refine aw_region rfl ?_ | refine aw_region_draw mixedF rfl (by kernel_rfl) ?_ | refine aE rfl ?_); simp only [go_sem]) | refine callG_y ?_ | refine callG_p ?_ | refine aw_seq ?_ | refine aw_block ?_ | refine aw_scope ?_ | (refine aw_cond rfl (fun h => ?_) (fun h => ?_) <;> try (exfalso; first | (simp at h; done) | (simp at h; omega))) | ((with_reducible refine And.intro ?_ ?_); focus (first | omega | (intros; simp_all; done) | (simp; omega)))
  all_goals refine done_plain (k := 3) rfl ?_
  · have e : ofOk n = false := ofOk_f.2 (by simp at h; omega)
    simp [oA, oB, oC, e]
  · simp at h
    rw [Int.tdiv_eq_ediv_of_nonneg (by omega), Int.tmod_eq_emod_of_nonneg (by omega), Int.tdiv_eq_ediv_of_nonneg (by omega), wrap_i64 (by omega) (by omega), wrap_i64 (by omega) (by omega)]
    rw [Int.tmod_eq_emod_of_nonneg (by omega)]
    have e : ofOk n = true := ofOk_t.2 (by omega)
    simp [oA, oB, oC, e]

def dirI (n : Int) : Bool := decide (n = 0) || decide (n = 2) || (ofOk n && !oC n)

theorem dir_c (n : Int) (H : AHeap) : FnC Tryz.prog 57 [.int .i64 n] H (.bool (dirI n)) := by
  refine fnC_of Tryz.func57 rfl (Nat.le_of_ble_eq_true rfl) ?_
  repeat' first | ((first | refine cK (ct (of_c _) callOk80F) ?_ | refine cP (ct (of_c _) callOk80F) ?_ | refine cM (ct (of_c _) callOk80F) ?_ | refine callP_false (.bool false) ?_ | refine aw_region rfl ?_ | refine aw_region_draw mixedF rfl (by kernel_rfl) ?_ | refine aE rfl ?_); simp only [go_sem]) | refine callG_y ?_ | refine callG_p ?_ | refine aw_seq ?_ | refine aw_block ?_ | refine aw_scope ?_ | (refine aw_cond rfl (fun h => ?_) (fun h => ?_) <;> try (exfalso; first | (simp at h; done) | (simp at h; omega))) | ((with_reducible refine And.intro ?_ ?_); focus (first | omega | (intros; simp_all; done) | (simp; omega)))
  · exact done_plain0 (k := 3) rfl (by simp only [dirI, h]; rfl)
  · exact done_plain (k := 3) rfl (by simp only [dirI, h]; rfl)
theorem rdir_c (n : Int) (H : AHeap) : FnC Tryz.prog 64 [.int .i64 n] H (.bool (dirI n)) := by
  refine fnC_of Tryz.func64 rfl (Nat.le_of_ble_eq_true rfl) ?_
  repeat' first | ((first | refine cK (ct (rof_c _) callOk88F) ?_ | refine cP (ct (rof_c _) callOk88F) ?_ | refine cM (ct (rof_c _) callOk88F) ?_ | refine callP_false (.bool false) ?_ | refine aw_region rfl ?_ | refine aw_region_draw mixedF rfl (by kernel_rfl) ?_ | refine aE rfl ?_); simp only [go_sem]) | refine callG_y ?_ | refine callG_p ?_ | refine aw_seq ?_ | refine aw_block ?_ | refine aw_scope ?_ | (refine aw_cond rfl (fun h => ?_) (fun h => ?_) <;> try (exfalso; first | (simp at h; done) | (simp at h; omega))) | ((with_reducible refine And.intro ?_ ?_); focus (first | omega | (intros; simp_all; done) | (simp; omega)))
  exact done_plain (k := 3) rfl rfl

/-! ### Operations -/
def laterI (a b n : Int) : Bool := ofOk n && lessI a b (oA n) (oB n)

theorem later_c (a b n : Int) (H : AHeap) : FnC Tryz.prog 73 [.agg [.int .i64 a, .int .i64 b], .int .i64 n] H (.bool (laterI a b n)) := by
  refine fnC_of Tryz.func73 rfl (Nat.le_of_ble_eq_true rfl) ?_
  repeat' first | ((first | refine cK (ct (of_c _) callOk80F) ?_ | refine cP (ct (of_c _) callOk80F) ?_ | refine cM (ct (of_c _) callOk80F) ?_ | refine cK (ct (less_c _ _ _ _) callOk75F) ?_ | refine cP (ct (less_c _ _ _ _) callOk75F) ?_ | refine cM (ct (less_c _ _ _ _) callOk75F) ?_ | refine callP_false (.bool false) ?_ | refine aw_region rfl ?_ | refine aw_region_draw mixedF rfl (by kernel_rfl) ?_ | refine aE rfl ?_); simp only [go_sem]) | refine callG_y ?_ | refine callG_p ?_ | refine aw_seq ?_ | refine aw_block ?_ | refine aw_scope ?_ | (refine aw_cond rfl (fun h => ?_) (fun h => ?_) <;> try (exfalso; first | (simp at h; done) | (simp at h; omega))) | ((with_reducible refine And.intro ?_ ?_); focus (first | omega | (intros; simp_all; done) | (simp; omega)))
  exact done_plain (k := 3) rfl rfl

theorem opless_c (a b : Opn) (H : AHeap) : FnC Tryz.prog 49 [opA a, opA b] H (.bool (lessI a.at_.c a.at_.r b.at_.c b.at_.r)) := by
  refine fnC_of Tryz.func49 rfl (Nat.le_of_ble_eq_true rfl) ?_
  simp only [opA]
  repeat' first | ((first | refine cK (ct (less_c _ _ _ _) callOk75F) ?_ | refine cP (ct (less_c _ _ _ _) callOk75F) ?_ | refine cM (ct (less_c _ _ _ _) callOk75F) ?_ | refine callP_false (.bool false) ?_ | refine aw_region rfl ?_ | refine aw_region_draw mixedF rfl (by kernel_rfl) ?_ | refine aE rfl ?_); simp only [go_sem]) | refine callG_y ?_ | refine callG_p ?_ | refine aw_seq ?_ | refine aw_block ?_ | refine aw_scope ?_ | (refine aw_cond rfl (fun h => ?_) (fun h => ?_) <;> try (exfalso; first | (simp at h; done) | (simp at h; omega))) | ((with_reducible refine And.intro ?_ ?_); focus (first | omega | (intros; simp_all; done) | (simp; omega)))
  exact done_plain (k := 3) rfl rfl

theorem kindOf_c (o : Opn) (H : AHeap) : FnC Tryz.prog 71 [opA o] H (if o.kind = 1 then .iface 136 (opA o) else if o.kind = 2 then .iface 137 (opA o) else .nilIface) := by
  refine fnC_of Tryz.func71 rfl (Nat.le_of_ble_eq_true rfl) ?_
  simp only [opA]
  repeat' first | ((first | refine callP_false (.bool false) ?_ | refine aw_region rfl ?_ | refine aw_region_draw mixedF rfl (by kernel_rfl) ?_ | refine aE rfl ?_); simp only [go_sem]) | refine callG_y ?_ | refine callG_p ?_ | refine aw_seq ?_ | refine aw_block ?_ | refine aw_scope ?_ | (refine aw_cond rfl (fun h => ?_) (fun h => ?_) <;> try (exfalso; first | (simp at h; done) | (simp at h; omega))) | ((with_reducible refine And.intro ?_ ?_); focus (first | omega | (intros; simp_all; done) | (simp; omega)))
  all_goals (simp only [decide_eq_true_eq, decide_eq_false_iff_not] at *)
  · simp only [h, if_true]; exact done (by simp only [go_sem]) (.refl _)
  · simp only [*, if_true, if_false]; exact done (by simp only [go_sem]) (.refl _)
  · simp only [*, if_true, if_false]; exact done (by simp only [go_sem]) (.refl _)
end Go.Proofs.YtmknmapgfjmioaaGreatDoor
/- What the functions of the names answer, as far as operations reach them. No condition. -/
namespace Go.Gw
open Go Go.Aw

def isPre (p s : Txt) : Bool := decide (p.length ≤ s.length) && decide (s.take p.length = p)
def ruA (c : Int) : AV := .int .i32 c

/-- The runes of a text, from a place on. -/
def spellA (s : Txt) : Nat → Nat → Option (List Int)
  | 0, pos => if pos < s.length then none else some []
  | k + 1, pos => if pos < s.length then
      if (!decide (((runeAt s pos).1 : Int) = 65533)) = true ∨ isPre [239, 191, 189] (s.drop pos) = true then (spellA s k (pos + (runeAt s pos).2)).map (((runeAt s pos).1 : Int) :: ·) else none
    else some []
def spell (s : Txt) : Option (List Int) := spellA s s.length 0

theorem runeAt_pos (s : Txt) (pos : Nat) : 1 ≤ (runeAt s pos).2 := by
  unfold runeAt Utf8.decode
  simp only []
  repeat' split
  all_goals simp

/-- Where a predicate holds first; -1: nowhere. -/
def idxI {α : Type} (p : α → Bool) : List α → Int
  | [] => -1
  | x :: l => if p x = true then 0 else if idxI p l = -1 then -1 else idxI p l + 1
theorem idxI_ge {α : Type} (p : α → Bool) (l : List α) : -1 ≤ idxI p l := by
  induction l with
  | nil => simp [idxI]
  | cons x l ih => unfold idxI; repeat' split
                   all_goals omega
theorem idxI_any {α : Type} (p : α → Bool) (l : List α) : decide (0 ≤ idxI p l) = l.any p := by
  induction l with
  | nil => simp [idxI]
  | cons x l ih =>
    have := idxI_ge p l
    unfold idxI
    rw [List.any_cons, ← ih]
    by_cases h : p x = true
    · simp [h]
    · rw [if_neg h]
      have : p x = false := by simpa using h
      rw [this, Bool.false_or]
      by_cases h2 : idxI p l = -1
      · simp [h2]
      · rw [if_neg h2, Bool.eq_iff_iff]; simp; omega
theorem idxI_at {α : Type} (p : α → Bool) (l : List α) (i : Nat) (hi : i < l.length) (h : ∀ k (hk : k < i), p (l[k]'(by omega)) = false) (hp : p l[i] = true) : idxI p l = i := by
  induction l generalizing i with
  | nil => simp at hi
  | cons x l ih =>
    cases i with
    | zero => simp at hp; simp [idxI, hp]
    | succ i =>
      have h0 := h 0 (by omega)
      simp at h0
      have h1 := ih i (by simpa using hi) (fun k hk => by simpa using h (k + 1) (by omega)) (by simpa using hp)
      unfold idxI
      rw [h0, h1]
      simp
theorem idxI_no {α : Type} (p : α → Bool) (l : List α) (h : ∀ k (hk : k < l.length), p l[k] = false) : idxI p l = -1 := by
  induction l with
  | nil => rfl
  | cons x l ih =>
    have h0 := h 0 (by simp)
    simp at h0
    unfold idxI
    rw [h0, ih fun k hk => h (k + 1) (by simpa using hk)]
    rfl

def barredI (c : Int) : Bool := decide (c < 32) || decide (c = 47) || decide (c = 127)
def nameOk (s : Txt) : Bool :=
  match spell s with
  | some l => bif (decide ((l.length : Int) < 1) || decide (20 < (l.length : Int)) || decide (s = [46]) || decide (s = [46, 46])) then false else !l.any barredI
  | none => false
end Go.Gw

namespace Go.Proofs.YtmknmapgfjmioaaGreatDoor
open Go Go.Aw Go.Gw
set_option linter.unusedSimpArgs false
set_option maxRecDepth 20000

theorem pre0_c (s p : Txt) (H : AHeap) : FnC Tryz.prog 107 [.str s, .str p] H (.bool (isPre p s)) := by
  refine fnC_of Tryz.func107 rfl (Nat.le_of_ble_eq_true rfl) ?_
  repeat' first | ((first | refine callP_false (.bool false) ?_ | refine aw_region rfl ?_ | refine aw_region_draw mixedF rfl (by kernel_rfl) ?_ | refine aE rfl ?_); simp only [go_sem]) | refine callG_y ?_ | refine callG_p ?_ | refine aw_seq ?_ | refine aw_block ?_ | refine aw_scope ?_ | (refine aw_cond rfl (fun h => ?_) (fun h => ?_) <;> try (exfalso; first | (simp at h; done) | (simp at h; omega))) | ((with_reducible refine And.intro ?_ ?_); focus (first | omega | (intros; simp_all; done) | (simp; omega)))
  exact done0 (by simp only [go_sem]) (.of (by simp only [isPre, Int.ofNat_le]))

theorem pre_c (s p : Txt) (H : AHeap) : FnC Tryz.prog 122 [.str s, .str p] H (.bool (isPre p s)) := by
  refine fnC_of Tryz.func122 rfl (Nat.le_of_ble_eq_true rfl) ?_
  repeat' first | ((first | refine cK (ct (pre0_c _ _) callOk107F) ?_ | refine cP (ct (pre0_c _ _) callOk107F) ?_ | refine cM (ct (pre0_c _ _) callOk107F) ?_ | refine callP_false (.bool false) ?_ | refine aw_region rfl ?_ | refine aw_region_draw mixedF rfl (by kernel_rfl) ?_ | refine aE rfl ?_); simp only [go_sem]) | refine callG_y ?_ | refine callG_p ?_ | refine aw_seq ?_ | refine aw_block ?_ | refine aw_scope ?_ | (refine aw_cond rfl (fun h => ?_) (fun h => ?_) <;> try (exfalso; first | (simp at h; done) | (simp at h; omega))) | ((with_reducible refine And.intro ?_ ?_); focus (first | omega | (intros; simp_all; done) | (simp; omega)))
  exact done0 (by simp only [go_sem]) (.refl _)

theorem barred_c (c : Int) (H : AHeap) : FnC Tryz.prog 113 [.int .i32 c] H (.bool (barredI c)) := by
  refine fnC_of Tryz.func113 rfl (Nat.le_of_ble_eq_true rfl) ?_
  repeat' first | ((first | refine callP_false (.bool false) ?_ | refine aw_region rfl ?_ | refine aw_region_draw mixedF rfl (by kernel_rfl) ?_ | refine aE rfl ?_); simp only [go_sem]) | refine callG_y ?_ | refine callG_p ?_ | refine aw_seq ?_ | refine aw_block ?_ | refine aw_scope ?_ | (refine aw_cond rfl (fun h => ?_) (fun h => ?_) <;> try (exfalso; first | (simp at h; done) | (simp at h; omega))) | ((with_reducible refine And.intro ?_ ?_); focus (first | omega | (intros; simp_all; done) | (simp; omega)))
  exact done0 (by simp only [go_sem]) (.refl _)

theorem idxRune_c (b : Bool) (l : List Int) (fv : AV) (p : Int → Bool) (H : AHeap) (hf : ∀ c, FnV Tryz.prog fv [.int .i32 c] H (.bool (p c))) :
    FnC Tryz.prog 123 [.sl b (l.map ruA), fv] H (.int .i64 (idxI p l)) := by
  refine fnC_ok2 fun hok _ => ?_
  have hl := ok_sl hok
  rw [List.length_map] at hl
  refine fnC_of Tryz.func123 rfl (Nat.le_of_ble_eq_true rfl) ?_
  repeat' first | ((first | refine callP_false (.bool false) ?_ | refine aw_region rfl ?_ | refine aw_region_draw mixedF rfl (by kernel_rfl) ?_ | refine aE rfl ?_); simp only [go_sem]) | refine callG_y ?_ | refine callG_p ?_ | refine aw_seq ?_ | refine aw_block ?_ | refine aw_scope ?_ | (refine aw_cond rfl (fun h => ?_) (fun h => ?_) <;> try (exfalso; first | (simp at h; done) | (simp at h; omega))) | ((with_reducible refine And.intro ?_ ?_); focus (first | omega | (intros; simp_all; done) | (simp; omega)))
  refine aw_loopS (ι := Nat) (fun i => [(0, .sl b (l.map ruA)), (1, fv), (7, .int .i64 l.length), (8, .int .i64 i)]) (fun _ => H) (fun i => i ≤ l.length ∧ ∀ k (hk : k < i) (hk2 : k < l.length), p l[k] = false) (fun i => l.length - i) 0 ⟨Nat.zero_le _, fun k hk => by omega⟩ ?_ rfl ?_
  · simp [go_sem]
  · rintro i ⟨hi, hno⟩
    by_cases hlt : i < l.length
    · have hp := getD_map ruA hlt
      repeat' first | ((first | refine callP_false (.bool false) ?_ | refine aw_region rfl ?_ | refine aw_region_draw mixedF rfl (by kernel_rfl) ?_ | refine aE rfl ?_); simp only [go_sem, hp, ruA]) | refine callG_y ?_ | refine callG_p ?_ | refine aw_seq ?_ | refine aw_block ?_ | refine aw_scope ?_ | (refine aw_cond rfl (fun h => ?_) (fun h => ?_) <;> try (exfalso; first | (simp at h; done) | (simp at h; omega))) | ((with_reducible refine And.intro ?_ ?_); focus (first | omega | (intros; simp_all; done) | (simp; omega)))
      refine callK_v0 (hf _) ?_
      simp only [go_sem]
      repeat' first | ((first | refine callP_false (.bool false) ?_ | refine aw_region rfl ?_ | refine aw_region_draw mixedF rfl (by kernel_rfl) ?_ | refine aE rfl ?_); simp only [go_sem]) | refine callG_y ?_ | refine callG_p ?_ | refine aw_seq ?_ | refine aw_block ?_ | refine aw_scope ?_ | (refine aw_cond rfl (fun h => ?_) (fun h => ?_) <;> try (exfalso; first | (simp at h; done) | (simp at h; omega))) | ((with_reducible refine And.intro ?_ ?_); focus (first | omega | (intros; simp_all; done) | (simp; omega)))
      · exact done0 (by simp only [go_sem]) (.of (by rw [idxI_at p l i hlt (fun k hk => hno k hk (by omega)) h]))
      · refine ⟨i + 1, ⟨hlt, fun k hk hk2 => ?_⟩, by omega, by rw [wrap_i64 (by omega) (by omega)]; rfl⟩
        by_cases e : k = i
        · subst e; exact h
        · exact hno k (by omega) hk2
    · have hi' : i = l.length := by omega
      repeat' first | ((first | refine callP_false (.bool false) ?_ | refine aw_region rfl ?_ | refine aw_region_draw mixedF rfl (by kernel_rfl) ?_ | refine aE rfl ?_); simp only [go_sem]) | refine callG_y ?_ | refine callG_p ?_ | refine aw_seq ?_ | refine aw_block ?_ | refine aw_scope ?_ | (refine aw_cond rfl (fun h => ?_) (fun h => ?_) <;> try (exfalso; first | (simp at h; done) | (simp at h; omega))) | ((with_reducible refine And.intro ?_ ?_); focus (first | omega | (intros; simp_all; done) | (simp; omega)))
      subst hi'
      exact done0 (by simp only [go_sem]) (.of (by rw [idxI_no p l fun k hk => hno k hk hk]))

theorem anyRune_c (b : Bool) (l : List Int) (fv : AV) (p : Int → Bool) (H : AHeap) (hf : ∀ c, FnV Tryz.prog fv [.int .i32 c] H (.bool (p c))) :
    FnC Tryz.prog 112 [.sl b (l.map ruA), fv] H (.bool (l.any p)) := by
  refine fnC_of Tryz.func112 rfl (Nat.le_of_ble_eq_true rfl) ?_
  have hx := idxRune_c b l fv p H hf
  repeat' first | ((first | refine callK_fn (hx) callOk123F ?_ | refine callP_fn (hx) callOk123F ?_ | refine callM_fn (fun _ => hx) callOk123F ?_ | refine callP_false (.bool false) ?_ | refine aw_region rfl ?_ | refine aw_region_draw mixedF rfl (by kernel_rfl) ?_ | refine aE rfl ?_); simp only [go_sem]) | refine callG_y ?_ | refine callG_p ?_ | refine aw_seq ?_ | refine aw_block ?_ | refine aw_scope ?_ | (refine aw_cond rfl (fun h => ?_) (fun h => ?_) <;> try (exfalso; first | (simp at h; done) | (simp at h; omega))) | ((with_reducible refine And.intro ?_ ?_); focus (first | omega | (intros; simp_all; done) | (simp; omega)))
  exact done0 (by simp only [go_sem]) (.of (by rw [idxI_any]))

theorem spellA_le (s : Txt) : ∀ (k pos : Nat) (l : List Int), spellA s k pos = some l → l.length ≤ s.length - pos
  | 0, pos, l, h => by unfold spellA at h; split at h <;> simp at h; subst h; simp
  | k + 1, pos, l, h => by
    unfold spellA at h
    split at h
    · split at h
      · rw [Option.map_eq_some_iff] at h
        obtain ⟨m, h1, rfl⟩ := h
        have := spellA_le s k _ m h1
        have := runeAt_pos s pos
        simp; omega
      · cases h
    · simp at h; subst h; simp

theorem spellA_fuel (s : Txt) : ∀ (k j pos : Nat), s.length ≤ pos + k → s.length ≤ pos + j → spellA s k pos = spellA s j pos
  | 0, 0, pos, _, _ => rfl
  | 0, j + 1, pos, h1, _ => by unfold spellA; rw [if_neg (by omega), if_neg (by omega)]
  | k + 1, 0, pos, _, h2 => by unfold spellA; rw [if_neg (by omega), if_neg (by omega)]
  | k + 1, j + 1, pos, h1, h2 => by
    have := runeAt_pos s pos
    unfold spellA
    rw [spellA_fuel s k j _ (by omega) (by omega)]

/-- What is spelled behind the first runes. -/
def spellT (s : Txt) (acc : List Int) (pos : Nat) : Option (List Int) := (spellA s (s.length - pos) pos).map (acc ++ ·)

theorem spellT_end {s : Txt} {acc : List Int} {pos : Nat} (h : ¬ pos < s.length) : spellT s acc pos = some acc := by
  unfold spellT
  rw [spellA_fuel s _ 0 pos (by omega) (by omega)]
  simp [spellA, h]
theorem spellT_step {s : Txt} {acc : List Int} {pos : Nat} (h : pos < s.length) : spellT s acc pos =
    if (!decide (((runeAt s pos).1 : Int) = 65533)) = true ∨ isPre [239, 191, 189] (s.drop pos) = true then spellT s (acc ++ [((runeAt s pos).1 : Int)]) (pos + (runeAt s pos).2) else none := by
  have hw := runeAt_pos s pos
  unfold spellT
  rw [spellA_fuel s _ (s.length - pos - 1 + 1) pos (by omega) (by omega)]
  conv => lhs; unfold spellA
  rw [if_pos h]
  split
  · rw [spellA_fuel s (s.length - pos - 1) (s.length - (pos + (runeAt s pos).2)) _ (by omega) (by omega)]
    cases spellA s (s.length - (pos + (runeAt s pos).2)) (pos + (runeAt s pos).2) <;> simp
  · rfl

def spellV (r : Option (List Int)) : AV :=
  match r with
  | some l => .tup [.sl false (l.map ruA), .bool true]
  | none => .tup [.sl false [], .bool false]

theorem rep_flat (n : Nat) (k : IntKind) : (List.replicate n (AV.int k 0)).flatMap AV.cells = List.replicate n (AV.int k 0) := by
  induction n with
  | zero => rfl
  | succ n ih => rw [List.replicate_succ, List.flatMap_cons, ih]; rfl
theorem splice_rep (A : List AV) (m : Nat) (z x : AV) : splice (A ++ List.replicate (m + 1) z) A.length [x] = (A ++ [x]) ++ List.replicate m z := by
  simp [splice, List.replicate_succ]

def spellH (s : Txt) (x : Nat × List Int) : AHeap := [.cells 1 (x.2.map ruA ++ List.replicate (s.length - x.2.length) (AV.int .i32 0)), .siter s x.1]

theorem spell_c (s : Txt) (hs : s.length ≤ 1073741824) (H : AHeap) : FnC Tryz.prog 111 [.str s] H (spellV (spell s)) := by
  refine fnC_of Tryz.func111 rfl (Nat.le_of_ble_eq_true rfl) ?_
  repeat' first | ((first | refine callP_false (.bool false) ?_ | refine aw_region rfl ?_ | refine aw_region_draw mixedF rfl (by kernel_rfl) ?_ | refine aE rfl ?_); simp only [go_sem]) | refine callG_y ?_ | refine callG_p ?_ | refine aw_seq ?_ | refine aw_block ?_ | refine aw_scope ?_ | (refine aw_cond rfl (fun h => ?_) (fun h => ?_) <;> try (exfalso; first | (simp at h; done) | (simp at h; omega))) | ((with_reducible refine And.intro ?_ ?_); focus (first | omega | (intros; simp_all; done) | (simp; omega)))
  refine aw_loopS (ι := Nat × List Int) (fun x => [(0, .str s), (4, .osl 1 H.length 1 0 x.2.length s.length), (5, .bool true), (12, .iter (H.length + 1))]) (fun x => H ++ spellH s x)
    (fun x => spellT s x.2 x.1 = spell s ∧ x.2.length ≤ x.1) (fun x => s.length + 4 - x.1) (0, []) ?_ ?_ ?_ ?_
  · refine ⟨?_, Nat.le_refl _⟩
    show (spellA s (s.length - 0) 0).map _ = _
    rw [spell, Nat.sub_zero]
    cases spellA s s.length 0 <;> simp
  · simp [go_sem]
  · simp [spellH, rep_flat]
  · rintro ⟨pos, acc⟩ ⟨h1, h2⟩
    simp only [spellH] at h1 h2 ⊢
    by_cases hlt : pos < s.length
    · have hne : ¬ acc.length = s.length := by omega
      have hlen : (acc.map ruA).length = acc.length := List.length_map ..
      obtain ⟨m, hm⟩ : ∃ m, s.length - acc.length = m + 1 := ⟨s.length - acc.length - 1, by omega⟩
      have hm2 : s.length - (acc.length + 1) = m := by omega
      have hw := runeAt_pos s pos
      have hst := spellT_step (acc := acc) hlt
      rw [h1] at hst
      repeat' first | ((first | refine cK (ct (pre_c _ _) callOk122F) ?_ | refine cP (ct (pre_c _ _) callOk122F) ?_ | refine cM (ct (pre_c _ _) callOk122F) ?_ | refine callP_false (.bool false) ?_ | refine aw_region rfl ?_ | refine aw_region_draw mixedF rfl (by kernel_rfl) ?_ | refine aE rfl ?_); simp only [go_sem, hlt, hne]) | refine callG_y ?_ | refine callG_p ?_ | refine aw_seq ?_ | refine aw_block ?_ | refine aw_scope ?_ | (refine aw_cond rfl (fun h => ?_) (fun h => ?_) <;> try (exfalso; first | (simp at h; done) | (simp at h; omega))) | ((with_reducible refine And.intro ?_ ?_); focus (first | omega | (intros; simp_all; done) | (simp; omega)))
      · rw [if_pos (.inl h)] at hst
        refine ⟨⟨by rw [List.length_replicate]; omega, by omega, fun e he => by rw [he]; rfl⟩, (pos + (runeAt s pos).2, acc ++ [((runeAt s pos).1 : Int)]), ⟨hst.symm, by simp; omega⟩, by simp; omega, by simp, ?_⟩
        have hsp := splice_rep (acc.map ruA) m (.int .i32 0) (.int .i32 (runeAt s pos).1)
        rw [hlen] at hsp
        simp [hm, hm2, ruA] at hsp ⊢
        exact hsp
      · rename_i _ h5 h6
        exact Bool.noConfusion (h5.symm.trans h6)
      · rw [if_pos (.inr h)] at hst
        refine ⟨⟨by rw [List.length_replicate]; omega, by omega, fun e he => by rw [he]; rfl⟩, (pos + (runeAt s pos).2, acc ++ [((runeAt s pos).1 : Int)]), ⟨hst.symm, by simp; omega⟩, by simp; omega, by simp, ?_⟩
        have hsp := splice_rep (acc.map ruA) m (.int .i32 0) (.int .i32 (runeAt s pos).1)
        rw [hlen] at hsp
        simp [hm, hm2, ruA] at hsp ⊢
        exact hsp
      · rename_i _ h6 h7
        rw [if_neg (by rw [h6, h7]; simp)] at hst
        rw [hst]
        exact done (by simp only [go_sem]) (.tup _ _ rfl (sims_cons (.sl _ _) (sims_cons (.refl _) sims_nil)))
    · repeat' first | ((first | refine callP_false (.bool false) ?_ | refine aw_region rfl ?_ | refine aw_region_draw mixedF rfl (by kernel_rfl) ?_ | refine aE rfl ?_); simp only [go_sem, hlt]) | refine callG_y ?_ | refine callG_p ?_ | refine aw_seq ?_ | refine aw_block ?_ | refine aw_scope ?_ | (refine aw_cond rfl (fun h => ?_) (fun h => ?_) <;> try (exfalso; first | (simp at h; done) | (simp at h; omega))) | ((with_reducible refine And.intro ?_ ?_); focus (first | omega | (intros; simp_all; done) | (simp; omega)))
      rw [← h1, spellT_end hlt]
      refine ⟨_, _, rfl, ?_, rfl⟩
      refine .tup _ _ rfl fun i x y hx hy => ?_
      match i, hx, hy with
      | 0, hx, hy =>
        cases hx; cases hy
        refine .osl 1 H.length 1 0 acc.length s.length (acc.map ruA ++ List.replicate (s.length - acc.length) (AV.int .i32 0)) _ (Nat.le_refl _) (by simp [go_sem]) (by simp) (by simp) (fun e he => ?_) (fun k j e x y hk hj hx => ?_)
        · obtain ⟨c, _, rfl⟩ := List.mem_map.1 he; rfl
        · rw [List.getElem?_map, Option.map_eq_some_iff] at hk
          obtain ⟨c, hc, rfl⟩ := hk
          have hj0 : j = 0 := by
            have := (List.getElem?_eq_some_iff.1 hj).1
            simp [ruA, AV.cells] at this; exact this
          subst hj0
          have hkl := (List.getElem?_eq_some_iff.1 hc).1
          simp only [ruA, AV.cells, List.getElem?_cons_zero, Option.some.injEq] at hj
          subst hj
          rw [Nat.mul_one, Nat.add_zero, Nat.zero_add, List.getElem?_append_left (by simpa using hkl), List.getElem?_map, hc] at hx
          cases hx
          exact .cl _ (.int _ _)
      | 1, hx, hy => cases hx; cases hy; exact .cl _ (.bool _)
      | i + 2, hx, _ => simp at hx

theorem nameOk_c (s : Txt) (hs : s.length ≤ 1073741824) (H : AHeap) : FnC Tryz.prog 100 [.str s] H (.bool (nameOk s)) := by
  refine fnC_of Tryz.func100 rfl (Nat.le_of_ble_eq_true rfl) ?_
  have hsp := spell_c s hs H
  have hany : ∀ l : List Int, FnC Tryz.prog 112 [.sl false (l.map ruA), .func (.func 113) [] []] H (.bool (l.any barredI)) := fun l => anyRune_c false l _ barredI H fun c => .mk (first := []) (cap := []) (fun L => barred_c c (H ++ L)) callOk113F
  unfold nameOk
  cases hr : spell s with
  | none =>
    rw [hr] at hsp
    simp only [spellV] at hsp
    repeat' first | ((first | refine callK_fn (hsp) callOk111F ?_ | refine callP_fn (hsp) callOk111F ?_ | refine callM_fn (fun _ => hsp) callOk111F ?_ | refine callK_fn (hany _) callOk112F ?_ | refine callP_fn (hany _) callOk112F ?_ | refine callM_fn (fun _ => hany _) callOk112F ?_ | refine callP_false (.bool false) ?_ | refine aw_region rfl ?_ | refine aw_region_draw mixedF rfl (by kernel_rfl) ?_ | refine aE rfl ?_); simp only [go_sem]) | refine callG_y ?_ | refine callG_p ?_ | refine aw_seq ?_ | refine aw_block ?_ | refine aw_scope ?_ | (refine aw_cond rfl (fun h => ?_) (fun h => ?_) <;> try (exfalso; first | (simp at h; done) | (simp at h; omega))) | ((with_reducible refine And.intro ?_ ?_); focus (first | omega | (intros; simp_all; done) | (simp; omega)))
    exact done0 (by simp only [go_sem]) (.refl _)
  | some l =>
    rw [hr] at hsp
    simp only [spellV] at hsp
    repeat' first | ((first | refine callK_fn (hsp) callOk111F ?_ | refine callP_fn (hsp) callOk111F ?_ | refine callM_fn (fun _ => hsp) callOk111F ?_ | refine callK_fn (hany _) callOk112F ?_ | refine callP_fn (hany _) callOk112F ?_ | refine callM_fn (fun _ => hany _) callOk112F ?_ | refine callP_false (.bool false) ?_ | refine aw_region rfl ?_ | refine aw_region_draw mixedF rfl (by kernel_rfl) ?_ | refine aE rfl ?_); simp only [go_sem]) | refine callG_y ?_ | refine callG_p ?_ | refine aw_seq ?_ | refine aw_block ?_ | refine aw_scope ?_ | (refine aw_cond rfl (fun h => ?_) (fun h => ?_) <;> try (exfalso; first | (simp at h; done) | (simp at h; omega))) | ((with_reducible refine And.intro ?_ ?_); focus (first | omega | (intros; simp_all; done) | (simp; omega)))
    · exact done0 (by simp only [go_sem]) (.of (by simp only [h, cond_true]))
    · exact done0 (by simp only [go_sem]) (.of (by simp only [h, cond_false]))

/-! ### Operations -/
def OpS (o : Opn) : Prop := o.name.length ≤ 1073741824 ∧ o.data.length ≤ 1073741824
def fitsM (o : Opn) : Bool := ofOk o.node && dirI o.parent && !laterI o.at_.c o.at_.r o.parent && nameOk o.name && decide (o.data = [])
def fitsW (o : Opn) : Bool := ofOk o.node && oC o.node && decide ((o.data.length : Int) ≤ 64) && decide (o.parent = 0) && decide (o.name = [])
def opOk (o : Opn) : Bool := (decide (o.kind = 1) || decide (o.kind = 2)) && okI o.at_.c o.at_.r && !laterI o.at_.c o.at_.r o.node && (if o.kind = 1 then fitsM o else fitsW o)

theorem fitsM_c (o : Opn) (hs : OpS o) (H : AHeap) : FnC Tryz.prog 150 [opA o] H (.bool (fitsM o)) := by
  refine fnC_of Tryz.func150 rfl (Nat.le_of_ble_eq_true rfl) ?_
  have hs1 := hs.1
  simp only [opA]
  repeat' first | ((first | refine cK (ct (of_c _) callOk80F) ?_ | refine cP (ct (of_c _) callOk80F) ?_ | refine cM (ct (of_c _) callOk80F) ?_ | refine cK (ct (dir_c _) callOk57F) ?_ | refine cP (ct (dir_c _) callOk57F) ?_ | refine cM (ct (dir_c _) callOk57F) ?_ | refine cK (ct (later_c _ _ _) callOk73F) ?_ | refine cP (ct (later_c _ _ _) callOk73F) ?_ | refine cM (ct (later_c _ _ _) callOk73F) ?_ | refine callK_fn (nameOk_c _ (by first | assumption | decide | omega | (simp_all; done) | (simp_all; omega)) _) callOk100F ?_ | refine callP_fn (nameOk_c _ (by first | assumption | decide | omega | (simp_all; done) | (simp_all; omega)) _) callOk100F ?_ | refine callM_fn (fun _ => nameOk_c _ (by first | assumption | decide | omega | (simp_all; done) | (simp_all; omega)) _) callOk100F ?_ | refine callP_false (.bool false) ?_ | refine aw_region rfl ?_ | refine aw_region_draw mixedF rfl (by kernel_rfl) ?_ | refine aE rfl ?_); simp only [go_sem]) | refine callG_y ?_ | refine callG_p ?_ | refine aw_seq ?_ | refine aw_block ?_ | refine aw_scope ?_ | (refine aw_cond rfl (fun h => ?_) (fun h => ?_) <;> try (exfalso; first | (simp at h; done) | (simp at h; omega))) | ((with_reducible refine And.intro ?_ ?_); focus (first | omega | (intros; simp_all; done) | (simp; omega)))
  exact done (by simp only [go_sem]) (.refl _)

theorem fitsW_c (o : Opn) (H : AHeap) : FnC Tryz.prog 152 [opA o] H (.bool (fitsW o)) := by
  refine fnC_of Tryz.func152 rfl (Nat.le_of_ble_eq_true rfl) ?_
  simp only [opA]
  repeat' first | ((first | refine cK (ct (of_c _) callOk80F) ?_ | refine cP (ct (of_c _) callOk80F) ?_ | refine cM (ct (of_c _) callOk80F) ?_ | refine callP_false (.bool false) ?_ | refine aw_region rfl ?_ | refine aw_region_draw mixedF rfl (by kernel_rfl) ?_ | refine aE rfl ?_); simp only [go_sem]) | refine callG_y ?_ | refine callG_p ?_ | refine aw_seq ?_ | refine aw_block ?_ | refine aw_scope ?_ | (refine aw_cond rfl (fun h => ?_) (fun h => ?_) <;> try (exfalso; first | (simp at h; done) | (simp at h; omega))) | ((with_reducible refine And.intro ?_ ?_); focus (first | omega | (intros; simp_all; done) | (simp; omega)))
  exact done (by simp only [go_sem]) (.refl _)

theorem opOk_c (o : Opn) (hs : OpS o) (H : AHeap) : FnC Tryz.prog 46 [opA o] H (.bool (opOk o)) := by
  refine fnC_of Tryz.func46 rfl (Nat.le_of_ble_eq_true rfl) ?_
  have hk := kindOf_c o
  have hm := fitsM_c o hs
  have hw := fitsW_c o
  simp only [opA] at hk hm hw ⊢
  by_cases h1 : o.kind = 1
  · simp only [h1, if_true] at hk hm ⊢
    have ct0 := ct hk callOk71F; repeat' first | ((first | refine cK (by assumption) ?_ | refine cP (by assumption) ?_ | refine cM (by assumption) ?_ | refine cK (ct (check_c _ _) callOk72F) ?_ | refine cP (ct (check_c _ _) callOk72F) ?_ | refine cM (ct (check_c _ _) callOk72F) ?_ | refine cK (ct (later_c _ _ _) callOk73F) ?_ | refine cP (ct (later_c _ _ _) callOk73F) ?_ | refine cM (ct (later_c _ _ _) callOk73F) ?_ | refine callK_cap (hm _) callOk150F ?_ | refine callP_cap (fun _ => hm _) callOk150F ?_ | refine callM_cap (fun _ => hm _) callOk150F ?_ | refine callP_false (.bool false) ?_ | refine aw_region rfl ?_ | refine aw_region_draw mixedF rfl (by kernel_rfl) ?_ | refine aE rfl ?_); simp only [go_sem]) | refine callG_y ?_ | refine callG_p ?_ | refine aw_seq ?_ | refine aw_block ?_ | refine aw_scope ?_ | (refine aw_cond rfl (fun h => ?_) (fun h => ?_) <;> try (exfalso; first | (simp at h; done) | (simp at h; omega))) | ((with_reducible refine And.intro ?_ ?_); focus (first | omega | (intros; simp_all; done) | (simp; omega)))
    exact done (by simp only [go_sem]) (.of (by simp [opOk, h1]))
  · by_cases h2 : o.kind = 2
    · simp only [h2, if_true, if_false, Int.reduceEq] at hk hw ⊢
      have ct0 := ct hk callOk71F; repeat' first | ((first | refine cK (by assumption) ?_ | refine cP (by assumption) ?_ | refine cM (by assumption) ?_ | refine cK (ct (check_c _ _) callOk72F) ?_ | refine cP (ct (check_c _ _) callOk72F) ?_ | refine cM (ct (check_c _ _) callOk72F) ?_ | refine cK (ct (later_c _ _ _) callOk73F) ?_ | refine cP (ct (later_c _ _ _) callOk73F) ?_ | refine cM (ct (later_c _ _ _) callOk73F) ?_ | refine callK_cap (hw _) callOk152F ?_ | refine callP_cap (fun _ => hw _) callOk152F ?_ | refine callM_cap (fun _ => hw _) callOk152F ?_ | refine callP_false (.bool false) ?_ | refine aw_region rfl ?_ | refine aw_region_draw mixedF rfl (by kernel_rfl) ?_ | refine aE rfl ?_); simp only [go_sem]) | refine callG_y ?_ | refine callG_p ?_ | refine aw_seq ?_ | refine aw_block ?_ | refine aw_scope ?_ | (refine aw_cond rfl (fun h => ?_) (fun h => ?_) <;> try (exfalso; first | (simp at h; done) | (simp at h; omega))) | ((with_reducible refine And.intro ?_ ?_); focus (first | omega | (intros; simp_all; done) | (simp; omega)))
      exact done (by simp only [go_sem]) (.of (by simp [opOk, h1, h2]))
    · simp only [h1, h2, if_false] at hk
      have ct0 := ct hk callOk71F; repeat' first | ((first | refine cK (by assumption) ?_ | refine cP (by assumption) ?_ | refine cM (by assumption) ?_ | refine callP_false (.bool false) ?_ | refine aw_region rfl ?_ | refine aw_region_draw mixedF rfl (by kernel_rfl) ?_ | refine aE rfl ?_); simp only [go_sem]) | refine callG_y ?_ | refine callG_p ?_ | refine aw_seq ?_ | refine aw_block ?_ | refine aw_scope ?_ | (refine aw_cond rfl (fun h => ?_) (fun h => ?_) <;> try (exfalso; first | (simp at h; done) | (simp at h; omega))) | ((with_reducible refine And.intro ?_ ?_); focus (first | omega | (intros; simp_all; done) | (simp; omega)))
      exact done (by simp only [go_sem]) (.of (by simp [opOk, h1, h2]))
end Go.Proofs.YtmknmapgfjmioaaGreatDoor
/- Two lists held against each other; short lists. No condition. -/
namespace Go.Gw
def longNd (o : Nd) : Bool := decide (1000 < (o.name.length : Int)) || decide (1000 < (o.data.length : Int))
def fewNd (l : List Nd) (n : Int) : Bool := l.all (fun x => !longNd x) && decide ((l.length : Int) ≤ n)
end Go.Gw
namespace Go.Proofs.YtmknmapgfjmioaaGreatDoor
open Go Go.Aw Go.Gw
set_option linter.unusedSimpArgs false
set_option maxRecDepth 20000

theorem nums6_c (b1 b2 : Bool) (l m : List Int) (H : AHeap) : FnC Tryz.prog 13 [.sl b1 (l.map inA), .sl b2 (m.map inA)] H (.bool (decide (l = m))) := by
  refine fnC_ok2 fun hok _ => ?_
  have hl := ok_sl hok
  rw [List.length_map] at hl
  refine fnC_of Tryz.func13 rfl (Nat.le_of_ble_eq_true rfl) ?_
  repeat' first | ((first | refine callP_false (.bool false) ?_ | refine aw_region rfl ?_ | refine aw_region_draw mixedF rfl (by kernel_rfl) ?_ | refine aE rfl ?_); simp only [go_sem]) | refine callG_y ?_ | refine callG_p ?_ | refine aw_seq ?_ | refine aw_block ?_ | refine aw_scope ?_ | (refine aw_cond rfl (fun h => ?_) (fun h => ?_) <;> try (exfalso; first | (simp at h; done) | (simp at h; omega))) | ((with_reducible refine And.intro ?_ ?_); focus (first | omega | (intros; simp_all; done) | (simp; omega)))
  · exact done0 (by simp only [go_sem]) (.of (by rw [decide_eq_false (fun e => by subst e; simp at h)]))
  · have hlen : l.length = m.length := by simp at h; omega
    refine aw_loopS (ι := Nat) (fun i => [(0, .sl b1 (l.map inA)), (1, .sl b2 (m.map inA)), (5, .int .i64 i)]) (fun _ => H) (fun i => i ≤ l.length ∧ l.take i = m.take i) (fun i => l.length - i) 0 ⟨Nat.zero_le _, rfl⟩ ?_ rfl ?_
    · simp [go_sem]
    · rintro i ⟨hi, he⟩
      by_cases hlt : i < l.length
      · have hp := getD_map inA hlt
        have hq := getD_map inA (show i < m.length by omega)
        repeat' first | ((first | refine callP_false (.bool false) ?_ | refine aw_region rfl ?_ | refine aw_region_draw mixedF rfl (by kernel_rfl) ?_ | refine aE rfl ?_); simp only [go_sem, hp, hq, inA]) | refine callG_y ?_ | refine callG_p ?_ | refine aw_seq ?_ | refine aw_block ?_ | refine aw_scope ?_ | (refine aw_cond rfl (fun h => ?_) (fun h => ?_) <;> try (exfalso; first | (simp at h; done) | (simp at h; omega))) | ((with_reducible refine And.intro ?_ ?_); focus (first | omega | (intros; simp_all; done) | (simp; omega)))
        · skip
          have hne : l[i] ≠ m[i] := by simpa using h
          exact done0 (by simp only [go_sem]) (.of (by rw [decide_eq_false (fun e => hne (by subst e; rfl))]))
        · skip
          have heq : l[i] = m[i] := by simpa using h
          exact ⟨i + 1, ⟨hlt, by rw [List.take_succ_eq_append_getElem hlt, List.take_succ_eq_append_getElem (by omega), he, heq]⟩, by omega, by rw [wrap_i64 (by omega) (by omega)]; rfl⟩
      · have hi' : i = l.length := by omega
        subst hi'
        repeat' first | ((first | refine callP_false (.bool false) ?_ | refine aw_region rfl ?_ | refine aw_region_draw mixedF rfl (by kernel_rfl) ?_ | refine aE rfl ?_); simp only [go_sem]) | refine callG_y ?_ | refine callG_p ?_ | refine aw_seq ?_ | refine aw_block ?_ | refine aw_scope ?_ | (refine aw_cond rfl (fun h => ?_) (fun h => ?_) <;> try (exfalso; first | (simp at h; done) | (simp at h; omega))) | ((with_reducible refine And.intro ?_ ?_); focus (first | omega | (intros; simp_all; done) | (simp; omega)))
        exact done0 (by simp only [go_sem]) (.of (by rw [decide_eq_true (by rw [List.take_length, hlen, List.take_length] at he; exact he)]))

theorem few6_c (b1 : Bool) (l : List Nd) (n : Int) (H : AHeap) : FnC Tryz.prog 6 [.sl b1 (l.map ndA), .int .i64 n] H (.bool (fewNd l n)) := by
  refine fnC_ok2 fun hok _ => ?_
  have hl := ok_sl hok
  rw [List.length_map] at hl
  refine fnC_of Tryz.func6 rfl (Nat.le_of_ble_eq_true rfl) ?_
  repeat' first | ((first | refine callP_false (.bool false) ?_ | refine aw_region rfl ?_ | refine aw_region_draw mixedF rfl (by kernel_rfl) ?_ | refine aE rfl ?_); simp only [go_sem]) | refine callG_y ?_ | refine callG_p ?_ | refine aw_seq ?_ | refine aw_block ?_ | refine aw_scope ?_ | (refine aw_cond rfl (fun h => ?_) (fun h => ?_) <;> try (exfalso; first | (simp at h; done) | (simp at h; omega))) | ((with_reducible refine And.intro ?_ ?_); focus (first | omega | (intros; simp_all; done) | (simp; omega)))
  refine aw_loopS (ι := Nat) (fun i => [(0, .sl b1 (l.map ndA)), (1, .int .i64 n), (5, .int .i64 i)]) (fun _ => H) (fun i => i ≤ l.length ∧ ∀ x ∈ l.take i, longNd x = false) (fun i => l.length - i) 0 ⟨Nat.zero_le _, by simp⟩ ?_ rfl ?_
  · simp [go_sem]
  · rintro i ⟨hi, he⟩
    by_cases hlt : i < l.length
    · have hp := getD_map ndA hlt
      repeat' first | ((first | refine callP_false (.bool false) ?_ | refine aw_region rfl ?_ | refine aw_region_draw mixedF rfl (by kernel_rfl) ?_ | refine aE rfl ?_); simp only [go_sem, hp, ndA]) | refine callG_y ?_ | refine callG_p ?_ | refine aw_seq ?_ | refine aw_block ?_ | refine aw_scope ?_ | (refine aw_cond rfl (fun h => ?_) (fun h => ?_) <;> try (exfalso; first | (simp at h; done) | (simp at h; omega))) | ((with_reducible refine And.intro ?_ ?_); focus (first | omega | (intros; simp_all; done) | (simp; omega)))
      · exact done0 (by simp only [go_sem]) (.of (by
          have : fewNd l n = false := by
            unfold fewNd
            rw [Bool.and_eq_false_iff]
            left
            rw [Bool.eq_false_iff]
            intro q
            have q2 := List.all_eq_true.1 q l[i] (List.getElem_mem _)
            have h' : longNd l[i] = true := h
            rw [h'] at q2; cases q2
          rw [this]))
      · refine ⟨i + 1, ⟨hlt, fun x hx => ?_⟩, by omega, by rw [wrap_i64 (by omega) (by omega)]; rfl⟩
        rw [List.take_succ_eq_append_getElem hlt, List.mem_append] at hx
        rcases hx with hx | hx
        · exact he x hx
        · simp at hx; subst hx; exact h
    · have hi' : i = l.length := by omega
      subst hi'
      repeat' first | ((first | refine callP_false (.bool false) ?_ | refine aw_region rfl ?_ | refine aw_region_draw mixedF rfl (by kernel_rfl) ?_ | refine aE rfl ?_); simp only [go_sem]) | refine callG_y ?_ | refine callG_p ?_ | refine aw_seq ?_ | refine aw_block ?_ | refine aw_scope ?_ | (refine aw_cond rfl (fun h => ?_) (fun h => ?_) <;> try (exfalso; first | (simp at h; done) | (simp at h; omega))) | ((with_reducible refine And.intro ?_ ?_); focus (first | omega | (intros; simp_all; done) | (simp; omega)))
      refine done0 (by simp only [go_sem]) (.of ?_)
      rw [List.take_length] at he
      have : l.all (fun x => !longNd x) = true := List.all_eq_true.2 fun x hx => by rw [he x hx]; rfl
      rw [fewNd, this, Bool.true_and]

end Go.Proofs.YtmknmapgfjmioaaGreatDoor
/- Nodes, in plain Lean: whether they may be, places, what is above, what is done, and taken back. No condition. -/
namespace Go.Gw
open Go Go.Aw Go.Proofs.YtmknmapgfjmioaaGreatDoor

def chkF : Option Int → List Nd → Bool
  | _, [] => true
  | p, n :: l => (ofOk n.id && (match p with | none => true | some q => decide (q < n.id))) && chkF (some n.id) l
def chk (l : List Nd) : Bool := chkF none l
/-- The number of the node ahead of a place. -/
def prevId (l : List Nd) (i : Nat) : Option Int := if i = 0 then none else (l[i - 1]?).map (·.id)

theorem chkF_drop {l : List Nd} {i : Nat} (h : i < l.length) : chkF (prevId l i) (l.drop i) =
    ((ofOk l[i].id && !(decide ((0 : Int) < (i : Int)) && decide (l[i].id ≤ (l[i - 1]'(by omega)).id))) && chkF (prevId l (i + 1)) (l.drop (i + 1))) := by
  rw [List.drop_eq_getElem_cons h, show chkF (prevId l i) (l[i] :: l.drop (i + 1)) = ((ofOk l[i].id && (match prevId l i with | none => true | some q => decide (q < l[i].id))) && chkF (some l[i].id) (l.drop (i + 1))) from by cases prevId l i <;> rfl]
  have e : prevId l (i + 1) = some l[i].id := by
    simp [prevId, List.getElem?_eq_getElem h]
  rw [e]
  congr 2
  unfold prevId
  by_cases h0 : i = 0
  · subst h0; simp
  · rw [if_neg h0, List.getElem?_eq_getElem (show i - 1 < l.length by omega)]
    simp only [Option.map_some]
    rw [Bool.eq_iff_iff]
    simp
    omega

def ltAll (p : Option Int) (l : List Nd) : Prop := match p with | none => True | some q => ∀ x ∈ l, q < x.id
theorem chkF_iff (p : Option Int) (l : List Nd) : chkF p l = true ↔ (∀ x ∈ l, ofOk x.id = true) ∧ l.Pairwise (fun a b => a.id < b.id) ∧ ltAll p l := by
  induction l generalizing p with
  | nil => cases p <;> simp [chkF, ltAll]
  | cons n l ih =>
    unfold chkF
    rw [Bool.and_eq_true, Bool.and_eq_true, ih, List.pairwise_cons]
    cases p with
    | none => simp only [ltAll, List.mem_cons, forall_eq_or_imp]; exact ⟨fun ⟨⟨h1, _⟩, h2, h3, h4⟩ => ⟨⟨h1, h2⟩, ⟨h4, h3⟩, trivial⟩, fun ⟨⟨h1, h2⟩, ⟨h4, h3⟩, _⟩ => ⟨⟨h1, trivial⟩, h2, h3, h4⟩⟩
    | some q =>
      simp only [ltAll, List.mem_cons, forall_eq_or_imp, decide_eq_true_eq]
      exact ⟨fun ⟨⟨h1, h0⟩, h2, h3, h4⟩ => ⟨⟨h1, h2⟩, ⟨h4, h3⟩, h0, fun x hx => Int.lt_trans h0 (h4 x hx)⟩, fun ⟨⟨h1, h2⟩, ⟨h4, h3⟩, h0, _⟩ => ⟨⟨h1, h0⟩, h2, h3, h4⟩⟩
theorem chk_iff (l : List Nd) : chk l = true ↔ (∀ x ∈ l, ofOk x.id = true) ∧ l.Pairwise (fun a b => a.id < b.id) := by
  unfold chk; rw [chkF_iff]; simp [ltAll]

/-- Where a number's node is, or would be. -/
def pos : List Nd → Int → Nat
  | [], _ => 0
  | n :: l, id => if n.id < id then pos l id + 1 else 0
def fnd (l : List Nd) (id : Int) : Option Nd := l.find? (fun n => decide (n.id = id))
def had (l : List Nd) (id : Int) : Bool := (fnd l id).isSome

theorem pos_le (l : List Nd) (id : Int) : pos l id ≤ l.length := by
  induction l with
  | nil => exact Nat.le_refl _
  | cons n l ih => unfold pos; split <;> simp <;> omega
theorem pos_at {l : List Nd} {id : Int} {i : Nat} (hi : i ≤ l.length) (h1 : ∀ k (hk : k < i), (l[k]'(by omega)).id < id) (h2 : ∀ (h : i < l.length), ¬ l[i].id < id) : pos l id = i := by
  induction l generalizing i with
  | nil => simp at hi; subst hi; rfl
  | cons n l ih =>
    unfold pos
    cases i with
    | zero => have := h2 (by simp); simp at this; rw [if_neg (by omega)]
    | succ i =>
      have := h1 0 (by omega)
      simp at this
      rw [if_pos this, ih (i := i) (by simpa using hi) (fun k hk => by have := h1 (k + 1) (by omega); simpa using this) (fun h => by have := h2 (by simpa using h); simpa using this)]
theorem fnd_pos {l : List Nd} {id : Int} (hs : chk l = true) : fnd l id = match l[pos l id]? with | some n => if n.id = id then some n else none | none => none := by
  have hp := ((chk_iff l).1 hs).2
  clear hs
  induction l with
  | nil => rfl
  | cons n l ih =>
    rw [List.pairwise_cons] at hp
    unfold fnd pos
    rw [List.find?_cons]
    by_cases h : n.id < id
    · rw [if_pos h, decide_eq_false (by omega)]
      simp only [List.getElem?_cons_succ]
      exact ih hp.2
    · rw [if_neg h]
      simp only [List.getElem?_cons_zero]
      by_cases h2 : n.id = id
      · rw [if_pos h2, decide_eq_true h2]
      · rw [if_neg h2, decide_eq_false h2]
        simp only
        rw [List.find?_eq_none]
        intro x hx
        have := hp.1 x hx
        simp; omega
theorem had_pos {l : List Nd} {id : Int} (hs : chk l = true) : had l id = (match l[pos l id]? with | some n => decide (n.id = id) | none => false) := by
  rw [had, fnd_pos hs]
  split
  · split <;> simp_all
  · rfl
theorem had_lt {l : List Nd} {id : Int} (hs : chk l = true) (h : had l id = true) : pos l id < l.length := by
  rw [had_pos hs] at h
  split at h
  · rename_i n hn; exact (List.getElem?_eq_some_iff.1 hn).1
  · cases h
theorem fnd_had {l : List Nd} {id : Int} (hs : chk l = true) (h : had l id = true) : fnd l id = some (l[pos l id]'(had_lt hs h)) := by
  have hlt := had_lt hs h
  rw [had_pos hs, List.getElem?_eq_getElem hlt] at h
  rw [fnd_pos hs, List.getElem?_eq_getElem hlt]
  simp only [decide_eq_true_eq] at h ⊢
  rw [if_pos h]
theorem fnd_no {l : List Nd} {id : Int} (h : had l id = false) : fnd l id = none := by
  unfold had at h; cases hf : fnd l id <;> simp_all

/-- What is above a number, at most so many. -/
def aboveN (l : List Nd) : Nat → Int → List Int
  | 0, _ => []
  | k + 1, id => match fnd l id with
    | none => []
    | some n => if n.parent = -1 then [] else n.parent :: aboveN l k n.parent
def aboveI (l : List Nd) (id : Int) : List Int := aboveN l l.length id
def aboveC (l : List Nd) (id : Int) : List Int := if chk l = true then aboveI l id else []

theorem aboveN_len (l : List Nd) (k : Nat) (id : Int) : (aboveN l k id).length ≤ k := by
  induction k generalizing id with
  | zero => simp [aboveN]
  | succ k ih =>
    unfold aboveN
    split
    · simp
    · split
      · simp
      · simp; exact ih _

def findI (l : List Nd) (id : Int) : Option Nd := if chk l = true then fnd l id else none

def layN (l : List Nd) (i j : Nat) (xs : List Nd) : List Nd := l.take i ++ xs ++ l.drop j

def loopsI (l : List Nd) (o : Opn) : Bool := decide (o.parent = o.node) || (aboveI l o.parent).any (fun x => decide (x = o.node))
def refused (l : List Nd) (o : Opn) : Bool := !chk l || !opOk o || (decide (o.kind = 1) && loopsI l o)
def nodeWas (l : List Nd) (o : Opn) : Nd := match fnd l o.node with | some n => n | none => { nd0 with id := o.node, parent := -1 }
def nodeNew (l : List Nd) (o : Opn) : Nd :=
  if o.kind = 1 then { nodeWas l o with parent := o.parent, name := o.name, moved := o.at_ } else { nodeWas l o with data := o.data, wrote := o.at_ }
def upto (l : List Nd) (id : Int) : Nat := if had l id = true then pos l id + 1 else pos l id
def doL (l : List Nd) (o : Opn) : List Nd := if refused l o = true then l else layN l (pos l o.node) (upto l o.node) [nodeNew l o]
def doU (l : List Nd) (o : Opn) : Und := if refused l o = true then und0 else ⟨true, had l o.node, (fnd l o.node).getD nd0⟩
def backL (l : List Nd) (o : Opn) (u : Und) : List Nd :=
  if (!chk l || !u.did) = true then l
  else if (ofOk o.node && u.had && decide (u.was.id = o.node)) = true then layN l (pos l o.node) (upto l o.node) [u.was]
  else layN l (pos l o.node) (upto l o.node) []

theorem upto_le (l : List Nd) (id : Int) (hs : chk l = true) : pos l id ≤ upto l id ∧ upto l id ≤ l.length := by
  have := pos_le l id
  unfold upto
  split
  · rename_i h; have := had_lt hs h; omega
  · omega
theorem layN_len (l : List Nd) (i j : Nat) (xs : List Nd) (h : i ≤ j) (hj : j ≤ l.length) : (layN l i j xs).length + j = i + xs.length + l.length := by
  simp [layN]; omega
end Go.Gw
