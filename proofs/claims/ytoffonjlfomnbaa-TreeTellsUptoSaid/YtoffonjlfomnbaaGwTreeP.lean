/- Nodes, in plain Lean: whether they may be, places, what is above, what is done, and taken back. No condition. -/
import Derived.Test.YtoffonjlfomnbaaGwSame
namespace Go.Gw
open Go Go.Aw Go.Proofs.Ytoffonjlfomnbaa

def chkF : Option Int → List Nd → Bool
  | _, [] => true
  | p, n :: l => (ofOk n.id && (match p with | none => true | some q => decide (q < n.id))) && chkF (some n.id) l
def chk (l : List Nd) : Bool := chkF none l
/-- The number of the node ahead of a place. -/
def prevId (l : List Nd) (i : Nat) : Option Int := if i = 0 then none else (l[i - 1]?).map (·.id)

theorem chkF_drop {l : List Nd} {i : Nat} (h : i < l.length) : chkF (prevId l i) (l.drop i) =
    ((ofOk l[i].id && !(decide ((0 : Int) < (i : Int)) && decide (l[i].id ≤ (l[i - 1]'(by omega)).id))) && chkF (prevId l (i + 1)) (l.drop (i + 1))) := by
  rw [List.drop_eq_getElem_cons h, show chkF (prevId l i) (l[i] :: l.drop (i + 1)) = ((ofOk l[i].id && (match prevId l i with | none => true | some q => decide (q < l[i].id))) && chkF (some l[i].id) (l.drop (i + 1))) from by cases prevId l i <;> rfl]
  have e : prevId l (i + 1) = some l[i].id := by
    simp [prevId, List.getElem?_eq_getElem h]
  rw [e]
  congr 2
  unfold prevId
  by_cases h0 : i = 0
  · subst h0; simp
  · rw [if_neg h0, List.getElem?_eq_getElem (show i - 1 < l.length by omega)]
    simp only [Option.map_some]
    rw [Bool.eq_iff_iff]
    simp
    omega

def ltAll (p : Option Int) (l : List Nd) : Prop := match p with | none => True | some q => ∀ x ∈ l, q < x.id
theorem chkF_iff (p : Option Int) (l : List Nd) : chkF p l = true ↔ (∀ x ∈ l, ofOk x.id = true) ∧ l.Pairwise (fun a b => a.id < b.id) ∧ ltAll p l := by
  induction l generalizing p with
  | nil => cases p <;> simp [chkF, ltAll]
  | cons n l ih =>
    unfold chkF
    rw [Bool.and_eq_true, Bool.and_eq_true, ih, List.pairwise_cons]
    cases p with
    | none => simp only [ltAll, List.mem_cons, forall_eq_or_imp]; exact ⟨fun ⟨⟨h1, _⟩, h2, h3, h4⟩ => ⟨⟨h1, h2⟩, ⟨h4, h3⟩, trivial⟩, fun ⟨⟨h1, h2⟩, ⟨h4, h3⟩, _⟩ => ⟨⟨h1, trivial⟩, h2, h3, h4⟩⟩
    | some q =>
      simp only [ltAll, List.mem_cons, forall_eq_or_imp, decide_eq_true_eq]
      exact ⟨fun ⟨⟨h1, h0⟩, h2, h3, h4⟩ => ⟨⟨h1, h2⟩, ⟨h4, h3⟩, h0, fun x hx => Int.lt_trans h0 (h4 x hx)⟩, fun ⟨⟨h1, h2⟩, ⟨h4, h3⟩, h0, _⟩ => ⟨⟨h1, h0⟩, h2, h3, h4⟩⟩
theorem chk_iff (l : List Nd) : chk l = true ↔ (∀ x ∈ l, ofOk x.id = true) ∧ l.Pairwise (fun a b => a.id < b.id) := by
  unfold chk; rw [chkF_iff]; simp [ltAll]

/-- Where a number's node is, or would be. -/
def pos : List Nd → Int → Nat
  | [], _ => 0
  | n :: l, id => if n.id < id then pos l id + 1 else 0
def fnd (l : List Nd) (id : Int) : Option Nd := l.find? (fun n => decide (n.id = id))
def had (l : List Nd) (id : Int) : Bool := (fnd l id).isSome

theorem pos_le (l : List Nd) (id : Int) : pos l id ≤ l.length := by
  induction l with
  | nil => exact Nat.le_refl _
  | cons n l ih => unfold pos; split <;> simp <;> omega
theorem pos_at {l : List Nd} {id : Int} {i : Nat} (hi : i ≤ l.length) (h1 : ∀ k (hk : k < i), (l[k]'(by omega)).id < id) (h2 : ∀ (h : i < l.length), ¬ l[i].id < id) : pos l id = i := by
  induction l generalizing i with
  | nil => simp at hi; subst hi; rfl
  | cons n l ih =>
    unfold pos
    cases i with
    | zero => have := h2 (by simp); simp at this; rw [if_neg (by omega)]
    | succ i =>
      have := h1 0 (by omega)
      simp at this
      rw [if_pos this, ih (i := i) (by simpa using hi) (fun k hk => by have := h1 (k + 1) (by omega); simpa using this) (fun h => by have := h2 (by simpa using h); simpa using this)]
theorem fnd_pos {l : List Nd} {id : Int} (hs : chk l = true) : fnd l id = match l[pos l id]? with | some n => if n.id = id then some n else none | none => none := by
  have hp := ((chk_iff l).1 hs).2
  clear hs
  induction l with
  | nil => rfl
  | cons n l ih =>
    rw [List.pairwise_cons] at hp
    unfold fnd pos
    rw [List.find?_cons]
    by_cases h : n.id < id
    · rw [if_pos h, decide_eq_false (by omega)]
      simp only [List.getElem?_cons_succ]
      exact ih hp.2
    · rw [if_neg h]
      simp only [List.getElem?_cons_zero]
      by_cases h2 : n.id = id
      · rw [if_pos h2, decide_eq_true h2]
      · rw [if_neg h2, decide_eq_false h2]
        simp only
        rw [List.find?_eq_none]
        intro x hx
        have := hp.1 x hx
        simp; omega
theorem had_pos {l : List Nd} {id : Int} (hs : chk l = true) : had l id = (match l[pos l id]? with | some n => decide (n.id = id) | none => false) := by
  rw [had, fnd_pos hs]
  split
  · split <;> simp_all
  · rfl
theorem had_lt {l : List Nd} {id : Int} (hs : chk l = true) (h : had l id = true) : pos l id < l.length := by
  rw [had_pos hs] at h
  split at h
  · rename_i n hn; exact (List.getElem?_eq_some_iff.1 hn).1
  · cases h
theorem fnd_had {l : List Nd} {id : Int} (hs : chk l = true) (h : had l id = true) : fnd l id = some (l[pos l id]'(had_lt hs h)) := by
  have hlt := had_lt hs h
  rw [had_pos hs, List.getElem?_eq_getElem hlt] at h
  rw [fnd_pos hs, List.getElem?_eq_getElem hlt]
  simp only [decide_eq_true_eq] at h ⊢
  rw [if_pos h]
theorem fnd_no {l : List Nd} {id : Int} (h : had l id = false) : fnd l id = none := by
  unfold had at h; cases hf : fnd l id <;> simp_all

/-- What is above a number, at most so many. -/
def aboveN (l : List Nd) : Nat → Int → List Int
  | 0, _ => []
  | k + 1, id => match fnd l id with
    | none => []
    | some n => if n.parent = -1 then [] else n.parent :: aboveN l k n.parent
def aboveI (l : List Nd) (id : Int) : List Int := aboveN l l.length id
def aboveC (l : List Nd) (id : Int) : List Int := if chk l = true then aboveI l id else []

theorem aboveN_len (l : List Nd) (k : Nat) (id : Int) : (aboveN l k id).length ≤ k := by
  induction k generalizing id with
  | zero => simp [aboveN]
  | succ k ih =>
    unfold aboveN
    split
    · simp
    · split
      · simp
      · simp; exact ih _

def findI (l : List Nd) (id : Int) : Option Nd := if chk l = true then fnd l id else none

def layN (l : List Nd) (i j : Nat) (xs : List Nd) : List Nd := l.take i ++ xs ++ l.drop j

def loopsI (l : List Nd) (o : Opn) : Bool := decide (o.parent = o.node) || (aboveI l o.parent).any (fun x => decide (x = o.node))
def refused (l : List Nd) (o : Opn) : Bool := !chk l || !opOk o || (decide (o.kind = 1) && loopsI l o)
def nodeWas (l : List Nd) (o : Opn) : Nd := match fnd l o.node with | some n => n | none => { nd0 with id := o.node, parent := -1 }
def nodeNew (l : List Nd) (o : Opn) : Nd :=
  if o.kind = 1 then { nodeWas l o with parent := o.parent, name := o.name, moved := o.at_ } else { nodeWas l o with data := o.data, wrote := o.at_ }
def upto (l : List Nd) (id : Int) : Nat := if had l id = true then pos l id + 1 else pos l id
def doL (l : List Nd) (o : Opn) : List Nd := if refused l o = true then l else layN l (pos l o.node) (upto l o.node) [nodeNew l o]
def doU (l : List Nd) (o : Opn) : Und := if refused l o = true then und0 else ⟨true, had l o.node, (fnd l o.node).getD nd0⟩
def backL (l : List Nd) (o : Opn) (u : Und) : List Nd :=
  if (!chk l || !u.did) = true then l
  else if (ofOk o.node && u.had && decide (u.was.id = o.node)) = true then layN l (pos l o.node) (upto l o.node) [u.was]
  else layN l (pos l o.node) (upto l o.node) []

theorem upto_le (l : List Nd) (id : Int) (hs : chk l = true) : pos l id ≤ upto l id ∧ upto l id ≤ l.length := by
  have := pos_le l id
  unfold upto
  split
  · rename_i h; have := had_lt hs h; omega
  · omega
theorem layN_len (l : List Nd) (i j : Nat) (xs : List Nd) (h : i ≤ j) (hj : j ≤ l.length) : (layN l i j xs).length + j = i + xs.length + l.length := by
  simp [layN]; omega
end Go.Gw
