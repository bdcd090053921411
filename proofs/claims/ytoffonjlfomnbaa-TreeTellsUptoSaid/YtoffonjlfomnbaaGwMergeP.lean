/- Logs, in plain Lean: an operation is added. No condition. -/
import Derived.Test.YtoffonjlfomnbaaGwTreeP
namespace Go.Aw
open Go
@[go_sem] theorem aappendZ_some {P : Program} (ts tx : TypeId) (f g : Bool) (es r : List AV) (e : AV) (H : AHeap) : aappendZ P ts tx (.sl f es) (.sl g (e :: r)) H = aappend P ts tx (.sl f es) (.sl g (e :: r)) H := by
  cases es with
  | nil => rfl
  | cons a es => simp [aappendZ, srcLen]
end Go.Aw
namespace Go.Gw
open Go Go.Aw Go.Proofs.Ytoffonjlfomnbaa

def lessS (a b : Stm) : Bool := lessI a.c a.r b.c b.r
def hasAt (l : List Ent) (a : Stm) : Bool := l.any fun e => decide (e.op.at_ = a)

/-- How many of the last entries stand behind a time, and the nodes without them. The entries: the last one first. -/
def undoR (a : Stm) : List Ent → List Nd → Nat × List Nd
  | [], n => (0, n)
  | e :: r, n => if lessS a e.op.at_ = true then ((undoR a r (backL n e.op e.undo)).1 + 1, (undoR a r (backL n e.op e.undo)).2) else (0, n)

/-- Operations, done one behind the other. -/
def redo : List Opn → List Ent → List Nd → List Ent × List Nd
  | [], es, n => (es, n)
  | o :: os, es, n => redo os (es ++ [⟨o, doU n o⟩]) (doL n o)

def addG (g : Lg) (o : Opn) : Lg :=
  if opOk o = false then g else if hasAt g.entries o.at_ = true then g else if (200 : Int) ≤ (g.entries.length : Int) then g
  else
    ⟨(redo (o :: (g.entries.drop (g.entries.length - (undoR o.at_ g.entries.reverse g.nodes).1)).map Ent.op) (g.entries.take (g.entries.length - (undoR o.at_ g.entries.reverse g.nodes).1)) (undoR o.at_ g.entries.reverse g.nodes).2).1,
      (redo (o :: (g.entries.drop (g.entries.length - (undoR o.at_ g.entries.reverse g.nodes).1)).map Ent.op) (g.entries.take (g.entries.length - (undoR o.at_ g.entries.reverse g.nodes).1)) (undoR o.at_ g.entries.reverse g.nodes).2).2⟩
def addE (g : Lg) (o : Opn) : Int :=
  if opOk o = false then 50 else if hasAt g.entries o.at_ = true then 0 else if (200 : Int) ≤ (g.entries.length : Int) then 193 else 0

def allG : Lg → List Opn → Lg
  | g, [] => g
  | g, o :: os => allG (addG g o) os
def allN : Lg → List Opn → Int
  | _, [] => 0
  | g, o :: os => (if addE g o = 0 then 0 else 1) + allN (addG g o) os
def opsG (g : Lg) : List Opn := g.entries.map Ent.op
def ofG (l : List Opn) : Lg := allG ⟨[], []⟩ l

theorem undoR_le (a : Stm) (l : List Ent) (n : List Nd) : (undoR a l n).1 ≤ l.length := by
  induction l generalizing n with
  | nil => simp [undoR]
  | cons e l ih => unfold undoR; split <;> simp; exact ih _

theorem backL_len (l : List Nd) (o : Opn) (u : Und) : (backL l o u).length ≤ l.length + 1 := by
  unfold backL
  split
  · omega
  · rename_i h
    have hc : chk l = true := by
      cases hc : chk l with
      | true => rfl
      | false => simp [hc] at h
    have := upto_le l o.node hc
    split
    · have := layN_len l (pos l o.node) (upto l o.node) [u.was] (by omega) (by omega); simp at this; omega
    · have := layN_len l (pos l o.node) (upto l o.node) [] (by omega) (by omega); simp at this; omega
theorem doL_len (l : List Nd) (o : Opn) : (doL l o).length ≤ l.length + 1 := by
  unfold doL
  split
  · omega
  · rename_i h
    have hc : chk l = true := by
      cases hc : chk l with
      | true => rfl
      | false => simp [refused, hc] at h
    have := upto_le l o.node hc
    have := layN_len l (pos l o.node) (upto l o.node) [nodeNew l o] (by omega) (by omega); simp at this; omega
theorem undoR_len (a : Stm) (l : List Ent) (n : List Nd) : (undoR a l n).2.length ≤ n.length + l.length := by
  induction l generalizing n with
  | nil => simp [undoR]
  | cons e l ih =>
    unfold undoR
    split
    · have := ih (backL n e.op e.undo)
      have := backL_len n e.op e.undo
      simp; omega
    · simp
theorem redo_len (l : List Opn) (es : List Ent) (n : List Nd) : (redo l es n).2.length ≤ n.length + l.length ∧ (redo l es n).1.length = es.length + l.length := by
  induction l generalizing es n with
  | nil => simp [redo]
  | cons o l ih =>
    unfold redo
    have := ih (es ++ [⟨o, doU n o⟩]) (doL n o)
    have := doL_len n o
    simp at *; omega
theorem redo_snoc (l : List Opn) (o : Opn) (es : List Ent) (n : List Nd) : redo (l ++ [o]) es n = ((redo l es n).1 ++ [⟨o, doU (redo l es n).2 o⟩], doL (redo l es n).2 o) := by
  induction l generalizing es n with
  | nil => rfl
  | cons x l ih => rw [List.cons_append, redo, ih, redo]
end Go.Gw
