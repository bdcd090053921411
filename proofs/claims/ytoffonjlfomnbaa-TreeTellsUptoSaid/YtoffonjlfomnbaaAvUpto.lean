/- The second form of a row: how long the slices are that come in. No condition. -/
import Derived.Test.YtoffonjlfomnbaaAvRow
import Derived.Test.YtoffonjlfomnbaaRows
import Derived.JoinedCond
namespace Go.Aw
open Go Go.ChangeShapes Go.WideShapes Go.ChangeAt Go.RowKit Go.Proofs.Ytoffonjlfomnbaa

theorem bulk_one {H : Type} (d : DataW H) : 1 ≤ Rows.uptoBulk d := by
  cases d with
  | lit l => cases l <;> simp [Rows.uptoBulk]
  | _ => simp [Rows.uptoBulk]
theorem bulk_len {H : Type} (l : List (DataW H)) : l.length ≤ Rows.uptoBulkAll l := by
  induction l with
  | nil => simp [Rows.uptoBulkAll]
  | cons x r ih => have := bulk_one x; simp only [Rows.uptoBulkAll, List.length_cons]; omega
theorem bulk_mem {H : Type} {d : DataW H} {l : List (DataW H)} (h : d ∈ l) : Rows.uptoBulk d ≤ Rows.uptoBulkAll l := by
  induction l with
  | nil => cases h
  | cons x r ih =>
    simp only [Rows.uptoBulkAll]
    cases h with
    | head => omega
    | tail _ h => have := ih h; omega
theorem bulk_le {H : Type} {d : DataW H} {l : List (DataW H)} (hk : Rows.uptoSmall H l = true) (h : d ∈ l) : Rows.uptoBulk d ≤ 1048576 := by
  have h1 : Rows.uptoBulkAll l ≤ 1048576 := by simpa [Rows.uptoSmall] using hk
  exact Nat.le_trans (bulk_mem h) h1

variable {P : Program} {H : Type} {enc : TypeId × Value → H} {W : World} {base : Nat} {sp : Nat → Bool} {held : Bool}
/-- A slice that comes in is no longer than what it counts. -/
theorem slice_bulk {t e : TypeId} {v : Value} {d : DataW H} {p : List MemPlace} {c : Ctx} {f : Bool} {es : List AV} (hu : P.underlying t = some (.slice e)) (h : DataW.Trod enc P W base sp held t v d p) (w : Rep c (.sl f es) v) : es.length ≤ Rows.uptoBulk d := by
  obtain ⟨b, len, cap, _, _, rfl, hl, -⟩ := w.sl_inv
  obtain ⟨fuel, hf⟩ := h
  rcases DataW.trod_slice hu hf with ⟨e1, -⟩ | ⟨a, len', cap', elems, rest, n, -, e1, e2, -, -, -, hlen, -⟩
  · have e1 : [Value.slice b len cap] = [.slice none 0 0] := e1
    cases e1
    omega
  · have e1 : [Value.slice b len cap] = [.slice (some a) len' cap'] := e1
    cases e1
    cases e2
    have := bulk_len (elems.map (·.1))
    rw [List.length_map] at this
    simp only [Rows.uptoBulk]
    omega
end Go.Aw
