/- The abstract machine: a slice that is not written any more becomes fixed. No condition. -/
import Derived.Test.YtoffonjlfomnbaaAvCall
namespace Go.Aw
open Go
variable {P : Program}

/-- The context in which block `i` is gone, and its cells are fixed. -/
def Ctx.stop (c : Ctx) (i : Nat) : Ctx :=
  { w := c.w, n := c.n, blk := c.blk, ver := fun j => if j = i then c.ver i + 1 else c.ver j, vd := fun j => if j = i then true else c.vd j, stable := fun b => c.stable b ∨ (c.vd i = false ∧ b = c.blk i) }

theorem Ext.stop (c : Ctx) (i : Nat) : Ext c (c.stop i) where
  n := Nat.le_refl _
  size := Nat.le_refl _
  st := fun _ h => ⟨.inl h, rfl⟩
  ver := fun j _ => by
    simp only [Ctx.stop]; split
    · rename_i h; subst h; omega
    · omega
  blk := fun j _ he => by
    simp only [Ctx.stop] at he ⊢
    by_cases h : j = i
    · subst h; rw [if_pos rfl] at he; omega
    · simp [h]
  os := rfl
  tape := rfl
  output := rfl

theorem St.stop {c : Ctx} {H : AHeap} {i v : Nat} {cs : List AV} (h : St c H) (hh : hget H i = .cells v cs) (hv : v ≠ 0) : St (c.stop i) (hset H i .gone) := by
  have hi : H[i]? = some (.cells v cs) := hget_some hh trivial
  have hlt : i < c.n := by rw [h.n]; exact hget_lt hh trivial
  have hver : c.ver i = v := h.ver_eq hh
  have hget : ∀ {j b}, (hset H i .gone)[j]? = some b → b.live → j ≠ i ∧ H[j]? = some b := by
    intro j b hj hb
    by_cases e : j = i
    · subst e
      rw [hset, List.getElem?_set_self (by rw [← h.n]; exact hlt)] at hj
      cases hj; exact hb.elim
    · rw [hset, List.getElem?_set_ne (fun q => e q.symm)] at hj
      exact ⟨e, hj⟩
  constructor
  · simp [hset, Ctx.stop, h.n]
  · intro j hj hd
    simp only [Ctx.stop] at hd ⊢
    split at hd
    · cases hd
    · exact h.lt j hj hd
  · intro j k b b' hj hk hb hb' dj dk he
    obtain ⟨n1, g1⟩ := hget hj hb
    obtain ⟨n2, g2⟩ := hget hk hb'
    simp only [Ctx.stop, if_neg n1, if_neg n2] at dj dk he
    exact h.inj j k b b' g1 g2 hb hb' dj dk he
  · intro k hk
    rcases hk with hk | ⟨hd, rfl⟩
    · obtain ⟨h1, h2⟩ := h.st k hk
      refine ⟨h1, fun j b hj hb dj => ?_⟩
      obtain ⟨n1, g1⟩ := hget hj hb
      simp only [Ctx.stop, if_neg n1] at dj
      exact h2 j b g1 hb dj
    · refine ⟨h.lt i hlt hd, fun j b hj hb dj e => ?_⟩
      obtain ⟨n1, g1⟩ := hget hj hb
      simp only [Ctx.stop, if_neg n1] at dj
      exact n1 (h.inj j i b _ g1 hi hb trivial dj hd e)
  · intro j b hj
    by_cases e : j = i
    · subst e
      rw [hset, List.getElem?_set_self (by rw [← h.n]; exact hlt)] at hj
      cases hj
      exact .gone (by simp [Ctx.stop])
    · rw [hset, List.getElem?_set_ne (fun q => e q.symm)] at hj
      have hx := Ext.stop c i
      cases h.rep j b hj with
      | cells ver cs vs ty fr q1 q2 q3 q4 q5 q6 => exact .cells ver cs vs _ fr (by simpa [Ctx.stop, e] using q1) (by simpa [Ctx.stop, e] using q2) q3 q4 q5 fun k x u p q => (q6 k x u p q).mono hx
      | void ver q1 q2 => exact .void ver (by simpa [Ctx.stop, e] using q1) (by simpa [Ctx.stop, e] using q2)
      | map es clock ents q1 q2 q3 q4 q5 => exact .map es clock ents (by simpa [Ctx.stop, e] using q1) (by simpa [Ctx.stop, e] using q2) q3 q4 fun k p u g1 g2 => let ⟨r1, r2, r3⟩ := q5 k p u g1 g2; ⟨r1.mono hx, r2.mono hx, r3⟩
      | miter m since seen stepped q1 q2 q3 q4 q5 q6 =>
        have hm : m ≠ i := fun r => by subst r; omega
        exact .miter m since seen stepped (by simpa [Ctx.stop, e] using q1) (by simpa [Ctx.stop, e] using q2) q3 (by simpa [Ctx.stop, hm] using q4) (by simpa [Ctx.stop, hm] using q5) q6
      | siter s pos q1 q2 q3 q4 => exact .siter s pos (by simpa [Ctx.stop, e] using q1) (by simpa [Ctx.stop, e] using q2) q3 q4
      | gone q1 => exact .gone (by simpa [Ctx.stop, e] using q1)

theorem flat_get {s : Nat} : ∀ {es : List AV}, (∀ e ∈ es, e.cells.length = s) → ∀ {k j : Nat} {e x : AV}, es[k]? = some e → e.cells[j]? = some x → (es.flatMap AV.cells)[k * s + j]? = some x
  | [], _, k, j, e, x, hk, _ => by simp at hk
  | e0 :: es, hs, 0, j, e, x, hk, hj => by
    simp only [List.getElem?_cons_zero, Option.some.injEq] at hk
    subst hk
    have := (List.getElem?_eq_some_iff.1 hj).1
    rw [Nat.zero_mul, Nat.zero_add, List.flatMap_cons, List.getElem?_append_left this]
    exact hj
  | e0 :: es, hs, k + 1, j, e, x, hk, hj => by
    rw [List.getElem?_cons_succ] at hk
    have h0 := hs e0 (by simp)
    rw [List.flatMap_cons, List.getElem?_append_right (by rw [h0, Nat.add_mul]; omega), h0, show (k + 1) * s + j - s = k * s + j by rw [Nat.add_mul]; omega]
    exact flat_get (fun e he => hs e (by simp [he])) hk hj

theorem flat_len {s : Nat} : ∀ {es : List AV}, (∀ e ∈ es, e.cells.length = s) → (es.flatMap AV.cells).length = es.length * s
  | [], _ => by simp
  | e0 :: es, hs => by
    rw [List.flatMap_cons, List.length_append, hs e0 (by simp), flat_len (fun e he => hs e (by simp [he])), List.length_cons, Nat.add_mul]; omega

theorem rep_stop {c : Ctx} {H : AHeap} {i v s lc : Nat} {cs es : List AV} {val : Value} (h : St c H) (hh : hget H i = .cells v cs) (rest : List AV) (hcs : cs = es.flatMap AV.cells ++ rest) (hs : ∀ e ∈ es, e.cells.length = s)
    (hx : Rep c (.osl s i v 0 es.length lc) val) : Rep (c.stop i) (.sl false es) val := by
  have hver := h.ver_eq hh
  obtain ⟨base, cap, rfl, g1, g1', g2, g3⟩ := hx.osl_inv hver
  cases hd : c.vd i with
  | true =>
    obtain ⟨q1, rfl⟩ := g2 hd
    have : es = [] := List.eq_nil_of_length_eq_zero q1
    subst this
    exact .sl _ _ _ _ _ s (fun _ _ => undef) rfl (Nat.le_refl _) (fun h => by cases h) (fun h => absurd rfl h) (by simp) (by simp) (by simp)
  | false =>
    obtain ⟨p1, m, p2, p3⟩ := g3 hd
    obtain ⟨_, _, vs, e, fr, hb, hl', hf, hrr⟩ := h.cells hh hd
    have hfl := flat_len hs
    refine .sl _ _ _ _ _ s (fun k j => vs.getD (k * s + j) undef) rfl (by omega) (fun h => by cases h) (fun hne => ?_) hs (fun k x j y hk hj => ?_) (by have := hx.osl_R; omega)
    · have hlen : 0 < es.length := List.length_pos_iff.2 hne
      have hbase : base = some ⟨c.blk i, 0, none⟩ := p1.resolve_left (by omega)
      refine ⟨_, hbase, rfl, .inr ⟨hd, rfl⟩, fun k j hk hj => ?_⟩
      have h5 : k * s + j < es.length * s := by
        have : (k + 1) * s ≤ es.length * s := Nat.mul_le_mul_right s (by omega)
        rw [Nat.add_mul] at this
        omega
      have hlt : k * s + j < vs.size := by rw [hcs, List.length_append] at hl'; omega
      rw [add_mk]
      show (c.w.cell? _) = _
      rw [cell_cells hb]
      simp [hlt]
    · have hc0 := flat_get hs hk hj
      have hlt0 := (List.getElem?_eq_some_iff.1 hc0).1
      have hc : cs[k * s + j]? = some y := by rw [hcs, List.getElem?_append_left hlt0]; exact hc0
      have hlt := (List.getElem?_eq_some_iff.1 hc).1
      exact (hrr _ _ _ hc (by simp [show k * s + j < vs.size by omega])).mono (Ext.stop c i)

theorem look_puts (y : AV) (α : AF) (t : Nat) : ∀ ts : List Nat, look (ts.map (fun t => (t, y)) ++ α) t = if t ∈ ts then y else look α t
  | [] => by simp
  | d :: ts => by
    rw [List.map_cons, List.cons_append, look_cons, look_puts y α t ts]
    by_cases e : d = t
    · subst e; simp
    · have : ¬ t = d := fun q => e q.symm
      simp [e, this]

/-- The slice in block `i` is not written any more: from here on it is fixed; there may be room behind it. -/
theorem aw_freezeR {N : Nat} {code : Code} {Q : APost} {α : AF} {H : AHeap} {i v s lc : Nat} {cs : List AV} (ts : List Nat) (es rest : List AV) (hx : ∀ t ∈ ts, look α t = .osl s i v 0 es.length lc) (hh : hget H i = .cells v cs) (hv : v ≠ 0)
    (hcs : cs = es.flatMap AV.cells ++ rest) (hs : ∀ e ∈ es, e.cells.length = s) (h : aw P N code Q (ts.map (fun t => (t, .sl false es)) ++ α) (hset H i .gone)) : aw P N code Q α H := by
  intro c a hst ha
  have hx' := Ext.stop c i
  refine wp_mono (h (c.stop i) a (hst.stop hh hv) ⟨ha.size, ha.defers, fun t => ?_⟩) fun _ _ _ ⟨c', α', H', e1, e2, e3, e4, e5⟩ => ⟨c', α', H', e1, e2, hx'.trans e3, e4, e5⟩
  rw [look_puts]
  by_cases ht : t ∈ ts
  · rw [if_pos ht]
    have hr := ha.rep t
    rw [hx t ht] at hr
    exact rep_stop hst hh rest hcs hs hr
  · rw [if_neg ht]
    exact (ha.rep t).mono hx'

/-- The slice in block `i` is not written any more: from here on it is fixed. -/
theorem aw_freeze {N : Nat} {code : Code} {Q : APost} {α : AF} {H : AHeap} {i v s lc : Nat} {cs : List AV} (ts : List Nat) (es : List AV) (hx : ∀ t ∈ ts, look α t = .osl s i v 0 es.length lc) (hh : hget H i = .cells v cs) (hv : v ≠ 0)
    (hcs : cs = es.flatMap AV.cells) (hs : ∀ e ∈ es, e.cells.length = s) (h : aw P N code Q (ts.map (fun t => (t, .sl false es)) ++ α) (hset H i .gone)) : aw P N code Q α H :=
  aw_freezeR ts es [] hx hh hv (by rw [hcs, List.append_nil]) hs h

end Go.Aw
