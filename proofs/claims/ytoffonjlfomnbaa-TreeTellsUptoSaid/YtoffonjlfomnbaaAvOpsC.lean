/- More operations of the abstract machine: boxes, built values, addresses, slices, texts. No condition. -/
import Derived.Test.YtoffonjlfomnbaaAvOpsB
namespace Go.Aw
open Go
set_option linter.unusedSimpArgs false

variable {P : Program}

/-! ### Boxes -/

def abox (x : AV) (H : AHeap) : Res := ⟨.ref H.length 0 0, H ++ [.cells 0 x.cells], x.known = true⟩

theorem push_ref {c : Ctx} (o : Obj) : Rep (c.push o) (.ref c.n 0 0) (.pointer (some ⟨c.w.heap.size, 0, none⟩)) :=
  .ref _ _ _ _ (by simp [Ctx.push]) (by simp) rfl (fun _ => by simp [Ctx.push])

theorem abox_sound {c : Ctx} {H : AHeap} {t : TypeId} {x : AV} {v : Value} (hst : St c H) (hx : Rep c x v) (hs : (abox x H).s) :
    Runs P (Instr.box t v) c (abox x H).v (abox x H).H := by
  refine ⟨c.push (.cells v.cells t), .pointer (some ⟨c.w.heap.size, 0, none⟩), ?_, ?_, Ext.push hst _, ?_⟩
  · simp [Instr.box, newVar, newRow, Ctx.push]
  · refine hst.push _ 0 ?_
    obtain ⟨h1, h2⟩ := hx.cells hs
    refine .cells _ _ v.cells t (0, 0) (by simp [Ctx.push]) (by simp [Ctx.push]) (by simp only [Ctx.push, if_true]; exact heap_alloc_new _ _) (by omega) (.inr (Nat.le_refl _)) fun j y u p q => (h2 j y u p q).mono (Ext.push hst _)
  · have := push_ref (c := c) (.cells v.cells t)
    rw [hst.n] at this
    exact this

/-- The zero value of a type. -/
def azero (P : Program) (t : TypeId) : AV :=
  match P.info? t with
  | some i => (match i.zero with | some z => ofConst z | none => .top)
  | none => .top

theorem azero_sound {t : TypeId} (h : (azero P t).known = true) (c : Ctx) : ∃ z, (∀ w, (zeroValue t).run P w = .ok z w) ∧ Rep c (azero P t) z := by
  unfold azero at *
  cases hi : P.info? t with
  | none => simp [hi, AV.known, AV.one] at h
  | some i =>
    cases hz : i.zero with
    | none => simp [hi, hz, AV.known, AV.one] at h
    | some z =>
      simp only [hi, hz]
      exact ⟨z, fun w => by simp [zeroValue, typeInfo, hi, hz], rep_ofConst c z⟩

def aalloc (P : Program) (t : TypeId) (H : AHeap) : Res := abox (azero P t) H

theorem aalloc_sound {c : Ctx} {H : AHeap} {t : TypeId} (hst : St c H) (hs : (aalloc P t H).s) : Runs P (Instr.alloc t true (.tuple #[])) c (aalloc P t H).v (aalloc P t H).H := by
  obtain ⟨z, h1, h2⟩ := azero_sound (P := P) hs c
  obtain ⟨c', v, k1, k2, k3, k4⟩ := abox_sound (P := P) (t := t) hst h2 hs
  refine ⟨c', v, ?_, k2, k3, k4⟩
  simp only [Instr.box, Sem.run_bind] at k1
  simp only [Instr.alloc, Sem.run_bind, h1, Result.andThen_ok]
  exact k1

/-! ### Built structs and arrays -/

def aplace (P : Program) (d : TypeDesc) (i : Nat) : Option (Nat × Nat) :=
  match d with
  | .struct fs => match fs[i]? with
    | some f => some (f.offset, P.cellsOf f.type)
    | none => none
  | .array _ e => some (i * P.cellsOf e, P.cellsOf e)
  | _ => none

def afill (pl : Nat → Option (Nat × Nat)) : List AV → List (Nat × AV) → Option (List AV)
  | cs, [] => some cs
  | cs, (i, x) :: r =>
    match pl i with
    | some (off, n) => bif (x.cells.length == n) && Nat.ble (off + n) cs.length && x.known then afill pl (splice cs off x.cells) r else none
    | none => none

theorem fold_spliceV (cells : Array Value) (off : Nat) (v : Array Value) :
    v.zipIdx.foldl (fun cs (p : Value × Nat) => cs.setIfInBounds (off + p.2) p.1) cells = spliceV cells off v.toList := by
  rw [← Array.foldl_toList, Array.toList_zipIdx]
  have key : ∀ (l : List Value) (k : Nat) (cells : Array Value), (l.zipIdx k).foldl (fun cs (p : Value × Nat) => cs.setIfInBounds (off + p.2) p.1) cells = spliceV cells (off + k) l := by
    intro l
    induction l with
    | nil => intro k cells; rfl
    | cons x xs ih =>
      intro k cells
      simp only [List.zipIdx_cons, List.foldl_cons, spliceV]
      exact ih (k + 1) _
  exact key v.toList 0 cells

theorem afill_sound {c : Ctx} {pl : Nat → Option (Nat × Nat)} : ∀ (ps : List (Nat × AV)) (vs : List (Nat × Value)) (cs : List AV) (us : Array Value) (r : List AV), vs.map (·.1) = ps.map (·.1) →
    (∀ (k : Nat) (p : Nat × AV) (q : Nat × Value), ps[k]? = some p → vs[k]? = some q → Rep c p.2 q.2) → us.size = cs.length →
    (∀ (j : Nat) (x : AV) (v : Value), cs[j]? = some x → us[j]? = some v → Rep c x v) → afill pl cs ps = some r →
    ∃ ws, Instr.fill pl us vs = some ws ∧ ws.size = r.length ∧ r.length = cs.length ∧ ∀ (j : Nat) (x : AV) (v : Value), r[j]? = some x → ws[j]? = some v → Rep c x v
  | [], [], cs, us, r, _, _, hsz, hr, h => by
    simp only [afill, Option.some.injEq] at h
    subst h
    exact ⟨us, rfl, hsz, rfl, hr⟩
  | [], _ :: _, _, _, _, hm, _, _, _, _ => by simp at hm
  | _ :: _, [], _, _, _, hm, _, _, _, _ => by simp at hm
  | (i, x) :: ps, (i', v) :: vs, cs, us, r, hm, hp, hsz, hr, h => by
    simp only [List.map_cons, List.cons.injEq] at hm
    obtain ⟨rfl, hm⟩ := hm
    unfold afill at h
    cases hpl : pl i' with
    | none => rw [hpl] at h; cases h
    | some on =>
      obtain ⟨off, n⟩ := on
      rw [hpl] at h
      simp only at h
      cases hc : ((x.cells.length == n) && Nat.ble (off + n) cs.length && x.known) with
      | false => rw [hc] at h; cases h
      | true =>
        rw [hc, cond_true] at h
        simp only [Bool.and_eq_true, beq_iff_eq, Nat.ble_eq] at hc
        obtain ⟨⟨h1, h2⟩, h3⟩ := hc
        have hxv : Rep c x v := hp 0 _ _ rfl rfl
        obtain ⟨q1, q2⟩ := hxv.cells h3
        have hle : off + x.cells.length ≤ cs.length := by omega
        have hgoal := afill_sound ps vs (splice cs off x.cells) (spliceV us off v.cells.toList) r hm (fun k p q hk hk' => hp (k + 1) p q hk hk')
          (by rw [size_spliceV, length_splice hle]; exact hsz)
          (fun j y u hj hj' => by
            rw [get_splice hle] at hj
            rw [get_spliceV' _ _ _ x.cells.length (by simpa using q1) (by omega)] at hj'
            split at hj
            · rename_i hcc
              rw [if_pos hcc] at hj'
              exact q2 _ _ _ hj (by simpa using hj')
            · rename_i hcc
              rw [if_neg hcc] at hj'
              exact hr _ _ _ hj hj') h
        obtain ⟨ws, g1, g2, g3, g4⟩ := hgoal
        refine ⟨ws, ?_, g2, by rw [g3, length_splice hle], g4⟩
        unfold Instr.fill
        rw [hpl]
        have hcond : ¬ ((decide (v.cells.size ≠ n) || decide (off + v.cells.size > us.size)) = true) := by simp; omega
        simp only [hcond, if_false]
        rw [fold_spliceV]
        exact g1

def abuild (P : Program) (t : TypeId) (ps : List (Nat × AV)) : BR :=
  match P.underlying t with
  | some d => match afill (aplace P d) (azero P t).cells ps with
    | some cs => ⟨.agg cs, (azero P t).known = true ∧ TypeDesc.isAgg d = true⟩
    | none => bad
  | none => bad

theorem mapM_places (fs : List Field) (w : World) (h : ∀ f ∈ fs, ∃ d, P.underlying f.type = some d) :
    (fs.mapM (fun f => (do pure (f.offset, ← sizeOf f.type) : Sem (Nat × Nat)))).run P w = .ok (fs.map fun f => (f.offset, P.cellsOf f.type)) w := by
  induction fs with
  | nil => simp
  | cons f fs ih =>
    obtain ⟨d, hd⟩ := h f (by simp)
    have e := ih (fun g hg => h g (by simp [hg]))
    simp only [List.mapM_cons, Sem.run_bind, run_sizeOf' hd, Result.andThen_ok, Sem.run_pure, e, List.map_cons]

/-- All fields have types that the program knows. -/
def fieldsOk (P : Program) (d : TypeDesc) : Bool :=
  match d with
  | .struct fs => fs.toList.all fun f => (P.underlying f.type).isSome
  | .array _ e => (P.underlying e).isSome
  | _ => false

theorem abuild_sound {c : Ctx} {t : TypeId} {ps : List (Nat × AV)} {vs : Array (Nat × Value)} (hm : vs.toList.map (·.1) = ps.map (·.1))
    (hp : ∀ (k : Nat) (p : Nat × AV) (q : Nat × Value), ps[k]? = some p → vs[k]? = some q → Rep c p.2 q.2) (hs : (abuild P t ps).s) (hf : ∀ d, P.underlying t = some d → fieldsOk P d = true) (w : World) :
    ∃ v, (Instr.build t vs).run P w = .ok v w ∧ Rep c (abuild P t ps).v v := by
  unfold abuild at *
  cases hu : P.underlying t with
  | none => simp [hu, bad] at hs
  | some d =>
    simp only [hu] at hs ⊢
    cases hfl : afill (aplace P d) (azero P t).cells ps with
    | none => simp [hfl, bad] at hs
    | some cs =>
      simp only [hfl] at hs ⊢
      obtain ⟨hk, hag⟩ := hs
      obtain ⟨z, hz1, hz2⟩ := azero_sound (P := P) hk c
      obtain ⟨q1, q2⟩ := hz2.cells hk
      obtain ⟨ws, g1, g2, g3, g4⟩ := afill_sound ps vs.toList (azero P t).cells z.cells cs hm (fun k p q h1 h2 => hp k p q h1 (by simpa using h2)) q1 q2 hfl
      have hfo := hf d hu
      refine ⟨.agg ws, ?_, .agg _ _ g2 g4⟩
      cases d <;> simp only [TypeDesc.isAgg, Bool.false_eq_true] at hag
      case struct fs =>
        have hall : ∀ f ∈ fs.toList, ∃ d, P.underlying f.type = some d := fun f hf' => Option.isSome_iff_exists.1 (by simpa using List.all_eq_true.1 hfo f hf')
        have e := mapM_places (P := P) fs.toList w hall
        have hpl : (fun x => ((fs.toList.map fun f => (f.offset, P.cellsOf f.type)).toArray)[x]?) = aplace P (.struct fs) := by
          funext x
          simp only [aplace]
          rw [List.getElem?_toArray, List.getElem?_map, Array.getElem?_toList]
          cases fs[x]? <;> rfl
        simp only [Instr.build, Sem.run_bind, hz1, Result.andThen_ok, run_underlying hu, Array.mapM_eq_mapM_toList, Sem.run_map, e]
        rw [hpl, g1]
        rfl
      case array n el =>
        obtain ⟨d', hd'⟩ := Option.isSome_iff_exists.1 hfo
        have hpl : (fun i => some (i * P.cellsOf el, P.cellsOf el)) = aplace P (.array n el) := rfl
        simp only [Instr.build, Sem.run_bind, hz1, Result.andThen_ok, run_underlying hu, run_sizeOf' hd']
        rw [hpl, g1]
        rfl

/-! ### Addresses -/

def afieldAddr (P : Program) (t : TypeId) (f : Nat) (x : AV) : BR :=
  match P.underlying t with
  | some (.struct fs) =>
    match fs[f]? with
    | some fd =>
      match x with
      | .ref i v off => ⟨.ref i v (off + fd.offset), (P.underlying fd.type).isSome = true ∧ P.cellsOf fd.type ≠ 0⟩
      | .cptr cs => ⟨.cptr (cs.drop fd.offset), (P.underlying fd.type).isSome = true ∧ P.cellsOf fd.type ≠ 0⟩
      | _ => bad
    | none => bad
  | _ => bad

theorem Addr.add_add {a : Addr} (h : a.spot = none) (m n : Nat) : (a.add m).add n = a.add (m + n) := by
  obtain ⟨b, o, s⟩ := a
  simp only at h
  subst h
  unfold Addr.add
  by_cases hm : m = 0 <;> by_cases hn : n = 0 <;> simp [hm, hn, Nat.add_assoc]

theorem Addr.add_spot {a : Addr} (h : a.spot = none) (m : Nat) : (a.add m).spot = none := by
  unfold Addr.add
  split
  · exact h
  · rfl

theorem rep_cptr_drop {c : Ctx} {cs : List AV} {a : Addr} (h : Rep c (.cptr cs) (.pointer (some a))) (n : Nat) : Rep c (.cptr (cs.drop n)) (.pointer (some (a.add n))) := by
  cases h with
  | cptr _ _ vs hspot hst hc hr =>
    refine .cptr _ _ (fun j => vs (n + j)) (Addr.add_spot hspot n) (by rw [Addr.add_block]; exact hst) (fun j hj => ?_) (fun j x hx => ?_)
    · rw [Addr.add_add hspot]
      simp at hj
      exact hc _ (by omega)
    · rw [List.getElem?_drop] at hx
      exact hr _ _ hx

theorem rep_ref_add {c : Ctx} {i v off : Nat} {val : Value} (h : Rep c (.ref i v off) val) (hv : c.ver i = v) (n : Nat) : ∃ a, val = .pointer (some a) ∧ Rep c (.ref i v (off + n)) (.pointer (some (a.add n))) := by
  cases h with
  | ref _ _ _ _ hi hv' ho hval =>
    obtain ⟨hd, hval⟩ := hval hv
    refine ⟨_, hval, .ref _ _ _ _ hi hv' rfl fun _ => ⟨hd, ?_⟩⟩
    rw [add_mk]

/-- A stale pointer: it still is a pointer, or nothing is known of it; only a live one is followed. -/
def liveRef (H : AHeap) (x : AV) : Prop :=
  match x with
  | .ref i v _ => match hget H i with
    | .cells ver _ => v = ver
    | _ => False
  | .osl _ i v _ _ _ => match hget H i with
    | .cells ver _ => v = ver
    | _ => False
  | _ => True

theorem liveRef_ver {c : Ctx} {H : AHeap} (hst : St c H) {i v off : Nat} (h : liveRef H (.ref i v off)) : c.ver i = v := by
  unfold liveRef at h
  simp only at h
  cases hh : hget H i with
  | cells ver cs => rw [hh] at h; simp only at h; rw [h]; exact hst.ver_eq hh
  | _ => rw [hh] at h; exact h.elim

theorem liveOsl_ver {c : Ctx} {H : AHeap} (hst : St c H) {s i v off len lc : Nat} (h : liveRef H (.osl s i v off len lc)) : c.ver i = v := by
  unfold liveRef at h
  simp only at h
  cases hh : hget H i with
  | cells ver cs => rw [hh] at h; simp only at h; rw [h]; exact hst.ver_eq hh
  | _ => rw [hh] at h; exact h.elim

theorem afieldAddr_sound {c : Ctx} {H : AHeap} {t : TypeId} {f : Nat} {x : AV} {vx : Value} (hst : St c H) (hx : Rep c x vx) (hl : liveRef H x) (hs : (afieldAddr P t f x).s) (w : World) :
    ∃ v, (Instr.fieldAt t vx f).run P w = .ok v w ∧ Rep c (afieldAddr P t f x).v v := by
  unfold afieldAddr at *
  cases hu : P.underlying t with
  | none => simp [hu, bad] at hs
  | some d =>
    cases d <;> simp only [hu, bad] at hs
    case struct fs =>
      simp only
      cases hf : fs[f]? with
      | none => simp [hf] at hs
      | some fd =>
        simp only [hf] at hs
        cases x <;> simp only at hs
        case ref i v off =>
          obtain ⟨hsome, hne⟩ := hs
          obtain ⟨d, hd⟩ := Option.isSome_iff_exists.1 hsome
          obtain ⟨a, rfl, hr⟩ := rep_ref_add hx (liveRef_ver hst hl) fd.offset
          exact ⟨_, by simp [Instr.fieldAt, run_underlying hu, hf, Instr.sureAddr, fieldPlace, run_sizeOf' hd, hne], hr⟩
        case cptr cs =>
          obtain ⟨hsome, hne⟩ := hs
          obtain ⟨d, hd⟩ := Option.isSome_iff_exists.1 hsome
          cases hx with
          | cptr _ a vs h1 h2 h3 h4 =>
            exact ⟨_, by simp [Instr.fieldAt, run_underlying hu, hf, Instr.sureAddr, fieldPlace, run_sizeOf' hd, hne], rep_cptr_drop (.cptr cs a vs h1 h2 h3 h4) _⟩

def aindexAddr (P : Program) (t : TypeId) (x ix : AV) : BR :=
  match P.underlying t with
  | some (.slice e) =>
    match x, ix with
    | .sl _ es, .int _ i => ⟨.cptr (es.getD i.toNat .top).cells, 0 ≤ i ∧ i < es.length ∧ (P.underlying e).isSome = true ∧ P.cellsOf e = (es.getD i.toNat .top).cells.length⟩
    | .osl s j v off len _, .int _ i => ⟨.ref j v (off + i.toNat * s), 0 ≤ i ∧ i < len ∧ (P.underlying e).isSome = true ∧ P.cellsOf e = s ∧ s ≠ 0⟩
    | _, _ => bad
  | some (.array n e) =>
    match x, ix with
    | .ref j v off, .int _ i => ⟨.ref j v (off + i.toNat * P.cellsOf e), 0 ≤ i ∧ i < n ∧ (P.underlying e).isSome = true⟩
    | .cptr cs, .int _ i => ⟨.cptr (cs.drop (i.toNat * P.cellsOf e)), 0 ≤ i ∧ i < n ∧ (P.underlying e).isSome = true⟩
    | _, _ => bad
  | _ => bad

theorem Rep.sl_inv {c : Ctx} {full : Bool} {es : List AV} {v : Value} (h : Rep c (.sl full es) v) : ∃ base len cap s, ∃ vs : Nat → Nat → Value, v = .slice base len cap ∧ len = es.length ∧ len ≤ cap ∧ (full = true → cap = len) ∧
    (es ≠ [] → ∃ a, base = some a ∧ a.spot = none ∧ c.stable a.block ∧ ∀ k j, k < es.length → j < s → c.w.cell? (a.add (k * s + j)) = some (vs k j)) ∧ (∀ e ∈ es, e.cells.length = s) ∧
    (∀ (k : Nat) (e : AV) (j : Nat) (x : AV), es[k]? = some e → e.cells[j]? = some x → Rep c x (vs k j)) := by
  cases h with
  | sl _ _ base len cap s vs h1 h2 h3 h4 h5 h6 _ => exact ⟨base, len, cap, s, vs, rfl, h1, h2, h3, h4, h5, h6⟩

theorem Rep.osl_inv {c : Ctx} {s i v off len lc : Nat} {val : Value} (h : Rep c (.osl s i v off len lc) val) (hv : c.ver i = v) :
    ∃ base cap, val = .slice base len cap ∧ len ≤ lc ∧ lc ≤ cap ∧ (c.vd i = true → len = 0 ∧ cap = 0) ∧ (c.vd i = false → (cap = 0 ∨ base = some ⟨c.blk i, off, none⟩) ∧ ∃ m, bsize c.w (c.blk i) = some m ∧ off + cap * s ≤ m) := by
  cases h with
  | osl _ _ _ _ _ _ _ hi hv' ho hmax h1 h2 =>
    cases hd : c.vd i with
    | true =>
      obtain ⟨rfl, rfl, base, rfl⟩ := h1 hv hd
      exact ⟨base, 0, rfl, Nat.le_refl _, Nat.le_refl _, (fun _ => ⟨rfl, rfl⟩), (fun h => by cases h)⟩
    | false =>
      obtain ⟨base, cap, m, q1, q2, q2', q3, q4, q5⟩ := h2 hv hd
      exact ⟨base, cap, q1, q2, q2', (fun h => by cases h), (fun _ => ⟨q3, m, q4, q5⟩)⟩

theorem getD_eq {α : Type} (l : List α) (i : Nat) (d x : α) (h : l[i]? = some x) : l.getD i d = x := by
  rw [List.getD_eq_getElem?_getD, h]; rfl

theorem aindexAddr_sound {c : Ctx} {H : AHeap} {t : TypeId} {x ix : AV} {vx vi : Value} (hst : St c H) (hx : Rep c x vx) (hi : Rep c ix vi) (hl : liveRef H x) (hs : (aindexAddr P t x ix).s) (w : World) :
    ∃ v, (Instr.indexAt t vx vi).run P w = .ok v w ∧ Rep c (aindexAddr P t x ix).v v := by
  unfold aindexAddr at *
  cases hu : P.underlying t with
  | none => simp [hu, bad] at hs
  | some d =>
    cases d <;> simp only [hu, bad] at hs
    case slice e =>
      simp only
      cases x <;> cases ix <;> simp only at hs ⊢
      case sl.int full es k i =>
        obtain ⟨h0, h1, h2, h3⟩ := hs
        obtain ⟨d, hd⟩ := Option.isSome_iff_exists.1 h2
        obtain ⟨base, len, cap, s, vs, rfl, rfl, q2, q3, q4, q5, q6⟩ := hx.sl_inv
        rw [hi.int_inv]
        have hlt : i.toNat < es.length := by omega
        have hne : es ≠ [] := by intro e; rw [e] at hlt; simp at hlt
        obtain ⟨a, rfl, a2, a3, a4⟩ := q4 hne
        have hget : es[i.toNat]? = some es[i.toNat] := List.getElem?_eq_getElem hlt
        rw [getD_eq _ _ _ _ hget] at h3 ⊢
        have hsz : s = P.cellsOf e := by rw [h3]; exact (q5 _ (List.getElem_mem hlt)).symm
        subst hsz
        refine ⟨.pointer (some (a.add (i.toNat * P.cellsOf e))), ?_, ?_⟩
        · simp [Instr.indexAt, asIntOf, run_underlying hu, run_sizeOf' hd, h0, h1]
        · refine .cptr _ _ (fun j => vs i.toNat j) (Addr.add_spot a2 _) (by rw [Addr.add_block]; exact a3) (fun j hj => ?_) (fun j y hy => q6 _ _ _ _ hget hy)
          rw [Addr.add_add a2]
          exact a4 _ _ hlt (by omega)
      case osl.int s j v off len lc k i =>
        obtain ⟨h0, h1, h2, h3, h4⟩ := hs
        obtain ⟨d, hd⟩ := Option.isSome_iff_exists.1 h2
        have hv := liveOsl_ver hst hl
        obtain ⟨base, cap, rfl, p1, p1', p2, p3⟩ := hx.osl_inv hv
        rw [hi.int_inv]
        cases hvd : c.vd j with
        | true => have := p2 hvd; omega
        | false =>
          obtain ⟨p4, m, p5, p6⟩ := p3 hvd
          rcases p4 with p4 | rfl
          · omega
          · refine ⟨.pointer (some ⟨c.blk j, off + i.toNat * s, none⟩), ?_, ?_⟩
            · simp [Instr.indexAt, asIntOf, run_underlying hu, run_sizeOf' hd, h0, h1, h3, add_mk]
            · cases hx with
              | osl _ _ _ _ _ _ _ hi' hv' => exact .ref _ _ _ _ hi' hv' rfl fun _ => ⟨hvd, rfl⟩
    case array n e =>
      simp only
      cases x <;> cases ix <;> simp only at hs ⊢
      case ref.int j v off k i =>
        obtain ⟨h0, h1, h2⟩ := hs
        obtain ⟨d, hd⟩ := Option.isSome_iff_exists.1 h2
        obtain ⟨a, rfl, hr⟩ := rep_ref_add hx (liveRef_ver hst hl) (i.toNat * P.cellsOf e)
        rw [hi.int_inv]
        exact ⟨_, by simp [Instr.indexAt, asIntOf, run_underlying hu, run_sizeOf' hd, h0, h1, Instr.sureAddr], hr⟩
      case cptr.int cs k i =>
        obtain ⟨h0, h1, h2⟩ := hs
        obtain ⟨d, hd⟩ := Option.isSome_iff_exists.1 h2
        rw [hi.int_inv]
        cases hx with
        | cptr _ a vs g1 g2 g3 g4 =>
          exact ⟨_, by simp [Instr.indexAt, asIntOf, run_underlying hu, run_sizeOf' hd, h0, h1, Instr.sureAddr], rep_cptr_drop (.cptr cs a vs g1 g2 g3 g4) _⟩

end Go.Aw
