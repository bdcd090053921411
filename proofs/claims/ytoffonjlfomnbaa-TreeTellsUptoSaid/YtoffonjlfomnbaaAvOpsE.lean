/- More operations of the abstract machine: append, copy, built slices, interfaces, tuples, conversions. No condition. -/
import Derived.Test.YtoffonjlfomnbaaAvOpsD
import Derived.Laws.Append
namespace Go.Aw
open Go
set_option linter.unusedSimpArgs false

variable {P : Program}

/-! ### A draw changes nothing -/
def Ctx.draw (c : Ctx) : Ctx := { c with w := { c.w with drawn := c.w.drawn + 1 } }
theorem Ext.draw (c : Ctx) : Ext c c.draw := ⟨Nat.le_refl _, Nat.le_refl _, fun _ h => ⟨h, rfl⟩, fun _ _ => Nat.le_refl _, fun _ _ _ => ⟨rfl, rfl, fun _ => rfl⟩, rfl, rfl, rfl⟩
theorem St.draw {c : Ctx} {H : AHeap} (h : St c H) : St c.draw H :=
  ⟨h.n, h.lt, h.inj, h.st, fun i b hi => (h.rep i b hi).mono (Ext.draw c) (by rw [h.n]; exact (List.getElem?_eq_some_iff.1 hi).1) (fun _ _ hv => hv) rfl (fun _ => rfl)⟩

/-! ### New memory that never changes -/
def Ctx.fix (c : Ctx) (o : Obj) : Ctx := { c with w := c.w.alloc o, stable := fun b => c.stable b ∨ b = c.w.heap.size }
theorem Ext.fix {c : Ctx} {H : AHeap} (hst : St c H) (o : Obj) : Ext c (c.fix o) where
  n := Nat.le_refl _
  size := by simp [Ctx.fix]
  st := fun b hb => ⟨.inl hb, heap_alloc_lt (hst.st b hb).1⟩
  ver := fun _ _ => Nat.le_refl _
  blk := fun i hi _ => ⟨rfl, rfl, fun hd => by unfold bsize Ctx.fix; simp only; rw [heap_alloc_lt (hst.lt i hi hd)]⟩
  os := rfl
  tape := rfl
  output := rfl
theorem St.fix {c : Ctx} {H : AHeap} (hst : St c H) (o : Obj) : St (c.fix o) H where
  n := hst.n
  lt := fun i hi hd => by have := hst.lt i hi hd; simp [Ctx.fix]; omega
  inj := hst.inj
  st := fun k hk => by
    rcases hk with hk | rfl
    · obtain ⟨h1, h2⟩ := hst.st k hk
      exact ⟨by simp [Ctx.fix]; omega, h2⟩
    · refine ⟨by simp [Ctx.fix], fun i b hi hb hd => ?_⟩
      have := hst.lt i (by rw [hst.n]; exact (List.getElem?_eq_some_iff.1 hi).1) hd
      simp only [Ctx.fix]
      omega
  rep := fun i b hi => by
    have hin : i < c.n := by rw [hst.n]; exact (List.getElem?_eq_some_iff.1 hi).1
    exact (hst.rep i b hi).mono (Ext.fix hst o) hin (fun _ _ hv => hv) rfl (fun hd => heap_alloc_lt (hst.lt i hin hd))

/-! ### The cells of what is appended, or copied -/
def srcCells (x : AV) (H : AHeap) : List AV :=
  match x with
  | .sl _ es => es.flatMap AV.cells
  | .osl s i _ off len _ => match hget H i with
    | .cells _ cs => (cs.drop off).take (len * s)
    | _ => []
  | .str s => s.map fun b => .int .u8 b.toNat
  | _ => []

def srcLen (x : AV) : Nat :=
  match x with
  | .sl _ es => es.length
  | .osl _ _ _ _ len _ => len
  | .str s => s.length
  | _ => 0

/-- The source fits elements of `n` cells. -/
def srcOk (x : AV) (n : Nat) (H : AHeap) : Prop :=
  match x with
  | .sl _ es => ∀ e ∈ es, e.cells.length = n
  | .osl s i v off len lc => s = n ∧ liveRef H (.osl s i v off len lc) ∧ match hget H i with
    | .cells _ cs => off + len * s ≤ cs.length
    | _ => False
  | .str _ => n = 1
  | _ => False

theorem length_flatMap_cells {es : List AV} {s : Nat} (h : ∀ e ∈ es, e.cells.length = s) : (es.flatMap AV.cells).length = es.length * s := by
  induction es with
  | nil => simp
  | cons e es ih =>
    rw [List.flatMap_cons, List.length_append, ih (fun x hx => h x (by simp [hx])), h e (by simp), List.length_cons, Nat.add_mul]
    omega

theorem get_flatMap_cells {es : List AV} {s : Nat} (h : ∀ e ∈ es, e.cells.length = s) (k j : Nat) (hj : j < s) : (es.flatMap AV.cells)[k * s + j]? = (es[k]?).bind fun e => e.cells[j]? := by
  induction es generalizing k with
  | nil => simp
  | cons e es ih =>
    have he := h e (by simp)
    rw [List.flatMap_cons]
    cases k with
    | zero => rw [List.getElem?_append_left (by omega)]; simp
    | succ k =>
      rw [List.getElem?_append_right (by rw [he, Nat.add_mul]; omega), he]
      have : (k + 1) * s + j - s = k * s + j := by rw [Nat.add_mul]; omega
      rw [this, ih (fun x hx => h x (by simp [hx]))]
      simp

theorem srcCells_sound {c : Ctx} {H : AHeap} {x : AV} {v : Value} {n : Nat} (hst : St c H) (hx : Rep c x v) (hok : srcOk x n H) :
    (Builtin.lenOf v).run P c.w = .ok (srcLen x) c.w ∧ (srcCells x H).length = srcLen x * n ∧
    ∃ us : Array Value, (Builtin.firstCells n (srcLen x) v).run P c.w = .ok us c.w ∧ us.size = (srcCells x H).length ∧ (∀ (i : Nat) (y : AV) (u : Value), (srcCells x H)[i]? = some y → us[i]? = some u → Rep c y u) := by
  cases x <;> simp only [srcOk] at hok
  case sl full es =>
    obtain ⟨base, len, cap, s, vs, rfl, rfl, h2, h3, h4, h5, h6⟩ := hx.sl_inv
    refine ⟨by simp [Builtin.lenOf, srcLen], by simp only [srcCells, srcLen]; exact length_flatMap_cells hok, ?_⟩
    simp only [srcCells, srcLen]
    by_cases hne : es = []
    · subst hne
      cases base with
      | none => exact ⟨#[], by simp [Builtin.firstCells], by simp, by simp⟩
      | some a => exact ⟨#[], by simp [Builtin.firstCells, loadCells, loadCellsFrom], by simp, by simp⟩
    · obtain ⟨a, rfl, a2, a3, a4⟩ := h4 hne
      obtain ⟨e0, he0⟩ := List.exists_mem_of_ne_nil es hne
      have hs : s = n := by rw [← h5 e0 he0, hok e0 he0]
      subst hs
      have hcell : ∀ m, m < es.length * s → c.w.cell? (a.add m) = some (vs (m / s) (m % s)) := by
        intro m hm
        have hs0 : 0 < s := by
          rcases Nat.eq_zero_or_pos s with h | h
          · subst h; omega
          · exact h
        have h7 := a4 (m / s) (m % s) ((Nat.div_lt_iff_lt_mul hs0).2 hm) (Nat.mod_lt _ hs0)
        rwa [Nat.mul_comm, Nat.div_add_mod] at h7
      refine ⟨_, by simp only [Builtin.firstCells]; exact run_loadCells (P := P) c.w a _ (fun m => vs (m / s) (m % s)) hcell, by simp [length_flatMap_cells hok], fun i y u hi hu => ?_⟩
      have hlt : i < es.length * s := by
        have := (List.getElem?_eq_some_iff.1 hi).1
        rwa [length_flatMap_cells hok] at this
      have hs0 : 0 < s := by
        rcases Nat.eq_zero_or_pos s with h | h
        · subst h; omega
        · exact h
      simp [hlt] at hu
      subst hu
      have h8 := get_flatMap_cells hok (i / s) (i % s) (Nat.mod_lt _ hs0)
      rw [Nat.mul_comm, Nat.div_add_mod] at h8
      rw [h8] at hi
      cases hk : es[i / s]? with
      | none => rw [hk] at hi; cases hi
      | some e => rw [hk] at hi; exact h6 _ _ _ _ hk hi
  case osl s i v off len lc =>
    obtain ⟨rfl, hl, hok⟩ := hok
    have hv := liveOsl_ver hst hl
    simp only [srcCells, srcLen]
    cases hh : hget H i with
    | cells ver cs =>
      simp only [hh] at hok ⊢
      obtain ⟨base, cap, rfl, h1, h1', h2, h3⟩ := hx.osl_inv hv
      refine ⟨by simp [Builtin.lenOf], by simp; omega, ?_⟩
      cases hd : c.vd i with
      | true =>
        obtain ⟨rfl, rfl⟩ := h2 hd
        cases base with
        | none => exact ⟨#[], by simp [Builtin.firstCells], by simp, by simp⟩
        | some a => exact ⟨#[], by simp [Builtin.firstCells, loadCells, loadCellsFrom], by simp, by simp⟩
      | false =>
        obtain ⟨p1, m, p2, p3⟩ := h3 hd
        rcases p1 with p1 | rfl
        · have h0 : len = 0 := by omega
          subst h0
          cases base with
          | none => exact ⟨#[], by simp [Builtin.firstCells], by simp, by simp⟩
          | some a => exact ⟨#[], by simp [Builtin.firstCells, loadCells, loadCellsFrom], by simp, by simp⟩
        · obtain ⟨_, _, vs, e, fr, hb, hl', hf, hr⟩ := hst.cells hh hd
          refine ⟨_, by simp only [Builtin.firstCells]; exact run_loadCells (P := P) c.w _ _ (fun j => vs.getD (off + j) undef) (fun j hj => by rw [add_mk, cell_cells hb]; simp [show off + j < vs.size by omega]), by simp; omega, fun k y u hk hu => ?_⟩
          rw [List.getElem?_take, List.getElem?_drop] at hk
          split at hk
          · rename_i hlt
            simp [hlt] at hu
            subst hu
            have hlt' := (List.getElem?_eq_some_iff.1 hk).1
            refine hr _ _ _ hk ?_
            simp [show off + k < vs.size by omega]
          · cases hk
    | _ => simp [hh] at hok
  case str s =>
    subst hok
    rw [hx.str_inv]
    have e : (Builtin.firstCells 1 (srcLen (.str s)) (.string ⟨s.toArray⟩)).run P c.w = .ok (s.map fun b => Value.int .u8 b.toNat).toArray c.w := by
      simp only [Builtin.firstCells, Sem.run_pure, srcLen]
      congr 1
      apply Array.ext'
      simp [ByteArray.data_extract, List.map_take]
    refine ⟨by simp [Builtin.lenOf, srcLen, size_mk], by simp [srcCells, srcLen], _, e, by simp [srcCells], fun i y u hi hu => ?_⟩
    simp only [srcCells, List.getElem?_map, Option.map_eq_some_iff] at hi
    obtain ⟨b, hb, rfl⟩ := hi
    rw [List.getElem?_toArray, List.getElem?_map, hb] at hu
    cases hu
    exact .int _ _ (inR_u8.2 ⟨by omega, by have := b.toNat_lt; omega⟩)

theorem bsize_of {w : World} {b : Nat} {vs : Array Value} {e : TypeId} {fr : Nat × Nat} (h : w.heap[b]? = some (.cells vs e fr)) : bsize w b = some vs.size := by simp [bsize, h]

/-! ### append -/

/-- What the program knows of an element's type: its size, its zero value. -/
def elemOk (P : Program) (e : TypeId) : Bool := (P.underlying e).isSome && (azero P e).known && ((azero P e).cells.length == P.cellsOf e)

def notInt (P : Program) (t : TypeId) : Bool :=
  match P.underlying t with
  | some (.int _) => false
  | some _ => true
  | none => false

def aappend (P : Program) (ts tx : TypeId) (s x : AV) (H : AHeap) : Res :=
  match P.underlying ts with
  | some (.slice e) =>
    match s with
    | .sl full es => ⟨.osl (P.cellsOf e) H.length 1 0 (es.length + srcLen x) (es.length + srcLen x), H ++ [.cells 1 (es.flatMap AV.cells ++ srcCells x H)],
        elemOk P e = true ∧ notInt P tx = true ∧ full = true ∧ (es = [] ∨ srcLen x ≠ 0) ∧ (∀ x ∈ es, x.cells.length = P.cellsOf e) ∧ srcOk x (P.cellsOf e) H ∧ (es.length + srcLen x) * P.bytesOf e ≤ 140737488355328 ∧ P.bytesOf e ≠ 0⟩
    | .osl sz i v off len lc =>
      match hget H i with
      | .cells ver cs =>
        if len = lc then
          ⟨.osl sz i (v + 1) 0 (len + srcLen x) (len + srcLen x), hset H i (.cells (v + 1) (cs ++ srcCells x H)),
            elemOk P e = true ∧ notInt P tx = true ∧ v = ver ∧ v ≠ 0 ∧ off = 0 ∧ sz = P.cellsOf e ∧ len * sz = cs.length ∧ srcOk x sz H ∧ (len + srcLen x) * P.bytesOf e ≤ 140737488355328 ∧ P.bytesOf e ≠ 0 ∧ (srcCells x H).all AV.one = true⟩
        else
          ⟨.osl sz i v off (len + srcLen x) lc, hset H i (.cells v (splice cs (off + len * sz) (srcCells x H))),
            elemOk P e = true ∧ notInt P tx = true ∧ v = ver ∧ sz = P.cellsOf e ∧ off + lc * sz ≤ cs.length ∧ len + srcLen x ≤ lc ∧ srcOk x sz H ∧ (srcCells x H).all AV.one = true⟩
      | _ => ⟨.top, H, False⟩
    | _ => ⟨.top, H, False⟩
  | _ => ⟨.top, H, False⟩

theorem le_of_bytes {n b : Nat} (h : n * b ≤ 140737488355328) (h0 : b ≠ 0) : n ≤ 9223372036854775807 := by
  have := Nat.le_mul_of_pos_right n (Nat.pos_of_ne_zero h0)
  omega

theorem size_zeroCells (z : Array Value) (n : Nat) : (Builtin.zeroCells z n).size = n * z.size := by simp [Builtin.zeroCells]

/-- The run of an append that needs a new array. -/
theorem run_append_grow' {w : World} {ts tx ty e : TypeId} {s x : Value} {base : Option Addr} {len cap n : Nat} {old new : Array Value} (hu : P.underlying ts = some (.slice e)) (hok : elemOk P e = true) (hni : notInt P tx = true)
    (hn : (Builtin.lenOf x).run P w = .ok n w) (hs : s = .slice base len cap) (hgt : cap < len + n) (hb : (len + n) * P.bytesOf e ≤ 140737488355328) (hb0 : P.bytesOf e ≠ 0)
    (hold : (Builtin.firstCells (P.cellsOf e) len s).run P { w with drawn := w.drawn + 1 } = .ok old { w with drawn := w.drawn + 1 })
    (hnew : (Builtin.firstCells (P.cellsOf e) n x).run P { w with drawn := w.drawn + 1 } = .ok new { w with drawn := w.drawn + 1 }) :
    ∃ (nc : Nat) (rest : Array Value), len + n ≤ nc ∧ rest.size = (nc - (len + n)) * P.cellsOf e ∧
      (Builtin.append_ #[ts, tx] ty #[s, x]).run P w = .ok (.slice (some ⟨w.heap.size, 0, none⟩) (len + n) nc) (World.alloc { w with drawn := w.drawn + 1 } (.cells (old ++ new ++ rest) e)) := by
  simp only [elemOk, Bool.and_eq_true, beq_iff_eq] at hok
  obtain ⟨⟨h1, h2⟩, h3⟩ := hok
  obtain ⟨d, hd⟩ := Option.isSome_iff_exists.1 h1
  obtain ⟨i, hi, hci⟩ := info_of_underlying hd
  obtain ⟨z, hz1, hz2⟩ := azero_sound (P := P) h2 { w := w, n := 0, blk := fun _ => 0, ver := fun _ => 0, vd := fun _ => true, stable := fun _ => False }
  have hzs : z.cells.size = P.cellsOf e := by rw [(hz2.cells h2).1, h3]
  have hbytes : i.bytes = P.bytesOf e := by simp [Program.bytesOf, hi]
  have hnx : ∃ dx, P.underlying tx = some dx ∧ (∀ k, dx ≠ .int k) := by
    unfold notInt at hni
    cases hux : P.underlying tx with
    | none => rw [hux] at hni; cases hni
    | some dx => exact ⟨dx, rfl, fun k hk => by rw [hux, hk] at hni; cases hni⟩
  obtain ⟨dx, hdx, hdxi⟩ := hnx
  have hzero : (match dx with | .int _ => true | _ => false) = false := by
    cases dx <;> first | rfl | exact absurd rfl (hdxi _)
  subst hs
  have hng : ¬ (len + n ≤ cap) := by omega
  have hcap : Builtin.nextslicecap (len + n) cap * i.bytes ≤ 281474976710656 := by rw [hbytes]; exact growslice_fits hgt hb
  have hmax : ¬ (((len + n : Nat) : Int) > IntKind.i64.max ∧ (False ∨ i.bytes = 0)) := by rw [hbytes]; simp [hb0]
  let nc := (len + n) + (w.tape w.drawn (.appendCap (len + n) cap e)) % (2 ^ 63 - (len + n))
  refine ⟨nc, Builtin.zeroCells z.cells (nc - (len + n)), by omega, by rw [size_zeroCells, hzs], ?_⟩
  have hc1 : ¬ (Builtin.nextslicecap (len + n) cap * i.bytes > 281474976710656) := by omega
  have hdec : decide (Builtin.nextslicecap (len + n) cap * i.bytes > 281474976710656) = false := by simpa using hcap
  simp only [World.drew_eq] at hold hnew ⊢
  have hnc : (Question.appendCap (len + n) cap e).cut (w.tape w.drawn (.appendCap (len + n) cap e)) = nc := rfl
  simp [Builtin.append_, run_underlying hu, run_sizeOf' hd, run_underlying hdx, hn, hng, hb0, typeInfo, hi, hbytes, Question.forced, hold, hnew, hz1, newRow]
  rw [if_neg (by rw [← hbytes]; omega), hnc]

/-- The run of an append that has room. -/
theorem run_append_room' {w w' : World} {ts tx ty e : TypeId} {x : Value} {base : Option Addr} {len cap n : Nat} {new : Array Value} (hu : P.underlying ts = some (.slice e)) (hok : elemOk P e = true) (hni : notInt P tx = true)
    (hn : (Builtin.lenOf x).run P w = .ok n w) (hle : len + n ≤ cap) (hnew : (Builtin.firstCells (P.cellsOf e) n x).run P w = .ok new w)
    (hst : ∀ a, base = some a → (storeCells (a.add (len * P.cellsOf e)) new.toList).run P w = .ok () w') (hw : base = none → w' = w) :
    (Builtin.append_ #[ts, tx] ty #[.slice base len cap, x]).run P w = .ok (.slice base (len + n) cap) w' := by
  simp only [elemOk, Bool.and_eq_true, beq_iff_eq] at hok
  obtain ⟨⟨h1, h2⟩, h3⟩ := hok
  obtain ⟨d, hd⟩ := Option.isSome_iff_exists.1 h1
  have hnx : ∃ dx, P.underlying tx = some dx ∧ (∀ k, dx ≠ .int k) := by
    unfold notInt at hni
    cases hux : P.underlying tx with
    | none => rw [hux] at hni; cases hni
    | some dx => exact ⟨dx, rfl, fun k hk => by rw [hux, hk] at hni; cases hni⟩
  obtain ⟨dx, hdx, hdxi⟩ := hnx
  have hzero : (match dx with | .int _ => true | _ => false) = false := by
    cases dx <;> first | rfl | exact absurd rfl (hdxi _)
  cases base with
  | none =>
    rw [hw rfl]
    simp [Builtin.append_, run_underlying hu, run_sizeOf' hd, run_underlying hdx, hn, hle, hnew]
  | some a =>
    have := hst a rfl
    simp [Builtin.append_, run_underlying hu, run_sizeOf' hd, run_underlying hdx, hn, hle, hnew, this]

/-- A block that is none yet. -/
def Ctx.void (c : Ctx) : Ctx :=
  { w := c.w, n := c.n + 1, blk := c.blk, ver := fun i => if i = c.n then 1 else c.ver i, vd := fun i => if i = c.n then true else c.vd i, stable := c.stable }

theorem Ext.void (c : Ctx) : Ext c c.void :=
  ⟨Nat.le_succ _, Nat.le_refl _, fun _ h => ⟨h, rfl⟩, fun i hi => by simp [Ctx.void, show ¬ i = c.n by omega], fun i hi _ => ⟨rfl, by simp [Ctx.void, show ¬ i = c.n by omega], fun _ => rfl⟩, rfl, rfl, rfl⟩

theorem St.void {c : Ctx} {H : AHeap} (hst : St c H) : St c.void (H ++ [.cells 1 []]) := by
  have hn := hst.n
  have hi' : ∀ {i : Nat} {b : ABlk}, (H ++ [.cells 1 []])[i]? = some b → c.void.vd i = false → i < c.n ∧ H[i]? = some b ∧ c.vd i = false := by
    intro i b hi hd
    have hli : i < H.length + 1 := by simpa using (List.getElem?_eq_some_iff.1 hi).1
    simp only [Ctx.void] at hd
    by_cases h : i = c.n
    · simp [h] at hd
    · simp only [h, if_false] at hd
      rw [List.getElem?_append_left (by omega)] at hi
      exact ⟨by omega, hi, hd⟩
  refine ⟨by simp [Ctx.void, hn], fun i hi hd => ?_, fun i j b b' hi hj hb hb' di dj he => ?_, fun k hk => ?_, fun i b hi => ?_⟩
  · simp only [Ctx.void] at hi hd ⊢
    by_cases h : i = c.n
    · simp [h] at hd
    · simp only [h, if_false] at hd
      exact hst.lt i (by omega) hd
  · obtain ⟨h1, h2, h3⟩ := hi' hi di
    obtain ⟨g1, g2, g3⟩ := hi' hj dj
    exact hst.inj i j b b' h2 g2 hb hb' h3 g3 he
  · obtain ⟨h1, h2⟩ := hst.st k hk
    refine ⟨h1, fun i b hi hb hd => ?_⟩
    obtain ⟨g1, g2, g3⟩ := hi' hi hd
    exact h2 i b g2 hb g3
  · have hli : i < H.length + 1 := by simpa using (List.getElem?_eq_some_iff.1 hi).1
    by_cases h : i = c.n
    · subst h
      rw [hn] at hi
      simp at hi
      subst hi
      exact .void 1 (by simp [Ctx.void]) (by simp [Ctx.void])
    · rw [List.getElem?_append_left (by omega)] at hi
      exact (hst.rep i b hi).mono (Ext.void c) (by omega) (fun j hj hv => by simp [Ctx.void, show ¬ j = c.n by omega, hv]) (by simp [Ctx.void, h]) (fun _ => rfl)

/-- The same block, of a greater version. -/
def Ctx.rever (c : Ctx) (i : Nat) : Ctx := { c with ver := fun j => if j = i then c.ver i + 1 else c.ver j }

theorem Ext.rever (c : Ctx) (i : Nat) : Ext c (c.rever i) := by
  refine ⟨Nat.le_refl _, Nat.le_refl _, fun _ h => ⟨h, rfl⟩, fun j hj => ?_, fun j hj _ => ⟨rfl, rfl, fun _ => rfl⟩, rfl, rfl, rfl⟩
  simp only [Ctx.rever]
  split
  · rename_i h; subst h; omega
  · omega

theorem St.rebump {c : Ctx} {H : AHeap} (hst : St c H) {i ver : Nat} {B B' : ABlk} (hi : H[i]? = some B) (hv : ver ≠ 0) (hver : c.ver i = ver) (hB : BRep (c.rever i) i B') (hBl0 : B.live := by trivial) :
    Ext c (c.rever i) ∧ St (c.rever i) (hset H i B') := by
  have hlt : i < H.length := (List.getElem?_eq_some_iff.1 hi).1
  refine ⟨Ext.rever c i, ⟨by simp [hset, Ctx.rever, hst.n], hst.lt, fun j k b b' hj hk hb hb' dj dk he => ?_, fun k hk => ⟨(hst.st k hk).1, fun j b hj hb hd => ?_⟩, fun j b hj => ?_⟩⟩
  · simp only [hset] at hj hk
    have h1 : ∃ x, H[j]? = some x ∧ x.live := by
      by_cases h : j = i
      · subst h; exact ⟨B, hi, hBl0⟩
      · rw [List.getElem?_set_ne (by omega)] at hj; exact ⟨b, hj, hb⟩
    have h2 : ∃ x, H[k]? = some x ∧ x.live := by
      by_cases h : k = i
      · subst h; exact ⟨B, hi, hBl0⟩
      · rw [List.getElem?_set_ne (by omega)] at hk; exact ⟨b', hk, hb'⟩
    obtain ⟨x, x1, x2⟩ := h1
    obtain ⟨y, y1, y2⟩ := h2
    exact hst.inj j k x y x1 y1 x2 y2 dj dk he
  · simp only [hset] at hj
    by_cases h : j = i
    · subst h; exact (hst.st k hk).2 j B hi hBl0 hd
    · rw [List.getElem?_set_ne (by omega)] at hj; exact (hst.st k hk).2 j b hj hb hd
  · by_cases h : j = i
    · subst h
      simp [hset, hlt] at hj
      subst hj
      exact hB
    · simp only [hset] at hj
      rw [List.getElem?_set_ne (by omega)] at hj
      have hjn : j < c.n := by rw [hst.n]; exact (List.getElem?_eq_some_iff.1 hj).1
      refine (hst.rep j b hj).mono (Ext.rever c i) hjn (fun k _ hk0 => ?_) (by simp [Ctx.rever, h]) (fun _ => rfl)
      simp only [Ctx.rever]
      have : k ≠ i := fun e => hv (by rw [← hver, ← e]; exact hk0)
      simp [this, hk0]

theorem rep_append3 {c : Ctx} {xs ys : List AV} {us vs rest : Array Value} (h1 : us.size = xs.length) (h2 : ∀ (i : Nat) (y : AV) (u : Value), xs[i]? = some y → us[i]? = some u → Rep c y u)
    (h3 : vs.size = ys.length) (h4 : ∀ (i : Nat) (y : AV) (u : Value), ys[i]? = some y → vs[i]? = some u → Rep c y u) (i : Nat) (y : AV) (u : Value) (hi : (xs ++ ys)[i]? = some y) (hu : (us ++ vs ++ rest)[i]? = some u) : Rep c y u := by
  by_cases hlt : i < xs.length
  · rw [List.getElem?_append_left hlt] at hi
    rw [Array.append_assoc, Array.getElem?_append_left (by omega)] at hu
    exact h2 _ _ _ hi hu
  · rw [List.getElem?_append_right (by omega)] at hi
    have hlt2 := (List.getElem?_eq_some_iff.1 hi).1
    rw [Array.append_assoc, Array.getElem?_append_right (by omega), Array.getElem?_append_left (by omega), h1] at hu
    exact h4 _ _ _ hi hu

set_option maxHeartbeats 1600000 in
theorem aappend_sound {c : Ctx} {H : AHeap} {ts tx ty : TypeId} {s x : AV} {vs vx : Value} (hst : St c H) (hsr : Rep c s vs) (hx : Rep c x vx) (hs : (aappend P ts tx s x H).s) :
    Runs P (Builtin.append_ #[ts, tx] ty #[vs, vx]) c (aappend P ts tx s x H).v (aappend P ts tx s x H).H := by
  unfold aappend at *
  cases hu : P.underlying ts with
  | none => simp [hu] at hs
  | some dts =>
    cases dts <;> simp only [hu] at hs
    case slice e =>
      simp only
      cases s <;> simp only at hs
      case sl full es =>
        obtain ⟨hok, hni, rfl, hz, hes, hsrc, hb, hb0⟩ := hs
        simp only
        have hsl : srcOk (.sl true es) (P.cellsOf e) H := hes
        obtain ⟨q1, q2, us, q3, q4, q5⟩ := srcCells_sound (P := P) hst hx hsrc
        obtain ⟨base, len, cap, sz, vs', rfl, rfl, g2, g3, g4, -⟩ := hsr.sl_inv
        have hcap := g3 rfl
        subst hcap
        by_cases hn : srcLen x = 0
        · -- nothing is appended to nothing
          have hes0 : es = [] := hz.resolve_right (fun h => h hn)
          subst hes0
          have hus : us = #[] := by
            have : us.size = 0 := by rw [q4, q2, hn]; simp
            exact Array.eq_empty_of_size_eq_zero this
          have hrun := run_append_room' (P := P) (w' := c.w) (ty := ty) (base := base) (len := 0) (cap := 0) hu hok hni q1 (by omega) q3 (fun a _ => by rw [hus]; simp [storeCells]) (fun _ => rfl)
          have hcs : srcCells x H = [] := List.eq_nil_of_length_eq_zero (by rw [q2, hn]; simp)
          refine ⟨c.void, _, hrun, ?_, Ext.void c, ?_⟩
          · rw [hcs]
            exact hst.void
          · rw [hn]
            refine .osl _ _ _ _ _ _ _ (by simp [Ctx.void, hst.n]) (by simp [Ctx.void, hst.n]) rfl (by simp) (fun _ _ => ⟨rfl, rfl, base, rfl⟩) (fun _ hd => by simp [Ctx.void, hst.n] at hd)
        · obtain ⟨-, p2, os', p3, p4, p5⟩ := srcCells_sound (P := P) hst.draw (hsr.mono (Ext.draw c)) hsl
          obtain ⟨-, -, us', r3, r4, r5⟩ := srcCells_sound (P := P) hst.draw (hx.mono (Ext.draw c)) hsrc
          obtain ⟨nc, rest, k1, k2, k3⟩ := run_append_grow' (P := P) (ty := ty) (w := c.w) hu hok hni q1 rfl (by omega) hb hb0 p3 r3
          have hS := hst.draw.push (.cells (os' ++ us' ++ rest) e) (B := .cells 1 (es.flatMap AV.cells ++ srcCells x H)) 1 (by
            refine .cells _ _ _ e (0, 0) (by simp [Ctx.push]) (by simp [Ctx.push]) (by simp only [Ctx.push, if_true]; exact heap_alloc_new _ _) ?_ (.inr (Nat.le_refl _)) (fun i y u hi hu => ?_)
            · simp only [List.length_append, Array.size_append]; rw [p4, r4]; simp only [srcCells]; omega
            · exact (rep_append3 p4 p5 r4 r5 i y u hi hu).mono (Ext.push hst.draw _ 1))
          refine ⟨_, _, k3, hS, (Ext.draw c).trans (Ext.push hst.draw _ 1), ?_⟩
          refine .osl _ _ _ _ _ _ _ (by simp [Ctx.push, Ctx.draw, hst.n]) (by simp [Ctx.push, Ctx.draw, hst.n]) rfl (le_of_bytes hb hb0) (fun _ hd => by simp [Ctx.push, Ctx.draw, hst.n] at hd) (fun _ _ => ?_)
          refine ⟨_, nc, (os' ++ us' ++ rest).size, rfl, Nat.le_refl _, k1, .inr (by simp [Ctx.push, Ctx.draw, hst.n]), ?_, ?_⟩
          · simp only [bsize, Ctx.push, Ctx.draw, hst.n, if_true]
            have := heap_alloc_new { c.w with drawn := c.w.drawn + 1 } (.cells (os' ++ us' ++ rest) e)
            simp only at this
            rw [this]
          · simp only [Array.size_append]
            rw [p4, r4, k2]
            have e1 : (srcCells (.sl true es) H).length = es.length * P.cellsOf e := p2
            rw [e1, q2, ← Nat.add_mul, ← Nat.add_mul]
            have : es.length + srcLen x + (nc - (es.length + srcLen x)) = nc := by omega
            rw [this]
            omega
      case osl sz i v off len lc =>
        simp only
        cases hh : hget H i with
        | cells ver cs =>
          simp only [hh] at hs ⊢
          by_cases hll : len = lc
          · rw [if_pos hll] at hs ⊢
            subst hll
            obtain ⟨hok, hni, rfl, hv0, rfl, rfl, hlen, hsrc, hb, hb0, hone⟩ := hs
            have hver := hst.ver_eq hh
            have hslr : srcOk (.osl (P.cellsOf e) i v 0 len len) (P.cellsOf e) H := by
              refine ⟨rfl, by simp [liveRef, hh], ?_⟩
              simp only [hh]; omega
            obtain ⟨q1, q2, us, q3, q4, q5⟩ := srcCells_sound (P := P) hst hx hsrc
            obtain ⟨base, cap, rfl, g2, g2', g3, g4⟩ := hsr.osl_inv hver
            have hi : i < c.n := by rw [hst.n]; exact hget_lt hh trivial
            have hsome := hget_some hh trivial
            by_cases hroom : len + srcLen x ≤ cap
            · -- it fits
              cases hd : c.vd i with
              | true =>
                obtain ⟨rfl, rfl⟩ := g3 hd
                have hn : srcLen x = 0 := by omega
                have hcs0 : cs = [] := List.eq_nil_of_length_eq_zero (by omega)
                have hsc : srcCells x H = [] := List.eq_nil_of_length_eq_zero (by rw [q2, hn]; simp)
                have hus : us = #[] := Array.eq_empty_of_size_eq_zero (by rw [q4, q2, hn]; simp)
                have hrun := run_append_room' (P := P) (w' := c.w) (ty := ty) (base := base) (len := 0) (cap := 0) hu hok hni q1 (by omega) q3 (fun a _ => by rw [hus]; simp [storeCells]) (fun _ => rfl)
                obtain ⟨hx', hs'⟩ := hst.rebump (B' := .cells (v + 1) (cs ++ srcCells x H)) hsome hv0 hver (by
                  rw [hcs0, hsc]
                  exact .void _ (by simp [Ctx.rever, hver]) (by simp [Ctx.rever, hd]))
                refine ⟨c.rever i, _, hrun, hs', hx', ?_⟩
                rw [hn]
                exact .osl _ _ _ _ _ _ _ hi (by simp [Ctx.rever, hver]) rfl (by omega) (fun _ _ => ⟨rfl, rfl, base, rfl⟩) (fun _ hd' => by simp [Ctx.rever, hd] at hd')
              | false =>
                obtain ⟨p1, m, p2, p3⟩ := g4 hd
                obtain ⟨_, _, vs', e', fr, hb', hl', hf, hr⟩ := hst.cells hh hd
                have hm : vs'.size = m := by simp [bsize, hb'] at p2; exact p2
                rcases Nat.eq_zero_or_pos cap with hc0 | hcpos
                · -- no room at all: nothing is appended
                  subst hc0
                  have hn : srcLen x = 0 := by omega
                  have hl0 : len = 0 := by omega
                  subst hl0
                  have hsc : srcCells x H = [] := List.eq_nil_of_length_eq_zero (by rw [q2, hn]; simp)
                  have hus : us = #[] := Array.eq_empty_of_size_eq_zero (by rw [q4, q2, hn]; simp)
                  have hrun := run_append_room' (P := P) (w' := c.w) (ty := ty) (base := base) (len := 0) (cap := 0) hu hok hni q1 (by omega) q3 (fun a _ => by rw [hus]; simp [storeCells]) (fun _ => rfl)
                  obtain ⟨hx', hs'⟩ := hst.rebump (B' := .cells (v + 1) (cs ++ srcCells x H)) hsome hv0 hver (by
                    rw [hsc, List.append_nil]
                    refine .cells _ _ vs' e' fr (by simp [Ctx.rever, hver]) (by simp [Ctx.rever, hd]) (by simpa [Ctx.rever] using hb') hl' hf (fun j y u h1 h2 => (hr j y u h1 h2).mono (Ext.rever c i)))
                  refine ⟨c.rever i, _, hrun, hs', hx', ?_⟩
                  rw [hn]
                  exact .osl _ _ _ _ _ _ _ hi (by simp [Ctx.rever, hver]) rfl (by omega) (fun _ hd' => by simp [Ctx.rever, hd] at hd') (fun _ _ => ⟨_, 0, m, rfl, Nat.le_refl _, Nat.le_refl _, .inl rfl, by simpa [Ctx.rever] using p2, by omega⟩)
                · have hbase : base = some ⟨c.blk i, 0, none⟩ := p1.resolve_left (by omega)
                  subst hbase
                  have hmul : (len + srcLen x) * P.cellsOf e ≤ cap * P.cellsOf e := Nat.mul_le_mul_right _ hroom
                  have hmul' : (len + srcLen x) * P.cellsOf e = len * P.cellsOf e + srcLen x * P.cellsOf e := Nat.add_mul _ _ _
                  have honeu : ∀ u ∈ us.toList, u.oneCell' = true := by
                    intro u hu'
                    obtain ⟨k, hk1, hk2⟩ := List.getElem_of_mem hu'
                    simp only [Array.length_toList] at hk1
                    have hy : (srcCells x H)[k]? = some ((srcCells x H)[k]'(by omega)) := List.getElem?_eq_getElem (by omega)
                    exact (q5 k _ u hy (by rw [← hk2]; simp)).one (List.all_eq_true.1 hone _ (List.getElem_mem _))
                  have hst1 := run_storeCells (P := P) (w := c.w) (b := c.blk i) (off := len * P.cellsOf e) us.toList hb' (by simp; rw [q4, q2]; omega) hf honeu
                  have hrun := run_append_room' (P := P) (ty := ty) (base := some ⟨c.blk i, 0, none⟩) (len := len) (cap := cap) hu hok hni q1 hroom q3 (fun a ha => by cases ha; rw [add_mk, Nat.zero_add]; exact hst1) (fun h => by cases h)
                  obtain ⟨hlt, he⟩ := Array.getElem?_eq_some_iff.1 hb'
                  have hvs : (spliceV vs' (len * P.cellsOf e) us.toList).size = vs'.size := size_spliceV _ _ _
                  obtain ⟨hx', hs'⟩ := hst.bump (B' := .cells (v + 1) (cs ++ srcCells x H)) hsome trivial (by rw [hver]; exact hv0) (World.putCells c.w (c.blk i) (spliceV vs' (len * P.cellsOf e) us.toList) e' fr) (c.blk i) (by simp [World.putCells]) (by simpa [World.putCells] using hlt) (.inr ⟨rfl, hd⟩)
                    (fun b _ hne => heap_putCells_other hne) rfl rfl rfl (by
                      refine .cells _ _ (spliceV vs' (len * P.cellsOf e) us.toList) e' fr (by simp [Ctx.bump, hver]) (by simp [Ctx.bump]) (by simp only [Ctx.bump, if_true]; exact heap_putCells_same hlt) (by rw [hvs, List.length_append, q2]; omega) (by rw [hvs]; exact hf) (fun j y u h1 h2 => ?_)
                      refine Rep.mono (c := c) (hst.bump_ext hsome trivial (by rw [hver]; exact hv0) _ _ (by simp [World.putCells]) (.inr ⟨rfl, hd⟩) (fun b _ hne => heap_putCells_other hne) rfl rfl rfl) ?_
                      rw [get_spliceV' _ _ _ (srcCells x H).length (by simpa using q4) (by rw [q2]; omega)] at h2
                      by_cases hj : j < cs.length
                      · rw [List.getElem?_append_left hj] at h1
                        rw [if_neg (by omega)] at h2
                        exact hr _ _ _ h1 h2
                      · rw [List.getElem?_append_right (by omega)] at h1
                        have hlt2 := (List.getElem?_eq_some_iff.1 h1).1
                        rw [if_pos (by omega)] at h2
                        rw [hlen] at h2
                        exact q5 _ _ _ h1 (by simpa using h2))
                  refine ⟨c.bump i _ _, _, hrun, hs', hx', ?_⟩
                  exact .osl _ _ _ _ _ _ _ hi (by simp [Ctx.bump, hver]) rfl (le_of_bytes hb hb0) (fun _ hd' => by simp [Ctx.bump] at hd') (fun _ _ => ⟨_, cap, m, rfl, Nat.le_refl _, hroom, .inr (by simp [Ctx.bump]), by rw [← hm, ← hvs]; exact bsize_of (by simp only [Ctx.bump, if_true]; exact heap_putCells_same hlt), p3⟩)
            · -- a new array
              obtain ⟨-, p2, os', p3, p4, p5⟩ := srcCells_sound (P := P) hst.draw (hsr.mono (Ext.draw c)) hslr
              obtain ⟨-, -, us', r3, r4, r5⟩ := srcCells_sound (P := P) hst.draw (hx.mono (Ext.draw c)) hsrc
              obtain ⟨nc, rest, k1, k2, k3⟩ := run_append_grow' (P := P) (ty := ty) (w := c.w) hu hok hni q1 rfl (by omega) hb hb0 p3 r3
              have hold : srcCells (.osl (P.cellsOf e) i v 0 len len) H = cs := by
                simp only [srcCells, hh, List.drop_zero]
                rw [hlen, List.take_length]
              rw [hold] at p4 p5
              obtain ⟨hx', hs'⟩ := hst.draw.bump (B' := .cells (v + 1) (cs ++ srcCells x H)) hsome trivial (by simpa [Ctx.draw, hver] using hv0) (World.alloc { c.w with drawn := c.w.drawn + 1 } (.cells (os' ++ us' ++ rest) e)) c.w.heap.size (by simp [Ctx.draw]) (by simp) (.inl (by simp [Ctx.draw]))
                (fun b hlt _ => heap_alloc_lt (by simpa [Ctx.draw] using hlt)) rfl rfl rfl (by
                  refine .cells _ _ _ e (0, 0) (by simp [Ctx.bump, Ctx.draw, hver]) (by simp [Ctx.bump]) (by simp only [Ctx.bump, if_true]; exact heap_alloc_new _ _) ?_ (.inr (Nat.le_refl _)) (fun j y u hi hu => ?_)
                  · simp only [List.length_append, Array.size_append]; omega
                  · exact (rep_append3 p4 p5 r4 r5 j y u hi hu).mono (hst.draw.bump_ext hsome trivial (by simpa [Ctx.draw, hver] using hv0) _ _ (by simp [Ctx.draw]) (.inl (by simp [Ctx.draw])) (fun b hlt _ => heap_alloc_lt (by simpa [Ctx.draw] using hlt)) rfl rfl rfl))
              refine ⟨c.draw.bump i _ _, _, k3, hs', (Ext.draw c).trans hx', ?_⟩
              refine .osl _ _ _ _ _ _ _ hi (by simp [Ctx.bump, Ctx.draw, hver]) rfl (le_of_bytes hb hb0) (fun _ hd => by simp [Ctx.bump] at hd) (fun _ _ => ?_)
              refine ⟨_, nc, (os' ++ us' ++ rest).size, rfl, Nat.le_refl _, k1, .inr (by simp [Ctx.bump]), ?_, ?_⟩
              · exact bsize_of (by simp only [Ctx.bump, if_true]; exact heap_alloc_new _ _)
              · simp only [Array.size_append]
                rw [p4, r4, k2, q2, ← hlen, ← Nat.add_mul, ← Nat.add_mul]
                have : len + srcLen x + (nc - (len + srcLen x)) = nc := by omega
                rw [this]
                omega
          · rw [if_neg hll] at hs ⊢
            obtain ⟨hok, hni, rfl, rfl, hlc, hle, hsrc, hone⟩ := hs
            have hver := hst.ver_eq hh
            obtain ⟨q1, q2, us, q3, q4, q5⟩ := srcCells_sound (P := P) hst hx hsrc
            obtain ⟨base, cap, rfl, g2, g2', g3, g4⟩ := hsr.osl_inv hver
            have hi : i < c.n := by rw [hst.n]; exact hget_lt hh trivial
            cases hd : c.vd i with
            | true => have := g3 hd; omega
            | false =>
              obtain ⟨p1, m, p2, p3⟩ := g4 hd
              have hbase : base = some ⟨c.blk i, off, none⟩ := p1.resolve_left (by omega)
              subst hbase
              have honeu : ∀ u ∈ us.toList, u.oneCell' = true := by
                intro u hu'
                obtain ⟨k, hk1, hk2⟩ := List.getElem_of_mem hu'
                simp only [Array.length_toList] at hk1
                have hy : (srcCells x H)[k]? = some ((srcCells x H)[k]'(by omega)) := List.getElem?_eq_getElem (by omega)
                exact (q5 k _ u hy (by rw [← hk2]; simp)).one (List.all_eq_true.1 hone _ (List.getElem_mem _))
              have hmul : (len + srcLen x) * P.cellsOf e ≤ lc * P.cellsOf e := Nat.mul_le_mul_right _ hle
              have hmul' : (len + srcLen x) * P.cellsOf e = len * P.cellsOf e + srcLen x * P.cellsOf e := Nat.add_mul _ _ _
              obtain ⟨w', hw', hx', hs'⟩ := hst.putCells (P := P) hh hd (off := off + len * P.cellsOf e) (ys := srcCells x H) (us := us.toList) (by rw [q2]; omega) (by simpa using q4) (fun k y u h1 h2 => q5 k y u h1 (by simpa using h2)) honeu
              have hrun := run_append_room' (P := P) (ty := ty) (base := some ⟨c.blk i, off, none⟩) (len := len) (cap := cap) hu hok hni q1 (by omega) q3 (fun a ha => by cases ha; rw [add_mk]; exact hw') (fun h => by cases h)
              refine ⟨{ c with w := w' }, _, hrun, hs', hx', ?_⟩
              refine Rep.mono hx' (.osl _ _ _ _ _ _ _ hi (by rw [hver]; exact Nat.le_refl _) rfl hsr.osl_R (fun _ hd' => by rw [hd] at hd'; cases hd') (fun _ _ => ⟨_, cap, m, rfl, hle, g2', .inr rfl, p2, p3⟩))
        | _ => simp [hh] at hs

end Go.Aw
