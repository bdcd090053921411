/- The operations of the abstract machine that read, write, or lay memory. No condition. -/
import Derived.Test.YtoffonjlfomnbaaAvOpsA
namespace Go.Aw
open Go
set_option linter.unusedSimpArgs false

variable {P : Program}

/-- A value, the heap behind it, and what must hold for it to be told. -/
structure Res where
  v : AV
  H : AHeap
  s : Prop

def hget (H : AHeap) (i : Nat) : ABlk := H.getD i .gone
def hset (H : AHeap) (i : Nat) (b : ABlk) : AHeap := H.set i b

theorem hget_some {H : AHeap} {i : Nat} {b : ABlk} (h : hget H i = b) (hb : b.live) : H[i]? = some b := by
  unfold hget at h
  rw [List.getD_eq_getElem?_getD] at h
  cases hi : H[i]? with
  | none => rw [hi] at h; subst h; exact hb.elim
  | some x => rw [hi] at h; simp at h; rw [h]

/-! ### Reading: a load -/

/-- What is read at a place of cells. -/
def aread (P : Program) (t : TypeId) (cs : List AV) (off : Nat) : BR :=
  match P.underlying t with
  | some (.struct _) | some (.array _ _) => ⟨.agg ((cs.drop off).take (P.cellsOf t)), off + P.cellsOf t ≤ cs.length⟩
  | some _ => ⟨cs.getD off .top, off < cs.length⟩
  | none => bad

theorem run_loadVar_agg {t : TypeId} {d : TypeDesc} (hu : P.underlying t = some d) (ha : TypeDesc.isAgg d = true) (w : World) (a : Addr) (f : Nat → Value) (h : ∀ j, j < P.cellsOf t → w.cell? (a.add j) = some (f j)) :
    (loadVar t a).run P w = .ok (.agg ((List.range (P.cellsOf t)).map f).toArray) w := by
  simp [loadVar, run_isAgg hu, ha, run_sizeOf' hu, run_loadCells (P := P) w a _ f h]

theorem run_loadVar_one {t : TypeId} {d : TypeDesc} (hu : P.underlying t = some d) (ha : TypeDesc.isAgg d = false) (w : World) (a : Addr) (v : Value) (h : w.cell? a = some v) :
    (loadVar t a).run P w = .ok v w := by
  simp [loadVar, run_isAgg hu, ha, h]

/-- Reading cells that lie from an address on. -/
theorem aread_sound {c : Ctx} {t : TypeId} {cs : List AV} {off : Nat} {a : Addr} {vs : Nat → Value} (hs : (aread P t cs off).s)
    (hc : ∀ j, j < cs.length → c.w.cell? (a.add j) = some (vs j)) (hr : ∀ (j : Nat) (x : AV), cs[j]? = some x → Rep c x (vs j)) (ha0 : a.spot = none) :
    ∃ v, (loadVar t (a.add off)).run P c.w = .ok v c.w ∧ Rep c (aread P t cs off).v v := by
  have hadd : ∀ m n, (a.add m).add n = a.add (m + n) := by
    intro m n
    obtain ⟨b, o, s⟩ := a
    simp only at ha0
    subst ha0
    unfold Addr.add
    by_cases hm : m = 0 <;> by_cases hn : n = 0 <;> simp [hm, hn, Nat.add_assoc]
  unfold aread at *
  cases hu : P.underlying t with
  | none => simp [hu, bad] at hs
  | some d =>
    simp only [hu] at hs ⊢
    by_cases hag : TypeDesc.isAgg d = true
    · have hle : off + P.cellsOf t ≤ cs.length := by cases d <;> first | exact hs | (simp [TypeDesc.isAgg] at hag)
      refine ⟨_, run_loadVar_agg hu hag c.w _ (fun j => vs (off + j)) (fun j hj => by rw [hadd]; exact hc _ (by omega)), ?_⟩
      have : Rep c (.agg ((cs.drop off).take (P.cellsOf t))) (.agg ((List.range (P.cellsOf t)).map fun j => vs (off + j)).toArray) := by
        refine .agg _ _ (by simp; omega) fun i x v h1 h2 => ?_
        rw [List.getElem?_take, List.getElem?_drop] at h1
        split at h1
        · rename_i hlt
          simp [hlt] at h2
          subst h2
          exact hr _ _ h1
        · cases h1
      cases d <;> first | exact this | (simp [TypeDesc.isAgg] at hag)
    · have hag : TypeDesc.isAgg d = false := by simpa using hag
      have hlt : off < cs.length := by cases d <;> first | exact hs | (simp [TypeDesc.isAgg] at hag)
      have hx : cs[off]? = some cs[off] := List.getElem?_eq_getElem hlt
      refine ⟨_, run_loadVar_one hu hag c.w _ _ (hc _ hlt), ?_⟩
      have : Rep c (cs.getD off .top) (vs off) := by rw [List.getD_eq_getElem?_getD, hx]; exact hr _ _ hx
      cases d <;> first | exact this | (simp [TypeDesc.isAgg] at hag)

theorem cell_cells {w : World} {b : Nat} {vs : Array Value} {e : TypeId} {fr : Nat × Nat} (h : w.heap[b]? = some (.cells vs e fr)) (off : Nat) : w.cell? ⟨b, off, none⟩ = vs[off]? := by
  simp [World.cell?, h]

theorem add_mk (b off n : Nat) : (Addr.mk b off none).add n = ⟨b, off + n, none⟩ := by
  unfold Addr.add
  split
  · rename_i h; simp [h]
  · rfl

def aload (P : Program) (t : TypeId) (x : AV) (H : AHeap) : BR :=
  match x with
  | .cptr cs => aread P t cs 0
  | .ref i v off =>
    match hget H i with
    | .cells ver cs => ⟨(aread P t cs off).v, v = ver ∧ (aread P t cs off).s⟩
    | _ => bad
  | _ => bad

theorem hget_lt {H : AHeap} {i : Nat} {b : ABlk} (h : hget H i = b) (hb : b.live) : i < H.length := (List.getElem?_eq_some_iff.1 (hget_some h hb)).1

/-- A block of cells, as the world holds it. -/
theorem St.cells {c : Ctx} {H : AHeap} (h : St c H) {i ver : Nat} {cs : List AV} (hi : hget H i = .cells ver cs) (hd : c.vd i = false) :
    i < c.n ∧ c.ver i = ver ∧ ∃ vs e fr, c.w.heap[c.blk i]? = some (.cells vs e fr) ∧ cs.length ≤ vs.size ∧ (vs.size ≤ fr.1 ∨ fr.2 ≤ fr.1) ∧ ∀ (j : Nat) (x : AV) (v : Value), cs[j]? = some x → vs[j]? = some v → Rep c x v := by
  have h1 := hget_some hi trivial
  have h2 := h.rep i _ h1
  refine ⟨by rw [h.n]; exact hget_lt hi trivial, ?_⟩
  cases h2 with
  | cells _ _ vs e fr hv hd hh hl hf hr => exact ⟨hv, vs, e, fr, hh, hl, hf, hr⟩
  | void _ hv hd' => rw [hd] at hd'; cases hd'

theorem St.ver_eq {c : Ctx} {H : AHeap} (h : St c H) {i ver : Nat} {cs : List AV} (hi : hget H i = .cells ver cs) : c.ver i = ver := by
  have h2 := h.rep i _ (hget_some hi trivial)
  cases h2 with
  | cells _ _ _ _ _ hv => exact hv
  | void _ hv => exact hv

theorem aload_sound {c : Ctx} {H : AHeap} {t : TypeId} {x : AV} {vx : Value} (hst : St c H) (hx : Rep c x vx) (hs : (aload P t x H).s) :
    ∃ v, (Instr.loadAt t vx).run P c.w = .ok v c.w ∧ Rep c (aload P t x H).v v := by
  unfold aload at *
  split at hs
  · rename_i cs
    cases hx with
    | cptr _ a vs hspot hst' hc hr =>
      obtain ⟨v, h1, h2⟩ := aread_sound (P := P) (c := c) (a := a) hs hc hr hspot
      refine ⟨v, ?_, h2⟩
      have : a.add 0 = a := by simp [Addr.add]
      rw [this] at h1
      simp [Instr.loadAt, Instr.sureAddr, h1]
  · rename_i i v off
    split at hs
    · rename_i ver cs hh
      obtain ⟨hv, hs⟩ := hs
      have hver := hst.ver_eq hh
      simp only [hh]
      cases hx with
      | ref _ _ _ _ _ _ _ hval =>
        obtain ⟨hd, hval⟩ := hval (by omega)
        obtain ⟨hi, _, vs, e, fr, hb, hl, hf, hr⟩ := hst.cells hh hd
        rw [hval]
        obtain ⟨u, h1, h2⟩ := aread_sound (P := P) (c := c) (t := t) (cs := cs) (off := off) (a := ⟨c.blk i, 0, none⟩) (vs := fun j => vs.getD j undef) hs
          (fun j hj => by rw [add_mk, cell_cells hb]; simp [Array.getElem?_eq_getElem (show 0 + j < vs.size by omega), show j < vs.size by omega])
          (fun j y hj => by
            have hlt : j < cs.length := (List.getElem?_eq_some_iff.1 hj).1
            refine hr j y _ hj ?_
            simp [Array.getElem?_eq_getElem (show j < vs.size by omega), show j < vs.size by omega]) rfl
        refine ⟨u, ?_, h2⟩
        rw [add_mk, Nat.zero_add] at h1
        simp [Instr.loadAt, Instr.sureAddr, h1]
    · exact hs.elim
  · exact hs.elim

/-! ### A new block of cells -/

/-- The context with one block more. -/
def Ctx.push (c : Ctx) (o : Obj) (v0 : Nat := 0) : Ctx :=
  { w := c.w.alloc o, n := c.n + 1, blk := fun i => if i = c.n then c.w.heap.size else c.blk i, ver := fun i => if i = c.n then v0 else c.ver i, vd := fun i => if i = c.n then false else c.vd i, stable := c.stable }

theorem heap_alloc_lt {w : World} {o : Obj} {b : Nat} (h : b < w.heap.size) : (w.alloc o).heap[b]? = w.heap[b]? := by
  show (w.heap.push o)[b]? = _
  rw [Array.getElem?_push, if_neg (by omega)]

theorem heap_alloc_new (w : World) (o : Obj) : (w.alloc o).heap[w.heap.size]? = some o := by
  show (w.heap.push o)[w.heap.size]? = _
  simp

theorem Ext.push {c : Ctx} {H : AHeap} (hst : St c H) (o : Obj) (v0 : Nat := 0) : Ext c (c.push o v0) where
  n := Nat.le_succ _
  size := by simp [Ctx.push]
  st := fun b hb => ⟨hb, heap_alloc_lt (hst.st b hb).1⟩
  ver := fun i hi => by simp [Ctx.push, show ¬ i = c.n by omega]
  blk := fun i hi _ => by
    refine ⟨by simp [Ctx.push, show ¬ i = c.n by omega], by simp [Ctx.push, show ¬ i = c.n by omega], fun hd => ?_⟩
    unfold bsize Ctx.push
    simp only
    rw [heap_alloc_lt (hst.lt i hi hd)]
  os := rfl
  tape := rfl
  output := rfl

/-- What a block holds it goes on holding, where the world has not changed it. -/
theorem BRep.mono {c c' : Ctx} {i : Nat} {B : ABlk} (hx : Ext c c') (hi : i < c.n) (hv : ∀ i, i < c.n → c.ver i = 0 → c'.ver i = 0) (hvi : c'.ver i = c.ver i) (hh : c.vd i = false → c'.w.heap[c.blk i]? = c.w.heap[c.blk i]?) (h : BRep c i B) : BRep c' i B := by
  obtain ⟨e1, e2, -⟩ := hx.blk i hi hvi
  cases h with
  | cells ver cs vs e fr h0 hd h1 h2 h3 h4 => exact .cells ver cs vs e fr (hvi.trans h0) (e2.trans hd) (by rw [e1]; exact (hh hd).trans h1) h2 h3 fun j x v p q => (h4 j x v p q).mono hx
  | void ver h0 hd => exact .void ver (hvi.trans h0) (e2.trans hd)
  | map es clock ents h0 hd h1 h2 h3 => exact .map es clock ents (hvi.trans h0) (e2.trans hd) (by rw [e1]; exact (hh hd).trans h1) h2 fun j p e q r => ⟨(h3 j p e q r).1.mono hx, (h3 j p e q r).2.1.mono hx, (h3 j p e q r).2.2⟩
  | miter m since seen stepped h0 hd h1 h2 h3 h4 =>
    obtain ⟨m1, m2, -⟩ := hx.blk m h1 (by rw [hv m h1 h2, h2])
    exact .miter m since seen stepped (hvi.trans h0) (e2.trans hd) (Nat.lt_of_lt_of_le h1 hx.n) (hv m h1 h2) (m2.trans h3) (by rw [e1, m1]; exact (hh hd).trans h4)
  | siter s pos h0 hd h1 hsl => exact .siter s pos (hvi.trans h0) (e2.trans hd) (by rw [e1]; exact (hh hd).trans h1) hsl
  | gone hd => exact .gone (e2.trans hd)

theorem St.push {c : Ctx} {H : AHeap} (hst : St c H) (o : Obj) {B : ABlk} (v0 : Nat := 0) (hB : BRep (c.push o v0) c.n B) : St (c.push o v0) (H ++ [B]) where
  n := by simp [Ctx.push, hst.n]
  lt := fun i hi hd => by
    simp only [Ctx.push] at hi hd ⊢
    by_cases h : i = c.n
    · simp [h]
    · simp only [h, if_false, World.size_alloc] at hd ⊢
      have := hst.lt i (by omega) hd
      omega
  inj := fun i j b b' hi hj hb hb' di dj he => by
    have hli : i < H.length + 1 := by simpa using (List.getElem?_eq_some_iff.1 hi).1
    have hlj : j < H.length + 1 := by simpa using (List.getElem?_eq_some_iff.1 hj).1
    have hn := hst.n
    simp only [Ctx.push] at he di dj
    by_cases h1 : i = c.n <;> by_cases h2 : j = c.n
    · omega
    · simp only [h1, h2, if_true, if_false] at he dj
      have := hst.lt j (by omega) dj
      omega
    · simp only [h1, h2, if_true, if_false] at he di
      have := hst.lt i (by omega) di
      omega
    · simp only [h1, h2, if_false] at he di dj
      rw [List.getElem?_append_left (by omega)] at hi hj
      exact hst.inj i j b b' hi hj hb hb' di dj he
  st := fun k hk => by
    obtain ⟨h1, h2⟩ := hst.st k hk
    refine ⟨by simp [Ctx.push]; omega, fun i b hi hb hd => ?_⟩
    have hli : i < H.length + 1 := by simpa using (List.getElem?_eq_some_iff.1 hi).1
    have hn := hst.n
    simp only [Ctx.push] at hd ⊢
    by_cases h : i = c.n
    · simp only [h, if_true]; omega
    · simp only [h, if_false] at hd ⊢
      rw [List.getElem?_append_left (by omega)] at hi
      exact h2 i b hi hb hd
  rep := fun i b hi => by
    have hli : i < H.length + 1 := by simpa using (List.getElem?_eq_some_iff.1 hi).1
    have hn := hst.n
    by_cases h : i = c.n
    · subst h
      rw [hn] at hi
      simp at hi
      subst hi
      exact hB
    · rw [List.getElem?_append_left (by omega)] at hi
      exact (hst.rep i b hi).mono (Ext.push hst o v0) (by omega) (fun j hj hv => by simp [Ctx.push, show ¬ j = c.n by omega, hv]) (by simp [Ctx.push, h]) (fun hd => heap_alloc_lt (hst.lt i (by omega) hd))

/-- One block of the heap is laid elsewhere, or written with a greater version. -/
def Ctx.bump (c : Ctx) (i : Nat) (w' : World) (b' : Nat) : Ctx :=
  { w := w', n := c.n, blk := fun j => if j = i then b' else c.blk j, ver := fun j => if j = i then c.ver i + 1 else c.ver j, vd := fun j => if j = i then false else c.vd j, stable := c.stable }

theorem St.bump_ext {c : Ctx} {H : AHeap} (hst : St c H) {i : Nat} {B : ABlk} (hi : H[i]? = some B) (hl : B.live) (hv : c.ver i ≠ 0) (w' : World) (b' : Nat) (hsz : c.w.heap.size ≤ w'.heap.size)
    (hnew : b' ≥ c.w.heap.size ∨ (b' = c.blk i ∧ c.vd i = false)) (hoth : ∀ b, b < c.w.heap.size → b ≠ b' → w'.heap[b]? = c.w.heap[b]?) (hos : w'.os = c.w.os) (htape : w'.tape = c.w.tape) (hout : w'.output = c.w.output) : Ext c (c.bump i w' b') := by
  have hn := hst.n
  have hne : ∀ k, c.stable k → k ≠ b' := by
    intro k hk e
    rcases hnew with h | ⟨h, hd⟩
    · have := (hst.st k hk).1; omega
    · exact (hst.st k hk).2 i B hi hl hd (by rw [← h, ← e])
  refine ⟨Nat.le_refl _, hsz, fun b hb => ⟨hb, hoth b (hst.st b hb).1 (hne b hb)⟩, fun j hj => ?_, fun j hj he => ?_, hos, htape, hout⟩
  · simp only [Ctx.bump]
    split
    · rename_i h; subst h; omega
    · omega
  · simp only [Ctx.bump] at he
    by_cases h : j = i
    · subst h
      simp at he
    · refine ⟨by simp [Ctx.bump, h], by simp [Ctx.bump, h], fun hd => ?_⟩
      have hjb := hst.lt j hj hd
      by_cases hjl : c.blk j = b'
      · rcases hnew with h1 | ⟨h1, h2⟩
        · omega
        · -- another block at the same place: then it is not live, or it is i
          cases hHj : H[j]? with
          | none => rw [List.getElem?_eq_none_iff] at hHj; omega
          | some Bj =>
            by_cases hbl : Bj.live
            · exact absurd (hst.inj j i Bj B hHj hi hbl hl hd h2 (by rw [hjl, h1])) h
            · have := hst.rep j Bj hHj
              cases this with
              | gone hd' => rw [hd] at hd'; cases hd'
              | _ => exact absurd trivial hbl
      · simp only [bsize, Ctx.bump]
        rw [hoth _ hjb hjl]

theorem St.bump {c : Ctx} {H : AHeap} (hst : St c H) {i : Nat} {B B' : ABlk} (hi : H[i]? = some B) (hl : B.live) (hv : c.ver i ≠ 0) (w' : World) (b' : Nat) (hsz : c.w.heap.size ≤ w'.heap.size) (hb' : b' < w'.heap.size)
    (hnew : b' ≥ c.w.heap.size ∨ (b' = c.blk i ∧ c.vd i = false)) (hoth : ∀ b, b < c.w.heap.size → b ≠ b' → w'.heap[b]? = c.w.heap[b]?) (hos : w'.os = c.w.os) (htape : w'.tape = c.w.tape) (hout : w'.output = c.w.output)
    (hB : BRep (c.bump i w' b') i B') : Ext c (c.bump i w' b') ∧ St (c.bump i w' b') (hset H i B') := by
  have hlt : i < H.length := (List.getElem?_eq_some_iff.1 hi).1
  have hn := hst.n
  have hne : ∀ k, c.stable k → k ≠ b' := by
    intro k hk e
    rcases hnew with h | ⟨h, hd⟩
    · have := (hst.st k hk).1; omega
    · exact (hst.st k hk).2 i B hi hl hd (by rw [← h, ← e])
  have hx := hst.bump_ext hi hl hv w' b' hsz hnew hoth hos htape hout
  refine ⟨hx, ?_⟩
  have hfar : ∀ j Bj, j ≠ i → H[j]? = some Bj → Bj.live → c.vd j = false → c.blk j ≠ b' := by
    intro j Bj hji hj hbl hd e
    have hjn : j < c.n := by rw [hn]; exact (List.getElem?_eq_some_iff.1 hj).1
    rcases hnew with h1 | ⟨h1, h2⟩
    · have := hst.lt j hjn hd; omega
    · exact hji (hst.inj j i Bj B hj hi hbl hl hd h2 (by rw [e, h1]))
  refine ⟨by simp [hset, Ctx.bump, hn], fun j hj hdj => ?_, fun j k b b'' hj hk hb hb'' dj dk he => ?_, fun k hk => ?_, fun j b hj => ?_⟩
  · simp only [Ctx.bump] at hj hdj ⊢
    by_cases h : j = i
    · simp only [h, if_true]; exact hb'
    · simp only [h, if_false] at hdj ⊢
      have := hst.lt j hj hdj
      omega
  · simp only [Ctx.bump, hset] at *
    by_cases h1 : j = i <;> by_cases h2 : k = i
    · omega
    · simp only [h1, h2, if_true, if_false] at he dk
      rw [List.getElem?_set_ne (by omega)] at hk
      exact absurd he.symm (hfar k b'' h2 hk hb'' dk)
    · simp only [h1, h2, if_true, if_false] at he dj
      rw [List.getElem?_set_ne (by omega)] at hj
      exact absurd he (hfar j b h1 hj hb dj)
    · simp only [h1, h2, if_false] at he dj dk
      rw [List.getElem?_set_ne (by omega)] at hj hk
      exact hst.inj j k b b'' hj hk hb hb'' dj dk he
  · obtain ⟨h1, h2⟩ := hst.st k hk
    refine ⟨by simp only [Ctx.bump]; omega, fun j b hj hb hdj => ?_⟩
    simp only [Ctx.bump, hset] at *
    by_cases h : j = i
    · simp only [h, if_true]; exact fun e => hne k hk e.symm
    · simp only [h, if_false] at hdj ⊢
      rw [List.getElem?_set_ne (by omega)] at hj
      exact h2 j b hj hb hdj
  · by_cases h : j = i
    · subst h
      simp [hset, hlt] at hj
      subst hj
      exact hB
    · simp only [hset] at hj
      rw [List.getElem?_set_ne (by omega)] at hj
      have h1 := hst.rep j b hj
      have hjn : j < c.n := by rw [hn]; exact (List.getElem?_eq_some_iff.1 hj).1
      refine h1.mono hx hjn (fun k _ hk0 => ?_) (by simp [Ctx.bump, h]) (fun hdj => ?_)
      · simp only [Ctx.bump]
        have : k ≠ i := fun e => hv (e ▸ hk0)
        simp [this, hk0]
      · by_cases hbl : b.live
        · exact hoth _ (hst.lt j hjn hdj) (hfar j b h hj hbl hdj)
        · cases h1 with
          | gone hd' => rw [hdj] at hd'; cases hd'
          | _ => exact absurd trivial hbl

/-- One block of the heap is written, in place. -/
theorem St.update {c : Ctx} {H : AHeap} (hst : St c H) {i : Nat} {B B' : ABlk} (hi : H[i]? = some B) (hl : B.live) (hd : c.vd i = false) (w' : World) (hsz : w'.heap.size = c.w.heap.size)
    (hoth : ∀ b, b ≠ c.blk i → w'.heap[b]? = c.w.heap[b]?) (hbs : bsize w' (c.blk i) = bsize c.w (c.blk i)) (hos : w'.os = c.w.os) (htape : w'.tape = c.w.tape) (hout : w'.output = c.w.output)
    (hB : BRep { c with w := w' } i B') : Ext c { c with w := w' } ∧ St { c with w := w' } (hset H i B') := by
  have hlt : i < H.length := (List.getElem?_eq_some_iff.1 hi).1
  have hx : Ext c { c with w := w' } := by
    refine ⟨Nat.le_refl _, by simp [hsz], fun b hb => ⟨hb, hoth b fun e => (hst.st b hb).2 i B hi hl hd e.symm⟩, fun _ _ => Nat.le_refl _, fun j hj _ => ⟨rfl, rfl, fun _ => ?_⟩, hos, htape, hout⟩
    by_cases h : c.blk j = c.blk i
    · simp only [h]; exact hbs
    · simp only [bsize]; rw [hoth _ h]
  refine ⟨hx, ?_⟩
  refine ⟨by simp [hset, hst.n], fun j hj hdj => by simpa [hsz] using hst.lt j hj hdj, fun j k b b' hj hk hb hb' dj dk he => ?_, fun k hk => ?_, fun j b hj => ?_⟩
  · by_cases h1 : j = i
    · by_cases h2 : k = i
      · omega
      · subst h1
        simp only [hset] at hk
        rw [List.getElem?_set_ne (by omega)] at hk
        exact hst.inj j k B b' hi hk hl hb' dj dk he
    · simp only [hset] at hj hk
      rw [List.getElem?_set_ne (by omega)] at hj
      by_cases h2 : k = i
      · subst h2
        exact hst.inj j k b B hj hi hb hl dj dk he
      · rw [List.getElem?_set_ne (by omega)] at hk
        exact hst.inj j k b b' hj hk hb hb' dj dk he
  · obtain ⟨h1, h2⟩ := hst.st k hk
    refine ⟨by simpa [hsz] using h1, fun j b hj hb hdj => ?_⟩
    by_cases h : j = i
    · subst h; exact h2 j B hi hl hdj
    · simp only [hset] at hj
      rw [List.getElem?_set_ne (by omega)] at hj
      exact h2 j b hj hb hdj
  · by_cases h : j = i
    · subst h
      simp [hset, hlt] at hj
      subst hj
      exact hB
    · simp only [hset] at hj
      rw [List.getElem?_set_ne (by omega)] at hj
      have h1 := hst.rep j b hj
      have hjn : j < c.n := by rw [hst.n]; exact (List.getElem?_eq_some_iff.1 hj).1
      by_cases hbl : b.live
      · exact h1.mono hx hjn (fun _ _ hv => hv) rfl (fun hdj => hoth _ fun e => h (hst.inj j i b B hj hi hbl hl hdj hd e))
      · cases h1 with
        | gone hd => exact .gone hd
        | _ => exact absurd trivial hbl

/-! ### Cells of a value -/

def AV.one : AV → Bool
  | .agg _ | .tup _ | .opt _ _ | .top => false
  | _ => true

theorem Rep.one {c : Ctx} {x : AV} {v : Value} (h : Rep c x v) (ho : x.one = true) : v.oneCell' = true := by
  cases h <;> first | rfl | assumption | (simp [AV.one] at ho)

theorem cells_one {v : Value} (h : v.oneCell' = true) : v.cells = #[v] := by
  cases v <;> first | rfl | (simp [Value.oneCell'] at h)

def AV.known : AV → Bool
  | .agg _ => true
  | x => x.one

theorem Rep.cells {c : Ctx} {x : AV} {v : Value} (h : Rep c x v) (hk : x.known = true) :
    v.cells.size = x.cells.length ∧ ∀ (i : Nat) (y : AV) (u : Value), x.cells[i]? = some y → v.cells[i]? = some u → Rep c y u := by
  cases x with
  | agg cs =>
    obtain ⟨vs, rfl, h1, h2⟩ := h.agg_inv
    exact ⟨h1, h2⟩
  | tup _ => simp [AV.known, AV.one] at hk
  | opt _ _ => simp [AV.known, AV.one] at hk
  | top => simp [AV.known, AV.one] at hk
  | _ =>
    have ho := h.one rfl
    rw [cells_one ho]
    refine ⟨rfl, fun i y u h1 h2 => ?_⟩
    cases i with
    | zero => simp [AV.cells] at h1 h2; subst h1; subst h2; exact h
    | succ i => simp [AV.cells] at h1

/-- Cells, with others in place of those from a place on. -/
def splice (cs : List AV) (off : Nat) (xs : List AV) : List AV := cs.take off ++ xs ++ cs.drop (off + xs.length)

def spliceV (vs : Array Value) (off : Nat) : List Value → Array Value
  | [] => vs
  | x :: xs => spliceV (vs.setIfInBounds off x) (off + 1) xs

theorem size_spliceV (vs : Array Value) (off : Nat) (xs : List Value) : (spliceV vs off xs).size = vs.size := by
  induction xs generalizing vs off with
  | nil => rfl
  | cons x xs ih => simp [spliceV, ih]

theorem get_spliceV (vs : Array Value) (off : Nat) (xs : List Value) (h : off + xs.length ≤ vs.size) (j : Nat) :
    (spliceV vs off xs)[j]? = if off ≤ j ∧ j < off + xs.length then xs[j - off]? else vs[j]? := by
  induction xs generalizing vs off with
  | nil => simp [spliceV]; omega
  | cons x xs ih =>
    simp only [List.length_cons] at h
    rw [spliceV, ih _ _ (by simp; omega), Array.getElem?_setIfInBounds]
    by_cases h1 : j = off
    · subst h1
      have h5 : j < vs.size := by omega
      have h6 : ¬ (j + 1 ≤ j) := by omega
      simp [h5, h6]
    · by_cases h2 : off + 1 ≤ j ∧ j < off + 1 + xs.length
      · have e : j - off = (j - (off + 1)) + 1 := by omega
        have h3 : off ≤ j ∧ j < off + (xs.length + 1) := by omega
        simp [h2, h3, e]
      · have h3 : ¬ (off ≤ j ∧ j < off + (xs.length + 1)) := by omega
        have h4 : ¬ off = j := by omega
        simp [h2, h3, h4]

theorem get_spliceV' (vs : Array Value) (off : Nat) (xs : List Value) (n : Nat) (hn : xs.length = n) (h : off + n ≤ vs.size) (j : Nat) :
    (spliceV vs off xs)[j]? = if off ≤ j ∧ j < off + n then xs[j - off]? else vs[j]? := by
  subst hn
  exact get_spliceV vs off xs h j

/-- The world, with other cells in a block. -/
def World.putCells (w : World) (b : Nat) (vs : Array Value) (e : TypeId) (fr : Nat × Nat) : World := { w with heap := w.heap.setIfInBounds b (.cells vs e fr) }

theorem heap_putCells_same {w : World} {b : Nat} {vs : Array Value} {e : TypeId} {fr : Nat × Nat} (h : b < w.heap.size) : (World.putCells w b vs e fr).heap[b]? = some (.cells vs e fr) := by
  simp [World.putCells, h]

theorem heap_putCells_other {w : World} {b k : Nat} {vs : Array Value} {e : TypeId} {fr : Nat × Nat} (h : k ≠ b) : (World.putCells w b vs e fr).heap[k]? = w.heap[k]? := by
  simp [World.putCells, Array.getElem?_setIfInBounds_ne (Ne.symm h)]

theorem setCell_cells {w : World} {b off : Nat} {vs : Array Value} {e : TypeId} {fr : Nat × Nat} (h : w.heap[b]? = some (.cells vs e fr)) (v : Value) :
    w.setCell ⟨b, off, none⟩ v = World.putCells w b (vs.setIfInBounds off v) e fr := by
  obtain ⟨hlt, he⟩ := Array.getElem?_eq_some_iff.1 h
  unfold World.setCell World.putCells
  congr 1
  apply Array.ext_getElem?
  intro i
  rw [Array.getElem?_modify, Array.getElem?_setIfInBounds]
  by_cases hi : b = i
  · subst hi
    simp [hlt, he]
  · simp [hi]

theorem putCells_self {w : World} {b : Nat} {vs : Array Value} {e : TypeId} {fr : Nat × Nat} (h : w.heap[b]? = some (.cells vs e fr)) : World.putCells w b vs e fr = w := by
  obtain ⟨hlt, he⟩ := Array.getElem?_eq_some_iff.1 h
  have : w.heap.setIfInBounds b (.cells vs e fr) = w.heap := by
    apply Array.ext_getElem?
    intro i
    rw [Array.getElem?_setIfInBounds]
    by_cases hi : b = i
    · subst hi
      simp [hlt, he]
    · simp [hi]
  unfold World.putCells
  rw [this]

theorem putCells_putCells {w : World} {b : Nat} {vs us : Array Value} {e : TypeId} {fr : Nat × Nat} : World.putCells (World.putCells w b vs e fr) b us e fr = World.putCells w b us e fr := by
  unfold World.putCells
  simp

theorem run_storeCells {w : World} {b off : Nat} {vs : Array Value} {e : TypeId} {fr : Nat × Nat} (xs : List Value) (hb : w.heap[b]? = some (.cells vs e fr)) (hle : off + xs.length ≤ vs.size) (hf : vs.size ≤ fr.1 ∨ fr.2 ≤ fr.1)
    (ho : ∀ x ∈ xs, x.oneCell' = true) : (storeCells ⟨b, off, none⟩ xs).run P w = .ok () (World.putCells w b (spliceV vs off xs) e fr) := by
  have key : ∀ (xs : List Value) (i : Nat) (w : World) (vs : Array Value), w.heap[b]? = some (.cells vs e fr) → off + i + xs.length ≤ vs.size → (vs.size ≤ fr.1 ∨ fr.2 ≤ fr.1) → (∀ x ∈ xs, x.oneCell' = true) →
      (storeCells ⟨b, off, none⟩ xs i).run P w = .ok () (World.putCells w b (spliceV vs (off + i) xs) e fr) := by
    intro xs
    induction xs with
    | nil =>
      intro i w vs hb _ _ _
      simp only [storeCells, Sem.run_pure, spliceV]
      rw [putCells_self hb]
    | cons x xs ih =>
      intro i w vs hb hle hf ho
      simp only [List.length_cons] at hle
      obtain ⟨hlt, he⟩ := Array.getElem?_eq_some_iff.1 hb
      have hcell : w.cell? ⟨b, off + i, none⟩ = some (vs[off + i]'(by omega)) := by rw [cell_cells hb]; exact Array.getElem?_eq_getElem (by omega)
      have hfr : w.frozen? ⟨b, off + i, none⟩ = false := by
        simp only [World.frozen?, hb]
        by_cases h1 : fr.1 ≤ off + i <;> by_cases h2 : off + i < fr.2 <;> simp [h1, h2]
        omega
      have h1 : (store (Addr.mk b off none |>.add i) x).run P w = .ok () (World.putCells w b (vs.setIfInBounds (off + i) x) e fr) := by
        rw [run_store P w _ x .plain (ho x (by simp)), add_mk, hcell]
        simp only [hfr, Bool.false_eq_true, if_false]
        rw [setCell_cells hb]
      simp only [storeCells, Sem.run_bind, h1, Result.andThen_ok]
      rw [ih (i + 1) _ (vs.setIfInBounds (off + i) x) (heap_putCells_same hlt) (by simp; omega) (by simpa using hf) (fun y hy => ho y (by simp [hy])), putCells_putCells]
      rfl
  exact key xs 0 w vs hb (by simpa using hle) hf ho

/-! ### A store -/

def astore (P : Program) (t : TypeId) (x y : AV) (H : AHeap) : Res :=
  match x with
  | .ref i v off =>
    match hget H i with
    | .cells ver cs => ⟨.top, hset H i (.cells ver (splice cs off y.cells)), v = ver ∧ off + y.cells.length ≤ cs.length ∧ (P.underlying t).isSome = true ∧ P.cellsOf t = y.cells.length ∧ y.known = true ∧ y.cells.all AV.one = true⟩
    | _ => ⟨.top, H, False⟩
  | _ => ⟨.top, H, False⟩

theorem length_splice {cs : List AV} {off : Nat} {xs : List AV} (h : off + xs.length ≤ cs.length) : (splice cs off xs).length = cs.length := by
  simp [splice]; omega

theorem get_splice {cs : List AV} {off : Nat} {xs : List AV} (h : off + xs.length ≤ cs.length) (j : Nat) :
    (splice cs off xs)[j]? = if off ≤ j ∧ j < off + xs.length then xs[j - off]? else cs[j]? := by
  unfold splice
  by_cases h1 : j < off
  · have h2 : ¬ (off ≤ j ∧ j < off + xs.length) := by omega
    simp only [h2, if_false]
    rw [List.append_assoc, List.getElem?_append_left (by simp; omega), List.getElem?_take_of_lt h1]
  · by_cases h2 : j < off + xs.length
    · have h3 : off ≤ j ∧ j < off + xs.length := by omega
      simp only [h3, and_self, if_true]
      rw [List.append_assoc, List.getElem?_append_right (by simp; omega), List.getElem?_append_left (by simp; omega)]
      congr 1
      simp; omega
    · have h3 : ¬ (off ≤ j ∧ j < off + xs.length) := by omega
      simp only [h3, if_false]
      rw [List.getElem?_append_right (by simp; omega), List.getElem?_drop]
      congr 1
      simp; omega

/-- New cells are laid into a block, in place. -/
theorem St.putCells {c : Ctx} {H : AHeap} (hst : St c H) {i ver off : Nat} {cs : List AV} (hi : hget H i = .cells ver cs) (hd : c.vd i = false) {ys : List AV} {us : List Value} (hle : off + ys.length ≤ cs.length) (hul : us.length = ys.length)
    (hr : ∀ (k : Nat) (y : AV) (u : Value), ys[k]? = some y → us[k]? = some u → Rep c y u) (ho : ∀ u ∈ us, u.oneCell' = true) :
    ∃ w', (storeCells ⟨c.blk i, off, none⟩ us).run P c.w = .ok () w' ∧ Ext c { c with w := w' } ∧ St { c with w := w' } (hset H i (.cells ver (splice cs off ys))) := by
  obtain ⟨hin, hver, vs, e, fr, hb, hl, hf, hrep⟩ := hst.cells hi hd
  obtain ⟨hlt, he⟩ := Array.getElem?_eq_some_iff.1 hb
  have hrun := run_storeCells (P := P) (off := off) us hb (by omega) hf ho
  refine ⟨_, hrun, ?_⟩
  have hbs : bsize (World.putCells c.w (c.blk i) (spliceV vs off us) e fr) (c.blk i) = bsize c.w (c.blk i) := by
    simp [bsize, heap_putCells_same hlt, hb, size_spliceV]
  have hx : Ext c { c with w := World.putCells c.w (c.blk i) (spliceV vs off us) e fr } := by
    refine ⟨Nat.le_refl _, by simp [World.putCells], fun b hb' => ⟨hb', heap_putCells_other fun e => (hst.st b hb').2 i _ (hget_some hi trivial) trivial hd e.symm⟩, fun _ _ => Nat.le_refl _, fun j hj _ => ⟨rfl, rfl, fun _ => ?_⟩, rfl, rfl, rfl⟩
    by_cases h : c.blk j = c.blk i
    · simp only [h]; exact hbs
    · simp only [bsize]; rw [heap_putCells_other h]
  refine hst.update (hget_some hi trivial) trivial hd _ (by simp [World.putCells]) (fun b hb' => heap_putCells_other hb') hbs rfl rfl rfl ?_
  refine .cells _ _ (spliceV vs off us) e fr hver hd (heap_putCells_same hlt) (by rw [length_splice hle, size_spliceV]; exact hl) (by rw [size_spliceV]; exact hf) fun j x v h1 h2 => ?_
  rw [get_splice hle] at h1
  rw [get_spliceV _ _ _ (by omega), hul] at h2
  refine Rep.mono hx ?_
  split at h1
  · rename_i hc
    simp only [hc, and_self, if_true] at h2
    exact hr _ _ _ h1 h2
  · rename_i hc
    simp only [hc, if_false] at h2
    exact hrep j x v h1 h2

theorem astore_sound {c : Ctx} {H : AHeap} {t : TypeId} {x y : AV} {vx vy : Value} (hst : St c H) (hx : Rep c x vx) (hy : Rep c y vy) (hs : (astore P t x y H).s) :
    ∃ w', (Instr.storeAt t vx vy).run P c.w = .ok () w' ∧ Ext c { c with w := w' } ∧ St { c with w := w' } (astore P t x y H).H := by
  unfold astore at *
  split at hs
  · rename_i i v off
    split at hs
    · rename_i ver cs hh
      obtain ⟨hv, hle, hu, hsz, hk, ho⟩ := hs
      obtain ⟨d, hu⟩ := Option.isSome_iff_exists.1 hu
      have hver := hst.ver_eq hh
      simp only [hh]
      cases hx with
      | ref _ _ _ _ _ _ _ hval =>
        obtain ⟨hd, hval⟩ := hval (by omega)
        rw [hval]
        obtain ⟨h1, h2⟩ := hy.cells hk
        have hone : ∀ u ∈ vy.cells.toList, u.oneCell' = true := by
          intro u hu'
          obtain ⟨k, hk1, hk2⟩ := List.getElem_of_mem hu'
          simp only [Array.length_toList] at hk1
          have hy1 : y.cells[k]? = some (y.cells[k]'(by omega)) := List.getElem?_eq_getElem (by omega)
          have := h2 k _ u hy1 (by rw [← hk2]; simp)
          exact this.one (List.all_eq_true.1 ho _ (List.getElem_mem _))
        obtain ⟨w', hrun, h3, h4⟩ := hst.putCells (P := P) hh hd (off := off) (ys := y.cells) (us := vy.cells.toList) hle (by simpa using h1) (fun k z u p q => h2 k z u p (by simpa using q)) hone
        refine ⟨w', ?_, h3, h4⟩
        simp [Instr.storeAt, Instr.sureAddr, storeVar, run_sizeOf' hu, hsz, h1, hrun]
    · exact hs.elim
  · exact hs.elim

end Go.Aw
