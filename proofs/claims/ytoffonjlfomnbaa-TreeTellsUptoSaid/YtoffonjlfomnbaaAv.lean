/- The abstract values of a Go program, the abstract heap, and what it means that a concrete value in a concrete world is represented by an abstract one. No condition. -/
import Derived.Calls
import Derived.Laws.World
import Derived.Laws.Sem
namespace Go.Aw
open Go

/-- Abstract values. `sl`: a slice whose elements never change any more; `cptr`: a pointer to cells that never change; `ref`, `osl`, `map`, `iter`: into a block of the abstract heap (`osl`: the size of an element, the block, its version, where it begins, its length, how much room it has at least). -/
inductive AV where
  | int (k : IntKind) (n : Int)
  | bool (b : Bool)
  | str (s : List UInt8)
  | agg (cs : List AV)
  | tup (vs : List AV)
  | sl (full : Bool) (es : List AV)
  | cptr (cs : List AV)
  | ref (i ver off : Nat)
  | osl (s i ver off len lc : Nat)
  | nilptr
  | map (i : Nat)
  | nilmap
  | iter (i : Nat)
  | func (fn : Fn) (first captured : List AV)
  | nilfunc
  | iface (t : TypeId) (v : AV)
  | nilIface
  | opt (g : Bool) (v : AV)
  | top

instance : Inhabited AV := ⟨.top⟩

def AV.cells : AV → List AV
  | .agg cs => cs
  | v => [v]

/-- What the representation is relative to: the world; how many abstract blocks there are; where each lies, its version, and whether it is none yet (that of a nil slice); which concrete blocks never change any more. -/
structure Ctx where
  w : World
  n : Nat
  blk : Nat → Nat
  ver : Nat → Nat
  vd : Nat → Bool
  stable : Nat → Prop

def bsize (w : World) (b : Nat) : Option Nat :=
  match w.heap[b]? with
  | some (.cells vs _ _) => some vs.size
  | _ => none

/-- An integer lies in the range of its kind. -/
def inR (k : IntKind) (n : Int) : Prop := k.min ≤ n ∧ n ≤ k.max

theorem wrap_inR (k : IntKind) (n : Int) : inR k (k.wrap n) := by
  unfold inR IntKind.wrap IntKind.min IntKind.max
  cases k <;> simp [IntKind.bits, IntKind.signed] <;> (try split) <;> omega

theorem min_inR (k : IntKind) : k.min ≤ 0 ∧ 0 ≤ k.max := by cases k <;> decide

/-- Between 0 and a number of the range. -/
theorem between_inR {k : IntKind} {n m : Int} (h : inR k n) (h1 : 0 ≤ n → 0 ≤ m ∧ m ≤ n) (h2 : n < 0 → n ≤ m ∧ m ≤ 0) : inR k m := by
  obtain ⟨p, q⟩ := min_inR k
  obtain ⟨h3, h4⟩ := h
  by_cases h0 : 0 ≤ n
  · have := h1 h0; exact ⟨by omega, by omega⟩
  · have := h2 (by omega); exact ⟨by omega, by omega⟩

theorem inR_i64 {n : Int} : inR .i64 n ↔ -9223372036854775808 ≤ n ∧ n ≤ 9223372036854775807 := Iff.rfl
theorem inR_u8 {n : Int} : inR .u8 n ↔ 0 ≤ n ∧ n ≤ 255 := Iff.rfl
theorem inR_i32 {n : Int} : inR .i32 n ↔ -2147483648 ≤ n ∧ n ≤ 2147483647 := Iff.rfl

def inRB (k : IntKind) (n : Int) : Bool := decide (k.min ≤ n) && decide (n ≤ k.max)
theorem inRB_t {k : IntKind} {n : Int} : inRB k n = true ↔ inR k n := by simp [inRB, inR]

inductive Rep (c : Ctx) : AV → Value → Prop
  | int (k : IntKind) (n : Int) (hr : inR k n) : Rep c (.int k n) (.int k n)
  | bool (b : Bool) : Rep c (.bool b) (.bool b)
  | str (s : List UInt8) (hr : s.length ≤ 9223372036854775807) : Rep c (.str s) (.string ⟨s.toArray⟩)
  | agg (cs : List AV) (vs : Array Value) (hl : vs.size = cs.length) (h : ∀ (i : Nat) (x : AV) (v : Value), cs[i]? = some x → vs[i]? = some v → Rep c x v) : Rep c (.agg cs) (.agg vs)
  | tup (cs : List AV) (vs : Array Value) (hl : vs.size = cs.length) (h : ∀ (i : Nat) (x : AV) (v : Value), cs[i]? = some x → vs[i]? = some v → Rep c x v) : Rep c (.tup cs) (.tuple vs)
  | sl (full : Bool) (es : List AV) (base : Option Addr) (len cap s : Nat) (vs : Nat → Nat → Value) (hlen : len = es.length) (hcap : len ≤ cap) (hfull : full = true → cap = len)
      (hb : es ≠ [] → ∃ a, base = some a ∧ a.spot = none ∧ c.stable a.block ∧ ∀ k j, k < es.length → j < s → c.w.cell? (a.add (k * s + j)) = some (vs k j))
      (hs : ∀ e ∈ es, e.cells.length = s)
      (hr : ∀ (k : Nat) (e : AV) (j : Nat) (x : AV), es[k]? = some e → e.cells[j]? = some x → Rep c x (vs k j)) (hmax : len ≤ 9223372036854775807) : Rep c (.sl full es) (.slice base len cap)
  | cptr (cs : List AV) (a : Addr) (vs : Nat → Value) (hspot : a.spot = none) (hst : c.stable a.block) (hc : ∀ j, j < cs.length → c.w.cell? (a.add j) = some (vs j))
      (hr : ∀ (j : Nat) (x : AV), cs[j]? = some x → Rep c x (vs j)) : Rep c (.cptr cs) (.pointer (some a))
  | ref (i v off : Nat) (val : Value) (hi : i < c.n) (hv : v ≤ c.ver i) (ho : val.oneCell' = true) (h : c.ver i = v → c.vd i = false ∧ val = .pointer (some ⟨c.blk i, off, none⟩)) : Rep c (.ref i v off) val
  | osl (s i v off len lc : Nat) (val : Value) (hi : i < c.n) (hv : v ≤ c.ver i) (ho : val.oneCell' = true) (hmax : lc ≤ 9223372036854775807)
      (h1 : c.ver i = v → c.vd i = true → len = 0 ∧ lc = 0 ∧ ∃ base, val = .slice base 0 0)
      (h2 : c.ver i = v → c.vd i = false → ∃ base cap m, val = .slice base len cap ∧ len ≤ lc ∧ lc ≤ cap ∧ (cap = 0 ∨ base = some ⟨c.blk i, off, none⟩) ∧ bsize c.w (c.blk i) = some m ∧ off + cap * s ≤ m) : Rep c (.osl s i v off len lc) val
  | nilptr : Rep c .nilptr (.pointer none)
  | map (i : Nat) (val : Value) (hi : i < c.n) (ho : val.oneCell' = true) (h : c.ver i = 0 → c.vd i = false ∧ val = .map (some (c.blk i))) : Rep c (.map i) val
  | nilmap : Rep c .nilmap (.map none)
  | iter (i : Nat) (val : Value) (hi : i < c.n) (ho : val.oneCell' = true) (h : c.ver i = 0 → c.vd i = false ∧ val = .pointer (some ⟨c.blk i, 0, none⟩)) : Rep c (.iter i) val
  | func (fn : Fn) (fs cs : List AV) (vf vc : Array Value) (hf : vf.size = fs.length) (hc : vc.size = cs.length)
      (h1 : ∀ (i : Nat) (x : AV) (v : Value), fs[i]? = some x → vf[i]? = some v → Rep c x v) (h2 : ∀ (i : Nat) (x : AV) (v : Value), cs[i]? = some x → vc[i]? = some v → Rep c x v) : Rep c (.func fn fs cs) (.func fn vf vc)
  | nilfunc : Rep c .nilfunc .nilFunc
  | iface (t : TypeId) (x : AV) (v : Value) (h : Rep c x v) : Rep c (.iface t x) (.iface t v)
  | nilIface : Rep c .nilIface .nilIface
  | opt (g : Bool) (x : AV) (v : Value) (h1 : g = true → Rep c x v) (h2 : g = false → v = undef) : Rep c (.opt g x) v
  | top (v : Value) : Rep c .top v

/-- What may have become of a representation: nothing that is stable has changed, and each abstract block lies where it lay, unless its version has risen. -/
structure Ext (c c' : Ctx) : Prop where
  n : c.n ≤ c'.n
  size : c.w.heap.size ≤ c'.w.heap.size
  st : ∀ b, c.stable b → c'.stable b ∧ c'.w.heap[b]? = c.w.heap[b]?
  ver : ∀ i, i < c.n → c.ver i ≤ c'.ver i
  blk : ∀ i, i < c.n → c'.ver i = c.ver i → c'.blk i = c.blk i ∧ c'.vd i = c.vd i ∧ (c.vd i = false → bsize c'.w (c.blk i) = bsize c.w (c.blk i))
  os : c'.w.os = c.w.os
  tape : c'.w.tape = c.w.tape
  output : c'.w.output = c.w.output

theorem Ext.refl (c : Ctx) : Ext c c := ⟨Nat.le_refl _, Nat.le_refl _, fun _ h => ⟨h, rfl⟩, fun _ _ => Nat.le_refl _, fun _ _ _ => ⟨rfl, rfl, fun _ => rfl⟩, rfl, rfl, rfl⟩

theorem Ext.trans {a b c : Ctx} (h : Ext a b) (k : Ext b c) : Ext a c where
  n := Nat.le_trans h.n k.n
  size := Nat.le_trans h.size k.size
  st := fun x hx => ⟨(k.st x (h.st x hx).1).1, ((k.st x (h.st x hx).1).2).trans (h.st x hx).2⟩
  ver := fun i hi => Nat.le_trans (h.ver i hi) (k.ver i (Nat.lt_of_lt_of_le hi h.n))
  blk := fun i hi he => by
    have h1 := h.ver i hi
    have h2 := k.ver i (Nat.lt_of_lt_of_le hi h.n)
    have e1 : b.ver i = a.ver i := by omega
    have e2 : c.ver i = b.ver i := by omega
    obtain ⟨p1, p2, p3⟩ := h.blk i hi e1
    obtain ⟨q1, q2, q3⟩ := k.blk i (Nat.lt_of_lt_of_le hi h.n) e2
    rw [p1, p2] at q3
    exact ⟨q1.trans p1, q2.trans p2, fun hd => (q3 hd).trans (p3 hd)⟩
  os := k.os.trans h.os
  tape := k.tape.trans h.tape
  output := k.output.trans h.output

theorem cell_of_block {w w' : World} {a : Addr} (h : w'.heap[a.block]? = w.heap[a.block]?) : w'.cell? a = w.cell? a := by
  unfold World.cell?
  rw [h]

theorem Addr.add_block (a : Addr) (n : Nat) : (a.add n).block = a.block := by
  unfold Addr.add
  split <;> rfl

theorem Rep.mono {c c' : Ctx} (hx : Ext c c') {x : AV} {v : Value} (h : Rep c x v) : Rep c' x v := by
  induction h with
  | int k n hr => exact .int k n hr
  | bool b => exact .bool b
  | str s hr => exact .str s hr
  | agg cs vs hl _ ih => exact .agg cs vs hl ih
  | tup cs vs hl _ ih => exact .tup cs vs hl ih
  | sl full es base len cap s vs hlen hcap hfull hb hs _ hmax ih =>
    refine .sl full es base len cap s vs hlen hcap hfull (fun hne => ?_) hs ih hmax
    obtain ⟨a, e1, e2, e3, e4⟩ := hb hne
    refine ⟨a, e1, e2, (hx.st _ e3).1, fun k j hk hj => ?_⟩
    rw [cell_of_block (w := c.w) (by rw [Addr.add_block]; exact (hx.st _ e3).2)]
    exact e4 k j hk hj
  | cptr cs a vs hspot hst hc _ ih =>
    refine .cptr cs a vs hspot (hx.st _ hst).1 (fun j hj => ?_) ih
    rw [cell_of_block (w := c.w) (by rw [Addr.add_block]; exact (hx.st _ hst).2)]
    exact hc j hj
  | ref i v off val hi hv ho h =>
    refine .ref i v off val (Nat.lt_of_lt_of_le hi hx.n) (Nat.le_trans hv (hx.ver i hi)) ho (fun e => ?_)
    have h1 := hx.ver i hi
    have e1 : c'.ver i = c.ver i := by omega
    rw [(hx.blk i hi e1).1, (hx.blk i hi e1).2.1]
    exact h (by omega)
  | osl s i v off len lc val hi hv ho hmax h1 h2 =>
    have hle := hx.ver i hi
    refine .osl s i v off len lc val (Nat.lt_of_lt_of_le hi hx.n) (Nat.le_trans hv hle) ho hmax (fun e d => ?_) (fun e d => ?_)
    · have e1 : c'.ver i = c.ver i := by omega
      exact h1 (by omega) (by rw [← (hx.blk i hi e1).2.1]; exact d)
    · have e1 : c'.ver i = c.ver i := by omega
      obtain ⟨p1, p2, p3⟩ := hx.blk i hi e1
      rw [p2] at d
      obtain ⟨base, cap, m, q1, q2, q2', q3, q4, q5⟩ := h2 (by omega) d
      exact ⟨base, cap, m, q1, q2, q2', by rw [p1]; exact q3, by rw [p1, p3 d]; exact q4, q5⟩
  | nilptr => exact .nilptr
  | map i val hi ho h =>
    refine .map i val (Nat.lt_of_lt_of_le hi hx.n) ho (fun e => ?_)
    have h1 := hx.ver i hi
    have e1 : c'.ver i = c.ver i := by omega
    rw [(hx.blk i hi e1).1, (hx.blk i hi e1).2.1]
    exact h (by omega)
  | nilmap => exact .nilmap
  | iter i val hi ho h =>
    refine .iter i val (Nat.lt_of_lt_of_le hi hx.n) ho (fun e => ?_)
    have h1 := hx.ver i hi
    have e1 : c'.ver i = c.ver i := by omega
    rw [(hx.blk i hi e1).1, (hx.blk i hi e1).2.1]
    exact h (by omega)
  | func fn fs cs vf vc hf hc _ _ ih1 ih2 => exact .func fn fs cs vf vc hf hc ih1 ih2
  | nilfunc => exact .nilfunc
  | iface t x v _ ih => exact .iface t x v ih
  | nilIface => exact .nilIface
  | opt g x v _ h2 ih => exact .opt g x v ih h2
  | top v => exact .top v

/-- A block of the abstract heap: cells (with a version); a map (key, value, the number of its coming), and its clock; an iterator over a map, and over a text; nothing. -/
inductive ABlk where
  | cells (ver : Nat) (cs : List AV)
  | map (es : List (AV × AV × Nat)) (clock : Nat)
  | miter (m : Nat) (since : Nat) (seen : List Nat) (stepped : Nat)
  | siter (s : List UInt8) (pos : Nat)
  | gone

abbrev AHeap := List ABlk

def ABlk.live : ABlk → Prop
  | .gone => False
  | _ => True

/-- What abstract block number `i` stands for. -/
inductive BRep (c : Ctx) (i : Nat) : ABlk → Prop
  | cells (ver : Nat) (cs : List AV) (vs : Array Value) (e : TypeId) (fr : Nat × Nat) (hv : c.ver i = ver) (hd : c.vd i = false) (hh : c.w.heap[c.blk i]? = some (.cells vs e fr)) (hl : cs.length ≤ vs.size) (hf : vs.size ≤ fr.1 ∨ fr.2 ≤ fr.1)
      (h : ∀ (j : Nat) (x : AV) (v : Value), cs[j]? = some x → vs[j]? = some v → Rep c x v) : BRep c i (.cells ver cs)
  | void (ver : Nat) (hv : c.ver i = ver) (hd : c.vd i = true) : BRep c i (.cells ver [])
  | map (es : List (AV × AV × Nat)) (clock : Nat) (ents : Array MapEntry) (hv : c.ver i = 0) (hd : c.vd i = false) (hh : c.w.heap[c.blk i]? = some (.map ents clock)) (hl : ents.size = es.length)
      (h : ∀ (j : Nat) (p : AV × AV × Nat) (e : MapEntry), es[j]? = some p → ents[j]? = some e → Rep c p.1 e.key ∧ Rep c p.2.1 e.val ∧ e.born = p.2.2) : BRep c i (.map es clock)
  | miter (m since : Nat) (seen : List Nat) (stepped : Nat) (hv : c.ver i = 0) (hd : c.vd i = false) (hm : m < c.n) (hmv : c.ver m = 0) (hmd : c.vd m = false) (hh : c.w.heap[c.blk i]? = some (.mapIter (some (c.blk m)) since seen.toArray stepped)) : BRep c i (.miter m since seen stepped)
  | siter (s : List UInt8) (pos : Nat) (hv : c.ver i = 0) (hd : c.vd i = false) (hh : c.w.heap[c.blk i]? = some (.stringIter ⟨s.toArray⟩ pos)) (hsl : s.length ≤ 9223372036854775807) : BRep c i (.siter s pos)
  | gone (hd : c.vd i = true) : BRep c i .gone

/-- The world holds the abstract heap. -/
structure St (c : Ctx) (H : AHeap) : Prop where
  n : c.n = H.length
  lt : ∀ i, i < c.n → c.vd i = false → c.blk i < c.w.heap.size
  inj : ∀ i j b b', H[i]? = some b → H[j]? = some b' → b.live → b'.live → c.vd i = false → c.vd j = false → c.blk i = c.blk j → i = j
  st : ∀ k, c.stable k → k < c.w.heap.size ∧ ∀ i b, H[i]? = some b → b.live → c.vd i = false → c.blk i ≠ k
  rep : ∀ i b, H[i]? = some b → BRep c i b

/-- The temporaries: what was written last stands first; what is not named may be anything. -/
abbrev AF := List (Nat × AV)

def look : AF → Nat → AV
  | [], _ => .top
  | (d, v) :: α, t => bif d == t then v else look α t

structure ARep (c : Ctx) (N : Nat) (α : AF) (a : Act) : Prop where
  size : a.tmps.size = N
  defers : a.defers = []
  rep : ∀ t, Rep c (look α t) (a.tmps.getD t undef)

theorem ARep.mono {c c' : Ctx} {N : Nat} {α : AF} {a : Act} (hx : Ext c c') (h : ARep c N α a) : ARep c' N α a :=
  ⟨h.size, h.defers, fun t => (h.rep t).mono hx⟩

def putA (dst : Option Tmp) (v : AV) (α : AF) : AF :=
  match dst with
  | some d => (d, v) :: α
  | none => α

def dstOk (N : Nat) : Option Tmp → Bool
  | some d => Nat.blt d N
  | none => true

theorem ARep.put {c : Ctx} {N : Nat} {α : AF} {a : Act} {dst : Option Tmp} {x : AV} {v : Value} (h : ARep c N α a) (hd : dstOk N dst = true) (hv : Rep c x v) : ARep c N (putA dst x α) (a.put dst v) := by
  cases dst with
  | none => exact h
  | some d =>
    have hlt : d < a.tmps.size := by rw [h.size]; simpa [dstOk, Nat.blt_eq] using hd
    refine ⟨by simp [Act.put, h.size], h.defers, fun t => ?_⟩
    simp only [putA, look, Act.put]
    by_cases hdt : d = t
    · subst hdt
      simp [hlt, hv]
    · have hb : (d == t) = false := by simp [hdt]
      rw [hb, cond_false]
      have := h.rep t
      simpa [Array.getD_eq_getD_getElem?, Array.getElem?_setIfInBounds_ne hdt] using this

/-- A frame of which less is known. -/
theorem ARep.weaken {c : Ctx} {N : Nat} {α β : AF} {a : Act} (h : ARep c N α a) (hb : ∀ t, look β t = .top ∨ look β t = look α t) : ARep c N β a := by
  refine ⟨h.size, h.defers, fun t => ?_⟩
  rcases hb t with e | e
  · rw [e]; exact .top _
  · rw [e]; exact h.rep t

/-! ### The code, seen from the abstract side -/

abbrev APost := Exit → AF → AHeap → Prop

/-- A piece of code, begun in a state that is represented so, leaves in one of which the post holds. -/
def aw (P : Program) (N : Nat) (code : Code) (Q : APost) (α : AF) (H : AHeap) : Prop :=
  ∀ (c : Ctx) (a : Act), St c H → ARep c N α a →
    code.wp P (fun e a' w' => ∃ c' α' H', c'.w = w' ∧ St c' H' ∧ Ext c c' ∧ ARep c' N α' a' ∧ Q e α' H') a c.w

def RepAll (c : Ctx) (xs : List AV) (vs : Array Value) : Prop := vs.size = xs.length ∧ ∀ (i : Nat) (x : AV) (v : Value), xs[i]? = some x → vs[i]? = some v → Rep c x v

/-- A call, begun with arguments that are represented so, returns, and the post holds of its result and of the heap. -/
def ACalls (P : Program) (f : FuncId) (args : List AV) (H : AHeap) (R : AV → AHeap → Prop) : Prop :=
  ∀ (c : Ctx) (vs : Array Value), St c H → RepAll c args vs →
    Calls P f vs c.w (fun e w' => ∃ c' x v H', e = .returned v ∧ c'.w = w' ∧ St c' H' ∧ Ext c c' ∧ Rep c' x v ∧ R x H')

/-- A call that leaves the heap alone. -/
def FnC (P : Program) (f : FuncId) (args : List AV) (H : AHeap) (x : AV) : Prop := ACalls P f args H (fun x' H' => x' = x ∧ H' = H)

theorem ACalls.mono {P : Program} {f : FuncId} {args : List AV} {H : AHeap} {R R' : AV → AHeap → Prop} (h : ACalls P f args H R) (hr : ∀ x H', R x H' → R' x H') : ACalls P f args H R' :=
  fun c vs hs ha => (h c vs hs ha).mono fun _ _ ⟨c', x, v, H', e1, e2, e3, e4, e5, e6⟩ => ⟨c', x, v, H', e1, e2, e3, e4, e5, hr _ _ e6⟩

theorem aw_mono {P : Program} {N : Nat} {code : Code} {Q Q' : APost} {α : AF} {H : AHeap} (h : aw P N code Q α H) (hq : ∀ e α H, Q e α H → Q' e α H) : aw P N code Q' α H :=
  fun c a hs ha => wp_mono (h c a hs ha) fun _ _ _ ⟨c', α', H', e1, e2, e3, e4, e5⟩ => ⟨c', α', H', e1, e2, e3, e4, hq _ _ _ e5⟩

theorem aw_weaken {P : Program} {N : Nat} {code : Code} {Q : APost} {α β : AF} {H : AHeap} (h : aw P N code Q β H) (hb : ∀ t, look β t = .top ∨ look β t = look α t) : aw P N code Q α H :=
  fun c a hs ha => h c a hs (ha.weaken hb)

theorem aw_skip {P : Program} {N : Nat} {Q : APost} {α : AF} {H : AHeap} (h : Q .normal α H) : aw P N .skip Q α H :=
  fun c _ hs ha => wp_skip ⟨c, α, H, rfl, hs, Ext.refl c, ha, h⟩
theorem aw_ret {P : Program} {N : Nat} {Q : APost} {α : AF} {H : AHeap} (h : Q .ret α H) : aw P N .ret Q α H :=
  fun c _ hs ha => wp_ret ⟨c, α, H, rfl, hs, Ext.refl c, ha, h⟩
theorem aw_exit {P : Program} {N id : Nat} {Q : APost} {α : AF} {H : AHeap} (h : Q (.exit id) α H) : aw P N (.exit id) Q α H :=
  fun c _ hs ha => wp_exit ⟨c, α, H, rfl, hs, Ext.refl c, ha, h⟩
theorem aw_label {P : Program} {N l : Nat} {Q : APost} {α : AF} {H : AHeap} (h : Q .normal α H) : aw P N (.label l) Q α H :=
  fun c _ hs ha => wp_label ⟨c, α, H, rfl, hs, Ext.refl c, ha, h⟩

def thenQ (P : Program) (N : Nat) (y : Code) (Q : APost) : APost
  | .normal, α, H => aw P N y Q α H
  | e, α, H => Q e α H

theorem aw_seq {P : Program} {N : Nat} {x y : Code} {Q : APost} {α : AF} {H : AHeap} (h : aw P N x (thenQ P N y Q) α H) : aw P N (.seq x y) Q α H := by
  intro c a hs ha
  refine wp_seq (wp_mono (h c a hs ha) fun e a' w' ⟨c', α', H', e1, e2, e3, e4, e5⟩ => ?_)
  cases e with
  | normal =>
    subst e1
    exact wp_mono (e5 c' a' e2 e4) fun e a'' w'' ⟨c'', α'', H'', g1, g2, g3, g4, g5⟩ => ⟨c'', α'', H'', g1, g2, e3.trans g3, g4, g5⟩
  | exit id => exact ⟨c', α', H', e1, e2, e3, e4, e5⟩
  | goto l => exact ⟨c', α', H', e1, e2, e3, e4, e5⟩
  | ret => exact ⟨c', α', H', e1, e2, e3, e4, e5⟩
  | panic ch => exact ⟨c', α', H', e1, e2, e3, e4, e5⟩
  | outgrown => exact ⟨c', α', H', e1, e2, e3, e4, e5⟩

def blockQ (id : Nat) (Q : APost) : APost
  | .exit id', α, H => bif id' == id then Q .normal α H else Q (.exit id') α H
  | e, α, H => Q e α H

theorem aw_block {P : Program} {N id : Nat} {x : Code} {Q : APost} {α : AF} {H : AHeap} (h : aw P N x (blockQ id Q) α H) : aw P N (.block id x) Q α H := by
  intro c a hs ha
  refine wp_block (wp_mono (h c a hs ha) fun e a' w' ⟨c', α', H', e1, e2, e3, e4, e5⟩ => ?_)
  cases e with
  | exit id' =>
    simp only [blockQ] at e5
    simp only [Exit.inBlock]
    by_cases hi : id' = id
    · simp only [hi, if_true]
      rw [hi, beq_self_eq_true, cond_true] at e5
      exact ⟨c', α', H', e1, e2, e3, e4, e5⟩
    · simp only [hi, if_false]
      have : (id' == id) = false := by simp [hi]
      rw [this, cond_false] at e5
      exact ⟨c', α', H', e1, e2, e3, e4, e5⟩
  | normal => exact ⟨c', α', H', e1, e2, e3, e4, e5⟩
  | goto l => exact ⟨c', α', H', e1, e2, e3, e4, e5⟩
  | ret => exact ⟨c', α', H', e1, e2, e3, e4, e5⟩
  | panic ch => exact ⟨c', α', H', e1, e2, e3, e4, e5⟩
  | outgrown => exact ⟨c', α', H', e1, e2, e3, e4, e5⟩

/-- Behind a round: the loop goes on at some `y` of a lesser measure. -/
def loopQ {ι : Type} (F : ι → AF) (Hp : ι → AHeap) (pre : ι → Prop) (m : ι → Nat) (x : ι) (Q : APost) : APost
  | .normal, α, H => ∃ y, pre y ∧ m y < m x ∧ (∀ t, look (F y) t = .top ∨ look (F y) t = look α t) ∧ H = Hp y
  | e, α, H => Q e α H

theorem wp_loop_ix {P : Program} {Q : Exit → Act → World → Prop} {a : Act} {w : World} {body : Code} {ι : Type} (I : ι → Act → World → Prop) (m : ι → Nat) (x₀ : ι) (h₀ : I x₀ a w)
    (round : ∀ x a w, I x a w → body.wp P (Exit.then (fun a' w' => ∃ y, I y a' w' ∧ m y < m x) Q) a w) : (Code.loop body).wp P Q a w := by
  intro b k cs
  have key : ∀ n x a w, m x = n → I x a w →
      ∃ e a' w', Q e a' w' ∧ Arrives P (lone (b.at a (.code body :: .inLoop body :: k)) cs w) b k cs e a' w' := by
    intro n
    induction n using Nat.strongRecOn with
    | _ n ih =>
      intro x a w hn hI
      obtain ⟨e, a₁, w₁, hq, harr⟩ := round x a w hI b (.inLoop body :: k) cs
      cases e with
      | normal =>
        obtain ⟨y, hI₁, hlt⟩ := hq
        obtain ⟨e₂, a₂, w₂, hq₂, harr₂⟩ := ih (m y) (hn ▸ hlt) y a₁ w₁ rfl hI₁
        exact ⟨e₂, a₂, w₂, hq₂, .of_steps (Steps.trans harr (.one step_inLoop)) harr₂⟩
      | exit id => exact ⟨_, a₁, w₁, hq, .pass (x := .inLoop body) rfl (fun _ _ => .inl (by simp)) harr⟩
      | goto l => exact ⟨_, a₁, w₁, hq, .pass (x := .inLoop body) rfl (fun _ _ => .inl (by simp)) harr⟩
      | ret => exact ⟨_, a₁, w₁, hq, .pass (x := .inLoop body) rfl (fun _ _ => .inl (by simp)) harr⟩
      | panic ch => exact ⟨_, a₁, w₁, hq, .pass (x := .inLoop body) rfl (fun _ _ => .inl (by simp)) harr⟩
      | outgrown => exact ⟨_, a₁, w₁, hq, .pass (x := .inLoop body) rfl (fun _ _ => .inl (by simp)) harr⟩
  obtain ⟨e, a', w', hq, harr⟩ := key _ x₀ a w rfl h₀
  exact ⟨e, a', w', hq, .of_steps (.one step_loop) harr⟩

theorem aw_loop {P : Program} {N : Nat} {body : Code} {Q : APost} {α : AF} {H : AHeap} {ι : Type} (F : ι → AF) (Hp : ι → AHeap) (pre : ι → Prop) (m : ι → Nat) (x₀ : ι) (h0 : pre x₀)
    (hF : ∀ t, look (F x₀) t = .top ∨ look (F x₀) t = look α t) (hH : H = Hp x₀)
    (round : ∀ x, pre x → aw P N body (loopQ F Hp pre m x Q) (F x) (Hp x)) : aw P N (.loop body) Q α H := by
  intro c a hs ha
  subst hH
  refine wp_loop_ix (fun x a w => pre x ∧ ∃ c', c'.w = w ∧ St c' (Hp x) ∧ Ext c c' ∧ ARep c' N (F x) a) m x₀ ⟨h0, c, rfl, hs, Ext.refl c, ha.weaken hF⟩ ?_
  rintro x a w ⟨hp, c', rfl, hs', hx', ha'⟩
  refine wp_mono (round x hp c' a hs' ha') fun e a' w' ⟨c'', α', H', e1, e2, e3, e4, e5⟩ => ?_
  cases e with
  | normal =>
    obtain ⟨y, p1, p2, p3, p4⟩ := e5
    exact ⟨y, ⟨p1, c'', e1, p4 ▸ e2, hx'.trans e3, e4.weaken p3⟩, p2⟩
  | exit id => exact ⟨c'', α', H', e1, e2, hx'.trans e3, e4, e5⟩
  | goto l => exact ⟨c'', α', H', e1, e2, hx'.trans e3, e4, e5⟩
  | ret => exact ⟨c'', α', H', e1, e2, hx'.trans e3, e4, e5⟩
  | panic ch => exact ⟨c'', α', H', e1, e2, hx'.trans e3, e4, e5⟩
  | outgrown => exact ⟨c'', α', H', e1, e2, hx'.trans e3, e4, e5⟩

/-- What is there of an operand. -/
def ofCell : Value → AV
  | .int k n => bif inRB k n then .int k n else .top
  | .bool b => .bool b
  | .string s => bif Nat.ble s.data.toList.length 9223372036854775807 then .str s.data.toList else .top
  | .pointer none => .nilptr
  | .slice none 0 0 => .sl true []
  | .map none => .nilmap
  | .nilFunc => .nilfunc
  | .nilIface => .nilIface
  | _ => .top

theorem rep_slnil (c : Ctx) : Rep c (.sl true []) (.slice none 0 0) :=
  .sl true [] none 0 0 0 (fun _ _ => undef) rfl (Nat.le_refl _) (fun _ => rfl) (fun h => absurd rfl h) (by simp) (by simp) (by omega)

theorem rep_ofCell (c : Ctx) (v : Value) : Rep c (ofCell v) v := by
  unfold ofCell
  split
  · rename_i k n
    cases h : inRB k n with
    | true => exact .int _ _ (inRB_t.1 h)
    | false => exact .top _
  · exact .bool _
  · rename_i s
    cases h : Nat.ble s.data.toList.length 9223372036854775807 with
    | true => simpa using Rep.str (c := c) s.data.toList (Nat.le_of_ble_eq_true h)
    | false => exact .top _
  · exact .nilptr
  · exact rep_slnil c
  · exact .nilmap
  · exact .nilfunc
  · exact .nilIface
  · exact .top _

def ofConst : Value → AV
  | .agg cs => .agg (cs.toList.map ofCell)
  | .tuple vs => bif vs.size == 0 then .tup [] else .top
  | v => ofCell v

theorem rep_ofConst (c : Ctx) (v : Value) : Rep c (ofConst v) v := by
  cases v with
  | agg cs =>
    refine .agg _ _ (by simp) fun i x v h1 h2 => ?_
    simp only [List.getElem?_map, Option.map_eq_some_iff] at h1
    obtain ⟨u, h1, rfl⟩ := h1
    rw [Array.getElem?_toList, h2] at h1
    cases h1
    exact rep_ofCell c v
  | tuple vs =>
    simp only [ofConst]
    by_cases h : vs.size = 0
    · have : (vs.size == 0) = true := by simp [h]
      rw [this]
      exact .tup [] _ h (by simp)
    · have : (vs.size == 0) = false := by simpa using h
      rw [this]
      exact .top _
  | _ => simp only [ofConst]; exact rep_ofCell c _

def ev (α : AF) : Operand → AV
  | .tmp t => look α t
  | .const v => ofConst v
  | .global _ => .top
  | .func f => .func (.func f) [] []

theorem rep_ev {c : Ctx} {N : Nat} {α : AF} {a : Act} (h : ARep c N α a) (x : Operand) : Rep c (ev α x) (a.eval x) := by
  cases x with
  | tmp t => exact h.rep t
  | const v => exact rep_ofConst c v
  | global g => exact .top _
  | func f => exact .func _ [] [] _ _ rfl rfl (by simp) (by simp)

end Go.Aw
