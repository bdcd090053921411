/- The abstract machine: what a row hands in, as abstract values; and a function that leaves the heap alone, as a step of a row. No condition. -/
import Derived.Test.YtoffonjlfomnbaaAvFrz
import Derived.WalkKit
import Derived.ProofKit
import Derived.OpenShut
import Derived.ShutString
import Derived.ChangeOld
import Derived.Below
import Derived.Carry
namespace Go.Aw
open Go Go.ChangeShapes Go.WideShapes Go.ChangeAt Go.RowKit
variable {P : Program}

def isAggT (P : Program) (t : TypeId) : Bool :=
  match P.underlying t with
  | some (.struct _) | some (.array _ _) => true
  | _ => false

/-- The value that has these cells. -/
def mkA (P : Program) (t : TypeId) (ys : List AV) : AV := if isAggT P t = true then .agg ys else ys.headD .top

/-- The fields of a struct lie one behind the other. -/
def layB (P : Program) : Nat → List Field → Bool
  | _, [] => true
  | off, f :: fs => (f.offset == off) && layB P (off + P.cellsOf f.type) fs

def layEnd (P : Program) : Nat → List Field → Nat
  | off, [] => off
  | off, f :: fs => layEnd P (off + P.cellsOf f.type) fs

/-- A type that is read cell by cell. -/
def kindB (P : Program) (t : TypeId) : Bool :=
  match P.underlying t with
  | some .bool | some (.int _) | some .string => true
  | some (.slice e) => (P.cellsOf e != 0) && (isAggT P e || (P.cellsOf e == 1))
  | some (.struct fs) => layB P 0 fs.toList && (layEnd P 0 fs.toList == P.cellsOf t)
  | _ => false

mutual
/-- The cells of a value of this type, as they came in. -/
inductive Sh (P : Program) : TypeId → List AV → Prop
  | bool (t : TypeId) (b : Bool) (h : P.underlying t = some .bool) : Sh P t [.bool b]
  | int (t : TypeId) (k : IntKind) (n : Int) (h : P.underlying t = some (.int k)) (hw : (Lit.int k n).wf = true) : Sh P t [.int k n]
  | str (t : TypeId) (s : List UInt8) (h : P.underlying t = some .string) (hl : s.length ≤ maxLen) : Sh P t [.str s]
  | slice (t e : TypeId) (zs : List (List AV)) (h : P.underlying t = some (.slice e)) (hl : zs.length ≤ maxLen) (hz : ∀ z ∈ zs, Sh P e z) (hc : ∀ z ∈ zs, z.length = P.cellsOf e) : Sh P t [.sl false (zs.map (mkA P e))]
  | struct (t : TypeId) (fs : Array Field) (ys : List AV) (h : P.underlying t = some (.struct fs)) (hf : ShF P fs.toList ys) : Sh P t ys
  | other (t : TypeId) (ys : List AV) (h : kindB P t = false) (hy : ∀ y ∈ ys, y = .top) : Sh P t ys
inductive ShF (P : Program) : List Field → List AV → Prop
  | nil : ShF P [] []
  | cons (f : Field) (fs : List Field) (z ys : List AV) (h : Sh P f.type z) (hs : ShF P fs ys) : ShF P (f :: fs) (z ++ ys)
end

theorem sh_bool {t : TypeId} {ys : List AV} (ht : P.underlying t = some .bool) (h : Sh P t ys) : ∃ b, ys = [.bool b] := by
  cases h with
  | bool _ b => exact ⟨b, rfl⟩
  | int _ _ _ h => rw [ht] at h; cases h
  | str _ _ h => rw [ht] at h; cases h
  | slice _ _ _ h => rw [ht] at h; cases h
  | struct _ _ _ h => rw [ht] at h; cases h
  | other _ _ h _ => rw [kindB, ht] at h; cases h
theorem sh_int {t : TypeId} {k : IntKind} {ys : List AV} (ht : P.underlying t = some (.int k)) (h : Sh P t ys) : ∃ n, ys = [.int k n] ∧ (Lit.int k n).wf = true := by
  cases h with
  | bool _ _ h => rw [ht] at h; cases h
  | int _ _ n h hw => rw [ht] at h; cases h; exact ⟨n, rfl, hw⟩
  | str _ _ h => rw [ht] at h; cases h
  | slice _ _ _ h => rw [ht] at h; cases h
  | struct _ _ _ h => rw [ht] at h; cases h
  | other _ _ h _ => rw [kindB, ht] at h; cases h
theorem sh_str {t : TypeId} {ys : List AV} (ht : P.underlying t = some .string) (h : Sh P t ys) : ∃ s, ys = [.str s] ∧ s.length ≤ maxLen := by
  cases h with
  | bool _ _ h => rw [ht] at h; cases h
  | int _ _ _ h => rw [ht] at h; cases h
  | str _ s _ hl => exact ⟨s, rfl, hl⟩
  | slice _ _ _ h => rw [ht] at h; cases h
  | struct _ _ _ h => rw [ht] at h; cases h
  | other _ _ h _ => rw [kindB, ht] at h; cases h
theorem sh_slice {t e : TypeId} {ys : List AV} (ht : P.underlying t = some (.slice e)) (hk : kindB P t = true) (h : Sh P t ys) :
    ∃ zs : List (List AV), ys = [.sl false (zs.map (mkA P e))] ∧ zs.length ≤ maxLen ∧ ∀ z ∈ zs, Sh P e z := by
  cases h with
  | bool _ _ h => rw [ht] at h; cases h
  | int _ _ _ h => rw [ht] at h; cases h
  | str _ _ h => rw [ht] at h; cases h
  | slice _ _ zs h hl hz => rw [ht] at h; cases h; exact ⟨zs, rfl, hl, hz⟩
  | struct _ _ _ h => rw [ht] at h; cases h
  | other _ _ h _ => rw [hk] at h; cases h
theorem sh_struct {t : TypeId} {fs : Array Field} {ys : List AV} (ht : P.underlying t = some (.struct fs)) (hk : kindB P t = true) (h : Sh P t ys) : ShF P fs.toList ys := by
  cases h with
  | bool _ _ h => rw [ht] at h; cases h
  | int _ _ _ h => rw [ht] at h; cases h
  | str _ _ h => rw [ht] at h; cases h
  | slice _ _ _ h => rw [ht] at h; cases h
  | struct _ _ _ h hf => rw [ht] at h; cases h; exact hf
  | other _ _ h => rw [hk] at h; cases h
theorem shF_nil {ys : List AV} (h : ShF P [] ys) : ys = [] := by cases h; rfl
theorem shF_cons {f : Field} {fs : List Field} {ys : List AV} (h : ShF P (f :: fs) ys) : ∃ z zs, ys = z ++ zs ∧ Sh P f.type z ∧ ShF P fs zs := by
  cases h with
  | cons _ _ z zs h hs => exact ⟨z, zs, rfl, h, hs⟩

/-- Cells that stand for these. -/
def RepC (c : Ctx) (ys : List AV) (cs : List Value) : Prop := ys.length = cs.length ∧ ∀ (i : Nat) (y : AV) (v : Value), ys[i]? = some y → cs[i]? = some v → Rep c y v

theorem repC_one {c : Ctx} {y : AV} {v : Value} (h : Rep c y v) : RepC c [y] [v] := by
  refine ⟨rfl, fun i x u hx hu => ?_⟩
  cases i with
  | zero => simp at hx hu; subst hx; subst hu; exact h
  | succ i => simp at hx

theorem repC_top {c : Ctx} (cs : List Value) : RepC c (cs.map fun _ => .top) cs := by
  refine ⟨by simp, fun i x u hx _ => ?_⟩
  rw [List.getElem?_map] at hx
  obtain ⟨_, _, rfl⟩ := Option.map_eq_some_iff.1 hx
  exact .top _

theorem repC_app {c : Ctx} {y z : List AV} {a b : List Value} (h : RepC c y a) (k : RepC c z b) : RepC c (y ++ z) (a ++ b) := by
  refine ⟨by simp [h.1, k.1], fun i x u hx hu => ?_⟩
  by_cases hi : i < y.length
  · rw [List.getElem?_append_left hi] at hx
    rw [List.getElem?_append_left (by rw [← h.1]; exact hi)] at hu
    exact h.2 i x u hx hu
  · rw [List.getElem?_append_right (by omega)] at hx
    rw [List.getElem?_append_right (by rw [← h.1]; omega), ← h.1] at hu
    exact k.2 _ x u hx hu

theorem lt_of_cell {w : World} {a : Addr} {v : Value} (h : w.cell? a = some v) : a.block < w.heap.size := by
  unfold World.cell? at h
  cases hb : w.heap[a.block]? with
  | none => rw [hb] at h; simp at h
  | some o => exact (Array.getElem?_eq_some_iff.1 hb).1

section
variable {H : Type} {enc : TypeId × Value → H} {W : World} {base : Nat} {sp : Nat → Bool} {held : Bool}

theorem wf_inR {k : IntKind} {n : Int} (h : (Lit.int k n).wf = true) : inR k n := by
  have h2 : (decide (k.min ≤ n) && decide (n ≤ k.max)) = true := h
  simpa [inR] using h2

theorem trod_rep {c : Ctx} (hw : c.w = W) (hst : ∀ b, b < W.heap.size → c.stable b) : ∀ (fuel : Nat) (t : TypeId) (cs : List Value) (x : DataW H × List MemPlace), DataW.trod enc P W base sp held fuel t cs = some x →
    ∃ ys, Sh P t ys ∧ RepC c ys cs := by
  intro fuel
  induction fuel with
  | zero => intro t cs x h; simp [DataW.trod] at h
  | succ fuel ih =>
    intro t cs x h
    cases hk : kindB P t with
    | false => exact ⟨_, .other t _ hk (by simp), repC_top cs⟩
    | true =>
      have hk' := hk
      unfold kindB at hk
      split at hk
      · rename_i hu
        obtain ⟨b, rfl, -⟩ := DataW.trod_bool hu h
        exact ⟨_, .bool t b hu, repC_one (.bool b)⟩
      · rename_i k hu
        obtain ⟨n, rfl, -, hwf⟩ := DataW.trod_int hu h
        exact ⟨_, .int t k n hu hwf, repC_one (.int k n (wf_inR hwf))⟩
      · rename_i hu
        obtain ⟨s, rfl, -, hl⟩ := DataW.trod_string hu h
        refine ⟨_, .str t s.data.toList hu (by simpa using hl), repC_one ?_⟩
        have := Rep.str (c := c) s.data.toList (by simpa [maxLen] using hl)
        simpa using this
      · rename_i e hu
        rw [Bool.and_eq_true] at hk
        have he : P.cellsOf e ≠ 0 := by simpa using hk.1
        have he1 : isAggT P e = true ∨ P.cellsOf e = 1 := by simpa using hk.2
        rcases DataW.trod_slice hu h with ⟨rfl, -⟩ | ⟨a, len, cap, elems, rest, n, hn, rfl, -, hb, hl, hm, hlen, hel, -, -⟩
        · refine ⟨[.sl false (([] : List (List AV)).map (mkA P e))], .slice t e [] hu (Nat.zero_le _) (by simp) (by simp), repC_one ?_⟩
          exact .sl false [] none 0 0 0 (fun _ _ => undef) rfl (Nat.le_refl _) (fun h => by cases h) (fun h => absurd rfl h) (by simp) (by simp) (by omega)
        · obtain rfl : fuel = n := by omega
          have each : ∀ i, i < len → ∃ (us : List Value) (ys : List AV), us.length = P.cellsOf e ∧ (∀ j, j < P.cellsOf e → W.cell? (a.add (i * P.cellsOf e + j)) = us[j]?) ∧ Sh P e ys ∧ RepC c ys us := by
            intro i hi
            have h1 := hel i hi
            rw [List.getElem?_eq_getElem (by omega), Option.bind_eq_some_iff] at h1
            obtain ⟨us, hus, htr⟩ := h1
            obtain ⟨_, g2, g3⟩ := World.cells?_some hus
            obtain ⟨ys, k1, k2⟩ := ih e us _ htr
            refine ⟨us, ys, g2, fun j hj => ?_, k1, k2⟩
            rw [← g3 j hj, _root_.Go.Addr.add_add]
          let f : Nat → List AV := fun i => if hi : i < len then (each i hi).choose_spec.choose else []
          let g : Nat → List Value := fun i => if hi : i < len then (each i hi).choose else []
          have hfg : ∀ i, i < len → (g i).length = P.cellsOf e ∧ (∀ j, j < P.cellsOf e → W.cell? (a.add (i * P.cellsOf e + j)) = (g i)[j]?) ∧ Sh P e (f i) ∧ RepC c (f i) (g i) := by
            intro i hi
            have := (each i hi).choose_spec.choose_spec
            simp only [f, g, hi, dif_pos]
            exact this
          have hsize : ∀ i, i < len → (f i).length = P.cellsOf e := fun i hi => by
            obtain ⟨q1, _, _, q4⟩ := hfg i hi
            rw [q4.1, q1]
          have hcells : ∀ i, i < len → (mkA P e (f i)).cells = f i := by
            intro i hi
            unfold mkA
            by_cases ha : isAggT P e = true
            · rw [if_pos ha]; rfl
            · rw [if_neg ha]
              have hs := (hfg i hi).2.2.1
              have hno : ∀ fs, P.underlying e ≠ some (.struct fs) := fun fs q => ha (by rw [isAggT, q])
              have hone : (f i).length = 1 := (hsize i hi).trans (he1.resolve_left ha)
              generalize f i = z at hs hone ⊢
              cases hs with
              | bool => rfl
              | int => rfl
              | str => rfl
              | slice => rfl
              | struct _ fs _ q => exact absurd q (hno fs)
              | other _ _ _ q =>
                match z, hone with
                | [y], _ => rw [q y (by simp)]; rfl
          refine ⟨[.sl false (((List.range len).map f).map (mkA P e))], .slice t e _ hu (by simp; omega) ?_ ?_, repC_one ?_⟩
          · intro z hz
            obtain ⟨i, hi, rfl⟩ := List.mem_map.1 hz
            exact (hfg i (by simpa using hi)).2.2.1
          · intro z hz
            obtain ⟨i, hi, rfl⟩ := List.mem_map.1 hz
            exact hsize i (by simpa using hi)
          · refine .sl false _ (some a) len cap (P.cellsOf e) (fun k j => (g k).getD j undef) (by simp) hl (fun h => by cases h) (fun hne => ?_) ?_ ?_ (by have : cap ≤ maxLen := hm; simp only [maxLen] at this; omega)
            · have hlen0 : 0 < len := by
                rcases Nat.eq_zero_or_pos len with h0 | h0
                · subst h0; simp at hne
                · exact h0
              have hcell : ∀ k j, k < len → j < P.cellsOf e → W.cell? (a.add (k * P.cellsOf e + j)) = some ((g k).getD j undef) := by
                intro k j hk hj
                obtain ⟨q1, q2, _, _⟩ := hfg k hk
                rw [q2 j hj, List.getD_eq_getElem?_getD, List.getElem?_eq_getElem (by omega)]; rfl
              have h00 := hcell 0 0 hlen0 (by omega)
              refine ⟨a, rfl, ?_, hst _ ?_, fun k j hk hj => ?_⟩
              · have := World.cell?_spot h00
                simpa [Addr.add] using this
              · have := lt_of_cell h00
                rwa [Addr.add_block] at this
              · rw [hw]; exact hcell k j (by simpa using hk) hj
            · intro z hz
              simp only [List.map_map, List.mem_map, List.mem_range, Function.comp] at hz
              obtain ⟨i, hi, rfl⟩ := hz
              rw [hcells i hi, hsize i hi]
            · intro k z j y hz hy
              have hk : k < len := by
                have := (List.getElem?_eq_some_iff.1 hz).1
                simpa using this
              have : z = mkA P e (f k) := by
                simp only [List.map_map, List.getElem?_map, List.getElem?_range hk, Option.map_some, Function.comp, Option.some.injEq] at hz
                exact hz.symm
              subst this
              rw [hcells k hk] at hy
              obtain ⟨q1, _, _, q4⟩ := hfg k hk
              have hj := (List.getElem?_eq_some_iff.1 hy).1
              refine q4.2 j y _ hy ?_
              rw [List.getD_eq_getElem?_getD, List.getElem?_eq_getElem (by rw [← q4.1]; exact hj)]; rfl
      · rename_i fs hu
        rw [Bool.and_eq_true, beq_iff_eq] at hk
        obtain ⟨xs, n, hn, -, hcl, hxl, hfs⟩ := DataW.trod_struct hu h
        obtain rfl : fuel = n := by omega
        have each : ∀ f ∈ fs.toList, ∃ ys, Sh P f.type ys ∧ RepC c ys ((cs.drop f.offset).take (P.cellsOf f.type)) := by
          intro f hf
          obtain ⟨i, hi⟩ := List.getElem?_of_mem hf
          have hi' : fs[i]? = some f := by simpa using hi
          have hlt : i < fs.size := (Array.getElem?_eq_some_iff.1 hi').1
          have := hfs i f hi'
          rw [List.getElem?_eq_getElem (by omega)] at this
          exact ih _ _ _ this
        have key : ∀ (l : List Field) (off : Nat), layB P off l = true → layEnd P off l ≤ cs.length → (∀ f ∈ l, ∃ ys, Sh P f.type ys ∧ RepC c ys ((cs.drop f.offset).take (P.cellsOf f.type))) →
            off ≤ layEnd P off l ∧ ∃ ys, ShF P l ys ∧ RepC c ys ((cs.drop off).take (layEnd P off l - off)) := by
          intro l
          induction l with
          | nil => intro off _ _ _; exact ⟨Nat.le_refl _, [], .nil, by simp [layEnd, RepC]⟩
          | cons f l ihl =>
            intro off h1 h2 h3
            rw [layB, Bool.and_eq_true, beq_iff_eq] at h1
            rw [layEnd] at h2 ⊢
            obtain ⟨q0, ys, q1, q2⟩ := ihl _ h1.2 h2 (fun g hg => h3 g (by simp [hg]))
            obtain ⟨z, r1, r2⟩ := h3 f (by simp)
            refine ⟨by omega, z ++ ys, .cons f l z ys r1 q1, ?_⟩
            have e : (cs.drop off).take (layEnd P (off + P.cellsOf f.type) l - off) = (cs.drop f.offset).take (P.cellsOf f.type) ++ (cs.drop (off + P.cellsOf f.type)).take (layEnd P (off + P.cellsOf f.type) l - (off + P.cellsOf f.type)) := by
              rw [h1.1, ← List.drop_drop, show layEnd P (off + P.cellsOf f.type) l - off = P.cellsOf f.type + (layEnd P (off + P.cellsOf f.type) l - (off + P.cellsOf f.type)) by omega, List.take_add]
            rw [e]
            exact repC_app r2 q2
        obtain ⟨_, ys, k1, k2⟩ := key fs.toList 0 hk.1 (by omega) each
        refine ⟨ys, .struct t fs ys hu k1, ?_⟩
        rw [List.drop_zero, Nat.sub_zero, hk.2, ← hcl, List.take_length] at k2
        exact k2
      · cases hk


/-- What a row hands in, at the beginning: nothing is the function's own. -/
def ctx0 (W : World) : Ctx := { w := W, n := 0, blk := fun _ => 0, ver := fun _ => 0, vd := fun _ => false, stable := fun b => b < W.heap.size }

theorem st0 (W : World) : St (ctx0 W) [] where
  n := rfl
  lt := fun i hi => absurd hi (Nat.not_lt_zero i)
  inj := fun i j b b' hi => by simp at hi
  st := fun k hk => ⟨hk, fun i b hi => by simp at hi⟩
  rep := fun i b hi => by simp at hi

theorem one_okWide {r : Reach} {b0 : Nat} {t : TypeId} {v : Value} (hk : kindB P t = true) (ha : isAggT P t = false) (hv : Value.okWide P W r b0 t v) : v.cells = #[v] := by
  unfold kindB at hk
  split at hk
  · rename_i hu; obtain ⟨b, rfl⟩ := okWide_bool hu hv; rfl
  · rename_i k hu; obtain ⟨n, rfl⟩ := okWide_int hu hv; rfl
  · rename_i hu; obtain ⟨s, rfl⟩ := okWide_string hu hv; rfl
  · rename_i e hu; obtain ⟨a, l, c, rfl⟩ := okWide_slice hu hv; rfl
  · rename_i fs hu; rw [isAggT, hu] at ha; cases ha
  · cases hk

theorem open_av {r : Reach} {b0 : Nat} {t : TypeId} {v : Value} {d : DataW H} {p : List MemPlace} (hk : kindB P t = true) (hv : Value.okWide P W r b0 t v) (h : DataW.Trod enc P W base sp held t v d p) :
    ∃ x, (∃ ys, x = mkA P t ys ∧ Sh P t ys ∧ (isAggT P t = true ∨ ys.length = 1)) ∧ Rep (ctx0 W) x v := by
  obtain ⟨fuel, hf⟩ := h
  obtain ⟨ys, h1, h2⟩ := trod_rep (c := ctx0 W) rfl (fun b hb => hb) fuel t _ _ hf
  cases ha : isAggT P t with
  | true =>
    refine ⟨_, ⟨ys, rfl, h1, .inl rfl⟩, ?_⟩
    have : ∃ cs, v = .agg cs := by
      unfold isAggT at ha
      unfold kindB at hk
      split at ha
      · rename_i fs hu; obtain ⟨cs, rfl, -⟩ := okWide_struct hu hv; exact ⟨cs, rfl⟩
      · rename_i n e hu; rw [hu] at hk; cases hk
      · cases ha
    obtain ⟨cs, rfl⟩ := this
    rw [mkA, if_pos ha]
    exact .agg ys cs (by simpa [Value.cells] using h2.1.symm) fun i y u hy hu => h2.2 i y u hy (by simpa [Value.cells] using hu)
  | false =>
    have hc := one_okWide hk ha hv
    rw [hc] at h2
    have hl : ys.length = 1 := by simpa using h2.1
    refine ⟨_, ⟨ys, rfl, h1, .inr hl⟩, ?_⟩
    match ys, hl with
    | [y], _ =>
      rw [mkA, if_neg (by simp [ha])]
      exact h2.2 0 y v rfl rfl

/-- A function that leaves the heap alone and answers true, as a step of a row. -/
theorem step_of_fn {f : FuncId} {xs : List AV} {args : Array Value} (h : FnC P f xs [] (.bool true)) (ha : RepAll (ctx0 W) xs args) : Calls P f args W fun e W' => e = .returned (.bool true) ∧ Below W.heap.size W W' :=
  (h (ctx0 W) args (st0 W) ha).mono fun e W' ⟨c', x, v, H', e1, e2, _, e4, e5, e6, _⟩ => by
    subst e6
    refine ⟨by rw [e1, e5.bool_inv], ?_⟩
    subst e2
    exact ⟨e4.os, e4.tape, e4.output, e4.size, fun k hk => (e4.st k hk).2⟩

theorem repAll_nil {c : Ctx} : RepAll c [] #[] := ⟨rfl, fun i x v hx => by simp at hx⟩
theorem repAll_of {c : Ctx} {xs : List AV} {vs : List Value} (h : RepC c xs vs) : RepAll c xs vs.toArray :=
  ⟨by simp [h.1], fun i x v hx hv => h.2 i x v hx (by simpa using hv)⟩
theorem repC_cons {c : Ctx} {x : AV} {v : Value} {xs : List AV} {vs : List Value} (h : Rep c x v) (hs : RepC c xs vs) : RepC c (x :: xs) (v :: vs) := repC_app (repC_one h) hs
theorem repC_nil {c : Ctx} : RepC c [] [] := ⟨rfl, fun i x v hx => by simp at hx⟩
end
end Go.Aw
