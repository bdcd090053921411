/- The operations of the abstract machine that only compute, and what they have to do with the model's own. No condition. -/
import Derived.Test.YtoffonjlfomnbaaAv
import Derived.Laws.StructEq
import Derived.Laws.Cells
import Derived.Laws.Slices
namespace Go.Aw
open Go
set_option linter.unusedSimpArgs false

variable {P : Program}

/-- An operation, begun in a state that is represented so, yields a value of which `R` holds. -/
def Does (P : Program) (o : Oper) (ρ : Operand → AV) (H : AHeap) (R : AV → AHeap → Prop) : Prop :=
  ∀ (c : Ctx) (a : Act) (next : Act → World → Prop) (Q : Exit → Act → World → Prop), St c H → (∀ x ∈ o.op.operands.toList, Rep c (ρ x) (a.eval x)) →
    (∀ c' x v H', St c' H' → Ext c c' → Rep c' x v → R x H' → next (a.put o.dst v) c'.w) → o.wp P a c.w next Q

/-- The same of a computation of the model. -/
def Runs (P : Program) (s : Sem Value) (c : Ctx) (x : AV) (H' : AHeap) : Prop := ∃ c' v, s.run P c.w = .ok v c'.w ∧ St c' H' ∧ Ext c c' ∧ Rep c' x v

theorem Runs.pure {s : Sem Value} {c : Ctx} {x : AV} {v : Value} {H : AHeap} (h : s.run P c.w = .ok v c.w) (hs : St c H) (hr : Rep c x v) : Runs P s c x H := ⟨c, v, h, hs, Ext.refl c, hr⟩

theorem does_of_runs {o : Oper} {ρ : Operand → AV} {H H' : AHeap} {x : AV} (s : (Operand → Value) → Sem Value) (he : ∀ ρ, execOp ρ o = (do pure (.value (← s ρ))))
    (h : ∀ (c : Ctx) (a : Act), St c H → (∀ x ∈ o.op.operands.toList, Rep c (ρ x) (a.eval x)) → Runs P (s a.eval) c x H') : Does P o ρ H (fun x' H'' => x' = x ∧ H'' = H') := by
  intro c a next Q hs hρ hk
  obtain ⟨c', v, h1, h2, h3, h4⟩ := h c a hs hρ
  unfold Oper.wp
  rw [he, Sem.run_bind, h1]
  exact hk c' x v H' h2 h3 h4 ⟨rfl, rfl⟩

/-! ### What a representation tells of the value -/
theorem Rep.int_inv {c : Ctx} {k : IntKind} {n : Int} {v : Value} (h : Rep c (.int k n) v) : v = .int k n := by cases h; rfl
theorem Rep.int_R {c : Ctx} {k : IntKind} {n : Int} {v : Value} (h : Rep c (.int k n) v) : inR k n := by cases h; assumption
theorem Rep.str_R {c : Ctx} {s : List UInt8} {v : Value} (h : Rep c (.str s) v) : s.length ≤ 9223372036854775807 := by cases h; assumption
theorem Rep.sl_R {c : Ctx} {f : Bool} {es : List AV} {v : Value} (h : Rep c (.sl f es) v) : es.length ≤ 9223372036854775807 := by
  cases h with | sl _ _ _ _ _ _ _ h1 _ _ _ _ _ h2 => rw [← h1]; exact h2
theorem Rep.osl_R {c : Ctx} {s i v off len lc : Nat} {val : Value} (h : Rep c (.osl s i v off len lc) val) : lc ≤ 9223372036854775807 := by cases h; assumption
theorem Rep.bool_inv {c : Ctx} {b : Bool} {v : Value} (h : Rep c (.bool b) v) : v = .bool b := by cases h; rfl
theorem Rep.str_inv {c : Ctx} {s : List UInt8} {v : Value} (h : Rep c (.str s) v) : v = .string ⟨s.toArray⟩ := by cases h; rfl
theorem Rep.agg_inv {c : Ctx} {cs : List AV} {v : Value} (h : Rep c (.agg cs) v) : ∃ vs : Array Value, v = .agg vs ∧ vs.size = cs.length ∧ ∀ (i : Nat) (x : AV) (v : Value), cs[i]? = some x → vs[i]? = some v → Rep c x v := by
  cases h with | agg _ vs hl h => exact ⟨vs, rfl, hl, h⟩
theorem Rep.tup_inv {c : Ctx} {cs : List AV} {v : Value} (h : Rep c (.tup cs) v) : ∃ vs : Array Value, v = .tuple vs ∧ vs.size = cs.length ∧ ∀ (i : Nat) (x : AV) (v : Value), cs[i]? = some x → vs[i]? = some v → Rep c x v := by
  cases h with | tup _ vs hl h => exact ⟨vs, rfl, hl, h⟩

/-! ### Two operands -/
def aBits (op : BinOp) (k : IntKind) (x y : Int) : Int :=
  match op with
  | .and => k.wrap (BitVec.ofInt k.bits x &&& BitVec.ofInt k.bits y).toNat
  | .or => k.wrap (BitVec.ofInt k.bits x ||| BitVec.ofInt k.bits y).toNat
  | .xor => k.wrap (BitVec.ofInt k.bits x ^^^ BitVec.ofInt k.bits y).toNat
  | _ => k.wrap (BitVec.ofInt k.bits x &&& ~~~(BitVec.ofInt k.bits y)).toNat

/-- A value, and what must hold for it to be told. -/
structure BR where
  v : AV
  s : Prop

def bad : BR := ⟨.top, False⟩

def aBinInt (op : BinOp) (k : IntKind) (a b : Int) : BR :=
  match op with
  | .add => ⟨.int k (k.wrap (a + b)), True⟩
  | .sub => ⟨.int k (k.wrap (a - b)), True⟩
  | .mul => ⟨.int k (k.wrap (a * b)), True⟩
  | .quo => ⟨.int k (k.wrap (a.tdiv b)), b ≠ 0⟩
  | .rem => ⟨.int k (a.tmod b), b ≠ 0⟩
  | .and => ⟨.int k (aBits .and k a b), True⟩
  | .or => ⟨.int k (aBits .or k a b), True⟩
  | .xor => ⟨.int k (aBits .xor k a b), True⟩
  | .andNot => ⟨.int k (aBits .andNot k a b), True⟩
  | .eql => ⟨.bool (decide (a = b)), True⟩
  | .neq => ⟨.bool (!decide (a = b)), True⟩
  | .lss => ⟨.bool (decide (a < b)), True⟩
  | .leq => ⟨.bool (decide (a ≤ b)), True⟩
  | .gtr => ⟨.bool (decide (b < a)), True⟩
  | .geq => ⟨.bool (decide (b ≤ a)), True⟩
  | .shl => ⟨.int k (k.wrap (a * 2 ^ (min b.toNat k.bits))), 0 ≤ b⟩
  | .shr => ⟨.int k (a.fdiv (2 ^ (min b.toNat k.bits))), 0 ≤ b⟩

def aBinStr (op : BinOp) (a b : List UInt8) : BR :=
  match op with
  | .add => ⟨.str (a ++ b), a.length + b.length ≤ 9223372036854775807⟩
  | .eql => ⟨.bool (decide (a = b)), True⟩
  | .neq => ⟨.bool (!decide (a = b)), True⟩
  | .lss => ⟨.bool (Op.bytesLess a b), True⟩
  | .leq => ⟨.bool (Op.bytesLess a b || decide (a = b)), True⟩
  | .gtr => ⟨.bool (!(Op.bytesLess a b || decide (a = b))), True⟩
  | .geq => ⟨.bool (!Op.bytesLess a b), True⟩
  | _ => bad

/-- A part of a struct, or of an array: its cells from a place on. -/
def apart (P : Program) (t : TypeId) (off : Nat) (cs : List AV) : BR :=
  match P.underlying t with
  | some (.struct _) | some (.array _ _) => ⟨.agg ((cs.drop off).take (P.cellsOf t)), True⟩
  | some _ => ⟨cs.getD off .top, off < cs.length⟩
  | none => bad

structure ER where
  b : Bool
  s : Prop

mutual
def aEq (P : Program) : Nat → TypeId → AV → AV → ER
  | 0, _, _, _ => ⟨false, False⟩
  | d + 1, t, x, y =>
    match P.underlying t, x, y with
    | some .bool, .bool a, .bool b => ⟨a == b, True⟩
    | some (.int _), .int k a, .int k' b => ⟨decide (a = b), k = k'⟩
    | some .string, .str a, .str b => ⟨decide (a = b), True⟩
    | some (.struct fs), .agg xs, .agg ys => ⟨(aEqF P d xs ys fs.toList).b, P.stoodInHeld t = false ∧ (aEqF P d xs ys fs.toList).s⟩
    | _, _, _ => ⟨false, False⟩
def aEqF (P : Program) : Nat → List AV → List AV → List Field → ER
  | _, _, _, [] => ⟨true, True⟩
  | 0, _, _, _ :: _ => ⟨false, False⟩
  | d + 1, xs, ys, f :: fs =>
    ⟨(aEq P d f.type (apart P f.type f.offset xs).v (apart P f.type f.offset ys).v).b && (aEqF P d xs ys fs).b,
      f.name ≠ "_" ∧ (apart P f.type f.offset xs).s ∧ (apart P f.type f.offset ys).s ∧ (aEq P d f.type (apart P f.type f.offset xs).v (apart P f.type f.offset ys).v).s ∧ (aEqF P d xs ys fs).s⟩
end

theorem info_of_underlying {t : TypeId} {d : TypeDesc} (h : P.underlying t = some d) : ∃ i, P.info? t = some i ∧ P.cellsOf t = i.size := by
  unfold Program.underlying at h
  cases hi : P.info? t with
  | none => rw [hi] at h; cases h
  | some i => exact ⟨i, rfl, by simp [Program.cellsOf, hi]⟩

theorem run_sizeOf' {t : TypeId} {d : TypeDesc} (h : P.underlying t = some d) (w : World) : (sizeOf t).run P w = .ok (P.cellsOf t) w := by
  obtain ⟨i, h1, h2⟩ := info_of_underlying h
  simp [sizeOf, typeInfo, h1, h2]

def TypeDesc.isAgg : TypeDesc → Bool
  | .struct _ | .array _ _ => true
  | _ => false

theorem run_isAgg {t : TypeId} {d : TypeDesc} (h : P.underlying t = some d) (w : World) : (isAgg t).run P w = .ok (TypeDesc.isAgg d) w := by
  unfold isAgg
  rw [Sem.run_bind, run_underlying h]
  cases d <;> rfl

theorem rep_agg_part {c : Ctx} {cs : List AV} {vs : Array Value} (hl : vs.size = cs.length) (h : ∀ (i : Nat) (x : AV) (v : Value), cs[i]? = some x → vs[i]? = some v → Rep c x v) (off n : Nat) :
    Rep c (.agg ((cs.drop off).take n)) (.agg (vs.extract off (off + n))) := by
  refine .agg _ _ (by simp [hl]; omega) fun i x v h1 h2 => ?_
  rw [Array.getElem?_extract] at h2
  rw [List.getElem?_take, List.getElem?_drop] at h1
  split at h1
  · split at h2
    · exact h _ _ _ h1 h2
    · cases h2
  · cases h1

theorem apart_sound {c : Ctx} {cs : List AV} {vs : Array Value} (hl : vs.size = cs.length) (h : ∀ (i : Nat) (x : AV) (v : Value), cs[i]? = some x → vs[i]? = some v → Rep c x v) {t : TypeId} {off : Nat} (hs : (apart P t off cs).s) :
    ∃ v, (∀ w, (part t vs off).run P w = .ok v w) ∧ Rep c (apart P t off cs).v v := by
  unfold apart at *
  cases hu : P.underlying t with
  | none => simp [hu, bad] at hs
  | some d =>
    simp only [hu] at hs ⊢
    by_cases ha : TypeDesc.isAgg d = true
    · refine ⟨.agg (vs.extract off (off + P.cellsOf t)), fun w => ?_, ?_⟩
      · simp [part, run_isAgg hu, ha, run_sizeOf' hu]
      · cases d <;> simp only [TypeDesc.isAgg, Bool.false_eq_true] at ha <;> exact rep_agg_part hl h off _
    · have ha : TypeDesc.isAgg d = false := by simpa using ha
      have hlt : off < cs.length := by cases d <;> first | exact hs | (simp [TypeDesc.isAgg] at ha)
      have hv : vs[off]? = some (vs[off]'(by omega)) := Array.getElem?_eq_getElem (by omega)
      have hx : cs[off]? = some (cs[off]) := List.getElem?_eq_getElem hlt
      refine ⟨vs[off]'(by omega), fun w => ?_, ?_⟩
      · simp [part, run_isAgg hu, ha, hv]
      · have : Rep c (cs.getD off .top) (vs[off]'(by omega)) := by rw [List.getD_eq_getElem?_getD, hx]; exact h _ _ _ hx hv
        cases d <;> first | exact this | (simp [TypeDesc.isAgg] at ha)

theorem aEq_sound (c : Ctx) (d : Nat) :
    (∀ (t : TypeId) (x y : AV) (vx vy : Value) (D : Nat) (w : World), d ≤ D → (aEq P d t x y).s → Rep c x vx → Rep c y vy → (Op.equalIn D t vx vy).run P w = .ok (aEq P d t x y).b w) ∧
    (∀ (fs : List Field) (xs ys : List AV) (vx vy : Array Value) (D : Nat) (w : World), d ≤ D → (aEqF P d xs ys fs).s → Rep c (.agg xs) (.agg vx) → Rep c (.agg ys) (.agg vy) →
      (Op.eqFields D vx vy fs).run P w = .ok (aEqF P d xs ys fs).b w) := by
  induction d with
  | zero =>
    refine ⟨fun t x y vx vy D w _ hs => by simp [aEq] at hs, fun fs xs ys vx vy D w _ hs _ _ => ?_⟩
    cases fs with
    | nil => simp [Op.eqFields, aEqF]
    | cons f fs => simp [aEqF] at hs
  | succ d ih =>
    obtain ⟨ih1, ih2⟩ := ih
    refine ⟨fun t x y vx vy D w hD hs hx hy => ?_, fun fs xs ys vx vy D w hD hs hx hy => ?_⟩
    · obtain ⟨D, rfl⟩ : ∃ D', D = D' + 1 := ⟨D - 1, by omega⟩
      unfold aEq at hs ⊢
      split at hs
      · rename_i hu
        rw [hx.bool_inv, hy.bool_inv]
        exact run_equalIn_bool' w _ _ _ _ hu
      · rename_i hu
        rw [hx.int_inv, hy.int_inv]
        subst hs
        rw [run_equalIn_int w _ _ _ _ _ _ hu]
        rfl
      · rename_i a b hu
        rw [hx.str_inv, hy.str_inv, run_equalIn_string w _ _ _ _ hu]
        simp only [ByteArray.toList_mk]
        congr 1
        rw [Bool.eq_iff_iff]
        simp
      · rename_i fs xs ys hu
        obtain ⟨hst, hs⟩ := hs
        obtain ⟨vx, rfl, hx1, hx2⟩ := hx.agg_inv
        obtain ⟨vy, rfl, hy1, hy2⟩ := hy.agg_inv
        have hfs : P.fieldsOf t = fs := by simp [Program.fieldsOf, hu]
        rw [run_equalIn_struct w D t vx vy (by rw [hfs]; exact hu) hst, hfs]
        exact ih2 fs.toList xs ys vx vy D w (by omega) hs hx hy
      · exact hs.elim
    · cases fs with
      | nil => simp [Op.eqFields, aEqF]
      | cons f fs =>
        unfold aEqF at hs ⊢
        obtain ⟨h0, h1, h2, h3, h4⟩ := hs
        obtain ⟨vx', hvx, hx1, hx2⟩ := hx.agg_inv
        obtain ⟨vy', hvy, hy1, hy2⟩ := hy.agg_inv
        cases hvx
        cases hvy
        obtain ⟨px, hpx, rpx⟩ := apart_sound (P := P) hx1 hx2 h1
        obtain ⟨py, hpy, rpy⟩ := apart_sound (P := P) hy1 hy2 h2
        have e1 := ih1 f.type _ _ px py D w (by omega) h3 rpx rpy
        have e2 := ih2 fs xs ys vx vy D w (by omega) h4 hx hy
        have hn : (f.name ≠ "_") = True := by simp [h0]
        simp only [Op.eqFields, hn, if_true, Sem.run_bind, hpx, hpy, Result.andThen_ok, e1, Sem.run_ite, Sem.run_pure, e2]
        cases (aEq P d f.type (apart P f.type f.offset xs).v (apart P f.type f.offset ys).v).b <;> simp

/-- Two operands; `t`: their type. -/
def aBin (P : Program) (op : BinOp) (t : TypeId) (x y : AV) : BR :=
  match op, x, y with
  | .shl, .int k a, .int _ b => aBinInt .shl k a b
  | .shr, .int k a, .int _ b => aBinInt .shr k a b
  | op, .int k a, .int k' b => ⟨(aBinInt op k a b).v, k = k' ∧ (aBinInt op k a b).s⟩
  | op, .str a, .str b => aBinStr op a b
  | .eql, .bool a, .bool b => ⟨.bool (a == b), P.underlying t = some .bool⟩
  | .neq, .bool a, .bool b => ⟨.bool (!(a == b)), P.underlying t = some .bool⟩
  | .eql, .agg xs, .agg ys => ⟨.bool (aEq P 30 t (.agg xs) (.agg ys)).b, P.eqGuardType P.depth t = false ∧ (aEq P 30 t (.agg xs) (.agg ys)).s⟩
  | .neq, .agg xs, .agg ys => ⟨.bool (!(aEq P 30 t (.agg xs) (.agg ys)).b), P.eqGuardType P.depth t = false ∧ (aEq P 30 t (.agg xs) (.agg ys)).s⟩
  | _, _, _ => bad

theorem size_mk (s : List UInt8) : (ByteArray.mk s.toArray).size = s.length := by simp [ByteArray.size]
theorem append_mk (a b : List UInt8) : (ByteArray.mk a.toArray) ++ (ByteArray.mk b.toArray) = ByteArray.mk (a ++ b).toArray := by
  apply ByteArray.ext
  simp [ByteArray.data_append]

theorem tmod_inR {k : IntKind} {a : Int} (b : Int) (h : inR k a) : inR k (a.tmod b) := by
  refine between_inR h (fun h0 => ⟨Int.tmod_nonneg b h0, ?_⟩) (fun h0 => ?_)
  · have h1 := Int.natAbs_tmod a b
    have h2 := Nat.mod_le a.natAbs b.natAbs
    have h3 := Int.tmod_nonneg b h0
    omega
  · have h1 := Int.natAbs_tmod a b
    have h2 := Nat.mod_le a.natAbs b.natAbs
    have h3 : 0 ≤ (-a).tmod b := Int.tmod_nonneg b (by omega)
    rw [Int.neg_tmod] at h3
    omega

theorem fdiv_inR {k : IntKind} {a : Int} (m : Nat) (h : inR k a) : inR k (a.fdiv (2 ^ m)) := by
  have hp : (0 : Int) < 2 ^ m := Int.pow_pos (by decide)
  rw [Int.fdiv_eq_ediv_of_nonneg _ (by omega)]
  refine between_inR h (fun h0 => ⟨Int.ediv_nonneg h0 (by omega), Int.ediv_le_self _ h0⟩) (fun h0 => ?_)
  have h1 : a / 2 ^ m < 0 := Int.ediv_neg_of_neg_of_pos h0 hp
  have h2 : a ≤ a / 2 ^ m := by
    apply Int.le_ediv_of_mul_le hp
    have h3 : (1 : Int) ≤ 2 ^ m := by omega
    have := Int.mul_le_mul_of_nonpos_left (a := a) (by omega : a ≤ 0) h3
    omega
  omega

theorem aBin_sound {c : Ctx} {op : BinOp} {t : TypeId} {x y : AV} {vx vy : Value} {X Y : Operand} (hx : Rep c x vx) (hy : Rep c y vy) (hs : (aBin P op t x y).s) (w : World) :
    ∃ v, (do eqGuard op t X Y vx vy; binOp op t vx vy : Sem Value).run P w = .ok v w ∧ Rep c (aBin P op t x y).v v := by
  unfold aBin at hs ⊢
  split at hs
  · rw [hx.int_inv, hy.int_inv]
    simp only [aBinInt] at hs
    refine ⟨_, ?_, .int _ _ (wrap_inR _ _)⟩
    simp [eqGuard, binOp, Op.shift, Int.not_lt.2 hs]
  · rw [hx.int_inv, hy.int_inv]
    simp only [aBinInt] at hs
    refine ⟨_, ?_, .int _ _ (fdiv_inR _ hx.int_R)⟩
    simp [eqGuard, binOp, Op.shift, Int.not_lt.2 hs]
  · rename_i k a k' b h1 h2
    rw [hx.int_inv, hy.int_inv]
    obtain ⟨rfl, hs⟩ := hs
    cases op <;> simp only [aBinInt] at hs ⊢
    case shl => simp at h1
    case shr => simp at h2
    case add => exact ⟨_, by simp [eqGuard, binOp, Op.intArith], .int _ _ (wrap_inR _ _)⟩
    case sub => exact ⟨_, by simp [eqGuard, binOp, Op.intArith], .int _ _ (wrap_inR _ _)⟩
    case mul => exact ⟨_, by simp [eqGuard, binOp, Op.intArith], .int _ _ (wrap_inR _ _)⟩
    case quo => exact ⟨_, by simp [eqGuard, binOp, Op.intDiv, hs], .int _ _ (wrap_inR _ _)⟩
    case rem => exact ⟨_, by simp [eqGuard, binOp, Op.intDiv, hs], .int _ _ (tmod_inR _ hx.int_R)⟩
    case and => exact ⟨_, by first | (simp [eqGuard, binOp, Op.intBits]; done) | (simp [eqGuard, binOp, Op.intBits]; rfl), .int _ _ (wrap_inR _ _)⟩
    case or => exact ⟨_, by first | (simp [eqGuard, binOp, Op.intBits]; done) | (simp [eqGuard, binOp, Op.intBits]; rfl), .int _ _ (wrap_inR _ _)⟩
    case xor => exact ⟨_, by first | (simp [eqGuard, binOp, Op.intBits]; done) | (simp [eqGuard, binOp, Op.intBits]; rfl), .int _ _ (wrap_inR _ _)⟩
    case andNot => exact ⟨_, by simp only [eqGuard, binOp, ne_eq, not_true_eq_false, if_false, Op.intBits, Sem.run_bind]; rfl, .int _ _ (wrap_inR _ _)⟩
    case eql => exact ⟨_, by first | (simp [eqGuard, binOp, Op.intCmp]; done) | (simp [eqGuard, binOp, Op.intCmp]; rfl), .bool _⟩
    case neq => exact ⟨_, by first | (simp [eqGuard, binOp, Op.intCmp]; done) | (simp [eqGuard, binOp, Op.intCmp]; rfl), .bool _⟩
    case lss => exact ⟨_, by first | (simp [eqGuard, binOp, Op.intCmp]; done) | (simp [eqGuard, binOp, Op.intCmp]; rfl), .bool _⟩
    case leq => exact ⟨_, by first | (simp [eqGuard, binOp, Op.intCmp]; done) | (simp [eqGuard, binOp, Op.intCmp]; rfl), .bool _⟩
    case gtr => exact ⟨_, by first | (simp [eqGuard, binOp, Op.intCmp]; done) | (simp [eqGuard, binOp, Op.intCmp]; rfl), .bool _⟩
    case geq => exact ⟨_, by first | (simp [eqGuard, binOp, Op.intCmp]; done) | (simp [eqGuard, binOp, Op.intCmp]; rfl), .bool _⟩
  · rename_i a b
    rw [hx.str_inv, hy.str_inv]
    have e : (a == b) = decide (a = b) := by rw [Bool.eq_iff_iff]; simp
    cases op <;> simp only [aBinStr, bad] at hs ⊢
    case add =>
      refine ⟨_, ?_, .str _ (by simpa using hs)⟩
      have hm : ¬ ((((ByteArray.mk a.toArray).size + (ByteArray.mk b.toArray).size : Nat) : Int) > IntKind.i64.max) := by
        have : IntKind.i64.max = 9223372036854775807 := by decide
        rw [this, size_mk, size_mk]
        omega
      have e1 : (binOp .add t (.string ⟨a.toArray⟩) (.string ⟨b.toArray⟩)).run P w = .ok (.string ⟨(a ++ b).toArray⟩) w := by
        simp only [binOp, Op.stringOp]
        rw [if_neg hm, append_mk]
        rfl
      simp [eqGuard, e1]
    case eql => exact ⟨_, by first | (simp [eqGuard, binOp, Op.stringOp, e]; done) | (simp [eqGuard, binOp, Op.stringOp, e]; rfl), .bool _⟩
    case neq => exact ⟨_, by first | (simp [eqGuard, binOp, Op.stringOp, e]; done) | (simp [eqGuard, binOp, Op.stringOp, e]; rfl), .bool _⟩
    case lss => exact ⟨_, by first | (simp [eqGuard, binOp, Op.stringOp, e]; done) | (simp [eqGuard, binOp, Op.stringOp, e]; rfl), .bool _⟩
    case leq => exact ⟨_, by first | (simp [eqGuard, binOp, Op.stringOp, e]; done) | (simp [eqGuard, binOp, Op.stringOp, e]; rfl), .bool _⟩
    case gtr => exact ⟨_, by first | (simp [eqGuard, binOp, Op.stringOp, e]; done) | (simp [eqGuard, binOp, Op.stringOp, e]; rfl), .bool _⟩
    case geq => exact ⟨_, by first | (simp [eqGuard, binOp, Op.stringOp, e]; done) | (simp [eqGuard, binOp, Op.stringOp, e]; rfl), .bool _⟩
  · rw [hx.bool_inv, hy.bool_inv]
    exact ⟨_, by first | (simp [eqGuard, binOp, Op.equal, Op.maxDepth, run_equalIn_bool' w _ _ _ _ hs]; done) | (simp [eqGuard, binOp, Op.equal, Op.maxDepth, run_equalIn_bool' w _ _ _ _ hs]; rfl), .bool _⟩
  · rw [hx.bool_inv, hy.bool_inv]
    refine ⟨_, by first | (simp [eqGuard, binOp, Op.equal, Op.maxDepth, run_equalIn_bool' w _ _ _ _ hs]; done) | (simp [eqGuard, binOp, Op.equal, Op.maxDepth, run_equalIn_bool' w _ _ _ _ hs]; rfl), .bool _⟩
  · rename_i xs ys
    obtain ⟨hg, hs⟩ := hs
    obtain ⟨vx', rfl, _, _⟩ := hx.agg_inv
    obtain ⟨vy', rfl, _, _⟩ := hy.agg_inv
    refine ⟨_, ?_, .bool _⟩
    rw [Sem.run_bind, run_eqGuard_agg w .eql t X Y vx' vy' hg, Result.andThen_ok, run_eql_struct, (aEq_sound (P := P) c 30).1 t _ _ _ _ 10000 w (by omega) hs hx hy, Result.andThen_ok]
  · rename_i xs ys
    obtain ⟨hg, hs⟩ := hs
    obtain ⟨vx', rfl, _, _⟩ := hx.agg_inv
    obtain ⟨vy', rfl, _, _⟩ := hy.agg_inv
    refine ⟨_, ?_, .bool _⟩
    rw [Sem.run_bind, run_eqGuard_agg w .neq t X Y vx' vy' hg, Result.andThen_ok, run_neq_struct, (aEq_sound (P := P) c 30).1 t _ _ _ _ 10000 w (by omega) hs hx hy, Result.andThen_ok]
  · exact hs.elim
end Go.Aw
