/- The abstract machine: one operation, a region, a call. No condition. -/
import Derived.Test.YtoffonjlfomnbaaAvOpsF
import Derived.Still
namespace Go.Aw
open Go
set_option linter.unusedSimpArgs false

variable {P : Program}

/-! ### One operand; conversions; tuples; interfaces; the greatest and the least -/

def aun (op : UnOp) (x : AV) : BR :=
  match op, x with
  | .not, .bool b => ⟨.bool (!b), True⟩
  | .neg, .int k n => ⟨.int k (k.wrap (0 - n)), True⟩
  | _, _ => bad

theorem aun_sound {c : Ctx} {op : UnOp} {x : AV} {vx : Value} (hx : Rep c x vx) (hs : (aun op x).s) (w : World) : ∃ v, (Op.unary op vx).run P w = .ok v w ∧ Rep c (aun op x).v v := by
  unfold aun at *
  split at hs
  · rw [hx.bool_inv]; exact ⟨_, by simp [Op.unary], .bool _⟩
  · rw [hx.int_inv]; exact ⟨_, by simp [Op.unary, Op.intArith], .int _ _ (wrap_inR _ _)⟩
  · exact hs.elim

def isK : Operand → Bool
  | .const _ => true
  | _ => false
def isNilI : AV → Bool
  | .nilIface => true
  | _ => false
def isIf (P : Program) (t : TypeId) : Bool :=
  match P.underlying t with
  | some (.interface _) => true
  | _ => false

/-- An interface value held against nil. -/
def anilEq (P : Program) (k : Bool) (op : BinOp) (t : TypeId) (x y : AV) : BR :=
  match op, x, y with
  | .eql, .nilIface, .nilIface => ⟨.bool true, k = true ∧ isIf P t = true⟩
  | .neq, .nilIface, .nilIface => ⟨.bool false, k = true ∧ isIf P t = true⟩
  | .eql, .iface _ _, .nilIface => ⟨.bool false, isIf P t = true⟩
  | .neq, .iface _ _, .nilIface => ⟨.bool true, isIf P t = true⟩
  | .eql, .nilIface, .iface _ _ => ⟨.bool false, isIf P t = true⟩
  | .neq, .nilIface, .iface _ _ => ⟨.bool true, isIf P t = true⟩
  | _, _, _ => bad

def aBinX (P : Program) (k : Bool) (op : BinOp) (t : TypeId) (x y : AV) : BR :=
  bif isNilI x || isNilI y then anilEq P k op t x y else aBin P op t x y

theorem isIf_t {t : TypeId} (h : isIf P t = true) : ∃ ms, P.underlying t = some (.interface ms) := by
  unfold isIf at h
  split at h
  · rename_i ms hu; exact ⟨ms, hu⟩
  · cases h

theorem run_eqIf (d : Nat) {t : TypeId} {ms : Array (String × TypeId)} (hu : P.underlying t = some (.interface ms)) (w : World) :
    (Op.equalIn (d + 1) t .nilIface .nilIface).run P w = .ok true w ∧ (∀ u v, (Op.equalIn (d + 1) t .nilIface (.iface u v)).run P w = .ok false w) ∧ ∀ u v, (Op.equalIn (d + 1) t (.iface u v) .nilIface).run P w = .ok false w :=
  ⟨by simp [Op.equalIn, run_underlying hu], fun _ _ => by simp [Op.equalIn, run_underlying hu], fun _ _ => by simp [Op.equalIn, run_underlying hu]⟩
theorem run_equalIf {t : TypeId} {ms : Array (String × TypeId)} (hu : P.underlying t = some (.interface ms)) (w : World) :
    (Op.equal t .nilIface .nilIface).run P w = .ok true w ∧ (∀ u v, (Op.equal t .nilIface (.iface u v)).run P w = .ok false w) ∧ ∀ u v, (Op.equal t (.iface u v) .nilIface).run P w = .ok false w := run_eqIf 9999 hu w
theorem run_guardIf (op : BinOp) (t : TypeId) (X Y : Operand) (w : World) : (∀ u v, (eqGuard op t X Y .nilIface (.iface u v)).run P w = .ok () w) ∧ (∀ u v, (eqGuard op t X Y (.iface u v) .nilIface).run P w = .ok () w) ∧ ((isK X || isK Y) = true → (eqGuard op t X Y .nilIface .nilIface).run P w = .ok () w) := by
  refine ⟨fun u v => ?_, fun u v => ?_, fun h => ?_⟩
  · cases op <;> rfl
  · cases op <;> rfl
  · cases X <;> cases Y <;> first | (cases h; done) | (cases op <;> rfl)

theorem aBinX_sound {c : Ctx} {op : BinOp} {t : TypeId} {x y : AV} {vx vy : Value} {X Y : Operand} (hx : Rep c x vx) (hy : Rep c y vy) (hs : (aBinX P (isK X || isK Y) op t x y).s) (w : World) :
    ∃ v, (do eqGuard op t X Y vx vy; binOp op t vx vy : Sem Value).run P w = .ok v w ∧ Rep c (aBinX P (isK X || isK Y) op t x y).v v := by
  unfold aBinX at *
  cases hn : isNilI x || isNilI y with
  | false => rw [hn, cond_false] at hs; rw [cond_false]; exact aBin_sound hx hy hs w
  | true =>
    rw [hn, cond_true] at hs
    rw [cond_true]
    unfold anilEq at *
    split at hs
    · obtain ⟨hc, hi⟩ := hs
      obtain ⟨ms, hu⟩ := isIf_t hi
      cases hx; cases hy
      exact ⟨.bool true, by simp only [Sem.run_bind, (run_guardIf .eql t X Y w).2.2 hc, Result.andThen_ok, binOp, (run_equalIf hu w).1, Sem.run_pure], .bool _⟩
    · obtain ⟨hc, hi⟩ := hs
      obtain ⟨ms, hu⟩ := isIf_t hi
      cases hx; cases hy
      exact ⟨.bool false, by simp only [Sem.run_bind, (run_guardIf .neq t X Y w).2.2 hc, Result.andThen_ok, binOp, (run_equalIf hu w).1, Sem.run_pure, Bool.not_true], .bool _⟩
    · obtain ⟨ms, hu⟩ := isIf_t hs
      cases hx; cases hy
      exact ⟨.bool false, by simp only [Sem.run_bind, (run_guardIf .eql t X Y w).2.1, Result.andThen_ok, binOp, (run_equalIf hu w).2.2, Sem.run_pure], .bool _⟩
    · obtain ⟨ms, hu⟩ := isIf_t hs
      cases hx; cases hy
      exact ⟨.bool true, by simp only [Sem.run_bind, (run_guardIf .neq t X Y w).2.1, Result.andThen_ok, binOp, (run_equalIf hu w).2.2, Sem.run_pure, Bool.not_false], .bool _⟩
    · obtain ⟨ms, hu⟩ := isIf_t hs
      cases hx; cases hy
      exact ⟨.bool false, by simp only [Sem.run_bind, (run_guardIf .eql t X Y w).1, Result.andThen_ok, binOp, (run_equalIf hu w).2.1, Sem.run_pure], .bool _⟩
    · obtain ⟨ms, hu⟩ := isIf_t hs
      cases hx; cases hy
      exact ⟨.bool true, by simp only [Sem.run_bind, (run_guardIf .neq t X Y w).1, Result.andThen_ok, binOp, (run_equalIf hu w).2.1, Sem.run_pure, Bool.not_false], .bool _⟩
    · exact hs.elim

def aconv (P : Program) (src dst : TypeId) (x : AV) : BR :=
  match P.underlying dst, x with
  | some (.int k), .int _ n => ⟨.int k (k.wrap n), (P.underlying src).isSome = true⟩
  | some .string, .str s => ⟨.str s, (P.underlying src).isSome = true⟩
  | _, _ => bad

theorem aconv_sound {c : Ctx} {src dst : TypeId} {x : AV} {vx : Value} (hx : Rep c x vx) (hs : (aconv P src dst x).s) (w : World) : ∃ v, (convert src dst vx).run P w = .ok v w ∧ Rep c (aconv P src dst x).v v := by
  unfold aconv at *
  split at hs
  · rename_i k k' n hu
    obtain ⟨d, hd⟩ := Option.isSome_iff_exists.1 hs
    rw [hx.int_inv]
    refine ⟨_, ?_, .int _ _ (wrap_inR _ _)⟩
    simp only [convert, Sem.run_bind, run_underlying hd, run_underlying hu, Result.andThen_ok]
    rfl
  · rename_i s hu
    obtain ⟨d, hd⟩ := Option.isSome_iff_exists.1 hs
    rw [hx.str_inv]
    refine ⟨_, ?_, .str _ hx.str_R⟩
    simp only [convert, Sem.run_bind, run_underlying hd, run_underlying hu, Result.andThen_ok]
    cases d <;> rfl
  · exact hs.elim

def aextract (x : AV) (i : Nat) : BR :=
  match x with
  | .tup vs => ⟨vs.getD i .top, i < vs.length⟩
  | _ => bad

theorem aextract_sound {c : Ctx} {x : AV} {i : Nat} {vx : Value} (hx : Rep c x vx) (hs : (aextract x i).s) (w : World) : ∃ v, (Instr.extract vx i).run P w = .ok v w ∧ Rep c (aextract x i).v v := by
  unfold aextract at *
  split at hs
  · rename_i vs
    obtain ⟨us, rfl, h1, h2⟩ := hx.tup_inv
    have hg : vs[i]? = some vs[i] := List.getElem?_eq_getElem hs
    have hu : us[i]? = some (us[i]'(by omega)) := Array.getElem?_eq_getElem (by omega)
    rw [getD_eq _ _ _ _ hg]
    exact ⟨_, by simp [Instr.extract, hu], h2 _ _ _ hg hu⟩
  · exact hs.elim

def concrete (P : Program) (t : TypeId) : Bool :=
  match P.underlying t with
  | some (.interface _) => false
  | some _ => true
  | none => false

theorem concrete_sound {t : TypeId} (h : concrete P t = true) (v : Value) (w : World) : (Instr.makeInterface t v).run P w = .ok (.iface t v) w := by
  unfold concrete at h
  cases hu : P.underlying t with
  | none => rw [hu] at h; cases h
  | some d =>
    rw [hu] at h
    simp only [Instr.makeInterface, Sem.run_bind, run_underlying hu, Result.andThen_ok]
    cases d <;> first | rfl | cases h

/-- x.(T), T no interface. -/
def aassert (P : Program) (x : AV) (t : TypeId) (ok : Bool) : BR :=
  match x with
  | .iface u v => bif u == t then ⟨bif ok then .tup [v, .bool true] else v, concrete P t = true⟩ else bif ok then ⟨.tup [azero P t, .bool false], concrete P t = true ∧ (azero P t).known = true⟩ else bad
  | .nilIface => bif ok then ⟨.tup [azero P t, .bool false], concrete P t = true ∧ (azero P t).known = true⟩ else bad
  | _ => bad

theorem rep_tup2 {c : Ctx} {x y : AV} {u v : Value} (h1 : Rep c x u) (h2 : Rep c y v) : Rep c (.tup [x, y]) (.tuple #[u, v]) :=
  .tup _ _ rfl fun i z w p q => by
    match i, p, q with
    | 0, p, q => simp at p q; subst p; subst q; exact h1
    | 1, p, q => simp at p q; subst p; subst q; exact h2
    | i + 2, p, _ => simp at p

theorem aassert_sound {c : Ctx} {x : AV} {t xt : TypeId} {ok : Bool} {vx : Value} (hx : Rep c x vx) (hs : (aassert P x t ok).s) (w : World) : ∃ v, (Instr.typeAssert vx xt t ok).run P w = .ok v w ∧ Rep c (aassert P x t ok).v v := by
  have hu : ∀ (hc : concrete P t = true), ∃ d, P.underlying t = some d ∧ ∀ ms, d ≠ .interface ms := by
    intro hc
    unfold concrete at hc
    cases hu : P.underlying t with
    | none => rw [hu] at hc; cases hc
    | some d => exact ⟨d, rfl, fun ms e => by rw [hu, e] at hc; cases hc⟩
  unfold aassert at *
  split at hs
  · rename_i u v
    cases hx with
    | iface _ _ v' hv =>
      cases hut : u == t with
      | true =>
        simp only [hut, cond_true] at hs ⊢
        obtain ⟨d, hd, hdi⟩ := hu hs
        have he : u = t := by simpa using hut
        subst he
        cases ok with
        | true => exact ⟨.tuple #[v', .bool true], by cases d <;> first | exact absurd rfl (hdi _) | simp [Instr.typeAssert, run_underlying hd], rep_tup2 hv (.bool _)⟩
        | false => exact ⟨v', by cases d <;> first | exact absurd rfl (hdi _) | simp [Instr.typeAssert, run_underlying hd], hv⟩
      | false =>
        simp only [hut, cond_false] at hs ⊢
        have he : ¬ u = t := by simpa using hut
        cases ok with
        | true =>
          simp only [cond_true] at hs ⊢
          obtain ⟨hc, hk⟩ := hs
          obtain ⟨d, hd, hdi⟩ := hu hc
          obtain ⟨z, hz1, hz2⟩ := azero_sound (P := P) hk c
          exact ⟨.tuple #[z, .bool false], by cases d <;> first | exact absurd rfl (hdi _) | simp [Instr.typeAssert, run_underlying hd, he, hz1], rep_tup2 hz2 (.bool _)⟩
        | false => exact hs.elim
  · cases hx
    cases ok with
    | true =>
      simp only [cond_true] at hs ⊢
      obtain ⟨hc, hk⟩ := hs
      obtain ⟨d, hd, hdi⟩ := hu hc
      obtain ⟨z, hz1, hz2⟩ := azero_sound (P := P) hk c
      exact ⟨.tuple #[z, .bool false], by cases d <;> first | exact absurd rfl (hdi _) | simp [Instr.typeAssert, run_underlying hd, hz1], rep_tup2 hz2 (.bool _)⟩
    | false => exact hs.elim
  · exact hs.elim

/-- max and min of two integers. -/
def amax (x y : AV) : BR :=
  match x, y with
  | .int k a, .int k' b => ⟨.int k (max a b), k = k'⟩
  | _, _ => bad
def amin (x y : AV) : BR :=
  match x, y with
  | .int k a, .int k' b => ⟨.int k (min a b), k = k'⟩
  | _, _ => bad

/-! ### A slice that is written out -/

def abuildSlice (P : Program) (t : TypeId) (n : Nat) (ps : List (Nat × AV)) : BR :=
  match P.underlying t with
  | some (.slice e) => ⟨.sl true (ps.map (·.2)), elemOk P e = true ∧ ps.map (·.1) = List.range n ∧ (ps.all fun p => p.2.known && (p.2.cells.length == P.cellsOf e)) = true ∧ n * P.cellsOf e ≤ 16777216 ∧ P.cellsOf e ≠ 0⟩
  | _ => bad

theorem fill_seq {s : Nat} : ∀ (vs : List (Nat × Value)) (i0 : Nat) (us : Array Value), vs.map (·.1) = List.range' i0 vs.length → (∀ p ∈ vs, p.2.cells.size = s) → (i0 + vs.length) * s ≤ us.size →
    ∃ ws, Instr.fill (fun i => some (i * s, s)) us vs = some ws ∧ ws.size = us.size ∧ (∀ idx, idx < i0 * s → ws[idx]? = us[idx]?) ∧ ∀ (k j : Nat) (p : Nat × Value), vs[k]? = some p → j < s → ws[(i0 + k) * s + j]? = p.2.cells[j]?
  | [], i0, us, _, _, _ => ⟨us, rfl, rfl, fun _ _ => rfl, by simp⟩
  | (i, v) :: vs, i0, us, hm, hs, hle => by
    simp only [List.map_cons, List.length_cons, List.range'_succ, List.cons.injEq] at hm
    obtain ⟨rfl, hm⟩ := hm
    have hv : v.cells.size = s := hs (i, v) (by simp)
    simp only [List.length_cons] at hle
    have hle2 : (i + 1) * s ≤ us.size := Nat.le_trans (Nat.mul_le_mul_right s (by omega)) hle
    have e1 : (i + 1) * s = i * s + s := by rw [Nat.add_mul]; omega
    obtain ⟨ws, g1, g2, g3, g4⟩ := fill_seq vs (i + 1) (spliceV us (i * s) v.cells.toList) hm (fun p hp => hs p (by simp [hp])) (by rw [size_spliceV, show i + 1 + vs.length = i + (vs.length + 1) by omega]; exact hle)
    refine ⟨ws, ?_, by rw [g2, size_spliceV], fun idx hidx => ?_, fun k j p hk hj => ?_⟩
    · unfold Instr.fill
      have hcond : ¬ ((decide (v.cells.size ≠ s) || decide (i * s + v.cells.size > us.size)) = true) := by simp; omega
      simp only [hcond, if_false]
      rw [fold_spliceV]
      exact g1
    · rw [g3 idx (by omega), get_spliceV' _ _ _ s (by simpa using hv) (by omega), if_neg (by omega)]
    · cases k with
      | zero =>
        simp at hk
        subst hk
        rw [Nat.add_zero, g3 _ (by omega), get_spliceV' _ _ _ s (by simpa using hv) (by omega), if_pos (by omega)]
        simp
      | succ k =>
        rw [show i + (k + 1) = i + 1 + k by omega]
        exact g4 k j p (by simpa using hk) hj

theorem abuildSlice_sound {c : Ctx} {H : AHeap} {t : TypeId} {n : Nat} {ps : List (Nat × AV)} {vs : Array (Nat × Value)} (hst : St c H) (hm : vs.toList.map (·.1) = ps.map (·.1))
    (hp : ∀ (k : Nat) (p : Nat × AV) (q : Nat × Value), ps[k]? = some p → vs[k]? = some q → Rep c p.2 q.2) (hs : (abuildSlice P t n ps).s) :
    Runs P (Instr.buildSlice t n vs) c (abuildSlice P t n ps).v H := by
  unfold abuildSlice at *
  cases hu : P.underlying t with
  | none => simp [hu, bad] at hs
  | some d =>
    cases d <;> simp only [hu, bad] at hs
    case slice e =>
      simp only
      obtain ⟨hok, hr, hall, hmax, hne⟩ := hs
      simp only [elemOk, Bool.and_eq_true, beq_iff_eq] at hok
      obtain ⟨⟨h1, h2⟩, h3⟩ := hok
      obtain ⟨d, hd⟩ := Option.isSome_iff_exists.1 h1
      obtain ⟨z, hz1, hz2⟩ := azero_sound (P := P) h2 c
      have hzs : z.cells.size = P.cellsOf e := by rw [(hz2.cells h2).1, h3]
      have hlen : vs.toList.length = ps.length := by have := congrArg List.length hm; simpa using this
      have hn : ps.length = n := by have := congrArg List.length hr; simpa using this
      have hpv : ∀ (k : Nat) (p : Nat × AV) (q : Nat × Value), ps[k]? = some p → vs[k]? = some q → q.2.cells.size = P.cellsOf e ∧ p.2.cells.length = P.cellsOf e ∧ ∀ (i : Nat) (y : AV) (u : Value), p.2.cells[i]? = some y → q.2.cells[i]? = some u → Rep c y u := by
        intro k p q h1 h2
        have h4 := List.all_eq_true.1 hall p (List.mem_of_getElem? h1)
        simp only [Bool.and_eq_true, beq_iff_eq] at h4
        obtain ⟨g1, g2⟩ := (hp k p q h1 h2).cells h4.1
        exact ⟨by rw [g1, h4.2], h4.2, g2⟩
      have hvsz : ∀ q ∈ vs.toList, q.2.cells.size = P.cellsOf e := by
        intro q hq
        obtain ⟨k, hk, hk2⟩ := List.getElem_of_mem hq
        simp only [Array.length_toList] at hk
        exact (hpv k _ q (List.getElem?_eq_getElem (by rw [← hlen]; simpa using hk)) (by rw [← hk2]; simp [hk])).1
      let za : Array Value := if n * P.cellsOf e = 0 then #[] else z.cells
      obtain ⟨ws, g1, g2, -, g4⟩ := fill_seq (s := P.cellsOf e) vs.toList 0 ((Array.range (n * P.cellsOf e)).map fun k => za[k % za.size]!) (by rw [hm, hr, hlen, hn, List.range_eq_range']) hvsz (by simp [hlen, hn])
      have hrun : (Instr.buildSlice t n vs).run P c.w = .ok (.slice (some ⟨c.w.heap.size, 0, none⟩) n n) (c.w.alloc (.cells ws e)) := by
        have hmx : ¬ (n * P.cellsOf e > 16777216) := by omega
        simp only [Instr.buildSlice, Sem.run_bind, run_underlying hu, Result.andThen_ok, run_sizeOf' hd]
        rw [if_neg hmx]
        by_cases h0 : n * P.cellsOf e = 0
        · have hza : za = #[] := if_pos h0
          rw [hza] at g1
          rw [if_pos h0]
          simp only [Sem.run_bind, Sem.run_pure, Result.andThen_ok]
          rw [g1]
          rfl
        · have hza : za = z.cells := if_neg h0
          rw [hza] at g1
          rw [if_neg h0]
          simp only [Sem.run_bind, hz1, Sem.run_pure, Result.andThen_ok]
          rw [g1]
          rfl
      refine ⟨c.fix (.cells ws e), _, hrun, hst.fix _, Ext.fix hst _, ?_⟩
      refine .sl _ _ _ _ _ (P.cellsOf e) (fun k j => ((vs[k]?).bind fun q => q.2.cells[j]?).getD undef) (by simp [hn]) (Nat.le_refl _) (fun _ => rfl) (fun _ => ⟨_, rfl, rfl, .inr rfl, fun k j hk hj => ?_⟩) (fun x hx => ?_) (fun k x j y hk hj => ?_) (by have := Nat.le_mul_of_pos_right n (Nat.pos_of_ne_zero hne); omega)
      · simp only [List.length_map] at hk
        have hkv : vs[k]? = some (vs[k]'(by rw [← hlen] at hk; simpa using hk)) := Array.getElem?_eq_getElem _
        have h5 := g4 k j _ (by rw [Array.getElem?_toList]; exact hkv) hj
        have hb : (c.fix (.cells ws e)).w.heap[c.w.heap.size]? = some (.cells ws e) := heap_alloc_new _ _
        rw [add_mk, cell_cells hb, Nat.zero_add]
        rw [Nat.zero_add] at h5
        rw [h5, hkv]
        have hsz := hvsz (vs[k]'(by rw [← hlen] at hk; simpa using hk)) (by simp)
        simp [show j < (vs[k]'(by rw [← hlen] at hk; simpa using hk)).2.cells.size by omega]
      · obtain ⟨p, hp1, rfl⟩ := List.mem_map.1 hx
        have h4 := List.all_eq_true.1 hall p hp1
        simp only [Bool.and_eq_true, beq_iff_eq] at h4
        exact h4.2
      · simp only [List.getElem?_map, Option.map_eq_some_iff] at hk
        obtain ⟨p, hp1, rfl⟩ := hk
        have hlt := (List.getElem?_eq_some_iff.1 hp1).1
        have hkv : vs[k]? = some (vs[k]'(by rw [← hlen] at hlt; simpa using hlt)) := Array.getElem?_eq_getElem _
        obtain ⟨q1, q2, q3⟩ := hpv k p _ hp1 hkv
        have hj2 := (List.getElem?_eq_some_iff.1 hj).1
        rw [hkv]
        refine Rep.mono (Ext.fix hst _) (q3 j y _ hj ?_)
        simp [show j < (vs[k]'(by rw [← hlen] at hlt; simpa using hlt)).2.cells.size by omega]

/-! ### Built-in functions -/
def abuiltin (P : Program) (b : Builtin) (ts : List TypeId) (xs : List AV) (H : AHeap) : Res :=
  match b, ts, xs with
  | .len, [t], [x] => ⟨(alen P t x H).v, H, (alen P t x H).s⟩
  | .append, [t, u], [s, x] => aappendZ P t u s x H
  | .copy, [t, _], [d, x] => acopy P t d x H
  | .clear, [t], [x] => aclear P t x H
  | .max, _, [x, y] => ⟨(amax x y).v, H, (amax x y).s⟩
  | .min, _, [x, y] => ⟨(amin x y).v, H, (amin x y).s⟩
  | _, _, _ => ⟨.top, H, False⟩

theorem amax_sound {c : Ctx} {x y : AV} {ts : Array TypeId} {ty : TypeId} {vx vy : Value} (hx : Rep c x vx) (hy : Rep c y vy) (hs : (amax x y).s) (w : World) : ∃ v, (Builtin.max_ ts ty #[vx, vy]).run P w = .ok v w ∧ Rep c (amax x y).v v := by
  unfold amax at *
  split at hs
  · rename_i k a k' b
    subst hs
    rw [hx.int_inv, hy.int_inv]
    refine ⟨.int k (max a b), ?_, .int _ _ (by have h1 := hx.int_R; have h2 := hy.int_R; unfold inR at *; omega)⟩
    simp only [Builtin.max_, List.foldlM_cons, List.foldlM_nil, Builtin.max2, Sem.run_bind, Sem.run_pure, Result.andThen_ok]
    congr 2
    split <;> omega
  · exact hs.elim

theorem amin_sound {c : Ctx} {x y : AV} {ts : Array TypeId} {ty : TypeId} {vx vy : Value} (hx : Rep c x vx) (hy : Rep c y vy) (hs : (amin x y).s) (w : World) : ∃ v, (Builtin.min_ ts ty #[vx, vy]).run P w = .ok v w ∧ Rep c (amin x y).v v := by
  unfold amin at *
  split at hs
  · rename_i k a k' b
    subst hs
    rw [hx.int_inv, hy.int_inv]
    refine ⟨.int k (min a b), ?_, .int _ _ (by have h1 := hx.int_R; have h2 := hy.int_R; unfold inR at *; omega)⟩
    simp only [Builtin.min_, List.foldlM_cons, List.foldlM_nil, Builtin.min2, Sem.run_bind, Sem.run_pure, Result.andThen_ok]
    congr 2
    split <;> omega
  · exact hs.elim

def RepA (c : Ctx) (xs : List AV) (vs : Array Value) : Prop := vs.size = xs.length ∧ ∀ (i : Nat) (x : AV) (v : Value), xs[i]? = some x → vs[i]? = some v → Rep c x v

theorem RepA.one {c : Ctx} {x : AV} {vs : Array Value} (h : RepA c [x] vs) : ∃ u, vs = #[u] ∧ Rep c x u := by
  obtain ⟨h1, h2⟩ := h
  obtain ⟨l⟩ := vs
  match l, h1 with
  | [u], _ => exact ⟨u, rfl, h2 0 _ _ rfl rfl⟩
theorem RepA.two {c : Ctx} {x y : AV} {vs : Array Value} (h : RepA c [x, y] vs) : ∃ u v, vs = #[u, v] ∧ Rep c x u ∧ Rep c y v := by
  obtain ⟨h1, h2⟩ := h
  obtain ⟨l⟩ := vs
  match l, h1 with
  | [u, v], _ => exact ⟨u, v, rfl, h2 0 _ _ rfl rfl, h2 1 _ _ rfl rfl⟩

theorem abuiltin_sound {c : Ctx} {H : AHeap} {b : Builtin} {ts : Array TypeId} {ty : TypeId} {cs : Array Bool} {xs : List AV} {vs : Array Value} (hst : St c H) (hx : RepA c xs vs) (hs : (abuiltin P b ts.toList xs H).s) :
    ∃ c' v, (builtin b ts ty cs vs).run P c.w = .ok (.value v) c'.w ∧ St c' (abuiltin P b ts.toList xs H).H ∧ Ext c c' ∧ Rep c' (abuiltin P b ts.toList xs H).v v := by
  obtain ⟨tl⟩ := ts
  simp only [List.toList_toArray] at hs ⊢
  unfold abuiltin at *
  split at hs
  · obtain ⟨u, rfl, hu⟩ := hx.one
    obtain ⟨v, h1, h2⟩ := alen_sound (P := P) (ty := ty) hst hu hs
    exact ⟨c, v, by simp only [builtin, Sem.run_bind]; rw [h1]; rfl, hst, Ext.refl c, h2⟩
  · obtain ⟨u, u', rfl, hu, hu'⟩ := hx.two
    obtain ⟨c', v, h1, h2, h3, h4⟩ := aappendZ_sound (P := P) (ty := ty) hst hu hu' hs
    exact ⟨c', v, by simp only [builtin, Sem.run_bind]; rw [h1]; rfl, h2, h3, h4⟩
  · obtain ⟨u, u', rfl, hu, hu'⟩ := hx.two
    obtain ⟨c', v, h1, h2, h3, h4⟩ := acopy_sound (P := P) (ty := ty) hst hu hu' hs
    exact ⟨c', v, by simp only [builtin, Sem.run_bind]; rw [h1]; rfl, h2, h3, h4⟩
  · obtain ⟨u, rfl, hu⟩ := hx.one
    obtain ⟨c', v, h1, h2, h3, h4⟩ := aclear_sound (P := P) (ty := ty) hst hu hs
    exact ⟨c', v, by simp only [builtin, Sem.run_bind]; rw [h1]; rfl, h2, h3, h4⟩
  · obtain ⟨u, u', rfl, hu, hu'⟩ := hx.two
    obtain ⟨v, h1, h2⟩ := amax_sound (P := P) (ts := ⟨tl⟩) (ty := ty) hu hu' hs c.w
    exact ⟨c, v, by simp only [builtin, Sem.run_bind]; rw [h1]; rfl, hst, Ext.refl c, h2⟩
  · obtain ⟨u, u', rfl, hu, hu'⟩ := hx.two
    obtain ⟨v, h1, h2⟩ := amin_sound (P := P) (ts := ⟨tl⟩) (ty := ty) hu hu' hs c.w
    exact ⟨c, v, by simp only [builtin, Sem.run_bind]; rw [h1]; rfl, hst, Ext.refl c, h2⟩
  · exact hs.elim

end Go.Aw
