/- The abstract machine: a function from its entry to its return; what is left behind is dropped, and what was made becomes fixed. No condition. -/
import Derived.Test.YtoffonjlfomnbaaAvReg
namespace Go.Aw
open Go
set_option linter.unusedSimpArgs false

variable {P : Program}

/-! ### Entry and return -/

def frameOf : Nat → List AV → AF
  | _, [] => []
  | k, x :: xs => (k, x) :: frameOf (k + 1) xs

theorem look_frameOf (xs : List AV) (k t : Nat) : look (frameOf k xs) t = if k ≤ t then xs.getD (t - k) .top else .top := by
  induction xs generalizing k with
  | nil => simp [frameOf, look]
  | cons x xs ih =>
    simp only [frameOf, look]
    by_cases h : k = t
    · subst h; simp
    · have hb : (k == t) = false := by simpa using h
      rw [hb, cond_false, ih]
      by_cases h1 : k ≤ t
      · have h2 : k + 1 ≤ t := by omega
        have h3 : t - k = (t - (k + 1)) + 1 := by omega
        rw [if_pos h2, if_pos h1, h3, List.getD_cons_succ]
      · rw [if_neg h1, if_neg (by omega)]

/-- A result of a function. -/
def ares (P : Program) (α : AF) (H : AHeap) : ResultVar → BR
  | .tmp t => ⟨look α t, True⟩
  | .cell a t => aload P t (look α a) H

def aresAll (P : Program) (α : AF) (H : AHeap) : List ResultVar → Prop
  | [] => True
  | r :: rs => (ares P α H r).s ∧ aresAll P α H rs

def retV : List AV → AV
  | [v] => v
  | vs => .tup vs

/-- Behind a function's body. -/
def retQ (P : Program) (rs : List ResultVar) (R : AV → AHeap → Prop) : APost
  | .normal, α, H => aresAll P α H rs ∧ R (retV (rs.map fun r => (ares P α H r).v)) H
  | .ret, α, H => aresAll P α H rs ∧ R (retV (rs.map fun r => (ares P α H r).v)) H
  | _, _, _ => False

theorem aload_ptr {c : Ctx} {H : AHeap} {t : TypeId} {x : AV} {vx : Value} (hst : St c H) (hx : Rep c x vx) (hs : (aload P t x H).s) : ∃ a, vx = .pointer (some a) := by
  unfold aload at hs
  split at hs
  · exact hx.cptr_inv
  · rename_i i v off
    split at hs
    · rename_i ver cs hh
      obtain ⟨a, ha, -⟩ := rep_ref_add hx (by rw [hs.1]; exact hst.ver_eq hh) 0
      exact ⟨a, ha⟩
    · exact hs.elim
  · exact hs.elim

def readR (a : Act) : ResultVar → Sem Value
  | .tmp t => pure (a.tmps.getD t undef)
  | .cell b t => do loadVar t (← asAddr (a.tmps.getD b undef))

theorem run_readR {c : Ctx} {N : Nat} {H : AHeap} {α : AF} {a : Act} (hs : St c H) (ha : ARep c N α a) (r : ResultVar) (h : (ares P α H r).s) : ∃ v, (readR a r).run P c.w = .ok v c.w ∧ Rep c (ares P α H r).v v := by
  cases r with
  | tmp t => exact ⟨_, rfl, ha.rep t⟩
  | cell b t =>
    have hb := ha.rep b
    obtain ⟨ad, had⟩ := aload_ptr (P := P) hs hb h
    obtain ⟨v, g1, g2⟩ := aload_sound (P := P) hs hb h
    rw [had] at g1
    refine ⟨v, ?_, g2⟩
    simp only [readR, had, asAddr, Sem.run_bind, Sem.run_pure, Result.andThen_ok]
    simpa [Instr.loadAt, Instr.sureAddr] using g1

theorem run_readRs {c : Ctx} {N : Nat} {H : AHeap} {α : AF} {a : Act} (hs : St c H) (ha : ARep c N α a) : ∀ rs : List ResultVar, aresAll P α H rs → ∃ vs : List Value, (rs.mapM (readR a)).run P c.w = .ok vs c.w ∧ vs.length = rs.length ∧
      ∀ (i : Nat) (x : AV) (v : Value), (rs.map fun r => (ares P α H r).v)[i]? = some x → vs[i]? = some v → Rep c x v
  | [], _ => ⟨[], by simp, rfl, by simp⟩
  | r :: rs, h => by
    obtain ⟨vs, h1, h2, h3⟩ := run_readRs hs ha rs h.2
    obtain ⟨v, g1, g2⟩ := run_readR (P := P) hs ha r h.1
    refine ⟨v :: vs, ?_, by simp [h2], fun i x u hi hu => ?_⟩
    · simp only [List.mapM_cons, Sem.run_bind, g1, Result.andThen_ok, h1, Sem.run_pure]
    · cases i with
      | zero => simp at hi hu; subst hi; subst hu; exact g2
      | succ i => exact h3 i x u (by simpa using hi) (by simpa using hu)

theorem run_results {c : Ctx} {N : Nat} {H : AHeap} {α : AF} {a : Act} {fn : Func} (hs : St c H) (ha : ARep c N α a) (h : aresAll P α H fn.results.toList) :
    ∃ v, (results fn a.tmps).run P c.w = .ok v c.w ∧ Rep c (retV (fn.results.toList.map fun r => (ares P α H r).v)) v := by
  obtain ⟨vs, h1, h2, h3⟩ := run_readRs (P := P) hs ha fn.results.toList h
  have hres : (results fn a.tmps).run P c.w = .ok (if hh : vs.toArray.size = 1 then vs.toArray[0] else .tuple vs.toArray) c.w := by
    have e : results fn a.tmps = (do
        let vs ← fn.results.mapM (readR a)
        pure (if h : vs.size = 1 then vs[0] else .tuple vs)) := by
      unfold results
      congr 1
    rw [e]
    simp only [Sem.run_bind, Array.mapM_eq_mapM_toList, Sem.run_map, h1]
    rfl
  refine ⟨_, hres, ?_⟩
  by_cases hl : vs.length = 1
  · match vs, hl, h2, h3 with
    | [v], _, h2, h3 =>
      have hl1 : fn.results.toList.length = 1 := by simpa using h2.symm
      match hr : fn.results.toList, hl1 with
      | [r], _ =>
        rw [hr] at h3
        exact h3 0 _ _ rfl rfl
  · rw [dif_neg (by simpa using hl)]
    have : retV (fn.results.toList.map fun r => (ares P α H r).v) = .tup (fn.results.toList.map fun r => (ares P α H r).v) := by
      unfold retV
      split
      · rename_i v hv
        have := congrArg List.length hv
        simp at this
        simp at h2
        omega
      · rfl
    rw [this]
    exact .tup _ _ (by simpa using h2) (fun i x v hi hv => h3 i x v hi (by simpa using hv))

theorem acalls_of_aw {f : FuncId} {fn : Func} {code : Code} {args : List AV} {H : AHeap} {R : AV → AHeap → Prop} (hf : P.funcs[f]? = some fn) (hb : fn.body = some code) (hn : args.length ≤ fn.ntmps)
    (h : aw P fn.ntmps code (retQ P fn.results.toList R) (frameOf 0 args) H) : ACalls P f args H R := by
  intro c vs hs ⟨hl, hr⟩
  refine calls_of_wp hf hb ?_
  have ha : ARep c fn.ntmps (frameOf 0 args) { tmps := vs ++ Array.replicate (fn.ntmps - vs.size) undef, defers := [] } := by
    refine ⟨by simp; omega, rfl, fun t => ?_⟩
    rw [look_frameOf, if_pos (Nat.zero_le _), Nat.sub_zero]
    by_cases ht : t < args.length
    · have hx : args[t]? = some args[t] := List.getElem?_eq_getElem ht
      have hv : vs[t]? = some (vs[t]'(by omega)) := Array.getElem?_eq_getElem (by omega)
      rw [getD_eq _ _ _ _ hx]
      have : (vs ++ Array.replicate (fn.ntmps - vs.size) undef).getD t undef = vs[t]'(by omega) := by
        rw [Array.getD_eq_getD_getElem?, Array.getElem?_append_left (by omega), hv]; rfl
      rw [this]
      exact hr t _ _ hx hv
    · have : args.getD t .top = .top := by rw [List.getD_eq_getElem?_getD, List.getElem?_eq_none (by omega)]; rfl
      rw [this]
      exact .top _
  refine wp_mono (h c _ hs ha) fun e a' w' ⟨c', α', H', e1, e2, e3, e4, e5⟩ => ?_
  subst e1
  cases e <;> simp only [retQ] at e5
  case normal =>
    obtain ⟨v, g1, g2⟩ := run_results (P := P) e2 e4 e5.1
    exact ⟨e4.defers, v, g1, c', _, v, H', rfl, rfl, e2, e3, g2, e5.2⟩
  case ret =>
    obtain ⟨v, g1, g2⟩ := run_results (P := P) e2 e4 e5.1
    exact ⟨e4.defers, v, g1, c', _, v, H', rfl, rfl, e2, e3, g2, e5.2⟩

/-! ### What was made becomes fixed -/

/-- Nothing of it leads to a block from `n` on. -/
inductive Cl (n : Nat) : AV → Prop
  | int (k m) : Cl n (.int k m)
  | bool (b) : Cl n (.bool b)
  | str (s) : Cl n (.str s)
  | agg (cs : List AV) (h : ∀ (i : Nat) (x : AV), cs[i]? = some x → Cl n x) : Cl n (.agg cs)
  | tup (cs : List AV) (h : ∀ (i : Nat) (x : AV), cs[i]? = some x → Cl n x) : Cl n (.tup cs)
  | sl (full) (es : List AV) (h : ∀ (k : Nat) (e : AV) (j : Nat) (x : AV), es[k]? = some e → e.cells[j]? = some x → Cl n x) : Cl n (.sl full es)
  | cptr (cs : List AV) (h : ∀ (i : Nat) (x : AV), cs[i]? = some x → Cl n x) : Cl n (.cptr cs)
  | ref (i v off) (h : i < n) : Cl n (.ref i v off)
  | osl (s i v off len lc) (h : i < n) : Cl n (.osl s i v off len lc)
  | nilptr : Cl n .nilptr
  | map (i) (h : i < n) : Cl n (.map i)
  | nilmap : Cl n .nilmap
  | iter (i) (h : i < n) : Cl n (.iter i)
  | func (fn) (fs cs : List AV) (h1 : ∀ (i : Nat) (x : AV), fs[i]? = some x → Cl n x) (h2 : ∀ (i : Nat) (x : AV), cs[i]? = some x → Cl n x) : Cl n (.func fn fs cs)
  | nilfunc : Cl n .nilfunc
  | iface (t x) (h : Cl n x) : Cl n (.iface t x)
  | nilIface : Cl n .nilIface
  | opt (g x) (h : g = true → Cl n x) : Cl n (.opt g x)
  | top : Cl n .top

theorem get_of_len {α β : Type} {l : List α} {a : Array β} (h : a.size = l.length) {i : Nat} {x : α} (hx : l[i]? = some x) : ∃ v, a[i]? = some v := by
  have := (List.getElem?_eq_some_iff.1 hx).1
  exact ⟨_, Array.getElem?_eq_getElem (by omega)⟩

theorem Rep.cl {c : Ctx} {x : AV} {v : Value} (h : Rep c x v) : Cl c.n x := by
  induction h with
  | int k n _ => exact .int k n
  | bool b => exact .bool b
  | str s _ => exact .str s
  | agg cs vs hl _ ih => exact .agg cs fun i x hx => let ⟨v, hv⟩ := get_of_len hl hx; ih i x v hx hv
  | tup cs vs hl _ ih => exact .tup cs fun i x hx => let ⟨v, hv⟩ := get_of_len hl hx; ih i x v hx hv
  | sl full es base len cap s vs _ _ _ _ _ _ _ ih => exact .sl full es ih
  | cptr cs a vs _ _ _ _ ih => exact .cptr cs ih
  | ref i v off val hi => exact .ref i v off hi
  | osl s i v off len lc val hi => exact .osl s i v off len lc hi
  | nilptr => exact .nilptr
  | map i val hi => exact .map i hi
  | nilmap => exact .nilmap
  | iter i val hi => exact .iter i hi
  | func fn fs cs vf vc hf hc _ _ ih1 ih2 => exact .func fn fs cs (fun i x hx => let ⟨v, hv⟩ := get_of_len hf hx; ih1 i x v hx hv) (fun i x hx => let ⟨v, hv⟩ := get_of_len hc hx; ih2 i x v hx hv)
  | nilfunc => exact .nilfunc
  | iface t x v _ ih => exact .iface t x ih
  | nilIface => exact .nilIface
  | opt g x v _ _ ih => exact .opt g x ih
  | top v => exact .top

/-- The context without the blocks from `n` on, which are fixed from now on. -/
def Ctx.drop (c : Ctx) (n : Nat) : Ctx :=
  { w := c.w, n := n, blk := c.blk, ver := c.ver, vd := c.vd, stable := fun b => c.stable b ∨ ∃ i, n ≤ i ∧ i < c.n ∧ c.vd i = false ∧ c.blk i = b }

theorem Rep.drop {c : Ctx} {n : Nat} {x : AV} {v : Value} (h : Rep c x v) (hc : Cl n x) : Rep (c.drop n) x v := by
  induction h with
  | int k n hr => exact .int k n hr
  | bool b => exact .bool b
  | str s hr => exact .str s hr
  | agg cs vs hl _ ih => cases hc with | agg _ hh => exact .agg cs vs hl fun i x v h1 h2 => ih i x v h1 h2 (hh i x h1)
  | tup cs vs hl _ ih => cases hc with | tup _ hh => exact .tup cs vs hl fun i x v h1 h2 => ih i x v h1 h2 (hh i x h1)
  | sl full es base len cap s vs h1 h2 h3 h4 h5 _ hmax ih =>
    cases hc with
    | sl _ _ hh => exact .sl full es base len cap s vs h1 h2 h3 (fun hne => let ⟨a, e1, e2, e3, e4⟩ := h4 hne; ⟨a, e1, e2, .inl e3, e4⟩) h5 (fun k e j x g1 g2 => ih k e j x g1 g2 (hh k e j x g1 g2)) hmax
  | cptr cs a vs h1 h2 h3 _ ih => cases hc with | cptr _ hh => exact .cptr cs a vs h1 (.inl h2) h3 fun j x g => ih j x g (hh j x g)
  | ref i v off val hi hv ho h => cases hc with | ref _ _ _ hh => exact .ref i v off val hh hv ho h
  | osl s i v off len lc val hi hv ho hmax h1 h2 => cases hc with | osl _ _ _ _ _ _ hh => exact .osl s i v off len lc val hh hv ho hmax h1 h2
  | nilptr => exact .nilptr
  | map i val hi ho h => cases hc with | map _ hh => exact .map i val hh ho h
  | nilmap => exact .nilmap
  | iter i val hi ho h => cases hc with | iter _ hh => exact .iter i val hh ho h
  | func fn fs cs vf vc hf hcc _ _ ih1 ih2 => cases hc with | func _ _ _ g1 g2 => exact .func fn fs cs vf vc hf hcc (fun i x v h1 h2 => ih1 i x v h1 h2 (g1 i x h1)) (fun i x v h1 h2 => ih2 i x v h1 h2 (g2 i x h1))
  | nilfunc => exact .nilfunc
  | iface t x v _ ih => cases hc with | iface _ _ hh => exact .iface t x v (ih hh)
  | nilIface => exact .nilIface
  | opt g x v _ h2 ih => cases hc with | opt _ _ hh => exact .opt g x v (fun hg => ih hg (hh hg)) h2
  | top v => exact .top v

theorem Ext.drop {c c' : Ctx} (h : Ext c c') : Ext c (c'.drop c.n) :=
  ⟨Nat.le_refl _, h.size, fun b hb => ⟨.inl (h.st b hb).1, (h.st b hb).2⟩, h.ver, h.blk, h.os, h.tape, h.output⟩

/-- What a value is, once the blocks from `n` on are fixed. -/
inductive Frz (n : Nat) (H : AHeap) : AV → AV → Prop
  | cl (x : AV) (h : Cl n x) : Frz n H x x
  | agg (cs ds : List AV) (hl : cs.length = ds.length) (h : ∀ (i : Nat) (x y : AV), cs[i]? = some x → ds[i]? = some y → Frz n H x y) : Frz n H (.agg cs) (.agg ds)
  | tup (cs ds : List AV) (hl : cs.length = ds.length) (h : ∀ (i : Nat) (x y : AV), cs[i]? = some x → ds[i]? = some y → Frz n H x y) : Frz n H (.tup cs) (.tup ds)
  | osl (s i v off len lc : Nat) (cs es : List AV) (hn : n ≤ i) (hh : hget H i = .cells v cs) (hl : es.length = len) (hle : off + len * s ≤ cs.length) (hs : ∀ e ∈ es, e.cells.length = s)
      (h : ∀ (k j : Nat) (e x y : AV), es[k]? = some e → e.cells[j]? = some y → cs[off + (k * s + j)]? = some x → Frz n H x y) : Frz n H (.osl s i v off len lc) (.sl false es)
  | iface (t x y) (h : Frz n H x y) : Frz n H (.iface t x) (.iface t y)
  | slw (full : Bool) (es : List AV) (h : Cl n (.sl full es)) : Frz n H (.sl full es) (.sl false es)
  | any (x : AV) : Frz n H x .top

theorem Frz.sound {c : Ctx} {n : Nat} {H : AHeap} (hst : St c H) {x y : AV} (h : Frz n H x y) : ∀ {v : Value}, Rep c x v → Rep (c.drop n) y v := by
  induction h with
  | cl x h => exact fun hr => hr.drop h
  | agg cs ds hl _ ih =>
    intro v hr
    obtain ⟨vs, rfl, h1, h2⟩ := hr.agg_inv
    refine .agg ds vs (by omega) fun i y v hy hv => ?_
    have hlt := (List.getElem?_eq_some_iff.1 hy).1
    have hx : cs[i]? = some (cs[i]'(by omega)) := List.getElem?_eq_getElem (by omega)
    exact ih i _ y hx hy (h2 i _ v hx hv)
  | tup cs ds hl _ ih =>
    intro v hr
    obtain ⟨vs, rfl, h1, h2⟩ := hr.tup_inv
    refine .tup ds vs (by omega) fun i y v hy hv => ?_
    have hlt := (List.getElem?_eq_some_iff.1 hy).1
    have hx : cs[i]? = some (cs[i]'(by omega)) := List.getElem?_eq_getElem (by omega)
    exact ih i _ y hx hy (h2 i _ v hx hv)
  | osl s i v off len lc cs es hn hh hl hle hs _ ih =>
    intro val hr
    have hver := hst.ver_eq hh
    obtain ⟨base, cap, rfl, g1, g1', g2, g3⟩ := hr.osl_inv hver
    have hin : i < c.n := by rw [hst.n]; exact hget_lt hh trivial
    cases hd : c.vd i with
    | true =>
      obtain ⟨rfl, rfl⟩ := g2 hd
      have : es = [] := List.eq_nil_of_length_eq_zero hl
      subst this
      exact .sl _ _ _ _ _ s (fun _ _ => undef) rfl (Nat.le_refl _) (fun h => by cases h) (fun h => absurd rfl h) (by simp) (by simp) (by omega)
    | false =>
      obtain ⟨p1, m, p2, p3⟩ := g3 hd
      obtain ⟨_, _, vs, e, fr, hb, hl', hf, hrr⟩ := hst.cells hh hd
      refine .sl _ _ _ _ _ s (fun k j => vs.getD (off + (k * s + j)) undef) hl.symm (by omega) (fun h => by cases h) (fun hne => ?_) hs (fun k x j y hk hj => ?_) (by have := hr.osl_R; omega)
      · have hlen : 0 < len := by rw [← hl]; exact List.length_pos_iff.2 hne
        have hbase : base = some ⟨c.blk i, off, none⟩ := p1.resolve_left (by omega)
        refine ⟨_, hbase, rfl, .inr ⟨i, hn, hin, hd, rfl⟩, fun k j hk hj => ?_⟩
        have h5 : k * s + j < len * s := by
          have : (k + 1) * s ≤ len * s := Nat.mul_le_mul_right s (by omega)
          rw [Nat.add_mul] at this
          omega
        have hlt : off + (k * s + j) < vs.size := by omega
        rw [add_mk]
        show (c.w.cell? _) = _
        rw [cell_cells hb]
        simp [hlt]
      · have hk' := (List.getElem?_eq_some_iff.1 hk).1
        have hj' := (List.getElem?_eq_some_iff.1 hj).1
        have hsz := hs x (List.mem_of_getElem? hk)
        have h5 : k * s + j < len * s := by
          have : (k + 1) * s ≤ len * s := Nat.mul_le_mul_right s (by omega)
          rw [Nat.add_mul] at this
          omega
        have hc : cs[off + (k * s + j)]? = some (cs[off + (k * s + j)]'(by omega)) := List.getElem?_eq_getElem (by omega)
        refine ih k j x _ y hk hj hc (hrr _ _ _ hc ?_)
        simp [show off + (k * s + j) < vs.size by omega]
  | iface t x y _ ih =>
    intro v hr
    cases hr with
    | iface _ _ v' hv => exact .iface t y v' (ih hv)
  | slw full es h =>
    intro v hr
    have hd := hr.drop h
    cases hd with
    | sl _ _ base len cap s vs h1 h2 h3 h4 h5 h6 h7 => exact .sl false es base len cap s vs h1 h2 (fun h => by cases h) h4 h5 h6 h7
  | any x => exact fun _ => .top _

/-- The blocks from `n` on are dropped: those that lie ahead are as they were at the beginning. -/
theorem St.drop {c c₀ : Ctx} {H L : AHeap} (h0 : St c₀ H) (_ : Ext c₀ c) (hst : St c (H ++ L)) : St (c.drop c₀.n) H where
  n := h0.n
  lt := fun i hi hd => by
    have hi' : i < c₀.n := hi
    have := h0.n
    exact hst.lt i (by rw [hst.n]; simp; omega) hd
  inj := fun i j b b' hi hj hb hb' di dj he => by
    have h1 := (List.getElem?_eq_some_iff.1 hi).1
    have h2 := (List.getElem?_eq_some_iff.1 hj).1
    exact hst.inj i j b b' (by rw [List.getElem?_append_left h1]; exact hi) (by rw [List.getElem?_append_left h2]; exact hj) hb hb' di dj he
  st := fun k hk => by
    have hn0 := h0.n
    have hn := hst.n
    rcases hk with hk | ⟨i, h1, h2, h3, rfl⟩
    · obtain ⟨g1, g2⟩ := hst.st k hk
      refine ⟨g1, fun i b hi hb hd => ?_⟩
      have h1 := (List.getElem?_eq_some_iff.1 hi).1
      exact g2 i b (by rw [List.getElem?_append_left h1]; exact hi) hb hd
    · refine ⟨hst.lt i h2 h3, fun j b hj hb hd e => ?_⟩
      have hj' := (List.getElem?_eq_some_iff.1 hj).1
      have hi : (H ++ L)[i]? = some ((H ++ L)[i]'(by rw [← hn]; exact h2)) := List.getElem?_eq_getElem _
      have hbi := hst.rep i _ hi
      have hlive : ((H ++ L)[i]'(by rw [← hn]; exact h2)).live := by
        generalize (H ++ L)[i]'(by rw [← hn]; exact h2) = B at hbi
        cases hbi with
        | gone hd' => rw [h3] at hd'; cases hd'
        | _ => trivial
      have := hst.inj j i b _ (by rw [List.getElem?_append_left hj']; exact hj) hi hb hlive hd h3 e
      omega
  rep := fun i b hi => by
    have hi' := (List.getElem?_eq_some_iff.1 hi).1
    have hn0 := h0.n
    have h1 := hst.rep i b (by rw [List.getElem?_append_left hi']; exact hi)
    have h2 := h0.rep i b hi
    cases h1 with
    | cells ver cs vs e fr hv hd hh hl hf hr =>
      refine .cells ver cs vs e fr hv hd hh hl hf fun j x v hx hv' => (hr j x v hx hv').drop ?_
      cases h2 with
      | cells _ _ vs' e' fr' _ _ _ hl' _ hr' =>
        have hj := (List.getElem?_eq_some_iff.1 hx).1
        exact (hr' j x _ hx (Array.getElem?_eq_getElem (by omega))).cl
      | void => simp at hx
    | void ver hv hd => exact .void ver hv hd
    | map es clock ents hv hd hh hl hr =>
      refine .map es clock ents hv hd hh hl fun j p e hp he => ?_
      obtain ⟨g1, g2, g3⟩ := hr j p e hp he
      cases h2 with
      | map _ _ ents' _ _ _ hl' hr' =>
        have hj := (List.getElem?_eq_some_iff.1 hp).1
        obtain ⟨q1, q2, -⟩ := hr' j p _ hp (Array.getElem?_eq_getElem (by omega))
        exact ⟨g1.drop q1.cl, g2.drop q2.cl, g3⟩
    | miter m since seen stepped hv hd hm hmv hmd hh =>
      cases h2 with
      | miter _ _ _ _ _ _ hm' => exact .miter m since seen stepped hv hd hm' hmv hmd hh
    | siter s pos hv hd hh hsl => exact .siter s pos hv hd hh hsl
    | gone hd => exact .gone hd

/-- A call that leaves the heap alone, and whose result is fixed. -/
theorem fn_of_aw {f : FuncId} {fn : Func} {code : Code} {args : List AV} {H : AHeap} {R : AV → Prop} (hf : P.funcs[f]? = some fn) (hb : fn.body = some code) (hn : args.length ≤ fn.ntmps)
    (h : aw P fn.ntmps code (retQ P fn.results.toList fun v H' => ∃ L y, H' = H ++ L ∧ Frz H.length H' v y ∧ R y) (frameOf 0 args) H) : ACalls P f args H (fun y H' => R y ∧ H' = H) := by
  intro c vs hs ha
  refine (acalls_of_aw hf hb hn h c vs hs ha).mono fun e w' ⟨c', x, v, H', e1, e2, e3, e4, e5, L, y, e6, e7, e8⟩ => ?_
  subst e6
  refine ⟨c'.drop c.n, y, v, H, e1, e2, hs.drop e4 e3, e4.drop, ?_, e8, rfl⟩
  have := e7.sound e3 e5
  rwa [← hs.n] at this

end Go.Aw
