/- The abstract machine: the end of a function, what may be known less exactly, calls that change the heap. No condition. -/
import Derived.Test.YtoffonjlfomnbaaAvOk
namespace Go.Aw
open Go
set_option linter.unusedVariables false
variable {P : Program}

/-! ### Known less exactly -/

/-- The same value, of which less may be told: a slice of which it is not told that it has no room. -/
inductive Sim : AV → AV → Prop
  | refl (x : AV) : Sim x x
  | sl (f : Bool) (es : List AV) : Sim (.sl f es) (.sl false es)
  | agg (cs ds : List AV) (hl : cs.length = ds.length) (h : ∀ (i : Nat) (x y : AV), cs[i]? = some x → ds[i]? = some y → Sim x y) : Sim (.agg cs) (.agg ds)
  | tup (cs ds : List AV) (hl : cs.length = ds.length) (h : ∀ (i : Nat) (x y : AV), cs[i]? = some x → ds[i]? = some y → Sim x y) : Sim (.tup cs) (.tup ds)
  | top (x : AV) : Sim x .top

theorem Sim.of {x y : AV} (h : x = y) : Sim x y := h ▸ .refl x
theorem sims_nil : ∀ (i : Nat) (x y : AV), ([] : List AV)[i]? = some x → ([] : List AV)[i]? = some y → Sim x y := fun _ _ _ h => by simp at h
theorem sims_cons {a b : AV} {cs ds : List AV} (h : Sim a b) (hs : ∀ (i : Nat) (x y : AV), cs[i]? = some x → ds[i]? = some y → Sim x y) : ∀ (i : Nat) (x y : AV), (a :: cs)[i]? = some x → (b :: ds)[i]? = some y → Sim x y
  | 0, x, y, hx, hy => by simp at hx hy; subst hx; subst hy; exact h
  | i + 1, x, y, hx, hy => hs i x y (by simpa using hx) (by simpa using hy)

theorem Rep.sim {c : Ctx} {x y : AV} (h : Sim x y) : ∀ {v : Value}, Rep c x v → Rep c y v := by
  induction h with
  | refl x => exact fun h => h
  | sl f es => intro v hr; cases hr with | sl _ _ base len cap s vs h1 h2 h3 h4 h5 h6 h7 => exact .sl false es base len cap s vs h1 h2 (fun h => by cases h) h4 h5 h6 h7
  | agg cs ds hl _ ih =>
    intro v hr
    cases hr with
    | agg _ vs h1 h2 =>
      refine .agg ds vs (by omega) fun i y u hy hu => ?_
      have hlt := (List.getElem?_eq_some_iff.1 hy).1
      have hx : cs[i]? = some (cs[i]'(by omega)) := List.getElem?_eq_getElem (by omega)
      exact ih i _ y hx hy (h2 i _ u hx hu)
  | tup cs ds hl _ ih =>
    intro v hr
    cases hr with
    | tup _ vs h1 h2 =>
      refine .tup ds vs (by omega) fun i y u hy hu => ?_
      have hlt := (List.getElem?_eq_some_iff.1 hy).1
      have hx : cs[i]? = some (cs[i]'(by omega)) := List.getElem?_eq_getElem (by omega)
      exact ih i _ y hx hy (h2 i _ u hx hu)
  | top x => exact fun _ => .top _

theorem acalls_sim {f : FuncId} {args : List AV} {H : AHeap} {R : AV → AHeap → Prop} {x : AV} (h : ACalls P f args H (fun x' H' => x' = x ∧ R x H')) {y : AV} (hs : Sim x y) : ACalls P f args H (fun x' H' => x' = y ∧ R x H') :=
  fun c vs hst ha => (h c vs hst ha).mono fun _ _ ⟨c', x', v, H', e1, e2, e3, e4, e5, e6, e7⟩ => ⟨c', y, v, H', e1, e2, e3, e4, (e6 ▸ e5).sim hs, rfl, e7⟩
theorem fnC_sim {f : FuncId} {args : List AV} {H : AHeap} {x y : AV} (h : FnC P f args H x) (hs : Sim x y) : FnC P f args H y :=
  fun c vs hst ha => (h c vs hst ha).mono fun _ _ ⟨c', x', v, H', e1, e2, e3, e4, e5, e6, e7⟩ => ⟨c', y, v, H', e1, e2, e3, e4, (e6 ▸ e5).sim hs, rfl, e7⟩

theorem aw_sim {N : Nat} {code : Code} {Q : APost} {α : AF} {H : AHeap} (t : Nat) {x y : AV} (hx : look α t = x) (hs : Sim x y) (h : aw P N code Q ((t, y) :: α) H) : aw P N code Q α H := by
  intro c a hst ha
  refine h c a hst ⟨ha.size, ha.defers, fun u => ?_⟩
  rw [look]
  by_cases e : t = u
  · subst e
    rw [beq_self_eq_true, cond_true]
    exact (hx ▸ ha.rep t).sim hs
  · have hb : (t == u) = false := by simpa using e
    rw [hb, cond_false]
    exact ha.rep u

theorem St.simCells {c : Ctx} {H : AHeap} (hst : St c H) {i v : Nat} {cs ds : List AV} (hh : hget H i = .cells v cs) (hl : cs.length = ds.length) (hs : ∀ (i : Nat) (x y : AV), cs[i]? = some x → ds[i]? = some y → Sim x y) : St c (hset H i (.cells v ds)) := by
  have hi := hget_some hh trivial
  have hlt := hget_lt hh trivial
  have hget : ∀ {j : Nat} {b : ABlk}, (hset H i (.cells v ds))[j]? = some b → (j = i ∧ b = .cells v ds) ∨ (j ≠ i ∧ H[j]? = some b) := by
    intro j b hj
    by_cases e : j = i
    · subst e
      rw [hset, List.getElem?_set_self hlt] at hj
      cases hj; exact .inl ⟨rfl, rfl⟩
    · rw [hset, List.getElem?_set_ne (fun q => e q.symm)] at hj
      exact .inr ⟨e, hj⟩
  have hget' : ∀ {j : Nat} {b : ABlk}, (hset H i (.cells v ds))[j]? = some b → b.live → ∃ b' : ABlk, H[j]? = some b' ∧ b'.live := by
    intro j b hj hb
    rcases hget hj with ⟨rfl, rfl⟩ | ⟨_, h⟩
    · exact ⟨_, hi, trivial⟩
    · exact ⟨_, h, hb⟩
  refine ⟨by simp [hset, hst.n], hst.lt, fun j k b b' hj hk hb hb' dj dk he => ?_, fun k hk => ?_, fun j b hj => ?_⟩
  · obtain ⟨b1, g1, g2⟩ := hget' hj hb
    obtain ⟨b2, g3, g4⟩ := hget' hk hb'
    exact hst.inj j k b1 b2 g1 g3 g2 g4 dj dk he
  · obtain ⟨h1, h2⟩ := hst.st k hk
    refine ⟨h1, fun j b hj hb dj => ?_⟩
    obtain ⟨b1, g1, g2⟩ := hget' hj hb
    exact h2 j b1 g1 g2 dj
  · rcases hget hj with ⟨rfl, rfl⟩ | ⟨_, h⟩
    · have hr := hst.rep j _ hi
      cases hr with
      | cells _ _ vs e fr q1 q2 q3 q4 q5 q6 =>
        refine .cells _ _ vs e fr q1 q2 q3 (by omega) q5 fun m y u hy hu => ?_
        have hlt2 := (List.getElem?_eq_some_iff.1 hy).1
        have hx : cs[m]? = some (cs[m]'(by omega)) := List.getElem?_eq_getElem (by omega)
        exact (q6 m _ u hx hu).sim (hs m _ y hx hy)
      | void _ q1 q2 =>
        have : ds = [] := List.eq_nil_of_length_eq_zero (by simpa using hl.symm)
        subst this
        exact .void _ q1 q2
    · exact hst.rep j b h

theorem aw_simH {N : Nat} {code : Code} {Q : APost} {α : AF} {H : AHeap} (i : Nat) {v : Nat} {cs : List AV} (ds : List AV) (hh : hget H i = .cells v cs) (hl : cs.length = ds.length) (hs : ∀ (i : Nat) (x y : AV), cs[i]? = some x → ds[i]? = some y → Sim x y) (h : aw P N code Q α (hset H i (.cells v ds))) : aw P N code Q α H :=
  fun c a hst ha => h c a (hst.simCells hh hl hs) ha

/-! ### A slice that is none yet gets a block of its own -/
theorem aw_void {N : Nat} {code : Code} {Q : APost} {α : AF} {H : AHeap} (t s : Nat) (hx : look α t = .sl true []) (h : aw P N code Q ((t, .osl s H.length 1 0 0 0) :: α) (H ++ [.cells 1 []])) : aw P N code Q α H := by
  intro c a hst ha
  have hv := Ext.void c
  refine wp_mono (h c.void a hst.void ⟨ha.size, ha.defers, fun u => ?_⟩) fun _ _ _ ⟨c', α', H', e1, e2, e3, e4, e5⟩ => ⟨c', α', H', e1, e2, hv.trans e3, e4, e5⟩
  rw [look]
  by_cases e : t = u
  · subst e
    rw [beq_self_eq_true, cond_true]
    have hr := ha.rep t
    rw [hx] at hr
    generalize a.tmps.getD t undef = val at hr
    cases hr with
    | sl _ _ base len cap s' vs h1 h2 h3 h4 h5 h6 h7 =>
      have hcap := h3 rfl
      simp at h1
      subst h1
      subst hcap
      exact .osl _ _ _ _ _ _ _ (by simp [Ctx.void, hst.n]) (by simp [Ctx.void, hst.n]) rfl (by omega) (fun _ _ => ⟨rfl, rfl, base, rfl⟩) (fun _ hd => by simp [Ctx.void, hst.n] at hd)
  · have hb : (t == u) = false := by simpa using e
    rw [hb, cond_false]
    exact (ha.rep u).mono hv

/-! ### Values that do not lie in the heap -/
inductive Pur : AV → Prop
  | int (k n) : Pur (.int k n)
  | bool (b) : Pur (.bool b)
  | str (s) : Pur (.str s)
  | agg (cs : List AV) (h : ∀ x ∈ cs, Pur x) : Pur (.agg cs)
  | tup (cs : List AV) (h : ∀ x ∈ cs, Pur x) : Pur (.tup cs)
  | sl (f) (es : List AV) (h : ∀ x ∈ es, Pur x) : Pur (.sl f es)
  | nilptr : Pur .nilptr
  | nilmap : Pur .nilmap
  | nilfunc : Pur .nilfunc
  | iface (t x) (h : Pur x) : Pur (.iface t x)
  | nilIface : Pur .nilIface
  | top : Pur .top

theorem Pur.cells {x : AV} (h : Pur x) : ∀ y ∈ x.cells, Pur y := by
  cases h <;> first
    | (rename_i h; exact h)
    | (intro y hy; simp only [AV.cells, List.mem_singleton] at hy; subst hy; constructor; done)
    | (rename_i h; intro y hy; simp only [AV.cells, List.mem_singleton] at hy; subst hy; constructor; exact h)

theorem Pur.cl {x : AV} (h : Pur x) (n : Nat) : Cl n x := by
  induction h with
  | int k m => exact .int k m
  | bool b => exact .bool b
  | str s => exact .str s
  | agg cs _ ih => exact .agg cs fun i x hx => ih x (List.mem_of_getElem? hx)
  | tup cs _ ih => exact .tup cs fun i x hx => ih x (List.mem_of_getElem? hx)
  | sl f es _ ih =>
    refine .sl f es fun k e j x hk hj => ?_
    have h1 := ih e (List.mem_of_getElem? hk)
    have key : ∀ e : AV, Cl n e → ∀ x ∈ e.cells, Cl n x := by
      intro e he x hx
      cases e with
      | agg cs => cases he with | agg _ hh => obtain ⟨i, hi⟩ := mem_get hx; exact hh i x hi
      | _ => simp only [AV.cells, List.mem_singleton] at hx; subst hx; exact he
    exact key e h1 x (List.mem_of_getElem? hj)
  | nilptr => exact .nilptr
  | nilmap => exact .nilmap
  | nilfunc => exact .nilfunc
  | iface t x _ ih => exact .iface t x ih
  | nilIface => exact .nilIface
  | top => exact .top

section
variable (k : IntKind) (n : Int) (b f : Bool) (s : List UInt8) (cs : List AV) (t : TypeId) (x : AV)
theorem pur_int : Pur (.int k n) = True := eq_true (.int k n)
theorem pur_bool : Pur (.bool b) = True := eq_true (.bool b)
theorem pur_str : Pur (.str s) = True := eq_true (.str s)
theorem pur_agg : Pur (.agg cs) = ∀ x ∈ cs, Pur x := propext ⟨fun h => by cases h; assumption, .agg cs⟩
theorem pur_tup : Pur (.tup cs) = ∀ x ∈ cs, Pur x := propext ⟨fun h => by cases h; assumption, .tup cs⟩
theorem pur_sl : Pur (.sl f cs) = ∀ x ∈ cs, Pur x := propext ⟨fun h => by cases h; assumption, .sl f cs⟩
theorem pur_iface : Pur (.iface t x) = Pur x := propext ⟨fun h => by cases h; assumption, .iface t x⟩
theorem pur_nilI : Pur .nilIface = True := eq_true .nilIface
end

theorem Sim.frz {n : Nat} {H : AHeap} {x y : AV} (h : Sim x y) : Pur x → Frz n H x y := by
  induction h with
  | refl x => exact fun hp => .cl x (hp.cl n)
  | sl f es => exact fun hp => .slw f es (hp.cl n)
  | agg cs ds hl _ ih => exact fun hp => .agg cs ds hl fun i x y hx hy => ih i x y hx hy (by cases hp with | agg _ h => exact h x (List.mem_of_getElem? hx))
  | tup cs ds hl _ ih => exact fun hp => .tup cs ds hl fun i x y hx hy => ih i x y hx hy (by cases hp with | tup _ h => exact h x (List.mem_of_getElem? hx))
  | top x => exact fun _ => .any x

/-- The end of a function. -/
theorem done {n : Nat} {H L : AHeap} {v x : AV} (hp : Pur v) (hs : Sim v x) : ∃ L' y, H ++ L = H ++ L' ∧ Frz n (H ++ L) v y ∧ y = x := ⟨L, x, rfl, hs.frz hp, rfl⟩
theorem done0 {n : Nat} {H : AHeap} {v x : AV} (hp : Pur v) (hs : Sim v x) : ∃ L' y, H = H ++ L' ∧ Frz n H v y ∧ y = x := ⟨[], x, (List.append_nil H).symm, hs.frz hp, rfl⟩

theorem doneG {n : Nat} {H L G M : AHeap} {v x : AV} (hG : H ++ L = G) (hp : Pur v) (hs : Sim v x) : ∃ L' y, G ++ M = H ++ L' ∧ Frz n (G ++ M) v y ∧ y = x := ⟨L ++ M, x, by rw [← hG, List.append_assoc], hs.frz hp, rfl⟩
theorem doneG0 {n : Nat} {H L G : AHeap} {v x : AV} (hG : H ++ L = G) (hp : Pur v) (hs : Sim v x) : ∃ L' y, G = H ++ L' ∧ Frz n G v y ∧ y = x := ⟨L, x, hG.symm, hs.frz hp, rfl⟩
theorem growG {H L G M : AHeap} (hG : H ++ L = G) : G ++ M = H ++ (L ++ M) := by rw [← hG, List.append_assoc]

theorem frz_osl {n : Nat} {H : AHeap} {i v s k lc : Nat} {cs es rest : List AV} (hn : n ≤ i) (hh : hget H i = .cells v cs) (hcs : cs = es.flatMap AV.cells ++ rest) (hk : es.length = k) (hs : ∀ e ∈ es, e.cells.length = s) (hp : ∀ e ∈ es, Pur e) :
    Frz n H (.osl s i v 0 k lc) (.sl false es) := by
  have hf := flat_len hs
  refine .osl s i v 0 k lc cs es hn hh hk (by rw [hcs, List.length_append, hf, hk]; omega) hs fun k j e x y he hy hx => ?_
  have h1 := flat_get hs he hy
  have hlt := (List.getElem?_eq_some_iff.1 h1).1
  rw [Nat.zero_add, hcs, List.getElem?_append_left hlt, h1] at hx
  cases hx
  exact .cl _ ((Pur.cells (hp e (List.mem_of_getElem? he)) _ (List.mem_of_getElem? hy)).cl n)

theorem doneOsl {H L : AHeap} {i v s k lc : Nat} {cs es rest : List AV} {x : AV} (hn : H.length ≤ i) (hh : hget (H ++ L) i = .cells v cs) (hcs : cs = es.flatMap AV.cells ++ rest) (hk : es.length = k) (hs : ∀ e ∈ es, e.cells.length = s) (hp : ∀ e ∈ es, Pur e) (hx : x = .sl false es) :
    ∃ L' y, H ++ L = H ++ L' ∧ Frz H.length (H ++ L) (.osl s i v 0 k lc) y ∧ y = x := ⟨L, x, rfl, by rw [hx]; exact frz_osl hn hh hcs hk hs hp, rfl⟩

/-! ### Functions that change the heap -/
def ClB (n : Nat) : ABlk → Prop
  | .cells _ cs => ∀ x ∈ cs, Cl n x
  | .map es _ => ∀ p ∈ es, Cl n p.1 ∧ Cl n p.2.1
  | .miter m _ _ _ => m < n
  | _ => True

theorem St.cl0 {c : Ctx} {H : AHeap} (h : St c H) {i : Nat} {b : ABlk} (hi : H[i]? = some b) : ClB c.n b := by
  cases h.rep i b hi with
  | cells ver cs vs e fr _ _ _ hl _ hr => exact fun x hx => let ⟨j, hj⟩ := mem_get hx; (hr j x _ hj (Array.getElem?_eq_getElem (by have := (List.getElem?_eq_some_iff.1 hj).1; omega))).cl
  | void => exact fun x hx => by simp at hx
  | map es clock ents _ _ _ hl hr => exact fun p hp => let ⟨j, hj⟩ := mem_get hp; let ⟨q1, q2, _⟩ := hr j p _ hj (Array.getElem?_eq_getElem (by have := (List.getElem?_eq_some_iff.1 hj).1; omega)); ⟨q1.cl, q2.cl⟩
  | miter m _ _ _ _ _ hm => exact hm
  | siter => trivial
  | gone => trivial

theorem St.dropG {c : Ctx} {n : Nat} {H L : AHeap} (hn : n = H.length) (hst : St c (H ++ L)) (hcl : ∀ (i : Nat) (b : ABlk), H[i]? = some b → ClB n b) : St (c.drop n) H where
  n := hn
  lt := fun i hi hd => by
    have hi' : i < n := hi
    exact hst.lt i (by rw [hst.n]; simp; omega) hd
  inj := fun i j b b' hi hj hb hb' di dj he => by
    have h1 := (List.getElem?_eq_some_iff.1 hi).1
    have h2 := (List.getElem?_eq_some_iff.1 hj).1
    exact hst.inj i j b b' (by rw [List.getElem?_append_left h1]; exact hi) (by rw [List.getElem?_append_left h2]; exact hj) hb hb' di dj he
  st := fun k hk => by
    have hln := hst.n
    rw [List.length_append] at hln
    rcases hk with hk | ⟨i, h1, h2, h3, rfl⟩
    · obtain ⟨q1, q2⟩ := hst.st k hk
      exact ⟨q1, fun j b hj hb hd => q2 j b (by rw [List.getElem?_append_left (List.getElem?_eq_some_iff.1 hj).1]; exact hj) hb hd⟩
    · refine ⟨hst.lt i h2 h3, fun j b hj hb hd e => ?_⟩
      have hj' := (List.getElem?_eq_some_iff.1 hj).1
      have hlt : i < (H ++ L).length := by rw [List.length_append]; omega
      have hi : (H ++ L)[i]? = some (H ++ L)[i] := List.getElem?_eq_getElem hlt
      by_cases hlive : ((H ++ L)[i]).live
      · have := hst.inj j i b _ (by rw [List.getElem?_append_left hj']; exact hj) hi hb hlive hd h3 e
        omega
      · have hr := hst.rep i _ hi
        generalize (H ++ L)[i] = bi at hr hlive
        cases hr with
        | gone hd' => rw [h3] at hd'; cases hd'
        | _ => exact hlive trivial
  rep := fun i b hi => by
    have hi' := (List.getElem?_eq_some_iff.1 hi).1
    have h1 := hst.rep i b (by rw [List.getElem?_append_left hi']; exact hi)
    have h2 := hcl i b hi
    cases h1 with
    | cells ver cs vs e fr hv hd hh hl hf hr => exact .cells ver cs vs e fr hv hd hh hl hf fun j x v hx hv' => (hr j x v hx hv').drop (h2 x (List.mem_of_getElem? hx))
    | void ver hv hd => exact .void ver hv hd
    | map es clock ents hv hd hh hl hr => exact .map es clock ents hv hd hh hl fun j p e hp he => let ⟨g1, g2, g3⟩ := hr j p e hp he; let ⟨q1, q2⟩ := h2 p (List.mem_of_getElem? hp); ⟨g1.drop q1, g2.drop q2, g3⟩
    | miter m since seen stepped hv hd hm hmv hmd hh => exact .miter m since seen stepped hv hd h2 hmv hmd hh
    | siter s pos hv hd hh hsl => exact .siter s pos hv hd hh hsl
    | gone hd => exact .gone hd

/-- A call that may change the heap; what it made besides is dropped, and becomes fixed. -/
theorem acalls_of {f : FuncId} {fn : Func} {code : Code} {args : List AV} {H : AHeap} {R : AV → AHeap → Prop} (hf : P.funcs[f]? = some fn) (hb : fn.body = some code) (hn : args.length ≤ fn.ntmps)
    (h : aw P fn.ntmps code (retQ P fn.results.toList fun v H' => ∃ H1 L y, H' = H1 ++ L ∧ H1.length = H.length ∧ (∀ (i : Nat) (b : ABlk), H1[i]? = some b → H[i]? = some b ∨ ClB H.length b) ∧ Frz H.length H' v y ∧ R y H1) (frameOf 0 args) H) : ACalls P f args H R := by
  intro c vs hs ha
  refine (acalls_of_aw hf hb hn h c vs hs ha).mono fun e w' ⟨c', x, v, H', e1, e2, e3, e4, e5, H1, L, y, e6, e6', e6'', e7, e8⟩ => ?_
  subst e6
  refine ⟨c'.drop c.n, y, v, H1, e1, e2, St.dropG (by rw [hs.n, e6']) e3 (fun i b hi => ?_), e4.drop, ?_, e8⟩
  · rcases e6'' i b hi with h | h
    · exact hs.cl0 h
    · rw [hs.n]; exact h
  · have := e7.sound e3 e5
    rwa [← hs.n] at this

end Go.Aw
