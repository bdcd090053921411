/- More operations of the abstract machine: parts, texts' bytes, lengths, slices of slices and of texts, conversions, built slices. No condition. -/
import Derived.Test.YtoffonjlfomnbaaAvOpsC
namespace Go.Aw
open Go
set_option linter.unusedSimpArgs false

variable {P : Program}

def afield (P : Program) (t : TypeId) (f : Nat) (x : AV) : BR :=
  match P.underlying t, x with
  | some (.struct fs), .agg cs => match fs[f]? with
    | some fd => apart P fd.type fd.offset cs
    | none => bad
  | _, _ => bad

theorem afield_sound {c : Ctx} {t : TypeId} {f : Nat} {x : AV} {vx : Value} (hx : Rep c x vx) (hs : (afield P t f x).s) (w : World) :
    ∃ v, (Instr.field t vx f).run P w = .ok v w ∧ Rep c (afield P t f x).v v := by
  unfold afield at *
  split at hs
  · rename_i fs cs hu
    cases hf : fs[f]? with
    | none => simp [hf, bad] at hs
    | some fd =>
      simp only [hf] at hs ⊢
      obtain ⟨vs, rfl, h1, h2⟩ := hx.agg_inv
      obtain ⟨v, g1, g2⟩ := apart_sound (P := P) h1 h2 hs
      exact ⟨v, by simp [Instr.field, run_underlying hu, hf, asAgg, g1], g2⟩
  · exact hs.elim

def aindex (P : Program) (t : TypeId) (x ix : AV) : BR :=
  match P.underlying t, x, ix with
  | some .string, .str s, .int _ i => ⟨.int .u8 (s.getD i.toNat 0).toNat, 0 ≤ i ∧ i < s.length⟩
  | some (.array n e), .agg cs, .int _ i => ⟨(apart P e (i.toNat * P.cellsOf e) cs).v, 0 ≤ i ∧ i < n ∧ (apart P e (i.toNat * P.cellsOf e) cs).s⟩
  | _, _, _ => bad

theorem getElem?_mk (s : List UInt8) (i : Nat) : (ByteArray.mk s.toArray)[i]? = s[i]? := by
  by_cases h : i < s.length
  · rw [ByteArray.getElem?_lt' _ _ (by simpa [ByteArray.size] using h), List.getElem?_eq_getElem h]
    rfl
  · rw [ByteArray.getElem?_ge' _ _ (by simpa [ByteArray.size] using h), List.getElem?_eq_none (by omega)]

theorem aindex_sound {c : Ctx} {t : TypeId} {x ix : AV} {vx vi : Value} (hx : Rep c x vx) (hi : Rep c ix vi) (hs : (aindex P t x ix).s) (w : World) :
    ∃ v, (Instr.index t vx vi).run P w = .ok v w ∧ Rep c (aindex P t x ix).v v := by
  unfold aindex at *
  split at hs
  · rename_i s k i hu
    obtain ⟨h0, h1⟩ := hs
    rw [hx.str_inv, hi.int_inv]
    have hlt : i.toNat < s.length := by omega
    have hg : s[i.toNat]? = some s[i.toNat] := List.getElem?_eq_getElem hlt
    rw [getD_eq _ _ _ _ hg]
    refine ⟨_, ?_, .int _ _ (inR_u8.2 ⟨by omega, by have := s[i.toNat].toNat_lt; omega⟩)⟩
    simp [Instr.index, asIntOf, run_underlying hu, h0, getElem?_mk, hg]
  · rename_i n e cs k i hu
    obtain ⟨h0, h1, h2⟩ := hs
    rw [hi.int_inv]
    obtain ⟨vs, rfl, g1, g2⟩ := hx.agg_inv
    obtain ⟨v, q1, q2⟩ := apart_sound (P := P) g1 g2 h2
    have he : ∃ d, P.underlying e = some d := by
      unfold apart at h2
      cases hue : P.underlying e with
      | none => rw [hue] at h2; exact h2.elim
      | some d => exact ⟨d, rfl⟩
    obtain ⟨d, hd⟩ := he
    exact ⟨v, by simp [Instr.index, asIntOf, run_underlying hu, h0, h1, run_sizeOf' hd, q1], q2⟩
  · exact hs.elim

def alen (P : Program) (t : TypeId) (x : AV) (H : AHeap) : BR :=
  match P.underlying t, x with
  | some .string, .str s => ⟨.int .i64 s.length, True⟩
  | some (.slice _), .sl _ es => ⟨.int .i64 es.length, True⟩
  | some (.slice _), .osl s i v off len lc => ⟨.int .i64 len, liveRef H (.osl s i v off len lc)⟩
  | some (.array n _), _ => ⟨.int .i64 n, n ≤ 9223372036854775807⟩
  | some (.map _ _), .nilmap => ⟨.int .i64 0, True⟩
  | some (.map _ _), .map i => match hget H i with
    | .map es _ => ⟨.int .i64 es.length, es.length ≤ 9223372036854775807⟩
    | _ => bad
  | _, _ => bad

theorem run_getObj_obj {w : World} {b : Nat} {o : Obj} (h : w.heap[b]? = some o) (hc : ∀ c e f, o ≠ .cells c e f) : (getObj b).run P w = .ok o w := by
  unfold getObj
  simp only [Sem.run, h]

theorem St.map {c : Ctx} {H : AHeap} (h : St c H) {i : Nat} {es : List (AV × AV × Nat)} {clock : Nat} (hi : hget H i = .map es clock) :
    i < c.n ∧ c.ver i = 0 ∧ c.vd i = false ∧ ∃ ents : Array MapEntry, c.w.heap[c.blk i]? = some (.map ents clock) ∧ ents.size = es.length ∧
      ∀ (j : Nat) (p : AV × AV × Nat) (e : MapEntry), es[j]? = some p → ents[j]? = some e → Rep c p.1 e.key ∧ Rep c p.2.1 e.val ∧ e.born = p.2.2 := by
  have h2 := h.rep i _ (hget_some hi trivial)
  cases h2 with
  | map _ _ ents hv hd hh hl hr => exact ⟨by rw [h.n]; exact hget_lt hi trivial, hv, hd, ents, hh, hl, hr⟩

theorem alen_sound {c : Ctx} {H : AHeap} {t ty : TypeId} {x : AV} {vx : Value} (hst : St c H) (hx : Rep c x vx) (hs : (alen P t x H).s) :
    ∃ v, (Builtin.len_ #[t] ty #[vx]).run P c.w = .ok v c.w ∧ Rep c (alen P t x H).v v := by
  unfold alen at *
  split at hs
  · rename_i s hu
    rw [hx.str_inv]
    exact ⟨_, by simp [Builtin.len_, run_underlying hu, goInt, size_mk], .int _ _ (inR_i64.2 (by have := hx.str_R; omega))⟩
  · rename_i e full es hu
    have hR := hx.sl_R
    obtain ⟨base, len, cap, s, vs, rfl, rfl, -⟩ := hx.sl_inv
    exact ⟨_, by simp [Builtin.len_, run_underlying hu, goInt], .int _ _ (inR_i64.2 (by omega))⟩
  · rename_i e s i v off len lc hu
    have hR := hx.osl_R
    obtain ⟨base, cap, rfl, hle, -⟩ := hx.osl_inv (liveOsl_ver (s := s) (off := off) (len := len) (lc := lc) hst hs)
    exact ⟨_, by simp [Builtin.len_, run_underlying hu, goInt], .int _ _ (inR_i64.2 (by omega))⟩
  · rename_i n e hu
    exact ⟨_, by simp [Builtin.len_, run_underlying hu, goInt], .int _ _ (inR_i64.2 (by omega))⟩
  · rename_i k e hu
    cases hx
    exact ⟨_, by simp [Builtin.len_, run_underlying hu, goInt], .int _ _ (inR_i64.2 (by omega))⟩
  · rename_i k e i hu
    split at hs
    · rename_i es clock hh
      obtain ⟨hi, hv, hd, ents, hb, hl, hr⟩ := hst.map hh
      simp only [hh]
      cases hx with
      | map _ _ _ _ hval =>
        rw [(hval hv).2]
        refine ⟨_, ?_, .int _ _ (inR_i64.2 (by omega))⟩
        have hg := run_getObj_obj (P := P) hb (by simp)
        simp [Builtin.len_, run_underlying hu, hg, goInt, hl]
    · exact hs.elim
  · exact hs.elim

/-! ### Slices of slices, and of texts -/

def optInt : Option AV → Option Int
  | some (.int _ i) => some i
  | _ => none

def aslice (P : Program) (t : TypeId) (x : AV) (lo hi mx : Option AV) (H : AHeap) : BR :=
  match P.underlying t, x, lo, hi, mx with
  | some .string, .str s, none, none, none => ⟨.str s, True⟩
  | some .string, .str s, some (.int _ l), none, none => ⟨.str (s.drop l.toNat), 0 ≤ l ∧ l ≤ s.length⟩
  | some .string, .str s, none, some (.int _ h), none => ⟨.str (s.take h.toNat), 0 ≤ h ∧ h ≤ s.length⟩
  | some .string, .str s, some (.int _ l), some (.int _ h), none => ⟨.str ((s.take h.toNat).drop l.toNat), 0 ≤ l ∧ l ≤ h ∧ h ≤ s.length⟩
  | some (.slice e), .sl full es, none, none, none => ⟨.sl full es, (P.underlying e).isSome = true⟩
  | some (.slice e), .sl full es, some (.int _ l), none, none => ⟨.sl full (es.drop l.toNat), 0 ≤ l ∧ l ≤ es.length ∧ (P.underlying e).isSome = true ∧ ∀ x ∈ es, x.cells.length = P.cellsOf e⟩
  | some (.slice e), .sl _ es, none, some (.int _ h), none => ⟨.sl false (es.take h.toNat), 0 ≤ h ∧ h ≤ es.length ∧ (P.underlying e).isSome = true⟩
  | some (.slice e), .sl _ es, some (.int _ l), some (.int _ h), none => ⟨.sl false ((es.take h.toNat).drop l.toNat), 0 ≤ l ∧ l ≤ h ∧ h ≤ es.length ∧ (P.underlying e).isSome = true ∧ ∀ x ∈ es, x.cells.length = P.cellsOf e⟩
  | some (.slice e), .sl _ es, none, some (.int _ h), some (.int _ m) => ⟨.sl true (es.take h.toNat), 0 ≤ h ∧ h ≤ es.length ∧ m = h ∧ (P.underlying e).isSome = true⟩
  | some (.slice e), .sl _ es, some (.int _ l), some (.int _ h), some (.int _ m) => ⟨.sl true ((es.take h.toNat).drop l.toNat), 0 ≤ l ∧ l ≤ h ∧ h ≤ es.length ∧ m = h ∧ (P.underlying e).isSome = true ∧ ∀ x ∈ es, x.cells.length = P.cellsOf e⟩
  | some (.slice e), .osl s i v off len lc, none, none, none => ⟨.osl s i v off len lc, liveRef H (.osl s i v off len lc) ∧ (P.underlying e).isSome = true⟩
  | some (.slice e), .osl s i v off len lc, none, some (.int _ h), none => ⟨.osl s i v off h.toNat lc, liveRef H (.osl s i v off len lc) ∧ (P.underlying e).isSome = true ∧ 0 ≤ h ∧ h ≤ lc⟩
  | some (.slice e), .osl s i v off len lc, some (.int _ l), none, none => ⟨.osl s i v (off + l.toNat * s) (len - l.toNat) (lc - l.toNat), liveRef H (.osl s i v off len lc) ∧ (P.underlying e).isSome = true ∧ P.cellsOf e = s ∧ 0 ≤ l ∧ l ≤ len⟩
  | some (.slice e), .osl s i v off len lc, some (.int _ l), some (.int _ h), none => ⟨.osl s i v (off + l.toNat * s) (h.toNat - l.toNat) (lc - l.toNat), liveRef H (.osl s i v off len lc) ∧ (P.underlying e).isSome = true ∧ P.cellsOf e = s ∧ 0 ≤ l ∧ l ≤ h ∧ h ≤ lc⟩
  | some (.slice e), .osl s i v off len lc, some (.int _ l), some (.int _ h), some (.int _ m) => ⟨.osl s i v (off + l.toNat * s) (h.toNat - l.toNat) (m.toNat - l.toNat), liveRef H (.osl s i v off len lc) ∧ (P.underlying e).isSome = true ∧ P.cellsOf e = s ∧ 0 ≤ l ∧ l ≤ h ∧ h ≤ m ∧ m ≤ lc⟩
  | _, _, _, _, _ => bad

theorem extract_mk (s : List UInt8) (l h : Nat) : (ByteArray.mk s.toArray).extract l h = ByteArray.mk ((s.take h).drop l).toArray := by
  apply ByteArray.ext
  simp [ByteArray.data_extract, List.extract_eq_take_drop, List.drop_take]

theorem run_bound (k : IntKind) (i : Int) (y : Nat) (code : BoundsCode) (h0 : 0 ≤ i) (h1 : i ≤ y) (w : World) : (Instr.sliceBound (.int k i) y code).run P w = .ok i.toNat w := run_sliceBound (P := P) w k i y code h0 h1

theorem rep_sl_part {c : Ctx} {full full' : Bool} {es : List AV} {base : Option Addr} {len cap : Nat} (h : Rep c (.sl full es) (.slice base len cap)) (l k m sz : Nat) (hl : l ≤ k) (hk : k ≤ es.length) (hm : k ≤ m) (_ : m ≤ cap)
    (hf : full' = true → m = k) (hsz : l ≠ 0 → ∀ x ∈ es, x.cells.length = sz) :
    Rep c (.sl full' ((es.take k).drop l)) (.slice (if m = l then base else base.map (·.add (l * sz))) (k - l) (m - l)) := by
  have hR := h.sl_R
  obtain ⟨b, n, cp, s, vs, he, h1, h2, h3, h4, h5, h6⟩ := h.sl_inv
  cases he
  refine .sl _ _ _ _ _ s (fun i j => vs (l + i) j) (by simp; omega) (by omega) (fun hf' => by rw [hf hf']) (fun hne => ?_) (fun e he => h5 e ?_) (fun i e j x hi hj => ?_) (by omega)
  · have hlen : ((es.take k).drop l).length ≠ 0 := fun e => hne (List.eq_nil_of_length_eq_zero e)
    simp at hlen
    have hne' : es ≠ [] := by intro e; rw [e] at hk; simp at hk; omega
    obtain ⟨a, rfl, a2, a3, a4⟩ := h4 hne'
    have hml : ¬ m = l := by omega
    rw [if_neg hml]
    refine ⟨a.add (l * sz), rfl, Addr.add_spot a2 _, by rw [Addr.add_block]; exact a3, fun i j hi hj => ?_⟩
    simp at hi
    rw [Addr.add_add a2]
    have hs : l = 0 ∨ sz = s := by
      rcases Nat.eq_zero_or_pos l with h0 | h0
      · exact .inl h0
      · right
        have h7 : es[0]? = some (es[0]'(by omega)) := List.getElem?_eq_getElem (by omega)
        have h8 := List.getElem_mem (l := es) (n := 0) (by omega)
        rw [← hsz (by omega) _ h8, h5 _ h8]
    have e1 : l * sz + (i * s + j) = (l + i) * s + j := by
      rcases hs with h0 | rfl
      · simp [h0]
      · rw [Nat.add_mul]; omega
    rw [e1]
    exact a4 _ _ (by omega) hj
  · exact List.mem_of_mem_take (List.mem_of_mem_drop he)
  · rw [List.getElem?_drop, List.getElem?_take] at hi
    split at hi
    · exact h6 _ _ _ _ hi hj
    · cases hi

theorem rep_osl_part {c : Ctx} {s i v off len lc : Nat} {base : Option Addr} {cap : Nat} (hv : c.ver i = v) (h : Rep c (.osl s i v off len lc) (.slice base len cap)) (l k m lc' : Nat) (hl : l ≤ k) (hk : k ≤ lc') (hk2 : lc' ≤ m) (hm : m ≤ cap) (hlc : lc' ≤ lc) :
    Rep c (.osl s i v (off + l * s) (k - l) (lc' - l)) (.slice (if m = l then base else base.map (·.add (l * s))) (k - l) (m - l)) := by
  obtain ⟨b, cp, he, h1, h1', h2, h3⟩ := h.osl_inv hv
  cases he
  cases h with
  | osl _ _ _ _ _ _ _ hi hv' ho hmax g1 g2 =>
    refine .osl _ _ _ _ _ _ _ hi hv' rfl (by omega) (fun e d => ?_) (fun e d => ?_)
    · obtain ⟨rfl, rfl⟩ := h2 d
      have e1 : l = 0 := by omega
      have e2 : k = 0 := by omega
      have e3 : m = 0 := by omega
      have e4 : lc' = 0 := by omega
      subst e1
      subst e2
      subst e3
      subst e4
      exact ⟨rfl, rfl, _, rfl⟩
    · obtain ⟨p1, n, p2, p3⟩ := h3 d
      refine ⟨_, _, n, rfl, by omega, by omega, ?_, p2, ?_⟩
      · rcases p1 with p1 | rfl
        · left; omega
        · by_cases hcl : m = l
          · left; omega
          · right
            rw [if_neg hcl]
            simp [add_mk]
      · have e5 : l * s + (m - l) * s = m * s := by rw [← Nat.add_mul]; congr 1; omega
        have e6 : m * s ≤ cap * s := Nat.mul_le_mul_right s hm
        omega

theorem aslice_sound {c : Ctx} {H : AHeap} {t : TypeId} {x : AV} {vx : Value} {lo hi mx : Option AV} {vl vh vm : Option Value} (hst : St c H) (hx : Rep c x vx)
    (hlo : ∀ y, lo = some y → ∃ u, vl = some u ∧ Rep c y u) (hlo' : lo = none → vl = none) (hhi : ∀ y, hi = some y → ∃ u, vh = some u ∧ Rep c y u) (hhi' : hi = none → vh = none)
    (hmx : ∀ y, mx = some y → ∃ u, vm = some u ∧ Rep c y u) (hmx' : mx = none → vm = none) (hs : (aslice P t x lo hi mx H).s) (w : World) :
    ∃ v, (Instr.sliceAt t vx vl vh vm).run P w = .ok v w ∧ Rep c (aslice P t x lo hi mx H).v v := by
  have inv : ∀ {o : Option AV} {u : Option Value} {k : IntKind} {n : Int}, (∀ y, o = some y → ∃ u', u = some u' ∧ Rep c y u') → o = some (.int k n) → u = some (.int k n) := by
    intro o u k n h1 h2
    obtain ⟨u', h3, h4⟩ := h1 _ h2
    rw [h3, h4.int_inv]
  unfold aslice at *
  split at hs
  · rename_i s hu
    rw [hlo' rfl, hhi' rfl, hmx' rfl, hx.str_inv]
    exact ⟨_, by simp [Instr.sliceAt, Instr.slice, run_underlying hu, Instr.sliceBounds, extract_mk, size_mk], .str _ hx.str_R⟩
  · rename_i s k l hu
    obtain ⟨h0, h1⟩ := hs
    rw [inv hlo rfl, hhi' rfl, hmx' rfl, hx.str_inv]
    refine ⟨_, ?_, .str _ (by have := hx.str_R; simp only [List.length_drop, List.length_take]; omega)⟩
    simp [Instr.sliceAt, Instr.slice, run_underlying hu, Instr.sliceBounds, run_bound (P := P) k l s.length _ h0 h1, extract_mk, size_mk]
  · rename_i s k h hu
    obtain ⟨h0, h1⟩ := hs
    rw [hlo' rfl, inv hhi rfl, hmx' rfl, hx.str_inv]
    refine ⟨_, ?_, .str _ (by have := hx.str_R; simp only [List.length_drop, List.length_take]; omega)⟩
    simp [Instr.sliceAt, Instr.slice, run_underlying hu, Instr.sliceBounds, run_bound (P := P) k h s.length _ h0 h1, extract_mk, size_mk]
  · rename_i s k l k' h hu
    obtain ⟨h0, h1, h2⟩ := hs
    rw [inv hlo rfl, inv hhi rfl, hmx' rfl, hx.str_inv]
    refine ⟨_, ?_, .str _ (by have := hx.str_R; simp only [List.length_drop, List.length_take]; omega)⟩
    have e1 := run_bound (P := P) k' h s.length .sliceAlen (by omega) h2 w
    have e2 := run_bound (P := P) k l h.toNat .sliceB h0 (by omega) w
    simp [Instr.sliceAt, Instr.slice, run_underlying hu, Instr.sliceBounds, size_mk, e1, e2, extract_mk]
  · rename_i e full es hu
    obtain ⟨d, hd⟩ := Option.isSome_iff_exists.1 hs
    rw [hlo' rfl, hhi' rfl, hmx' rfl]
    obtain ⟨base, len, cap, s, vs, rfl, h1, h2, h3, -⟩ := hx.sl_inv
    refine ⟨_, by simp [Instr.sliceAt, Instr.slice, run_underlying hu, Instr.sliceBounds, run_sizeOf' hd]; rfl, ?_⟩
    have := rep_sl_part (full' := full) hx 0 es.length cap (P.cellsOf e) (Nat.zero_le _) (Nat.le_refl _) (by omega) (Nat.le_refl _) (fun hf => by rw [h3 hf, h1]) (fun h => absurd rfl h)
    simp [Addr.add] at this ⊢
    rw [h1]
    exact this
  · rename_i e full es k l hu
    obtain ⟨h0, h1, hd, hsz⟩ := hs
    obtain ⟨d, hd⟩ := Option.isSome_iff_exists.1 hd
    rw [inv hlo rfl, hhi' rfl, hmx' rfl]
    obtain ⟨base, len, cap, s, vs, rfl, rfl, h2, h3, -⟩ := hx.sl_inv
    have e2 := run_bound (P := P) k l es.length .sliceB h0 h1 w
    refine ⟨_, by simp [Instr.sliceAt, Instr.slice, run_underlying hu, Instr.sliceBounds, run_sizeOf' hd, e2]; rfl, ?_⟩
    have := rep_sl_part (full' := full) hx l.toNat es.length cap (P.cellsOf e) (by omega) (Nat.le_refl _) (by omega) (Nat.le_refl _) (fun hf => by rw [h3 hf]) (fun _ => hsz)
    simpa using this
  · rename_i e full es k h hu
    obtain ⟨h0, h1, hd⟩ := hs
    obtain ⟨d, hd⟩ := Option.isSome_iff_exists.1 hd
    rw [hlo' rfl, inv hhi rfl, hmx' rfl]
    obtain ⟨base, len, cap, s, vs, rfl, rfl, h2, h3, -⟩ := hx.sl_inv
    have e2 := run_bound (P := P) k h cap .sliceAcap h0 (by omega) w
    refine ⟨_, by simp [Instr.sliceAt, Instr.slice, run_underlying hu, Instr.sliceBounds, run_sizeOf' hd, e2]; rfl, ?_⟩
    have := rep_sl_part (full' := false) hx 0 h.toNat cap (P.cellsOf e) (Nat.zero_le _) (by omega) (by omega) (Nat.le_refl _) (fun hf => by cases hf) (fun h => absurd rfl h)
    simpa [Addr.add] using this
  · rename_i e full es k l k' h hu
    obtain ⟨h0, h1, h1', hd, hsz⟩ := hs
    obtain ⟨d, hd⟩ := Option.isSome_iff_exists.1 hd
    rw [inv hlo rfl, inv hhi rfl, hmx' rfl]
    obtain ⟨base, len, cap, s, vs, rfl, rfl, h2, h3, -⟩ := hx.sl_inv
    have e1 := run_bound (P := P) k' h cap .sliceAcap (by omega) (by omega) w
    have e2 := run_bound (P := P) k l h.toNat .sliceB h0 (by omega) w
    refine ⟨_, by simp [Instr.sliceAt, Instr.slice, run_underlying hu, Instr.sliceBounds, run_sizeOf' hd, e1, e2]; rfl, ?_⟩
    exact rep_sl_part (full' := false) hx l.toNat h.toNat cap (P.cellsOf e) (by omega) (by omega) (by omega) (Nat.le_refl _) (fun hf => by cases hf) (fun _ => hsz)
  · rename_i e full es k h k' m hu
    obtain ⟨h0, h1, rfl, hd⟩ := hs
    obtain ⟨d, hd⟩ := Option.isSome_iff_exists.1 hd
    rw [hlo' rfl, inv hhi rfl, inv hmx rfl]
    obtain ⟨base, len, cap, s, vs, rfl, rfl, h2, h3, -⟩ := hx.sl_inv
    have e1 := run_bound (P := P) k' m cap .slice3Acap h0 (by omega) w
    have e2 := run_bound (P := P) k m m.toNat .slice3B h0 (by omega) w
    refine ⟨_, by simp [Instr.sliceAt, Instr.slice, run_underlying hu, Instr.sliceBounds, run_sizeOf' hd, e1, e2]; rfl, ?_⟩
    have := rep_sl_part (full' := true) hx 0 m.toNat m.toNat (P.cellsOf e) (Nat.zero_le _) (by omega) (Nat.le_refl _) (by omega) (fun _ => rfl) (fun h => absurd rfl h)
    simpa [Addr.add] using this
  · rename_i e full es k l k' h k'' m hu
    obtain ⟨h0, h1, h1', rfl, hd, hsz⟩ := hs
    obtain ⟨d, hd⟩ := Option.isSome_iff_exists.1 hd
    rw [inv hlo rfl, inv hhi rfl, inv hmx rfl]
    obtain ⟨base, len, cap, s, vs, rfl, rfl, h2, h3, -⟩ := hx.sl_inv
    have e0 := run_bound (P := P) k'' m cap .slice3Acap (by omega) (by omega) w
    have e1 := run_bound (P := P) k' m m.toNat .slice3B (by omega) (by omega) w
    have e2 := run_bound (P := P) k l m.toNat .slice3C h0 (by omega) w
    refine ⟨_, by simp [Instr.sliceAt, Instr.slice, run_underlying hu, Instr.sliceBounds, run_sizeOf' hd, e0, e1, e2]; rfl, ?_⟩
    exact rep_sl_part (full' := true) hx l.toNat m.toNat m.toNat (P.cellsOf e) (by omega) (by omega) (by omega) (by omega) (fun _ => rfl) (fun _ => hsz)
  · rename_i e s i v off len lc hu
    obtain ⟨hl, hd⟩ := hs
    obtain ⟨d, hd⟩ := Option.isSome_iff_exists.1 hd
    have hv := liveOsl_ver hst hl
    rw [hlo' rfl, hhi' rfl, hmx' rfl]
    obtain ⟨base, cap, rfl, h1, -⟩ := hx.osl_inv hv
    refine ⟨_, by simp [Instr.sliceAt, Instr.slice, run_underlying hu, Instr.sliceBounds, run_sizeOf' hd]; rfl, ?_⟩
    simp [Addr.add]
    exact hx
  · rename_i e s i v off len lc k h hu
    obtain ⟨hl, hd, h0, h1⟩ := hs
    obtain ⟨d, hd⟩ := Option.isSome_iff_exists.1 hd
    have hv := liveOsl_ver hst hl
    rw [hlo' rfl, inv hhi rfl, hmx' rfl]
    obtain ⟨base, cap, rfl, h2, h3, -⟩ := hx.osl_inv hv
    have e2 := run_bound (P := P) k h cap .sliceAcap h0 (by omega) w
    refine ⟨_, by simp [Instr.sliceAt, Instr.slice, run_underlying hu, Instr.sliceBounds, run_sizeOf' hd, e2]; rfl, ?_⟩
    have := rep_osl_part hv hx 0 h.toNat cap lc (Nat.zero_le _) (by omega) h3 (Nat.le_refl _) (Nat.le_refl _)
    simpa [Addr.add] using this
  · rename_i e s i v off len lc k l hu
    obtain ⟨hl, hd, rfl, h0, h1⟩ := hs
    obtain ⟨d, hd⟩ := Option.isSome_iff_exists.1 hd
    have hv := liveOsl_ver hst hl
    rw [inv hlo rfl, hhi' rfl, hmx' rfl]
    obtain ⟨base, cap, rfl, h2, h3, -⟩ := hx.osl_inv hv
    have e2 := run_bound (P := P) k l len .sliceB h0 h1 w
    refine ⟨_, by simp [Instr.sliceAt, Instr.slice, run_underlying hu, Instr.sliceBounds, run_sizeOf' hd, e2]; rfl, ?_⟩
    exact rep_osl_part hv hx l.toNat len cap lc (by omega) h2 h3 (Nat.le_refl _) (Nat.le_refl _)
  · rename_i e s i v off len lc k l k' h hu
    obtain ⟨hl, hd, rfl, h0, h1, h1'⟩ := hs
    obtain ⟨d, hd⟩ := Option.isSome_iff_exists.1 hd
    have hv := liveOsl_ver hst hl
    rw [inv hlo rfl, inv hhi rfl, hmx' rfl]
    obtain ⟨base, cap, rfl, h2, h3, -⟩ := hx.osl_inv hv
    have e1 := run_bound (P := P) k' h cap .sliceAcap (by omega) (by omega) w
    have e2 := run_bound (P := P) k l h.toNat .sliceB h0 (by omega) w
    refine ⟨_, by simp [Instr.sliceAt, Instr.slice, run_underlying hu, Instr.sliceBounds, run_sizeOf' hd, e1, e2]; rfl, ?_⟩
    exact rep_osl_part hv hx l.toNat h.toNat cap lc (by omega) (by omega) h3 (Nat.le_refl _) (Nat.le_refl _)
  · rename_i e s i v off len lc k l k' h k'' m hu
    obtain ⟨hl, hd, rfl, h0, h1, h1', h1''⟩ := hs
    obtain ⟨d, hd⟩ := Option.isSome_iff_exists.1 hd
    have hv := liveOsl_ver hst hl
    rw [inv hlo rfl, inv hhi rfl, inv hmx rfl]
    obtain ⟨base, cap, rfl, h2, h3, -⟩ := hx.osl_inv hv
    have e0 := run_bound (P := P) k'' m cap .slice3Acap (by omega) (by omega) w
    have e1 := run_bound (P := P) k' h m.toNat .slice3B (by omega) (by omega) w
    have e2 := run_bound (P := P) k l h.toNat .slice3C h0 (by omega) w
    refine ⟨_, by simp [Instr.sliceAt, Instr.slice, run_underlying hu, Instr.sliceBounds, run_sizeOf' hd, e0, e1, e2]; rfl, ?_⟩
    exact rep_osl_part hv hx l.toNat h.toNat m.toNat m.toNat (by omega) (by omega) (Nat.le_refl _) (by omega) (by omega)
  · exact hs.elim

end Go.Aw
