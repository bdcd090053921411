/- More operations of the abstract machine: slices that are made, copy, ranges over texts. No condition. -/
import Derived.Test.YtoffonjlfomnbaaAvOpsE
namespace Go.Aw
open Go
set_option linter.unusedSimpArgs false

variable {P : Program}

/-! ### A slice that is made -/
def amakeSlice (P : Program) (t : TypeId) (l c : AV) (H : AHeap) : Res :=
  match P.underlying t, l, c with
  | some (.slice e), .int _ l, .int _ c => ⟨.osl (P.cellsOf e) H.length 1 0 l.toNat c.toNat, H ++ [.cells 1 ((List.replicate c.toNat (azero P e)).flatMap AV.cells)],
      elemOk P e = true ∧ 0 ≤ l ∧ l ≤ c ∧ c ≤ 9223372036854775807 ∧ c.toNat * P.bytesOf e ≤ 140737488355328⟩
  | _, _, _ => ⟨.top, H, False⟩

theorem wrap_i64_id {n : Int} (h1 : -9223372036854775808 ≤ n) (h2 : n ≤ 9223372036854775807) : IntKind.i64.wrap n = n := by
  simp only [IntKind.wrap, IntKind.signed, IntKind.bits, Bool.true_and]
  split
  · rename_i h; have h := of_decide_eq_true h; omega
  · rename_i h; have h : ¬ n % 2 ^ 64 ≥ 2 ^ (64 - 1) := fun q => h (decide_eq_true q); omega

theorem amakeSlice_sound {c : Ctx} {H : AHeap} {t : TypeId} {l k : AV} {vl vk : Value} (hst : St c H) (hl : Rep c l vl) (hk : Rep c k vk) (hs : (amakeSlice P t l k H).s) :
    Runs P (Instr.makeSlice t vl vk) c (amakeSlice P t l k H).v (amakeSlice P t l k H).H := by
  unfold amakeSlice at *
  split at hs
  · rename_i e k1 l k2 n hu
    obtain ⟨hok, h0, hle, hmax, hb⟩ := hs
    rw [hl.int_inv, hk.int_inv]
    simp only [elemOk, Bool.and_eq_true, beq_iff_eq] at hok
    obtain ⟨⟨q1, q2⟩, q3⟩ := hok
    obtain ⟨d, hd⟩ := Option.isSome_iff_exists.1 q1
    obtain ⟨i, hi, hci⟩ := info_of_underlying hd
    obtain ⟨z, hz1, hz2⟩ := azero_sound (P := P) q2 c
    have hzs : z.cells.size = P.cellsOf e := by rw [(hz2.cells q2).1, q3]
    have hbytes : P.bytesOf e = i.bytes := by simp [Program.bytesOf, hi]
    have hw1 : IntKind.i64.wrap l = l := wrap_i64_id (by omega) (by omega)
    have hw2 : IntKind.i64.wrap n = n := wrap_i64_id (by omega) (by omega)
    have hn : ((n.toNat : Nat) : Int) = n := by omega
    have hbn : (i.bytes : Int) * n ≤ 140737488355328 := by
      rw [hbytes, Nat.mul_comm] at hb
      have h2 : ((i.bytes * n.toNat : Nat) : Int) ≤ ((140737488355328 : Nat) : Int) := Int.ofNat_le.2 hb
      rw [Int.natCast_mul, hn] at h2
      omega
    let zc : Array Value := if n.toNat * P.cellsOf e = 0 then #[] else z.cells
    let ws : Array Value := (Array.range (n.toNat * P.cellsOf e)).map fun k => zc[k % zc.size]!
    have hrun : (Instr.makeSlice t (.int k1 l) (.int k2 n)).run P c.w = .ok (.slice (some ⟨c.w.heap.size, 0, none⟩) l.toNat n.toNat) (c.w.alloc (.cells ws e)) := by
      have c1 : (decide (n < 0) || decide ((i.bytes : Int) * n > 2 ^ 48)) = false := by
        rw [Bool.or_eq_false_iff]; exact ⟨by simp; omega, by simp; omega⟩
      have c2 : ((decide (n < 0) || decide ((i.bytes : Int) * n > 2 ^ 48)) || decide (l < 0) || decide (l > n)) = false := by
        rw [c1, Bool.false_or, Bool.or_eq_false_iff]; exact ⟨by simp; omega, by simp; omega⟩
      have hroom : ¬ (n.toNat * i.bytes > roomBytes) := by
        rw [hbytes] at hb
        have : roomBytes = 140737488355328 := rfl
        omega
      simp only [Instr.makeSlice, Sem.run_bind, run_underlying hu, Result.andThen_ok, asInt, asIntOf, Sem.run_pure, typeInfo, run_program, hi, hw1, hw2, c2, Bool.false_eq_true, if_false, askRoom, hroom, run_sizeOf' hd]
      by_cases hz : n.toNat * P.cellsOf e = 0
      · simp only [hz, if_true, Sem.run_pure, Result.andThen_ok, newRow, Sem.run_bind]
        simp only [ws, zc, hz, if_true]
        rfl
      · simp only [hz, if_false, Sem.run_bind, hz1, Sem.run_pure, Result.andThen_ok, newRow]
        simp only [ws, zc, hz, if_false]
        rfl
    have hws : ws.size = n.toNat * P.cellsOf e := by simp [ws]
    have hcell : ∀ x ∈ List.replicate n.toNat (azero P e), x.cells.length = P.cellsOf e := fun x hx => by rw [(List.mem_replicate.1 hx).2]; exact q3
    have hlen := length_flatMap_cells hcell
    rw [List.length_replicate] at hlen
    have hS := hst.push (.cells ws e) (B := .cells 1 ((List.replicate n.toNat (azero P e)).flatMap AV.cells)) 1 (by
      refine .cells _ _ ws e (0, 0) (by simp [Ctx.push]) (by simp [Ctx.push]) (by simp only [Ctx.push, if_true]; exact heap_alloc_new _ _) (by rw [hlen, hws]; exact Nat.le_refl _) (.inr (Nat.le_refl _)) (fun j y u hj hu => ?_)
      have hjl : j < n.toNat * P.cellsOf e := by have := (List.getElem?_eq_some_iff.1 hj).1; omega
      have hs0 : 0 < P.cellsOf e := Nat.pos_of_ne_zero fun h => by rw [h, Nat.mul_zero] at hjl; omega
      have hm : j % P.cellsOf e < P.cellsOf e := Nat.mod_lt _ hs0
      have hdiv : j / P.cellsOf e * P.cellsOf e + j % P.cellsOf e = j := by rw [Nat.mul_comm]; exact Nat.div_add_mod _ _
      have h1 := get_flatMap_cells hcell (j / P.cellsOf e) (j % P.cellsOf e) hm
      rw [hdiv, hj] at h1
      have hdl : j / P.cellsOf e < n.toNat := Nat.div_lt_of_lt_mul (by rw [Nat.mul_comm]; exact hjl)
      rw [List.getElem?_replicate, if_pos hdl, Option.bind_some] at h1
      have hzc : zc = z.cells := if_neg (by omega)
      have h2 : ws[j]? = some (zc[j % zc.size]!) := by simp only [ws, Array.getElem?_map]; rw [Array.getElem?_eq_getElem (by simpa using hjl)]; simp
      rw [h2, hzc, hzs] at hu
      cases hu
      refine Rep.mono (Ext.push hst _ 1) ((hz2.cells q2).2 _ _ _ h1.symm ?_)
      rw [getElem!_pos z.cells (j % P.cellsOf e) (by omega)]
      exact Array.getElem?_eq_getElem _)
    refine ⟨_, _, hrun, hS, Ext.push hst _ 1, ?_⟩
    refine .osl _ _ _ _ _ _ _ (by simp [Ctx.push, hst.n]) (by simp [Ctx.push, hst.n]) rfl (by omega) (fun _ hd => by simp [Ctx.push, hst.n] at hd) (fun _ _ => ?_)
    refine ⟨_, n.toNat, n.toNat * P.cellsOf e, rfl, by omega, Nat.le_refl _, .inr (by simp [Ctx.push, hst.n]), ?_, by omega⟩
    simp only [bsize, Ctx.push, hst.n, if_true]
    rw [heap_alloc_new]
    exact congrArg some hws
  · exact hs.elim

/-! ### copy -/
def acopy (P : Program) (t : TypeId) (d x : AV) (H : AHeap) : Res :=
  match P.underlying t, d with
  | some (.slice e), .osl sz i v off len _ => match hget H i with
    | .cells ver cs => ⟨.int .i64 (srcLen x), hset H i (.cells ver (splice cs off (srcCells x H))),
        v = ver ∧ (P.underlying e).isSome = true ∧ sz = P.cellsOf e ∧ off + len * sz ≤ cs.length ∧ srcLen x ≤ len ∧ srcOk x sz H ∧ (srcCells x H).all AV.one = true⟩
    | _ => ⟨.top, H, False⟩
  | _, _ => ⟨.top, H, False⟩

theorem acopy_sound {c : Ctx} {H : AHeap} {t u ty : TypeId} {d x : AV} {vd vx : Value} (hst : St c H) (hd : Rep c d vd) (hx : Rep c x vx) (hs : (acopy P t d x H).s) :
    Runs P (Builtin.copy_ #[t, u] ty #[vd, vx]) c (acopy P t d x H).v (acopy P t d x H).H := by
  unfold acopy at *
  split at hs
  · rename_i e sz i v off len lc hu
    cases hh : hget H i with
    | cells ver cs =>
      simp only [hh] at hs ⊢
      obtain ⟨rfl, hde, rfl, hle, hn, hsrc, hone⟩ := hs
      obtain ⟨de, hde⟩ := Option.isSome_iff_exists.1 hde
      have hver := hst.ver_eq hh
      have hR := hd.osl_R
      obtain ⟨q1, q2, us, q3, q4, q5⟩ := srcCells_sound (P := P) hst hx hsrc
      obtain ⟨base, cap, rfl, g2, g2', g3, g4⟩ := hd.osl_inv hver
      have hi : i < c.n := by rw [hst.n]; exact hget_lt hh trivial
      have hmin : Nat.min (srcLen x) len = srcLen x := Nat.min_eq_left hn
      have hsome := hget_some hh trivial
      have honeu : ∀ u ∈ us.toList, u.oneCell' = true := by
        intro u hu'
        obtain ⟨k, hk1, hk2⟩ := List.getElem_of_mem hu'
        simp only [Array.length_toList] at hk1
        have hy : (srcCells x H)[k]? = some ((srcCells x H)[k]'(by omega)) := List.getElem?_eq_getElem (by omega)
        exact (q5 k _ u hy (by rw [← hk2]; simp)).one (List.all_eq_true.1 hone _ (List.getElem_mem _))
      cases hvd : c.vd i with
      | true =>
        obtain ⟨rfl, rfl⟩ := g3 hvd
        have hn0 : srcLen x = 0 := by omega
        have hsc : srcCells x H = [] := List.eq_nil_of_length_eq_zero (by rw [q2, hn0]; simp)
        have hus : us = #[] := Array.eq_empty_of_size_eq_zero (by rw [q4, hsc]; rfl)
        have hcs : splice cs off [] = cs := by simp [splice]
        have hset0 : hset H i (.cells v cs) = H := by
          unfold hset
          apply List.ext_getElem?
          intro j
          by_cases hj : j = i
          · subst hj; rw [List.getElem?_set_self (by rw [← hst.n]; exact hi), hsome]
          · rw [List.getElem?_set_ne (fun q => hj q.symm)]
        refine ⟨c, .int .i64 (srcLen x), ?_, ?_, Ext.refl c, .int _ _ (inR_i64.2 (by omega))⟩
        · cases base with
          | none => simp only [Builtin.copy_, List.getElem?_toArray, List.getElem?_cons_zero, List.getElem?_cons_succ, Sem.run_bind, run_underlying hu, Result.andThen_ok, q1, hmin, run_sizeOf' hde, q3, Sem.run_pure, goInt]
          | some a => simp [Builtin.copy_, List.getElem?_toArray, List.getElem?_cons_zero, List.getElem?_cons_succ, Sem.run_bind, run_underlying hu, Result.andThen_ok, q1, hn0, run_sizeOf' hde, hn0 ▸ q3, Sem.run_pure, goInt, hus, storeCells]
        · rw [hsc, hcs, hset0]; exact hst
      | false =>
        obtain ⟨p1, m, p2, p3⟩ := g4 hvd
        have hmul : srcLen x * P.cellsOf e ≤ len * P.cellsOf e := Nat.mul_le_mul_right _ hn
        obtain ⟨w', hw', hx', hs'⟩ := hst.putCells (P := P) hh hvd (off := off) (ys := srcCells x H) (us := us.toList) (by rw [q2]; omega) (by simpa using q4) (fun k y u h1 h2 => q5 k y u h1 (by simpa using h2)) honeu
        rcases Nat.eq_zero_or_pos cap with hc0 | hcpos
        · have hn0 : srcLen x = 0 := by omega
          have hsc : srcCells x H = [] := List.eq_nil_of_length_eq_zero (by rw [q2, hn0]; simp)
          have hus : us = #[] := Array.eq_empty_of_size_eq_zero (by rw [q4, hsc]; rfl)
          have hcs : splice cs off [] = cs := by simp [splice]
          have hset0 : hset H i (.cells v cs) = H := by
            unfold hset
            apply List.ext_getElem?
            intro j
            by_cases hj : j = i
            · subst hj; rw [List.getElem?_set_self (by rw [← hst.n]; exact hi), hsome]
            · rw [List.getElem?_set_ne (fun q => hj q.symm)]
          refine ⟨c, .int .i64 (srcLen x), ?_, ?_, Ext.refl c, .int _ _ (inR_i64.2 (by omega))⟩
          · cases base with
            | none => simp only [Builtin.copy_, List.getElem?_toArray, List.getElem?_cons_zero, List.getElem?_cons_succ, Sem.run_bind, run_underlying hu, Result.andThen_ok, q1, hmin, run_sizeOf' hde, q3, Sem.run_pure, goInt]
            | some a => simp only [Builtin.copy_, List.getElem?_toArray, List.getElem?_cons_zero, List.getElem?_cons_succ, Sem.run_bind, run_underlying hu, Result.andThen_ok, q1, hmin, run_sizeOf' hde, q3, hus, storeCells, Sem.run_pure, goInt]
          · rw [hsc, hcs, hset0]; exact hst
        · have hbase : base = some ⟨c.blk i, off, none⟩ := p1.resolve_left (by omega)
          subst hbase
          refine ⟨{ c with w := w' }, .int .i64 (srcLen x), ?_, hs', hx', .int _ _ (inR_i64.2 (by omega))⟩
          simp only [Builtin.copy_, List.getElem?_toArray, List.getElem?_cons_zero, List.getElem?_cons_succ, Sem.run_bind, run_underlying hu, Result.andThen_ok, q1, hmin, run_sizeOf' hde, q3, hw', Sem.run_pure, goInt]
    | _ => simp [hh] at hs
  · exact hs.elim

/-! ### clear -/
def aclear (P : Program) (t : TypeId) (x : AV) (H : AHeap) : Res :=
  match P.underlying t, x with
  | some (.slice e), .osl sz i v off len _ => match hget H i with
    | .cells ver cs => ⟨.tup [], hset H i (.cells ver (splice cs off ((List.replicate len (azero P e)).flatMap AV.cells))),
        v = ver ∧ elemOk P e = true ∧ sz = P.cellsOf e ∧ off + len * sz ≤ cs.length ∧ (azero P e).cells.all AV.one = true⟩
    | _ => ⟨.top, H, False⟩
  | _, _ => ⟨.top, H, False⟩

theorem hset_same {H : AHeap} {i : Nat} {b : ABlk} (h : H[i]? = some b) : hset H i b = H := by
  unfold hset
  apply List.ext_getElem?
  intro j
  have hi := (List.getElem?_eq_some_iff.1 h).1
  by_cases hj : j = i
  · subst hj; rw [List.getElem?_set_self hi, h]
  · rw [List.getElem?_set_ne (fun q => hj q.symm)]

theorem aclear_sound {c : Ctx} {H : AHeap} {t ty : TypeId} {x : AV} {vx : Value} (hst : St c H) (hx : Rep c x vx) (hs : (aclear P t x H).s) :
    Runs P (Builtin.clear_ #[t] ty #[vx]) c (aclear P t x H).v (aclear P t x H).H := by
  unfold aclear at *
  split at hs
  · rename_i e sz i v off len lc hu
    cases hh : hget H i with
    | cells ver cs =>
      simp only [hh] at hs ⊢
      obtain ⟨rfl, hok, rfl, hle, hone⟩ := hs
      simp only [elemOk, Bool.and_eq_true, beq_iff_eq] at hok
      obtain ⟨⟨q1, q2⟩, q3⟩ := hok
      obtain ⟨de, hde⟩ := Option.isSome_iff_exists.1 q1
      obtain ⟨z, hz1, hz2⟩ := azero_sound (P := P) q2 c
      have hzs : z.cells.size = P.cellsOf e := by rw [(hz2.cells q2).1, q3]
      have hver := hst.ver_eq hh
      obtain ⟨base, cap, rfl, g2, g2', g3, g4⟩ := hx.osl_inv hver
      have hsome := hget_some hh trivial
      have hcell : ∀ x ∈ List.replicate len (azero P e), x.cells.length = P.cellsOf e := fun x hx => by rw [(List.mem_replicate.1 hx).2]; exact q3
      have hlen := length_flatMap_cells hcell
      rw [List.length_replicate] at hlen
      rcases Nat.eq_zero_or_pos len with h0 | hpos
      · subst h0
        have e0 : splice cs off ((List.replicate 0 (azero P e)).flatMap AV.cells) = cs := by simp [splice]
        rw [e0, hset_same hsome]
        refine ⟨c, .tuple #[], ?_, hst, Ext.refl c, .tup [] _ rfl (by simp)⟩
        cases base <;> simp [Builtin.clear_, List.getElem?_toArray, Sem.run_bind, run_underlying hu]
      · cases hvd : c.vd i with
        | true => have := (g3 hvd).1; omega
        | false =>
          obtain ⟨p1, m, p2, p3⟩ := g4 hvd
          have hbase : base = some ⟨c.blk i, off, none⟩ := p1.resolve_left (by omega)
          subst hbase
          have hzl : (Builtin.zeroCells z.cells len).size = len * P.cellsOf e := by rw [size_zeroCells, hzs]
          have hget : ∀ (k : Nat) (y : AV) (u : Value), ((List.replicate len (azero P e)).flatMap AV.cells)[k]? = some y → (Builtin.zeroCells z.cells len).toList[k]? = some u → Rep c y u := by
            intro k y u hk hu'
            have hkl : k < len * P.cellsOf e := by have := (List.getElem?_eq_some_iff.1 hk).1; omega
            have hs0 : 0 < P.cellsOf e := Nat.pos_of_ne_zero fun h => by rw [h, Nat.mul_zero] at hkl; omega
            have hm : k % P.cellsOf e < P.cellsOf e := Nat.mod_lt _ hs0
            have hdiv : k / P.cellsOf e * P.cellsOf e + k % P.cellsOf e = k := by rw [Nat.mul_comm]; exact Nat.div_add_mod _ _
            have h1 := get_flatMap_cells hcell (k / P.cellsOf e) (k % P.cellsOf e) hm
            rw [hdiv, hk] at h1
            have hdl : k / P.cellsOf e < len := Nat.div_lt_of_lt_mul (by rw [Nat.mul_comm]; exact hkl)
            rw [List.getElem?_replicate, if_pos hdl, Option.bind_some] at h1
            have h2 : (Builtin.zeroCells z.cells len)[k]? = some (z.cells[k % z.cells.size]!) := by
              simp only [Builtin.zeroCells, Array.getElem?_map]; rw [Array.getElem?_eq_getElem (by simpa [hzs] using hkl)]; simp
            rw [Array.getElem?_toList, h2, hzs] at hu'
            cases hu'
            refine (hz2.cells q2).2 _ _ _ h1.symm ?_
            rw [getElem!_pos z.cells (k % P.cellsOf e) (by omega)]
            exact Array.getElem?_eq_getElem _
          obtain ⟨w', hw', hx', hs'⟩ := hst.putCells (P := P) hh hvd (off := off) (ys := (List.replicate len (azero P e)).flatMap AV.cells) (us := (Builtin.zeroCells z.cells len).toList) (by omega) (by rw [Array.length_toList, hzl, hlen]) hget (by
            intro u hu'
            obtain ⟨k, hk1, hk2⟩ := List.getElem_of_mem hu'
            have hk1' : k < len * P.cellsOf e := by rw [Array.length_toList, hzl] at hk1; exact hk1
            have hy : ((List.replicate len (azero P e)).flatMap AV.cells)[k]? = some (((List.replicate len (azero P e)).flatMap AV.cells)[k]'(by omega)) := List.getElem?_eq_getElem (by omega)
            refine (hget k _ u hy (by rw [← hk2]; exact List.getElem?_eq_getElem hk1)).one ?_
            obtain ⟨x, hx1, hx2⟩ := List.mem_flatMap.1 (List.getElem_mem (show k < ((List.replicate len (azero P e)).flatMap AV.cells).length by omega))
            rw [(List.mem_replicate.1 hx1).2] at hx2
            exact List.all_eq_true.1 hone _ hx2)
          obtain ⟨n, rfl⟩ : ∃ n, len = n + 1 := ⟨len - 1, by omega⟩
          refine ⟨{ c with w := w' }, .tuple #[], ?_, hs', hx', .tup [] _ rfl (by simp)⟩
          simp [Builtin.clear_, List.getElem?_toArray, Sem.run_bind, run_underlying hu, hz1, hw']
    | _ => simp [hh] at hs
  · exact hs.elim

/-! ### append, where nothing is appended to something -/
def aappendZ (P : Program) (ts tx : TypeId) (s x : AV) (H : AHeap) : Res :=
  match s with
  | .sl full (e0 :: es) =>
    if srcLen x = 0 then
      match P.underlying ts with
      | some (.slice e) => ⟨.sl full (e0 :: es), H, elemOk P e = true ∧ notInt P tx = true ∧ srcOk x (P.cellsOf e) H⟩
      | _ => ⟨.top, H, False⟩
    else aappend P ts tx (.sl full (e0 :: es)) x H
  | s => aappend P ts tx s x H

theorem aappendZ_sound {c : Ctx} {H : AHeap} {ts tx ty : TypeId} {s x : AV} {vs vx : Value} (hst : St c H) (hsr : Rep c s vs) (hx : Rep c x vx) (hs : (aappendZ P ts tx s x H).s) :
    Runs P (Builtin.append_ #[ts, tx] ty #[vs, vx]) c (aappendZ P ts tx s x H).v (aappendZ P ts tx s x H).H := by
  unfold aappendZ at *
  split at hs
  · rename_i full e0 es
    by_cases hn : srcLen x = 0
    · simp only [if_pos hn] at hs ⊢
      cases hu : P.underlying ts with
      | none => simp [hu] at hs
      | some d =>
        cases d <;> simp only [hu] at hs ⊢
        case slice e =>
          obtain ⟨hok, hni, hsrc⟩ := hs
          obtain ⟨q1, q2, us, q3, q4, q5⟩ := srcCells_sound (P := P) hst hx hsrc
          obtain ⟨base, len, cap, sz, vs', rfl, -⟩ := hsr.sl_inv
          have hle : len ≤ cap := by cases hsr; assumption
          have hus : us = #[] := by
            have : us.size = 0 := by rw [q4, q2, hn]; simp
            exact Array.eq_empty_of_size_eq_zero this
          have hrun := run_append_room' (P := P) (w' := c.w) (ty := ty) (base := base) (len := len) (cap := cap) hu hok hni q1 (by omega) q3 (fun a _ => by rw [hus]; simp [storeCells]) (fun _ => rfl)
          rw [hn, Nat.add_zero] at hrun
          exact ⟨c, _, hrun, hst, Ext.refl c, hsr⟩
    · simp only [if_neg hn] at hs ⊢
      exact aappend_sound hst hsr hx hs
  · exact aappend_sound hst hsr hx hs

/-! ### A range over a text -/
def arange (P : Program) (t : TypeId) (x : AV) (H : AHeap) : Res :=
  match P.underlying t, x with
  | some .string, .str s => ⟨.iter H.length, H ++ [.siter s 0], True⟩
  | _, _ => ⟨.top, H, False⟩

theorem arange_sound {c : Ctx} {H : AHeap} {t : TypeId} {x : AV} {vx : Value} (hst : St c H) (hx : Rep c x vx) (hs : (arange P t x H).s) :
    Runs P (Instr.range t vx) c (arange P t x H).v (arange P t x H).H := by
  unfold arange at *
  split at hs
  · rename_i s hu
    rw [hx.str_inv]
    have hS := hst.push (.stringIter ⟨s.toArray⟩ 0) (B := .siter s 0) 0 (.siter s 0 (by simp [Ctx.push]) (by simp [Ctx.push]) (by simp only [Ctx.push, if_true]; exact heap_alloc_new _ _) hx.str_R)
    refine ⟨_, .pointer (some ⟨c.w.heap.size, 0, none⟩), ?_, hS, Ext.push hst _ 0, ?_⟩
    · simp [Instr.range, run_underlying hu, Ctx.push]
    · exact .iter _ _ (by simp [Ctx.push, hst.n]) rfl (fun _ => by simp [Ctx.push, hst.n])
  · exact hs.elim

/-- The letter at a place of a text, and how many bytes it has. -/
def runeAt (s : List UInt8) (pos : Nat) : Nat × Nat := Utf8.decode ⟨s.toArray⟩ pos

theorem runeAt_lt (s : List UInt8) (pos : Nat) : (runeAt s pos).1 < 2147483648 := by
  unfold runeAt Utf8.decode
  simp only []
  have he : Utf8.runeError < 2147483648 := by decide
  split
  · simp only []; omega
  · split
    · split <;> simp only [] <;> omega
    · split
      · split <;> simp only [] <;> omega
      · split
        · split <;> simp only [] <;> omega
        · exact he

def anext (x : AV) (b : Bool) (H : AHeap) : Res :=
  match x, b with
  | .iter i, true => match hget H i with
    | .siter s pos => if pos < s.length then ⟨.tup [.bool true, .int .i64 pos, .int .i32 (runeAt s pos).1], hset H i (.siter s (pos + (runeAt s pos).2)), True⟩ else ⟨.tup [.bool false], H, True⟩
    | _ => ⟨.top, H, False⟩
  | _, _ => ⟨.top, H, False⟩

theorem rep_tup1 {c : Ctx} {x : AV} {u : Value} (h1 : Rep c x u) : Rep c (.tup [x]) (.tuple #[u]) :=
  .tup _ _ rfl fun i z w p q => by
    match i, p, q with
    | 0, p, q => simp at p q; subst p; subst q; exact h1
    | i + 1, p, _ => simp at p

theorem rep_tup3 {c : Ctx} {x y z : AV} {u v w : Value} (h1 : Rep c x u) (h2 : Rep c y v) (h3 : Rep c z w) : Rep c (.tup [x, y, z]) (.tuple #[u, v, w]) :=
  .tup _ _ rfl fun i z w p q => by
    match i, p, q with
    | 0, p, q => simp at p q; subst p; subst q; exact h1
    | 1, p, q => simp at p q; subst p; subst q; exact h2
    | 2, p, q => simp at p q; subst p; subst q; exact h3
    | i + 3, p, _ => simp at p

theorem anext_sound {c : Ctx} {H : AHeap} {x : AV} {vx : Value} {b : Bool} {ty : TypeId} (hst : St c H) (hx : Rep c x vx) (hs : (anext x b H).s) :
    Runs P (Instr.next vx b ty) c (anext x b H).v (anext x b H).H := by
  unfold anext at *
  split at hs
  · rename_i i
    cases hh : hget H i with
    | siter s pos =>
      simp only [hh] at hs ⊢
      have hsome := hget_some hh trivial
      have hin : i < c.n := by rw [hst.n]; exact hget_lt hh trivial
      have hrep := hst.rep i _ hsome
      cases hrep with
      | siter _ _ hv hd hb hsl =>
        cases hx with
        | iter _ _ _ _ hval =>
          obtain ⟨-, rfl⟩ := hval hv
          have hget := run_getObj_obj (P := P) hb (by simp)
          by_cases hp : pos < s.length
          rotate_left
          · have hn : ¬ pos < (ByteArray.mk s.toArray).size := by rw [size_mk]; exact hp
            simp only [hp, if_false]
            refine ⟨c, .tuple #[.bool false], ?_, hst, Ext.refl c, rep_tup1 (.bool _)⟩
            simp [Instr.next, hget, hn]
          · have hn : pos < (ByteArray.mk s.toArray).size := by rw [size_mk]; exact hp
            simp only [hp, if_true]
            obtain ⟨hlt', he⟩ := Array.getElem?_eq_some_iff.1 hb
            let w' : World := { c.w with heap := c.w.heap.setIfInBounds (c.blk i) (.stringIter ⟨s.toArray⟩ (pos + (runeAt s pos).2)) }
            have hsame : w'.heap[c.blk i]? = some (.stringIter ⟨s.toArray⟩ (pos + (runeAt s pos).2)) := by simp [w', hlt']
            have hoth : ∀ b, b ≠ c.blk i → w'.heap[b]? = c.w.heap[b]? := fun b hne => by
              simp only [w']; rw [Array.getElem?_setIfInBounds_ne (fun q => hne q.symm)]
            obtain ⟨hx', hs'⟩ := hst.update (B' := .siter s (pos + (runeAt s pos).2)) hsome trivial hd w' (by simp [w']) hoth (by simp [bsize, hsame, hb]) rfl rfl rfl (.siter _ _ hv hd hsame hsl)
            refine ⟨{ c with w := w' }, .tuple #[.bool true, goInt pos, .int .i32 (runeAt s pos).1], ?_, hs', hx', ?_⟩
            · have hset : (setObj (c.blk i) (.stringIter ⟨s.toArray⟩ (pos + (runeAt s pos).2))).run P c.w = .ok () w' := by
                simp only [setObj, Sem.run, hb, w']
              simp only [runeAt] at hset
              simp [Instr.next, hget, hn, hset, runeAt]
            · exact rep_tup3 (.bool _) (.int _ _ (inR_i64.2 (by omega))) (.int _ _ (inR_i32.2 (by have := runeAt_lt s pos; omega)))
    | _ => simp [hh] at hs
  · exact hs.elim

end Go.Aw
