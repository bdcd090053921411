/- What was written last, in plain Lean. No condition. -/
import Derived.Test.YtoffonjlfomnbaaGwWfP
namespace Go.Gw
open Go Go.Aw Go.Proofs.Ytoffonjlfomnbaa

def updW (id : Int) (a : Stm × Txt) (o : Opn) : Stm × Txt := if o.kind = 2 ∧ o.node = id then (o.at_, o.data) else a
def lastW (s : List Opn) (id : Int) : Stm × Txt := s.foldl (updW id) (st0, [])
theorem lastW_snoc (s : List Opn) (o : Opn) (id : Int) : lastW (s ++ [o]) id = updW id (lastW s id) o := by simp [lastW]

theorem put_mem' {l : List Nd} (hs : chk l = true) {n x : Nd} (h : x ∈ putN l n) : x = n ∨ (x ∈ l ∧ x.id ≠ n.id) := by
  obtain ⟨A, B, hA, hB, eA, eB, hl⟩ := split_at hs n.id
  rw [put_eq n eA eB, List.mem_append, List.mem_cons] at h
  have key : ∀ y, y ∈ A ∨ y ∈ B → y ∈ l := by
    intro y hy
    rcases hl with ⟨e, _⟩ | ⟨m, _, e, _⟩ <;> rw [e] <;> simp <;> rcases hy with hy | hy <;> simp [hy]
  rcases h with h | h | h
  · exact .inr ⟨key x (.inl h), fun e => by have := hA x h; omega⟩
  · exact .inl h
  · exact .inr ⟨key x (.inr h), fun e => by have := hB x h; omega⟩

structure LstI (s : List Opn) (N : List Nd) : Prop where
  frs : Frs N
  w : ∀ n ∈ N, (n.wrote, n.data) = lastW s n.id
  z : ∀ id, fnd N id = none → lastW s id = (st0, [])
  m : ∀ n ∈ N, n.moved = st0 ∨ ∃ o ∈ s, o.kind = 1 ∧ o.node = n.id ∧ o.at_ = n.moved ∧ o.parent = n.parent ∧ o.name = n.name

theorem lst_at {s : List Opn} {N : List Nd} (h : LstI s N) (id : Int) : (((fnd N id).getD nd0).wrote, ((fnd N id).getD nd0).data) = lastW s id := by
  cases hf : fnd N id with
  | none => rw [h.z id hf]; rfl
  | some m =>
    have h1 := List.mem_of_find?_eq_some hf
    have h2 : m.id = id := by have := List.find?_some hf; simpa using this
    rw [← h2]; exact h.w m h1

theorem lst_step {s : List Opn} {N : List Nd} (h : LstI s N) {o : Opn} (hok : opOk o = true) : LstI (s ++ [o]) (doL N o) := by
  have hold : ∀ n ∈ N, (n.moved = st0 ∨ ∃ o' ∈ s ++ [o], o'.kind = 1 ∧ o'.node = n.id ∧ o'.at_ = n.moved ∧ o'.parent = n.parent ∧ o'.name = n.name) := by
    intro n hn
    rcases h.m n hn with q | ⟨o', q, q2⟩
    · exact .inl q
    · exact .inr ⟨o', by simp [q], q2⟩
  cases hr : refused N o with
  | true =>
    have hk : o.kind = 1 := by
      rcases ok_kind hok with q | q
      · exact q
      · unfold refused at hr
        rw [h.frs.chk, hok, decide_eq_false (show ¬ o.kind = 1 by omega)] at hr
        cases hr
    have hu : ∀ id, lastW (s ++ [o]) id = lastW s id := fun id => by rw [lastW_snoc, updW, if_neg (by omega)]
    rw [(do_ref hr).1]
    exact ⟨h.frs, fun n hn => by rw [hu]; exact h.w n hn, fun id hid => by rw [hu]; exact h.z id hid, hold⟩
  | false =>
    refine ⟨frs_do o h.frs, ?_, ?_, ?_⟩
    · intro n hn
      rw [doL_put hr] at hn
      rcases put_mem' h.frs.chk hn with rfl | ⟨hn, hne⟩
      · rw [nodeNew_id, lastW_snoc]
        rcases ok_kind hok with hk | hk
        · rw [nodeNew_move hk, updW, if_neg (by omega)]; exact lst_at h o.node
        · rw [nodeNew_write hk]
          show (o.at_, o.data) = updW o.node (lastW s o.node) o
          rw [updW, if_pos ⟨hk, rfl⟩]
      · rw [nodeNew_id] at hne
        rw [lastW_snoc, updW, if_neg (fun q => hne q.2.symm)]; exact h.w n hn
    · intro id hid
      rw [doL_put hr, fnd_put h.frs.chk, nodeNew_id] at hid
      by_cases e : id = o.node
      · rw [if_pos e] at hid; cases hid
      · rw [if_neg e] at hid
        rw [lastW_snoc, updW, if_neg (fun q => e q.2.symm)]; exact h.z id hid
    · intro n hn
      rw [doL_put hr] at hn
      rcases put_mem' h.frs.chk hn with rfl | ⟨hn, hne⟩
      · rcases ok_kind hok with hk | hk
        · right
          have hid := nodeNew_id N o
          rw [nodeNew_move hk] at hid ⊢
          exact ⟨o, by simp, hk, hid.symm, rfl, rfl, rfl⟩
        · have hid := nodeNew_id N o
          rw [nodeNew_write hk] at hid ⊢
          simp only at hid ⊢
          cases hf : fnd N o.node with
          | none => exact .inl rfl
          | some m =>
            have h1 := List.mem_of_find?_eq_some hf
            have h2 : m.id = o.node := by have := List.find?_some hf; simpa using this
            have h3 := hold m h1
            rw [h2] at h3
            simp only [Option.getD_some, Option.isSome_some, if_true]
            rw [hid]
            exact h3
      · exact hold n hn
theorem lst_foldl (s : List Opn) (hs : ∀ o ∈ s, opOk o = true) : LstI s (s.foldl doL []) := by
  induction hn : s.length generalizing s with
  | zero =>
    have : s = [] := List.eq_nil_of_length_eq_zero hn
    subst this
    exact ⟨frs_nil, fun n h => (by cases h), fun _ _ => rfl, fun n h => (by cases h)⟩
  | succ n ih =>
    have hne : s ≠ [] := fun e => by subst e; simp at hn
    obtain ⟨a, o, rfl⟩ : ∃ a o, s = a ++ [o] := ⟨s.dropLast, s.getLast hne, (List.dropLast_concat_getLast hne).symm⟩
    rw [List.foldl_append]
    exact lst_step (ih a (fun x hx => hs x (by simp [hx])) (by simpa using hn)) (hs o (by simp))

/-- What was written last is the one that stands behind the others. -/
theorem lastW_best {s : List Opn} (hs : Srt s) (id : Int) : (lastW s id = (st0, []) ∧ ∀ x ∈ s, ¬ (x.kind = 2 ∧ x.node = id)) ∨ ∃ x ∈ s, x.kind = 2 ∧ x.node = id ∧ lastW s id = (x.at_, x.data) ∧ ∀ y ∈ s, y.kind = 2 → y.node = id → lessS x.at_ y.at_ = false := by
  induction hn : s.length generalizing s with
  | zero =>
    have : s = [] := List.eq_nil_of_length_eq_zero hn
    subst this
    exact .inl ⟨rfl, fun x h => by cases h⟩
  | succ n ih =>
    have hne : s ≠ [] := fun e => by subst e; simp at hn
    obtain ⟨a, o, rfl⟩ : ∃ a o, s = a ++ [o] := ⟨s.dropLast, s.getLast hne, (List.dropLast_concat_getLast hne).symm⟩
    rw [Srt, List.pairwise_append] at hs
    obtain ⟨h1, -, h3⟩ := hs
    rw [lastW_snoc]
    by_cases ho : o.kind = 2 ∧ o.node = id
    · right
      refine ⟨o, by simp, ho.1, ho.2, by rw [updW, if_pos ho], fun y hy _ _ => ?_⟩
      rcases List.mem_append.1 hy with hy | hy
      · exact oLess_swo.asy y o (h3 y hy o (by simp))
      · rw [List.mem_singleton] at hy; rw [hy]; exact lessS_irr _
    · rw [updW, if_neg ho]
      rcases ih h1 (by simpa using hn) with ⟨e, h⟩ | ⟨x, hx, k1, k2, e, h⟩
      · refine .inl ⟨e, fun x hx => ?_⟩
        rcases List.mem_append.1 hx with hx | hx
        · exact h x hx
        · rw [List.mem_singleton] at hx; rw [hx]; exact ho
      · refine .inr ⟨x, by simp [hx], k1, k2, e, fun y hy q1 q2 => ?_⟩
        rcases List.mem_append.1 hy with hy | hy
        · exact h y hy q1 q2
        · rw [List.mem_singleton] at hy; exact absurd ⟨hy ▸ q1, hy ▸ q2⟩ ho

/-- Is the operation at a place the first one of its time that may be? -/
def firstB (ops : List Opn) (k : Nat) : Bool := (ops.take k).all fun x => !(decide (x.at_ = (ops.getD k op0).at_) && opOk x)
theorem rSort_first (ops : List Opn) (x : Opn) : x ∈ rSort ops ↔ ∃ j, ∃ hj : j < ops.length, ops[j] = x ∧ opOk x = true ∧ firstB ops j = true := by
  rw [(rSort_mem ops).2, List.find?_filter, List.find?_eq_some_iff_getElem]
  constructor
  · rintro ⟨hp, j, hj, rfl, hall⟩
    rw [decide_eq_true_eq] at hp
    refine ⟨j, hj, rfl, hp.1, List.all_eq_true.2 fun y hy => ?_⟩
    obtain ⟨i, hi, rfl⟩ := List.getElem_of_mem hy
    rw [List.length_take] at hi
    have := hall i (by omega)
    rw [List.getElem_take, List.getD_eq_getElem?_getD, List.getElem?_eq_getElem hj]
    simp only [Option.getD_some]
    simp at this
    cases h1 : opOk ops[i] with
    | false => simp
    | true =>
      rcases this with q | q
      · rw [h1] at q; cases q
      · simp [q]
  · rintro ⟨j, hj, rfl, hok, hf⟩
    refine ⟨by simp [hok], j, hj, rfl, fun i hi => ?_⟩
    have := List.all_eq_true.1 hf ops[i] (by rw [List.mem_take_iff_getElem]; exact ⟨i, by omega, rfl⟩)
    rw [List.getD_eq_getElem?_getD, List.getElem?_eq_getElem hj] at this
    simp only [Option.getD_some] at this
    cases h1 : opOk ops[i] with
    | false => simp [h1]
    | true => simp [h1] at this; simp [h1, this]

/-- What the law looks for, at a place. -/
def selB (ops : List Opn) (id : Int) (j : Nat) : Bool := opOk (ops.getD j op0) && decide ((ops.getD j op0).kind = 2) && decide ((ops.getD j op0).node = id) && firstB ops j
structure ScanI (ops : List Opn) (n : Nd) (k : Nat) (last : Stm) (data : Txt) (mv : Bool) : Prop where
  a : (last = st0 ∧ data = [] ∧ ∀ j, k ≤ j → j < ops.length → selB ops n.id j = false) ∨ (∃ j, k ≤ j ∧ j < ops.length ∧ selB ops n.id j = true ∧ last = (ops.getD j op0).at_ ∧ data = (ops.getD j op0).data ∧ ∀ i, k ≤ i → i < ops.length → selB ops n.id i = true → lessS (ops.getD j op0).at_ (ops.getD i op0).at_ = false)
  b : mv = true ↔ n.moved = st0 ∨ ∃ j, k ≤ j ∧ j < ops.length ∧ opOk (ops.getD j op0) = true ∧ (ops.getD j op0).node = n.id ∧ (ops.getD j op0).kind = 1 ∧ (ops.getD j op0).at_ = n.moved ∧ (ops.getD j op0).parent = n.parent ∧ (ops.getD j op0).name = n.name

theorem scan_0 (ops : List Opn) (n : Nd) : ScanI ops n ops.length st0 [] (decide (n.moved = st0)) :=
  ⟨.inl ⟨rfl, rfl, fun j h1 h2 => by omega⟩, by rw [decide_eq_true_eq]; exact ⟨.inl, fun h => h.resolve_right (fun ⟨j, h1, h2, _⟩ => by omega)⟩⟩
/-- One that does not count. -/
theorem scan_skip {ops : List Opn} {n : Nd} {k : Nat} {last : Stm} {data : Txt} {mv : Bool} (h : ScanI ops n (k + 1) last data mv) (hs : selB ops n.id k = false) (hm : ¬ (opOk (ops.getD k op0) = true ∧ (ops.getD k op0).node = n.id ∧ (ops.getD k op0).kind = 1 ∧ (ops.getD k op0).at_ = n.moved ∧ (ops.getD k op0).parent = n.parent ∧ (ops.getD k op0).name = n.name)) : ScanI ops n k last data mv := by
  refine ⟨?_, ?_⟩
  · rcases h.a with ⟨h1, h2, h3⟩ | ⟨j, h1, h2, h3, h4, h5, h6⟩
    · refine .inl ⟨h1, h2, fun j q1 q2 => ?_⟩
      by_cases e : j = k
      · subst e; exact hs
      · exact h3 j (by omega) q2
    · refine .inr ⟨j, by omega, h2, h3, h4, h5, fun i q1 q2 q3 => ?_⟩
      by_cases e : i = k
      · subst e; rw [hs] at q3; cases q3
      · exact h6 i (by omega) q2 q3
  · rw [h.b]
    constructor
    · rintro (q | ⟨j, h1, h2⟩)
      · exact .inl q
      · exact .inr ⟨j, by omega, h2⟩
    · rintro (q | ⟨j, h1, h2, h3⟩)
      · exact .inl q
      · by_cases e : j = k
        · subst e; exact absurd h3 hm
        · exact .inr ⟨j, by omega, h2, h3⟩
/-- A move. -/
theorem scan_move {ops : List Opn} {n : Nd} {k : Nat} {last : Stm} {data : Txt} {mv : Bool} (h : ScanI ops n (k + 1) last data mv) (hk : k < ops.length) (hok : opOk (ops.getD k op0) = true) (hn : (ops.getD k op0).node = n.id) (h1 : (ops.getD k op0).kind = 1) :
    ScanI ops n k last data (mv || (decide ((ops.getD k op0).at_ = n.moved) && decide ((ops.getD k op0).parent = n.parent) && decide ((ops.getD k op0).name = n.name))) := by
  have hs : selB ops n.id k = false := by unfold selB; rw [decide_eq_false (show ¬ (ops.getD k op0).kind = 2 by omega)]; simp
  by_cases hm : (ops.getD k op0).at_ = n.moved ∧ (ops.getD k op0).parent = n.parent ∧ (ops.getD k op0).name = n.name
  · rw [decide_eq_true hm.1, decide_eq_true hm.2.1, decide_eq_true hm.2.2]
    refine ⟨?_, ?_⟩
    · rcases h.a with ⟨q1, q2, q3⟩ | ⟨j, q1, q2, q3, q4, q5, q6⟩
      · refine .inl ⟨q1, q2, fun j p1 p2 => ?_⟩
        by_cases e : j = k
        · subst e; exact hs
        · exact q3 j (by omega) p2
      · refine .inr ⟨j, by omega, q2, q3, q4, q5, fun i p1 p2 p3 => ?_⟩
        by_cases e : i = k
        · subst e; rw [hs] at p3; cases p3
        · exact q6 i (by omega) p2 p3
    · simp only [Bool.and_self, Bool.or_true, true_iff]
      exact .inr ⟨k, Nat.le_refl _, hk, hok, hn, h1, hm⟩
  · have e : (decide ((ops.getD k op0).at_ = n.moved) && decide ((ops.getD k op0).parent = n.parent) && decide ((ops.getD k op0).name = n.name)) = false := by
      rw [Bool.eq_false_iff]; intro q
      rw [Bool.and_eq_true, Bool.and_eq_true, decide_eq_true_eq, decide_eq_true_eq, decide_eq_true_eq] at q
      exact hm ⟨q.1.1, q.1.2, q.2⟩
    rw [e, Bool.or_false]
    exact scan_skip h hs (fun q => hm q.2.2.2)
theorem ok_pos {o : Opn} (h : opOk o = true) : lessS o.at_ st0 = false := by
  unfold opOk at h
  simp only [Bool.and_eq_true] at h
  have h1 := h.1.1.2
  unfold okI at h1
  simp only [Bool.and_eq_true, decide_eq_true_eq] at h1
  rw [lessS_f]
  simp only [st0]
  omega
/-- A write that is the first of its time. -/
theorem scan_write {ops : List Opn} {n : Nd} {k : Nat} {last : Stm} {data : Txt} {mv : Bool} (h : ScanI ops n (k + 1) last data mv) (hk : k < ops.length) (hs : selB ops n.id k = true) :
    ScanI ops n k (if lessS (ops.getD k op0).at_ last = true then last else (ops.getD k op0).at_) (if lessS (ops.getD k op0).at_ last = true then data else (ops.getD k op0).data) mv := by
  have hs' := hs
  unfold selB at hs'
  simp only [Bool.and_eq_true, decide_eq_true_eq] at hs'
  refine ⟨?_, ?_⟩
  · rcases h.a with ⟨q1, q2, q3⟩ | ⟨j, q1, q2, q3, q4, q5, q6⟩
    · have : lessS (ops.getD k op0).at_ last = false := by rw [q1]; exact ok_pos hs'.1.1.1
      rw [this, if_neg (by decide), if_neg (by decide)]
      refine .inr ⟨k, Nat.le_refl _, hk, hs, rfl, rfl, fun i p1 p2 p3 => ?_⟩
      by_cases e : i = k
      · subst e; exact lessS_irr _
      · rw [q3 i (by omega) p2] at p3; cases p3
    · cases hl : lessS (ops.getD k op0).at_ last with
      | true =>
        rw [if_pos rfl, if_pos rfl]
        refine .inr ⟨j, by omega, q2, q3, q4, q5, fun i p1 p2 p3 => ?_⟩
        by_cases e : i = k
        · subst e; rw [q4] at hl; exact oLess_swo.asy (ops.getD i op0) (ops.getD j op0) hl
        · exact q6 i (by omega) p2 p3
      | false =>
        rw [if_neg (by decide), if_neg (by decide)]
        refine .inr ⟨k, Nat.le_refl _, hk, hs, rfl, rfl, fun i p1 p2 p3 => ?_⟩
        by_cases e : i = k
        · subst e; exact lessS_irr _
        · rw [q4] at hl
          exact oLess_swo.ntr (ops.getD k op0) (ops.getD j op0) (ops.getD i op0) hl (q6 i (by omega) p2 p3)
  · rw [h.b]
    constructor
    · rintro (q | ⟨j, h1, h2⟩)
      · exact .inl q
      · exact .inr ⟨j, by omega, h2⟩
    · rintro (q | ⟨j, h1, h2, h3⟩)
      · exact .inl q
      · by_cases e : j = k
        · subst e; omega
        · exact .inr ⟨j, by omega, h2, h3⟩
/-- What was found at the end is what the node has. -/
theorem scan_end {ops : List Opn} {n : Nd} {last : Stm} {data : Txt} {mv : Bool} (h : ScanI ops n 0 last data mv) (hn : n ∈ foldL ops) : n.wrote = last ∧ n.data = data ∧ mv = true := by
  have hsrt := (rSort_mem ops).1
  have hI := lst_foldl (rSort ops) (fun o ho => by obtain ⟨j, hj, rfl, hok, -⟩ := (rSort_first ops o).1 ho; exact hok)
  have hsel : ∀ j, j < ops.length → selB ops n.id j = true → (ops.getD j op0) ∈ rSort ops ∧ (ops.getD j op0).kind = 2 ∧ (ops.getD j op0).node = n.id := by
    intro j hj hs
    unfold selB at hs
    simp only [Bool.and_eq_true, decide_eq_true_eq] at hs
    refine ⟨(rSort_first ops _).2 ⟨j, hj, ?_, hs.1.1.1, hs.2⟩, hs.1.1.2, hs.1.2⟩
    rw [List.getD_eq_getElem?_getD, List.getElem?_eq_getElem hj]; rfl
  have hsel2 : ∀ x ∈ rSort ops, x.kind = 2 → x.node = n.id → ∃ j, j < ops.length ∧ ops.getD j op0 = x ∧ selB ops n.id j = true := by
    intro x hx h1 h2
    obtain ⟨j, hj, rfl, hok, hf⟩ := (rSort_first ops x).1 hx
    have e : ops.getD j op0 = ops[j] := by rw [List.getD_eq_getElem?_getD, List.getElem?_eq_getElem hj]; rfl
    refine ⟨j, hj, e, ?_⟩
    unfold selB
    rw [e, hok, h1, h2, hf]; simp
  have hw := hI.w n hn
  have key : n.wrote = last ∧ n.data = data := by
    rcases lastW_best hsrt n.id with ⟨e, hno⟩ | ⟨x, hx, k1, k2, e, hbest⟩
    · rw [e] at hw
      rcases h.a with ⟨q1, q2, q3⟩ | ⟨j, q1, q2, q3, q4, q5, q6⟩
      · rw [q1, q2]; exact ⟨congrArg Prod.fst hw, congrArg Prod.snd hw⟩
      · obtain ⟨p1, p2, p3⟩ := hsel j q2 q3
        exact absurd ⟨p2, p3⟩ (hno _ p1)
    · rw [e] at hw
      obtain ⟨jx, hjx, ex, sx⟩ := hsel2 x hx k1 k2
      rcases h.a with ⟨q1, q2, q3⟩ | ⟨j, q1, q2, q3, q4, q5, q6⟩
      · rw [q3 jx (Nat.zero_le _) hjx] at sx; cases sx
      · obtain ⟨p1, p2, p3⟩ := hsel j q2 q3
        have b1 := hbest _ p1 p2 p3
        have b2 := q6 jx (Nat.zero_le _) hjx sx
        rw [ex] at b2
        have hat : x.at_ = (ops.getD j op0).at_ := by
          rcases lessS_tri x.at_ (ops.getD j op0).at_ with q | q | q
          · rw [q] at b1; cases b1
          · exact q
          · rw [q] at b2; cases b2
        have hxe : x = ops.getD j op0 := by
          have m1 := ((rSort_mem ops).2 x).1 hx
          have m2 := ((rSort_mem ops).2 _).1 p1
          rw [← hat, m1] at m2
          exact Option.some.inj m2
        rw [q4, q5, ← hxe]
        exact ⟨congrArg Prod.fst hw, congrArg Prod.snd hw⟩
  refine ⟨key.1, key.2, h.b.2 ?_⟩
  rcases hI.m n hn with q | ⟨o, ho, q1, q2, q3, q4, q5⟩
  · exact .inl q
  · obtain ⟨j, hj, rfl, hok, -⟩ := (rSort_first ops o).1 ho
    have e : ops.getD j op0 = ops[j] := by rw [List.getD_eq_getElem?_getD, List.getElem?_eq_getElem hj]; rfl
    exact .inr ⟨j, Nat.zero_le _, hj, by rw [e]; exact hok, by rw [e]; exact q2, by rw [e]; exact q1, by rw [e]; exact q3, by rw [e]; exact q4, by rw [e]; exact q5⟩
end Go.Gw
