/- The abstract machine: every operation, a region, a call, a function. No condition. -/
import Derived.Test.YtaiehnjakoeloaaAvRun
import Derived.Still
namespace Go.Aw
open Go
set_option linter.unusedSimpArgs false

variable {P : Program}

theorem does_val {o : Oper} {ρ : Operand → AV} {H H' : AHeap} {x : AV}
    (h : ∀ (c : Ctx) (a : Act), St c H → (∀ x ∈ o.op.operands.toList, Rep c (ρ x) (a.eval x)) → ∃ c' v, (execOp a.eval o).run P c.w = .ok (.value v) c'.w ∧ St c' H' ∧ Ext c c' ∧ Rep c' x v) :
    Does P o ρ H (fun x' H'' => x' = x ∧ H'' = H') := by
  intro c a next Q hs hρ hk
  obtain ⟨c', v, h1, h2, h3, h4⟩ := h c a hs hρ
  unfold Oper.wp
  rw [h1]
  exact hk c' x v H' h2 h3 h4 ⟨rfl, rfl⟩

theorem does_skip {o : Oper} {ρ : Operand → AV} {H H' : AHeap}
    (h : ∀ (c : Ctx) (a : Act), St c H → (∀ x ∈ o.op.operands.toList, Rep c (ρ x) (a.eval x)) → ∃ c', (execOp a.eval o).run P c.w = .ok .skip c'.w ∧ St c' H' ∧ Ext c c') :
    Does P o ρ H (fun x' H'' => x' = .top ∧ H'' = H') := by
  intro c a next Q hs hρ hk
  obtain ⟨c', h1, h2, h3⟩ := h c a hs hρ
  unfold Oper.wp
  rw [h1]
  exact hk c' .top undef H' h2 h3 (.top _) ⟨rfl, rfl⟩

def ofBR (r : BR) (H : AHeap) : Res := ⟨r.v, H, r.s⟩

theorem Rep.cptr_inv {c : Ctx} {cs : List AV} {v : Value} (h : Rep c (.cptr cs) v) : ∃ a, v = .pointer (some a) := by
  cases h with | cptr _ a => exact ⟨a, rfl⟩

/-- A pointer, a function, an interface value that is not nil. -/
def anil (x : AV) (H : AHeap) : Res :=
  match x with
  | .ref i v off => ⟨.ref i v off, H, liveRef H (.ref i v off)⟩
  | .cptr cs => ⟨.cptr cs, H, True⟩
  | _ => ⟨.top, H, False⟩

def fieldsKnown (P : Program) (t : TypeId) : Bool :=
  match P.underlying t with
  | some d => fieldsOk P d
  | none => false

/-- What an operation does, that is no call of a function. -/
def opEval (P : Program) (op : Op) (ρ : Operand → AV) (H : AHeap) : Res :=
  match op with
  | .move x => ⟨ρ x, H, True⟩
  | .assign x => ⟨ρ x, H, True⟩
  | .alloc t => aalloc P t H
  | .box _ x => abox (ρ x) H
  | .build t ps => ⟨(abuild P t (ps.toList.map fun p => (p.1, ρ p.2))).v, H, fieldsKnown P t = true ∧ (abuild P t (ps.toList.map fun p => (p.1, ρ p.2))).s⟩
  | .buildSlice t n ps => ofBR (abuildSlice P t n (ps.toList.map fun p => (p.1, ρ p.2))) H
  | .load t x => ofBR (aload P t (ρ x) H) H
  | .store t a x => astore P t (ρ a) (ρ x) H
  | .nilCheck x => anil (ρ x) H
  | .binOp op t x y _ => ofBR (aBin P op t (ρ x) (ρ y)) H
  | .unOp op _ x => ofBR (aun op (ρ x)) H
  | .convert s d x => ofBR (aconv P s d (ρ x)) H
  | .makeInterface t x => ⟨.iface t (ρ x), H, concrete P t = true⟩
  | .makeFunc fn f cs => ⟨.func fn (f.toList.map ρ) (cs.toList.map ρ), H, True⟩
  | .slice t x lo hi mx => ofBR (aslice P t (ρ x) (lo.map ρ) (hi.map ρ) (mx.map ρ) H) H
  | .fieldAddr t x f => ⟨(afieldAddr P t f (ρ x)).v, H, liveRef H (ρ x) ∧ (afieldAddr P t f (ρ x)).s⟩
  | .field t x f => ofBR (afield P t f (ρ x)) H
  | .indexAddr t x i => ⟨(aindexAddr P t (ρ x) (ρ i)).v, H, liveRef H (ρ x) ∧ (aindexAddr P t (ρ x) (ρ i)).s⟩
  | .index t x i => ofBR (aindex P t (ρ x) (ρ i)) H
  | .typeAssert x _ t ok => ofBR (aassert P (ρ x) t ok) H
  | .extract x i => ofBR (aextract (ρ x) i) H
  | .call ⟨.builtin b, xs, ts⟩ => abuiltin P b ts.toList (xs.toList.map ρ) H
  | _ => ⟨.top, H, False⟩

theorem rep_map {c : Ctx} {ρ : Operand → AV} {e : Operand → Value} {xs : Array Operand} (h : ∀ x ∈ xs.toList, Rep c (ρ x) (e x)) : RepA c (xs.toList.map ρ) (xs.map e) := by
  refine ⟨by simp, fun i x v h1 h2 => ?_⟩
  simp only [List.getElem?_map, Option.map_eq_some_iff] at h1
  obtain ⟨y, h1, rfl⟩ := h1
  rw [Array.getElem?_map] at h2
  rw [Array.getElem?_toList] at h1
  rw [h1] at h2
  cases h2
  exact h y (by rw [Array.mem_toList_iff]; exact Array.mem_of_getElem? h1)

theorem opt_operand {c : Ctx} {ρ : Operand → AV} {e : Operand → Value} {o : Option Operand} (h : ∀ x, o = some x → Rep c (ρ x) (e x)) :
    (∀ y, o.map ρ = some y → ∃ u, o.map e = some u ∧ Rep c y u) ∧ (o.map ρ = none → o.map e = none) := by
  cases o with
  | none => exact ⟨by simp, by simp⟩
  | some x => exact ⟨fun y hy => by simp at hy; subst hy; exact ⟨_, rfl, h x rfl⟩, by simp⟩

set_option maxHeartbeats 1600000 in
theorem opEval_does {o : Oper} {ρ : Operand → AV} {H : AHeap} (hs : (opEval P o.op ρ H).s) :
    Does P o ρ H (fun x' H' => x' = (opEval P o.op ρ H).v ∧ H' = (opEval P o.op ρ H).H) := by
  obtain ⟨dst, op, ty, pos, after, guard⟩ := o
  cases op <;> simp only [opEval, ofBR] at hs ⊢
  case move x => exact does_val fun c a hst hρ => ⟨c, _, rfl, hst, Ext.refl c, hρ x (by simp [Op.operands])⟩
  case assign x => exact does_val fun c a hst hρ => ⟨c, _, rfl, hst, Ext.refl c, hρ x (by simp [Op.operands])⟩
  case alloc t =>
    refine does_val fun c a hst hρ => ?_
    obtain ⟨c', v, h1, h2, h3, h4⟩ := aalloc_sound (P := P) hst hs
    exact ⟨c', v, by simp only [execOp, Sem.run_bind, h1]; rfl, h2, h3, h4⟩
  case box t x =>
    refine does_val fun c a hst hρ => ?_
    obtain ⟨c', v, h1, h2, h3, h4⟩ := abox_sound (P := P) (t := t) hst (hρ x (by simp [Op.operands])) hs
    exact ⟨c', v, by simp only [execOp, Sem.run_bind, h1]; rfl, h2, h3, h4⟩
  case build t ps =>
    obtain ⟨hf, hs⟩ := hs
    refine does_val fun c a hst hρ => ?_
    have hmem : ∀ p ∈ ps.toList, Rep c (ρ p.2) (a.eval p.2) := fun p hp => hρ p.2 (by simp only [Op.operands, List.mem_map]; exact ⟨p, hp, rfl⟩)
    obtain ⟨v, h1, h2⟩ := abuild_sound (P := P) (vs := ps.map fun (i, x) => (i, a.eval x)) (by simp [List.map_map, Function.comp_def]) (fun k p q h1 h2 => by
      simp only [List.getElem?_map, Option.map_eq_some_iff] at h1
      obtain ⟨r, h1, rfl⟩ := h1
      rw [Array.getElem?_map] at h2
      rw [Array.getElem?_toList] at h1
      rw [h1] at h2
      cases h2
      exact hmem r (by rw [Array.mem_toList_iff]; exact Array.mem_of_getElem? h1)) hs (fun d hd => by unfold fieldsKnown at hf; rw [hd] at hf; exact hf) c.w
    exact ⟨c, v, by simp only [execOp, Sem.run_bind, h1]; rfl, hst, Ext.refl c, h2⟩
  case buildSlice t n ps =>
    refine does_val fun c a hst hρ => ?_
    have hmem : ∀ p ∈ ps.toList, Rep c (ρ p.2) (a.eval p.2) := fun p hp => hρ p.2 (by simp only [Op.operands, List.mem_map]; exact ⟨p, hp, rfl⟩)
    obtain ⟨c', v, h1, h2, h3, h4⟩ := abuildSlice_sound (P := P) (vs := ps.map fun (i, x) => (i, a.eval x)) hst (by simp [List.map_map, Function.comp_def]) (fun k p q h1 h2 => by
      simp only [List.getElem?_map, Option.map_eq_some_iff] at h1
      obtain ⟨r, h1, rfl⟩ := h1
      rw [Array.getElem?_map] at h2
      rw [Array.getElem?_toList] at h1
      rw [h1] at h2
      cases h2
      exact hmem r (by rw [Array.mem_toList_iff]; exact Array.mem_of_getElem? h1)) hs
    exact ⟨c', v, by simp only [execOp, Sem.run_bind, h1]; rfl, h2, h3, h4⟩
  case load t x =>
    refine does_val fun c a hst hρ => ?_
    obtain ⟨v, h1, h2⟩ := aload_sound (P := P) hst (hρ x (by simp [Op.operands])) hs
    exact ⟨c, v, by simp only [execOp, Sem.run_bind, h1]; rfl, hst, Ext.refl c, h2⟩
  case store t x y =>
    have hv : (astore P t (ρ x) (ρ y) H).v = .top := by unfold astore; split <;> (try split) <;> rfl
    rw [hv]
    refine does_skip fun c a hst hρ => ?_
    obtain ⟨w', h1, h2, h3⟩ := astore_sound (P := P) hst (hρ x (by simp [Op.operands])) (hρ y (by simp [Op.operands])) hs
    exact ⟨_, by simp only [execOp, Sem.run_bind, h1]; rfl, h3, h2⟩
  case nilCheck x =>
    refine does_val fun c a hst hρ => ?_
    have hx := hρ x (by simp [Op.operands])
    have e : (anil (ρ x) H).v = ρ x ∧ (anil (ρ x) H).H = H ∧ ∃ a', a.eval x = .pointer (some a') := by
      unfold anil at hs ⊢
      split at hs
      · rename_i i v off hh
        rw [hh] at hx
        obtain ⟨b, hb, -⟩ := rep_ref_add hx (liveRef_ver (off := off) hst hs) 0
        exact ⟨hh.symm, rfl, b, hb⟩
      · rename_i cs hh
        rw [hh] at hx
        obtain ⟨a', ha'⟩ := hx.cptr_inv
        exact ⟨hh.symm, rfl, a', ha'⟩
      · exact hs.elim
    obtain ⟨e1, e2, a', e3⟩ := e
    rw [e1, e2]
    refine ⟨c, .pointer (some a'), ?_, hst, Ext.refl c, by rw [← e3]; exact hx⟩
    simp only [execOp]
    rw [e3]
    rfl
  case binOp op t x y ty' =>
    refine does_val fun c a hst hρ => ?_
    obtain ⟨v, h1, h2⟩ := aBin_sound (P := P) (X := x) (Y := y) (hρ x (by simp [Op.operands])) (hρ y (by simp [Op.operands])) hs c.w
    exact ⟨c, v, by simp only [execOp]; rw [Sem.run_bind, h1]; rfl, hst, Ext.refl c, h2⟩
  case unOp op t x =>
    refine does_val fun c a hst hρ => ?_
    obtain ⟨v, h1, h2⟩ := aun_sound (P := P) (hρ x (by simp [Op.operands])) hs c.w
    exact ⟨c, v, by simp only [execOp, Sem.run_bind, h1]; rfl, hst, Ext.refl c, h2⟩
  case convert s d x =>
    refine does_val fun c a hst hρ => ?_
    obtain ⟨v, h1, h2⟩ := aconv_sound (P := P) (hρ x (by simp [Op.operands])) hs c.w
    exact ⟨c, v, by simp only [execOp, Sem.run_bind, h1]; rfl, hst, Ext.refl c, h2⟩
  case makeInterface t x =>
    exact does_val fun c a hst hρ => ⟨c, _, by simp only [execOp, Sem.run_bind, concrete_sound hs]; rfl, hst, Ext.refl c, .iface _ _ _ (hρ x (by simp [Op.operands]))⟩
  case makeFunc fn f cs =>
    refine does_val fun c a hst hρ => ⟨c, .func fn (f.map a.eval) (cs.map a.eval), by simp only [execOp, Instr.makeFunc, Sem.run_bind, Sem.run_pure]; rfl, hst, Ext.refl c, ?_⟩
    obtain ⟨p1, p2⟩ := rep_map (c := c) (ρ := ρ) (e := a.eval) (xs := f) (fun x hx => hρ x (by simp only [Op.operands, Array.toList_append, List.mem_append]; exact .inl hx))
    obtain ⟨q1, q2⟩ := rep_map (c := c) (ρ := ρ) (e := a.eval) (xs := cs) (fun x hx => hρ x (by simp only [Op.operands, Array.toList_append, List.mem_append]; exact .inr hx))
    exact .func _ _ _ _ _ p1 q1 p2 q2
  case slice t x lo hi mx =>
    refine does_val fun c a hst hρ => ?_
    obtain ⟨l1, l2⟩ := opt_operand (c := c) (ρ := ρ) (e := a.eval) (o := lo) (fun y hy => hρ y (by subst hy; simp [Op.operands]))
    obtain ⟨h1, h2⟩ := opt_operand (c := c) (ρ := ρ) (e := a.eval) (o := hi) (fun y hy => hρ y (by subst hy; simp [Op.operands]))
    obtain ⟨m1, m2⟩ := opt_operand (c := c) (ρ := ρ) (e := a.eval) (o := mx) (fun y hy => hρ y (by subst hy; simp [Op.operands]))
    obtain ⟨v, g1, g2⟩ := aslice_sound (P := P) hst (hρ x (by simp [Op.operands])) l1 l2 h1 h2 m1 m2 hs c.w
    exact ⟨c, v, by simp only [execOp, Sem.run_bind, g1]; rfl, hst, Ext.refl c, g2⟩
  case fieldAddr t x f =>
    refine does_val fun c a hst hρ => ?_
    obtain ⟨v, h1, h2⟩ := afieldAddr_sound (P := P) hst (hρ x (by simp [Op.operands])) hs.1 hs.2 c.w
    exact ⟨c, v, by simp only [execOp, Sem.run_bind, h1]; rfl, hst, Ext.refl c, h2⟩
  case field t x f =>
    refine does_val fun c a hst hρ => ?_
    obtain ⟨v, h1, h2⟩ := afield_sound (P := P) (hρ x (by simp [Op.operands])) hs c.w
    exact ⟨c, v, by simp only [execOp, Sem.run_bind, h1]; rfl, hst, Ext.refl c, h2⟩
  case indexAddr t x i =>
    refine does_val fun c a hst hρ => ?_
    obtain ⟨v, h1, h2⟩ := aindexAddr_sound (P := P) hst (hρ x (by simp [Op.operands])) (hρ i (by simp [Op.operands])) hs.1 hs.2 c.w
    exact ⟨c, v, by simp only [execOp, Sem.run_bind, h1]; rfl, hst, Ext.refl c, h2⟩
  case index t x i =>
    refine does_val fun c a hst hρ => ?_
    obtain ⟨v, h1, h2⟩ := aindex_sound (P := P) (hρ x (by simp [Op.operands])) (hρ i (by simp [Op.operands])) hs c.w
    exact ⟨c, v, by simp only [execOp, Sem.run_bind, h1]; rfl, hst, Ext.refl c, h2⟩
  case typeAssert x xt t ok =>
    refine does_val fun c a hst hρ => ?_
    obtain ⟨v, h1, h2⟩ := aassert_sound (P := P) (xt := xt) (hρ x (by simp [Op.operands])) hs c.w
    exact ⟨c, v, by simp only [execOp, Sem.run_bind, h1]; rfl, hst, Ext.refl c, h2⟩
  case extract x i =>
    refine does_val fun c a hst hρ => ?_
    obtain ⟨v, h1, h2⟩ := aextract_sound (P := P) (hρ x (by simp [Op.operands])) hs c.w
    exact ⟨c, v, by simp only [execOp, Sem.run_bind, h1]; rfl, hst, Ext.refl c, h2⟩
  case call cl =>
    obtain ⟨callee, xs, ts⟩ := cl
    cases callee <;> simp only at hs ⊢
    case builtin b =>
      refine does_val fun c a hst hρ => ?_
      obtain ⟨c', v, h1, h2, h3, h4⟩ := abuiltin_sound (P := P) (b := b) (ts := ts) (ty := ty) (cs := xs.map fun | .const _ => true | _ => false) (vs := xs.map a.eval) hst (rep_map fun x hx => hρ x (by simp only [Op.operands, Call.operands, Array.toList_append, List.mem_append]; exact .inr hx)) hs
      exact ⟨c', v, by simp only [execOp, resolve, Sem.run_bind, Sem.run_pure, Result.andThen_ok, invoke]; exact h1, h2, h3, h4⟩

/-! ### Calls -/

/-- A function that can be entered. -/
def callOk (P : Program) (f : FuncId) : Bool :=
  match P.funcs[f]? with
  | some fn => fn.body.isSome && !(fn.name == "runtime.NumGoroutine")
  | none => false

theorem run_callFunc_ok {f : FuncId} (h : callOk P f = true) (args : Array Value) (w : World) : (callFunc f args).run P w = .ok (.enter f args) w := by
  unfold callOk at h
  cases hf : P.funcs[f]? with
  | none => rw [hf] at h; cases h
  | some fn =>
    rw [hf] at h
    simp only [Bool.and_eq_true, Bool.not_eq_true'] at h
    obtain ⟨h1, h2⟩ := h
    have h3 : fn.body.isNone = false := by cases hb : fn.body <;> simp_all
    simp only [callFunc, Sem.run_bind, run_program, Result.andThen_ok, hf, h2, h3, Bool.false_eq_true, if_false]
    rfl

/-- A call of a function that can be entered: it returns, and the post holds. -/
def ACall (P : Program) (f : AV) (args : List AV) (H : AHeap) (R : AV → AHeap → Prop) : Prop :=
  match f with
  | .func (.func fid) first cap => callOk P fid = true ∧ ACalls P fid (first ++ args ++ cap) H R
  | _ => False

theorem does_call {o : Oper} {ρ : Operand → AV} {H : AHeap} {R : AV → AHeap → Prop} {f : Operand} {xs : Array Operand} {ts : Array TypeId} (ho : o.op = .call ⟨.value f, xs, ts⟩) (h : ACall P (ρ f) (xs.toList.map ρ) H R) : Does P o ρ H R := by
  intro c a next Q hs hρ hk
  unfold ACall at h
  split at h
  · rename_i fid first cap hf
    obtain ⟨hok, h⟩ := h
    have hrf := hρ f (by rw [ho]; simp [Op.operands, Call.operands])
    rw [hf] at hrf
    generalize hev : a.eval f = vf at hrf
    cases hrf with
    | func _ _ _ v1 v2 hl1 hl2 hr1 hr2 =>
      obtain ⟨hl3, hr3⟩ := rep_map (c := c) (ρ := ρ) (e := a.eval) (xs := xs) (fun x hx => hρ x (by rw [ho]; simp only [Op.operands, Call.operands, Array.toList_append, List.mem_append]; exact .inr hx))
      have hrun : (execOp a.eval o).run P c.w = .ok (.enter fid (v1 ++ xs.map a.eval ++ v2)) c.w := by
        simp only [execOp, ho, resolve, hev, Deferred.ofValue, Sem.run_bind, Sem.run_pure, Result.andThen_ok, invoke]
        exact run_callFunc_ok hok _ _
      unfold Oper.wp
      rw [hrun]
      simp only [Oper.upon]
      refine (h c _ hs ⟨by simp [hl1, hl2, hl3], fun i x v g1 g2 => ?_⟩).mono fun e w' ⟨c', x, v, H', e1, e2, e3, e4, e5, e6⟩ => ?_
      · by_cases h1 : i < first.length
        · rw [List.append_assoc, List.getElem?_append_left h1] at g1
          rw [Array.append_assoc, Array.getElem?_append_left (by omega)] at g2
          exact hr1 _ _ _ g1 g2
        · by_cases h2 : i < first.length + (xs.toList.map ρ).length
          · rw [List.append_assoc, List.getElem?_append_right (by omega), List.getElem?_append_left (by omega)] at g1
            rw [Array.append_assoc, Array.getElem?_append_right (by omega), Array.getElem?_append_left (by omega), hl1] at g2
            exact hr3 _ _ _ g1 g2
          · rw [List.append_assoc, List.getElem?_append_right (by omega), List.getElem?_append_right (by omega)] at g1
            rw [Array.append_assoc, Array.getElem?_append_right (by omega), Array.getElem?_append_right (by omega), hl1, hl3] at g2
            exact hr2 _ _ _ g1 g2
      · subst e1
        subst e2
        exact hk c' x v H' e3 e4 e5 e6
  · exact h.elim

theorem Does.mono {o : Oper} {ρ : Operand → AV} {H : AHeap} {R R' : AV → AHeap → Prop} (h : Does P o ρ H R) (hr : ∀ x H', R x H' → R' x H') : Does P o ρ H R' :=
  fun c a next Q hs hρ hk => h c a next Q hs hρ fun c' x v H' h1 h2 h3 h4 => hk c' x v H' h1 h2 h3 (hr _ _ h4)

/-! ### One operation of a region, with its guard -/

/-- Whether an operation is carried out. -/
def gval (v : AV) (want : Bool) : Bool :=
  match v with
  | .bool b => bif want then b else !b
  | .opt g (.bool b) => g && (bif want then b else !b)
  | _ => false

/-- That can be told. -/
def gok (v : AV) : Prop :=
  match v with
  | .bool _ => True
  | .opt _ (.bool _) => True
  | _ => False

def unopt : AV → AV
  | .opt _ v => v
  | v => v

/-- What is asked of an operand under a guard. -/
def gobl (g : Bool) : AV → Prop
  | .opt g' _ => g = true → g' = true
  | _ => True

def guardSlot (all : List Oper) (j : Nat) : Option Tmp := (all[j]?).bind (·.dst)

def slotV (α : AF) : Option Tmp → AV
  | some t => look α t
  | none => .top

def optA (g : Bool) (v : AV) : AV := .opt g v

/-- A bool, and the guard under which it is told. -/
def toldB : AV → Option (Bool × Bool)
  | .bool b => some (true, b)
  | .opt g (.bool b) => some (g, b)
  | _ => none

/-- A choice between two bools, each told under a guard. -/
def apick (g : Bool) (c a b : AV) : BR :=
  match toldB c, toldB a, toldB b with
  | some (gc, cb), some (ga, x), some (gb, y) => ⟨.bool (bif cb then x else y), (g = true → gc = true) ∧ (g = true → cb = true → ga = true) ∧ (g = true → cb = false → gb = true)⟩
  | _, _, _ => bad

theorem toldB_rep {c : Ctx} {x : AV} {v : Value} {g b : Bool} (h : toldB x = some (g, b)) (hx : Rep c x v) (hg : g = true) : v = .bool b := by
  unfold toldB at h
  split at h
  · simp only [Option.some.injEq, Prod.mk.injEq] at h; rw [h.2] at hx; exact hx.bool_inv
  · simp only [Option.some.injEq, Prod.mk.injEq] at h
    rw [h.1, h.2] at hx
    cases hx with
    | opt _ _ _ h1 => exact (h1 hg).bool_inv
  · cases h

theorem apick_does {o : Oper} {ρ : Operand → AV} {H : AHeap} {x y z : Operand} {g : Bool} (ho : o.op = .pick x y z) (hg : g = true) (hs : (apick g (ρ x) (ρ y) (ρ z)).s) :
    Does P o ρ H (fun v H' => v = (apick g (ρ x) (ρ y) (ρ z)).v ∧ H' = H) := by
  refine does_val fun c a hst hρ => ?_
  have hx := hρ x (by rw [ho]; simp [Op.operands])
  have hy := hρ y (by rw [ho]; simp [Op.operands])
  have hz := hρ z (by rw [ho]; simp [Op.operands])
  have hrun : ∀ cb : Bool, a.eval x = .bool cb → (execOp a.eval o).run P c.w = .ok (.value (if cb then a.eval y else a.eval z)) c.w := by
    intro cb h
    simp only [execOp, ho, h, asBool, Sem.run_bind, Sem.run_pure, Result.andThen_ok]
  generalize hcx : ρ x = cx at hx hs ⊢
  generalize hcy : ρ y = cy at hy hs ⊢
  generalize hcz : ρ z = cz at hz hs ⊢
  unfold apick at *
  split at hs
  · rename_i gc cb ga b1 gb b2 e1 e2 e3
    refine ⟨c, _, hrun cb (toldB_rep e1 hx (hs.1 hg)), hst, Ext.refl c, ?_⟩
    cases cb
    · rw [if_neg (by simp), toldB_rep e3 hz (hs.2.2 hg rfl)]; exact .bool _
    · rw [if_pos rfl, toldB_rep e2 hy (hs.2.1 hg rfl)]; exact .bool _
  · exact hs.elim

end Go.Aw
