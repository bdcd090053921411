/- The abstract machine: every operation, a region, a call, a function. No condition. -/
import Derived.Test.YtoffonjlfomnbaaAvRun
import Derived.Still
namespace Go.Aw
open Go
set_option linter.unusedSimpArgs false

variable {P : Program}

theorem does_val {o : Oper} {ρ : Operand → AV} {H H' : AHeap} {x : AV}
    (h : ∀ (c : Ctx) (a : Act), St c H → (∀ x ∈ o.op.operands.toList, Rep c (ρ x) (a.eval x)) → ∃ c' v, (execOp a.eval o).run P c.w = .ok (.value v) c'.w ∧ St c' H' ∧ Ext c c' ∧ Rep c' x v) :
    Does P o ρ H (fun x' H'' => x' = x ∧ H'' = H') := by
  intro c a next Q hs hρ hk
  obtain ⟨c', v, h1, h2, h3, h4⟩ := h c a hs hρ
  unfold Oper.wp
  rw [h1]
  exact hk c' x v H' h2 h3 h4 ⟨rfl, rfl⟩

theorem does_skip {o : Oper} {ρ : Operand → AV} {H H' : AHeap}
    (h : ∀ (c : Ctx) (a : Act), St c H → (∀ x ∈ o.op.operands.toList, Rep c (ρ x) (a.eval x)) → ∃ c', (execOp a.eval o).run P c.w = .ok .skip c'.w ∧ St c' H' ∧ Ext c c') :
    Does P o ρ H (fun x' H'' => x' = .top ∧ H'' = H') := by
  intro c a next Q hs hρ hk
  obtain ⟨c', h1, h2, h3⟩ := h c a hs hρ
  unfold Oper.wp
  rw [h1]
  exact hk c' .top undef H' h2 h3 (.top _) ⟨rfl, rfl⟩

def ofBR (r : BR) (H : AHeap) : Res := ⟨r.v, H, r.s⟩

theorem Rep.cptr_inv {c : Ctx} {cs : List AV} {v : Value} (h : Rep c (.cptr cs) v) : ∃ a, v = .pointer (some a) := by
  cases h with | cptr _ a => exact ⟨a, rfl⟩

/-- A pointer, a function, an interface value that is not nil. -/
def anil (x : AV) (H : AHeap) : Res :=
  match x with
  | .ref i v off => ⟨.ref i v off, H, liveRef H (.ref i v off)⟩
  | .cptr cs => ⟨.cptr cs, H, True⟩
  | _ => ⟨.top, H, False⟩

def fieldsKnown (P : Program) (t : TypeId) : Bool :=
  match P.underlying t with
  | some d => fieldsOk P d
  | none => false

/-- What an operation does, that is no call of a function. -/
def opEval (P : Program) (op : Op) (ρ : Operand → AV) (H : AHeap) : Res :=
  match op with
  | .move x => ⟨ρ x, H, True⟩
  | .assign x => ⟨ρ x, H, True⟩
  | .alloc t => aalloc P t H
  | .box _ x => abox (ρ x) H
  | .build t ps => ⟨(abuild P t (ps.toList.map fun p => (p.1, ρ p.2))).v, H, fieldsKnown P t = true ∧ (abuild P t (ps.toList.map fun p => (p.1, ρ p.2))).s⟩
  | .buildSlice t n ps => ofBR (abuildSlice P t n (ps.toList.map fun p => (p.1, ρ p.2))) H
  | .load t x => ofBR (aload P t (ρ x) H) H
  | .store t a x => astore P t (ρ a) (ρ x) H
  | .nilCheck x => anil (ρ x) H
  | .binOp op t x y _ => ofBR (aBinX P (isK x || isK y) op t (ρ x) (ρ y)) H
  | .unOp op _ x => ofBR (aun op (ρ x)) H
  | .convert s d x => ofBR (aconv P s d (ρ x)) H
  | .makeInterface t x => ⟨.iface t (ρ x), H, concrete P t = true⟩
  | .makeFunc fn f cs => ⟨.func fn (f.toList.map ρ) (cs.toList.map ρ), H, True⟩
  | .slice t x lo hi mx => ofBR (aslice P t (ρ x) (lo.map ρ) (hi.map ρ) (mx.map ρ) H) H
  | .fieldAddr t x f => ⟨(afieldAddr P t f (ρ x)).v, H, liveRef H (ρ x) ∧ (afieldAddr P t f (ρ x)).s⟩
  | .field t x f => ofBR (afield P t f (ρ x)) H
  | .indexAddr t x i => ⟨(aindexAddr P t (ρ x) (ρ i)).v, H, liveRef H (ρ x) ∧ (aindexAddr P t (ρ x) (ρ i)).s⟩
  | .index t x i => ofBR (aindex P t (ρ x) (ρ i)) H
  | .typeAssert x _ t ok => ofBR (aassert P (ρ x) t ok) H
  | .extract x i => ofBR (aextract (ρ x) i) H
  | .makeSlice t l k => amakeSlice P t (ρ l) (ρ k) H
  | .range t x => arange P t (ρ x) H
  | .next it b => anext (ρ it) b H
  | .call ⟨.builtin b, xs, ts⟩ => abuiltin P b ts.toList (xs.toList.map ρ) H
  | _ => ⟨.top, H, False⟩

theorem rep_map {c : Ctx} {ρ : Operand → AV} {e : Operand → Value} {xs : Array Operand} (h : ∀ x ∈ xs.toList, Rep c (ρ x) (e x)) : RepA c (xs.toList.map ρ) (xs.map e) := by
  refine ⟨by simp, fun i x v h1 h2 => ?_⟩
  simp only [List.getElem?_map, Option.map_eq_some_iff] at h1
  obtain ⟨y, h1, rfl⟩ := h1
  rw [Array.getElem?_map] at h2
  rw [Array.getElem?_toList] at h1
  rw [h1] at h2
  cases h2
  exact h y (by rw [Array.mem_toList_iff]; exact Array.mem_of_getElem? h1)

theorem opt_operand {c : Ctx} {ρ : Operand → AV} {e : Operand → Value} {o : Option Operand} (h : ∀ x, o = some x → Rep c (ρ x) (e x)) :
    (∀ y, o.map ρ = some y → ∃ u, o.map e = some u ∧ Rep c y u) ∧ (o.map ρ = none → o.map e = none) := by
  cases o with
  | none => exact ⟨by simp, by simp⟩
  | some x => exact ⟨fun y hy => by simp at hy; subst hy; exact ⟨_, rfl, h x rfl⟩, by simp⟩

set_option maxHeartbeats 1600000 in
theorem opEval_does {o : Oper} {ρ : Operand → AV} {H : AHeap} (hs : (opEval P o.op ρ H).s) :
    Does P o ρ H (fun x' H' => x' = (opEval P o.op ρ H).v ∧ H' = (opEval P o.op ρ H).H) := by
  obtain ⟨dst, op, ty, pos, after, guard⟩ := o
  cases op <;> simp only [opEval, ofBR] at hs ⊢
  case move x => exact does_val fun c a hst hρ => ⟨c, _, rfl, hst, Ext.refl c, hρ x (by simp [Op.operands])⟩
  case assign x => exact does_val fun c a hst hρ => ⟨c, _, rfl, hst, Ext.refl c, hρ x (by simp [Op.operands])⟩
  case alloc t =>
    refine does_val fun c a hst hρ => ?_
    obtain ⟨c', v, h1, h2, h3, h4⟩ := aalloc_sound (P := P) hst hs
    exact ⟨c', v, by simp only [execOp, Sem.run_bind, h1]; rfl, h2, h3, h4⟩
  case box t x =>
    refine does_val fun c a hst hρ => ?_
    obtain ⟨c', v, h1, h2, h3, h4⟩ := abox_sound (P := P) (t := t) hst (hρ x (by simp [Op.operands])) hs
    exact ⟨c', v, by simp only [execOp, Sem.run_bind, h1]; rfl, h2, h3, h4⟩
  case build t ps =>
    obtain ⟨hf, hs⟩ := hs
    refine does_val fun c a hst hρ => ?_
    have hmem : ∀ p ∈ ps.toList, Rep c (ρ p.2) (a.eval p.2) := fun p hp => hρ p.2 (by simp only [Op.operands, List.mem_map]; exact ⟨p, hp, rfl⟩)
    obtain ⟨v, h1, h2⟩ := abuild_sound (P := P) (vs := ps.map fun (i, x) => (i, a.eval x)) (by simp [List.map_map, Function.comp_def]) (fun k p q h1 h2 => by
      simp only [List.getElem?_map, Option.map_eq_some_iff] at h1
      obtain ⟨r, h1, rfl⟩ := h1
      rw [Array.getElem?_map] at h2
      rw [Array.getElem?_toList] at h1
      rw [h1] at h2
      cases h2
      exact hmem r (by rw [Array.mem_toList_iff]; exact Array.mem_of_getElem? h1)) hs (fun d hd => by unfold fieldsKnown at hf; rw [hd] at hf; exact hf) c.w
    exact ⟨c, v, by simp only [execOp, Sem.run_bind, h1]; rfl, hst, Ext.refl c, h2⟩
  case buildSlice t n ps =>
    refine does_val fun c a hst hρ => ?_
    have hmem : ∀ p ∈ ps.toList, Rep c (ρ p.2) (a.eval p.2) := fun p hp => hρ p.2 (by simp only [Op.operands, List.mem_map]; exact ⟨p, hp, rfl⟩)
    obtain ⟨c', v, h1, h2, h3, h4⟩ := abuildSlice_sound (P := P) (vs := ps.map fun (i, x) => (i, a.eval x)) hst (by simp [List.map_map, Function.comp_def]) (fun k p q h1 h2 => by
      simp only [List.getElem?_map, Option.map_eq_some_iff] at h1
      obtain ⟨r, h1, rfl⟩ := h1
      rw [Array.getElem?_map] at h2
      rw [Array.getElem?_toList] at h1
      rw [h1] at h2
      cases h2
      exact hmem r (by rw [Array.mem_toList_iff]; exact Array.mem_of_getElem? h1)) hs
    exact ⟨c', v, by simp only [execOp, Sem.run_bind, h1]; rfl, h2, h3, h4⟩
  case load t x =>
    refine does_val fun c a hst hρ => ?_
    obtain ⟨v, h1, h2⟩ := aload_sound (P := P) hst (hρ x (by simp [Op.operands])) hs
    exact ⟨c, v, by simp only [execOp, Sem.run_bind, h1]; rfl, hst, Ext.refl c, h2⟩
  case store t x y =>
    have hv : (astore P t (ρ x) (ρ y) H).v = .top := by unfold astore; split <;> (try split) <;> rfl
    rw [hv]
    refine does_skip fun c a hst hρ => ?_
    obtain ⟨w', h1, h2, h3⟩ := astore_sound (P := P) hst (hρ x (by simp [Op.operands])) (hρ y (by simp [Op.operands])) hs
    exact ⟨_, by simp only [execOp, Sem.run_bind, h1]; rfl, h3, h2⟩
  case nilCheck x =>
    refine does_val fun c a hst hρ => ?_
    have hx := hρ x (by simp [Op.operands])
    have e : (anil (ρ x) H).v = ρ x ∧ (anil (ρ x) H).H = H ∧ ∃ a', a.eval x = .pointer (some a') := by
      unfold anil at hs ⊢
      split at hs
      · rename_i i v off hh
        rw [hh] at hx
        obtain ⟨b, hb, -⟩ := rep_ref_add hx (liveRef_ver (off := off) hst hs) 0
        exact ⟨hh.symm, rfl, b, hb⟩
      · rename_i cs hh
        rw [hh] at hx
        obtain ⟨a', ha'⟩ := hx.cptr_inv
        exact ⟨hh.symm, rfl, a', ha'⟩
      · exact hs.elim
    obtain ⟨e1, e2, a', e3⟩ := e
    rw [e1, e2]
    refine ⟨c, .pointer (some a'), ?_, hst, Ext.refl c, by rw [← e3]; exact hx⟩
    simp only [execOp]
    rw [e3]
    rfl
  case binOp op t x y ty' =>
    refine does_val fun c a hst hρ => ?_
    obtain ⟨v, h1, h2⟩ := aBinX_sound (P := P) (X := x) (Y := y) (hρ x (by simp [Op.operands])) (hρ y (by simp [Op.operands])) hs c.w
    exact ⟨c, v, by simp only [execOp]; rw [Sem.run_bind, h1]; rfl, hst, Ext.refl c, h2⟩
  case unOp op t x =>
    refine does_val fun c a hst hρ => ?_
    obtain ⟨v, h1, h2⟩ := aun_sound (P := P) (hρ x (by simp [Op.operands])) hs c.w
    exact ⟨c, v, by simp only [execOp, Sem.run_bind, h1]; rfl, hst, Ext.refl c, h2⟩
  case convert s d x =>
    refine does_val fun c a hst hρ => ?_
    obtain ⟨v, h1, h2⟩ := aconv_sound (P := P) (hρ x (by simp [Op.operands])) hs c.w
    exact ⟨c, v, by simp only [execOp, Sem.run_bind, h1]; rfl, hst, Ext.refl c, h2⟩
  case makeInterface t x =>
    exact does_val fun c a hst hρ => ⟨c, _, by simp only [execOp, Sem.run_bind, concrete_sound hs]; rfl, hst, Ext.refl c, .iface _ _ _ (hρ x (by simp [Op.operands]))⟩
  case makeFunc fn f cs =>
    refine does_val fun c a hst hρ => ⟨c, .func fn (f.map a.eval) (cs.map a.eval), by simp only [execOp, Instr.makeFunc, Sem.run_bind, Sem.run_pure]; rfl, hst, Ext.refl c, ?_⟩
    obtain ⟨p1, p2⟩ := rep_map (c := c) (ρ := ρ) (e := a.eval) (xs := f) (fun x hx => hρ x (by simp only [Op.operands, Array.toList_append, List.mem_append]; exact .inl hx))
    obtain ⟨q1, q2⟩ := rep_map (c := c) (ρ := ρ) (e := a.eval) (xs := cs) (fun x hx => hρ x (by simp only [Op.operands, Array.toList_append, List.mem_append]; exact .inr hx))
    exact .func _ _ _ _ _ p1 q1 p2 q2
  case slice t x lo hi mx =>
    refine does_val fun c a hst hρ => ?_
    obtain ⟨l1, l2⟩ := opt_operand (c := c) (ρ := ρ) (e := a.eval) (o := lo) (fun y hy => hρ y (by subst hy; simp [Op.operands]))
    obtain ⟨h1, h2⟩ := opt_operand (c := c) (ρ := ρ) (e := a.eval) (o := hi) (fun y hy => hρ y (by subst hy; simp [Op.operands]))
    obtain ⟨m1, m2⟩ := opt_operand (c := c) (ρ := ρ) (e := a.eval) (o := mx) (fun y hy => hρ y (by subst hy; simp [Op.operands]))
    obtain ⟨v, g1, g2⟩ := aslice_sound (P := P) hst (hρ x (by simp [Op.operands])) l1 l2 h1 h2 m1 m2 hs c.w
    exact ⟨c, v, by simp only [execOp, Sem.run_bind, g1]; rfl, hst, Ext.refl c, g2⟩
  case fieldAddr t x f =>
    refine does_val fun c a hst hρ => ?_
    obtain ⟨v, h1, h2⟩ := afieldAddr_sound (P := P) hst (hρ x (by simp [Op.operands])) hs.1 hs.2 c.w
    exact ⟨c, v, by simp only [execOp, Sem.run_bind, h1]; rfl, hst, Ext.refl c, h2⟩
  case field t x f =>
    refine does_val fun c a hst hρ => ?_
    obtain ⟨v, h1, h2⟩ := afield_sound (P := P) (hρ x (by simp [Op.operands])) hs c.w
    exact ⟨c, v, by simp only [execOp, Sem.run_bind, h1]; rfl, hst, Ext.refl c, h2⟩
  case indexAddr t x i =>
    refine does_val fun c a hst hρ => ?_
    obtain ⟨v, h1, h2⟩ := aindexAddr_sound (P := P) hst (hρ x (by simp [Op.operands])) (hρ i (by simp [Op.operands])) hs.1 hs.2 c.w
    exact ⟨c, v, by simp only [execOp, Sem.run_bind, h1]; rfl, hst, Ext.refl c, h2⟩
  case index t x i =>
    refine does_val fun c a hst hρ => ?_
    obtain ⟨v, h1, h2⟩ := aindex_sound (P := P) (hρ x (by simp [Op.operands])) (hρ i (by simp [Op.operands])) hs c.w
    exact ⟨c, v, by simp only [execOp, Sem.run_bind, h1]; rfl, hst, Ext.refl c, h2⟩
  case typeAssert x xt t ok =>
    refine does_val fun c a hst hρ => ?_
    obtain ⟨v, h1, h2⟩ := aassert_sound (P := P) (xt := xt) (hρ x (by simp [Op.operands])) hs c.w
    exact ⟨c, v, by simp only [execOp, Sem.run_bind, h1]; rfl, hst, Ext.refl c, h2⟩
  case extract x i =>
    refine does_val fun c a hst hρ => ?_
    obtain ⟨v, h1, h2⟩ := aextract_sound (P := P) (hρ x (by simp [Op.operands])) hs c.w
    exact ⟨c, v, by simp only [execOp, Sem.run_bind, h1]; rfl, hst, Ext.refl c, h2⟩
  case makeSlice t l k =>
    refine does_val fun c a hst hρ => ?_
    obtain ⟨c', v, h1, h2, h3, h4⟩ := amakeSlice_sound (P := P) hst (hρ l (by simp [Op.operands])) (hρ k (by simp [Op.operands])) hs
    exact ⟨c', v, by simp only [execOp, Sem.run_bind, h1]; rfl, h2, h3, h4⟩
  case range t x =>
    refine does_val fun c a hst hρ => ?_
    obtain ⟨c', v, h1, h2, h3, h4⟩ := arange_sound (P := P) hst (hρ x (by simp [Op.operands])) hs
    exact ⟨c', v, by simp only [execOp, Sem.run_bind, h1]; rfl, h2, h3, h4⟩
  case next it b =>
    refine does_val fun c a hst hρ => ?_
    obtain ⟨c', v, h1, h2, h3, h4⟩ := anext_sound (P := P) (ty := ty) hst (hρ it (by simp [Op.operands])) hs
    exact ⟨c', v, by simp only [execOp, Sem.run_bind, h1]; rfl, h2, h3, h4⟩
  case call cl =>
    obtain ⟨callee, xs, ts⟩ := cl
    cases callee <;> simp only at hs ⊢
    case builtin b =>
      refine does_val fun c a hst hρ => ?_
      obtain ⟨c', v, h1, h2, h3, h4⟩ := abuiltin_sound (P := P) (b := b) (ts := ts) (ty := ty) (cs := xs.map fun | .const _ => true | _ => false) (vs := xs.map a.eval) hst (rep_map fun x hx => hρ x (by simp only [Op.operands, Call.operands, Array.toList_append, List.mem_append]; exact .inr hx)) hs
      exact ⟨c', v, by simp only [execOp, resolve, Sem.run_bind, Sem.run_pure, Result.andThen_ok, invoke]; exact h1, h2, h3, h4⟩

/-! ### Calls -/

/-- A function that can be entered. -/
def callOk (P : Program) (f : FuncId) : Bool :=
  match P.funcs[f]? with
  | some fn => fn.body.isSome && !(fn.name == "runtime.NumGoroutine")
  | none => false

theorem run_callFunc_ok {f : FuncId} (h : callOk P f = true) (args : Array Value) (w : World) : (callFunc f args).run P w = .ok (.enter f args) w := by
  unfold callOk at h
  cases hf : P.funcs[f]? with
  | none => rw [hf] at h; cases h
  | some fn =>
    rw [hf] at h
    simp only [Bool.and_eq_true, Bool.not_eq_true'] at h
    obtain ⟨h1, h2⟩ := h
    have h3 : fn.body.isNone = false := by cases hb : fn.body <;> simp_all
    simp only [callFunc, Sem.run_bind, run_program, Result.andThen_ok, hf, h2, h3, Bool.false_eq_true, if_false]
    rfl

/-- A call of a function that can be entered: it returns, and the post holds. -/
def ACall (P : Program) (f : AV) (args : List AV) (H : AHeap) (R : AV → AHeap → Prop) : Prop :=
  match f with
  | .func (.func fid) first cap => callOk P fid = true ∧ ACalls P fid (first ++ args ++ cap) H R
  | _ => False

theorem does_call {o : Oper} {ρ : Operand → AV} {H : AHeap} {R : AV → AHeap → Prop} {f : Operand} {xs : Array Operand} {ts : Array TypeId} (ho : o.op = .call ⟨.value f, xs, ts⟩) (h : ACall P (ρ f) (xs.toList.map ρ) H R) : Does P o ρ H R := by
  intro c a next Q hs hρ hk
  unfold ACall at h
  split at h
  · rename_i fid first cap hf
    obtain ⟨hok, h⟩ := h
    have hrf := hρ f (by rw [ho]; simp [Op.operands, Call.operands])
    rw [hf] at hrf
    generalize hev : a.eval f = vf at hrf
    cases hrf with
    | func _ _ _ v1 v2 hl1 hl2 hr1 hr2 =>
      obtain ⟨hl3, hr3⟩ := rep_map (c := c) (ρ := ρ) (e := a.eval) (xs := xs) (fun x hx => hρ x (by rw [ho]; simp only [Op.operands, Call.operands, Array.toList_append, List.mem_append]; exact .inr hx))
      have hrun : (execOp a.eval o).run P c.w = .ok (.enter fid (v1 ++ xs.map a.eval ++ v2)) c.w := by
        simp only [execOp, ho, resolve, hev, Deferred.ofValue, Sem.run_bind, Sem.run_pure, Result.andThen_ok, invoke]
        exact run_callFunc_ok hok _ _
      unfold Oper.wp
      rw [hrun]
      simp only [Oper.upon]
      refine (h c _ hs ⟨by simp [hl1, hl2, hl3], fun i x v g1 g2 => ?_⟩).mono fun e w' ⟨c', x, v, H', e1, e2, e3, e4, e5, e6⟩ => ?_
      · by_cases h1 : i < first.length
        · rw [List.append_assoc, List.getElem?_append_left h1] at g1
          rw [Array.append_assoc, Array.getElem?_append_left (by omega)] at g2
          exact hr1 _ _ _ g1 g2
        · by_cases h2 : i < first.length + (xs.toList.map ρ).length
          · rw [List.append_assoc, List.getElem?_append_right (by omega), List.getElem?_append_left (by omega)] at g1
            rw [Array.append_assoc, Array.getElem?_append_right (by omega), Array.getElem?_append_left (by omega), hl1] at g2
            exact hr3 _ _ _ g1 g2
          · rw [List.append_assoc, List.getElem?_append_right (by omega), List.getElem?_append_right (by omega)] at g1
            rw [Array.append_assoc, Array.getElem?_append_right (by omega), Array.getElem?_append_right (by omega), hl1, hl3] at g2
            exact hr2 _ _ _ g1 g2
      · subst e1
        subst e2
        exact hk c' x v H' e3 e4 e5 e6
  · exact h.elim

/-- The method of a value in an interface: a function, its receiver the value as it is. -/
def amethod (P : Program) (t : TypeId) (m : String) : Option FuncId :=
  match P.info? t with
  | some i => match i.methods.find? (·.name == m) with
    | some mt => bif mt.path.isEmpty then
        match mt.func, P.underlying t with
        | some (f, true), some (.pointer _) => some f
        | some (_, false), some (.pointer _) => none
        | some (f, false), some _ => some f
        | _, _ => none
      else none
    | none => none
  | none => none

def methodAV (P : Program) (m : String) : AV → AV
  | .iface t v => match amethod P t m with
    | some f => .func (.func f) [v] []
    | none => .top
  | _ => .top

theorem run_method {t : TypeId} {m : String} {f : FuncId} (h : amethod P t m = some f) (n : Nat) (v : Value) (w : World) : (method (n + 1) t v m).run P w = .ok (f, v) w := by
  unfold amethod at h
  cases hi : P.info? t with
  | none => rw [hi] at h; cases h
  | some i =>
    rw [hi] at h
    simp only at h
    cases hm : i.methods.find? (·.name == m) with
    | none => rw [hm] at h; cases h
    | some mt =>
      rw [hm] at h
      simp only at h
      cases hp : mt.path.isEmpty with
      | false => rw [hp] at h; cases h
      | true =>
        rw [hp, cond_true] at h
        have hpl : mt.path.toList = [] := by
          have : mt.path = #[] := by simpa using hp
          rw [this]
        split at h
        · rename_i f' e hf hu
          cases h
          simp only [method, typeInfo, Sem.run_bind, run_program, Result.andThen_ok, hi, Sem.run_pure, hm, hpl, follow, hf, receiverAt, run_underlying hu, Place.get]
        · cases h
        · rename_i f' d hne hf hu
          cases h
          have hd : ∀ e, d ≠ .pointer e := fun e he => by subst he; exact hne _ rfl
          simp only [method, typeInfo, Sem.run_bind, run_program, Result.andThen_ok, hi, Sem.run_pure, hm, hpl, follow, hf, receiverAt, run_underlying hu, Place.get]
          try (cases d <;> first | exact absurd rfl (hd _) | rfl)
        · cases h

theorem does_invoke {o : Oper} {ρ : Operand → AV} {H : AHeap} {R : AV → AHeap → Prop} {r : Operand} {m : String} {xs : Array Operand} {ts : Array TypeId} (ho : o.op = .call ⟨.invoke r m, xs, ts⟩) (h : ACall P (methodAV P m (ρ r)) (xs.toList.map ρ) H R) : Does P o ρ H R := by
  intro c a next Q hs hρ hk
  unfold methodAV at h
  split at h
  · rename_i t x hx
    cases hm : amethod P t m with
    | none => rw [hm] at h; exact h.elim
    | some fid =>
      rw [hm] at h
      obtain ⟨hok, h⟩ := h
      have hrf := hρ r (by rw [ho]; simp [Op.operands, Call.operands])
      rw [hx] at hrf
      generalize hev : a.eval r = vf at hrf
      cases hrf with
      | iface _ _ v hv =>
        obtain ⟨hl3, hr3⟩ := rep_map (c := c) (ρ := ρ) (e := a.eval) (xs := xs) (fun x hx => hρ x (by rw [ho]; simp only [Op.operands, Call.operands, Array.toList_append, List.mem_append]; exact .inr hx))
        have hext : (#[Value.iface t v] ++ xs.map a.eval).extract 1 (#[Value.iface t v] ++ xs.map a.eval).size = xs.map a.eval := by
          apply Array.ext'
          simp [List.take_of_length_le]
        have h0 : (#[Value.iface t v] ++ xs.map a.eval)[0]? = some (.iface t v) := by rw [Array.getElem?_append_left (by simp)]; rfl
        have hdep : 0 < Made.depth := by decide
        obtain ⟨n, hn⟩ : ∃ n, P.types.size + Made.depth = n + 1 := ⟨P.types.size + Made.depth - 1, by omega⟩
        have hrun : (execOp a.eval o).run P c.w = .ok (.enter fid (#[v] ++ xs.map a.eval)) c.w := by
          simp only [execOp, ho, resolve, hev, Sem.run_bind, Sem.run_pure, Result.andThen_ok, invoke, h0, callMethod, run_program, hn, run_method hm, hext]
          exact run_callFunc_ok hok _ _
        unfold Oper.wp
        rw [hrun]
        simp only [Oper.upon]
        refine (h c (#[v] ++ xs.map a.eval) hs ⟨by simp [hl3]; omega, fun i y u g1 g2 => ?_⟩).mono fun e w' ⟨c', x, v, H', e1, e2, e3, e4, e5, e6⟩ => ?_
        · rw [List.append_nil] at g1
          cases i with
          | zero =>
            rw [Array.getElem?_append_left (by simp)] at g2
            cases g1
            cases g2
            exact hv
          | succ i =>
            rw [List.cons_append, List.nil_append, List.getElem?_cons_succ] at g1
            rw [Array.getElem?_append_right (by simp)] at g2
            exact hr3 i y u g1 (by simpa using g2)
        · subst e1
          subst e2
          exact hk c' x v H' e3 e4 e5 e6
  · exact h.elim

theorem Does.mono {o : Oper} {ρ : Operand → AV} {H : AHeap} {R R' : AV → AHeap → Prop} (h : Does P o ρ H R) (hr : ∀ x H', R x H' → R' x H') : Does P o ρ H R' :=
  fun c a next Q hs hρ hk => h c a next Q hs hρ fun c' x v H' h1 h2 h3 h4 => hk c' x v H' h1 h2 h3 (hr _ _ h4)

/-! ### A slice held against nil -/
def isNilV : Value → Bool
  | .slice none 0 0 => true
  | _ => false
def isNilO : Operand → Bool
  | .const v => isNilV v
  | _ => false
def isEql : BinOp → Bool
  | .eql => true
  | _ => false
def isSl (P : Program) (t : TypeId) : Bool :=
  match P.underlying t with
  | some (.slice _) => true
  | _ => false

/-- It is told only of a slice that is not empty that it is not nil. -/
def nilK (P : Program) (t : TypeId) (H : AHeap) (x : AV) (K : AV → Prop) : Prop :=
  match x with
  | .sl _ es => isSl P t = true ∧ ∀ b : Bool, (es ≠ [] → b = false) → K (.bool b)
  | .osl s i v off len lc => isSl P t = true ∧ liveRef H (.osl s i v off len lc) ∧ ∀ b : Bool, (len ≠ 0 → b = false) → K (.bool b)
  | _ => False

theorem isNilO_eq {y : Operand} (h : isNilO y = true) : y = .const (.slice none 0 0) := by
  unfold isNilO at h
  split at h
  · rename_i v
    unfold isNilV at h
    split at h
    · rfl
    · cases h
  · cases h

theorem run_nilSl {t e : TypeId} (hu : P.underlying t = some (.slice e)) (x : Operand) (base : Option Addr) (len cap : Nat) (w : World) :
    (do eqGuard .eql t x (.const (.slice none 0 0)) (.slice base len cap) (.slice none 0 0); binOp .eql t (.slice base len cap) (.slice none 0 0) : Sem Value).run P w = .ok (.bool base.isNone) w := by
  have key : ∀ d, (Op.equalIn (d + 1) t (.slice base len cap) (.slice none 0 0)).run P w = .ok base.isNone w := fun d => by
    cases base <;> simp [Op.equalIn, run_underlying hu]
  have key2 : (Op.equal t (.slice base len cap) (.slice none 0 0)).run P w = .ok base.isNone w := key 9999
  have hg : (eqGuard .eql t x (.const (.slice none 0 0)) (.slice base len cap) (.slice none 0 0)).run P w = .ok () w := rfl
  simp only [Sem.run_bind, hg, Result.andThen_ok, binOp, key2, Sem.run_pure]

theorem does_nil {o : Oper} {ρ : Operand → AV} {H : AHeap} {K : AV → Prop} {op : BinOp} {t t' : TypeId} {x y : Operand} (ho : o.op = .binOp op t x y t') (hn : (isEql op && isNilO y) = true) (h : nilK P t H (ρ x) K) :
    Does P o ρ H (fun v H' => K v ∧ H' = H) := by
  intro c a next Q hs hρ hk
  rw [Bool.and_eq_true] at hn
  have hop : op = .eql := by cases op <;> first | rfl | exact absurd hn.1 (by decide)
  subst hop
  obtain rfl := isNilO_eq hn.2
  have hx := hρ x (by rw [ho]; simp [Op.operands])
  have hsl : ∀ {e base len cap}, P.underlying t = some (.slice e) → a.eval x = .slice base len cap → (execOp a.eval o).run P c.w = .ok (.value (.bool base.isNone)) c.w := fun {e base len cap} hu he => by
    have := run_nilSl hu x base len cap c.w
    simp only [execOp, ho, he]
    rw [show a.eval (.const (.slice none 0 0)) = .slice none 0 0 from rfl, Sem.run_bind, this]
    rfl
  unfold nilK at h
  split at h
  · rename_i f es hh
    obtain ⟨h1, h2⟩ := h
    rw [hh] at hx
    have hu : ∃ e, P.underlying t = some (.slice e) := by
      unfold isSl at h1
      split at h1
      · rename_i e hu; exact ⟨e, hu⟩
      · cases h1
    obtain ⟨e, hu⟩ := hu
    obtain ⟨base, len, cap, s, vs, he, g1, g2, g3, g4, -⟩ := hx.sl_inv
    unfold Oper.wp
    rw [hsl hu he]
    refine hk c (.bool base.isNone) _ H hs (Ext.refl c) (.bool _) ⟨h2 _ fun hne => ?_, rfl⟩
    obtain ⟨a', ha', -⟩ := g4 hne
    rw [ha']; rfl
  · rename_i s i v off len lc hh
    obtain ⟨h1, h3, h2⟩ := h
    rw [hh] at hx
    have hu : ∃ e, P.underlying t = some (.slice e) := by
      unfold isSl at h1
      split at h1
      · rename_i e hu; exact ⟨e, hu⟩
      · cases h1
    obtain ⟨e, hu⟩ := hu
    obtain ⟨base, cap, he, g1, g2, g3, g4⟩ := hx.osl_inv (liveOsl_ver (s := s) (off := off) (len := len) (lc := lc) hs h3)
    unfold Oper.wp
    rw [hsl hu he]
    refine hk c (.bool base.isNone) _ H hs (Ext.refl c) (.bool _) ⟨h2 _ fun hne => ?_, rfl⟩
    cases hd : c.vd i with
    | true => have := (g3 hd).1; omega
    | false =>
      have h5 := (g4 hd).1.resolve_left (by omega)
      rw [h5]; rfl
  · exact h.elim

/-! ### One operation of a region, with its guard -/

def boolOf : AV → Bool
  | .bool b => b
  | _ => false
def isB : AV → Bool
  | .bool _ => true
  | _ => false
theorem isB_eq {x : AV} (h : isB x = true) : x = .bool (boolOf x) := by
  cases x <;> first | rfl | cases h

/-- Whether an operation is carried out. -/
def gval (v : AV) (want : Bool) : Bool :=
  match v with
  | .bool b => bif want then b else !b
  | .opt g x => g && (bif want then boolOf x else !boolOf x)
  | _ => false

/-- That can be told. -/
def gok (v : AV) : Prop :=
  match v with
  | .bool _ => True
  | .opt g x => g = true → isB x = true
  | _ => False

def unopt : AV → AV
  | .opt _ v => v
  | v => v

/-- What is asked of an operand under a guard. -/
def gobl (g : Bool) : AV → Prop
  | .opt g' _ => g = true → g' = true
  | _ => True

def guardSlot (all : List Oper) (j : Nat) : Option Tmp := (all[j]?).bind (·.dst)

def slotV (α : AF) : Option Tmp → AV
  | some t => look α t
  | none => .top

def optA (g : Bool) (v : AV) : AV := .opt g v

/-- A bool, and the guard under which it is told. -/
def toldB : AV → Option (Bool × Bool)
  | .bool b => some (true, b)
  | .opt g x => some (g, boolOf x)
  | _ => none
def tolds : AV → Prop
  | .bool _ => True
  | .opt g x => g = true → isB x = true
  | _ => False

/-- A choice between two bools, each told under a guard. -/
def apick (g : Bool) (c a b : AV) : BR :=
  match toldB c, toldB a, toldB b with
  | some (gc, cb), some (ga, x), some (gb, y) => ⟨.bool (bif cb then x else y), (g = true → gc = true) ∧ (g = true → cb = true → ga = true) ∧ (g = true → cb = false → gb = true) ∧ tolds c ∧ tolds a ∧ tolds b⟩
  | _, _, _ => bad

theorem toldB_rep {c : Ctx} {x : AV} {v : Value} {g b : Bool} (h : toldB x = some (g, b)) (ht : tolds x) (hx : Rep c x v) (hg : g = true) : v = .bool b := by
  unfold toldB at h
  split at h
  · simp only [Option.some.injEq, Prod.mk.injEq] at h; rw [h.2] at hx; exact hx.bool_inv
  · simp only [Option.some.injEq, Prod.mk.injEq] at h
    have h3 := isB_eq (ht (h.1.trans hg))
    cases hx with
    | opt _ _ _ h1 =>
      have h2 := h1 (h.1.trans hg)
      rw [h3] at h2
      rw [← h.2]
      exact h2.bool_inv
  · cases h

theorem apick_does {o : Oper} {ρ : Operand → AV} {H : AHeap} {x y z : Operand} {g : Bool} (ho : o.op = .pick x y z) (hg : g = true) (hs : (apick g (ρ x) (ρ y) (ρ z)).s) :
    Does P o ρ H (fun v H' => v = (apick g (ρ x) (ρ y) (ρ z)).v ∧ H' = H) := by
  refine does_val fun c a hst hρ => ?_
  have hx := hρ x (by rw [ho]; simp [Op.operands])
  have hy := hρ y (by rw [ho]; simp [Op.operands])
  have hz := hρ z (by rw [ho]; simp [Op.operands])
  have hrun : ∀ cb : Bool, a.eval x = .bool cb → (execOp a.eval o).run P c.w = .ok (.value (if cb then a.eval y else a.eval z)) c.w := by
    intro cb h
    simp only [execOp, ho, h, asBool, Sem.run_bind, Sem.run_pure, Result.andThen_ok]
  generalize hcx : ρ x = cx at hx hs ⊢
  generalize hcy : ρ y = cy at hy hs ⊢
  generalize hcz : ρ z = cz at hz hs ⊢
  unfold apick at *
  split at hs
  · rename_i gc cb ga b1 gb b2 e1 e2 e3
    refine ⟨c, _, hrun cb (toldB_rep e1 hs.2.2.2.1 hx (hs.1 hg)), hst, Ext.refl c, ?_⟩
    cases cb
    · rw [if_neg (by simp), toldB_rep e3 hs.2.2.2.2.2 hz (hs.2.2.1 hg rfl)]; exact .bool _
    · rw [if_pos rfl, toldB_rep e2 hs.2.2.2.2.1 hy (hs.2.1 hg rfl)]; exact .bool _
  · exact hs.elim

end Go.Aw
