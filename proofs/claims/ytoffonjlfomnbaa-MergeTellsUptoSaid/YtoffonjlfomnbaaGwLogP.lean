/- Logs are what their operations make, in order. No condition. -/
import Derived.Test.YtoffonjlfomnbaaGwDoP
namespace Go.Gw
open Go Go.Aw Go.Proofs.Ytoffonjlfomnbaa

theorem lessS_t {a b : Stm} : lessS a b = true ↔ a.c < b.c ∨ (a.c = b.c ∧ a.r < b.r) := lessI_t
theorem lessS_f {a b : Stm} : lessS a b = false ↔ ¬ (a.c < b.c ∨ (a.c = b.c ∧ a.r < b.r)) := by rw [← lessS_t, Bool.not_eq_true]
theorem stm_ext {a b : Stm} (h1 : a.c = b.c) (h2 : a.r = b.r) : a = b := by cases a; cases b; simp_all
theorem lessS_tri (a b : Stm) : lessS a b = true ∨ a = b ∨ lessS b a = true := by
  rw [lessS_t, lessS_t]
  by_cases h : a = b
  · exact .inr (.inl h)
  · have : ¬ (a.c = b.c ∧ a.r = b.r) := fun q => h (stm_ext q.1 q.2)
    omega
theorem lessS_trans {a b c : Stm} (h : lessS a b = true) (k : lessS b c = true) : lessS a c = true := by
  rw [lessS_t] at *; omega
theorem lessS_irr (a : Stm) : lessS a a = false := by rw [lessS_f]; omega

def logOf (l : List Opn) : Lg := ⟨(redo l [] []).1, (redo l [] []).2⟩
abbrev Srt (l : List Opn) : Prop := l.Pairwise fun x y => lessS x.at_ y.at_ = true

theorem redo_app (a b : List Opn) (es : List Ent) (n : List Nd) : redo (a ++ b) es n = redo b (redo a es n).1 (redo a es n).2 := by
  induction a generalizing es n with
  | nil => rfl
  | cons o a ih => rw [List.cons_append, redo, ih, redo]
theorem redo_pre (l : List Opn) (es : List Ent) (n : List Nd) : redo l es n = (es ++ (redo l [] n).1, (redo l [] n).2) := by
  induction l generalizing es n with
  | nil => simp [redo]
  | cons o l ih =>
    show redo l (es ++ [⟨o, doU n o⟩]) (doL n o) = (es ++ (redo l ([] ++ [⟨o, doU n o⟩]) (doL n o)).1, (redo l ([] ++ [⟨o, doU n o⟩]) (doL n o)).2)
    rw [ih (es ++ [Ent.mk o (doU n o)]), ih ([] ++ [Ent.mk o (doU n o)])]
    simp
theorem redo_chk (l : List Opn) (es : List Ent) {n : List Nd} (h : chk n = true) : chk (redo l es n).2 = true := by
  induction l generalizing es n with
  | nil => exact h
  | cons o l ih => exact ih _ (do_chk o h)
theorem logOf_chk (l : List Opn) : chk (logOf l).nodes = true := redo_chk l [] rfl
theorem opsG_logOf (l : List Opn) : opsG (logOf l) = l := by rw [opsG, logOf, redo_ops]; rfl

theorem undo_suf (a : Stm) (pre : List Opn) (r : List Opn) (h : ∀ x ∈ r, lessS a x.at_ = true) :
    undoR a (logOf (pre ++ r.reverse)).entries.reverse (logOf (pre ++ r.reverse)).nodes = ((undoR a (logOf pre).entries.reverse (logOf pre).nodes).1 + r.length, (undoR a (logOf pre).entries.reverse (logOf pre).nodes).2) := by
  induction r with
  | nil => simp
  | cons x r ih =>
    have h2 := ih fun y hy => h y (by simp [hy])
    have e : pre ++ (x :: r).reverse = (pre ++ r.reverse) ++ [x] := by simp
    have e2 : logOf ((pre ++ r.reverse) ++ [x]) = ⟨(logOf (pre ++ r.reverse)).entries ++ [⟨x, doU (logOf (pre ++ r.reverse)).nodes x⟩], doL (logOf (pre ++ r.reverse)).nodes x⟩ := by
      rw [logOf, redo_snoc]; rfl
    rw [e, e2]
    simp only [List.reverse_append, List.reverse_cons, List.reverse_nil, List.nil_append, List.cons_append]
    rw [undoR, if_pos (h x (by simp)), back_do x (logOf_chk _), h2]
    simp [Nat.add_assoc]

theorem undo_none (a : Stm) (pre : List Opn) (h : ∀ x ∈ pre, lessS a x.at_ = false) (n : List Nd) : (undoR a (logOf pre).entries.reverse n).1 = 0 ∧ (undoR a (logOf pre).entries.reverse n).2 = n := by
  cases hr : (logOf pre).entries.reverse with
  | nil => exact ⟨rfl, rfl⟩
  | cons e r =>
    have he : e ∈ (logOf pre).entries := by rw [← List.mem_reverse, hr]; simp
    have h1 : e.op ∈ opsG (logOf pre) := List.mem_map_of_mem he
    rw [opsG_logOf] at h1
    rw [undoR, if_neg (by rw [h _ h1]; decide)]
    exact ⟨rfl, rfl⟩

/-- One more, at its place. -/
def preO (o : Opn) (l : List Opn) : List Opn := l.takeWhile fun x => !lessS o.at_ x.at_
def sufO (o : Opn) (l : List Opn) : List Opn := l.dropWhile fun x => !lessS o.at_ x.at_
def insO (o : Opn) (l : List Opn) : List Opn := preO o l ++ o :: sufO o l

theorem pre_suf (o : Opn) (l : List Opn) : preO o l ++ sufO o l = l := List.takeWhile_append_dropWhile
theorem preO_f (o : Opn) (l : List Opn) : ∀ x ∈ preO o l, lessS o.at_ x.at_ = false := by
  intro x hx
  unfold preO at hx
  induction l with
  | nil => simp at hx
  | cons y l ih =>
    rw [List.takeWhile_cons] at hx
    split at hx
    · rename_i hy
      rw [List.mem_cons] at hx
      rcases hx with rfl | hx
      · simpa using hy
      · exact ih hx
    · simp at hx
theorem sufO_t {o : Opn} {l : List Opn} (h : Srt l) : ∀ x ∈ sufO o l, lessS o.at_ x.at_ = true := by
  intro x hx
  unfold sufO at hx
  induction l with
  | nil => simp at hx
  | cons y l ih =>
    rw [Srt, List.pairwise_cons] at h
    rw [List.dropWhile_cons] at hx
    split at hx
    · exact ih h.2 hx
    · rename_i hy
      have hy : lessS o.at_ y.at_ = true := by simpa using hy
      rw [List.mem_cons] at hx
      rcases hx with rfl | hx
      · exact hy
      · exact lessS_trans hy (h.1 x hx)

theorem add_log {l : List Opn} (hs : Srt l) (o : Opn) (h1 : opOk o = true) (h2 : hasAt (logOf l).entries o.at_ = false) (h3 : (l.length : Int) < 200) : addG (logOf l) o = logOf (insO o l) := by
  have hlen : (logOf l).entries.length = l.length := by
    have := congrArg List.length (opsG_logOf l); rwa [opsG, List.length_map] at this
  have hu := undo_suf o.at_ (preO o l) (sufO o l).reverse (fun x hx => sufO_t hs x (List.mem_reverse.1 hx))
  rw [List.reverse_reverse, pre_suf] at hu
  have hn := undo_none o.at_ (preO o l) (preO_f o l) (logOf (preO o l)).nodes
  have hu2 : undoR o.at_ (logOf l).entries.reverse (logOf l).nodes = ((sufO o l).length, (logOf (preO o l)).nodes) := by
    rw [hu, hn.2, hn.1]; simp
  have hll : l.length = (preO o l).length + (sufO o l).length := by
    have := congrArg List.length (pre_suf o l); rw [List.length_append] at this; exact this.symm
  have he : (logOf l).entries = (logOf (preO o l)).entries ++ (redo (sufO o l) [] (logOf (preO o l)).nodes).1 := by
    have e : (logOf l).entries = (logOf (preO o l ++ sufO o l)).entries := congrArg (fun x => (logOf x).entries) (pre_suf o l).symm
    rw [e, logOf, redo_app, redo_pre (sufO o l)]; rfl
  have hpl : (logOf (preO o l)).entries.length = (preO o l).length := by
    have := congrArg List.length (opsG_logOf (preO o l)); rwa [opsG, List.length_map] at this
  rw [addG, if_neg (by rw [h1]; decide), if_neg (by rw [h2]; decide), if_neg (by omega), hu2]
  simp only
  have e1 : (logOf l).entries.length - (sufO o l).length = (preO o l).length := by omega
  have e2 : (logOf l).entries.take (preO o l).length = (logOf (preO o l)).entries := by rw [he, ← hpl, List.take_left']; rfl
  have e3 : ((logOf l).entries.drop (preO o l).length).map Ent.op = sufO o l := by
    rw [List.map_drop]
    have := opsG_logOf l
    rw [opsG] at this
    rw [this]
    exact (congrArg (List.drop (preO o l).length) (pre_suf o l).symm).trans (List.drop_left' rfl)
  rw [e1, e2, e3, insO]
  have e4 : logOf (preO o l ++ o :: sufO o l) = ⟨(redo (o :: sufO o l) (redo (preO o l) [] []).1 (redo (preO o l) [] []).2).1, (redo (o :: sufO o l) (redo (preO o l) [] []).1 (redo (preO o l) [] []).2).2⟩ := by
    rw [logOf, redo_app]
  rw [e4]
  rfl

theorem mem_ins {o x : Opn} {l : List Opn} : x ∈ insO o l ↔ x = o ∨ x ∈ l := by
  rw [insO, List.mem_append, List.mem_cons]
  have : x ∈ l ↔ x ∈ preO o l ∨ x ∈ sufO o l := by rw [← List.mem_append, pre_suf]
  rw [this]
  constructor
  · rintro (h | h | h)
    · exact .inr (.inl h)
    · exact .inl h
    · exact .inr (.inr h)
  · rintro (h | h | h)
    · exact .inr (.inl h)
    · exact .inl h
    · exact .inr (.inr h)
theorem len_ins (o : Opn) (l : List Opn) : (insO o l).length = l.length + 1 := by
  have := congrArg List.length (pre_suf o l)
  rw [List.length_append] at this
  rw [insO, List.length_append, List.length_cons]; omega
theorem srt_ins {o : Opn} {l : List Opn} (hs : Srt l) (hn : ∀ x ∈ l, x.at_ ≠ o.at_) : Srt (insO o l) := by
  have h0 := hs
  rw [← pre_suf o l] at h0
  rw [Srt, List.pairwise_append] at h0
  rw [insO, Srt, List.pairwise_append, List.pairwise_cons]
  have hp : ∀ x ∈ preO o l, lessS x.at_ o.at_ = true := fun x hx => by
    have hx1 := preO_f o l x hx
    rcases lessS_tri o.at_ x.at_ with q | q | q
    · rw [q] at hx1; cases hx1
    · exact absurd q.symm (hn x (by rw [← pre_suf o l]; simp [hx]))
    · exact q
  refine ⟨h0.1, ⟨sufO_t hs, h0.2.1⟩, fun a ha b hb => ?_⟩
  rw [List.mem_cons] at hb
  rcases hb with rfl | hb
  · exact hp a ha
  · exact h0.2.2 a ha b hb

theorem hasAt_log (l : List Opn) (a : Stm) : hasAt (logOf l).entries a = l.any fun o => decide (o.at_ = a) := by rw [hasAt_ops', opsG_logOf]
  where hasAt_ops' {g : Lg} {a : Stm} : hasAt g.entries a = (opsG g).any fun o => decide (o.at_ = a) := by rw [hasAt, opsG, List.any_map]; rfl

/-- A log that may be. -/
structure Good (g : Lg) : Prop where
  log : g = logOf (opsG g)
  srt : Srt (opsG g)
  ok : ∀ o ∈ opsG g, opOk o = true

theorem good_nil : Good ⟨[], []⟩ := ⟨rfl, by simp [opsG], by simp [opsG]⟩

theorem good_add {g : Lg} (h : Good g) (o : Opn) : Good (addG g o) ∧ (opsG (addG g o) = opsG g ∧ addG g o = g ∧ (opOk o = false ∨ (∃ x ∈ opsG g, x.at_ = o.at_) ∨ 200 ≤ (opsG g).length) ∨ opsG (addG g o) = insO o (opsG g) ∧ opOk o = true ∧ (∀ x ∈ opsG g, x.at_ ≠ o.at_)) := by
  have hlen : (opsG g).length = g.entries.length := List.length_map ..
  by_cases h1 : opOk o = true
  · by_cases h2 : hasAt g.entries o.at_ = true
    · have e : addG g o = g := by rw [addG, if_neg (by rw [h1]; decide), if_pos h2]
      rw [e]
      refine ⟨h, .inl ⟨rfl, rfl, .inr (.inl ?_)⟩⟩
      rw [h.log, hasAt_log] at h2
      obtain ⟨x, hx, hx2⟩ := List.any_eq_true.1 h2
      exact ⟨x, hx, of_decide_eq_true hx2⟩
    · by_cases h3 : (200 : Int) ≤ (g.entries.length : Int)
      · have e : addG g o = g := by rw [addG, if_neg (by rw [h1]; decide), if_neg h2, if_pos h3]
        rw [e]
        exact ⟨h, .inl ⟨rfl, rfl, .inr (.inr (by omega))⟩⟩
      · have hno : ∀ x ∈ opsG g, x.at_ ≠ o.at_ := by
          intro x hx e
          apply h2
          rw [h.log, hasAt_log]
          exact List.any_eq_true.2 ⟨x, hx, by simpa using e⟩
        have h2' : hasAt (logOf (opsG g)).entries o.at_ = false := by rw [← h.log]; simpa using h2
        have e := add_log h.srt o h1 h2' (by omega)
        rw [← h.log] at e
        rw [e, opsG_logOf]
        exact ⟨⟨by rw [opsG_logOf], by rw [opsG_logOf]; exact srt_ins h.srt hno, by rw [opsG_logOf]; intro x hx; rcases mem_ins.1 hx with rfl | hx; exact h1; exact h.ok x hx⟩, .inr ⟨rfl, h1, hno⟩⟩
  · have h1 : opOk o = false := by simpa using h1
    have e : addG g o = g := by rw [addG, if_pos h1]
    rw [e]
    exact ⟨h, .inl ⟨rfl, rfl, .inl h1⟩⟩

theorem good_all {g : Lg} (h : Good g) (l : List Opn) : Good (allG g l) := by
  induction l generalizing g with
  | nil => exact h
  | cons o l ih => exact ih (good_add h o).1

theorem good_of (l : List Opn) : Good (ofG l) := good_all good_nil l

/-- Lists in strict order of the same members are the same. -/
theorem srt_ext {a b : List Opn} (ha : Srt a) (hb : Srt b) (h : ∀ x, x ∈ a ↔ x ∈ b) : a = b := by
  induction a generalizing b with
  | nil =>
    cases b with
    | nil => rfl
    | cons y b => have := (h y).2 (by simp); simp at this
  | cons x a ih =>
    cases b with
    | nil => have := (h x).1 (by simp); simp at this
    | cons y b =>
      rw [Srt, List.pairwise_cons] at ha hb
      have hxy : x = y := by
        have h1 := (h x).1 (by simp)
        have h2 := (h y).2 (by simp)
        rw [List.mem_cons] at h1 h2
        rcases h1 with h1 | h1
        · exact h1
        · rcases h2 with h2 | h2
          · exact h2.symm
          · have h3 := lessS_trans (ha.1 y h2) (hb.1 x h1)
            rw [lessS_irr] at h3; cases h3
      subst hxy
      congr 1
      refine ih ha.2 hb.2 fun z => ?_
      have hz := h z
      simp only [List.mem_cons] at hz
      constructor
      · intro hza
        rcases hz.1 (.inr hza) with q | q
        · subst q; have := ha.1 z hza; rw [lessS_irr] at this; cases this
        · exact q
      · intro hzb
        rcases hz.2 (.inr hzb) with q | q
        · subst q; have := hb.1 z hzb; rw [lessS_irr] at this; cases this
        · exact q

theorem good_ext {g k : Lg} (hg : Good g) (hk : Good k) (h : ∀ x, x ∈ opsG g ↔ x ∈ opsG k) : g = k := by
  rw [hg.log, hk.log, srt_ext hg.srt hk.srt h]

/-- What is there behind operations, as long as there is room: nothing but those, and one of each time that may be. -/
theorem all_mem {g : Lg} (hg : Good g) (l : List Opn) : (∀ x ∈ opsG (allG g l), x ∈ opsG g ∨ x ∈ l ∧ opOk x = true) ∧ (∀ x ∈ opsG g, x ∈ opsG (allG g l)) ∧ (opsG (allG g l)).length ≤ (opsG g).length + l.length ∧
    ((opsG g).length + l.length ≤ 200 → ∀ x ∈ l, opOk x = true → ∃ y ∈ opsG (allG g l), y.at_ = x.at_) := by
  induction l generalizing g with
  | nil => exact ⟨fun x hx => .inl hx, fun x hx => hx, Nat.le_refl _, fun _ x hx => by simp at hx⟩
  | cons o l ih =>
    obtain ⟨h1, h2⟩ := good_add hg o
    obtain ⟨i1, i2, i3, i4⟩ := ih h1
    show (∀ x ∈ opsG (allG (addG g o) l), _) ∧ (∀ x ∈ opsG g, x ∈ opsG (allG (addG g o) l)) ∧ (opsG (allG (addG g o) l)).length ≤ _ ∧ (_ → ∀ x ∈ o :: l, _ → ∃ y ∈ opsG (allG (addG g o) l), _)
    rcases h2 with ⟨e1, e2, e3⟩ | ⟨e1, e2, e3⟩
    · rw [e1] at i1 i2 i3 i4
      refine ⟨fun x hx => ?_, i2, by simp only [List.length_cons]; omega, fun hle x hx hxo => ?_⟩
      · rcases i1 x hx with q | q
        · exact .inl q
        · exact .inr ⟨List.mem_cons_of_mem _ q.1, q.2⟩
      · simp only [List.length_cons] at hle
        rw [List.mem_cons] at hx
        rcases hx with rfl | hx
        · rcases e3 with e3 | ⟨y, hy, he⟩ | e3
          · rw [hxo] at e3; cases e3
          · exact ⟨y, i2 y hy, he⟩
          · omega
        · exact i4 (by omega) x hx hxo
    · rw [e1] at i1 i2 i3 i4
      rw [len_ins] at i3 i4
      refine ⟨fun x hx => ?_, fun x hx => i2 x (mem_ins.2 (.inr hx)), by simp only [List.length_cons]; omega, fun hle x hx hxo => ?_⟩
      · rcases i1 x hx with q | q
        · rcases mem_ins.1 q with rfl | q
          · exact .inr ⟨by simp, e2⟩
          · exact .inl q
        · exact .inr ⟨List.mem_cons_of_mem _ q.1, q.2⟩
      · simp only [List.length_cons] at hle
        rw [List.mem_cons] at hx
        rcases hx with rfl | hx
        · exact ⟨x, i2 x (mem_ins.2 (.inl rfl)), rfl⟩
        · exact i4 (by omega) x hx hxo
end Go.Gw
