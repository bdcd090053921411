/- What is done, and taken back, leaves nodes as they were; nodes that may be stay so. No condition. -/
import Derived.Test.YtoffonjlfomnbaaGwMergeQ
namespace Go.Gw
open Go Go.Aw Go.Proofs.Ytoffonjlfomnbaa

/-- Nodes with one in the place of another of that number, or at its place. -/
def putN (l : List Nd) (n : Nd) : List Nd := layN l (pos l n.id) (upto l n.id) [n]
def cutN (l : List Nd) (id : Int) : List Nd := layN l (pos l id) (upto l id) []

theorem nodeNew_id (l : List Nd) (o : Opn) : (nodeNew l o).id = o.node := by
  have h : (nodeWas l o).id = o.node := by
    unfold nodeWas
    split
    · rename_i n hn
      have := List.find?_some hn
      simpa using this
    · rfl
  unfold nodeNew; split <;> exact h

theorem doL_put {l : List Nd} {o : Opn} (h : refused l o = false) : doL l o = putN l (nodeNew l o) := by
  rw [doL, if_neg (by rw [h]; decide), putN, nodeNew_id]

theorem chk_take (l : List Nd) (id : Int) (x : Nd) (hx : x ∈ l.take (pos l id)) : x.id < id := by
  induction l with
  | nil => simp at hx
  | cons n l ih =>
    unfold pos at hx
    split at hx
    · rename_i h
      rw [List.take_succ_cons, List.mem_cons] at hx
      rcases hx with rfl | hx
      · exact h
      · exact ih hx
    · simp at hx

theorem chk_drop {l : List Nd} (hs : chk l = true) (id : Int) (x : Nd) (hx : x ∈ l.drop (upto l id)) : id < x.id := by
  have hp := ((chk_iff l).1 hs).2
  rw [List.pairwise_iff_getElem] at hp
  obtain ⟨i, hi, rfl⟩ := List.getElem_of_mem hx
  rw [List.length_drop] at hi
  rw [List.getElem_drop]
  have hpos : ∀ k (hk : k < l.length), pos l id ≤ k → ¬ l[k].id < id := by
    intro k hk hle hlt
    have key : ∀ (l : List Nd), (∀ (i j : Nat) (_hi : i < l.length) (_hj : j < l.length), i < j → l[i].id < l[j].id) → ∀ k (hk : k < l.length), pos l id ≤ k → ¬ l[k].id < id := by
      intro l
      induction l with
      | nil => intro _ k hk; simp at hk
      | cons n l ih =>
        intro hp k hk hle hlt
        unfold pos at hle
        split at hle
        · cases k with
          | zero => omega
          | succ k =>
            refine ih (fun i j hi hj hij => ?_) k (by simpa using hk) (by omega) (by simpa using hlt)
            have := hp (i + 1) (j + 1) (by simpa using hi) (by simpa using hj) (by omega)
            simpa using this
        · rename_i hn
          cases k with
          | zero => simp at hlt; omega
          | succ k =>
            have := hp 0 (k + 1) (by simp) hk (by omega)
            simp at this hlt; omega
    exact key l hp k hk hle hlt
  unfold upto at hi ⊢
  split
  · rename_i hh
    have hlt := had_lt hs hh
    have he : l[pos l id].id = id := by
      rw [had_pos hs, List.getElem?_eq_getElem hlt] at hh; simpa using hh
    rw [if_pos hh] at hi
    have := hp (pos l id) (pos l id + 1 + i) hlt (by omega) (by omega)
    omega
  · rename_i hh
    rw [if_neg hh] at hi
    have h1 := hpos (pos l id + i) (by omega) (by omega)
    have h2 : l[pos l id + i].id ≠ id := by
      intro e
      by_cases hi0 : i = 0
      · subst hi0
        apply hh
        rw [had_pos hs, List.getElem?_eq_getElem (by omega)]
        simpa using e
      · have h3 := hp (pos l id) (pos l id + i) (by omega) (by omega) (by omega)
        have h4 := hpos (pos l id) (by omega) (Nat.le_refl _)
        omega
    omega

theorem put_chk {l : List Nd} (hs : chk l = true) {n : Nd} (hn : ofOk n.id = true) : chk (putN l n) = true := by
  have h := (chk_iff l).1 hs
  rw [chk_iff]
  have ht : ∀ x ∈ l.take (pos l n.id), x.id < n.id := chk_take l n.id
  have hd : ∀ x ∈ l.drop (upto l n.id), n.id < x.id := chk_drop hs n.id
  unfold putN layN
  refine ⟨fun x hx => ?_, ?_⟩
  · rw [List.mem_append, List.mem_append, List.mem_singleton] at hx
    rcases hx with (hx | rfl) | hx
    · exact h.1 x (List.mem_of_mem_take hx)
    · exact hn
    · exact h.1 x (List.mem_of_mem_drop hx)
  · rw [List.pairwise_append, List.pairwise_append]
    refine ⟨⟨h.2.sublist (List.take_sublist _ _), List.pairwise_singleton _ _, fun a ha b hb => by rw [List.mem_singleton] at hb; subst hb; exact ht a ha⟩, h.2.sublist (List.drop_sublist _ _), fun a ha b hb => ?_⟩
    rw [List.mem_append, List.mem_singleton] at ha
    rcases ha with ha | rfl
    · exact Int.lt_trans (ht a ha) (hd b hb)
    · exact hd b hb

/-- The node of a number is that which was put there. -/
theorem pos_mid {A B : List Nd} {n : Nd} {id : Int} (hA : ∀ x ∈ A, x.id < id) (hn : n.id = id) : pos (A ++ n :: B) id = A.length := by
  induction A with
  | nil => simp [pos, hn]
  | cons a A ih =>
    rw [List.cons_append, pos, if_pos (hA a (by simp)), ih fun x hx => hA x (by simp [hx])]; rfl
theorem pos_end {A B : List Nd} {id : Int} (hA : ∀ x ∈ A, x.id < id) (hB : ∀ x ∈ B, id < x.id) : pos (A ++ B) id = A.length := by
  induction A with
  | nil =>
    cases B with
    | nil => rfl
    | cons b B => have := hB b (by simp); rw [List.nil_append, pos, if_neg (by omega)]; rfl
  | cons a A ih =>
    rw [List.cons_append, pos, if_pos (hA a (by simp)), ih fun x hx => hA x (by simp [hx])]; rfl
theorem fnd_mid {A B : List Nd} {n : Nd} {id : Int} (hA : ∀ x ∈ A, x.id < id) (hn : n.id = id) : fnd (A ++ n :: B) id = some n := by
  unfold fnd
  rw [List.find?_append, List.find?_cons, decide_eq_true hn]
  have : A.find? (fun n => decide (n.id = id)) = none := by
    rw [List.find?_eq_none]; intro x hx; have := hA x hx; simp; omega
  rw [this]; rfl
theorem fnd_end {A B : List Nd} {id : Int} (hA : ∀ x ∈ A, x.id < id) (hB : ∀ x ∈ B, id < x.id) : fnd (A ++ B) id = none := by
  unfold fnd
  rw [List.find?_eq_none]
  intro x hx
  rw [List.mem_append] at hx
  rcases hx with hx | hx
  · have := hA x hx; simp; omega
  · have := hB x hx; simp; omega

/-- Nodes, seen at a number: those ahead, those behind, and the one that is there, or none. -/
theorem split_at {l : List Nd} (hs : chk l = true) (id : Int) : ∃ A B, (∀ x ∈ A, x.id < id) ∧ (∀ x ∈ B, id < x.id) ∧ A = l.take (pos l id) ∧ B = l.drop (upto l id) ∧ (l = A ++ B ∧ had l id = false ∨ ∃ n, n.id = id ∧ l = A ++ n :: B ∧ had l id = true) := by
  refine ⟨_, _, chk_take l id, chk_drop hs id, rfl, rfl, ?_⟩
  cases hh : had l id with
  | false =>
    left
    unfold upto
    rw [hh]
    exact ⟨(List.take_append_drop _ _).symm, rfl⟩
  | true =>
    right
    have hlt := had_lt hs hh
    have he : l[pos l id].id = id := by
      have := hh
      rw [had_pos hs, List.getElem?_eq_getElem hlt] at this; simpa using this
    refine ⟨l[pos l id], he, ?_, rfl⟩
    unfold upto
    rw [if_pos hh, ← List.drop_eq_getElem_cons hlt, List.take_append_drop]

theorem put_eq {l : List Nd} (n : Nd) {A B : List Nd} (hA : A = l.take (pos l n.id)) (hB : B = l.drop (upto l n.id)) : putN l n = A ++ n :: B := by
  rw [putN, layN, hA, hB, List.append_assoc]; rfl

theorem mid_put {A B : List Nd} {n m : Nd} (hA : ∀ x ∈ A, x.id < n.id) (hm : m.id = n.id) : putN (A ++ m :: B) n = A ++ n :: B := by
  have hp : pos (A ++ m :: B) n.id = A.length := pos_mid hA hm
  have hh : had (A ++ m :: B) n.id = true := by rw [had, fnd_mid hA hm]; rfl
  rw [putN, layN, upto, if_pos hh, hp, List.take_left', show A.length + 1 = A.length + 1 from rfl, List.append_assoc]
  · congr 1
    rw [List.drop_append, List.drop_of_length_le (by omega)]; simp
  · rfl
theorem mid_cut {A B : List Nd} {m : Nd} {id : Int} (hA : ∀ x ∈ A, x.id < id) (hm : m.id = id) : cutN (A ++ m :: B) id = A ++ B := by
  have hp : pos (A ++ m :: B) id = A.length := pos_mid hA hm
  have hh : had (A ++ m :: B) id = true := by rw [had, fnd_mid hA hm]; rfl
  rw [cutN, layN, upto, if_pos hh, hp, List.take_left', List.append_nil]
  · congr 1
    rw [List.drop_append, List.drop_of_length_le (by omega)]; simp
  · rfl

/-- What is done, and taken back. -/
theorem back_do {l : List Nd} (o : Opn) (hs : chk l = true) : backL (doL l o) o (doU l o) = l := by
  cases hr : refused l o with
  | true =>
    rw [doL, if_pos hr, doU, if_pos hr, backL, if_pos (by simp [und0])]
  | false =>
    have hok : opOk o = true := by
      cases ho : opOk o with
      | true => rfl
      | false => simp [refused, ho] at hr
    have hof : ofOk o.node = true := by
      unfold opOk fitsM fitsW at hok
      split at hok <;> simp at hok <;> simp [hok]
    have hid := nodeNew_id l o
    have hc : chk (doL l o) = true := by rw [doL_put hr]; exact put_chk hs (by rw [hid]; exact hof)
    rw [doU, if_neg (by rw [hr]; decide), backL, if_neg (by rw [hc]; simp)]
    obtain ⟨A, B, hA, hB, eA, eB, hcase⟩ := split_at hs o.node
    have hd : doL l o = A ++ nodeNew l o :: B := by
      rw [doL_put hr]
      exact put_eq _ (by rw [hid]; exact eA) (by rw [hid]; exact eB)
    rcases hcase with ⟨hl, hh⟩ | ⟨n, hn, hl, hh⟩
    · rw [if_neg (by rw [hh]; simp)]
      have := mid_cut (B := B) hA hid
      rw [hd]
      exact this.trans hl.symm
    · have hf : fnd l o.node = some n := by rw [hl]; exact fnd_mid hA hn
      rw [if_pos (by rw [hh, hf, hof]; simpa using hn), hf, Option.getD_some]
      have := mid_put (n := n) (m := nodeNew l o) (B := B) (by rw [hn]; exact hA) (by rw [hn, hid])
      rw [hd]
      have h2 : putN (A ++ nodeNew l o :: B) n = layN (A ++ nodeNew l o :: B) (pos (A ++ nodeNew l o :: B) o.node) (upto (A ++ nodeNew l o :: B) o.node) [n] := by rw [putN, hn]
      rw [← h2, this, ← hl]

theorem do_chk {l : List Nd} (o : Opn) (hs : chk l = true) : chk (doL l o) = true := by
  cases hr : refused l o with
  | true => rw [doL, if_pos hr]; exact hs
  | false =>
    have hok : opOk o = true := by
      cases ho : opOk o with
      | true => rfl
      | false => simp [refused, ho] at hr
    have hof : ofOk o.node = true := by
      unfold opOk fitsM fitsW at hok
      split at hok <;> simp at hok <;> simp [hok]
    rw [doL_put hr]; exact put_chk hs (by rw [nodeNew_id]; exact hof)
end Go.Gw
/- Logs are what their operations make, in order. No condition. -/
namespace Go.Gw
open Go Go.Aw Go.Proofs.Ytoffonjlfomnbaa

theorem lessS_t {a b : Stm} : lessS a b = true ↔ a.c < b.c ∨ (a.c = b.c ∧ a.r < b.r) := lessI_t
theorem lessS_f {a b : Stm} : lessS a b = false ↔ ¬ (a.c < b.c ∨ (a.c = b.c ∧ a.r < b.r)) := by rw [← lessS_t, Bool.not_eq_true]
theorem stm_ext {a b : Stm} (h1 : a.c = b.c) (h2 : a.r = b.r) : a = b := by cases a; cases b; simp_all
theorem lessS_tri (a b : Stm) : lessS a b = true ∨ a = b ∨ lessS b a = true := by
  rw [lessS_t, lessS_t]
  by_cases h : a = b
  · exact .inr (.inl h)
  · have : ¬ (a.c = b.c ∧ a.r = b.r) := fun q => h (stm_ext q.1 q.2)
    omega
theorem lessS_trans {a b c : Stm} (h : lessS a b = true) (k : lessS b c = true) : lessS a c = true := by
  rw [lessS_t] at *; omega
theorem lessS_irr (a : Stm) : lessS a a = false := by rw [lessS_f]; omega

def logOf (l : List Opn) : Lg := ⟨(redo l [] []).1, (redo l [] []).2⟩
abbrev Srt (l : List Opn) : Prop := l.Pairwise fun x y => lessS x.at_ y.at_ = true

theorem redo_app (a b : List Opn) (es : List Ent) (n : List Nd) : redo (a ++ b) es n = redo b (redo a es n).1 (redo a es n).2 := by
  induction a generalizing es n with
  | nil => rfl
  | cons o a ih => rw [List.cons_append, redo, ih, redo]
theorem redo_pre (l : List Opn) (es : List Ent) (n : List Nd) : redo l es n = (es ++ (redo l [] n).1, (redo l [] n).2) := by
  induction l generalizing es n with
  | nil => simp [redo]
  | cons o l ih =>
    show redo l (es ++ [⟨o, doU n o⟩]) (doL n o) = (es ++ (redo l ([] ++ [⟨o, doU n o⟩]) (doL n o)).1, (redo l ([] ++ [⟨o, doU n o⟩]) (doL n o)).2)
    rw [ih (es ++ [Ent.mk o (doU n o)]), ih ([] ++ [Ent.mk o (doU n o)])]
    simp
theorem redo_chk (l : List Opn) (es : List Ent) {n : List Nd} (h : chk n = true) : chk (redo l es n).2 = true := by
  induction l generalizing es n with
  | nil => exact h
  | cons o l ih => exact ih _ (do_chk o h)
theorem logOf_chk (l : List Opn) : chk (logOf l).nodes = true := redo_chk l [] rfl
theorem opsG_logOf (l : List Opn) : opsG (logOf l) = l := by rw [opsG, logOf, redo_ops]; rfl

theorem undo_suf (a : Stm) (pre : List Opn) (r : List Opn) (h : ∀ x ∈ r, lessS a x.at_ = true) :
    undoR a (logOf (pre ++ r.reverse)).entries.reverse (logOf (pre ++ r.reverse)).nodes = ((undoR a (logOf pre).entries.reverse (logOf pre).nodes).1 + r.length, (undoR a (logOf pre).entries.reverse (logOf pre).nodes).2) := by
  induction r with
  | nil => simp
  | cons x r ih =>
    have h2 := ih fun y hy => h y (by simp [hy])
    have e : pre ++ (x :: r).reverse = (pre ++ r.reverse) ++ [x] := by simp
    have e2 : logOf ((pre ++ r.reverse) ++ [x]) = ⟨(logOf (pre ++ r.reverse)).entries ++ [⟨x, doU (logOf (pre ++ r.reverse)).nodes x⟩], doL (logOf (pre ++ r.reverse)).nodes x⟩ := by
      rw [logOf, redo_snoc]; rfl
    rw [e, e2]
    simp only [List.reverse_append, List.reverse_cons, List.reverse_nil, List.nil_append, List.cons_append]
    rw [undoR, if_pos (h x (by simp)), back_do x (logOf_chk _), h2]
    simp [Nat.add_assoc]

theorem undo_none (a : Stm) (pre : List Opn) (h : ∀ x ∈ pre, lessS a x.at_ = false) (n : List Nd) : (undoR a (logOf pre).entries.reverse n).1 = 0 ∧ (undoR a (logOf pre).entries.reverse n).2 = n := by
  cases hr : (logOf pre).entries.reverse with
  | nil => exact ⟨rfl, rfl⟩
  | cons e r =>
    have he : e ∈ (logOf pre).entries := by rw [← List.mem_reverse, hr]; simp
    have h1 : e.op ∈ opsG (logOf pre) := List.mem_map_of_mem he
    rw [opsG_logOf] at h1
    rw [undoR, if_neg (by rw [h _ h1]; decide)]
    exact ⟨rfl, rfl⟩

/-- One more, at its place. -/
def preO (o : Opn) (l : List Opn) : List Opn := l.takeWhile fun x => !lessS o.at_ x.at_
def sufO (o : Opn) (l : List Opn) : List Opn := l.dropWhile fun x => !lessS o.at_ x.at_
def insO (o : Opn) (l : List Opn) : List Opn := preO o l ++ o :: sufO o l

theorem pre_suf (o : Opn) (l : List Opn) : preO o l ++ sufO o l = l := List.takeWhile_append_dropWhile
theorem preO_f (o : Opn) (l : List Opn) : ∀ x ∈ preO o l, lessS o.at_ x.at_ = false := by
  intro x hx
  unfold preO at hx
  induction l with
  | nil => simp at hx
  | cons y l ih =>
    rw [List.takeWhile_cons] at hx
    split at hx
    · rename_i hy
      rw [List.mem_cons] at hx
      rcases hx with rfl | hx
      · simpa using hy
      · exact ih hx
    · simp at hx
theorem sufO_t {o : Opn} {l : List Opn} (h : Srt l) : ∀ x ∈ sufO o l, lessS o.at_ x.at_ = true := by
  intro x hx
  unfold sufO at hx
  induction l with
  | nil => simp at hx
  | cons y l ih =>
    rw [Srt, List.pairwise_cons] at h
    rw [List.dropWhile_cons] at hx
    split at hx
    · exact ih h.2 hx
    · rename_i hy
      have hy : lessS o.at_ y.at_ = true := by simpa using hy
      rw [List.mem_cons] at hx
      rcases hx with rfl | hx
      · exact hy
      · exact lessS_trans hy (h.1 x hx)

theorem add_log {l : List Opn} (hs : Srt l) (o : Opn) (h1 : opOk o = true) (h2 : hasAt (logOf l).entries o.at_ = false) (h3 : (l.length : Int) < 200) : addG (logOf l) o = logOf (insO o l) := by
  have hlen : (logOf l).entries.length = l.length := by
    have := congrArg List.length (opsG_logOf l); rwa [opsG, List.length_map] at this
  have hu := undo_suf o.at_ (preO o l) (sufO o l).reverse (fun x hx => sufO_t hs x (List.mem_reverse.1 hx))
  rw [List.reverse_reverse, pre_suf] at hu
  have hn := undo_none o.at_ (preO o l) (preO_f o l) (logOf (preO o l)).nodes
  have hu2 : undoR o.at_ (logOf l).entries.reverse (logOf l).nodes = ((sufO o l).length, (logOf (preO o l)).nodes) := by
    rw [hu, hn.2, hn.1]; simp
  have hll : l.length = (preO o l).length + (sufO o l).length := by
    have := congrArg List.length (pre_suf o l); rw [List.length_append] at this; exact this.symm
  have he : (logOf l).entries = (logOf (preO o l)).entries ++ (redo (sufO o l) [] (logOf (preO o l)).nodes).1 := by
    have e : (logOf l).entries = (logOf (preO o l ++ sufO o l)).entries := congrArg (fun x => (logOf x).entries) (pre_suf o l).symm
    rw [e, logOf, redo_app, redo_pre (sufO o l)]; rfl
  have hpl : (logOf (preO o l)).entries.length = (preO o l).length := by
    have := congrArg List.length (opsG_logOf (preO o l)); rwa [opsG, List.length_map] at this
  rw [addG, if_neg (by rw [h1]; decide), if_neg (by rw [h2]; decide), if_neg (by omega), hu2]
  simp only
  have e1 : (logOf l).entries.length - (sufO o l).length = (preO o l).length := by omega
  have e2 : (logOf l).entries.take (preO o l).length = (logOf (preO o l)).entries := by rw [he, ← hpl, List.take_left']; rfl
  have e3 : ((logOf l).entries.drop (preO o l).length).map Ent.op = sufO o l := by
    rw [List.map_drop]
    have := opsG_logOf l
    rw [opsG] at this
    rw [this]
    exact (congrArg (List.drop (preO o l).length) (pre_suf o l).symm).trans (List.drop_left' rfl)
  rw [e1, e2, e3, insO]
  have e4 : logOf (preO o l ++ o :: sufO o l) = ⟨(redo (o :: sufO o l) (redo (preO o l) [] []).1 (redo (preO o l) [] []).2).1, (redo (o :: sufO o l) (redo (preO o l) [] []).1 (redo (preO o l) [] []).2).2⟩ := by
    rw [logOf, redo_app]
  rw [e4]
  rfl

theorem mem_ins {o x : Opn} {l : List Opn} : x ∈ insO o l ↔ x = o ∨ x ∈ l := by
  rw [insO, List.mem_append, List.mem_cons]
  have : x ∈ l ↔ x ∈ preO o l ∨ x ∈ sufO o l := by rw [← List.mem_append, pre_suf]
  rw [this]
  constructor
  · rintro (h | h | h)
    · exact .inr (.inl h)
    · exact .inl h
    · exact .inr (.inr h)
  · rintro (h | h | h)
    · exact .inr (.inl h)
    · exact .inl h
    · exact .inr (.inr h)
theorem len_ins (o : Opn) (l : List Opn) : (insO o l).length = l.length + 1 := by
  have := congrArg List.length (pre_suf o l)
  rw [List.length_append] at this
  rw [insO, List.length_append, List.length_cons]; omega
theorem srt_ins {o : Opn} {l : List Opn} (hs : Srt l) (hn : ∀ x ∈ l, x.at_ ≠ o.at_) : Srt (insO o l) := by
  have h0 := hs
  rw [← pre_suf o l] at h0
  rw [Srt, List.pairwise_append] at h0
  rw [insO, Srt, List.pairwise_append, List.pairwise_cons]
  have hp : ∀ x ∈ preO o l, lessS x.at_ o.at_ = true := fun x hx => by
    have hx1 := preO_f o l x hx
    rcases lessS_tri o.at_ x.at_ with q | q | q
    · rw [q] at hx1; cases hx1
    · exact absurd q.symm (hn x (by rw [← pre_suf o l]; simp [hx]))
    · exact q
  refine ⟨h0.1, ⟨sufO_t hs, h0.2.1⟩, fun a ha b hb => ?_⟩
  rw [List.mem_cons] at hb
  rcases hb with rfl | hb
  · exact hp a ha
  · exact h0.2.2 a ha b hb

theorem hasAt_log (l : List Opn) (a : Stm) : hasAt (logOf l).entries a = l.any fun o => decide (o.at_ = a) := by rw [hasAt_ops', opsG_logOf]
  where hasAt_ops' {g : Lg} {a : Stm} : hasAt g.entries a = (opsG g).any fun o => decide (o.at_ = a) := by rw [hasAt, opsG, List.any_map]; rfl

/-- A log that may be. -/
structure Good (g : Lg) : Prop where
  log : g = logOf (opsG g)
  srt : Srt (opsG g)
  ok : ∀ o ∈ opsG g, opOk o = true

theorem good_nil : Good ⟨[], []⟩ := ⟨rfl, by simp [opsG], by simp [opsG]⟩

theorem good_add {g : Lg} (h : Good g) (o : Opn) : Good (addG g o) ∧ (opsG (addG g o) = opsG g ∧ addG g o = g ∧ (opOk o = false ∨ (∃ x ∈ opsG g, x.at_ = o.at_) ∨ 200 ≤ (opsG g).length) ∨ opsG (addG g o) = insO o (opsG g) ∧ opOk o = true ∧ (∀ x ∈ opsG g, x.at_ ≠ o.at_)) := by
  have hlen : (opsG g).length = g.entries.length := List.length_map ..
  by_cases h1 : opOk o = true
  · by_cases h2 : hasAt g.entries o.at_ = true
    · have e : addG g o = g := by rw [addG, if_neg (by rw [h1]; decide), if_pos h2]
      rw [e]
      refine ⟨h, .inl ⟨rfl, rfl, .inr (.inl ?_)⟩⟩
      rw [h.log, hasAt_log] at h2
      obtain ⟨x, hx, hx2⟩ := List.any_eq_true.1 h2
      exact ⟨x, hx, of_decide_eq_true hx2⟩
    · by_cases h3 : (200 : Int) ≤ (g.entries.length : Int)
      · have e : addG g o = g := by rw [addG, if_neg (by rw [h1]; decide), if_neg h2, if_pos h3]
        rw [e]
        exact ⟨h, .inl ⟨rfl, rfl, .inr (.inr (by omega))⟩⟩
      · have hno : ∀ x ∈ opsG g, x.at_ ≠ o.at_ := by
          intro x hx e
          apply h2
          rw [h.log, hasAt_log]
          exact List.any_eq_true.2 ⟨x, hx, by simpa using e⟩
        have h2' : hasAt (logOf (opsG g)).entries o.at_ = false := by rw [← h.log]; simpa using h2
        have e := add_log h.srt o h1 h2' (by omega)
        rw [← h.log] at e
        rw [e, opsG_logOf]
        exact ⟨⟨by rw [opsG_logOf], by rw [opsG_logOf]; exact srt_ins h.srt hno, by rw [opsG_logOf]; intro x hx; rcases mem_ins.1 hx with rfl | hx; exact h1; exact h.ok x hx⟩, .inr ⟨rfl, h1, hno⟩⟩
  · have h1 : opOk o = false := by simpa using h1
    have e : addG g o = g := by rw [addG, if_pos h1]
    rw [e]
    exact ⟨h, .inl ⟨rfl, rfl, .inl h1⟩⟩

theorem good_all {g : Lg} (h : Good g) (l : List Opn) : Good (allG g l) := by
  induction l generalizing g with
  | nil => exact h
  | cons o l ih => exact ih (good_add h o).1

theorem good_of (l : List Opn) : Good (ofG l) := good_all good_nil l

/-- Lists in strict order of the same members are the same. -/
theorem srt_ext {a b : List Opn} (ha : Srt a) (hb : Srt b) (h : ∀ x, x ∈ a ↔ x ∈ b) : a = b := by
  induction a generalizing b with
  | nil =>
    cases b with
    | nil => rfl
    | cons y b => have := (h y).2 (by simp); simp at this
  | cons x a ih =>
    cases b with
    | nil => have := (h x).1 (by simp); simp at this
    | cons y b =>
      rw [Srt, List.pairwise_cons] at ha hb
      have hxy : x = y := by
        have h1 := (h x).1 (by simp)
        have h2 := (h y).2 (by simp)
        rw [List.mem_cons] at h1 h2
        rcases h1 with h1 | h1
        · exact h1
        · rcases h2 with h2 | h2
          · exact h2.symm
          · have h3 := lessS_trans (ha.1 y h2) (hb.1 x h1)
            rw [lessS_irr] at h3; cases h3
      subst hxy
      congr 1
      refine ih ha.2 hb.2 fun z => ?_
      have hz := h z
      simp only [List.mem_cons] at hz
      constructor
      · intro hza
        rcases hz.1 (.inr hza) with q | q
        · subst q; have := ha.1 z hza; rw [lessS_irr] at this; cases this
        · exact q
      · intro hzb
        rcases hz.2 (.inr hzb) with q | q
        · subst q; have := hb.1 z hzb; rw [lessS_irr] at this; cases this
        · exact q

theorem good_ext {g k : Lg} (hg : Good g) (hk : Good k) (h : ∀ x, x ∈ opsG g ↔ x ∈ opsG k) : g = k := by
  rw [hg.log, hk.log, srt_ext hg.srt hk.srt h]

/-- What is there behind operations, as long as there is room: nothing but those, and one of each time that may be. -/
theorem all_mem {g : Lg} (hg : Good g) (l : List Opn) : (∀ x ∈ opsG (allG g l), x ∈ opsG g ∨ x ∈ l ∧ opOk x = true) ∧ (∀ x ∈ opsG g, x ∈ opsG (allG g l)) ∧ (opsG (allG g l)).length ≤ (opsG g).length + l.length ∧
    ((opsG g).length + l.length ≤ 200 → ∀ x ∈ l, opOk x = true → ∃ y ∈ opsG (allG g l), y.at_ = x.at_) := by
  induction l generalizing g with
  | nil => exact ⟨fun x hx => .inl hx, fun x hx => hx, Nat.le_refl _, fun _ x hx => by simp at hx⟩
  | cons o l ih =>
    obtain ⟨h1, h2⟩ := good_add hg o
    obtain ⟨i1, i2, i3, i4⟩ := ih h1
    show (∀ x ∈ opsG (allG (addG g o) l), _) ∧ (∀ x ∈ opsG g, x ∈ opsG (allG (addG g o) l)) ∧ (opsG (allG (addG g o) l)).length ≤ _ ∧ (_ → ∀ x ∈ o :: l, _ → ∃ y ∈ opsG (allG (addG g o) l), _)
    rcases h2 with ⟨e1, e2, e3⟩ | ⟨e1, e2, e3⟩
    · rw [e1] at i1 i2 i3 i4
      refine ⟨fun x hx => ?_, i2, by simp only [List.length_cons]; omega, fun hle x hx hxo => ?_⟩
      · rcases i1 x hx with q | q
        · exact .inl q
        · exact .inr ⟨List.mem_cons_of_mem _ q.1, q.2⟩
      · simp only [List.length_cons] at hle
        rw [List.mem_cons] at hx
        rcases hx with rfl | hx
        · rcases e3 with e3 | ⟨y, hy, he⟩ | e3
          · rw [hxo] at e3; cases e3
          · exact ⟨y, i2 y hy, he⟩
          · omega
        · exact i4 (by omega) x hx hxo
    · rw [e1] at i1 i2 i3 i4
      rw [len_ins] at i3 i4
      refine ⟨fun x hx => ?_, fun x hx => i2 x (mem_ins.2 (.inr hx)), by simp only [List.length_cons]; omega, fun hle x hx hxo => ?_⟩
      · rcases i1 x hx with q | q
        · rcases mem_ins.1 q with rfl | q
          · exact .inr ⟨by simp, e2⟩
          · exact .inl q
        · exact .inr ⟨List.mem_cons_of_mem _ q.1, q.2⟩
      · simp only [List.length_cons] at hle
        rw [List.mem_cons] at hx
        rcases hx with rfl | hx
        · exact ⟨x, i2 x (mem_ins.2 (.inl rfl)), rfl⟩
        · exact i4 (by omega) x hx hxo
end Go.Gw
/- The document's sorting, in plain Lean: one behind the other, each at its place. No condition. -/
namespace Go.Gw
open Go Go.Aw Go.Proofs.Ytoffonjlfomnbaa

/-- Where the document puts an operation: it looks from the end. -/
def rK (o : Opn) (out : List Opn) : Nat := out.length - (out.reverse.takeWhile fun x => lessS o.at_ x.at_).length
def rIns (out : List Opn) (o : Opn) : List Opn :=
  if (!opOk o || (decide (0 < rK o out) && decide ((out.getD (rK o out - 1) op0).at_ = o.at_))) = true then out
  else out.take (rK o out) ++ o :: out.drop (rK o out)
def rSort (l : List Opn) : List Opn := l.foldl rIns []

theorem rSort_snoc (l : List Opn) (o : Opn) : rSort (l ++ [o]) = rIns (rSort l) o := by simp [rSort]

theorem takeWhile_all {α : Type} (p : α → Bool) (a b : List α) (h : ∀ x ∈ a, p x = true) (hb : ∀ x ∈ b, p x = false) : (a ++ b).takeWhile p = a := by
  induction a with
  | nil =>
    cases b with
    | nil => rfl
    | cons x b => simp [hb x (by simp)]
  | cons x a ih =>
    rw [List.cons_append, List.takeWhile_cons, if_pos (h x (by simp)), ih fun y hy => h y (by simp [hy])]

theorem rK_pre {o : Opn} {l : List Opn} (hs : Srt l) : rK o l = (preO o l).length := by
  have h1 := pre_suf o l
  have h2 : l.reverse.takeWhile (fun x => lessS o.at_ x.at_) = (sufO o l).reverse := by
    conv => lhs; rw [← h1]
    rw [List.reverse_append]
    exact takeWhile_all _ _ _ (fun x hx => sufO_t hs x (List.mem_reverse.1 hx)) (fun x hx => preO_f o l x (List.mem_reverse.1 hx))
  have h3 := congrArg List.length h1
  rw [List.length_append] at h3
  rw [rK, h2, List.length_reverse]; omega

theorem rIns_srt {o : Opn} {l : List Opn} (hs : Srt l) : rIns l o = if opOk o = false ∨ (∃ x ∈ l, x.at_ = o.at_) then l else insO o l := by
  have hk := rK_pre (o := o) hs
  have hps := pre_suf o l
  have key : (decide (0 < rK o l) && decide ((l.getD (rK o l - 1) op0).at_ = o.at_)) = true ↔ ∃ x ∈ l, x.at_ = o.at_ := by
    rw [Bool.and_eq_true, decide_eq_true_eq, decide_eq_true_eq, hk]
    constructor
    · rintro ⟨h1, h2⟩
      have hlt : (preO o l).length - 1 < l.length := by
        have := congrArg List.length hps; rw [List.length_append] at this; omega
      rw [List.getD_eq_getElem?_getD, List.getElem?_eq_getElem hlt] at h2
      exact ⟨_, List.getElem_mem hlt, h2⟩
    · rintro ⟨x, hx, he⟩
      have hxp : x ∈ preO o l := by
        rw [← hps, List.mem_append] at hx
        rcases hx with hx | hx
        · exact hx
        · have := sufO_t hs x hx
          rw [he, lessS_irr] at this; cases this
      have hp : 0 < (preO o l).length := List.length_pos_of_mem hxp
      refine ⟨hp, ?_⟩
      have hsp : Srt (preO o l) := by
        have h0 := hs
        rw [← hps, Srt, List.pairwise_append] at h0
        exact h0.1
      have e : l.getD ((preO o l).length - 1) op0 = (preO o l)[(preO o l).length - 1]'(by omega) := by
        have e0 : l.getD ((preO o l).length - 1) op0 = (preO o l ++ sufO o l).getD ((preO o l).length - 1) op0 := congrArg (fun x => List.getD x ((preO o l).length - 1) op0) hps.symm
        rw [e0, List.getD_eq_getElem?_getD, List.getElem?_append_left (by omega), List.getElem?_eq_getElem (by omega)]; rfl
      rw [e]
      obtain ⟨i, hi, rfl⟩ := List.getElem_of_mem hxp
      by_cases hil : i = (preO o l).length - 1
      · subst hil; exact he
      · have h1 := List.pairwise_iff_getElem.1 hsp i ((preO o l).length - 1) hi (by omega) (by omega)
        rw [he] at h1
        have h2 := preO_f o l _ (List.getElem_mem (show (preO o l).length - 1 < (preO o l).length by omega))
        rw [h1] at h2; cases h2
  unfold rIns
  by_cases h1 : opOk o = false
  · rw [if_pos (by rw [h1]; rfl), if_pos (.inl h1)]
  · have h1' : opOk o = true := by simpa using h1
    by_cases h2 : ∃ x ∈ l, x.at_ = o.at_
    · rw [if_pos (by rw [key.2 h2]; simp), if_pos (.inr h2)]
    · have h2' : (decide (0 < rK o l) && decide ((l.getD (rK o l - 1) op0).at_ = o.at_)) = false := by
        rw [Bool.eq_false_iff]; exact fun q => h2 (key.1 q)
      rw [if_neg (by rw [h1', h2']; simp), if_neg (by rintro (q | q); exact h1 q; exact h2 q), hk, insO]
      have e1 : l.take (preO o l).length = preO o l := (congrArg (List.take (preO o l).length) hps.symm).trans (List.take_left' rfl)
      have e2 : l.drop (preO o l).length = sufO o l := (congrArg (List.drop (preO o l).length) hps.symm).trans (List.drop_left' rfl)
      rw [e1, e2]

theorem rSort_srt (l : List Opn) : Srt (rSort l) ∧ ∀ o ∈ rSort l, opOk o = true := by
  suffices h : ∀ (l acc : List Opn), Srt acc → (∀ o ∈ acc, opOk o = true) → Srt (l.foldl rIns acc) ∧ ∀ o ∈ l.foldl rIns acc, opOk o = true from h l [] (by simp) (by simp)
  intro l
  induction l with
  | nil => exact fun acc h1 h2 => ⟨h1, h2⟩
  | cons o l ih =>
    intro acc h1 h2
    rw [List.foldl_cons]
    rw [rIns_srt h1]
    split
    · exact ih acc h1 h2
    · rename_i hn
      have hn1 : opOk o = true := by
        cases q : opOk o with
        | true => rfl
        | false => exact absurd (.inl q) hn
      refine ih _ (srt_ins h1 fun x hx e => hn (.inr ⟨x, hx, e⟩)) fun x hx => ?_
      rcases mem_ins.1 hx with rfl | hx
      · exact hn1
      · exact h2 x hx

/-- What is in order already stays as it is. -/
theorem rSort_id {l : List Opn} (hs : Srt l) (ho : ∀ o ∈ l, opOk o = true) : rSort l = l := by
  suffices h : ∀ (l acc : List Opn), Srt (acc ++ l) → (∀ o ∈ l, opOk o = true) → l.foldl rIns acc = acc ++ l from by have := h l [] (by simpa using hs) ho; rw [List.nil_append] at this; exact this
  intro l
  induction l with
  | nil => intro acc _ _; simp
  | cons o l ih =>
    intro acc h1 h2
    have h3 := h1
    rw [Srt, List.pairwise_append] at h3
    obtain ⟨g1, g2, g3⟩ := h3
    have hless : ∀ x ∈ acc, lessS x.at_ o.at_ = true := fun x hx => g3 x hx o (by simp)
    have hno : ¬ (opOk o = false ∨ ∃ x ∈ acc, x.at_ = o.at_) := by
      rintro (q | ⟨x, hx, e⟩)
      · rw [h2 o (by simp)] at q; cases q
      · have := hless x hx; rw [e, lessS_irr] at this; cases this
    have hpre : ∀ a : List Opn, (∀ x ∈ a, lessS x.at_ o.at_ = true) → preO o a = a ∧ sufO o a = [] := by
      intro a ha
      unfold preO sufO
      induction a with
      | nil => exact ⟨rfl, rfl⟩
      | cons y a iha =>
        have hy : lessS o.at_ y.at_ = false := by
          have := lessS_t.1 (ha y (by simp)); rw [lessS_f]; omega
        have := iha fun x hx => ha x (by simp [hx])
        rw [List.takeWhile_cons, List.dropWhile_cons]
        simp only [hy, Bool.not_false, if_true]
        exact ⟨by rw [this.1], this.2⟩
    have e : rIns acc o = acc ++ [o] := by
      rw [rIns_srt g1, if_neg hno, insO, (hpre acc hless).1, (hpre acc hless).2]
    rw [List.foldl_cons, e, ih (acc ++ [o]) (by rw [List.append_assoc]; exact h1) (fun x hx => h2 x (by simp [hx])), List.append_assoc]; rfl

/-- The document's log behind one more. -/
def rAddG (g : Lg) (o : Opn) : Lg := if opOk o = false then g else if hasAt g.entries o.at_ = true then g else if (200 : Int) ≤ (g.entries.length : Int) then g else logOf (rSort (opsG g ++ [o]))
def rAllG : Lg → List Opn → Lg
  | g, [] => g
  | g, o :: l => rAllG (rAddG g o) l

theorem rAddG_eq {g : Lg} (h : Good g) (o : Opn) : rAddG g o = addG g o := by
  unfold rAddG
  by_cases h1 : opOk o = false
  · rw [if_pos h1, addG, if_pos h1]
  · by_cases h2 : hasAt g.entries o.at_ = true
    · rw [if_neg h1, if_pos h2, addG, if_neg h1, if_pos h2]
    · by_cases h3 : (200 : Int) ≤ (g.entries.length : Int)
      · rw [if_neg h1, if_neg h2, if_pos h3, addG, if_neg h1, if_neg h2, if_pos h3]
      · rw [if_neg h1, if_neg h2, if_neg h3, rSort_snoc, rSort_id h.srt h.ok, rIns_srt h.srt]
        have hno : ¬ (opOk o = false ∨ ∃ x ∈ opsG g, x.at_ = o.at_) := by
          rintro (q | ⟨x, hx, e⟩)
          · exact h1 q
          · apply h2
            rw [h.log, hasAt_log]
            exact List.any_eq_true.2 ⟨x, hx, by simpa using e⟩
        rw [if_neg hno]
        have e := add_log h.srt o (by simpa using h1) (by rw [← h.log]; simpa using h2) (by rw [opsG, List.length_map]; omega)
        rw [← h.log] at e
        exact e.symm
theorem rAllG_eq {g : Lg} (h : Good g) (l : List Opn) : rAllG g l = allG g l := by
  induction l generalizing g with
  | nil => rfl
  | cons o l ih => rw [rAllG, allG, rAddG_eq h, ih (good_add h o).1]
end Go.Gw
