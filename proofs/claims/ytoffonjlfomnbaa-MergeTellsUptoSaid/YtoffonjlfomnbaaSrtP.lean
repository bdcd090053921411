/- Sorting that keeps the order of what is alike: lists, with no program in sight. No condition. -/
namespace Go.Srt
section
variable {α : Type} (lt : α → α → Bool)

structure SWO : Prop where
  irr : ∀ a, lt a a = false
  ntr : ∀ a b c, lt a b = false → lt b c = false → lt a c = false
  asy : ∀ a b, lt a b = true → lt b a = false

/-- Alike. -/
def eqv (k x : α) : Bool := !lt k x && !lt x k
theorem eqv_t {k x : α} : eqv lt k x = true ↔ lt k x = false ∧ lt x k = false := by simp [eqv]
/-- In order. -/
def Sd (l : List α) : Prop := l.Pairwise (fun a b => lt b a = false)
/-- The same members, and those that are alike in the same order. -/
def Fs (xs ys : List α) : Prop := ys.length = xs.length ∧ ∀ k, ys.filter (eqv lt k) = xs.filter (eqv lt k)

variable {lt}
theorem SWO.ltr (h : SWO lt) {a b c : α} (h1 : lt a b = true) (h2 : lt c b = false) : lt a c = true := by
  cases h3 : lt a c with
  | true => rfl
  | false => rw [h.ntr a c b h3 h2] at h1; cases h1
theorem SWO.rtr (h : SWO lt) {a b c : α} (h1 : lt b a = false) (h2 : lt b c = true) : lt a c = true := by
  cases h3 : lt a c with
  | true => rfl
  | false => rw [h.ntr b a c h1 h3] at h2; cases h2
theorem SWO.tr (h : SWO lt) {a b c : α} (h1 : lt a b = true) (h2 : lt b c = true) : lt a c = true := h.ltr h1 (h.asy _ _ h2)

theorem Fs.refl (xs : List α) : Fs lt xs xs := ⟨rfl, fun _ => rfl⟩
theorem Fs.trans {a b c : List α} (h : Fs lt a b) (k : Fs lt b c) : Fs lt a c := ⟨k.1.trans h.1, fun x => (k.2 x).trans (h.2 x)⟩
theorem Fs.app {a b c d : List α} (h : Fs lt a b) (k : Fs lt c d) : Fs lt (a ++ c) (b ++ d) :=
  ⟨by rw [List.length_append, List.length_append, h.1, k.1], fun x => by rw [List.filter_append, List.filter_append, h.2, k.2]⟩
theorem Fs.mem {a b : List α} (hw : SWO lt) (h : Fs lt a b) (x : α) : x ∈ b ↔ x ∈ a := by
  have e : eqv lt x x = true := eqv_t lt |>.2 ⟨hw.irr x, hw.irr x⟩
  have := h.2 x
  have m1 : x ∈ b.filter (eqv lt x) ↔ x ∈ b := by rw [List.mem_filter]; simp [e]
  have m2 : x ∈ a.filter (eqv lt x) ↔ x ∈ a := by rw [List.mem_filter]; simp [e]
  rw [← m1, ← m2, this]

/-- What is behind, and strictly ahead in the order, may be put ahead. -/
theorem Fs.swap (hw : SWO lt) {A B : List α} (h : ∀ a ∈ A, ∀ b ∈ B, lt b a = true) : Fs lt (A ++ B) (B ++ A) := by
  refine ⟨by rw [List.length_append, List.length_append, Nat.add_comm], fun k => ?_⟩
  rw [List.filter_append, List.filter_append]
  by_cases hA : A.filter (eqv lt k) = []
  · rw [hA, List.append_nil, List.nil_append]
  · obtain ⟨a, ha⟩ := List.exists_mem_of_ne_nil _ hA
    rw [List.mem_filter] at ha
    have hB : B.filter (eqv lt k) = [] := by
      rw [List.filter_eq_nil_iff]
      intro b hb e
      have e1 := (eqv_t lt).1 e
      have e2 := (eqv_t lt).1 ha.2
      have := hw.ntr b k a e1.2 e2.1
      rw [h a ha.1 b hb] at this; cases this
    rw [hB, List.append_nil, List.nil_append]

theorem Sd.app {a b : List α} (ha : Sd lt a) (hb : Sd lt b) (h : ∀ x ∈ a, ∀ y ∈ b, lt y x = false) : Sd lt (a ++ b) := List.pairwise_append.2 ⟨ha, hb, h⟩
theorem Sd.left {a b : List α} (h : Sd lt (a ++ b)) : Sd lt a := (List.pairwise_append.1 h).1
theorem Sd.right {a b : List α} (h : Sd lt (a ++ b)) : Sd lt b := (List.pairwise_append.1 h).2.1
theorem Sd.cross {a b : List α} (h : Sd lt (a ++ b)) : ∀ x ∈ a, ∀ y ∈ b, lt y x = false := (List.pairwise_append.1 h).2.2
theorem Sd.nil : Sd lt ([] : List α) := List.Pairwise.nil
theorem Sd.one (x : α) : Sd lt [x] := List.pairwise_singleton _ _
theorem Sd.get {l : List α} (h : Sd lt l) {i j : Nat} (hij : i < j) (hj : j < l.length) : lt l[j] (l[i]'(by omega)) = false := List.pairwise_iff_getElem.1 h i j (by omega) hj hij

/-- One more, behind those that are not behind it, and ahead of those that are. -/
theorem ins_sd (hw : SWO lt) {S1 S2 : List α} {x : α} (hs : Sd lt (S1 ++ S2)) (h2 : ∀ s ∈ S2, lt x s = true) (h1 : ∀ s ∈ S1, lt x s = false) : Sd lt (S1 ++ x :: S2) := by
  refine Sd.app hs.left (List.pairwise_cons.2 ⟨fun s hsm => hw.asy _ _ (h2 s hsm), hs.right⟩) fun a ha y hy => ?_
  rcases List.mem_cons.1 hy with rfl | hy
  · exact h1 a ha
  · exact hs.cross a ha y hy
theorem ins_fs (hw : SWO lt) {S1 S2 : List α} {x : α} (h2 : ∀ s ∈ S2, lt x s = true) : Fs lt (S1 ++ S2 ++ [x]) (S1 ++ x :: S2) := by
  have h : Fs lt (S2 ++ [x]) ([x] ++ S2) := Fs.swap hw fun a ha b hb => by rw [List.mem_singleton] at hb; subst hb; exact h2 a ha
  have := (Fs.refl (lt := lt) S1).app h
  rw [List.append_assoc]; exact this
/-- In a list in order, what is not behind its last is behind none. -/
theorem sd_last (hw : SWO lt) {S : List α} {x y : α} (hs : Sd lt (S ++ [y])) (h : lt x y = false) : ∀ s ∈ S ++ [y], lt x s = false := by
  intro s hm
  rcases List.mem_append.1 hm with hm | hm
  · exact hw.ntr _ _ _ h (hs.cross s hm y (by simp))
  · rw [List.mem_singleton] at hm; subst hm; exact h

/-- The step of the merge: A1 A2 B1 B2, of which A2 and B1 change places. -/
theorem merge_fs (hw : SWO lt) {A1 A2 B1 B2 : List α} (h : ∀ a ∈ A2, ∀ b ∈ B1, lt b a = true) : Fs lt (A1 ++ A2 ++ (B1 ++ B2)) (A1 ++ B1 ++ (A2 ++ B2)) := by
  have h1 := (Fs.refl (lt := lt) A1).app ((Fs.swap hw h).app (Fs.refl (lt := lt) B2))
  have e1 : A1 ++ A2 ++ (B1 ++ B2) = A1 ++ ((A2 ++ B1) ++ B2) := by simp
  have e2 : A1 ++ B1 ++ (A2 ++ B2) = A1 ++ ((B1 ++ A2) ++ B2) := by simp
  rw [e1, e2]; exact h1
theorem merge_sd (hw : SWO lt) {A1 A2 B1 B2 C D : List α} (hC : Sd lt C) (hD : Sd lt D) (fC : Fs lt (A1 ++ B1) C) (fD : Fs lt (A2 ++ B2) D)
    (hA : ∀ x ∈ A1, ∀ y ∈ A2, lt y x = false) (hB : ∀ x ∈ B1, ∀ y ∈ B2, lt y x = false) (h21 : ∀ a ∈ A2, ∀ b ∈ B1, lt b a = true) (h12 : ∀ x ∈ A1, ∀ y ∈ B2, lt y x = false) : Sd lt (C ++ D) := by
  refine hC.app hD fun x hx y hy => ?_
  rw [fC.mem hw, List.mem_append] at hx
  rw [fD.mem hw, List.mem_append] at hy
  rcases hx with hx | hx <;> rcases hy with hy | hy
  · exact hA x hx y hy
  · exact h12 x hx y hy
  · exact hw.asy _ _ (h21 y hy x hx)
  · exact hB x hx y hy

/-- Blocks of a size, each in order. -/
def Blk (lt : α → α → Bool) (s : Nat) (l : List α) : Prop := ∀ i, Sd lt ((l.drop (i * s)).take s)

theorem swap_get {l : List α} {i j : Nat} (hi : i < l.length) (hj : j < l.length) (k : Nat) : ((l.set i l[j]).set j l[i])[k]? = if k = j then some l[i] else if k = i then some l[j] else l[k]? := by
  rw [List.getElem?_set]
  by_cases h : j = k
  · subst h; simp [hj]
  · have h' : ¬ k = j := fun e => h e.symm
    rw [if_neg h, if_neg h', List.getElem?_set]
    by_cases h2 : i = k
    · subst h2; simp [hi]
    · have h2' : ¬ k = i := fun e => h2 e.symm
      rw [if_neg h2, if_neg h2']

/-- Two neighbours change places. -/
theorem set_pair {X R : List α} {x y : α} : ((X ++ x :: y :: R).set X.length y).set (X.length + 1) x = X ++ y :: x :: R := by
  rw [List.set_append_right _ _ (Nat.le_refl _), Nat.sub_self, List.set_cons_zero, List.set_append_right _ _ (by omega)]
  have e : X.length + 1 - X.length = 1 := by omega
  rw [e]; rfl
theorem set_pair' {X R : List α} {x y : α} : ((X ++ x :: y :: R).set (X.length + 1) x).set X.length y = X ++ y :: x :: R := by
  rw [List.set_comm _ _ (by omega)]; exact set_pair
end
end Go.Srt
