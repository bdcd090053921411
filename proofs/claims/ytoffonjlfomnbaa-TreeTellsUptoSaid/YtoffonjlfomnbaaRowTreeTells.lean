/- The row of TreeTells: the walk's contract, put into the row's own words. No condition. -/
import Derived.Test.YtoffonjlfomnbaaGwLaw6g
import Derived.Test.YtoffonjlfomnbaaGwIn
import Derived.Test.YtoffonjlfomnbaaRows
import Derived.Test.YtoffonjlfomnbaaAvUpto
namespace Go.Proofs.Ytoffonjlfomnbaa
open Go Go.Aw Go.ChangeShapes Go.WideShapes Go.ChangeAt Go.RowKit
set_option maxRecDepth 100000 in
theorem liftedTreeTells (os : Os) (started : os.Started) (H : Type) (enc : TypeId × Value → H) (F : Stop.Interp) :
    ReturnsInHanded {} Try.checked os 8 .any ((Rows.OpenSpec.upto Rows.treeTellsSpec).pre6 enc Try.prog Try.f8 Rows.treeTellsUptoRow.domain false) (((Rows.OpenSpec.upto Rows.treeTellsSpec).at F).post enc Try.prog Try.f8 false true false false) := by
  refine returnsInHanded_of_cond (C := Try.checked) (s := Rows.OpenSpec.upto Rows.treeTellsSpec) (k := Rows.uptoSmall) rfl own started (by kernel_rfl) Try.func8
    (OpenSpec.witness (enc := enc) (C := Try.checked) (s := Rows.OpenSpec.upto Rows.treeTellsSpec) (k := Rows.uptoSmall) rfl false ⟨#[], #[.slice none 0 0, .agg #[.int .i64 0, .int .i64 0, .int .i64 0, .int .i64 0, .int .i64 0, .string ⟨#[]⟩, .string ⟨#[]⟩], .agg #[.bool false, .bool false, .int .i64 0, .int .i64 0, .string ⟨#[]⟩, .int .i64 0, .int .i64 0, .string ⟨#[]⟩, .int .i64 0, .int .i64 0], .slice none 0 0, .int .i64 0], []⟩ 8 (by kernel_rfl) (by kernel_rfl) (by kernel_rfl)
      (x := ([.nil, .agg [.agg [.lit (.int .i64 0), .lit (.int .i64 0)], .lit (.int .i64 0), .lit (.int .i64 0), .lit (.int .i64 0), .lit (.string []), .lit (.string [])], .agg [.lit (.bool false), .lit (.bool false), .agg [.lit (.int .i64 0), .lit (.int .i64 0), .lit (.string []), .agg [.lit (.int .i64 0), .lit (.int .i64 0)], .lit (.string []), .agg [.lit (.int .i64 0), .lit (.int .i64 0)]]], .nil, .lit (.int .i64 0)], [], [])) (by kernel_rfl) rfl (by kernel_rfl)) ?_
  intro W base args ds gs before hval0 hW hcnd hk _
  have hval : ∀ (j : Nat) t v, Try.f8.params[j]? = some t → args[j]? = some v → Value.okWide Try.prog W .any base t v := hval0
  have hW' := hW
  obtain ⟨p, q, hA0, hV, rfl, hfz, hnd⟩ := hW
  have hA : DataW.TrodAll enc Try.prog W 0 (fun _ => true) true Try.f8.params.toList args.toList ds p := hA0
  rw [Try.params8] at hA hval
  obtain ⟨v0, vs0, d0, ds0, p0, q0, hargs, rfl, rfl, h0, r0⟩ := trodAll_cons hA
  obtain ⟨v1, vs1, d1, ds1, p1, q1, rfl, rfl, rfl, h1, r1⟩ := trodAll_cons r0
  obtain ⟨v2, vs2, d2, ds2, p2, q2, rfl, rfl, rfl, h2, r2⟩ := trodAll_cons r1
  obtain ⟨v3, vs3, d3, ds3, p3, q3, rfl, rfl, rfl, h3, r3⟩ := trodAll_cons r2
  obtain ⟨v4, vs4, d4, ds4, p4, q4, rfl, rfl, rfl, h4, r4⟩ := trodAll_cons r3
  obtain ⟨rfl, rfl, rfl⟩ := trodAll_nil r4
  obtain rfl : args = #[v0, v1, v2, v3, v4] := by cases args; simp_all
  obtain ⟨rfl, rfl⟩ := trodVars_none hV
  have lt0 : ∀ x ∈ p0, x.block < W.heap.size := by obtain ⟨m, hm⟩ := h0; exact DataW.trod_lt m _ _ _ hm
  obtain ⟨x0, s0, w0⟩ := open_av (by kernel_rfl) (hval 0 31 v0 rfl rfl) h0
  obtain ⟨l0, rfl, ll0⟩ := in_nds s0
  have lt1 : ∀ x ∈ p1, x.block < W.heap.size := by obtain ⟨m, hm⟩ := h1; exact DataW.trod_lt m _ _ _ hm
  obtain ⟨x1, s1, w1⟩ := open_av (by kernel_rfl) (hval 1 28 v1 rfl rfl) h1
  obtain ⟨a1, rfl⟩ := in_op s1
  have lt2 : ∀ x ∈ p2, x.block < W.heap.size := by obtain ⟨m, hm⟩ := h2; exact DataW.trod_lt m _ _ _ hm
  obtain ⟨x2, s2, w2⟩ := open_av (by kernel_rfl) (hval 2 54 v2 rfl rfl) h2
  obtain ⟨a2, rfl⟩ := in_un s2
  have lt3 : ∀ x ∈ p3, x.block < W.heap.size := by obtain ⟨m, hm⟩ := h3; exact DataW.trod_lt m _ _ _ hm
  obtain ⟨x3, s3, w3⟩ := open_av (by kernel_rfl) (hval 3 24 v3 rfl rfl) h3
  obtain ⟨l3, rfl, ll3⟩ := in_ops s3
  have lt4 : ∀ x ∈ p4, x.block < W.heap.size := by obtain ⟨m, hm⟩ := h4; exact DataW.trod_lt m _ _ _ hm
  obtain ⟨x4, s4, w4⟩ := open_av (by kernel_rfl) (hval 4 3 v4 rfl rfl) h4
  obtain ⟨n4, rfl⟩ := in_int s4
  have hb0 : l0.length ≤ 1048576 := by have := slice_bulk (P := Try.prog) Try.underlying31 h0 w0; rw [List.length_map] at this; exact Nat.le_trans this (bulk_le hk (by simp))
  have hb3 : l3.length ≤ 1048576 := by have := slice_bulk (P := Try.prog) Try.underlying24 h3 w3; rw [List.length_map] at this; exact Nat.le_trans this (bulk_le hk (by simp))
  refine (step_of_fn (ttells_c false false l0 a1 a2 l3 n4 hb0 hb3 []) (repAll_of (repC_cons w0 (repC_cons w1 (repC_cons w2 (repC_cons w3 (repC_cons w4 repC_nil))))))).mono fun e W' ⟨he, bel⟩ => ?_
  subst he
  exact ⟨_, rfl, _, _, _, [], _, [], hW', trodAll_mk1 (shut_bool Try.underlying4 _), (trodAll_cons_mk (Below.trod laidOut (by kernel_rfl) (of_decide_eq_true (by kernel_rfl)) h0 bel lt0) (trodAll_cons_mk (Below.trod laidOut (by kernel_rfl) (of_decide_eq_true (by kernel_rfl)) h1 bel lt1) (trodAll_cons_mk (Below.trod laidOut (by kernel_rfl) (of_decide_eq_true (by kernel_rfl)) h2 bel lt2) (trodAll_cons_mk (Below.trod laidOut (by kernel_rfl) (of_decide_eq_true (by kernel_rfl)) h3 bel lt3) (trodAll_cons_mk (Below.trod laidOut (by kernel_rfl) (of_decide_eq_true (by kernel_rfl)) h4 bel lt4) trodAll_mk0))))), rfl, bel.frame _, fun h => by cases h⟩

theorem overTreeTells : Rows.treeTellsUptoRow.holds Try.pinned (Rows.OpenSpec.upto Rows.treeTellsSpec) :=
  OpenClaim.holds_of_cond 8 Try.f8 rfl rfl rfl rfl rfl rfl rfl ⟨rfl, rfl, rfl, rfl, rfl⟩ rfl rfl rfl rfl rfl (by kernel_rfl) Try.func8 (by kernel_rfl)
    (of_decide_eq_true (by kernel_rfl)) (by unfold Func.isWrapper; first | (rw [if_pos (by decide +kernel)]; kernel_rfl) | (rw [if_neg (by decide +kernel)]; exact ⟨rfl, rfl⟩))
    (fun os started H enc _ F => liftedTreeTells os started H enc F)

theorem provedTreeTells : Rows.TreeTellsUptoSaid :=
  overTreeTells
end Go.Proofs.Ytoffonjlfomnbaa
