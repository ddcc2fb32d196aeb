/- Row of the law coupletlaw04.FracSums: for every input it returns true, and each argument reads behind the call as before. No condition. -/
import Derived.Test.YtbpbeighpaaeaaaRows
import Derived.Test.YtbpbeighpaaeaaaFz
import Derived.Test.YtbpbeighpaaeaaaOpen
import Derived.WalkKit
import Derived.ProofKit
import Derived.OpenShut
import Derived.ChangeOld
import Derived.Below
import Derived.SizedLaws
import Derived.Carry
namespace Go.Proofs.Ytbpbeighpaaeaaa.fracSums
open Go.ChangeShapes Go.WideShapes Go.ChangeAt Go.RowKit Go.Proofs.Ytbpbeighpaaeaaa Go.Proofs.YtbpbeighpaaeaaaW.PrintWords
set_option linter.unusedVariables false
theorem own : ownKnob Try.prog.godebug = none := by kernel_rfl
theorem laidOut : laidOutB Try.prog = true := by kernel_rfl
def good23 (x : G.S23) : Prop := (Lit.int .i64 x.f0).wf = true ∧ (Lit.int .i64 x.f1).wf = true ∧ True
theorem opens23 : Open.Opens Try.prog 23 G.k23 (fun x => good23 x) :=
  Open.opens_iso (f := fun x : G.S23 => (x.f0, x.f1, x.f2)) (fun p => ⟨p.1, p.2.1, p.2.2⟩) (fun _ => rfl) (Open.opens_struct Try.underlying23 (Open.fs_cons (m := 1) rfl (by kernel_rfl) (Open.opens_int Try.underlying3) (Open.fs_cons (m := 1) rfl (by kernel_rfl) (Open.opens_int Try.underlying3) (Open.fs_last rfl (by kernel_rfl) (Open.opens_bool Try.underlying4)))))
set_option maxRecDepth 100000 in
theorem lifted (os : Os) (started : os.Started) (H : Type) (enc : TypeId × Value → H) :
    ReturnsInHanded {} Try.checked os 7 .any (Rows.fracSumsSpec.pre6 enc Try.prog Try.f7 Rows.fracSumsRow.domain false) (Rows.fracSumsSpec.post enc Try.prog Try.f7 false true false false) := by
  refine returnsInHanded_of_change_sized (C := Try.checked) own started (by kernel_rfl) Try.func7
    (ChangeSpec.witness6 (enc := enc) (C := Try.checked) false ⟨#[], #[.agg #[.int .i64 0, .int .i64 0, .bool false], .agg #[.int .i64 0, .int .i64 0, .bool false]], []⟩ 8 (by kernel_rfl) (by kernel_rfl) (by kernel_rfl) (by kernel_rfl)) ?_
  intro W base args ds gs before hval0 hW hcnd hsz0 _
  have hval : ∀ (j : Nat) t v, Try.f7.params[j]? = some t → args[j]? = some v → Value.okWide Try.prog W .any base t v := hval0
  have hW' := hW
  obtain ⟨p, q, hA0, hV, rfl, hfz, hnd⟩ := hW
  have hA : DataW.TrodAll enc Try.prog W 0 (fun _ => true) true Try.f7.params.toList args.toList ds p := hA0
  rw [Try.params7] at hA hval
  obtain ⟨v0, vs0, d0, ds0, p0, q0, hargs, rfl, rfl, h0, r0⟩ := trodAll_cons hA
  obtain ⟨v1, vs1, d1, ds1, p1, q1, rfl, rfl, rfl, h1, r1⟩ := trodAll_cons r0
  obtain ⟨rfl, rfl, rfl⟩ := trodAll_nil r1
  obtain rfl : args = #[v0, v1] := by cases args; simp_all
  obtain ⟨rfl, rfl⟩ := trodVars_none hV
  have k0 := h0
  have lt0 : ∀ x ∈ p0, x.block < W.heap.size := by obtain ⟨m, hm⟩ := k0; exact DataW.trod_lt m _ _ _ hm
  obtain ⟨x0, cs0, rfl, K0, g0⟩ := Open.arg_agg opens23 Try.underlying23 (hval 0 23 v0 rfl rfl) h0
  have e0 := G.k23_open K0
  obtain rfl : cs0 = #[.int .i64 x0.f0, .int .i64 x0.f1, .bool x0.f2] := by cases cs0; simpa using e0
  have k1 := h1
  have lt1 : ∀ x ∈ p1, x.block < W.heap.size := by obtain ⟨m, hm⟩ := k1; exact DataW.trod_lt m _ _ _ hm
  obtain ⟨x1, cs1, rfl, K1, g1⟩ := Open.arg_agg opens23 Try.underlying23 (hval 1 23 v1 rfl rfl) h1
  have e1 := G.k23_open K1
  obtain rfl : cs1 = #[.int .i64 x1.f0, .int .i64 x1.f1, .bool x1.f2] := by cases cs1; simpa using e1
  clear hA0 hval0 hsz0
  refine (G.coupletlaw04_FracSums.calls 4611686018427387930 x0.f0 x0.f1 x0.f2 x1.f0 x1.f1 x1.f2 true W rfl (Fr.sums_hx _ _ _ _ _ _) (Fr.sums_hy _ _ _ _ _ _) (Fr.fracSums (Nat.le_refl _) _ _ _ _ _ _)).mono fun e W' ⟨he, bel⟩ => ?_
  subst he
  exact ⟨_, rfl, _, _, _, [], _, [], hW', trodAll_mk1 (shut_bool Try.underlying4 _), (trodAll_cons_mk (Below.trod laidOut (by kernel_rfl) (of_decide_eq_true (by kernel_rfl)) k0 bel lt0) (trodAll_cons_mk (Below.trod laidOut (by kernel_rfl) (of_decide_eq_true (by kernel_rfl)) k1 bel lt1) trodAll_mk0)), rfl, bel.frame _, fun h => by cases h⟩
theorem over : Rows.fracSumsRow.holds Try.pinned (OpenSpec.ofChange Rows.fracSumsSpec) :=
  OpenClaim.holds_of_wide 7 Try.f7 rfl rfl rfl rfl rfl rfl rfl ⟨rfl, rfl, rfl, rfl, rfl⟩ rfl rfl rfl rfl rfl (by kernel_rfl) Try.func7 (by kernel_rfl)
    (of_decide_eq_true (by kernel_rfl)) (by unfold Func.isWrapper; first | (rw [if_pos (by decide +kernel)]; kernel_rfl) | (rw [if_neg (by decide +kernel)]; exact ⟨rfl, rfl⟩))
    (fun os started H enc _ => lifted os started H enc)
theorem proved : Rows.FracSumsSaid := over
#print axioms proved
end Go.Proofs.Ytbpbeighpaaeaaa.fracSums
namespace Go.Proofs.Ytbpbeighpaaeaaa
/-- The row, under a short name, for the claim. -/
theorem fracSums_holds : Rows.FracSumsSaid := fracSums.proved
end Go.Proofs.Ytbpbeighpaaeaaa
