/- Row of the law coupletlaw17.WatchSafe: for every input it returns true, and each argument reads behind the call as before. No condition. -/
import Derived.Test.YtlbngnilfenaaaaRows
import Derived.Test.YtlbngnilfenaaaaPWatchSafex4
import Derived.Test.YtlbngnilfenaaaaPureWatchSafe
import Derived.Test.YtlbngnilfenaaaaOpen
import Derived.WalkKit
import Derived.ProofKit
import Derived.OpenShut
import Derived.ChangeOld
import Derived.Below
import Derived.SizedLaws
import Derived.Carry
namespace Go.Proofs.Ytlbngnilfenaaaa.watchSafe
open Go.ChangeShapes Go.WideShapes Go.ChangeAt Go.RowKit Go.Proofs.Ytlbngnilfenaaaa Go.Proofs.YtlbngnilfenaaaaW.PrintWords
set_option linter.unusedVariables false
theorem own : ownKnob Try.prog.godebug = none := by kernel_rfl
theorem laidOut : laidOutB Try.prog = true := by kernel_rfl
def good23 (x : PWatchSafe.S23) : Prop := (Lit.int .i64 x.f0).wf = true ∧ (Lit.int .i64 x.f1).wf = true ∧ (Lit.int .i64 x.f2).wf = true ∧ (Lit.int .i64 x.f3).wf = true
theorem opens23 : Open.Opens Try.prog 23 PWatchSafe.k23 (fun x => good23 x) :=
  Open.opens_iso (f := fun x : PWatchSafe.S23 => (x.f0, x.f1, x.f2, x.f3)) (fun p => ⟨p.1, p.2.1, p.2.2.1, p.2.2.2⟩) (fun _ => rfl) (Open.opens_struct Try.underlying23 (Open.fs_cons (m := 1) rfl (by kernel_rfl) (Open.opens_int Try.underlying3) (Open.fs_cons (m := 1) rfl (by kernel_rfl) (Open.opens_int Try.underlying3) (Open.fs_cons (m := 1) rfl (by kernel_rfl) (Open.opens_int Try.underlying3) (Open.fs_last rfl (by kernel_rfl) (Open.opens_int Try.underlying3))))))
def good29 (x : PWatchSafe.S29) : Prop := (Lit.int .i64 x.f0).wf = true ∧ (Lit.int .i64 x.f1).wf = true
theorem opens29 : Open.Opens Try.prog 29 PWatchSafe.k29 (fun x => good29 x) :=
  Open.opens_iso (f := fun x : PWatchSafe.S29 => (x.f0, x.f1)) (fun p => ⟨p.1, p.2⟩) (fun _ => rfl) (Open.opens_struct Try.underlying29 (Open.fs_cons (m := 1) rfl (by kernel_rfl) (Open.opens_int Try.underlying3) (Open.fs_last rfl (by kernel_rfl) (Open.opens_int Try.underlying3))))
set_option maxRecDepth 100000 in
theorem lifted (os : Os) (started : os.Started) (H : Type) (enc : TypeId × Value → H) :
    ReturnsInHanded {} Try.checked os 3 .any (Rows.watchSafeSpec.pre6 enc Try.prog Try.f3 Rows.watchSafeRow.domain false) (Rows.watchSafeSpec.post enc Try.prog Try.f3 false true false false) := by
  refine returnsInHanded_of_change_sized (C := Try.checked) own started (by kernel_rfl) Try.func3
    (ChangeSpec.witness6 (enc := enc) (C := Try.checked) false ⟨#[], #[.agg #[.int .i64 0, .int .i64 0, .int .i64 0, .int .i64 0], .slice none 0 0], []⟩ 8 (by kernel_rfl) (by kernel_rfl) (by kernel_rfl) (by kernel_rfl)) ?_
  intro W base args ds gs before hval0 hW hcnd hsz0 _
  have hval : ∀ (j : Nat) t v, Try.f3.params[j]? = some t → args[j]? = some v → Value.okWide Try.prog W .any base t v := hval0
  have hW' := hW
  obtain ⟨p, q, hA0, hV, rfl, hfz, hnd⟩ := hW
  have hA : DataW.TrodAll enc Try.prog W 0 (fun _ => true) true Try.f3.params.toList args.toList ds p := hA0
  rw [Try.params3] at hA hval
  obtain ⟨v0, vs0, d0, ds0, p0, q0, hargs, rfl, rfl, h0, r0⟩ := trodAll_cons hA
  obtain ⟨v1, vs1, d1, ds1, p1, q1, rfl, rfl, rfl, h1, r1⟩ := trodAll_cons r0
  obtain ⟨rfl, rfl, rfl⟩ := trodAll_nil r1
  obtain rfl : args = #[v0, v1] := by cases args; simp_all
  obtain ⟨rfl, rfl⟩ := trodVars_none hV
  have k0 := h0
  have lt0 : ∀ x ∈ p0, x.block < W.heap.size := by obtain ⟨m, hm⟩ := k0; exact DataW.trod_lt m _ _ _ hm
  obtain ⟨x0, cs0, rfl, K0, g0⟩ := Open.arg_agg opens23 Try.underlying23 (hval 0 23 v0 rfl rfl) h0
  have e0 := PWatchSafe.k23_open K0
  obtain rfl : cs0 = #[.int .i64 x0.f0, .int .i64 x0.f1, .int .i64 x0.f2, .int .i64 x0.f3] := by cases cs0; simpa using e0
  have k1 := h1
  have lt1 : ∀ x ∈ p1, x.block < W.heap.size := by obtain ⟨m, hm⟩ := k1; exact DataW.trod_lt m _ _ _ hm
  obtain ⟨A1, c1, l1, rfl, hc1, hC1, g1⟩ := Open.arg_slice (Open.opens_slice Try.underlying24 (by kernel_rfl) opens29) Try.underlying24 (hval 1 24 v1 rfl rfl) h1
  clear hA0 hval0 hsz0
  obtain ⟨k, h⟩ : ∃ k, PWatchSafe.coupletlaw17_WatchSafe.f k x0.f0 x0.f1 x0.f2 x0.f3 l1 = some true := Pure.WatchSafe x0 l1 g0 g1
  refine (PWatchSafe.coupletlaw17_WatchSafe.calls k x0.f0 x0.f1 x0.f2 x0.f3 A1 c1 l1 true W hC1 hc1 h).mono fun e W' ⟨he, bel⟩ => ?_
  subst he
  exact ⟨_, rfl, _, _, _, [], _, [], hW', trodAll_mk1 (shut_bool Try.underlying4 _), (trodAll_cons_mk (Below.trod laidOut (by kernel_rfl) (of_decide_eq_true (by kernel_rfl)) k0 bel lt0) (trodAll_cons_mk (Below.trod laidOut (by kernel_rfl) (of_decide_eq_true (by kernel_rfl)) k1 bel lt1) trodAll_mk0)), rfl, bel.frame _, fun h => by cases h⟩
theorem over : Rows.watchSafeRow.holds Try.pinned (OpenSpec.ofChange Rows.watchSafeSpec) :=
  OpenClaim.holds_of_wide 3 Try.f3 rfl rfl rfl rfl rfl rfl rfl ⟨rfl, rfl, rfl, rfl, rfl⟩ rfl rfl rfl rfl rfl (by kernel_rfl) Try.func3 (by kernel_rfl)
    (of_decide_eq_true (by kernel_rfl)) (by unfold Func.isWrapper; first | (rw [if_pos (by decide +kernel)]; kernel_rfl) | (rw [if_neg (by decide +kernel)]; exact ⟨rfl, rfl⟩))
    (fun os started H enc _ => lifted os started H enc)
theorem proved : Rows.WatchSafeSaid := over
#print axioms proved
end Go.Proofs.Ytlbngnilfenaaaa.watchSafe
namespace Go.Proofs.Ytlbngnilfenaaaa
/-- The row, under a short name, for the claim. -/
theorem watchSafe_holds : Rows.WatchSafeSaid := watchSafe.proved
end Go.Proofs.Ytlbngnilfenaaaa
