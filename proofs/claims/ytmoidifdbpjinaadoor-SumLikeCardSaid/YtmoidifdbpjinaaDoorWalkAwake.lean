/- What awake does: it returns true; nothing that was there has turned. -/
import Derived.Lib.SlBytesConst
import Derived.Lib.SmallJoins
import Derived.Lib.LaidTab
import Derived.OpenShut
import Derived.Test.YtmoidifdbpjinaaDoorWalkSum
namespace Go.Proofs.YtmoidifdbpjinaaDoor.WalkSum
open Go.RowKit Go.Proofs.YtmoidifdbpjinaaDoor.PSumOf Go.Proofs.YtmoidifdbpjinaaDoor.Crc Go.Proofs.YtmoidifdbpjinaaDoor.WalkSum Go.Proofs.YtmoidifdbpjinaaDoorW.PrintWords Go.Proofs.YtmoidifdbpjinaaDoorW.PrintLast Go.Proofs.YtmoidifdbpjinaaDoorW.PrintMore
set_option linter.unusedVariables false
set_option linter.unusedSimpArgs false

theorem upd0_calls (A : Option Addr) (c : Nat) (l : List Int) (w : World) (hT : Tab w) (hr : Kd.C (Kd.int .u8) w A l.length l) (hb : ∀ x ∈ l, 0 ≤ x ∧ x < 256) : Calls Tryd.prog 11 #[.int .u32 0, .slice A l.length c] w fun e w' => e = .returned (.int .u32 (num (sumOf l))) ∧ w = w' := upd_calls 0#32 A c l w hT hr hb
theorem tab_below {w W : World} (hT : Tab w) (hb : Below w.heap.size w W) : Tab W := fun i hi => (hb.cell (World.block_lt_of_cell? w _ (hT i hi))).trans (hT i hi)
theorem C_const (w : World) (xs : List Int) (hl : xs.length ≤ 100) (fr : Nat × Nat) : Kd.C (Kd.int .u8) (w.alloc (.cells (xs.map (Value.int .u8)).toArray 5 fr)) (some ⟨w.heap.size, 0, none⟩) xs.length xs := by
  refine ⟨rfl, by omega, fun _ => ⟨⟨w.heap.size, 0, none⟩, rfl, fun j p hj => ⟨[.int .u8 p], rfl, rfl, fun i u hi => ?_⟩⟩⟩
  cases i with
  | succ i => simp at hi
  | zero =>
    simp at hi
    subst hi
    rw [show (⟨w.heap.size, 0, none⟩ : Addr).add (j * (Kd.int .u8).sz + 0) = ⟨w.heap.size, j, none⟩ by simp [Addr.add, Kd.int, Kd.scalar]; omega, Go.Joins.cell_alloc_mark_at w _ 5 fr _ _ rfl]
    simp [hj]
theorem tab_of {w : World} {nm : String} (h : Lib.TabIs Tryd.prog w nm .u32 [0, 498536548, 997073096, 651767980, 1994146192, 1802195444, 1303535960, 1342533948, 3988292384, 4027552580, 3604390888, 3412177804, 2607071920, 2262029012, 2685067896, 3183342108]) (hg : Tryd.prog.globalNamed nm = some 0) : Tab w := by
  intro i hi
  rw [h.cell hg i (by simpa using hi)]
  have key : ∀ j : Fin 16, ([0, 498536548, 997073096, 651767980, 1994146192, 1802195444, 1303535960, 1342533948, 3988292384, 4027552580, 3604390888, 3412177804, 2607071920, 2262029012, 2685067896, 3183342108] : List Int).getD j.val 0 = num (TB.getD j.val 0) := by decide +kernel
  rw [key ⟨i, hi⟩]
theorem bytes_of {l : List Int} (h : ∀ y ∈ l, (Lit.int .u8 y).wf = true) : ∀ x ∈ l, 0 ≤ x ∧ x < 256 := by
  intro x hx
  have := bounds_u8 (h x hx)
  omega
theorem nine : num (sumOf [49, 50, 51, 52, 53, 54, 55, 56, 57]) = 3421780262 := by decide +kernel
theorem none_ : num (sumOf []) = 0 := by decide +kernel
set_option maxHeartbeats 4000000 in
set_option maxRecDepth 100000 in
theorem awake_calls (w : World) (hT : Tab w) : Calls Tryd.prog 8 #[] w fun e w' => e = .returned (.bool true) ∧ Below w.heap.size w w' := by
  have HT := Aside0.mk hT
  have HB := Aside0.mk (Below.refl w.heap.size w)
  clear hT
  have E9 := nine
  have E0 := none_
  have kc := fun (w : World) (C : Array Value) (n c : Nat) => Lib.run_convert_bytes_const (P := Tryd.prog) w 22 5 C n c Tryd.underlying22 Tryd.underlying5
  go_enter Tryd.func8, Tryd.ntmps8
  go_wp2_with fail
  refine (show Calls Tryd.prog 9 #[.slice (some ⟨w.heap.size, 0, none⟩) 9 9] _ _ from (of_calls (some ⟨w.heap.size, 0, none⟩) 9 [49, 50, 51, 52, 53, 54, 55, 56, 57] _ (tab_below HT.out (by repeat (first | (with_reducible first | exact HB.out | apply below_alloc | apply pw_below_drewN | apply below_drew1) | exact HB.out))) (C_const w [49, 50, 51, 52, 53, 54, 55, 56, 57] (by decide) _) (by decide)).mono ?_)
  rintro e w5 ⟨rfl, rfl⟩
  go_wp2_with fail
  refine (of_calls none 0 [] _ (tab_below HT.out (by repeat (first | (with_reducible first | exact HB.out | apply below_alloc | apply pw_below_drewN | apply below_drew1) | exact HB.out))) ⟨rfl, by simp, fun h => by simp at h⟩ (by simp)).mono ?_
  rintro e w5 ⟨rfl, rfl⟩
  go_wp2
  go_ret
  exact ⟨by first | rfl | (simp; done), (by repeat (first | (with_reducible first | exact HB.out | apply below_alloc | apply pw_below_drewN | apply below_drew1) | exact HB.out))⟩
end Go.Proofs.YtmoidifdbpjinaaDoor.WalkSum
