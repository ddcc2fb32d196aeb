/- What SumOf does: it returns true; nothing that was there has turned. No condition but the table. -/
import Derived.Test.YtmoidifdbpjinaaDoorWalkAwake
namespace Go.Proofs.YtmoidifdbpjinaaDoor.WalkSum
open Go.RowKit Go.Proofs.YtmoidifdbpjinaaDoor.PSumOf Go.Proofs.YtmoidifdbpjinaaDoor.Crc Go.Proofs.YtmoidifdbpjinaaDoor.WalkSum Go.Proofs.YtmoidifdbpjinaaDoorW.PrintWords Go.Proofs.YtmoidifdbpjinaaDoorW.PrintLast Go.Proofs.YtmoidifdbpjinaaDoorW.PrintMore
set_option linter.unusedVariables false
set_option linter.unusedSimpArgs false

set_option maxHeartbeats 4000000 in
set_option maxRecDepth 100000 in
theorem sumOfLaw (A0 : Option Addr) (c0 : Nat) (l0 : List Int) (w : World) (hT : Tab w) (hr0 : Kd.C (Kd.int .u8) w A0 l0.length l0) (hc0 : l0.length ≤ c0) (hb0 : ∀ x ∈ l0, 0 ≤ x ∧ x < 256) :
    Calls Tryd.prog 3 #[.slice A0 l0.length c0] w fun e w' => e = .returned (.bool true) ∧ Below w.heap.size w w' := by
  have HT := Aside0.mk hT
  have HB := Aside0.mk (Below.refl w.heap.size w)
  clear hT
  have HR0 := Aside0.mk hr0
  have HB0 := Aside0.mk hb0
  clear hr0 hb0
  by_cases h : l0.length > 3000
  · have q : decide (3000 < (l0.length : Int)) = true := decide_eq_true (by omega)
    have q' : decide (3000 < l0.length) = true := decide_eq_true (by omega)
    clear h
    go_enter Tryd.func3, Tryd.ntmps3
    go_wp2_with fail
    refine (awake_calls _ (tab_below HT.out (by repeat (first | (with_reducible first | exact HB.out | apply below_alloc | apply pw_below_drewN | apply below_drew1) | exact HB.out)))).mono ?_
    rintro e w7 ⟨rfl, hb⟩
    have n0_ := Aside0.mk (below_step (by repeat (first | (with_reducible first | exact HB.out | apply below_alloc | apply pw_below_drewN | apply below_drew1) | exact HB.out)) hb)
    clear HB hb
    have HB := n0_
    clear n0_
    go_wp2
    go_ret
    exact ⟨by first | rfl | (simp; done), (by repeat (first | (with_reducible first | exact HB.out | apply below_alloc | apply pw_below_drewN | apply below_drew1) | exact HB.out))⟩
  · have q : decide (3000 < (l0.length : Int)) = false := decide_eq_false (by omega)
    have q' : decide (3000 < l0.length) = false := decide_eq_false (by omega)
    have hlen : l0.length ≤ 140737488351232 := by omega
    clear h
    go_enter Tryd.func3, Tryd.ntmps3
    go_wp2_with fail
    refine (of_calls A0 c0 l0 _ (tab_below HT.out (by repeat (first | (with_reducible first | exact HB.out | apply below_alloc | apply pw_below_drewN | apply below_drew1) | exact HB.out))) (Kd.C_below HR0.out (by repeat (first | (with_reducible first | exact HB.out | apply below_alloc | apply pw_below_drewN | apply below_drew1) | exact HB.out))) HB0.out).mono ?_
    rintro e w5 ⟨rfl, rfl⟩
    go_wp2_with fail
    refine (ref_calls A0 c0 l0 _ (Kd.C_below HR0.out (by repeat (first | (with_reducible first | exact HB.out | apply below_alloc | apply pw_below_drewN | apply below_drew1) | exact HB.out))) hc0 hlen HB0.out).mono ?_
    rintro e w6 ⟨rfl, hd⟩
    have n0_ := Aside0.mk (below_step (by repeat (first | (with_reducible first | exact HB.out | apply below_alloc | apply pw_below_drewN | apply below_drew1) | exact HB.out)) hd.below)
    clear HB hd
    have HB := n0_
    clear n0_
    go_wp2_with fail
    refine (awake_calls _ (tab_below HT.out (by repeat (first | (with_reducible first | exact HB.out | apply below_alloc | apply pw_below_drewN | apply below_drew1) | exact HB.out)))).mono ?_
    rintro e w7 ⟨rfl, hb⟩
    have n0_ := Aside0.mk (below_step (by repeat (first | (with_reducible first | exact HB.out | apply below_alloc | apply pw_below_drewN | apply below_drew1) | exact HB.out)) hb)
    clear HB hb
    have HB := n0_
    clear n0_
    go_wp2
    go_ret
    exact ⟨by first | rfl | (simp; done), (by repeat (first | (with_reducible first | exact HB.out | apply below_alloc | apply pw_below_drewN | apply below_drew1) | exact HB.out))⟩
end Go.Proofs.YtmoidifdbpjinaaDoor.WalkSum
