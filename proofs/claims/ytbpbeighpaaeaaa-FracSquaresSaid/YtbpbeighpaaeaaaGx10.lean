-- Written by the kit's print.py for this seat over wip/F/doctor.py, then turned by wip/F/fix.py.
import Derived.Test.YtbpbeighpaaeaaaGx0
import Derived.Test.YtbpbeighpaaeaaaFld
import Derived.Test.YtbpbeighpaaeaaaGx1
import Derived.Test.YtbpbeighpaaeaaaGx2
import Derived.Test.YtbpbeighpaaeaaaGx3
import Derived.Test.YtbpbeighpaaeaaaGx4
import Derived.Test.YtbpbeighpaaeaaaGx5
import Derived.Test.YtbpbeighpaaeaaaGx6
import Derived.Test.YtbpbeighpaaeaaaGx9
namespace Go.Proofs.Ytbpbeighpaaeaaa.G
open Go.RowKit Go.Proofs.YtbpbeighpaaeaaaW.PrintWords Go.Proofs.YtbpbeighpaaeaaaW.PrintLast Go.Proofs.YtbpbeighpaaeaaaW.PrintMore
attribute [local go_sem] max2_int min2_int max_two min_two max_three min_three max_four min_four   -- for this text's walks alone
attribute [local go_sem high] field23_0 field23_1 field23_2
set_option linter.unusedVariables false
set_option linter.unusedSimpArgs false

attribute [local go_sem high] eqA23
/-! ### coupletlaw04_FracBad: function 9 -/
def coupletlaw04_FracBad.f (k : Nat) (a0_0 : Int) (a0_1 : Int) (a0_2 : Bool) (a1_0 : Int) (a1_1 : Int) (a1_2 : Bool) : Option (Bool) := (frac_Frac_Fine.f k a0_0 a0_1 a0_2).bind fun t294 => (if t294 = true then ((coupletlaw04_awake.f k).bind fun t295 => (some t295)) else ((frac_Frac_Add.f k a0_0 a0_1 a0_2 a1_0 a1_1 a1_2).bind fun bt296 => ((frac_Wrong.f).bind fun bt299 => (if (bt296.1 == bt299.1 && (bt296.2.1 == bt299.2.1 && (bt296.2.2 == bt299.2.2))) = true then ((frac_Frac_Add.f k a1_0 a1_1 a1_2 a0_0 a0_1 a0_2).bind fun bt302 => ((frac_Wrong.f).bind fun bt305 => (if (bt302.1 == bt305.1 && (bt302.2.1 == bt305.2.1 && (bt302.2.2 == bt305.2.2))) = true then ((frac_Frac_Sub.f k a0_0 a0_1 a0_2 a1_0 a1_1 a1_2).bind fun bt308 => (if bt308.2.2 = true then ((frac_Frac_Sub.f k a1_0 a1_1 a1_2 a0_0 a0_1 a0_2).bind fun bt311 => (if bt311.2.2 = true then ((frac_Frac_Mul.f k a0_0 a0_1 a0_2 a1_0 a1_1 a1_2).bind fun bt314 => (if bt314.2.2 = true then ((frac_Frac_Div.f k a1_0 a1_1 a1_2 a0_0 a0_1 a0_2).bind fun bt317 => (if bt317.2.2 = true then ((frac_Frac_Root.f k a0_0 a0_1 a0_2).bind fun bt320 => (if bt320.2.2 = true then ((frac_Frac_Neg.f k a0_0 a0_1 a0_2).bind fun bt323 => (if bt323.2.2 = true then ((frac_Frac_Sign.f k a0_0 a0_1 a0_2).bind fun t326 => (if t326 = 0 then ((coupletlaw04_awake.f k).bind fun t327 => (some t327)) else (some false))) else (some false))) else (some false))) else (some false))) else (some false))) else (some false))) else (some false))) else (some false)))) else (some false)))))
theorem coupletlaw04_FracBad.mono : ∀ a0 a1 a2 a3 a4 a5 k, LeO (coupletlaw04_FracBad.f k a0 a1 a2 a3 a4 a5) (coupletlaw04_FracBad.f (k + 1) a0 a1 a2 a3 a4 a5) := by
  intro a0 a1 a2 a3 a4 a5 k
  unfold coupletlaw04_FracBad.f
  repeat' first
      | (with_reducible exact coupletlaw04_awake.mono _)
      | (with_reducible exact frac_Frac_Add.mono _ _ _ _ _ _ _)
      | (with_reducible exact frac_Frac_Div.mono _ _ _ _ _ _ _)
      | (with_reducible exact frac_Frac_Fine.mono _ _ _ _)
      | (with_reducible exact frac_Frac_Mul.mono _ _ _ _ _ _ _)
      | (with_reducible exact frac_Frac_Neg.mono _ _ _ _)
      | (with_reducible exact frac_Frac_Root.mono _ _ _ _)
      | (with_reducible exact frac_Frac_Sign.mono _ _ _ _)
      | (with_reducible exact frac_Frac_Sub.mono _ _ _ _ _ _ _)
      | (with_reducible exact LeO.refl _)
      | (with_reducible exact LeO.none _)
      | (with_reducible refine LeO.ite ?_ ?_)
      | (with_reducible refine LeO.bind ?_ (fun _ => ?_))
      | exact coupletlaw04_awake.mono _
      | exact frac_Frac_Add.mono _ _ _ _ _ _ _
      | exact frac_Frac_Div.mono _ _ _ _ _ _ _
      | exact frac_Frac_Fine.mono _ _ _ _
      | exact frac_Frac_Mul.mono _ _ _ _ _ _ _
      | exact frac_Frac_Neg.mono _ _ _ _
      | exact frac_Frac_Root.mono _ _ _ _
      | exact frac_Frac_Sign.mono _ _ _ _
      | exact frac_Frac_Sub.mono _ _ _ _ _ _ _
      | exact LeO.none _
      | refine LeO.ite ?_ ?_
      | refine LeO.bind ?_ (fun _ => ?_)
set_option maxHeartbeats 8000000 in
set_option maxRecDepth 100000 in
theorem coupletlaw04_FracBad.calls (k : Nat) (a0_0 : Int) (a0_1 : Int) (a0_2 : Bool) (a1_0 : Int) (a1_1 : Int) (a1_2 : Bool) (r : Bool) (w : World) (hr : r = true) (h : coupletlaw04_FracBad.f k a0_0 a0_1 a0_2 a1_0 a1_1 a1_2 = some r) :
    Calls Try.prog 9 #[.agg #[.int .i64 a0_0, .int .i64 a0_1, .bool a0_2], .agg #[.int .i64 a1_0, .int .i64 a1_1, .bool a1_2]] w fun e w' => e = .returned (.bool r) ∧ Below w.heap.size w w' := by
  have hu23 := Try.underlying23
  have HB := Aside0.mk (Below.refl w.heap.size w)
  have H : ((frac_Frac_Fine.f k a0_0 a0_1 a0_2).bind fun t294 => (if t294 = true then ((coupletlaw04_awake.f k).bind fun t295 => (some t295)) else ((frac_Frac_Add.f k a0_0 a0_1 a0_2 a1_0 a1_1 a1_2).bind fun bt296 => ((frac_Wrong.f).bind fun bt299 => (if (bt296.1 == bt299.1 && (bt296.2.1 == bt299.2.1 && (bt296.2.2 == bt299.2.2))) = true then ((frac_Frac_Add.f k a1_0 a1_1 a1_2 a0_0 a0_1 a0_2).bind fun bt302 => ((frac_Wrong.f).bind fun bt305 => (if (bt302.1 == bt305.1 && (bt302.2.1 == bt305.2.1 && (bt302.2.2 == bt305.2.2))) = true then ((frac_Frac_Sub.f k a0_0 a0_1 a0_2 a1_0 a1_1 a1_2).bind fun bt308 => (if bt308.2.2 = true then ((frac_Frac_Sub.f k a1_0 a1_1 a1_2 a0_0 a0_1 a0_2).bind fun bt311 => (if bt311.2.2 = true then ((frac_Frac_Mul.f k a0_0 a0_1 a0_2 a1_0 a1_1 a1_2).bind fun bt314 => (if bt314.2.2 = true then ((frac_Frac_Div.f k a1_0 a1_1 a1_2 a0_0 a0_1 a0_2).bind fun bt317 => (if bt317.2.2 = true then ((frac_Frac_Root.f k a0_0 a0_1 a0_2).bind fun bt320 => (if bt320.2.2 = true then ((frac_Frac_Neg.f k a0_0 a0_1 a0_2).bind fun bt323 => (if bt323.2.2 = true then ((frac_Frac_Sign.f k a0_0 a0_1 a0_2).bind fun t326 => (if t326 = 0 then ((coupletlaw04_awake.f k).bind fun t327 => (some t327)) else (some false))) else (some false))) else (some false))) else (some false))) else (some false))) else (some false))) else (some false))) else (some false)))) else (some false)))))) = some r := h
  clear h
  replace H := Option.bind_eq_some_iff.mp H
  obtain ⟨t294, A30, H⟩ := H
  replace H : (if t294 = true then ((coupletlaw04_awake.f k).bind fun t295 => (some t295)) else ((frac_Frac_Add.f k a0_0 a0_1 a0_2 a1_0 a1_1 a1_2).bind fun bt296 => ((frac_Wrong.f).bind fun bt299 => (if (bt296.1 == bt299.1 && (bt296.2.1 == bt299.2.1 && (bt296.2.2 == bt299.2.2))) = true then ((frac_Frac_Add.f k a1_0 a1_1 a1_2 a0_0 a0_1 a0_2).bind fun bt302 => ((frac_Wrong.f).bind fun bt305 => (if (bt302.1 == bt305.1 && (bt302.2.1 == bt305.2.1 && (bt302.2.2 == bt305.2.2))) = true then ((frac_Frac_Sub.f k a0_0 a0_1 a0_2 a1_0 a1_1 a1_2).bind fun bt308 => (if bt308.2.2 = true then ((frac_Frac_Sub.f k a1_0 a1_1 a1_2 a0_0 a0_1 a0_2).bind fun bt311 => (if bt311.2.2 = true then ((frac_Frac_Mul.f k a0_0 a0_1 a0_2 a1_0 a1_1 a1_2).bind fun bt314 => (if bt314.2.2 = true then ((frac_Frac_Div.f k a1_0 a1_1 a1_2 a0_0 a0_1 a0_2).bind fun bt317 => (if bt317.2.2 = true then ((frac_Frac_Root.f k a0_0 a0_1 a0_2).bind fun bt320 => (if bt320.2.2 = true then ((frac_Frac_Neg.f k a0_0 a0_1 a0_2).bind fun bt323 => (if bt323.2.2 = true then ((frac_Frac_Sign.f k a0_0 a0_1 a0_2).bind fun t326 => (if t326 = 0 then ((coupletlaw04_awake.f k).bind fun t327 => (some t327)) else (some false))) else (some false))) else (some false))) else (some false))) else (some false))) else (some false))) else (some false))) else (some false)))) else (some false))))) = some r := H
  have A3 := Aside0.mk A30
  clear A30
  by_cases c4 : t294 = true
  · subst c4
    have H1 : ((coupletlaw04_awake.f k).bind fun t295 => (some t295)) = some r := by rw [if_pos rfl] at H; exact H
    clear H
    have H := H1
    clear H1
    replace H := Option.bind_eq_some_iff.mp H
    obtain ⟨t295, A50, H⟩ := H
    replace H : (some t295) = some r := H
    have A5 := Aside0.mk A50
    clear A50
    obtain rfl := Option.some.inj H
    go_enter Try.func9, Try.ntmps9
    go_wp2_with (first | ((with_reducible refine gate_dst (N := 2) rfl ?_); refine box_event ?hg (N := 2) ?hd (cs := #[.int .i64 a0_0, .int .i64 a0_1, .bool a0_2]) (t := 23) ?hr ?_; (case hd => rfl); (case hg => rfl); (case hr => first | (go_simp; done) | (go_simp; rfl)); intro gb292 hg w6 hbox hb; have n0_ := Aside0.mk (below_step (by repeat (first | (with_reducible first | exact HB.out | apply below_alloc | apply pw_below_drewN | apply below_drew1) | exact HB.out)) hb); have n1_ := Aside0.mk (hbox); have n2_ := Aside0.mk ((by rw [hg]; exact (below_size (by repeat (first | (with_reducible first | exact HB.out | apply below_alloc | apply pw_below_drewN | apply below_drew1) | exact HB.out))) : w.heap.size ≤ gb292)); have n3_ := Aside0.mk ((by rw [hg]; exact (below_size (by repeat (first | (with_reducible first | exact HB.out | apply below_alloc | apply pw_below_drewN | apply below_drew1) | exact HB.out))) : w.heap.size ≤ gb292)); clear HB; have HB := n0_; have BK292 := n1_; have GW292 := n2_; have GE292 := n3_; clear n0_ n1_ n2_ n3_; clear hb hbox hg) | ((with_reducible refine gate_dst (N := 3) rfl ?_); refine box_event ?hg (N := 3) ?hd (cs := #[.int .i64 a1_0, .int .i64 a1_1, .bool a1_2]) (t := 23) ?hr ?_; (case hd => rfl); (case hg => rfl); (case hr => first | (go_simp; done) | (go_simp; rfl)); intro gb293 hg w7 hbox hb; have n0_ := Aside0.mk (blk_below (g := gb292) (o := .cells #[.int .i64 a0_0, .int .i64 a0_1, .bool a0_2] 23 (0, 0)) (by (with_reducible repeat (first | refine blk_drewN ?_ _ | refine blk_drew ?_ | refine blk_alloc ?_ _)); exact BK292.out) hb); have n1_ := Aside0.mk (below_step (by repeat (first | (with_reducible first | exact HB.out | apply below_alloc | apply pw_below_drewN | apply below_drew1 | refine below_set ?_ GE292.out) | exact HB.out)) hb); have n2_ := Aside0.mk (hbox); have n3_ := Aside0.mk ((by rw [hg]; exact (below_size (by repeat (first | (with_reducible first | exact HB.out | apply below_alloc | apply pw_below_drewN | apply below_drew1 | refine below_set ?_ GE292.out) | exact HB.out))) : w.heap.size ≤ gb293)); have n4_ := Aside0.mk ((by rw [hg]; exact (below_size (by repeat (first | (with_reducible first | exact HB.out | apply below_alloc | apply pw_below_drewN | apply below_drew1 | refine below_set ?_ GE292.out) | exact HB.out))) : w.heap.size ≤ gb293)); have n5_ := Aside0.mk ((by rw [hg]; exact Nat.ne_of_lt (blk_lt (g := gb292) (o := .cells #[.int .i64 a0_0, .int .i64 a0_1, .bool a0_2] 23 (0, 0)) (by (with_reducible repeat (first | refine blk_drewN ?_ _ | refine blk_drew ?_ | refine blk_alloc ?_ _)); exact BK292.out)) : gb292 ≠ gb293)); have n6_ := Aside0.mk ((by rw [hg]; exact Nat.ne_of_gt (blk_lt (g := gb292) (o := .cells #[.int .i64 a0_0, .int .i64 a0_1, .bool a0_2] 23 (0, 0)) (by (with_reducible repeat (first | refine blk_drewN ?_ _ | refine blk_drew ?_ | refine blk_alloc ?_ _)); exact BK292.out)) : gb293 ≠ gb292)); clear BK292; clear HB; have BK292 := n0_; have HB := n1_; have BK293 := n2_; have GW293 := n3_; have GE293 := n4_; have NB292_293 := n5_; have NB293_292 := n6_; clear n0_ n1_ n2_ n3_ n4_ n5_ n6_; clear hb hbox hg; have hnb8 := NB292_293.out; have hnc8 := NB293_292.out; have hcz9_0 : w7.cell? ⟨gb292, 0, none⟩ = some (.int .i64 a0_0) := (blk_cell BK292.out 0).trans rfl; have hcz9_1 : w7.cell? ⟨gb292, 1, none⟩ = some (.int .i64 a0_1) := (blk_cell BK292.out 1).trans rfl; have hcz9_2 : w7.cell? ⟨gb292, 2, none⟩ = some (.bool a0_2) := (blk_cell BK292.out 2).trans rfl; have hfz9_0 := blk_frozen BK292.out 0; have hfz9_1 := blk_frozen BK292.out 1; have hfz9_2 := blk_frozen BK292.out 2) | ((with_reducible refine gate_callee (f := 14) rfl ?_); refine goesL_ (some 6) rfl rfl Try.func14 (by kernel_rfl) rfl #[.agg #[.int .i64 a0_0, .int .i64 a0_1, .bool a0_2]] rfl (by (try simp only [List.map_toArray, List.map_cons, List.map_nil]); first | done | rfl | (simp only [List.length_drop, List.length_take]; rfl)) ?_; (with_reducible refine (frac_Frac_Fine.calls k a0_0 a0_1 a0_2 true _ A3.out).mono ?_); rintro e w10 ⟨rfl, hb⟩; refine ⟨_, rfl, ?_⟩; have n0_ := Aside0.mk (blk_below (g := gb292) (o := .cells #[.int .i64 a0_0, .int .i64 a0_1, .bool a0_2] 23 (0, 0)) (by (with_reducible repeat (first | refine blk_drewN ?_ _ | refine blk_drew ?_ | refine blk_alloc ?_ _)); exact BK292.out) hb); have n1_ := Aside0.mk (blk_below (g := gb293) (o := .cells #[.int .i64 a1_0, .int .i64 a1_1, .bool a1_2] 23 (0, 0)) (by (with_reducible repeat (first | refine blk_drewN ?_ _ | refine blk_drew ?_ | refine blk_alloc ?_ _)); exact BK293.out) hb); have n2_ := Aside0.mk (below_step (by repeat (first | (with_reducible first | exact HB.out | apply below_alloc | apply pw_below_drewN | apply below_drew1 | refine below_set ?_ GE292.out | refine below_set ?_ GE293.out) | exact HB.out)) hb); clear BK292; clear BK293; clear HB; have BK292 := n0_; have BK293 := n1_; have HB := n2_; clear n0_ n1_ n2_; (try clear hb); (try clear hb2); (try clear hk); (try clear hi)) | ((with_reducible refine gate_callee (f := 12) rfl ?_); refine goesL_ (some 7) rfl rfl Try.func12 (by kernel_rfl) rfl #[] rfl (by (try simp only [List.map_toArray, List.map_cons, List.map_nil]); first | done | rfl | (simp only [List.length_drop, List.length_take]; rfl)) ?_; (with_reducible refine (coupletlaw04_awake.calls k  t295 _ A5.out).mono ?_); rintro e w11 ⟨rfl, hb⟩; refine ⟨_, rfl, ?_⟩; have n0_ := Aside0.mk (blk_below (g := gb292) (o := .cells #[.int .i64 a0_0, .int .i64 a0_1, .bool a0_2] 23 (0, 0)) (by (with_reducible repeat (first | refine blk_drewN ?_ _ | refine blk_drew ?_ | refine blk_alloc ?_ _)); exact BK292.out) hb); have n1_ := Aside0.mk (blk_below (g := gb293) (o := .cells #[.int .i64 a1_0, .int .i64 a1_1, .bool a1_2] 23 (0, 0)) (by (with_reducible repeat (first | refine blk_drewN ?_ _ | refine blk_drew ?_ | refine blk_alloc ?_ _)); exact BK293.out) hb); have n2_ := Aside0.mk (below_step (by repeat (first | (with_reducible first | exact HB.out | apply below_alloc | apply pw_below_drewN | apply below_drew1 | refine below_set ?_ GE292.out | refine below_set ?_ GE293.out) | exact HB.out)) hb); clear BK292; clear BK293; clear HB; have BK292 := n0_; have BK293 := n1_; have HB := n2_; clear n0_ n1_ n2_; (try clear hb); (try clear hb2); (try clear hk); (try clear hi)))
    go_ret
    exact ⟨by first | rfl | (simp [errW_none, errW_some] <;> rfl) | (simp [*, errW_none, errW_some] <;> rfl), by repeat (first | (with_reducible first | exact HB.out | apply below_alloc | apply pw_below_drewN | apply below_drew1 | refine below_set ?_ GE292.out | refine below_set ?_ GE293.out) | exact HB.out)⟩
  · replace c4 := Bool.eq_false_iff.mpr c4
    subst c4
    have H1 : ((frac_Frac_Add.f k a0_0 a0_1 a0_2 a1_0 a1_1 a1_2).bind fun bt296 => ((frac_Wrong.f).bind fun bt299 => (if (bt296.1 == bt299.1 && (bt296.2.1 == bt299.2.1 && (bt296.2.2 == bt299.2.2))) = true then ((frac_Frac_Add.f k a1_0 a1_1 a1_2 a0_0 a0_1 a0_2).bind fun bt302 => ((frac_Wrong.f).bind fun bt305 => (if (bt302.1 == bt305.1 && (bt302.2.1 == bt305.2.1 && (bt302.2.2 == bt305.2.2))) = true then ((frac_Frac_Sub.f k a0_0 a0_1 a0_2 a1_0 a1_1 a1_2).bind fun bt308 => (if bt308.2.2 = true then ((frac_Frac_Sub.f k a1_0 a1_1 a1_2 a0_0 a0_1 a0_2).bind fun bt311 => (if bt311.2.2 = true then ((frac_Frac_Mul.f k a0_0 a0_1 a0_2 a1_0 a1_1 a1_2).bind fun bt314 => (if bt314.2.2 = true then ((frac_Frac_Div.f k a1_0 a1_1 a1_2 a0_0 a0_1 a0_2).bind fun bt317 => (if bt317.2.2 = true then ((frac_Frac_Root.f k a0_0 a0_1 a0_2).bind fun bt320 => (if bt320.2.2 = true then ((frac_Frac_Neg.f k a0_0 a0_1 a0_2).bind fun bt323 => (if bt323.2.2 = true then ((frac_Frac_Sign.f k a0_0 a0_1 a0_2).bind fun t326 => (if t326 = 0 then ((coupletlaw04_awake.f k).bind fun t327 => (some t327)) else (some false))) else (some false))) else (some false))) else (some false))) else (some false))) else (some false))) else (some false))) else (some false)))) else (some false)))) = some r := by rw [if_neg (show ¬ (false = true) by decide)] at H; exact H
    clear H
    have H := H1
    clear H1
    replace H := Option.bind_eq_some_iff.mp H
    obtain ⟨⟨t296, t297, t298⟩, A120, H⟩ := H
    replace H : ((frac_Wrong.f).bind fun bt299 => (if (t296 == bt299.1 && (t297 == bt299.2.1 && (t298 == bt299.2.2))) = true then ((frac_Frac_Add.f k a1_0 a1_1 a1_2 a0_0 a0_1 a0_2).bind fun bt302 => ((frac_Wrong.f).bind fun bt305 => (if (bt302.1 == bt305.1 && (bt302.2.1 == bt305.2.1 && (bt302.2.2 == bt305.2.2))) = true then ((frac_Frac_Sub.f k a0_0 a0_1 a0_2 a1_0 a1_1 a1_2).bind fun bt308 => (if bt308.2.2 = true then ((frac_Frac_Sub.f k a1_0 a1_1 a1_2 a0_0 a0_1 a0_2).bind fun bt311 => (if bt311.2.2 = true then ((frac_Frac_Mul.f k a0_0 a0_1 a0_2 a1_0 a1_1 a1_2).bind fun bt314 => (if bt314.2.2 = true then ((frac_Frac_Div.f k a1_0 a1_1 a1_2 a0_0 a0_1 a0_2).bind fun bt317 => (if bt317.2.2 = true then ((frac_Frac_Root.f k a0_0 a0_1 a0_2).bind fun bt320 => (if bt320.2.2 = true then ((frac_Frac_Neg.f k a0_0 a0_1 a0_2).bind fun bt323 => (if bt323.2.2 = true then ((frac_Frac_Sign.f k a0_0 a0_1 a0_2).bind fun t326 => (if t326 = 0 then ((coupletlaw04_awake.f k).bind fun t327 => (some t327)) else (some false))) else (some false))) else (some false))) else (some false))) else (some false))) else (some false))) else (some false))) else (some false)))) else (some false))) = some r := H
    have A12 := Aside0.mk A120
    clear A120
    replace H := Option.bind_eq_some_iff.mp H
    obtain ⟨⟨t299, t300, t301⟩, A130, H⟩ := H
    replace H : (if (t296 == t299 && (t297 == t300 && (t298 == t301))) = true then ((frac_Frac_Add.f k a1_0 a1_1 a1_2 a0_0 a0_1 a0_2).bind fun bt302 => ((frac_Wrong.f).bind fun bt305 => (if (bt302.1 == bt305.1 && (bt302.2.1 == bt305.2.1 && (bt302.2.2 == bt305.2.2))) = true then ((frac_Frac_Sub.f k a0_0 a0_1 a0_2 a1_0 a1_1 a1_2).bind fun bt308 => (if bt308.2.2 = true then ((frac_Frac_Sub.f k a1_0 a1_1 a1_2 a0_0 a0_1 a0_2).bind fun bt311 => (if bt311.2.2 = true then ((frac_Frac_Mul.f k a0_0 a0_1 a0_2 a1_0 a1_1 a1_2).bind fun bt314 => (if bt314.2.2 = true then ((frac_Frac_Div.f k a1_0 a1_1 a1_2 a0_0 a0_1 a0_2).bind fun bt317 => (if bt317.2.2 = true then ((frac_Frac_Root.f k a0_0 a0_1 a0_2).bind fun bt320 => (if bt320.2.2 = true then ((frac_Frac_Neg.f k a0_0 a0_1 a0_2).bind fun bt323 => (if bt323.2.2 = true then ((frac_Frac_Sign.f k a0_0 a0_1 a0_2).bind fun t326 => (if t326 = 0 then ((coupletlaw04_awake.f k).bind fun t327 => (some t327)) else (some false))) else (some false))) else (some false))) else (some false))) else (some false))) else (some false))) else (some false))) else (some false)))) else (some false)) = some r := H
    have A13 := Aside0.mk A130
    clear A130
    by_cases c14 : (t296 == t299 && (t297 == t300 && (t298 == t301))) = true
    · rw [if_pos c14] at H
      have c14b0 : (t296 == t299 && (t297 == t300 && (t298 == t301))) = true := c14
      (try (have c14b1 : decide (t296 = t299 && (t297 == t300 && (t298 == t301))) = true := by simpa using c14))
      (try (have c14b2 : (t296 == t299 && (t297 == t300 && (t298 == t301))) = true := by simpa using c14))
      clear c14
      replace H := Option.bind_eq_some_iff.mp H
      obtain ⟨⟨t302, t303, t304⟩, A150, H⟩ := H
      replace H : ((frac_Wrong.f).bind fun bt305 => (if (t302 == bt305.1 && (t303 == bt305.2.1 && (t304 == bt305.2.2))) = true then ((frac_Frac_Sub.f k a0_0 a0_1 a0_2 a1_0 a1_1 a1_2).bind fun bt308 => (if bt308.2.2 = true then ((frac_Frac_Sub.f k a1_0 a1_1 a1_2 a0_0 a0_1 a0_2).bind fun bt311 => (if bt311.2.2 = true then ((frac_Frac_Mul.f k a0_0 a0_1 a0_2 a1_0 a1_1 a1_2).bind fun bt314 => (if bt314.2.2 = true then ((frac_Frac_Div.f k a1_0 a1_1 a1_2 a0_0 a0_1 a0_2).bind fun bt317 => (if bt317.2.2 = true then ((frac_Frac_Root.f k a0_0 a0_1 a0_2).bind fun bt320 => (if bt320.2.2 = true then ((frac_Frac_Neg.f k a0_0 a0_1 a0_2).bind fun bt323 => (if bt323.2.2 = true then ((frac_Frac_Sign.f k a0_0 a0_1 a0_2).bind fun t326 => (if t326 = 0 then ((coupletlaw04_awake.f k).bind fun t327 => (some t327)) else (some false))) else (some false))) else (some false))) else (some false))) else (some false))) else (some false))) else (some false))) else (some false))) = some r := H
      have A15 := Aside0.mk A150
      clear A150
      replace H := Option.bind_eq_some_iff.mp H
      obtain ⟨⟨t305, t306, t307⟩, A160, H⟩ := H
      replace H : (if (t302 == t305 && (t303 == t306 && (t304 == t307))) = true then ((frac_Frac_Sub.f k a0_0 a0_1 a0_2 a1_0 a1_1 a1_2).bind fun bt308 => (if bt308.2.2 = true then ((frac_Frac_Sub.f k a1_0 a1_1 a1_2 a0_0 a0_1 a0_2).bind fun bt311 => (if bt311.2.2 = true then ((frac_Frac_Mul.f k a0_0 a0_1 a0_2 a1_0 a1_1 a1_2).bind fun bt314 => (if bt314.2.2 = true then ((frac_Frac_Div.f k a1_0 a1_1 a1_2 a0_0 a0_1 a0_2).bind fun bt317 => (if bt317.2.2 = true then ((frac_Frac_Root.f k a0_0 a0_1 a0_2).bind fun bt320 => (if bt320.2.2 = true then ((frac_Frac_Neg.f k a0_0 a0_1 a0_2).bind fun bt323 => (if bt323.2.2 = true then ((frac_Frac_Sign.f k a0_0 a0_1 a0_2).bind fun t326 => (if t326 = 0 then ((coupletlaw04_awake.f k).bind fun t327 => (some t327)) else (some false))) else (some false))) else (some false))) else (some false))) else (some false))) else (some false))) else (some false))) else (some false)) = some r := H
      have A16 := Aside0.mk A160
      clear A160
      have e_ := Option.some.inj (A13.out.symm.trans A16.out)
      simp only [Prod.mk.injEq] at e_
      obtain ⟨rfl, rfl, rfl⟩ := e_
      by_cases c17 : (t302 == t299 && (t303 == t300 && (t304 == t301))) = true
      · rw [if_pos c17] at H
        have c17b0 : (t302 == t299 && (t303 == t300 && (t304 == t301))) = true := c17
        (try (have c17b1 : decide (t302 = t299 && (t303 == t300 && (t304 == t301))) = true := by simpa using c17))
        (try (have c17b2 : (t302 == t299 && (t303 == t300 && (t304 == t301))) = true := by simpa using c17))
        clear c17
        replace H := Option.bind_eq_some_iff.mp H
        obtain ⟨⟨t308, t309, t310⟩, A180, H⟩ := H
        replace H : (if t310 = true then ((frac_Frac_Sub.f k a1_0 a1_1 a1_2 a0_0 a0_1 a0_2).bind fun bt311 => (if bt311.2.2 = true then ((frac_Frac_Mul.f k a0_0 a0_1 a0_2 a1_0 a1_1 a1_2).bind fun bt314 => (if bt314.2.2 = true then ((frac_Frac_Div.f k a1_0 a1_1 a1_2 a0_0 a0_1 a0_2).bind fun bt317 => (if bt317.2.2 = true then ((frac_Frac_Root.f k a0_0 a0_1 a0_2).bind fun bt320 => (if bt320.2.2 = true then ((frac_Frac_Neg.f k a0_0 a0_1 a0_2).bind fun bt323 => (if bt323.2.2 = true then ((frac_Frac_Sign.f k a0_0 a0_1 a0_2).bind fun t326 => (if t326 = 0 then ((coupletlaw04_awake.f k).bind fun t327 => (some t327)) else (some false))) else (some false))) else (some false))) else (some false))) else (some false))) else (some false))) else (some false)) = some r := H
        have A18 := Aside0.mk A180
        clear A180
        by_cases c19 : t310 = true
        · subst c19
          have H1 : ((frac_Frac_Sub.f k a1_0 a1_1 a1_2 a0_0 a0_1 a0_2).bind fun bt311 => (if bt311.2.2 = true then ((frac_Frac_Mul.f k a0_0 a0_1 a0_2 a1_0 a1_1 a1_2).bind fun bt314 => (if bt314.2.2 = true then ((frac_Frac_Div.f k a1_0 a1_1 a1_2 a0_0 a0_1 a0_2).bind fun bt317 => (if bt317.2.2 = true then ((frac_Frac_Root.f k a0_0 a0_1 a0_2).bind fun bt320 => (if bt320.2.2 = true then ((frac_Frac_Neg.f k a0_0 a0_1 a0_2).bind fun bt323 => (if bt323.2.2 = true then ((frac_Frac_Sign.f k a0_0 a0_1 a0_2).bind fun t326 => (if t326 = 0 then ((coupletlaw04_awake.f k).bind fun t327 => (some t327)) else (some false))) else (some false))) else (some false))) else (some false))) else (some false))) else (some false))) = some r := by rw [if_pos rfl] at H; exact H
          clear H
          have H := H1
          clear H1
          replace H := Option.bind_eq_some_iff.mp H
          obtain ⟨⟨t311, t312, t313⟩, A200, H⟩ := H
          replace H : (if t313 = true then ((frac_Frac_Mul.f k a0_0 a0_1 a0_2 a1_0 a1_1 a1_2).bind fun bt314 => (if bt314.2.2 = true then ((frac_Frac_Div.f k a1_0 a1_1 a1_2 a0_0 a0_1 a0_2).bind fun bt317 => (if bt317.2.2 = true then ((frac_Frac_Root.f k a0_0 a0_1 a0_2).bind fun bt320 => (if bt320.2.2 = true then ((frac_Frac_Neg.f k a0_0 a0_1 a0_2).bind fun bt323 => (if bt323.2.2 = true then ((frac_Frac_Sign.f k a0_0 a0_1 a0_2).bind fun t326 => (if t326 = 0 then ((coupletlaw04_awake.f k).bind fun t327 => (some t327)) else (some false))) else (some false))) else (some false))) else (some false))) else (some false))) else (some false)) = some r := H
          have A20 := Aside0.mk A200
          clear A200
          by_cases c21 : t313 = true
          · subst c21
            have H1 : ((frac_Frac_Mul.f k a0_0 a0_1 a0_2 a1_0 a1_1 a1_2).bind fun bt314 => (if bt314.2.2 = true then ((frac_Frac_Div.f k a1_0 a1_1 a1_2 a0_0 a0_1 a0_2).bind fun bt317 => (if bt317.2.2 = true then ((frac_Frac_Root.f k a0_0 a0_1 a0_2).bind fun bt320 => (if bt320.2.2 = true then ((frac_Frac_Neg.f k a0_0 a0_1 a0_2).bind fun bt323 => (if bt323.2.2 = true then ((frac_Frac_Sign.f k a0_0 a0_1 a0_2).bind fun t326 => (if t326 = 0 then ((coupletlaw04_awake.f k).bind fun t327 => (some t327)) else (some false))) else (some false))) else (some false))) else (some false))) else (some false))) = some r := by rw [if_pos rfl] at H; exact H
            clear H
            have H := H1
            clear H1
            replace H := Option.bind_eq_some_iff.mp H
            obtain ⟨⟨t314, t315, t316⟩, A220, H⟩ := H
            replace H : (if t316 = true then ((frac_Frac_Div.f k a1_0 a1_1 a1_2 a0_0 a0_1 a0_2).bind fun bt317 => (if bt317.2.2 = true then ((frac_Frac_Root.f k a0_0 a0_1 a0_2).bind fun bt320 => (if bt320.2.2 = true then ((frac_Frac_Neg.f k a0_0 a0_1 a0_2).bind fun bt323 => (if bt323.2.2 = true then ((frac_Frac_Sign.f k a0_0 a0_1 a0_2).bind fun t326 => (if t326 = 0 then ((coupletlaw04_awake.f k).bind fun t327 => (some t327)) else (some false))) else (some false))) else (some false))) else (some false))) else (some false)) = some r := H
            have A22 := Aside0.mk A220
            clear A220
            by_cases c23 : t316 = true
            · subst c23
              have H1 : ((frac_Frac_Div.f k a1_0 a1_1 a1_2 a0_0 a0_1 a0_2).bind fun bt317 => (if bt317.2.2 = true then ((frac_Frac_Root.f k a0_0 a0_1 a0_2).bind fun bt320 => (if bt320.2.2 = true then ((frac_Frac_Neg.f k a0_0 a0_1 a0_2).bind fun bt323 => (if bt323.2.2 = true then ((frac_Frac_Sign.f k a0_0 a0_1 a0_2).bind fun t326 => (if t326 = 0 then ((coupletlaw04_awake.f k).bind fun t327 => (some t327)) else (some false))) else (some false))) else (some false))) else (some false))) = some r := by rw [if_pos rfl] at H; exact H
              clear H
              have H := H1
              clear H1
              replace H := Option.bind_eq_some_iff.mp H
              obtain ⟨⟨t317, t318, t319⟩, A240, H⟩ := H
              replace H : (if t319 = true then ((frac_Frac_Root.f k a0_0 a0_1 a0_2).bind fun bt320 => (if bt320.2.2 = true then ((frac_Frac_Neg.f k a0_0 a0_1 a0_2).bind fun bt323 => (if bt323.2.2 = true then ((frac_Frac_Sign.f k a0_0 a0_1 a0_2).bind fun t326 => (if t326 = 0 then ((coupletlaw04_awake.f k).bind fun t327 => (some t327)) else (some false))) else (some false))) else (some false))) else (some false)) = some r := H
              have A24 := Aside0.mk A240
              clear A240
              by_cases c25 : t319 = true
              · subst c25
                have H1 : ((frac_Frac_Root.f k a0_0 a0_1 a0_2).bind fun bt320 => (if bt320.2.2 = true then ((frac_Frac_Neg.f k a0_0 a0_1 a0_2).bind fun bt323 => (if bt323.2.2 = true then ((frac_Frac_Sign.f k a0_0 a0_1 a0_2).bind fun t326 => (if t326 = 0 then ((coupletlaw04_awake.f k).bind fun t327 => (some t327)) else (some false))) else (some false))) else (some false))) = some r := by rw [if_pos rfl] at H; exact H
                clear H
                have H := H1
                clear H1
                replace H := Option.bind_eq_some_iff.mp H
                obtain ⟨⟨t320, t321, t322⟩, A260, H⟩ := H
                replace H : (if t322 = true then ((frac_Frac_Neg.f k a0_0 a0_1 a0_2).bind fun bt323 => (if bt323.2.2 = true then ((frac_Frac_Sign.f k a0_0 a0_1 a0_2).bind fun t326 => (if t326 = 0 then ((coupletlaw04_awake.f k).bind fun t327 => (some t327)) else (some false))) else (some false))) else (some false)) = some r := H
                have A26 := Aside0.mk A260
                clear A260
                by_cases c27 : t322 = true
                · subst c27
                  have H1 : ((frac_Frac_Neg.f k a0_0 a0_1 a0_2).bind fun bt323 => (if bt323.2.2 = true then ((frac_Frac_Sign.f k a0_0 a0_1 a0_2).bind fun t326 => (if t326 = 0 then ((coupletlaw04_awake.f k).bind fun t327 => (some t327)) else (some false))) else (some false))) = some r := by rw [if_pos rfl] at H; exact H
                  clear H
                  have H := H1
                  clear H1
                  replace H := Option.bind_eq_some_iff.mp H
                  obtain ⟨⟨t323, t324, t325⟩, A280, H⟩ := H
                  replace H : (if t325 = true then ((frac_Frac_Sign.f k a0_0 a0_1 a0_2).bind fun t326 => (if t326 = 0 then ((coupletlaw04_awake.f k).bind fun t327 => (some t327)) else (some false))) else (some false)) = some r := H
                  have A28 := Aside0.mk A280
                  clear A280
                  by_cases c29 : t325 = true
                  · subst c29
                    have H1 : ((frac_Frac_Sign.f k a0_0 a0_1 a0_2).bind fun t326 => (if t326 = 0 then ((coupletlaw04_awake.f k).bind fun t327 => (some t327)) else (some false))) = some r := by rw [if_pos rfl] at H; exact H
                    clear H
                    have H := H1
                    clear H1
                    replace H := Option.bind_eq_some_iff.mp H
                    obtain ⟨t326, A300, H⟩ := H
                    replace H : (if t326 = 0 then ((coupletlaw04_awake.f k).bind fun t327 => (some t327)) else (some false)) = some r := H
                    have A30 := Aside0.mk A300
                    clear A300
                    by_cases c31 : t326 = 0
                    · rw [if_pos c31] at H
                      have c31b0 : (t326 == 0) = true := beq_iff_eq.mpr c31
                      have c31b1 : (t326 != 0) = false := bne_eq_false_iff_eq.mpr c31
                      clear c31
                      replace H := Option.bind_eq_some_iff.mp H
                      obtain ⟨t327, A320, H⟩ := H
                      replace H : (some t327) = some r := H
                      have A32 := Aside0.mk A320
                      clear A320
                      obtain rfl := Option.some.inj H
                      go_enter Try.func9, Try.ntmps9
                      go_wp2_with (first | ((with_reducible refine gate_dst (N := 2) rfl ?_); refine box_event ?hg (N := 2) ?hd (cs := #[.int .i64 a0_0, .int .i64 a0_1, .bool a0_2]) (t := 23) ?hr ?_; (case hd => rfl); (case hg => rfl); (case hr => first | (go_simp; done) | (go_simp; rfl)); intro gb292 hg w33 hbox hb; have n0_ := Aside0.mk (below_step (by repeat (first | (with_reducible first | exact HB.out | apply below_alloc | apply pw_below_drewN | apply below_drew1) | exact HB.out)) hb); have n1_ := Aside0.mk (hbox); have n2_ := Aside0.mk ((by rw [hg]; exact (below_size (by repeat (first | (with_reducible first | exact HB.out | apply below_alloc | apply pw_below_drewN | apply below_drew1) | exact HB.out))) : w.heap.size ≤ gb292)); have n3_ := Aside0.mk ((by rw [hg]; exact (below_size (by repeat (first | (with_reducible first | exact HB.out | apply below_alloc | apply pw_below_drewN | apply below_drew1) | exact HB.out))) : w.heap.size ≤ gb292)); clear HB; have HB := n0_; have BK292 := n1_; have GW292 := n2_; have GE292 := n3_; clear n0_ n1_ n2_ n3_; clear hb hbox hg) | ((with_reducible refine gate_dst (N := 3) rfl ?_); refine box_event ?hg (N := 3) ?hd (cs := #[.int .i64 a1_0, .int .i64 a1_1, .bool a1_2]) (t := 23) ?hr ?_; (case hd => rfl); (case hg => rfl); (case hr => first | (go_simp; done) | (go_simp; rfl)); intro gb293 hg w34 hbox hb; have n0_ := Aside0.mk (blk_below (g := gb292) (o := .cells #[.int .i64 a0_0, .int .i64 a0_1, .bool a0_2] 23 (0, 0)) (by (with_reducible repeat (first | refine blk_drewN ?_ _ | refine blk_drew ?_ | refine blk_alloc ?_ _)); exact BK292.out) hb); have n1_ := Aside0.mk (below_step (by repeat (first | (with_reducible first | exact HB.out | apply below_alloc | apply pw_below_drewN | apply below_drew1 | refine below_set ?_ GE292.out) | exact HB.out)) hb); have n2_ := Aside0.mk (hbox); have n3_ := Aside0.mk ((by rw [hg]; exact (below_size (by repeat (first | (with_reducible first | exact HB.out | apply below_alloc | apply pw_below_drewN | apply below_drew1 | refine below_set ?_ GE292.out) | exact HB.out))) : w.heap.size ≤ gb293)); have n4_ := Aside0.mk ((by rw [hg]; exact (below_size (by repeat (first | (with_reducible first | exact HB.out | apply below_alloc | apply pw_below_drewN | apply below_drew1 | refine below_set ?_ GE292.out) | exact HB.out))) : w.heap.size ≤ gb293)); have n5_ := Aside0.mk ((by rw [hg]; exact Nat.ne_of_lt (blk_lt (g := gb292) (o := .cells #[.int .i64 a0_0, .int .i64 a0_1, .bool a0_2] 23 (0, 0)) (by (with_reducible repeat (first | refine blk_drewN ?_ _ | refine blk_drew ?_ | refine blk_alloc ?_ _)); exact BK292.out)) : gb292 ≠ gb293)); have n6_ := Aside0.mk ((by rw [hg]; exact Nat.ne_of_gt (blk_lt (g := gb292) (o := .cells #[.int .i64 a0_0, .int .i64 a0_1, .bool a0_2] 23 (0, 0)) (by (with_reducible repeat (first | refine blk_drewN ?_ _ | refine blk_drew ?_ | refine blk_alloc ?_ _)); exact BK292.out)) : gb293 ≠ gb292)); clear BK292; clear HB; have BK292 := n0_; have HB := n1_; have BK293 := n2_; have GW293 := n3_; have GE293 := n4_; have NB292_293 := n5_; have NB293_292 := n6_; clear n0_ n1_ n2_ n3_ n4_ n5_ n6_; clear hb hbox hg; have hnb35 := NB292_293.out; have hnc35 := NB293_292.out; have hcz36_0 : w34.cell? ⟨gb292, 0, none⟩ = some (.int .i64 a0_0) := (blk_cell BK292.out 0).trans rfl; have hcz36_1 : w34.cell? ⟨gb292, 1, none⟩ = some (.int .i64 a0_1) := (blk_cell BK292.out 1).trans rfl; have hcz36_2 : w34.cell? ⟨gb292, 2, none⟩ = some (.bool a0_2) := (blk_cell BK292.out 2).trans rfl; have hfz36_0 := blk_frozen BK292.out 0; have hfz36_1 := blk_frozen BK292.out 1; have hfz36_2 := blk_frozen BK292.out 2) | ((with_reducible refine gate_callee (f := 14) rfl ?_); refine goesL_ (some 6) rfl rfl Try.func14 (by kernel_rfl) rfl #[.agg #[.int .i64 a0_0, .int .i64 a0_1, .bool a0_2]] rfl (by (try simp only [List.map_toArray, List.map_cons, List.map_nil]); first | done | rfl | (simp only [List.length_drop, List.length_take]; rfl)) ?_; (with_reducible refine (frac_Frac_Fine.calls k a0_0 a0_1 a0_2 false _ A3.out).mono ?_); rintro e w37 ⟨rfl, hb⟩; refine ⟨_, rfl, ?_⟩; have n0_ := Aside0.mk (blk_below (g := gb292) (o := .cells #[.int .i64 a0_0, .int .i64 a0_1, .bool a0_2] 23 (0, 0)) (by (with_reducible repeat (first | refine blk_drewN ?_ _ | refine blk_drew ?_ | refine blk_alloc ?_ _)); exact BK292.out) hb); have n1_ := Aside0.mk (blk_below (g := gb293) (o := .cells #[.int .i64 a1_0, .int .i64 a1_1, .bool a1_2] 23 (0, 0)) (by (with_reducible repeat (first | refine blk_drewN ?_ _ | refine blk_drew ?_ | refine blk_alloc ?_ _)); exact BK293.out) hb); have n2_ := Aside0.mk (below_step (by repeat (first | (with_reducible first | exact HB.out | apply below_alloc | apply pw_below_drewN | apply below_drew1 | refine below_set ?_ GE292.out | refine below_set ?_ GE293.out) | exact HB.out)) hb); clear BK292; clear BK293; clear HB; have BK292 := n0_; have BK293 := n1_; have HB := n2_; clear n0_ n1_ n2_; (try clear hb); (try clear hb2); (try clear hk); (try clear hi); have hcz38_0 : w37.cell? ⟨gb292, 0, none⟩ = some (.int .i64 a0_0) := (blk_cell BK292.out 0).trans rfl; have hcz38_1 : w37.cell? ⟨gb292, 1, none⟩ = some (.int .i64 a0_1) := (blk_cell BK292.out 1).trans rfl; have hcz38_2 : w37.cell? ⟨gb292, 2, none⟩ = some (.bool a0_2) := (blk_cell BK292.out 2).trans rfl; have hfz38_0 := blk_frozen BK292.out 0; have hfz38_1 := blk_frozen BK292.out 1; have hfz38_2 := blk_frozen BK292.out 2; have hcz39_0 : w37.cell? ⟨gb293, 0, none⟩ = some (.int .i64 a1_0) := (blk_cell BK293.out 0).trans rfl; have hcz39_1 : w37.cell? ⟨gb293, 1, none⟩ = some (.int .i64 a1_1) := (blk_cell BK293.out 1).trans rfl; have hcz39_2 : w37.cell? ⟨gb293, 2, none⟩ = some (.bool a1_2) := (blk_cell BK293.out 2).trans rfl; have hfz39_0 := blk_frozen BK293.out 0; have hfz39_1 := blk_frozen BK293.out 1; have hfz39_2 := blk_frozen BK293.out 2) | ((with_reducible refine gate_callee (f := 24) rfl ?_); refine goesL_ (some 10) rfl rfl Try.func24 (by kernel_rfl) rfl #[.agg #[.int .i64 a0_0, .int .i64 a0_1, .bool a0_2], .agg #[.int .i64 a1_0, .int .i64 a1_1, .bool a1_2]] rfl (by (try simp only [List.map_toArray, List.map_cons, List.map_nil]); first | done | rfl | (simp only [List.length_drop, List.length_take]; rfl)) ?_; (with_reducible refine (frac_Frac_Add.calls k a0_0 a0_1 a0_2 a1_0 a1_1 a1_2 t296 t297 t298 _ A12.out).mono ?_); rintro e w40 ⟨rfl, hb⟩; refine ⟨_, rfl, ?_⟩; have n0_ := Aside0.mk (blk_below (g := gb292) (o := .cells #[.int .i64 a0_0, .int .i64 a0_1, .bool a0_2] 23 (0, 0)) (by (with_reducible repeat (first | refine blk_drewN ?_ _ | refine blk_drew ?_ | refine blk_alloc ?_ _)); exact BK292.out) hb); have n1_ := Aside0.mk (blk_below (g := gb293) (o := .cells #[.int .i64 a1_0, .int .i64 a1_1, .bool a1_2] 23 (0, 0)) (by (with_reducible repeat (first | refine blk_drewN ?_ _ | refine blk_drew ?_ | refine blk_alloc ?_ _)); exact BK293.out) hb); have n2_ := Aside0.mk (below_step (by repeat (first | (with_reducible first | exact HB.out | apply below_alloc | apply pw_below_drewN | apply below_drew1 | refine below_set ?_ GE292.out | refine below_set ?_ GE293.out) | exact HB.out)) hb); clear BK292; clear BK293; clear HB; have BK292 := n0_; have BK293 := n1_; have HB := n2_; clear n0_ n1_ n2_; (try clear hb); (try clear hb2); (try clear hk); (try clear hi)) | ((with_reducible refine gate_callee (f := 11) rfl ?_); refine goesL_ (some 11) rfl rfl Try.func11 (by kernel_rfl) rfl #[] rfl (by (try simp only [List.map_toArray, List.map_cons, List.map_nil]); first | done | rfl | (simp only [List.length_drop, List.length_take]; rfl)) ?_; (with_reducible refine (frac_Wrong.calls  t299 t300 t301 _ A13.out).mono ?_); rintro e w41 ⟨rfl, hb⟩; refine ⟨_, rfl, ?_⟩; have n0_ := Aside0.mk (blk_below (g := gb292) (o := .cells #[.int .i64 a0_0, .int .i64 a0_1, .bool a0_2] 23 (0, 0)) (by (with_reducible repeat (first | refine blk_drewN ?_ _ | refine blk_drew ?_ | refine blk_alloc ?_ _)); exact BK292.out) hb); have n1_ := Aside0.mk (blk_below (g := gb293) (o := .cells #[.int .i64 a1_0, .int .i64 a1_1, .bool a1_2] 23 (0, 0)) (by (with_reducible repeat (first | refine blk_drewN ?_ _ | refine blk_drew ?_ | refine blk_alloc ?_ _)); exact BK293.out) hb); have n2_ := Aside0.mk (below_step (by repeat (first | (with_reducible first | exact HB.out | apply below_alloc | apply pw_below_drewN | apply below_drew1 | refine below_set ?_ GE292.out | refine below_set ?_ GE293.out) | exact HB.out)) hb); clear BK292; clear BK293; clear HB; have BK292 := n0_; have BK293 := n1_; have HB := n2_; clear n0_ n1_ n2_; (try clear hb); (try clear hb2); (try clear hk); (try clear hi); have hcz42_0 : w41.cell? ⟨gb293, 0, none⟩ = some (.int .i64 a1_0) := (blk_cell BK293.out 0).trans rfl; have hcz42_1 : w41.cell? ⟨gb293, 1, none⟩ = some (.int .i64 a1_1) := (blk_cell BK293.out 1).trans rfl; have hcz42_2 : w41.cell? ⟨gb293, 2, none⟩ = some (.bool a1_2) := (blk_cell BK293.out 2).trans rfl; have hfz42_0 := blk_frozen BK293.out 0; have hfz42_1 := blk_frozen BK293.out 1; have hfz42_2 := blk_frozen BK293.out 2; have hcz43_0 : w41.cell? ⟨gb292, 0, none⟩ = some (.int .i64 a0_0) := (blk_cell BK292.out 0).trans rfl; have hcz43_1 : w41.cell? ⟨gb292, 1, none⟩ = some (.int .i64 a0_1) := (blk_cell BK292.out 1).trans rfl; have hcz43_2 : w41.cell? ⟨gb292, 2, none⟩ = some (.bool a0_2) := (blk_cell BK292.out 2).trans rfl; have hfz43_0 := blk_frozen BK292.out 0; have hfz43_1 := blk_frozen BK292.out 1; have hfz43_2 := blk_frozen BK292.out 2) | (go_at_call 24; (with_reducible refine (frac_Frac_Add.calls k a1_0 a1_1 a1_2 a0_0 a0_1 a0_2 t302 t303 t304 _ A15.out).mono ?_); rintro e w44 ⟨rfl, hb⟩; have n0_ := Aside0.mk (blk_below (g := gb292) (o := .cells #[.int .i64 a0_0, .int .i64 a0_1, .bool a0_2] 23 (0, 0)) (by (with_reducible repeat (first | refine blk_drewN ?_ _ | refine blk_drew ?_ | refine blk_alloc ?_ _)); exact BK292.out) hb); have n1_ := Aside0.mk (blk_below (g := gb293) (o := .cells #[.int .i64 a1_0, .int .i64 a1_1, .bool a1_2] 23 (0, 0)) (by (with_reducible repeat (first | refine blk_drewN ?_ _ | refine blk_drew ?_ | refine blk_alloc ?_ _)); exact BK293.out) hb); have n2_ := Aside0.mk (below_step (by repeat (first | (with_reducible first | exact HB.out | apply below_alloc | apply pw_below_drewN | apply below_drew1 | refine below_set ?_ GE292.out | refine below_set ?_ GE293.out) | exact HB.out)) hb); clear BK292; clear BK293; clear HB; have BK292 := n0_; have BK293 := n1_; have HB := n2_; clear n0_ n1_ n2_; (try clear hb); (try clear hb2); (try clear hk); (try clear hi)) | (go_at_call 11; (with_reducible refine (frac_Wrong.calls  t299 t300 t301 _ A16.out).mono ?_); rintro e w45 ⟨rfl, hb⟩; have n0_ := Aside0.mk (blk_below (g := gb292) (o := .cells #[.int .i64 a0_0, .int .i64 a0_1, .bool a0_2] 23 (0, 0)) (by (with_reducible repeat (first | refine blk_drewN ?_ _ | refine blk_drew ?_ | refine blk_alloc ?_ _)); exact BK292.out) hb); have n1_ := Aside0.mk (blk_below (g := gb293) (o := .cells #[.int .i64 a1_0, .int .i64 a1_1, .bool a1_2] 23 (0, 0)) (by (with_reducible repeat (first | refine blk_drewN ?_ _ | refine blk_drew ?_ | refine blk_alloc ?_ _)); exact BK293.out) hb); have n2_ := Aside0.mk (below_step (by repeat (first | (with_reducible first | exact HB.out | apply below_alloc | apply pw_below_drewN | apply below_drew1 | refine below_set ?_ GE292.out | refine below_set ?_ GE293.out) | exact HB.out)) hb); clear BK292; clear BK293; clear HB; have BK292 := n0_; have BK293 := n1_; have HB := n2_; clear n0_ n1_ n2_; (try clear hb); (try clear hb2); (try clear hk); (try clear hi); have hcz46_0 : w45.cell? ⟨gb292, 0, none⟩ = some (.int .i64 a0_0) := (blk_cell BK292.out 0).trans rfl; have hcz46_1 : w45.cell? ⟨gb292, 1, none⟩ = some (.int .i64 a0_1) := (blk_cell BK292.out 1).trans rfl; have hcz46_2 : w45.cell? ⟨gb292, 2, none⟩ = some (.bool a0_2) := (blk_cell BK292.out 2).trans rfl; have hfz46_0 := blk_frozen BK292.out 0; have hfz46_1 := blk_frozen BK292.out 1; have hfz46_2 := blk_frozen BK292.out 2; have hcz47_0 : w45.cell? ⟨gb293, 0, none⟩ = some (.int .i64 a1_0) := (blk_cell BK293.out 0).trans rfl; have hcz47_1 : w45.cell? ⟨gb293, 1, none⟩ = some (.int .i64 a1_1) := (blk_cell BK293.out 1).trans rfl; have hcz47_2 : w45.cell? ⟨gb293, 2, none⟩ = some (.bool a1_2) := (blk_cell BK293.out 2).trans rfl; have hfz47_0 := blk_frozen BK293.out 0; have hfz47_1 := blk_frozen BK293.out 1; have hfz47_2 := blk_frozen BK293.out 2) | (go_at_call 25; (with_reducible refine (frac_Frac_Sub.calls k a0_0 a0_1 a0_2 a1_0 a1_1 a1_2 t308 t309 true _ A18.out).mono ?_); rintro e w48 ⟨rfl, hb⟩; have n0_ := Aside0.mk (blk_below (g := gb292) (o := .cells #[.int .i64 a0_0, .int .i64 a0_1, .bool a0_2] 23 (0, 0)) (by (with_reducible repeat (first | refine blk_drewN ?_ _ | refine blk_drew ?_ | refine blk_alloc ?_ _)); exact BK292.out) hb); have n1_ := Aside0.mk (blk_below (g := gb293) (o := .cells #[.int .i64 a1_0, .int .i64 a1_1, .bool a1_2] 23 (0, 0)) (by (with_reducible repeat (first | refine blk_drewN ?_ _ | refine blk_drew ?_ | refine blk_alloc ?_ _)); exact BK293.out) hb); have n2_ := Aside0.mk (below_step (by repeat (first | (with_reducible first | exact HB.out | apply below_alloc | apply pw_below_drewN | apply below_drew1 | refine below_set ?_ GE292.out | refine below_set ?_ GE293.out) | exact HB.out)) hb); clear BK292; clear BK293; clear HB; have BK292 := n0_; have BK293 := n1_; have HB := n2_; clear n0_ n1_ n2_; (try clear hb); (try clear hb2); (try clear hk); (try clear hi); have hcz49_0 : w48.cell? ⟨gb293, 0, none⟩ = some (.int .i64 a1_0) := (blk_cell BK293.out 0).trans rfl; have hcz49_1 : w48.cell? ⟨gb293, 1, none⟩ = some (.int .i64 a1_1) := (blk_cell BK293.out 1).trans rfl; have hcz49_2 : w48.cell? ⟨gb293, 2, none⟩ = some (.bool a1_2) := (blk_cell BK293.out 2).trans rfl; have hfz49_0 := blk_frozen BK293.out 0; have hfz49_1 := blk_frozen BK293.out 1; have hfz49_2 := blk_frozen BK293.out 2; have hcz50_0 : w48.cell? ⟨gb292, 0, none⟩ = some (.int .i64 a0_0) := (blk_cell BK292.out 0).trans rfl; have hcz50_1 : w48.cell? ⟨gb292, 1, none⟩ = some (.int .i64 a0_1) := (blk_cell BK292.out 1).trans rfl; have hcz50_2 : w48.cell? ⟨gb292, 2, none⟩ = some (.bool a0_2) := (blk_cell BK292.out 2).trans rfl; have hfz50_0 := blk_frozen BK292.out 0; have hfz50_1 := blk_frozen BK292.out 1; have hfz50_2 := blk_frozen BK292.out 2) | (go_at_call 25; (with_reducible refine (frac_Frac_Sub.calls k a1_0 a1_1 a1_2 a0_0 a0_1 a0_2 t311 t312 true _ A20.out).mono ?_); rintro e w51 ⟨rfl, hb⟩; have n0_ := Aside0.mk (blk_below (g := gb292) (o := .cells #[.int .i64 a0_0, .int .i64 a0_1, .bool a0_2] 23 (0, 0)) (by (with_reducible repeat (first | refine blk_drewN ?_ _ | refine blk_drew ?_ | refine blk_alloc ?_ _)); exact BK292.out) hb); have n1_ := Aside0.mk (blk_below (g := gb293) (o := .cells #[.int .i64 a1_0, .int .i64 a1_1, .bool a1_2] 23 (0, 0)) (by (with_reducible repeat (first | refine blk_drewN ?_ _ | refine blk_drew ?_ | refine blk_alloc ?_ _)); exact BK293.out) hb); have n2_ := Aside0.mk (below_step (by repeat (first | (with_reducible first | exact HB.out | apply below_alloc | apply pw_below_drewN | apply below_drew1 | refine below_set ?_ GE292.out | refine below_set ?_ GE293.out) | exact HB.out)) hb); clear BK292; clear BK293; clear HB; have BK292 := n0_; have BK293 := n1_; have HB := n2_; clear n0_ n1_ n2_; (try clear hb); (try clear hb2); (try clear hk); (try clear hi); have hcz52_0 : w51.cell? ⟨gb292, 0, none⟩ = some (.int .i64 a0_0) := (blk_cell BK292.out 0).trans rfl; have hcz52_1 : w51.cell? ⟨gb292, 1, none⟩ = some (.int .i64 a0_1) := (blk_cell BK292.out 1).trans rfl; have hcz52_2 : w51.cell? ⟨gb292, 2, none⟩ = some (.bool a0_2) := (blk_cell BK292.out 2).trans rfl; have hfz52_0 := blk_frozen BK292.out 0; have hfz52_1 := blk_frozen BK292.out 1; have hfz52_2 := blk_frozen BK292.out 2; have hcz53_0 : w51.cell? ⟨gb293, 0, none⟩ = some (.int .i64 a1_0) := (blk_cell BK293.out 0).trans rfl; have hcz53_1 : w51.cell? ⟨gb293, 1, none⟩ = some (.int .i64 a1_1) := (blk_cell BK293.out 1).trans rfl; have hcz53_2 : w51.cell? ⟨gb293, 2, none⟩ = some (.bool a1_2) := (blk_cell BK293.out 2).trans rfl; have hfz53_0 := blk_frozen BK293.out 0; have hfz53_1 := blk_frozen BK293.out 1; have hfz53_2 := blk_frozen BK293.out 2) | (go_at_call 23; (with_reducible refine (frac_Frac_Mul.calls k a0_0 a0_1 a0_2 a1_0 a1_1 a1_2 t314 t315 true _ A22.out).mono ?_); rintro e w54 ⟨rfl, hb⟩; have n0_ := Aside0.mk (blk_below (g := gb292) (o := .cells #[.int .i64 a0_0, .int .i64 a0_1, .bool a0_2] 23 (0, 0)) (by (with_reducible repeat (first | refine blk_drewN ?_ _ | refine blk_drew ?_ | refine blk_alloc ?_ _)); exact BK292.out) hb); have n1_ := Aside0.mk (blk_below (g := gb293) (o := .cells #[.int .i64 a1_0, .int .i64 a1_1, .bool a1_2] 23 (0, 0)) (by (with_reducible repeat (first | refine blk_drewN ?_ _ | refine blk_drew ?_ | refine blk_alloc ?_ _)); exact BK293.out) hb); have n2_ := Aside0.mk (below_step (by repeat (first | (with_reducible first | exact HB.out | apply below_alloc | apply pw_below_drewN | apply below_drew1 | refine below_set ?_ GE292.out | refine below_set ?_ GE293.out) | exact HB.out)) hb); clear BK292; clear BK293; clear HB; have BK292 := n0_; have BK293 := n1_; have HB := n2_; clear n0_ n1_ n2_; (try clear hb); (try clear hb2); (try clear hk); (try clear hi); have hcz55_0 : w54.cell? ⟨gb293, 0, none⟩ = some (.int .i64 a1_0) := (blk_cell BK293.out 0).trans rfl; have hcz55_1 : w54.cell? ⟨gb293, 1, none⟩ = some (.int .i64 a1_1) := (blk_cell BK293.out 1).trans rfl; have hcz55_2 : w54.cell? ⟨gb293, 2, none⟩ = some (.bool a1_2) := (blk_cell BK293.out 2).trans rfl; have hfz55_0 := blk_frozen BK293.out 0; have hfz55_1 := blk_frozen BK293.out 1; have hfz55_2 := blk_frozen BK293.out 2; have hcz56_0 : w54.cell? ⟨gb292, 0, none⟩ = some (.int .i64 a0_0) := (blk_cell BK292.out 0).trans rfl; have hcz56_1 : w54.cell? ⟨gb292, 1, none⟩ = some (.int .i64 a0_1) := (blk_cell BK292.out 1).trans rfl; have hcz56_2 : w54.cell? ⟨gb292, 2, none⟩ = some (.bool a0_2) := (blk_cell BK292.out 2).trans rfl; have hfz56_0 := blk_frozen BK292.out 0; have hfz56_1 := blk_frozen BK292.out 1; have hfz56_2 := blk_frozen BK292.out 2) | (go_at_call 17; (with_reducible refine (frac_Frac_Div.calls k a1_0 a1_1 a1_2 a0_0 a0_1 a0_2 t317 t318 true _ A24.out).mono ?_); rintro e w57 ⟨rfl, hb⟩; have n0_ := Aside0.mk (blk_below (g := gb292) (o := .cells #[.int .i64 a0_0, .int .i64 a0_1, .bool a0_2] 23 (0, 0)) (by (with_reducible repeat (first | refine blk_drewN ?_ _ | refine blk_drew ?_ | refine blk_alloc ?_ _)); exact BK292.out) hb); have n1_ := Aside0.mk (blk_below (g := gb293) (o := .cells #[.int .i64 a1_0, .int .i64 a1_1, .bool a1_2] 23 (0, 0)) (by (with_reducible repeat (first | refine blk_drewN ?_ _ | refine blk_drew ?_ | refine blk_alloc ?_ _)); exact BK293.out) hb); have n2_ := Aside0.mk (below_step (by repeat (first | (with_reducible first | exact HB.out | apply below_alloc | apply pw_below_drewN | apply below_drew1 | refine below_set ?_ GE292.out | refine below_set ?_ GE293.out) | exact HB.out)) hb); clear BK292; clear BK293; clear HB; have BK292 := n0_; have BK293 := n1_; have HB := n2_; clear n0_ n1_ n2_; (try clear hb); (try clear hb2); (try clear hk); (try clear hi); have hcz58_0 : w57.cell? ⟨gb292, 0, none⟩ = some (.int .i64 a0_0) := (blk_cell BK292.out 0).trans rfl; have hcz58_1 : w57.cell? ⟨gb292, 1, none⟩ = some (.int .i64 a0_1) := (blk_cell BK292.out 1).trans rfl; have hcz58_2 : w57.cell? ⟨gb292, 2, none⟩ = some (.bool a0_2) := (blk_cell BK292.out 2).trans rfl; have hfz58_0 := blk_frozen BK292.out 0; have hfz58_1 := blk_frozen BK292.out 1; have hfz58_2 := blk_frozen BK292.out 2) | (go_at_call 19; (with_reducible refine (frac_Frac_Root.calls k a0_0 a0_1 a0_2 t320 t321 true _ A26.out).mono ?_); rintro e w59 ⟨rfl, hb⟩; have n0_ := Aside0.mk (blk_below (g := gb292) (o := .cells #[.int .i64 a0_0, .int .i64 a0_1, .bool a0_2] 23 (0, 0)) (by (with_reducible repeat (first | refine blk_drewN ?_ _ | refine blk_drew ?_ | refine blk_alloc ?_ _)); exact BK292.out) hb); have n1_ := Aside0.mk (blk_below (g := gb293) (o := .cells #[.int .i64 a1_0, .int .i64 a1_1, .bool a1_2] 23 (0, 0)) (by (with_reducible repeat (first | refine blk_drewN ?_ _ | refine blk_drew ?_ | refine blk_alloc ?_ _)); exact BK293.out) hb); have n2_ := Aside0.mk (below_step (by repeat (first | (with_reducible first | exact HB.out | apply below_alloc | apply pw_below_drewN | apply below_drew1 | refine below_set ?_ GE292.out | refine below_set ?_ GE293.out) | exact HB.out)) hb); clear BK292; clear BK293; clear HB; have BK292 := n0_; have BK293 := n1_; have HB := n2_; clear n0_ n1_ n2_; (try clear hb); (try clear hb2); (try clear hk); (try clear hi); have hcz60_0 : w59.cell? ⟨gb292, 0, none⟩ = some (.int .i64 a0_0) := (blk_cell BK292.out 0).trans rfl; have hcz60_1 : w59.cell? ⟨gb292, 1, none⟩ = some (.int .i64 a0_1) := (blk_cell BK292.out 1).trans rfl; have hcz60_2 : w59.cell? ⟨gb292, 2, none⟩ = some (.bool a0_2) := (blk_cell BK292.out 2).trans rfl; have hfz60_0 := blk_frozen BK292.out 0; have hfz60_1 := blk_frozen BK292.out 1; have hfz60_2 := blk_frozen BK292.out 2) | (go_at_call 18; (with_reducible refine (frac_Frac_Neg.calls k a0_0 a0_1 a0_2 t323 t324 true _ A28.out).mono ?_); rintro e w61 ⟨rfl, hb⟩; have n0_ := Aside0.mk (blk_below (g := gb292) (o := .cells #[.int .i64 a0_0, .int .i64 a0_1, .bool a0_2] 23 (0, 0)) (by (with_reducible repeat (first | refine blk_drewN ?_ _ | refine blk_drew ?_ | refine blk_alloc ?_ _)); exact BK292.out) hb); have n1_ := Aside0.mk (blk_below (g := gb293) (o := .cells #[.int .i64 a1_0, .int .i64 a1_1, .bool a1_2] 23 (0, 0)) (by (with_reducible repeat (first | refine blk_drewN ?_ _ | refine blk_drew ?_ | refine blk_alloc ?_ _)); exact BK293.out) hb); have n2_ := Aside0.mk (below_step (by repeat (first | (with_reducible first | exact HB.out | apply below_alloc | apply pw_below_drewN | apply below_drew1 | refine below_set ?_ GE292.out | refine below_set ?_ GE293.out) | exact HB.out)) hb); clear BK292; clear BK293; clear HB; have BK292 := n0_; have BK293 := n1_; have HB := n2_; clear n0_ n1_ n2_; (try clear hb); (try clear hb2); (try clear hk); (try clear hi); have hcz62_0 : w61.cell? ⟨gb292, 0, none⟩ = some (.int .i64 a0_0) := (blk_cell BK292.out 0).trans rfl; have hcz62_1 : w61.cell? ⟨gb292, 1, none⟩ = some (.int .i64 a0_1) := (blk_cell BK292.out 1).trans rfl; have hcz62_2 : w61.cell? ⟨gb292, 2, none⟩ = some (.bool a0_2) := (blk_cell BK292.out 2).trans rfl; have hfz62_0 := blk_frozen BK292.out 0; have hfz62_1 := blk_frozen BK292.out 1; have hfz62_2 := blk_frozen BK292.out 2) | (go_at_call 21; (with_reducible refine (frac_Frac_Sign.calls k a0_0 a0_1 a0_2 t326 _ A30.out).mono ?_); rintro e w63 ⟨rfl, hb⟩; have n0_ := Aside0.mk (blk_below (g := gb292) (o := .cells #[.int .i64 a0_0, .int .i64 a0_1, .bool a0_2] 23 (0, 0)) (by (with_reducible repeat (first | refine blk_drewN ?_ _ | refine blk_drew ?_ | refine blk_alloc ?_ _)); exact BK292.out) hb); have n1_ := Aside0.mk (blk_below (g := gb293) (o := .cells #[.int .i64 a1_0, .int .i64 a1_1, .bool a1_2] 23 (0, 0)) (by (with_reducible repeat (first | refine blk_drewN ?_ _ | refine blk_drew ?_ | refine blk_alloc ?_ _)); exact BK293.out) hb); have n2_ := Aside0.mk (below_step (by repeat (first | (with_reducible first | exact HB.out | apply below_alloc | apply pw_below_drewN | apply below_drew1 | refine below_set ?_ GE292.out | refine below_set ?_ GE293.out) | exact HB.out)) hb); clear BK292; clear BK293; clear HB; have BK292 := n0_; have BK293 := n1_; have HB := n2_; clear n0_ n1_ n2_; (try clear hb); (try clear hb2); (try clear hk); (try clear hi)) | (go_at_call 12; (with_reducible refine (coupletlaw04_awake.calls k  t327 _ A32.out).mono ?_); rintro e w64 ⟨rfl, hb⟩; have n0_ := Aside0.mk (blk_below (g := gb292) (o := .cells #[.int .i64 a0_0, .int .i64 a0_1, .bool a0_2] 23 (0, 0)) (by (with_reducible repeat (first | refine blk_drewN ?_ _ | refine blk_drew ?_ | refine blk_alloc ?_ _)); exact BK292.out) hb); have n1_ := Aside0.mk (blk_below (g := gb293) (o := .cells #[.int .i64 a1_0, .int .i64 a1_1, .bool a1_2] 23 (0, 0)) (by (with_reducible repeat (first | refine blk_drewN ?_ _ | refine blk_drew ?_ | refine blk_alloc ?_ _)); exact BK293.out) hb); have n2_ := Aside0.mk (below_step (by repeat (first | (with_reducible first | exact HB.out | apply below_alloc | apply pw_below_drewN | apply below_drew1 | refine below_set ?_ GE292.out | refine below_set ?_ GE293.out) | exact HB.out)) hb); clear BK292; clear BK293; clear HB; have BK292 := n0_; have BK293 := n1_; have HB := n2_; clear n0_ n1_ n2_; (try clear hb); (try clear hb2); (try clear hk); (try clear hi)))
                      go_ret
                      exact ⟨by first | rfl | (simp [errW_none, errW_some] <;> rfl) | (simp [*, errW_none, errW_some] <;> rfl), by repeat (first | (with_reducible first | exact HB.out | apply below_alloc | apply pw_below_drewN | apply below_drew1 | refine below_set ?_ GE292.out | refine below_set ?_ GE293.out) | exact HB.out)⟩
                    · rw [if_neg c31] at H
                      have c31b0 : (t326 == 0) = false := beq_eq_false_iff_ne.mpr c31
                      have c31b1 : (t326 != 0) = true := bne_iff_ne.mpr c31
                      obtain rfl := Option.some.inj H
                      exact absurd hr (by decide)
                  · replace c29 := Bool.eq_false_iff.mpr c29
                    subst c29
                    have H1 : (some false) = some r := by rw [if_neg (show ¬ (false = true) by decide)] at H; exact H
                    clear H
                    have H := H1
                    clear H1
                    obtain rfl := Option.some.inj H
                    exact absurd hr (by decide)
                · replace c27 := Bool.eq_false_iff.mpr c27
                  subst c27
                  have H1 : (some false) = some r := by rw [if_neg (show ¬ (false = true) by decide)] at H; exact H
                  clear H
                  have H := H1
                  clear H1
                  obtain rfl := Option.some.inj H
                  exact absurd hr (by decide)
              · replace c25 := Bool.eq_false_iff.mpr c25
                subst c25
                have H1 : (some false) = some r := by rw [if_neg (show ¬ (false = true) by decide)] at H; exact H
                clear H
                have H := H1
                clear H1
                obtain rfl := Option.some.inj H
                exact absurd hr (by decide)
            · replace c23 := Bool.eq_false_iff.mpr c23
              subst c23
              have H1 : (some false) = some r := by rw [if_neg (show ¬ (false = true) by decide)] at H; exact H
              clear H
              have H := H1
              clear H1
              obtain rfl := Option.some.inj H
              exact absurd hr (by decide)
          · replace c21 := Bool.eq_false_iff.mpr c21
            subst c21
            have H1 : (some false) = some r := by rw [if_neg (show ¬ (false = true) by decide)] at H; exact H
            clear H
            have H := H1
            clear H1
            obtain rfl := Option.some.inj H
            exact absurd hr (by decide)
        · replace c19 := Bool.eq_false_iff.mpr c19
          subst c19
          have H1 : (some false) = some r := by rw [if_neg (show ¬ (false = true) by decide)] at H; exact H
          clear H
          have H := H1
          clear H1
          obtain rfl := Option.some.inj H
          exact absurd hr (by decide)
      · rw [if_neg c17] at H
        have c17b0 : (t302 == t299 && (t303 == t300 && (t304 == t301))) = false := by simpa using c17
        (try (have c17b1 : decide (t302 = t299 && (t303 == t300 && (t304 == t301))) = false := by simpa using c17))
        (try (have c17b2 : (t302 == t299 && (t303 == t300 && (t304 == t301))) = false := by simpa using c17))
        (try (have c17b3 : ¬ (t302 = t299 && (t303 == t300 && (t304 == t301))) := by simpa using c17))
        clear c17
        obtain rfl := Option.some.inj H
        exact absurd hr (by decide)
    · rw [if_neg c14] at H
      have c14b0 : (t296 == t299 && (t297 == t300 && (t298 == t301))) = false := by simpa using c14
      (try (have c14b1 : decide (t296 = t299 && (t297 == t300 && (t298 == t301))) = false := by simpa using c14))
      (try (have c14b2 : (t296 == t299 && (t297 == t300 && (t298 == t301))) = false := by simpa using c14))
      (try (have c14b3 : ¬ (t296 = t299 && (t297 == t300 && (t298 == t301))) := by simpa using c14))
      clear c14
      obtain rfl := Option.some.inj H
      exact absurd hr (by decide)

/-! ### coupletlaw04_FracSquares: function 6 -/
def coupletlaw04_FracSquares.j0 : Nat → Bool → Int → Int → Bool → Option (Bool)
  | 0, _, _, _, _ => none
  | k + 1, x21, x329000, x329001, x329002 => if x21 = true then ((coupletlaw04_awake.f k).bind fun t330 => (some t330)) else ((frac_Frac_Mul.f k x329000 x329001 x329002 x329000 x329001 x329002).bind fun bt331 => ((frac_Frac_Root.f k bt331.1 bt331.2.1 bt331.2.2).bind fun bt334 => (if x329000 < 0 then ((frac_Frac_Neg.f k x329000 x329001 x329002).bind fun bt338 => (if (bt334.1 == bt338.1 && (bt334.2.1 == bt338.2.1 && (bt334.2.2 == bt338.2.2))) = true then ((coupletlaw04_awake.f k).bind fun t341 => (some t341)) else (some false))) else (if (bt334.1 == x329000 && (bt334.2.1 == x329001 && (bt334.2.2 == x329002))) = true then ((coupletlaw04_awake.f k).bind fun t342 => (some t342)) else (some false)))))
def coupletlaw04_FracSquares.f (k : Nat) (a0_0 : Int) (a0_1 : Int) (a0_2 : Bool) : Option (Bool) := (coupletlaw04_fine.f k a0_0 a0_1 a0_2).bind fun t329 => (if t329 = true then (if a0_0 < (-32768) then (coupletlaw04_FracSquares.j0 k true a0_0 a0_1 a0_2) else (if a0_0 > 32768 then (coupletlaw04_FracSquares.j0 k true a0_0 a0_1 a0_2) else (coupletlaw04_FracSquares.j0 k (decide (a0_1 > 32768)) a0_0 a0_1 a0_2))) else (coupletlaw04_FracSquares.j0 k true a0_0 a0_1 a0_2))
theorem coupletlaw04_FracSquares.mono_l : ∀ k, (∀ y0 y1 y2 y3, LeO (coupletlaw04_FracSquares.j0 k y0 y1 y2 y3) (coupletlaw04_FracSquares.j0 (k + 1) y0 y1 y2 y3))
  | 0 => fun _ _ _ _ r h => by simp [coupletlaw04_FracSquares.j0] at h
  | k + 1 => by
    have ih0 := coupletlaw04_FracSquares.mono_l k
    · intro y0 y1 y2 y3
      unfold coupletlaw04_FracSquares.j0
      repeat' first
      | (with_reducible exact ih0 _ _ _ _)
      | (with_reducible exact coupletlaw04_awake.mono _)
      | (with_reducible exact coupletlaw04_fine.mono _ _ _ _)
      | (with_reducible exact frac_Frac_Mul.mono _ _ _ _ _ _ _)
      | (with_reducible exact frac_Frac_Neg.mono _ _ _ _)
      | (with_reducible exact frac_Frac_Root.mono _ _ _ _)
      | (with_reducible exact LeO.refl _)
      | (with_reducible exact LeO.none _)
      | (with_reducible refine LeO.ite ?_ ?_)
      | (with_reducible refine LeO.bind ?_ (fun _ => ?_))
      | exact ih0 _ _ _ _
      | exact coupletlaw04_awake.mono _
      | exact coupletlaw04_fine.mono _ _ _ _
      | exact frac_Frac_Mul.mono _ _ _ _ _ _ _
      | exact frac_Frac_Neg.mono _ _ _ _
      | exact frac_Frac_Root.mono _ _ _ _
      | exact LeO.none _
      | refine LeO.ite ?_ ?_
      | refine LeO.bind ?_ (fun _ => ?_)
theorem coupletlaw04_FracSquares.mono : ∀ a0 a1 a2 k, LeO (coupletlaw04_FracSquares.f k a0 a1 a2) (coupletlaw04_FracSquares.f (k + 1) a0 a1 a2) := by
  intro a0 a1 a2 k
  have ih0 := coupletlaw04_FracSquares.mono_l k
  unfold coupletlaw04_FracSquares.f
  repeat' first
      | (with_reducible exact ih0 _ _ _ _)
      | (with_reducible exact coupletlaw04_awake.mono _)
      | (with_reducible exact coupletlaw04_fine.mono _ _ _ _)
      | (with_reducible exact frac_Frac_Mul.mono _ _ _ _ _ _ _)
      | (with_reducible exact frac_Frac_Neg.mono _ _ _ _)
      | (with_reducible exact frac_Frac_Root.mono _ _ _ _)
      | (with_reducible exact LeO.refl _)
      | (with_reducible exact LeO.none _)
      | (with_reducible refine LeO.ite ?_ ?_)
      | (with_reducible refine LeO.bind ?_ (fun _ => ?_))
      | exact ih0 _ _ _ _
      | exact coupletlaw04_awake.mono _
      | exact coupletlaw04_fine.mono _ _ _ _
      | exact frac_Frac_Mul.mono _ _ _ _ _ _ _
      | exact frac_Frac_Neg.mono _ _ _ _
      | exact frac_Frac_Root.mono _ _ _ _
      | exact LeO.none _
      | refine LeO.ite ?_ ?_
      | refine LeO.bind ?_ (fun _ => ?_)
def coupletlaw04_FracSquares.T5 : Bool × List (List Nat × List Nat) := (true, [([], []), ([], []), ([1], [1]), ([0, 2], [0, 2]), ([3, 2], [3]), ([4, 4], [4]), ([4, 5], [4, 5]), ([6, 5, 0, 1, 2, 3, 4, 5, 6], [6])])
def coupletlaw04_FracSquares.B5 : List Nat := [0, 0, 2, 7, 15, 31, 63, 127]
theorem coupletlaw04_FracSquares.tab5 : rtab .any (opsOf Try.f6 5) = coupletlaw04_FracSquares.T5 := by kernel_rfl
theorem coupletlaw04_FracSquares.bits5 : waitsOk coupletlaw04_FracSquares.T5.2 coupletlaw04_FracSquares.B5 = true := by kernel_rfl
set_option maxHeartbeats 8000000 in
set_option maxRecDepth 100000 in
theorem coupletlaw04_FracSquares.calls (k : Nat) (a0_0 : Int) (a0_1 : Int) (a0_2 : Bool) (r : Bool) (w : World) (hr : r = true) (h : coupletlaw04_FracSquares.f k a0_0 a0_1 a0_2 = some r) :
    Calls Try.prog 6 #[.agg #[.int .i64 a0_0, .int .i64 a0_1, .bool a0_2]] w fun e w' => e = .returned (.bool r) ∧ Below w.heap.size w w' := by
  have hu23 := Try.underlying23
  have HB := Aside0.mk (Below.refl w.heap.size w)
  have H : ((coupletlaw04_fine.f k a0_0 a0_1 a0_2).bind fun t329 => (if t329 = true then (if a0_0 < (-32768) then (coupletlaw04_FracSquares.j0 k true a0_0 a0_1 a0_2) else (if a0_0 > 32768 then (coupletlaw04_FracSquares.j0 k true a0_0 a0_1 a0_2) else (coupletlaw04_FracSquares.j0 k (decide (a0_1 > 32768)) a0_0 a0_1 a0_2))) else (coupletlaw04_FracSquares.j0 k true a0_0 a0_1 a0_2))) = some r := h
  clear h
  have HC2 := Aside0.mk H
  clear H
  go_enter Try.func6, Try.ntmps6
  go_upto_region 1 with (first | ((with_reducible refine gate_dst (N := 1) rfl ?_); refine box_event ?hg (N := 1) ?hd (cs := #[.int .i64 a0_0, .int .i64 a0_1, .bool a0_2]) (t := 23) ?hr ?_; (case hd => rfl); (case hg => rfl); (case hr => first | (go_simp; done) | (go_simp; rfl)); intro gb328 hg w3 hbox hb; have n0_ := Aside0.mk (below_step (by repeat (first | (with_reducible first | exact HB.out | apply below_alloc | apply pw_below_drewN | apply below_drew1) | exact HB.out)) hb); have n1_ := Aside0.mk (hbox); have n2_ := Aside0.mk ((by rw [hg]; exact (below_size (by repeat (first | (with_reducible first | exact HB.out | apply below_alloc | apply pw_below_drewN | apply below_drew1) | exact HB.out))) : w.heap.size ≤ gb328)); have n3_ := Aside0.mk ((by rw [hg]; exact (below_size (by repeat (first | (with_reducible first | exact HB.out | apply below_alloc | apply pw_below_drewN | apply below_drew1) | exact HB.out))) : w.heap.size ≤ gb328)); clear HB; have HB := n0_; have BK328 := n1_; have GW328 := n2_; have GE328 := n3_; clear n0_ n1_ n2_ n3_; clear hb hbox hg))
  (try simp only [Act.put, List.setIfInBounds_toArray, List.set_cons_zero, List.set_cons_succ])
  go_cut [21] (fun v21 wc => ∃ (kq : Nat) (x21_1 : Bool), v21 = .bool x21_1 ∧ Aside0 (coupletlaw04_FracSquares.j0 kq x21_1 a0_0 a0_1 a0_2 = some r) ∧ Aside0 (kq ≤ k) ∧ Aside0 (wc.heap[gb328]? = some (.cells #[.int .i64 a0_0, .int .i64 a0_1, .bool a0_2] 23 (0, 0))) ∧ Aside0 (Below w.heap.size w wc))
  case first =>
    have H := HC2.out
    clear HC2
    replace H := Option.bind_eq_some_iff.mp H
    obtain ⟨t329, A40, H⟩ := H
    replace H : (if t329 = true then (if a0_0 < (-32768) then (coupletlaw04_FracSquares.j0 k true a0_0 a0_1 a0_2) else (if a0_0 > 32768 then (coupletlaw04_FracSquares.j0 k true a0_0 a0_1 a0_2) else (coupletlaw04_FracSquares.j0 k (decide (a0_1 > 32768)) a0_0 a0_1 a0_2))) else (coupletlaw04_FracSquares.j0 k true a0_0 a0_1 a0_2)) = some r := H
    have A4 := Aside0.mk A40
    clear A40
    by_cases c5 : t329 = true
    · subst c5
      have H1 : (if a0_0 < (-32768) then (coupletlaw04_FracSquares.j0 k true a0_0 a0_1 a0_2) else (if a0_0 > 32768 then (coupletlaw04_FracSquares.j0 k true a0_0 a0_1 a0_2) else (coupletlaw04_FracSquares.j0 k (decide (a0_1 > 32768)) a0_0 a0_1 a0_2))) = some r := by rw [if_pos rfl] at H; exact H
      clear H
      have H := H1
      clear H1
      by_cases c6 : a0_0 < (-32768)
      · rw [if_pos c6] at H
        have c6b0 : decide (a0_0 < (-32768)) = true := decide_eq_true c6
        clear c6
        (first | rw [c6b0] | (simp only [i64_w, i32_w]; rw [c6b0]) | skip)
        have H' := Aside0.mk H
        clear H
        have hcz7_0 : w3.cell? ⟨gb328, 0, none⟩ = some (.int .i64 a0_0) := (blk_cell BK328.out 0).trans rfl
        have hcz7_1 : w3.cell? ⟨gb328, 1, none⟩ = some (.int .i64 a0_1) := (blk_cell BK328.out 1).trans rfl
        have hcz7_2 : w3.cell? ⟨gb328, 2, none⟩ = some (.bool a0_2) := (blk_cell BK328.out 2).trans rfl
        have hfz7_0 := blk_frozen BK328.out 0
        have hfz7_1 := blk_frozen BK328.out 1
        have hfz7_2 := blk_frozen BK328.out 2
        go_wp2_with (first | ((with_reducible refine gate_callee (f := 13) rfl ?_); refine goesL_ (some 5) rfl rfl Try.func13 (by kernel_rfl) rfl #[.agg #[.int .i64 a0_0, .int .i64 a0_1, .bool a0_2]] rfl (by (try simp only [List.map_toArray, List.map_cons, List.map_nil]); first | done | rfl | (simp only [List.length_drop, List.length_take]; rfl)) ?_; (with_reducible refine (coupletlaw04_fine.calls k a0_0 a0_1 a0_2 true _ A4.out).mono ?_); rintro e w8 ⟨rfl, hb⟩; refine ⟨_, rfl, ?_⟩; have n0_ := Aside0.mk (blk_below (g := gb328) (o := .cells #[.int .i64 a0_0, .int .i64 a0_1, .bool a0_2] 23 (0, 0)) (by (with_reducible repeat (first | refine blk_drewN ?_ _ | refine blk_drew ?_ | refine blk_alloc ?_ _)); exact BK328.out) hb); have n1_ := Aside0.mk (below_step (by repeat (first | (with_reducible first | exact HB.out | apply below_alloc | apply pw_below_drewN | apply below_drew1 | refine below_set ?_ GE328.out) | exact HB.out)) hb); clear BK328; clear HB; have BK328 := n0_; have HB := n1_; clear n0_ n1_; (try clear hb); (try clear hb2); (try clear hk); (try clear hi); have hcz9_0 : w8.cell? ⟨gb328, 0, none⟩ = some (.int .i64 a0_0) := (blk_cell BK328.out 0).trans rfl; have hcz9_1 : w8.cell? ⟨gb328, 1, none⟩ = some (.int .i64 a0_1) := (blk_cell BK328.out 1).trans rfl; have hcz9_2 : w8.cell? ⟨gb328, 2, none⟩ = some (.bool a0_2) := (blk_cell BK328.out 2).trans rfl; have hfz9_0 := blk_frozen BK328.out 0; have hfz9_1 := blk_frozen BK328.out 1; have hfz9_2 := blk_frozen BK328.out 2))
        go_meet
        case rel => exact ⟨_, (true), (by first | rfl | (simp; done) | (simp [*]; done)), H', ⟨by first | omega | exact Nat.le_refl _⟩, ⟨by (with_reducible repeat (first | refine blk_drewN ?_ _ | refine blk_drew ?_ | refine blk_alloc ?_ _)); exact BK328.out⟩, ⟨by repeat (first | (with_reducible first | exact HB.out | apply below_alloc | apply pw_below_drewN | apply below_drew1 | refine below_set ?_ GE328.out) | exact HB.out)⟩⟩
      · rw [if_neg c6] at H
        have c6b0 : decide (a0_0 < (-32768)) = false := decide_eq_false c6
        clear c6
        (first | rw [c6b0] | (simp only [i64_w, i32_w]; rw [c6b0]) | skip)
        by_cases c10 : a0_0 > 32768
        · rw [if_pos c10] at H
          have c10b0 : decide (32768 < a0_0) = true := decide_eq_true c10
          clear c10
          have H' := Aside0.mk H
          clear H
          have hcz11_0 : w3.cell? ⟨gb328, 0, none⟩ = some (.int .i64 a0_0) := (blk_cell BK328.out 0).trans rfl
          have hcz11_1 : w3.cell? ⟨gb328, 1, none⟩ = some (.int .i64 a0_1) := (blk_cell BK328.out 1).trans rfl
          have hcz11_2 : w3.cell? ⟨gb328, 2, none⟩ = some (.bool a0_2) := (blk_cell BK328.out 2).trans rfl
          have hfz11_0 := blk_frozen BK328.out 0
          have hfz11_1 := blk_frozen BK328.out 1
          have hfz11_2 := blk_frozen BK328.out 2
          go_wp2_with (first | ((with_reducible refine gate_callee (f := 13) rfl ?_); refine goesL_ (some 5) rfl rfl Try.func13 (by kernel_rfl) rfl #[.agg #[.int .i64 a0_0, .int .i64 a0_1, .bool a0_2]] rfl (by (try simp only [List.map_toArray, List.map_cons, List.map_nil]); first | done | rfl | (simp only [List.length_drop, List.length_take]; rfl)) ?_; (with_reducible refine (coupletlaw04_fine.calls k a0_0 a0_1 a0_2 true _ A4.out).mono ?_); rintro e w12 ⟨rfl, hb⟩; refine ⟨_, rfl, ?_⟩; have n0_ := Aside0.mk (blk_below (g := gb328) (o := .cells #[.int .i64 a0_0, .int .i64 a0_1, .bool a0_2] 23 (0, 0)) (by (with_reducible repeat (first | refine blk_drewN ?_ _ | refine blk_drew ?_ | refine blk_alloc ?_ _)); exact BK328.out) hb); have n1_ := Aside0.mk (below_step (by repeat (first | (with_reducible first | exact HB.out | apply below_alloc | apply pw_below_drewN | apply below_drew1 | refine below_set ?_ GE328.out) | exact HB.out)) hb); clear BK328; clear HB; have BK328 := n0_; have HB := n1_; clear n0_ n1_; (try clear hb); (try clear hb2); (try clear hk); (try clear hi); have hcz13_0 : w12.cell? ⟨gb328, 0, none⟩ = some (.int .i64 a0_0) := (blk_cell BK328.out 0).trans rfl; have hcz13_1 : w12.cell? ⟨gb328, 1, none⟩ = some (.int .i64 a0_1) := (blk_cell BK328.out 1).trans rfl; have hcz13_2 : w12.cell? ⟨gb328, 2, none⟩ = some (.bool a0_2) := (blk_cell BK328.out 2).trans rfl; have hfz13_0 := blk_frozen BK328.out 0; have hfz13_1 := blk_frozen BK328.out 1; have hfz13_2 := blk_frozen BK328.out 2))
          go_meet
          case rel => exact ⟨_, (true), (by first | rfl | (simp; done) | (simp [*]; done)), H', ⟨by first | omega | exact Nat.le_refl _⟩, ⟨by (with_reducible repeat (first | refine blk_drewN ?_ _ | refine blk_drew ?_ | refine blk_alloc ?_ _)); exact BK328.out⟩, ⟨by repeat (first | (with_reducible first | exact HB.out | apply below_alloc | apply pw_below_drewN | apply below_drew1 | refine below_set ?_ GE328.out) | exact HB.out)⟩⟩
        · rw [if_neg c10] at H
          have c10b0 : decide (32768 < a0_0) = false := decide_eq_false c10
          clear c10
          have H' := Aside0.mk H
          clear H
          have hcz14_0 : w3.cell? ⟨gb328, 0, none⟩ = some (.int .i64 a0_0) := (blk_cell BK328.out 0).trans rfl
          have hcz14_1 : w3.cell? ⟨gb328, 1, none⟩ = some (.int .i64 a0_1) := (blk_cell BK328.out 1).trans rfl
          have hcz14_2 : w3.cell? ⟨gb328, 2, none⟩ = some (.bool a0_2) := (blk_cell BK328.out 2).trans rfl
          have hfz14_0 := blk_frozen BK328.out 0
          have hfz14_1 := blk_frozen BK328.out 1
          have hfz14_2 := blk_frozen BK328.out 2
          go_wp2_with (first | ((with_reducible refine gate_callee (f := 13) rfl ?_); refine goesL_ (some 5) rfl rfl Try.func13 (by kernel_rfl) rfl #[.agg #[.int .i64 a0_0, .int .i64 a0_1, .bool a0_2]] rfl (by (try simp only [List.map_toArray, List.map_cons, List.map_nil]); first | done | rfl | (simp only [List.length_drop, List.length_take]; rfl)) ?_; (with_reducible refine (coupletlaw04_fine.calls k a0_0 a0_1 a0_2 true _ A4.out).mono ?_); rintro e w15 ⟨rfl, hb⟩; refine ⟨_, rfl, ?_⟩; have n0_ := Aside0.mk (blk_below (g := gb328) (o := .cells #[.int .i64 a0_0, .int .i64 a0_1, .bool a0_2] 23 (0, 0)) (by (with_reducible repeat (first | refine blk_drewN ?_ _ | refine blk_drew ?_ | refine blk_alloc ?_ _)); exact BK328.out) hb); have n1_ := Aside0.mk (below_step (by repeat (first | (with_reducible first | exact HB.out | apply below_alloc | apply pw_below_drewN | apply below_drew1 | refine below_set ?_ GE328.out) | exact HB.out)) hb); clear BK328; clear HB; have BK328 := n0_; have HB := n1_; clear n0_ n1_; (try clear hb); (try clear hb2); (try clear hk); (try clear hi); have hcz16_0 : w15.cell? ⟨gb328, 0, none⟩ = some (.int .i64 a0_0) := (blk_cell BK328.out 0).trans rfl; have hcz16_1 : w15.cell? ⟨gb328, 1, none⟩ = some (.int .i64 a0_1) := (blk_cell BK328.out 1).trans rfl; have hcz16_2 : w15.cell? ⟨gb328, 2, none⟩ = some (.bool a0_2) := (blk_cell BK328.out 2).trans rfl; have hfz16_0 := blk_frozen BK328.out 0; have hfz16_1 := blk_frozen BK328.out 1; have hfz16_2 := blk_frozen BK328.out 2))
          go_meet
          case rel => exact ⟨_, (decide (a0_1 > 32768)), (by first | rfl | (simp; done) | (simp [*]; done)), H', ⟨by first | omega | exact Nat.le_refl _⟩, ⟨by (with_reducible repeat (first | refine blk_drewN ?_ _ | refine blk_drew ?_ | refine blk_alloc ?_ _)); exact BK328.out⟩, ⟨by repeat (first | (with_reducible first | exact HB.out | apply below_alloc | apply pw_below_drewN | apply below_drew1 | refine below_set ?_ GE328.out) | exact HB.out)⟩⟩
    · replace c5 := Bool.eq_false_iff.mpr c5
      subst c5
      have H1 : (coupletlaw04_FracSquares.j0 k true a0_0 a0_1 a0_2) = some r := by rw [if_neg (show ¬ (false = true) by decide)] at H; exact H
      clear H
      have H := H1
      clear H1
      have H' := Aside0.mk H
      clear H
      have hcz17_0 : w3.cell? ⟨gb328, 0, none⟩ = some (.int .i64 a0_0) := (blk_cell BK328.out 0).trans rfl
      have hcz17_1 : w3.cell? ⟨gb328, 1, none⟩ = some (.int .i64 a0_1) := (blk_cell BK328.out 1).trans rfl
      have hcz17_2 : w3.cell? ⟨gb328, 2, none⟩ = some (.bool a0_2) := (blk_cell BK328.out 2).trans rfl
      have hfz17_0 := blk_frozen BK328.out 0
      have hfz17_1 := blk_frozen BK328.out 1
      have hfz17_2 := blk_frozen BK328.out 2
      go_wp2_with (first | ((with_reducible refine gate_callee (f := 13) rfl ?_); refine goesL_ (some 5) rfl rfl Try.func13 (by kernel_rfl) rfl #[.agg #[.int .i64 a0_0, .int .i64 a0_1, .bool a0_2]] rfl (by (try simp only [List.map_toArray, List.map_cons, List.map_nil]); first | done | rfl | (simp only [List.length_drop, List.length_take]; rfl)) ?_; (with_reducible refine (coupletlaw04_fine.calls k a0_0 a0_1 a0_2 false _ A4.out).mono ?_); rintro e w18 ⟨rfl, hb⟩; refine ⟨_, rfl, ?_⟩; have n0_ := Aside0.mk (blk_below (g := gb328) (o := .cells #[.int .i64 a0_0, .int .i64 a0_1, .bool a0_2] 23 (0, 0)) (by (with_reducible repeat (first | refine blk_drewN ?_ _ | refine blk_drew ?_ | refine blk_alloc ?_ _)); exact BK328.out) hb); have n1_ := Aside0.mk (below_step (by repeat (first | (with_reducible first | exact HB.out | apply below_alloc | apply pw_below_drewN | apply below_drew1 | refine below_set ?_ GE328.out) | exact HB.out)) hb); clear BK328; clear HB; have BK328 := n0_; have HB := n1_; clear n0_ n1_; (try clear hb); (try clear hb2); (try clear hk); (try clear hi)))
      go_meet
      case rel => exact ⟨_, (true), (by first | rfl | (simp; done) | (simp [*]; done)), H', ⟨by first | omega | exact Nat.le_refl _⟩, ⟨by (with_reducible repeat (first | refine blk_drewN ?_ _ | refine blk_drew ?_ | refine blk_alloc ?_ _)); exact BK328.out⟩, ⟨by repeat (first | (with_reducible first | exact HB.out | apply below_alloc | apply pw_below_drewN | apply below_drew1 | refine below_set ?_ GE328.out) | exact HB.out)⟩⟩
  case rest =>
    clear HC2
    try clear c1
    try clear p2
    try clear c5
    try clear c6
    try clear c6b0
    try clear c10
    try clear c10b0
    try clear c13
    try clear hcz11_0
    try clear hcz11_1
    try clear hcz11_2
    try clear hcz13_0
    try clear hcz13_1
    try clear hcz13_2
    try clear hcz14_0
    try clear hcz14_1
    try clear hcz14_2
    try clear hcz16_0
    try clear hcz16_1
    try clear hcz16_2
    try clear hcz17_0
    try clear hcz17_1
    try clear hcz17_2
    try clear hcz7_0
    try clear hcz7_1
    try clear hcz7_2
    try clear hcz9_0
    try clear hcz9_1
    try clear hcz9_2
    try clear hfz11_0
    try clear hfz11_1
    try clear hfz11_2
    try clear hfz13_0
    try clear hfz13_1
    try clear hfz13_2
    try clear hfz14_0
    try clear hfz14_1
    try clear hfz14_2
    try clear hfz16_0
    try clear hfz16_1
    try clear hfz16_2
    try clear hfz17_0
    try clear hfz17_1
    try clear hfz17_2
    try clear hfz7_0
    try clear hfz7_1
    try clear hfz7_2
    try clear hfz9_0
    try clear hfz9_1
    try clear hfz9_2
    obtain ⟨kq, x21_1, rfl, HA, HJ1, BK328, HB⟩ := hcut
    cases kq with
    | zero => exact absurd HA.out (by simp [coupletlaw04_FracSquares.j0])
    | succ kj1 =>
      have H := HA.out
      clear HA
      simp only [coupletlaw04_FracSquares.j0] at H
      by_cases c19 : x21_1 = true
      · subst c19
        have H1 : ((coupletlaw04_awake.f kj1).bind fun t330 => (some t330)) = some r := by rw [if_pos rfl] at H; exact H
        clear H
        have H := H1
        clear H1
        replace H := Option.bind_eq_some_iff.mp H
        obtain ⟨t330, A200, H⟩ := H
        replace H : (some t330) = some r := H
        have A20 := Aside0.mk A200
        clear A200
        obtain rfl := Option.some.inj H
        go_wp2_with (first | ((with_reducible refine gate_callee (f := 12) rfl ?_); refine goesL_ (some 22) rfl rfl Try.func12 (by kernel_rfl) rfl #[] rfl (by (try simp only [List.map_toArray, List.map_cons, List.map_nil]); first | done | rfl | (simp only [List.length_drop, List.length_take]; rfl)) ?_; (with_reducible refine (coupletlaw04_awake.calls kj1  t330 _ A20.out).mono ?_); rintro e w21 ⟨rfl, hb⟩; refine ⟨_, rfl, ?_⟩; have n0_ := Aside0.mk (blk_below (g := gb328) (o := .cells #[.int .i64 a0_0, .int .i64 a0_1, .bool a0_2] 23 (0, 0)) (by (with_reducible repeat (first | refine blk_drewN ?_ _ | refine blk_drew ?_ | refine blk_alloc ?_ _)); exact BK328.out) hb); have n1_ := Aside0.mk (below_step (by repeat (first | (with_reducible first | exact HB.out | apply below_alloc | apply pw_below_drewN | apply below_drew1 | refine below_set ?_ GE328.out) | exact HB.out)) hb); clear BK328; clear HB; have BK328 := n0_; have HB := n1_; clear n0_ n1_; (try clear hb); (try clear hb2); (try clear hk); (try clear hi)))
        go_ret
        exact ⟨by first | rfl | (simp [errW_none, errW_some] <;> rfl) | (simp [*, errW_none, errW_some] <;> rfl), by repeat (first | (with_reducible first | exact HB.out | apply below_alloc | apply pw_below_drewN | apply below_drew1 | refine below_set ?_ GE328.out) | exact HB.out)⟩
      · replace c19 := Bool.eq_false_iff.mpr c19
        subst c19
        have H1 : ((frac_Frac_Mul.f kj1 a0_0 a0_1 a0_2 a0_0 a0_1 a0_2).bind fun bt331 => ((frac_Frac_Root.f kj1 bt331.1 bt331.2.1 bt331.2.2).bind fun bt334 => (if a0_0 < 0 then ((frac_Frac_Neg.f kj1 a0_0 a0_1 a0_2).bind fun bt338 => (if (bt334.1 == bt338.1 && (bt334.2.1 == bt338.2.1 && (bt334.2.2 == bt338.2.2))) = true then ((coupletlaw04_awake.f kj1).bind fun t341 => (some t341)) else (some false))) else (if (bt334.1 == a0_0 && (bt334.2.1 == a0_1 && (bt334.2.2 == a0_2))) = true then ((coupletlaw04_awake.f kj1).bind fun t342 => (some t342)) else (some false))))) = some r := by rw [if_neg (show ¬ (false = true) by decide)] at H; exact H
        clear H
        have H := H1
        clear H1
        replace H := Option.bind_eq_some_iff.mp H
        obtain ⟨⟨t331, t332, t333⟩, A220, H⟩ := H
        replace H : ((frac_Frac_Root.f kj1 t331 t332 t333).bind fun bt334 => (if a0_0 < 0 then ((frac_Frac_Neg.f kj1 a0_0 a0_1 a0_2).bind fun bt338 => (if (bt334.1 == bt338.1 && (bt334.2.1 == bt338.2.1 && (bt334.2.2 == bt338.2.2))) = true then ((coupletlaw04_awake.f kj1).bind fun t341 => (some t341)) else (some false))) else (if (bt334.1 == a0_0 && (bt334.2.1 == a0_1 && (bt334.2.2 == a0_2))) = true then ((coupletlaw04_awake.f kj1).bind fun t342 => (some t342)) else (some false)))) = some r := H
        have A22 := Aside0.mk A220
        clear A220
        replace H := Option.bind_eq_some_iff.mp H
        obtain ⟨⟨t334, t335, t336⟩, A230, H⟩ := H
        replace H : (if a0_0 < 0 then ((frac_Frac_Neg.f kj1 a0_0 a0_1 a0_2).bind fun bt338 => (if (t334 == bt338.1 && (t335 == bt338.2.1 && (t336 == bt338.2.2))) = true then ((coupletlaw04_awake.f kj1).bind fun t341 => (some t341)) else (some false))) else (if (t334 == a0_0 && (t335 == a0_1 && (t336 == a0_2))) = true then ((coupletlaw04_awake.f kj1).bind fun t342 => (some t342)) else (some false))) = some r := H
        have A23 := Aside0.mk A230
        clear A230
        by_cases c24 : a0_0 < 0
        · rw [if_pos c24] at H
          have c24b0 : decide (a0_0 < 0) = true := decide_eq_true c24
          clear c24
          replace H := Option.bind_eq_some_iff.mp H
          obtain ⟨⟨t338, t339, t340⟩, A250, H⟩ := H
          replace H : (if (t334 == t338 && (t335 == t339 && (t336 == t340))) = true then ((coupletlaw04_awake.f kj1).bind fun t341 => (some t341)) else (some false)) = some r := H
          have A25 := Aside0.mk A250
          clear A250
          by_cases c26 : (t334 == t338 && (t335 == t339 && (t336 == t340))) = true
          · rw [if_pos c26] at H
            have c26b0 : (t334 == t338 && (t335 == t339 && (t336 == t340))) = true := c26
            (try (have c26b1 : decide (t334 = t338 && (t335 == t339 && (t336 == t340))) = true := by simpa using c26))
            (try (have c26b2 : (t334 == t338 && (t335 == t339 && (t336 == t340))) = true := by simpa using c26))
            clear c26
            replace H := Option.bind_eq_some_iff.mp H
            obtain ⟨t341, A270, H⟩ := H
            replace H : (some t341) = some r := H
            have A27 := Aside0.mk A270
            clear A270
            obtain rfl := Option.some.inj H
            have hcz28_0 : wc.cell? ⟨gb328, 0, none⟩ = some (.int .i64 a0_0) := (blk_cell BK328.out 0).trans rfl
            have hcz28_1 : wc.cell? ⟨gb328, 1, none⟩ = some (.int .i64 a0_1) := (blk_cell BK328.out 1).trans rfl
            have hcz28_2 : wc.cell? ⟨gb328, 2, none⟩ = some (.bool a0_2) := (blk_cell BK328.out 2).trans rfl
            have hfz28_0 := blk_frozen BK328.out 0
            have hfz28_1 := blk_frozen BK328.out 1
            have hfz28_2 := blk_frozen BK328.out 2
            try go_wp2_with (first | ((with_reducible refine gate_callee (f := 23) rfl ?_); refine goesL_ (some 25) rfl rfl Try.func23 (by kernel_rfl) rfl #[.agg #[.int .i64 a0_0, .int .i64 a0_1, .bool a0_2], .agg #[.int .i64 a0_0, .int .i64 a0_1, .bool a0_2]] rfl (by (try simp only [List.map_toArray, List.map_cons, List.map_nil]); first | done | rfl | (simp only [List.length_drop, List.length_take]; rfl)) ?_; (with_reducible refine (frac_Frac_Mul.calls kj1 a0_0 a0_1 a0_2 a0_0 a0_1 a0_2 t331 t332 t333 _ A22.out).mono ?_); rintro e w29 ⟨rfl, hb⟩; refine ⟨_, rfl, ?_⟩; have n0_ := Aside0.mk (blk_below (g := gb328) (o := .cells #[.int .i64 a0_0, .int .i64 a0_1, .bool a0_2] 23 (0, 0)) (by (with_reducible repeat (first | refine blk_drewN ?_ _ | refine blk_drew ?_ | refine blk_alloc ?_ _)); exact BK328.out) hb); have n1_ := Aside0.mk (below_step (by repeat (first | (with_reducible first | exact HB.out | apply below_alloc | apply pw_below_drewN | apply below_drew1 | refine below_set ?_ GE328.out) | exact HB.out)) hb); clear BK328; clear HB; have BK328 := n0_; have HB := n1_; clear n0_ n1_; (try clear hb); (try clear hb2); (try clear hk); (try clear hi)) | ((with_reducible refine gate_callee (f := 19) rfl ?_); refine goesL_ (some 26) rfl rfl Try.func19 (by kernel_rfl) rfl #[.agg #[.int .i64 t331, .int .i64 t332, .bool t333]] rfl (by (try simp only [List.map_toArray, List.map_cons, List.map_nil]); first | done | rfl | (simp only [List.length_drop, List.length_take]; rfl)) ?_; (with_reducible refine (frac_Frac_Root.calls kj1 t331 t332 t333 t334 t335 t336 _ A23.out).mono ?_); rintro e w30 ⟨rfl, hb⟩; refine ⟨_, rfl, ?_⟩; have n0_ := Aside0.mk (blk_below (g := gb328) (o := .cells #[.int .i64 a0_0, .int .i64 a0_1, .bool a0_2] 23 (0, 0)) (by (with_reducible repeat (first | refine blk_drewN ?_ _ | refine blk_drew ?_ | refine blk_alloc ?_ _)); exact BK328.out) hb); have n1_ := Aside0.mk (below_step (by repeat (first | (with_reducible first | exact HB.out | apply below_alloc | apply pw_below_drewN | apply below_drew1 | refine below_set ?_ GE328.out) | exact HB.out)) hb); clear BK328; clear HB; have BK328 := n0_; have HB := n1_; clear n0_ n1_; (try clear hb); (try clear hb2); (try clear hk); (try clear hi)) | ((with_reducible refine gate_dst (N := 3) rfl ?_); refine box_event ?hg (N := 3) ?hd (cs := #[.int .i64 0, .int .i64 0, .bool false]) (t := 23) ?hr ?_; (case hd => rfl); (case hg => rfl); (case hr => first | (go_simp; done) | (go_simp; rfl)); intro gb337 hg w31 hbox hb; have n0_ := Aside0.mk (blk_below (g := gb328) (o := .cells #[.int .i64 a0_0, .int .i64 a0_1, .bool a0_2] 23 (0, 0)) (by (with_reducible repeat (first | refine blk_drewN ?_ _ | refine blk_drew ?_ | refine blk_alloc ?_ _)); exact BK328.out) hb); have n1_ := Aside0.mk (below_step (by repeat (first | (with_reducible first | exact HB.out | apply below_alloc | apply pw_below_drewN | apply below_drew1 | refine below_set ?_ GE328.out) | exact HB.out)) hb); have n2_ := Aside0.mk (hbox); have n3_ := Aside0.mk ((by rw [hg]; exact (below_size (by repeat (first | (with_reducible first | exact HB.out | apply below_alloc | apply pw_below_drewN | apply below_drew1 | refine below_set ?_ GE328.out) | exact HB.out))) : w.heap.size ≤ gb337)); have n4_ := Aside0.mk ((by rw [hg]; exact (below_size (by repeat (first | (with_reducible first | exact HB.out | apply below_alloc | apply pw_below_drewN | apply below_drew1 | refine below_set ?_ GE328.out) | exact HB.out))) : w.heap.size ≤ gb337)); have n5_ := Aside0.mk ((by rw [hg]; exact Nat.ne_of_lt (blk_lt (g := gb328) (o := .cells #[.int .i64 a0_0, .int .i64 a0_1, .bool a0_2] 23 (0, 0)) (by (with_reducible repeat (first | refine blk_drewN ?_ _ | refine blk_drew ?_ | refine blk_alloc ?_ _)); exact BK328.out)) : gb328 ≠ gb337)); have n6_ := Aside0.mk ((by rw [hg]; exact Nat.ne_of_gt (blk_lt (g := gb328) (o := .cells #[.int .i64 a0_0, .int .i64 a0_1, .bool a0_2] 23 (0, 0)) (by (with_reducible repeat (first | refine blk_drewN ?_ _ | refine blk_drew ?_ | refine blk_alloc ?_ _)); exact BK328.out)) : gb337 ≠ gb328)); clear BK328; clear HB; have BK328 := n0_; have HB := n1_; have BK337 := n2_; have GW337 := n3_; have GE337 := n4_; have NB328_337 := n5_; have NB337_328 := n6_; clear n0_ n1_ n2_ n3_ n4_ n5_ n6_; clear hb hbox hg; have hnb32 := NB337_328.out; have hnc32 := NB328_337.out; have hcz33_0 : w31.cell? ⟨gb337, 0, none⟩ = some (.int .i64 0) := (blk_cell BK337.out 0).trans rfl; have hcz33_1 : w31.cell? ⟨gb337, 1, none⟩ = some (.int .i64 0) := (blk_cell BK337.out 1).trans rfl; have hcz33_2 : w31.cell? ⟨gb337, 2, none⟩ = some (.bool false) := (blk_cell BK337.out 2).trans rfl; have hfz33_0 := blk_frozen BK337.out 0; have hfz33_1 := blk_frozen BK337.out 1; have hfz33_2 := blk_frozen BK337.out 2; have hcz34_0 : w31.cell? ⟨gb328, 0, none⟩ = some (.int .i64 a0_0) := (blk_cell BK328.out 0).trans rfl; have hcz34_1 : w31.cell? ⟨gb328, 1, none⟩ = some (.int .i64 a0_1) := (blk_cell BK328.out 1).trans rfl; have hcz34_2 : w31.cell? ⟨gb328, 2, none⟩ = some (.bool a0_2) := (blk_cell BK328.out 2).trans rfl; have hfz34_0 := blk_frozen BK328.out 0; have hfz34_1 := blk_frozen BK328.out 1; have hfz34_2 := blk_frozen BK328.out 2))
            have n0_ : Aside0 ((((w31.setCell ⟨gb337, 0, none⟩ (.int .i64 t334)).setCell ⟨gb337, 1, none⟩ (.int .i64 t335)).setCell ⟨gb337, 2, none⟩ (.bool t336)).heap[gb328]? = some (.cells #[.int .i64 a0_0, .int .i64 a0_1, .bool a0_2] 23 (0, 0))) := ⟨by (with_reducible repeat (first | refine blk_drewN ?_ _ | refine blk_drew ?_ | refine blk_alloc ?_ _)); refine blk_far ?_ NB328_337.out _; (with_reducible repeat (first | refine blk_drewN ?_ _ | refine blk_drew ?_ | refine blk_alloc ?_ _)); refine blk_far ?_ NB328_337.out _; (with_reducible repeat (first | refine blk_drewN ?_ _ | refine blk_drew ?_ | refine blk_alloc ?_ _)); refine blk_far ?_ NB328_337.out _; (with_reducible repeat (first | refine blk_drewN ?_ _ | refine blk_drew ?_ | refine blk_alloc ?_ _)); exact BK328.out⟩
            have n1_ : Aside0 ((((w31.setCell ⟨gb337, 0, none⟩ (.int .i64 t334)).setCell ⟨gb337, 1, none⟩ (.int .i64 t335)).setCell ⟨gb337, 2, none⟩ (.bool t336)).heap[gb337]? = some (.cells #[.int .i64 t334, .int .i64 t335, .bool t336] 23 (0, 0))) := ⟨by (with_reducible repeat (first | refine blk_drewN ?_ _ | refine blk_drew ?_ | refine blk_alloc ?_ _)); refine blk_put (cs := #[.int .i64 t334, .int .i64 t335, .bool false]) ?_ 2 _ rfl; (with_reducible repeat (first | refine blk_drewN ?_ _ | refine blk_drew ?_ | refine blk_alloc ?_ _)); refine blk_put (cs := #[.int .i64 t334, .int .i64 0, .bool false]) ?_ 1 _ rfl; (with_reducible repeat (first | refine blk_drewN ?_ _ | refine blk_drew ?_ | refine blk_alloc ?_ _)); refine blk_put (cs := #[.int .i64 0, .int .i64 0, .bool false]) ?_ 0 _ rfl; (with_reducible repeat (first | refine blk_drewN ?_ _ | refine blk_drew ?_ | refine blk_alloc ?_ _)); exact BK337.out⟩
            have n2_ : Aside0 (Below w.heap.size w (((w31.setCell ⟨gb337, 0, none⟩ (.int .i64 t334)).setCell ⟨gb337, 1, none⟩ (.int .i64 t335)).setCell ⟨gb337, 2, none⟩ (.bool t336))) := ⟨by repeat (first | (with_reducible first | exact HB.out | apply below_alloc | apply pw_below_drewN | apply below_drew1 | refine below_set ?_ GE328.out | refine below_set ?_ GE337.out) | exact HB.out)⟩
            (try clear BK328)
            (try clear BK337)
            (try clear HB)
            generalize (((w31.setCell ⟨gb337, 0, none⟩ (.int .i64 t334)).setCell ⟨gb337, 1, none⟩ (.int .i64 t335)).setCell ⟨gb337, 2, none⟩ (.bool t336)) = w35 at n0_ n1_ n2_ ⊢
            have BK328 := n0_
            have BK337 := n1_
            have HB := n2_
            clear n0_ n1_ n2_
            have n0_ := Aside0.mk (blk_drew BK328.out)
            have n1_ := Aside0.mk (blk_drew BK337.out)
            have n2_ := Aside0.mk (below_drew1 HB.out)
            clear BK328
            clear BK337
            clear HB
            have BK328 := n0_
            have BK337 := n1_
            have HB := n2_
            clear n0_ n1_ n2_
            refine start_ (n := 8) (S := fun w' => w'.cell? ⟨gb337, 0, none⟩ = some (.int .i64 t334) ∧ w'.cell? ⟨gb337, 1, none⟩ = some (.int .i64 t335) ∧ w'.cell? ⟨gb337, 2, none⟩ = some (.bool t336) ∧ w'.cell? ⟨gb328, 0, none⟩ = some (.int .i64 a0_0) ∧ w'.cell? ⟨gb328, 1, none⟩ = some (.int .i64 a0_1) ∧ w'.cell? ⟨gb328, 2, none⟩ = some (.bool a0_2)) (ds := []) #[false, false, false, false, false, false, false, false] (by kernel_rfl) rfl rfl ⟨(blk_cell BK337.out 0).trans rfl, (blk_cell BK337.out 1).trans rfl, (blk_cell BK337.out 2).trans rfl, (blk_cell BK328.out 0).trans rfl, (blk_cell BK328.out 1).trans rfl, (blk_cell BK328.out 2).trans rfl⟩ (fun hHeld => ?_); refine with_tabW coupletlaw04_FracSquares.tab5 coupletlaw04_FracSquares.bits5 (fun HT_ HW_ => ?_)
            generalize w35.drew = w36 at BK328 BK337 HB hHeld ⊢
            refine take_ (i := 0) (N := some 30) (v := ?_) (a' := ?_) #[true, false, false, false, false, false, false, false] rfl rfl (take_ofW HT_.out HW_.out (by kernel_rfl)) (fun _ _ _ h => h) (Or.inl ⟨by rfl, ?_⟩) hHeld ?_ ?_
            rotate_left
            · rintro w' ⟨s0, s1, s2, s3, s4, s5⟩
              go_simp
              with_reducible rfl
            rotate_left
            · simp only [Act.put, List.setIfInBounds_toArray, List.set_cons_zero, List.set_cons_succ, i64_w, i32_w]
              rfl
            refine take_ (i := 1) (N := some 31) (v := ?_) (a' := ?_) #[true, true, false, false, false, false, false, false] rfl rfl (take_ofW HT_.out HW_.out (by kernel_rfl)) (fun _ _ _ h => h) (Or.inl ⟨by rfl, ?_⟩) hHeld ?_ ?_
            rotate_left
            · rintro w' ⟨s0, s1, s2, s3, s4, s5⟩
              go_simp
              with_reducible rfl
            rotate_left
            · simp only [Act.put, List.setIfInBounds_toArray, List.set_cons_zero, List.set_cons_succ, i64_w, i32_w]
              rfl
            refine one_ (i := 2) (N := some 32) #[true, true, true, false, false, false, false, false] rfl rfl (one_of HT_.out (by kernel_rfl)) (by decide) (fun K hK => ?_)
            refine goes_ Try.func18 (by kernel_rfl) rfl #[.agg #[.int .i64 a0_0, .int .i64 a0_1, .bool a0_2]] (by rfl) rfl rfl (by (try simp only [List.map_toArray, List.map_cons, List.map_nil]); first | done | rfl | (simp only [List.length_drop, List.length_take]; rfl)) ?_
            with_reducible refine (frac_Frac_Neg.calls kj1 a0_0 a0_1 a0_2 t338 t339 t340 _ A25.out).mono ?_
            rintro e w37 ⟨rfl, hb⟩
            refine ⟨_, rfl, ?_⟩
            have n0_ := Aside0.mk (blk_below (g := gb328) (o := .cells #[.int .i64 a0_0, .int .i64 a0_1, .bool a0_2] 23 (0, 0)) (by (with_reducible repeat (first | refine blk_drewN ?_ _ | refine blk_drew ?_ | refine blk_alloc ?_ _)); exact BK328.out) hb)
            have n1_ := Aside0.mk (blk_below (g := gb337) (o := .cells #[.int .i64 t334, .int .i64 t335, .bool t336] 23 (0, 0)) (by (with_reducible repeat (first | refine blk_drewN ?_ _ | refine blk_drew ?_ | refine blk_alloc ?_ _)); exact BK337.out) hb)
            have n2_ := Aside0.mk (below_step (by repeat (first | (with_reducible first | exact HB.out | apply below_alloc | apply pw_below_drewN | apply below_drew1 | refine below_set ?_ GE328.out | refine below_set ?_ GE337.out) | exact HB.out)) hb)
            clear BK328
            clear BK337
            clear HB
            have BK328 := n0_
            have BK337 := n1_
            have HB := n2_
            clear n0_ n1_ n2_
            (try clear hb)
            (try clear hb2)
            (try clear hk)
            (try clear hi)
            refine hK.out _ _ ⟨(blk_cell BK337.out 0).trans rfl, (blk_cell BK337.out 1).trans rfl, (blk_cell BK337.out 2).trans rfl, (blk_cell BK328.out 0).trans rfl, (blk_cell BK328.out 1).trans rfl, (blk_cell BK328.out 2).trans rfl⟩ (fun hHeld => ?_)
            clear hK K
            refine norm_ (a' := ?_) ?_ ?_
            rotate_left
            · show Act.put _ (some 32) _ = _
              simp only [Act.put, List.setIfInBounds_toArray, List.set_cons_zero, List.set_cons_succ, i64_w, i32_w]
              rfl
            refine pure_ (i := 3) (N := some 33) (v := ?_) (a' := ?_) #[true, true, true, true, false, false, false, false] rfl rfl (any_of HT_.out (by kernel_rfl)) (fun _ _ _ h => h) (Or.inl ⟨by rfl, ?_⟩) ?_ ?_
            rotate_left
            · intro w'
              go_simp
              with_reducible rfl
            rotate_left
            · simp only [Act.put, List.setIfInBounds_toArray, List.set_cons_zero, List.set_cons_succ, i64_w, i32_w]
              rfl
            refine pure_ (i := 4) (N := some 34) (v := ?_) (a' := ?_) #[true, true, true, true, true, false, false, false] rfl rfl (any_of HT_.out (by kernel_rfl)) (fun _ _ _ h => h) (Or.inl ⟨by rfl, ?_⟩) ?_ ?_
            rotate_left
            · intro w'
              go_simp
              with_reducible rfl
            rotate_left
            · simp only [Act.put, List.setIfInBounds_toArray, List.set_cons_zero, List.set_cons_succ, i64_w, i32_w]
              rfl
            refine one_ (i := 5) (N := some 35) #[true, true, true, true, true, true, false, false] rfl rfl (one_of HT_.out (by kernel_rfl)) (by decide) (fun K hK => ?_)
            refine goes_ Try.func12 (by kernel_rfl) rfl #[] (by rfl) rfl rfl (by (try simp only [List.map_toArray, List.map_cons, List.map_nil]); first | done | rfl | (simp only [List.length_drop, List.length_take]; rfl)) ?_
            with_reducible refine (coupletlaw04_awake.calls kj1  t341 _ A27.out).mono ?_
            rintro e w38 ⟨rfl, hb⟩
            refine ⟨_, rfl, ?_⟩
            have n0_ := Aside0.mk (blk_below (g := gb328) (o := .cells #[.int .i64 a0_0, .int .i64 a0_1, .bool a0_2] 23 (0, 0)) (by (with_reducible repeat (first | refine blk_drewN ?_ _ | refine blk_drew ?_ | refine blk_alloc ?_ _)); exact BK328.out) hb)
            have n1_ := Aside0.mk (blk_below (g := gb337) (o := .cells #[.int .i64 t334, .int .i64 t335, .bool t336] 23 (0, 0)) (by (with_reducible repeat (first | refine blk_drewN ?_ _ | refine blk_drew ?_ | refine blk_alloc ?_ _)); exact BK337.out) hb)
            have n2_ := Aside0.mk (below_step (by repeat (first | (with_reducible first | exact HB.out | apply below_alloc | apply pw_below_drewN | apply below_drew1 | refine below_set ?_ GE328.out | refine below_set ?_ GE337.out) | exact HB.out)) hb)
            clear BK328
            clear BK337
            clear HB
            have BK328 := n0_
            have BK337 := n1_
            have HB := n2_
            clear n0_ n1_ n2_
            (try clear hb)
            (try clear hb2)
            (try clear hk)
            (try clear hi)
            refine hK.out _ _ ⟨(blk_cell BK337.out 0).trans rfl, (blk_cell BK337.out 1).trans rfl, (blk_cell BK337.out 2).trans rfl, (blk_cell BK328.out 0).trans rfl, (blk_cell BK328.out 1).trans rfl, (blk_cell BK328.out 2).trans rfl⟩ (fun hHeld => ?_)
            clear hK K
            refine norm_ (a' := ?_) ?_ ?_
            rotate_left
            · show Act.put _ (some 35) _ = _
              simp only [Act.put, List.setIfInBounds_toArray, List.set_cons_zero, List.set_cons_succ, i64_w, i32_w]
              rfl
            refine pure_ (i := 6) (N := some 36) (v := ?_) (a' := ?_) #[true, true, true, true, true, true, true, false] rfl rfl (any_of HT_.out (by kernel_rfl)) (fun _ _ _ h => h) (Or.inl ⟨by rfl, ?_⟩) ?_ ?_
            rotate_left
            · intro w'
              go_simp
              with_reducible rfl
            rotate_left
            · simp only [Act.put, List.setIfInBounds_toArray, List.set_cons_zero, List.set_cons_succ, i64_w, i32_w]
              rfl
            refine pure_ (i := 7) (N := some 2) (v := ?_) (a' := ?_) #[true, true, true, true, true, true, true, true] rfl rfl (any_of HT_.out (by kernel_rfl)) (fun _ _ _ h => h) (Or.inl ⟨by rfl, ?_⟩) ?_ ?_
            rotate_left
            · intro w'
              go_simp
              with_reducible rfl
            rotate_left
            · simp only [Act.put, List.setIfInBounds_toArray, List.set_cons_zero, List.set_cons_succ, i64_w, i32_w]
              rfl
            refine done_ (done_of HT_.out (by kernel_rfl)) ?_
            try go_wp2
            go_ret
            exact ⟨by first | rfl | (simp [errW_none, errW_some] <;> rfl) | (simp [*, errW_none, errW_some] <;> rfl), by repeat (first | (with_reducible first | exact HB.out | apply below_alloc | apply pw_below_drewN | apply below_drew1 | refine below_set ?_ GE328.out | refine below_set ?_ GE337.out) | exact HB.out)⟩
          · rw [if_neg c26] at H
            have c26b0 : (t334 == t338 && (t335 == t339 && (t336 == t340))) = false := by simpa using c26
            (try (have c26b1 : decide (t334 = t338 && (t335 == t339 && (t336 == t340))) = false := by simpa using c26))
            (try (have c26b2 : (t334 == t338 && (t335 == t339 && (t336 == t340))) = false := by simpa using c26))
            (try (have c26b3 : ¬ (t334 = t338 && (t335 == t339 && (t336 == t340))) := by simpa using c26))
            clear c26
            obtain rfl := Option.some.inj H
            exact absurd hr (by decide)
        · rw [if_neg c24] at H
          have c24b0 : decide (a0_0 < 0) = false := decide_eq_false c24
          clear c24
          by_cases c49 : (t334 == a0_0 && (t335 == a0_1 && (t336 == a0_2))) = true
          · rw [if_pos c49] at H
            have c49b0 : (t334 == a0_0 && (t335 == a0_1 && (t336 == a0_2))) = true := c49
            (try (have c49b1 : decide (t334 = a0_0 && (t335 == a0_1 && (t336 == a0_2))) = true := by simpa using c49))
            (try (have c49b2 : (t334 == a0_0 && (t335 == a0_1 && (t336 == a0_2))) = true := by simpa using c49))
            clear c49
            replace H := Option.bind_eq_some_iff.mp H
            obtain ⟨t342, A500, H⟩ := H
            replace H : (some t342) = some r := H
            have A50 := Aside0.mk A500
            clear A500
            obtain rfl := Option.some.inj H
            have hcz51_0 : wc.cell? ⟨gb328, 0, none⟩ = some (.int .i64 a0_0) := (blk_cell BK328.out 0).trans rfl
            have hcz51_1 : wc.cell? ⟨gb328, 1, none⟩ = some (.int .i64 a0_1) := (blk_cell BK328.out 1).trans rfl
            have hcz51_2 : wc.cell? ⟨gb328, 2, none⟩ = some (.bool a0_2) := (blk_cell BK328.out 2).trans rfl
            have hfz51_0 := blk_frozen BK328.out 0
            have hfz51_1 := blk_frozen BK328.out 1
            have hfz51_2 := blk_frozen BK328.out 2
            go_wp2_with (first | ((with_reducible refine gate_callee (f := 23) rfl ?_); refine goesL_ (some 25) rfl rfl Try.func23 (by kernel_rfl) rfl #[.agg #[.int .i64 a0_0, .int .i64 a0_1, .bool a0_2], .agg #[.int .i64 a0_0, .int .i64 a0_1, .bool a0_2]] rfl (by (try simp only [List.map_toArray, List.map_cons, List.map_nil]); first | done | rfl | (simp only [List.length_drop, List.length_take]; rfl)) ?_; (with_reducible refine (frac_Frac_Mul.calls kj1 a0_0 a0_1 a0_2 a0_0 a0_1 a0_2 t331 t332 t333 _ A22.out).mono ?_); rintro e w52 ⟨rfl, hb⟩; refine ⟨_, rfl, ?_⟩; have n0_ := Aside0.mk (blk_below (g := gb328) (o := .cells #[.int .i64 a0_0, .int .i64 a0_1, .bool a0_2] 23 (0, 0)) (by (with_reducible repeat (first | refine blk_drewN ?_ _ | refine blk_drew ?_ | refine blk_alloc ?_ _)); exact BK328.out) hb); have n1_ := Aside0.mk (below_step (by repeat (first | (with_reducible first | exact HB.out | apply below_alloc | apply pw_below_drewN | apply below_drew1 | refine below_set ?_ GE328.out) | exact HB.out)) hb); clear BK328; clear HB; have BK328 := n0_; have HB := n1_; clear n0_ n1_; (try clear hb); (try clear hb2); (try clear hk); (try clear hi)) | ((with_reducible refine gate_callee (f := 19) rfl ?_); refine goesL_ (some 26) rfl rfl Try.func19 (by kernel_rfl) rfl #[.agg #[.int .i64 t331, .int .i64 t332, .bool t333]] rfl (by (try simp only [List.map_toArray, List.map_cons, List.map_nil]); first | done | rfl | (simp only [List.length_drop, List.length_take]; rfl)) ?_; (with_reducible refine (frac_Frac_Root.calls kj1 t331 t332 t333 t334 t335 t336 _ A23.out).mono ?_); rintro e w53 ⟨rfl, hb⟩; refine ⟨_, rfl, ?_⟩; have n0_ := Aside0.mk (blk_below (g := gb328) (o := .cells #[.int .i64 a0_0, .int .i64 a0_1, .bool a0_2] 23 (0, 0)) (by (with_reducible repeat (first | refine blk_drewN ?_ _ | refine blk_drew ?_ | refine blk_alloc ?_ _)); exact BK328.out) hb); have n1_ := Aside0.mk (below_step (by repeat (first | (with_reducible first | exact HB.out | apply below_alloc | apply pw_below_drewN | apply below_drew1 | refine below_set ?_ GE328.out) | exact HB.out)) hb); clear BK328; clear HB; have BK328 := n0_; have HB := n1_; clear n0_ n1_; (try clear hb); (try clear hb2); (try clear hk); (try clear hi)) | ((with_reducible refine gate_dst (N := 3) rfl ?_); refine box_event ?hg (N := 3) ?hd (cs := #[.int .i64 0, .int .i64 0, .bool false]) (t := 23) ?hr ?_; (case hd => rfl); (case hg => rfl); (case hr => first | (go_simp; done) | (go_simp; rfl)); intro gb337 hg w54 hbox hb; have n0_ := Aside0.mk (blk_below (g := gb328) (o := .cells #[.int .i64 a0_0, .int .i64 a0_1, .bool a0_2] 23 (0, 0)) (by (with_reducible repeat (first | refine blk_drewN ?_ _ | refine blk_drew ?_ | refine blk_alloc ?_ _)); exact BK328.out) hb); have n1_ := Aside0.mk (below_step (by repeat (first | (with_reducible first | exact HB.out | apply below_alloc | apply pw_below_drewN | apply below_drew1 | refine below_set ?_ GE328.out) | exact HB.out)) hb); have n2_ := Aside0.mk (hbox); have n3_ := Aside0.mk ((by rw [hg]; exact (below_size (by repeat (first | (with_reducible first | exact HB.out | apply below_alloc | apply pw_below_drewN | apply below_drew1 | refine below_set ?_ GE328.out) | exact HB.out))) : w.heap.size ≤ gb337)); have n4_ := Aside0.mk ((by rw [hg]; exact (below_size (by repeat (first | (with_reducible first | exact HB.out | apply below_alloc | apply pw_below_drewN | apply below_drew1 | refine below_set ?_ GE328.out) | exact HB.out))) : w.heap.size ≤ gb337)); have n5_ := Aside0.mk ((by rw [hg]; exact Nat.ne_of_lt (blk_lt (g := gb328) (o := .cells #[.int .i64 a0_0, .int .i64 a0_1, .bool a0_2] 23 (0, 0)) (by (with_reducible repeat (first | refine blk_drewN ?_ _ | refine blk_drew ?_ | refine blk_alloc ?_ _)); exact BK328.out)) : gb328 ≠ gb337)); have n6_ := Aside0.mk ((by rw [hg]; exact Nat.ne_of_gt (blk_lt (g := gb328) (o := .cells #[.int .i64 a0_0, .int .i64 a0_1, .bool a0_2] 23 (0, 0)) (by (with_reducible repeat (first | refine blk_drewN ?_ _ | refine blk_drew ?_ | refine blk_alloc ?_ _)); exact BK328.out)) : gb337 ≠ gb328)); clear BK328; clear HB; have BK328 := n0_; have HB := n1_; have BK337 := n2_; have GW337 := n3_; have GE337 := n4_; have NB328_337 := n5_; have NB337_328 := n6_; clear n0_ n1_ n2_ n3_ n4_ n5_ n6_; clear hb hbox hg; have hnb55 := NB337_328.out; have hnc55 := NB328_337.out; have hcz56_0 : w54.cell? ⟨gb337, 0, none⟩ = some (.int .i64 0) := (blk_cell BK337.out 0).trans rfl; have hcz56_1 : w54.cell? ⟨gb337, 1, none⟩ = some (.int .i64 0) := (blk_cell BK337.out 1).trans rfl; have hcz56_2 : w54.cell? ⟨gb337, 2, none⟩ = some (.bool false) := (blk_cell BK337.out 2).trans rfl; have hfz56_0 := blk_frozen BK337.out 0; have hfz56_1 := blk_frozen BK337.out 1; have hfz56_2 := blk_frozen BK337.out 2; have hcz57_0 : w54.cell? ⟨gb328, 0, none⟩ = some (.int .i64 a0_0) := (blk_cell BK328.out 0).trans rfl; have hcz57_1 : w54.cell? ⟨gb328, 1, none⟩ = some (.int .i64 a0_1) := (blk_cell BK328.out 1).trans rfl; have hcz57_2 : w54.cell? ⟨gb328, 2, none⟩ = some (.bool a0_2) := (blk_cell BK328.out 2).trans rfl; have hfz57_0 := blk_frozen BK328.out 0; have hfz57_1 := blk_frozen BK328.out 1; have hfz57_2 := blk_frozen BK328.out 2) | (go_at_call 12; (with_reducible refine (coupletlaw04_awake.calls kj1  t342 _ A50.out).mono ?_); rintro e w58 ⟨rfl, hb⟩; have n0_ := Aside0.mk (blk_below (g := gb328) (o := .cells #[.int .i64 a0_0, .int .i64 a0_1, .bool a0_2] 23 (0, 0)) (by (with_reducible repeat (first | refine blk_drewN ?_ _ | refine blk_drew ?_ | refine blk_alloc ?_ _)); refine blk_far ?_ NB328_337.out _; (with_reducible repeat (first | refine blk_drewN ?_ _ | refine blk_drew ?_ | refine blk_alloc ?_ _)); refine blk_far ?_ NB328_337.out _; (with_reducible repeat (first | refine blk_drewN ?_ _ | refine blk_drew ?_ | refine blk_alloc ?_ _)); refine blk_far ?_ NB328_337.out _; (with_reducible repeat (first | refine blk_drewN ?_ _ | refine blk_drew ?_ | refine blk_alloc ?_ _)); exact BK328.out) hb); have n1_ := Aside0.mk (blk_below (g := gb337) (o := .cells #[.int .i64 t334, .int .i64 t335, .bool t336] 23 (0, 0)) (by (with_reducible repeat (first | refine blk_drewN ?_ _ | refine blk_drew ?_ | refine blk_alloc ?_ _)); refine blk_put (cs := #[.int .i64 t334, .int .i64 t335, .bool false]) ?_ 2 _ rfl; (with_reducible repeat (first | refine blk_drewN ?_ _ | refine blk_drew ?_ | refine blk_alloc ?_ _)); refine blk_put (cs := #[.int .i64 t334, .int .i64 0, .bool false]) ?_ 1 _ rfl; (with_reducible repeat (first | refine blk_drewN ?_ _ | refine blk_drew ?_ | refine blk_alloc ?_ _)); refine blk_put (cs := #[.int .i64 0, .int .i64 0, .bool false]) ?_ 0 _ rfl; (with_reducible repeat (first | refine blk_drewN ?_ _ | refine blk_drew ?_ | refine blk_alloc ?_ _)); exact BK337.out) hb); have n2_ := Aside0.mk (below_step (by repeat (first | (with_reducible first | exact HB.out | apply below_alloc | apply pw_below_drewN | apply below_drew1 | refine below_set ?_ GE328.out | refine below_set ?_ GE337.out) | exact HB.out)) hb); clear BK328; clear BK337; clear HB; have BK328 := n0_; have BK337 := n1_; have HB := n2_; clear n0_ n1_ n2_; (try clear hb); (try clear hb2); (try clear hk); (try clear hi)))
            go_ret
            exact ⟨by first | rfl | (simp [errW_none, errW_some] <;> rfl) | (simp [*, errW_none, errW_some] <;> rfl), by repeat (first | (with_reducible first | exact HB.out | apply below_alloc | apply pw_below_drewN | apply below_drew1 | refine below_set ?_ GE328.out | refine below_set ?_ GE337.out) | exact HB.out)⟩
          · rw [if_neg c49] at H
            have c49b0 : (t334 == a0_0 && (t335 == a0_1 && (t336 == a0_2))) = false := by simpa using c49
            (try (have c49b1 : decide (t334 = a0_0 && (t335 == a0_1 && (t336 == a0_2))) = false := by simpa using c49))
            (try (have c49b2 : (t334 == a0_0 && (t335 == a0_1 && (t336 == a0_2))) = false := by simpa using c49))
            (try (have c49b3 : ¬ (t334 = a0_0 && (t335 == a0_1 && (t336 == a0_2))) := by simpa using c49))
            clear c49
            obtain rfl := Option.some.inj H
            exact absurd hr (by decide)

/-! ### frac_Frac_Of: function 20 -/
def frac_Frac_Of.f (k : Nat) (a0_0 : Int) (a0_1 : Int) (a0_2 : Bool) (a1 : Int) : Option (Int × Int × Bool) := (frac_New.f k a1 1).bind fun bt345 => (some (bt345.1, bt345.2.1, bt345.2.2))
theorem frac_Frac_Of.mono : ∀ a0 a1 a2 a3 k, LeO (frac_Frac_Of.f k a0 a1 a2 a3) (frac_Frac_Of.f (k + 1) a0 a1 a2 a3) := by
  intro a0 a1 a2 a3 k
  unfold frac_Frac_Of.f
  repeat' first
      | (with_reducible exact frac_New.mono _ _ _)
      | (with_reducible exact LeO.refl _)
      | (with_reducible exact LeO.none _)
      | (with_reducible refine LeO.ite ?_ ?_)
      | (with_reducible refine LeO.bind ?_ (fun _ => ?_))
      | exact frac_New.mono _ _ _
      | exact LeO.none _
      | refine LeO.ite ?_ ?_
      | refine LeO.bind ?_ (fun _ => ?_)
set_option maxHeartbeats 8000000 in
set_option maxRecDepth 100000 in
theorem frac_Frac_Of.calls (k : Nat) (a0_0 : Int) (a0_1 : Int) (a0_2 : Bool) (a1 : Int) (r1 : Int) (r2 : Int) (r3 : Bool) (w : World) (h : frac_Frac_Of.f k a0_0 a0_1 a0_2 a1 = some (r1, r2, r3)) :
    Calls Try.prog 20 #[.agg #[.int .i64 a0_0, .int .i64 a0_1, .bool a0_2], .int .i64 a1] w fun e w' => e = .returned (.agg #[.int .i64 r1, .int .i64 r2, .bool r3]) ∧ Below w.heap.size w w' := by
  have hu23 := Try.underlying23
  have HB := Aside0.mk (Below.refl w.heap.size w)
  have H : ((frac_New.f k a1 1).bind fun bt345 => (some (bt345.1, bt345.2.1, bt345.2.2))) = some (r1, r2, r3) := h
  clear h
  replace H := Option.bind_eq_some_iff.mp H
  obtain ⟨⟨t345, t346, t347⟩, A30, H⟩ := H
  replace H : (some (t345, t346, t347)) = some (r1, r2, r3) := H
  have A3 := Aside0.mk A30
  clear A30
  simp only [Option.some.injEq, Prod.mk.injEq] at H
  obtain ⟨rfl, rfl, rfl⟩ := H
  go_enter Try.func20, Try.ntmps20
  go_wp2_with (first | ((with_reducible refine gate_dst (N := 2) rfl ?_); refine box_event ?hg (N := 2) ?hd (cs := #[.int .i64 a0_0, .int .i64 a0_1, .bool a0_2]) (t := 23) ?hr ?_; (case hd => rfl); (case hg => rfl); (case hr => first | (go_simp; done) | (go_simp; rfl)); intro gb343 hg w4 hbox hb; have n0_ := Aside0.mk (below_step (by repeat (first | (with_reducible first | exact HB.out | apply below_alloc | apply pw_below_drewN | apply below_drew1) | exact HB.out)) hb); have n1_ := Aside0.mk (hbox); have n2_ := Aside0.mk ((by rw [hg]; exact (below_size (by repeat (first | (with_reducible first | exact HB.out | apply below_alloc | apply pw_below_drewN | apply below_drew1) | exact HB.out))) : w.heap.size ≤ gb343)); have n3_ := Aside0.mk ((by rw [hg]; exact (below_size (by repeat (first | (with_reducible first | exact HB.out | apply below_alloc | apply pw_below_drewN | apply below_drew1) | exact HB.out))) : w.heap.size ≤ gb343)); clear HB; have HB := n0_; have BK343 := n1_; have GW343 := n2_; have GE343 := n3_; clear n0_ n1_ n2_ n3_; clear hb hbox hg) | ((with_reducible refine gate_dst (N := 4) rfl ?_); refine box_event ?hg (N := 4) ?hd (cs := #[.int .i64 0, .int .i64 0, .bool false]) (t := 23) ?hr ?_; (case hd => rfl); (case hg => rfl); (case hr => first | (go_simp; done) | (go_simp; rfl)); intro gb344 hg w5 hbox hb; have n0_ := Aside0.mk (blk_below (g := gb343) (o := .cells #[.int .i64 a0_0, .int .i64 a0_1, .bool a0_2] 23 (0, 0)) (by (with_reducible repeat (first | refine blk_drewN ?_ _ | refine blk_drew ?_ | refine blk_alloc ?_ _)); exact BK343.out) hb); have n1_ := Aside0.mk (below_step (by repeat (first | (with_reducible first | exact HB.out | apply below_alloc | apply pw_below_drewN | apply below_drew1 | refine below_set ?_ GE343.out) | exact HB.out)) hb); have n2_ := Aside0.mk (hbox); have n3_ := Aside0.mk ((by rw [hg]; exact (below_size (by repeat (first | (with_reducible first | exact HB.out | apply below_alloc | apply pw_below_drewN | apply below_drew1 | refine below_set ?_ GE343.out) | exact HB.out))) : w.heap.size ≤ gb344)); have n4_ := Aside0.mk ((by rw [hg]; exact (below_size (by repeat (first | (with_reducible first | exact HB.out | apply below_alloc | apply pw_below_drewN | apply below_drew1 | refine below_set ?_ GE343.out) | exact HB.out))) : w.heap.size ≤ gb344)); have n5_ := Aside0.mk ((by rw [hg]; exact Nat.ne_of_lt (blk_lt (g := gb343) (o := .cells #[.int .i64 a0_0, .int .i64 a0_1, .bool a0_2] 23 (0, 0)) (by (with_reducible repeat (first | refine blk_drewN ?_ _ | refine blk_drew ?_ | refine blk_alloc ?_ _)); exact BK343.out)) : gb343 ≠ gb344)); have n6_ := Aside0.mk ((by rw [hg]; exact Nat.ne_of_gt (blk_lt (g := gb343) (o := .cells #[.int .i64 a0_0, .int .i64 a0_1, .bool a0_2] 23 (0, 0)) (by (with_reducible repeat (first | refine blk_drewN ?_ _ | refine blk_drew ?_ | refine blk_alloc ?_ _)); exact BK343.out)) : gb344 ≠ gb343)); clear BK343; clear HB; have BK343 := n0_; have HB := n1_; have BK344 := n2_; have GW344 := n3_; have GE344 := n4_; have NB343_344 := n5_; have NB344_343 := n6_; clear n0_ n1_ n2_ n3_ n4_ n5_ n6_; clear hb hbox hg) | ((with_reducible refine gate_callee (f := 10) rfl ?_); refine goesL_ (some 6) rfl rfl Try.func10 (by kernel_rfl) rfl #[.int .i64 a1, .int .i64 1] rfl (by (try simp only [List.map_toArray, List.map_cons, List.map_nil]); first | done | rfl | (simp only [List.length_drop, List.length_take]; rfl)) ?_; (with_reducible refine (frac_New.calls k a1 1 t345 t346 t347 _ A3.out).mono ?_); rintro e w6 ⟨rfl, hb⟩; refine ⟨_, rfl, ?_⟩; have n0_ := Aside0.mk (blk_below (g := gb343) (o := .cells #[.int .i64 a0_0, .int .i64 a0_1, .bool a0_2] 23 (0, 0)) (by (with_reducible repeat (first | refine blk_drewN ?_ _ | refine blk_drew ?_ | refine blk_alloc ?_ _)); exact BK343.out) hb); have n1_ := Aside0.mk (blk_below (g := gb344) (o := .cells #[.int .i64 0, .int .i64 0, .bool false] 23 (0, 0)) (by (with_reducible repeat (first | refine blk_drewN ?_ _ | refine blk_drew ?_ | refine blk_alloc ?_ _)); exact BK344.out) hb); have n2_ := Aside0.mk (below_step (by repeat (first | (with_reducible first | exact HB.out | apply below_alloc | apply pw_below_drewN | apply below_drew1 | refine below_set ?_ GE343.out | refine below_set ?_ GE344.out) | exact HB.out)) hb); clear BK343; clear BK344; clear HB; have BK343 := n0_; have BK344 := n1_; have HB := n2_; clear n0_ n1_ n2_; (try clear hb); (try clear hb2); (try clear hk); (try clear hi); have hnb7 := NB344_343.out; have hnc7 := NB343_344.out; have hcz8_0 : w6.cell? ⟨gb344, 0, none⟩ = some (.int .i64 0) := (blk_cell BK344.out 0).trans rfl; have hcz8_1 : w6.cell? ⟨gb344, 1, none⟩ = some (.int .i64 0) := (blk_cell BK344.out 1).trans rfl; have hcz8_2 : w6.cell? ⟨gb344, 2, none⟩ = some (.bool false) := (blk_cell BK344.out 2).trans rfl; have hfz8_0 := blk_frozen BK344.out 0; have hfz8_1 := blk_frozen BK344.out 1; have hfz8_2 := blk_frozen BK344.out 2))
  refine bodyPost_ret (results_cell_row rfl _ _ gb344 23 #[.int .i64 t345, .int .i64 t346, .bool t347] (0, 0) _ rfl (by (with_reducible repeat (first | refine blk_drewN ?_ _ | refine blk_drew ?_ | refine blk_alloc ?_ _)); refine blk_put (cs := #[.int .i64 t345, .int .i64 t346, .bool false]) ?_ 2 _ rfl; (with_reducible repeat (first | refine blk_drewN ?_ _ | refine blk_drew ?_ | refine blk_alloc ?_ _)); refine blk_put (cs := #[.int .i64 t345, .int .i64 0, .bool false]) ?_ 1 _ rfl; (with_reducible repeat (first | refine blk_drewN ?_ _ | refine blk_drew ?_ | refine blk_alloc ?_ _)); refine blk_put (cs := #[.int .i64 0, .int .i64 0, .bool false]) ?_ 0 _ rfl; (with_reducible repeat (first | refine blk_drewN ?_ _ | refine blk_drew ?_ | refine blk_alloc ?_ _)); exact BK344.out) Try.underlying23 rfl (by kernel_rfl)) rfl ?_
  exact ⟨by first | rfl | (simp [errW_none, errW_some] <;> rfl) | (simp [*, errW_none, errW_some] <;> rfl), by repeat (first | (with_reducible first | exact HB.out | apply below_alloc | apply pw_below_drewN | apply below_drew1 | refine below_set ?_ GE343.out | refine below_set ?_ GE344.out) | exact HB.out)⟩

end Go.Proofs.Ytbpbeighpaaeaaa.G
