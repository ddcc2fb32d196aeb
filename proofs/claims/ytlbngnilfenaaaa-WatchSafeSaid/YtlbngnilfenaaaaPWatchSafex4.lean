-- PRINTED BY print.sh 35421559b90ae4d0a3588c463048766b98c2df88dd9212a6774a882060cdf62d: not written by this session
import Derived.Test.YtlbngnilfenaaaaPWatchSafex0
import Derived.Test.YtlbngnilfenaaaaPWatchSafex1
import Derived.Test.YtlbngnilfenaaaaPWatchSafex2
import Derived.Test.YtlbngnilfenaaaaPWatchSafex3
namespace Go.Proofs.Ytlbngnilfenaaaa.PWatchSafe
open Go.RowKit Go.Proofs.YtlbngnilfenaaaaW.PrintWords Go.Proofs.YtlbngnilfenaaaaW.PrintLast Go.Proofs.YtlbngnilfenaaaaW.PrintMore
attribute [local go_sem] max2_int min2_int max_two min_two max_three min_three max_four min_four   -- for this text's walks alone
set_option linter.unusedVariables false
set_option linter.unusedSimpArgs false

attribute [local go_sem high] eqA23
/-! ### watch_Run: function 9 -/
def watch_Run.l0 : Nat → List (S23) → List (S29) → Int → Int → Int → Int → Int → Int → Option ((List (S23)))
  | 0, _, _, _, _, _, _, _, _ => none
  | k + 1, x5, x8, x9, x10, x115000, x115001, x115002, x115003 => if x10 < x9 then (if 0 ≤ x10 then (if x10 < (x8.length : Int) then ((watch_Next.f k x115000 x115001 x115002 x115003 ((rd_T29 x8 x10).f0) ((rd_T29 x8 x10).f1)).bind fun bt117 => (if x5.length < 4398046511104 then (watch_Run.l0 k (x5 ++ [(⟨bt117.1, bt117.2.1, bt117.2.2.1, bt117.2.2.2⟩ : S23)]) x8 x9 (wrap64 (x10 + 1)) bt117.1 bt117.2.1 bt117.2.2.1 bt117.2.2.2) else (none))) else (none)) else (none)) else (some x5)
def watch_Run.f (k : Nat) (a0_0 : Int) (a0_1 : Int) (a0_2 : Int) (a0_3 : Int) (l1 : List (S29)) : Option ((List (S23))) := watch_Run.l0 k ([] : List (S23)) l1 (l1.length : Int) 0 a0_0 a0_1 a0_2 a0_3
theorem watch_Run.mono_l : ∀ k, (∀ y0 y1 y2 y3 y4 y5 y6 y7, LeO (watch_Run.l0 k y0 y1 y2 y3 y4 y5 y6 y7) (watch_Run.l0 (k + 1) y0 y1 y2 y3 y4 y5 y6 y7))
  | 0 => fun _ _ _ _ _ _ _ _ r h => by simp [watch_Run.l0] at h
  | k + 1 => by
    have ih0 := watch_Run.mono_l k
    · intro y0 y1 y2 y3 y4 y5 y6 y7
      unfold watch_Run.l0
      repeat' first
      | (with_reducible exact ih0 _ _ _ _ _ _ _ _)
      | (with_reducible exact watch_Next.mono _ _ _ _ _ _ _)
      | (with_reducible exact LeO.refl _)
      | (with_reducible exact LeO.none _)
      | (with_reducible refine LeO.ite ?_ ?_)
      | (with_reducible refine LeO.bind ?_ (fun _ => ?_))
      | exact ih0 _ _ _ _ _ _ _ _
      | exact watch_Next.mono _ _ _ _ _ _ _
      | exact LeO.none _
      | refine LeO.ite ?_ ?_
      | refine LeO.bind ?_ (fun _ => ?_)
theorem watch_Run.mono : ∀ a0 a1 a2 a3 a4 k, LeO (watch_Run.f k a0 a1 a2 a3 a4) (watch_Run.f (k + 1) a0 a1 a2 a3 a4) := by
  intro a0 a1 a2 a3 a4 k
  have ih0 := watch_Run.mono_l k
  unfold watch_Run.f
  repeat' first
      | (with_reducible exact ih0 _ _ _ _ _ _ _ _)
      | (with_reducible exact watch_Next.mono _ _ _ _ _ _ _)
      | (with_reducible exact LeO.refl _)
      | (with_reducible exact LeO.none _)
      | (with_reducible refine LeO.ite ?_ ?_)
      | (with_reducible refine LeO.bind ?_ (fun _ => ?_))
      | exact ih0 _ _ _ _ _ _ _ _
      | exact watch_Next.mono _ _ _ _ _ _ _
      | exact LeO.none _
      | refine LeO.ite ?_ ?_
      | refine LeO.bind ?_ (fun _ => ?_)
set_option maxHeartbeats 8000000 in
set_option maxRecDepth 100000 in
theorem watch_Run.calls (k : Nat) (a0_0 : Int) (a0_1 : Int) (a0_2 : Int) (a0_3 : Int) (A1 : Option Addr) (c1 : Nat) (l1 : List (S29)) (r : List (S23)) (w : World) (hr1 : Kd.C k29 w A1 l1.length l1) (hc1 : l1.length ≤ c1) (h : watch_Run.f k a0_0 a0_1 a0_2 a0_3 l1 = some r) :
    Calls Try.prog 9 #[.agg #[.int .i64 a0_0, .int .i64 a0_1, .int .i64 a0_2, .int .i64 a0_3], .slice A1 l1.length c1] w fun e w' => ∃ v0_ : Value, e = .returned (v0_) ∧ Kd.R k23 23 w' w.heap.size (fun _ => True) v0_ r ∧ Below w.heap.size w w' := by
  have hu23 := Try.underlying23
  have hu29 := Try.underlying29
  have HR1 := Aside0.mk hr1
  have HC1 := Aside0.mk hc1
  clear hr1 hc1
  have HB := Aside0.mk (Below.refl w.heap.size w)
  have H : (watch_Run.l0 k ([] : List (S23)) l1 (l1.length : Int) 0 a0_0 a0_1 a0_2 a0_3) = some r := h
  clear h
  have H' := Aside0.mk H
  clear H
  go_enter Try.func9, Try.ntmps9
  go_wp2_with (first | ((with_reducible refine gate_dst (N := 2) rfl ?_); refine box_event ?hg (N := 2) ?hd (cs := #[.int .i64 a0_0, .int .i64 a0_1, .int .i64 a0_2, .int .i64 a0_3]) (t := 23) ?hr ?_; (case hd => rfl); (case hg => rfl); (case hr => first | (go_simp; done) | (go_simp; rfl)); intro gb114 hg w3 hbox hb; have n0_ := Aside0.mk (below_step (by repeat (first | (with_reducible first | exact HB.out | apply below_alloc | apply pw_below_drewN | apply below_drew1) | exact HB.out)) hb); have n1_ := Aside0.mk (hbox); have n2_ := Aside0.mk ((by rw [hg]; exact (below_size (by repeat (first | (with_reducible first | exact HB.out | apply below_alloc | apply pw_below_drewN | apply below_drew1) | exact HB.out))) : w.heap.size ≤ gb114)); have n3_ := Aside0.mk ((by rw [hg]; exact (below_size (by repeat (first | (with_reducible first | exact HB.out | apply below_alloc | apply pw_below_drewN | apply below_drew1) | exact HB.out))) : w.heap.size ≤ gb114)); clear HB; have HB := n0_; have BK114 := n1_; have GW114 := n2_; have GE114 := n3_; clear n0_ n1_ n2_ n3_; clear hb hbox hg))
  go_loopg [5, 10] k (fun kq v5 v10 w' => ∃ (x5_1 : List (S23)) (x10_1 : Int) (x115000_1 : Int) (x115001_1 : Int) (x115002_1 : Int) (x115003_1 : Int), v10 = .int .i64 x10_1 ∧ Aside0 (watch_Run.l0 kq x5_1 l1 (l1.length : Int) x10_1 x115000_1 x115001_1 x115002_1 x115003_1 = some r) ∧ Aside0 (kq ≤ k) ∧ Aside0 (Kd.R k23 23 w' w.heap.size (fun k_ => k_ ≠ gb114) v5 x5_1) ∧ Aside0 (w'.heap[gb114]? = some (.cells #[.int .i64 x115000_1, .int .i64 x115001_1, .int .i64 x115002_1, .int .i64 x115003_1] 23 (0, 0))) ∧ Aside0 (Below w.heap.size w w'))
  case atStart => exact ⟨(([] : List (S23))), (0), (a0_0), (a0_1), (a0_2), (a0_3), (by first | rfl | (simp; done) | (simp [*]; done)), H', ⟨Nat.le_refl _⟩, ⟨by first | exact Kd.R_nil _ _ _ _ _ | exact Kd.N_nil _ _ _ _ _ | exact Kd.V_nil _ _ _ _ _ | exact Kd.Q_nil _ _ _ _ _ | exact Kd.S_nil _ _ _ _ _⟩, ⟨by (with_reducible repeat (first | refine blk_drewN ?_ _ | refine blk_drew ?_ | refine blk_alloc ?_ _)); exact BK114.out⟩, ⟨by repeat (first | (with_reducible first | exact HB.out | apply below_alloc | apply pw_below_drewN | apply below_drew1 | refine below_set ?_ GE114.out) | exact HB.out)⟩⟩
  case round =>
    clear H'
    try clear c1
    try clear p2
    obtain ⟨x5_1, x10_1, x115000_1, x115001_1, x115002_1, x115003_1, rfl, HA, HK1, HO_5, BK114, HB⟩ := hrel
    cases gk with
    | zero => exact absurd HA.out (by simp [watch_Run.l0])
    | succ k1 =>
      have H := HA.out
      clear HA
      simp only [watch_Run.l0] at H
      by_cases c4 : x10_1 < (l1.length : Int)
      · rw [if_pos c4] at H
        have c4b0 : decide (x10_1 < (l1.length : Int)) = true := decide_eq_true c4
        clear c4
        by_cases c5 : 0 ≤ x10_1
        · rw [if_pos c5] at H
          have c5b0 : decide (0 ≤ x10_1) = true := decide_eq_true c5
          clear c5
          by_cases c6 : x10_1 < (l1.length : Int)
          · rw [if_pos c6] at H
            have c6b0 : decide (x10_1 < (l1.length : Int)) = true := decide_eq_true c6
            clear c6
            replace H := Option.bind_eq_some_iff.mp H
            obtain ⟨⟨t117, t118, t119, t120⟩, A70, H⟩ := H
            replace H : (if x5_1.length < 4398046511104 then (watch_Run.l0 k1 (x5_1 ++ [(⟨t117, t118, t119, t120⟩ : S23)]) l1 (l1.length : Int) (wrap64 (x10_1 + 1)) t117 t118 t119 t120) else (none)) = some r := H
            have A7 := Aside0.mk A70
            clear A70
            by_cases c8 : x5_1.length < 4398046511104
            · rw [if_pos c8] at H
              have LMc8 := Aside0.mk c8
              clear c8
              obtain ⟨y121, hy121⟩ : ∃ y_ : List (S23), y_ = (x5_1 ++ [(⟨t117, t118, t119, t120⟩ : S23)]) := ⟨_, rfl⟩
              replace H : (watch_Run.l0 k1 y121 l1 (l1.length : Int) (wrap64 (x10_1 + 1)) t117 t118 t119 t120) = some r := by first | (rw [hy121]; with_reducible exact H) | (have H2_ := (Option.bind_some _ _).symm.trans H; rw [hy121]; with_reducible exact H2_) | (have H2_ := (Option.bind_some _ _).symm.trans H; with_reducible exact H2_) | with_reducible exact H | (rw [hy121]; exact H) | exact H
              have Ny121 := Aside0.mk hy121
              clear hy121
              have H' := Aside0.mk H
              clear H
              have p115 : 0 ≤ (x10_1 : Int) := of_decide_eq_true (by first | (with_reducible assumption) | assumption)
              have q115 : x10_1 < (l1.length : Int) := of_decide_eq_true (by first | (with_reducible assumption) | assumption)
              obtain ⟨ad115, e115, hx115_0, hx115_1⟩ := at_T29 HR1.out x10_1 p115 q115
              cases e115
              replace hx115_0 := (HB.out.cell (World.block_lt_of_cell? w _ hx115_0)).trans hx115_0
              replace hx115_1 := (HB.out.cell (World.block_lt_of_cell? w _ hx115_1)).trans hx115_1
              replace p115 := eq_true p115
              replace q115 := eq_true q115
              go_wp2_with (first | ((with_reducible refine gate_dst (N := 7) rfl ?_); refine box_event ?hg (N := 7) ?hd (cs := #[.int .i64 0, .int .i64 0]) (t := 29) ?hr ?_; (case hd => rfl); (case hg => rfl); (case hr => first | (go_simp; done) | (go_simp; rfl)); intro gb116 hg w9 hbox hb; have n0_ := Aside0.mk (Kd.R_below (by (with_reducible repeat (first | apply Kd.R_alloc | apply Kd.R_drewN | apply Kd.R_drew)); exact HO_5.out) hb); have n1_ := Aside0.mk (blk_below (g := gb114) (o := .cells #[.int .i64 x115000_1, .int .i64 x115001_1, .int .i64 x115002_1, .int .i64 x115003_1] 23 (0, 0)) (by (with_reducible repeat (first | refine blk_drewN ?_ _ | refine blk_drew ?_ | refine blk_alloc ?_ _)); exact BK114.out) hb); have n2_ := Aside0.mk (below_step (by repeat (first | (with_reducible first | exact HB.out | apply below_alloc | apply pw_below_drewN | apply below_drew1 | refine below_set ?_ GE114.out) | exact HB.out)) hb); have n3_ := Aside0.mk (hbox); have n4_ := Aside0.mk ((by rw [hg]; exact (below_size (by repeat (first | (with_reducible first | exact HB.out | apply below_alloc | apply pw_below_drewN | apply below_drew1 | refine below_set ?_ GE114.out) | exact HB.out))) : w.heap.size ≤ gb116)); have n5_ := Aside0.mk ((by rw [hg]; exact (below_size (by repeat (first | (with_reducible first | exact HB.out | apply below_alloc | apply pw_below_drewN | apply below_drew1 | refine below_set ?_ GE114.out) | exact HB.out))) : w.heap.size ≤ gb116)); have n6_ := Aside0.mk ((by rw [hg]; exact Nat.ne_of_lt (blk_lt (g := gb114) (o := .cells #[.int .i64 x115000_1, .int .i64 x115001_1, .int .i64 x115002_1, .int .i64 x115003_1] 23 (0, 0)) (by (with_reducible repeat (first | refine blk_drewN ?_ _ | refine blk_drew ?_ | refine blk_alloc ?_ _)); exact BK114.out)) : gb114 ≠ gb116)); have n7_ := Aside0.mk ((by rw [hg]; exact Nat.ne_of_gt (blk_lt (g := gb114) (o := .cells #[.int .i64 x115000_1, .int .i64 x115001_1, .int .i64 x115002_1, .int .i64 x115003_1] 23 (0, 0)) (by (with_reducible repeat (first | refine blk_drewN ?_ _ | refine blk_drew ?_ | refine blk_alloc ?_ _)); exact BK114.out)) : gb116 ≠ gb114)); clear HO_5; clear BK114; clear HB; have HO_5 := n0_; have BK114 := n1_; have HB := n2_; have BK116 := n3_; have GW116 := n4_; have GE116 := n5_; have NB114_116 := n6_; have NB116_114 := n7_; clear n0_ n1_ n2_ n3_ n4_ n5_ n6_ n7_; clear hb hbox hg; have hnb10 := NB116_114.out; have hnc10 := NB114_116.out; have hcz11_0 : w9.cell? ⟨gb116, 0, none⟩ = some (.int .i64 0) := (blk_cell BK116.out 0).trans rfl; have hcz11_1 : w9.cell? ⟨gb116, 1, none⟩ = some (.int .i64 0) := (blk_cell BK116.out 1).trans rfl; have hfz11_0 := blk_frozen BK116.out 0; have hfz11_1 := blk_frozen BK116.out 1; have hcz12_0 : w9.cell? ⟨gb114, 0, none⟩ = some (.int .i64 x115000_1) := (blk_cell BK114.out 0).trans rfl; have hcz12_1 : w9.cell? ⟨gb114, 1, none⟩ = some (.int .i64 x115001_1) := (blk_cell BK114.out 1).trans rfl; have hcz12_2 : w9.cell? ⟨gb114, 2, none⟩ = some (.int .i64 x115002_1) := (blk_cell BK114.out 2).trans rfl; have hcz12_3 : w9.cell? ⟨gb114, 3, none⟩ = some (.int .i64 x115003_1) := (blk_cell BK114.out 3).trans rfl; have hfz12_0 := blk_frozen BK114.out 0; have hfz12_1 := blk_frozen BK114.out 1; have hfz12_2 := blk_frozen BK114.out 2; have hfz12_3 := blk_frozen BK114.out 3) | ((with_reducible refine gate_callee (f := 10) rfl ?_); refine goesL_ (some 16) rfl rfl Try.func10 (by kernel_rfl) rfl #[.agg #[.int .i64 x115000_1, .int .i64 x115001_1, .int .i64 x115002_1, .int .i64 x115003_1], .agg #[.int .i64 ((rd_T29 l1 x10_1).f0), .int .i64 ((rd_T29 l1 x10_1).f1)]] rfl (by (try simp only [List.map_toArray, List.map_cons, List.map_nil]); first | done | rfl | (simp only [List.length_drop, List.length_take]; rfl)) ?_; (with_reducible refine (watch_Next.calls k1 x115000_1 x115001_1 x115002_1 x115003_1 ((rd_T29 l1 x10_1).f0) ((rd_T29 l1 x10_1).f1) t117 t118 t119 t120 _ A7.out).mono ?_); rintro e w13 ⟨rfl, hb⟩; refine ⟨_, rfl, ?_⟩; have n0_ := Aside0.mk (Kd.R_below (by (with_reducible repeat (first | apply Kd.R_alloc | apply Kd.R_drewN | apply Kd.R_drew)); exact (Kd.R_mono (Kd.R_far (p := ⟨gb116, 1, none⟩) (Kd.R_far (p := ⟨gb116, 0, none⟩) (Kd.R_types HO_5.out BK116.out (by decide)) (fun _ hk => hk.2) (.int .i64 ((rd_T29 l1 x10_1).f0))) (fun _ hk => hk.2) (.int .i64 ((rd_T29 l1 x10_1).f1))) (fun _ h_ => h_.1))) hb); have n1_ := Aside0.mk (blk_below (g := gb114) (o := .cells #[.int .i64 x115000_1, .int .i64 x115001_1, .int .i64 x115002_1, .int .i64 x115003_1] 23 (0, 0)) (by (with_reducible repeat (first | refine blk_drewN ?_ _ | refine blk_drew ?_ | refine blk_alloc ?_ _)); refine blk_far ?_ NB114_116.out _; (with_reducible repeat (first | refine blk_drewN ?_ _ | refine blk_drew ?_ | refine blk_alloc ?_ _)); refine blk_far ?_ NB114_116.out _; (with_reducible repeat (first | refine blk_drewN ?_ _ | refine blk_drew ?_ | refine blk_alloc ?_ _)); exact BK114.out) hb); have n2_ := Aside0.mk (blk_below (g := gb116) (o := .cells #[.int .i64 ((rd_T29 l1 x10_1).f0), .int .i64 ((rd_T29 l1 x10_1).f1)] 29 (0, 0)) (by (with_reducible repeat (first | refine blk_drewN ?_ _ | refine blk_drew ?_ | refine blk_alloc ?_ _)); refine blk_put (cs := #[.int .i64 ((rd_T29 l1 x10_1).f0), .int .i64 0]) ?_ 1 _ rfl; (with_reducible repeat (first | refine blk_drewN ?_ _ | refine blk_drew ?_ | refine blk_alloc ?_ _)); refine blk_put (cs := #[.int .i64 0, .int .i64 0]) ?_ 0 _ rfl; (with_reducible repeat (first | refine blk_drewN ?_ _ | refine blk_drew ?_ | refine blk_alloc ?_ _)); exact BK116.out) hb); have n3_ := Aside0.mk (below_step (by repeat (first | (with_reducible first | exact HB.out | apply below_alloc | apply pw_below_drewN | apply below_drew1 | refine below_set ?_ GE114.out | refine below_set ?_ GE116.out) | exact HB.out)) hb); clear HO_5; clear BK114; clear BK116; clear HB; have HO_5 := n0_; have BK114 := n1_; have BK116 := n2_; have HB := n3_; clear n0_ n1_ n2_ n3_; (try clear hb); (try clear hb2); (try clear hk); (try clear hi); have hcz14_0 : w13.cell? ⟨gb114, 0, none⟩ = some (.int .i64 x115000_1) := (blk_cell BK114.out 0).trans rfl; have hcz14_1 : w13.cell? ⟨gb114, 1, none⟩ = some (.int .i64 x115001_1) := (blk_cell BK114.out 1).trans rfl; have hcz14_2 : w13.cell? ⟨gb114, 2, none⟩ = some (.int .i64 x115002_1) := (blk_cell BK114.out 2).trans rfl; have hcz14_3 : w13.cell? ⟨gb114, 3, none⟩ = some (.int .i64 x115003_1) := (blk_cell BK114.out 3).trans rfl; have hfz14_0 := blk_frozen BK114.out 0; have hfz14_1 := blk_frozen BK114.out 1; have hfz14_2 := blk_frozen BK114.out 2; have hfz14_3 := blk_frozen BK114.out 3) | ((with_reducible refine gate_builtin (b := .append) (xs := #[.tmp 17, .tmp 19]) rfl ?_); at_builtin; refine Kd.R_append k23 (w0 := w) w.heap.size rfl (.tmp 17) (.tmp 19) 26 23 (.agg #[(.int .i64 0), (.int .i64 0), (.int .i64 0), (.int .i64 0)]) 32 rfl Try.underlying26 info23 rfl (by decide) (by omega) u5 x5_1 (⟨t117, t118, t119, t120⟩ : S23) [.int .i64 t117, .int .i64 t118, .int .i64 t119, .int .i64 t120] (fun k_ => k_ ≠ gb114) (fun _ => False) rfl (by first | (go_simp; done) | (go_simp; rfl)) ?aP (fun _ hk => hk.elim) ?aF ?aO ?aB ?aS ?aL ?_; (case aP => exact k23_mkM _ _ _ (⟨t117, t118, t119, t120⟩ : S23)); (case aB => exact (by repeat (first | (with_reducible first | exact HB.out | apply below_alloc | apply pw_below_drewN | apply below_drew1 | refine below_set ?_ GE114.out | refine below_set ?_ GE116.out) | exact HB.out))); (case aF => exact (fun k_ hk => Kd.freshB (g := gb114) (o := .cells #[.int .i64 t117, .int .i64 t118, .int .i64 t119, .int .i64 t120] 23 (0, 0)) (by (with_reducible repeat (first | refine blk_drewN ?_ _ | refine blk_drew ?_ | refine blk_alloc ?_ _)); refine blk_put (cs := #[.int .i64 t117, .int .i64 t118, .int .i64 t119, .int .i64 x115003_1]) ?_ 3 _ rfl; (with_reducible repeat (first | refine blk_drewN ?_ _ | refine blk_drew ?_ | refine blk_alloc ?_ _)); refine blk_put (cs := #[.int .i64 t117, .int .i64 t118, .int .i64 x115002_1, .int .i64 x115003_1]) ?_ 2 _ rfl; (with_reducible repeat (first | refine blk_drewN ?_ _ | refine blk_drew ?_ | refine blk_alloc ?_ _)); refine blk_put (cs := #[.int .i64 t117, .int .i64 x115001_1, .int .i64 x115002_1, .int .i64 x115003_1]) ?_ 1 _ rfl; (with_reducible repeat (first | refine blk_drewN ?_ _ | refine blk_drew ?_ | refine blk_alloc ?_ _)); refine blk_put (cs := #[.int .i64 x115000_1, .int .i64 x115001_1, .int .i64 x115002_1, .int .i64 x115003_1]) ?_ 0 _ rfl; (with_reducible repeat (first | refine blk_drewN ?_ _ | refine blk_drew ?_ | refine blk_alloc ?_ _)); exact BK114.out) k_ hk)); (case aO => exact (by (with_reducible repeat (first | apply Kd.R_alloc | apply Kd.R_drewN | apply Kd.R_drew)); exact Kd.R_mono (Kd.R_far (p := ⟨gb114, 3, none⟩) (Kd.R_far (p := ⟨gb114, 2, none⟩) (Kd.R_far (p := ⟨gb114, 1, none⟩) (Kd.R_far (p := ⟨gb114, 0, none⟩) (Kd.R_mono HO_5.out (fun k_ hk => (⟨hk, hk⟩ : _ ∧ k_ ≠ gb114))) (fun _ hk => hk.2) (.int .i64 t117)) (fun _ hk => hk.2) (.int .i64 t118)) (fun _ hk => hk.2) (.int .i64 t119)) (fun _ hk => hk.2) (.int .i64 t120)) (fun _ hk => hk.1))); (case aS => exact (below_size (by repeat (first | (with_reducible first | exact HB.out | apply below_alloc | apply pw_below_drewN | apply below_drew1 | refine below_set ?_ GE114.out | refine below_set ?_ GE116.out) | exact HB.out)))); (case aL => have := LMc8.out; omega); intro v122 w15 ho hb hg hat; rw [← Ny121.out] at ho; have n0_ := Aside0.mk (blk_grown (g := gb114) (o := .cells #[.int .i64 t117, .int .i64 t118, .int .i64 t119, .int .i64 t120] 23 (0, 0)) (by (with_reducible repeat (first | refine blk_drewN ?_ _ | refine blk_drew ?_ | refine blk_alloc ?_ _)); refine blk_put (cs := #[.int .i64 t117, .int .i64 t118, .int .i64 t119, .int .i64 x115003_1]) ?_ 3 _ rfl; (with_reducible repeat (first | refine blk_drewN ?_ _ | refine blk_drew ?_ | refine blk_alloc ?_ _)); refine blk_put (cs := #[.int .i64 t117, .int .i64 t118, .int .i64 x115002_1, .int .i64 x115003_1]) ?_ 2 _ rfl; (with_reducible repeat (first | refine blk_drewN ?_ _ | refine blk_drew ?_ | refine blk_alloc ?_ _)); refine blk_put (cs := #[.int .i64 t117, .int .i64 x115001_1, .int .i64 x115002_1, .int .i64 x115003_1]) ?_ 1 _ rfl; (with_reducible repeat (first | refine blk_drewN ?_ _ | refine blk_drew ?_ | refine blk_alloc ?_ _)); refine blk_put (cs := #[.int .i64 x115000_1, .int .i64 x115001_1, .int .i64 x115002_1, .int .i64 x115003_1]) ?_ 0 _ rfl; (with_reducible repeat (first | refine blk_drewN ?_ _ | refine blk_drew ?_ | refine blk_alloc ?_ _)); exact BK114.out) hg (Kd.R_away HO_5.out (fun _ hk => hk))); have n1_ := Aside0.mk (blk_grown (g := gb116) (o := .cells #[.int .i64 ((rd_T29 l1 x10_1).f0), .int .i64 ((rd_T29 l1 x10_1).f1)] 29 (0, 0)) (by (with_reducible repeat (first | refine blk_drewN ?_ _ | refine blk_drew ?_ | refine blk_alloc ?_ _)); refine blk_far ?_ NB116_114.out _; (with_reducible repeat (first | refine blk_drewN ?_ _ | refine blk_drew ?_ | refine blk_alloc ?_ _)); refine blk_far ?_ NB116_114.out _; (with_reducible repeat (first | refine blk_drewN ?_ _ | refine blk_drew ?_ | refine blk_alloc ?_ _)); refine blk_far ?_ NB116_114.out _; (with_reducible repeat (first | refine blk_drewN ?_ _ | refine blk_drew ?_ | refine blk_alloc ?_ _)); refine blk_far ?_ NB116_114.out _; (with_reducible repeat (first | refine blk_drewN ?_ _ | refine blk_drew ?_ | refine blk_alloc ?_ _)); exact BK116.out) hg (Kd.R_ne HO_5.out BK116.out (by decide))); have n2_ := Aside0.mk (hb); have n3_ := Aside0.mk (ho); clear BK114; clear BK116; clear HB; clear HO_5; have BK114 := n0_; have BK116 := n1_; have HB := n2_; have HO123 := n3_; clear n0_ n1_ n2_ n3_; clear ho hb hg hat))
              go_roundg k1
              case measure => have := HK1.out; omega
              case rel => exact ⟨(y121), (wrap64 (x10_1 + 1)), (t117), (t118), (t119), (t120), (by first | rfl | (simp; done) | (simp [*]; done)), H', ⟨by have := HK1.out; omega⟩, ⟨by (with_reducible repeat (first | apply Kd.R_alloc | apply Kd.R_drewN | apply Kd.R_drew)); exact HO123.out⟩, ⟨by (with_reducible repeat (first | refine blk_drewN ?_ _ | refine blk_drew ?_ | refine blk_alloc ?_ _)); exact BK114.out⟩, ⟨by repeat (first | (with_reducible first | exact HB.out | apply below_alloc | apply pw_below_drewN | apply below_drew1 | refine below_set ?_ GE114.out | refine below_set ?_ GE116.out) | exact HB.out)⟩⟩
            · rw [if_neg c8] at H
              exact absurd H (by simp)
          · rw [if_neg c6] at H
            exact absurd H (by simp)
        · rw [if_neg c5] at H
          exact absurd H (by simp)
      · rw [if_neg c4] at H
        have c4b0 : decide (x10_1 < (l1.length : Int)) = false := decide_eq_false c4
        clear c4
        obtain rfl := Option.some.inj H
        go_wp2
        go_ret
        exact ⟨_, by first | rfl | (simp [errW_none, errW_some] <;> rfl) | (simp [*, errW_none, errW_some] <;> rfl), by (with_reducible repeat (first | apply Kd.R_alloc | apply Kd.R_drewN | apply Kd.R_drew)); exact Kd.R_mono HO_5.out (fun _ hk => trivial), by repeat (first | (with_reducible first | exact HB.out | apply below_alloc | apply pw_below_drewN | apply below_drew1 | refine below_set ?_ GE114.out) | exact HB.out)⟩

/-! ### coupletlaw17_awake: function 8 -/
def coupletlaw17_awake.f (k : Nat)  : Option (Bool) := (watch_Run.f k 0 0 0 0 (([(⟨1, 0⟩ : S29), (⟨3, 0⟩ : S29), (⟨3, 0⟩ : S29), (⟨3, 1⟩ : S29)] : List (S29)))).bind fun t127 => (if (t127.length : Int) = 4 then (if 2 < (t127.length : Int) then (if ((rd_T23 t127 2).f0) = 1 then (if 3 < (t127.length : Int) then (if (((rd_T23 t127 3).f0) == 2 && (((rd_T23 t127 3).f1) == 0 && (((rd_T23 t127 3).f2) == 3 && (((rd_T23 t127 3).f3) == 3)))) = true then ((watch_Valid.f ((rd_T23 t127 3).f0) ((rd_T23 t127 3).f1) ((rd_T23 t127 3).f2) ((rd_T23 t127 3).f3)).bind fun t133 => (if t133 = true then ((watch_Right.f k ((rd_T23 t127 3).f0) ((rd_T23 t127 3).f1) ((rd_T23 t127 3).f2) ((rd_T23 t127 3).f3)).bind fun t135 => (some t135)) else (some false))) else (some false)) else (none)) else (some false)) else (none)) else (some false))
theorem coupletlaw17_awake.mono : ∀ k, LeO (coupletlaw17_awake.f k ) (coupletlaw17_awake.f (k + 1) ) := by
  intro  k
  unfold coupletlaw17_awake.f
  repeat' first
      | (with_reducible exact watch_Right.mono _ _ _ _ _)
      | (with_reducible exact watch_Run.mono _ _ _ _ _ _)
      | (with_reducible exact LeO.refl _)
      | (with_reducible exact LeO.none _)
      | (with_reducible refine LeO.ite ?_ ?_)
      | (with_reducible refine LeO.bind ?_ (fun _ => ?_))
      | exact watch_Right.mono _ _ _ _ _
      | exact watch_Run.mono _ _ _ _ _ _
      | exact LeO.none _
      | refine LeO.ite ?_ ?_
      | refine LeO.bind ?_ (fun _ => ?_)
set_option maxHeartbeats 8000000 in
set_option maxRecDepth 100000 in
theorem coupletlaw17_awake.calls (k : Nat)  (r : Bool) (w : World) (h : coupletlaw17_awake.f k  = some r) :
    Calls Try.prog 8 #[] w fun e w' => e = .returned (.bool r) ∧ Below w.heap.size w w' := by
  have hu23 := Try.underlying23
  have hu29 := Try.underlying29
  have HB := Aside0.mk (Below.refl w.heap.size w)
  have H : ((watch_Run.f k 0 0 0 0 (([(⟨1, 0⟩ : S29), (⟨3, 0⟩ : S29), (⟨3, 0⟩ : S29), (⟨3, 1⟩ : S29)] : List (S29)))).bind fun t127 => (if (t127.length : Int) = 4 then (if 2 < (t127.length : Int) then (if ((rd_T23 t127 2).f0) = 1 then (if 3 < (t127.length : Int) then (if (((rd_T23 t127 3).f0) == 2 && (((rd_T23 t127 3).f1) == 0 && (((rd_T23 t127 3).f2) == 3 && (((rd_T23 t127 3).f3) == 3)))) = true then ((watch_Valid.f ((rd_T23 t127 3).f0) ((rd_T23 t127 3).f1) ((rd_T23 t127 3).f2) ((rd_T23 t127 3).f3)).bind fun t133 => (if t133 = true then ((watch_Right.f k ((rd_T23 t127 3).f0) ((rd_T23 t127 3).f1) ((rd_T23 t127 3).f2) ((rd_T23 t127 3).f3)).bind fun t135 => (some t135)) else (some false))) else (some false)) else (none)) else (some false)) else (none)) else (some false))) = some r := h
  clear h
  obtain ⟨y124, hy124⟩ : ∃ y_ : List (S29), y_ = (([(⟨1, 0⟩ : S29), (⟨3, 0⟩ : S29), (⟨3, 0⟩ : S29), (⟨3, 1⟩ : S29)] : List (S29))) := ⟨_, rfl⟩
  replace H : ((watch_Run.f k 0 0 0 0 y124).bind fun t127 => (if (t127.length : Int) = 4 then (if 2 < (t127.length : Int) then (if ((rd_T23 t127 2).f0) = 1 then (if 3 < (t127.length : Int) then (if (((rd_T23 t127 3).f0) == 2 && (((rd_T23 t127 3).f1) == 0 && (((rd_T23 t127 3).f2) == 3 && (((rd_T23 t127 3).f3) == 3)))) = true then ((watch_Valid.f ((rd_T23 t127 3).f0) ((rd_T23 t127 3).f1) ((rd_T23 t127 3).f2) ((rd_T23 t127 3).f3)).bind fun t133 => (if t133 = true then ((watch_Right.f k ((rd_T23 t127 3).f0) ((rd_T23 t127 3).f1) ((rd_T23 t127 3).f2) ((rd_T23 t127 3).f3)).bind fun t135 => (some t135)) else (some false))) else (some false)) else (none)) else (some false)) else (none)) else (some false))) = some r := by first | (rw [hy124]; with_reducible exact H) | (have H2_ := (Option.bind_some _ _).symm.trans H; rw [hy124]; with_reducible exact H2_) | (have H2_ := (Option.bind_some _ _).symm.trans H; with_reducible exact H2_) | with_reducible exact H | (rw [hy124]; exact H) | exact H
  have Ny124 := Aside0.mk hy124
  clear hy124
  replace H := Option.bind_eq_some_iff.mp H
  obtain ⟨t127, A10, H⟩ := H
  replace H : (if (t127.length : Int) = 4 then (if 2 < (t127.length : Int) then (if ((rd_T23 t127 2).f0) = 1 then (if 3 < (t127.length : Int) then (if (((rd_T23 t127 3).f0) == 2 && (((rd_T23 t127 3).f1) == 0 && (((rd_T23 t127 3).f2) == 3 && (((rd_T23 t127 3).f3) == 3)))) = true then ((watch_Valid.f ((rd_T23 t127 3).f0) ((rd_T23 t127 3).f1) ((rd_T23 t127 3).f2) ((rd_T23 t127 3).f3)).bind fun t133 => (if t133 = true then ((watch_Right.f k ((rd_T23 t127 3).f0) ((rd_T23 t127 3).f1) ((rd_T23 t127 3).f2) ((rd_T23 t127 3).f3)).bind fun t135 => (some t135)) else (some false))) else (some false)) else (none)) else (some false)) else (none)) else (some false)) = some r := H
  have A1 := Aside0.mk A10
  clear A10
  by_cases c2 : (t127.length : Int) = 4
  · rw [if_pos c2] at H
    have c2b0 : ((t127.length : Int) == 4) = true := beq_iff_eq.mpr c2
    have c2b1 : ((t127.length : Int) != 4) = false := bne_eq_false_iff_eq.mpr c2
    clear c2
    by_cases c3 : 2 < (t127.length : Int)
    · rw [if_pos c3] at H
      have c3b0 : decide (2 < (t127.length : Int)) = true := decide_eq_true c3
      have c3b1 : decide (2 < t127.length) = true := decide_eq_true (by omega)
      clear c3
      by_cases c4 : ((rd_T23 t127 2).f0) = 1
      · rw [if_pos c4] at H
        have c4b0 : (((rd_T23 t127 2).f0) == 1) = true := beq_iff_eq.mpr c4
        have c4b1 : (((rd_T23 t127 2).f0) != 1) = false := bne_eq_false_iff_eq.mpr c4
        clear c4
        by_cases c5 : 3 < (t127.length : Int)
        · rw [if_pos c5] at H
          have c5b0 : decide (3 < (t127.length : Int)) = true := decide_eq_true c5
          have c5b1 : decide (3 < t127.length) = true := decide_eq_true (by omega)
          clear c5
          by_cases c6 : (((rd_T23 t127 3).f0) == 2 && (((rd_T23 t127 3).f1) == 0 && (((rd_T23 t127 3).f2) == 3 && (((rd_T23 t127 3).f3) == 3)))) = true
          · rw [if_pos c6] at H
            have c6b0 : (((rd_T23 t127 3).f0) == 2 && (((rd_T23 t127 3).f1) == 0 && (((rd_T23 t127 3).f2) == 3 && (((rd_T23 t127 3).f3) == 3)))) = true := c6
            (try (have c6b1 : decide (((rd_T23 t127 3).f0) = 2 && (((rd_T23 t127 3).f1) == 0 && (((rd_T23 t127 3).f2) == 3 && (((rd_T23 t127 3).f3) == 3)))) = true := by simpa using c6))
            (try (have c6b2 : (((rd_T23 t127 3).f0) == 2 && (((rd_T23 t127 3).f1) == 0 && (((rd_T23 t127 3).f2) == 3 && (((rd_T23 t127 3).f3) == 3)))) = true := by simpa using c6))
            clear c6
            replace H := Option.bind_eq_some_iff.mp H
            obtain ⟨t133, A70, H⟩ := H
            replace H : (if t133 = true then ((watch_Right.f k ((rd_T23 t127 3).f0) ((rd_T23 t127 3).f1) ((rd_T23 t127 3).f2) ((rd_T23 t127 3).f3)).bind fun t135 => (some t135)) else (some false)) = some r := H
            have A7 := Aside0.mk A70
            clear A70
            by_cases c8 : t133 = true
            · subst c8
              have H1 : ((watch_Right.f k ((rd_T23 t127 3).f0) ((rd_T23 t127 3).f1) ((rd_T23 t127 3).f2) ((rd_T23 t127 3).f3)).bind fun t135 => (some t135)) = some r := by rw [if_pos rfl] at H; exact H
              clear H
              have H := H1
              clear H1
              replace H := Option.bind_eq_some_iff.mp H
              obtain ⟨t135, A90, H⟩ := H
              replace H : (some t135) = some r := H
              have A9 := Aside0.mk A90
              clear A90
              obtain rfl := Option.some.inj H
              go_enter Try.func8, Try.ntmps8
              go_wp2_with (first | ((with_reducible refine gate_dst (N := 7) rfl ?_); refine Kd.R_lit k29 _ 29 ?hg (N := 7) ?hd (xs := ([(⟨1, 0⟩ : S29), (⟨3, 0⟩ : S29), (⟨3, 0⟩ : S29), (⟨3, 1⟩ : S29)] : List (S29))) (inner := [.int .i64 1, .int .i64 0, .int .i64 3, .int .i64 0, .int .i64 3, .int .i64 0, .int .i64 3, .int .i64 1]) (ok := fun _ => True) (okp := fun _ => True) ?hr ?hp (fun _ hk => hk) trivial (Below.refl _ _) (Nat.le_refl _) (by simp) ?_; (case hd => rfl); (case hg => rfl); (case hr => first | (go_simp; done) | (go_simp; rfl)); (case hp => exact (Reps.c2 (show Kd.M k29 _ _ _ (⟨1, 0⟩ : S29) [.int .i64 1, .int .i64 0] from (k29_mkM _ _ _ (⟨1, 0⟩ : S29) )) (Reps.c2 (show Kd.M k29 _ _ _ (⟨3, 0⟩ : S29) [.int .i64 3, .int .i64 0] from (k29_mkM _ _ _ (⟨3, 0⟩ : S29) )) (Reps.c2 (show Kd.M k29 _ _ _ (⟨3, 0⟩ : S29) [.int .i64 3, .int .i64 0] from (k29_mkM _ _ _ (⟨3, 0⟩ : S29) )) (Reps.c2 (show Kd.M k29 _ _ _ (⟨3, 1⟩ : S29) [.int .i64 3, .int .i64 1] from (k29_mkM _ _ _ (⟨3, 1⟩ : S29) )) (Reps.none _ _)))))); intro v125 w10 ho11 hb hg_ hnew_; clear hg_ hnew_; (first | rw [← Ny124.out] at ho11 | (simp only [Int.reduceToNat] at ho11; rw [← Ny124.out] at ho11)); have n0_ := Aside0.mk (Kd.R_lower ho11 (below_size (by repeat (first | (with_reducible first | exact HB.out | apply below_alloc | apply pw_below_drewN | apply below_drew1) | exact HB.out)))); have n1_ := Aside0.mk (below_step (by repeat (first | (with_reducible first | exact HB.out | apply below_alloc | apply pw_below_drewN | apply below_drew1) | exact HB.out)) hb); clear HB; have HO126 := n0_; have HB := n1_; clear n0_ n1_; clear hb ho11; obtain ⟨Ao12, co12, eo12⟩ := Kd.R_slice HO126.out; subst eo12) | ((with_reducible refine gate_callee (f := 9) rfl ?_); refine goesL_ (some 8) rfl rfl Try.func9 (by kernel_rfl) rfl #[.agg #[.int .i64 0, .int .i64 0, .int .i64 0, .int .i64 0], .slice Ao12 y124.length co12] rfl (by (try simp only [List.map_toArray, List.map_cons, List.map_nil]); first | done | rfl | (simp only [List.length_drop, List.length_take]; rfl)) ?_; (with_reducible refine (watch_Run.calls k 0 0 0 0 _ _ y124 t127 _ ?side1 ?side2 A1.out).mono ?_); (case side1 => repeat (first | exact (Kd.R_reads' HO126.out).2.2 | (with_reducible refine Kd.C_alloc ?_ _) | (with_reducible refine Kd.C_drewN ?_ _) | (with_reducible refine Kd.C_drew ?_))); (case side2 => exact (Kd.R_reads' HO126.out).2.1); rintro e w13 ⟨v128, rfl, ho0, hb⟩; refine ⟨_, rfl, ?_⟩; have n0_ := Aside0.mk (Kd.R_below (by (with_reducible repeat (first | apply Kd.R_alloc | apply Kd.R_drewN | apply Kd.R_drew)); exact HO126.out) hb); have n1_ := Aside0.mk (Kd.R_lower ho0 (below_size (by repeat (first | (with_reducible first | exact HB.out | apply below_alloc | apply pw_below_drewN | apply below_drew1) | exact HB.out)))); have n2_ := Aside0.mk (below_step (by repeat (first | (with_reducible first | exact HB.out | apply below_alloc | apply pw_below_drewN | apply below_drew1) | exact HB.out)) hb); clear HO126; clear HB; have HO126 := n0_; have HO129 := n1_; have HB := n2_; clear n0_ n1_ n2_; (try clear hb); (try clear hb2); (try clear hk); (try clear hi); (try clear ho0); obtain ⟨Ao14, co14, eo14⟩ := Kd.R_slice HO129.out; subst eo14; have p130 : 0 ≤ (2 : Int) := (by omega); have q130 : 2 < (t127.length : Int) := of_decide_eq_true (by first | (with_reducible assumption) | assumption); obtain ⟨ad130, e130, hx130_0, hx130_1, hx130_2, hx130_3⟩ := at_T23 (Kd.R_reads' HO129.out).2.2 2 p130 q130; cases e130; (try simp only [show (2 : Int).toNat = 2 from rfl, Nat.reduceMul, Nat.reduceEqDiff, Go.Addr.add, ↓reduceIte] at hx130_0); (try simp only [show (2 : Int).toNat = 2 from rfl, Nat.reduceMul, Nat.reduceEqDiff, Go.Addr.add, ↓reduceIte] at hx130_1); (try simp only [show (2 : Int).toNat = 2 from rfl, Nat.reduceMul, Nat.reduceEqDiff, Go.Addr.add, ↓reduceIte] at hx130_2); (try simp only [show (2 : Int).toNat = 2 from rfl, Nat.reduceMul, Nat.reduceEqDiff, Go.Addr.add, ↓reduceIte] at hx130_3); have qi130 : (2 < t127.length) = True := eq_true (by omega); (try rw [show ((2 : Int)).toNat = 2 from rfl] at hx130_0); (try rw [show 2 * 4 = 8 from rfl] at hx130_0); (try rw [show ((2 : Int)).toNat = 2 from rfl] at hx130_1); (try rw [show 2 * 4 = 8 from rfl] at hx130_1); (try rw [show ((2 : Int)).toNat = 2 from rfl] at hx130_2); (try rw [show 2 * 4 = 8 from rfl] at hx130_2); (try rw [show ((2 : Int)).toNat = 2 from rfl] at hx130_3); (try rw [show 2 * 4 = 8 from rfl] at hx130_3); replace p130 := eq_true p130; replace q130 := eq_true q130; have p131 : 0 ≤ (3 : Int) := (by omega); have q131 : 3 < (t127.length : Int) := of_decide_eq_true (by first | (with_reducible assumption) | assumption); obtain ⟨ad131, e131, hx131_0, hx131_1, hx131_2, hx131_3⟩ := at_T23 (Kd.R_reads' HO129.out).2.2 3 p131 q131; obtain rfl : ad130 = ad131 := (by injection e131); (try simp only [show (3 : Int).toNat = 3 from rfl, Nat.reduceMul, Nat.reduceEqDiff, Go.Addr.add, ↓reduceIte] at hx131_0); (try simp only [show (3 : Int).toNat = 3 from rfl, Nat.reduceMul, Nat.reduceEqDiff, Go.Addr.add, ↓reduceIte] at hx131_1); (try simp only [show (3 : Int).toNat = 3 from rfl, Nat.reduceMul, Nat.reduceEqDiff, Go.Addr.add, ↓reduceIte] at hx131_2); (try simp only [show (3 : Int).toNat = 3 from rfl, Nat.reduceMul, Nat.reduceEqDiff, Go.Addr.add, ↓reduceIte] at hx131_3); have qi131 : (3 < t127.length) = True := eq_true (by omega); (try rw [show ((3 : Int)).toNat = 3 from rfl] at hx131_0); (try rw [show 3 * 4 = 12 from rfl] at hx131_0); (try rw [show ((3 : Int)).toNat = 3 from rfl] at hx131_1); (try rw [show 3 * 4 = 12 from rfl] at hx131_1); (try rw [show ((3 : Int)).toNat = 3 from rfl] at hx131_2); (try rw [show 3 * 4 = 12 from rfl] at hx131_2); (try rw [show ((3 : Int)).toNat = 3 from rfl] at hx131_3); (try rw [show 3 * 4 = 12 from rfl] at hx131_3); replace p131 := eq_true p131; replace q131 := eq_true q131; have p132 : 0 ≤ (3 : Int) := (by omega); have q132 : 3 < (t127.length : Int) := of_decide_eq_true (by first | (with_reducible assumption) | assumption); obtain ⟨ad132, e132, hx132_0, hx132_1, hx132_2, hx132_3⟩ := at_T23 (Kd.R_reads' HO129.out).2.2 3 p132 q132; obtain rfl : ad130 = ad132 := (by injection e132); (try simp only [show (3 : Int).toNat = 3 from rfl, Nat.reduceMul, Nat.reduceEqDiff, Go.Addr.add, ↓reduceIte] at hx132_0); (try simp only [show (3 : Int).toNat = 3 from rfl, Nat.reduceMul, Nat.reduceEqDiff, Go.Addr.add, ↓reduceIte] at hx132_1); (try simp only [show (3 : Int).toNat = 3 from rfl, Nat.reduceMul, Nat.reduceEqDiff, Go.Addr.add, ↓reduceIte] at hx132_2); (try simp only [show (3 : Int).toNat = 3 from rfl, Nat.reduceMul, Nat.reduceEqDiff, Go.Addr.add, ↓reduceIte] at hx132_3); have qi132 : (3 < t127.length) = True := eq_true (by omega); (try rw [show ((3 : Int)).toNat = 3 from rfl] at hx132_0); (try rw [show 3 * 4 = 12 from rfl] at hx132_0); (try rw [show ((3 : Int)).toNat = 3 from rfl] at hx132_1); (try rw [show 3 * 4 = 12 from rfl] at hx132_1); (try rw [show ((3 : Int)).toNat = 3 from rfl] at hx132_2); (try rw [show 3 * 4 = 12 from rfl] at hx132_2); (try rw [show ((3 : Int)).toNat = 3 from rfl] at hx132_3); (try rw [show 3 * 4 = 12 from rfl] at hx132_3); replace p132 := eq_true p132; replace q132 := eq_true q132) | (go_at_call 13; (with_reducible refine (watch_Valid.calls ((rd_T23 t127 3).f0) ((rd_T23 t127 3).f1) ((rd_T23 t127 3).f2) ((rd_T23 t127 3).f3) true _ A7.out).mono ?_); rintro e w15 ⟨rfl, hb⟩; have n0_ := Aside0.mk (Kd.R_below (by (with_reducible repeat (first | apply Kd.R_alloc | apply Kd.R_drewN | apply Kd.R_drew)); exact HO126.out) hb); have n1_ := Aside0.mk (Kd.R_below (by (with_reducible repeat (first | apply Kd.R_alloc | apply Kd.R_drewN | apply Kd.R_drew)); exact HO129.out) hb); have n2_ := Aside0.mk (below_step (by repeat (first | (with_reducible first | exact HB.out | apply below_alloc | apply pw_below_drewN | apply below_drew1) | exact HB.out)) hb); clear HO126; clear HO129; clear HB; have HO126 := n0_; have HO129 := n1_; have HB := n2_; clear n0_ n1_ n2_; (try clear hb); (try clear hb2); (try clear hk); (try clear hi); have p134 : 0 ≤ (3 : Int) := (by omega); have q134 : 3 < (t127.length : Int) := of_decide_eq_true (by first | (with_reducible assumption) | assumption); obtain ⟨ad134, e134, hx134_0, hx134_1, hx134_2, hx134_3⟩ := at_T23 (Kd.R_reads' HO129.out).2.2 3 p134 q134; obtain rfl : ad130 = ad134 := (by injection e134); (try simp only [show (3 : Int).toNat = 3 from rfl, Nat.reduceMul, Nat.reduceEqDiff, Go.Addr.add, ↓reduceIte] at hx134_0); (try simp only [show (3 : Int).toNat = 3 from rfl, Nat.reduceMul, Nat.reduceEqDiff, Go.Addr.add, ↓reduceIte] at hx134_1); (try simp only [show (3 : Int).toNat = 3 from rfl, Nat.reduceMul, Nat.reduceEqDiff, Go.Addr.add, ↓reduceIte] at hx134_2); (try simp only [show (3 : Int).toNat = 3 from rfl, Nat.reduceMul, Nat.reduceEqDiff, Go.Addr.add, ↓reduceIte] at hx134_3); have qi134 : (3 < t127.length) = True := eq_true (by omega); (try rw [show ((3 : Int)).toNat = 3 from rfl] at hx134_0); (try rw [show 3 * 4 = 12 from rfl] at hx134_0); (try rw [show ((3 : Int)).toNat = 3 from rfl] at hx134_1); (try rw [show 3 * 4 = 12 from rfl] at hx134_1); (try rw [show ((3 : Int)).toNat = 3 from rfl] at hx134_2); (try rw [show 3 * 4 = 12 from rfl] at hx134_2); (try rw [show ((3 : Int)).toNat = 3 from rfl] at hx134_3); (try rw [show 3 * 4 = 12 from rfl] at hx134_3); replace p134 := eq_true p134; replace q134 := eq_true q134) | (go_at_call 12; (with_reducible refine (watch_Right.calls k ((rd_T23 t127 3).f0) ((rd_T23 t127 3).f1) ((rd_T23 t127 3).f2) ((rd_T23 t127 3).f3) t135 _ A9.out).mono ?_); rintro e w16 ⟨rfl, hb⟩; have n0_ := Aside0.mk (Kd.R_below (by (with_reducible repeat (first | apply Kd.R_alloc | apply Kd.R_drewN | apply Kd.R_drew)); exact HO126.out) hb); have n1_ := Aside0.mk (Kd.R_below (by (with_reducible repeat (first | apply Kd.R_alloc | apply Kd.R_drewN | apply Kd.R_drew)); exact HO129.out) hb); have n2_ := Aside0.mk (below_step (by repeat (first | (with_reducible first | exact HB.out | apply below_alloc | apply pw_below_drewN | apply below_drew1) | exact HB.out)) hb); clear HO126; clear HO129; clear HB; have HO126 := n0_; have HO129 := n1_; have HB := n2_; clear n0_ n1_ n2_; (try clear hb); (try clear hb2); (try clear hk); (try clear hi)))
              go_ret
              exact ⟨by first | rfl | (simp [errW_none, errW_some] <;> rfl) | (simp [*, errW_none, errW_some] <;> rfl), by repeat (first | (with_reducible first | exact HB.out | apply below_alloc | apply pw_below_drewN | apply below_drew1) | exact HB.out)⟩
            · replace c8 := Bool.eq_false_iff.mpr c8
              subst c8
              have H1 : (some false) = some r := by rw [if_neg (show ¬ (false = true) by decide)] at H; exact H
              clear H
              have H := H1
              clear H1
              obtain rfl := Option.some.inj H
              go_enter Try.func8, Try.ntmps8
              go_wp2_with (first | ((with_reducible refine gate_dst (N := 7) rfl ?_); refine Kd.R_lit k29 _ 29 ?hg (N := 7) ?hd (xs := ([(⟨1, 0⟩ : S29), (⟨3, 0⟩ : S29), (⟨3, 0⟩ : S29), (⟨3, 1⟩ : S29)] : List (S29))) (inner := [.int .i64 1, .int .i64 0, .int .i64 3, .int .i64 0, .int .i64 3, .int .i64 0, .int .i64 3, .int .i64 1]) (ok := fun _ => True) (okp := fun _ => True) ?hr ?hp (fun _ hk => hk) trivial (Below.refl _ _) (Nat.le_refl _) (by simp) ?_; (case hd => rfl); (case hg => rfl); (case hr => first | (go_simp; done) | (go_simp; rfl)); (case hp => exact (Reps.c2 (show Kd.M k29 _ _ _ (⟨1, 0⟩ : S29) [.int .i64 1, .int .i64 0] from (k29_mkM _ _ _ (⟨1, 0⟩ : S29) )) (Reps.c2 (show Kd.M k29 _ _ _ (⟨3, 0⟩ : S29) [.int .i64 3, .int .i64 0] from (k29_mkM _ _ _ (⟨3, 0⟩ : S29) )) (Reps.c2 (show Kd.M k29 _ _ _ (⟨3, 0⟩ : S29) [.int .i64 3, .int .i64 0] from (k29_mkM _ _ _ (⟨3, 0⟩ : S29) )) (Reps.c2 (show Kd.M k29 _ _ _ (⟨3, 1⟩ : S29) [.int .i64 3, .int .i64 1] from (k29_mkM _ _ _ (⟨3, 1⟩ : S29) )) (Reps.none _ _)))))); intro v125 w17 ho18 hb hg_ hnew_; clear hg_ hnew_; (first | rw [← Ny124.out] at ho18 | (simp only [Int.reduceToNat] at ho18; rw [← Ny124.out] at ho18)); have n0_ := Aside0.mk (Kd.R_lower ho18 (below_size (by repeat (first | (with_reducible first | exact HB.out | apply below_alloc | apply pw_below_drewN | apply below_drew1) | exact HB.out)))); have n1_ := Aside0.mk (below_step (by repeat (first | (with_reducible first | exact HB.out | apply below_alloc | apply pw_below_drewN | apply below_drew1) | exact HB.out)) hb); clear HB; have HO126 := n0_; have HB := n1_; clear n0_ n1_; clear hb ho18; obtain ⟨Ao19, co19, eo19⟩ := Kd.R_slice HO126.out; subst eo19) | ((with_reducible refine gate_callee (f := 9) rfl ?_); refine goesL_ (some 8) rfl rfl Try.func9 (by kernel_rfl) rfl #[.agg #[.int .i64 0, .int .i64 0, .int .i64 0, .int .i64 0], .slice Ao19 y124.length co19] rfl (by (try simp only [List.map_toArray, List.map_cons, List.map_nil]); first | done | rfl | (simp only [List.length_drop, List.length_take]; rfl)) ?_; (with_reducible refine (watch_Run.calls k 0 0 0 0 _ _ y124 t127 _ ?side1 ?side2 A1.out).mono ?_); (case side1 => repeat (first | exact (Kd.R_reads' HO126.out).2.2 | (with_reducible refine Kd.C_alloc ?_ _) | (with_reducible refine Kd.C_drewN ?_ _) | (with_reducible refine Kd.C_drew ?_))); (case side2 => exact (Kd.R_reads' HO126.out).2.1); rintro e w20 ⟨v128, rfl, ho0, hb⟩; refine ⟨_, rfl, ?_⟩; have n0_ := Aside0.mk (Kd.R_below (by (with_reducible repeat (first | apply Kd.R_alloc | apply Kd.R_drewN | apply Kd.R_drew)); exact HO126.out) hb); have n1_ := Aside0.mk (Kd.R_lower ho0 (below_size (by repeat (first | (with_reducible first | exact HB.out | apply below_alloc | apply pw_below_drewN | apply below_drew1) | exact HB.out)))); have n2_ := Aside0.mk (below_step (by repeat (first | (with_reducible first | exact HB.out | apply below_alloc | apply pw_below_drewN | apply below_drew1) | exact HB.out)) hb); clear HO126; clear HB; have HO126 := n0_; have HO129 := n1_; have HB := n2_; clear n0_ n1_ n2_; (try clear hb); (try clear hb2); (try clear hk); (try clear hi); (try clear ho0); obtain ⟨Ao21, co21, eo21⟩ := Kd.R_slice HO129.out; subst eo21; have p130 : 0 ≤ (2 : Int) := (by omega); have q130 : 2 < (t127.length : Int) := of_decide_eq_true (by first | (with_reducible assumption) | assumption); obtain ⟨ad130, e130, hx130_0, hx130_1, hx130_2, hx130_3⟩ := at_T23 (Kd.R_reads' HO129.out).2.2 2 p130 q130; cases e130; (try simp only [show (2 : Int).toNat = 2 from rfl, Nat.reduceMul, Nat.reduceEqDiff, Go.Addr.add, ↓reduceIte] at hx130_0); (try simp only [show (2 : Int).toNat = 2 from rfl, Nat.reduceMul, Nat.reduceEqDiff, Go.Addr.add, ↓reduceIte] at hx130_1); (try simp only [show (2 : Int).toNat = 2 from rfl, Nat.reduceMul, Nat.reduceEqDiff, Go.Addr.add, ↓reduceIte] at hx130_2); (try simp only [show (2 : Int).toNat = 2 from rfl, Nat.reduceMul, Nat.reduceEqDiff, Go.Addr.add, ↓reduceIte] at hx130_3); have qi130 : (2 < t127.length) = True := eq_true (by omega); (try rw [show ((2 : Int)).toNat = 2 from rfl] at hx130_0); (try rw [show 2 * 4 = 8 from rfl] at hx130_0); (try rw [show ((2 : Int)).toNat = 2 from rfl] at hx130_1); (try rw [show 2 * 4 = 8 from rfl] at hx130_1); (try rw [show ((2 : Int)).toNat = 2 from rfl] at hx130_2); (try rw [show 2 * 4 = 8 from rfl] at hx130_2); (try rw [show ((2 : Int)).toNat = 2 from rfl] at hx130_3); (try rw [show 2 * 4 = 8 from rfl] at hx130_3); replace p130 := eq_true p130; replace q130 := eq_true q130; have p131 : 0 ≤ (3 : Int) := (by omega); have q131 : 3 < (t127.length : Int) := of_decide_eq_true (by first | (with_reducible assumption) | assumption); obtain ⟨ad131, e131, hx131_0, hx131_1, hx131_2, hx131_3⟩ := at_T23 (Kd.R_reads' HO129.out).2.2 3 p131 q131; obtain rfl : ad130 = ad131 := (by injection e131); (try simp only [show (3 : Int).toNat = 3 from rfl, Nat.reduceMul, Nat.reduceEqDiff, Go.Addr.add, ↓reduceIte] at hx131_0); (try simp only [show (3 : Int).toNat = 3 from rfl, Nat.reduceMul, Nat.reduceEqDiff, Go.Addr.add, ↓reduceIte] at hx131_1); (try simp only [show (3 : Int).toNat = 3 from rfl, Nat.reduceMul, Nat.reduceEqDiff, Go.Addr.add, ↓reduceIte] at hx131_2); (try simp only [show (3 : Int).toNat = 3 from rfl, Nat.reduceMul, Nat.reduceEqDiff, Go.Addr.add, ↓reduceIte] at hx131_3); have qi131 : (3 < t127.length) = True := eq_true (by omega); (try rw [show ((3 : Int)).toNat = 3 from rfl] at hx131_0); (try rw [show 3 * 4 = 12 from rfl] at hx131_0); (try rw [show ((3 : Int)).toNat = 3 from rfl] at hx131_1); (try rw [show 3 * 4 = 12 from rfl] at hx131_1); (try rw [show ((3 : Int)).toNat = 3 from rfl] at hx131_2); (try rw [show 3 * 4 = 12 from rfl] at hx131_2); (try rw [show ((3 : Int)).toNat = 3 from rfl] at hx131_3); (try rw [show 3 * 4 = 12 from rfl] at hx131_3); replace p131 := eq_true p131; replace q131 := eq_true q131; have p132 : 0 ≤ (3 : Int) := (by omega); have q132 : 3 < (t127.length : Int) := of_decide_eq_true (by first | (with_reducible assumption) | assumption); obtain ⟨ad132, e132, hx132_0, hx132_1, hx132_2, hx132_3⟩ := at_T23 (Kd.R_reads' HO129.out).2.2 3 p132 q132; obtain rfl : ad130 = ad132 := (by injection e132); (try simp only [show (3 : Int).toNat = 3 from rfl, Nat.reduceMul, Nat.reduceEqDiff, Go.Addr.add, ↓reduceIte] at hx132_0); (try simp only [show (3 : Int).toNat = 3 from rfl, Nat.reduceMul, Nat.reduceEqDiff, Go.Addr.add, ↓reduceIte] at hx132_1); (try simp only [show (3 : Int).toNat = 3 from rfl, Nat.reduceMul, Nat.reduceEqDiff, Go.Addr.add, ↓reduceIte] at hx132_2); (try simp only [show (3 : Int).toNat = 3 from rfl, Nat.reduceMul, Nat.reduceEqDiff, Go.Addr.add, ↓reduceIte] at hx132_3); have qi132 : (3 < t127.length) = True := eq_true (by omega); (try rw [show ((3 : Int)).toNat = 3 from rfl] at hx132_0); (try rw [show 3 * 4 = 12 from rfl] at hx132_0); (try rw [show ((3 : Int)).toNat = 3 from rfl] at hx132_1); (try rw [show 3 * 4 = 12 from rfl] at hx132_1); (try rw [show ((3 : Int)).toNat = 3 from rfl] at hx132_2); (try rw [show 3 * 4 = 12 from rfl] at hx132_2); (try rw [show ((3 : Int)).toNat = 3 from rfl] at hx132_3); (try rw [show 3 * 4 = 12 from rfl] at hx132_3); replace p132 := eq_true p132; replace q132 := eq_true q132) | (go_at_call 13; (with_reducible refine (watch_Valid.calls ((rd_T23 t127 3).f0) ((rd_T23 t127 3).f1) ((rd_T23 t127 3).f2) ((rd_T23 t127 3).f3) false _ A7.out).mono ?_); rintro e w22 ⟨rfl, hb⟩; have n0_ := Aside0.mk (Kd.R_below (by (with_reducible repeat (first | apply Kd.R_alloc | apply Kd.R_drewN | apply Kd.R_drew)); exact HO126.out) hb); have n1_ := Aside0.mk (Kd.R_below (by (with_reducible repeat (first | apply Kd.R_alloc | apply Kd.R_drewN | apply Kd.R_drew)); exact HO129.out) hb); have n2_ := Aside0.mk (below_step (by repeat (first | (with_reducible first | exact HB.out | apply below_alloc | apply pw_below_drewN | apply below_drew1) | exact HB.out)) hb); clear HO126; clear HO129; clear HB; have HO126 := n0_; have HO129 := n1_; have HB := n2_; clear n0_ n1_ n2_; (try clear hb); (try clear hb2); (try clear hk); (try clear hi)))
              go_ret
              exact ⟨by first | rfl | (simp [errW_none, errW_some] <;> rfl) | (simp [*, errW_none, errW_some] <;> rfl), by repeat (first | (with_reducible first | exact HB.out | apply below_alloc | apply pw_below_drewN | apply below_drew1) | exact HB.out)⟩
          · rw [if_neg c6] at H
            have c6b0 : (((rd_T23 t127 3).f0) == 2 && (((rd_T23 t127 3).f1) == 0 && (((rd_T23 t127 3).f2) == 3 && (((rd_T23 t127 3).f3) == 3)))) = false := by simpa using c6
            (try (have c6b1 : decide (((rd_T23 t127 3).f0) = 2 && (((rd_T23 t127 3).f1) == 0 && (((rd_T23 t127 3).f2) == 3 && (((rd_T23 t127 3).f3) == 3)))) = false := by simpa using c6))
            (try (have c6b2 : (((rd_T23 t127 3).f0) == 2 && (((rd_T23 t127 3).f1) == 0 && (((rd_T23 t127 3).f2) == 3 && (((rd_T23 t127 3).f3) == 3)))) = false := by simpa using c6))
            (try (have c6b3 : ¬ (((rd_T23 t127 3).f0) = 2 && (((rd_T23 t127 3).f1) == 0 && (((rd_T23 t127 3).f2) == 3 && (((rd_T23 t127 3).f3) == 3)))) := by simpa using c6))
            clear c6
            obtain rfl := Option.some.inj H
            go_enter Try.func8, Try.ntmps8
            go_wp2_with (first | ((with_reducible refine gate_dst (N := 7) rfl ?_); refine Kd.R_lit k29 _ 29 ?hg (N := 7) ?hd (xs := ([(⟨1, 0⟩ : S29), (⟨3, 0⟩ : S29), (⟨3, 0⟩ : S29), (⟨3, 1⟩ : S29)] : List (S29))) (inner := [.int .i64 1, .int .i64 0, .int .i64 3, .int .i64 0, .int .i64 3, .int .i64 0, .int .i64 3, .int .i64 1]) (ok := fun _ => True) (okp := fun _ => True) ?hr ?hp (fun _ hk => hk) trivial (Below.refl _ _) (Nat.le_refl _) (by simp) ?_; (case hd => rfl); (case hg => rfl); (case hr => first | (go_simp; done) | (go_simp; rfl)); (case hp => exact (Reps.c2 (show Kd.M k29 _ _ _ (⟨1, 0⟩ : S29) [.int .i64 1, .int .i64 0] from (k29_mkM _ _ _ (⟨1, 0⟩ : S29) )) (Reps.c2 (show Kd.M k29 _ _ _ (⟨3, 0⟩ : S29) [.int .i64 3, .int .i64 0] from (k29_mkM _ _ _ (⟨3, 0⟩ : S29) )) (Reps.c2 (show Kd.M k29 _ _ _ (⟨3, 0⟩ : S29) [.int .i64 3, .int .i64 0] from (k29_mkM _ _ _ (⟨3, 0⟩ : S29) )) (Reps.c2 (show Kd.M k29 _ _ _ (⟨3, 1⟩ : S29) [.int .i64 3, .int .i64 1] from (k29_mkM _ _ _ (⟨3, 1⟩ : S29) )) (Reps.none _ _)))))); intro v125 w23 ho24 hb hg_ hnew_; clear hg_ hnew_; (first | rw [← Ny124.out] at ho24 | (simp only [Int.reduceToNat] at ho24; rw [← Ny124.out] at ho24)); have n0_ := Aside0.mk (Kd.R_lower ho24 (below_size (by repeat (first | (with_reducible first | exact HB.out | apply below_alloc | apply pw_below_drewN | apply below_drew1) | exact HB.out)))); have n1_ := Aside0.mk (below_step (by repeat (first | (with_reducible first | exact HB.out | apply below_alloc | apply pw_below_drewN | apply below_drew1) | exact HB.out)) hb); clear HB; have HO126 := n0_; have HB := n1_; clear n0_ n1_; clear hb ho24; obtain ⟨Ao25, co25, eo25⟩ := Kd.R_slice HO126.out; subst eo25) | ((with_reducible refine gate_callee (f := 9) rfl ?_); refine goesL_ (some 8) rfl rfl Try.func9 (by kernel_rfl) rfl #[.agg #[.int .i64 0, .int .i64 0, .int .i64 0, .int .i64 0], .slice Ao25 y124.length co25] rfl (by (try simp only [List.map_toArray, List.map_cons, List.map_nil]); first | done | rfl | (simp only [List.length_drop, List.length_take]; rfl)) ?_; (with_reducible refine (watch_Run.calls k 0 0 0 0 _ _ y124 t127 _ ?side1 ?side2 A1.out).mono ?_); (case side1 => repeat (first | exact (Kd.R_reads' HO126.out).2.2 | (with_reducible refine Kd.C_alloc ?_ _) | (with_reducible refine Kd.C_drewN ?_ _) | (with_reducible refine Kd.C_drew ?_))); (case side2 => exact (Kd.R_reads' HO126.out).2.1); rintro e w26 ⟨v128, rfl, ho0, hb⟩; refine ⟨_, rfl, ?_⟩; have n0_ := Aside0.mk (Kd.R_below (by (with_reducible repeat (first | apply Kd.R_alloc | apply Kd.R_drewN | apply Kd.R_drew)); exact HO126.out) hb); have n1_ := Aside0.mk (Kd.R_lower ho0 (below_size (by repeat (first | (with_reducible first | exact HB.out | apply below_alloc | apply pw_below_drewN | apply below_drew1) | exact HB.out)))); have n2_ := Aside0.mk (below_step (by repeat (first | (with_reducible first | exact HB.out | apply below_alloc | apply pw_below_drewN | apply below_drew1) | exact HB.out)) hb); clear HO126; clear HB; have HO126 := n0_; have HO129 := n1_; have HB := n2_; clear n0_ n1_ n2_; (try clear hb); (try clear hb2); (try clear hk); (try clear hi); (try clear ho0); obtain ⟨Ao27, co27, eo27⟩ := Kd.R_slice HO129.out; subst eo27; have p130 : 0 ≤ (2 : Int) := (by omega); have q130 : 2 < (t127.length : Int) := of_decide_eq_true (by first | (with_reducible assumption) | assumption); obtain ⟨ad130, e130, hx130_0, hx130_1, hx130_2, hx130_3⟩ := at_T23 (Kd.R_reads' HO129.out).2.2 2 p130 q130; cases e130; (try simp only [show (2 : Int).toNat = 2 from rfl, Nat.reduceMul, Nat.reduceEqDiff, Go.Addr.add, ↓reduceIte] at hx130_0); (try simp only [show (2 : Int).toNat = 2 from rfl, Nat.reduceMul, Nat.reduceEqDiff, Go.Addr.add, ↓reduceIte] at hx130_1); (try simp only [show (2 : Int).toNat = 2 from rfl, Nat.reduceMul, Nat.reduceEqDiff, Go.Addr.add, ↓reduceIte] at hx130_2); (try simp only [show (2 : Int).toNat = 2 from rfl, Nat.reduceMul, Nat.reduceEqDiff, Go.Addr.add, ↓reduceIte] at hx130_3); have qi130 : (2 < t127.length) = True := eq_true (by omega); (try rw [show ((2 : Int)).toNat = 2 from rfl] at hx130_0); (try rw [show 2 * 4 = 8 from rfl] at hx130_0); (try rw [show ((2 : Int)).toNat = 2 from rfl] at hx130_1); (try rw [show 2 * 4 = 8 from rfl] at hx130_1); (try rw [show ((2 : Int)).toNat = 2 from rfl] at hx130_2); (try rw [show 2 * 4 = 8 from rfl] at hx130_2); (try rw [show ((2 : Int)).toNat = 2 from rfl] at hx130_3); (try rw [show 2 * 4 = 8 from rfl] at hx130_3); replace p130 := eq_true p130; replace q130 := eq_true q130; have p131 : 0 ≤ (3 : Int) := (by omega); have q131 : 3 < (t127.length : Int) := of_decide_eq_true (by first | (with_reducible assumption) | assumption); obtain ⟨ad131, e131, hx131_0, hx131_1, hx131_2, hx131_3⟩ := at_T23 (Kd.R_reads' HO129.out).2.2 3 p131 q131; obtain rfl : ad130 = ad131 := (by injection e131); (try simp only [show (3 : Int).toNat = 3 from rfl, Nat.reduceMul, Nat.reduceEqDiff, Go.Addr.add, ↓reduceIte] at hx131_0); (try simp only [show (3 : Int).toNat = 3 from rfl, Nat.reduceMul, Nat.reduceEqDiff, Go.Addr.add, ↓reduceIte] at hx131_1); (try simp only [show (3 : Int).toNat = 3 from rfl, Nat.reduceMul, Nat.reduceEqDiff, Go.Addr.add, ↓reduceIte] at hx131_2); (try simp only [show (3 : Int).toNat = 3 from rfl, Nat.reduceMul, Nat.reduceEqDiff, Go.Addr.add, ↓reduceIte] at hx131_3); have qi131 : (3 < t127.length) = True := eq_true (by omega); (try rw [show ((3 : Int)).toNat = 3 from rfl] at hx131_0); (try rw [show 3 * 4 = 12 from rfl] at hx131_0); (try rw [show ((3 : Int)).toNat = 3 from rfl] at hx131_1); (try rw [show 3 * 4 = 12 from rfl] at hx131_1); (try rw [show ((3 : Int)).toNat = 3 from rfl] at hx131_2); (try rw [show 3 * 4 = 12 from rfl] at hx131_2); (try rw [show ((3 : Int)).toNat = 3 from rfl] at hx131_3); (try rw [show 3 * 4 = 12 from rfl] at hx131_3); replace p131 := eq_true p131; replace q131 := eq_true q131))
            go_ret
            exact ⟨by first | rfl | (simp [errW_none, errW_some] <;> rfl) | (simp [*, errW_none, errW_some] <;> rfl), by repeat (first | (with_reducible first | exact HB.out | apply below_alloc | apply pw_below_drewN | apply below_drew1) | exact HB.out)⟩
        · rw [if_neg c5] at H
          exact absurd H (by simp)
      · rw [if_neg c4] at H
        have c4b0 : (((rd_T23 t127 2).f0) == 1) = false := beq_eq_false_iff_ne.mpr c4
        have c4b1 : (((rd_T23 t127 2).f0) != 1) = true := bne_iff_ne.mpr c4
        obtain rfl := Option.some.inj H
        go_enter Try.func8, Try.ntmps8
        go_wp2_with (first | ((with_reducible refine gate_dst (N := 7) rfl ?_); refine Kd.R_lit k29 _ 29 ?hg (N := 7) ?hd (xs := ([(⟨1, 0⟩ : S29), (⟨3, 0⟩ : S29), (⟨3, 0⟩ : S29), (⟨3, 1⟩ : S29)] : List (S29))) (inner := [.int .i64 1, .int .i64 0, .int .i64 3, .int .i64 0, .int .i64 3, .int .i64 0, .int .i64 3, .int .i64 1]) (ok := fun _ => True) (okp := fun _ => True) ?hr ?hp (fun _ hk => hk) trivial (Below.refl _ _) (Nat.le_refl _) (by simp) ?_; (case hd => rfl); (case hg => rfl); (case hr => first | (go_simp; done) | (go_simp; rfl)); (case hp => exact (Reps.c2 (show Kd.M k29 _ _ _ (⟨1, 0⟩ : S29) [.int .i64 1, .int .i64 0] from (k29_mkM _ _ _ (⟨1, 0⟩ : S29) )) (Reps.c2 (show Kd.M k29 _ _ _ (⟨3, 0⟩ : S29) [.int .i64 3, .int .i64 0] from (k29_mkM _ _ _ (⟨3, 0⟩ : S29) )) (Reps.c2 (show Kd.M k29 _ _ _ (⟨3, 0⟩ : S29) [.int .i64 3, .int .i64 0] from (k29_mkM _ _ _ (⟨3, 0⟩ : S29) )) (Reps.c2 (show Kd.M k29 _ _ _ (⟨3, 1⟩ : S29) [.int .i64 3, .int .i64 1] from (k29_mkM _ _ _ (⟨3, 1⟩ : S29) )) (Reps.none _ _)))))); intro v125 w28 ho29 hb hg_ hnew_; clear hg_ hnew_; (first | rw [← Ny124.out] at ho29 | (simp only [Int.reduceToNat] at ho29; rw [← Ny124.out] at ho29)); have n0_ := Aside0.mk (Kd.R_lower ho29 (below_size (by repeat (first | (with_reducible first | exact HB.out | apply below_alloc | apply pw_below_drewN | apply below_drew1) | exact HB.out)))); have n1_ := Aside0.mk (below_step (by repeat (first | (with_reducible first | exact HB.out | apply below_alloc | apply pw_below_drewN | apply below_drew1) | exact HB.out)) hb); clear HB; have HO126 := n0_; have HB := n1_; clear n0_ n1_; clear hb ho29; obtain ⟨Ao30, co30, eo30⟩ := Kd.R_slice HO126.out; subst eo30) | ((with_reducible refine gate_callee (f := 9) rfl ?_); refine goesL_ (some 8) rfl rfl Try.func9 (by kernel_rfl) rfl #[.agg #[.int .i64 0, .int .i64 0, .int .i64 0, .int .i64 0], .slice Ao30 y124.length co30] rfl (by (try simp only [List.map_toArray, List.map_cons, List.map_nil]); first | done | rfl | (simp only [List.length_drop, List.length_take]; rfl)) ?_; (with_reducible refine (watch_Run.calls k 0 0 0 0 _ _ y124 t127 _ ?side1 ?side2 A1.out).mono ?_); (case side1 => repeat (first | exact (Kd.R_reads' HO126.out).2.2 | (with_reducible refine Kd.C_alloc ?_ _) | (with_reducible refine Kd.C_drewN ?_ _) | (with_reducible refine Kd.C_drew ?_))); (case side2 => exact (Kd.R_reads' HO126.out).2.1); rintro e w31 ⟨v128, rfl, ho0, hb⟩; refine ⟨_, rfl, ?_⟩; have n0_ := Aside0.mk (Kd.R_below (by (with_reducible repeat (first | apply Kd.R_alloc | apply Kd.R_drewN | apply Kd.R_drew)); exact HO126.out) hb); have n1_ := Aside0.mk (Kd.R_lower ho0 (below_size (by repeat (first | (with_reducible first | exact HB.out | apply below_alloc | apply pw_below_drewN | apply below_drew1) | exact HB.out)))); have n2_ := Aside0.mk (below_step (by repeat (first | (with_reducible first | exact HB.out | apply below_alloc | apply pw_below_drewN | apply below_drew1) | exact HB.out)) hb); clear HO126; clear HB; have HO126 := n0_; have HO129 := n1_; have HB := n2_; clear n0_ n1_ n2_; (try clear hb); (try clear hb2); (try clear hk); (try clear hi); (try clear ho0); obtain ⟨Ao32, co32, eo32⟩ := Kd.R_slice HO129.out; subst eo32; have p130 : 0 ≤ (2 : Int) := (by omega); have q130 : 2 < (t127.length : Int) := of_decide_eq_true (by first | (with_reducible assumption) | assumption); obtain ⟨ad130, e130, hx130_0, hx130_1, hx130_2, hx130_3⟩ := at_T23 (Kd.R_reads' HO129.out).2.2 2 p130 q130; cases e130; (try simp only [show (2 : Int).toNat = 2 from rfl, Nat.reduceMul, Nat.reduceEqDiff, Go.Addr.add, ↓reduceIte] at hx130_0); (try simp only [show (2 : Int).toNat = 2 from rfl, Nat.reduceMul, Nat.reduceEqDiff, Go.Addr.add, ↓reduceIte] at hx130_1); (try simp only [show (2 : Int).toNat = 2 from rfl, Nat.reduceMul, Nat.reduceEqDiff, Go.Addr.add, ↓reduceIte] at hx130_2); (try simp only [show (2 : Int).toNat = 2 from rfl, Nat.reduceMul, Nat.reduceEqDiff, Go.Addr.add, ↓reduceIte] at hx130_3); have qi130 : (2 < t127.length) = True := eq_true (by omega); (try rw [show ((2 : Int)).toNat = 2 from rfl] at hx130_0); (try rw [show 2 * 4 = 8 from rfl] at hx130_0); (try rw [show ((2 : Int)).toNat = 2 from rfl] at hx130_1); (try rw [show 2 * 4 = 8 from rfl] at hx130_1); (try rw [show ((2 : Int)).toNat = 2 from rfl] at hx130_2); (try rw [show 2 * 4 = 8 from rfl] at hx130_2); (try rw [show ((2 : Int)).toNat = 2 from rfl] at hx130_3); (try rw [show 2 * 4 = 8 from rfl] at hx130_3); replace p130 := eq_true p130; replace q130 := eq_true q130))
        go_ret
        exact ⟨by first | rfl | (simp [errW_none, errW_some] <;> rfl) | (simp [*, errW_none, errW_some] <;> rfl), by repeat (first | (with_reducible first | exact HB.out | apply below_alloc | apply pw_below_drewN | apply below_drew1) | exact HB.out)⟩
    · rw [if_neg c3] at H
      exact absurd H (by simp)
  · rw [if_neg c2] at H
    have c2b0 : ((t127.length : Int) == 4) = false := beq_eq_false_iff_ne.mpr c2
    have c2b1 : ((t127.length : Int) != 4) = true := bne_iff_ne.mpr c2
    obtain rfl := Option.some.inj H
    go_enter Try.func8, Try.ntmps8
    go_wp2_with (first | ((with_reducible refine gate_dst (N := 7) rfl ?_); refine Kd.R_lit k29 _ 29 ?hg (N := 7) ?hd (xs := ([(⟨1, 0⟩ : S29), (⟨3, 0⟩ : S29), (⟨3, 0⟩ : S29), (⟨3, 1⟩ : S29)] : List (S29))) (inner := [.int .i64 1, .int .i64 0, .int .i64 3, .int .i64 0, .int .i64 3, .int .i64 0, .int .i64 3, .int .i64 1]) (ok := fun _ => True) (okp := fun _ => True) ?hr ?hp (fun _ hk => hk) trivial (Below.refl _ _) (Nat.le_refl _) (by simp) ?_; (case hd => rfl); (case hg => rfl); (case hr => first | (go_simp; done) | (go_simp; rfl)); (case hp => exact (Reps.c2 (show Kd.M k29 _ _ _ (⟨1, 0⟩ : S29) [.int .i64 1, .int .i64 0] from (k29_mkM _ _ _ (⟨1, 0⟩ : S29) )) (Reps.c2 (show Kd.M k29 _ _ _ (⟨3, 0⟩ : S29) [.int .i64 3, .int .i64 0] from (k29_mkM _ _ _ (⟨3, 0⟩ : S29) )) (Reps.c2 (show Kd.M k29 _ _ _ (⟨3, 0⟩ : S29) [.int .i64 3, .int .i64 0] from (k29_mkM _ _ _ (⟨3, 0⟩ : S29) )) (Reps.c2 (show Kd.M k29 _ _ _ (⟨3, 1⟩ : S29) [.int .i64 3, .int .i64 1] from (k29_mkM _ _ _ (⟨3, 1⟩ : S29) )) (Reps.none _ _)))))); intro v125 w33 ho34 hb hg_ hnew_; clear hg_ hnew_; (first | rw [← Ny124.out] at ho34 | (simp only [Int.reduceToNat] at ho34; rw [← Ny124.out] at ho34)); have n0_ := Aside0.mk (Kd.R_lower ho34 (below_size (by repeat (first | (with_reducible first | exact HB.out | apply below_alloc | apply pw_below_drewN | apply below_drew1) | exact HB.out)))); have n1_ := Aside0.mk (below_step (by repeat (first | (with_reducible first | exact HB.out | apply below_alloc | apply pw_below_drewN | apply below_drew1) | exact HB.out)) hb); clear HB; have HO126 := n0_; have HB := n1_; clear n0_ n1_; clear hb ho34; obtain ⟨Ao35, co35, eo35⟩ := Kd.R_slice HO126.out; subst eo35) | ((with_reducible refine gate_callee (f := 9) rfl ?_); refine goesL_ (some 8) rfl rfl Try.func9 (by kernel_rfl) rfl #[.agg #[.int .i64 0, .int .i64 0, .int .i64 0, .int .i64 0], .slice Ao35 y124.length co35] rfl (by (try simp only [List.map_toArray, List.map_cons, List.map_nil]); first | done | rfl | (simp only [List.length_drop, List.length_take]; rfl)) ?_; (with_reducible refine (watch_Run.calls k 0 0 0 0 _ _ y124 t127 _ ?side1 ?side2 A1.out).mono ?_); (case side1 => repeat (first | exact (Kd.R_reads' HO126.out).2.2 | (with_reducible refine Kd.C_alloc ?_ _) | (with_reducible refine Kd.C_drewN ?_ _) | (with_reducible refine Kd.C_drew ?_))); (case side2 => exact (Kd.R_reads' HO126.out).2.1); rintro e w36 ⟨v128, rfl, ho0, hb⟩; refine ⟨_, rfl, ?_⟩; have n0_ := Aside0.mk (Kd.R_below (by (with_reducible repeat (first | apply Kd.R_alloc | apply Kd.R_drewN | apply Kd.R_drew)); exact HO126.out) hb); have n1_ := Aside0.mk (Kd.R_lower ho0 (below_size (by repeat (first | (with_reducible first | exact HB.out | apply below_alloc | apply pw_below_drewN | apply below_drew1) | exact HB.out)))); have n2_ := Aside0.mk (below_step (by repeat (first | (with_reducible first | exact HB.out | apply below_alloc | apply pw_below_drewN | apply below_drew1) | exact HB.out)) hb); clear HO126; clear HB; have HO126 := n0_; have HO129 := n1_; have HB := n2_; clear n0_ n1_ n2_; (try clear hb); (try clear hb2); (try clear hk); (try clear hi); (try clear ho0); obtain ⟨Ao37, co37, eo37⟩ := Kd.R_slice HO129.out; subst eo37))
    go_ret
    exact ⟨by first | rfl | (simp [errW_none, errW_some] <;> rfl) | (simp [*, errW_none, errW_some] <;> rfl), by repeat (first | (with_reducible first | exact HB.out | apply below_alloc | apply pw_below_drewN | apply below_drew1) | exact HB.out)⟩

/-! ### coupletlaw17_WatchSafe: function 3 -/
mutual
def coupletlaw17_WatchSafe.j0 : Nat → List (S29) → Bool → Int → Int → Int → Int → Option (Bool)
  | 0, _, _, _, _, _, _ => none
  | k + 1, x1, x19, x137000, x137001, x137002, x137003 => if x19 = true then ((coupletlaw17_awake.f k).bind fun t137 => (some t137)) else ((watch_Run.f k x137000 x137001 x137002 x137003 x1).bind fun t138 => (coupletlaw17_WatchSafe.l0 k x1 t138 (t138.length : Int) 0 x137000 x137001 x137002 x137003))
def coupletlaw17_WatchSafe.l0 : Nat → List (S29) → List (S23) → Int → Int → Int → Int → Int → Int → Option (Bool)
  | 0, _, _, _, _, _, _, _, _ => none
  | k + 1, x1, x23, x24, x25, x137000, x137001, x137002, x137003 => if x25 < x24 then (if 0 ≤ x25 then (if x25 < (x23.length : Int) then (if x25 < (x1.length : Int) then (if ((rd_T29 x1 x25).f0) = 1 then (coupletlaw17_WatchSafe.j2 k x1 x23 x24 x25 true x137000 x137001 x137002 x137003 ((rd_T23 x23 x25).f0) ((rd_T23 x23 x25).f1) ((rd_T23 x23 x25).f2) ((rd_T23 x23 x25).f3)) else (coupletlaw17_WatchSafe.j2 k x1 x23 x24 x25 (((rd_T29 x1 x25).f0) == 5) x137000 x137001 x137002 x137003 ((rd_T23 x23 x25).f0) ((rd_T23 x23 x25).f1) ((rd_T23 x23 x25).f2) ((rd_T23 x23 x25).f3))) else (none)) else (none)) else (none)) else ((coupletlaw17_awake.f k).bind fun t141 => (some t141))
def coupletlaw17_WatchSafe.j2 : Nat → List (S29) → List (S23) → Int → Int → Bool → Int → Int → Int → Int → Int → Int → Int → Int → Option (Bool)
  | 0, _, _, _, _, _, _, _, _, _, _, _, _, _ => none
  | k + 1, x1, x23, x24, x25, x43, x137000, x137001, x137002, x137003, x144000, x144001, x144002, x144003 => if x43 = true then ((coupletlaw17_awake.f k).bind fun t146 => (some t146)) else (if (!(x144000 == x137000) || (!(x144001 == x137001) || (!(x144002 == x137002) || (!(x144003 == x137003))))) = true then (some false) else (coupletlaw17_WatchSafe.l0 k x1 x23 x24 (wrap64 (x25 + 1)) x137000 x137001 x137002 x137003))
end
def coupletlaw17_WatchSafe.f (k : Nat) (a0_0 : Int) (a0_1 : Int) (a0_2 : Int) (a0_3 : Int) (l1 : List (S29)) : Option (Bool) := if (l1.length : Int) > 300 then (coupletlaw17_WatchSafe.j0 k l1 true a0_0 a0_1 a0_2 a0_3) else (if a0_0 = 3 then (coupletlaw17_WatchSafe.j0 k l1 false a0_0 a0_1 a0_2 a0_3) else (coupletlaw17_WatchSafe.j0 k l1 (a0_0 != 0) a0_0 a0_1 a0_2 a0_3))
theorem coupletlaw17_WatchSafe.mono_l : ∀ k, (∀ y0 y1 y2 y3 y4 y5, LeO (coupletlaw17_WatchSafe.j0 k y0 y1 y2 y3 y4 y5) (coupletlaw17_WatchSafe.j0 (k + 1) y0 y1 y2 y3 y4 y5)) ∧ (∀ y0 y1 y2 y3 y4 y5 y6 y7, LeO (coupletlaw17_WatchSafe.l0 k y0 y1 y2 y3 y4 y5 y6 y7) (coupletlaw17_WatchSafe.l0 (k + 1) y0 y1 y2 y3 y4 y5 y6 y7)) ∧ (∀ y0 y1 y2 y3 y4 y5 y6 y7 y8 y9 y10 y11 y12, LeO (coupletlaw17_WatchSafe.j2 k y0 y1 y2 y3 y4 y5 y6 y7 y8 y9 y10 y11 y12) (coupletlaw17_WatchSafe.j2 (k + 1) y0 y1 y2 y3 y4 y5 y6 y7 y8 y9 y10 y11 y12))
  | 0 => ⟨fun _ _ _ _ _ _ r h => by simp [coupletlaw17_WatchSafe.j0] at h, fun _ _ _ _ _ _ _ _ r h => by simp [coupletlaw17_WatchSafe.l0] at h, fun _ _ _ _ _ _ _ _ _ _ _ _ _ r h => by simp [coupletlaw17_WatchSafe.j2] at h⟩
  | k + 1 => by
    obtain ⟨ih0, ih1, ih2⟩ := coupletlaw17_WatchSafe.mono_l k
    refine ⟨?_, ?_, ?_⟩
    · intro y0 y1 y2 y3 y4 y5
      unfold coupletlaw17_WatchSafe.j0
      repeat' first
      | (with_reducible exact ih0 _ _ _ _ _ _)
      | (with_reducible exact ih1 _ _ _ _ _ _ _ _)
      | (with_reducible exact ih2 _ _ _ _ _ _ _ _ _ _ _ _ _)
      | (with_reducible exact coupletlaw17_awake.mono _)
      | (with_reducible exact watch_Run.mono _ _ _ _ _ _)
      | (with_reducible exact LeO.refl _)
      | (with_reducible exact LeO.none _)
      | (with_reducible refine LeO.ite ?_ ?_)
      | (with_reducible refine LeO.bind ?_ (fun _ => ?_))
      | exact ih0 _ _ _ _ _ _
      | exact ih1 _ _ _ _ _ _ _ _
      | exact ih2 _ _ _ _ _ _ _ _ _ _ _ _ _
      | exact coupletlaw17_awake.mono _
      | exact watch_Run.mono _ _ _ _ _ _
      | exact LeO.none _
      | refine LeO.ite ?_ ?_
      | refine LeO.bind ?_ (fun _ => ?_)
    · intro y0 y1 y2 y3 y4 y5 y6 y7
      unfold coupletlaw17_WatchSafe.l0
      repeat' first
      | (with_reducible exact ih0 _ _ _ _ _ _)
      | (with_reducible exact ih1 _ _ _ _ _ _ _ _)
      | (with_reducible exact ih2 _ _ _ _ _ _ _ _ _ _ _ _ _)
      | (with_reducible exact coupletlaw17_awake.mono _)
      | (with_reducible exact watch_Run.mono _ _ _ _ _ _)
      | (with_reducible exact LeO.refl _)
      | (with_reducible exact LeO.none _)
      | (with_reducible refine LeO.ite ?_ ?_)
      | (with_reducible refine LeO.bind ?_ (fun _ => ?_))
      | exact ih0 _ _ _ _ _ _
      | exact ih1 _ _ _ _ _ _ _ _
      | exact ih2 _ _ _ _ _ _ _ _ _ _ _ _ _
      | exact coupletlaw17_awake.mono _
      | exact watch_Run.mono _ _ _ _ _ _
      | exact LeO.none _
      | refine LeO.ite ?_ ?_
      | refine LeO.bind ?_ (fun _ => ?_)
    · intro y0 y1 y2 y3 y4 y5 y6 y7 y8 y9 y10 y11 y12
      unfold coupletlaw17_WatchSafe.j2
      repeat' first
      | (with_reducible exact ih0 _ _ _ _ _ _)
      | (with_reducible exact ih1 _ _ _ _ _ _ _ _)
      | (with_reducible exact ih2 _ _ _ _ _ _ _ _ _ _ _ _ _)
      | (with_reducible exact coupletlaw17_awake.mono _)
      | (with_reducible exact watch_Run.mono _ _ _ _ _ _)
      | (with_reducible exact LeO.refl _)
      | (with_reducible exact LeO.none _)
      | (with_reducible refine LeO.ite ?_ ?_)
      | (with_reducible refine LeO.bind ?_ (fun _ => ?_))
      | exact ih0 _ _ _ _ _ _
      | exact ih1 _ _ _ _ _ _ _ _
      | exact ih2 _ _ _ _ _ _ _ _ _ _ _ _ _
      | exact coupletlaw17_awake.mono _
      | exact watch_Run.mono _ _ _ _ _ _
      | exact LeO.none _
      | refine LeO.ite ?_ ?_
      | refine LeO.bind ?_ (fun _ => ?_)
theorem coupletlaw17_WatchSafe.mono : ∀ a0 a1 a2 a3 a4 k, LeO (coupletlaw17_WatchSafe.f k a0 a1 a2 a3 a4) (coupletlaw17_WatchSafe.f (k + 1) a0 a1 a2 a3 a4) := by
  intro a0 a1 a2 a3 a4 k
  obtain ⟨ih0, ih1, ih2⟩ := coupletlaw17_WatchSafe.mono_l k
  unfold coupletlaw17_WatchSafe.f
  repeat' first
      | (with_reducible exact ih0 _ _ _ _ _ _)
      | (with_reducible exact ih1 _ _ _ _ _ _ _ _)
      | (with_reducible exact ih2 _ _ _ _ _ _ _ _ _ _ _ _ _)
      | (with_reducible exact coupletlaw17_awake.mono _)
      | (with_reducible exact watch_Run.mono _ _ _ _ _ _)
      | (with_reducible exact LeO.refl _)
      | (with_reducible exact LeO.none _)
      | (with_reducible refine LeO.ite ?_ ?_)
      | (with_reducible refine LeO.bind ?_ (fun _ => ?_))
      | exact ih0 _ _ _ _ _ _
      | exact ih1 _ _ _ _ _ _ _ _
      | exact ih2 _ _ _ _ _ _ _ _ _ _ _ _ _
      | exact coupletlaw17_awake.mono _
      | exact watch_Run.mono _ _ _ _ _ _
      | exact LeO.none _
      | refine LeO.ite ?_ ?_
      | refine LeO.bind ?_ (fun _ => ?_)
set_option maxHeartbeats 8000000 in
set_option maxRecDepth 100000 in
theorem coupletlaw17_WatchSafe.calls (k : Nat) (a0_0 : Int) (a0_1 : Int) (a0_2 : Int) (a0_3 : Int) (A1 : Option Addr) (c1 : Nat) (l1 : List (S29)) (r : Bool) (w : World) (hr1 : Kd.C k29 w A1 l1.length l1) (hc1 : l1.length ≤ c1) (h : coupletlaw17_WatchSafe.f k a0_0 a0_1 a0_2 a0_3 l1 = some r) :
    Calls Try.prog 3 #[.agg #[.int .i64 a0_0, .int .i64 a0_1, .int .i64 a0_2, .int .i64 a0_3], .slice A1 l1.length c1] w fun e w' => e = .returned (.bool r) ∧ Below w.heap.size w w' := by
  have hu23 := Try.underlying23
  have HR1 := Aside0.mk hr1
  have HC1 := Aside0.mk hc1
  clear hr1 hc1
  have HB := Aside0.mk (Below.refl w.heap.size w)
  have H : (if (l1.length : Int) > 300 then (coupletlaw17_WatchSafe.j0 k l1 true a0_0 a0_1 a0_2 a0_3) else (if a0_0 = 3 then (coupletlaw17_WatchSafe.j0 k l1 false a0_0 a0_1 a0_2 a0_3) else (coupletlaw17_WatchSafe.j0 k l1 (a0_0 != 0) a0_0 a0_1 a0_2 a0_3))) = some r := h
  clear h
  have HC3 := Aside0.mk H
  clear H
  go_enter Try.func3, Try.ntmps3
  go_upto_region 1 with (first | ((with_reducible refine gate_dst (N := 2) rfl ?_); refine box_event ?hg (N := 2) ?hd (cs := #[.int .i64 a0_0, .int .i64 a0_1, .int .i64 a0_2, .int .i64 a0_3]) (t := 23) ?hr ?_; (case hd => rfl); (case hg => rfl); (case hr => first | (go_simp; done) | (go_simp; rfl)); intro gb136 hg w4 hbox hb; have n0_ := Aside0.mk (below_step (by repeat (first | (with_reducible first | exact HB.out | apply below_alloc | apply pw_below_drewN | apply below_drew1) | exact HB.out)) hb); have n1_ := Aside0.mk (hbox); have n2_ := Aside0.mk ((by rw [hg]; exact (below_size (by repeat (first | (with_reducible first | exact HB.out | apply below_alloc | apply pw_below_drewN | apply below_drew1) | exact HB.out))) : w.heap.size ≤ gb136)); have n3_ := Aside0.mk ((by rw [hg]; exact (below_size (by repeat (first | (with_reducible first | exact HB.out | apply below_alloc | apply pw_below_drewN | apply below_drew1) | exact HB.out))) : w.heap.size ≤ gb136)); clear HB; have HB := n0_; have BK136 := n1_; have GW136 := n2_; have GE136 := n3_; clear n0_ n1_ n2_ n3_; clear hb hbox hg))
  (try simp only [Act.put, List.setIfInBounds_toArray, List.set_cons_zero, List.set_cons_succ])
  go_cut [19] (fun v19 wc => ∃ (kq : Nat) (x19_2 : Bool), v19 = .bool x19_2 ∧ Aside0 (coupletlaw17_WatchSafe.j0 kq l1 x19_2 a0_0 a0_1 a0_2 a0_3 = some r) ∧ Aside0 (kq ≤ k) ∧ Aside0 (wc.heap[gb136]? = some (.cells #[.int .i64 a0_0, .int .i64 a0_1, .int .i64 a0_2, .int .i64 a0_3] 23 (0, 0))) ∧ Aside0 (Below w.heap.size w wc))
  case first =>
    have H := HC3.out
    clear HC3
    by_cases c5 : (l1.length : Int) > 300
    · rw [if_pos c5] at H
      have c5b0 : decide (300 < (l1.length : Int)) = true := decide_eq_true c5
      have c5b1 : decide (300 < l1.length) = true := decide_eq_true (by omega)
      clear c5
      (first | rw [c5b0] | (simp only [i64_w, i32_w]; rw [c5b0]) | skip)
      have H' := Aside0.mk H
      clear H
      go_wp2
      go_meet
      case rel => exact ⟨_, (true), (by first | rfl | (simp; done) | (simp [*]; done)), H', ⟨by first | omega | exact Nat.le_refl _⟩, ⟨by (with_reducible repeat (first | refine blk_drewN ?_ _ | refine blk_drew ?_ | refine blk_alloc ?_ _)); exact BK136.out⟩, ⟨by repeat (first | (with_reducible first | exact HB.out | apply below_alloc | apply pw_below_drewN | apply below_drew1 | refine below_set ?_ GE136.out) | exact HB.out)⟩⟩
    · rw [if_neg c5] at H
      have c5b0 : decide (300 < (l1.length : Int)) = false := decide_eq_false c5
      have c5b1 : decide (300 < l1.length) = false := decide_eq_false (by omega)
      clear c5
      (first | rw [c5b0] | (simp only [i64_w, i32_w]; rw [c5b0]) | skip)
      by_cases c6 : a0_0 = 3
      · rw [if_pos c6] at H
        have c6b0 : (a0_0 == 3) = true := beq_iff_eq.mpr c6
        have c6b1 : (a0_0 != 3) = false := bne_eq_false_iff_eq.mpr c6
        clear c6
        have H' := Aside0.mk H
        clear H
        have hcz7_0 : w4.cell? ⟨gb136, 0, none⟩ = some (.int .i64 a0_0) := (blk_cell BK136.out 0).trans rfl
        have hcz7_1 : w4.cell? ⟨gb136, 1, none⟩ = some (.int .i64 a0_1) := (blk_cell BK136.out 1).trans rfl
        have hcz7_2 : w4.cell? ⟨gb136, 2, none⟩ = some (.int .i64 a0_2) := (blk_cell BK136.out 2).trans rfl
        have hcz7_3 : w4.cell? ⟨gb136, 3, none⟩ = some (.int .i64 a0_3) := (blk_cell BK136.out 3).trans rfl
        have hfz7_0 := blk_frozen BK136.out 0
        have hfz7_1 := blk_frozen BK136.out 1
        have hfz7_2 := blk_frozen BK136.out 2
        have hfz7_3 := blk_frozen BK136.out 3
        go_wp2
        go_meet
        case rel => exact ⟨_, (false), (by first | rfl | (simp; done) | (simp [*]; done)), H', ⟨by first | omega | exact Nat.le_refl _⟩, ⟨by (with_reducible repeat (first | refine blk_drewN ?_ _ | refine blk_drew ?_ | refine blk_alloc ?_ _)); exact BK136.out⟩, ⟨by repeat (first | (with_reducible first | exact HB.out | apply below_alloc | apply pw_below_drewN | apply below_drew1 | refine below_set ?_ GE136.out) | exact HB.out)⟩⟩
      · rw [if_neg c6] at H
        have c6b0 : (a0_0 == 3) = false := beq_eq_false_iff_ne.mpr c6
        have c6b1 : (a0_0 != 3) = true := bne_iff_ne.mpr c6
        have H' := Aside0.mk H
        clear H
        have hcz8_0 : w4.cell? ⟨gb136, 0, none⟩ = some (.int .i64 a0_0) := (blk_cell BK136.out 0).trans rfl
        have hcz8_1 : w4.cell? ⟨gb136, 1, none⟩ = some (.int .i64 a0_1) := (blk_cell BK136.out 1).trans rfl
        have hcz8_2 : w4.cell? ⟨gb136, 2, none⟩ = some (.int .i64 a0_2) := (blk_cell BK136.out 2).trans rfl
        have hcz8_3 : w4.cell? ⟨gb136, 3, none⟩ = some (.int .i64 a0_3) := (blk_cell BK136.out 3).trans rfl
        have hfz8_0 := blk_frozen BK136.out 0
        have hfz8_1 := blk_frozen BK136.out 1
        have hfz8_2 := blk_frozen BK136.out 2
        have hfz8_3 := blk_frozen BK136.out 3
        go_wp2
        go_meet
        case rel => exact ⟨_, ((a0_0 != 0)), (by first | rfl | (simp; done) | (simp [*]; done)), H', ⟨by first | omega | exact Nat.le_refl _⟩, ⟨by (with_reducible repeat (first | refine blk_drewN ?_ _ | refine blk_drew ?_ | refine blk_alloc ?_ _)); exact BK136.out⟩, ⟨by repeat (first | (with_reducible first | exact HB.out | apply below_alloc | apply pw_below_drewN | apply below_drew1 | refine below_set ?_ GE136.out) | exact HB.out)⟩⟩
  case rest =>
    clear HC3
    try clear c1
    try clear p2
    try clear c3
    try clear c5
    try clear c5b0
    try clear c5b1
    try clear c6
    try clear c6b0
    try clear c6b1
    try clear hcz7_0
    try clear hcz7_1
    try clear hcz7_2
    try clear hcz7_3
    try clear hcz8_0
    try clear hcz8_1
    try clear hcz8_2
    try clear hcz8_3
    try clear hfz7_0
    try clear hfz7_1
    try clear hfz7_2
    try clear hfz7_3
    try clear hfz8_0
    try clear hfz8_1
    try clear hfz8_2
    try clear hfz8_3
    obtain ⟨kq, x19_2, rfl, HA, HJ2, BK136, HB⟩ := hcut
    cases kq with
    | zero => exact absurd HA.out (by simp [coupletlaw17_WatchSafe.j0])
    | succ kj2 =>
      have H := HA.out
      clear HA
      simp only [coupletlaw17_WatchSafe.j0] at H
      by_cases c9 : x19_2 = true
      · subst c9
        have H1 : ((coupletlaw17_awake.f kj2).bind fun t137 => (some t137)) = some r := by rw [if_pos rfl] at H; exact H
        clear H
        have H := H1
        clear H1
        replace H := Option.bind_eq_some_iff.mp H
        obtain ⟨t137, A100, H⟩ := H
        replace H : (some t137) = some r := H
        have A10 := Aside0.mk A100
        clear A100
        obtain rfl := Option.some.inj H
        go_wp2_with (first | ((with_reducible refine gate_callee (f := 8) rfl ?_); refine goesL_ (some 20) rfl rfl Try.func8 (by kernel_rfl) rfl #[] rfl (by (try simp only [List.map_toArray, List.map_cons, List.map_nil]); first | done | rfl | (simp only [List.length_drop, List.length_take]; rfl)) ?_; (with_reducible refine (coupletlaw17_awake.calls kj2  t137 _ A10.out).mono ?_); rintro e w11 ⟨rfl, hb⟩; refine ⟨_, rfl, ?_⟩; have n0_ := Aside0.mk (blk_below (g := gb136) (o := .cells #[.int .i64 a0_0, .int .i64 a0_1, .int .i64 a0_2, .int .i64 a0_3] 23 (0, 0)) (by (with_reducible repeat (first | refine blk_drewN ?_ _ | refine blk_drew ?_ | refine blk_alloc ?_ _)); exact BK136.out) hb); have n1_ := Aside0.mk (below_step (by repeat (first | (with_reducible first | exact HB.out | apply below_alloc | apply pw_below_drewN | apply below_drew1 | refine below_set ?_ GE136.out) | exact HB.out)) hb); clear BK136; clear HB; have BK136 := n0_; have HB := n1_; clear n0_ n1_; (try clear hb); (try clear hb2); (try clear hk); (try clear hi)))
        go_ret
        exact ⟨by first | rfl | (simp [errW_none, errW_some] <;> rfl) | (simp [*, errW_none, errW_some] <;> rfl), by repeat (first | (with_reducible first | exact HB.out | apply below_alloc | apply pw_below_drewN | apply below_drew1 | refine below_set ?_ GE136.out) | exact HB.out)⟩
      · replace c9 := Bool.eq_false_iff.mpr c9
        subst c9
        have H1 : ((watch_Run.f kj2 a0_0 a0_1 a0_2 a0_3 l1).bind fun t138 => (coupletlaw17_WatchSafe.l0 kj2 l1 t138 (t138.length : Int) 0 a0_0 a0_1 a0_2 a0_3)) = some r := by rw [if_neg (show ¬ (false = true) by decide)] at H; exact H
        clear H
        have H := H1
        clear H1
        replace H := Option.bind_eq_some_iff.mp H
        obtain ⟨t138, A120, H⟩ := H
        replace H : (coupletlaw17_WatchSafe.l0 kj2 l1 t138 (t138.length : Int) 0 a0_0 a0_1 a0_2 a0_3) = some r := H
        have A12 := Aside0.mk A120
        clear A120
        have H' := Aside0.mk H
        clear H
        have hcz13_0 : wc.cell? ⟨gb136, 0, none⟩ = some (.int .i64 a0_0) := (blk_cell BK136.out 0).trans rfl
        have hcz13_1 : wc.cell? ⟨gb136, 1, none⟩ = some (.int .i64 a0_1) := (blk_cell BK136.out 1).trans rfl
        have hcz13_2 : wc.cell? ⟨gb136, 2, none⟩ = some (.int .i64 a0_2) := (blk_cell BK136.out 2).trans rfl
        have hcz13_3 : wc.cell? ⟨gb136, 3, none⟩ = some (.int .i64 a0_3) := (blk_cell BK136.out 3).trans rfl
        have hfz13_0 := blk_frozen BK136.out 0
        have hfz13_1 := blk_frozen BK136.out 1
        have hfz13_2 := blk_frozen BK136.out 2
        have hfz13_3 := blk_frozen BK136.out 3
        go_wp2_with (first | ((with_reducible refine gate_callee (f := 9) rfl ?_); refine goesL_ (some 23) rfl rfl Try.func9 (by kernel_rfl) rfl #[.agg #[.int .i64 a0_0, .int .i64 a0_1, .int .i64 a0_2, .int .i64 a0_3], .slice A1 l1.length c1] rfl (by (try simp only [List.map_toArray, List.map_cons, List.map_nil]); first | done | rfl | (simp only [List.length_drop, List.length_take]; rfl)) ?_; (with_reducible refine (watch_Run.calls kj2 a0_0 a0_1 a0_2 a0_3 _ _ l1 t138 _ ?side1 ?side2 A12.out).mono ?_); (case side1 => repeat (first | exact (Kd.C_below HR1.out HB.out) | (with_reducible refine Kd.C_alloc ?_ _) | (with_reducible refine Kd.C_drewN ?_ _) | (with_reducible refine Kd.C_drew ?_))); (case side2 => exact HC1.out); rintro e w14 ⟨v139, rfl, ho0, hb⟩; refine ⟨_, rfl, ?_⟩; have n0_ := Aside0.mk (Kd.R_lower (Kd.R_newB ho0 (g := gb136) (o := .cells #[.int .i64 a0_0, .int .i64 a0_1, .int .i64 a0_2, .int .i64 a0_3] 23 (0, 0)) (by (with_reducible repeat (first | refine blk_drewN ?_ _ | refine blk_drew ?_ | refine blk_alloc ?_ _)); exact BK136.out)) (below_size (by repeat (first | (with_reducible first | exact HB.out | apply below_alloc | apply pw_below_drewN | apply below_drew1 | refine below_set ?_ GE136.out) | exact HB.out)))); have n1_ := Aside0.mk (blk_below (g := gb136) (o := .cells #[.int .i64 a0_0, .int .i64 a0_1, .int .i64 a0_2, .int .i64 a0_3] 23 (0, 0)) (by (with_reducible repeat (first | refine blk_drewN ?_ _ | refine blk_drew ?_ | refine blk_alloc ?_ _)); exact BK136.out) hb); have n2_ := Aside0.mk (below_step (by repeat (first | (with_reducible first | exact HB.out | apply below_alloc | apply pw_below_drewN | apply below_drew1 | refine below_set ?_ GE136.out) | exact HB.out)) hb); clear BK136; clear HB; have HO140 := n0_; have BK136 := n1_; have HB := n2_; clear n0_ n1_ n2_; (try clear hb); (try clear hb2); (try clear hk); (try clear hi); (try clear ho0); obtain ⟨Ao15, co15, eo15⟩ := Kd.R_slice HO140.out; subst eo15))
        go_loopg [25] kj2 (fun kq v25 w' => ∃ (x25_2 : Int), v25 = .int .i64 x25_2 ∧ Aside0 (coupletlaw17_WatchSafe.l0 kq l1 t138 (t138.length : Int) x25_2 a0_0 a0_1 a0_2 a0_3 = some r) ∧ Aside0 (kq ≤ kj2) ∧ Aside0 (Kd.R k23 23 w' w.heap.size (fun k_ => k_ ≠ gb136) (.slice Ao15 t138.length co15) t138) ∧ Aside0 (w'.heap[gb136]? = some (.cells #[.int .i64 a0_0, .int .i64 a0_1, .int .i64 a0_2, .int .i64 a0_3] 23 (0, 0))) ∧ Aside0 (Below w.heap.size w w'))
        case atStart => exact ⟨(0), (by first | rfl | (simp; done) | (simp [*]; done)), H', ⟨Nat.le_refl _⟩, ⟨by (with_reducible repeat (first | apply Kd.R_alloc | apply Kd.R_drewN | apply Kd.R_drew)); exact Kd.R_mono HO140.out (fun _ hk => hk.2)⟩, ⟨by (with_reducible repeat (first | refine blk_drewN ?_ _ | refine blk_drew ?_ | refine blk_alloc ?_ _)); exact BK136.out⟩, ⟨by repeat (first | (with_reducible first | exact HB.out | apply below_alloc | apply pw_below_drewN | apply below_drew1 | refine below_set ?_ GE136.out) | exact HB.out)⟩⟩
        case round =>
          clear H'
          try clear c1
          try clear p2
          try clear c3
          try clear c5
          try clear c5b0
          try clear c5b1
          try clear c6
          try clear c6b0
          try clear c6b1
          try clear c8
          try clear c9
          try clear hcz13_0
          try clear hcz13_1
          try clear hcz13_2
          try clear hcz13_3
          try clear hcz7_0
          try clear hcz7_1
          try clear hcz7_2
          try clear hcz7_3
          try clear hcz8_0
          try clear hcz8_1
          try clear hcz8_2
          try clear hcz8_3
          try clear hfz13_0
          try clear hfz13_1
          try clear hfz13_2
          try clear hfz13_3
          try clear hfz7_0
          try clear hfz7_1
          try clear hfz7_2
          try clear hfz7_3
          try clear hfz8_0
          try clear hfz8_1
          try clear hfz8_2
          try clear hfz8_3
          try clear p2
          obtain ⟨x25_2, rfl, HA, HK2, HO_23, BK136, HB⟩ := hrel
          cases gk with
          | zero => exact absurd HA.out (by simp [coupletlaw17_WatchSafe.l0])
          | succ k2 =>
            have H := HA.out
            clear HA
            simp only [coupletlaw17_WatchSafe.l0] at H
            by_cases c16 : x25_2 < (t138.length : Int)
            · rw [if_pos c16] at H
              have c16b0 : decide (x25_2 < (t138.length : Int)) = true := decide_eq_true c16
              clear c16
              by_cases c17 : 0 ≤ x25_2
              · rw [if_pos c17] at H
                have c17b0 : decide (0 ≤ x25_2) = true := decide_eq_true c17
                clear c17
                by_cases c18 : x25_2 < (t138.length : Int)
                · rw [if_pos c18] at H
                  have c18b0 : decide (x25_2 < (t138.length : Int)) = true := decide_eq_true c18
                  clear c18
                  have HC19 := Aside0.mk H
                  clear H
                  have p142 : 0 ≤ (x25_2 : Int) := of_decide_eq_true (by first | (with_reducible assumption) | assumption)
                  have q142 : x25_2 < (t138.length : Int) := of_decide_eq_true (by first | (with_reducible assumption) | assumption)
                  obtain ⟨ad142, e142, hx142_0, hx142_1, hx142_2, hx142_3⟩ := at_T23 (Kd.R_reads' HO_23.out).2.2 x25_2 p142 q142
                  cases e142
                  replace p142 := eq_true p142
                  replace q142 := eq_true q142
                  go_upto_region 6 with (first | ((with_reducible refine gate_dst (N := 6) rfl ?_); refine box_event ?hg (N := 6) ?hd (cs := #[.int .i64 0, .int .i64 0, .int .i64 0, .int .i64 0]) (t := 23) ?hr ?_; (case hd => rfl); (case hg => rfl); (case hr => first | (go_simp; done) | (go_simp; rfl)); intro gb143 hg w20 hbox hb; have n0_ := Aside0.mk (Kd.R_below (Kd.R_elderB (by (with_reducible repeat (first | apply Kd.R_alloc | apply Kd.R_drewN | apply Kd.R_drew)); exact HO_23.out) gb143 (Nat.le_of_eq hg.symm)) hb); have n1_ := Aside0.mk (blk_below (g := gb136) (o := .cells #[.int .i64 a0_0, .int .i64 a0_1, .int .i64 a0_2, .int .i64 a0_3] 23 (0, 0)) (by (with_reducible repeat (first | refine blk_drewN ?_ _ | refine blk_drew ?_ | refine blk_alloc ?_ _)); exact BK136.out) hb); have n2_ := Aside0.mk (below_step (by repeat (first | (with_reducible first | exact HB.out | apply below_alloc | apply pw_below_drewN | apply below_drew1 | refine below_set ?_ GE136.out) | exact HB.out)) hb); have n3_ := Aside0.mk (hbox); have n4_ := Aside0.mk ((by rw [hg]; exact (below_size (by repeat (first | (with_reducible first | exact HB.out | apply below_alloc | apply pw_below_drewN | apply below_drew1 | refine below_set ?_ GE136.out) | exact HB.out))) : w.heap.size ≤ gb143)); have n5_ := Aside0.mk ((by rw [hg]; exact (below_size (by repeat (first | (with_reducible first | exact HB.out | apply below_alloc | apply pw_below_drewN | apply below_drew1 | refine below_set ?_ GE136.out) | exact HB.out))) : w.heap.size ≤ gb143)); have n6_ := Aside0.mk ((by rw [hg]; exact Nat.ne_of_lt (blk_lt (g := gb136) (o := .cells #[.int .i64 a0_0, .int .i64 a0_1, .int .i64 a0_2, .int .i64 a0_3] 23 (0, 0)) (by (with_reducible repeat (first | refine blk_drewN ?_ _ | refine blk_drew ?_ | refine blk_alloc ?_ _)); exact BK136.out)) : gb136 ≠ gb143)); have n7_ := Aside0.mk ((by rw [hg]; exact Nat.ne_of_gt (blk_lt (g := gb136) (o := .cells #[.int .i64 a0_0, .int .i64 a0_1, .int .i64 a0_2, .int .i64 a0_3] 23 (0, 0)) (by (with_reducible repeat (first | refine blk_drewN ?_ _ | refine blk_drew ?_ | refine blk_alloc ?_ _)); exact BK136.out)) : gb143 ≠ gb136)); clear HO_23; clear BK136; clear HB; have HO_23 := n0_; have BK136 := n1_; have HB := n2_; have BK143 := n3_; have GW143 := n4_; have GE143 := n5_; have NB136_143 := n6_; have NB143_136 := n7_; clear n0_ n1_ n2_ n3_ n4_ n5_ n6_ n7_; clear hb hbox hg; have hnb21 := NB143_136.out; have hnc21 := NB136_143.out; have hcz22_0 : w20.cell? ⟨gb143, 0, none⟩ = some (.int .i64 0) := (blk_cell BK143.out 0).trans rfl; have hcz22_1 : w20.cell? ⟨gb143, 1, none⟩ = some (.int .i64 0) := (blk_cell BK143.out 1).trans rfl; have hcz22_2 : w20.cell? ⟨gb143, 2, none⟩ = some (.int .i64 0) := (blk_cell BK143.out 2).trans rfl; have hcz22_3 : w20.cell? ⟨gb143, 3, none⟩ = some (.int .i64 0) := (blk_cell BK143.out 3).trans rfl; have hfz22_0 := blk_frozen BK143.out 0; have hfz22_1 := blk_frozen BK143.out 1; have hfz22_2 := blk_frozen BK143.out 2; have hfz22_3 := blk_frozen BK143.out 3))
                  (try simp only [Act.put, List.setIfInBounds_toArray, List.set_cons_zero, List.set_cons_succ])
                  go_cut [43] (fun v43 wc => ∃ (kq : Nat) (x43_18 : Bool), v43 = .bool x43_18 ∧ Aside0 (coupletlaw17_WatchSafe.j2 kq l1 t138 (t138.length : Int) x25_2 x43_18 a0_0 a0_1 a0_2 a0_3 ((rd_T23 t138 x25_2).f0) ((rd_T23 t138 x25_2).f1) ((rd_T23 t138 x25_2).f2) ((rd_T23 t138 x25_2).f3) = some r) ∧ Aside0 (kq ≤ k2) ∧ Aside0 (Kd.R k23 23 wc w.heap.size (fun k_ => k_ ≠ gb136 ∧ k_ ≠ gb143) (.slice (some ad142) t138.length co15) t138) ∧ Aside0 (wc.heap[gb136]? = some (.cells #[.int .i64 a0_0, .int .i64 a0_1, .int .i64 a0_2, .int .i64 a0_3] 23 (0, 0))) ∧ Aside0 (wc.heap[gb143]? = some (.cells #[.int .i64 ((rd_T23 t138 x25_2).f0), .int .i64 ((rd_T23 t138 x25_2).f1), .int .i64 ((rd_T23 t138 x25_2).f2), .int .i64 ((rd_T23 t138 x25_2).f3)] 23 (0, 0))) ∧ Aside0 (Below w.heap.size w wc))
                  case first =>
                    have H := HC19.out
                    clear HC19
                    by_cases c23 : x25_2 < (l1.length : Int)
                    · rw [if_pos c23] at H
                      have c23b0 : decide (x25_2 < (l1.length : Int)) = true := decide_eq_true c23
                      clear c23
                      (first | rw [c23b0] | (simp only [i64_w, i32_w]; rw [c23b0]) | skip)
                      by_cases c24 : ((rd_T29 l1 x25_2).f0) = 1
                      · rw [if_pos c24] at H
                        have c24b0 : (((rd_T29 l1 x25_2).f0) == 1) = true := beq_iff_eq.mpr c24
                        have c24b1 : (((rd_T29 l1 x25_2).f0) != 1) = false := bne_eq_false_iff_eq.mpr c24
                        clear c24
                        have H' := Aside0.mk H
                        clear H
                        have p144 : 0 ≤ (x25_2 : Int) := of_decide_eq_true (by first | (with_reducible assumption) | assumption)
                        have q144 : x25_2 < (l1.length : Int) := of_decide_eq_true (by first | (with_reducible assumption) | assumption)
                        obtain ⟨ad144, e144, hx144_0, hx144_1⟩ := at_T29 HR1.out x25_2 p144 q144
                        cases e144
                        have hn144_0 : ad144.block ≠ gb143 := Nat.ne_of_lt (Nat.lt_of_lt_of_le (by have := World.block_lt_of_cell? _ _ hx144_0; first | rwa [add_block] at this | exact this) GW143.out)
                        have hn144_1 : ad144.block ≠ gb143 := Nat.ne_of_lt (Nat.lt_of_lt_of_le (by have := World.block_lt_of_cell? _ _ hx144_0; first | rwa [add_block] at this | exact this) GW143.out)
                        have hn144_2 : ad144.block ≠ gb143 := Nat.ne_of_lt (Nat.lt_of_lt_of_le (by have := World.block_lt_of_cell? _ _ hx144_0; first | rwa [add_block] at this | exact this) GW143.out)
                        have hn144_3 : ad144.block ≠ gb143 := Nat.ne_of_lt (Nat.lt_of_lt_of_le (by have := World.block_lt_of_cell? _ _ hx144_0; first | rwa [add_block] at this | exact this) GW143.out)
                        replace hx144_0 := (HB.out.cell (World.block_lt_of_cell? w _ hx144_0)).trans hx144_0
                        replace hx144_1 := (HB.out.cell (World.block_lt_of_cell? w _ hx144_1)).trans hx144_1
                        replace hx144_0 := (cell_far (p := ⟨gb143, 0, none⟩) (by first | (rw [add_block]; exact hn144_0) | (show (Addr.add _ _).block ≠ _; rw [add_block]; exact hn144_0) | exact hn144_0) (.int .i64 ((rd_T23 t138 x25_2).f0))).trans hx144_0
                        replace hx144_1 := (cell_far (p := ⟨gb143, 0, none⟩) (by first | (rw [add_block]; exact hn144_0) | (show (Addr.add _ _).block ≠ _; rw [add_block]; exact hn144_0) | exact hn144_0) (.int .i64 ((rd_T23 t138 x25_2).f0))).trans hx144_1
                        replace hx144_0 := (cell_far (p := ⟨gb143, 1, none⟩) (by first | (rw [add_block]; exact hn144_1) | (show (Addr.add _ _).block ≠ _; rw [add_block]; exact hn144_1) | exact hn144_1) (.int .i64 ((rd_T23 t138 x25_2).f1))).trans hx144_0
                        replace hx144_1 := (cell_far (p := ⟨gb143, 1, none⟩) (by first | (rw [add_block]; exact hn144_1) | (show (Addr.add _ _).block ≠ _; rw [add_block]; exact hn144_1) | exact hn144_1) (.int .i64 ((rd_T23 t138 x25_2).f1))).trans hx144_1
                        replace hx144_0 := (cell_far (p := ⟨gb143, 2, none⟩) (by first | (rw [add_block]; exact hn144_2) | (show (Addr.add _ _).block ≠ _; rw [add_block]; exact hn144_2) | exact hn144_2) (.int .i64 ((rd_T23 t138 x25_2).f2))).trans hx144_0
                        replace hx144_1 := (cell_far (p := ⟨gb143, 2, none⟩) (by first | (rw [add_block]; exact hn144_2) | (show (Addr.add _ _).block ≠ _; rw [add_block]; exact hn144_2) | exact hn144_2) (.int .i64 ((rd_T23 t138 x25_2).f2))).trans hx144_1
                        replace hx144_0 := (cell_far (p := ⟨gb143, 3, none⟩) (by first | (rw [add_block]; exact hn144_3) | (show (Addr.add _ _).block ≠ _; rw [add_block]; exact hn144_3) | exact hn144_3) (.int .i64 ((rd_T23 t138 x25_2).f3))).trans hx144_0
                        replace hx144_1 := (cell_far (p := ⟨gb143, 3, none⟩) (by first | (rw [add_block]; exact hn144_3) | (show (Addr.add _ _).block ≠ _; rw [add_block]; exact hn144_3) | exact hn144_3) (.int .i64 ((rd_T23 t138 x25_2).f3))).trans hx144_1
                        clear hn144_0
                        clear hn144_1
                        clear hn144_2
                        clear hn144_3
                        replace p144 := eq_true p144
                        replace q144 := eq_true q144
                        go_wp2
                        go_meet
                        case rel => exact ⟨_, (true), (by first | rfl | (simp; done) | (simp [*]; done)), H', ⟨by have := HJ2.out; have := HK2.out; first | omega | exact Nat.le_refl _⟩, ⟨by (with_reducible repeat (first | apply Kd.R_alloc | apply Kd.R_drewN | apply Kd.R_drew)); exact Kd.R_mono (Kd.R_far (p := ⟨gb143, 3, none⟩) (Kd.R_far (p := ⟨gb143, 2, none⟩) (Kd.R_far (p := ⟨gb143, 1, none⟩) (Kd.R_far (p := ⟨gb143, 0, none⟩) (Kd.R_mono HO_23.out (fun k_ hk => (⟨hk, hk.2⟩ : _ ∧ k_ ≠ gb143))) (fun _ hk => hk.2) (.int .i64 ((rd_T23 t138 x25_2).f0))) (fun _ hk => hk.2) (.int .i64 ((rd_T23 t138 x25_2).f1))) (fun _ hk => hk.2) (.int .i64 ((rd_T23 t138 x25_2).f2))) (fun _ hk => hk.2) (.int .i64 ((rd_T23 t138 x25_2).f3))) (fun _ hk => ⟨hk.1.1, hk.1.2⟩)⟩, ⟨by (with_reducible repeat (first | refine blk_drewN ?_ _ | refine blk_drew ?_ | refine blk_alloc ?_ _)); refine blk_far ?_ NB136_143.out _; (with_reducible repeat (first | refine blk_drewN ?_ _ | refine blk_drew ?_ | refine blk_alloc ?_ _)); refine blk_far ?_ NB136_143.out _; (with_reducible repeat (first | refine blk_drewN ?_ _ | refine blk_drew ?_ | refine blk_alloc ?_ _)); refine blk_far ?_ NB136_143.out _; (with_reducible repeat (first | refine blk_drewN ?_ _ | refine blk_drew ?_ | refine blk_alloc ?_ _)); refine blk_far ?_ NB136_143.out _; (with_reducible repeat (first | refine blk_drewN ?_ _ | refine blk_drew ?_ | refine blk_alloc ?_ _)); exact BK136.out⟩, ⟨by (with_reducible repeat (first | refine blk_drewN ?_ _ | refine blk_drew ?_ | refine blk_alloc ?_ _)); refine blk_put (cs := #[.int .i64 ((rd_T23 t138 x25_2).f0), .int .i64 ((rd_T23 t138 x25_2).f1), .int .i64 ((rd_T23 t138 x25_2).f2), .int .i64 0]) ?_ 3 _ rfl; (with_reducible repeat (first | refine blk_drewN ?_ _ | refine blk_drew ?_ | refine blk_alloc ?_ _)); refine blk_put (cs := #[.int .i64 ((rd_T23 t138 x25_2).f0), .int .i64 ((rd_T23 t138 x25_2).f1), .int .i64 0, .int .i64 0]) ?_ 2 _ rfl; (with_reducible repeat (first | refine blk_drewN ?_ _ | refine blk_drew ?_ | refine blk_alloc ?_ _)); refine blk_put (cs := #[.int .i64 ((rd_T23 t138 x25_2).f0), .int .i64 0, .int .i64 0, .int .i64 0]) ?_ 1 _ rfl; (with_reducible repeat (first | refine blk_drewN ?_ _ | refine blk_drew ?_ | refine blk_alloc ?_ _)); refine blk_put (cs := #[.int .i64 0, .int .i64 0, .int .i64 0, .int .i64 0]) ?_ 0 _ rfl; (with_reducible repeat (first | refine blk_drewN ?_ _ | refine blk_drew ?_ | refine blk_alloc ?_ _)); exact BK143.out⟩, ⟨by repeat (first | (with_reducible first | exact HB.out | apply below_alloc | apply pw_below_drewN | apply below_drew1 | refine below_set ?_ GE136.out | refine below_set ?_ GE143.out) | exact HB.out)⟩⟩
                      · rw [if_neg c24] at H
                        have c24b0 : (((rd_T29 l1 x25_2).f0) == 1) = false := beq_eq_false_iff_ne.mpr c24
                        have c24b1 : (((rd_T29 l1 x25_2).f0) != 1) = true := bne_iff_ne.mpr c24
                        have H' := Aside0.mk H
                        clear H
                        have p144 : 0 ≤ (x25_2 : Int) := of_decide_eq_true (by first | (with_reducible assumption) | assumption)
                        have q144 : x25_2 < (l1.length : Int) := of_decide_eq_true (by first | (with_reducible assumption) | assumption)
                        obtain ⟨ad144, e144, hx144_0, hx144_1⟩ := at_T29 HR1.out x25_2 p144 q144
                        cases e144
                        have hn144_0 : ad144.block ≠ gb143 := Nat.ne_of_lt (Nat.lt_of_lt_of_le (by have := World.block_lt_of_cell? _ _ hx144_0; first | rwa [add_block] at this | exact this) GW143.out)
                        have hn144_1 : ad144.block ≠ gb143 := Nat.ne_of_lt (Nat.lt_of_lt_of_le (by have := World.block_lt_of_cell? _ _ hx144_0; first | rwa [add_block] at this | exact this) GW143.out)
                        have hn144_2 : ad144.block ≠ gb143 := Nat.ne_of_lt (Nat.lt_of_lt_of_le (by have := World.block_lt_of_cell? _ _ hx144_0; first | rwa [add_block] at this | exact this) GW143.out)
                        have hn144_3 : ad144.block ≠ gb143 := Nat.ne_of_lt (Nat.lt_of_lt_of_le (by have := World.block_lt_of_cell? _ _ hx144_0; first | rwa [add_block] at this | exact this) GW143.out)
                        replace hx144_0 := (HB.out.cell (World.block_lt_of_cell? w _ hx144_0)).trans hx144_0
                        replace hx144_1 := (HB.out.cell (World.block_lt_of_cell? w _ hx144_1)).trans hx144_1
                        replace hx144_0 := (cell_far (p := ⟨gb143, 0, none⟩) (by first | (rw [add_block]; exact hn144_0) | (show (Addr.add _ _).block ≠ _; rw [add_block]; exact hn144_0) | exact hn144_0) (.int .i64 ((rd_T23 t138 x25_2).f0))).trans hx144_0
                        replace hx144_1 := (cell_far (p := ⟨gb143, 0, none⟩) (by first | (rw [add_block]; exact hn144_0) | (show (Addr.add _ _).block ≠ _; rw [add_block]; exact hn144_0) | exact hn144_0) (.int .i64 ((rd_T23 t138 x25_2).f0))).trans hx144_1
                        replace hx144_0 := (cell_far (p := ⟨gb143, 1, none⟩) (by first | (rw [add_block]; exact hn144_1) | (show (Addr.add _ _).block ≠ _; rw [add_block]; exact hn144_1) | exact hn144_1) (.int .i64 ((rd_T23 t138 x25_2).f1))).trans hx144_0
                        replace hx144_1 := (cell_far (p := ⟨gb143, 1, none⟩) (by first | (rw [add_block]; exact hn144_1) | (show (Addr.add _ _).block ≠ _; rw [add_block]; exact hn144_1) | exact hn144_1) (.int .i64 ((rd_T23 t138 x25_2).f1))).trans hx144_1
                        replace hx144_0 := (cell_far (p := ⟨gb143, 2, none⟩) (by first | (rw [add_block]; exact hn144_2) | (show (Addr.add _ _).block ≠ _; rw [add_block]; exact hn144_2) | exact hn144_2) (.int .i64 ((rd_T23 t138 x25_2).f2))).trans hx144_0
                        replace hx144_1 := (cell_far (p := ⟨gb143, 2, none⟩) (by first | (rw [add_block]; exact hn144_2) | (show (Addr.add _ _).block ≠ _; rw [add_block]; exact hn144_2) | exact hn144_2) (.int .i64 ((rd_T23 t138 x25_2).f2))).trans hx144_1
                        replace hx144_0 := (cell_far (p := ⟨gb143, 3, none⟩) (by first | (rw [add_block]; exact hn144_3) | (show (Addr.add _ _).block ≠ _; rw [add_block]; exact hn144_3) | exact hn144_3) (.int .i64 ((rd_T23 t138 x25_2).f3))).trans hx144_0
                        replace hx144_1 := (cell_far (p := ⟨gb143, 3, none⟩) (by first | (rw [add_block]; exact hn144_3) | (show (Addr.add _ _).block ≠ _; rw [add_block]; exact hn144_3) | exact hn144_3) (.int .i64 ((rd_T23 t138 x25_2).f3))).trans hx144_1
                        clear hn144_0
                        clear hn144_1
                        clear hn144_2
                        clear hn144_3
                        replace p144 := eq_true p144
                        replace q144 := eq_true q144
                        have p145 : 0 ≤ (x25_2 : Int) := of_decide_eq_true (by first | (with_reducible assumption) | assumption)
                        have q145 : x25_2 < (l1.length : Int) := of_decide_eq_true (by first | (with_reducible assumption) | assumption)
                        obtain ⟨ad145, e145, hx145_0, hx145_1⟩ := at_T29 HR1.out x25_2 p145 q145
                        obtain rfl : ad144 = ad145 := (by injection e145)
                        have hn145_0 : ad144.block ≠ gb143 := Nat.ne_of_lt (Nat.lt_of_lt_of_le (by have := World.block_lt_of_cell? _ _ hx145_0; first | rwa [add_block] at this | exact this) GW143.out)
                        have hn145_1 : ad144.block ≠ gb143 := Nat.ne_of_lt (Nat.lt_of_lt_of_le (by have := World.block_lt_of_cell? _ _ hx145_0; first | rwa [add_block] at this | exact this) GW143.out)
                        have hn145_2 : ad144.block ≠ gb143 := Nat.ne_of_lt (Nat.lt_of_lt_of_le (by have := World.block_lt_of_cell? _ _ hx145_0; first | rwa [add_block] at this | exact this) GW143.out)
                        have hn145_3 : ad144.block ≠ gb143 := Nat.ne_of_lt (Nat.lt_of_lt_of_le (by have := World.block_lt_of_cell? _ _ hx145_0; first | rwa [add_block] at this | exact this) GW143.out)
                        replace hx145_0 := (HB.out.cell (World.block_lt_of_cell? w _ hx145_0)).trans hx145_0
                        replace hx145_1 := (HB.out.cell (World.block_lt_of_cell? w _ hx145_1)).trans hx145_1
                        replace hx145_0 := (cell_far (p := ⟨gb143, 0, none⟩) (by first | (rw [add_block]; exact hn145_0) | (show (Addr.add _ _).block ≠ _; rw [add_block]; exact hn145_0) | exact hn145_0) (.int .i64 ((rd_T23 t138 x25_2).f0))).trans hx145_0
                        replace hx145_1 := (cell_far (p := ⟨gb143, 0, none⟩) (by first | (rw [add_block]; exact hn145_0) | (show (Addr.add _ _).block ≠ _; rw [add_block]; exact hn145_0) | exact hn145_0) (.int .i64 ((rd_T23 t138 x25_2).f0))).trans hx145_1
                        replace hx145_0 := (cell_far (p := ⟨gb143, 1, none⟩) (by first | (rw [add_block]; exact hn145_1) | (show (Addr.add _ _).block ≠ _; rw [add_block]; exact hn145_1) | exact hn145_1) (.int .i64 ((rd_T23 t138 x25_2).f1))).trans hx145_0
                        replace hx145_1 := (cell_far (p := ⟨gb143, 1, none⟩) (by first | (rw [add_block]; exact hn145_1) | (show (Addr.add _ _).block ≠ _; rw [add_block]; exact hn145_1) | exact hn145_1) (.int .i64 ((rd_T23 t138 x25_2).f1))).trans hx145_1
                        replace hx145_0 := (cell_far (p := ⟨gb143, 2, none⟩) (by first | (rw [add_block]; exact hn145_2) | (show (Addr.add _ _).block ≠ _; rw [add_block]; exact hn145_2) | exact hn145_2) (.int .i64 ((rd_T23 t138 x25_2).f2))).trans hx145_0
                        replace hx145_1 := (cell_far (p := ⟨gb143, 2, none⟩) (by first | (rw [add_block]; exact hn145_2) | (show (Addr.add _ _).block ≠ _; rw [add_block]; exact hn145_2) | exact hn145_2) (.int .i64 ((rd_T23 t138 x25_2).f2))).trans hx145_1
                        replace hx145_0 := (cell_far (p := ⟨gb143, 3, none⟩) (by first | (rw [add_block]; exact hn145_3) | (show (Addr.add _ _).block ≠ _; rw [add_block]; exact hn145_3) | exact hn145_3) (.int .i64 ((rd_T23 t138 x25_2).f3))).trans hx145_0
                        replace hx145_1 := (cell_far (p := ⟨gb143, 3, none⟩) (by first | (rw [add_block]; exact hn145_3) | (show (Addr.add _ _).block ≠ _; rw [add_block]; exact hn145_3) | exact hn145_3) (.int .i64 ((rd_T23 t138 x25_2).f3))).trans hx145_1
                        clear hn145_0
                        clear hn145_1
                        clear hn145_2
                        clear hn145_3
                        replace p145 := eq_true p145
                        replace q145 := eq_true q145
                        go_wp2
                        go_meet
                        case rel => exact ⟨_, ((((rd_T29 l1 x25_2).f0) == 5)), (by first | rfl | (simp; done) | (simp [*]; done)), H', ⟨by have := HJ2.out; have := HK2.out; first | omega | exact Nat.le_refl _⟩, ⟨by (with_reducible repeat (first | apply Kd.R_alloc | apply Kd.R_drewN | apply Kd.R_drew)); exact Kd.R_mono (Kd.R_far (p := ⟨gb143, 3, none⟩) (Kd.R_far (p := ⟨gb143, 2, none⟩) (Kd.R_far (p := ⟨gb143, 1, none⟩) (Kd.R_far (p := ⟨gb143, 0, none⟩) (Kd.R_mono HO_23.out (fun k_ hk => (⟨hk, hk.2⟩ : _ ∧ k_ ≠ gb143))) (fun _ hk => hk.2) (.int .i64 ((rd_T23 t138 x25_2).f0))) (fun _ hk => hk.2) (.int .i64 ((rd_T23 t138 x25_2).f1))) (fun _ hk => hk.2) (.int .i64 ((rd_T23 t138 x25_2).f2))) (fun _ hk => hk.2) (.int .i64 ((rd_T23 t138 x25_2).f3))) (fun _ hk => ⟨hk.1.1, hk.1.2⟩)⟩, ⟨by (with_reducible repeat (first | refine blk_drewN ?_ _ | refine blk_drew ?_ | refine blk_alloc ?_ _)); refine blk_far ?_ NB136_143.out _; (with_reducible repeat (first | refine blk_drewN ?_ _ | refine blk_drew ?_ | refine blk_alloc ?_ _)); refine blk_far ?_ NB136_143.out _; (with_reducible repeat (first | refine blk_drewN ?_ _ | refine blk_drew ?_ | refine blk_alloc ?_ _)); refine blk_far ?_ NB136_143.out _; (with_reducible repeat (first | refine blk_drewN ?_ _ | refine blk_drew ?_ | refine blk_alloc ?_ _)); refine blk_far ?_ NB136_143.out _; (with_reducible repeat (first | refine blk_drewN ?_ _ | refine blk_drew ?_ | refine blk_alloc ?_ _)); exact BK136.out⟩, ⟨by (with_reducible repeat (first | refine blk_drewN ?_ _ | refine blk_drew ?_ | refine blk_alloc ?_ _)); refine blk_put (cs := #[.int .i64 ((rd_T23 t138 x25_2).f0), .int .i64 ((rd_T23 t138 x25_2).f1), .int .i64 ((rd_T23 t138 x25_2).f2), .int .i64 0]) ?_ 3 _ rfl; (with_reducible repeat (first | refine blk_drewN ?_ _ | refine blk_drew ?_ | refine blk_alloc ?_ _)); refine blk_put (cs := #[.int .i64 ((rd_T23 t138 x25_2).f0), .int .i64 ((rd_T23 t138 x25_2).f1), .int .i64 0, .int .i64 0]) ?_ 2 _ rfl; (with_reducible repeat (first | refine blk_drewN ?_ _ | refine blk_drew ?_ | refine blk_alloc ?_ _)); refine blk_put (cs := #[.int .i64 ((rd_T23 t138 x25_2).f0), .int .i64 0, .int .i64 0, .int .i64 0]) ?_ 1 _ rfl; (with_reducible repeat (first | refine blk_drewN ?_ _ | refine blk_drew ?_ | refine blk_alloc ?_ _)); refine blk_put (cs := #[.int .i64 0, .int .i64 0, .int .i64 0, .int .i64 0]) ?_ 0 _ rfl; (with_reducible repeat (first | refine blk_drewN ?_ _ | refine blk_drew ?_ | refine blk_alloc ?_ _)); exact BK143.out⟩, ⟨by repeat (first | (with_reducible first | exact HB.out | apply below_alloc | apply pw_below_drewN | apply below_drew1 | refine below_set ?_ GE136.out | refine below_set ?_ GE143.out) | exact HB.out)⟩⟩
                    · rw [if_neg c23] at H
                      exact absurd H (by simp)
                  case rest =>
                    clear HC19
                    try clear c1
                    try clear p1
                    try clear q1
                    try clear hx1
                    try clear c2
                    try clear p2
                    try clear c3
                    try clear c5
                    try clear c5b0
                    try clear c5b1
                    try clear c6
                    try clear c6b0
                    try clear c6b1
                    try clear c8
                    try clear c9
                    try clear p14
                    try clear q14
                    try clear hx14
                    try clear c16
                    try clear c16b0
                    try clear c17
                    try clear c17b0
                    try clear c18
                    try clear c18b0
                    try clear c21
                    try clear c23
                    try clear c23b0
                    try clear c24
                    try clear c24b0
                    try clear c24b1
                    try clear hcz13_0
                    try clear hcz13_1
                    try clear hcz13_2
                    try clear hcz13_3
                    try clear hcz22_0
                    try clear hcz22_1
                    try clear hcz22_2
                    try clear hcz22_3
                    try clear hcz7_0
                    try clear hcz7_1
                    try clear hcz7_2
                    try clear hcz7_3
                    try clear hcz8_0
                    try clear hcz8_1
                    try clear hcz8_2
                    try clear hcz8_3
                    try clear hfz13_0
                    try clear hfz13_1
                    try clear hfz13_2
                    try clear hfz13_3
                    try clear hfz22_0
                    try clear hfz22_1
                    try clear hfz22_2
                    try clear hfz22_3
                    try clear hfz7_0
                    try clear hfz7_1
                    try clear hfz7_2
                    try clear hfz7_3
                    try clear hfz8_0
                    try clear hfz8_1
                    try clear hfz8_2
                    try clear hfz8_3
                    try clear hx142_0
                    try clear hx142_1
                    try clear hx142_2
                    try clear hx142_3
                    try clear hx144_0
                    try clear hx144_1
                    try clear hx145_0
                    try clear hx145_1
                    try clear p142
                    try clear p144
                    try clear p145
                    try clear p2
                    try clear q142
                    try clear q144
                    try clear q145
                    obtain ⟨kq, x43_18, rfl, HA, HJ18, HO_23, BK136, BK143, HB⟩ := hcut
                    cases kq with
                    | zero => exact absurd HA.out (by simp [coupletlaw17_WatchSafe.j2])
                    | succ kj18 =>
                      have H := HA.out
                      clear HA
                      simp only [coupletlaw17_WatchSafe.j2] at H
                      by_cases c25 : x43_18 = true
                      · subst c25
                        have H1 : ((coupletlaw17_awake.f kj18).bind fun t146 => (some t146)) = some r := by rw [if_pos rfl] at H; exact H
                        clear H
                        have H := H1
                        clear H1
                        replace H := Option.bind_eq_some_iff.mp H
                        obtain ⟨t146, A260, H⟩ := H
                        replace H : (some t146) = some r := H
                        have A26 := Aside0.mk A260
                        clear A260
                        obtain rfl := Option.some.inj H
                        go_wp2_with (first | ((with_reducible refine gate_callee (f := 8) rfl ?_); refine goesL_ (some 44) rfl rfl Try.func8 (by kernel_rfl) rfl #[] rfl (by (try simp only [List.map_toArray, List.map_cons, List.map_nil]); first | done | rfl | (simp only [List.length_drop, List.length_take]; rfl)) ?_; (with_reducible refine (coupletlaw17_awake.calls kj18  t146 _ A26.out).mono ?_); rintro e w27 ⟨rfl, hb⟩; refine ⟨_, rfl, ?_⟩; have n0_ := Aside0.mk (Kd.R_below (by (with_reducible repeat (first | apply Kd.R_alloc | apply Kd.R_drewN | apply Kd.R_drew)); exact HO_23.out) hb); have n1_ := Aside0.mk (blk_below (g := gb136) (o := .cells #[.int .i64 a0_0, .int .i64 a0_1, .int .i64 a0_2, .int .i64 a0_3] 23 (0, 0)) (by (with_reducible repeat (first | refine blk_drewN ?_ _ | refine blk_drew ?_ | refine blk_alloc ?_ _)); exact BK136.out) hb); have n2_ := Aside0.mk (blk_below (g := gb143) (o := .cells #[.int .i64 ((rd_T23 t138 x25_2).f0), .int .i64 ((rd_T23 t138 x25_2).f1), .int .i64 ((rd_T23 t138 x25_2).f2), .int .i64 ((rd_T23 t138 x25_2).f3)] 23 (0, 0)) (by (with_reducible repeat (first | refine blk_drewN ?_ _ | refine blk_drew ?_ | refine blk_alloc ?_ _)); exact BK143.out) hb); have n3_ := Aside0.mk (below_step (by repeat (first | (with_reducible first | exact HB.out | apply below_alloc | apply pw_below_drewN | apply below_drew1 | refine below_set ?_ GE136.out | refine below_set ?_ GE143.out) | exact HB.out)) hb); clear HO_23; clear BK136; clear BK143; clear HB; have HO_23 := n0_; have BK136 := n1_; have BK143 := n2_; have HB := n3_; clear n0_ n1_ n2_ n3_; (try clear hb); (try clear hb2); (try clear hk); (try clear hi)))
                        go_ret
                        exact ⟨by first | rfl | (simp [errW_none, errW_some] <;> rfl) | (simp [*, errW_none, errW_some] <;> rfl), by repeat (first | (with_reducible first | exact HB.out | apply below_alloc | apply pw_below_drewN | apply below_drew1 | refine below_set ?_ GE136.out | refine below_set ?_ GE143.out) | exact HB.out)⟩
                      · replace c25 := Bool.eq_false_iff.mpr c25
                        subst c25
                        have H1 : (if (!(((rd_T23 t138 x25_2).f0) == a0_0) || (!(((rd_T23 t138 x25_2).f1) == a0_1) || (!(((rd_T23 t138 x25_2).f2) == a0_2) || (!(((rd_T23 t138 x25_2).f3) == a0_3))))) = true then (some false) else (coupletlaw17_WatchSafe.l0 kj18 l1 t138 (t138.length : Int) (wrap64 (x25_2 + 1)) a0_0 a0_1 a0_2 a0_3)) = some r := by rw [if_neg (show ¬ (false = true) by decide)] at H; exact H
                        clear H
                        have H := H1
                        clear H1
                        by_cases c28 : (!(((rd_T23 t138 x25_2).f0) == a0_0) || (!(((rd_T23 t138 x25_2).f1) == a0_1) || (!(((rd_T23 t138 x25_2).f2) == a0_2) || (!(((rd_T23 t138 x25_2).f3) == a0_3))))) = true
                        · rw [if_pos c28] at H
                          have c28b0 : (!(((rd_T23 t138 x25_2).f0) == a0_0) || (!(((rd_T23 t138 x25_2).f1) == a0_1) || (!(((rd_T23 t138 x25_2).f2) == a0_2) || (!(((rd_T23 t138 x25_2).f3) == a0_3))))) = true := c28
                          clear c28
                          obtain rfl := Option.some.inj H
                          have hnb29 := NB143_136.out
                          have hnc29 := NB136_143.out
                          have hcz30_0 : wc.cell? ⟨gb143, 0, none⟩ = some (.int .i64 ((rd_T23 t138 x25_2).f0)) := (blk_cell BK143.out 0).trans rfl
                          have hcz30_1 : wc.cell? ⟨gb143, 1, none⟩ = some (.int .i64 ((rd_T23 t138 x25_2).f1)) := (blk_cell BK143.out 1).trans rfl
                          have hcz30_2 : wc.cell? ⟨gb143, 2, none⟩ = some (.int .i64 ((rd_T23 t138 x25_2).f2)) := (blk_cell BK143.out 2).trans rfl
                          have hcz30_3 : wc.cell? ⟨gb143, 3, none⟩ = some (.int .i64 ((rd_T23 t138 x25_2).f3)) := (blk_cell BK143.out 3).trans rfl
                          have hfz30_0 := blk_frozen BK143.out 0
                          have hfz30_1 := blk_frozen BK143.out 1
                          have hfz30_2 := blk_frozen BK143.out 2
                          have hfz30_3 := blk_frozen BK143.out 3
                          have hcz31_0 : wc.cell? ⟨gb136, 0, none⟩ = some (.int .i64 a0_0) := (blk_cell BK136.out 0).trans rfl
                          have hcz31_1 : wc.cell? ⟨gb136, 1, none⟩ = some (.int .i64 a0_1) := (blk_cell BK136.out 1).trans rfl
                          have hcz31_2 : wc.cell? ⟨gb136, 2, none⟩ = some (.int .i64 a0_2) := (blk_cell BK136.out 2).trans rfl
                          have hcz31_3 : wc.cell? ⟨gb136, 3, none⟩ = some (.int .i64 a0_3) := (blk_cell BK136.out 3).trans rfl
                          have hfz31_0 := blk_frozen BK136.out 0
                          have hfz31_1 := blk_frozen BK136.out 1
                          have hfz31_2 := blk_frozen BK136.out 2
                          have hfz31_3 := blk_frozen BK136.out 3
                          go_wp2
                          go_ret
                          exact ⟨by first | rfl | (simp [errW_none, errW_some] <;> rfl) | (simp [*, errW_none, errW_some] <;> rfl), by repeat (first | (with_reducible first | exact HB.out | apply below_alloc | apply pw_below_drewN | apply below_drew1 | refine below_set ?_ GE136.out | refine below_set ?_ GE143.out) | exact HB.out)⟩
                        · rw [if_neg c28] at H
                          have c28b0 : (!(((rd_T23 t138 x25_2).f0) == a0_0) || (!(((rd_T23 t138 x25_2).f1) == a0_1) || (!(((rd_T23 t138 x25_2).f2) == a0_2) || (!(((rd_T23 t138 x25_2).f3) == a0_3))))) = false := by simpa using c28
                          clear c28
                          have H' := Aside0.mk H
                          clear H
                          have hnb32 := NB143_136.out
                          have hnc32 := NB136_143.out
                          have hcz33_0 : wc.cell? ⟨gb143, 0, none⟩ = some (.int .i64 ((rd_T23 t138 x25_2).f0)) := (blk_cell BK143.out 0).trans rfl
                          have hcz33_1 : wc.cell? ⟨gb143, 1, none⟩ = some (.int .i64 ((rd_T23 t138 x25_2).f1)) := (blk_cell BK143.out 1).trans rfl
                          have hcz33_2 : wc.cell? ⟨gb143, 2, none⟩ = some (.int .i64 ((rd_T23 t138 x25_2).f2)) := (blk_cell BK143.out 2).trans rfl
                          have hcz33_3 : wc.cell? ⟨gb143, 3, none⟩ = some (.int .i64 ((rd_T23 t138 x25_2).f3)) := (blk_cell BK143.out 3).trans rfl
                          have hfz33_0 := blk_frozen BK143.out 0
                          have hfz33_1 := blk_frozen BK143.out 1
                          have hfz33_2 := blk_frozen BK143.out 2
                          have hfz33_3 := blk_frozen BK143.out 3
                          have hcz34_0 : wc.cell? ⟨gb136, 0, none⟩ = some (.int .i64 a0_0) := (blk_cell BK136.out 0).trans rfl
                          have hcz34_1 : wc.cell? ⟨gb136, 1, none⟩ = some (.int .i64 a0_1) := (blk_cell BK136.out 1).trans rfl
                          have hcz34_2 : wc.cell? ⟨gb136, 2, none⟩ = some (.int .i64 a0_2) := (blk_cell BK136.out 2).trans rfl
                          have hcz34_3 : wc.cell? ⟨gb136, 3, none⟩ = some (.int .i64 a0_3) := (blk_cell BK136.out 3).trans rfl
                          have hfz34_0 := blk_frozen BK136.out 0
                          have hfz34_1 := blk_frozen BK136.out 1
                          have hfz34_2 := blk_frozen BK136.out 2
                          have hfz34_3 := blk_frozen BK136.out 3
                          go_wp2
                          go_roundg kj18
                          case measure => have := HJ2.out; have := HK2.out; have := HJ18.out; omega
                          case rel => exact ⟨(wrap64 (x25_2 + 1)), (by first | rfl | (simp; done) | (simp [*]; done)), H', ⟨by have := HJ2.out; have := HK2.out; have := HJ18.out; omega⟩, ⟨by (with_reducible repeat (first | apply Kd.R_alloc | apply Kd.R_drewN | apply Kd.R_drew)); exact Kd.R_mono HO_23.out (fun _ hk => hk.1)⟩, ⟨by (with_reducible repeat (first | refine blk_drewN ?_ _ | refine blk_drew ?_ | refine blk_alloc ?_ _)); exact BK136.out⟩, ⟨by repeat (first | (with_reducible first | exact HB.out | apply below_alloc | apply pw_below_drewN | apply below_drew1 | refine below_set ?_ GE136.out | refine below_set ?_ GE143.out) | exact HB.out)⟩⟩
                · rw [if_neg c18] at H
                  exact absurd H (by simp)
              · rw [if_neg c17] at H
                exact absurd H (by simp)
            · rw [if_neg c16] at H
              have c16b0 : decide (x25_2 < (t138.length : Int)) = false := decide_eq_false c16
              clear c16
              replace H := Option.bind_eq_some_iff.mp H
              obtain ⟨t141, A350, H⟩ := H
              replace H : (some t141) = some r := H
              have A35 := Aside0.mk A350
              clear A350
              obtain rfl := Option.some.inj H
              go_wp2_with (first | ((with_reducible refine gate_callee (f := 8) rfl ?_); refine goesL_ (some 49) rfl rfl Try.func8 (by kernel_rfl) rfl #[] rfl (by (try simp only [List.map_toArray, List.map_cons, List.map_nil]); first | done | rfl | (simp only [List.length_drop, List.length_take]; rfl)) ?_; (with_reducible refine (coupletlaw17_awake.calls k2  t141 _ A35.out).mono ?_); rintro e w36 ⟨rfl, hb⟩; refine ⟨_, rfl, ?_⟩; have n0_ := Aside0.mk (Kd.R_below (by (with_reducible repeat (first | apply Kd.R_alloc | apply Kd.R_drewN | apply Kd.R_drew)); exact HO_23.out) hb); have n1_ := Aside0.mk (blk_below (g := gb136) (o := .cells #[.int .i64 a0_0, .int .i64 a0_1, .int .i64 a0_2, .int .i64 a0_3] 23 (0, 0)) (by (with_reducible repeat (first | refine blk_drewN ?_ _ | refine blk_drew ?_ | refine blk_alloc ?_ _)); exact BK136.out) hb); have n2_ := Aside0.mk (below_step (by repeat (first | (with_reducible first | exact HB.out | apply below_alloc | apply pw_below_drewN | apply below_drew1 | refine below_set ?_ GE136.out) | exact HB.out)) hb); clear HO_23; clear BK136; clear HB; have HO_23 := n0_; have BK136 := n1_; have HB := n2_; clear n0_ n1_ n2_; (try clear hb); (try clear hb2); (try clear hk); (try clear hi)))
              go_ret
              exact ⟨by first | rfl | (simp [errW_none, errW_some] <;> rfl) | (simp [*, errW_none, errW_some] <;> rfl), by repeat (first | (with_reducible first | exact HB.out | apply below_alloc | apply pw_below_drewN | apply below_drew1 | refine below_set ?_ GE136.out) | exact HB.out)⟩

end Go.Proofs.Ytlbngnilfenaaaa.PWatchSafe
