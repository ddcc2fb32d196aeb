/- What WatchPersists does, for every slice of bools and every lane: it returns true, and nothing that was there has turned. No condition. -/
import Derived.Test.YtlbngnilfenaaaaStepWatchPersists
namespace Go.Proofs.Ytlbngnilfenaaaa.WalkPersists
open Go.RowKit Go.Proofs.Ytlbngnilfenaaaa.PWatchPersists Go.Proofs.Ytlbngnilfenaaaa.StepWatchPersists Go.Proofs.YtlbngnilfenaaaaW.PrintWords Go.Proofs.YtlbngnilfenaaaaW.PrintLast Go.Proofs.YtlbngnilfenaaaaW.PrintMore
set_option linter.unusedVariables false
set_option linter.unusedSimpArgs false

theorem next_calm (row s : Int) (h0 : 0 ≤ row) (h2 : row ≤ 2) (s0 : 0 ≤ s) (s1 : s ≤ 99) (ln : Int) : watch_Next.f 2 1 0 row s 2 ln = some (1, 0, 0, s + 1) := by
  rw [next_ge (by omega)]
  unfold stepW
  rw [show R 1 0 row s = true from decide_eq_true (by omega), if_neg (by simp), if_neg (by omega), if_neg (by omega), if_neg (by omega), if_neg (by omega), if_neg (by omega), if_neg (by omega), if_pos rfl]
theorem next_trip (row s : Int) (h0 : 0 ≤ row) (h2 : row ≤ 1) (s0 : 0 ≤ s) (s1 : s ≤ 99) (ln : Int) : watch_Next.f 2 1 0 row s 3 ln = some (1, 0, row + 1, s + 1) := by
  rw [next_ge (by omega)]
  unfold stepW
  rw [show R 1 0 row s = true from decide_eq_true (by omega), if_neg (by simp), if_neg (by omega), if_neg (by omega), if_neg (by omega), if_neg (by omega), if_neg (by omega), if_pos (by omega), if_pos (by omega)]
theorem next_single (s : Int) (s0 : 0 ≤ s) (s1 : s ≤ 99) (ln : Int) (hl : ln = 0 ∨ ln = 1) : watch_Next.f 2 1 0 2 s 3 ln = some (2, 1 - ln, 3, s + 1) := by
  rw [next_ge (by omega)]
  unfold stepW
  rw [show R 1 0 2 s = true from decide_eq_true (by omega), if_neg (by simp), if_neg (by omega), if_neg (by omega), if_neg (by omega), if_neg (by omega), if_neg (by omega), if_pos (by omega), if_neg (by omega), if_pos hl]; rfl
theorem next_safe (s : Int) (s0 : 0 ≤ s) (s1 : s ≤ 99) (ln : Int) (hl : ¬ (ln = 0 ∨ ln = 1)) : watch_Next.f 2 1 0 2 s 3 ln = some (3, 0, 3, s + 1) := by
  rw [next_ge (by omega)]
  unfold stepW
  rw [show R 1 0 2 s = true from decide_eq_true (by omega), if_neg (by simp), if_neg (by omega), if_neg (by omega), if_neg (by omega), if_neg (by omega), if_neg (by omega), if_pos (by omega), if_neg (by omega), if_neg hl]; rfl

set_option maxHeartbeats 8000000 in
set_option maxRecDepth 100000 in
theorem persists_calls (A0 : Option Addr) (c0 : Nat) (l0 : List Bool) (a1 : Int) (w : World) (hr0 : Kd.C Kd.bool w A0 l0.length l0) (hc0 : l0.length ≤ c0) :
    Calls Try.prog 4 #[.slice A0 l0.length c0, .int .i64 a1] w fun e w' => e = .returned (.bool true) ∧ Below w.heap.size w w' := by
  have hu23 := Try.underlying23
  have hu29 := Try.underlying29
  have HR0 := Aside0.mk hr0
  have HC0 := Aside0.mk hc0
  clear hr0 hc0
  have HB := Aside0.mk (Below.refl w.heap.size w)
  have AW := Aside0.mk awake_eq
  by_cases c3 : (l0.length : Int) > 100
  · have c3b0 : decide (100 < (l0.length : Int)) = true := decide_eq_true c3
    have c3b1 : decide (100 < l0.length) = true := decide_eq_true (by omega)
    clear c3
    go_enter Try.func4, Try.ntmps4
    go_wp2_with ((with_reducible refine gate_callee (f := 8) rfl ?_); refine goesL_ (some 14) rfl rfl Try.func8 (by kernel_rfl) rfl #[] rfl (by (try simp only [List.map_toArray, List.map_cons, List.map_nil]); first | done | rfl) ?_; (with_reducible refine (coupletlaw17_awake.calls 9 true _ AW.out).mono ?_); rintro e w5 ⟨rfl, hb⟩; refine ⟨_, rfl, ?_⟩; have n0_ := Aside0.mk (below_step (by repeat (first | (with_reducible first | exact HB.out | apply below_alloc | apply pw_below_drewN | apply below_drew1) | exact HB.out)) hb); clear HB; have HB := n0_; clear n0_; (try clear hb))
    go_ret
    exact ⟨by first | rfl | (simp; done), (by repeat (first | (with_reducible first | exact HB.out | apply below_alloc | apply pw_below_drewN | apply below_drew1) | exact HB.out))⟩
  · have c3b0 : decide (100 < (l0.length : Int)) = false := decide_eq_false c3
    have c3b1 : decide (100 < l0.length) = false := decide_eq_false (by omega)
    have hl100 : (l0.length : Int) ≤ 100 := by omega
    clear c3
    have NX := Aside0.mk (show watch_Next.f 2 0 0 0 0 1 0 = some (1, 0, 0, 0) by decide +kernel)
    go_enter Try.func4, Try.ntmps4
    go_wp2_with (first | ((with_reducible refine gate_callee (f := 10) rfl ?_); refine goesL_ (some 17) rfl rfl Try.func10 (by kernel_rfl) rfl #[.agg #[.int .i64 0, .int .i64 0, .int .i64 0, .int .i64 0], .agg #[.int .i64 1, .int .i64 0]] rfl (by (try simp only [List.map_toArray, List.map_cons, List.map_nil]); first | done | rfl) ?_; (with_reducible refine (watch_Next.calls 2 (0) (0) (0) (0) (1) (0) (1) (0) (0) (0) _ NX.out).mono ?_); rintro e w7 ⟨rfl, hb⟩; refine ⟨_, rfl, ?_⟩; have n1_ := Aside0.mk (below_step (by repeat (first | (with_reducible first | exact HB.out | apply below_alloc | apply pw_below_drewN | apply below_drew1) | exact HB.out)) hb); clear HB; have HB := n1_; clear n1_; (try clear hb)) | ((with_reducible refine gate_dst (N := 5) rfl ?_); (try (refine gate_guard (by rfl) ?_; dsimp only)); refine box_event ?hg (N := 5) ?hd (cs := #[.int .i64 0, .int .i64 0, .int .i64 0, .int .i64 0]) (t := 23) ?hr ?_; (case hd => rfl); (case hg => rfl); (case hr => first | (go_simp; done) | (go_simp; rfl)); intro gb hg w8 hbox hb; have n0_ := Aside0.mk (below_step (by repeat (first | (with_reducible first | exact HB.out | apply below_alloc | apply pw_below_drewN | apply below_drew1) | exact HB.out)) hb); have n1_ := Aside0.mk (hbox); have n3_ := Aside0.mk ((by rw [hg]; exact (below_size (by repeat (first | (with_reducible first | exact HB.out | apply below_alloc | apply pw_below_drewN | apply below_drew1) | exact HB.out)))) : w.heap.size ≤ gb); clear HB; have HB := n0_; have BK := n1_; have GE := n3_; clear n0_ n1_ n3_; clear hb hbox hg; have hcz0 : w8.cell? ⟨gb, 0, none⟩ = some (.int .i64 0) := (blk_cell BK.out 0).trans rfl; have hcz1 : w8.cell? ⟨gb, 1, none⟩ = some (.int .i64 0) := (blk_cell BK.out 1).trans rfl; have hcz2 : w8.cell? ⟨gb, 2, none⟩ = some (.int .i64 0) := (blk_cell BK.out 2).trans rfl; have hcz3 : w8.cell? ⟨gb, 3, none⟩ = some (.int .i64 0) := (blk_cell BK.out 3).trans rfl; have hfz0 := blk_frozen BK.out 0; have hfz1 := blk_frozen BK.out 1; have hfz2 := blk_frozen BK.out 2; have hfz3 := blk_frozen BK.out 3))
    clear NX
    go_loopg [6, 20] l0.length (fun d v6 v20 w' => ∃ (row : Int) (i : Int), v6 = .int .i64 row ∧ v20 = .int .i64 i ∧ Aside0 (0 ≤ row ∧ row ≤ 2 ∧ 0 ≤ i ∧ i + d = l0.length) ∧ Aside0 (w'.heap[gb]? = some (.cells #[.int .i64 1, .int .i64 0, .int .i64 row, .int .i64 i] 23 (0, 0))) ∧ Aside0 (Below w.heap.size w w'))
    case atStart => exact ⟨0, 0, rfl, rfl, ⟨by omega⟩, ⟨by (with_reducible repeat (first | refine blk_drewN ?_ _ | refine blk_drew ?_ | refine blk_alloc ?_ _)); refine blk_put (cs := #[.int .i64 1, .int .i64 0, .int .i64 0, .int .i64 0]) ?_ 3 _ rfl; (with_reducible repeat (first | refine blk_drewN ?_ _ | refine blk_drew ?_ | refine blk_alloc ?_ _)); refine blk_put (cs := #[.int .i64 1, .int .i64 0, .int .i64 0, .int .i64 0]) ?_ 2 _ rfl; (with_reducible repeat (first | refine blk_drewN ?_ _ | refine blk_drew ?_ | refine blk_alloc ?_ _)); refine blk_put (cs := #[.int .i64 1, .int .i64 0, .int .i64 0, .int .i64 0]) ?_ 1 _ rfl; (with_reducible repeat (first | refine blk_drewN ?_ _ | refine blk_drew ?_ | refine blk_alloc ?_ _)); refine blk_put (cs := #[.int .i64 0, .int .i64 0, .int .i64 0, .int .i64 0]) ?_ 0 _ rfl; (with_reducible repeat (first | refine blk_drewN ?_ _ | refine blk_drew ?_ | refine blk_alloc ?_ _)); exact BK.out⟩, ⟨by exact (by repeat (first | (with_reducible first | exact HB.out | apply below_alloc | apply pw_below_drewN | apply below_drew1 | refine below_set ?_ GE.out) | exact HB.out))⟩⟩
    case round =>
      try clear hcz0
      try clear hcz1
      try clear hcz2
      try clear hcz3
      try clear hfz0
      try clear hfz1
      try clear hfz2
      try clear hfz3
      obtain ⟨row, i, rfl, rfl, HA, BK, HB⟩ := hrel
      obtain ⟨r0, r2, i0, hid⟩ := HA.out
      clear HA
      have HID := Aside0.mk hid
      clear hid
      by_cases hlt : i < (l0.length : Int)
      · obtain ⟨ad, ead, hx⟩ := Kd.at_bool HR0.out i i0 hlt
        cases ead
        replace hx := (HB.out.cell (World.block_lt_of_cell? w _ hx)).trans hx
        obtain ⟨b, hb0⟩ : ∃ b, b = rdOf false l0 i := ⟨_, rfl⟩
        rw [← hb0] at hx
        clear hb0
        have hcz0 : wr.cell? ⟨gb, 0, none⟩ = some (.int .i64 1) := (blk_cell BK.out 0).trans rfl
        have hcz1 : wr.cell? ⟨gb, 1, none⟩ = some (.int .i64 0) := (blk_cell BK.out 1).trans rfl
        have hcz2 : wr.cell? ⟨gb, 2, none⟩ = some (.int .i64 row) := (blk_cell BK.out 2).trans rfl
        have hcz3 : wr.cell? ⟨gb, 3, none⟩ = some (.int .i64 i) := (blk_cell BK.out 3).trans rfl
        have hfz0 := blk_frozen BK.out 0
        have hfz1 := blk_frozen BK.out 1
        have hfz2 := blk_frozen BK.out 2
        have hfz3 := blk_frozen BK.out 3
        cases b with
        | false =>
          have NX := Aside0.mk (next_calm row i r0 r2 i0 (by omega) a1)
          go_wp2_with ((with_reducible refine gate_callee (f := 10) rfl ?_); refine goesL_ (some 29) rfl rfl Try.func10 (by kernel_rfl) rfl #[.agg #[.int .i64 1, .int .i64 0, .int .i64 row, .int .i64 i], .agg #[.int .i64 2, .int .i64 a1]] rfl (by (try simp only [List.map_toArray, List.map_cons, List.map_nil]); first | done | rfl) ?_; (with_reducible refine (watch_Next.calls 2 (1) (0) (row) (i) (2) (a1) (1) (0) (0) (i + 1) _ NX.out).mono ?_); rintro e w7 ⟨rfl, hb⟩; refine ⟨_, rfl, ?_⟩; have n0_ := Aside0.mk (blk_below (g := gb) (o := .cells #[.int .i64 1, .int .i64 0, .int .i64 row, .int .i64 i] 23 (0, 0)) (by (with_reducible repeat (first | refine blk_drewN ?_ _ | refine blk_drew ?_ | refine blk_alloc ?_ _)); exact BK.out) hb); have n1_ := Aside0.mk (below_step (by repeat (first | (with_reducible first | exact HB.out | apply below_alloc | apply pw_below_drewN | apply below_drew1 | refine below_set ?_ GE.out) | exact HB.out)) hb); clear HB BK; have HB := n1_; have BK := n0_; clear n1_ n0_; (try clear hb); have hcz0 : w7.cell? ⟨gb, 0, none⟩ = some (.int .i64 1) := (blk_cell BK.out 0).trans rfl; have hcz1 : w7.cell? ⟨gb, 1, none⟩ = some (.int .i64 0) := (blk_cell BK.out 1).trans rfl; have hcz2 : w7.cell? ⟨gb, 2, none⟩ = some (.int .i64 row) := (blk_cell BK.out 2).trans rfl; have hcz3 : w7.cell? ⟨gb, 3, none⟩ = some (.int .i64 i) := (blk_cell BK.out 3).trans rfl; have hfz0 := blk_frozen BK.out 0; have hfz1 := blk_frozen BK.out 1; have hfz2 := blk_frozen BK.out 2; have hfz3 := blk_frozen BK.out 3)
          go_roundg (gk - 1)
          case measure => have := HID.out; omega
          case rel => exact ⟨0, i + 1, (by first | rfl | (simp; done)), (by first | rfl | (simp; done)), ⟨by have := HID.out; omega⟩, ⟨by (with_reducible repeat (first | refine blk_drewN ?_ _ | refine blk_drew ?_ | refine blk_alloc ?_ _)); refine blk_put (cs := #[.int .i64 1, .int .i64 0, .int .i64 0, .int .i64 i]) ?_ 3 _ rfl; (with_reducible repeat (first | refine blk_drewN ?_ _ | refine blk_drew ?_ | refine blk_alloc ?_ _)); refine blk_put (cs := #[.int .i64 1, .int .i64 0, .int .i64 row, .int .i64 i]) ?_ 2 _ rfl; (with_reducible repeat (first | refine blk_drewN ?_ _ | refine blk_drew ?_ | refine blk_alloc ?_ _)); refine blk_put (cs := #[.int .i64 1, .int .i64 0, .int .i64 row, .int .i64 i]) ?_ 1 _ rfl; (with_reducible repeat (first | refine blk_drewN ?_ _ | refine blk_drew ?_ | refine blk_alloc ?_ _)); refine blk_put (cs := #[.int .i64 1, .int .i64 0, .int .i64 row, .int .i64 i]) ?_ 0 _ rfl; (with_reducible repeat (first | refine blk_drewN ?_ _ | refine blk_drew ?_ | refine blk_alloc ?_ _)); exact BK.out⟩, ⟨by exact (by repeat (first | (with_reducible first | exact HB.out | apply below_alloc | apply pw_below_drewN | apply below_drew1 | refine below_set ?_ GE.out) | exact HB.out))⟩⟩
        | true =>
          by_cases hrow : row ≤ 1
          · have e3 : (row + 1 == 3) = false := by rw [beq_eq_false_iff_ne]; omega
            have NX := Aside0.mk (next_trip row i r0 hrow i0 (by omega) a1)
            go_wp2_with ((with_reducible refine gate_callee (f := 10) rfl ?_); refine goesL_ (some 29) rfl rfl Try.func10 (by kernel_rfl) rfl #[.agg #[.int .i64 1, .int .i64 0, .int .i64 row, .int .i64 i], .agg #[.int .i64 3, .int .i64 a1]] rfl (by (try simp only [List.map_toArray, List.map_cons, List.map_nil]); first | done | rfl) ?_; (with_reducible refine (watch_Next.calls 2 (1) (0) (row) (i) (3) (a1) (1) (0) (row + 1) (i + 1) _ NX.out).mono ?_); rintro e w7 ⟨rfl, hb⟩; refine ⟨_, rfl, ?_⟩; have n0_ := Aside0.mk (blk_below (g := gb) (o := .cells #[.int .i64 1, .int .i64 0, .int .i64 row, .int .i64 i] 23 (0, 0)) (by (with_reducible repeat (first | refine blk_drewN ?_ _ | refine blk_drew ?_ | refine blk_alloc ?_ _)); exact BK.out) hb); have n1_ := Aside0.mk (below_step (by repeat (first | (with_reducible first | exact HB.out | apply below_alloc | apply pw_below_drewN | apply below_drew1 | refine below_set ?_ GE.out) | exact HB.out)) hb); clear HB BK; have HB := n1_; have BK := n0_; clear n1_ n0_; (try clear hb); have hcz0 : w7.cell? ⟨gb, 0, none⟩ = some (.int .i64 1) := (blk_cell BK.out 0).trans rfl; have hcz1 : w7.cell? ⟨gb, 1, none⟩ = some (.int .i64 0) := (blk_cell BK.out 1).trans rfl; have hcz2 : w7.cell? ⟨gb, 2, none⟩ = some (.int .i64 row) := (blk_cell BK.out 2).trans rfl; have hcz3 : w7.cell? ⟨gb, 3, none⟩ = some (.int .i64 i) := (blk_cell BK.out 3).trans rfl; have hfz0 := blk_frozen BK.out 0; have hfz1 := blk_frozen BK.out 1; have hfz2 := blk_frozen BK.out 2; have hfz3 := blk_frozen BK.out 3)
            go_roundg (gk - 1)
            case measure => have := HID.out; omega
            case rel => exact ⟨row + 1, i + 1, (by first | rfl | (simp; done)), (by first | rfl | (simp; done)), ⟨by have := HID.out; omega⟩, ⟨by (with_reducible repeat (first | refine blk_drewN ?_ _ | refine blk_drew ?_ | refine blk_alloc ?_ _)); refine blk_put (cs := #[.int .i64 1, .int .i64 0, .int .i64 (row + 1), .int .i64 i]) ?_ 3 _ rfl; (with_reducible repeat (first | refine blk_drewN ?_ _ | refine blk_drew ?_ | refine blk_alloc ?_ _)); refine blk_put (cs := #[.int .i64 1, .int .i64 0, .int .i64 row, .int .i64 i]) ?_ 2 _ rfl; (with_reducible repeat (first | refine blk_drewN ?_ _ | refine blk_drew ?_ | refine blk_alloc ?_ _)); refine blk_put (cs := #[.int .i64 1, .int .i64 0, .int .i64 row, .int .i64 i]) ?_ 1 _ rfl; (with_reducible repeat (first | refine blk_drewN ?_ _ | refine blk_drew ?_ | refine blk_alloc ?_ _)); refine blk_put (cs := #[.int .i64 1, .int .i64 0, .int .i64 row, .int .i64 i]) ?_ 0 _ rfl; (with_reducible repeat (first | refine blk_drewN ?_ _ | refine blk_drew ?_ | refine blk_alloc ?_ _)); exact BK.out⟩, ⟨by exact (by repeat (first | (with_reducible first | exact HB.out | apply below_alloc | apply pw_below_drewN | apply below_drew1 | refine below_set ?_ GE.out) | exact HB.out))⟩⟩
          · obtain rfl : row = 2 := by omega
            clear hrow r0 r2
            by_cases hl : a1 = 0 ∨ a1 = 1
            · rcases hl with rfl | rfl
              · have NX := Aside0.mk (show watch_Next.f 2 1 0 2 i 3 0 = some (2, 1, 3, i + 1) from next_single i i0 (by omega) 0 (by omega))
                go_wp2_with (first | ((with_reducible refine gate_callee (f := 10) rfl ?_); refine goesL_ (some 29) rfl rfl Try.func10 (by kernel_rfl) rfl #[.agg #[.int .i64 1, .int .i64 0, .int .i64 2, .int .i64 i], .agg #[.int .i64 3, .int .i64 0]] rfl (by (try simp only [List.map_toArray, List.map_cons, List.map_nil]); first | done | rfl) ?_; (with_reducible refine (watch_Next.calls 2 (1) (0) (2) (i) (3) (0) (2) (1) (3) (i + 1) _ NX.out).mono ?_); rintro e w7 ⟨rfl, hb⟩; refine ⟨_, rfl, ?_⟩; have n0_ := Aside0.mk (blk_below (g := gb) (o := .cells #[.int .i64 1, .int .i64 0, .int .i64 2, .int .i64 i] 23 (0, 0)) (by (with_reducible repeat (first | refine blk_drewN ?_ _ | refine blk_drew ?_ | refine blk_alloc ?_ _)); exact BK.out) hb); have n1_ := Aside0.mk (below_step (by repeat (first | (with_reducible first | exact HB.out | apply below_alloc | apply pw_below_drewN | apply below_drew1 | refine below_set ?_ GE.out) | exact HB.out)) hb); clear HB BK; have HB := n1_; have BK := n0_; clear n1_ n0_; (try clear hb); have hcz0 : w7.cell? ⟨gb, 0, none⟩ = some (.int .i64 1) := (blk_cell BK.out 0).trans rfl; have hcz1 : w7.cell? ⟨gb, 1, none⟩ = some (.int .i64 0) := (blk_cell BK.out 1).trans rfl; have hcz2 : w7.cell? ⟨gb, 2, none⟩ = some (.int .i64 2) := (blk_cell BK.out 2).trans rfl; have hcz3 : w7.cell? ⟨gb, 3, none⟩ = some (.int .i64 i) := (blk_cell BK.out 3).trans rfl; have hfz0 := blk_frozen BK.out 0; have hfz1 := blk_frozen BK.out 1; have hfz2 := blk_frozen BK.out 2; have hfz3 := blk_frozen BK.out 3) | (go_at_call 8; (with_reducible refine (coupletlaw17_awake.calls 9 true _ AW.out).mono ?_); rintro e w5 ⟨rfl, hb⟩; have n0_ := Aside0.mk (below_step (by repeat (first | (with_reducible first | exact HB.out | apply below_alloc | apply pw_below_drewN | apply below_drew1 | refine below_set ?_ GE.out) | exact HB.out)) hb); clear HB; have HB := n0_; clear n0_; (try clear hb)))
                go_ret
                exact ⟨by first | rfl | (simp; done), (by repeat (first | (with_reducible first | exact HB.out | apply below_alloc | apply pw_below_drewN | apply below_drew1 | refine below_set ?_ GE.out) | exact HB.out))⟩
              · have NX := Aside0.mk (show watch_Next.f 2 1 0 2 i 3 1 = some (2, 0, 3, i + 1) from next_single i i0 (by omega) 1 (by omega))
                go_wp2_with (first | ((with_reducible refine gate_callee (f := 10) rfl ?_); refine goesL_ (some 29) rfl rfl Try.func10 (by kernel_rfl) rfl #[.agg #[.int .i64 1, .int .i64 0, .int .i64 2, .int .i64 i], .agg #[.int .i64 3, .int .i64 1]] rfl (by (try simp only [List.map_toArray, List.map_cons, List.map_nil]); first | done | rfl) ?_; (with_reducible refine (watch_Next.calls 2 (1) (0) (2) (i) (3) (1) (2) (0) (3) (i + 1) _ NX.out).mono ?_); rintro e w7 ⟨rfl, hb⟩; refine ⟨_, rfl, ?_⟩; have n0_ := Aside0.mk (blk_below (g := gb) (o := .cells #[.int .i64 1, .int .i64 0, .int .i64 2, .int .i64 i] 23 (0, 0)) (by (with_reducible repeat (first | refine blk_drewN ?_ _ | refine blk_drew ?_ | refine blk_alloc ?_ _)); exact BK.out) hb); have n1_ := Aside0.mk (below_step (by repeat (first | (with_reducible first | exact HB.out | apply below_alloc | apply pw_below_drewN | apply below_drew1 | refine below_set ?_ GE.out) | exact HB.out)) hb); clear HB BK; have HB := n1_; have BK := n0_; clear n1_ n0_; (try clear hb); have hcz0 : w7.cell? ⟨gb, 0, none⟩ = some (.int .i64 1) := (blk_cell BK.out 0).trans rfl; have hcz1 : w7.cell? ⟨gb, 1, none⟩ = some (.int .i64 0) := (blk_cell BK.out 1).trans rfl; have hcz2 : w7.cell? ⟨gb, 2, none⟩ = some (.int .i64 2) := (blk_cell BK.out 2).trans rfl; have hcz3 : w7.cell? ⟨gb, 3, none⟩ = some (.int .i64 i) := (blk_cell BK.out 3).trans rfl; have hfz0 := blk_frozen BK.out 0; have hfz1 := blk_frozen BK.out 1; have hfz2 := blk_frozen BK.out 2; have hfz3 := blk_frozen BK.out 3) | (go_at_call 8; (with_reducible refine (coupletlaw17_awake.calls 9 true _ AW.out).mono ?_); rintro e w5 ⟨rfl, hb⟩; have n0_ := Aside0.mk (below_step (by repeat (first | (with_reducible first | exact HB.out | apply below_alloc | apply pw_below_drewN | apply below_drew1 | refine below_set ?_ GE.out) | exact HB.out)) hb); clear HB; have HB := n0_; clear n0_; (try clear hb)))
                go_ret
                exact ⟨by first | rfl | (simp; done), (by repeat (first | (with_reducible first | exact HB.out | apply below_alloc | apply pw_below_drewN | apply below_drew1 | refine below_set ?_ GE.out) | exact HB.out))⟩
            · have NX := Aside0.mk (next_safe i i0 (by omega) a1 hl)
              have z0 : (a1 == 0) = false := by rw [beq_eq_false_iff_ne]; omega
              have z1 : (a1 == 1) = false := by rw [beq_eq_false_iff_ne]; omega
              clear hl
              go_wp2_with (first | ((with_reducible refine gate_callee (f := 10) rfl ?_); refine goesL_ (some 29) rfl rfl Try.func10 (by kernel_rfl) rfl #[.agg #[.int .i64 1, .int .i64 0, .int .i64 2, .int .i64 i], .agg #[.int .i64 3, .int .i64 a1]] rfl (by (try simp only [List.map_toArray, List.map_cons, List.map_nil]); first | done | rfl) ?_; (with_reducible refine (watch_Next.calls 2 (1) (0) (2) (i) (3) (a1) (3) (0) (3) (i + 1) _ NX.out).mono ?_); rintro e w7 ⟨rfl, hb⟩; refine ⟨_, rfl, ?_⟩; have n0_ := Aside0.mk (blk_below (g := gb) (o := .cells #[.int .i64 1, .int .i64 0, .int .i64 2, .int .i64 i] 23 (0, 0)) (by (with_reducible repeat (first | refine blk_drewN ?_ _ | refine blk_drew ?_ | refine blk_alloc ?_ _)); exact BK.out) hb); have n1_ := Aside0.mk (below_step (by repeat (first | (with_reducible first | exact HB.out | apply below_alloc | apply pw_below_drewN | apply below_drew1 | refine below_set ?_ GE.out) | exact HB.out)) hb); clear HB BK; have HB := n1_; have BK := n0_; clear n1_ n0_; (try clear hb); have hcz0 : w7.cell? ⟨gb, 0, none⟩ = some (.int .i64 1) := (blk_cell BK.out 0).trans rfl; have hcz1 : w7.cell? ⟨gb, 1, none⟩ = some (.int .i64 0) := (blk_cell BK.out 1).trans rfl; have hcz2 : w7.cell? ⟨gb, 2, none⟩ = some (.int .i64 2) := (blk_cell BK.out 2).trans rfl; have hcz3 : w7.cell? ⟨gb, 3, none⟩ = some (.int .i64 i) := (blk_cell BK.out 3).trans rfl; have hfz0 := blk_frozen BK.out 0; have hfz1 := blk_frozen BK.out 1; have hfz2 := blk_frozen BK.out 2; have hfz3 := blk_frozen BK.out 3) | (go_at_call 8; (with_reducible refine (coupletlaw17_awake.calls 9 true _ AW.out).mono ?_); rintro e w5 ⟨rfl, hb⟩; have n0_ := Aside0.mk (below_step (by repeat (first | (with_reducible first | exact HB.out | apply below_alloc | apply pw_below_drewN | apply below_drew1 | refine below_set ?_ GE.out) | exact HB.out)) hb); clear HB; have HB := n0_; clear n0_; (try clear hb)))
              go_ret
              exact ⟨by first | rfl | (simp; done), (by repeat (first | (with_reducible first | exact HB.out | apply below_alloc | apply pw_below_drewN | apply below_drew1 | refine below_set ?_ GE.out) | exact HB.out))⟩
      · have hge : i = (l0.length : Int) := by have := HID.out; omega
        have hcz0 : wr.cell? ⟨gb, 0, none⟩ = some (.int .i64 1) := (blk_cell BK.out 0).trans rfl
        have hcz1 : wr.cell? ⟨gb, 1, none⟩ = some (.int .i64 0) := (blk_cell BK.out 1).trans rfl
        have hcz2 : wr.cell? ⟨gb, 2, none⟩ = some (.int .i64 row) := (blk_cell BK.out 2).trans rfl
        have hcz3 : wr.cell? ⟨gb, 3, none⟩ = some (.int .i64 i) := (blk_cell BK.out 3).trans rfl
        have hfz0 := blk_frozen BK.out 0
        have hfz1 := blk_frozen BK.out 1
        have hfz2 := blk_frozen BK.out 2
        have hfz3 := blk_frozen BK.out 3
        have hc : decide (i < (l0.length : Int)) = false := decide_eq_false hlt
        have he : (i == (l0.length : Int)) = true := beq_iff_eq.2 hge
        clear hge hlt
        go_wp2_with (go_at_call 8; (with_reducible refine (coupletlaw17_awake.calls 9 true _ AW.out).mono ?_); rintro e w5 ⟨rfl, hb⟩; have n0_ := Aside0.mk (below_step (by repeat (first | (with_reducible first | exact HB.out | apply below_alloc | apply pw_below_drewN | apply below_drew1 | refine below_set ?_ GE.out) | exact HB.out)) hb); clear HB; have HB := n0_; clear n0_; (try clear hb))
        go_ret
        exact ⟨by first | rfl | (simp; done), (by repeat (first | (with_reducible first | exact HB.out | apply below_alloc | apply pw_below_drewN | apply below_drew1 | refine below_set ?_ GE.out) | exact HB.out))⟩
end Go.Proofs.Ytlbngnilfenaaaa.WalkPersists
