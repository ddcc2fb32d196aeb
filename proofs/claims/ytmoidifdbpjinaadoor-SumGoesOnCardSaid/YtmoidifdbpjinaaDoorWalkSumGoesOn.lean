/- What SumGoesOn does: it returns true; nothing that was there has turned. No condition but the table. -/
import Derived.Test.YtmoidifdbpjinaaDoorWalkAwake
namespace Go.Proofs.YtmoidifdbpjinaaDoor.WalkSum
open Go.RowKit Go.Proofs.YtmoidifdbpjinaaDoor.PSumOf Go.Proofs.YtmoidifdbpjinaaDoor.Crc Go.Proofs.YtmoidifdbpjinaaDoor.WalkSum Go.Proofs.YtmoidifdbpjinaaDoorW.PrintWords Go.Proofs.YtmoidifdbpjinaaDoorW.PrintLast Go.Proofs.YtmoidifdbpjinaaDoorW.PrintMore
set_option linter.unusedVariables false
set_option linter.unusedSimpArgs false

theorem info5 : (Tryd.prog.info? 5).map (fun i => (i.zero, i.size, i.bytes)) = some (some (.int .u8 0), 1, 1) := by kernel_rfl
theorem sum_append (a b : List Int) : upd (sumOf a) b = sumOf (a ++ b) := by
  rw [sumOf_eq, sumOf_eq, run_append]
  unfold upd
  simp
set_option maxHeartbeats 4000000 in
set_option maxRecDepth 100000 in
theorem sumGoesOnLaw (A0 A1 : Option Addr) (c0 c1 : Nat) (l0 l1 : List Int) (w : World) (hT : Tab w) (hr0 : Kd.C (Kd.int .u8) w A0 l0.length l0) (hc0 : l0.length ≤ c0) (hb0 : ∀ x ∈ l0, 0 ≤ x ∧ x < 256) (hr1 : Kd.C (Kd.int .u8) w A1 l1.length l1) (hc1 : l1.length ≤ c1) (hb1 : ∀ x ∈ l1, 0 ≤ x ∧ x < 256) :
    Calls Tryd.prog 4 #[.slice A0 l0.length c0, .slice A1 l1.length c1] w fun e w' => e = .returned (.bool true) ∧ Below w.heap.size w w' := by
  have HT := Aside0.mk hT
  have HB := Aside0.mk (Below.refl w.heap.size w)
  clear hT
  have HR0 := Aside0.mk hr0
  have HB0 := Aside0.mk hb0
  have HR1 := Aside0.mk hr1
  have HB1 := Aside0.mk hb1
  clear hr0 hb0 hr1 hb1
  by_cases h : l0.length > 1000
  · have q : decide (1000 < (l0.length : Int)) = true := decide_eq_true (by omega)
    have q' : decide (1000 < l0.length) = true := decide_eq_true (by omega)
    clear h
    go_enter Tryd.func4, Tryd.ntmps4
    go_wp2_with fail
    refine (awake_calls _ (tab_below HT.out (by repeat (first | (with_reducible first | exact HB.out | apply below_alloc | apply pw_below_drewN | apply below_drew1) | exact HB.out)))).mono ?_
    rintro e w7 ⟨rfl, hb⟩
    have n0_ := Aside0.mk (below_step (by repeat (first | (with_reducible first | exact HB.out | apply below_alloc | apply pw_below_drewN | apply below_drew1) | exact HB.out)) hb)
    clear HB hb
    have HB := n0_
    clear n0_
    go_wp2
    go_ret
    exact ⟨by first | rfl | (simp; done), (by repeat (first | (with_reducible first | exact HB.out | apply below_alloc | apply pw_below_drewN | apply below_drew1) | exact HB.out))⟩
  · have q : decide (1000 < (l0.length : Int)) = false := decide_eq_false (by omega)
    have q' : decide (1000 < l0.length) = false := decide_eq_false (by omega)
    by_cases h1 : l1.length > 1000
    · have r : decide (1000 < (l1.length : Int)) = true := decide_eq_true (by omega)
      have r' : decide (1000 < l1.length) = true := decide_eq_true (by omega)
      clear h h1
      go_enter Tryd.func4, Tryd.ntmps4
      go_wp2_with fail
      refine (awake_calls _ (tab_below HT.out (by repeat (first | (with_reducible first | exact HB.out | apply below_alloc | apply pw_below_drewN | apply below_drew1) | exact HB.out)))).mono ?_
      rintro e w7 ⟨rfl, hb⟩
      have n0_ := Aside0.mk (below_step (by repeat (first | (with_reducible first | exact HB.out | apply below_alloc | apply pw_below_drewN | apply below_drew1) | exact HB.out)) hb)
      clear HB hb
      have HB := n0_
      clear n0_
      go_wp2
      go_ret
      exact ⟨by first | rfl | (simp; done), (by repeat (first | (with_reducible first | exact HB.out | apply below_alloc | apply pw_below_drewN | apply below_drew1) | exact HB.out))⟩
    · have r : decide (1000 < (l1.length : Int)) = false := decide_eq_false (by omega)
      have r' : decide (1000 < l1.length) = false := decide_eq_false (by omega)
      have hl : (l0 ++ l1).length ≤ 140737488351232 := by simp; omega
      have hb01 : ∀ x ∈ l0 ++ l1, 0 ≤ x ∧ x < 256 := by intro x hx; exact (List.mem_append.1 hx).elim (HB0.out x) (HB1.out x)
      have HB01 := Aside0.mk hb01
      clear hb01
      have EQ := Aside0.mk (sum_append l0 l1)
      go_enter Tryd.func4, Tryd.ntmps4
      go_wp2_with fail
      refine (of_calls A0 c0 l0 _ (tab_below HT.out (by repeat (first | (with_reducible first | exact HB.out | apply below_alloc | apply pw_below_drewN | apply below_drew1) | exact HB.out))) (Kd.C_below HR0.out (by repeat (first | (with_reducible first | exact HB.out | apply below_alloc | apply pw_below_drewN | apply below_drew1) | exact HB.out))) HB0.out).mono ?_
      rintro e w5 ⟨rfl, rfl⟩
      go_wp2_with fail
      refine (upd_calls (sumOf l0) A1 c1 l1 _ (tab_below HT.out (by repeat (first | (with_reducible first | exact HB.out | apply below_alloc | apply pw_below_drewN | apply below_drew1) | exact HB.out))) (Kd.C_below HR1.out (by repeat (first | (with_reducible first | exact HB.out | apply below_alloc | apply pw_below_drewN | apply below_drew1) | exact HB.out))) HB1.out).mono ?_
      rintro e w5 ⟨rfl, rfl⟩
      go_wp2_with (first | ((with_reducible refine gate_dst (N := 18) rfl ?_); refine Kd.R_lit (Kd.int .u8) (w0 := w) w.heap.size 5 rfl rfl (xs := []) (inner := []) (ok := fun _ => True) (okp := fun _ => False) ?h1_a ⟨rfl, fun j p h => by simp at h⟩ (fun _ h => h.elim) trivial (by repeat (first | (with_reducible first | exact HB.out | apply below_alloc | apply pw_below_drewN | apply below_drew1) | exact HB.out)) (below_size (by repeat (first | (with_reducible first | exact HB.out | apply below_alloc | apply pw_below_drewN | apply below_drew1) | exact HB.out))) (by simp) ?_; (case h1_a => first | (go_simp; done) | (go_simp; rfl)); intro va wa HOa hB_ hga hata; have n0_ := Aside0.mk hB_; clear HB; have HB := n0_; clear n0_ hB_) | ((with_reducible refine gate_dst (N := 20) rfl ?_); refine Kd.R_append_rows (Kd.int .u8) (w0 := w) w.heap.size rfl (.tmp 18) (.tmp 19) 22 5 (.int .u8 0) 1 rfl Tryd.underlying22 info5 rfl (by decide) (by decide) va [] l0 A0 l0.length c0 (fun _ => True) (fun _ => False) rfl rfl HOa (Kd.C_below HR0.out HB.out) (fun _ _ h => h) (fun _ h => h.elim) (fun _ _ => trivial) (by repeat (first | (with_reducible first | exact HB.out | apply below_alloc | apply pw_below_drewN | apply below_drew1) | exact HB.out)) (below_size (by repeat (first | (with_reducible first | exact HB.out | apply below_alloc | apply pw_below_drewN | apply below_drew1) | exact HB.out))) (by simp; omega) ?_; intro vb wb HOb hB_ hgb hatb; have n0_ := Aside0.mk hB_; clear HB; have HB := n0_; clear n0_ hB_) | ((with_reducible refine gate_dst (N := 22) rfl ?_); refine Kd.R_append_rows (Kd.int .u8) (w0 := w) w.heap.size rfl (.tmp 20) (.tmp 21) 22 5 (.int .u8 0) 1 rfl Tryd.underlying22 info5 rfl (by decide) (by decide) vb l0 l1 A1 l1.length c1 (fun _ => True) (fun _ => False) rfl rfl HOb (Kd.C_below HR1.out HB.out) (fun _ _ h => h) (fun _ h => h.elim) (fun _ _ => trivial) (by repeat (first | (with_reducible first | exact HB.out | apply below_alloc | apply pw_below_drewN | apply below_drew1) | exact HB.out)) (below_size (by repeat (first | (with_reducible first | exact HB.out | apply below_alloc | apply pw_below_drewN | apply below_drew1) | exact HB.out))) (by simp; omega) ?_; intro vc wc HOc hB_ hgc hatc; have n0_ := Aside0.mk hB_; clear HB; have HB := n0_; clear n0_ hB_))
      rw [List.nil_append] at HOb
      obtain ⟨Ac, cc, rfl, hlc, HCc⟩ := Kd.R_reads HOc
      go_wp2_with fail
      refine (ref_calls Ac cc (l0 ++ l1) _ HCc hlc hl HB01.out).mono ?_
      rintro e w6 ⟨rfl, hd⟩
      have n0_ := Aside0.mk (below_step (by repeat (first | (with_reducible first | exact HB.out | apply below_alloc | apply pw_below_drewN | apply below_drew1) | exact HB.out)) hd.below)
      clear HB hd
      have HB := n0_
      clear n0_
      have eq := EQ.out
      go_wp2_with fail
      refine (upd0_calls A0 c0 l0 _ (tab_below HT.out (by repeat (first | (with_reducible first | exact HB.out | apply below_alloc | apply pw_below_drewN | apply below_drew1) | exact HB.out))) (Kd.C_below HR0.out (by repeat (first | (with_reducible first | exact HB.out | apply below_alloc | apply pw_below_drewN | apply below_drew1) | exact HB.out))) HB0.out).mono ?_
      rintro e w5 ⟨rfl, rfl⟩
      go_wp2_with fail
      refine (of_calls A0 c0 l0 _ (tab_below HT.out (by repeat (first | (with_reducible first | exact HB.out | apply below_alloc | apply pw_below_drewN | apply below_drew1) | exact HB.out))) (Kd.C_below HR0.out (by repeat (first | (with_reducible first | exact HB.out | apply below_alloc | apply pw_below_drewN | apply below_drew1) | exact HB.out))) HB0.out).mono ?_
      rintro e w5 ⟨rfl, rfl⟩
      go_wp2_with fail
      refine (awake_calls _ (tab_below HT.out (by repeat (first | (with_reducible first | exact HB.out | apply below_alloc | apply pw_below_drewN | apply below_drew1) | exact HB.out)))).mono ?_
      rintro e w7 ⟨rfl, hb⟩
      have n0_ := Aside0.mk (below_step (by repeat (first | (with_reducible first | exact HB.out | apply below_alloc | apply pw_below_drewN | apply below_drew1) | exact HB.out)) hb)
      clear HB hb
      have HB := n0_
      clear n0_
      go_wp2
      go_ret
      exact ⟨by first | rfl | (simp; done), (by repeat (first | (with_reducible first | exact HB.out | apply below_alloc | apply pw_below_drewN | apply below_drew1) | exact HB.out))⟩
end Go.Proofs.YtmoidifdbpjinaaDoor.WalkSum
