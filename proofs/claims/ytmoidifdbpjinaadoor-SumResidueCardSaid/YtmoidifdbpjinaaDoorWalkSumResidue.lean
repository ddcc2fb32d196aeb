/- What SumResidue does: it returns true; nothing that was there has turned. No condition but the table. -/
import Derived.Test.YtmoidifdbpjinaaDoorWalkAwake
namespace Go.Proofs.YtmoidifdbpjinaaDoor.WalkSum
open Go.RowKit Go.Proofs.YtmoidifdbpjinaaDoor.PSumOf Go.Proofs.YtmoidifdbpjinaaDoor.Crc Go.Proofs.YtmoidifdbpjinaaDoor.WalkSum Go.Proofs.YtmoidifdbpjinaaDoorW.PrintWords Go.Proofs.YtmoidifdbpjinaaDoorW.PrintLast Go.Proofs.YtmoidifdbpjinaaDoorW.PrintMore
set_option linter.unusedVariables false
set_option linter.unusedSimpArgs false

theorem info5 : (Tryd.prog.info? 5).map (fun i => (i.zero, i.size, i.bytes)) = some (some (.int .u8 0), 1, 1) := by kernel_rfl
theorem byte_part {n : Int} (N : BitVec 32) (hn : n = num N) (k : Nat) {q : Int} (hq : q = n / ((2 ^ k : Nat) : Int) % 256) : by32 q = Crc.part N k ∧ 0 ≤ q ∧ q < 256 := by
  rw [hn, num_shr] at hq
  refine ⟨?_, by omega, by omega⟩
  unfold by32 Crc.part num at *
  apply BitVec.eq_of_toNat_eq
  rw [BitVec.toNat_ofNat, BitVec.toNat_and, hq, show (255#32).toNat = 2 ^ 8 - 1 from rfl, Nat.and_two_pow_sub_one_eq_mod]
  have := (N >>> k).isLt
  omega
theorem upd_res (A : Option Addr) (c : Nat) (l : List Int) (n z q0 q1 q2 q3 : Int) (w : World) (hT : Tab w) (hn : n = num (sumOf l)) (hz : z = num (sumOf [0, 0, 0, 0])) (hq : q0 = n % 256 ∧ q1 = n / 256 % 256 ∧ q2 = n / 65536 % 256 ∧ q3 = n / 16777216 % 256)
    (hr : Kd.C (Kd.int .u8) w A [q0, q1, q2, q3].length [q0, q1, q2, q3]) : Calls Tryd.prog 11 #[.int .u32 n, .slice A 4 c] w fun e w' => e = .returned (.int .u32 z) ∧ w = w' := by
  obtain ⟨h0, h1, h2, h3⟩ := hq
  obtain ⟨b0, p0⟩ := byte_part (sumOf l) hn 0 (q := q0) (by rw [h0]; simp)
  obtain ⟨b1, p1⟩ := byte_part (sumOf l) hn 8 (q := q1) (by rw [h1]; rfl)
  obtain ⟨b2, p2⟩ := byte_part (sumOf l) hn 16 (q := q2) (by rw [h2]; rfl)
  obtain ⟨b3, p3⟩ := byte_part (sumOf l) hn 24 (q := q3) (by rw [h3]; rfl)
  have h := upd_calls (sumOf l) A c [q0, q1, q2, q3] w hT hr (by simp; omega)
  rw [residue l q0 q1 q2 q3 b0 b1 b2 b3, ← hn, ← hz] at h
  exact h
theorem ref_res (A : Option Addr) (c : Nat) (z : Int) (w : World) (hz : z = num (sumOf [0, 0, 0, 0])) (hr : Kd.C (Kd.int .u8) w A (List.replicate (4 : Int).toNat (0 : Int)).length (List.replicate (4 : Int).toNat 0)) (hc : (List.replicate (4 : Int).toNat (0 : Int)).length ≤ c) :
    Calls Tryd.prog 10 #[.slice A 4 c] w fun e w' => e = .returned (.int .u32 z) ∧ Drawn0 w w' := by
  have h := ref_calls A c [0, 0, 0, 0] w hr hc (by decide) (by decide)
  rw [← hz] at h
  exact h
set_option maxHeartbeats 4000000 in
set_option maxRecDepth 100000 in
theorem sumResidueLaw (A0 : Option Addr) (c0 : Nat) (l0 : List Int) (w : World) (hT : Tab w) (hr0 : Kd.C (Kd.int .u8) w A0 l0.length l0) (hc0 : l0.length ≤ c0) (hb0 : ∀ x ∈ l0, 0 ≤ x ∧ x < 256) :
    Calls Tryd.prog 6 #[.slice A0 l0.length c0] w fun e w' => e = .returned (.bool true) ∧ Below w.heap.size w w' := by
  have HT := Aside0.mk hT
  have HB := Aside0.mk (Below.refl w.heap.size w)
  clear hT
  have HR0 := Aside0.mk hr0
  have HB0 := Aside0.mk hb0
  clear hr0 hb0
  by_cases h : l0.length > 3000
  · have q : decide (3000 < (l0.length : Int)) = true := decide_eq_true (by omega)
    have q' : decide (3000 < l0.length) = true := decide_eq_true (by omega)
    clear h
    go_enter Tryd.func6, Tryd.ntmps6
    go_wp2_with fail
    refine (awake_calls _ (tab_below HT.out (by repeat (first | (with_reducible first | exact HB.out | apply below_alloc | apply pw_below_drewN | apply below_drew1) | exact HB.out)))).mono ?_
    rintro e w7 ⟨rfl, hb⟩
    have n0_ := Aside0.mk (below_step (by repeat (first | (with_reducible first | exact HB.out | apply below_alloc | apply pw_below_drewN | apply below_drew1) | exact HB.out)) hb)
    clear HB hb
    have HB := n0_
    clear n0_
    go_wp2
    go_ret
    exact ⟨by first | rfl | (simp; done), (by repeat (first | (with_reducible first | exact HB.out | apply below_alloc | apply pw_below_drewN | apply below_drew1) | exact HB.out))⟩
  · have q : decide (3000 < (l0.length : Int)) = false := decide_eq_false (by omega)
    have q' : decide (3000 < l0.length) = false := decide_eq_false (by omega)
    obtain ⟨n, hn, n0, n1⟩ := num_eq (sumOf l0)
    obtain ⟨z, hz, _, _⟩ := num_eq (sumOf [0, 0, 0, 0])
    obtain ⟨q0, f0⟩ : ∃ q, IntKind.u8.wrap n = q := ⟨_, rfl⟩
    obtain ⟨q1, f1⟩ : ∃ q, IntKind.u8.wrap (n / 256) = q := ⟨_, rfl⟩
    obtain ⟨q2, f2⟩ : ∃ q, IntKind.u8.wrap (n / 65536) = q := ⟨_, rfl⟩
    obtain ⟨q3, f3⟩ : ∃ q, IntKind.u8.wrap (n / 16777216) = q := ⟨_, rfl⟩
    have HQ := Aside0.mk (⟨f0.symm.trans (IntKind.wrap_u8 _), f1.symm.trans (IntKind.wrap_u8 _), f2.symm.trans (IntKind.wrap_u8 _), f3.symm.trans (IntKind.wrap_u8 _)⟩ : q0 = n % 256 ∧ q1 = n / 256 % 256 ∧ q2 = n / 65536 % 256 ∧ q3 = n / 16777216 % 256)
    have HN := Aside0.mk hn
    have HZ := Aside0.mk hz
    clear hz h
    have K1 := of_calls A0 c0 l0 w HT.out HR0.out HB0.out
    rw [← hn] at K1
    clear hn
    have K1 := Aside0.mk K1
    go_enter Tryd.func6, Tryd.ntmps6
    go_wp2_with fail
    refine K1.out.mono ?_
    rintro e w5 ⟨rfl, rfl⟩
    clear K1
    go_wp2_with fail
    refine start_ (n := 21) (S := fun w' => True) (ds := []) #[false, false, false, false, false, false, false, false, false, false, false, false, false, false, false, false, false, false, false, false, false] (by kernel_rfl) rfl rfl trivial (fun hHeld => ?_)
    refine pure_ (i := 0) (N := some 10) (v := ?_) (a' := ?_) #[true, false, false, false, false, false, false, false, false, false, false, false, false, false, false, false, false, false, false, false, false] rfl rfl (by kernel_rfl) (fun _ _ _ h => h) (Or.inl ⟨by rfl, ?_⟩) ?_ ?_
    rotate_left
    · intro w'
      go_simp
      with_reducible rfl
    rotate_left
    · simp only [Act.put, List.setIfInBounds_toArray, List.set_cons_zero, List.set_cons_succ, i64_w, i32_w]
      rfl
    refine pure_ (i := 1) (N := some 11) (v := ?_) (a' := ?_) #[true, true, false, false, false, false, false, false, false, false, false, false, false, false, false, false, false, false, false, false, false] rfl rfl (by kernel_rfl) (fun _ _ _ h => h) (Or.inl ⟨by rfl, ?_⟩) ?_ ?_
    rotate_left
    · intro w'
      go_simp
      with_reducible rfl
    rotate_left
    · simp only [Act.put, List.setIfInBounds_toArray, List.set_cons_zero, List.set_cons_succ, i64_w, i32_w]
      rfl
    refine pure_ (i := 2) (N := some 12) (v := ?_) (a' := ?_) #[true, true, true, false, false, false, false, false, false, false, false, false, false, false, false, false, false, false, false, false, false] rfl rfl (by kernel_rfl) (fun _ _ _ h => h) (Or.inl ⟨by rfl, ?_⟩) ?_ ?_
    rotate_left
    · intro w'
      go_simp
      with_reducible rfl
    rotate_left
    · simp only [Act.put, List.setIfInBounds_toArray, List.set_cons_zero, List.set_cons_succ, i64_w, i32_w]
      rfl
    refine pure_ (i := 3) (N := some 13) (v := ?_) (a' := ?_) #[true, true, true, true, false, false, false, false, false, false, false, false, false, false, false, false, false, false, false, false, false] rfl rfl (by kernel_rfl) (fun _ _ _ h => h) (Or.inl ⟨by rfl, ?_⟩) ?_ ?_
    rotate_left
    · intro w'
      go_simp
      with_reducible rfl
    rotate_left
    · simp only [Act.put, List.setIfInBounds_toArray, List.set_cons_zero, List.set_cons_succ, i64_w, i32_w]
      rfl
    refine pure_ (i := 4) (N := some 14) (v := ?_) (a' := ?_) #[true, true, true, true, true, false, false, false, false, false, false, false, false, false, false, false, false, false, false, false, false] rfl rfl (by kernel_rfl) (fun _ _ _ h => h) (Or.inl ⟨by rfl, ?_⟩) ?_ ?_
    rotate_left
    · intro w'
      go_simp
      with_reducible rfl
    rotate_left
    · simp only [Act.put, List.setIfInBounds_toArray, List.set_cons_zero, List.set_cons_succ, i64_w, i32_w]
      rfl
    refine pure_ (i := 5) (N := some 15) (v := ?_) (a' := ?_) #[true, true, true, true, true, true, false, false, false, false, false, false, false, false, false, false, false, false, false, false, false] rfl rfl (by kernel_rfl) (fun _ _ _ h => h) (Or.inl ⟨by rfl, ?_⟩) ?_ ?_
    rotate_left
    · intro w'
      go_simp
      with_reducible rfl
    rotate_left
    · simp only [Act.put, List.setIfInBounds_toArray, List.set_cons_zero, List.set_cons_succ, i64_w, i32_w]
      rfl
    refine pure_ (i := 6) (N := some 16) (v := ?_) (a' := ?_) #[true, true, true, true, true, true, true, false, false, false, false, false, false, false, false, false, false, false, false, false, false] rfl rfl (by kernel_rfl) (fun _ _ _ h => h) (Or.inl ⟨by rfl, ?_⟩) ?_ ?_
    rotate_left
    · intro w'
      go_simp
      with_reducible rfl
    rotate_left
    · simp only [Act.put, List.setIfInBounds_toArray, List.set_cons_zero, List.set_cons_succ, i64_w, i32_w]
      rfl
    refine pure_ (i := 7) (N := some 17) (v := ?_) (a' := ?_) #[true, true, true, true, true, true, true, true, false, false, false, false, false, false, false, false, false, false, false, false, false] rfl rfl (by kernel_rfl) (fun _ _ _ h => h) (Or.inl ⟨by rfl, ?_⟩) ?_ ?_
    rotate_left
    · intro w'
      go_simp
      with_reducible rfl
    rotate_left
    · simp only [Act.put, List.setIfInBounds_toArray, List.set_cons_zero, List.set_cons_succ, i64_w, i32_w]
      rfl
    refine pure_ (i := 8) (N := some 18) (v := ?_) (a' := ?_) #[true, true, true, true, true, true, true, true, true, false, false, false, false, false, false, false, false, false, false, false, false] rfl rfl (by kernel_rfl) (fun _ _ _ h => h) (Or.inl ⟨by rfl, ?_⟩) ?_ ?_
    rotate_left
    · intro w'
      go_simp
      with_reducible rfl
    rotate_left
    · simp only [Act.put, List.setIfInBounds_toArray, List.set_cons_zero, List.set_cons_succ, i64_w, i32_w]
      rfl
    refine pure_ (i := 9) (N := some 19) (v := ?_) (a' := ?_) #[true, true, true, true, true, true, true, true, true, true, false, false, false, false, false, false, false, false, false, false, false] rfl rfl (by kernel_rfl) (fun _ _ _ h => h) (Or.inl ⟨by rfl, ?_⟩) ?_ ?_
    rotate_left
    · intro w'
      go_simp
      with_reducible rfl
    rotate_left
    · simp only [Act.put, List.setIfInBounds_toArray, List.set_cons_zero, List.set_cons_succ, i64_w, i32_w]
      rfl
    refine pure_ (i := 10) (N := some 20) (v := ?_) (a' := ?_) #[true, true, true, true, true, true, true, true, true, true, true, false, false, false, false, false, false, false, false, false, false] rfl rfl (by kernel_rfl) (fun _ _ _ h => h) (Or.inl ⟨by rfl, ?_⟩) ?_ ?_
    rotate_left
    · intro w'
      go_simp
      with_reducible rfl
    rotate_left
    · simp only [Act.put, List.setIfInBounds_toArray, List.set_cons_zero, List.set_cons_succ, i64_w, i32_w]
      rfl
    refine pure_ (i := 11) (N := some 21) (v := ?_) (a' := ?_) #[true, true, true, true, true, true, true, true, true, true, true, true, false, false, false, false, false, false, false, false, false] rfl rfl (by kernel_rfl) (fun _ _ _ h => h) (Or.inl ⟨by rfl, ?_⟩) ?_ ?_
    rotate_left
    · intro w'
      go_simp
      with_reducible rfl
    rotate_left
    · simp only [Act.put, List.setIfInBounds_toArray, List.set_cons_zero, List.set_cons_succ, i64_w, i32_w]
      rfl
    refine join_ (σ := Value × Value) 6 #[true, true, true, true, true, true, true, true, true, true, true, true, true, true, true, false, false, false, false, false, false] (fun s => [(22, s.1), (23, .int .u32 z), (24, s.2)]) (fun (s : Value × Value) w' => Below w.heap.size w w' ∧ Kd.R (Kd.int .u8) 5 w' w.heap.size (fun _ => True) s.2 (List.replicate (4 : Int).toNat 0)) ?_ ?_
    rotate_left
    · intro hCont
      refine two_ (i := 12) (j := 14) (Ni := some 22) (Nj := some 24) #[true, true, true, true, true, true, true, true, true, true, true, true, true, false, false, false, false, false, false, false, false] #[true, true, true, true, true, true, true, true, true, true, true, true, false, false, true, false, false, false, false, false, false] rfl rfl rfl rfl (by kernel_rfl) (by decide) (by decide) (fun K hK => ?_) (fun K hK => ?_)
      · skip
        refine Kd.R_lit_step (Kd.int .u8) (w0 := w) w.heap.size 5 (by rfl) rfl (xs := [q0, q1, q2, q3]) (inner := [.int .u8 q0, .int .u8 q1, .int .u8 q2, .int .u8 q3]) (ok := fun _ => True) (okp := fun _ => False) ?_ (Kd.reps_scalar (enc := Value.int .u8) [q0, q1, q2, q3]) (fun _ h => h.elim) trivial (by repeat (first | (with_reducible first | exact HB.out | apply below_alloc | apply pw_below_drewN | apply below_drew1) | exact HB.out)) (below_size (by repeat (first | (with_reducible first | exact HB.out | apply below_alloc | apply pw_below_drewN | apply below_drew1) | exact HB.out))) (by simp) ?_
        · first | (go_simp; done) | (go_simp; rfl)
        intro v22 w22 HO22 hB_ hg22 hat22
        clear HB
        have HB := Aside0.mk hB_
        clear hB_
        clear hg22 hat22
        refine hK.out _ _ trivial (fun hHeld => ?_)
        clear hK K
        refine norm_ (a' := ?_) ?_ ?_
        rotate_left
        · show Act.put _ (some 22) _ = _
          simp only [Act.put, List.setIfInBounds_toArray, List.set_cons_zero, List.set_cons_succ, i64_w, i32_w]
          rfl
        refine two_ (i := 13) (j := 14) (Ni := some 23) (Nj := some 24) #[true, true, true, true, true, true, true, true, true, true, true, true, true, true, false, false, false, false, false, false, false] #[true, true, true, true, true, true, true, true, true, true, true, true, true, false, true, false, false, false, false, false, false] rfl rfl rfl rfl (by kernel_rfl) (by decide) (by decide) (fun K hK => ?_) (fun K hK => ?_)
        · skip
          obtain ⟨A22, c22, rfl, hl22, HC22⟩ := Kd.R_reads HO22
          refine goes_ Tryd.func11 (by kernel_rfl) rfl #[.int .u32 n, .slice A22 4 c22] (by rfl) rfl rfl (by first | (simp only [List.map_toArray, List.map_cons, List.map_nil]; done) | (simp only [List.map_toArray, List.map_cons, List.map_nil]; rfl)) ?_
          with_reducible refine (upd_res A22 c22 l0 n z q0 q1 q2 q3 _ (tab_below HT.out (by repeat (first | (with_reducible first | exact HB.out | apply below_alloc | apply pw_below_drewN | apply below_drew1) | exact HB.out))) HN.out HZ.out HQ.out HC22).mono ?_
          rintro e w5 ⟨rfl, rfl⟩
          refine ⟨_, rfl, ?_⟩
          clear HC22 hl22 HO22
          refine hK.out _ _ trivial (fun hHeld => ?_)
          clear hK K
          refine norm_ (a' := ?_) ?_ ?_
          rotate_left
          · show Act.put _ (some 23) _ = _
            simp only [Act.put, List.setIfInBounds_toArray, List.set_cons_zero, List.set_cons_succ, i64_w, i32_w]
            rfl
          refine one_ (i := 14) (N := some 24) #[true, true, true, true, true, true, true, true, true, true, true, true, true, true, true, false, false, false, false, false, false] rfl rfl (by kernel_rfl) (by decide) (fun K hK => ?_)
          refine Kd.R_make_step (Kd.int .u8) (w0 := w) w.heap.size 5 (by rfl) rfl 22 _ _ rfl 4 (by rfl) (by rfl) Tryd.underlying22 (.int .u8 0) 1 info5 rfl (by decide) (by decide) (0 : Int) (ok := fun _ => True) (okp := fun _ => False) rfl (fun _ h => h.elim) trivial (by decide) (by decide) (by repeat (first | (with_reducible first | exact HB.out | apply below_alloc | apply pw_below_drewN | apply below_drew1) | exact HB.out)) (below_size (by repeat (first | (with_reducible first | exact HB.out | apply below_alloc | apply pw_below_drewN | apply below_drew1) | exact HB.out))) ?_
          intro v24 w24 HO24 hB_ hg24 hat24
          clear HB
          have HB := Aside0.mk hB_
          clear hB_
          clear hg24 hat24
          refine hK.out _ _ trivial (fun hHeld => ?_)
          clear hK K
          refine norm_ (a' := ?_) ?_ ?_
          rotate_left
          · show Act.put _ (some 24) _ = _
            simp only [Act.put, List.setIfInBounds_toArray, List.set_cons_zero, List.set_cons_succ, i64_w, i32_w]
            rfl
          exact norm_ (by first | (simp only [putAll, Act.put, List.setIfInBounds_toArray, List.set_cons_zero, List.set_cons_succ]; done) | (simp only [putAll, Act.put, List.setIfInBounds_toArray, List.set_cons_zero, List.set_cons_succ]; rfl)) (hCont (.slice A22 4 c22, v24) _ ⟨HB.out, HO24⟩)
        · skip
          refine Kd.R_make_step (Kd.int .u8) (w0 := w) w.heap.size 5 (by rfl) rfl 22 _ _ rfl 4 (by rfl) (by rfl) Tryd.underlying22 (.int .u8 0) 1 info5 rfl (by decide) (by decide) (0 : Int) (ok := fun _ => True) (okp := fun _ => False) rfl (fun _ h => h.elim) trivial (by decide) (by decide) (by repeat (first | (with_reducible first | exact HB.out | apply below_alloc | apply pw_below_drewN | apply below_drew1) | exact HB.out)) (below_size (by repeat (first | (with_reducible first | exact HB.out | apply below_alloc | apply pw_below_drewN | apply below_drew1) | exact HB.out))) ?_
          intro v24 w24 HO24 hB_ hg24 hat24
          clear HB
          have HB := Aside0.mk hB_
          clear hB_
          have HO22' := Kd.R_grown HO22 hg24 (fun k _ => by simp)
          clear HO22
          have HO22 := HO22'
          clear HO22'
          clear hg24 hat24
          refine hK.out _ _ trivial (fun hHeld => ?_)
          clear hK K
          refine norm_ (a' := ?_) ?_ ?_
          rotate_left
          · show Act.put _ (some 24) _ = _
            simp only [Act.put, List.setIfInBounds_toArray, List.set_cons_zero, List.set_cons_succ, i64_w, i32_w]
            rfl
          refine one_ (i := 13) (N := some 23) #[true, true, true, true, true, true, true, true, true, true, true, true, true, true, true, false, false, false, false, false, false] rfl rfl (by kernel_rfl) (by decide) (fun K hK => ?_)
          obtain ⟨A22, c22, rfl, hl22, HC22⟩ := Kd.R_reads HO22
          refine goes_ Tryd.func11 (by kernel_rfl) rfl #[.int .u32 n, .slice A22 4 c22] (by rfl) rfl rfl (by first | (simp only [List.map_toArray, List.map_cons, List.map_nil]; done) | (simp only [List.map_toArray, List.map_cons, List.map_nil]; rfl)) ?_
          with_reducible refine (upd_res A22 c22 l0 n z q0 q1 q2 q3 _ (tab_below HT.out (by repeat (first | (with_reducible first | exact HB.out | apply below_alloc | apply pw_below_drewN | apply below_drew1) | exact HB.out))) HN.out HZ.out HQ.out HC22).mono ?_
          rintro e w5 ⟨rfl, rfl⟩
          refine ⟨_, rfl, ?_⟩
          clear HC22 hl22 HO22
          refine hK.out _ _ trivial (fun hHeld => ?_)
          clear hK K
          refine norm_ (a' := ?_) ?_ ?_
          rotate_left
          · show Act.put _ (some 23) _ = _
            simp only [Act.put, List.setIfInBounds_toArray, List.set_cons_zero, List.set_cons_succ, i64_w, i32_w]
            rfl
          exact norm_ (by first | (simp only [putAll, Act.put, List.setIfInBounds_toArray, List.set_cons_zero, List.set_cons_succ]; done) | (simp only [putAll, Act.put, List.setIfInBounds_toArray, List.set_cons_zero, List.set_cons_succ]; rfl)) (hCont (.slice A22 4 c22, v24) _ ⟨HB.out, HO24⟩)
      · skip
        refine Kd.R_make_step (Kd.int .u8) (w0 := w) w.heap.size 5 (by rfl) rfl 22 _ _ rfl 4 (by rfl) (by rfl) Tryd.underlying22 (.int .u8 0) 1 info5 rfl (by decide) (by decide) (0 : Int) (ok := fun _ => True) (okp := fun _ => False) rfl (fun _ h => h.elim) trivial (by decide) (by decide) (by repeat (first | (with_reducible first | exact HB.out | apply below_alloc | apply pw_below_drewN | apply below_drew1) | exact HB.out)) (below_size (by repeat (first | (with_reducible first | exact HB.out | apply below_alloc | apply pw_below_drewN | apply below_drew1) | exact HB.out))) ?_
        intro v24 w24 HO24 hB_ hg24 hat24
        clear HB
        have HB := Aside0.mk hB_
        clear hB_
        clear hg24 hat24
        refine hK.out _ _ trivial (fun hHeld => ?_)
        clear hK K
        refine norm_ (a' := ?_) ?_ ?_
        rotate_left
        · show Act.put _ (some 24) _ = _
          simp only [Act.put, List.setIfInBounds_toArray, List.set_cons_zero, List.set_cons_succ, i64_w, i32_w]
          rfl
        refine one_ (i := 12) (N := some 22) #[true, true, true, true, true, true, true, true, true, true, true, true, true, false, true, false, false, false, false, false, false] rfl rfl (by kernel_rfl) (by decide) (fun K hK => ?_)
        refine Kd.R_lit_step (Kd.int .u8) (w0 := w) w.heap.size 5 (by rfl) rfl (xs := [q0, q1, q2, q3]) (inner := [.int .u8 q0, .int .u8 q1, .int .u8 q2, .int .u8 q3]) (ok := fun _ => True) (okp := fun _ => False) ?_ (Kd.reps_scalar (enc := Value.int .u8) [q0, q1, q2, q3]) (fun _ h => h.elim) trivial (by repeat (first | (with_reducible first | exact HB.out | apply below_alloc | apply pw_below_drewN | apply below_drew1) | exact HB.out)) (below_size (by repeat (first | (with_reducible first | exact HB.out | apply below_alloc | apply pw_below_drewN | apply below_drew1) | exact HB.out))) (by simp) ?_
        · first | (go_simp; done) | (go_simp; rfl)
        intro v22 w22 HO22 hB_ hg22 hat22
        clear HB
        have HB := Aside0.mk hB_
        clear hB_
        have HO24' := Kd.R_grown HO24 hg22 (fun k _ => by simp)
        clear HO24
        have HO24 := HO24'
        clear HO24'
        clear hg22 hat22
        refine hK.out _ _ trivial (fun hHeld => ?_)
        clear hK K
        refine norm_ (a' := ?_) ?_ ?_
        rotate_left
        · show Act.put _ (some 22) _ = _
          simp only [Act.put, List.setIfInBounds_toArray, List.set_cons_zero, List.set_cons_succ, i64_w, i32_w]
          rfl
        refine one_ (i := 13) (N := some 23) #[true, true, true, true, true, true, true, true, true, true, true, true, true, true, true, false, false, false, false, false, false] rfl rfl (by kernel_rfl) (by decide) (fun K hK => ?_)
        obtain ⟨A22, c22, rfl, hl22, HC22⟩ := Kd.R_reads HO22
        refine goes_ Tryd.func11 (by kernel_rfl) rfl #[.int .u32 n, .slice A22 4 c22] (by rfl) rfl rfl (by first | (simp only [List.map_toArray, List.map_cons, List.map_nil]; done) | (simp only [List.map_toArray, List.map_cons, List.map_nil]; rfl)) ?_
        with_reducible refine (upd_res A22 c22 l0 n z q0 q1 q2 q3 _ (tab_below HT.out (by repeat (first | (with_reducible first | exact HB.out | apply below_alloc | apply pw_below_drewN | apply below_drew1) | exact HB.out))) HN.out HZ.out HQ.out HC22).mono ?_
        rintro e w5 ⟨rfl, rfl⟩
        refine ⟨_, rfl, ?_⟩
        clear HC22 hl22 HO22
        refine hK.out _ _ trivial (fun hHeld => ?_)
        clear hK K
        refine norm_ (a' := ?_) ?_ ?_
        rotate_left
        · show Act.put _ (some 23) _ = _
          simp only [Act.put, List.setIfInBounds_toArray, List.set_cons_zero, List.set_cons_succ, i64_w, i32_w]
          rfl
        exact norm_ (by first | (simp only [putAll, Act.put, List.setIfInBounds_toArray, List.set_cons_zero, List.set_cons_succ]; done) | (simp only [putAll, Act.put, List.setIfInBounds_toArray, List.set_cons_zero, List.set_cons_succ]; rfl)) (hCont (.slice A22 4 c22, v24) _ ⟨HB.out, HO24⟩)
    rintro ⟨v22, v24⟩ w9 ⟨hB9, HO24⟩
    have hHeld : True := trivial
    clear HB
    have HB := Aside0.mk hB9
    clear hB9
    obtain ⟨A24, c24, rfl, hl24, HC24⟩ := Kd.R_reads HO24
    refine norm_ (a' := ?_) ?_ ?_
    rotate_left
    · simp only [putAll, Act.put, List.setIfInBounds_toArray, List.set_cons_zero, List.set_cons_succ]
      rfl
    refine one_ (i := 15) (N := some 25) #[true, true, true, true, true, true, true, true, true, true, true, true, true, true, true, true, false, false, false, false, false] rfl rfl (by kernel_rfl) (by decide) (fun K hK => ?_)
    refine goes_ Tryd.func10 (by kernel_rfl) rfl #[.slice A24 4 c24] (by rfl) rfl rfl (by first | (simp only [List.map_toArray, List.map_cons, List.map_nil]; done) | (simp only [List.map_toArray, List.map_cons, List.map_nil]; rfl)) ?_
    with_reducible refine (ref_res A24 c24 z _ HZ.out HC24 hl24).mono ?_
    rintro e w6 ⟨rfl, hd⟩
    refine ⟨_, rfl, ?_⟩
    have n0_ := Aside0.mk (below_step (by repeat (first | (with_reducible first | exact HB.out | apply below_alloc | apply pw_below_drewN | apply below_drew1) | exact HB.out)) hd.below)
    clear HB hd
    have HB := n0_
    clear n0_
    refine hK.out _ _ trivial (fun hHeld => ?_)
    clear hK K
    refine norm_ (a' := ?_) ?_ ?_
    rotate_left
    · show Act.put _ (some 25) _ = _
      simp only [Act.put, List.setIfInBounds_toArray, List.set_cons_zero, List.set_cons_succ, i64_w, i32_w]
      rfl
    refine pure_ (i := 16) (N := some 26) (v := ?_) (a' := ?_) #[true, true, true, true, true, true, true, true, true, true, true, true, true, true, true, true, true, false, false, false, false] rfl rfl (by kernel_rfl) (fun _ _ _ h => h) (Or.inl ⟨by rfl, ?_⟩) ?_ ?_
    rotate_left
    · intro w'
      go_simp
      with_reducible rfl
    rotate_left
    · simp only [Act.put, List.setIfInBounds_toArray, List.set_cons_zero, List.set_cons_succ, i64_w, i32_w]
      rfl
    refine pure_ (i := 17) (N := some 27) (v := ?_) (a' := ?_) #[true, true, true, true, true, true, true, true, true, true, true, true, true, true, true, true, true, true, false, false, false] rfl rfl (by kernel_rfl) (fun _ _ _ h => h) (Or.inl ⟨by rfl, ?_⟩) ?_ ?_
    rotate_left
    · intro w'
      go_simp
      with_reducible rfl
    rotate_left
    · simp only [Act.put, List.setIfInBounds_toArray, List.set_cons_zero, List.set_cons_succ, i64_w, i32_w]
      rfl
    refine one_ (i := 18) (N := some 28) #[true, true, true, true, true, true, true, true, true, true, true, true, true, true, true, true, true, true, true, false, false] rfl rfl (by kernel_rfl) (by decide) (fun K hK => ?_)
    refine goes_ Tryd.func8 (by kernel_rfl) rfl #[] (by rfl) rfl rfl (by first | (simp only [List.map_toArray, List.map_cons, List.map_nil]; done) | (simp only [List.map_toArray, List.map_cons, List.map_nil]; rfl)) ?_
    with_reducible refine (awake_calls _ (tab_below HT.out (by repeat (first | (with_reducible first | exact HB.out | apply below_alloc | apply pw_below_drewN | apply below_drew1) | exact HB.out)))).mono ?_
    rintro e w7 ⟨rfl, hb⟩
    refine ⟨_, rfl, ?_⟩
    have n0_ := Aside0.mk (below_step (by repeat (first | (with_reducible first | exact HB.out | apply below_alloc | apply pw_below_drewN | apply below_drew1) | exact HB.out)) hb)
    clear HB hb
    have HB := n0_
    clear n0_
    refine hK.out _ _ trivial (fun hHeld => ?_)
    clear hK K
    refine norm_ (a' := ?_) ?_ ?_
    rotate_left
    · show Act.put _ (some 28) _ = _
      simp only [Act.put, List.setIfInBounds_toArray, List.set_cons_zero, List.set_cons_succ, i64_w, i32_w]
      rfl
    refine pure_ (i := 19) (N := some 29) (v := ?_) (a' := ?_) #[true, true, true, true, true, true, true, true, true, true, true, true, true, true, true, true, true, true, true, true, false] rfl rfl (by kernel_rfl) (fun _ _ _ h => h) (Or.inl ⟨by rfl, ?_⟩) ?_ ?_
    rotate_left
    · intro w'
      go_simp
      with_reducible rfl
    rotate_left
    · simp only [Act.put, List.setIfInBounds_toArray, List.set_cons_zero, List.set_cons_succ, i64_w, i32_w]
      rfl
    refine pure_ (i := 20) (N := some 2) (v := ?_) (a' := ?_) #[true, true, true, true, true, true, true, true, true, true, true, true, true, true, true, true, true, true, true, true, true] rfl rfl (by kernel_rfl) (fun _ _ _ h => h) (Or.inl ⟨by rfl, ?_⟩) ?_ ?_
    rotate_left
    · intro w'
      go_simp
      with_reducible rfl
    rotate_left
    · simp only [Act.put, List.setIfInBounds_toArray, List.set_cons_zero, List.set_cons_succ, i64_w, i32_w]
      rfl
    refine done_ (by kernel_rfl) ?_
    go_wp2
    go_ret
    exact ⟨by first | rfl | (simp; done), (by repeat (first | (with_reducible first | exact HB.out | apply below_alloc | apply pw_below_drewN | apply below_drew1) | exact HB.out))⟩
end Go.Proofs.YtmoidifdbpjinaaDoor.WalkSum
