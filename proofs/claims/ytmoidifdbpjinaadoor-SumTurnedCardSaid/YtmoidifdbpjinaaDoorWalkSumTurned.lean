/- What SumTurned does: it returns true; nothing that was there has turned. No condition but the table. -/
import Derived.Test.YtmoidifdbpjinaaDoorWalkAwake
namespace Go.Proofs.YtmoidifdbpjinaaDoor.WalkSum
open Go.RowKit Go.Proofs.YtmoidifdbpjinaaDoor.PSumOf Go.Proofs.YtmoidifdbpjinaaDoor.Crc Go.Proofs.YtmoidifdbpjinaaDoor.WalkSum Go.Proofs.YtmoidifdbpjinaaDoorW.PrintWords Go.Proofs.YtmoidifdbpjinaaDoorW.PrintLast Go.Proofs.YtmoidifdbpjinaaDoorW.PrintMore
set_option linter.unusedVariables false
set_option linter.unusedSimpArgs false

theorem info5 : (Tryd.prog.info? 5).map (fun i => (i.zero, i.size, i.bytes)) = some (some (.int .u8 0), 1, 1) := by kernel_rfl
theorem xor_byte {x y : Int} (hx0 : 0 ≤ x) (hx : x < 256) (hy0 : 0 ≤ y) (hy : y < 256) (hne : y ≠ 0) : 0 ≤ bits .xor .u8 x y ∧ bits .xor .u8 x y < 256 ∧ bits .xor .u8 x y ≠ x := by
  rw [u8_xor x y hx0 hx hy0 hy]
  have h1 : x.toNat ^^^ y.toNat < 2 ^ 8 := Nat.xor_lt_two_pow (by omega) (by omega)
  refine ⟨by omega, by omega, fun h => hne ?_⟩
  have h2 : x.toNat ^^^ y.toNat = x.toNat := by omega
  have h3 : x.toNat ^^^ (x.toNat ^^^ y.toNat) = x.toNat ^^^ x.toNat := by rw [h2]
  rw [← Nat.xor_assoc, Nat.xor_self, Nat.zero_xor] at h3
  omega
theorem turned (l : List Int) (i y : Int) (h0 : 0 ≤ i) (h1 : i < (l.length : Int)) (hb : ∀ c ∈ l, 0 ≤ c ∧ c < 256) (hy0 : 0 ≤ y) (hy : y < 256) (hne : y ≠ rd l i) : (num (sumOf (l.set i.toNat y)) != num (sumOf l)) = true ∧ (num (sumOf (l.set i.toNat y)) == num (sumOf l)) = false := by
  have hl : i.toNat < l.length := by omega
  have e : rd l i = l[i.toNat] := by
    unfold rd
    rw [List.getD_eq_getElem?_getD, List.getElem?_eq_getElem hl]; rfl
  have h : num (sumOf (l.set i.toNat y)) ≠ num (sumOf l) := by
    intro h
    have h2 := num_inj h
    rw [sumOf_eq, sumOf_eq] at h2
    have h3 : ~~~ ~~~ run 4294967295#32 (l.set i.toNat y) = ~~~ ~~~ run 4294967295#32 l := by rw [h2]
    rw [BitVec.not_not, BitVec.not_not] at h3
    exact run_turned l _ i.toNat y hl hb hy0 hy (by rw [← e]; exact hne) h3
  exact ⟨bne_iff_ne.2 h, beq_eq_false_iff_ne.2 h⟩
set_option maxHeartbeats 4000000 in
set_option maxRecDepth 100000 in
theorem sumTurnedLaw (A0 : Option Addr) (c0 : Nat) (l0 : List Int) (at_ by_ : Int) (w : World) (hT : Tab w) (hr0 : Kd.C (Kd.int .u8) w A0 l0.length l0) (hc0 : l0.length ≤ c0) (hb0 : ∀ x ∈ l0, 0 ≤ x ∧ x < 256) (hy : 0 ≤ by_ ∧ by_ < 256) (ha : -9223372036854775808 ≤ at_ ∧ at_ ≤ 9223372036854775807) :
    Calls Tryd.prog 5 #[.slice A0 l0.length c0, .int .i64 at_, .int .u8 by_] w fun e w' => e = .returned (.bool true) ∧ Below w.heap.size w w' := by
  have HT := Aside0.mk hT
  have HB := Aside0.mk (Below.refl w.heap.size w)
  clear hT
  have HR0 := Aside0.mk hr0
  have HB0 := Aside0.mk hb0
  clear hr0 hb0
  by_cases h : l0.length > 3000
  · have q : decide (3000 < (l0.length : Int)) = true := decide_eq_true (by omega)
    have q' : decide (3000 < l0.length) = true := decide_eq_true (by omega)
    clear h
    go_enter Tryd.func5, Tryd.ntmps5
    go_wp2_with fail
    refine (awake_calls _ (tab_below HT.out (by repeat (first | (with_reducible first | exact HB.out | apply below_alloc | apply pw_below_drewN | apply below_drew1) | exact HB.out)))).mono ?_
    rintro e w7 ⟨rfl, hb⟩
    have n0_ := Aside0.mk (below_step (by repeat (first | (with_reducible first | exact HB.out | apply below_alloc | apply pw_below_drewN | apply below_drew1) | exact HB.out)) hb)
    clear HB hb
    have HB := n0_
    clear n0_
    go_wp2
    go_ret
    exact ⟨by first | rfl | (simp; done), (by repeat (first | (with_reducible first | exact HB.out | apply below_alloc | apply pw_below_drewN | apply below_drew1) | exact HB.out))⟩
  · have q : decide (3000 < (l0.length : Int)) = false := decide_eq_false (by omega)
    have q' : decide (3000 < l0.length) = false := decide_eq_false (by omega)
    by_cases h1 : at_ < 0
    · have r : decide (at_ < 0) = true := decide_eq_true (by omega)
      clear h1
      go_enter Tryd.func5, Tryd.ntmps5
      go_wp2_with fail
      refine (awake_calls _ (tab_below HT.out (by repeat (first | (with_reducible first | exact HB.out | apply below_alloc | apply pw_below_drewN | apply below_drew1) | exact HB.out)))).mono ?_
      rintro e w7 ⟨rfl, hb⟩
      have n0_ := Aside0.mk (below_step (by repeat (first | (with_reducible first | exact HB.out | apply below_alloc | apply pw_below_drewN | apply below_drew1) | exact HB.out)) hb)
      clear HB hb
      have HB := n0_
      clear n0_
      go_wp2
      go_ret
      exact ⟨by first | rfl | (simp; done), (by repeat (first | (with_reducible first | exact HB.out | apply below_alloc | apply pw_below_drewN | apply below_drew1) | exact HB.out))⟩
    · have r : decide (at_ < 0) = false := decide_eq_false (by omega)
      by_cases h2 : (l0.length : Int) ≤ at_
      · have s : decide ((l0.length : Int) ≤ at_) = true := decide_eq_true (by omega)
        clear h1 h2
        go_enter Tryd.func5, Tryd.ntmps5
        go_wp2_with fail
        refine (awake_calls _ (tab_below HT.out (by repeat (first | (with_reducible first | exact HB.out | apply below_alloc | apply pw_below_drewN | apply below_drew1) | exact HB.out)))).mono ?_
        rintro e w7 ⟨rfl, hb⟩
        have n0_ := Aside0.mk (below_step (by repeat (first | (with_reducible first | exact HB.out | apply below_alloc | apply pw_below_drewN | apply below_drew1) | exact HB.out)) hb)
        clear HB hb
        have HB := n0_
        clear n0_
        go_wp2
        go_ret
        exact ⟨by first | rfl | (simp; done), (by repeat (first | (with_reducible first | exact HB.out | apply below_alloc | apply pw_below_drewN | apply below_drew1) | exact HB.out))⟩
      · have s : decide ((l0.length : Int) ≤ at_) = false := decide_eq_false (by omega)
        by_cases h3 : by_ = 0
        · have t : (by_ == 0) = true := beq_iff_eq.2 h3
          clear h1 h2 h3
          go_enter Tryd.func5, Tryd.ntmps5
          go_wp2_with fail
          refine (awake_calls _ (tab_below HT.out (by repeat (first | (with_reducible first | exact HB.out | apply below_alloc | apply pw_below_drewN | apply below_drew1) | exact HB.out)))).mono ?_
          rintro e w7 ⟨rfl, hb⟩
          have n0_ := Aside0.mk (below_step (by repeat (first | (with_reducible first | exact HB.out | apply below_alloc | apply pw_below_drewN | apply below_drew1) | exact HB.out)) hb)
          clear HB hb
          have HB := n0_
          clear n0_
          go_wp2
          go_ret
          exact ⟨by first | rfl | (simp; done), (by repeat (first | (with_reducible first | exact HB.out | apply below_alloc | apply pw_below_drewN | apply below_drew1) | exact HB.out))⟩
        · have t : (by_ == 0) = false := beq_eq_false_iff_ne.2 h3
          have a0 : 0 ≤ at_ := by omega
          have a1 : at_ < (l0.length : Int) := by omega
          have hc := HB0.out (rd l0 at_) (by unfold rd; rw [List.getD_eq_getElem?_getD, List.getElem?_eq_getElem (by omega)]; exact List.getElem_mem _)
          obtain ⟨z0, z1, zne⟩ := xor_byte hc.1 hc.2 hy.1 hy.2 h3
          obtain ⟨tn, te⟩ := turned l0 at_ _ a0 a1 HB0.out z0 z1 zne
          have TN := Aside0.mk tn
          have hbs : ∀ x ∈ l0.set at_.toNat (bits .xor .u8 (rd l0 at_) by_), 0 ≤ x ∧ x < 256 := by
            intro x hx
            rcases List.mem_or_eq_of_mem_set hx with h | rfl
            · exact HB0.out x h
            · exact ⟨z0, z1⟩
          have HBS := Aside0.mk hbs
          have hlen : l0.length ≤ 140737488351232 := by omega
          clear hbs tn te z0 z1 zne hc h1 h2 h3
          go_enter Tryd.func5, Tryd.ntmps5
          go_upto_region 4 with (first | ((with_reducible refine gate_dst (N := 26) rfl ?_); refine Kd.R_lit (Kd.int .u8) (w0 := w) w.heap.size 5 rfl rfl (xs := []) (inner := []) (ok := fun _ => True) (okp := fun _ => False) ?h1_a ⟨rfl, fun j p h => by simp at h⟩ (fun _ h => h.elim) trivial (by repeat (first | (with_reducible first | exact HB.out | apply below_alloc | apply pw_below_drewN | apply below_drew1) | exact HB.out)) (below_size (by repeat (first | (with_reducible first | exact HB.out | apply below_alloc | apply pw_below_drewN | apply below_drew1) | exact HB.out))) (by simp) ?_; (case h1_a => first | (go_simp; done) | (go_simp; rfl)); intro va wa HOa hB_ hga hata; have n0_ := Aside0.mk hB_; clear HB; have HB := n0_; clear n0_ hB_) | ((with_reducible refine gate_dst (N := 28) rfl ?_); refine Kd.R_append_rows (Kd.int .u8) (w0 := w) w.heap.size rfl (.tmp 26) (.tmp 27) 22 5 (.int .u8 0) 1 rfl Tryd.underlying22 info5 rfl (by decide) (by decide) va [] l0 A0 l0.length c0 (fun _ => True) (fun _ => False) rfl rfl HOa (Kd.C_below HR0.out HB.out) (fun _ _ h => h) (fun _ h => h.elim) (fun _ _ => trivial) (by repeat (first | (with_reducible first | exact HB.out | apply below_alloc | apply pw_below_drewN | apply below_drew1) | exact HB.out)) (below_size (by repeat (first | (with_reducible first | exact HB.out | apply below_alloc | apply pw_below_drewN | apply below_drew1) | exact HB.out))) (by simp; omega) ?_; intro vb wb HOb hB_ hgb hatb; have n0_ := Aside0.mk hB_; clear HB; have HB := n0_; clear n0_ hB_))
          rw [List.nil_append] at HOb
          obtain ⟨g, cap, rfl, hgb, _⟩ := Kd.R_form HOb (by omega)
          obtain ⟨Ab, cb, eb, hlb, HCb⟩ := Kd.R_reads HOb
          injection eb with e1 e2 e3
          subst e1 e3
          clear e2
          obtain ⟨ad, ead, hx⟩ := Kd.at_int HCb at_ a0 a1
          injection ead with ead
          subst ead
          have hcell : wb.cell? ⟨g, at_.toNat, none⟩ = some (.int .u8 (rd l0 at_)) := by rw [show (⟨g, 0, none⟩ : Addr).add at_.toNat = ⟨g, at_.toNat, none⟩ by simp [Addr.add]; omega] at hx; exact hx
          have hfz : wb.frozen? ⟨g, at_.toNat, none⟩ = false := (Kd.own_of_R HOb).frozenAt _
          clear hx HCb
          go_wp2_with fail
          obtain ⟨HOs, hgs⟩ := Kd.R_put HOb at_ (bits .xor .u8 (rd l0 at_) by_)
          obtain ⟨As, cs, es, hls, HCs⟩ := Kd.R_reads HOs
          injection es with e1 e2 e3
          subst e1 e3
          clear e2
          have n0_ := Aside0.mk (show Below w.heap.size w (wb.setCell ⟨g, at_.toNat, none⟩ (.int .u8 (bits .xor .u8 (rd l0 at_) by_))) by refine below_set ?_ hgb; exact HB.out)
          clear HB
          have HB := n0_
          clear n0_
          have K1 := of_calls (some ⟨g, 0, none⟩) cap (l0.set at_.toNat (bits .xor .u8 (rd l0 at_) by_)) (wb.setCell ⟨g, at_.toNat, none⟩ (.int .u8 (bits .xor .u8 (rd l0 at_) by_))) (tab_below HT.out HB.out) HCs HBS.out
          rw [List.length_set] at K1
          obtain ⟨n1, hn1⟩ : ∃ n1, n1 = num (sumOf (l0.set at_.toNat (bits .xor .u8 (rd l0 at_) by_))) := ⟨_, rfl⟩
          rw [← hn1] at K1
          have tn0 := TN.out
          rw [← hn1] at tn0
          have TN1 := Aside0.mk tn0
          clear hn1 tn0 TN
          refine K1.mono ?_
          rintro e w5 ⟨rfl, rfl⟩
          clear K1 HCs hls HOs hgs hcell hfz HOb hatb
          go_wp2_with fail
          refine (of_calls A0 c0 l0 _ (tab_below HT.out (by repeat (first | (with_reducible first | exact HB.out | apply below_alloc | apply pw_below_drewN | apply below_drew1) | exact HB.out))) (Kd.C_below HR0.out (by repeat (first | (with_reducible first | exact HB.out | apply below_alloc | apply pw_below_drewN | apply below_drew1) | exact HB.out))) HB0.out).mono ?_
          rintro e w5 ⟨rfl, rfl⟩
          have tn := TN1.out
          go_wp2_with fail
          refine (of_calls A0 c0 l0 _ (tab_below HT.out (by repeat (first | (with_reducible first | exact HB.out | apply below_alloc | apply pw_below_drewN | apply below_drew1) | exact HB.out))) (Kd.C_below HR0.out (by repeat (first | (with_reducible first | exact HB.out | apply below_alloc | apply pw_below_drewN | apply below_drew1) | exact HB.out))) HB0.out).mono ?_
          rintro e w5 ⟨rfl, rfl⟩
          go_wp2_with fail
          refine (ref_calls A0 c0 l0 _ (Kd.C_below HR0.out (by repeat (first | (with_reducible first | exact HB.out | apply below_alloc | apply pw_below_drewN | apply below_drew1) | exact HB.out))) hc0 hlen HB0.out).mono ?_
          rintro e w6 ⟨rfl, hd⟩
          have n0_ := Aside0.mk (below_step (by repeat (first | (with_reducible first | exact HB.out | apply below_alloc | apply pw_below_drewN | apply below_drew1) | exact HB.out)) hd.below)
          clear HB hd
          have HB := n0_
          clear n0_
          go_wp2_with fail
          refine (awake_calls _ (tab_below HT.out (by repeat (first | (with_reducible first | exact HB.out | apply below_alloc | apply pw_below_drewN | apply below_drew1) | exact HB.out)))).mono ?_
          rintro e w7 ⟨rfl, hb⟩
          have n0_ := Aside0.mk (below_step (by repeat (first | (with_reducible first | exact HB.out | apply below_alloc | apply pw_below_drewN | apply below_drew1) | exact HB.out)) hb)
          clear HB hb
          have HB := n0_
          clear n0_
          go_wp2
          go_ret
          exact ⟨by first | rfl | (simp; done), (by repeat (first | (with_reducible first | exact HB.out | apply below_alloc | apply pw_below_drewN | apply below_drew1) | exact HB.out))⟩
end Go.Proofs.YtmoidifdbpjinaaDoor.WalkSum
