/- What Update, Of, the reference's Of and awake do: they tell the sums, and change nothing. -/
import Derived.Test.YtmoidifdbpjinaaDoorPSumOfx1
import Derived.Test.YtmoidifdbpjinaaDoorCrc
namespace Go.Proofs.YtmoidifdbpjinaaDoor.WalkSum
open Go.RowKit Go.Proofs.YtmoidifdbpjinaaDoor.PSumOf Go.Proofs.YtmoidifdbpjinaaDoor.Crc Go.Proofs.YtmoidifdbpjinaaDoorW.PrintWords Go.Proofs.YtmoidifdbpjinaaDoorW.PrintLast Go.Proofs.YtmoidifdbpjinaaDoorW.PrintMore
set_option linter.unusedVariables false
set_option linter.unusedSimpArgs false

/-- A number of 32 bits as the machine holds it. -/
def num (n : BitVec 32) : Int := (n.toNat : Int)
theorem num_lt (n : BitVec 32) : num n < 4294967296 := by unfold num; have := n.isLt; omega
theorem num_ge (n : BitVec 32) : 0 ≤ num n := by unfold num; omega
theorem num_inj {a b : BitVec 32} (h : num a = num b) : a = b := by
  unfold num at h
  exact BitVec.eq_of_toNat_eq (by omega)
theorem bits_xor (a b : BitVec 32) : bits .xor .u32 (num a) (num b) = num (a ^^^ b) := by
  unfold num
  rw [u32_xor_nat _ _ a.isLt b.isLt, BitVec.toNat_xor]
theorem bits_and (a b : BitVec 32) : bits .and .u32 (num a) (num b) = num (a &&& b) := by
  unfold num
  rw [u32_and_nat _ _ a.isLt b.isLt, BitVec.toNat_and]
theorem num_byte {c : Int} (h0 : 0 ≤ c) (h1 : c < 256) : c % 4294967296 = num (by32 c) := by
  unfold num by32
  rw [BitVec.toNat_ofNat]
  omega
theorem num_shr (n : BitVec 32) (k : Nat) : num n / (2 ^ k : Nat) = num (n >>> k) := by
  unfold num
  rw [BitVec.toNat_ushiftRight, Nat.shiftRight_eq_div_pow]
  rfl
theorem num_not (n : BitVec 32) : bits .xor .u32 4294967295 (num n) = num (~~~ n) := by
  rw [show (4294967295 : Int) = num 4294967295#32 from rfl, bits_xor]
  have key : ∀ j : Fin 32, (4294967295#32).getLsbD j.val = true := by decide +kernel
  have e : 4294967295#32 ^^^ n = ~~~ n := by
    apply BitVec.eq_of_getLsbD_eq
    intro i hi
    rw [BitVec.getLsbD_xor, BitVec.getLsbD_not, key ⟨i, hi⟩, decide_eq_true hi]
    cases n.getLsbD i <;> rfl
  rw [e]
/-- The table as the machine holds it. -/
def Tab (w : World) : Prop := ∀ i, i < 16 → w.cell? ⟨0, i, none⟩ = some (.int .u32 (num (TB.getD i 0)))
/-- One half of a byte, in the walk's own words. -/
theorem half {w : World} (hT : Tab w) (n : BitVec 32) : ∃ (k : Nat) (t : Int), bits .and .u32 (num n) 15 = (k : Int) ∧ k < 16 ∧ w.cell? ⟨0, k, none⟩ = some (.int .u32 t) ∧ bits .xor .u32 t (num n / 16) = num (b4 n) := by
  have hlow : (n &&& 15#32).toNat < 16 := by
    rw [BitVec.toNat_and]
    exact Nat.lt_of_le_of_lt Nat.and_le_right (by decide)
  refine ⟨(n &&& 15#32).toNat, num (TB.getD (n &&& 15#32).toNat 0), ?_, hlow, hT _ hlow, ?_⟩
  · rw [show (15 : Int) = num 15#32 from rfl, bits_and]; rfl
  · rw [show (16 : Int) = ((2 ^ 4 : Nat) : Int) from rfl, num_shr, bits_xor, nib_eq]
theorem num_eq (n : BitVec 32) : ∃ x : Int, x = num n ∧ 0 ≤ x ∧ x < 4294967296 := ⟨_, rfl, num_ge n, num_lt n⟩

theorem run_next {l : List Int} {i : Int} (h0 : 0 ≤ i) (h1 : i < (l.length : Int)) (n : BitVec 32) : run n (l.drop i.toNat) = run (b8 (n ^^^ by32 (rd l i))) (l.drop (i + 1).toNat) := by
  have hl : i.toNat < l.length := by omega
  have e : rd l i = l[i.toNat] := by
    unfold rd
    rw [List.getD_eq_getElem?_getD, List.getElem?_eq_getElem hl]; rfl
  rw [List.drop_eq_getElem_cons hl, show (i + 1).toNat = i.toNat + 1 by omega, e]
  rfl

set_option maxHeartbeats 1000000 in
set_option maxRecDepth 100000 in
theorem upd_calls (n : BitVec 32) (A : Option Addr) (c : Nat) (l : List Int) (w : World) (hT : Tab w) (hr : Kd.C (Kd.int .u8) w A l.length l) (hb : ∀ x ∈ l, 0 ≤ x ∧ x < 256) :
    Calls Tryd.prog 11 #[.int .u32 (num n), .slice A l.length c] w fun e w' => e = .returned (.int .u32 (num (upd n l))) ∧ w = w' := by
  have hs32 : IntKind.u32.signed = false := rfl
  have hm32 : IntKind.u32.max = 4294967295 := rfl
  have HT := Aside0.mk hT
  have HR := Aside0.mk hr
  have HBY := Aside0.mk hb
  have hl : l.length ≤ 9223372036854775807 := hr.2.1
  clear hT hr hb
  obtain ⟨n0, e0, _, _⟩ := num_eq n
  rw [← e0]
  obtain ⟨n1, e1, _, _⟩ := num_eq (~~~ n)
  have f1 : bits .xor .u32 4294967295 n0 = n1 := by rw [e0, e1, num_not]
  have E1 := Aside0.mk e1
  clear e0 e1
  go_enter Tryd.func11, Tryd.ntmps11
  go_wp2_with fail
  clear f1
  go_loop [0, 6, 11] (fun v0 v6 v11 => ∃ (m : Int) (N : BitVec 32) (i : Int), v0 = .int .u32 m ∧ v11 = .int .i64 i ∧ Aside0 (m = num N ∧ 0 ≤ i ∧ i ≤ l.length ∧ ~~~ run N (l.drop i.toNat) = upd n l)) (fun _ _ i => l.length - (intOf i).toNat)
  case atStart => exact ⟨_, ~~~ n, 0, rfl, rfl, ⟨E1.out, by omega, by omega, rfl⟩⟩
  case round =>
    obtain ⟨m, N, i, rfl, rfl, HA⟩ := hrel
    obtain ⟨em, i0, i1, hrun⟩ := HA.out
    have EM := Aside0.mk em
    have RUN := Aside0.mk hrun
    clear em hrun HA
    by_cases hlt : i < (l.length : Int)
    · obtain ⟨ad, ead, hx⟩ := Kd.at_int HR.out i i0 hlt
      cases ead
      have hc : 0 ≤ rd l i ∧ rd l i < 256 := HBY.out _ (by
        unfold rd
        rw [List.getD_eq_getElem?_getD, List.getElem?_eq_getElem (by omega)]
        exact List.getElem_mem _)
      obtain ⟨x1, ex1, _, _⟩ := num_eq (N ^^^ by32 (rd l i))
      have f1 : bits .xor .u32 m (rd l i % 4294967296) = x1 := by rw [EM.out, num_byte hc.1 hc.2, bits_xor, ex1]
      obtain ⟨k1, t1, g1, hk1, hc1, g2⟩ := half HT.out (N ^^^ by32 (rd l i))
      rw [← ex1] at g1 g2
      obtain ⟨x2, ex2, _, _⟩ := num_eq (b4 (N ^^^ by32 (rd l i)))
      rw [← ex2] at g2
      obtain ⟨k2, t2, g3, hk2, hc2, g4⟩ := half HT.out (b4 (N ^^^ by32 (rd l i)))
      rw [← ex2] at g3 g4
      obtain ⟨x3, ex3, _, _⟩ := num_eq (b4 (b4 (N ^^^ by32 (rd l i))))
      rw [← ex3] at g4
      have EX3 := Aside0.mk ex3
      have RUN' := Aside0.mk (show ~~~ run (b8 (N ^^^ by32 (rd l i))) (l.drop (i + 1).toNat) = upd n l by rw [← run_next i0 hlt]; exact RUN.out)
      clear ex1 ex2 ex3 hc RUN
      have hk1' : (k1 : Int) < 16 := by omega
      have hk2' : (k2 : Int) < 16 := by omega
      go_wp2
      go_round
      case rel => exact ⟨_, b8 (N ^^^ by32 (rd l i)), i + 1, rfl, by go_num, ⟨EX3.out, by omega, by omega, RUN'.out⟩⟩
      case measure => simp [intOf]; omega
    · have hge : i = (l.length : Int) := by omega
      have hN : ~~~ N = upd n l := by
        have := RUN.out
        rw [hge, Int.toNat_natCast, List.drop_length] at this
        exact this
      have f2 : bits .xor .u32 4294967295 m = num (upd n l) := by rw [EM.out, num_not, hN]
      clear hge hN RUN EM
      go_wp2
      go_ret
      exact ⟨rfl, rfl⟩

theorem num_zero : num 0#32 = 0 := rfl
set_option maxHeartbeats 1000000 in
theorem of_calls (A : Option Addr) (c : Nat) (l : List Int) (w : World) (hT : Tab w) (hr : Kd.C (Kd.int .u8) w A l.length l) (hb : ∀ x ∈ l, 0 ≤ x ∧ x < 256) :
    Calls Tryd.prog 9 #[.slice A l.length c] w fun e w' => e = .returned (.int .u32 (num (sumOf l))) ∧ w = w' := by
  have HU := Aside0.mk (upd_calls 0#32 A c l w hT hr hb)
  clear hT hr hb
  go_enter Tryd.func9, Tryd.ntmps9
  go_wp2_with fail
  refine (show Calls Tryd.prog 11 #[.int .u32 0, .slice A l.length c] w _ from HU.out).mono ?_
  rintro e w' ⟨rfl, rfl⟩
  go_wp2
  go_ret
  exact ⟨rfl, rfl⟩

/-! ### The reference's sum, bit by bit -/
theorem ref_bit (k : Nat) (l : List Int) (N : BitVec 32) (i : Int) (j : Nat) (hj : j < 8) : coupletref11_Of.l1 (k + 1) l (num N) i (j : Int) = coupletref11_Of.l1 k l (num (b1 N)) i ((j + 1 : Nat) : Int) := by
  rw [coupletref11_Of.l1, if_pos (by omega)]
  have hw : wrap64 ((j : Int) + 1) = ((j + 1 : Nat) : Int) := by unfold wrap64; omega
  have hge := num_ge N
  have hlt := num_lt N
  have hd : (Int.tdiv (num N) 2) % (4294967296 : Int) = num (N >>> 1) := by
    rw [Int.tdiv_eq_ediv_of_nonneg hge, ← num_shr N 1]
    show num N / 2 % 4294967296 = num N / 2
    omega
  have hm : Int.tmod (num N) 2 = 1 ↔ N.getLsbD 0 = true := by
    rw [Int.tmod_eq_emod_of_nonneg hge]
    unfold num
    rw [show N.getLsbD 0 = N.toNat.testBit 0 from rfl, Nat.testBit_zero, decide_eq_true_iff]
    omega
  rw [hd, hw]
  unfold b1
  by_cases h : N.getLsbD 0 = true
  · rw [if_pos (hm.2 h), if_pos h, show (3988292384 : Int) = num P from rfl, bits_xor]
  · rw [if_neg (fun hh => h (hm.1 hh)), if_neg h]
theorem ref_byte (k : Nat) (l : List Int) (N : BitVec 32) (i : Nat) (h0 : i < l.length) (hi : i ≤ 140737488351232) (hc : 0 ≤ rd l i ∧ rd l i < 256) :
    coupletref11_Of.l0 (k + 10) l (num N) (i : Int) = coupletref11_Of.l0 k l (num (b8 (N ^^^ by32 (rd l i)))) ((i + 1 : Nat) : Int) := by
  rw [coupletref11_Of.l0, if_pos (by omega), if_pos (by omega), num_byte hc.1 hc.2, bits_xor]
  rw [show (0 : Int) = ((0 : Nat) : Int) from rfl, ref_bit _ _ _ _ 0 (by omega), ref_bit _ _ _ _ 1 (by omega), ref_bit _ _ _ _ 2 (by omega), ref_bit _ _ _ _ 3 (by omega), ref_bit _ _ _ _ 4 (by omega), ref_bit _ _ _ _ 5 (by omega), ref_bit _ _ _ _ 6 (by omega), ref_bit _ _ _ _ 7 (by omega)]
  rw [coupletref11_Of.l1, if_neg (by omega), show wrap64 ((i : Int) + 1) = ((i + 1 : Nat) : Int) by unfold wrap64; omega]
  rfl
theorem ref_run (l : List Int) (hl : l.length ≤ 140737488351232) (hb : ∀ x ∈ l, 0 ≤ x ∧ x < 256) : ∀ (d i : Nat) (N : BitVec 32), i + d = l.length →
    coupletref11_Of.l0 (10 * d + 1) l (num N) (i : Int) = some (num (~~~ run N (l.drop i))) := by
  intro d
  induction d with
  | zero =>
    intro i N hi
    rw [coupletref11_Of.l0, if_neg (by omega), List.drop_eq_nil_of_le (by omega), show (4294967295 : Int) = num 4294967295#32 from rfl, bits_xor, BitVec.xor_comm, ← bits_xor, show num 4294967295#32 = (4294967295 : Int) from rfl, num_not]
    rfl
  | succ d ih =>
    intro i N hi
    have hlt : i < l.length := by omega
    have hc : 0 ≤ rd l (i : Int) ∧ rd l (i : Int) < 256 := hb _ (by
      unfold rd
      rw [Int.toNat_natCast, List.getD_eq_getElem?_getD, List.getElem?_eq_getElem hlt]
      exact List.getElem_mem _)
    rw [show 10 * (d + 1) + 1 = (10 * d + 1) + 10 by omega, ref_byte _ l N i hlt (by omega) hc, ih (i + 1) _ (by omega)]
    have := run_next (l := l) (i := (i : Int)) (by omega) (by omega) N
    rw [Int.toNat_natCast] at this
    rw [this]
    rfl
theorem ref_calls (A : Option Addr) (c : Nat) (l : List Int) (w : World) (hr : Kd.C (Kd.int .u8) w A l.length l) (hc : l.length ≤ c) (hl : l.length ≤ 140737488351232) (hb : ∀ x ∈ l, 0 ≤ x ∧ x < 256) :
    Calls Tryd.prog 10 #[.slice A l.length c] w fun e w' => e = .returned (.int .u32 (num (sumOf l))) ∧ Drawn0 w w' := by
  refine coupletref11_Of.calls (10 * l.length + 1) A c l _ w hr hc ?_
  unfold coupletref11_Of.f
  have := ref_run l hl hb l.length 0 4294967295#32 (by omega)
  rw [show num 4294967295#32 = (4294967295 : Int) from rfl, show ((0 : Nat) : Int) = 0 from rfl, List.drop_zero] at this
  rw [this, sumOf_eq]
end Go.Proofs.YtmoidifdbpjinaaDoor.WalkSum
