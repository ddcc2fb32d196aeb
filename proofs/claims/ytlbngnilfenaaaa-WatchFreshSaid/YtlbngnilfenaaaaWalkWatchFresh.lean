/- What WatchFresh does, for any events: it returns true, and nothing that was there has turned. No condition. The closure's own loop goes on from step to step. -/
import Derived.Test.YtlbngnilfenaaaaStepWatchFresh
namespace Go.Proofs.Ytlbngnilfenaaaa.WalkFresh
open Go.RowKit Go.Proofs.Ytlbngnilfenaaaa.PWatchFresh Go.Proofs.Ytlbngnilfenaaaa.StepWatchFresh Go.Proofs.YtlbngnilfenaaaaW.PrintWords Go.Proofs.YtlbngnilfenaaaaW.PrintLast Go.Proofs.YtlbngnilfenaaaaW.PrintMore
set_option linter.unusedVariables false
set_option linter.unusedSimpArgs false
attribute [local go_sem high] eqA23


/-- What is held while the closure runs: e, l (old or the caller's), the result's block and w's. -/
structure St (w W : World) (ge gl g4 g5 : Nat) (kd : Int) (A2 : Option Addr) (n2 c2 : Nat) : Prop where
  below : Below w.heap.size w W
  be : W.heap[ge]? = some (.cells #[.int .i64 kd, .int .i64 0] 29 (0, 0))
  bl : W.heap[gl]? = some (.cells #[.slice A2 n2 c2] 24 (0, 0))
  b4 : W.heap[g4]? = some (.cells #[.int .i64 0, .int .i64 0, .int .i64 0, .int .i64 0] 23 (0, 0))
  b5 : W.heap[g5]? = some (.cells #[.int .i64 0, .int .i64 0, .int .i64 0, .int .i64 0] 23 (0, 0))
  le : ge < w.heap.size
  ll : gl < w.heap.size
section
variable {w W W1 : World} {ge gl g4 g5 : Nat} {kd : Int} {A2 : Option Addr} {n2 c2 : Nat}
theorem St.drew (h : St w W ge gl g4 g5 kd A2 n2 c2) : St w W.drew ge gl g4 g5 kd A2 n2 c2 := ⟨below_drew1 h.below, h.be, h.bl, h.b4, h.b5, h.le, h.ll⟩
theorem St.grown (h : St w W ge gl g4 g5 kd A2 n2 c2) {row : Option Nat} (hg : W.grownBy W1 row) (h4 : some g4 ≠ row) (h5 : some g5 ≠ row) (hr : ∀ k, row = some k → w.heap.size ≤ k) : St w W1 ge gl g4 g5 kd A2 n2 c2 :=
  ⟨h.below.grown hg (below_size h.below) hr, blk_grown h.be hg (fun e => by have := hr _ e.symm; have := h.le; omega), blk_grown h.bl hg (fun e => by have := hr _ e.symm; have := h.ll; omega), blk_grown h.b4 hg h4, blk_grown h.b5 hg h5, h.le, h.ll⟩
theorem St.ca (h : St w W ge gl g4 g5 kd A2 n2 c2) : W.cell? ⟨ge, 0, none⟩ = some (.int .i64 kd) := (blk_cell h.be 0).trans rfl
theorem St.cb (h : St w W ge gl g4 g5 kd A2 n2 c2) : W.cell? ⟨ge, 1, none⟩ = some (.int .i64 0) := (blk_cell h.be 1).trans rfl
theorem St.cl (h : St w W ge gl g4 g5 kd A2 n2 c2) : W.cell? ⟨gl, 0, none⟩ = some (.slice A2 n2 c2) := (blk_cell h.bl 0).trans rfl
end
theorem reps_single {α : Type} {R : α → List Value → Prop} {size : Nat} {p : α} {cs : List Value} (h : R p cs) (hs : cs.length = size) : Reps R size [p] cs := by
  simpa using Reps.snoc (Reps.none R size) h hs

/-- The watch behind all of the events. -/
def foldW (m l c s : Int) : List S29 → Int × Int × Int × Int
  | [] => (m, l, c, s)
  | e :: r => foldW (stepW m l c s e.f0 e.f1).1 (stepW m l c s e.f0 e.f1).2.1 (stepW m l c s e.f0 e.f1).2.2.1 (stepW m l c s e.f0 e.f1).2.2.2 r

theorem foldW_append (a b : List S29) : ∀ m l c s, foldW m l c s (a ++ b) = foldW (foldW m l c s a).1 (foldW m l c s a).2.1 (foldW m l c s a).2.2.1 (foldW m l c s a).2.2.2 b := by
  induction a with
  | nil => intro m l c s; rfl
  | cons e r ih => intro m l c s; simp only [List.cons_append, foldW, ih]
theorem foldW_R (a : List S29) : ∀ m l c s, R m l c s = true → R (foldW m l c s a).1 (foldW m l c s a).2.1 (foldW m l c s a).2.2.1 (foldW m l c s a).2.2.2 = true := by
  induction a with
  | nil => intro m l c s h; exact h
  | cons e r ih => intro m l c s h; exact ih _ _ _ _ (stepW_R h)
/-- Behind Begin (1), and Reset (5), nothing is left of what was ahead. -/
theorem foldW_fresh (a b : List S29) (kd : Int) (hk : kd = 1 ∨ kd = 5) : foldW 0 0 0 0 (a ++ [(⟨kd, 0⟩ : S29)] ++ b) = foldW (if kd = 1 then 1 else 0) 0 0 0 b := by
  rw [List.append_assoc, foldW_append]
  have hR := foldW_R a 0 0 0 0 (by decide)
  generalize foldW 0 0 0 0 a = q at hR
  obtain ⟨m, l, c, s⟩ := q
  have e : stepW m l c s kd 0 = ((if kd = 1 then 1 else 0), 0, 0, 0) := by
    unfold stepW
    rw [if_neg (by rw [hR]; simp; omega)]
    rcases hk with rfl | rfl
    · simp
    · simp
  show foldW m l c s ((⟨kd, 0⟩ : S29) :: b) = _
  simp only [foldW]
  rw [e]
theorem foldW_next {xs : List S29} {i : Int} (h0 : 0 ≤ i) (h1 : i < (xs.length : Int)) (m l c s : Int) : foldW m l c s (xs.drop i.toNat) =
    foldW (stepW m l c s (rd_T29 xs i).f0 (rd_T29 xs i).f1).1 (stepW m l c s (rd_T29 xs i).f0 (rd_T29 xs i).f1).2.1 (stepW m l c s (rd_T29 xs i).f0 (rd_T29 xs i).f1).2.2.1 (stepW m l c s (rd_T29 xs i).f0 (rd_T29 xs i).f1).2.2.2 (xs.drop (i + 1).toNat) := by
  have hl : i.toNat < xs.length := by omega
  have e : rd_T29 xs i = xs[i.toNat] := by
    unfold rd_T29
    rw [List.getD_eq_getElem?_getD, List.getElem?_eq_getElem hl]; rfl
  rw [List.drop_eq_getElem_cons hl, show (i + 1).toNat = i.toNat + 1 by omega, e]
  rfl

set_option maxHeartbeats 8000000 in
set_option maxRecDepth 100000 in
theorem end_calls (A0 : Option Addr) (c0 : Nat) (first : List S29) (kd : Int) (A2 : Option Addr) (c2 : Nat) (ls : List S29) (ge gl : Nat) (w : World) (hr0 : Kd.C k29 w A0 first.length first) (h0 : first.length ≤ 100) (hr2 : Kd.C k29 w A2 ls.length ls) (h2 : ls.length ≤ 100)
    (he : w.heap[ge]? = some (.cells #[.int .i64 kd, .int .i64 0] 29 (0, 0))) (hl : w.heap[gl]? = some (.cells #[.slice A2 ls.length c2] 24 (0, 0))) (r1 r2 r3 r4 : Int) (hres : foldW 0 0 0 0 (first ++ [(⟨kd, 0⟩ : S29)] ++ ls) = (r1, r2, r3, r4)) :
    Calls Try.prog 11 #[.slice A0 first.length c0, .pointer (some ⟨ge, 0, none⟩), .pointer (some ⟨gl, 0, none⟩)] w fun e w' => e = .returned (.agg #[.int .i64 r1, .int .i64 r2, .int .i64 r3, .int .i64 r4]) ∧ Below w.heap.size w w' := by
  have hu23 := Try.underlying23
  have hu29 := Try.underlying29
  have hu24 := Try.underlying24
  have HRES := Aside0.mk hres
  have HE := Aside0.mk he
  have HL := Aside0.mk hl
  have HR0 := Aside0.mk hr0
  have HR2 := Aside0.mk hr2
  clear hres he hl hr0 hr2
  have HB := Aside0.mk (Below.refl w.heap.size w)
  go_enter Try.func11, Try.ntmps11
  go_wp2_with (first | ((with_reducible refine gate_dst (N := 4) rfl ?_); (try (refine gate_guard (by rfl) ?_; dsimp only)); refine box_event ?hg (N := 4) ?hd (cs := #[.int .i64 0, .int .i64 0, .int .i64 0, .int .i64 0]) (t := 23) ?hr ?_; (case hd => rfl); (case hg => rfl); (case hr => first | (go_simp; done) | (go_simp; rfl)); intro g4 hg wg4 hbox hb; have n0_ := Aside0.mk (below_step (by repeat (first | (with_reducible first | exact HB.out | apply below_alloc | apply pw_below_drewN | apply below_drew1) | exact HB.out)) hb); have n1_ := Aside0.mk hbox; have n2_ := Aside0.mk (by rw [hg]; exact below_size (by repeat (first | (with_reducible first | exact HB.out | apply below_alloc | apply pw_below_drewN | apply below_drew1) | exact HB.out)) : w.heap.size ≤ g4); clear HB hb hbox hg; have HB := n0_; have B4 := n1_; have GE4 := n2_; clear n0_ n1_ n2_) | ((with_reducible refine gate_dst (N := 5) rfl ?_); (try (refine gate_guard (by rfl) ?_; dsimp only)); refine box_event ?hg (N := 5) ?hd (cs := #[.int .i64 0, .int .i64 0, .int .i64 0, .int .i64 0]) (t := 23) ?hr ?_; (case hd => rfl); (case hg => rfl); (case hr => first | (go_simp; done) | (go_simp; rfl)); intro g5 hg wg5 hbox hb; have n0_ := Aside0.mk (below_step (by repeat (first | (with_reducible first | exact HB.out | apply below_alloc | apply pw_below_drewN | apply below_drew1) | exact HB.out)) hb); have n1_ := Aside0.mk hbox; have n2_ := Aside0.mk (by rw [hg]; exact below_size (by repeat (first | (with_reducible first | exact HB.out | apply below_alloc | apply pw_below_drewN | apply below_drew1) | exact HB.out)) : w.heap.size ≤ g5); have n3_ := Aside0.mk (by rw [hg]; exact Nat.ne_of_lt (blk_lt B4.out) : g4 ≠ g5); have n4_ := Aside0.mk (blk_below B4.out hb); clear HB hb hbox hg B4; have HB := n0_; have B5 := n1_; have GE5 := n2_; have N45 := n3_; have B4 := n4_; clear n0_ n1_ n2_ n3_ n4_))
  have Hst0_ : St w wg5 ge gl g4 g5 kd A2 ls.length c2 := ⟨HB.out, blk_below HE.out HB.out, blk_below HL.out HB.out, B4.out, B5.out, blk_lt HE.out, blk_lt HL.out⟩
  have Hst := Hst0_.drew
  have hr0 := HR0.out
  have hr2 := HR2.out
  clear Hst0_ HB B4 B5
  refine start_ (n := 10) (S := fun w' => w'.cell? ⟨ge, 0, none⟩ = some (.int .i64 kd) ∧ w'.cell? ⟨ge, 1, none⟩ = some (.int .i64 0) ∧ w'.cell? ⟨gl, 0, none⟩ = some (.slice A2 ls.length c2)) (ds := []) #[false, false, false, false, false, false, false, false, false, false] (by kernel_rfl) rfl rfl ⟨Hst.ca, Hst.cb, Hst.cl⟩ (fun hHeld => ?_)
  refine pure_ (i := 1) (N := some 9) (v := ?_) (a' := ?_) #[false, true, false, false, false, false, false, false, false, false] rfl rfl (by kernel_rfl) (fun _ _ _ h => h) (Or.inl ⟨by rfl, ?_⟩) ?_ ?_
  rotate_left
  · intro w'
    go_simp
    with_reducible rfl
  rotate_left
  · simp only [Act.put, List.setIfInBounds_toArray, List.set_cons_zero, List.set_cons_succ, i64_w, i32_w]
    rfl
  refine pure_ (i := 9) (N := some 17) (v := ?_) (a' := ?_) #[false, true, false, false, false, false, false, false, false, true] rfl rfl (by kernel_rfl) (fun _ _ _ h => h) (Or.inl ⟨by rfl, ?_⟩) ?_ ?_
  rotate_left
  · intro w'
    go_simp
    with_reducible rfl
  rotate_left
  · simp only [Act.put, List.setIfInBounds_toArray, List.set_cons_zero, List.set_cons_succ, i64_w, i32_w]
    rfl
  refine take_ (i := 3) (N := some 11) (v := ?_) (a' := ?_) #[false, true, false, true, false, false, false, false, false, true] rfl rfl (by kernel_rfl) (fun _ _ _ h => h) (Or.inl ⟨by rfl, ?_⟩) hHeld ?_ ?_
  rotate_left
  · rintro w' ⟨s0, s1, s2⟩
    go_simp
    with_reducible rfl
  rotate_left
  · simp only [Act.put, List.setIfInBounds_toArray, List.set_cons_zero, List.set_cons_succ, i64_w, i32_w]
    rfl
  refine take_ (i := 6) (N := some 14) (v := ?_) (a' := ?_) #[false, true, false, true, false, false, true, false, false, true] rfl rfl (by kernel_rfl) (fun _ _ _ h => h) (Or.inl ⟨by rfl, ?_⟩) hHeld ?_ ?_
  rotate_left
  · rintro w' ⟨s0, s1, s2⟩
    go_simp
    with_reducible rfl
  rotate_left
  · simp only [Act.put, List.setIfInBounds_toArray, List.set_cons_zero, List.set_cons_succ, i64_w, i32_w]
    rfl
  refine join_ (σ := Value × Value × Value) 3 #[true, true, true, true, true, false, true, false, false, true] (fun s => [(8, s.1), (10, s.2.1), (12, s.2.2)]) (fun (s : Value × Value × Value) w' => St w w' ge gl g4 g5 kd A2 ls.length c2 ∧ Kd.R k29 29 w' w.heap.size (fun _ => True) s.2.1 first ∧ Kd.R k29 29 w' w.heap.size (fun _ => True) s.2.2 [(⟨kd, 0⟩ : S29)]) ?_ ?_
  rotate_left
  · intro hCont
    refine two_ (i := 0) (j := 4) (Ni := some 8) (Nj := some 12) #[true, true, false, true, false, false, true, false, false, true] #[false, true, false, true, true, false, true, false, false, true] rfl rfl rfl rfl (by kernel_rfl) (by decide) (by decide) (fun K hK => ?_) (fun K hK => ?_)
    · skip
      refine Kd.R_lit_step k29 (w0 := w) w.heap.size 29 (by rfl) rfl (xs := []) (inner := []) (ok := fun _ => True) (okp := fun _ => False) ?_ ⟨rfl, fun j p h => by simp at h⟩ (fun _ h => h.elim) trivial Hst.below (below_size Hst.below) (by simp) ?_
      · first | (go_simp; done) | (go_simp; rfl)
      intro v8 w8 HO8 hB8 hg8 hat8
      have Hst0 := Hst.grown hg8 (by simp) (by simp) (fun _ e_ => by cases e_)
      refine hK.out _ _ ⟨Hst0.ca, Hst0.cb, Hst0.cl⟩ (fun hHeld => ?_)
      clear hK K
      refine norm_ (a' := ?_) ?_ ?_
      rotate_left
      · show Act.put _ (some 8) _ = _
        simp only [Act.put, List.setIfInBounds_toArray, List.set_cons_zero, List.set_cons_succ, i64_w, i32_w]
        rfl
      refine two_ (i := 2) (j := 4) (Ni := some 10) (Nj := some 12) #[true, true, true, true, false, false, true, false, false, true] #[true, true, false, true, true, false, true, false, false, true] rfl rfl rfl rfl (by kernel_rfl) (by decide) (by decide) (fun K hK => ?_) (fun K hK => ?_)
      · skip
        refine Kd.R_append_rows_step k29 (w0 := w) w.heap.size (by rfl) (.tmp 8) (.tmp 9) 24 29 (.agg #[.int .i64 0, .int .i64 0]) 16 rfl Try.underlying24 info29 rfl (by decide) (by decide) v8 [] first A0 first.length c0 (fun _ => True) (fun _ => False) (by rfl) (by rfl) HO8 (Kd.C_below hr0 Hst0.below) (fun x cs h => by obtain rfl := k29_open h; exact k29_mkM _ _ _ x) (fun _ h => h.elim) (fun _ _ => trivial) Hst0.below (below_size Hst0.below) (by first | omega | (simp; omega)) ?_
        intro v10 w10 HO10 hB10 hg10 hat10
        have Hst02 := Hst0.grown hg10 (Kd.R_ne HO8 Hst0.b4 (by decide)) (Kd.R_ne HO8 Hst0.b5 (by decide)) (own_base (Kd.R_own HO8).choose_spec)
        refine hK.out _ _ ⟨Hst02.ca, Hst02.cb, Hst02.cl⟩ (fun hHeld => ?_)
        clear hK K
        refine norm_ (a' := ?_) ?_ ?_
        rotate_left
        · show Act.put _ (some 10) _ = _
          simp only [Act.put, List.setIfInBounds_toArray, List.set_cons_zero, List.set_cons_succ, i64_w, i32_w]
          rfl
        refine one_ (i := 4) (N := some 12) #[true, true, true, true, true, false, true, false, false, true] rfl rfl (by kernel_rfl) (by decide) (fun K hK => ?_)
        refine Kd.R_lit_step k29 (w0 := w) w.heap.size 29 (by rfl) rfl (xs := [(⟨kd, 0⟩ : S29)]) (inner := [.int .i64 kd, .int .i64 0]) (ok := fun _ => True) (okp := fun _ => False) ?_ (reps_single (k29_mkM _ _ _ (⟨kd, 0⟩ : S29)) rfl) (fun _ h => h.elim) trivial Hst02.below (below_size Hst02.below) (by simp) ?_
        · first | (go_simp; done) | (go_simp; rfl)
        intro v12 wq12 HO12 hB12 hg12 hat12
        have Hst024 := Hst02.grown hg12 (by simp) (by simp) (fun _ e_ => by cases e_)
        have HO10' := Kd.R_grown HO10 hg12 (fun k _ => by simp)
        clear HO10
        refine hK.out _ _ ⟨Hst024.ca, Hst024.cb, Hst024.cl⟩ (fun hHeld => ?_)
        clear hK K
        refine norm_ (a' := ?_) ?_ ?_
        rotate_left
        · show Act.put _ (some 12) _ = _
          simp only [Act.put, List.setIfInBounds_toArray, List.set_cons_zero, List.set_cons_succ, i64_w, i32_w]
          rfl
        exact norm_ (by simp only [putAll, Act.put, List.setIfInBounds_toArray, List.set_cons_zero, List.set_cons_succ]) (hCont (v8, v10, v12) _ ⟨Hst024, HO10', HO12⟩)
      · skip
        refine Kd.R_lit_step k29 (w0 := w) w.heap.size 29 (by rfl) rfl (xs := [(⟨kd, 0⟩ : S29)]) (inner := [.int .i64 kd, .int .i64 0]) (ok := fun k => some k ≠ v8.ownBlock) (okp := fun _ => False) ?_ (reps_single (k29_mkM _ _ _ (⟨kd, 0⟩ : S29)) rfl) (fun _ h => h.elim) (by have := fun k hk => own_lt (Kd.R_own HO8).choose_spec k hk; intro e_; have := this _ e_.symm; omega) Hst0.below (below_size Hst0.below) (by simp) ?_
        · first | (go_simp; done) | (go_simp; rfl)
        intro v12 wq12 HO12 hB12 hg12 hat12
        have Hst04 := Hst0.grown hg12 (by simp) (by simp) (fun _ e_ => by cases e_)
        have HO8' := Kd.R_grown HO8 hg12 (fun k _ => by simp)
        clear HO8
        refine hK.out _ _ ⟨Hst04.ca, Hst04.cb, Hst04.cl⟩ (fun hHeld => ?_)
        clear hK K
        refine norm_ (a' := ?_) ?_ ?_
        rotate_left
        · show Act.put _ (some 12) _ = _
          simp only [Act.put, List.setIfInBounds_toArray, List.set_cons_zero, List.set_cons_succ, i64_w, i32_w]
          rfl
        refine one_ (i := 2) (N := some 10) #[true, true, true, true, true, false, true, false, false, true] rfl rfl (by kernel_rfl) (by decide) (fun K hK => ?_)
        refine Kd.R_append_rows_step k29 (w0 := w) w.heap.size (by rfl) (.tmp 8) (.tmp 9) 24 29 (.agg #[.int .i64 0, .int .i64 0]) 16 rfl Try.underlying24 info29 rfl (by decide) (by decide) v8 [] first A0 first.length c0 (fun _ => True) (fun _ => False) (by rfl) (by rfl) HO8' (Kd.C_below hr0 Hst04.below) (fun x cs h => by obtain rfl := k29_open h; exact k29_mkM _ _ _ x) (fun _ h => h.elim) (fun _ _ => trivial) Hst04.below (below_size Hst04.below) (by first | omega | (simp; omega)) ?_
        intro v10 w10 HO10 hB10 hg10 hat10
        have Hst042 := Hst04.grown hg10 (Kd.R_ne HO8' Hst04.b4 (by decide)) (Kd.R_ne HO8' Hst04.b5 (by decide)) (own_base (Kd.R_own HO8').choose_spec)
        have HO12' := Kd.R_mono (Kd.R_grown HO12 hg10 (fun k hk => hk)) (fun _ _ => trivial)
        refine hK.out _ _ ⟨Hst042.ca, Hst042.cb, Hst042.cl⟩ (fun hHeld => ?_)
        clear hK K
        refine norm_ (a' := ?_) ?_ ?_
        rotate_left
        · show Act.put _ (some 10) _ = _
          simp only [Act.put, List.setIfInBounds_toArray, List.set_cons_zero, List.set_cons_succ, i64_w, i32_w]
          rfl
        exact norm_ (by simp only [putAll, Act.put, List.setIfInBounds_toArray, List.set_cons_zero, List.set_cons_succ]) (hCont (v8, v10, v12) _ ⟨Hst042, HO10, HO12'⟩)
    · skip
      refine Kd.R_lit_step k29 (w0 := w) w.heap.size 29 (by rfl) rfl (xs := [(⟨kd, 0⟩ : S29)]) (inner := [.int .i64 kd, .int .i64 0]) (ok := fun _ => True) (okp := fun _ => False) ?_ (reps_single (k29_mkM _ _ _ (⟨kd, 0⟩ : S29)) rfl) (fun _ h => h.elim) trivial Hst.below (below_size Hst.below) (by simp) ?_
      · first | (go_simp; done) | (go_simp; rfl)
      intro v12 wq12 HO12 hB12 hg12 hat12
      have Hst4 := Hst.grown hg12 (by simp) (by simp) (fun _ e_ => by cases e_)
      refine hK.out _ _ ⟨Hst4.ca, Hst4.cb, Hst4.cl⟩ (fun hHeld => ?_)
      clear hK K
      refine norm_ (a' := ?_) ?_ ?_
      rotate_left
      · show Act.put _ (some 12) _ = _
        simp only [Act.put, List.setIfInBounds_toArray, List.set_cons_zero, List.set_cons_succ, i64_w, i32_w]
        rfl
      refine one_ (i := 0) (N := some 8) #[true, true, false, true, true, false, true, false, false, true] rfl rfl (by kernel_rfl) (by decide) (fun K hK => ?_)
      refine Kd.R_lit_step k29 (w0 := w) w.heap.size 29 (by rfl) rfl (xs := []) (inner := []) (ok := fun _ => True) (okp := fun _ => False) ?_ ⟨rfl, fun j p h => by simp at h⟩ (fun _ h => h.elim) trivial Hst4.below (below_size Hst4.below) (by simp) ?_
      · first | (go_simp; done) | (go_simp; rfl)
      intro v8 w8 HO8 hB8 hg8 hat8
      have Hst40 := Hst4.grown hg8 (by simp) (by simp) (fun _ e_ => by cases e_)
      obtain ⟨b8, hb8, hb8'⟩ := hat8
      have HO12' := Kd.R_grown HO12 hg8 (fun k _ => by simp)
      have NE := fun (k : Nat) (hk : k < wq12.heap.size) => (show some k ≠ v8.ownBlock by rw [hb8]; simp; omega)
      have HO12a := Kd.R_mono (Kd.R_grown (Kd.R_bound HO12) hg8 (fun k _ => by simp)) (fun k hk => NE k hk.2.2.1)
      clear HO12 HO12' NE
      refine hK.out _ _ ⟨Hst40.ca, Hst40.cb, Hst40.cl⟩ (fun hHeld => ?_)
      clear hK K
      refine norm_ (a' := ?_) ?_ ?_
      rotate_left
      · show Act.put _ (some 8) _ = _
        simp only [Act.put, List.setIfInBounds_toArray, List.set_cons_zero, List.set_cons_succ, i64_w, i32_w]
        rfl
      refine one_ (i := 2) (N := some 10) #[true, true, true, true, true, false, true, false, false, true] rfl rfl (by kernel_rfl) (by decide) (fun K hK => ?_)
      refine Kd.R_append_rows_step k29 (w0 := w) w.heap.size (by rfl) (.tmp 8) (.tmp 9) 24 29 (.agg #[.int .i64 0, .int .i64 0]) 16 rfl Try.underlying24 info29 rfl (by decide) (by decide) v8 [] first A0 first.length c0 (fun _ => True) (fun _ => False) (by rfl) (by rfl) HO8 (Kd.C_below hr0 Hst40.below) (fun x cs h => by obtain rfl := k29_open h; exact k29_mkM _ _ _ x) (fun _ h => h.elim) (fun _ _ => trivial) Hst40.below (below_size Hst40.below) (by first | omega | (simp; omega)) ?_
      intro v10 w10 HO10 hB10 hg10 hat10
      have Hst402 := Hst40.grown hg10 (Kd.R_ne HO8 Hst40.b4 (by decide)) (Kd.R_ne HO8 Hst40.b5 (by decide)) (own_base (Kd.R_own HO8).choose_spec)
      have HO12' := Kd.R_mono (Kd.R_grown HO12a hg10 (fun k hk => hk)) (fun _ _ => trivial)
      refine hK.out _ _ ⟨Hst402.ca, Hst402.cb, Hst402.cl⟩ (fun hHeld => ?_)
      clear hK K
      refine norm_ (a' := ?_) ?_ ?_
      rotate_left
      · show Act.put _ (some 10) _ = _
        simp only [Act.put, List.setIfInBounds_toArray, List.set_cons_zero, List.set_cons_succ, i64_w, i32_w]
        rfl
      exact norm_ (by simp only [putAll, Act.put, List.setIfInBounds_toArray, List.set_cons_zero, List.set_cons_succ]) (hCont (v8, v10, v12) _ ⟨Hst402, HO10, HO12'⟩)
  rintro ⟨v8, v10, v12⟩ w9 ⟨Hst9, HO10, HO12⟩
  have hHeld : (w9.cell? ⟨ge, 0, none⟩ = some (.int .i64 kd) ∧ w9.cell? ⟨ge, 1, none⟩ = some (.int .i64 0) ∧ w9.cell? ⟨gl, 0, none⟩ = some (.slice A2 ls.length c2)) := ⟨Hst9.ca, Hst9.cb, Hst9.cl⟩
  obtain ⟨A12, c12, rfl, hl12, HC12⟩ := Kd.R_reads HO12
  refine norm_ (a' := ?_) ?_ ?_
  rotate_left
  · simp only [putAll, Act.put, List.setIfInBounds_toArray, List.set_cons_zero, List.set_cons_succ]
    rfl
  refine one_ (i := 5) (N := some 13) #[true, true, true, true, true, true, true, false, false, true] rfl rfl (by kernel_rfl) (by decide) (fun K hK => ?_)
  refine Kd.R_append_rows_step k29 (w0 := w) w.heap.size (by rfl) (.tmp 10) (.tmp 12) 24 29 (.agg #[.int .i64 0, .int .i64 0]) 16 rfl Try.underlying24 info29 rfl (by decide) (by decide) v10 first [(⟨kd, 0⟩ : S29)] A12 1 c12 (fun _ => True) (fun _ => False) (by rfl) (by rfl) HO10 HC12 (fun x cs h => by obtain rfl := k29_open h; exact k29_mkM _ _ _ x) (fun _ h => h.elim) (fun _ _ => trivial) Hst9.below (below_size Hst9.below) (by first | omega | (simp; omega)) ?_
  intro v13 w13 HO13 hB13 hg13 hat13
  have Hst13 := Hst9.grown hg13 (Kd.R_ne HO10 Hst9.b4 (by decide)) (Kd.R_ne HO10 Hst9.b5 (by decide)) (own_base (Kd.R_own HO10).choose_spec)
  refine hK.out _ _ ⟨Hst13.ca, Hst13.cb, Hst13.cl⟩ (fun hHeld => ?_)
  clear hK K
  refine norm_ (a' := ?_) ?_ ?_
  rotate_left
  · show Act.put _ (some 13) _ = _
    simp only [Act.put, List.setIfInBounds_toArray, List.set_cons_zero, List.set_cons_succ, i64_w, i32_w]
    rfl
  refine one_ (i := 7) (N := some 15) #[true, true, true, true, true, true, true, true, false, true] rfl rfl (by kernel_rfl) (by decide) (fun K hK => ?_)
  refine Kd.R_append_rows_step k29 (w0 := w) w.heap.size (by rfl) (.tmp 13) (.tmp 14) 24 29 (.agg #[.int .i64 0, .int .i64 0]) 16 rfl Try.underlying24 info29 rfl (by decide) (by decide) v13 (first ++ [(⟨kd, 0⟩ : S29)]) ls A2 ls.length c2 (fun _ => True) (fun _ => False) (by rfl) (by rfl) HO13 (Kd.C_below hr2 Hst13.below) (fun x cs h => by obtain rfl := k29_open h; exact k29_mkM _ _ _ x) (fun _ h => h.elim) (fun _ _ => trivial) Hst13.below (below_size Hst13.below) (by first | omega | (simp; omega)) ?_
  intro v15 w15 HO15 hB15 hg15 hat15
  have Hst15 := Hst13.grown hg15 (Kd.R_ne HO13 Hst13.b4 (by decide)) (Kd.R_ne HO13 Hst13.b5 (by decide)) (own_base (Kd.R_own HO13).choose_spec)
  obtain ⟨xs, hxs⟩ : ∃ x : List S29, x = first ++ [(⟨kd, 0⟩ : S29)] ++ ls := ⟨_, rfl⟩
  rw [← hxs] at HO15
  have Hxs := Aside0.mk hxs
  clear hxs
  obtain ⟨A15, c15, rfl, hl15, HC15⟩ := Kd.R_reads HO15
  refine hK.out _ _ ⟨Hst15.ca, Hst15.cb, Hst15.cl⟩ (fun hHeld => ?_)
  clear hK K
  refine norm_ (a' := ?_) ?_ ?_
  rotate_left
  · show Act.put _ (some 15) _ = _
    simp only [Act.put, List.setIfInBounds_toArray, List.set_cons_zero, List.set_cons_succ, i64_w, i32_w]
    rfl
  refine pure_ (i := 8) (N := some 16) (v := ?_) (a' := ?_) #[true, true, true, true, true, true, true, true, true, true] rfl rfl (by kernel_rfl) (fun _ _ _ h => h) (Or.inl ⟨by rfl, ?_⟩) ?_ ?_
  rotate_left
  · intro w'
    go_simp
    with_reducible rfl
  rotate_left
  · simp only [Act.put, List.setIfInBounds_toArray, List.set_cons_zero, List.set_cons_succ, i64_w, i32_w]
    rfl
  refine done_ (by kernel_rfl) ?_
  have hlen : xs.length ≤ 201 := by rw [Hxs.out]; simp; omega
  have HRES' : Aside0 (foldW 0 0 0 0 xs = (r1, r2, r3, r4)) := ⟨by rw [Hxs.out]; exact HRES.out⟩
  have B4 := Aside0.mk Hst15.b4
  have B5 := Aside0.mk Hst15.b5
  have HB := Aside0.mk Hst15.below
  have HO := Aside0.mk (Kd.R_types (Kd.R_types HO15 Hst15.b5 (by decide)) Hst15.b4 (by decide))
  clear HRES Hxs Hst Hst9 Hst13 Hst15 HO10 HO12 HC12 HO13 HO15 HC15 hB13 hg13 hat13 hB15 hg15 hat15 hr0 hr2 hHeld hl12 hl15 HE HL HR0 HR2
  go_wp2_with fail
  go_loopg [17] xs.length (fun d v17 w' => ∃ (i m l c s : Int), v17 = .int .i64 i ∧ Aside0 (0 ≤ i ∧ i + d = xs.length ∧ foldW m l c s (xs.drop i.toNat) = (r1, r2, r3, r4)) ∧ Aside0 (w'.heap[g5]? = some (.cells #[.int .i64 m, .int .i64 l, .int .i64 c, .int .i64 s] 23 (0, 0))) ∧ Aside0 (w'.heap[g4]? = some (.cells #[.int .i64 0, .int .i64 0, .int .i64 0, .int .i64 0] 23 (0, 0))) ∧ Aside0 (Kd.R k29 29 w' w.heap.size (fun k_ => (True ∧ k_ ≠ g5) ∧ k_ ≠ g4) (.slice A15 xs.length c15) xs) ∧ Aside0 (Below w.heap.size w w'))
  case atStart => exact ⟨0, 0, 0, 0, 0, rfl, ⟨by omega, by omega, HRES'.out⟩, ⟨by (with_reducible repeat (first | refine blk_drewN ?_ _ | refine blk_drew ?_ | refine blk_alloc ?_ _)); exact B5.out⟩, ⟨by (with_reducible repeat (first | refine blk_drewN ?_ _ | refine blk_drew ?_ | refine blk_alloc ?_ _)); exact B4.out⟩, ⟨by (with_reducible repeat (first | apply Kd.R_alloc | apply Kd.R_drewN | apply Kd.R_drew)); exact HO.out⟩, ⟨(by repeat (first | (with_reducible first | exact HB.out | apply below_alloc | apply pw_below_drewN | apply below_drew1 | refine below_set ?_ GE5.out) | exact HB.out))⟩⟩
  case round =>
    clear HRES' HB B4 B5 HO
    obtain ⟨i, m, l, c, s, rfl, HA, B5, B4, HO, HB⟩ := hrel
    obtain ⟨i0, hid, hfold⟩ := HA.out
    clear HA
    have HID := Aside0.mk hid
    have HF := Aside0.mk hfold
    clear hid hfold
    by_cases hlt : i < (xs.length : Int)
    · have HC : Kd.C k29 wr A15 xs.length xs := by
        obtain ⟨A', c', e', _, h⟩ := Kd.R_reads HO.out
        injection e' with e1 e2 e3
        rw [e1]; exact h
      obtain ⟨ad, ead, hx0, hx1⟩ := at_T29 HC i i0 hlt
      cases ead
      clear HC
      obtain ⟨⟨m1, l1, c1, s1⟩, hst⟩ : ∃ q, q = stepW m l c s (rd_T29 xs i).f0 (rd_T29 xs i).f1 := ⟨_, rfl⟩
      have NX := Aside0.mk (show watch_Next.f 2 m l c s (rd_T29 xs i).f0 (rd_T29 xs i).f1 = some (m1, l1, c1, s1) by rw [hst]; exact next_ge (by omega) _ _ _ _ _ _)
      have HF' := Aside0.mk (show foldW m1 l1 c1 s1 (xs.drop (i + 1).toNat) = (r1, r2, r3, r4) by have := HF.out; rw [foldW_next i0 hlt, ← hst] at this; exact this)
      clear hst HF
      have hc0 : wr.cell? ⟨g5, 0, none⟩ = some (.int .i64 m) := (blk_cell B5.out 0).trans rfl
      have hc1 : wr.cell? ⟨g5, 1, none⟩ = some (.int .i64 l) := (blk_cell B5.out 1).trans rfl
      have hc2 : wr.cell? ⟨g5, 2, none⟩ = some (.int .i64 c) := (blk_cell B5.out 2).trans rfl
      have hc3 : wr.cell? ⟨g5, 3, none⟩ = some (.int .i64 s) := (blk_cell B5.out 3).trans rfl
      have hcf0 := blk_frozen B5.out 0
      have hcf1 := blk_frozen B5.out 1
      have hcf2 := blk_frozen B5.out 2
      have hcf3 := blk_frozen B5.out 3
      go_wp2_with (first | ((with_reducible refine gate_dst (N := 7) rfl ?_); (try (refine gate_guard (by rfl) ?_; dsimp only)); refine box_event ?hg (N := 7) ?hd (cs := #[.int .i64 0, .int .i64 0]) (t := 29) ?hr ?_; (case hd => rfl); (case hg => rfl); (case hr => first | (go_simp; done) | (go_simp; rfl)); intro g7 hg wg7 hbox hb; have n0_ := Aside0.mk (below_step (by repeat (first | (with_reducible first | exact HB.out | apply below_alloc | apply pw_below_drewN | apply below_drew1 | refine below_set ?_ GE5.out) | exact HB.out)) hb); have n1_ := Aside0.mk hbox; have n2_ := Aside0.mk (by rw [hg]; exact below_size (by repeat (first | (with_reducible first | exact HB.out | apply below_alloc | apply pw_below_drewN | apply below_drew1 | refine below_set ?_ GE5.out) | exact HB.out)) : w.heap.size ≤ g7); have n3_ := Aside0.mk (by rw [hg]; exact Nat.ne_of_lt (blk_lt B5.out) : g5 ≠ g7); have n5_ := Aside0.mk (by rw [hg]; exact Nat.ne_of_lt (blk_lt B4.out) : g4 ≠ g7); have n4_ := Aside0.mk (blk_below B4.out hb); have n6_ := Aside0.mk (blk_below B5.out hb); have n8_ := Kd.R_bound HO.out; have n7_ := Aside0.mk (Kd.R_mono (ok' := fun k_ => ((True ∧ k_ ≠ g5) ∧ k_ ≠ g4) ∧ k_ ≠ g7) (Kd.R_below n8_ hb) (fun k hk => ⟨hk.1, (by rw [hg]; have := hk.2.2.1; omega : k ≠ g7)⟩)); clear n8_; clear HB hb hbox hg B4 B5 HO; have HB := n0_; have B7 := n1_; have GE7 := n2_; have N57 := n3_.out; have N47 := n5_.out; have N75 := N57.symm; have B4 := n4_; have B5 := n6_; have HO := n7_; clear n0_ n1_ n2_ n3_ n4_ n5_ n6_ n7_; have h70 : wg7.cell? ⟨g7, 0, none⟩ = some (.int .i64 0) := (blk_cell B7.out 0).trans rfl; have h71 : wg7.cell? ⟨g7, 1, none⟩ = some (.int .i64 0) := (blk_cell B7.out 1).trans rfl; have h7f0 := blk_frozen B7.out 0; have h7f1 := blk_frozen B7.out 1; have h50 : wg7.cell? ⟨g5, 0, none⟩ = some (.int .i64 m) := (blk_cell B5.out 0).trans rfl; have h51 : wg7.cell? ⟨g5, 1, none⟩ = some (.int .i64 l) := (blk_cell B5.out 1).trans rfl; have h52 : wg7.cell? ⟨g5, 2, none⟩ = some (.int .i64 c) := (blk_cell B5.out 2).trans rfl; have h53 : wg7.cell? ⟨g5, 3, none⟩ = some (.int .i64 s) := (blk_cell B5.out 3).trans rfl; have h5f0 := blk_frozen B5.out 0; have h5f1 := blk_frozen B5.out 1; have h5f2 := blk_frozen B5.out 2; have h5f3 := blk_frozen B5.out 3))
      (with_reducible refine (watch_Next.calls 2 m l c s (rd_T29 xs i).f0 (rd_T29 xs i).f1 m1 l1 c1 s1 _ NX.out).mono ?_)
      rintro e w7 ⟨rfl, hb⟩
      have n0_ := Aside0.mk (blk_below (g := g5) (o := .cells #[.int .i64 m, .int .i64 l, .int .i64 c, .int .i64 s] 23 (0, 0)) (by (repeat (first | (with_reducible first | refine blk_drewN ?_ _ | refine blk_drew ?_ | refine blk_alloc ?_ _) | refine blk_far ?_ N57 _ | refine blk_far ?_ N47 _)); exact B5.out) hb)
      have n1_ := Aside0.mk (blk_below (g := g4) (o := .cells #[.int .i64 0, .int .i64 0, .int .i64 0, .int .i64 0] 23 (0, 0)) (by (repeat (first | (with_reducible first | refine blk_drewN ?_ _ | refine blk_drew ?_ | refine blk_alloc ?_ _) | refine blk_far ?_ N57 _ | refine blk_far ?_ N47 _)); exact B4.out) hb)
      have n2_ := Aside0.mk (show k29.R 29 w7 w.heap.size (fun k_ => ((True ∧ k_ ≠ g5) ∧ k_ ≠ g4) ∧ k_ ≠ g7) (.slice (some ad) xs.length c15) xs from Kd.R_below (by (with_reducible repeat (first | apply Kd.R_alloc | apply Kd.R_drewN | apply Kd.R_drew | (refine Kd.R_far ?_ (fun k hk => by first | exact hk.2 | exact hk.1.1.2) _))); exact HO.out) hb)
      have n3_ := Aside0.mk (below_step (by repeat (first | (with_reducible first | exact HB.out | apply below_alloc | apply pw_below_drewN | apply below_drew1 | refine below_set ?_ GE5.out | refine below_set ?_ GE7.out) | exact HB.out)) hb)
      clear HB B4 B5 HO hb
      have B5 := n0_
      have B4 := n1_
      have HO := n2_
      have HB := n3_
      clear n0_ n1_ n2_ n3_
      have hn0 : w7.cell? ⟨g5, 0, none⟩ = some (.int .i64 m) := (blk_cell B5.out 0).trans rfl
      have hn1 : w7.cell? ⟨g5, 1, none⟩ = some (.int .i64 l) := (blk_cell B5.out 1).trans rfl
      have hn2 : w7.cell? ⟨g5, 2, none⟩ = some (.int .i64 c) := (blk_cell B5.out 2).trans rfl
      have hn3 : w7.cell? ⟨g5, 3, none⟩ = some (.int .i64 s) := (blk_cell B5.out 3).trans rfl
      have hnf0 := blk_frozen B5.out 0
      have hnf1 := blk_frozen B5.out 1
      have hnf2 := blk_frozen B5.out 2
      have hnf3 := blk_frozen B5.out 3
      go_wp2
      go_roundg (gk - 1)
      case measure => have := HID.out; omega
      case rel => exact ⟨i + 1, m1, l1, c1, s1, (by first | rfl | (simp; done)), ⟨by omega, by have := HID.out; omega, HF'.out⟩, ⟨by (with_reducible repeat (first | refine blk_drewN ?_ _ | refine blk_drew ?_ | refine blk_alloc ?_ _)); refine blk_put (cs := #[.int .i64 m1, .int .i64 l1, .int .i64 c1, .int .i64 s]) ?_ 3 _ rfl; (with_reducible repeat (first | refine blk_drewN ?_ _ | refine blk_drew ?_ | refine blk_alloc ?_ _)); refine blk_put (cs := #[.int .i64 m1, .int .i64 l1, .int .i64 c, .int .i64 s]) ?_ 2 _ rfl; (with_reducible repeat (first | refine blk_drewN ?_ _ | refine blk_drew ?_ | refine blk_alloc ?_ _)); refine blk_put (cs := #[.int .i64 m1, .int .i64 l, .int .i64 c, .int .i64 s]) ?_ 1 _ rfl; (with_reducible repeat (first | refine blk_drewN ?_ _ | refine blk_drew ?_ | refine blk_alloc ?_ _)); refine blk_put (cs := #[.int .i64 m, .int .i64 l, .int .i64 c, .int .i64 s]) ?_ 0 _ rfl; (with_reducible repeat (first | refine blk_drewN ?_ _ | refine blk_drew ?_ | refine blk_alloc ?_ _)); exact B5.out⟩, ⟨by (repeat (first | (with_reducible first | refine blk_drewN ?_ _ | refine blk_drew ?_ | refine blk_alloc ?_ _) | refine blk_far ?_ N45.out _)); exact B4.out⟩, ⟨by refine Kd.R_mono (ok := fun k_ => ((True ∧ k_ ≠ g5) ∧ k_ ≠ g4) ∧ k_ ≠ g7) ?_ (fun k hk => hk.1); (repeat (first | exact HO.out | refine Kd.R_far ?_ (fun k hk => hk.1.1.2) _))⟩, ⟨(by repeat (first | (with_reducible first | exact HB.out | apply below_alloc | apply pw_below_drewN | apply below_drew1 | refine below_set ?_ GE5.out | refine below_set ?_ GE7.out) | exact HB.out))⟩⟩
    · have hge : i = (xs.length : Int) := by have := HID.out; omega
      have hv : (m, l, c, s) = (r1, r2, r3, r4) := by have := HF.out; rw [hge, Int.toNat_natCast, List.drop_length] at this; exact this
      simp only [Prod.mk.injEq] at hv
      obtain ⟨rfl, rfl, rfl, rfl⟩ := hv
      clear HF hge
      have hc0 : wr.cell? ⟨g5, 0, none⟩ = some (.int .i64 m) := (blk_cell B5.out 0).trans rfl
      have hc1 : wr.cell? ⟨g5, 1, none⟩ = some (.int .i64 l) := (blk_cell B5.out 1).trans rfl
      have hc2 : wr.cell? ⟨g5, 2, none⟩ = some (.int .i64 c) := (blk_cell B5.out 2).trans rfl
      have hc3 : wr.cell? ⟨g5, 3, none⟩ = some (.int .i64 s) := (blk_cell B5.out 3).trans rfl
      have hcf0 := blk_frozen B5.out 0
      have hcf1 := blk_frozen B5.out 1
      have hcf2 := blk_frozen B5.out 2
      have hcf3 := blk_frozen B5.out 3
      have hd0 : wr.cell? ⟨g4, 0, none⟩ = some (.int .i64 0) := (blk_cell B4.out 0).trans rfl
      have hd1 : wr.cell? ⟨g4, 1, none⟩ = some (.int .i64 0) := (blk_cell B4.out 1).trans rfl
      have hd2 : wr.cell? ⟨g4, 2, none⟩ = some (.int .i64 0) := (blk_cell B4.out 2).trans rfl
      have hd3 : wr.cell? ⟨g4, 3, none⟩ = some (.int .i64 0) := (blk_cell B4.out 3).trans rfl
      have hdf0 := blk_frozen B4.out 0
      have hdf1 := blk_frozen B4.out 1
      have hdf2 := blk_frozen B4.out 2
      have hdf3 := blk_frozen B4.out 3
      have n45 := N45.out
      have n54 := N45.out.symm
      go_wp2
      refine bodyPost_ret (results_cell_row rfl _ _ g4 23 #[.int .i64 m, .int .i64 l, .int .i64 c, .int .i64 s] (0, 0) _ rfl (by (with_reducible repeat (first | refine blk_drewN ?_ _ | refine blk_drew ?_ | refine blk_alloc ?_ _)); refine blk_put (cs := #[.int .i64 m, .int .i64 l, .int .i64 c, .int .i64 0]) ?_ 3 _ rfl; (with_reducible repeat (first | refine blk_drewN ?_ _ | refine blk_drew ?_ | refine blk_alloc ?_ _)); refine blk_put (cs := #[.int .i64 m, .int .i64 l, .int .i64 0, .int .i64 0]) ?_ 2 _ rfl; (with_reducible repeat (first | refine blk_drewN ?_ _ | refine blk_drew ?_ | refine blk_alloc ?_ _)); refine blk_put (cs := #[.int .i64 m, .int .i64 0, .int .i64 0, .int .i64 0]) ?_ 1 _ rfl; (with_reducible repeat (first | refine blk_drewN ?_ _ | refine blk_drew ?_ | refine blk_alloc ?_ _)); refine blk_put (cs := #[.int .i64 0, .int .i64 0, .int .i64 0, .int .i64 0]) ?_ 0 _ rfl; (with_reducible repeat (first | refine blk_drewN ?_ _ | refine blk_drew ?_ | refine blk_alloc ?_ _)); exact B4.out) Try.underlying23 rfl (by kernel_rfl)) rfl ?_
      exact ⟨rfl, (by repeat (first | (with_reducible first | exact HB.out | apply below_alloc | apply pw_below_drewN | apply below_drew1 | refine below_set ?_ GE5.out | refine below_set ?_ GE4.out) | exact HB.out))⟩
set_option maxHeartbeats 8000000 in
set_option maxRecDepth 100000 in
theorem fresh_long (A0 A1 A2 : Option Addr) (c0 c1 c2 : Nat) (l0 l1 l2 : List S29) (w : World) (hra : Kd.C k29 w A0 l0.length l0) (hrb : Kd.C k29 w A1 l1.length l1) (hr2 : Kd.C k29 w A2 l2.length l2) (b : Bool) (h : l0.length > 100 ∨ l1.length > 100 ∨ l2.length > 100) :
    Calls Try.prog 5 #[.slice A0 l0.length c0, .slice A1 l1.length c1, .slice A2 l2.length c2, .bool b] w fun e w' => e = .returned (.bool true) ∧ Below w.heap.size w w' := by
  have hu23 := Try.underlying23
  have hu29 := Try.underlying29
  have hu24 := Try.underlying24
  have HRa := Aside0.mk hra
  have HRb := Aside0.mk hrb
  have HR2 := Aside0.mk hr2
  have HB := Aside0.mk (Below.refl w.heap.size w)
  have AW := Aside0.mk awake_eq
  clear hra hrb hr2
  by_cases h0 : (l0.length : Int) > 100
  · have q0 : decide (100 < (l0.length : Int)) = true := decide_eq_true h0
    have q0' : decide (100 < l0.length) = true := decide_eq_true (by omega)
    clear h h0
    go_enter Try.func5, Try.ntmps5
    go_wp2_with (first | ((with_reducible refine gate_dst (N := 6) rfl ?_); (try (refine gate_guard (by rfl) ?_; dsimp only)); refine box_event ?hg (N := 6) ?hd (cs := #[.slice A2 l2.length c2]) (t := 24) ?hr ?_; (case hd => rfl); (case hg => rfl); (case hr => first | (go_simp; done) | (go_simp; rfl)); intro g6 hg wg6 hbox hb; have n0_ := Aside0.mk (below_step (by repeat (first | (with_reducible first | exact HB.out | apply below_alloc | apply pw_below_drewN | apply below_drew1) | exact HB.out)) hb); have n1_ := Aside0.mk hbox; have n2_ := Aside0.mk (by rw [hg]; exact below_size (by repeat (first | (with_reducible first | exact HB.out | apply below_alloc | apply pw_below_drewN | apply below_drew1) | exact HB.out)) : w.heap.size ≤ g6); clear HB hb hbox hg; have HB := n0_; have B6 := n1_; have GE6 := n2_; clear n0_ n1_ n2_; have hc6 : wg6.cell? ⟨g6, 0, none⟩ = some (.slice A2 l2.length c2) := (blk_cell B6.out 0).trans rfl; have hf6 := blk_frozen B6.out 0) | ((with_reducible refine gate_callee (f := 8) rfl ?_); refine goesL_ (some 24) rfl rfl Try.func8 (by kernel_rfl) rfl #[] rfl (by (try simp only [List.map_toArray, List.map_cons, List.map_nil]); first | done | rfl) ?_; (with_reducible refine (coupletlaw17_awake.calls 9 true _ AW.out).mono ?_); rintro e w5 ⟨rfl, hb⟩; refine ⟨_, rfl, ?_⟩; have n0_ := Aside0.mk (below_step (by repeat (first | (with_reducible first | exact HB.out | apply below_alloc | apply pw_below_drewN | apply below_drew1 | refine below_set ?_ GE6.out) | exact HB.out)) hb); clear HB; have HB := n0_; clear n0_; (try clear hb)))
    go_ret
    exact ⟨by first | rfl | (simp; done), (by repeat (first | (with_reducible first | exact HB.out | apply below_alloc | apply pw_below_drewN | apply below_drew1 | refine below_set ?_ GE6.out) | exact HB.out))⟩
  · have q0 : decide (100 < (l0.length : Int)) = false := decide_eq_false h0
    have q0' : decide (100 < l0.length) = false := decide_eq_false (by omega)
    by_cases h1 : (l1.length : Int) > 100
    · have q1 : decide (100 < (l1.length : Int)) = true := decide_eq_true h1
      have q1' : decide (100 < l1.length) = true := decide_eq_true (by omega)
      clear h h0 h1
      go_enter Try.func5, Try.ntmps5
      go_wp2_with (first | ((with_reducible refine gate_dst (N := 6) rfl ?_); (try (refine gate_guard (by rfl) ?_; dsimp only)); refine box_event ?hg (N := 6) ?hd (cs := #[.slice A2 l2.length c2]) (t := 24) ?hr ?_; (case hd => rfl); (case hg => rfl); (case hr => first | (go_simp; done) | (go_simp; rfl)); intro g6 hg wg6 hbox hb; have n0_ := Aside0.mk (below_step (by repeat (first | (with_reducible first | exact HB.out | apply below_alloc | apply pw_below_drewN | apply below_drew1) | exact HB.out)) hb); have n1_ := Aside0.mk hbox; have n2_ := Aside0.mk (by rw [hg]; exact below_size (by repeat (first | (with_reducible first | exact HB.out | apply below_alloc | apply pw_below_drewN | apply below_drew1) | exact HB.out)) : w.heap.size ≤ g6); clear HB hb hbox hg; have HB := n0_; have B6 := n1_; have GE6 := n2_; clear n0_ n1_ n2_; have hc6 : wg6.cell? ⟨g6, 0, none⟩ = some (.slice A2 l2.length c2) := (blk_cell B6.out 0).trans rfl; have hf6 := blk_frozen B6.out 0) | ((with_reducible refine gate_callee (f := 8) rfl ?_); refine goesL_ (some 24) rfl rfl Try.func8 (by kernel_rfl) rfl #[] rfl (by (try simp only [List.map_toArray, List.map_cons, List.map_nil]); first | done | rfl) ?_; (with_reducible refine (coupletlaw17_awake.calls 9 true _ AW.out).mono ?_); rintro e w5 ⟨rfl, hb⟩; refine ⟨_, rfl, ?_⟩; have n0_ := Aside0.mk (below_step (by repeat (first | (with_reducible first | exact HB.out | apply below_alloc | apply pw_below_drewN | apply below_drew1 | refine below_set ?_ GE6.out) | exact HB.out)) hb); clear HB; have HB := n0_; clear n0_; (try clear hb)))
      go_ret
      exact ⟨by first | rfl | (simp; done), (by repeat (first | (with_reducible first | exact HB.out | apply below_alloc | apply pw_below_drewN | apply below_drew1 | refine below_set ?_ GE6.out) | exact HB.out))⟩
    · have q1 : decide (100 < (l1.length : Int)) = false := decide_eq_false h1
      have q1' : decide (100 < l1.length) = false := decide_eq_false (by omega)
      have h2 : (l2.length : Int) > 100 := by omega
      have q2 : decide (100 < (l2.length : Int)) = true := decide_eq_true h2
      have q2' : decide (100 < l2.length) = true := decide_eq_true (by omega)
      clear h h0 h1 h2
      go_enter Try.func5, Try.ntmps5
      go_wp2_with (first | ((with_reducible refine gate_dst (N := 6) rfl ?_); (try (refine gate_guard (by rfl) ?_; dsimp only)); refine box_event ?hg (N := 6) ?hd (cs := #[.slice A2 l2.length c2]) (t := 24) ?hr ?_; (case hd => rfl); (case hg => rfl); (case hr => first | (go_simp; done) | (go_simp; rfl)); intro g6 hg wg6 hbox hb; have n0_ := Aside0.mk (below_step (by repeat (first | (with_reducible first | exact HB.out | apply below_alloc | apply pw_below_drewN | apply below_drew1) | exact HB.out)) hb); have n1_ := Aside0.mk hbox; have n2_ := Aside0.mk (by rw [hg]; exact below_size (by repeat (first | (with_reducible first | exact HB.out | apply below_alloc | apply pw_below_drewN | apply below_drew1) | exact HB.out)) : w.heap.size ≤ g6); clear HB hb hbox hg; have HB := n0_; have B6 := n1_; have GE6 := n2_; clear n0_ n1_ n2_; have hc6 : wg6.cell? ⟨g6, 0, none⟩ = some (.slice A2 l2.length c2) := (blk_cell B6.out 0).trans rfl; have hf6 := blk_frozen B6.out 0) | ((with_reducible refine gate_callee (f := 8) rfl ?_); refine goesL_ (some 24) rfl rfl Try.func8 (by kernel_rfl) rfl #[] rfl (by (try simp only [List.map_toArray, List.map_cons, List.map_nil]); first | done | rfl) ?_; (with_reducible refine (coupletlaw17_awake.calls 9 true _ AW.out).mono ?_); rintro e w5 ⟨rfl, hb⟩; refine ⟨_, rfl, ?_⟩; have n0_ := Aside0.mk (below_step (by repeat (first | (with_reducible first | exact HB.out | apply below_alloc | apply pw_below_drewN | apply below_drew1 | refine below_set ?_ GE6.out) | exact HB.out)) hb); clear HB; have HB := n0_; clear n0_; (try clear hb)))
      go_ret
      exact ⟨by first | rfl | (simp; done), (by repeat (first | (with_reducible first | exact HB.out | apply below_alloc | apply pw_below_drewN | apply below_drew1 | refine below_set ?_ GE6.out) | exact HB.out))⟩
set_option maxHeartbeats 8000000 in
set_option maxRecDepth 100000 in
theorem fresh_false (A0 A1 A2 : Option Addr) (c0 c1 c2 : Nat) (l0 l1 l2 : List S29) (w : World) (hra : Kd.C k29 w A0 l0.length l0) (hrb : Kd.C k29 w A1 l1.length l1) (hr2 : Kd.C k29 w A2 l2.length l2) (h0 : l0.length ≤ 100) (h1 : l1.length ≤ 100) (h2 : l2.length ≤ 100) :
    Calls Try.prog 5 #[.slice A0 l0.length c0, .slice A1 l1.length c1, .slice A2 l2.length c2, .bool false] w fun e w' => e = .returned (.bool true) ∧ Below w.heap.size w w' := by
  have hu23 := Try.underlying23
  have hu29 := Try.underlying29
  have hu24 := Try.underlying24
  have HRa := Aside0.mk hra
  have HRb := Aside0.mk hrb
  have HR2 := Aside0.mk hr2
  have HB := Aside0.mk (Below.refl w.heap.size w)
  have AW := Aside0.mk awake_eq
  clear hra hrb hr2
  have q0 : decide (100 < (l0.length : Int)) = false := decide_eq_false (by omega)
  have q0' : decide (100 < l0.length) = false := decide_eq_false (by omega)
  have q1 : decide (100 < (l1.length : Int)) = false := decide_eq_false (by omega)
  have q1' : decide (100 < l1.length) = false := decide_eq_false (by omega)
  have q2 : decide (100 < (l2.length : Int)) = false := decide_eq_false (by omega)
  have q2' : decide (100 < l2.length) = false := decide_eq_false (by omega)
  obtain ⟨⟨r1, r2, r3, r4⟩, hq⟩ : ∃ q, q = foldW (if (1 : Int) = 1 then 1 else 0) 0 0 0 l2 := ⟨_, rfl⟩
  have F0 := Aside0.mk ((foldW_fresh l0 l2 1 (by omega)).trans hq.symm)
  have F1 := Aside0.mk ((foldW_fresh l1 l2 1 (by omega)).trans hq.symm)
  clear hq
  go_enter Try.func5, Try.ntmps5
  go_wp2_with (first | ((with_reducible refine gate_dst (N := 6) rfl ?_); (try (refine gate_guard (by rfl) ?_; dsimp only)); refine box_event ?hg (N := 6) ?hd (cs := #[.slice A2 l2.length c2]) (t := 24) ?hr ?_; (case hd => rfl); (case hg => rfl); (case hr => first | (go_simp; done) | (go_simp; rfl)); intro g6 hg wg6 hbox hb; have n0_ := Aside0.mk (below_step (by repeat (first | (with_reducible first | exact HB.out | apply below_alloc | apply pw_below_drewN | apply below_drew1) | exact HB.out)) hb); have n1_ := Aside0.mk hbox; have n2_ := Aside0.mk (by rw [hg]; exact below_size (by repeat (first | (with_reducible first | exact HB.out | apply below_alloc | apply pw_below_drewN | apply below_drew1) | exact HB.out)) : w.heap.size ≤ g6); clear HB hb hbox hg; have HB := n0_; have B6 := n1_; have GE6 := n2_; clear n0_ n1_ n2_; have hc6 : wg6.cell? ⟨g6, 0, none⟩ = some (.slice A2 l2.length c2) := (blk_cell B6.out 0).trans rfl; have hf6 := blk_frozen B6.out 0) | ((with_reducible refine gate_dst (N := 9) rfl ?_); (try (refine gate_guard (by rfl) ?_; dsimp only)); refine box_event ?hg (N := 9) ?hd (cs := #[.int .i64 0, .int .i64 0]) (t := 29) ?hr ?_; (case hd => rfl); (case hg => rfl); (case hr => first | (go_simp; done) | (go_simp; rfl)); intro g9 hg wg9 hbox hb; have n0_ := Aside0.mk (below_step (by repeat (first | (with_reducible first | exact HB.out | apply below_alloc | apply pw_below_drewN | apply below_drew1 | refine below_set ?_ GE6.out) | exact HB.out)) hb); have n1_ := Aside0.mk hbox; have n2_ := Aside0.mk (by rw [hg]; exact below_size (by repeat (first | (with_reducible first | exact HB.out | apply below_alloc | apply pw_below_drewN | apply below_drew1 | refine below_set ?_ GE6.out) | exact HB.out)) : w.heap.size ≤ g9); have n3_ := Aside0.mk (by rw [hg]; exact Nat.ne_of_lt (blk_lt (g := g6) (o := .cells #[.slice A2 l2.length c2] 24 (0, 0)) (by (with_reducible repeat (first | refine blk_drewN ?_ _ | refine blk_drew ?_ | refine blk_alloc ?_ _)); exact B6.out)) : g6 ≠ g9); have n4_ := Aside0.mk (blk_below (g := g6) (o := .cells #[.slice A2 l2.length c2] 24 (0, 0)) (by (with_reducible repeat (first | refine blk_drewN ?_ _ | refine blk_drew ?_ | refine blk_alloc ?_ _)); exact B6.out) hb); clear HB hb hbox hg B6; have HB := n0_; have B9 := n1_; have GE9 := n2_; have N69 := n3_.out; have B6 := n4_; clear n0_ n1_ n2_ n3_ n4_; have hk0 : wg9.cell? ⟨g9, 0, none⟩ = some (.int .i64 0) := (blk_cell B9.out 0).trans rfl; have hk1 : wg9.cell? ⟨g9, 1, none⟩ = some (.int .i64 0) := (blk_cell B9.out 1).trans rfl; have hkf0 := blk_frozen B9.out 0; have hkf1 := blk_frozen B9.out 1))
  refine (end_calls A0 c0 l0 1 A2 c2 l2 g9 g6 _ (by exact Kd.C_below HRa.out (by repeat (first | (with_reducible first | exact HB.out | apply below_alloc | apply pw_below_drewN | apply below_drew1 | refine below_set ?_ GE6.out | refine below_set ?_ GE9.out) | exact HB.out))) h0 (by exact Kd.C_below HR2.out (by repeat (first | (with_reducible first | exact HB.out | apply below_alloc | apply pw_below_drewN | apply below_drew1 | refine below_set ?_ GE6.out | refine below_set ?_ GE9.out) | exact HB.out))) h2 (by (with_reducible repeat (first | refine blk_drewN ?_ _ | refine blk_drew ?_ | refine blk_alloc ?_ _)); refine blk_put (cs := #[.int .i64 1, .int .i64 0]) ?_ 1 _ rfl; (with_reducible repeat (first | refine blk_drewN ?_ _ | refine blk_drew ?_ | refine blk_alloc ?_ _)); refine blk_put (cs := #[.int .i64 0, .int .i64 0]) ?_ 0 _ rfl; (with_reducible repeat (first | refine blk_drewN ?_ _ | refine blk_drew ?_ | refine blk_alloc ?_ _)); exact B9.out) (by (repeat (first | (with_reducible first | refine blk_drewN ?_ _ | refine blk_drew ?_ | refine blk_alloc ?_ _) | refine blk_far ?_ N69 _)); exact B6.out) r1 r2 r3 r4 F0.out).mono ?_
  rintro e w7 ⟨rfl, hb⟩
  have n0_ := Aside0.mk (blk_below (g := g9) (o := .cells #[.int .i64 1, .int .i64 0] 29 (0, 0)) (by (with_reducible repeat (first | refine blk_drewN ?_ _ | refine blk_drew ?_ | refine blk_alloc ?_ _)); refine blk_put (cs := #[.int .i64 1, .int .i64 0]) ?_ 1 _ rfl; (with_reducible repeat (first | refine blk_drewN ?_ _ | refine blk_drew ?_ | refine blk_alloc ?_ _)); refine blk_put (cs := #[.int .i64 0, .int .i64 0]) ?_ 0 _ rfl; (with_reducible repeat (first | refine blk_drewN ?_ _ | refine blk_drew ?_ | refine blk_alloc ?_ _)); exact B9.out) hb)
  have n1_ := Aside0.mk (blk_below (g := g6) (o := .cells #[.slice A2 l2.length c2] 24 (0, 0)) (by (repeat (first | (with_reducible first | refine blk_drewN ?_ _ | refine blk_drew ?_ | refine blk_alloc ?_ _) | refine blk_far ?_ N69 _)); exact B6.out) hb)
  have n2_ := Aside0.mk (below_step (by repeat (first | (with_reducible first | exact HB.out | apply below_alloc | apply pw_below_drewN | apply below_drew1 | refine below_set ?_ GE6.out | refine below_set ?_ GE9.out) | exact HB.out)) hb)
  clear HB B6 B9 hb
  have B9 := n0_
  have B6 := n1_
  have HB := n2_
  clear n0_ n1_ n2_
  go_wp2_with fail
  refine (end_calls A1 c1 l1 1 A2 c2 l2 g9 g6 _ (by exact Kd.C_below HRb.out (by repeat (first | (with_reducible first | exact HB.out | apply below_alloc | apply pw_below_drewN | apply below_drew1 | refine below_set ?_ GE6.out | refine below_set ?_ GE9.out) | exact HB.out))) h1 (by exact Kd.C_below HR2.out (by repeat (first | (with_reducible first | exact HB.out | apply below_alloc | apply pw_below_drewN | apply below_drew1 | refine below_set ?_ GE6.out | refine below_set ?_ GE9.out) | exact HB.out))) h2 B9.out B6.out r1 r2 r3 r4 F1.out).mono ?_
  rintro e w8 ⟨rfl, hb⟩
  have n2_ := Aside0.mk (below_step (by repeat (first | (with_reducible first | exact HB.out | apply below_alloc | apply pw_below_drewN | apply below_drew1 | refine below_set ?_ GE6.out | refine below_set ?_ GE9.out) | exact HB.out)) hb)
  clear HB hb
  have HB := n2_
  clear n2_
  go_wp2_with (go_at_call 8; (with_reducible refine (coupletlaw17_awake.calls 9 true _ AW.out).mono ?_); rintro e w5 ⟨rfl, hb⟩; have n0_ := Aside0.mk (below_step (by repeat (first | (with_reducible first | exact HB.out | apply below_alloc | apply pw_below_drewN | apply below_drew1 | refine below_set ?_ GE6.out | refine below_set ?_ GE9.out) | exact HB.out)) hb); clear HB; have HB := n0_; clear n0_; (try clear hb))
  go_ret
  exact ⟨by first | rfl | (simp; done), (by repeat (first | (with_reducible first | exact HB.out | apply below_alloc | apply pw_below_drewN | apply below_drew1 | refine below_set ?_ GE6.out | refine below_set ?_ GE9.out) | exact HB.out))⟩
set_option maxHeartbeats 8000000 in
set_option maxRecDepth 100000 in
theorem fresh_true (A0 A1 A2 : Option Addr) (c0 c1 c2 : Nat) (l0 l1 l2 : List S29) (w : World) (hra : Kd.C k29 w A0 l0.length l0) (hrb : Kd.C k29 w A1 l1.length l1) (hr2 : Kd.C k29 w A2 l2.length l2) (h0 : l0.length ≤ 100) (h1 : l1.length ≤ 100) (h2 : l2.length ≤ 100) :
    Calls Try.prog 5 #[.slice A0 l0.length c0, .slice A1 l1.length c1, .slice A2 l2.length c2, .bool true] w fun e w' => e = .returned (.bool true) ∧ Below w.heap.size w w' := by
  have hu23 := Try.underlying23
  have hu29 := Try.underlying29
  have hu24 := Try.underlying24
  have HRa := Aside0.mk hra
  have HRb := Aside0.mk hrb
  have HR2 := Aside0.mk hr2
  have HB := Aside0.mk (Below.refl w.heap.size w)
  have AW := Aside0.mk awake_eq
  clear hra hrb hr2
  have q0 : decide (100 < (l0.length : Int)) = false := decide_eq_false (by omega)
  have q0' : decide (100 < l0.length) = false := decide_eq_false (by omega)
  have q1 : decide (100 < (l1.length : Int)) = false := decide_eq_false (by omega)
  have q1' : decide (100 < l1.length) = false := decide_eq_false (by omega)
  have q2 : decide (100 < (l2.length : Int)) = false := decide_eq_false (by omega)
  have q2' : decide (100 < l2.length) = false := decide_eq_false (by omega)
  obtain ⟨⟨r1, r2, r3, r4⟩, hq⟩ : ∃ q, q = foldW (if (5 : Int) = 1 then 1 else 0) 0 0 0 l2 := ⟨_, rfl⟩
  have F0 := Aside0.mk ((foldW_fresh l0 l2 5 (by omega)).trans hq.symm)
  have F1 := Aside0.mk ((foldW_fresh l1 l2 5 (by omega)).trans hq.symm)
  clear hq
  go_enter Try.func5, Try.ntmps5
  go_wp2_with (first | ((with_reducible refine gate_dst (N := 6) rfl ?_); (try (refine gate_guard (by rfl) ?_; dsimp only)); refine box_event ?hg (N := 6) ?hd (cs := #[.slice A2 l2.length c2]) (t := 24) ?hr ?_; (case hd => rfl); (case hg => rfl); (case hr => first | (go_simp; done) | (go_simp; rfl)); intro g6 hg wg6 hbox hb; have n0_ := Aside0.mk (below_step (by repeat (first | (with_reducible first | exact HB.out | apply below_alloc | apply pw_below_drewN | apply below_drew1) | exact HB.out)) hb); have n1_ := Aside0.mk hbox; have n2_ := Aside0.mk (by rw [hg]; exact below_size (by repeat (first | (with_reducible first | exact HB.out | apply below_alloc | apply pw_below_drewN | apply below_drew1) | exact HB.out)) : w.heap.size ≤ g6); clear HB hb hbox hg; have HB := n0_; have B6 := n1_; have GE6 := n2_; clear n0_ n1_ n2_; have hc6 : wg6.cell? ⟨g6, 0, none⟩ = some (.slice A2 l2.length c2) := (blk_cell B6.out 0).trans rfl; have hf6 := blk_frozen B6.out 0) | ((with_reducible refine gate_dst (N := 9) rfl ?_); (try (refine gate_guard (by rfl) ?_; dsimp only)); refine box_event ?hg (N := 9) ?hd (cs := #[.int .i64 0, .int .i64 0]) (t := 29) ?hr ?_; (case hd => rfl); (case hg => rfl); (case hr => first | (go_simp; done) | (go_simp; rfl)); intro g9 hg wg9 hbox hb; have n0_ := Aside0.mk (below_step (by repeat (first | (with_reducible first | exact HB.out | apply below_alloc | apply pw_below_drewN | apply below_drew1 | refine below_set ?_ GE6.out) | exact HB.out)) hb); have n1_ := Aside0.mk hbox; have n2_ := Aside0.mk (by rw [hg]; exact below_size (by repeat (first | (with_reducible first | exact HB.out | apply below_alloc | apply pw_below_drewN | apply below_drew1 | refine below_set ?_ GE6.out) | exact HB.out)) : w.heap.size ≤ g9); have n3_ := Aside0.mk (by rw [hg]; exact Nat.ne_of_lt (blk_lt (g := g6) (o := .cells #[.slice A2 l2.length c2] 24 (0, 0)) (by (with_reducible repeat (first | refine blk_drewN ?_ _ | refine blk_drew ?_ | refine blk_alloc ?_ _)); exact B6.out)) : g6 ≠ g9); have n4_ := Aside0.mk (blk_below (g := g6) (o := .cells #[.slice A2 l2.length c2] 24 (0, 0)) (by (with_reducible repeat (first | refine blk_drewN ?_ _ | refine blk_drew ?_ | refine blk_alloc ?_ _)); exact B6.out) hb); clear HB hb hbox hg B6; have HB := n0_; have B9 := n1_; have GE9 := n2_; have N69 := n3_.out; have B6 := n4_; clear n0_ n1_ n2_ n3_ n4_; have hk0 : wg9.cell? ⟨g9, 0, none⟩ = some (.int .i64 0) := (blk_cell B9.out 0).trans rfl; have hk1 : wg9.cell? ⟨g9, 1, none⟩ = some (.int .i64 0) := (blk_cell B9.out 1).trans rfl; have hkf0 := blk_frozen B9.out 0; have hkf1 := blk_frozen B9.out 1))
  refine (end_calls A0 c0 l0 5 A2 c2 l2 g9 g6 _ (by exact Kd.C_below HRa.out (by repeat (first | (with_reducible first | exact HB.out | apply below_alloc | apply pw_below_drewN | apply below_drew1 | refine below_set ?_ GE6.out | refine below_set ?_ GE9.out) | exact HB.out))) h0 (by exact Kd.C_below HR2.out (by repeat (first | (with_reducible first | exact HB.out | apply below_alloc | apply pw_below_drewN | apply below_drew1 | refine below_set ?_ GE6.out | refine below_set ?_ GE9.out) | exact HB.out))) h2 (by (with_reducible repeat (first | refine blk_drewN ?_ _ | refine blk_drew ?_ | refine blk_alloc ?_ _)); refine blk_put (cs := #[.int .i64 1, .int .i64 0]) ?_ 0 _ rfl; (with_reducible repeat (first | refine blk_drewN ?_ _ | refine blk_drew ?_ | refine blk_alloc ?_ _)); refine blk_put (cs := #[.int .i64 1, .int .i64 0]) ?_ 1 _ rfl; (with_reducible repeat (first | refine blk_drewN ?_ _ | refine blk_drew ?_ | refine blk_alloc ?_ _)); refine blk_put (cs := #[.int .i64 0, .int .i64 0]) ?_ 0 _ rfl; (with_reducible repeat (first | refine blk_drewN ?_ _ | refine blk_drew ?_ | refine blk_alloc ?_ _)); exact B9.out) (by (repeat (first | (with_reducible first | refine blk_drewN ?_ _ | refine blk_drew ?_ | refine blk_alloc ?_ _) | refine blk_far ?_ N69 _)); exact B6.out) r1 r2 r3 r4 F0.out).mono ?_
  rintro e w7 ⟨rfl, hb⟩
  have n0_ := Aside0.mk (blk_below (g := g9) (o := .cells #[.int .i64 5, .int .i64 0] 29 (0, 0)) (by (with_reducible repeat (first | refine blk_drewN ?_ _ | refine blk_drew ?_ | refine blk_alloc ?_ _)); refine blk_put (cs := #[.int .i64 1, .int .i64 0]) ?_ 0 _ rfl; (with_reducible repeat (first | refine blk_drewN ?_ _ | refine blk_drew ?_ | refine blk_alloc ?_ _)); refine blk_put (cs := #[.int .i64 1, .int .i64 0]) ?_ 1 _ rfl; (with_reducible repeat (first | refine blk_drewN ?_ _ | refine blk_drew ?_ | refine blk_alloc ?_ _)); refine blk_put (cs := #[.int .i64 0, .int .i64 0]) ?_ 0 _ rfl; (with_reducible repeat (first | refine blk_drewN ?_ _ | refine blk_drew ?_ | refine blk_alloc ?_ _)); exact B9.out) hb)
  have n1_ := Aside0.mk (blk_below (g := g6) (o := .cells #[.slice A2 l2.length c2] 24 (0, 0)) (by (repeat (first | (with_reducible first | refine blk_drewN ?_ _ | refine blk_drew ?_ | refine blk_alloc ?_ _) | refine blk_far ?_ N69 _)); exact B6.out) hb)
  have n2_ := Aside0.mk (below_step (by repeat (first | (with_reducible first | exact HB.out | apply below_alloc | apply pw_below_drewN | apply below_drew1 | refine below_set ?_ GE6.out | refine below_set ?_ GE9.out) | exact HB.out)) hb)
  clear HB B6 B9 hb
  have B9 := n0_
  have B6 := n1_
  have HB := n2_
  clear n0_ n1_ n2_
  go_wp2_with fail
  refine (end_calls A1 c1 l1 5 A2 c2 l2 g9 g6 _ (by exact Kd.C_below HRb.out (by repeat (first | (with_reducible first | exact HB.out | apply below_alloc | apply pw_below_drewN | apply below_drew1 | refine below_set ?_ GE6.out | refine below_set ?_ GE9.out) | exact HB.out))) h1 (by exact Kd.C_below HR2.out (by repeat (first | (with_reducible first | exact HB.out | apply below_alloc | apply pw_below_drewN | apply below_drew1 | refine below_set ?_ GE6.out | refine below_set ?_ GE9.out) | exact HB.out))) h2 B9.out B6.out r1 r2 r3 r4 F1.out).mono ?_
  rintro e w8 ⟨rfl, hb⟩
  have n2_ := Aside0.mk (below_step (by repeat (first | (with_reducible first | exact HB.out | apply below_alloc | apply pw_below_drewN | apply below_drew1 | refine below_set ?_ GE6.out | refine below_set ?_ GE9.out) | exact HB.out)) hb)
  clear HB hb
  have HB := n2_
  clear n2_
  go_wp2_with (go_at_call 8; (with_reducible refine (coupletlaw17_awake.calls 9 true _ AW.out).mono ?_); rintro e w5 ⟨rfl, hb⟩; have n0_ := Aside0.mk (below_step (by repeat (first | (with_reducible first | exact HB.out | apply below_alloc | apply pw_below_drewN | apply below_drew1 | refine below_set ?_ GE6.out | refine below_set ?_ GE9.out) | exact HB.out)) hb); clear HB; have HB := n0_; clear n0_; (try clear hb))
  go_ret
  exact ⟨by first | rfl | (simp; done), (by repeat (first | (with_reducible first | exact HB.out | apply below_alloc | apply pw_below_drewN | apply below_drew1 | refine below_set ?_ GE6.out | refine below_set ?_ GE9.out) | exact HB.out))⟩
theorem fresh_calls (A0 A1 A2 : Option Addr) (c0 c1 c2 : Nat) (l0 l1 l2 : List S29) (w : World) (hra : Kd.C k29 w A0 l0.length l0) (hrb : Kd.C k29 w A1 l1.length l1) (hr2 : Kd.C k29 w A2 l2.length l2) (b : Bool) :
    Calls Try.prog 5 #[.slice A0 l0.length c0, .slice A1 l1.length c1, .slice A2 l2.length c2, .bool b] w fun e w' => e = .returned (.bool true) ∧ Below w.heap.size w w' := by
  by_cases h : l0.length > 100 ∨ l1.length > 100 ∨ l2.length > 100
  · exact fresh_long A0 A1 A2 c0 c1 c2 l0 l1 l2 w hra hrb hr2 b h
  · cases b
    · exact fresh_false A0 A1 A2 c0 c1 c2 l0 l1 l2 w hra hrb hr2 (by omega) (by omega) (by omega)
    · exact fresh_true A0 A1 A2 c0 c1 c2 l0 l1 l2 w hra hrb hr2 (by omega) (by omega) (by omega)
end Go.Proofs.Ytlbngnilfenaaaa.WalkFresh
