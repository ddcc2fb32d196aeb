/- Lemmas of the card's proof. -/
import Derived.Test.YtcoiklclbljjeaaGreatDoorM28
set_option linter.unusedVariables false
set_option linter.unusedSimpArgs false
set_option maxRecDepth 100000
set_option maxHeartbeats 16000000
namespace Go.Proofs.YtcoiklclbljjeaaGreatDoor.L
open Go.RowKit
section
section
variable {F : Fence} {n : Nat} {P : Program} {Q : Exit → Act → World → Prop}
theorem zht {j : Nat} {o : Oper} {a : Act} {w : World} {K : Act → World → Prop} : (yH j o).wpIn F n P a w K Q = o.wpIn F n P a w K Q := by cases o; rfl
theorem zar {l : List Oper} {i j : Nat} (hB : zcE l i j = true) : ∀ (f : Nat) (b : Array Bool) (a : Act) (w : World),
  (∀ (x : Nat) (o : Oper), l[x]? = some o → b.getD x true = true → ∀ e, e ∈ o.after → Region.binds .any e = true → b.getD e.on false = true) →
   wpAnyIn F n P .any (l.modify i (yH j)).toArray Q f b a w → wpAnyIn F n P .any l.toArray Q f b a w := by
 have rdy : ∀ (b : Array Bool), (∀ (x : Nat) (o : Oper), l[x]? = some o → b.getD x true = true → ∀ e, e ∈ o.after → Region.binds .any e = true → b.getD e.on false = true) → ∀ k, k ∈ Region.ready .any l.toArray b ↔ k ∈ Region.ready .any (l.modify i (yH j)).toArray b := by
  exact Xaj
 intro f
 induction f with
 | zero =>
  exact Xbk
 | succ f ih =>
  intro b a w hc h;refine ⟨fun h0 => h.1 ?_, fun k hk => ?_⟩
  ·rw [List.eq_nil_iff_forall_not_mem]
   intro k hk;have := (rdy b hc k).2 hk;rw [h0] at this;cases this
  ·have hx := h.2 k ((rdy b hc k).1 hk)
   obtain ⟨h0, o, ho, he⟩ := mem_ready.1 hk;rw [List.getElem?_toArray] at ho
   have hc' : ∀ (x : Nat) (o : Oper), l[x]? = some o → (b.setIfInBounds k true).getD x true = true → ∀ e, e ∈ o.after → Region.binds .any e = true → (b.setIfInBounds k true).getD e.on false = true := by
    exact Xa2
   unfold wpOpIn at hx ⊢;simp only [List.getElem?_toArray, List.getElem?_modify, ho, Yx] at hx ⊢
   by_cases hik : i = k
   ·simp only [hik, if_true, Option.map_eq_map, Option.map_some] at hx
    have hw : Region.wanted (yH j o) (yielded l.toArray a.tmps) = Region.wanted o (yielded l.toArray a.tmps) := rfl;rw [hw] at hx
    split at hx
    ·rename_i hwt
     rw [if_pos hwt];rw [zht] at hx;subst hik;exact Oper.wpIn_mono (fun a' w' h' => ih _ _ _ hc' h') hx
    ·rename_i hwt
     rw [if_neg hwt];subst hik;exact ⟨hx.1, ih _ _ _ hc' hx.2⟩
   ·simp only [hik, if_false, Option.map_eq_map, Option.map_some, id] at hx
    split at hx
    ·rename_i hwt
     rw [if_pos hwt];exact Oper.wpIn_mono (fun a' w' h' => ih _ _ _ hc' h') hx
    ·rename_i hwt
     rw [if_neg hwt];exact ⟨hx.1, ih _ _ _ hc' hx.2⟩
theorem zbL {l : List Oper} (i j : Nat) (hB : zcE l i j = true) {a : Act} {w : World} (h : wpAnyIn F n P .any (l.modify i (yH j)).toArray Q (l.modify i (yH j)).toArray.size (Array.replicate (l.modify i (yH j)).toArray.size false) a w) :
  wpAnyIn F n P .any l.toArray Q l.toArray.size (Array.replicate l.toArray.size false) a w := by
 have e : (l.modify i (yH j)).toArray.size = l.toArray.size := by simp
 rw [e] at h;refine zar hB _ _ a w (fun x o ho hx => ?_) h;have hlt : x < l.length := (List.getElem?_eq_some_iff.1 ho).1;simp [hlt] at hx
theorem zfM {a : Act} {w : World} {l : List Oper} (hF : zau F) (G : List Nat) (z : Nat) {r : List (Nat × Nat × Oper)} (hl : zu l r) (hd : l.toArray.all qP = true) (hB : YK l.toArray z (r.map fun x => (x.1, x.2.1)) = true) (hQ : ∀ c a d v w, Q (.panic c) (a.put d v) w → Q (.panic c) a w)
  (h : jy F n P l.toArray (fun w' => ∃ x : But w G, w' = x.w) Q z r a w.drew) : wpAnyIn F n P .any l.toArray Q l.toArray.size (Array.replicate l.toArray.size false) a w.drew := by
 simp only [YK, Bool.and_eq_true, decide_eq_true_eq, List.length_map] at hB;have := yL (P := P) (Q := Q) (n := n) (S := fun w' => ∃ x : But w G, w' = x.w) hF.fn hd hB.1.1 hQ r _ a w.drew (fun x hx => by rw [List.getElem?_toArray]; exact hl x hx) hB.1.2 (fun _ => ⟨⟨w.drew, (zB.refl w G).drew⟩, rfl⟩) h;rw [hB.2] at this;exact Yd _ _ _ _ this
end
end
end Go.Proofs.YtcoiklclbljjeaaGreatDoor.L
