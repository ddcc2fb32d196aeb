/- Lemmas of the card's proof. -/
import Derived.Test.YtcoiklclbljjeaaGreatDoorM37
set_option linter.unusedVariables false
set_option linter.unusedSimpArgs false
set_option maxRecDepth 100000
set_option maxHeartbeats 16000000
namespace Go.Proofs.YtcoiklclbljjeaaGreatDoor.L
open Go.RowKit
section
open R R.Real
def qE (r c : Nat) (l : List Num) (A : Nat → Nat → R.Real) : Prop := l.length = r * c ∧ ∀ i, i < r → ∀ j, j < c → Enc (l.getD (i * c + j) qd) (A i j)
theorem qE.congr {r c : Nat} {l : List Num} {A B : Nat → Nat → R.Real} (h : qE r c l A) (k : ∀ i, i < r → ∀ j, j < c → A i j = B i j) : qE r c l B := ⟨h.1, fun i hi j hj => k i hi j hj ▸ h.2 i hi j hj⟩
theorem YY {r c i j : Nat} (hi : i < r) (hj : j < c) : i * c + j < r * c := by
 have : (i + 1) * c ≤ r * c := Nat.mul_le_mul_right c hi;rw [Nat.add_mul] at this;omega
theorem JM {α : Type} (c r : Nat) (g : Nat → List α) (h : ∀ i, i < r → (g i).length = c) : ((List.range r).flatMap g).length = r * c := by
 induction r with
 | zero => simp
 | succ r ih =>
  rw [List.range_succ, List.flatMap_append, List.length_append, ih (fun i hi => h i (by omega)), Nat.add_mul];simp [h r (by omega)]
theorem VF {α : Type} (z : α) (c r : Nat) (g : Nat → List α) (h : ∀ i, i < r → (g i).length = c) {i j : Nat} (hi : i < r) (hj : j < c) : ((List.range r).flatMap g).getD (i * c + j) z = (g i).getD j z := by
 induction r with
 | zero => omega
 | succ r ih =>
  have hl := JM c r g (fun i hi => h i (by omega));rw [List.range_succ, List.flatMap_append, List.getD_eq_getElem?_getD, List.getD_eq_getElem?_getD]
  by_cases e : i = r
  ·subst e
   rw [List.getElem?_append_right (by rw [hl]; omega), hl, show i * c + j - i * c = j by omega];simp
  ·rw [List.getElem?_append_left (by rw [hl]; exact YY (by omega) hj), ← List.getD_eq_getElem?_getD, ih (fun i hi => h i (by omega)) (by omega), List.getD_eq_getElem?_getD]
theorem ZQ {α : Type} (z : α) (f : Nat → α) {c j : Nat} (hj : j < c) : ((List.range c).map f).getD j z = f j := by
 rw [List.getD_eq_getElem?_getD, List.getElem?_map, List.getElem?_range hj]; rfl
theorem Jl {r c : Nat} {f : Nat → Nat → Num} {A : Nat → Nat → R.Real} (h : ∀ i, i < r → ∀ j, j < c → Enc (f i j) (A i j)) : qE r c ((List.range r).flatMap fun i => (List.range c).map (f i)) A :=
 ⟨JM c r _ (fun i _ => by simp), fun i hi j hj => by rw [VF qd c r _ (fun i _ => by simp) hi hj, ZQ _ _ hj]; exact h i hi j hj⟩
theorem zfz {c : Nat} {l : List Num} {i j : Nat} (hj : j < c) : (qt c l i).getD j qd = l.getD (i * c + j) qd := by
 unfold qt;rw [List.getD_eq_getElem?_getD, List.getElem?_take_of_lt hj, List.getElem?_drop, List.getD_eq_getElem?_getD]
theorem qE.row {r c : Nat} {l : List Num} {A : Nat → Nat → R.Real} (h : qE r c l A) {i : Nat} (hi : i < r) : qD c (qt c l i) (A i) := by
 refine ⟨?_, fun j hj => by rw [zfz hj]; exact h.2 i hi j hj⟩;unfold qt;have : (i + 1) * c ≤ r * c := Nat.mul_le_mul_right c hi;rw [Nat.add_mul] at this;rw [List.length_take, List.length_drop, h.1];omega
theorem qE.at_ {r c : Nat} {l : List Num} {A : Nat → Nat → R.Real} (h : qE r c l A) {i j : Nat} (hi : i < r) (hj : j < c) : Enc (atM c l i j) (A i j) := h.2 i hi j hj
theorem qE.turn {r c : Nat} {l : List Num} {A : Nat → Nat → R.Real} (h : qE r c l A) : qE c r (jT r c l) (fun i j => A j i) := Jl (f := fun i j => atM c l j i) fun i hi j hj => h.at_ hj hi
theorem qE.mul {r c k : Nat} {l l' : List Num} {A B : Nat → Nat → R.Real} (h : qE r c l A) (h' : qE c k l' B) : qE r k (vm r c k l l') (fun i j => dot c (A i) (fun m => B m j)) :=
 Jl (f := fun i j => vL (qt c l i) (qt c (jT c k l') j)) fun i hi j hj => (h.row hi).dot (h'.turn.row hj)
theorem qE.apply {r c : Nat} {l xs : List Num} {A : Nat → Nat → R.Real} {f : Nat → R.Real} (h : qE r c l A) (h' : qD c xs f) : qD r (jE r c l xs) (fun i => dot c (A i) f) :=
 ⟨by simp [jE], fun i hi => by unfold jE; rw [ZQ _ _ hi]; exact (h.row hi).dot h'⟩
theorem qE.adds {r c : Nat} {l l' : List Num} {A B : Nat → Nat → R.Real} (h : qE r c l A) (h' : qE r c l' B) : qE r c (vM l l') (fun i j => A i j + B i j) :=
 ⟨by unfold vM; rw [List.length_map, List.length_zip, h.1, h'.1, Nat.min_self], fun i hi j hj => by
  have := YY hi hj;unfold vM;rw [zbn Num.add (by rw [h.1]; exact this) (by rw [h'.1]; exact this)];exact (h.2 i hi j hj).add (h'.2 i hi j hj)⟩
theorem qE.subs {r c : Nat} {l l' : List Num} {A B : Nat → Nat → R.Real} (h : qE r c l A) (h' : qE r c l' B) : qE r c (y6 l l') (fun i j => A i j - B i j) :=
 ⟨by unfold y6; rw [List.length_map, List.length_zip, h.1, h'.1, Nat.min_self], fun i hi j hj => by
  have := YY hi hj;unfold y6;rw [zbn Num.sub (by rw [h.1]; exact this) (by rw [h'.1]; exact this)];exact (h.2 i hi j hj).sub (h'.2 i hi j hj)⟩
theorem qE.mir {n : Nat} {l : List Num} {A : Nat → Nat → R.Real} (h : qE n n l A) (hs : ∀ i, i < n → ∀ j, j < n → A i j = A j i) : qE n n (zh2 n l) A :=
 Jl (f := fun i j => atM n l (max i j) (min i j)) fun i hi j hj => by
  by_cases e : j ≤ i
  ·rw [Nat.max_eq_left e, Nat.min_eq_right e]; exact h.at_ hi hj
  ·rw [Nat.max_eq_right (by omega), Nat.min_eq_left (by omega), hs i hi j hj]; exact h.at_ hj hi
theorem zdK {n i j : Nat} (hi : i < n) (hj : j < n) : (i * n + j) % (n + 1) = 0 ∧ (i * n + j) / (n + 1) < n ↔ i = j := by
 constructor
 ·rintro ⟨h, _⟩
  by_cases e : i ≤ j
  ·have : i * n + j = i * (n + 1) + (j - i) := by rw [Nat.mul_add]; omega
   rw [this, Nat.mul_add_mod_self_right, Nat.mod_eq_of_lt (by omega)] at h;omega
  ·have : i * n + j = (i - 1) * (n + 1) + (n + 1 - (i - j)) := by
    obtain ⟨k, rfl⟩ : ∃ k, i = k + 1 := ⟨i - 1, by omega⟩
    rw [Nat.add_mul, Nat.add_sub_cancel, Nat.mul_add]; omega
   rw [this, Nat.mul_add_mod_self_right, Nat.mod_eq_of_lt (by omega)] at h;omega
 ·rintro rfl
  have : i * n + i = i * (n + 1) := by rw [Nat.mul_add]; omega
  rw [this, Nat.mul_mod_left, Nat.mul_div_cancel _ (by omega)];exact ⟨rfl, hi⟩
theorem zit (n : Nat) : qE n n (Zz n) QQ := by
 refine ⟨by simp [Zz, jq, Zh], fun i hi j hj => ?_⟩;have := YY hi hj;unfold Zz jq Zh;rw [Jg Num.of _ _ 0 qd (by simpa using this), ZQ _ _ this];unfold QQ
 by_cases e : i = j
 ·rw [if_pos ((zdK hi hj).2 e), if_pos e]; exact zje
 ·rw [if_neg (fun h => e ((zdK hi hj).1 h)), if_neg e]; exact zaA
theorem qE.clear {n : Nat} {l : List Num} {A : Nat → Nat → R.Real} (h : qE n n l A) : qE n n (ZU n l) (fun i j => if i < j then 0 else A i j) :=
 Jl (f := VH n l) fun i hi j hj => by
  unfold VH
  by_cases e : i < j
  ·rw [if_pos e, if_pos e]; exact zaA
  ·rw [if_neg e, if_neg e]; exact h.at_ hi hj
def za4 (n : Nat) (l : List Num) (k : Nat) : Prop := (atM n l k k).sign < 0
instance (n : Nat) (l : List Num) : DecidablePred (za4 n l) := fun k => Int.decLt _ _
theorem qE.signs {n : Nat} {l : List Num} {A : Nat → Nat → R.Real} (h : qE n n l A) : qE n n (Vo n l) (fun i j => if j ≤ i ∧ za4 n l j then -(A i j) else A i j) :=
 Jl (f := zaS n l) fun i hi j hj => by
  show Enc (if j ≤ i ∧ za4 n l j then (atM n l i j).neg else atM n l i j) _
  by_cases e : j ≤ i ∧ za4 n l j
  ·rw [if_pos e, if_pos e]; exact (h.at_ hi hj).neg
  ·rw [if_neg e, if_neg e]; exact h.at_ hi hj
theorem qE.square {n : Nat} {l : List Num} {A : Nat → Nat → R.Real} (h : qE n n l A) : qE n n (j2 n l) (fun i j => dot n (A i) (A j)) :=
 ((h.mul h.turn).congr fun i _ j _ => rfl).mir fun i _ j _ => jD _ _ _
theorem qE.turned {n : Nat} {l p q : List Num} {A P Q : Nat → Nat → R.Real} (h : qE n n l A) (hp : qE n n p P) (hq : qE n n q Q)
  (hs : ∀ i, i < n → ∀ j, j < n → dot n (fun m => dot n (A i) (fun t => P t m)) (A j) + Q i j = dot n (fun m => dot n (A j) (fun t => P t m)) (A i) + Q j i) :
  qE n n (Qk n n l p q) (fun i j => dot n (fun m => dot n (A i) (fun t => P t m)) (A j) + Q i j) :=
 ((h.mul hp).mul h.turn |>.adds hq).mir hs
theorem qE.beside {r c k : Nat} {l l' : List Num} {A B : Nat → Nat → R.Real} (h : qE r c l A) (h' : qE r k l' B) : qE r (c + k) (Y5 r c k l l') (fun i j => if j < c then A i j else B i (j - c)) := by
 have hl : ∀ i, i < r → (qt c l i ++ qt k l' i).length = c + k := fun i hi => by rw [List.length_append, (h.row hi).1, (h'.row hi).1]
 refine ⟨JM (c + k) r _ hl, fun i hi j hj => ?_⟩;show Enc (((List.range r).flatMap fun j => qt c l j ++ qt k l' j).getD _ _) _;rw [VF qd (c + k) r _ hl hi hj, List.getD_eq_getElem?_getD];show Enc _ (if j < c then A i j else B i (j - c))
 by_cases e : j < c
 ·rw [if_pos e, List.getElem?_append_left (by rw [(h.row hi).1]; exact e), ← List.getD_eq_getElem?_getD]; exact (h.row hi).2 j e
 ·rw [if_neg e, List.getElem?_append_right (by rw [(h.row hi).1]; omega), (h.row hi).1, ← List.getD_eq_getElem?_getD]; exact (h'.row hi).2 _ (by omega)
theorem ziu {n : Nat} {l : List Num} {f : Nat → R.Real} (h : qD n l f) : qE 1 n l (fun _ j => f j) :=
  ⟨by rw [h.1, Nat.one_mul], fun i hi j hj => by obtain rfl : i = 0 := by omega
                                                 rw [Nat.zero_mul, Nat.zero_add]; exact h.2 j hj⟩
theorem zdt {n : Nat} {l : List Num} {f : Nat → R.Real} (h : qD n l f) : qE n 1 l (fun i _ => f i) :=
  ⟨by rw [h.1, Nat.mul_one], fun i hi j hj => by obtain rfl : j = 0 := by omega
                                                 rw [Nat.mul_one, Nat.add_zero]; exact h.2 i hi⟩
theorem qE.drop {n : Nat} {l : List Num} {A : Nat → Nat → R.Real} (h : qE n n l A) : qD (n * n) l (fun t => A (t / n) (t % n)) :=
  ⟨h.1, fun t ht => by
    have hn : 0 < n := by rcases Nat.eq_zero_or_pos n with e | e
                          · subst e; omega
                          · exact e
    have := h.2 (t / n) (Nat.div_lt_of_lt_mul ht) (t % n) (Nat.mod_lt _ hn);rw [Nat.mul_comm, Nat.div_add_mod] at this;exact this⟩
def vR (r c : Nat) (X : List (List Num)) (A : Nat → Nat → R.Real) : Prop := X.length = r ∧ ∀ i, i < r → ∃ xs, X[i]? = some xs ∧ qD c xs (A i)
theorem vR.congr {r c : Nat} {X : List (List Num)} {A B : Nat → Nat → R.Real} (h : vR r c X A) (k : ∀ i, i < r → ∀ j, j < c → A i j = B i j) : vR r c X B :=
 ⟨h.1, fun i hi => by obtain ⟨xs, h1, h2⟩ := h.2 i hi; exact ⟨xs, h1, h2.congr (k i hi)⟩⟩
theorem qE.rows {r c : Nat} {l : List Num} {A : Nat → Nat → R.Real} (h : qE r c l A) : vR r c (jP r c l) A :=
 ⟨by simp [jP], fun i hi => ⟨qt c l i, by unfold jP; rw [List.getElem?_map, List.getElem?_range hi]; rfl, h.row hi⟩⟩
theorem zgY {α : Type} (X : List (List α)) : X.flatMap id = (List.range X.length).flatMap fun i => X.getD i [] := by
 induction X with
 | nil => rfl
 | cons x X ih =>
  rw [List.flatMap_cons, List.length_cons, List.range_succ_eq_map, List.flatMap_cons, ih, List.flatMap_map];rfl
theorem vR.getD {r c : Nat} {X : List (List Num)} {A : Nat → Nat → R.Real} (h : vR r c X A) {i : Nat} (hi : i < r) : qD c (X.getD i []) (A i) := by
 obtain ⟨xs, h1, h2⟩ := h.2 i hi;rw [List.getD_eq_getElem?_getD, h1]; exact h2
theorem vR.flat {r c : Nat} {X : List (List Num)} {A : Nat → Nat → R.Real} (h : vR r c X A) : qE r c (X.flatMap id) A := by
 rw [zgY, h.1];exact ⟨JM c r _ fun i hi => (h.getD hi).1, fun i hi j hj => by rw [VF qd c r _ (fun i hi => (h.getD hi).1) hi hj]; exact (h.getD hi).2 j hj⟩
theorem qD.take {n k : Nat} {xs : List Num} {f : Nat → R.Real} (h : qD n xs f) (hk : k ≤ n) : qD k (xs.take k) f :=
 ⟨by rw [List.length_take, h.1]; omega, fun i hi => by rw [List.getD_eq_getElem?_getD, List.getElem?_take_of_lt hi, ← List.getD_eq_getElem?_getD]; exact h.2 i (by omega)⟩
theorem qD.drop {n k : Nat} {xs : List Num} {f : Nat → R.Real} (h : qD n xs f) : qD (n - k) (xs.drop k) (fun i => f (k + i)) :=
 ⟨by rw [List.length_drop, h.1], fun i hi => by rw [List.getD_eq_getElem?_getD, List.getElem?_drop, ← List.getD_eq_getElem?_getD]; exact h.2 _ (by omega)⟩
theorem qD.app {n k : Nat} {xs ys : List Num} {f : Nat → R.Real} (h : qD n xs f) (h' : qD k ys (fun i => f (n + i))) : qD (n + k) (xs ++ ys) f :=
 ⟨by rw [List.length_append, h.1, h'.1], fun i hi => by
  rw [List.getD_eq_getElem?_getD]
  by_cases e : i < n
  ·rw [List.getElem?_append_left (by rw [h.1]; exact e), ← List.getD_eq_getElem?_getD]; exact h.2 i e
  ·have := h'.2 (i - n) (by omega)
   dsimp only at this;rw [show n + (i - n) = i by omega] at this;rw [List.getElem?_append_right (by rw [h.1]; omega), h.1, ← List.getD_eq_getElem?_getD]; exact this⟩
theorem qD.set {n : Nat} {xs : List Num} {f : Nat → R.Real} (h : qD n xs f) (k : Nat) {y : Num} {g : Nat → R.Real} (hy : Enc y (g k)) (hg : ∀ i, i < n → i ≠ k → f i = g i) : qD n (xs.set k y) g :=
 ⟨by rw [List.length_set, h.1], fun i hi => by
  rw [List.getD_eq_getElem?_getD, List.getElem?_set]
  by_cases e : k = i
  ·subst e; rw [if_pos rfl, if_pos (by rw [h.1]; exact hi)]; exact hy
  ·rw [if_neg e, ← List.getD_eq_getElem?_getD, ← hg i hi (Ne.symm e)]; exact h.2 i hi⟩
theorem vR.firsts {r c k : Nat} {X : List (List Num)} {A : Nat → Nat → R.Real} (h : vR r c X A) (hk : k ≤ c) : qE r k (X.flatMap (List.take k)) A := by
 have : X.flatMap (List.take k) = (X.map (List.take k)).flatMap id := by rw [List.flatMap_map]; rfl
 rw [this];refine vR.flat ⟨by rw [List.length_map, h.1], fun i hi => ?_⟩;obtain ⟨xs, h1, h2⟩ := h.2 i hi;exact ⟨xs.take k, by rw [List.getElem?_map, h1]; rfl, h2.take hk⟩
theorem vR.upTo {r c j k : Nat} {X : List (List Num)} {A B : Nat → Nat → R.Real} {f : Nat → List Num → List Num} (h : vR r c X A)
  (hf : ∀ i xs, j ≤ i → i < k → i < r → qD c xs (A i) → qD c (f i xs) (B i)) (he : ∀ i, i < r → ¬ (j ≤ i ∧ i < k) → ∀ m, m < c → A i m = B i m) : vR r c (j8 f X j k) B :=
 ⟨by rw [Zg, h.1], fun i hi => by
  obtain ⟨xs, h1, h2⟩ := h.2 i hi;rw [j5, h1]
  by_cases e : j ≤ i ∧ i < k
  ·exact ⟨f i xs, by simp [e], hf i xs e.1 e.2 hi h2⟩
  ·exact ⟨xs, by simp [e], h2.congr (he i hi e)⟩⟩
theorem vR.set {r c k : Nat} {X : List (List Num)} {A B : Nat → Nat → R.Real} {y : List Num} (h : vR r c X A) (hk : k < r) (hy : qD c y (B k)) (he : ∀ i, i < r → i ≠ k → ∀ m, m < c → A i m = B i m) : vR r c (X.set k y) B :=
 ⟨by rw [List.length_set, h.1], fun i hi => by
  rw [List.getElem?_set]
  by_cases e : k = i
  ·subst e; rw [if_pos rfl, if_pos (by rw [h.1]; exact hi)]; exact ⟨y, rfl, hy⟩
  ·obtain ⟨xs, h1, h2⟩ := h.2 i hi
   rw [if_neg e]; exact ⟨xs, h1, h2.congr (he i hi (Ne.symm e))⟩⟩
end
section
open R R.Real
theorem zhf {m : Nat} {x : List Num} {f : Nat → R.Real} (h : qD m x f) : ∃ p, p * p = dot m f f ∧ Enc (zbq x) p := by
 have h0 : 0 ≤ dot m f f := zbN fun i _ => Vn _;unfold zbq
 split
 ·exact ⟨-zak (dot m f f), by rw [neg_mul, mul_neg, R.Real.neg_neg]; exact Yz h0, (h.dot h).root.neg⟩
 ·exact ⟨zak (dot m f f), Yz h0, (h.dot h).root⟩
theorem zhe {m : Nat} {x : List Num} {f : Nat → R.Real} {P : Num} {p : R.Real} (h : qD m x f) (hm : 1 ≤ m) (hp : Enc P p) : qD m (zbp x P) (fun i => f i - tip p i) :=
 h.set 0 ((h.2 0 (by omega)).sub hp) fun i _ hi => by unfold tip; rw [if_neg hi, sub_zero]
theorem Ya (j : Nat) : qD j (List.replicate j (Num.of 0)) (fun _ => 0) :=
 ⟨List.length_replicate, fun i hi => by rw [List.getD_eq_getElem?_getD, List.getElem?_replicate, if_pos hi]; exact zaA⟩
theorem zcW {c k j : Nat} {p : R.Real} {A : Nat → Nat → R.Real} (h : k ≤ j) : qZ c k p A k j = tip p (j - k) := by
 unfold qZ;rw [if_neg (by omega), if_pos rfl]
theorem zdP {c k j : Nat} {p : R.Real} {A : Nat → Nat → R.Real} (i : Nat) (h : j < k) : qZ c k p A i j = A i j := if_pos (.inr h)
theorem vR.fold {n c k : Nat} {X : List (List Num)} {A : Nat → Nat → R.Real} (h : vR n c X A) (hk : k < n) (hc : k < c) :
  ∃ p, p * p = dot (c - k) (fun j => A k (k + j)) (fun j => A k (k + j)) ∧ vR n c (vJ n k X) (qZ c k p A) := by
 have hx := (h.getD hk).drop (k := k);obtain ⟨p, hp, ep⟩ := zhf hx;have hv := zhe hx (by omega) ep;refine ⟨p, hp, ?_⟩;unfold vJ;have hxk := h.getD hk;generalize X.getD k [] = xs at hx hv ep hxk ⊢;dsimp only;generalize zbq (xs.drop k) = P at hv ep ⊢;generalize zbp (xs.drop k) P = v at hv ⊢;have ec : c = k + (c - k) := by omega
 refine vR.set (B := qZ c k p A) (A := fun i j => if i = k then A i j else qZ c k p A i j) ?_ hk ?_ ?_
 ·refine h.upTo ?_ ?_
  ·intro i ws h1 h2 h3 hw
   have hd := hw.drop (k := k)
   have key := ((hw.take (k := k) (by omega)).congr (g := qZ c k p A i) fun j hj => by unfold qZ; rw [if_pos (.inr hj)]).app ((hd.subs (hv.scale (((hd.dot hv).add (hd.dot hv)).div (hv.dot hv)))).congr (g := fun j => qZ c k p A i (k + j)) fun j hj => by
    unfold qZ;rw [if_neg (by omega), if_neg (by omega), show k + j - k = j by omega];rfl)
   rw [show k + (c - k) = c by omega] at key;exact key.congr fun j hj => (if_neg (by omega)).symm
  ·intro i hi hn m hm
   by_cases e : i = k
   ·rw [if_pos e]
   ·rw [if_neg e]; unfold qZ; rw [if_pos (.inl (by omega))]
 ·have key := ((hxk.take (k := k) (by omega)).congr (g := qZ c k 0 A k) fun j hj => by unfold qZ; rw [if_pos (.inr hj)]).app ((Ya (c - k)).congr (g := fun j => qZ c k 0 A k (k + j)) fun j hj => by
   unfold qZ tip;rw [if_neg (by omega), if_pos rfl]
   split <;> rfl)
  rw [show k + (c - k) = c by omega] at key
  have el : qM k xs (xs.length - k) = xs.take k ++ List.replicate (c - k) (Num.of 0) := by
   unfold qM;rw [hxk.1, List.drop_eq_nil_of_le (by rw [hxk.1]; omega), List.append_nil]
  rw [el];refine key.set k (g := qZ c k p A k) ?_ ?_
  ·rw [zcW (Nat.le_refl k), Nat.sub_self]; exact ep
  ·intro j hj hn
   by_cases e : j < k
   ·rw [zdP _ e, zdP _ e]
   ·rw [zcW (by omega), zcW (by omega)]
    unfold tip;rw [if_neg (by omega), if_neg (by omega)]
 ·intro i hi hn m hm
  rw [if_neg hn]
theorem vR.foldX {n c : Nat} {X : List (List Num)} {A : Nat → Nat → R.Real} (h : vR n c X A) (hc : n ≤ c) (k : Nat) (hk : k ≤ n) :
  ∃ B, vR n c (zcB n X k) B ∧ (∀ i l, dot c (B i) (B l) = dot c (A i) (A l)) ∧ ∀ i, i < k → ∀ j, i < j → j < c → B i j = 0 := by
 induction k with
 | zero => exact ⟨A, h, fun _ _ => rfl, fun i hi => by omega⟩
 | succ k ih =>
  obtain ⟨B, h1, h2, h3⟩ := ih (by omega);obtain ⟨p, hp, hB⟩ := h1.fold (k := k) (by omega) (by omega);exact ⟨_, hB, fun i l => by rw [zeX (by omega) h3 hp, h2], zeW h3⟩
theorem qE.foldN {r c : Nat} {l : List Num} {A : Nat → Nat → R.Real} (h : qE r c l A) (hc : r ≤ c) :
  ∃ S, qE r r (zes r c l) S ∧ (∀ i m, i < m → m < r → S i m = 0) ∧ ∀ i j, i < r → j < r → dot r (S i) (S j) = dot c (A i) (A j) := by
 obtain ⟨B, h1, h2, h3⟩ := h.rows.foldX hc r (Nat.le_refl r);have hL : qE r r (QI r c l) B := h1.firsts hc;refine ⟨_, hL.signs.clear, fun i m him hm => if_pos him, fun i j hi hj => ?_⟩;refine (ze1 (za4 r (QI r c l)) (L := B) (S := fun i j => if i < j then 0 else if j ≤ i ∧ za4 r (QI r c l) j then -(B i j) else B i j) (fun i hi j hij hj => h3 i hi j hij (by omega)) ?_ hi hj).trans ?_
 rotate_left
 ·rw [← h2]
  obtain ⟨m, rfl⟩ : ∃ m, c = r + m := ⟨c - r, by omega⟩
  rw [JO, Jo (n := m) _ (fun t ht => h3 i hi _ (by omega) (by omega)), R.Real.add_zero]
 ·intro i j
  by_cases e : i < j
  ·rw [if_pos e, if_pos e]
  ·rw [if_neg e, if_neg e]
   by_cases e2 : za4 r (QI r c l) j
   ·rw [if_pos ⟨by omega, e2⟩, if_pos e2]
   ·rw [if_neg (fun h => e2 h.2), if_neg e2]
def zdG (n : Nat) (s : RSt) (t : CSt) : Prop := vR n n s.X t.A ∧ qD n s.E t.E ∧ Enc s.a t.a
theorem zdG.step {n j : Nat} {s : RSt} {t : CSt} {ws : List Num} {w : Nat → R.Real} (h : zdG n s t) (hw : qD n ws w) (hj : j < n) : zdG n (QX n ws j s) (JX n w j t) := by
 obtain ⟨h1, h2, h3⟩ := h;have hx := hw.2 j hj;have hb := h3.add (hx.mul hx);have hd : Enc (zeE s.a (s.a.add ((ws.getD j qd).mul (ws.getD j qd)))) (YZ t.a (t.a + w j * w j)) := (h3.div hb).root;have hc : Enc (zeF (ws.getD j qd) s.a (s.a.add ((ws.getD j qd).mul (ws.getD j qd)))) (Y3 (w j) t.a (t.a + w j * w j)) := hx.div (h3.mul hb).root;unfold QX;dsimp only;refine ⟨h1.upTo ?_ ?_, ?_, hb⟩
 ·intro i xs hi1 _ hi hxs
  unfold ZT;refine hxs.set j ?_ ?_
  ·show Enc _ (if j = j ∧ j ≤ i then _ else _)
   rw [if_pos ⟨rfl, hi1⟩];exact ((hxs.2 j hj).mul hd).sub ((h2.2 i hi).mul hc)
  ·intro m hm hne
   exact (if_neg (fun h => hne h.1)).symm
 ·intro i hi hn m hm
  exact (if_neg (fun h => hn ⟨h.2, hi⟩)).symm
 ·refine ⟨by rw [Zg, h2.1], fun i hi => ?_⟩
  rw [List.getD_eq_getElem?_getD, j5];have hl : i < s.E.length := by rw [h2.1]; exact hi
  have he := h2.2 i hi;rw [List.getD_eq_getElem?_getD, List.getElem?_eq_getElem hl] at he;rw [List.getElem?_eq_getElem hl];show Enc (if j ≤ i ∧ i < n then zhk j _ s.X i s.E[i] else s.E[i]) (if j ≤ i then t.E i + t.A i j * w j else t.E i)
  by_cases e : j ≤ i
  ·rw [if_pos ⟨e, hi⟩, if_pos e]
   exact Enc.add he (((h1.getD hi).2 j hj).mul hx)
  ·rw [if_neg (fun h => e h.1), if_neg e]
   exact he
theorem zdG.loop {n : Nat} {s : RSt} {t : CSt} {ws : List Num} {w : Nat → R.Real} (h : zdG n s t) (hw : qD n ws w) : ∀ k, k ≤ n → zdG n (Zk n ws s k) (zbd n w t k)
 | 0, _ => h
 | k + 1, hk => (zdG.loop h hw k (by omega)).step hw (by omega)
def zhx (n : Nat) (x p y s : List Num) : Prop := ∃ X S, qD n x X ∧ qD n y X ∧ qE n n s S ∧ (∀ i m, i < m → m < n → S i m = 0) ∧ qE n n p (fun i j => dot n (S i) (S j))
theorem zhl {n : Nat} {x p y s f g : List Num} {F G : Nat → Nat → R.Real} (hF : qE n n f F) (hG : qE n n g G) (h : zhx n x p y s) :
  zhx n (zgQ n x f) (zgS n p f g) (zcj n y f) (V3 n s f g) := by
 obtain ⟨X, S, hx, hy, hs, ht, hp⟩ := h;obtain ⟨T, h1, h2, h3⟩ := ((hF.mul hs).beside hG).foldN (by omega)
 have key : ∀ i j, i < n → j < n → dot n (T i) (T j) = dot n (fun m => dot n (F i) (fun t => dot n (S t) (S m))) (F j) + dot n (G i) (G j) := fun i j hi hj => by
  rw [h3 i j hi hj, JO]
  congr 1
  ·rw [jY (f' := fun m => dot n (F i) (fun t => S t m)) (g' := fun m => dot n (F j) (fun t => S t m)) (fun m hm => if_pos hm) (fun m hm => if_pos hm)]
   unfold dot;rw [show (Sig n fun i_1 => (Sig n fun i_2 => F i i_2 * S i_2 i_1) * Sig n fun i => F j i * S i i_1) = Sig n fun m => Sig n fun t => (Sig n fun u => F i u * S u m) * (F j t * S t m) from qg fun m _ => ZG _ _ _, Vd];refine qg fun t _ => ?_;rw [Ve];rw [show (Sig n fun m => (Sig n fun u => F i u * S u m) * (F j t * S t m)) = Sig n fun m => Sig n fun u => F i u * S u m * (F j t * S t m) from qg fun m _ => Ve _ _ _, Vd]
   refine qg fun u _ => ?_;rw [R.Real.mul_assoc, R.Real.mul_comm (Sig n _), ← R.Real.mul_assoc, ZG];refine qg fun m _ => ?_;generalize F i u = a; generalize S u m = b; generalize F j t = c; generalize S t m = d;rw [R.Real.mul_assoc, R.Real.mul_assoc, ← R.Real.mul_assoc b, R.Real.mul_comm b, R.Real.mul_assoc c]
  ·refine jY (fun m hm => ?_) (fun m hm => ?_)
   ·rw [if_neg (by omega), show n + m - n = m by omega]
   ·rw [if_neg (by omega), show n + m - n = m by omega]
 refine ⟨fun i => dot n (F i) X, T, hF.apply hx, hF.apply hy, h1, h2, ?_⟩;refine (hF.turned hp hG.square fun i hi j hj => ?_).congr fun i hi j hj => (key i j hi hj).symm;rw [← key i j hi hj, ← key j i hj hi, jD]
theorem zkr (a b : R.Real) : dot 1 (fun _ => a) (fun _ => b) = a * b := R.Real.zero_add _
theorem zhm {n : Nat} {x p y s hh : List Num} {r z : Num} {H : Nat → R.Real} {rr zz : R.Real} (hH : qD n hh H) (hr : Enc r rr) (hp0 : Pos rr) (hz : Enc z zz) (h : zhx n x p y s) :
  zhx n (J7 n x p hh r z) (zbh n p hh r) (ZO n y s hh r z) (Zj n s hh r) := by
 obtain ⟨X, S, hx, hy, hs, ht, hp⟩ := h;obtain ⟨P, eP⟩ := zc ((fun i j => dot n (S i) (S j)));have PS : ∀ i j, P i j = dot n (S i) (S j) := fun i j => by rw [← eP]
 rw [eP] at hp;have sym : ∀ i l, P i l = P l i := fun i l => by rw [PS, PS, jD]
 obtain ⟨u, eu⟩ := zc ((fun i => dot n (P i) H));have hu := hp.apply hH;rw [eu] at hu;have uP : ∀ i, u i = dot n (P i) H := fun i => by rw [← eu]
 obtain ⟨a, ea⟩ := zc (dot n H u + rr);obtain ⟨w, ew⟩ := zc ((fun j => dot n (fun m => S m j) H));have hw : qD n (ze7 n s hh) w := by rw [← ew]; exact hs.turn.apply hH
 have h0 : zdG n ⟨jP n n s, Zl n, r⟩ ⟨S, fun _ => 0, rr⟩ := ⟨hs.rows, by
  refine ⟨by simp [Zl, jq], fun i hi => ?_⟩;have : Zl n = List.replicate n (Num.of 0) := by unfold Zl jq; rw [List.map_replicate]
  rw [this];exact (Ya n).2 i hi, hr⟩
 have hl := h0.loop hw n (Nat.le_refl n);obtain ⟨c1, c2, c3, c4, c5⟩ := zjh (w := w) hp0 ht;change zdG n (ya n s hh r) _ at hl;generalize zbd n w ⟨S, fun _ => 0, rr⟩ n = t at hl c1 c2 c3 c4 c5
 have ta : t.a = a := by
  rw [c1, ← ea, R.Real.add_comm]
  congr 1
  have hu' : u = fun i => dot n (fun m => dot n (S i) (S m)) H := by rw [← eu, ← eP]
  rw [← ew, hu'];exact ziC n S H
 have tE : ∀ i, i < n → t.E i = u i := fun i hi => by
  rw [c3 i hi, uP, ← ew, show P i = fun m => dot n (S i) (S m) from funext fun m => PS i m];exact zcH n S H i
 have an : a ≠ 0 := ta ▸ c2.2;obtain ⟨l1, l2, l3⟩ := hl;have e1 : Enc (zbi x hh z) (zz - dot n H X) := hz.sub (hH.dot hx);have e2 : Enc (Yk y hh z) (zz - dot n H X) := hz.sub (hH.dot hy);have ha : Enc (zel n p hh r) a := by rw [← ea]; exact (hH.dot hu).add hr
 have hk : qD n (zbj n p hh r) (fun i => u i / a) := hu.map (fun x => x.div (zel n p hh r)) (fun x => x / a) fun _ _ h => h.div ha
 have hk2 : qD n (zdW n s hh r) (fun i => u i / a) := (l2.map (fun x => x.div (ya n s hh r).a) (fun x => x / a) fun _ _ h => h.div (ta ▸ l3)).congr fun i hi => by
  show t.E i / a = u i / a;rw [tE i hi]
 refine ⟨fun i => X i + u i / a * (zz - dot n H X), t.A, hx.adds (hk.scale e1), hy.adds (hk2.scale e2), l1.flat, c4, ?_⟩
 have hM : qE n n (y6 (Zz n) (vm n 1 n (zbj n p hh r) hh)) (fun i j => QQ i j - u i / a * H j) :=
  ((zit n).subs ((zdt hk).mul (ziu hH))).congr fun i _ j _ => by rw [zkr]
 have hK : qE n n (vm n 1 n (qj (zbj n p hh r) r) (jT n 1 (zbj n p hh r))) (fun i j => u i / a * rr * (u j / a)) :=
  ((zdt (hk.scale hr)).mul (zdt hk).turn).congr fun i _ j _ => by rw [zkr]
 have J : ∀ i l, i < n → l < n → dot n (fun m => dot n (fun j => QQ i j - u i / a * H j) (fun t => P t m)) (fun j => QQ l j - u l / a * H j) + u i / a * rr * (u l / a) = P i l - u i * u l / a := fun i l hi hl =>
  zjV (M := fun i j => QQ i j - u i / a * H j) (k := fun i => u i / a) (fun i l _ _ => sym i l) (fun i _ => uP i) ea.symm an (fun _ _ => rfl) (fun _ _ _ _ => rfl) hi hl
 refine (hM.turned hp hK fun i hi j hj => ?_).congr fun i hi j hj => ?_
 ·rw [J i j hi hj, J j i hj hi, sym i j, R.Real.mul_comm (u i)]
 ·rw [J i j hi hj, c5 i j hi hj, tE i hi, tE j hj, ta, PS]
theorem zfF {n : Nat} {x y s : List Num} {X : Nat → R.Real} {A : Nat → Nat → R.Real} (hx : qD n x X) (hA : qE n n s A) : zhx n x (j2 n (ZU n s)) x (ZU n s) :=
 ⟨X, _, hx, hx, hA.clear, fun i m him _ => if_pos him, hA.clear.square⟩
end
section
open R R.Real
theorem zep {a b : Num} {x : R.Real} (ha : Enc a x) (hb : Enc b x) : zb5 a b = 0 := by
 unfold zb5
 split
 ·rename_i h
  simp only [Bool.and_eq_true] at h;have h1 := zhg (R.Real.le_trans (ha h.1).1 (hb h.2).2);have h2 := zhg (R.Real.le_trans (hb h.2).1 (ha h.1).2);unfold mx
  split <;> split <;> omega
 ·rfl
theorem zfk {f : Num → Num → Int} {l : List (Num × Num)} (h : ∀ (i : Nat) (a b : Num), l[i]? = some (a, b) → f a b = 0) : QH f l = 0 := by
 unfold QH
 suffices H : ∀ (l : List (Num × Num)), (∀ q, q ∈ l → f q.1 q.2 = 0) → l.foldl (fun m q => mx m (f q.1 q.2)) 0 = 0 by
  refine H l fun q hq => ?_;obtain ⟨i, hi⟩ := List.getElem?_of_mem hq;exact h i q.1 q.2 hi
 intro l
 induction l with
 | nil => intro _; rfl
 | cons q l ih =>
  intro h;rw [List.foldl_cons, h q List.mem_cons_self];exact ih fun q hq => h q (List.mem_cons_of_mem _ hq)
def Js (r : PR) : Prop := zhx r.n r.x r.p r.y r.s
theorem JH {l : List Num} {i : Nat} {a : Num} (h : l[i]? = some a) : l.getD i qd = a := by rw [List.getD_eq_getElem?_getD, h]; rfl
theorem zih {r : PR} (h : Js r) : zii r = 0 := by
 obtain ⟨X, S, hx, hy, hs, ht, hp⟩ := h;have hq := hs.square;refine zfk fun i a b hi => ?_;rw [List.getElem?_zip_eq_some] at hi;obtain ⟨ha, hb⟩ := hi;unfold vT at ha;unfold vS at hb
 by_cases h : i < r.n
 ·rw [List.getElem?_append_left (by rw [hx.1]; exact h)] at ha
  rw [List.getElem?_append_left (by rw [hy.1]; exact h)] at hb;have h1 := hx.2 i h;have h2 := hy.2 i h;rw [JH ha] at h1;rw [JH hb] at h2;exact zep h1 h2
 ·rw [List.getElem?_append_right (by rw [hx.1]; omega), hx.1] at ha
  rw [List.getElem?_append_right (by rw [hy.1]; omega), hy.1] at hb;have hlt : i - r.n < r.n * r.n := by rw [← hp.1]; exact (List.getElem?_eq_some_iff.1 ha).1
  have h1 := hp.drop.2 (i - r.n) hlt;have h2 := hq.drop.2 (i - r.n) hlt;rw [JH ha] at h1;rw [JH hb] at h2;exact zep h1 h2
theorem VE (n : Nat) (l : List Int) (h : l.length = n * n) : qE n n (zM l) (fun i j => e (l.getD (i * n + j) 0)) :=
 ⟨by rw [jd, h], fun i hi j hj => by
  unfold zM;rw [Jg qV l _ 0 qd (by rw [h]; exact YY hi hj)]; exact vw _⟩
theorem zhn {n : Nat} {l : List Int} (h : l.length = n + n * n) : Js (zap n l) := by
 have h1 := zby (l.take n);rw [show (l.take n).length = n by rw [List.length_take]; omega] at h1;exact zfF (y := []) h1 (VE n (l.drop n) (by rw [List.length_drop]; omega))
theorem zfD {r : PR} {l : List Int} (hl : l.length = r.n * r.n + r.n * r.n) (h : Js r) : Js (zhG r l) :=
 zhl (VE r.n (l.take (r.n * r.n)) (by rw [List.length_take]; omega)) (VE r.n (l.drop (r.n * r.n)) (by rw [List.length_drop]; omega)) h
theorem zke {k : Int} (h : 0 < k) : Pos (e k) := ⟨by rw [← vf]; exact vx (by omega), zkA (by omega)⟩
theorem zfE {r : PR} {l : List Int} (hl : l.length = r.n + 2) (hr : 0 < l.getD r.n 0) (h : Js r) : Js (zh4 r l) := by
 have h1 := zby (l.take r.n);rw [show (l.take r.n).length = r.n by rw [List.length_take]; omega] at h1;exact zhm h1 (vw _) (zke hr) (vw _) h
end
end Go.Proofs.YtcoiklclbljjeaaGreatDoor.L
