/- Lemmas of the card's proof. -/
import Derived.Test.YtcoiklclbljjeaaGreatDoorM12
import Derived.Test.YtcoiklclbljjeaaGreatDoorM18
set_option linter.unusedVariables false
set_option linter.unusedSimpArgs false
set_option maxRecDepth 100000
set_option maxHeartbeats 16000000
namespace Go.Proofs.YtcoiklclbljjeaaGreatDoor.L
open Go.RowKit
theorem Xaj {P : Prop} (h : P := by
 intro b hc k;rw [mem_ready, mem_ready];simp only [List.getElem?_toArray, List.getElem?_modify];constructor
 ·rintro ⟨h0, o, ho, he⟩
  refine ⟨h0, if i = k then yH j o else o, by rw [ho]; split <;> rfl, ?_⟩
  split
  ·rename_i hik
   subst hik;intro e hm hb;unfold yH at hm;simp only [Array.mem_push] at hm;rcases hm with hm | hm
   ·exact he e hm hb
   ·subst hm
    unfold zcE at hB;rw [ho] at hB;simp only [Option.map_some, Option.getD_some, Array.any_eq_true, Bool.and_eq_true] at hB;obtain ⟨p, hp, hb1, hk⟩ := hB;have hl := he _ (Array.getElem_mem hp) hb1;cases ho2 : l[(o.after[p]).on]? with
    | none => rw [ho2] at hk; cases hk
    | some o2 =>
     rw [ho2] at hk;simp only [Option.map_some, Option.getD_some, Array.any_eq_true, Bool.and_eq_true, beq_iff_eq] at hk;obtain ⟨q, hq, hb2, hon⟩ := hk
     have hlt : (o.after[p]).on < b.size := by
      rcases Nat.lt_or_ge (o.after[p]).on b.size with h' | h'
      ·exact h'
      ·simp [Array.getElem?_eq_none h'] at hl
     have := hc _ o2 ho2 (by simpa [hlt] using hl) _ (Array.getElem_mem hq) hb2
     rwa [hon] at this
  ·exact he
 ·rintro ⟨h0, o, ho, he⟩
  refine ⟨h0, ?_⟩;cases ho1 : l[k]? with
  | none => rw [ho1] at ho; simp at ho
  | some o1 =>
   rw [ho1] at ho;refine ⟨o1, rfl, fun e hm hb => ?_⟩
   by_cases hik : i = k
   ·simp only [hik, if_true, Option.map_eq_map, Option.map_some, Option.some.injEq] at ho
    subst ho;exact he e (by unfold yH; simp [hm]) hb
   ·simp only [hik, if_false, Option.map_eq_map, Option.map_some, id, Option.some.injEq] at ho
    subst ho;exact he e hm hb) : P := h
theorem Xbk {P : Prop} (h : P := by
 intro b a w hc h;refine ⟨?_, h.2⟩;rw [List.eq_nil_iff_forall_not_mem];intro k hk;have := (rdy b hc k).1 hk;rw [h.1] at this;cases this) : P := h
theorem Xa2 {P : Prop} (h : P := by
 intro x o' ho' hx' e hm hb;refine getD_set_true ?_
 by_cases hkx : k = x
 ·subst hkx
  rw [ho] at ho';cases ho';exact he e hm hb
 ·rw [getD_set_ne true hkx] at hx'
  exact hc x o' ho' hx' e hm hb) : P := h
section
section
variable {P : Program} {Q : Exit → Act → World → Prop}
theorem zeJ {ops : Array Oper} : ∀ (k : Nat) (b : Array Bool) (a : Act) (w : World), wpAny P .any ops Q k b a w → wpAny P .any ops Q (k + 1) b a w
 | 0, b, a, w, h => ⟨fun _ => h.2, fun i hi => by rw [h.1] at hi; cases hi⟩
 | k + 1, b, a, w, h => ⟨h.1, fun i hi => wpOp_mono (fun a' w' h' => zeJ k _ a' w' h') (h.2 i hi)⟩
theorem zhr {ops : Array Oper} (k j : Nat) (b : Array Bool) (a : Act) (w : World) (h : wpAny P .any ops Q k b a w) : wpAny P .any ops Q (k + j) b a w := by
 induction j with
 | zero => exact h
 | succ j ih => exact zeJ _ _ _ _ ih
def zaQ (l : List Oper) (m : Nat) : Bool :=
 decide (m ≤ l.length) && ((List.range m).all fun i => (l[i]?.map fun o => o.guard.isNone && o.after.all fun e => !Region.binds .any e || decide (e.on < i)).getD false) &&
 ((List.range l.length).all fun i => decide (i < m) || (List.range m).all fun j => (l[i]?.map fun o => o.after.any fun e => Region.binds .any e && e.on == j).getD false) &&
 Region.seqB .any l.toArray (l.length - m) m ((Array.range l.length).map fun i => decide (i < m))
theorem ziU {o : Oper} {a : Act} {w : World} {K K' : Act → World → Prop} {N : Act → World → Prop} (h : ∀ a w, K a w → K' a w) (hh : o.wp P a w K (Exit.then N Q)) : o.wp P a w K' Q := by
 exact Xaz
theorem zbJ {l : List Oper} {m : Nat} (hB : zaQ l m = true) :
  ∀ (f : Nat) (b b1 : Array Bool) (a : Act) (w : World), b.size = l.length → b1.size = m → (∀ i, i < m → b.getD i true = b1.getD i true) → (∀ i, m ≤ i → i < l.length → b.getD i true = false) →
   wpAny P .any (l.take m).toArray (Exit.then (fun a w => wpList P l.toArray Q (l.drop m) a w) Q) f b1 a w → wpAny P .any l.toArray Q (f + (l.length - m)) b a w := by
 simp only [zaQ, Bool.and_eq_true, decide_eq_true_eq, List.all_eq_true, List.mem_range] at hB;obtain ⟨⟨⟨hm, h1⟩, h2⟩, h3⟩ := hB;have hlt : (l.take m).length = m := by rw [List.length_take]; omega
 have getl : ∀ i, i < m → (l.take m).toArray[i]? = l.toArray[i]? := fun i hi => by rw [List.getElem?_toArray, List.getElem?_toArray, List.getElem?_take_of_lt hi]
 have first : ∀ i, i < m → ∃ o, l[i]? = some o ∧ o.guard = none ∧ ∀ e, e ∈ o.after → Region.binds .any e = true → e.on < i := fun i hi => by
  have := h1 i hi;cases ho : l[i]? with
  | none => rw [ho] at this; cases this
  | some o =>
   rw [ho] at this;simp only [Option.map_some, Option.getD_some, Bool.and_eq_true, Option.isNone_iff_eq_none, Array.all_eq_true_iff_forall_mem, Bool.or_eq_true, Bool.not_eq_true', decide_eq_true_eq] at this;exact ⟨o, rfl, this.1, fun e he hb => (this.2 e he).resolve_left (by simp [hb])⟩
 have done_or : ∀ (b1 : Array Bool), (∀ i, i < m → b1.getD i true = true) ∨ ∃ i, i < m ∧ b1.getD i true = false ∧ ∀ j, j < i → b1.getD j true = true := by
  intro b1
  have key : ∀ k, k ≤ m → (∀ i, i < k → b1.getD i true = true) ∨ ∃ i, i < m ∧ b1.getD i true = false ∧ ∀ j, j < i → b1.getD j true = true := by
   intro k
   induction k with
   | zero => exact fun _ => .inl fun i hi => absurd hi (by omega)
   | succ k ih =>
    intro hk;rcases ih (by omega) with h | h
    ·cases hb : b1.getD k true with
     | false => exact .inr ⟨k, by omega, hb, h⟩
     | true =>
      refine .inl (fun i hi => ?_);rcases Nat.lt_or_ge i k with h' | h'
      ·exact h i h'
      ·obtain rfl : i = k := by omega
       exact hb
    ·exact .inr h
  exact key m (Nat.le_refl _)
 have getF : ∀ (b : Array Bool) (i : Nat), i < b.size → b.getD i false = b.getD i true := fun b i hi => by simp [hi]
 have fin : ∀ (F : Nat) (b : Array Bool) (a : Act) (w : World), b.size = l.length → (∀ i, i < m → b.getD i true = true) → (∀ i, m ≤ i → i < l.length → b.getD i true = false) → wpList P l.toArray Q (l.drop m) a w → wpAny P .any l.toArray Q (F + (l.length - m)) b a w := by
  intro F b a w hs hb hb2 h
  have e : b = (Array.range l.length).map fun i => decide (i < m) := by
   apply Array.ext
   ·simp [hs]
   ·intro i hi hi2
    have hil : i < l.length := by omega
    simp only [Array.getElem_map, Array.getElem_range];rcases Nat.lt_or_ge i m with h' | h'
    ·have := hb i h'
     simp only [Array.getD_eq_getD_getElem?, Array.getElem?_eq_getElem hi, Option.getD_some] at this;rw [this, decide_eq_true h']
    ·have := hb2 i h' hil
     simp only [Array.getD_eq_getD_getElem?, Array.getElem?_eq_getElem hi, Option.getD_some] at this;rw [this, decide_eq_false (by omega)]
  subst e;have := wpAny_of_seq (P := P) (md := .any) (ops := l.toArray) (Q' := Q) (l.drop m) m _ a w (fun j => by simp [List.getElem?_drop]) (by rw [List.length_drop]; exact h3) h;rw [List.length_drop] at this;rw [Nat.add_comm];exact zhr _ _ _ _ _ this
 have rdy1 : ∀ (b1 : Array Bool), b1.size = m → ∀ j, j ∈ Region.ready .any (l.take m).toArray b1 ↔ j < m ∧ b1.getD j true = false ∧ ∃ o, l[j]? = some o ∧ ∀ e, e ∈ o.after → Region.binds .any e = true → b1.getD e.on false = true := by
  intro b1 hs1 j;rw [mem_ready];constructor
  ·rintro ⟨h0, o, ho, he⟩
   have hj : j < m := by
    have := (Array.getElem?_eq_some_iff.1 ho).1
    simpa [hlt] using this
   exact ⟨hj, h0, o, by rw [getl j hj, List.getElem?_toArray] at ho; exact ho, he⟩
  ·rintro ⟨hj, h0, o, ho, he⟩
   exact ⟨h0, o, by rw [getl j hj, List.getElem?_toArray]; exact ho, he⟩
 intro f
 induction f with
 | zero =>
  intro b b1 a w hs hs1 hb hb2 h;obtain ⟨hr, hq⟩ := h;rcases done_or b1 with hd | ⟨i, hi, hi0, hlow⟩
  ·exact fin 0 b a w hs (fun i hi => by rw [hb i hi]; exact hd i hi) hb2 hq
  ·exfalso
   obtain ⟨o, ho, _, he⟩ := first i hi
   have : i ∈ Region.ready .any (l.take m).toArray b1 := (rdy1 b1 hs1 i).2 ⟨hi, hi0, o, ho, fun e hm' hb' => by
    have hlt' := he e hm' hb';rw [getF b1 _ (by omega)];exact hlow _ hlt'⟩
   rw [hr] at this;cases this
 | succ f ih =>
  intro b b1 a w hs hs1 hb hb2 h;rcases done_or b1 with hd | ⟨i, hi, hi0, hlow⟩
  ·refine fin (f + 1) b a w hs (fun i hi => by rw [hb i hi]; exact hd i hi) hb2 (h.1 ?_)
   rw [List.eq_nil_iff_forall_not_mem];intro j hj;obtain ⟨hjm, hj0, _⟩ := (rdy1 b1 hs1 j).1 hj;rw [hd j hjm] at hj0;cases hj0
  ·rw [show f + 1 + (l.length - m) = (f + (l.length - m)) + 1 by omega]
   have mem : ∀ j, j ∈ Region.ready .any l.toArray b → j ∈ Region.ready .any (l.take m).toArray b1 := by
    intro j hj;obtain ⟨h0, o, ho, he⟩ := mem_ready.1 hj;rw [List.getElem?_toArray] at ho;have hjl : j < l.length := (List.getElem?_eq_some_iff.1 ho).1
    have hjm : j < m := by
     rcases Nat.lt_or_ge j m with h' | h'
     ·exact h'
     ·exfalso
      have := h2 j hjl;rw [decide_eq_false (by omega), Bool.false_or, List.all_eq_true] at this;have := this i (List.mem_range.2 hi);rw [ho] at this;simp only [Option.map_some, Option.getD_some, Array.any_eq_true, Bool.and_eq_true, beq_iff_eq] at this;obtain ⟨k, hk, hbk, hon⟩ := this;have := he _ (Array.getElem_mem hk) hbk;rw [hon, getF b i (by omega), hb i hi, hi0] at this;cases this
    refine (rdy1 b1 hs1 j).2 ⟨hjm, by rw [← hb j hjm]; exact h0, o, ho, fun e hme hbe => ?_⟩;obtain ⟨o', ho', _, he'⟩ := first j hjm;rw [ho] at ho';cases ho';have hon := he' e hme hbe;have := he e hme hbe;rw [getF b _ (by omega), hb _ (by omega)] at this;rw [getF b1 _ (by omega)];exact this
   refine ⟨fun h0 => ?_, fun j hj => ?_⟩
   ·exfalso
    obtain ⟨o, ho, _, he⟩ := first i hi
    have : i ∈ Region.ready .any l.toArray b := mem_ready.2 ⟨by rw [hb i hi]; exact hi0, o, by rw [List.getElem?_toArray]; exact ho, fun e hme hbe => by
     have := he e hme hbe;rw [getF b _ (by omega), hb _ (by omega)];exact hlow _ this⟩
    rw [h0] at this;cases this
   ·have hj1 := mem j hj
    obtain ⟨hjm, hj0, o, ho, _⟩ := (rdy1 b1 hs1 j).1 hj1;have hx := h.2 j hj1;obtain ⟨o', ho', hg, _⟩ := first j hjm;rw [ho] at ho';cases ho';have hw : ∀ y, Region.wanted o y = true := fun y => by simp [Region.wanted, hg]
    unfold wpOp at hx ⊢;rw [getl j hjm] at hx;simp only [List.getElem?_toArray, ho, hw, if_true] at hx ⊢
    have step : ∀ a' w', wpAny P .any (l.take m).toArray (Exit.then (fun a w => wpList P l.toArray Q (l.drop m) a w) Q) f (b1.setIfInBounds j true) a' w' → wpAny P .any l.toArray Q (f + (l.length - m)) (b.setIfInBounds j true) a' w' := by
     intro a' w' h';refine ih _ _ a' w' (by simp [hs]) (by simp [hs1]) (fun k hk => ?_) (fun k hk hk2 => ?_) h'
     ·by_cases hjk : j = k
      ·subst hjk; simp [hs, hs1, hjm, show j < l.length by omega]
      ·rw [getD_set_ne true hjk, getD_set_ne true hjk]; exact hb k hk
     ·rw [getD_set_ne true (by omega)]; exact hb2 k hk hk2
    rcases hx with hx | ⟨hx, hl⟩
    ·exact .inl (ziU step hx)
    ·exact .inr ⟨hx, hl⟩
theorem zhq {l : List Oper} (m : Nat) (hB : zaQ l m = true) (a : Act) (w : World) (h : wpAny P .any (l.take m).toArray (Exit.then (fun a w => wpList P l.toArray Q (l.drop m) a w) Q) (l.take m).toArray.size (Array.replicate (l.take m).toArray.size false) a w) :
  wpAny P .any l.toArray Q l.toArray.size (Array.replicate l.toArray.size false) a w := by
 have hm : m ≤ l.length := by
  simp only [zaQ, Bool.and_eq_true, decide_eq_true_eq] at hB;exact hB.1.1.1
 have hlt : (l.take m).toArray.size = m := by simp; omega
 rw [hlt] at h;have := zbJ hB m (Array.replicate l.length false) (Array.replicate m false) a w (by simp) (by simp) (fun i hi => by simp [hi, show i < l.length by omega]) (fun i _ hi => by simp [hi]) h;rw [show m + (l.length - m) = l.length by omega] at this
 simpa using this
theorem QD {id : Nat} {a : Act} {w : World} {l : List Oper} (m : Nat) (hm : P.follows .mixedOrders = true) (hB : zaQ l m = true)
  (h : wpAny P .any (l.take m).toArray (Exit.then (fun a w => wpList P l.toArray Q (l.drop m) a w) Q) (l.take m).toArray.size (Array.replicate (l.take m).toArray.size false) a w.drew) : (Code.region id l.toArray true).wp P Q a w :=
 wp_region_any hm (zhq m hB a w.drew h)
def yH (j : Nat) (o : Oper) : Oper := { o with after := o.after.push ⟨j, .phase⟩ }
theorem zjo {j : Nat} {o : Oper} {a : Act} {w : World} {K : Act → World → Prop} : (yH j o).wp P a w K Q = o.wp P a w K Q := by cases o; rfl
theorem zhu {j : Nat} {o : Oper} {a : Act} {w : World} : (yH j o).asks P a w = o.asks P a w := by cases o; rfl
def zcE (l : List Oper) (i j : Nat) : Bool := (l[i]?.map fun o => o.after.any fun e => Region.binds .any e && (l[e.on]?.map fun o' => o'.after.any fun e' => Region.binds .any e' && e'.on == j).getD false).getD false
theorem Yx {l : List Oper} {i j : Nat} (t : Array Value) : yielded (l.modify i (yH j)).toArray t = yielded l.toArray t := by
 funext k
 unfold yielded;simp only [List.getElem?_toArray, List.getElem?_modify];cases l[k]? with
 | none => rfl
 | some o =>
  by_cases h : i = k
  ·simp only [h, if_true]; rfl
  ·simp only [h, if_false]; rfl
theorem zca {l : List Oper} {i j : Nat} (hB : zcE l i j = true) : ∀ (f : Nat) (b : Array Bool) (a : Act) (w : World),
  (∀ (x : Nat) (o : Oper), l[x]? = some o → b.getD x true = true → ∀ e, e ∈ o.after → Region.binds .any e = true → b.getD e.on false = true) →
   wpAny P .any (l.modify i (yH j)).toArray Q f b a w → wpAny P .any l.toArray Q f b a w := by
 have rdy : ∀ (b : Array Bool), (∀ (x : Nat) (o : Oper), l[x]? = some o → b.getD x true = true → ∀ e, e ∈ o.after → Region.binds .any e = true → b.getD e.on false = true) → ∀ k, k ∈ Region.ready .any l.toArray b ↔ k ∈ Region.ready .any (l.modify i (yH j)).toArray b := by
  exact Xaj
 intro f
 induction f with
 | zero =>
  exact Xbk
 | succ f ih =>
  intro b a w hc h;refine ⟨fun h0 => h.1 ?_, fun k hk => ?_⟩
  ·rw [List.eq_nil_iff_forall_not_mem]
   intro k hk;have := (rdy b hc k).2 hk;rw [h0] at this;cases this
  ·have hx := h.2 k ((rdy b hc k).1 hk)
   obtain ⟨h0, o, ho, he⟩ := mem_ready.1 hk;rw [List.getElem?_toArray] at ho
   have hc' : ∀ (x : Nat) (o : Oper), l[x]? = some o → (b.setIfInBounds k true).getD x true = true → ∀ e, e ∈ o.after → Region.binds .any e = true → (b.setIfInBounds k true).getD e.on false = true := by
    exact Xa2
   unfold wpOp at hx ⊢;simp only [List.getElem?_toArray, List.getElem?_modify, ho, Yx] at hx ⊢
   by_cases hik : i = k
   ·simp only [hik, if_true, Option.map_eq_map, Option.map_some] at hx
    have hw : Region.wanted (yH j o) (yielded l.toArray a.tmps) = Region.wanted o (yielded l.toArray a.tmps) := rfl;rw [hw] at hx
    split at hx
    ·rename_i hwt
     rw [if_pos hwt];rw [zjo, zhu] at hx;subst hik;exact hx.imp (Oper.wp_mono fun a' w' h' => ih _ _ _ hc' h') id
    ·rename_i hwt
     rw [if_neg hwt];subst hik;exact ih _ _ _ hc' hx
   ·simp only [hik, if_false, Option.map_eq_map, Option.map_some, id] at hx
    split at hx
    ·rename_i hwt
     rw [if_pos hwt];exact hx.imp (Oper.wp_mono fun a' w' h' => ih _ _ _ hc' h') id
    ·rename_i hwt
     rw [if_neg hwt];exact ih _ _ _ hc' hx
theorem Qf {l : List Oper} (i j : Nat) (hB : zcE l i j = true) {a : Act} {w : World} (h : wpAny P .any (l.modify i (yH j)).toArray Q (l.modify i (yH j)).toArray.size (Array.replicate (l.modify i (yH j)).toArray.size false) a w) :
  wpAny P .any l.toArray Q l.toArray.size (Array.replicate l.toArray.size false) a w := by
 have e : (l.modify i (yH j)).toArray.size = l.toArray.size := by simp
 rw [e] at h;refine zca hB _ _ a w (fun x o ho hx => ?_) h;have hlt : x < l.length := (List.getElem?_eq_some_iff.1 ho).1;simp [hlt] at hx
end
end
theorem Xau {P : Prop} (h : P := by
 have hS' : (b.setIfInBounds j true).getD z true = false → S w' := fun hz => h3.2.1 (by
  rw [Array.setIfInBounds_comm _ _ (Ne.symm hji), getD_set_ne true hiz]; exact hz)
 refine ⟨hS', ih (b.setIfInBounds j true) a' w' (fun k ok hk hki hun hno => ?_) (ready_mono hr (Ne.symm hji)) h3.1 hS' ?_ ?_⟩
 ·refine hfree k ok hk hki ?_ hno
  by_cases hjk : j = k
  ·subst hjk; exact hjun
  ·rw [getD_set_ne true hjk] at hun; exact hun
 ·rcases hC with h | ⟨h1, h2, h4⟩
  ·exact .inl h
  ·refine .inr ⟨h1, h2, ?_⟩
   have hjz : j ≠ z := fun e => Zm h2 (mem_ready.1 hr).1 (e ▸ hj);rw [getD_set_ne true hjz]; exact h4
 ·rw [Array.setIfInBounds_comm _ _ hji]
  exact h3.2.2) : P := h
theorem Xbw {P : Prop} (h : P := by
 rcases hz with hz | hz
 ·rw [h0] at hz; cases hz
 ·exact k1 (by rw [List.any_map] at hz; exact hz)) : P := h
section
section
variable {P : Program} {ops : Array Oper} {S : World → Prop} {Q : Exit → Act → World → Prop}
def zhs (P : Program) (ops : Array Oper) (Q : Exit → Act → World → Prop) (S : World → Prop) (z : Nat) : Nat → Array Bool → Act → World → Prop
 | 0, b, a, w => Region.ready .any ops b = [] ∧ Q .normal a w
 | f + 1, b, a, w => (Region.ready .any ops b = [] → Q .normal a w) ∧
  ∀ i ∈ Region.ready .any ops b, wpOp P ops Q i (fun a' w' => ((b.setIfInBounds i true).getD z true = false → S w') ∧ zhs P ops Q S z f (b.setIfInBounds i true) a' w') a w
theorem zae {z : Nat} : ∀ (f : Nat) (b : Array Bool) (a : Act) (w : World), zhs P ops Q S z f b a w → wpAny P .any ops Q f b a w
 | 0, _, _, _, h => h
 | f + 1, _, _, _, h => ⟨h.1, fun i hi => wpOp_mono (fun a' w' h' => zae f _ a' w' h'.2) (h.2 i hi)⟩
theorem Zm {z i : Nat} (h : Region.waitsFor .any ops z i = true) {b : Array Bool} (hi : b.getD i true = false) : z ∉ Region.ready .any ops b := fun hz => by
 obtain ⟨_, oz, hoz, hall⟩ := mem_ready.1 hz;obtain ⟨o', ho', e, he, hb, hon⟩ := Region.waitsFor_spec h;have : o' = oz := Option.some.inj (ho'.symm.trans hoz);subst this;have q := hall e he hb;rw [hon, getD_both hi] at q;cases q
theorem zbK {C : World → Prop} {z i : Nat} {oi : Oper} {v : Value} (hiz : i ≠ z) (hi : ops[i]? = some oi) (hsel : ∀ (j : Nat) (o : Oper) cs b, ops[j]? = some o → o.op ≠ .select cs b) (hQ : ∀ c a w, Q (.panic c) (a.put oi.dst v) w → Q (.panic c) a w) (f : Nat) :
  ∀ (b : Array Bool) (a : Act) (w : World),
   (∀ j oj, ops[j]? = some oj → j ≠ i → b.getD j true = false → (∀ e ∈ oj.after, Region.binds .any e = true → e.on ≠ i) → oi.apart ops oj = true) →
   i ∈ Region.ready .any ops b → YieldsIf P ops C oi v a → (b.getD z true = false → S w) → ((∀ w, C w) ∨ ((∀ w, S w → C w) ∧ Region.waitsFor .any ops z i = true ∧ b.getD z true = false)) →
   zhs P ops Q S z f (b.setIfInBounds i true) (a.put oi.dst v) w → zhs P ops Q S z (f + 1) b a w := by
 have key : ∀ (b : Array Bool) (w : World), (b.getD z true = false → S w) → ((∀ w, C w) ∨ ((∀ w, S w → C w) ∧ Region.waitsFor .any ops z i = true ∧ b.getD z true = false)) → C w := fun b w hS hC => by
  rcases hC with h | ⟨h, _, hz⟩
  ·exact h w
  ·exact h w (hS hz)
 induction f with
 | zero =>
  intro b a w _ hr hy hS hC H;refine ⟨fun h => (by rw [h] at hr; cases hr), fun j hj => ?_⟩
  by_cases hji : j = i
  ·subst hji; exact hy.wpOp hi (key b w hS hC) ⟨fun hz => hS (by rwa [getD_set_ne true hiz] at hz), H⟩
  ·have k := ready_mono hj hji
   rw [H.1] at k;cases k
 | succ f ih =>
  intro b a w hfree hr hy hS hC H;refine ⟨fun h => (by rw [h] at hr; cases hr), fun j hj => ?_⟩
  by_cases hji : j = i
  ·subst hji; exact hy.wpOp hi (key b w hS hC) ⟨fun hz => hS (by rwa [getD_set_ne true hiz] at hz), H⟩
  ·obtain ⟨hjun, oj, hoj, hall⟩ := mem_ready.1 hj
   have hnot : ∀ e ∈ oj.after, Region.binds .any e = true → e.on ≠ i := by
    exact XaU
   refine wpOp_mono (fun a' w' h3 => ?_) (wpOp_putIf hoj (hfree j oj hoj hji hjun hnot) (fun cs b => hsel i oi cs b hi) (fun cs b => hsel j oj cs b hoj) hQ hy (H.2 j (ready_mono hj hji)));exact Xau
def ZD (ops : Array Oper) (z : Nat) : List (Nat × Nat) → Array Bool → Bool
 | [], b => (Region.ready .any ops b).isEmpty
 | (0, i) :: r, b => (Region.ready .any ops b).contains i && Region.free .any ops b i && (ops[i]?.map ZC).getD false && Region.waitsFor .any ops z i && !(b.getD z true) && !(i == z) && ZD ops z r (b.setIfInBounds i true)
 | (1, i) :: r, b => (Region.ready .any ops b).contains i && Region.free .any ops b i && (ops[i]?.map ZC).getD false && !(i == z) && ZD ops z r (b.setIfInBounds i true)
 | (_ + 2, i) :: r, b => decide (Region.ready .any ops b = [i]) && ((b.setIfInBounds i true).getD z true || r.any fun x => x.2 == z) && ZD ops z r (b.setIfInBounds i true)
def yz (P : Program) (ops : Array Oper) (S : World → Prop) (Q : Exit → Act → World → Prop) (z : Nat) : List (Nat × Nat × Oper) → Act → World → Prop
 | [], a, w => Q .normal a w
 | (0, i, o) :: r, a, w => wpQuiet P ops S (fun a' => yz P ops S Q z r a' w) [o] a
 | (1, i, o) :: r, a, w => wpQuiet P ops (fun _ => True) (fun a' => yz P ops S Q z r a' w) [o] a
 | (_ + 2, i, o) :: r, a, w => Region.wanted o (yielded ops a.tmps) = true ∧ o.wp P a w (fun a' w' => ((r.any fun x => x.2.1 == z) = true → S w') ∧ yz P ops S Q z r a' w') Q
theorem yf {z : Nat} {a : Act} {w : World} (h : Q .normal a w) : yz P ops S Q z [] a w := h
theorem qk {z i : Nat} {o : Oper} {r : List (Nat × Nat × Oper)} {a : Act} {w : World} (h : wpQuiet P ops S (fun a' => yz P ops S Q z r a' w) [o] a) : yz P ops S Q z ((0, i, o) :: r) a w := h
theorem zo {z i : Nat} {o : Oper} {r : List (Nat × Nat × Oper)} {a : Act} {w : World} (h : wpQuiet P ops (fun _ => True) (fun a' => yz P ops S Q z r a' w) [o] a) : yz P ops S Q z ((1, i, o) :: r) a w := h
theorem jH {z i : Nat} {o : Oper} {r : List (Nat × Nat × Oper)} {a : Act} {w : World} (hg : o.guard = none) (h : ∀ K : Act → World → Prop, (∀ a' w', S w' → yz P ops S Q z r a' w' → K a' w') → o.wp P a w K Q) : yz P ops S Q z ((2, i, o) :: r) a w := by
 exact ⟨by simp [Region.wanted, hg], h _ fun a' w' h1 h2 => ⟨fun _ => h1, h2⟩⟩
theorem Zx {z i : Nat} {o : Oper} {r : List (Nat × Nat × Oper)} {a : Act} {w : World} (hg : o.guard = none) (hz : (r.any fun x => x.2.1 == z) = false) (h : ∀ K : Act → World → Prop, (∀ a' w', yz P ops S Q z r a' w' → K a' w') → o.wp P a w K Q) : yz P ops S Q z ((2, i, o) :: r) a w := by
 exact ⟨by simp [Region.wanted, hg], h _ fun a' w' h2 => ⟨fun h => (by rw [hz] at h; cases h), h2⟩⟩
theorem Jy {C : World → Prop} {o : Oper} {a : Act} {N : Act → Prop} (hk : ZC o = true) (h : wpQuiet P ops C N [o] a) : ∃ v, YieldsIf P ops C o v a ∧ N (a.put o.dst v) := by
 have h' : if Region.wanted o (yielded ops a.tmps) = true then o.quiet P a C N else N (a.put o.dst undef) := h
 split at h'
 ·rename_i hw
  obtain ⟨v, h1, h2⟩ := h';refine ⟨v, .inl ⟨hw, fun W hW => ?_⟩, h2⟩;have q := h1 W hW;unfold Oper.quietAt at q;cases hrun : (execOp a.eval o).run P W with
  | halt x w1 => rw [hrun] at q; cases q
  | ok n w1 =>
   obtain ⟨u, rfl⟩ := Qp hk hrun;rw [hrun] at q;obtain ⟨rfl, rfl⟩ := q;rfl
 ·rename_i hw
  exact ⟨undef, .inr ⟨by simpa using hw, rfl⟩, h'⟩
theorem vz {z : Nat} (hsel : Region.noSelect ops = true) (hQ : ∀ c a d v w, Q (.panic c) (a.put d v) w → Q (.panic c) a w) : ∀ (r : List (Nat × Nat × Oper)) (b : Array Bool) (a : Act) (w : World),
  (∀ x, x ∈ r → ops[x.2.1]? = some x.2.2) → ZD ops z (r.map fun x => (x.1, x.2.1)) b = true → (b.getD z true = false → S w) → yz P ops S Q z r a w → zhs P ops Q S z r.length b a w
 | [], b, a, w, _, hB, _, h => ⟨by simpa [ZD] using hB, h⟩
 | (k, i, o) :: r, b, a, w, hl, hB, hS, h => by
  have ho : ops[i]? = some o := hl _ List.mem_cons_self;have hl' : ∀ x, x ∈ r → ops[x.2.1]? = some x.2.2 := fun x hx => hl x (List.mem_cons_of_mem _ hx)
  match k, hB, h with
  | 0, hB, h =>
   simp only [List.map_cons, ZD, Bool.and_eq_true, Bool.not_eq_true', beq_eq_false_iff_ne] at hB;obtain ⟨⟨⟨⟨⟨⟨hr, hf⟩, hk⟩, hw⟩, hz⟩, hiz⟩, hB'⟩ := hB;rw [ho] at hk;obtain ⟨v, hy, h2⟩ := Jy (by simpa using hk) h;exact zbK hiz ho (Region.noSelect_spec hsel) (fun c a w => hQ c a _ _ w) _ b a w (Region.free_spec ho hf) (by simpa using hr) hy hS (.inr ⟨fun _ h => h, hw, hz⟩) (vz hsel hQ r _ _ w hl' hB' (fun h0 => hS hz) h2)
  | 1, hB, h =>
   simp only [List.map_cons, ZD, Bool.and_eq_true, Bool.not_eq_true', beq_eq_false_iff_ne] at hB;obtain ⟨⟨⟨⟨hr, hf⟩, hk⟩, hiz⟩, hB'⟩ := hB;rw [ho] at hk;obtain ⟨v, hy, h2⟩ := Jy (by simpa using hk) h;exact zbK hiz ho (Region.noSelect_spec hsel) (fun c a w => hQ c a _ _ w) _ b a w (Region.free_spec ho hf) (by simpa using hr) hy hS (.inl fun _ => trivial) (vz hsel hQ r _ _ w hl' hB' (fun h0 => hS (by rwa [getD_set_ne true hiz] at h0)) h2)
  | k + 2, hB, h =>
   simp only [List.map_cons, ZD, Bool.and_eq_true, decide_eq_true_eq, Bool.or_eq_true] at hB;obtain ⟨⟨hr, hz⟩, hB'⟩ := hB;refine ⟨fun h0 => (by rw [hr] at h0; cases h0), fun j hj => ?_⟩;rw [hr] at hj;obtain rfl : j = i := by simpa using hj
   have key : ∀ a' w', ((r.any fun x => x.2.1 == z) = true → S w') → yz P ops S Q z r a' w' → ((b.setIfInBounds j true).getD z true = false → S w') ∧ zhs P ops Q S z r.length (b.setIfInBounds j true) a' w' := by
    intro a' w' k1 k2
    have hS' : (b.setIfInBounds j true).getD z true = false → S w' := fun h0 => by
     exact Xbw
    exact ⟨hS', vz hsel hQ r _ a' w' hl' hB' hS' k2⟩
   unfold wpOp;simp only [ho];rw [if_pos h.1];exact .inl (Oper.wp_mono' (fun a' w' ⟨k1, k2⟩ => key a' w' k1 k2) h.2)
def zu (l : List Oper) (r : List (Nat × Nat × Oper)) : Prop := ∀ x, x ∈ r → l[x.2.1]? = some x.2.2
theorem zu.nil {l : List Oper} : zu l [] := fun _ h => nomatch h
theorem zu.cons {l : List Oper} {k i : Nat} {o : Oper} {r : List (Nat × Nat × Oper)} (h : l[i]? = some o) (t : zu l r) : zu l ((k, i, o) :: r) := fun x hx => by
 rcases List.mem_cons.1 hx with rfl | hx
 ·exact h
 ·exact t x hx
def YK (ops : Array Oper) (z : Nat) (r : List (Nat × Nat)) : Bool := Region.noSelect ops && ZD ops z r (Array.replicate ops.size false) && decide (r.length = ops.size)
theorem ziK {a : Act} {w : World} {l : List Oper} (G : List Nat) (z : Nat) {r : List (Nat × Nat × Oper)} (hl : zu l r) (hB : YK l.toArray z (r.map fun x => (x.1, x.2.1)) = true) (hQ : ∀ c a d v w, Q (.panic c) (a.put d v) w → Q (.panic c) a w)
  (h : yz P l.toArray (fun w' => ∃ x : But w G, w' = x.w) Q z r a w.drew) : wpAny P .any l.toArray Q l.toArray.size (Array.replicate l.toArray.size false) a w.drew := by
 simp only [YK, Bool.and_eq_true, decide_eq_true_eq, List.length_map] at hB;have := vz (P := P) (Q := Q) (S := fun w' => ∃ x : But w G, w' = x.w) hB.1.1 hQ r _ a w.drew (fun x hx => by rw [List.getElem?_toArray]; exact hl x hx) hB.1.2 (fun _ => ⟨⟨w.drew, (zB.refl w G).drew⟩, rfl⟩) h;rw [hB.2] at this;exact zae _ _ _ _ this
theorem jc {id : Nat} {a : Act} {w : World} {l : List Oper} (G : List Nat) (z : Nat) {r : List (Nat × Nat × Oper)} (hl : zu l r) (hm : P.follows .mixedOrders = true) (hB : YK l.toArray z (r.map fun x => (x.1, x.2.1)) = true) (hQ : ∀ c a d v w, Q (.panic c) (a.put d v) w → Q (.panic c) a w)
  (h : yz P l.toArray (fun w' => ∃ x : But w G, w' = x.w) Q z r a w.drew) : (Code.region id l.toArray true).wp P Q a w := wp_region_any hm (ziK G z hl hB hQ h)
end
end
section
open R R.Real
theorem zcF {a b c : Int} : (0 < b → c * b ≤ a * 16777216 → e c * e b ≤ e a) ∧ (b < 0 → a * 16777216 ≤ c * b → e a ≤ e c * e b) := by
 constructor
 ·intro hb h
  exact Xar
 ·intro hb h
  exact Xar
theorem zbz {a b c : Int} : (0 < b → a * 16777216 ≤ c * b → e a ≤ e c * e b) ∧ (b < 0 → c * b ≤ a * 16777216 → e c * e b ≤ e a) := by
 constructor
 ·intro hb h
  exact Xar
 ·intro hb h
  exact Xar
theorem zkq {a b : Int} (h : e a = e b) : a = b := Int.le_antisymm (zhg (R.Real.le_of_eq h)) (zhg (R.Real.le_of_eq h.symm))
theorem zkA {a : Int} (h : a ≠ 0) : e a ≠ 0 := fun k => h (zkq (k.trans vf.symm))
theorem zbe {x y z : R.Real} (hz : z ≤ 0) (hn : z ≠ 0) (h : x * z ≤ y * z) : y ≤ x := by
 have h1 := R.Real.neg_le h;have : y * -z ≤ x * -z := by rw [mul_neg, mul_neg]; exact h1
 exact Vw (JA hz) (fun k => hn (by rw [← neg_neg z, k, zaZ])) this
theorem Enc.div {a b : Num} {x y : R.Real} (ha : Enc a x) (hb : Enc b y) : Enc (a.div b) (x / y) := fun h => by
 unfold Num.div at h ⊢
 split at h
 ·cases h
 ·rename_i hz
  rw [if_neg hz];obtain ⟨h1, h2, h3, h4, h5⟩ := Qa h;obtain ⟨a1, a2⟩ := ha h1;obtain ⟨b1, b2⟩ := hb h2;simp only [zas, List.all_cons, List.all_nil, Bool.and_true, Bool.and_eq_true, pOk] at h3;have ml := zkh (pLo jN (a.l, b.l)) (pLo jN (a.l, b.h)) (pLo jN (a.h, b.l)) (pLo jN (a.h, b.h));have mh := zkj (pHi jN (a.l, b.l)) (pHi jN (a.l, b.h)) (pHi jN (a.h, b.l)) (pHi jN (a.h, b.h));have el : (Zp jN a b (zas a b)).l = Zv [pLo jN (a.l, b.l), pLo jN (a.l, b.h), pLo jN (a.h, b.l), pLo jN (a.h, b.h)] := h4
  have eh : (Zp jN a b (zas a b)).h = Zw [pHi jN (a.l, b.l), pHi jN (a.l, b.h), pHi jN (a.h, b.l), pHi jN (a.h, b.h)] := h5;rw [el, eh];generalize Zv [pLo jN (a.l, b.l), pLo jN (a.l, b.h), pLo jN (a.h, b.l), pLo jN (a.h, b.h)] = m at ml ⊢;generalize Zw [pHi jN (a.l, b.l), pHi jN (a.l, b.h), pHi jN (a.h, b.l), pHi jN (a.h, b.h)] = M at mh ⊢
  have bb : b.l ≤ b.h := by
   unfold Num.fine L.QN at h2;simp only [Bool.and_eq_true, decide_eq_true_eq] at h2;omega
  simp only [Bool.and_eq_true, decide_eq_true_eq] at hz
  have lo : ∀ {c v k : Int}, v ≠ 0 → (jN c v 1).2 = true → m ≤ (jN c v 1).1 → (0 < v → e m * e v ≤ e c) ∧ (v < 0 → e c ≤ e m * e v) := fun {c v k} hv hs hm => by
   constructor
   ·intro h0
    have h0' : 0 ≤ e v := by rw [← vf]; exact vx (by omega)
    exact R.Real.le_trans (yt h0' (vx hm)) (zcF.1 h0 ((zdp.1 hs).1 h0))
   ·intro h0
    have h0' : e v ≤ 0 := by rw [← vf]; exact vx (by omega)
    refine R.Real.le_trans (zcF.2 h0 ((zdp.1 hs).2 h0)) ?_;rw [R.Real.mul_comm, R.Real.mul_comm (e m)];exact yJ h0' (vx hm)
  have hi : ∀ {c v k : Int}, v ≠ 0 → (jN c v 2).2 = true → (jN c v 2).1 ≤ M → (0 < v → e c ≤ e M * e v) ∧ (v < 0 → e M * e v ≤ e c) := fun {c v k} hv hs hm => by
   constructor
   ·intro h0
    have h0' : 0 ≤ e v := by rw [← vf]; exact vx (by omega)
    exact R.Real.le_trans (zbz.1 h0 ((zdp.2 hs).1 h0)) (yt h0' (vx hm))
   ·intro h0
    have h0' : e v ≤ 0 := by rw [← vf]; exact vx (by omega)
    refine R.Real.le_trans ?_ (zbz.2 h0 ((zdp.2 hs).2 h0));rw [R.Real.mul_comm, R.Real.mul_comm _ (e v)];exact yJ h0' (vx hm)
  by_cases hp : 0 < b.l
  ·have y0 : 0 ≤ y := R.Real.le_trans (by rw [← vf]; exact vx (by omega)) b1
   have yn : y ≠ 0 := fun k => by
    rw [k, ← vf] at b1;have := zhg b1;omega
   have l1 := (lo (k := 0) (by omega) h3.1.1 ml.1).1 hp;have l2 := (lo (k := 0) (by omega) h3.2.1.1 ml.2.1).1 (by omega);have u1 := (hi (k := 0) (by omega) h3.2.2.1.2 mh.2.2.1).1 hp;have u2 := (hi (k := 0) (by omega) h3.2.2.2.2 mh.2.2.2).1 (by omega);constructor
   ·refine Vw y0 yn ?_
    rw [j3 _ yn];exact R.Real.le_trans (Jd b1 b2 l1 l2) a1
   ·refine Vw y0 yn ?_
    rw [j3 _ yn];exact R.Real.le_trans a2 (YQ b1 b2 u1 u2)
  ·have y0 : y ≤ 0 := R.Real.le_trans b2 (by rw [← vf]; exact vx (by omega))
   have yn : y ≠ 0 := fun k => by
    rw [k, ← vf] at b2;have := zhg b2;omega
   have l1 := (lo (k := 0) (by omega) h3.2.2.1.1 ml.2.2.1).2 (by omega);have l2 := (lo (k := 0) (by omega) h3.2.2.2.1 ml.2.2.2).2 (by omega);have u1 := (hi (k := 0) (by omega) h3.1.2 mh.1).2 (by omega);have u2 := (hi (k := 0) (by omega) h3.2.1.2 mh.2.1).2 (by omega);constructor
   ·refine zbe y0 yn ?_
    rw [j3 _ yn];exact R.Real.le_trans a2 (YQ b1 b2 l1 l2)
   ·refine zbe y0 yn ?_
    rw [j3 _ yn];exact R.Real.le_trans (Jd b1 b2 u1 u2) a1
theorem Enc.root {a : Num} {x : R.Real} (ha : Enc a x) : Enc a.root (zak x) := fun h => by
 obtain ⟨h1, h2, h3, h4, h5⟩ := Qa h;obtain ⟨a1, a2⟩ := ha h1;simp only [List.all_cons, List.all_nil, Bool.and_true, Bool.and_eq_true, pOk, Ja] at h3;have ml := (zjQ (pLo Ja (a.l, a.l)) (pLo Ja (a.h, a.h))).1;have mh := (zjS (pHi Ja (a.l, a.l)) (pHi Ja (a.h, a.h))).2;have el : a.root.l = Zv [pLo Ja (a.l, a.l), pLo Ja (a.h, a.h)] := h4;have eh : a.root.h = Zw [pHi Ja (a.l, a.l), pHi Ja (a.h, a.h)] := h5
 have rl := zgb h3.1.1;have rh := zgb h3.2.2;have x0 : 0 ≤ x := R.Real.le_trans (by rw [← vf]; exact vx rl.1) a1;have s0 := QT x;have ss := Yz x0;rw [el, eh];constructor
 ·refine R.Real.le_trans (vx ml) (YA s0 ?_)
  rw [ss];refine R.Real.le_trans ?_ a1;show e (vd a.l 1).1 * e (vd a.l 1).1 ≤ e a.l;have := rl.2.2.1 rfl;generalize (vd a.l 1).1 = k at *;exact Jn this
 ·refine R.Real.le_trans (YA ?_ ?_) (vx mh)
  ·rw [← vf]; exact vx rh.2.1
  ·rw [ss]
   refine R.Real.le_trans a2 ?_;show e a.h ≤ e (vd a.h 2).1 * e (vd a.h 2).1;exact Jm (rh.2.2.2 rfl)
theorem vw (n : Int) : Enc (qV n) (e n) := fun h => by
 unfold qV at h ⊢
 split at h
 ·rename_i h1
  rw [if_pos h1];exact ⟨R.Real.le_refl _, R.Real.le_refl _⟩
 ·cases h
theorem Enc.neg {a : Num} {x : R.Real} (ha : Enc a x) : Enc a.neg (-x) := by
 have := (vw 0).sub ha;rw [vf, R.Real.sub_def, R.Real.zero_add] at this;exact this
theorem zaA : Enc (Num.of 0) 0 := by
 have h : Num.of 0 = qV 0 := by decide
 rw [h, ← vf]; exact vw 0
theorem zje : Enc (Num.of 1) 1 := by
 have h : Num.of 1 = qV 16777216 := by decide
 rw [h]
 have : e 16777216 = 1 := by
  show q _ = q 1
  congr 1
  rw [show ((16777216 : Int) : Rat) = 16777216 from rfl]; grind
 rw [← this];exact vw _
def qD (n : Nat) (xs : List Num) (f : Nat → R.Real) : Prop := xs.length = n ∧ ∀ i, i < n → Enc (xs.getD i qd) (f i)
theorem qD.len {n : Nat} {xs : List Num} {f : Nat → R.Real} (h : qD n xs f) : xs.length = n := h.1
theorem qD.congr {n : Nat} {xs : List Num} {f g : Nat → R.Real} (h : qD n xs f) (k : ∀ i, i < n → f i = g i) : qD n xs g := ⟨h.1, fun i hi => k i hi ▸ h.2 i hi⟩
theorem Jg {α β : Type} (g : α → β) (l : List α) (i : Nat) (a : α) (b : β) (h : i < l.length) : (l.map g).getD i b = g (l.getD i a) := by
 rw [List.getD_eq_getElem?_getD, List.getD_eq_getElem?_getD, List.getElem?_map, List.getElem?_eq_getElem h]; rfl
theorem qD.map {n : Nat} {xs : List Num} {f : Nat → R.Real} (g : Num → Num) (F : R.Real → R.Real) (h : qD n xs f) (hg : ∀ a x, Enc a x → Enc (g a) (F x)) : qD n (xs.map g) (fun i => F (f i)) :=
 ⟨by rw [List.length_map, h.1], fun i hi => by rw [Jg g xs i qd qd (by rw [h.1]; exact hi)]; exact hg _ _ (h.2 i hi)⟩
theorem zbn {xs ys : List Num} {i : Nat} (g : Num → Num → Num) (h1 : i < xs.length) (h2 : i < ys.length) : ((xs.zip ys).map fun p => g p.1 p.2).getD i qd = g (xs.getD i qd) (ys.getD i qd) := by
 have hz : i < (xs.zip ys).length := by rw [List.length_zip]; omega
 rw [Jg (fun p : Num × Num => g p.1 p.2) _ i (qd, qd) qd hz];rw [List.getD_eq_getElem?_getD, List.getElem?_eq_getElem hz, List.getD_eq_getElem?_getD, List.getElem?_eq_getElem h1, List.getD_eq_getElem?_getD, List.getElem?_eq_getElem h2, List.getElem_zip];rfl
theorem qD.zip {n : Nat} {xs ys : List Num} {f k : Nat → R.Real} (g : Num → Num → Num) (F : R.Real → R.Real → R.Real) (h : qD n xs f) (h' : qD n ys k) (hg : ∀ a b x y, Enc a x → Enc b y → Enc (g a b) (F x y)) :
  qD n ((xs.zip ys).map fun p => g p.1 p.2) (fun i => F (f i) (k i)) :=
 ⟨by rw [List.length_map, List.length_zip, h.1, h'.1, Nat.min_self], fun i hi => by
  rw [zbn g (by rw [h.1]; exact hi) (by rw [h'.1]; exact hi)]; exact hg _ _ _ _ (h.2 i hi) (h'.2 i hi)⟩
theorem qD.adds {n : Nat} {xs ys : List Num} {f k : Nat → R.Real} (h : qD n xs f) (h' : qD n ys k) : qD n (vM xs ys) (fun i => f i + k i) := h.zip Num.add (· + ·) h' fun _ _ _ _ a b => a.add b
theorem qD.subs {n : Nat} {xs ys : List Num} {f k : Nat → R.Real} (h : qD n xs f) (h' : qD n ys k) : qD n (y6 xs ys) (fun i => f i - k i) := h.zip Num.sub (· - ·) h' fun _ _ _ _ a b => a.sub b
theorem qD.scale {n : Nat} {xs : List Num} {f : Nat → R.Real} {b : Num} {y : R.Real} (h : qD n xs f) (hb : Enc b y) : qD n (qj xs b) (fun i => f i * y) := h.map (fun x => x.mul b) (fun x => x * y) fun _ _ a => a.mul hb
theorem zhd {xs : List Num} : ∀ {n : Nat} {f : Nat → R.Real} {a : Num} {x : R.Real}, Enc a x → qD n xs f → Enc (xs.foldl Num.add a) (x + Sig n f) := by
 induction xs with
 | nil => intro n f a x ha h; have h1 : 0 = n := h.1; subst h1; show Enc a (x + 0); rw [R.Real.add_zero]; exact ha
 | cons y ys ih =>
  intro n f a x ha h;have h1 : ys.length + 1 = n := h.1;subst h1;rw [zcM, ← R.Real.add_assoc];exact ih (ha.add (h.2 0 (by omega))) ⟨rfl, fun i hi => h.2 (i + 1) (by omega)⟩
theorem qD.sum {n : Nat} {xs : List Num} {f : Nat → R.Real} (h : qD n xs f) : Enc (zaP xs) (Sig n f) := by
 have := zhd zaA h;rw [R.Real.zero_add] at this;exact this
theorem qD.dot {n : Nat} {xs ys : List Num} {f k : Nat → R.Real} (h : qD n xs f) (h' : qD n ys k) : Enc (vL xs ys) (R.Real.dot n f k) := (h.zip Num.mul (· * ·) h' fun _ _ _ _ a b => a.mul b).sum
theorem zby (l : List Int) : qD l.length (l.map qV) (fun i => e (l.getD i 0)) :=
 ⟨List.length_map _, fun i hi => by rw [Jg qV l i 0 qd hi]; exact vw _⟩
end
theorem Xa6 {P : Prop} (h : P := by
 cases e with
 | returned u => exact ⟨keep a hy u, by rw [← Act.put_comm a v u h2]; exact he⟩
 | panicked c => exact hQ _ _ _ he
 | outgrown => exact he) : P := h
section
section
variable {P : Program} {ops : Array Oper} {S : World → Prop} {Q : Exit → Act → World → Prop} {F : Fence} {n : Nat}
theorem zaV {o : Oper} (h : qP o = true) (r : Option Nat) (ρ : Operand → Value) : o.semAt r ρ = execOp ρ o := by
 cases r with
 | none => exact Oper.semAt_none _ _
 | some l => exact Oper.semAt_some l _ _ (YO h)
theorem YieldsIf.wpOpIn {C : World → Prop} {i : Nat} {o : Oper} {v : Value} {a : Act} (hF : ∀ f, F.fn f) (hd : qP o = true) (hi : ops[i]? = some o) (hy : YieldsIf P ops C o v a) {K : Act → World → Prop} {w : World} (hC : C w) (h : K (a.put o.dst v) w) : wpOpIn F n P ops Q i K a w := by
 unfold Go.wpOpIn;simp only [hi];rcases hy with ⟨hw, hv⟩ | ⟨hw, rfl⟩
 ·simp only [hw, if_true]
  refine ⟨fun f _ => hF f, ?_⟩;rw [zaV hd, hv w hC];exact h
 ·simp only [hw, Bool.false_eq_true, if_false]; exact ⟨fun f _ => hF f, h⟩
theorem zcQ {C : World → Prop} {j : Nat} {oi oj : Oper} {v : Value} (hF : ∀ f, F.fn f) (hd : qP oj = true) (hj : ops[j]? = some oj) (hap : oi.apart ops oj = true)
  (hsi : ∀ cs b, oi.op ≠ .select cs b) (hsj : ∀ cs b, oj.op ≠ .select cs b)
  (hQ : ∀ c a w, Q (.panic c) (a.put oi.dst v) w → Q (.panic c) a w) {K : Act → World → Prop} {a : Act} {w : World}
  (hy : YieldsIf P ops C oi v a) (h : wpOpIn F n P ops Q j K (a.put oi.dst v) w) :
  wpOpIn F n P ops Q j (fun a' w' => YieldsIf P ops C oi v a' ∧ K (a'.put oi.dst v) w') a w := by
 obtain ⟨h1, h2, h3⟩ := Oper.apart_spec hap
 have keep : ∀ (a : Act), YieldsIf P ops C oi v a → ∀ u, YieldsIf P ops C oi v (a.put oj.dst u) := fun a hy u =>
  hy.of_same (execOp_put oi hsi a oj.dst u h3) (wanted_put oi a oj.dst u h3)
 have keepD : ∀ d, YieldsIf P ops C oi v { a with defers := d :: a.defers } := fun d => hy.of_same rfl rfl;unfold wpOpIn at *;simp only [hj] at *;rw [wanted_put oj a oi.dst v h1] at h
 split
 ·rename_i hw
  simp only [hw, if_true] at h;unfold Oper.wpIn at *;refine ⟨fun f _ => hF f, ?_⟩;have h := h.2;rw [zaV hd, execOp_put oj hsj a oi.dst v h1] at h;rw [zaV hd];generalize (execOp a.eval oj).run P w = r at *;cases r with
  | ok x w' =>
   cases x <;> simp only [Oper.uponIn] at h ⊢
   case value u => exact ⟨keep a hy u, by rw [← Act.put_comm a v u h2]; exact h⟩
   case skip => exact ⟨keep a hy _, by rw [← Act.put_comm a v undef h2]; exact h⟩
   case defer d =>
    refine ⟨keep _ (keepD d) _, ?_⟩;rw [← Act.put_comm _ v undef h2, ← Act.put_defers];exact h
   case enter f args =>
    refine ⟨h.1, CallsIn.mono h.2 fun e w'' he => ?_⟩;exact Xa6
   case row row args => exact ⟨h.1, RowsIn.mono h.2 fun u w'' he => ⟨keep a hy u, by rw [← Act.put_comm a v u h2]; exact he⟩⟩
   case round l f tmps assign body =>
    refine ⟨h.1, RoundIn.mono h.2 fun e w'' he => ?_⟩;exact Xa6
  | halt x w' =>
   cases x <;> simp only [Oper.uponIn] at h ⊢
   case panic u => exact hQ _ _ _ h
 ·rename_i hw
  simp only [hw] at h;exact ⟨fun f _ => hF f, keep a hy _, by rw [← Act.put_comm a v undef h2]; exact h.2⟩
def VJ (F : Fence) (n : Nat) (P : Program) (ops : Array Oper) (Q : Exit → Act → World → Prop) (S : World → Prop) (z : Nat) : Nat → Array Bool → Act → World → Prop
 | 0, b, a, w => Region.ready .any ops b = [] ∧ Q .normal a w
 | f + 1, b, a, w => (Region.ready .any ops b = [] → Q .normal a w) ∧
  ∀ i ∈ Region.ready .any ops b, wpOpIn F n P ops Q i (fun a' w' => ((b.setIfInBounds i true).getD z true = false → S w') ∧ VJ F n P ops Q S z f (b.setIfInBounds i true) a' w') a w
theorem Yd {z : Nat} : ∀ (f : Nat) (b : Array Bool) (a : Act) (w : World), VJ F n P ops Q S z f b a w → wpAnyIn F n P .any ops Q f b a w
 | 0, _, _, _, h => h
 | f + 1, _, _, _, h => ⟨h.1, fun i hi => wpOpIn_mono (fun a' w' h' => Yd f _ a' w' h'.2) (h.2 i hi)⟩
theorem Y9 {C : World → Prop} {z i : Nat} {oi : Oper} {v : Value} (hF : ∀ f, F.fn f) (hdd : ops.all qP = true) (hiz : i ≠ z) (hi : ops[i]? = some oi) (hsel : ∀ (j : Nat) (o : Oper) cs b, ops[j]? = some o → o.op ≠ .select cs b) (hQ : ∀ c a w, Q (.panic c) (a.put oi.dst v) w → Q (.panic c) a w) (f : Nat) :
  ∀ (b : Array Bool) (a : Act) (w : World),
   (∀ j oj, ops[j]? = some oj → j ≠ i → b.getD j true = false → (∀ e ∈ oj.after, Region.binds .any e = true → e.on ≠ i) → oi.apart ops oj = true) →
   i ∈ Region.ready .any ops b → YieldsIf P ops C oi v a → (b.getD z true = false → S w) → ((∀ w, C w) ∨ ((∀ w, S w → C w) ∧ Region.waitsFor .any ops z i = true ∧ b.getD z true = false)) →
   VJ F n P ops Q S z f (b.setIfInBounds i true) (a.put oi.dst v) w → VJ F n P ops Q S z (f + 1) b a w := by
 have nd : ∀ (j : Nat) (o : Oper), ops[j]? = some o → qP o = true := fun j o ho => by
  obtain ⟨hlt, e⟩ := Array.getElem?_eq_some_iff.1 ho;exact e ▸ (Array.all_eq_true.1 hdd) j hlt
 have key : ∀ (b : Array Bool) (w : World), (b.getD z true = false → S w) → ((∀ w, C w) ∨ ((∀ w, S w → C w) ∧ Region.waitsFor .any ops z i = true ∧ b.getD z true = false)) → C w := fun b w hS hC => by
  rcases hC with h | ⟨h, _, hz⟩
  ·exact h w
  ·exact h w (hS hz)
 induction f with
 | zero =>
  intro b a w _ hr hy hS hC H;refine ⟨fun h => (by rw [h] at hr; cases hr), fun j hj => ?_⟩
  by_cases hji : j = i
  ·subst hji; exact YieldsIf.wpOpIn hF (nd _ _ hi) hi hy (key b w hS hC) ⟨fun hz => hS (by rwa [getD_set_ne true hiz] at hz), H⟩
  ·have k := ready_mono hj hji
   rw [H.1] at k;cases k
 | succ f ih =>
  intro b a w hfree hr hy hS hC H;refine ⟨fun h => (by rw [h] at hr; cases hr), fun j hj => ?_⟩
  by_cases hji : j = i
  ·subst hji; exact YieldsIf.wpOpIn hF (nd _ _ hi) hi hy (key b w hS hC) ⟨fun hz => hS (by rwa [getD_set_ne true hiz] at hz), H⟩
  ·obtain ⟨hjun, oj, hoj, hall⟩ := mem_ready.1 hj
   have hnot : ∀ e ∈ oj.after, Region.binds .any e = true → e.on ≠ i := by
    exact XaU
   refine wpOpIn_mono (fun a' w' h3 => ?_) (zcQ hF (nd _ _ hoj) hoj (hfree j oj hoj hji hjun hnot) (fun cs b => hsel i oi cs b hi) (fun cs b => hsel j oj cs b hoj) hQ hy (H.2 j (ready_mono hj hji)));exact Xau
def jy (F : Fence) (n : Nat) (P : Program) (ops : Array Oper) (S : World → Prop) (Q : Exit → Act → World → Prop) (z : Nat) : List (Nat × Nat × Oper) → Act → World → Prop
 | [], a, w => Q .normal a w
 | (0, i, o) :: r, a, w => wpQuiet P ops S (fun a' => jy F n P ops S Q z r a' w) [o] a
 | (1, i, o) :: r, a, w => wpQuiet P ops (fun _ => True) (fun a' => jy F n P ops S Q z r a' w) [o] a
 | (_ + 2, i, o) :: r, a, w => Region.wanted o (yielded ops a.tmps) = true ∧ o.wpIn F n P a w (fun a' w' => ((r.any fun x => x.2.1 == z) = true → S w') ∧ jy F n P ops S Q z r a' w') Q
theorem zcP {z : Nat} {a : Act} {w : World} (h : Q .normal a w) : jy F n P ops S Q z [] a w := h
theorem ZK {z i : Nat} {o : Oper} {r : List (Nat × Nat × Oper)} {a : Act} {w : World} (h : wpQuiet P ops S (fun a' => jy F n P ops S Q z r a' w) [o] a) : jy F n P ops S Q z ((0, i, o) :: r) a w := h
theorem ZL {z i : Nat} {o : Oper} {r : List (Nat × Nat × Oper)} {a : Act} {w : World} (h : wpQuiet P ops (fun _ => True) (fun a' => jy F n P ops S Q z r a' w) [o] a) : jy F n P ops S Q z ((1, i, o) :: r) a w := h
theorem zbQ {z i : Nat} {o : Oper} {r : List (Nat × Nat × Oper)} {a : Act} {w : World} (hF : zau F) (hd : qP o = true) (hg : o.guard = none) (h : ∀ K : Act → World → Prop, (∀ a' w', S w' → jy F n P ops S Q z r a' w' → K a' w') → o.wp P a w K Q) : jy F n P ops S Q z ((2, i, o) :: r) a w :=
 ⟨by simp [Region.wanted, hg], hF.op hd (h _ fun a' w' h1 h2 => ⟨fun _ => h1, h2⟩)⟩
theorem zbR {z i : Nat} {o : Oper} {r : List (Nat × Nat × Oper)} {a : Act} {w : World} (hg : o.guard = none) (hz : (r.any fun x => x.2.1 == z) = false) (h : ∀ K : Act → World → Prop, (∀ a' w', jy F n P ops S Q z r a' w' → K a' w') → o.wpIn F n P a w K Q) : jy F n P ops S Q z ((2, i, o) :: r) a w :=
 ⟨by simp [Region.wanted, hg], h _ fun a' w' h2 => ⟨fun h => (by rw [hz] at h; cases h), h2⟩⟩
theorem yL {z : Nat} (hF : ∀ f, F.fn f) (hdd : ops.all qP = true) (hsel : Region.noSelect ops = true) (hQ : ∀ c a d v w, Q (.panic c) (a.put d v) w → Q (.panic c) a w) : ∀ (r : List (Nat × Nat × Oper)) (b : Array Bool) (a : Act) (w : World),
  (∀ x, x ∈ r → ops[x.2.1]? = some x.2.2) → ZD ops z (r.map fun x => (x.1, x.2.1)) b = true → (b.getD z true = false → S w) → jy F n P ops S Q z r a w → VJ F n P ops Q S z r.length b a w
 | [], b, a, w, _, hB, _, h => ⟨by simpa [ZD] using hB, h⟩
 | (k, i, o) :: r, b, a, w, hl, hB, hS, h => by
  have ho : ops[i]? = some o := hl _ List.mem_cons_self;have hl' : ∀ x, x ∈ r → ops[x.2.1]? = some x.2.2 := fun x hx => hl x (List.mem_cons_of_mem _ hx)
  match k, hB, h with
  | 0, hB, h =>
   simp only [List.map_cons, ZD, Bool.and_eq_true, Bool.not_eq_true', beq_eq_false_iff_ne] at hB;obtain ⟨⟨⟨⟨⟨⟨hr, hf⟩, hk⟩, hw⟩, hz⟩, hiz⟩, hB'⟩ := hB;rw [ho] at hk;obtain ⟨v, hy, h2⟩ := Jy (by simpa using hk) h;exact Y9 hF hdd hiz ho (Region.noSelect_spec hsel) (fun c a w => hQ c a _ _ w) _ b a w (Region.free_spec ho hf) (by simpa using hr) hy hS (.inr ⟨fun _ h => h, hw, hz⟩) (yL hF hdd hsel hQ r _ _ w hl' hB' (fun h0 => hS hz) h2)
  | 1, hB, h =>
   simp only [List.map_cons, ZD, Bool.and_eq_true, Bool.not_eq_true', beq_eq_false_iff_ne] at hB;obtain ⟨⟨⟨⟨hr, hf⟩, hk⟩, hiz⟩, hB'⟩ := hB;rw [ho] at hk;obtain ⟨v, hy, h2⟩ := Jy (by simpa using hk) h;exact Y9 hF hdd hiz ho (Region.noSelect_spec hsel) (fun c a w => hQ c a _ _ w) _ b a w (Region.free_spec ho hf) (by simpa using hr) hy hS (.inl fun _ => trivial) (yL hF hdd hsel hQ r _ _ w hl' hB' (fun h0 => hS (by rwa [getD_set_ne true hiz] at h0)) h2)
  | k + 2, hB, h =>
   simp only [List.map_cons, ZD, Bool.and_eq_true, decide_eq_true_eq, Bool.or_eq_true] at hB;obtain ⟨⟨hr, hz⟩, hB'⟩ := hB;refine ⟨fun h0 => (by rw [hr] at h0; cases h0), fun j hj => ?_⟩;rw [hr] at hj;obtain rfl : j = i := by simpa using hj
   have key : ∀ a' w', ((r.any fun x => x.2.1 == z) = true → S w') → jy F n P ops S Q z r a' w' → ((b.setIfInBounds j true).getD z true = false → S w') ∧ VJ F n P ops Q S z r.length (b.setIfInBounds j true) a' w' := by
    intro a' w' k1 k2
    have hS' : (b.setIfInBounds j true).getD z true = false → S w' := fun h0 => by
     exact Xbw
    exact ⟨hS', yL hF hdd hsel hQ r _ a' w' hl' hB' hS' k2⟩
   unfold wpOpIn;simp only [ho];rw [if_pos h.1];exact Oper.wpIn_mono (fun a' w' ⟨k1, k2⟩ => key a' w' k1 k2) h.2
end
end
end Go.Proofs.YtcoiklclbljjeaaGreatDoor.L
