/- Lemmas of the card's proof. -/
import Derived.Test.YtcoiklclbljjeaaGreatDoorM17
set_option linter.unusedVariables false
set_option linter.unusedSimpArgs false
set_option maxRecDepth 100000
set_option maxHeartbeats 16000000
namespace Go.Proofs.YtcoiklclbljjeaaGreatDoor.L
open Go.RowKit
theorem Xbn {P : Prop} (h : P := by
 exact ⟨fun ⟨x, ⟨h1, h2⟩, h3⟩ => ⟨x, h1, h2, h3⟩, fun ⟨x, h1, h2, h3⟩ => ⟨x, ⟨h1, h2⟩, h3⟩⟩) : P := h
theorem XaR {P : Prop} (h : P := by
 rw [jv];simp only [zG.open_, if_true, List.mem_cons, zG.idx];constructor
 ·intro hk
  refine ⟨.inr hk, fun e => ?_⟩;obtain ⟨y, hy, _, hy3⟩ := jW.1 hk;exact hni (List.mem_map.2 ⟨y, hy, by rw [hy3, e]; rfl⟩)
 ·rintro ⟨h | h, hne⟩
  ·exact absurd h hne
  ·exact h) : P := h
section
inductive zG
 | rd (i : Nat) (o : Oper)
 | tl (i : Nat) (o : Oper)
 | fl (i : Nat) (o : Oper) (t : TypeId) (zs : Array Value) (st : Option Nat)
def zG.idx : zG → Nat
 | .rd i _ => i
 | .tl i _ => i
 | .fl i _ _ _ _ => i
def zG.op : zG → Oper
 | .rd _ o => o
 | .tl _ o => o
 | .fl _ o _ _ _ => o
def zG.isFl : zG → Bool
 | .fl _ _ _ _ _ => true
 | _ => false
def zG.open_ : zG → Bool
 | .fl _ _ _ _ (some _) => false
 | _ => true
def ve : List zG → Act → Act
 | [], a => a
 | .fl _ o _ _ (some b) :: r, a => ve r (a.put o.dst (.pointer (some ⟨b, 0, none⟩)))
 | _ :: r, a => ve r a
def yd (r : List zG) : List Nat := (r.filter zG.open_).map zG.idx
def Zn (r : List zG) : List Nat := (r.filter fun x => !x.isFl).map zG.idx
def jg (n : Nat) (U : List Nat) : Array Bool := (Array.range n).map fun i => !U.contains i
section
variable {P : Program} {ops : Array Oper} {Q : Exit → Act → World → Prop}
def JQ (ops : Array Oper) (x : zG) (r : List zG) : Bool :=
 (r.all fun y => !y.isFl || y.op.apart ops x.op) &&
 (match x with
  | .rd i o => (Region.ready .any ops (jg ops.size ((x :: r).map zG.idx))).contains i && Region.free .any ops (jg ops.size ((x :: r).map zG.idx)) i && ZC o && (r.all fun y => !y.isFl || o.apart ops y.op) && !r.isEmpty
  | .tl i _ => decide (Region.ready .any ops (jg ops.size (Zn (x :: r))) = [i])
  | .fl i o _ _ _ => (Region.ready .any ops (jg ops.size (i :: Zn r))).all (· == i) && o.after.all (fun e => !Region.binds .any e) && o.guard.isNone)
def chk (ops : Array Oper) : List zG → Bool
 | [] => (Region.ready .any ops (jg ops.size [])).isEmpty
 | x :: r => JQ ops x r && chk ops r
inductive yX (P : Program) (l : List Oper) : List zG → Prop
 | nil : yX P l []
 | rd {i : Nat} {o : Oper} {r : List zG} (h : l[i]? = some o) (t : yX P l r) : yX P l (.rd i o :: r)
 | tl {i : Nat} {o : Oper} {r : List zG} (h : l[i]? = some o) (t : yX P l r) : yX P l (.tl i o :: r)
 | fl {i : Nat} {o : Oper} {r : List zG} {e : TypeId} {zs : Array Value} {st : Option Nat} (h : l[i]? = some o) (ha : o.op = .alloc e) (hz : ∀ w : World, (Instr.alloc e true (.tuple #[])).run P w = .ok (.pointer (some ⟨w.heap.size, 0, none⟩)) (w.alloc (.cells zs e))) (t : yX P l r) : yX P l (.fl i o e zs st :: r)
def qi (P : Program) (ops : Array Oper) (w0 : World) (G : List Nat) (Q : Exit → Act → World → Prop) : List Nat → List zG → Act → World → Prop
 | _, [], a, w => Q .normal a w
 | L, .rd _ o :: r, a, w => if Region.wanted o (yielded ops a.tmps) = true then o.quiet P a (fun w' => ∃ x : But w0 G, w' = x.w) (fun a' => qi P ops w0 G Q L r a' w) else qi P ops w0 G Q L r (a.put o.dst undef) w
 | L, .tl _ o :: r, a, w => ∀ w1, Below w.heap.size w w1 → if Region.wanted o (yielded ops a.tmps) = true then o.wp P a w1 (fun a' w' => (r ≠ [] → zB w1 (L ++ G) w') ∧ ∃ D : List Nat, (∀ d, d ∈ D → w1.heap.size ≤ d ∧ d < w'.heap.size) ∧ qi P ops w0 G Q (D ++ L) r a' w') Q else qi P ops w0 G Q L r (a.put o.dst undef) w1
 | L, .fl _ o e zs _ :: r, a, w => ∀ w1 b, Below w.heap.size w w1 → At w1 b e zs → w0.heap.size ≤ b → b ∉ L → qi P ops w0 G Q (b :: L) r (a.put o.dst (.pointer (some ⟨b, 0, none⟩))) w1
theorem Yf {w0 : World} {G L : List Nat} {i : Nat} {o : Oper} {r : List zG} {a : Act} {w : World} : qi P ops w0 G Q L (.rd i o :: r) a w = (if Region.wanted o (yielded ops a.tmps) = true then o.quiet P a (fun w' => ∃ x : But w0 G, w' = x.w) (fun a' => qi P ops w0 G Q L r a' w) else qi P ops w0 G Q L r (a.put o.dst undef) w) := rfl
theorem yM {w0 : World} {G L : List Nat} {i : Nat} {o : Oper} {r : List zG} {a : Act} {w : World} : qi P ops w0 G Q L (.tl i o :: r) a w = (∀ w1, Below w.heap.size w w1 → if Region.wanted o (yielded ops a.tmps) = true then o.wp P a w1 (fun a' w' => (r ≠ [] → zB w1 (L ++ G) w') ∧ ∃ D : List Nat, (∀ d, d ∈ D → w1.heap.size ≤ d ∧ d < w'.heap.size) ∧ qi P ops w0 G Q (D ++ L) r a' w') Q else qi P ops w0 G Q L r (a.put o.dst undef) w1) := rfl
theorem Yg {w0 : World} {G L : List Nat} {i : Nat} {o : Oper} {e : TypeId} {zs : Array Value} {st : Option Nat} {r : List zG} {a : Act} {w : World} : qi P ops w0 G Q L (.fl i o e zs st :: r) a w = (∀ w1 b, Below w.heap.size w w1 → At w1 b e zs → w0.heap.size ≤ b → b ∉ L → qi P ops w0 G Q (b :: L) r (a.put o.dst (.pointer (some ⟨b, 0, none⟩))) w1) := rfl
theorem zgs {j : Nat} {d : Option Tmp} {oj : Oper} {v : Value} (hj : ops[j]? = some oj) (h1 : ∀ x, d = some x → x ∉ oj.looksAt ops) (h2 : ∀ x, d = some x → oj.dst ≠ some x) (hsj : ∀ cs b, oj.op ≠ .select cs b)
  (hQ : ∀ c a w, Q (.panic c) a w → Q (.panic c) (a.put d v) w) {K : Act → World → Prop} {a : Act} {w : World} (h : wpOp P ops Q j K a w) :
  wpOp P ops Q j (fun a' w' => ∃ a'', a' = a''.put d v ∧ K a'' w') (a.put d v) w := by
 unfold wpOp at *;simp only [hj] at *;rw [wanted_put oj a d v h1]
 split
 ·rename_i hw
  simp only [hw, if_true] at h;rcases h with h | ⟨hasks, hlets⟩
  case inr => exact .inr ⟨by unfold Oper.asks at *; rw [execOp_put oj hsj a d v h1]; exact hasks, hlets⟩
  refine .inl ?_;unfold Oper.wp at *;rw [execOp_put oj hsj a d v h1];generalize (execOp a.eval oj).run P w = r at *;cases r with
  | ok n w' =>
   cases n <;> simp only [Oper.upon] at h ⊢
   case value u => exact ⟨a.put oj.dst u, Act.put_comm a v u h2, h⟩
   case skip => exact ⟨a.put oj.dst undef, Act.put_comm a v undef h2, h⟩
   case defer dd => exact ⟨_, by rw [Act.put_defers, Act.put_comm _ v undef h2], h⟩
   case enter f args =>
    refine Calls.mono h fun e w'' he => ?_;cases e with
    | returned u => exact ⟨a.put oj.dst u, Act.put_comm a v u h2, he⟩
    | panicked c => exact hQ _ _ _ he
    | outgrown => exact he
   case row row args => exact Rows.mono h fun u w'' he => ⟨a.put oj.dst u, Act.put_comm a v u h2, he⟩
  | halt x w' =>
   cases x <;> simp only [Oper.upon] at h ⊢
   case panic u => exact hQ _ _ _ h
 ·rename_i hw
  simp only [hw] at h;exact ⟨a.put oj.dst undef, Act.put_comm a v undef h2, h⟩
def VO (ops : Array Oper) (r : List zG) (oj : Oper) : Prop := ∀ y, y ∈ r → y.isFl = true → y.op.apart ops oj = true
theorem VO.tail {y : zG} {r : List zG} {oj : Oper} (h : VO ops (y :: r) oj) : VO ops r oj := fun x hx => h x (List.mem_cons_of_mem _ hx)
theorem Ze {j : Nat} {oj : Oper} (hj : ops[j]? = some oj) (hsj : ∀ cs b, oj.op ≠ .select cs b) (hQ : ∀ c a d v w, Q (.panic c) a w → Q (.panic c) (a.put d v) w) : ∀ (r : List zG) (K : Act → World → Prop) (a : Act) (w : World), VO ops r oj → wpOp P ops Q j K a w →
  wpOp P ops Q j (fun a' w' => ∃ a'', a' = ve r a'' ∧ K a'' w') (ve r a) w
 | [], K, a, w, _, h => wpOp_mono (fun a' w' h' => ⟨a', rfl, h'⟩) h
 | .rd i o :: r, K, a, w, ha, h => Ze hj hsj hQ r K a w ha.tail h
 | .tl i o :: r, K, a, w, ha, h => Ze hj hsj hQ r K a w ha.tail h
 | .fl i o e zs none :: r, K, a, w, ha, h => Ze hj hsj hQ r K a w ha.tail h
 | .fl i o e zs (some b) :: r, K, a, w, ha, h => by
  obtain ⟨h1, h2, _⟩ := Oper.apart_spec (ha (.fl i o e zs (some b)) (List.mem_cons_self) rfl);have q := Ze hj hsj hQ r _ _ w ha.tail (zgs (v := .pointer (some ⟨b, 0, none⟩)) hj h1 h2 hsj (fun c a w h => hQ c a _ _ w h) h);exact wpOp_mono (fun a' w' ⟨a3, e3, a4, e4, h4⟩ => ⟨a4, by rw [e3, e4]; rfl, h4⟩) q
def yy : zG → zG
 | .fl i o e zs _ => .fl i o e zs none
 | x => x
def jz (j b : Nat) : zG → zG
 | .fl i o e zs none => if i = j then .fl i o e zs (some b) else .fl i o e zs none
 | x => x
theorem Jw (x : zG) : (yy x).idx = x.idx := by cases x <;> rfl
theorem zhM (x : zG) : (yy x).op = x.op := by cases x <;> rfl
theorem zaU (x : zG) : (yy x).isFl = x.isFl := by cases x <;> rfl
theorem VY (j b : Nat) (x : zG) : yy (jz j b x) = yy x := by
 unfold jz; split
 ·split <;> rfl
 ·rfl
theorem zgz (j b : Nat) (x : zG) : (jz j b x).idx = x.idx := by rw [← Jw, VY, Jw]
theorem zbX (r : List zG) : (r.map yy).map zG.idx = r.map zG.idx := by
 rw [List.map_map]; exact List.map_congr_left fun x _ => Jw x
theorem V5 (r : List zG) : Zn (r.map yy) = Zn r := by
 unfold Zn;rw [List.filter_map, List.map_map];have : ((fun x : zG => !x.isFl) ∘ yy) = fun x => !x.isFl := funext fun x => by simp [zaU]
 rw [this];exact List.map_congr_left fun x _ => Jw x
theorem Vp {j b : Nat} {x : zG} (h : x.idx ≠ j) : jz j b x = x := by
 unfold jz; split
 ·rename_i i o e zs
  simp [zG.idx] at h;simp [h]
 ·rfl
theorem J6 {j b : Nat} {r : List zG} (h : j ∉ r.map zG.idx) : r.map (jz j b) = r := by
 have : ∀ x ∈ r, jz j b x = x := fun x hx => Vp fun e => h (List.mem_map.2 ⟨x, hx, e⟩);rw [List.map_congr_left this]; simp
theorem jW {i : Nat} {r : List zG} : i ∈ yd r ↔ ∃ x, x ∈ r ∧ x.open_ = true ∧ x.idx = i := by
 unfold yd;simp only [List.mem_map, List.mem_filter];exact Xbn
theorem vr {i : Nat} {r : List zG} : i ∈ Zn r ↔ ∃ x, x ∈ r ∧ x.isFl = false ∧ x.idx = i := by
 unfold Zn;simp only [List.mem_map, List.mem_filter, Bool.not_eq_true'];exact Xbn
theorem J3 {x : zG} (h : x.isFl = false) : x.open_ = true := by cases x <;> first | rfl | cases h
theorem jv (x : zG) (r : List zG) : yd (x :: r) = if x.open_ = true then x.idx :: yd r else yd r := by
 unfold yd; rw [List.filter_cons]; split <;> rfl
theorem zhQ {j b : Nat} {r : List zG} (hnd : (r.map zG.idx).Nodup) {o : Oper} {e : TypeId} {zs : Array Value} (hm : zG.fl j o e zs none ∈ r) : (yd (r.map (jz j b))).length + 1 = (yd r).length ∧ ∀ i, i ∈ yd (r.map (jz j b)) ↔ i ∈ yd r ∧ i ≠ j := by
 induction r with
 | nil => cases hm
 | cons x r ih =>
  rw [List.map_cons, List.nodup_cons] at hnd
  by_cases hx : x = .fl j o e zs none
  ·subst hx
   have hoff : r.map (jz j b) = r := J6 hnd.1;rw [List.map_cons, hoff];have h3 : yd (zG.fl j o e zs none :: r) = j :: yd r := jv _ r
   have h4 : yd (jz j b (zG.fl j o e zs none) :: r) = yd r := by
    rw [show jz j b (zG.fl j o e zs none) = .fl j o e zs (some b) by simp [jz]]; exact jv _ r
   rw [h3, h4];refine ⟨by simp, fun i => ?_⟩
   have h2 : i ∈ yd r → i ≠ j := fun hi e => by
    obtain ⟨x, hx, _, hxi⟩ := jW.1 hi;exact hnd.1 (List.mem_map.2 ⟨x, hx, by rw [hxi, e]; rfl⟩)
   constructor
   ·exact fun hi => ⟨List.mem_cons_of_mem _ hi, h2 hi⟩
   ·rintro ⟨hi, hne⟩
    rcases List.mem_cons.1 hi with e | hi
    ·exact absurd e hne
    ·exact hi
  ·have hm' : zG.fl j o e zs none ∈ r := by
    rcases List.mem_cons.1 hm with e | h
    ·exact absurd e.symm hx
    ·exact h
   have hxj : x.idx ≠ j := fun e' => hnd.1 (List.mem_map.2 ⟨_, hm', by rw [e']; rfl⟩);obtain ⟨i1, i2⟩ := ih hnd.2 hm';rw [List.map_cons, Vp hxj];rw [jv, jv]
   split
   ·refine ⟨by simp; omega, fun i => ?_⟩
    simp only [List.mem_cons, i2];constructor
    ·rintro (h | h)
     ·exact ⟨.inl h, fun e => hxj (h ▸ e)⟩
     ·exact ⟨.inr h.1, h.2⟩
    ·rintro ⟨h | h, hne⟩
     ·exact .inl h
     ·exact .inr ⟨h, hne⟩
   ·exact ⟨i1, i2⟩
theorem Zc {d : Option Tmp} {v : Value} : ∀ (r : List zG) (a : Act), (∀ y, y ∈ r → y.isFl = true → ∀ x, y.op.dst = some x → d ≠ some x) → ve r (a.put d v) = (ve r a).put d v
 | [], a, _ => rfl
 | .rd i o :: r, a, h => Zc r a fun y hy => h y (List.mem_cons_of_mem _ hy)
 | .tl i o :: r, a, h => Zc r a fun y hy => h y (List.mem_cons_of_mem _ hy)
 | .fl i o e zs none :: r, a, h => Zc r a fun y hy => h y (List.mem_cons_of_mem _ hy)
 | .fl i o e zs (some b) :: r, a, h => by
  have h1 := h (.fl i o e zs (some b)) List.mem_cons_self rfl;show ve r ((a.put d v).put o.dst _) = (ve r (a.put o.dst _)).put d v;rw [← Zc r (a.put o.dst _) fun y hy => h y (List.mem_cons_of_mem _ hy)];rw [Act.put_comm (a := a) (x := o.dst) (y := d) (.pointer (some ⟨b, 0, none⟩)) v (fun x hx => h1 x hx)]
theorem zbB {x : zG} {r : List zG} (h : chk ops ((x :: r).map yy) = true) : chk ops (r.map yy) = true ∧ VO ops r x.op := by
 simp only [List.map_cons, chk, Bool.and_eq_true] at h;refine ⟨h.2, fun y hy hf => ?_⟩;have := h.1;simp only [JQ, Bool.and_eq_true, List.all_map] at this;have q := List.all_eq_true.1 this.1 y hy;simp only [Function.comp, zaU, zhM, hf, Bool.not_true, Bool.false_or] at q;exact q
theorem Qc {j b : Nat} {o : Oper} {e : TypeId} {zs : Array Value} : ∀ (r : List zG) (a : Act), chk ops (r.map yy) = true → (r.map zG.idx).Nodup → zG.fl j o e zs none ∈ r → ve (r.map (jz j b)) a = (ve r a).put o.dst (.pointer (some ⟨b, 0, none⟩))
 | [], a, _, _, hm => by cases hm
 | x :: r, a, hc, hnd, hm => by
  obtain ⟨hc', hap⟩ := zbB hc;rw [List.map_cons, List.nodup_cons] at hnd
  by_cases hx : x = .fl j o e zs none
  ·subst hx
   rw [List.map_cons, show r.map (jz j b) = r from J6 hnd.1];have e1 : jz j b (zG.fl j o e zs none) = .fl j o e zs (some b) := by simp [jz]
   rw [e1];exact Zc (d := o.dst) r a (fun y hy hf z hz => (Oper.apart_spec (hap y hy hf)).2.1 z hz)
  ·have hm' : zG.fl j o e zs none ∈ r := by
    rcases List.mem_cons.1 hm with e | h
    ·exact absurd e.symm hx
    ·exact h
   have hxj : x.idx ≠ j := fun e' => hnd.1 (List.mem_map.2 ⟨_, hm', by rw [e']; rfl⟩);rw [List.map_cons, Vp hxj];cases x with
   | rd i o' => exact Qc r a hc' hnd.2 hm'
   | tl i o' => exact Qc r a hc' hnd.2 hm'
   | fl i o' e' zs' st =>
    cases st with
    | none => exact Qc r a hc' hnd.2 hm'
    | some b' => exact Qc r _ hc' hnd.2 hm'
def Jr (ops : Array Oper) (b : Array Bool) (r : List zG) : Prop := b.size = ops.size ∧ ∀ i, i < ops.size → (b.getD i true = false ↔ i ∈ yd r)
theorem J8 {n : Nat} {U : List Nat} {i : Nat} (hi : i < n) : (jg n U).getD i true = !U.contains i := by
 simp [jg, hi]
theorem Ji {n : Nat} {U : List Nat} {i : Nat} (hi : i < n) : (jg n U).getD i false = !U.contains i := by
 simp [jg, hi]
theorem zga {b : Array Bool} {i : Nat} (hi : i < b.size) : b.getD i true = b.getD i false := by simp [hi]
theorem YJ {b : Array Bool} {i : Nat} (h : i ∈ Region.ready .any ops b) : i < ops.size := by
 obtain ⟨_, o, ho, _⟩ := mem_ready.1 h;exact (Array.getElem?_eq_some_iff.1 ho).1
theorem zdY {b b' : Array Bool} {i : Nat} (hle : ∀ k, b.getD k false = true → b'.getD k false = true) (hi : b'.getD i true = false) (h : i ∈ Region.ready .any ops b) : i ∈ Region.ready .any ops b' := by
 rw [mem_ready] at *;obtain ⟨_, o, ho, hall⟩ := h;exact ⟨hi, o, ho, fun e he hb => hle _ (hall e he hb)⟩
theorem Jr.to_arr {b : Array Bool} {r : List zG} {U : List Nat} (h : Jr ops b r) (hU : ∀ i, i ∈ U → i ∈ yd r) {i : Nat} (hi : i ∈ U) (hr : i ∈ Region.ready .any ops b) : i ∈ Region.ready .any ops (jg ops.size U) := by
 have hlt := YJ hr;refine zdY (fun k hk => ?_) (by rw [J8 hlt]; simpa using hi) hr
 by_cases hkl : k < ops.size
 ·rw [Ji hkl]
  have : ¬ k ∈ U := fun hm => by
   have := (h.2 k hkl).2 (hU k hm);rw [zga (by rw [h.1]; exact hkl), hk] at this; cases this
  simpa using this
 ·have : b.getD k false = false := by simp [show ¬ k < b.size by rw [h.1]; exact hkl]
  rw [this] at hk; cases hk
theorem Jr.of_arr {b : Array Bool} {r : List zG} {U : List Nat} (h : Jr ops b r) (hU : ∀ i, i ∈ yd r → i ∈ U) {i : Nat} (hi : i ∈ yd r) (hr : i ∈ Region.ready .any ops (jg ops.size U)) : i ∈ Region.ready .any ops b := by
 have hlt := YJ hr;refine zdY (fun k hk => ?_) ((h.2 i hlt).2 hi) hr
 by_cases hkl : k < ops.size
 ·rw [Ji hkl] at hk
  have : ¬ k ∈ yd r := fun hm => by simp [hU k hm] at hk
  have := fun e => this ((h.2 k hkl).1 e);rw [zga (by rw [h.1]; exact hkl)] at this
  simpa using this
 ·have : (jg ops.size U).getD k false = false := by simp [jg, hkl]
  rw [this] at hk; cases hk
theorem Jr.set {b : Array Bool} {r r' : List zG} {j : Nat} (h : Jr ops b r) (hp : ∀ i, i ∈ yd r' ↔ i ∈ yd r ∧ i ≠ j) : Jr ops (b.setIfInBounds j true) r' := by
 refine ⟨by simpa using h.1, fun i hi => ?_⟩
 by_cases hij : j = i
 ·subst hij
  have : (b.setIfInBounds j true).getD j true = true := by simp [h.1, hi]
  rw [this, hp]; simp
 ·rw [getD_set_ne true hij, h.2 i hi, hp]
  exact ⟨fun k => ⟨k, fun e => hij e.symm⟩, fun k => k.1⟩
structure Vj (w0 : World) (L : List Nat) (r : List zG) (w : World) : Prop where
 at_ : ∀ i o e zs b, zG.fl i o e zs (some b) ∈ r → At w b e zs ∧ w0.heap.size ≤ b ∧ b ∉ L
 two : ∀ i o e zs b i' o' e' zs' b', zG.fl i o e zs (some b) ∈ r → zG.fl i' o' e' zs' (some b') ∈ r → i ≠ i' → b ≠ b'
theorem Vj.tail {w0 w : World} {L : List Nat} {x : zG} {r : List zG} (h : Vj w0 L (x :: r) w) : Vj w0 L r w :=
 ⟨fun i o e zs b hm => h.at_ i o e zs b (List.mem_cons_of_mem _ hm), fun i o e zs b i' o' e' zs' b' h1 h2 => h.two i o e zs b i' o' e' zs' b' (List.mem_cons_of_mem _ h1) (List.mem_cons_of_mem _ h2)⟩
theorem Vj.move {w0 w w' : World} {G L : List Nat} {r : List zG} (h : Vj w0 L r w) (hG : ∀ g, g ∈ G → g < w0.heap.size) (hb : zB w (L ++ G) w') : Vj w0 L r w' :=
 ⟨fun i o e zs b hm => by
  obtain ⟨h1, h2, h3⟩ := h.at_ i o e zs b hm
  exact ⟨(hb.block b h1.lt (fun hg => by
   rcases List.mem_append.1 hg with hg | hg
   ·exact h3 hg
   ·have := hG b hg; omega)).trans h1, h2, h3⟩, h.two⟩
theorem yX.get {l : List Oper} {r : List zG} (h : yX P l r) : ∀ x, x ∈ r → l[x.idx]? = some x.op := by
 induction h with
 | nil => intro x hx; cases hx
 | rd h _ ih => intro x hx; rcases List.mem_cons.1 hx with rfl | hx; exact h; exact ih x hx
 | tl h _ ih => intro x hx; rcases List.mem_cons.1 hx with rfl | hx; exact h; exact ih x hx
 | fl h _ _ _ ih => intro x hx; rcases List.mem_cons.1 hx with rfl | hx; exact h; exact ih x hx
theorem yX.alloc {l : List Oper} {r : List zG} (h : yX P l r) : ∀ i o e zs st, zG.fl i o e zs st ∈ r → o.op = .alloc e ∧ ∀ w : World, (Instr.alloc e true (.tuple #[])).run P w = .ok (.pointer (some ⟨w.heap.size, 0, none⟩)) (w.alloc (.cells zs e)) := by
 induction h with
 | nil => intro i o e zs st hx; cases hx
 | rd _ _ ih => intro i o e zs st hx; rcases List.mem_cons.1 hx with e | hx; cases e; exact ih _ _ _ _ _ hx
 | tl _ _ ih => intro i o e zs st hx; rcases List.mem_cons.1 hx with e | hx; cases e; exact ih _ _ _ _ _ hx
 | fl _ ha hz _ ih => intro i o e zs st hx; rcases List.mem_cons.1 hx with e | hx; cases e; exact ⟨ha, hz⟩; exact ih _ _ _ _ _ hx
theorem yX.set {l : List Oper} {r : List zG} (h : yX P l r) (j b : Nat) : yX P l (r.map (jz j b)) := by
 induction h with
 | nil => exact .nil
 | rd h _ ih => exact .rd h ih
 | tl h _ ih => exact .tl h ih
 | @fl i o r e zs st h ha hz _ ih =>
  rw [List.map_cons];cases st with
  | none =>
   have hs : jz j b (zG.fl i o e zs none) = if i = j then .fl i o e zs (some b) else .fl i o e zs none := rfl;rw [hs]
   split
   ·exact .fl h ha hz ih
   ·exact .fl h ha hz ih
  | some b' => exact .fl h ha hz ih
theorem yX.tail {l : List Oper} {x : zG} {r : List zG} (h : yX P l (x :: r)) : yX P l r := by
 cases h <;> assumption
theorem zfC {i : Nat} {o : Oper} {e : TypeId} {zs : Array Value} {st : Option Nat} : ∀ (r : List zG), chk ops (r.map yy) = true → zG.fl i o e zs st ∈ r → o.after.all (fun e => !Region.binds .any e) = true ∧ o.guard = none
 | [], _, hm => by cases hm
 | x :: r, hc, hm => by
  have hc2 := (zbB hc).1;rcases List.mem_cons.1 hm with rfl | hm
  ·simp only [List.map_cons, chk, yy, JQ, Bool.and_eq_true] at hc
   exact ⟨hc.1.2.1.2, by simpa using hc.1.2.2⟩
  ·exact zfC r hc2 hm
theorem vB {w0 : World} {G : List Nat} {j b : Nat} : ∀ (r : List zG) (L : List Nat), qi P ops w0 G Q L (r.map (jz j b)) = qi P ops w0 G Q L r
 | [], L => rfl
 | .rd i o :: r, L => by
  funext a w
  rw [List.map_cons, show jz j b (.rd i o) = .rd i o from rfl, Yf, Yf, vB r L]
 | .tl i o :: r, L => by
  funext a w
  have hn : (r.map (jz j b) ≠ []) = (r ≠ []) := by simp
  rw [List.map_cons, show jz j b (.tl i o) = .tl i o from rfl, yM, yM];simp only [vB r, hn]
 | .fl i o e zs st :: r, L => by
  funext a w
  have hs : ∃ st', jz j b (.fl i o e zs st) = .fl i o e zs st' := by
   cases st with
   | none => by_cases h : i = j <;> simp [jz, h]
   | some b' => exact ⟨_, rfl⟩
  obtain ⟨st', hs⟩ := hs;rw [List.map_cons, hs, Yg, Yg];apply propext;constructor
  ·intro h w1 b' h1 h2 h3 h4; have := h w1 b' h1 h2 h3 h4; rw [vB r] at this; exact this
  ·intro h w1 b' h1 h2 h3 h4; have := h w1 b' h1 h2 h3 h4; rw [vB r]; exact this
theorem zbY (j b : Nat) (r : List zG) : (r.map (jz j b)).map yy = r.map yy := by rw [List.map_map]; exact List.map_congr_left fun x _ => VY j b x
theorem V7 (j b : Nat) (r : List zG) : (r.map (jz j b)).map zG.idx = r.map zG.idx := by rw [List.map_map]; exact List.map_congr_left fun x _ => zgz j b x
theorem Zt {o : Oper} (hso : ∀ cs b, o.op ≠ .select cs b) : ∀ (r : List zG) (a : Act), VO ops r o → execOp (ve r a).eval o = execOp a.eval o ∧ Region.wanted o (yielded ops (ve r a).tmps) = Region.wanted o (yielded ops a.tmps)
 | [], a, _ => ⟨rfl, rfl⟩
 | .rd i o' :: r, a, h => Zt hso r a h.tail
 | .tl i o' :: r, a, h => Zt hso r a h.tail
 | .fl i o' e zs none :: r, a, h => Zt hso r a h.tail
 | .fl i o' e zs (some b) :: r, a, h => by
  obtain ⟨h1, _, _⟩ := Oper.apart_spec (h (.fl i o' e zs (some b)) List.mem_cons_self rfl);obtain ⟨q1, q2⟩ := Zt hso r (a.put o'.dst (.pointer (some ⟨b, 0, none⟩))) h.tail;exact ⟨q1.trans (execOp_put o hso a o'.dst _ h1), q2.trans (wanted_put o a o'.dst _ h1)⟩
theorem zB.trans {a b c : World} {G : List Nat} (h : zB a G b) (k : zB b G c) : zB a G c := ⟨Nat.le_trans h.size k.size, fun i hi hg => (k.block i (Nat.lt_of_lt_of_le hi h.size) hg).trans (h.block i hi hg)⟩
theorem Vv {w0 : World} {G L : List Nat} {z : Nat} {S : World → Prop} {b : Array Bool} {a : Act} {wc w : World} (hc : chk ops ([] : List zG) = true) (hB : Jr ops b []) (hwe : wc = w) (H : qi P ops w0 G Q L [] a wc) : zaq P ops Q S z 0 b (ve [] a) w := by
 subst hwe;refine ⟨?_, H⟩;have : Region.ready .any ops (jg ops.size []) = [] := by simpa [chk] using hc
 rw [List.eq_nil_iff_forall_not_mem];intro i hi;have hlt := YJ hi;have h1 := (mem_ready.1 hi).1;have := (hB.2 i hlt).1 h1;simp [yd] at this
theorem Vj.made {w0 : World} {L : List Nat} {r : List zG} {w : World} {j : Nat} {o : Oper} {e : TypeId} {zs : Array Value} (h : Vj w0 L r w) (hnd : (r.map zG.idx).Nodup) (hm : zG.fl j o e zs none ∈ r) (hw : w0.heap.size ≤ w.heap.size) (hL : ∀ q, q ∈ L → q < w.heap.size) : Vj w0 L (r.map (jz j w.heap.size)) (w.alloc (.cells zs e)) := by
 have back : ∀ i o' e' zs' b', zG.fl i o' e' zs' (some b') ∈ r.map (jz j w.heap.size) → (zG.fl i o' e' zs' (some b') ∈ r) ∨ (i = j ∧ b' = w.heap.size ∧ zG.fl i o' e' zs' none ∈ r) := by
  intro i o' e' zs' b' hx;obtain ⟨x, hx1, hx2⟩ := List.mem_map.1 hx;unfold jz at hx2
  split at hx2
  ·split at hx2
   ·rename_i hij
    cases hx2;exact .inr ⟨hij, rfl, hx1⟩
   ·cases hx2
  ·subst hx2; exact .inl hx1
 have same : ∀ i o' e' zs', zG.fl i o' e' zs' none ∈ r → i = j → e' = e ∧ zs' = zs := by
  intro i o' e' zs' h1 hij;subst hij;obtain ⟨p, hp⟩ := List.getElem?_of_mem h1;obtain ⟨q, hq⟩ := List.getElem?_of_mem hm;have e1 : (r.map zG.idx)[p]? = some i := by rw [List.getElem?_map, hp]; rfl
  have e2 : (r.map zG.idx)[q]? = some i := by rw [List.getElem?_map, hq]; rfl
  obtain ⟨l1, g1⟩ := List.getElem?_eq_some_iff.1 e1;obtain ⟨l2, g2⟩ := List.getElem?_eq_some_iff.1 e2;obtain rfl : p = q := (List.getElem_inj hnd).1 (g1.trans g2.symm);rw [hp] at hq;cases hq;exact ⟨rfl, rfl⟩
 refine ⟨fun i o' e' zs' b' hx => ?_, fun i o1 e1 z1 b1 i' o2 e2 z2 b2 h1 h2 hne => ?_⟩
 ·rcases back _ _ _ _ _ hx with h1 | ⟨hij, hb, h1⟩
  ·obtain ⟨a1, a2, a3⟩ := h.at_ _ _ _ _ _ h1
   exact ⟨a1.alloc _, a2, a3⟩
  ·obtain ⟨rfl, rfl⟩ := same _ _ _ _ h1 hij
   subst hb;exact ⟨At.new _ _ _, hw, fun hq => by have := hL _ hq; omega⟩
 ·rcases back _ _ _ _ _ h1 with k1 | ⟨hij, hb, k1⟩
  ·rcases back _ _ _ _ _ h2 with k2 | ⟨hij2, hb2, k2⟩
   ·exact h.two _ _ _ _ _ _ _ _ _ _ k1 k2 hne
   ·have := (h.at_ _ _ _ _ _ k1).1.lt; omega
  ·rcases back _ _ _ _ _ h2 with k2 | ⟨hij2, hb2, k2⟩
   ·have := (h.at_ _ _ _ _ _ k2).1.lt; omega
   ·exact absurd (hij.trans hij2.symm) hne
theorem Vj.more {w0 : World} {L D : List Nat} {r : List zG} {w : World} (h : Vj w0 L r w) (k : ∀ i o e zs b, zG.fl i o e zs (some b) ∈ r → b ∉ D) : Vj w0 (D ++ L) r w :=
 ⟨fun i o e zs b hm => by
  obtain ⟨h1, h2, h3⟩ := h.at_ _ _ _ _ _ hm;exact ⟨h1, h2, fun hq => (List.mem_append.1 hq).elim (k _ _ _ _ _ hm) h3⟩, h.two⟩
theorem zkk {w0 : World} {G : List Nat} {z : Nat} {l : List Oper} (hz : zcv l.toArray z = true) (hsel : Region.noSelect l.toArray = true) (hQ1 : ∀ c a d v w, Q (.panic c) (a.put d v) w → Q (.panic c) a w) (hQ2 : ∀ c a d v w, Q (.panic c) a w → Q (.panic c) (a.put d v) w) (hG : ∀ g, g ∈ G → g < w0.heap.size) :
  ∀ (N f : Nat) (r : List zG) (L : List Nat) (b : Array Bool) (a : Act) (wc w : World), f + r.length ≤ N → (yd r).length = f → chk l.toArray (r.map yy) = true → (r.map zG.idx).Nodup → yX P l r → Jr l.toArray b r → Vj w0 L r w → (∀ q, q ∈ L → q < w.heap.size) → (∀ q, q ∈ L → w0.heap.size ≤ q) → (r = [] ∨ (r.map zG.idx).getLast? = some z) →
   Below wc.heap.size wc w → (r = [] → wc = w) → qi P l.toArray w0 G Q L r a wc → zB w0 G w → zaq P l.toArray Q (fun w' => ∃ x : But w0 G, w' = x.w) z f b (ve r a) w := by
 intro N
 induction N with
 | zero =>
  intro f r L b a wc w hN hf hc hnd hI hB hM hLw hL0 hl hw hwe H hS;obtain rfl : r = [] := List.eq_nil_of_length_eq_zero (by omega);obtain rfl : f = 0 := by omega
  exact Vv hc hB (hwe rfl) H
 | succ N ih =>
  intro f r L b a wc w hN hf hc hnd hI hB hM hLw hL0 hl hw hwe H hS
  have made : ∀ (j : Nat) (o : Oper) (e : TypeId) (zs : Array Value), zG.fl j o e zs none ∈ r → 0 < f ∧ wpOp P l.toArray Q j (fun a' w' => (j ≠ z → ∃ x : But w0 G, w' = x.w) ∧ zaq P l.toArray Q (fun w' => ∃ x : But w0 G, w' = x.w) z (f - 1) (b.setIfInBounds j true) a' w') (ve r a) w := by
   intro j o e zs hm;obtain ⟨hp1, hp2⟩ := zhQ (b := w.heap.size) hnd hm;have hf1 : 0 < f := by omega
   refine ⟨hf1, ?_⟩;have hget := hI.get _ hm;obtain ⟨hop, hrun⟩ := hI.alloc _ _ _ _ _ hm;have hgd := (zfC r hc hm).2;have hS' : zB w0 G (w.alloc (.cells zs e)) := hS.alloc _
   have key : zaq P l.toArray Q (fun w' => ∃ x : But w0 G, w' = x.w) z (f - 1) (b.setIfInBounds j true) ((ve r a).put o.dst (.pointer (some ⟨w.heap.size, 0, none⟩))) (w.alloc (.cells zs e)) := by
    rw [← Qc r a hc hnd hm]
    refine ih (f - 1) (r.map (jz j w.heap.size)) L _ a wc _ (by rw [List.length_map]; omega) (by omega) ?_ ?_ (hI.set _ _) (hB.set hp2) ?_ (fun q hq => by have := hLw q hq; simp; omega) hL0 ?_ (zj hw (zg (Below.refl _ _) _)) (fun e => by
     have : r = [] := by simpa using e
     subst this; cases hm) (by rw [vB]; exact H) hS'
    ·rw [zbY]; exact hc
    ·rw [V7]; exact hnd
    ·exact hM.made hnd hm hS.size hLw
    ·rw [V7]
     rcases hl with h | h
     ·subst h; cases hm
     ·exact .inr h
   have hget' : l.toArray[j]? = some o := by rw [List.getElem?_toArray]; exact hget
   unfold wpOp;simp only [hget', Region.wanted, hgd, if_true];refine .inl ?_;unfold Oper.wp execOp;simp only [hop, Sem.run_bind, Sem.run_pure, hrun, Result.andThen_ok, Oper.upon];exact ⟨fun _ => ⟨⟨_, hS'⟩, rfl⟩, key⟩
  have inr : ∀ j, j ∈ Region.ready .any l.toArray b → j ∉ Zn r → ∃ o e zs, zG.fl j o e zs none ∈ r := by
   intro j hj hn;have hlt := YJ hj;obtain ⟨x, hx, ho, hxi⟩ := jW.1 ((hB.2 j hlt).1 (mem_ready.1 hj).1);cases x with
   | rd i o => exact absurd (vr.2 ⟨_, hx, rfl, hxi⟩) hn
   | tl i o => exact absurd (vr.2 ⟨_, hx, rfl, hxi⟩) hn
   | fl i o e zs st =>
    cases st with
    | none => cases hxi; exact ⟨o, e, zs, hx⟩
    | some q => cases ho
  have flr : ∀ j o e zs, zG.fl j o e zs none ∈ r → j ∈ Region.ready .any l.toArray b := by
   intro j o e zs hm;have hget := hI.get _ hm;have hget' : l.toArray[j]? = some o := by rw [List.getElem?_toArray]; exact hget
   have hlt : j < l.toArray.size := (Array.getElem?_eq_some_iff.1 hget').1;refine mem_ready.2 ⟨(hB.2 j hlt).2 (jW.2 ⟨_, hm, rfl, rfl⟩), o, hget', fun e he hb => ?_⟩;have := (Array.all_eq_true_iff_forall_mem.1 (zfC r hc hm).1) e he;rw [hb] at this; cases this
  cases r with
  | nil =>
   obtain rfl : f = 0 := by rw [← hf]; rfl
   exact Vv hc hB (hwe rfl) H
  | cons x r =>
   obtain ⟨hc', hap⟩ := zbB hc;have hnd' := (List.nodup_cons.1 (by rw [List.map_cons] at hnd; exact hnd)).2;have hni := (List.nodup_cons.1 (by rw [List.map_cons] at hnd; exact hnd)).1
   have hl' : r = [] ∨ (r.map zG.idx).getLast? = some z := by
    cases r with
    | nil => exact .inl rfl
    | cons y r => right; rcases hl with h | h; cases h; simpa using h
   have hlx : r = [] → x.idx = z := fun e => by subst e; rcases hl with h | h; cases h; simpa using h
   cases x with
   | rd i o =>
    obtain ⟨f', rfl⟩ : ∃ f', f = f' + 1 := ⟨(yd r).length, by rw [← hf, jv]; rfl⟩
    have hget' : l.toArray[i]? = some o := by rw [List.getElem?_toArray]; exact hI.get _ List.mem_cons_self
    have hlt : i < l.toArray.size := (Array.getElem?_eq_some_iff.1 hget').1;have hch := hc;simp only [List.map_cons, chk, JQ, yy, Bool.and_eq_true] at hch;rw [zbX, show (zG.rd i o).idx :: List.map zG.idx r = (zG.rd i o :: r).map zG.idx from rfl] at hch;obtain ⟨⟨_, ⟨⟨⟨hrd, hfree⟩, hrk⟩, _⟩, hne0⟩, _⟩ := hch;have hso := Region.noSelect_spec hsel
    have hri : i ∈ Region.ready .any l.toArray b := hB.of_arr (fun k hk => by
     obtain ⟨y, hy, _, hy3⟩ := jW.1 hk;exact List.mem_map.2 ⟨y, hy, hy3⟩) (jW.2 ⟨_, List.mem_cons_self, rfl, rfl⟩) (by simpa using hrd)
    have hp : ∀ k, k ∈ yd r ↔ k ∈ yd (zG.rd i o :: r) ∧ k ≠ i := fun k => by
     exact XaR
    have hfr := Region.free_spec hget' hfree
    have go : ∀ v, YieldsIf P l.toArray (fun w' => ∃ x : But w0 G, w' = x.w) o v a → qi P l.toArray w0 G Q L r (a.put o.dst v) wc → zaq P l.toArray Q (fun w' => ∃ x : But w0 G, w' = x.w) z (f' + 1) b (ve r a) w := by
     intro v hy hk;obtain ⟨s1, s2⟩ := Zt (fun cs b => hso i o cs b hget') r a hap;refine Yw hz hget' hso (fun c a w => hQ1 c a _ _ w) f' b (ve r a) w (fun j oj hoj hne hun hno => hfr j oj hoj hne ?_ hno) hri (hy.of_same s1 s2) ⟨⟨w, hS⟩, rfl⟩ ?_
     ·have hjl : j < l.toArray.size := (Array.getElem?_eq_some_iff.1 hoj).1
      rw [J8 hjl];obtain ⟨y, hy, _, hy3⟩ := jW.1 ((hB.2 j hjl).1 hun);have : j ∈ (zG.rd i o :: r).map zG.idx := List.mem_map.2 ⟨y, hy, hy3⟩;rw [List.contains_iff_mem.2 this]; rfl
     ·rw [← Zc (d := o.dst) r a (fun y hy hf z hz => (Oper.apart_spec (hap y hy hf)).2.1 z hz)]
      have hr0 : r ≠ [] := fun e => by subst e; simp at hne0
      exact ih f' r L _ _ wc w (by simp at hN; omega) (by rw [jv] at hf; simpa [zG.open_] using hf) hc' hnd' hI.tail (hB.set hp) hM.tail hLw hL0 hl' hw (fun e => absurd e hr0) hk hS
    rw [Yf] at H
    split at H
    ·rename_i hwt
     obtain ⟨v, h1, h2⟩ := H;refine go v (.inl ⟨hwt, fun W hW => ?_⟩) h2;have q := h1 W hW;unfold Oper.quietAt at q;cases hrun : (execOp a.eval o).run P W with
     | halt x w1 => rw [hrun] at q; cases q
     | ok n w1 =>
      obtain ⟨u, rfl⟩ := Qp hrk hrun;rw [hrun] at q;obtain ⟨rfl, rfl⟩ := q;rfl
    ·rename_i hwt
     exact go undef (.inr ⟨by simpa using hwt, rfl⟩) H
   | tl i o =>
    obtain ⟨f', rfl⟩ : ∃ f', f = f' + 1 := ⟨(yd r).length, by rw [← hf, jv]; rfl⟩
    have hget' : l.toArray[i]? = some o := by rw [List.getElem?_toArray]; exact hI.get _ List.mem_cons_self
    have hch : Region.ready .any l.toArray (jg l.toArray.size (Zn (zG.tl i o :: r))) = [i] := by
     simp only [List.map_cons, chk, JQ, yy, Bool.and_eq_true, decide_eq_true_eq] at hc;rw [← V5];exact hc.1.2
    have hso := Region.noSelect_spec hsel
    have hp : ∀ k, k ∈ yd r ↔ k ∈ yd (zG.tl i o :: r) ∧ k ≠ i := fun k => by
     exact XaR
    have hsub : ∀ k, k ∈ Zn (zG.tl i o :: r) → k ∈ yd (zG.tl i o :: r) := fun k hk => by
     obtain ⟨y, hy, hy2, hy3⟩ := vr.1 hk;exact jW.2 ⟨y, hy, J3 hy2, hy3⟩
    refine ⟨fun h0 => ?_, fun j hj => ?_⟩
    ·exfalso
     by_cases hex : ∃ j o' e zs, zG.fl j o' e zs none ∈ (zG.tl i o :: r)
     ·obtain ⟨j, o', e, zs, hm⟩ := hex
      have := flr _ _ _ _ hm; rw [h0] at this; cases this
     ·have : i ∈ Region.ready .any l.toArray b := hB.of_arr (fun k hk => by
       obtain ⟨y, hy, hy2, hy3⟩ := jW.1 hk;cases y with
       | rd i' o' => exact vr.2 ⟨_, hy, rfl, hy3⟩
       | tl i' o' => exact vr.2 ⟨_, hy, rfl, hy3⟩
       | fl i' o' e zs st =>
        cases st with
        | none => exact absurd ⟨_, _, _, _, hy⟩ hex
        | some q => cases hy2) (jW.2 ⟨_, List.mem_cons_self, rfl, rfl⟩) (by rw [hch]; simp)
      rw [h0] at this; cases this
    ·by_cases hn : j ∈ Zn (zG.tl i o :: r)
     ·have h1 := hB.to_arr hsub hn hj
      rw [hch] at h1;obtain rfl : j = i := by simpa using h1
      rw [yM] at H
      have H1 : wpOp P l.toArray Q j (fun a' w' => (r ≠ [] → zB w (L ++ G) w') ∧ ∃ D : List Nat, (∀ d, d ∈ D → w.heap.size ≤ d ∧ d < w'.heap.size) ∧ qi P l.toArray w0 G Q (D ++ L) r a' w') a w := by
       have := H w hw;unfold wpOp;simp only [hget']
       split
       ·rename_i hwt; rw [if_pos hwt] at this; exact .inl this
       ·rename_i hwt; rw [if_neg hwt] at this; exact ⟨fun _ => zB.refl _ _, [], by simp, this⟩
      have H2 := Ze hget' (fun cs b => hso j o cs b hget') hQ2 r _ a w hap H1;refine wpOp_mono (fun a' w' h3 => ?_) H2;obtain ⟨a'', rfl, k1, D, hD, k2⟩ := h3
      by_cases hr0 : r = []
      ·subst hr0
       obtain rfl : f' = 0 := by rw [jv] at hf; simpa [zG.open_, yd] using hf.symm
       exact ⟨fun hne => absurd (hlx rfl) hne, Vv hc' (hB.set hp) rfl k2⟩
      ·have hb := k1 hr0
       have hS' : zB w0 G w' := ⟨Nat.le_trans hS.size hb.size, fun k hk hg => (hb.block k (Nat.lt_of_lt_of_le hk hS.size) (fun hm => by
        rcases List.mem_append.1 hm with hm | hm
        ·have := hL0 k hm; omega
        ·exact hg hm)).trans (hS.block k hk hg)⟩
       exact ⟨fun _ => ⟨⟨_, hS'⟩, rfl⟩, ih f' r (D ++ L) _ _ w' w' (by simp at hN; omega) (by rw [jv] at hf; simpa [zG.open_] using hf) hc' hnd' hI.tail (hB.set hp) ((hM.tail.move hG hb).more fun i o e zs b hm hd => by
        have := (hM.tail.at_ _ _ _ _ _ hm).1.lt;have := (hD b hd).1;omega) (fun q hq => by
        rcases List.mem_append.1 hq with hq | hq
        ·exact (hD q hq).2
        ·exact Nat.lt_of_lt_of_le (hLw q hq) hb.size) (fun q hq => by
        rcases List.mem_append.1 hq with hq | hq
        ·exact Nat.le_trans hS.size (hD q hq).1
        ·exact hL0 q hq) hl' (Below.refl _ _) (fun _ => rfl) k2 hS'⟩
     ·obtain ⟨o', e', zs', hm⟩ := inr j hj hn
      exact (made j o' e' zs' hm).2
   | fl i o e zs st =>
    cases st with
    | some q =>
     obtain ⟨a1, a2, a3⟩ := hM.at_ _ _ _ _ _ List.mem_cons_self
     have hM' : Vj w0 (q :: L) r w := ⟨fun i' o' e' zs' b' hm => by
      obtain ⟨c1, c2, c3⟩ := hM.at_ _ _ _ _ _ (List.mem_cons_of_mem _ hm);refine ⟨c1, c2, fun hq => ?_⟩;rcases List.mem_cons.1 hq with e | hq
      ·exact hM.two _ _ _ _ _ _ _ _ _ _ (List.mem_cons_of_mem _ hm) List.mem_cons_self (fun e' => hni (List.mem_map.2 ⟨_, hm, by rw [← e']; rfl⟩)) e
      ·exact c3 hq, hM.tail.two⟩
     have hB' : Jr l.toArray b r := ⟨hB.1, fun i' hi' => by rw [hB.2 i' hi', jv]; simp [zG.open_]⟩
     rw [Yg] at H
     exact ih f r (q :: L) b (a.put o.dst (.pointer (some ⟨q, 0, none⟩))) w w (by simp at hN; omega) (by rw [← hf, jv]; rfl) hc' hnd' hI.tail hB' hM' (fun k hk => by
      rcases List.mem_cons.1 hk with rfl | hk
      ·exact a1.lt
      ·exact hLw k hk) (fun k hk => by
      rcases List.mem_cons.1 hk with rfl | hk
      ·exact a2
      ·exact hL0 k hk) hl' (Below.refl _ _) (fun _ => rfl) (H w q hw a1 a2 a3) hS
    | none =>
     obtain ⟨hf1, _⟩ := made _ _ _ _ List.mem_cons_self;obtain ⟨f', rfl⟩ : ∃ f', f = f' + 1 := ⟨f - 1, by omega⟩
     refine ⟨fun h0 => ?_, fun j hj => ?_⟩
     ·have := flr _ _ _ _ List.mem_cons_self; rw [h0] at this; cases this
     ·by_cases hn : j ∈ Zn (zG.fl i o e zs none :: r)
      ·exfalso
       have hn' : j ∈ Zn r := hn
       have h1 : j ∈ Region.ready .any l.toArray (jg l.toArray.size (i :: Zn r)) := hB.to_arr (fun k hk => by
        rcases List.mem_cons.1 hk with rfl | hk
        ·exact jW.2 ⟨_, List.mem_cons_self, rfl, rfl⟩
        ·obtain ⟨y, hy, hy2, hy3⟩ := vr.1 hk
         exact jW.2 ⟨y, List.mem_cons_of_mem _ hy, J3 hy2, hy3⟩) (List.mem_cons_of_mem _ hn') hj
       have h2 : (Region.ready .any l.toArray (jg l.toArray.size (i :: Zn r))).all (· == i) = true := by
        simp only [List.map_cons, chk, JQ, yy, Bool.and_eq_true, V5] at hc;exact hc.1.2.1.1
       have h3 : j = i := by simpa using List.all_eq_true.1 h2 j h1
       obtain ⟨y, hy, hy2, hy3⟩ := vr.1 hn';exact hni (List.mem_map.2 ⟨y, hy, by rw [hy3, h3]; rfl⟩)
      ·obtain ⟨o', e', zs', hm⟩ := inr j hj hn
       exact (made j o' e' zs' hm).2
def zbc (ops : Array Oper) (r : List zG) : Bool := Region.noSelect ops && chk ops r && zcv ops ((r.map zG.idx).getLast?.getD 0) && decide (r.map zG.idx).Nodup && decide (r.length = ops.size) && (List.range ops.size).all (fun i => (r.map zG.idx).contains i) && r.all (fun x => x.open_) && !r.isEmpty
theorem zfd {x : zG} (h : x.open_ = true) : yy x = x := by
 cases x with
 | rd => rfl
 | tl => rfl
 | fl i o e zs st => cases st with
  | none => rfl
  | some b => cases h
theorem Qz : ∀ (r : List zG) (a : Act), (∀ x, x ∈ r → x.open_ = true) → ve r a = a
 | [], a, _ => rfl
 | .rd i o :: r, a, h => Qz r a fun x hx => h x (List.mem_cons_of_mem _ hx)
 | .tl i o :: r, a, h => Qz r a fun x hx => h x (List.mem_cons_of_mem _ hx)
 | .fl i o e zs none :: r, a, h => Qz r a fun x hx => h x (List.mem_cons_of_mem _ hx)
 | .fl i o e zs (some b) :: r, a, h => by have := h _ List.mem_cons_self; cases this
theorem Zd {a : Act} {w : World} {l : List Oper} {r : List zG} (G : List Nat) (hI : yX P l r) (hB : zbc l.toArray r = true) (hQ1 : ∀ c a d v w, Q (.panic c) (a.put d v) w → Q (.panic c) a w) (hQ2 : ∀ c a d v w, Q (.panic c) a w → Q (.panic c) (a.put d v) w) (hG : ∀ g, g ∈ G → g < w.heap.size)
  (h : qi P l.toArray w G Q [] r a w.drew) : wpAny P .any l.toArray Q l.toArray.size (Array.replicate l.toArray.size false) a w.drew := by
 simp only [zbc, Bool.and_eq_true, decide_eq_true_eq] at hB;obtain ⟨⟨⟨⟨⟨⟨⟨hsel, hc⟩, hz⟩, hnd⟩, hlen⟩, hall⟩, hop⟩, hne⟩ := hB;have hopen : ∀ x, x ∈ r → x.open_ = true := fun x hx => List.all_eq_true.1 hop x hx
 have hsh : r.map yy = r := by
  have := List.map_congr_left (f := yy) (g := id) (l := r) fun x hx => zfd (hopen x hx);rw [this]; simp
 have hpend : yd r = r.map zG.idx := by
  unfold yd;rw [List.filter_eq_self.2 hopen]
 have hrne : r ≠ [] := by intro e; subst e; simp at hne
 obtain ⟨z, hze⟩ : ∃ z, (r.map zG.idx).getLast? = some z := by
  cases e : (r.map zG.idx).getLast? with
  | none => rw [List.getLast?_eq_none_iff] at e; exact absurd (List.map_eq_nil_iff.1 e) hrne
  | some z => exact ⟨z, rfl⟩
 rw [hze] at hz
 have hF : Jr l.toArray (Array.replicate l.toArray.size false) r := by
  refine ⟨by simp, fun i hi => ?_⟩;have h1 : (Array.replicate l.toArray.size false).getD i true = false := by simp [show i < l.length by simpa using hi]
  have h2 : i ∈ yd r := by
   rw [hpend];have := List.all_eq_true.1 hall i (List.mem_range.2 hi);exact List.contains_iff_mem.1 this
  simp only [h1, h2]
 have := zkk (P := P) (Q := Q) (w0 := w) (G := G) (z := z) (l := l) hz hsel hQ1 hQ2 hG _ (yd r).length r [] (Array.replicate l.toArray.size false) a w.drew w.drew (Nat.le_refl _) rfl (by rw [hsh]; exact hc) hnd hI hF
  ⟨fun i o e zs b hm => (by have := hopen _ hm; cases this), fun i o e zs b i' o' e' zs' b' hm => (by have := hopen _ hm; cases this)⟩ (fun q hq => by cases hq) (fun q hq => by cases hq) (.inr hze) (Below.refl _ _) (fun _ => rfl) h ((zB.refl w G).drew)
 rw [Qz r a hopen, hpend, List.length_map, hlen] at this;exact Jp _ _ _ _ this
theorem zH {id : Nat} {a : Act} {w : World} {l : List Oper} {r : List zG} (G : List Nat) (hI : yX P l r) (hm : P.follows .mixedOrders = true) (hB : zbc l.toArray r = true) (hQ1 : ∀ c a d v w, Q (.panic c) (a.put d v) w → Q (.panic c) a w) (hQ2 : ∀ c a d v w, Q (.panic c) a w → Q (.panic c) (a.put d v) w) (hG : ∀ g, g ∈ G → g < w.heap.size)
  (h : qi P l.toArray w G Q [] r a w.drew) : (Code.region id l.toArray true).wp P Q a w :=
 wp_region_any hm (Zd G hI hB hQ1 hQ2 hG h)
theorem zf {w0 : World} {G L : List Nat} {i : Nat} {o : Oper} {r : List zG} {a : Act} {w : World} (h : wpQuiet P ops (fun w' => ∃ x : But w0 G, w' = x.w) (fun a' => qi P ops w0 G Q L r a' w) [o] a) : qi P ops w0 G Q L (.rd i o :: r) a w := h
theorem zm {w0 : World} {G L : List Nat} {i : Nat} {o : Oper} {r : List zG} {a : Act} {w : World} (hg : o.guard = none) (h : ∀ w1, Below w.heap.size w w1 → ∀ K : Act → World → Prop, (∀ a' w', zB w1 (L ++ G) w' → qi P ops w0 G Q L r a' w' → K a' w') → o.wp P a w1 K Q) : qi P ops w0 G Q L (.tl i o :: r) a w := by
 rw [yM];intro w1 hw1;rw [if_pos (by simp [Region.wanted, hg])];exact h w1 hw1 _ fun a' w' h1 h2 => ⟨fun _ => h1, [], by simp, h2⟩
theorem zbS {w0 : World} {G L : List Nat} {i : Nat} {o : Oper} {r : List zG} {a : Act} {w : World} (hg : o.guard = none) (h : ∀ w1, Below w.heap.size w w1 → ∀ K : Act → World → Prop, (∀ a' w' D, zB w1 (L ++ G) w' → (∀ d, d ∈ D → w1.heap.size ≤ d ∧ d < w'.heap.size) → qi P ops w0 G Q (D ++ L) r a' w' → K a' w') → o.wp P a w1 K Q) : qi P ops w0 G Q L (.tl i o :: r) a w := by
 rw [yM];intro w1 hw1;rw [if_pos (by simp [Region.wanted, hg])];exact h w1 hw1 _ fun a' w' D h1 hD h2 => ⟨fun _ => h1, D, hD, h2⟩
theorem zJ {w0 : World} {G L : List Nat} {i : Nat} {o : Oper} {a : Act} {w : World} (hg : o.guard = none) (h : ∀ w1, Below w.heap.size w w1 → ∀ K : Act → World → Prop, (∀ a' w', Q .normal a' w' → K a' w') → o.wp P a w1 K Q) : qi P ops w0 G Q L [.tl i o] a w := by
 rw [yM];intro w1 hw1;rw [if_pos (by simp [Region.wanted, hg])];exact h w1 hw1 _ fun a' w' h2 => ⟨fun h => absurd rfl h, [], by simp, h2⟩
theorem zP {w0 : World} {G L : List Nat} {i : Nat} {o : Oper} {e : TypeId} {zs : Array Value} {st : Option Nat} {r : List zG} {a : Act} {w : World} (h : ∀ w1 b, Below w.heap.size w w1 → At w1 b e zs → w0.heap.size ≤ b → b ∉ L → qi P ops w0 G Q (b :: L) r (a.put o.dst (.pointer (some ⟨b, 0, none⟩))) w1) : qi P ops w0 G Q L (.fl i o e zs st :: r) a w := h
end
theorem JS (w : World) : (Instr.alloc 65 true (.tuple #[])).run Tryz.prog w = .ok (.pointer (some ⟨w.heap.size, 0, none⟩)) (w.alloc (.cells #[.int .i64 0, .int .i64 0, .slice none 0 0] 65)) := by
 have hu := Tryz.underlying65;simp [Instr.alloc, go_sem, hu]
end
end Go.Proofs.YtcoiklclbljjeaaGreatDoor.L
