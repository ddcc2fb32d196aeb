/- Lemmas of the card's proof. -/
import Derived.Test.YtcoiklclbljjeaaGreatDoorM19
set_option linter.unusedVariables false
set_option linter.unusedSimpArgs false
set_option maxRecDepth 100000
set_option maxHeartbeats 16000000
namespace Go.Proofs.YtcoiklclbljjeaaGreatDoor.L
open Go.RowKit
theorem zjW : (Tryz.prog.info? 63).map (fun i => (i.zero, i.size, i.bytes)) = some (some (.slice none 0 0), 1, 24) := by kernel_rfl
theorem jt {F : Fence} {n : Nat} {P : Program} {ops : Array Oper} {rest : List Oper} {o : Oper} {a : Act} {Q : Exit → Act → World → Prop} {w : World} (hF : zau F) (hd : qP o = true) (hg : o.guard = none) (h : ∀ K : Act → World → Prop, (∀ a' w', wpListIn F n P ops Q rest a' w' → K a' w') → o.wp P a w K Q) : wpListIn F n P ops Q (o :: rest) a w := by
 unfold wpListIn;rw [if_pos (by simp [Region.wanted, hg])];exact hF.op hd (h _ fun _ _ h => h)
theorem zbT {F : Fence} {n : Nat} {ops : Array Oper} {rest : List Oper} {a : Act} {Q : Exit → Act → World → Prop} {w : World} {dst : Option Tmp} {pos : String} {aft : Array Edge} {d s : Operand} (hF : zau F)
  {g B k cap b m dcap : Nat} {A : Option Addr} {c : Nat} {xs ys : List Num} (hd : a.eval d = .slice (some ⟨g, b * 4, none⟩) m dcap) (hs : a.eval s = .slice A m c) (hrow : zF w B (.slice (some ⟨g, 0, none⟩) k cap) xs) (hsrc : zk w A m c ys) (hfit : b + m ≤ k)
  (h : ∀ w', z7 g w w' → zF w' B (.slice (some ⟨g, 0, none⟩) k cap) (xs.take b ++ ys ++ xs.drop (b + m)) → wpListIn F n Tryz.prog ops Q rest (a.put dst (goInt m)) w') :
  wpListIn F n Tryz.prog ops Q ({ dst := dst, op := .call { callee := .builtin .copy, args := #[d, s], argTypes := #[63, 63] }, type := 3, pos := pos, after := aft, guard := none } :: rest) a w :=
 jt hF rfl rfl (fun K hK => VR d s rfl rfl hd hs hrow hsrc hfit (fun w' h1 h2 => hK _ _ (h w' h1 h2)))
theorem zaH {o : Oper} {a : Act} {K : Act → World → Prop} {Q : Exit → Act → World → Prop} {w : World} (s x : Operand)
  (ho : o.op = .call { callee := .builtin .append, args := #[s, x], argTypes := #[131, 131] }) (B : Nat) (v : Value) (cs : List Value) (y : Value) (g : Nat) (hs : a.eval s = v) (hown : w.ownsRow B 63 1 v cs.length cs)
  (hx : a.eval x = .slice (some ⟨g, 0, none⟩) 1 1) (hy : At w g 63 #[y]) (hy1 : y.oneCell' = true) (hl : cs.length ≤ 1000) (hB : B ≤ w.heap.size)
  (h : ∀ v' w', w'.ownsRow B 63 1 v' (cs.length + 1) (cs ++ [y]) → w.grownBy w' v.ownBlock → (v'.ownBlock = v.ownBlock ∨ v'.ownBlock = some w.heap.size) → K (a.put o.dst v') w') : o.wp Tryz.prog a w K Q := by
 obtain ⟨i0, hi, hz0, hz1, hz2⟩ := info_parts zjW
 obtain ⟨v', w', hr, h2, h3, _, hat⟩ := run_append_own_at (P := Tryz.prog) w B 131 o.type 63 i0 _ 1 24 Tryz.underlying131 hi hz0 hz1 hz2 rfl (by decide) v cs.length cs hown ⟨g, 0, none⟩ 1 1 [y] rfl
  (fun j u hj => by
   rw [zj6]
   match j, hj with
   | 0, hj => simp at hj; subst hj; exact hy.cell 0
   | j + 1, hj => simp at hj) (fun u hu => by simp at hu; subst hu; exact hy1) (by unfold maxLen; omega) (by omega) hB
 unfold Oper.wp execOp;simp only [ho, resolve, invoke, builtin, Sem.run_bind, Sem.run_pure, Result.andThen_ok, List.map_toArray, List.map_cons, List.map_nil, hs, hx, hr];exact h v' w' h2 h3 hat
theorem zhS {W W' : World} {row : Option Nat} {B e z n : Nat} {v : Value} {xs : List Value} (h : W.ownsRow B e z v n xs) (hg : W.grownBy W' row) (hr : ∀ r, row = some r → ∃ o : Obj, W.heap[r]? = some o ∧ o.isCells = false) : W'.ownsRow B e z v n xs := by
 exact XaV
theorem zT.grown' {W W' : World} {row : Option Nat} {B : Nat} {v : Value} {R : List Row} {k : Nat} (h : zT W B v R k) (hg : W.grownBy W' row) (hr : ∀ r, row = some r → ∃ o : Obj, W.heap[r]? = some o ∧ o.isCells = false) : zT W' B v R k :=
 ⟨zhS h.box hg hr, fun r hm => jL (h.rows r hm) hg hr, h.apart⟩
structure zbM (S : Nat → Prop) (W0 : World) (h : Nat) (R : List Row) (v : Value) (W : World) : Prop where
 box : At W h 131 #[v]
 tab : zT W W0.heap.size v R 0
 kb : KB S W0 W
theorem zbM.grown {S : Nat → Prop} {W0 W W' : World} {h : Nat} {R : List Row} {v : Value} {row : Option Nat} (t : zbM S W0 h R v W) (hS : ∀ k, S k → k < W0.heap.size) (hgr : W.grownBy W' row) (hr : ∀ r, row = some r → W0.heap.size ≤ r ∧ ∃ o : Obj, W.heap[r]? = some o ∧ o.isCells = false) : zbM S W0 h R v W' :=
 ⟨qx t.box hgr (fun r e => (hr r e).2), t.tab.grown' hgr (fun r e => (hr r e).2), QZ t.kb hS (Nat.le_refl _) hgr (fun r e => (hr r e).1)⟩
theorem zbM.below {S : Nat → Prop} {W0 W W' : World} {h : Nat} {R : List Row} {v : Value} (t : zbM S W0 h R v W) (hS : ∀ k, S k → k < W0.heap.size) (hb : Below W.heap.size W W') : zbM S W0 h R v W' :=
 ⟨t.box.below hb, t.tab.below hb, t.kb.call hS hb⟩
theorem zT.nil (W : World) (B : Nat) : zT W B (.slice none 0 0) [] 0 := ⟨World.ownsRow_nil _ _ _ _, (fun r hr => by cases hr), List.nodup_nil⟩
theorem zT.len {W : World} {B n c k : Nat} {A : Option Addr} {R : List Row} (h : zT W B (.slice A n c) R k) : n = R.length + k := by
 rcases h.box.2 with ⟨e, e2⟩ | ⟨g, cap, cur, e, _⟩
 ·have e1 : n = 0 := by simpa using (Value.slice.inj e).2.1
  omega
 ·exact (Value.slice.inj e).2.1
theorem zbM.app {S : Nat → Prop} {W0 W W4 : World} {h q n c B' : Nat} {R : List Row} {v v' : Value} {xs : List Num} {o : Obj} (t : zbM S W0 h R v W) (hS : ∀ k, S k → k < W0.heap.size) (hh : ¬ S h) (hhl : h < W0.heap.size)
  (hx : zF W B' (.slice (some ⟨q, 0, none⟩) n c) xs) (hq : W0.heap.size ≤ q) (hqr : ∀ r, r ∈ R → r.g ≠ q) (hqv : v.ownBlock ≠ some q)
  (hown : W4.ownsRow W0.heap.size 63 1 v' (R.length + 1) (R.map Row.v ++ [.slice (some ⟨q, 0, none⟩) n c])) (hgr : (W.alloc o).grownBy W4 v.ownBlock) (hat : v'.ownBlock = v.ownBlock ∨ v'.ownBlock = some (W.alloc o).heap.size) :
  zbM S W0 h (R ++ [⟨q, c, xs⟩]) v' (W4.setCell ⟨h, 0, none⟩ v') := by
 have hn : n = xs.length := zL hx;subst hn;have hbox := t.tab.box;have hvb : ∀ k, v.ownBlock = some k → W0.heap.size ≤ k ∧ k < W.heap.size := fun k e => World.ownsRow.lt hbox k e;have hlt := fun k e => World.ownsRow.lt hown k e;have hqW : q < W.heap.size := (World.ownsRow.lt hx q rfl).2;have hWW : W.heap.size ≤ W4.heap.size := by have := hgr.size; simp at this; omega
 have keep : ∀ k, k < W.heap.size → v.ownBlock ≠ some k → k ≠ h → (W4.setCell ⟨h, 0, none⟩ v').heap[k]? = W.heap[k]? := fun k hk hne hkh => by
  rw [qy hkh];exact (hgr.block k (by simp; omega) (fun e => hne e.symm)).trans (Below.heap_alloc W o k hk)
 have hrow : ∀ k, v.ownBlock = some k → ¬ S k := fun k e hk => by have := (hvb k e).1; have := hS k hk; omega
 refine ⟨?_, ⟨?_, ?_, ?_⟩, ?_⟩
 ·have h1 : At W4 h 131 #[v] := (hgr.block h (by have := t.kb.size; simp; omega) (fun e => by have := (hvb h e.symm).1; omega)).trans (t.box.alloc o)
  exact h1.set 0 v' rfl
 ·rw [List.length_append, List.length_singleton, Nat.add_zero, List.map_append, List.replicate_zero, List.append_nil]
  exact Jz hown (fun k e => qy (fun e' => by have := (hlt k e).1; omega))
 ·intro r hr
  rcases List.mem_append.1 hr with hr | hr
  ·have hl := vq (t.tab.rows r hr)
   exact ym (t.tab.rows r hr) (fun k e => by cases e; exact keep r.g hl.2 (fun e => zdA hbox (t.tab.rows r hr) e) (by omega))
  ·rw [List.mem_singleton] at hr
   subst hr
   have h1 : zF W W0.heap.size (.slice (some ⟨q, 0, none⟩) xs.length c) xs := by
    refine ⟨hx.1, ?_⟩;rcases hx.2 with h0 | ⟨g, cap, cur, e, hg, r⟩
    ·exact .inl h0
    ·exact .inr ⟨g, cap, cur, e, by cases e; exact hq, r⟩
   exact ym (v := .slice (some ⟨q, 0, none⟩) xs.length c) h1 (fun k e => by cases e; exact keep q hqW hqv (by omega))
 ·rw [List.map_append]
  exact List.nodup_append.2 ⟨t.tab.apart, by simp, fun a ha b hb => by
   obtain ⟨r, hr, rfl⟩ := List.mem_map.1 ha;simp at hb;rw [hb]; exact hqr r hr⟩
 ·exact ((t.kb.call hS ((Below.refl _ _).alloc (Nat.le_refl _) o)).grown hS hgr hrow).set hh _ _
theorem Je {B N e z n : Nat} {W W' : World} {v : Value} {xs : List Value} (h : W.ownsRow N e z v n xs) (hg : W.grownBy W' v.ownBlock) : KeepsFrom B W W' :=
 ⟨hg.size, fun k o _ ho hc => (hg.block k (Array.getElem?_eq_some_iff.1 ho).1 (fun e => by
  rcases h.2 with ⟨rfl, _⟩ | ⟨g, cap, cur, rfl, _, hgb, _⟩
  ·simp [Value.ownBlock] at e
  ·obtain rfl : g = k := by simpa [Value.ownBlock] using e.symm
   rw [hgb] at ho; cases ho; cases hc)).trans ho⟩
theorem Off.kb {G : List Nat} {lo hi N : Nat} {p : World → Prop} {S : Nat → Prop} {V W : World} (h : Off G lo hi N p V) (k : KB S V W) (hS : ∀ q, q < N → q < lo ∨ hi ≤ q → q ∉ G → S q) : Off G lo hi N p W :=
 h.sim ⟨k.os, k.tape, k.output, k.size, fun q h1 h2 h3 => k.block q (hS q h1 h2 h3)⟩
theorem zK.kb {S : Nat → Prop} {V W : World} {g : Nat} {l : List (TypeId × Array Value)} (h : zK V g l) (k : KB S V W) (hS : ∀ q, g ≤ q → q < g + l.length → S q) : zK W g l := h.mono fun q _ _ h1 h2 a => (k.block q (hS q h1 h2)).trans a
theorem zfX {G : List Nat} {lo hi : Nat} {D : Nat} {o : Obj} {W : World} (h : W.heap[D]? = some o) (hD : hi ≤ D) (hG : D ∉ G) : ∀ X, Sim G lo hi W.heap.size W X → X.heap[D]? = some o := fun X hX => (hX.block D (Array.getElem?_eq_some_iff.1 h).1 (.inr hD) hG).trans h
section
structure qX (G : List Nat) (p : World → Prop) (W : World) : Prop where
 low : ∀ q, q ∈ G → q < W.heap.size
 all : ∀ W', zE G W W' → p W'
section
variable {G H : List Nat} {p q : World → Prop} {W W' w : World} {S : Nat → Prop}
theorem qX.out (h : qX G p W) : p W := h.all W (zE.refl _ _)
theorem qX.touch (h : qX G p W) (k : zE G W W') : qX G p W' := ⟨fun q hq => Nat.lt_of_lt_of_le (h.low q hq) k.size, fun X hX => h.all X (k.trans hX)⟩
theorem qX.call (h : qX G p W) (k : Below W.heap.size W W') : qX G p W' := h.touch (zE.of_below k)
theorem qX.alloc (h : qX G p W) (o : Obj) : qX G p (W.alloc o) := h.call ((Below.refl _ _).alloc (Nat.le_refl _) o)
theorem qX.drew (h : qX G p W) : qX G p W.drew := h.touch ⟨rfl, rfl, rfl, Nat.le_refl _, fun _ _ _ => rfl⟩
theorem qX.only (h : qX G p W) {g : Nat} (k : z7 g W W') (hg : g ∈ G) : qX G p W' := h.touch (k.touch hg)
theorem qX.plus (h : qX G p W) (k : ∀ X, zE G W X → q X) : qX G (fun X => p X ∧ q X) W := ⟨h.low, fun X hX => ⟨h.all X hX, k X hX⟩⟩
theorem qX.sub (h : qX G p W) {f : World → Prop} (k : ∀ X, p X → f X) : qX G f W := ⟨h.low, fun X hX => k X (h.all X hX)⟩
theorem qX.grow (h : qX G p W) (t : zE G W W') (hH : ∀ q, q ∈ H → q ∈ G ∨ W.heap.size ≤ q) (hl : ∀ q, q ∈ H → q < W'.heap.size) (hG : ∀ q, q ∈ G → q ∈ H) : qX H p W' :=
 ⟨hl, fun X hX => h.all X ⟨hX.os.trans t.os, hX.tape.trans t.tape, hX.output.trans t.output, Nat.le_trans t.size hX.size, fun k hk hn => (hX.block k (Nat.lt_of_lt_of_le hk t.size) (fun hq => by rcases hH k hq with h1 | h1; exact hn h1; omega)).trans (t.block k hk hn)⟩⟩
theorem qX.mk0 (hl : ∀ q, q ∈ G → q < W.heap.size) (k : ∀ X, zE G W X → q X) : qX G q W := ⟨hl, k⟩
theorem zE.of_kb (k : KB S W W') (hS : ∀ q, q < W.heap.size → q ∉ G → S q) : zE G W W' := ⟨k.os, k.tape, k.output, k.size, fun q h1 h2 => k.block q (hS q h1 h2)⟩
theorem qX.kb (h : qX G p W) (k : KB S W W') (hS : ∀ q, q < W.heap.size → q ∉ G → S q) : qX G p W' := h.touch (zE.of_kb k hS)
theorem zk.kp {A : Option Addr} {n c : Nat} {xs : List Num} (h : zk W A n c xs) (hf : ∀ b o, A = some ⟨b, o, none⟩ → 0 < n → b ∉ G) : ∀ X, zE G W X → zk X A n c xs :=
 fun X hX => ⟨h.1, h.2.1, fun hn => by
  obtain ⟨b, o, e, hc⟩ := h.2.2 hn;have hb := hX.block b (h.low b o e hn) (hf b o e hn);exact ⟨b, o, e, fun k x hk => by simp only [j4 hb]; exact hc k x hk⟩⟩
theorem zW.kp {A : Option Addr} {n c : Nat} {xs : List Int} (h : zW W A n c xs) (hf : ∀ b o, A = some ⟨b, o, none⟩ → 0 < n → b ∉ G) : ∀ X, zE G W X → zW X A n c xs :=
 fun X hX => ⟨h.1, h.2.1, fun hn => by
  obtain ⟨b, o, e, hc⟩ := h.2.2 hn;have hb := hX.block b (h.low b o e hn) (hf b o e hn);exact ⟨b, o, e, fun k x hk => by simp only [j4 hb]; exact hc k x hk⟩⟩
theorem At.kp {g : Nat} {t : TypeId} {cs : Array Value} (h : At W g t cs) (hG : g ∉ G) : ∀ X, zE G W X → At X g t cs := fun X hX => (hX.block g h.lt hG).trans h
theorem zK.kp {g : Nat} {l : List (TypeId × Array Value)} (h : zK W g l) (hG : ∀ q, g ≤ q → q < g + l.length → q ∉ G) : ∀ X, zE G W X → zK X g l := fun X hX => h.mono fun k t cs h1 h2 a => (hX.block k a.lt (hG k h1 h2)).trans a
theorem zhW {D : Nat} {o : Obj} (h : W.heap[D]? = some o) (hG : D ∉ G) : ∀ X, zE G W X → X.heap[D]? = some o := fun X hX => (hX.block D (Array.getElem?_eq_some_iff.1 h).1 hG).trans h
theorem Below.kp {B : Nat} (h : Below B w W) (hB : B ≤ W.heap.size) (hG : ∀ q, q ∈ G → B ≤ q) : ∀ X, zE G W X → Below B w X :=
 fun X hX => h.trans ⟨hX.os, hX.tape, hX.output, hX.size, fun k hk => hX.block k (by omega) (fun hq => by have := hG k hq; omega)⟩
theorem qX.addB (h : qX G p W) (t : Below W.heap.size W W') (hb : W.heap.size < W'.heap.size) : qX (W.heap.size :: G) p W' :=
 h.grow (zE.of_below t) (fun q hq => by rcases List.mem_cons.1 hq with e | e; exact .inr (Nat.le_of_eq e.symm); exact .inl e) (fun q hq => by rcases List.mem_cons.1 hq with e | e; rw [e]; exact hb; exact Nat.lt_of_lt_of_le (h.low q e) t.size) (fun q hq => List.mem_cons_of_mem _ hq)
theorem qX.addL (h : qX G p W) (t : zE G W W') {L : List Nat} (hL : ∀ q, q ∈ L → W.heap.size ≤ q ∧ q < W'.heap.size) : qX (L ++ G) p W' :=
 h.grow t (fun q hq => by rcases List.mem_append.1 hq with e | e; exact .inr (hL q e).1; exact .inl e) (fun q hq => by rcases List.mem_append.1 hq with e | e; exact (hL q e).2; exact Nat.lt_of_lt_of_le (h.low q e) t.size) (fun q hq => List.mem_append_right _ hq)
theorem qX.addF (h : qX G p w) (t : zE G w W) {b : Nat} (hb : w.heap.size ≤ b) (hb2 : b < W.heap.size) : qX (b :: G) p W :=
 h.grow t (fun q hq => by rcases List.mem_cons.1 hq with e | e; exact .inr (by rw [e]; exact hb); exact .inl e) (fun q hq => by rcases List.mem_cons.1 hq with e | e; rw [e]; exact hb2; exact Nat.lt_of_lt_of_le (h.low q e) t.size) (fun q hq => List.mem_cons_of_mem _ hq)
theorem zk.num {g n c : Nat} {xs : List Num} (h : zk W (some ⟨g, 0, none⟩) n c xs) {j : Nat} {x : Num} (hx : xs[j]? = some x) :
  W.cell? ⟨g, j * 4, none⟩ = some (.int .i64 x.v) ∧ W.cell? ⟨g, j * 4 + 1, none⟩ = some (.int .i64 x.l) ∧ W.cell? ⟨g, j * 4 + 2, none⟩ = some (.int .i64 x.h) ∧ W.cell? ⟨g, j * 4 + 3, none⟩ = some (.bool x.bad) := by
 obtain ⟨b, o, e, hc⟩ := h.2.2 (by have := (List.getElem?_eq_some_iff.1 hx).1; have := h.1; omega);cases e;have := hc j x hx
 simpa using this
def YN (Q : Exit → Act → World → Prop) : Exit → Act → World → Prop
 | .panic _, _, _ => False
 | .normal, a, w => Q .normal a w
 | x, a, w => Q x a w
theorem zd6 {Q : Exit → Act → World → Prop} : ∀ x a w, YN Q x a w → Q x a w := fun x a w h => by cases x <;> first | exact h | exact h.elim
theorem Yv {F : Fence} {n : Nat} {P : Program} {id : Nat} {Q : Exit → Act → World → Prop} {a : Act} {w : World} {l : List Oper} (hF : F = Fence.wide) (hm : P.follows .mixedOrders = true) (h : wpAny P .any l.toArray (YN Q) l.toArray.size (Array.replicate l.toArray.size false) a w.drew) : (Code.region id l.toArray true).wpIn F n P Q a w := by
 subst hF; exact wpIn_mono (QY hm h) zd6
theorem zE.newO (h : zE G w W) {b : Nat} (k : z7 b W W') (hb : w.heap.size ≤ b) : zE G w W' :=
 ⟨k.os.trans h.os, k.tape.trans h.tape, k.output.trans h.output, by rw [k.size]; exact h.size, fun q hq hn => (k.block q (by omega)).trans (h.block q hq hn)⟩
theorem qX.fresh (h : qX G p W) {b : Nat} (hb : W.heap.size ≤ b) : b ∉ G := fun hq => by have := h.low b hq; omega
theorem qX.gotN (h : qX G p W) (b : Below W.heap.size W W') {A : Option Addr} {n c : Nat} {xs : List Num} (a : zk W' A n c xs) (hf : ∀ q o, A = some ⟨q, o, none⟩ → W.heap.size ≤ q) : qX G (fun X => p X ∧ zk X A n c xs) W' := (h.call b).plus (a.kp fun q o e _ => h.fresh (hf q o e))
theorem qX.gotI (h : qX G p W) (b : Below W.heap.size W W') {A : Option Addr} {n c : Nat} {xs : List Int} (a : zW W' A n c xs) (hf : ∀ q o, A = some ⟨q, o, none⟩ → W.heap.size ≤ q) : qX G (fun X => p X ∧ zW X A n c xs) W' := (h.call b).plus (a.kp fun q o e _ => h.fresh (hf q o e))
theorem qX.gotO (h : qX G p W) (b : Below W.heap.size W W') {A : Option Addr} {n c : Nat} {xs : List Num} (a : zF W' W.heap.size (.slice A n c) xs) : qX G (fun X => p X ∧ zk X A n c xs) W' := h.gotN b a.nums (zU a)
theorem qX.gotB (h : qX G p W) (b : Below W.heap.size W W') {l : List (TypeId × Array Value)} (a : zK W' W.heap.size l) : qX G (fun X => p X ∧ zK X W.heap.size l) W' := (h.call b).plus (a.kp fun q h1 _ => h.fresh h1)
end
theorem At.kb_ {S : Nat → Prop} {g : Nat} {t : TypeId} {cs : Array Value} {W W' : World} (a : At W g t cs) (h : KB S W W') (hg : S g) : At W' g t cs := (h.block g hg).trans a
theorem z7.table {g B k : Nat} {v : Value} {R : List Row} {W W' : World} (h : z7 g W W') (t : zT W B v R k) (hv : v.ownBlock ≠ some g) (hr : ∀ r, r ∈ R → r.g ≠ g) : zT W' B v R k :=
 t.same (fun q e => h.block q (fun e' => hv (by rw [e, e']))) (fun r hm => h.block r.g (hr r hm))
theorem KB.table {S : Nat → Prop} {B k : Nat} {v : Value} {R : List Row} {W W' : World} (h : KB S W W') (t : zT W B v R k) (hv : ∀ q, v.ownBlock = some q → S q) (hr : ∀ r, r ∈ R → S r.g) : zT W' B v R k :=
 t.same (fun q e => h.block q (hv q e)) (fun r hm => h.block r.g (hr r hm))
theorem zE.table {G : List Nat} {B k : Nat} {v : Value} {R : List Row} {W W' : World} (h : zE G W W') (t : zT W B v R k) (hv : ∀ q, v.ownBlock = some q → q ∉ G) (hr : ∀ r, r ∈ R → r.g ∉ G) : zT W' B v R k :=
 t.same (fun q e => h.block q (World.ownsRow.lt t.box q e).2 (hv q e)) (fun r hm => h.block r.g (vq (t.rows r hm)).2 (hr r hm))
theorem zE.own {G : List Nat} {B : Nat} {v : Value} {xs : List Num} {W W' : World} (h : zE G W W') (t : zF W B v xs) (hv : ∀ q, v.ownBlock = some q → q ∉ G) : zF W' B v xs := ym t (fun q e => h.block q (World.ownsRow.lt t q e).2 (hv q e))
theorem zE.at_ {G : List Nat} {g : Nat} {t : TypeId} {cs : Array Value} {W W' : World} (h : zE G W W') (a : At W g t cs) (hg : g ∉ G) : At W' g t cs := (h.block g a.lt hg).trans a
end
def qw (w : World) (A : Option Addr) (n c : Nat) (xs : List Int) : Prop :=
 xs.length = n ∧ n ≤ c ∧ (0 < n → ∃ b o, A = some ⟨b, o, none⟩ ∧ ∀ k x, xs[k]? = some x → w.cell? ⟨b, o + k, none⟩ = some (.int .u8 x))
def IsB (xs : List Int) : Prop := ∀ x ∈ xs, 0 ≤ x ∧ x < 256
theorem qw.keep {w w' : World} {A : Option Addr} {n c : Nat} {xs : List Int} (h : qw w A n c xs) (hk : ∀ (b i : Nat) v, w.cell? ⟨b, i, none⟩ = some v → w'.cell? ⟨b, i, none⟩ = some v) : qw w' A n c xs :=
 ⟨h.1, h.2.1, fun hn => by
  obtain ⟨b, o, e, hc⟩ := h.2.2 hn;exact ⟨b, o, e, fun k x hx => hk _ _ _ (hc k x hx)⟩⟩
theorem qw.below {w w' : World} {A : Option Addr} {n c : Nat} {xs : List Int} (h : qw w A n c xs) (hb : Below w.heap.size w w') : qw w' A n c xs := h.keep (qm hb)
theorem qw.at_ {w : World} {A : Option Addr} {n c : Nat} {xs : List Int} {k : Nat} (h : qw w A n c xs) (hk : k < n) : ∃ b o x, A = some ⟨b, o, none⟩ ∧ xs[k]? = some x ∧ w.cell? ⟨b, o + k, none⟩ = some (.int .u8 x) := by
 exact XaJ
def n32 (n : BitVec 32) : Int := (n.toNat : Int)
theorem zjO (n : BitVec 32) : n32 n < 4294967296 := by unfold n32; have := n.isLt; omega
theorem zjP (n : BitVec 32) : 0 ≤ n32 n := by unfold n32; omega
theorem zbH (a b : BitVec 32) : bits .xor .u32 (n32 a) (n32 b) = n32 (a ^^^ b) := by
 unfold n32;rw [u32_xor_nat _ _ a.isLt b.isLt, BitVec.toNat_xor]
theorem ziE (a b : BitVec 32) : bits .and .u32 (n32 a) (n32 b) = n32 (a &&& b) := by
 unfold n32;rw [u32_and_nat _ _ a.isLt b.isLt, BitVec.toNat_and]
def zbF (c : Int) : BitVec 32 := BitVec.ofNat 32 c.toNat
theorem zhZ {c : Int} (h0 : 0 ≤ c) (h1 : c < 256) : c % 4294967296 = n32 (zbF c) := by
 unfold n32 zbF;rw [BitVec.toNat_ofNat];omega
theorem zi2 (n : BitVec 32) (k : Nat) : n32 n / (2 ^ k : Nat) = n32 (n >>> k) := by
 unfold n32;rw [BitVec.toNat_ushiftRight, Nat.shiftRight_eq_div_pow];rfl
def TB : List (BitVec 32) := [0x0#32, 0x1db71064#32, 0x3b6e20c8#32, 0x26d930ac#32, 0x76dc4190#32, 0x6b6b51f4#32, 0x4db26158#32, 0x5005713c#32, 0xedb88320#32, 0xf00f9344#32, 0xd6d6a3e8#32, 0xcb61b38c#32, 0x9b64c2b0#32, 0x86d3d2d4#32, 0xa00ae278#32, 0xbdbdf21c#32]
def Tab (w : World) : Prop := ∀ i, i < 16 → w.cell? ⟨0, i, none⟩ = some (.int .u32 (n32 (TB.getD i 0)))
theorem Tab.keep {w w' : World} (h : Tab w) (hk : ∀ (b i : Nat) v, w.cell? ⟨b, i, none⟩ = some v → w'.cell? ⟨b, i, none⟩ = some v) : Tab w' := fun i hi => hk _ _ _ (h i hi)
theorem Tab.below {w w' : World} (h : Tab w) (hb : Below w.heap.size w w') : Tab w' := h.keep (qm hb)
def nib (n : BitVec 32) : BitVec 32 := TB.getD (n &&& 15#32).toNat 0 ^^^ (n >>> 4)
def Vm (n : BitVec 32) : List Int → BitVec 32
 | [] => n
 | c :: l => Vm (nib (nib (n ^^^ zbF c))) l
def zc4 : BitVec 32 := 4294967295#32
def Vl (n : BitVec 32) (l : List Int) : BitVec 32 := zc4 ^^^ Vm (zc4 ^^^ n) l
def VT (l : List Int) : BitVec 32 := Vl 0#32 l
theorem zfZ (n : BitVec 32) : bits .xor .u32 4294967295 (n32 n) = n32 (zc4 ^^^ n) := zbH zc4 n
theorem yF {w : World} (hT : Tab w) (n : BitVec 32) : ∃ (k : Nat) (t : Int), bits .and .u32 (n32 n) 15 = (k : Int) ∧ k < 16 ∧ w.cell? ⟨0, k, none⟩ = some (.int .u32 t) ∧ bits .xor .u32 t (n32 n / 16) = n32 (nib n) := by
 have hlow : (n &&& 15#32).toNat < 16 := by
  rw [BitVec.toNat_and];exact Nat.lt_of_le_of_lt Nat.and_le_right (by decide)
 refine ⟨(n &&& 15#32).toNat, n32 (TB.getD (n &&& 15#32).toNat 0), ?_, hlow, hT _ hlow, ?_⟩
 ·rw [show (15 : Int) = n32 15#32 from rfl, ziE]; rfl
 ·rw [show (16 : Int) = ((2 ^ 4 : Nat) : Int) from rfl, zi2, zbH]; rfl
theorem Ym (n : BitVec 32) : ∃ x : Int, x = n32 n ∧ 0 ≤ x ∧ x < 4294967296 := ⟨_, rfl, zjP n, zjO n⟩
theorem zdN {l : List Int} {k : Nat} {x : Int} (h : l[k]? = some x) (n : BitVec 32) : Vm n (l.drop k) = Vm (nib (nib (n ^^^ zbF x))) (l.drop (k + 1)) := by
 have hl : k < l.length := (List.getElem?_eq_some_iff.1 h).1;rw [List.drop_eq_getElem_cons hl, (List.getElem?_eq_some_iff.1 h).2];rfl
theorem zeV (s : BitVec 32) (A : Option Addr) (n c : Nat) (l : List Int) (w : World) (hT : Tab w) (hr : qw w A n c l) (hb : IsB l) (hn : n ≤ 1000000) :
  Calls Tryz.prog 73 #[.int .u32 (n32 s), .slice A n c] w fun e w' => e = .returned (.int .u32 (n32 (Vl s l))) ∧ w = w' := by
 have hs32 : IntKind.u32.signed = false := rfl;have hm32 : IntKind.u32.max = 4294967295 := rfl;have HT := za hT;have HR := za hr;have HBY := za hb;have hcap := hr.2.1;have HL := za hr.1;clear hT hr hb;obtain ⟨n0, e0, _, _⟩ := Ym s;rw [← e0];obtain ⟨n1, e1, _, _⟩ := Ym (zc4 ^^^ s);have f1 : bits .xor .u32 4294967295 n0 = n1 := by rw [e0, e1, zfZ]
 have E1 := za e1;clear e0 e1;go_enter Tryz.func73, Tryz.ntmps73;go_wp2_with fail;clear f1
 go_loop [0, 6, 11] (fun v0 v6 v11 => ∃ (m : Int) (N : BitVec 32) (k : Nat), v0 = .int .u32 m ∧ v11 = .int .i64 k ∧ k ≤ n ∧ Hid (m = n32 N ∧ zc4 ^^^ Vm N (l.drop k) = Vl s l)) (fun _ _ i => n - (intOf i).toNat)
 case atStart => exact ⟨_, zc4 ^^^ s, 0, rfl, rfl, by omega, ⟨E1.out, rfl⟩⟩
 case round =>
  obtain ⟨m, N, k, rfl, rfl, hk, HA⟩ := hrel;have EM := za HA.out.1;have RUN := za HA.out.2;clear HA
  by_cases hlt : k < n
  ·obtain ⟨b, o, x, rfl, hx, hc⟩ := HR.out.at_ hlt
   have hxb := HBY.out x (List.mem_of_getElem? hx);obtain ⟨x1, ex1, _, _⟩ := Ym (N ^^^ zbF x);obtain ⟨hx0, hx1⟩ := hxb
   have f1 : bits .xor .u32 m x = x1 := by
    have e := zhZ hx0 hx1;rw [Int.emod_eq_of_lt hx0 (by omega)] at e;rw [EM.out, e, zbH, ex1]
   obtain ⟨k1, t1, g1, hk1, hc1, g2⟩ := yF HT.out (N ^^^ zbF x);rw [← ex1] at g1 g2;obtain ⟨x2, ex2, _, _⟩ := Ym (nib (N ^^^ zbF x));rw [← ex2] at g2;obtain ⟨k2, t2, g3, hk2, hc2, g4⟩ := yF HT.out (nib (N ^^^ zbF x));rw [← ex2] at g3 g4;obtain ⟨x3, ex3, _, _⟩ := Ym (nib (nib (N ^^^ zbF x)));rw [← ex3] at g4;have EX3 := za ex3;have RUN' := za (show zc4 ^^^ Vm (nib (nib (N ^^^ zbF x))) (l.drop (k + 1)) = Vl s l by rw [← zdN hx]; exact RUN.out)
   clear ex1 ex2 ex3 RUN hx;have hk1' : (k1 : Int) < 16 := by omega
   have hk2' : (k2 : Int) < 16 := by omega
   go_wp2
   go_round
   case rel => exact ⟨_, nib (nib (N ^^^ zbF x)), k + 1, rfl, by go_num, by omega, ⟨EX3.out, RUN'.out⟩⟩
   case measure => simp [intOf]; omega
  ·have hge : k = n := by omega
   have hN : zc4 ^^^ N = Vl s l := by
    have := RUN.out;rw [hge, ← HL.out, List.drop_length] at this;exact this
   have f2 : bits .xor .u32 4294967295 m = n32 (Vl s l) := by rw [EM.out, zfZ, hN]
   clear hge hN RUN EM;go_wp2;go_ret;exact ⟨rfl, rfl⟩
theorem zhJ (A : Option Addr) (n c : Nat) (l : List Int) (w : World) (hT : Tab w) (hr : qw w A n c l) (hb : IsB l) (hn : n ≤ 1000000) :
  Calls Tryz.prog 38 #[.slice A n c] w fun e w' => e = .returned (.int .u32 (n32 (VT l))) ∧ w = w' := by
 have HU := za (zeV 0#32 A n c l w hT hr hb hn);clear hT hr hb;go_enter Tryz.func38, Tryz.ntmps38;go_wp2_with fail;refine (show Calls Tryz.prog 73 #[.int .u32 0, .slice A n c] w _ from HU.out).mono ?_;rintro e w' ⟨rfl, rfl⟩;go_wp2;go_ret;exact ⟨rfl, rfl⟩
def vj (w : World) (B : Nat) (v : Value) (xs : List Int) : Prop := w.ownsRow B 5 1 v xs.length (xs.map (.int .u8))
theorem zib : (Tryz.prog.info? 5).map (fun i => (i.zero, i.size, i.bytes)) = some (some (.int .u8 0), 1, 1) := by kernel_rfl
theorem zeo (W : World) (o : Obj) (row : Option Nat) : W.grownBy (W.alloc o) row := ⟨rfl, rfl, rfl, by simp, fun k hk _ => Below.heap_alloc W o k hk⟩
theorem zaj {ops : Array Oper} {rest : List Oper} {o : Oper} {a : Act} {Q : Exit → Act → World → Prop} {w : World} (hgd : o.guard = none) (s x : Operand)
  (ho : o.op = .call { callee := .builtin .append, args := #[s, x], argTypes := #[41, 41] }) (B : Nat) (v : Value) (xs : List Int) (y : Int) (g : Nat) (hs : a.eval s = v) (hown : vj w B v xs)
  (hx : a.eval x = .slice (some ⟨g, 0, none⟩) 1 1) (hy : At w g 5 #[.int .u8 y]) (hl : xs.length ≤ 1000000) (hB : B ≤ w.heap.size)
  (h : ∀ v' w', vj w' B v' (xs ++ [y]) → w.grownBy w' v.ownBlock → (v'.ownBlock = v.ownBlock ∨ v'.ownBlock = some w.heap.size) → wpList Tryz.prog ops Q rest (a.put o.dst v') w') : wpList Tryz.prog ops Q (o :: rest) a w := by
 obtain ⟨i0, hi, hz0, hz1, hz2⟩ := info_parts zib
 refine wpList_append_own_at w hgd s x 41 ho B 5 i0 (.int .u8 0) 1 1 Tryz.underlying41 hi hz0 hz1 hz2 rfl (by decide) v xs.length (xs.map (.int .u8)) hs hown ⟨g, 0, none⟩ 1 1 [.int .u8 y] hx rfl
  (fun j u hj => ?_) (fun u hu => by simp at hu; subst hu; rfl) (by unfold maxLen; omega) (by omega) hB ?_
 ·match j, hj with
  | 0, hj => simp at hj; subst hj; exact hy.cell 0
  | j + 1, hj => simp at hj
 ·intro v' w' hown' hgrow _ hat
  have e : xs.map (Value.int .u8) ++ [.int .u8 y] = (xs ++ [y]).map (.int .u8) := by simp
  rw [e] at hown';exact h v' w' (by unfold vj; simpa using hown') hgrow hat
def zaf (B : Nat) (v : Value) (w : World) (xs : List Int) (v' : Value) (w' : World) : Prop := vj w' B v' xs ∧ w.grownBy w' v.ownBlock ∧ (v'.ownBlock = v.ownBlock ∨ ∃ q, v'.ownBlock = some q ∧ w.heap.size ≤ q)
theorem zaW {W : World} {B : Nat} {v : Value} {xs : List Int} (h : vj W B v xs) (o : Obj) : vj (W.alloc o) B v xs := World.ownsRow.alloc h o
theorem vj.below {w w' : World} {B : Nat} {v : Value} {xs : List Int} (h : vj w B v xs) (hb : Below w.heap.size w w') : vj w' B v xs := World.ownsRow.kept h (zQ hb) (by cases v.ownBlock <;> simp)
theorem zaf.step {B : Nat} {v u : Value} {w W w2 : World} {xs ys : List Int} {v2 : Value} {o : Obj} (h : zaf B v w xs u W) (hown : vj w2 B v2 ys) (hg : (W.alloc o).grownBy w2 u.ownBlock) (hat : v2.ownBlock = u.ownBlock ∨ v2.ownBlock = some (W.alloc o).heap.size) : zaf B v w ys v2 w2 := by
 have hs := h.2.1.size;refine ⟨hown, h.2.1.andThen ((zeo W o _).trans hg) (fun j e => ?_), ?_⟩
 ·rcases h.2.2 with e2 | ⟨q, e2, hq⟩
  ·exact .inr (e2 ▸ e)
  ·rw [e2] at e; cases e; exact .inl hq
 ·rcases hat with e | e
  ·rcases h.2.2 with e2 | ⟨q, e2, hq⟩
   ·exact .inl (e.trans e2)
   ·exact .inr ⟨q, e.trans e2, hq⟩
  ·exact .inr ⟨_, e, by simp; omega⟩
def zdz (x : Int) (k : Nat) : Int := IntKind.u64.wrap x / 2 ^ (8 * k) % 256
def yY (x : Int) (k : Nat) : List Int := (List.range k).map (zdz x)
theorem zgF (x : Int) (k : Nat) : yY x (k + 1) = yY x k ++ [zdz x k] := by unfold yY; rw [List.range_succ, List.map_append]; rfl
theorem ZW (x : Int) (k : Nat) : (yY x k).length = k := by unfold yY; simp
theorem Vy (B : Nat) (v : Value) (bs : List Int) (x : Int) (m : Nat) (hm : m ≤ 8) (hl : bs.length ≤ 100000) (w : World) (hO : vj w B v bs) (hB : B ≤ w.heap.size) (hx0 : -9223372036854775808 ≤ x) (hx1 : x ≤ 9223372036854775807) :
  Calls Tryz.prog 37 #[v, x, .int .i64 (m : Int)] w fun e w' => ∃ v', e = .returned v' ∧ zaf B v w (bs ++ yY x m) v' w' := by
 have HO := za hO;clear hO;go_enter Tryz.func37, Tryz.ntmps37;go_wp2_with fail
 go_loopw [0, 7, 9] (fun u _ i wr => ∃ k : Nat, k ≤ m ∧ i = .int .i64 k ∧ Hid (zaf B v w (bs ++ yY x k) u wr)) (fun _ _ i _ => m - (intOf i).toNat)
 case atStart => exact ⟨0, by omega, rfl, za ⟨by simpa [yY] using HO.out, ⟨rfl, rfl, rfl, Nat.le_refl _, fun _ _ _ => rfl⟩, .inl rfl⟩⟩
 case round =>
  obtain ⟨k, hk, rfl, HG⟩ := hrel
  by_cases hlt : k < m
  ·obtain ⟨y, hy⟩ := zc (IntKind.u64.wrap x / 2 ^ (8 * k) % 256)
   have HT := za (show (bs ++ yY x k) ++ [y] = bs ++ yY x (k + 1) by rw [zgF, List.append_assoc]; unfold zdz; rw [hy]);have HL := za (show (bs ++ yY x k).length ≤ 1000000 by rw [List.length_append, ZW]; omega);have HS := za HG.out.2.1.size;go_wp2_with (at_builtin; simp only [hy]; refine zaj rfl (.tmp 12) (.tmp 19) rfl B u0 _ y wr.heap.size rfl (zaW HG.out.1 _) rfl (At.new _ _ _) HL.out (by have := HS.out; simp; omega) ?_; intro v2 w2 hown hgrow hat; rw [HT.out] at hown; have HG2 := za (zaf.step HG.out hown hgrow hat); clear hown hgrow hat)
   go_roundw
   case rel => exact ⟨k + 1, by omega, by go_num, HG2⟩
   case measure => simp [intOf]; omega
  ·have e : k = m := by omega
   subst e;go_wp2_with fail;go_ret;exact ⟨_, rfl, HG.out⟩
section
attribute [local go_sem] Oper.semAt_some yI
def ziG (g : Nat) : Value := .func (.func 127) #[] #[.pointer (some ⟨g, 0, none⟩)]
theorem zal (A : Option Addr) (n c : Nat) (w : World) : Calls Tryz.prog 102 #[.slice A n c] w fun e w' => e = .returned (ziG w.heap.size) ∧ w.alloc (.cells #[.slice A n c] 41) = w' := by
 go_enter Tryz.func102, Tryz.ntmps102;go_wp2;go_ret;exact ⟨rfl, rfl⟩
def vi (l : List Int) : List (Int × Int) := (List.range l.length).reverse.map fun (i : Nat) => ((i : Int), l.getD i 0)
theorem zfL {l : List Int} {j : Nat} {x : Int} (hj : j + 1 ≤ l.length) (h : l[j]? = some x) : (vi l).take (l.length - j) = (vi l).take (l.length - (j + 1)) ++ [((j : Int), x)] := by
 have e : (vi l)[l.length - (j + 1)]? = some ((j : Int), x) := by
  unfold vi;rw [List.getElem?_map, List.getElem?_reverse (by simp; omega), List.length_range, List.getElem?_range (by omega)];simp [show l.length - 1 - (l.length - (j + 1)) = j by omega, List.getD_eq_getElem?_getD, h]
 rw [show l.length - j = l.length - (j + 1) + 1 by omega, List.take_add_one, e]; rfl
theorem zcK (l : List Int) : (vi l).length = l.length := by unfold vi; simp
abbrev zjf (x : Int × Int) : Array Value := #[x.1, .int .u8 x.2]
theorem ziH (n : Nat) (hn1 : 1 ≤ n) (Kp : World → World → Prop) (hKd : ∀ A B : World, Kp A B → Kp A B.drew) (hKt : ∀ A B C : World, Kp A B → Kp B C → Kp A C) (l g : Nat) (A : Option Addr) (m c : Nat) (xs : List Int) (hm1 : m ≤ 1000000) (J Jx : List (Int × Int) → World → Prop)
  (hY : ∀ pre x W, J pre W → pre.length < m → YieldAt Fence.wide (n - 1) Tryz.prog l (zjf x) W fun e W' =>
   (e = .returned (.bool true) ∧ J (pre ++ [x]) W' ∧ Kp W W') ∨ (e = .returned (.bool false) ∧ Jx (pre ++ [x]) W'))
  (hJd : ∀ pre W, J pre W → J pre W.drew)
  (W : World) (hKr : Kp W W) (hc1 : ∀ W', Kp W W' → W'.cell? ⟨g, 0, none⟩ = some (.slice A m c))
  (hx : ∀ W', Kp W W' → qw W' A m c xs) (h0 : J [] W) :
  CallsIn Fence.wide n Tryz.prog 127 #[.func (.yield l) #[] #[], .pointer (some ⟨g, 0, none⟩)] W fun e W' => (∃ v, e = .returned v) ∧
   ((∃ zs, zs = vi xs ∧ J zs W') ∨ (∃ pre, pre <+: vi xs ∧ Jx pre W')) := by
 have HX := za hx;have lx := (hx W hKr).1;have hcap := (hx W hKr).2.1;have LX := za lx;have HD := za hJd;have C1 := za hc1;have KD := za hKd;have KT := za hKt;have KR := za hKr;have i1 := hc1 W hKr;have HYY := za hY;clear hx lx hJd hY hc1 hKd hKt hKr;refine callsIn_of_wp Tryz.func127 rfl trivial ?_ rfl;simp only [Tryz.ntmps127, List.size_toArray, List.length_cons, List.length_nil, Nat.reduceAdd, Nat.reduceSub, Array.replicate_succ, Array.replicate_zero, List.push_toArray, List.append_toArray, List.nil_append, List.cons_append]
 gi_wp2
 gi_loopw [3] (fun i wr => ∃ j : Nat, j ≤ m ∧ i = .int .i64 ((j : Int) - 1) ∧ Hid (J ((vi xs).take (m - j)) wr) ∧ Hid (Kp W wr)) (fun i _ => (intOf i + 1).toNat)
 case atStart => exact ⟨m, by omega, rfl, by rw [Nat.sub_self]; exact h0, KR⟩
 case round =>
  obtain ⟨j, hj, rfl, HJ, HB⟩ := hrel
  by_cases hlt : 0 < j
  ·obtain ⟨k, rfl⟩ : ∃ k, j = k + 1 := ⟨j - 1, by omega⟩
   have ej : ((k + 1 : Nat) : Int) - 1 = (k : Int) := by omega
   simp only [ej];obtain ⟨b, o, x, rfl, hxk, x0⟩ := (HX.out wr HB.out).at_ (k := k) (by omega);have hlen : ((vi xs).take (m - (k + 1))).length < m := by rw [List.length_take, zcK, LX.out]; omega
   obtain ⟨fn, tmps, assign, body, hyy, hR⟩ := HYY.out _ ((k : Int), x) wr HJ.out hlen;have HT := za (show (vi xs).take (m - k) = (vi xs).take (m - (k + 1)) ++ [((k : Int), x)] by have := LX.out; subst this; exact zfL hj hxk);clear hxk hlen;have c1 := C1.out wr HB.out;dsimp only [zjf] at hyy;gi_wp2;refine hR.mono ?_;rintro e W3 (⟨rfl, hJ3, hk3⟩ | ⟨rfl, hJx3⟩)
   ·have HJ3 := za (show J ((vi xs).take (m - k)) W3 by rw [HT.out]; exact hJ3)
    have HB3 := za (KT.out _ _ _ HB.out hk3);clear hJ3 hk3;gi_wp2;go_roundw
    case rel => exact ⟨k, by omega, by go_num, HJ3, HB3⟩
    case measure => simp [intOf]
   ·have HJ3 := za (show Jx ((vi xs).take (m - k)) W3 by rw [HT.out]; exact hJx3)
    clear hJx3;gi_wp2;exact XaX
  ·obtain rfl : j = 0 := by omega
   have e : (vi xs).take (m - 0) = vi xs := List.take_of_length_le (by rw [zcK, LX.out]; omega);rw [e] at HJ;clear e;gi_wp2
   go_end0
   exact ⟨⟨_, rfl⟩, .inl ⟨_, rfl, HJ.out⟩⟩
theorem KB.bytes {S : Nat → Prop} {w A B : World} {a : Option Addr} {n c : Nat} {xs : List Int} (h : KB S A B) (hx : qw w a n c xs) (hA : Below w.heap.size w A) (hS : ∀ k, k < w.heap.size → S k) : qw B a n c xs :=
 hx.keep fun b i v hc => h.cell (hS b (World.block_lt_of_cell? w ⟨b, i, none⟩ hc)) (qm hA _ _ _ hc)
theorem zfK (n : Nat) (hn1 : 1 ≤ n) (S : Nat → Prop) (g : Nat) (A : Option Addr) (m c : Nat) (xs : List Int) (hm1 : m ≤ 1000000) (w0 w : World) (hS : ∀ k, S k → k < w.heap.size) (hS0 : ∀ k, k < w0.heap.size → S k) (hS1 : S g) (hb : Below w0.heap.size w0 w)
  (hc1 : w.cell? ⟨g, 0, none⟩ = some (.slice A m c)) (hx : qw w0 A m c xs) :
  SeqStopsK Fence.wide n Tryz.prog 127 #[.pointer (some ⟨g, 0, none⟩)] zjf (KB S) (fun zs => zs = vi xs) (fun pre => pre <+: vi xs) m w := fun l J Jx W hW hJ hJx hY h0 => by
 have k0 : KB S w W := (KB.refl S w).call hS hW
 exact ziH n hn1 (KB S) (fun _ _ h => h.drew) (fun _ _ _ h k => h.trans k) l g A m c xs hm1 J Jx hY (fun pre W h => hJ pre W W.drew none h ⟨rfl, rfl, rfl, Nat.le_refl _, fun _ _ _ => rfl⟩ (fun r e => by cases e)) W (KB.refl S W)
  (fun W' h => (k0.trans h).cell hS1 hc1) (fun W' h => (k0.trans h).bytes hx hb hS0) h0
def zf9 (v c : Int) : Int := bits .or .u64 (IntKind.u64.wrap (v * 256)) (IntKind.u64.wrap c)
def JG (pre : List (Int × Int)) : Int := pre.foldl (fun v x => zf9 v x.2) 0
theorem zdi (pre : List (Int × Int)) (i x : Int) : JG (pre ++ [(i, x)]) = zf9 (JG pre) x := by unfold JG; rw [List.foldl_append]; rfl
def zb4 (xs : List Int) : Int := wrap64 (JG (vi xs))
theorem Vz (A : Option Addr) (n c : Nat) (xs : List Int) (hn : n ≤ 1000000) (w : World) (hx : qw w A n c xs) :
  Calls Tryz.prog 74 #[.slice A n c] w fun e w' => e = .returned (.int .i64 (zb4 xs)) ∧ Below w.heap.size w w' := by
 have HX := za hx;clear hx;have hu := Tryz.underlying71;refine (callsIn_wide (n := 9)).1 ?_;refine callsIn_of_wp_marks Tryz.func74 rfl trivial ?_ rfl;simp only [Tryz.ntmps74, List.size_toArray, List.length_cons, List.length_nil, Nat.reduceAdd, Nat.reduceSub, Array.replicate_succ, Array.replicate_zero, List.push_toArray, List.append_toArray, List.nil_append, List.cons_append];gi_wp2_with (gi_at_call 102; refine (zC 8 (zal _ _ _ _)).mono ?_; rintro e w' ⟨rfl, rfl⟩)
 have A0 := za ((At.new w 137 #[.int .u64 0]).alloc (.cells #[.slice A n c] 41));have A1 := za (At.new (w.alloc (.cells #[.int .u64 0] 137)) 41 #[.slice A n c]);have B0 := za (zg (zg (Below.refl w.heap.size w) (.cells #[.int .u64 0] 137)) (.cells #[.slice A n c] 41));obtain ⟨W0, hW0⟩ := zc (((w.alloc (.cells #[.int .u64 0] 137)).alloc (.cells #[.slice A n c] 41)));simp only [World.size_alloc] at A1
 have hWg := za (show W0.heap.size = w.heap.size + 2 by rw [← hW0]; simp);rw [hW0] at A0 A1 B0 ⊢;clear hW0;obtain ⟨g, hg⟩ := zc (w.heap.size);rw [hg] at A0 A1 B0 hWg
 try simp only [hg]
 obtain ⟨S, hSd⟩ : ∃ S : Nat → Prop, S = fun k => k < W0.heap.size ∧ k ≠ g := ⟨_, rfl⟩
 have hS : ∀ k, S k → k < W0.heap.size := fun k h => by rw [hSd] at h; exact h.1
 have hSo : ¬ S g := fun h => by rw [hSd] at h; exact h.2 rfl
 have hSi : ∀ k, k < W0.heap.size → k ≠ g → S k := fun k h1 h2 => by rw [hSd]; exact ⟨h1, h2⟩
 have hsz := hWg.out;clear hSd
 refine wpIn_rangeFunc_ownH (α := Int × Int) rfl (by decide) (gf := 127) (lb := #[.pointer (some ⟨g + 1, 0, none⟩)]) rfl trivial (enters_of Tryz.func127 (by kernel_rfl) rfl)
  (zfK 8 (by decide) S (g + 1) A n c xs hn w W0 hS (fun k hk => hSi k (by omega) (by omega)) (hSi _ (by omega) (by omega)) (by rw [hg]; exact B0.out) (A1.out.cell 0) HX.out)
  (fun h k => h.trans k) (fun W l o o' hl _ _ _ => ⟨rfl, rfl, rfl, by simp, fun k hk => World.putObj_heap_other (fun e => by have := hS k hk; omega)⟩) (Below.refl _ _) (fun _ => rfl)
  (fun pre W => At W g 137 #[.int .u64 (JG pre)] ∧ KB S W0 W) (fun _ _ _ => False)
  (by
   rintro pre W W' row ⟨h, hk⟩ hgr hr;exact ⟨qx h hgr (fun r e => (hr r e).2), QZ hk hS (Nat.le_refl _) hgr (fun r e => (hr r e).1)⟩)
  (fun _ _ _ _ _ hs _ _ => hs)
  ⟨A0.out, KB.refl S W0⟩
  (fun x a' W => a' = { tmps := #[.slice A n c, undef, .int .i64 0, .pointer (some ⟨g, 0, none⟩), undef, .int .u8 x.2, .slice A n c, ziG (g + 1), x.1, .int .u8 x.2, undef, undef, undef, undef, undef, undef, undef], defers := [] })
  (by
   rintro x a' u W W' row h6 hgr hr;exact h6)
  ?assign ?body ?done ?stop
 case assign =>
  rintro l pre ⟨i, x⟩ W K ⟨h, hk⟩ hK;dsimp only [zjf] at hK ⊢;have HK := za hK;clear hK;gi_wp2;exact HK.out _ _ (zA (Below.refl _ _)) (KB.refl S W) ⟨h, hk⟩ rfl
 case body =>
  rintro l pre ⟨i, x⟩ a' W hl hr ⟨h, hk⟩ rfl hlen;have H := za h;have HK := za hk;obtain ⟨v, hv⟩ := zc (JG pre);rw [hv] at H;have a0 := H.out.cell 0;have z0 := H.out.frozen 0;clear h hk;gi_wp2;have hs := zdi pre i x;rw [hv] at hs;exact ⟨zY _ _ _ _, (KB.refl S W).set hSo _ _, by rw [hs]; exact H.out.set 0 _ rfl, HK.out.set hSo _ _⟩
 case done =>
  rintro D zs W hD rfl ⟨h, hk⟩ hK;have e0 := h.cell 0;have HK := za hK;have H := za h;have HKK := za hk;have hD' := za hD;clear h hK hD hk;gi_wp2;refine ⟨by simp, .inl ⟨_, _, rfl, run_takeDeferred HK.out, ?_⟩⟩;have hg0 : g ≤ W0.heap.size := by omega
  refine ⟨_, results_tmp rfl _ _ _, rfl, ?_⟩;rw [hg];exact qA (B0.out.trans (HKK.out.below (fun k hk => hSi k (by omega) (by omega)))) (Nat.le_trans hg0 HKK.out.size) (Nat.le_trans hg0 hD'.out) _
 case stop => exact fun D cc pre W _ _ h _ => h.elim
end
end Go.Proofs.YtcoiklclbljjeaaGreatDoor.L
