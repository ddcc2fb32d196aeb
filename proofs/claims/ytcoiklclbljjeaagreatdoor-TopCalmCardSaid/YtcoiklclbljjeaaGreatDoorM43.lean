/- Lemmas of the card's proof. -/
import Derived.Test.YtcoiklclbljjeaaGreatDoorM29
import Derived.Test.YtcoiklclbljjeaaGreatDoorM42
set_option linter.unusedVariables false
set_option linter.unusedSimpArgs false
set_option maxRecDepth 100000
set_option maxHeartbeats 16000000
namespace Go.Proofs.YtcoiklclbljjeaaGreatDoor.L
open Go.RowKit
section
attribute [local go_sem] Oper.semAt_some
theorem QV {P : Program} {w : World} {a : Addr} {m : Mode} (f : Fn) (x y : Array Value) : (store a (.func f x y) m).run P w = stored P w a (.func f x y) m := run_store P w a _ m rfl
attribute [local go_sem] QV
def goE (x : ES) (ys : List Int) : ES := QS x (ys.getD 2 0) (Qd ys) (ys.getD 3 0) (dL ys)
def y7 (x : ES) (l : List (List Int)) : ES := l.foldl goE x
theorem zgC (x : ES) (l : List (List Int)) (ys : List Int) : y7 x (l ++ [ys]) = goE (y7 x l) ys := by unfold y7; rw [List.foldl_append]; rfl
theorem zfT {x : ES} (h : OkE x) : ∀ l : List (List Int), OkE (y7 x l) := by
 intro l
 induction l generalizing x with
 | nil => exact h
 | cons y l ih => exact ih (h.take _ _ _ _)
def vk (E : Nat) (bd : Int) (x : ES) (W : World) : Prop := ∃ pc : Array Value, pc.size = 24 ∧ At W E 98 (qN x.on x.pn x.ps pc x.m x.st bd) ∧ Vi x.on W (E + 1) x.r (.agg pc) ∧ (x.on = false → pc = ZPC)
theorem vk.next {E : Nat} {bd : Int} {x y : ES} {pc : Array Value} {W W' : World} (hr : Vi x.on W (E + 1) x.r (.agg pc)) (hz : x.on = false → pc = ZPC) (hlt : E + 1 ≤ W.heap.size) (k : zE [E] W W') (h : zcN E bd x pc y W W') : vk E bd y W' := by
 obtain ⟨pc', hs, ha, (⟨e0, e1, e2⟩ | ⟨e, ho⟩)⟩ := h
 ·subst e0
  exact ⟨_, hs, ha, fun ho => by rw [e1]; exact (hr (by rw [← e2]; exact ho)).touch k (fun q hq => by simp at hq; omega), fun ho => hz (by rw [← e2]; exact ho)⟩
 ·exact ⟨pc', hs, ha, fun _ => ho.base hlt, fun hf => by rw [e] at hf; cases hf⟩
def ApE (E r : Nat) (W : World) : Prop := ∀ i A n c, W.cell? ⟨E, i, none⟩ = some (.slice A n c) → 0 < n → ∀ o, A ≠ some ⟨r, o, none⟩
theorem zhc {on : Bool} {pn ps : Int} {pc : Array Value} {m st bd : Int} (hp : pc.size = 24) {i : Nat} {A : Option Addr} {n c : Nat} (h : (qN on pn ps pc m st bd)[i]? = some (.slice A n c)) : ∃ j, i = 3 + j ∧ pc[j]? = some (.slice A n c) := by
 by_cases h1 : i < 3
 ·rw [vY hp i h1] at h
  match i, h with
  | 0, h => simp at h
  | 1, h => simp at h
  | 2, h => simp at h
  | i + 3, h => omega
 ·obtain ⟨j, rfl⟩ : ∃ j, i = 3 + j := ⟨i - 3, by omega⟩
  by_cases h2 : j < 24
  ·rw [vK hp j h2] at h
   exact ⟨j, rfl, h⟩
  ·obtain ⟨k, rfl⟩ : ∃ k, j = 24 + k := ⟨j - 24, by omega⟩
   rw [show 3 + (24 + k) = 27 + k by omega, yw hp k] at h
   match k, h with
   | 0, h => simp at h
   | 1, h => simp at h
   | 2, h => simp at h
   | 3, h => simp at h
   | 4, h => simp at h
   | k + 5, h => simp at h
theorem ze9 {n : Nat} {A0 : Option Addr} {c0 : Nat} {A1 : Option Addr} {m1 c1 : Nat} {B0 : Option Addr} {d0 : Nat} {B1 : Option Addr} {k1 d1 : Nat} {a b c d : Num} {pc : Array Value} (e : Value.agg pc = j9 n A0 c0 A1 m1 c1 B0 d0 B1 k1 d1 a b c d) {j : Nat} {A : Option Addr} {m q : Nat} (h : pc[j]? = some (.slice A m q)) : (A = A0 ∧ m = n) ∨ (A = A1 ∧ m = m1) ∨ (A = B0 ∧ m = n) ∨ (A = B1 ∧ m = k1) := by
 unfold j9 at e;injection e with e;subst e
 match j, h with
 | 0, h => simp at h; exact .inl ⟨h.1.symm, h.2.1.symm⟩
 | 1, h => simp at h
 | 2, h => simp at h
 | 3, h => simp at h; exact .inr (.inl ⟨h.1.symm, h.2.1.symm⟩)
 | 4, h => simp at h; exact .inr (.inr (.inl ⟨h.1.symm, h.2.1.symm⟩))
 | 5, h => simp at h
 | 6, h => simp at h
 | 7, h => simp at h; exact .inr (.inr (.inr ⟨h.1.symm, h.2.1.symm⟩))
 | 8, h => simp at h
 | 9, h => simp at h
 | 10, h => simp at h
 | 11, h => simp at h
 | 12, h => simp at h
 | 13, h => simp at h
 | 14, h => simp at h
 | 15, h => simp at h
 | 16, h => simp at h
 | 17, h => simp at h
 | 18, h => simp at h
 | 19, h => simp at h
 | 20, h => simp at h
 | 21, h => simp at h
 | 22, h => simp at h
 | 23, h => simp at h
 | j + 24, h => simp at h
theorem ApE.next {E : Nat} {bd : Int} {x y : ES} {pc : Array Value} {W W' : World} (hp : pc.size = 24) (hA : At W E 98 (qN x.on x.pn x.ps pc x.m x.st bd)) (h : zcN E bd x pc y W W') {r : Nat} (hr : r < W.heap.size) (k : ApE E r W) : ApE E r W' := by
 obtain ⟨pc', hs, ha, h⟩ := h;intro i A n c hc hn o e;rw [ha.cell] at hc;obtain ⟨j, rfl, hj⟩ := zhc hs hc;rcases h with ⟨rfl, _⟩ | ⟨_, ho⟩
 ·refine k (3 + j) A n c ?_ hn o e
  have hl : j < 24 := by rw [← hp]; exact (Array.getElem?_eq_some_iff.1 hj).1
  rw [hA.cell, vK hp j hl];exact hj
 ·obtain ⟨_, A0, c0, A1, m1, c1, B0, d0, B1, k1, d1, ep, n0, n1, n2, n3, f0, f1, f2, f3⟩ := ho
  rcases ze9 ep hj with ⟨rfl, _⟩ | ⟨rfl, _⟩ | ⟨rfl, _⟩ | ⟨rfl, _⟩
  ·have := f0 r o e; omega
  ·have := f1 r o e; omega
  ·have := f2 r o e; omega
  ·have := f3 r o e; omega
def StK (E : Nat) (bd : Int) (x0 : ES) (b1 b2 : Nat) (A : Option Addr) (n c : Nat) (xs : List Int) (s : List (List Int)) (W : World) : Prop :=
 Tab W ∧ At W b1 26 #[.pointer (some ⟨E, 0, none⟩)] ∧ At W b2 41 #[.slice A n c] ∧ qw W A n c xs ∧ vk E bd (y7 x0 s) W
def StY (E : Nat) (bd : Int) (x0 : ES) (xs : List Int) (s : List (List Int)) (W0 : World) (args : Array Value) (s' : List (List Int)) (W1 : World) : Prop :=
 ∃ (ys : List Int) (u : Value), s' = s ++ [ys] ∧ s' <+: jA xs ∧ jl ys = 0 ∧ zE [E] W0 W1 ∧ KeepsFrom 0 W0 W1 ∧ vk E bd (y7 x0 s') W1 ∧ args = #[u, .int .i64 (jU (y7 x0 s) (ys.getD 2 0) (Qd ys) (ys.getD 3 0) (dL ys))] ∧ qH W1 W0.heap.size (ZA (y7 x0 s) (ys.getD 2 0) (Qd ys) (ys.getD 3 0) (dL ys)) u ∧ ∀ r, r < W0.heap.size → ApE E r W0 → ApE E r W1
theorem StY.size {E : Nat} {bd : Int} {x0 : ES} {xs : List Int} : ∀ s W0 args s' W1, StY E bd x0 xs s W0 args s' W1 → args.size = 2 := by
 rintro s W0 args s' W1 ⟨ys, u, _, _, _, _, _, _, rfl, _, _⟩; rfl
def zdO (b1 b2 : Nat) : Value := .func (.func 60) #[] #[.pointer (some ⟨b1, 0, none⟩), .pointer (some ⟨b2, 0, none⟩)]
theorem ziq (args : Array Value) (W : World) : (callFunc 94 args).run Tryz.prog W = .ok (.enter 94 args) W := enters_of Tryz.func94 (by kernel_rfl) rfl args W
theorem zis (args : Array Value) (W : World) : (callFunc 60 args).run Tryz.prog W = .ok (.enter 60 args) W := enters_of Tryz.func60 (by kernel_rfl) rfl args W
theorem zb7 (E : Nat) (A : Option Addr) (n c : Nat) (w : World) : Calls Tryz.prog 27 #[.pointer (some ⟨E, 0, none⟩), .slice A n c] w fun e w' => e = .returned (zdO w.heap.size (w.heap.size + 1)) ∧ (w.alloc (.cells #[.pointer (some ⟨E, 0, none⟩)] 26)).alloc (.cells #[.slice A n c] 41) = w' := by
 go_enter Tryz.func27, Tryz.ntmps27;go_wp2;go_ret;exact ⟨rfl, rfl⟩
theorem zgy (m : Nat) (E : Nat) (bd : Int) (x0 : ES) (hx0 : OkE x0) (b1 b2 : Nat) (A : Option Addr) (n c : Nat) (xs : List Int) (hn : n ≤ 10000) (hB : IsB xs) :
  zkv Fence.wide (m + 9) Tryz.prog 60 #[.pointer (some ⟨b1, 0, none⟩), .pointer (some ⟨b2, 0, none⟩)] (fun s W => StK E bd x0 b1 b2 A n c xs s W) ([] : List (List Int)) (StY E bd x0 xs) (fun s => s = jA xs) (fun _ W W' => Below W.heap.size W W') := by
 intro lp J V hJ hJg hY h0;have HJ := za hJ;have HG := za hJg;have HY := za hY;have HB := za hB;have hu := Tryz.underlying47;have hu1 := Tryz.underlying49;have hK0 := hJ _ _ _ (h0 _ (Nat.le_refl _));have q1 := (hK0.2.1.alloc (.cells #[.func (.yield lp) #[] #[]] 127)).one;have q2 := ((hK0.2.2.1.alloc (.cells #[.func (.yield lp) #[] #[]] 127)).alloc (.cells #[.func (.func 40) #[.pointer (some ⟨E, 0, none⟩)] #[]] 110)).one
 have H0 := za h0;clear hJ hY hB hJg hK0 h0;refine callsIn_of_wp_marks Tryz.func60 rfl trivial ?_ rfl;simp only [Tryz.ntmps60, List.size_toArray, List.length_cons, List.length_nil, Nat.reduceAdd, Nat.reduceSub, Array.replicate_succ, Array.replicate_zero, List.push_toArray, List.append_toArray, List.nil_append, List.cons_append];gi_wp2_with fail;refine ⟨trivial, (zC (m + 8) (zdT A n c _)).mono ?_⟩;rintro e w1 ⟨rfl, rfl⟩
 have C2 := za (show At (((V.alloc (.cells #[.func (.yield lp) #[] #[]] 127)).alloc (.cells #[.func (.func 40) #[.pointer (some ⟨E, 0, none⟩)] #[]] 110)).alloc (.cells #[.slice A n c] 41)) (V.heap.size + 2) 41 #[.slice A n c] from At.new' (by simp));have C1 := za ((show At ((V.alloc (.cells #[.func (.yield lp) #[] #[]] 127)).alloc (.cells #[.func (.func 40) #[.pointer (some ⟨E, 0, none⟩)] #[]] 110)) (V.heap.size + 1) 110 #[.func (.func 40) #[.pointer (some ⟨E, 0, none⟩)] #[]] from At.new' (by simp)).alloc (.cells #[.slice A n c] 41))
 have C0 := za (((At.new V 127 #[.func (.yield lp) #[] #[]]).alloc (.cells #[.func (.func 40) #[.pointer (some ⟨E, 0, none⟩)] #[]] 110)).alloc (.cells #[.slice A n c] 41));have BB := za (zg (zg (zg (Below.refl _ V) (.cells #[.func (.yield lp) #[] #[]] 127)) (.cells #[.func (.func 40) #[.pointer (some ⟨E, 0, none⟩)] #[]] 110)) (.cells #[.slice A n c] 41));clear q1 q2;unfold zeq;gi_wp2_with fail;obtain ⟨W0, hW0⟩ := zc ((((V.alloc (.cells #[.func (.yield lp) #[] #[]] 127)).alloc (.cells #[.func (.func 40) #[.pointer (some ⟨E, 0, none⟩)] #[]] 110)).alloc (.cells #[.slice A n c] 41)))
 have hsz : W0.heap.size = V.heap.size + 3 := by rw [← hW0]; simp
 rw [hW0] at C0 C1 C2 BB ⊢;clear hW0;obtain ⟨g, hg⟩ := zc (V.heap.size);obtain ⟨NN, hNN⟩ : ∃ NN, NN = W0.heap.size + 2 := ⟨_, rfl⟩
 have HJ0 := za (HG.out NN _ _ _ none (H0.out NN (by omega)) (zQ BB.out) (fun r e => by cases e));rw [hg] at C0 C1 C2 hsz HG BB ⊢
 refine zdH rfl (by omega) (gf := 94) (lb := #[.pointer (some ⟨g + 1 + 1, 0, none⟩)]) rfl trivial ziq
  (zgU (m + 6) (g + 2) A n c xs hn HB.out) (fun s W0 args s' W1 h => yE h.1) (fun s W W' h => yE h) (fun s W0 args s' W1 h => (FrY.size _ _ _ _ _ h).trans rfl)
  (fun s W => J NN s W ∧ At W g 127 #[.func (.yield lp) #[] #[]] ∧ At W (g + 1) 110 #[.func (.func 40) #[.pointer (some ⟨E, 0, none⟩)] #[]] ∧ At W (g + 2) 41 #[.slice A n c])
  (fun s W h => ⟨(HJ.out _ _ _ h.1).1, h.2.2.2, (HJ.out _ _ _ h.1).2.2.2.1⟩)
  (fun s W W' row h hgr hr => ⟨HG.out _ _ _ _ row h.1 hgr (fun r e => ⟨by have := (hr r e).1; omega, by have := (hr r e).2.1; omega, (hr r e).2.2⟩), h.2.1.grown hgr (fun e => by have := (hr _ e.symm).1; omega), h.2.2.1.grown hgr (fun e => by have := (hr _ e.symm).1; omega), h.2.2.2.grown hgr (fun e => by have := (hr _ e.symm).1; omega)⟩)
  (fun s W W' _ h hb => ⟨HG.out _ _ _ _ none h.1 (zQ hb) (fun r e => by cases e), h.2.1.below hb, h.2.2.1.below hb, h.2.2.2.below hb⟩)
  ⟨HJ0.out, C0.out, C1.out, C2.out⟩ ?round ?done
 case round =>
  rintro l s s' args Wa Wb hl hl2 hsa ⟨hj, c0, c1, c2⟩ ⟨r, hr⟩ ⟨hb, ys, q, A', m', c', rfl, hpre, he, rfl, hi, hf⟩;have hmm : m' ≤ 1000 := by rw [← hi.1]; exact ziA ys
  have HGA := za (show g < Wa.heap.size from c0.lt);have HGH := za (show g ≤ Wb.heap.size from by have h1 := c0.lt; have h2 := hb.size; omega);have hlb : m + 9 - 1 - 1 = m + 7 := by omega
  rw [hlb];have HP := za hpre;have HE := za he;obtain ⟨fk, hfk⟩ : ∃ x, ys.getD 2 0 = x := ⟨_, rfl⟩
  obtain ⟨fs, hfs⟩ : ∃ x, Qd ys = x := ⟨_, rfl⟩
  obtain ⟨fn, hfn⟩ : ∃ x, ys.getD 3 0 = x := ⟨_, rfl⟩
  obtain ⟨fl, hfl⟩ : ∃ x, dL ys = x := ⟨_, rfl⟩
  rw [hfl] at hi;rw [hfk, hfs, hfn];obtain ⟨o47, ho47⟩ : ∃ o : Obj, o = .cells #[fk, fs, fn, .slice A' m' c'] 47 := ⟨_, rfl⟩
  have D0 := za (show At (Wb.alloc (.cells #[fk, fs, fn, .slice A' m' c'] 47)) Wb.heap.size 47 #[fk, fs, fn, .slice A' m' c'] from At.new _ _ _);have hbb := zg hb (.cells #[fk, fs, fn, .slice A' m' c'] 47);have HJ1 := za (HG.out _ _ _ _ none hj (zQ hbb) (fun r e => by cases e));have D1 := za (c0.below hbb);have D2 := za (c1.below hbb);have D3 := za (c2.below hbb);have HI := za (hi.below (zg (Below.refl _ Wb) (.cells #[fk, fs, fn, .slice A' m' c'] 47)))
  have hfd : ∀ b o, A' = some ⟨b, o, none⟩ → Wa.heap.size ≤ b := hf;clear hj c0 c1 c2 hi hf hr hpre he ho47 o47;unfold qL;gi_wp2_with fail;refine ⟨yE (zg (Below.refl _ Wb) _), fun W3 hgr ho hlr => ?_⟩;have hrow : ∀ r, some l = some r → ∃ o : Obj, (Wb.alloc (.cells #[fk, fs, fn, .slice A' m' c'] 47)).heap[r]? = some o ∧ o.isCells = false := fun r e => by cases e; exact ho
  replace HJ1 := za (HG.out _ _ _ _ (some l) HJ1.out hgr (fun r e => by cases e; exact ⟨by omega, by omega, ho⟩));replace D0 := za (qx D0.out hgr hrow);replace D1 := za (qx D1.out hgr hrow);replace D2 := za (qx D2.out hgr hrow);replace D3 := za (qx D3.out hgr hrow)
  replace HI := za (HI.out.keep (fun b i v hv => by
   have hbl := World.block_lt_of_cell? _ ⟨b, i, none⟩ hv
   rw [World.cell?_of_block (a := ⟨b, i, none⟩) (hgr.block b hbl (fun e => by
    obtain ⟨o, h1, h2⟩ := hrow b e.symm;have h3 := hv;unfold World.cell? at h3;rw [h1] at h3;cases o <;> simp_all [Obj.isCells]))]
   exact hv))
  obtain ⟨h, hh⟩ := zc (Wb.heap.size);rw [hh] at D0;rw [hh];have HNW := za (show NN ≤ W3.heap.size from by have h1 := hgr.size; have h2 := hbb.size; omega);clear hgr ho hrow hb hbb;obtain ⟨pc, hpc, hE, hO, hZ⟩ := (HJ.out _ _ _ HJ1.out).2.2.2.2;have HEA := za hE;have HOO := za hO;have hEl := hE.lt;clear hE hO;gi_wp2_with fail;have hEg : E < g := by rw [← hg]; obtain ⟨_, _, a, _⟩ := (HJ.out _ _ _ (H0.out _ (Nat.le_refl _))).2.2.2.2; exact a.lt
  have hgh : g ≤ h := by rw [← hh]; have := HGH.out; omega
  refine wpIn_region_any (by kernel_rfl) ?_;refine zbL 6 1 (by kernel_rfl) ?_;simp only [List.modify_succ_cons, List.modify_zero_cons, yH, List.push_toArray, List.cons_append, List.nil_append];refine zbL 6 2 (by kernel_rfl) ?_;simp only [List.modify_succ_cons, List.modify_zero_cons, yH, List.push_toArray, List.cons_append, List.nil_append];refine zfM (yN _) [E] 6 (zu.cons (k := 0) (i := 0) rfl (zu.cons (k := 0) (i := 1) rfl (zu.cons (k := 0) (i := 2) rfl (zu.cons (k := 2) (i := 3) rfl (zu.cons (k := 1) (i := 4) rfl (zu.cons (k := 1) (i := 5) rfl (zu.cons (k := 2) (i := 6) rfl (zu.cons (k := 1) (i := 7) rfl zu.nil)))))))) (by kernel_rfl) (by kernel_rfl) (fun c a d v w h => by cases d <;> exact h) ?_
  obtain ⟨d0, d1, d2, d3⟩ := D0.out.four;have e1 := D1.out.one;have e2 := D2.out.one;have kd0 := fun x => But.cell (G := [E]) d0 (by simp; omega) x;have kd1 := fun x => But.cell (G := [E]) d1 (by simp; omega) x;have kd2 := fun x => But.cell (G := [E]) d2 (by simp; omega) x;have kd3 := fun x => But.cell (G := [E]) d3 (by simp; omega) x;have ke1 := fun x => But.cell (G := [E]) e1 (by simp; omega) x;have ke2 := fun x => But.cell (G := [E]) e2 (by simp; omega) x
  iterate 3 (refine ZK ?_;go_big_quiet_step (fail);refine wpQuiet_nil ?_)
  clear kd0 kd1 kd2 kd3 ke1 ke2 d0 d1 d2 d3 e1 e2;have hdr : Below W3.heap.size W3 W3.drew := ⟨rfl, rfl, rfl, Nat.le_refl _, fun _ _ => rfl⟩
  refine zbQ (yN _) rfl rfl (fun K hK => ?_);go_simp;refine (zac E bd (y7 x0 s) (zfT hx0 s) pc hpc fk fs fn A' m' c' fl W3.drew (HEA.out.below hdr) (fun on => (HOO.out on).below hdr) (HI.out.below hdr) (fun q o e => by have := hfd q o e; have := HGA.out; omega) hmm).mono ?_;rintro e W4 ⟨⟨u, rfl, ho⟩, ht, hp⟩;refine hK _ _ (zI ⟨ht.size, fun k hk hn => ht.block k hk hn⟩) ?_;clear hK K;have hrun : y7 x0 (s ++ [ys]) = QS (y7 x0 s) fk fs fn fl := by rw [zgC]; unfold goE; rw [hfk, hfs, hfn, hfl]
  have ht3 : zE [E] W3 W4 := ⟨ht.os, ht.tape, ht.output, ht.size, fun k hk hn => ht.block k hk hn⟩
  have hkf0 : KeepsFrom 0 W3 W4 := ⟨ht3.size, fun k o _ h1 h2 => by
   by_cases e : k = E
   ·subst e
    rw [show W3.heap[k]? = _ from HEA.out] at h1;cases h1;cases h2
   ·exact (ht3.block k (Array.getElem?_eq_some_iff.1 h1).1 (by simp; exact e)).trans h1⟩
  have hng : vk E bd (y7 x0 (s ++ [ys])) W4 := by rw [hrun]; exact vk.next HOO.out hZ hEl ht3 hp
  have hap : ∀ r, r < W3.heap.size → ApE E r W3 → ApE E r W4 := fun r h1 h2 => ApE.next hpc (HEA.out.below hdr) hp h1 (fun i A n c hc => h2 i A n c hc);have hy := za (HY.out NN s (s ++ [ys]) _ W3 W4 HJ1.out (by have := HNW.out; omega) ⟨ys, u, rfl, HP.out, HE.out, ht3, hkf0, hng, rfl, by rw [hfk, hfs, hfn, hfl]; exact ho, hap⟩);rw [hfk, hfs, hfn, hfl] at hy;obtain ⟨te, hte⟩ : ∃ x, jU (y7 x0 s) fk fs fn fl = x := ⟨_, rfl⟩
  rw [hte] at hy ⊢;clear ho ht hp hte;iterate 2 (refine ZL ?_;go_big_quiet_step (fail);refine wpQuiet_nil ?_)
  refine zbR rfl rfl (fun K hK => ?_);have hlc : m + 9 - 3 = m + 6 := by omega
  rw [hlc] at hy;obtain ⟨gf, tm, asg, bdy, hyy, hR⟩ := hy.out;clear hy;go_simp;rw [hg] at hR;refine (id hR : RoundIn (Fence.wide.inRound l) (m + 6) Tryz.prog lp gf tm asg bdy W4 fun e W' => e = .returned (.bool true) ∧ J NN (s ++ [ys]) W' ∧ KeepsFrom g W4 W' ∧ ∀ k, g ≤ k → k < NN → W'.heap[k]? = W4.heap[k]?).mono ?_;rintro e W5 ⟨rfl, hJ5, hk5, hs5⟩;refine hK _ _ ?_;clear hK K;refine ZL ?_;go_big_quiet_step (fail)
  refine wpQuiet_nil ?_;refine zcP ?_;have hkf : KeepsFrom W0.heap.size W3 W5 := ⟨Nat.le_trans ht3.size hk5.size, fun k o h1 h2 h3 => hk5.same k o (by omega) ((ht3.block k (Array.getElem?_eq_some_iff.1 h2).1 (by simp; omega)).trans h2) h3⟩
  have fin : ∀ {q : Nat} {t : TypeId} {cs : Array Value}, g ≤ q → q < NN → At W3 q t cs → At W5 q t cs := fun h1 h2 h3 => (hs5 _ h1 h2).trans ((ht3.block _ h3.lt (by simp; omega)).trans h3);have r1 := za (fin (Nat.le_refl g) (by omega) D1.out);have r2 := za (fin (Nat.le_succ g) (by omega) D2.out);have r3 := za (fin (show g ≤ g + 2 by omega) (by omega) D3.out);have r0 := za hJ5;clear fin hs5 hk5 hJ5 hR hyy
  gi_wp2_with fail;exact ⟨hkf, r0.out, r1.out, r2.out, r3.out⟩
 case done =>
  rintro D s W hD hD2 rfl ⟨hj, c0, c1, c2⟩ hd;have HK := za hd;have HJ1 := za hj;clear hj hd c0 c1 c2;gi_wp2;refine ⟨by simp, .inl ⟨_, _, rfl, run_takeDeferred HK.out, ?_⟩⟩;exact ⟨.tuple #[], by simp [results, Tryz.results60, go_sem], ⟨_, rfl⟩, _, _, _, rfl, HG.out _ _ _ _ (some D) HJ1.out (grownBy_putObj' _ _ _) (fun r e => by cases e; exact ⟨by omega, by omega, _, HK.out, rfl⟩), Below.refl _ _⟩
end
section
attribute [local go_sem] Oper.semAt_some
structure FrR where
 k : Int
 s : Int
 n : Int
 A : Option Addr
 m : Nat
 c : Nat
 l : List Int
def ziS (W : World) (A : Option Addr) (n c : Nat) (L : List FrR) : Prop :=
 L.length = n ∧ n ≤ c ∧ (0 < n → ∃ b o, A = some ⟨b, o, none⟩ ∧ ∀ i f, L[i]? = some f → W.cell? ⟨b, o + i * 4, none⟩ = some (.int .i64 f.k) ∧ W.cell? ⟨b, o + i * 4 + 1, none⟩ = some (.int .i64 f.s) ∧
  W.cell? ⟨b, o + i * 4 + 2, none⟩ = some (.int .i64 f.n) ∧ W.cell? ⟨b, o + i * 4 + 3, none⟩ = some (.slice f.A f.m f.c) ∧ zW W f.A f.m f.c f.l ∧ f.m ≤ 1000)
theorem ziS.below {W W' : World} {A : Option Addr} {n c : Nat} {L : List FrR} (h : ziS W A n c L) (hb : Below W.heap.size W W') : ziS W' A n c L :=
 ⟨h.1, h.2.1, fun hn => by
  obtain ⟨b, o, e, h⟩ := h.2.2 hn
  exact ⟨b, o, e, fun i f hf => by
   obtain ⟨h0, h1, h2, h3, h4, h5⟩ := h i f hf;exact ⟨qm hb _ _ _ h0, qm hb _ _ _ h1, qm hb _ _ _ h2, qm hb _ _ _ h3, h4.below hb, h5⟩⟩⟩
def FrR.ok (f : FrR) : Bool := zR f.k f.s f.n f.l
def Z9 (L : List FrR) : List Int := L.flatMap fun f => yx f.k f.s f.n f.l
theorem zbx (k s n : Int) (l : List Int) : (yx k s n l).length = 12 + 8 * l.length := by
 have e : ∀ t : List Int, (t.flatMap fun x => yY x 8).length = t.length * 8 := by
  exact Xbe
 unfold yx Yc;rw [List.length_append, List.length_append, List.length_append, ZW, ZW, e];simp only [List.length_cons, List.length_nil];omega
theorem zfq (L : List FrR) (f : FrR) : Z9 (L ++ [f]) = Z9 L ++ yx f.k f.s f.n f.l := by unfold Z9; simp
theorem zhV {f : FrR} (h : f.ok = true) : f.l.length ≤ 32 := by
 unfold FrR.ok zR at h;simp only [Bool.and_eq_true, decide_eq_true_eq] at h;have := zcs f.k f.n;omega
theorem zcy : ∀ L : List FrR, L.all FrR.ok = true → (Z9 L).length ≤ 268 * L.length
 | [], _ => Nat.le_refl _
 | f :: L, h => by
  rw [List.all_cons, Bool.and_eq_true] at h;have h1 := zcy L h.2;have h2 := zhV h.1;show ((yx f.k f.s f.n f.l) ++ Z9 L).length ≤ _;rw [List.length_append, zbx, List.length_cons];omega
theorem zcO {o : Oper} {a : Act} {K : Act → World → Prop} {Q : Exit → Act → World → Prop} {w : World} (s x : Operand)
  (ho : o.op = .call { callee := .builtin .append, args := #[s, x], argTypes := #[41, 41] }) (B : Nat) (v : Value) (xs ys : List Int) (A : Option Addr) (n c : Nat) (hs : a.eval s = v) (hown : vj w B v xs)
  (hx : a.eval x = .slice A n c) (hA : 0 < n) (hy : qw w A n c ys) (hl : xs.length + n ≤ 1000000) (hB : B ≤ w.heap.size)
  (h : ∀ v' w', vj w' B v' (xs ++ ys) → w.grownBy w' v.ownBlock → (v'.ownBlock = v.ownBlock ∨ v'.ownBlock = some w.heap.size) → K (a.put o.dst v') w') : o.wp Tryz.prog a w K Q := by
 obtain ⟨i0, hi, hz0, hz1, hz2⟩ := info_parts zib;obtain ⟨b, o', rfl, hc⟩ := hy.2.2 hA
 obtain ⟨v', w', hr, h2, h3, _, hat⟩ := run_append_own_at (P := Tryz.prog) w B 41 o.type 5 i0 (.int .u8 0) 1 1 Tryz.underlying41 hi hz0 hz1 hz2 rfl (by decide) v xs.length (xs.map (.int .u8)) hown ⟨b, o', none⟩ n c (ys.map (.int .u8)) (by rw [List.length_map, hy.1, Nat.mul_one])
  (fun j u hj => by
   rw [List.getElem?_map, Option.map_eq_some_iff] at hj;obtain ⟨y, hy1, rfl⟩ := hj;rw [ziM];exact hc j y hy1) (fun u hu => by obtain ⟨y, _, rfl⟩ := List.mem_map.1 hu; rfl) (by unfold maxLen; omega) (by omega) hB
 rw [← List.map_append] at h2;unfold Oper.wp execOp;simp only [ho, resolve, invoke, builtin, Sem.run_bind, Sem.run_pure, Result.andThen_ok, List.map_toArray, List.map_cons, List.map_nil, hs, hx, hr];exact h v' w' (by unfold vj; rw [List.length_append, hy.1]; exact h2) h3 hat
theorem vj.none (w : World) (B : Nat) : vj w B (.slice none 0 0) [] := ⟨rfl, .inl (by simp [Value.ownBlock])⟩
theorem zgB (A : Option Addr) (n c : Nat) (L : List FrR) (hn : n ≤ 300) (w : World) (hT : Tab w) (hx : ziS w A n c L) :
  Calls Tryz.prog 26 #[.slice A n c] w fun e w' => (((L.all FrR.ok = true ∧ ∃ v, e = .returned (.tuple #[v, .int .i64 0]) ∧ vj w' w.heap.size v (Z9 L)) ∨ (L.all FrR.ok = false ∧ e = .returned (.tuple #[.slice none 0 0, .int .i64 1])))) ∧ Below w.heap.size w w' := by
 have HX := za hx;have HT := za hT;have hLL := hx.1;clear hx hT;have hu := Tryz.underlying47;have hu1 := Tryz.underlying82;go_enter Tryz.func26, Tryz.ntmps26;go_wp2_with fail
 go_loopw [4, 6, 7, 8, 11] (fun v _ _ _ i wr => ∃ j : Nat, j ≤ n ∧ i = .int .i64 j ∧ Hid (vj wr w.heap.size v (Z9 (L.take j))) ∧ Hid (Below w.heap.size w wr) ∧ Hid ((L.take j).all FrR.ok = true)) (fun _ _ _ _ i _ => n - (intOf i).toNat)
 case atStart => exact ⟨0, by omega, rfl, za (vj.none _ _), za (Below.refl _ _), za rfl⟩
 case round =>
  obtain ⟨j, hj, rfl, HO, HB, HK⟩ := hrel;have hszr := HB.out.size
  by_cases hlt : j < n
  ·have hltI : (j : Int) < (n : Int) := by omega
   obtain ⟨f, hf⟩ : ∃ f, L[j]? = some f := ⟨_, List.getElem?_eq_getElem (by omega)⟩
   obtain ⟨b, o, rfl, hc⟩ := (HX.out.below HB.out).2.2 (by omega);obtain ⟨x0, x1, x2, x3, hi, hm⟩ := hc j f hf;have HI := za hi;clear hc hi;have hfo : f.ok = zR f.k f.s f.n f.l := rfl;have ht1 : L.take (j + 1) = L.take j ++ [f] := jV hf;have HJ := za (show Z9 (L.take (j + 1)) = Z9 (L.take j) ++ yx f.k f.s f.n f.l by rw [ht1, zfq]);have HK1 := za (show f.ok = true → (L.take (j + 1)).all FrR.ok = true by intro h; rw [ht1, List.all_append, HK.out]; simpa using h)
   have HK0 := za (show f.ok = false → L.all FrR.ok = false by intro h; rw [List.all_eq_false]; exact ⟨f, List.mem_of_getElem? hf, by simp [h]⟩);have HL := za (zcy _ HK.out);obtain ⟨k, s, n', Af, mf, cf, l⟩ := f;dsimp only at x0 x1 x2 x3 HI hm hfo HJ;have hle : (yx k s n' l).length = 12 + 8 * l.length := zbx _ _ _ _;have hok32 := fun h => zhV (f := ⟨k, s, n', Af, mf, cf, l⟩) h;dsimp only at hok32;clear ht1 hf
   have y0 := (At.new wr 47 #[k, s, n', .slice Af mf cf]).four;obtain ⟨y0, y1, y2, y3⟩ := y0;go_wp2_with fail;have HW := za (zg HB.out (.cells #[k, s, n', .slice Af mf cf] 47));have HI1 := za (HI.out.below (zg (Below.refl _ wr) (.cells #[k, s, n', .slice Af mf cf] 47)));have HO1 := za (zaW HO.out (.cells #[k, s, n', .slice Af mf cf] 47));obtain ⟨wa, hwa⟩ := zc (wr.alloc (.cells #[k, s, n', .slice Af mf cf] 47))
   rw [hwa] at HW HI1 HO1 ⊢;clear hwa y0 y1 y2 y3 x0 x1 x2 x3;have hsza := HW.out.size;cases hok : zR k s n' l with
   | false =>
    rw [hok] at hfo;refine (zan k s n' Af mf cf l hm wa HI1.out hok).mono ?_;rintro e w1 ⟨rfl, hb⟩;have HB1 := za (zj HW.out hb);have HF := za (HK0.out hfo);clear hb hok;go_wp2_with fail;exact bodyPost_ret (v := .tuple #[.slice none 0 0, .int .i64 1]) (by simp [results, Tryz.results26, go_sem]) rfl ⟨.inr ⟨HF.out, rfl⟩, HB1.out⟩
   | true =>
    rw [hok] at hfo;have h32 := hok32 hfo;refine (zdm k s n' Af mf cf l hm wa (HT.out.below HW.out) HI1.out hok).mono ?_;rintro e w1 ⟨v1, rfl, ho, hb⟩;have HB1 := za (zj HW.out hb);have HO2 := za (HO1.out.below hb);obtain ⟨A1, c1, rfl, hby⟩ := Vs ho;have HY := za hby;have HKn := za (HK1.out hfo);have hl2 : (Z9 (L.take j)).length ≤ 268 * n := Nat.le_trans HL.out (Nat.mul_le_mul_left _ (by rw [List.length_take]; omega))
    obtain ⟨J1, hJ1⟩ := zc (Z9 (L.take (j + 1)));obtain ⟨J0, hJ0⟩ := zc (Z9 (L.take j));obtain ⟨E0, hE0⟩ := zc (yx k s n' l);rw [hJ1, hJ0, hE0] at HJ;rw [hJ0] at HO2 hl2;rw [hE0] at HY hle;obtain ⟨ne, hne⟩ := zc (E0.length);have hsz1 := HB1.out.size;have hne0 : 0 < ne := by omega
    have hbig : J0.length + ne ≤ 1000000 := by omega
    rw [hne] at HY;rw [hE0, hne];clear hb ho hby hok hle h32 hok32;go_wp2_with (at_builtin; refine wpList_plain rfl (fun K hK => ?_); refine zcO (.tmp 23) (.tmp 24) rfl w.heap.size u4 J0 E0 A1 ne c1 rfl HO2.out rfl hne0 HY.out hbig hsz1 ?_; intro v3 w3 hown hgrow hat; refine hK _ _ ?_; clear hK K; have O3 := za hown; have K3 := za (HB1.out.grown hgrow hsz1 (fun q e => (World.ownsRow.lt HO2.out q e).1)); clear hown hgrow hat)
    rw [← HJ.out, ← hJ1] at O3;go_roundw
    case rel => exact ⟨j + 1, by omega, by go_num, O3, K3, HKn⟩
    case measure => simp [intOf]; omega
  ·obtain rfl : n = j := by omega
   rw [List.take_of_length_le (by omega)] at HO HK;go_wp2_with fail;exact bodyPost_ret (v := .tuple #[u4, .int .i64 0]) (by simp [results, Tryz.results26, go_sem]) rfl ⟨.inl ⟨HK.out, _, rfl, HO.out⟩, HB.out⟩
end
def hU : Int := 16777216
def h1B : List Int := yx 1 1 1 [0, hU]
def h2B : List Int := yx 2 2 1 [hU, hU]
def h3B : List Int := yx 3 3 1 [hU, hU, 3 * hU]
def hB : List Int := h1B ++ (h2B ++ (h3B ++ []))
def hE0 : ES := ⟨false, 0, 0, zeN, 0, 0⟩
theorem zi9 : zR 1 1 1 [0, hU] = true ∧ zR 2 2 1 [hU, hU] = true ∧ zR 3 3 1 [hU, hU, 3 * hU] = true := by decide +kernel
theorem V9 : jA hB = [h1B, h2B, h3B] := by decide +kernel
def zcD (x : ES) (ys : List Int) : Int := jU x (ys.getD 2 0) (Qd ys) (ys.getD 3 0) (dL ys)
def zck (x : ES) (ys : List Int) : zdF := ZA x (ys.getD 2 0) (Qd ys) (ys.getD 3 0) (dL ys)
theorem zbl : zcD (y7 hE0 []) h1B = 0 ∧ zcD (y7 hE0 [h1B]) h2B = 0 ∧ zcD (y7 hE0 [h1B, h2B]) h3B = 0 := by decide +kernel
theorem zbk : (zck (y7 hE0 []) h1B).h = 33 ∧ (zck (y7 hE0 [h1B]) h2B).h = 33 ∧ (zck (y7 hE0 [h1B, h2B]) h3B).h = 33 := by decide +kernel
theorem zig : (y7 hE0 [h1B, h2B, h3B]).on = true ∧ (y7 hE0 [h1B, h2B, h3B]).r.n = 1 ∧ (y7 hE0 [h1B, h2B, h3B]).r.x.map (fun a => (a.v, a.l, a.h, a.bad)) = [(33554433, 33554430, 33554433, false)] := by decide +kernel
theorem zfw : OkE hE0 := ⟨⟨by decide, by decide⟩, fun _ => ⟨rfl, rfl⟩, fun h => by cases h⟩
theorem zgT : QN 33554433 33554430 33554433 false = true ∧ lt2 (hi (sz 33554430) (sz 1)) (lo (sz 33554430) (sz 1)) (hi (sz 2) (sz 16777216)) (lo (sz 2) (sz 16777216)) = true ∧ lt2 (hi (sz 2) (sz 16777216)) (lo (sz 2) (sz 16777216)) (hi (sz 33554433) (sz 1)) (lo (sz 33554433) (sz 1)) = true := by decide +kernel
theorem qB.keepC {w w' : World} {B n : Nat} {x p y s : List Num} {a b c d : Num} {v : Value} (h : qB w B n x p y s a b c d v) (hk : ∀ (b i : Nat) v, w.cell? ⟨b, i, none⟩ = some v → w'.cell? ⟨b, i, none⟩ = some v) : qB w' B n x p y s a b c d v := by
 obtain ⟨A0, c0, A1, m1, c1, B0, d0, B1, k1, d1, e, n0, n1, n2, n3, f⟩ := h;exact ⟨A0, c0, A1, m1, c1, B0, d0, B1, k1, d1, e, n0.keep hk, n1.keep hk, n2.keep hk, n3.keep hk, f⟩
theorem zbf {W W' : World} {row : Option Nat} (hg : W.grownBy W' row) (hr : ∀ r, row = some r → ∃ o : Obj, W.heap[r]? = some o ∧ o.isCells = false) : ∀ (b i : Nat) v, W.cell? ⟨b, i, none⟩ = some v → W'.cell? ⟨b, i, none⟩ = some v := fun b i v hv => by
 have hbl := World.block_lt_of_cell? _ ⟨b, i, none⟩ hv
 rw [World.cell?_of_block (a := ⟨b, i, none⟩) (hg.block b hbl (fun e => by
  obtain ⟨o, h1, h2⟩ := hr b e.symm;have h3 := hv;unfold World.cell? at h3;rw [h1] at h3;cases o <;> simp_all [Obj.isCells]))]
 exact hv
theorem vk.keepC {E : Nat} {bd : Int} {x : ES} {W W' : World} (h : vk E bd x W) (hk : ∀ (b i : Nat) v, W.cell? ⟨b, i, none⟩ = some v → W'.cell? ⟨b, i, none⟩ = some v) (hE : W'.heap[E]? = W.heap[E]?) : vk E bd x W' := by
 obtain ⟨pc, h1, h2, h3, h4⟩ := h;exact ⟨pc, h1, hE.trans h2, fun ho => ⟨(h3 ho).1, (h3 ho).2.keepC hk⟩, h4⟩
theorem vk.row {E : Nat} {bd : Int} {x : ES} {W W' : World} {row : Option Nat} (h : vk E bd x W) (hg : W.grownBy W' row) (hr : ∀ r, row = some r → ∃ o : Obj, W.heap[r]? = some o ∧ o.isCells = false) : vk E bd x W' := by
 have hc := h;obtain ⟨pc, _, h2, _⟩ := hc;exact h.keepC (zbf hg hr) ((qx h2 hg hr).trans (show W.heap[E]? = _ from h2).symm)
theorem StK.row {E : Nat} {bd : Int} {x0 : ES} {b1 b2 : Nat} {A : Option Addr} {n c : Nat} {xs : List Int} {s : List (List Int)} {W W' : World} {row : Option Nat} (h : StK E bd x0 b1 b2 A n c xs s W) (hg : W.grownBy W' row) (hr : ∀ r, row = some r → ∃ o : Obj, W.heap[r]? = some o ∧ o.isCells = false) : StK E bd x0 b1 b2 A n c xs s W' :=
 ⟨h.1.keep (zbf hg hr), qx h.2.1 hg hr, qx h.2.2.1 hg hr, h.2.2.2.1.keep (zbf hg hr), h.2.2.2.2.row hg hr⟩
theorem StK.below {E : Nat} {bd : Int} {x0 : ES} {b1 b2 : Nat} {A : Option Addr} {n c : Nat} {xs : List Int} {s : List (List Int)} {W W' : World} (h : StK E bd x0 b1 b2 A n c xs s W) (hb : Below W.heap.size W W') : StK E bd x0 b1 b2 A n c xs s W' := h.row (zQ hb) (fun r e => by cases e)
theorem StK.next {E : Nat} {bd : Int} {x0 : ES} {b1 b2 : Nat} {A : Option Addr} {n c : Nat} {xs : List Int} {s s' : List (List Int)} {W W' : World} (h : StK E bd x0 b1 b2 A n c xs s W) (k : zE [E] W W') (h0 : 0 < E) (h1 : E ≠ b1) (h2 : E ≠ b2) (h3 : ∀ b o, A = some ⟨b, o, none⟩ → b ≠ E) (he : vk E bd (y7 x0 s') W') : StK E bd x0 b1 b2 A n c xs s' W' :=
 ⟨h.1.touch k (fun q hq => by simp at hq; omega), (k.block _ h.2.1.lt (by simp; omega)).trans h.2.1, (k.block _ h.2.2.1.lt (by simp; omega)).trans h.2.2.1,
  ⟨h.2.2.2.1.1, h.2.2.2.1.2.1, fun hn => by
   obtain ⟨b, o, e, hc⟩ := h.2.2.2.1.2.2 hn;refine ⟨b, o, e, fun j y hj => ?_⟩;have hv := hc j y hj;rw [World.cell?_of_block (a := ⟨b, o + j, none⟩) (k.block b (World.block_lt_of_cell? _ ⟨b, o + j, none⟩ hv) (by have := h3 b o e; simp; omega))];exact hv⟩, he⟩
def NoB (W : World) (g : Nat) : Prop := ∀ i v, W.cell? ⟨g, i, none⟩ = some v → ∀ b : Bool, v ≠ .bool b
theorem NoB.int {W : World} {g : Nat} {t : TypeId} {x : Int} (h : At W g t #[x]) : NoB W g := fun i v hv b e => by
 subst e;rw [h.cell] at hv
 match i, hv with
 | 0, hv => simp at hv
 | i + 1, hv => simp at hv
theorem NoB.sl {W : World} {g : Nat} {t : TypeId} {A : Option Addr} {n c : Nat} (h : At W g t #[.slice A n c]) : NoB W g := fun i v hv b e => by
 subst e;rw [h.cell] at hv
 match i, hv with
 | 0, hv => simp at hv
 | i + 1, hv => simp at hv
theorem zk.nob {W W' : World} {A : Option Addr} {n c g : Nat} {xs : List Num} (h : zk W A n c xs) (hc : NoB W g) (ho : z7 g W W') : zk W' A n c xs :=
 ho.nums h fun b o e hn => by
  rintro rfl;obtain ⟨b', o', x, e', _, _, _, _, h4⟩ := h.at_ (k := 0) hn;rw [e] at e';cases e';exact hc _ _ h4 x.bad rfl
theorem qB.nob {W W' : World} {B g n : Nat} {x p y s : List Num} {a b c d : Num} {v : Value} (h : qB W B n x p y s a b c d v) (hc : NoB W g) (ho : z7 g W W') : qB W' B n x p y s a b c d v := by
 obtain ⟨A0, c0, A1, m1, c1, B0, d0, B1, k1, d1, e, n0, n1, n2, n3, f⟩ := h;exact ⟨A0, c0, A1, m1, c1, B0, d0, B1, k1, d1, e, n0.nob hc ho, n1.nob hc ho, n2.nob hc ho, n3.nob hc ho, f⟩
theorem vk.nob {E g : Nat} {bd : Int} {x : ES} {W W' : World} (h : vk E bd x W) (hc : NoB W g) (hE : E ≠ g) (ho : z7 g W W') : vk E bd x W' := by
 obtain ⟨pc, h1, h2, h3, h4⟩ := h;exact ⟨pc, h1, ho.at_ h2 hE, fun on => ⟨(h3 on).1, (h3 on).2.nob hc ho⟩, h4⟩
theorem z7.bytes {W W' : World} {A : Option Addr} {n c g : Nat} {xs : List Int} (ho : z7 g W W') (h : qw W A n c xs) (hA : ∀ b o, A = some ⟨b, o, none⟩ → 0 < n → b ≠ g) : qw W' A n c xs :=
 ⟨h.1, h.2.1, fun hn => by
  obtain ⟨b, o, e, hc⟩ := h.2.2 hn;exact ⟨b, o, e, fun i x hx => by rw [j4 (ho.block b (hA b o e hn))]; exact hc i x hx⟩⟩
theorem z7.tab {W W' : World} {g : Nat} (ho : z7 g W W') (h : Tab W) (hg : 0 < g) : Tab W' := fun i hi => by
 rw [← h i hi];exact j4 (ho.block 0 (by omega))
theorem StK.nob {E g : Nat} {bd : Int} {x0 : ES} {b1 b2 : Nat} {A : Option Addr} {n c : Nat} {xs : List Int} {s : List (List Int)} {W W' : World} (h : StK E bd x0 b1 b2 A n c xs s W) (hc : NoB W g) (ho : z7 g W W') (h0 : 0 < g) (hE : E ≠ g) (h1 : b1 ≠ g) (h2 : b2 ≠ g) (h3 : ∀ b o, A = some ⟨b, o, none⟩ → 0 < n → b ≠ g) : StK E bd x0 b1 b2 A n c xs s W' :=
 ⟨ho.tab h.1 h0, ho.at_ h.2.1 h1, ho.at_ h.2.2.1 h2, ho.bytes h.2.2.2.1 h3, h.2.2.2.2.nob hc hE ho⟩
theorem qp.of_Q {w : World} {B : Nat} {r : PR} {v : Value} (h : Vh w B r v) (hk : r.ok) : qp w B r v := ⟨hk, h⟩
theorem Vi.q {on : Bool} {w : World} {B : Nat} {r : PR} {v : Value} (h : Vi on w B r v) (ho : on = true) : Vh w B r v := (h ho).2
theorem OkE.pr {x : ES} (h : OkE x) (ho : x.on = true) : x.r.ok := by
 obtain ⟨_, h1, h4, hb, _⟩ := h.run ho;exact zaY hb h1 h4
end Go.Proofs.YtcoiklclbljjeaaGreatDoor.L
