/- Lemmas of the card's proof. -/
import Derived.Test.YtcoiklclbljjeaaGreatDoorM41
set_option linter.unusedVariables false
set_option linter.unusedSimpArgs false
set_option maxRecDepth 100000
set_option maxHeartbeats 16000000
namespace Go.Proofs.YtcoiklclbljjeaaGreatDoor.L
open Go.RowKit
def zcN (E : Nat) (bd : Int) (x : ES) (pc : Array Value) (y : ES) (w w' : World) : Prop :=
 ∃ pc' : Array Value, pc'.size = 24 ∧ At w' E 98 (qN y.on y.pn y.ps pc' y.m y.st bd) ∧ ((pc' = pc ∧ y.r = x.r ∧ y.on = x.on) ∨ (y.on = true ∧ qp w' w.heap.size y.r (.agg pc')))
theorem zac (E : Nat) (bd : Int) (x : ES) (hk : OkE x) (pc : Array Value) (hp : pc.size = 24) (k s n : Int) (A : Option Addr) (mm c : Nat) (l : List Int) (w : World)
  (hA : At w E 98 (qN x.on x.pn x.ps pc x.m x.st bd)) (hr : Vi x.on w (E + 1) x.r (.agg pc)) (hx : zW w A mm c l) (hAE : ∀ q o, A = some ⟨q, o, none⟩ → q ≠ E) (hmm : mm ≤ 1000) :
  Calls Tryz.prog 40 #[.pointer (some ⟨E, 0, none⟩), qL k s n A mm c] w fun e w' => (∃ u, e = .returned (.tuple #[u, .int .i64 (jU x k s n l)]) ∧ qH w' w.heap.size (ZA x k s n l) u) ∧ zE [E] w w' ∧ zcN E bd x pc (QS x k s n l) w w' := by
 by_cases hn : vG x.on x.pn x.ps k s n l = 0
 ·by_cases h3 : x.m = 3 ∧ k ≠ 1
  ·have e : jU x k s n l = 10 := by unfold jU; rw [if_neg (by simpa using hn), if_pos h3]
   refine (VD E x.on x.pn x.ps pc x.m x.st bd hp hk.ps k s n A mm c l hn h3.1 h3.2 w hA hx hAE hmm).mono ?_;rintro e' w' ⟨⟨u, rfl, hu⟩, ht, ha⟩;unfold ZA QS;rw [e, if_neg (by decide), if_neg (by decide)];exact ⟨⟨u, rfl, hu⟩, ht, pc, hp, ha, .inl ⟨rfl, rfl, rfl⟩⟩
  ·have e : jU x k s n l = 0 := by unfold jU; rw [if_neg (by simpa using hn), if_neg h3]
   obtain ⟨hso, hok, hnx⟩ := zcn hn;obtain ⟨hn1, hn4, hs0, hs1, _, _⟩ := zZ hok;obtain ⟨q, rfl⟩ : ∃ q : Nat, n = q := ⟨n.toNat, by omega⟩
   unfold ZA QS;rw [e, if_pos rfl, if_pos rfl]
   have fin : ∀ {y : ES} (e' : Ending) (w' : World), ((∃ u, e' = .returned (.tuple #[u, .int .i64 0]) ∧ qH w' w.heap.size (vU y.m y.r s) u) ∧ zE [E] w w' ∧ ∃ pc', pc'.size = 24 ∧ At w' E 98 (qN true q s pc' y.m y.st bd) ∧ qp w' w.heap.size y.r (.agg pc')) → y.on = true → y.pn = q → y.ps = s →
     ((∃ u, e' = .returned (.tuple #[u, .int .i64 0]) ∧ qH w' w.heap.size (vU y.m y.r s) u) ∧ zE [E] w w' ∧ zcN E bd x pc y w w') := by
    rintro y e' w' ⟨h1, h2, pc', h4, h5, h6⟩ g1 g2 g3;exact ⟨h1, h2, pc', h4, by rw [g1, g2, g3]; exact h5, .inr ⟨g1, h6⟩⟩
   by_cases hk1 : k = 1
   ·subst hk1
    unfold zeu;rw [if_pos rfl, Int.toNat_natCast];have FD := fun (W : World) (a : At W E 98 (qN x.on x.pn x.ps pc x.m x.st bd)) (_ : Vi x.on W (E + 1) x.r (.agg pc)) (i : zW W A mm c l) => zex E x.on x.pn x.ps pc x.m x.st bd hp hk.ps hk.calm s q A mm c l W a i hAE hmm hok hso hn;have MK := fun (B : Nat) (v : Value) (W : World) (o : qp W B (zap q l) v) => YI 0 (.inr (.inl ⟨rfl, by decide, by decide⟩)) s (zap q l) v B W o
    by_cases hm : x.m = 3
    ·exact (zao E x.on x.pn x.ps pc x.m x.st bd hp hk.ps 1 s q A mm c l x.r (zap q l) 1 0 hn ⟨hm, rfl⟩ w hA hr hx hAE hmm FD MK).mono fun e' w' h => fin (y := ⟨true, q, s, zap q l, 1, 0⟩) e' w' h rfl rfl rfl
    ·exact (QJ E x.on x.pn x.ps pc x.m x.st bd hp hk.ps 1 s q A mm c l x.r (zap q l) 1 0 hn hm w hA hr hx hAE hmm FD MK).mono fun e' w' h => fin (y := ⟨true, q, s, zap q l, 1, 0⟩) e' w' h rfl rfl rfl
   ·unfold zeu
    rw [if_neg hk1];obtain ⟨hon, hnp⟩ := hnx hk1;obtain ⟨hm, hr1, hr4, hb, hrn⟩ := hk.run hon
    have hm1 : x.m = 1 ∧ 0 ≤ x.st ∧ x.st ≤ 65536 := by
     rcases hm with hm | hm
     ·exact hm
     ·exact absurd ⟨hm.1, hk1⟩ h3
    have hq : q = x.r.n := by omega
    subst hq;have hb' := VI hk1 hok hso hb;have gp : zii (yc k x.r l) ≤ 0 := by rw [zih hb']; exact Int.le_refl _
    obtain ⟨on, pn, ps, r, m, st⟩ := x;dsimp only at *;obtain ⟨rfl, hst0, hst1⟩ := hm1;subst hon;have AF := fun (W : World) (i : zW W A mm c l) (o : qp W (E + 1) r (.agg pc)) => zgH o hr1 hb hk1 i hok hso
    have go : ∀ (kev m' st' : Int), (∀ (qc : Array Value) (W : World), qc.size = 24 → At W E 98 (qN true r.n s qc 1 st bd) → qp W (E + 1) (yc k r l) (.agg qc) → Calls Tryz.prog 109 #[.pointer (some ⟨E, 0, none⟩), .bool false] W fun e w' => e = .returned (.agg #[kev, .int .i64 (-1)]) ∧ Below W.heap.size W w') →
      (∀ W, Calls Tryz.prog 106 #[ye 1 0 0 st, .agg #[kev, .int .i64 (-1)]] W fun e w' => e = .returned (ye m' 0 0 st') ∧ Below W.heap.size W w') → ((m' : Int) == 2) = false →
      (∀ (B : Nat) (v : Value) (W : World), qp W B (yc k r l) v → Calls Tryz.prog 77 #[ye m' 0 0 st', v, .bool false, s] W fun e w' => (∃ u, e = .returned u ∧ qH w' W.heap.size (vU m' (yc k r l) s) u) ∧ Below W.heap.size W w') →
      Calls Tryz.prog 40 #[.pointer (some ⟨E, 0, none⟩), qL k s r.n A mm c] w fun e w' => (∃ u, e = .returned (.tuple #[u, .int .i64 0]) ∧ qH w' w.heap.size (vU m' (yc k r l) s) u) ∧ zE [E] w w' ∧ zcN E bd ⟨true, pn, ps, r, 1, st⟩ pc ⟨true, r.n, s, yc k r l, m', st'⟩ w w' :=
     fun kev m' st' EV NX hm2 MK => (QJ E true pn ps pc 1 st bd hp hk.ps k s r.n A mm c l r (yc k r l) m' st' hn (by decide) w hA hr hx hAE hmm
      (fun W a o i => zew E pn ps pc st bd hp hk.ps k s r.n A mm c l r (yc k r l) kev m' st' W a (o rfl) i hAE hmm hk1 hn AF gp EV NX hm2) MK).mono fun e' w' h => fin (y := ⟨true, r.n, s, yc k r l, m', st'⟩) e' w' h rfl rfl rfl
    unfold zcS
    by_cases hru : ZB (yc k r l) = true
    ·simp only [hru, if_true]
     exact go 4 3 st (fun qc W h1 h2 h4 => zb6 E true r.n s qc 1 st bd h1 _ _ W h2 h4 hru) (fun W => zeP st hst0 hst1 W) rfl (fun B v W o => YH st (.inr (.inr ⟨rfl, hst0, by omega⟩)) s _ v B W o)
    ·have hru' : ZB (yc k r l) = false := by simpa using hru
     have NX := fun W => zeQ st hst0 hst1 W;simp only [hru', Bool.false_eq_true, if_false]
     by_cases hst : 65536 < st + 1
     ·rw [if_pos hst] at NX ⊢
      exact go 2 3 (st + 1) (fun qc W h1 h2 h4 => J9 E true r.n s qc 1 st bd h1 _ _ W h2 h4 hru') NX rfl (fun B v W o => YH (st + 1) (.inr (.inr ⟨rfl, by omega, by omega⟩)) s _ v B W o)
     ·rw [if_neg hst] at NX ⊢
      exact go 2 1 (st + 1) (fun qc W h1 h2 h4 => J9 E true r.n s qc 1 st bd h1 _ _ W h2 h4 hru') NX rfl (fun B v W o => YI (st + 1) (.inr (.inl ⟨rfl, by omega, by omega⟩)) s _ v B W o)
 ·have e : jU x k s n l = vG x.on x.pn x.ps k s n l := by unfold jU; rw [if_pos hn]
  refine (zbv E x.on x.pn x.ps pc x.m x.st bd hp hk.ps k s n A mm c l _ rfl hn w hA hx hAE hmm).mono ?_;rintro e' w' ⟨⟨u, rfl, hu⟩, ht, ha⟩;unfold ZA QS;rw [e, if_neg hn, if_neg hn];exact ⟨⟨u, rfl, hu⟩, ht, pc, hp, ha, .inl ⟨rfl, rfl, rfl⟩⟩
section
attribute [local go_sem] Oper.semAt_some
def JI (x : ES) (xs : List Int) : Int := if jl xs ≠ 0 then jl xs else jU x (xs.getD 2 0) (Qd xs) (xs.getD 3 0) (dL xs)
def zcC (x : ES) (xs : List Int) : ES := if jl xs ≠ 0 then x else QS x (xs.getD 2 0) (Qd xs) (xs.getD 3 0) (dL xs)
def YV (x : ES) (xs : List Int) : zdF := if jl xs ≠ 0 then Jt else ZA x (xs.getD 2 0) (Qd xs) (xs.getD 3 0) (dL xs)
theorem ziA (xs : List Int) : (dL xs).length ≤ 1000 := by
 unfold dL;rw [zdw];have := zcs (xs.getD 2 0) (xs.getD 3 0);unfold zcG;omega
theorem Tab.ne {w : World} {E : Nat} {on : Bool} {pn ps : Int} {pc : Array Value} {m st bd : Int} (h : Tab w) (hA : At w E 98 (qN on pn ps pc m st bd)) (hp : pc.size = 24) : 0 < E := by
 rcases Nat.eq_zero_or_pos E with e | e
 ·subst e
  have h1 := (Yu hA hp).1;rw [h 0 (by decide)] at h1;cases h1
 ·exact e
theorem Tab.touch {G : List Nat} {w w' : World} (h : Tab w) (k : zE G w w') (hG : ∀ q, q ∈ G → 0 < q) : Tab w' := fun i hi => by
 have hl : 0 < w.heap.size := World.block_lt_of_cell? w ⟨0, i, none⟩ (h i hi);rw [← h i hi];exact j4 (k.block 0 hl (fun hq => by have := hG 0 hq; omega))
theorem zez (E : Nat) (bd : Int) (x : ES) (hk : OkE x) (pc : Array Value) (hp : pc.size = 24) (A : Option Addr) (n c : Nat) (xs : List Int) (hn : n ≤ 10000) (hB : IsB xs) (w : World) (hT : Tab w)
  (hA : At w E 98 (qN x.on x.pn x.ps pc x.m x.st bd)) (hr : Vi x.on w (E + 1) x.r (.agg pc)) (hx : qw w A n c xs) :
  Calls Tryz.prog 15 #[.pointer (some ⟨E, 0, none⟩), .slice A n c] w fun e w' => (∃ u, e = .returned (.tuple #[u, .int .i64 (JI x xs)]) ∧ qH w' w.heap.size (YV x xs) u) ∧ zE [E] w w' ∧ zcN E bd x pc (zcC x xs) w w' := by
 have hu3 := Tryz.underlying47;have hu7 := Tryz.underlying49;have TK := za (fun (k s m : Int) (A : Option Addr) (mm c : Nat) (l : List Int) (W : World) a b i f h => zac E bd x hk pc hp k s m A mm c l W a b i f h);have hEl := hA.lt;have DE := za (fun W h1 h2 => YU A n c xs hn hB W h1 h2);have HT := za hT;have HX := za hx;have HO := za hr;have EA := za hA;have hdl := ziA xs;have FF := za (show (JI x xs = if jl xs ≠ 0 then jl xs else jU x (xs.getD 2 0) (Qd xs) (xs.getD 3 0) (dL xs)) ∧ (zcC x xs = if jl xs ≠ 0 then x else QS x (xs.getD 2 0) (Qd xs) (xs.getD 3 0) (dL xs)) ∧ (YV x xs = if jl xs ≠ 0 then Jt else ZA x (xs.getD 2 0) (Qd xs) (xs.getD 3 0) (dL xs)) from ⟨rfl, rfl, rfl⟩)
 obtain ⟨fe, hfe⟩ : ∃ q, JI x xs = q := ⟨_, rfl⟩
 obtain ⟨fx, hfx⟩ : ∃ q, zcC x xs = q := ⟨_, rfl⟩
 obtain ⟨fr, hfr⟩ : ∃ q, YV x xs = q := ⟨_, rfl⟩
 rw [hfe, hfx, hfr] at FF;rw [hfe, hfx, hfr];clear hx hA hr hT hfe hfx hfr;unfold qL at TK;go_enter Tryz.func15, Tryz.ntmps15;go_wp2_with fail;obtain ⟨W0, hW0⟩ := zc ((w.alloc (.cells #[.int .i64 0, .int .i64 0, .slice none 0 0, .slice none 0 0] 49)));obtain ⟨bx, b0, hsz⟩ := zV hW0;rw [hW0];clear hW0;have F := za ((Off.startG (G := [E]) (by simp; exact hEl) b0 hsz).argGO b0 (HO.out) (by simp));have BX := za bx
 have BB := za b0;clear bx b0 hsz;obtain ⟨g, hg⟩ := zc (w.heap.size);rw [hg] at F BX
 try simp only [hg]
 have hW0 := BB.out;replace EA := za (EA.out.below hW0);clear BB;have hEg : E < g := by rw [← hg]; exact hEl
 refine (DE.out _ (HT.out.below hW0) (HX.out.below hW0)).mono ?_;rintro e w1 (⟨he, rfl, hb⟩ | ⟨he, A', m', c', rfl, hi, hb, hf⟩)
 case inl =>
  replace F := zd F hb;replace BX := ze BX hb;replace EA := za (EA.out.below hb);clear hb;have h0 : ((jl xs : Int) != 0) = true := bne_iff_ne.mpr he;obtain ⟨f1, f2, f3⟩ := FF.out;rw [if_pos he] at f1 f2 f3;clear FF;subst f2 f3;rw [← f1] at h0 ⊢;clear f1 he;have A9 := za ((BX.out.1).alloc (.cells #[.int .i64 0, .int .i64 0, .int .i64 0, .slice none 0 0] 47));have E9 := za (EA.out.alloc (.cells #[.int .i64 0, .int .i64 0, .int .i64 0, .slice none 0 0] 47))
  have B9 := za ((F.out.out.1).below (zg (Below.refl w1.heap.size w1) (.cells #[.int .i64 0, .int .i64 0, .int .i64 0, .slice none 0 0] 47)));have y0 := A9.out.cell 0;have z0 := A9.out.frozen 0;have y1 := A9.out.cell 1;have z1 := A9.out.frozen 1;have y2 := A9.out.cell 2;have z2 := A9.out.frozen 2;have y3 := A9.out.cell 3;have z3 := A9.out.frozen 3;unfold qL;go_wp2_with fail;clear y0 z0 y1 z1 y2 z2 y3 z3
  obtain ⟨d0, d1, d2, d3⟩ := (A9.out.set4 (.int .i64 0) (.int .i64 0) (.slice none 0 0) (.slice none 0 0)).four;have B8 := (((B9.out.set (g := g) (.inr (by omega)) 0 (.int .i64 0)).set (g := g) (.inr (by omega)) 1 (.int .i64 0)).set (g := g) (.inr (by omega)) 2 (.slice none 0 0)).set (g := g) (.inr (by omega)) 3 (.slice none 0 0);exact bodyPost_ret (v := .tuple #[.agg #[.int .i64 0, .int .i64 0, .slice none 0 0, .slice none 0 0], fe]) (by simp [results, Tryz.results15, go_sem, d0, d1, d2, d3]) rfl ⟨⟨_, rfl, qH.zero _ _⟩, by first | exact B8 | (rw [hg]; exact B8), pc, hp, E9.out.far4 (by omega) _ _ _ _, .inl ⟨rfl, rfl, rfl⟩⟩
 case inr =>
  have hAE : ∀ q o, A' = some ⟨q, o, none⟩ → q ≠ E := fun q o e => by have := hf q o e; have := F.out.hiw; omega
  replace F := za (F.out.gotI hb hi hf);replace BX := ze BX hb;replace EA := za (EA.out.below hb);clear hb hi hf;obtain ⟨f1, f2, f3⟩ := FF.out;rw [if_neg (by omega)] at f1 f2 f3;clear FF;obtain ⟨k, hk'⟩ := zc (xs.getD 2 0);obtain ⟨s, hs'⟩ := zc (Qd xs);obtain ⟨q, hq'⟩ := zc (xs.getD 3 0);obtain ⟨l, hl'⟩ := zc (dL xs);rw [hk', hs', hq', hl'] at f1 f2 f3;rw [hk', hs', hq'] at *;rw [hl'] at F hdl;clear hk' hs' hq' hl' he
  have hmm : m' ≤ 1000 := by have := (F.out.out.2).1; omega
  have Q9 := At.new w1 47 #[k, s, q, .slice A' m' c'];have x0 := Q9.cell 0;have x1 := Q9.cell 1;have x2 := Q9.cell 2;have x3 := Q9.cell 3;unfold qL;go_wp2_with fail;clear Q9 x0 x1 x2 x3;obtain ⟨Xb6, hXb6⟩ := zc (w1.alloc (.cells #[k, s, q, .slice A' m' c'] 47));obtain ⟨bx, b0, hsz⟩ := zV hXb6;rw [hXb6];have lb6 := F.out.hiw;replace F := za (F.out.gotA b0 bx );replace BX := ze BX b0;replace EA := za (EA.out.below b0)
  obtain ⟨b6, hb6⟩ := zc (w1.heap.size);rw [hb6] at F lb6
  try simp only [hb6]
  clear bx b0 hsz hb6 hXb6;have TK1 := TK.out k s q A' m' c' l _ EA.out F.out.out.1.1.2 F.out.out.1.2 hAE hmm;rw [← f1, ← f2, ← f3] at TK1;clear TK f1 f2 f3;obtain ⟨rh, rq, rX, rD⟩ := fr;have hbq : g + 1 ≤ Xb6.heap.size := F.out.hiw;refine TK1.mono ?_;rintro e w3 ⟨⟨u, rfl, v1, v2, rfl, ho1, ho2⟩, ht, qc, hq, hA2, hor⟩;clear TK1;obtain ⟨a1, a2, a3, rfl⟩ := jQ ho1;obtain ⟨b1, b2, b3, rfl⟩ := jQ ho2;have RC := za (show qH _ _ ⟨rh, rq, rX, rD⟩ _ from ⟨_, _, rfl, ho1, ho2⟩)
  clear ho1 ho2;replace F := za (F.out.touch ht);replace BX := za (BX.out.touch ht F.out.gl);replace EA := za hA2;clear ht hA2;have HOR := za hor;clear hor;have y0 := (BX.out.1).cell 0;have zy0 := (BX.out.1).frozen 0;have y1 := (BX.out.1).cell 1;have zy1 := (BX.out.1).frozen 1;have y2 := (BX.out.1).cell 2;have zy2 := (BX.out.1).frozen 2;have y3 := (BX.out.1).cell 3;have zy3 := (BX.out.1).frozen 3;go_wp2_with fail
  clear y0 zy0 y1 zy1 y2 zy2 y3 zy3;have O9 := z7.all4 g w3 rh rq (.slice a1 a2 a3) (.slice b1 b2 b3);replace EA := za (EA.out.far4 (q := g) (by omega) rh rq (.slice a1 a2 a3) (.slice b1 b2 b3));replace RC := za (RC.out.only (z7.all4 (g) _ rh rq (.slice a1 a2 a3) (.slice b1 b2 b3)) (by omega));replace F := za (F.out.set4 (g := g) (.inl (by omega)) rh rq (.slice a1 a2 a3) (.slice b1 b2 b3));replace BX : Hid (zK ((((w3.setCell ⟨g, 0, none⟩ rh).setCell ⟨g, 1, none⟩ rq).setCell ⟨g, 2, none⟩ (.slice a1 a2 a3)).setCell ⟨g, 3, none⟩ (.slice b1 b2 b3)) g [(49, #[rh, rq, .slice a1 a2 a3, .slice b1 b2 b3])]) := za (BX.out.put4 0 rfl rh rq (.slice a1 a2 a3) (.slice b1 b2 b3))
  obtain ⟨w6, hw6⟩ := zc (((((w3.setCell ⟨g, 0, none⟩ rh).setCell ⟨g, 1, none⟩ rq).setCell ⟨g, 2, none⟩ (.slice a1 a2 a3)).setCell ⟨g, 3, none⟩ (.slice b1 b2 b3)));rw [hw6] at F BX EA RC O9 ⊢;clear hw6;have y0 := (BX.out.1).cell 0;have y1 := (BX.out.1).cell 1;have y2 := (BX.out.1).cell 2;have y3 := (BX.out.1).cell 3;exact bodyPost_ret (v := .tuple #[.agg #[rh, rq, .slice a1 a2 a3, .slice b1 b2 b3], fe]) (by simp [results, Tryz.results15, go_sem, y0, y1, y2, y3]) rfl ⟨⟨_, rfl, by first | exact (RC.out.base (by omega)) | (rw [hg]; exact (RC.out.base (by omega)))⟩, by first | exact F.out.out.1.1.1 | (rw [hg]; exact F.out.out.1.1.1), qc, hq, EA.out, HOR.out.imp id (fun ⟨z1, z2⟩ => ⟨z1, by first | exact ((z2.only O9 (by omega)).base (by omega)) | (rw [hg]; exact ((z2.only O9 (by omega)).base (by omega)))⟩)⟩
end
section
variable {F : Fence} {n : Nat} {P : Program}
def zku {σ : Type} (F : Fence) (n : Nat) (P : Program) (g : Nat) (lb : Array Value) (Kp : σ → World → Prop) (s0 : σ) (Y : σ → World → Array Value → σ → World → Prop) (T : σ → Prop) (Z : σ → World → World → Prop) : Prop :=
 ∀ (l : Nat) (J : σ → World → Prop) (W : World), (∀ s W', J s W' → Kp s W') →
  (∀ s s' args W0 W1, J s W0 → Y s W0 args s' W1 → YieldAt F (n - 1) P l args W1 fun e W' => e = .returned (.bool true) ∧ J s' W') →
  J s0 W → CallsIn F n P g (#[.func (.yield l) #[] #[]] ++ lb) W fun e W' => (∃ v, e = .returned v) ∧ ∃ s W2, T s ∧ J s W2 ∧ Z s W2 W'
theorem zdH {σ : Type} {g : Operand} {ps : Array Tmp} {assign body : Code} {Q : Exit → Act → World → Prop} {a : Act} {w : World}
  (hro : F.round = none) (h1 : 1 ≤ n) {gf : Nat} {lb : Array Value} (hg : a.eval g = .func (.func gf) #[] lb) (hFg : F.fn gf) (eg : ∀ args w, (callFunc gf args).run P w = .ok (.enter gf args) w)
  {Kp : σ → World → Prop} {s0 : σ} {Y : σ → World → Array Value → σ → World → Prop} {T : σ → Prop} {Z : σ → World → World → Prop} (hseq : zku F (n - 1) P gf lb Kp s0 Y T Z) (hYK : ∀ s W0 args s' W1, Y s W0 args s' W1 → KeepsFrom 0 W0 W1) (hZK : ∀ s W W', Z s W W' → KeepsFrom 0 W W') (hps : ∀ s W0 args s' W1, Y s W0 args s' W1 → args.size = ps.size)
  (I : σ → World → Prop) (hIK : ∀ s W, I s W → Kp s W) (hI : ∀ s W W' row, I s W → W.grownBy W' row → (∀ r, row = some r → w.heap.size ≤ r ∧ r < w.heap.size + 2 ∧ ∃ o : Obj, W.heap[r]? = some o ∧ o.isCells = false) → I s W') (hIZ : ∀ s W W', T s → I s W → Z s W W' → I s W') (h0 : I s0 w)
  (hround : ∀ (l : Nat) (s s' : σ) (args : Array Value) (W0 W1 : World), w.heap.size ≤ l → l < w.heap.size + 2 → w.heap.size + 2 ≤ W0.heap.size → I s W0 → (∃ r, W0.heap[l]? = some (.loop r)) → Y s W0 args s' W1 →
   assign.wpIn (F.inRound l) (n - 1 - 1) P (Exit.then (fun a' Wa => KeepsFrom w.heap.size W1 Wa ∧ ∀ W2, Wa.grownBy W2 (some l) → (∃ o : Obj, Wa.heap[l]? = some o ∧ o.isCells = false) → (∃ r, W2.heap[l]? = some (.loop r)) → body.wpIn (F.inRound l) (n - 1 - 1) P (YF w.heap.size W2 (I s')) a' W2) (fun _ _ _ => False))
    { tmps := (ps.zip args).foldl (fun t (p, v) => t.setIfInBounds p v) a.tmps, defers := [] } W1)
  (hdone : ∀ (D : Nat) (s : σ) (W : World), w.heap.size ≤ D → D < w.heap.size + 2 → T s → I s W → W.heap[D]? = some (.deferred (some [])) → Q .normal { a with defers := { target := .collected D, args := #[] } :: a.defers } W) :
  (Code.rangeFunc g ps assign body).wpIn F n P Q a w := by
 refine wpIn_rangeFunc fun fn hfn => ?_;rw [hro];obtain ⟨rc, hrc⟩ : ∃ rc : Loop, rc = { state := .ready, pending := none, fn, tmps := a.tmps, params := ps, assign, body, defers := w.heap.size } := ⟨_, rfl⟩
 obtain ⟨W1, hW1⟩ := zc ((w.alloc (.deferred (some []))).alloc (.loop rc))
 have hL1 : W1.heap[w.heap.size + 1]? = some (.loop rc) := by
  exact XaZ
 have hD1 : W1.heap[w.heap.size]? = some (.deferred (some [])) := by
  exact Xbi
 have hI1 : I s0 W1 := by
  exact Xby
 refine ⟨w.heap.size + 1, [{ target := .collected w.heap.size, args := #[] }], W1, { target := .fn (.func gf) lb, args := #[.func (.yield (w.heap.size + 1)) #[] #[]] }, W1, gf,
  #[.func (.yield (w.heap.size + 1)) #[] #[]] ++ lb, W1, ?_, ?_, ?_, ?_, fun _ => h1, ?_⟩
 ·rw [← hW1, hrc]; exact run_enterLoop_outer _ _ _ _ _
 ·simp only [resolve, hg]
  simp [go_sem]
 ·intro f' hf'; simp [Target.leads] at hf'; subst hf'; exact hFg
 ·simp [invoke, go_sem, eg]
 ·refine (hseq (w.heap.size + 1) (fun s W => I s W ∧ W.heap[w.heap.size + 1]? = some (.loop rc) ∧ W.heap[w.heap.size]? = some (.deferred (some []))) W1 (fun s W h => hIK _ _ h.1) ?_ ⟨hI1, hL1, hD1⟩).mono ?_
  ·rintro s s' args W0 Wy ⟨hi, hl, hd⟩ hy
   have hb := hYK _ _ _ _ _ hy;have hl0 : w.heap.size + 1 < W0.heap.size := (Array.getElem?_eq_some_iff.1 hl).1;have hly := hb.same _ _ (Nat.zero_le _) hl rfl;have hdy := hb.same _ _ (Nat.zero_le _) hd rfl;have hr := hround (w.heap.size + 1) s s' args W0 Wy (by omega) (by omega) (by omega) hi ⟨_, hl⟩ hy;obtain ⟨fn', t', as', bo', hyy, hR⟩ := Yy hfn (by rw [hly, hrc]) (hps _ _ _ _ _ hy) (show w.heap.size ≤ w.heap.size + 1 by omega) hr
   refine ⟨fn', t', as', bo', hyy, hR.mono ?_⟩;rintro e W' ⟨rfl, W3, hi3, hg3, ho3, hk⟩;refine ⟨rfl, hI _ _ _ _ hi3 hg3 (fun r e => by cases e; exact ⟨by omega, by omega, ho3⟩), hk.same _ _ (by omega) hly rfl, hk.same _ _ (Nat.le_refl _) hdy rfl⟩
  ·rintro e W' ⟨⟨v, rfl⟩, s, W2, hT, ⟨hi, hl, hd⟩, hz⟩
   have hb := hZK _ _ _ hz;have hl0 : w.heap.size + 1 < W2.heap.size := (Array.getElem?_eq_some_iff.1 hl).1;have hly := hb.same _ _ (Nat.zero_le _) hl rfl;have hdy := hb.same _ _ (Nat.zero_le _) hd rfl;refine ⟨none, _, by have := run_endLoop (P := P) hly (by rw [hrc]; simp); rw [hrc] at this; exact this, ?_⟩;exact hdone _ s _ (Nat.le_refl _) (by omega) hT (hI _ _ _ _ (hIZ _ _ _ hT hi hz) (grownBy_putObj' _ _ _) (fun r e => by cases e; exact ⟨by omega, by omega, _, hly, rfl⟩)) ((World.putObj_heap_other (by omega)).trans hdy)
end
theorem Xbd {P : Prop} (h : P := by
 gi_wp2_with fail;go_roundw
 case rel => exact ⟨j + 1, pre, W2, by omega, by go_num, hjj, HW1, HP1⟩
 case measure => simp [intOf]; omega) : P := h
section
attribute [local go_sem] Oper.semAt_some
theorem yS {P : Program} {b : Frame} {a : Act} {k : List Go.Item} {cs : List Frame} {w : World} {c : Code} : step P (lone (b.atR a (.code (.scope c) :: k)) cs w) = .next (lone (b.atR a (.code c :: .inScope c :: k)) cs w) :=
 step_lone_go (by simp [stepG, stepG.exec, Frame.atR])
theorem zbU {P : Program} {b : Frame} {a : Act} {k : List Go.Item} {cs : List Frame} {w : World} {c : Code} : step P (lone (b.atR a (.inScope c :: k)) cs w) = .next (lone (b.atR a k) cs w) :=
 step_lone_go (by simp [stepG, stepG.exec, Frame.atR])
theorem JT {F : Fence} {n : Nat} {P : Program} {Q : Exit → Act → World → Prop} {a : Act} {w : World} {c : Code} (h : c.wpIn F n P (Exit.noGoto Q) a w) : (Code.scope c).wpIn F n P Q a w := by
 intro b k cs hro hb hr;have h0 : (lone (b.atR a (.code (.scope c) :: k)) cs w).fenced P F := fenced_calm hb hr rfl;obtain ⟨e, a₁, w₁, hq, harr⟩ := h b (.inScope c :: k) cs hro hb hr;cases e with
 | normal => exact ⟨.normal, a₁, w₁, hq, .head h0 yS (StepsIn.trans harr (.one (fenced_calm hb hr rfl) zbU))⟩
 | exit id' =>
  have hx : exitTo id' (.inScope c :: k) = exitTo id' k := by simp [exitTo]
  exact ⟨.exit id', a₁, w₁, hq, fun k' hk => .head h0 yS (harr.1 k' (by rw [hx]; exact hk)),
   fun hr' hk => let ⟨k₁, h1, h2⟩ := harr.2 hr' (by rw [hx]; exact hk); ⟨k₁, h1, .head h0 yS h2⟩⟩
 | goto l => exact hq.elim
 | ret => exact ⟨_, a₁, w₁, hq, .of_steps (.one h0 yS) harr⟩
 | panic ch => exact ⟨_, a₁, w₁, hq, .of_steps (.one h0 yS) harr⟩
 | outgrown => exact ⟨_, a₁, w₁, hq, .of_steps (.one h0 yS) harr⟩
def vn (l : List Int) : Nat := (sizeOf l).toNat
def ZE : Nat → List Int → List (List Int)
 | 0, _ => []
 | f + 1, l => if l = [] then [] else if vn l = 0 ∨ l.length < vn l ∨ jl (l.take (vn l)) ≠ 0 then ZE f l.tail else l.take (vn l) :: ZE f (l.drop (vn l))
theorem y8 : ∀ (f g : Nat) (l : List Int), l.length ≤ f → l.length ≤ g → ZE f l = ZE g l
 | 0, g, l, h, _ => by
  obtain rfl : l = [] := List.eq_nil_of_length_eq_zero (by omega);cases g <;> rfl
 | f + 1, 0, l, _, h => by
  obtain rfl : l = [] := List.eq_nil_of_length_eq_zero (by omega);rfl
 | f + 1, g + 1, l, h1, h2 => by
  unfold ZE
  by_cases e : l = []
  ·rw [if_pos e, if_pos e]
  ·have hl : 0 < l.length := List.length_pos_iff.2 e
   rw [if_neg e, if_neg e]
   split
   ·exact y8 f g _ (by rw [List.length_tail]; omega) (by rw [List.length_tail]; omega)
   ·rename_i h
    have hk : vn l ≠ 0 := fun e => h (.inl e);rw [y8 f g (l.drop (vn l)) (by rw [List.length_drop]; omega) (by rw [List.length_drop]; omega)]
def jA (l : List Int) : List (List Int) := ZE l.length l
theorem zfa : jA [] = [] := rfl
theorem zd0 {l : List Int} (hl : l ≠ []) (h : vn l = 0 ∨ l.length < vn l ∨ jl (l.take (vn l)) ≠ 0) : jA l = jA l.tail := by
 have h0 : 0 < l.length := List.length_pos_iff.2 hl;unfold jA;rw [y8 l.length ((l.length - 1) + 1) l (Nat.le_refl _) (by omega)]
 conv => lhs; unfold ZE
 rw [if_neg hl, if_pos h, List.length_tail]
theorem zdZ {l : List Int} (hl : l ≠ []) (h : ¬ (vn l = 0 ∨ l.length < vn l ∨ jl (l.take (vn l)) ≠ 0)) : jA l = l.take (vn l) :: jA (l.drop (vn l)) := by
 have h0 : 0 < l.length := List.length_pos_iff.2 hl;unfold jA;rw [y8 l.length ((l.length - 1) + 1) l (Nat.le_refl _) (by omega)]
 conv => lhs; unfold ZE
 have hk : vn l ≠ 0 := fun e => h (.inl e);rw [if_neg hl, if_neg h, y8 (l.length - 1) (l.drop (vn l)).length _ (by rw [List.length_drop]; omega) (Nat.le_refl _)]
def FrY (P : List (List Int)) (pre : List (List Int)) (W0 : World) (args : Array Value) (pre' : List (List Int)) (W1 : World) : Prop :=
 Below W0.heap.size W0 W1 ∧ ∃ (ys : List Int) (q : Int) (A : Option Addr) (m c : Nat), pre' = pre ++ [ys] ∧ pre' <+: P ∧ jl ys = 0 ∧ args = #[.int .i64 q, qL (ys.getD 2 0) (Qd ys) (ys.getD 3 0) A m c] ∧ zW W1 A m c (dL ys) ∧ ∀ b o, A = some ⟨b, o, none⟩ → W0.heap.size ≤ b
theorem FrY.size {P : List (List Int)} : ∀ s W0 args s' W1, FrY P s W0 args s' W1 → args.size = 2 := by
 rintro s W0 args s' W1 ⟨_, ys, q, A, m, c, _, _, _, rfl, _⟩; rfl
def FrK (h : Nat) (A : Option Addr) (n c : Nat) (xs : List Int) (W : World) : Prop := Tab W ∧ At W h 41 #[.slice A n c] ∧ qw W A n c xs
theorem FrK.below {h : Nat} {A : Option Addr} {n c : Nat} {xs : List Int} {W W' : World} (k : FrK h A n c xs W) (b : Below W.heap.size W W') : FrK h A n c xs W' := ⟨k.1.below b, k.2.1.below b, k.2.2.below b⟩
theorem At.one {w : World} {g : Nat} {t : TypeId} {a : Value} (h : At w g t #[a]) : w.cell? ⟨g, 0, none⟩ = some a := h.cell 0
theorem zgU (m : Nat) (h : Nat) (A : Option Addr) (n c : Nat) (xs : List Int) (hn : n ≤ 10000) (hB : IsB xs) :
  zku Fence.wide (m + 2) Tryz.prog 94 #[.pointer (some ⟨h, 0, none⟩)] (fun _ W => FrK h A n c xs W) ([] : List (List Int)) (FrY (jA xs)) (fun s => s = jA xs) (fun _ W W' => Below W.heap.size W W') := by
 intro lp J V hJ hY h0;have HJ := za hJ;have HY := za hY;have HB := za hB;have hu := Tryz.underlying47;have hu1 := Tryz.underlying41;have hlen := (hJ _ _ h0).2.2.1;clear hJ hY hB;refine callsIn_of_wp Tryz.func94 rfl trivial ?_ rfl;simp only [Tryz.ntmps94, List.size_toArray, List.length_cons, List.length_nil, Nat.reduceAdd, Nat.reduceSub, Array.replicate_succ, Array.replicate_zero, List.push_toArray, List.append_toArray, List.nil_append, List.cons_append]
 gi_wp2;refine JT ?_;refine wpIn_seq_k fun K hK => ?_;refine wpIn_label ?_;refine hK _ _ ?_;clear hK K;gi_wp2
 gi_loopw [3, 4, 5, 6] (fun i _ _ _ wr => ∃ (j : Nat) (pre : List (List Int)) (W2 : World), j ≤ n ∧ i = .int .i64 j ∧ Hid (J pre W2) ∧ Hid (Below W2.heap.size W2 wr) ∧ Hid (pre ++ jA (xs.drop j) = jA xs)) (fun i _ _ _ _ => n - (intOf i).toNat)
 case atStart => exact ⟨0, [], _, by omega, rfl, h0, za (Below.refl _ _), za rfl⟩
 case round =>
  obtain ⟨j, pre, W2, hj, rfl, hjj, HW, HP⟩ := hrel;have KK := za ((HJ.out _ _ hjj.out).below HW.out);have HT := za KK.out.1;have HX := za KK.out.2.2;have b0 := KK.out.2.1.one
  by_cases hlt : j < n
  ·have hltI : (j : Int) < (n : Int) := by omega
   have hnc := HX.out.2.1;have hc1 : ¬ c = j := by omega
   have hc2 : ¬ j = c := by omega
   obtain ⟨b, o, rfl, _⟩ := HX.out.2.2 (by omega);have HR := za (HX.out.rest j (n - j) (by omega));have hdn : xs.drop j ≠ [] := by intro e; have := congrArg List.length e; rw [List.length_drop] at this; simp at this; omega
   have hdl : (xs.drop j).length = n - j := by rw [List.length_drop, hlen]
   have htl : (xs.drop j).tail = xs.drop (j + 1) := by rw [List.tail_drop]
   have HBR := za (show IsB (xs.drop j) from fun x hx => HB.out x (List.mem_of_mem_drop hx));have PS := za (fun h => zd0 hdn h);have PT := za (fun h => zdZ hdn h);have hz0 := Yn ((xs.drop j).getD 2 0) ((xs.drop j).getD 3 0)
   have hzz : sizeOf (xs.drop j) = 0 ∨ (12 ≤ sizeOf (xs.drop j) ∧ sizeOf (xs.drop j) ≤ 268) := by
    unfold sizeOf
    split
    ·exact .inl rfl
    ·split
     ·split
      ·exact .inl rfl
      ·exact .inr ⟨by omega, by omega⟩
     ·exact .inl rfl
   have hsk : vn (xs.drop j) = (sizeOf (xs.drop j)).toNat := rfl;rw [hsk, hdl, htl] at PS;rw [hsk, hdl] at PT;have hSZ := fun W h => zgA (some ⟨b, o + j, none⟩) (n - j) (c - j) (xs.drop j) (by omega) HBR.out W h;obtain ⟨z, hz⟩ := zc (sizeOf (xs.drop j));rw [hz] at hSZ PS PT hzz;have SZ := za hSZ;clear hSZ hsk hz0 hz;gi_wp2_with fail;refine ⟨trivial, (zC (m + 1) (SZ.out wr HR.out)).mono ?_⟩;rintro e w1 ⟨rfl, hb1⟩
   have HW1 := za (zj HW.out hb1);have KK1 := za (KK.out.below hb1);have b1 := KK1.out.2.1.one;clear b0 hb1 SZ HR
   by_cases hz0 : z = 0
   ·have HP1 := za (show pre ++ jA (xs.drop (j + 1)) = jA xs by rw [← PS.out (.inl (by omega))]; exact HP.out)
    subst hz0;clear hzz PS PT;exact Xbd
   by_cases hzb : (n : Int) - (j : Int) < z
   ·have HP1 := za (show pre ++ jA (xs.drop (j + 1)) = jA xs by rw [← PS.out (.inr (.inl (by omega)))]; exact HP.out)
    clear PS PT;exact Xbd
   obtain ⟨k, rfl⟩ : ∃ k : Nat, z = (k : Int) := ⟨z.toNat, by omega⟩
   have hk0 : 12 ≤ k := by omega
   have hkn : j + k ≤ n := by omega
   have HM := za (KK1.out.2.2.mid j k hkn);have hdt : (xs.take (j + k)).drop j = (xs.drop j).take k := by rw [List.drop_take, Nat.add_sub_cancel_left]
   rw [hdt] at HM;rw [Int.toNat_natCast] at PS PT;clear hdt hzz;have hk00 : ((k : Int) == 0) = false := by rw [beq_eq_false_iff_ne]; omega
   have hjk : ¬ c < j + k := by omega
   gi_wp2_with fail;have hkl : ((xs.drop j).take k).length = k := by rw [List.length_take, hdl]; omega
   have HMk := za (show qw w1 (some ⟨b, o + j, none⟩) k k ((xs.drop j).take k) from ⟨hkl, Nat.le_refl _, HM.out.2.2⟩);have HBk := za (show IsB ((xs.drop j).take k) from HBR.out.upto k);obtain ⟨ys, hys⟩ := zc ((xs.drop j).take k);rw [hys] at HMk HBk PS PT;rw [List.drop_drop] at PT;refine ⟨trivial, (zC (m + 1) (YU _ k k ys (by omega) HBk.out w1 KK1.out.1 HMk.out)).mono ?_⟩;rintro e w2 (⟨hne, rfl, hb2⟩ | ⟨he0, Af, mf, cf, rfl, hif, hb2, hfr⟩)
   ·have HP1 := za (show pre ++ jA (xs.drop (j + 1)) = jA xs by rw [← PS.out (.inr (.inr hne))]; exact HP.out)
    have HW2 := za (zj HW1.out hb2);obtain ⟨r, hr⟩ := zc (jl ys);rw [hr] at hne ⊢;unfold qL;have hrb : (r == 0) = false := by rw [beq_eq_false_iff_ne]; exact hne
    clear PS PT HM HMk HBk hb2 b1 hr;gi_wp2_with fail;have HW3 := za (zg HW2.out (.cells #[.int .i64 0, .int .i64 0, .int .i64 0, .slice none 0 0] 47));go_roundw
    case rel => exact ⟨j + 1, pre, W2, by omega, by go_num, hjj, HW3, HP1⟩
    case measure => simp [intOf]; omega
   ·have hPT := PT.out (by rintro (h | h | h); omega; omega; exact h he0)
    have HP1 := za (show (pre ++ [ys]) ++ jA (xs.drop (j + k)) = jA xs by rw [List.append_assoc, List.singleton_append, ← hPT]; exact HP.out);have HW2 := za (zj HW1.out hb2);obtain ⟨fk, hfk⟩ : ∃ x, ys.getD 2 0 = x := ⟨_, rfl⟩
    obtain ⟨fs, hfs⟩ : ∃ x, Qd ys = x := ⟨_, rfl⟩
    obtain ⟨fn, hfn⟩ : ∃ x, ys.getD 3 0 = x := ⟨_, rfl⟩
    have HW3 := za (zg HW2.out (.cells #[.int .i64 fk, .int .i64 fs, .int .i64 fn, .slice Af mf cf] 47));have hy := za (HY.out pre (pre ++ [ys]) _ W2 _ hjj.out ⟨HW3.out, ys, (j : Int), Af, mf, cf, rfl, ⟨_, HP1.out⟩, he0, rfl, hif.below (zg (Below.refl _ w2) _), fun q o e => by have := hfr q o e; have := HW1.out.size; omega⟩);rw [hfk, hfs, hfn] at hy;rw [hfk, hfs, hfn];unfold qL at hy ⊢;have y4 := (At.new w2 47 #[.int .i64 fk, .int .i64 fs, .int .i64 fn, .slice Af mf cf]).four
    obtain ⟨y0, y1, y2, y3⟩ := y4;obtain ⟨gf, tm, asg, bdy, hyy, hR⟩ := hy.out;clear hPT PS PT HM HMk HBk hb2 b1 hif hfr he0 hfk hfs hfn hy;gi_wp2_with fail;refine hR.mono ?_;rintro e W3 ⟨rfl, hJ3⟩;have HJ3 := za hJ3;clear hJ3 hR hyy y0 y1 y2 y3;gi_wp2_with fail;go_roundw
    case rel => exact ⟨j + k, pre ++ [ys], W3, by omega, by go_num, HJ3, za (Below.refl _ _), HP1⟩
    case measure => simp [intOf]; omega
  ·obtain rfl : n = j := by omega
   have hPE : pre = jA xs := by have h := HP.out; rw [List.drop_of_length_le (by omega), zfa, List.append_nil] at h; exact h
   gi_wp2_with fail;unfold Exit.noGoto
   go_end0
   exact ⟨⟨_, rfl⟩, _, W2, hPE, hjj.out, HW.out⟩
end
section
variable {F : Fence} {n : Nat} {P : Program}
def zkv {σ : Type} (F : Fence) (n : Nat) (P : Program) (g : Nat) (lb : Array Value) (Kp : σ → World → Prop) (s0 : σ) (Y : σ → World → Array Value → σ → World → Prop) (T : σ → Prop) (Z : σ → World → World → Prop) : Prop :=
 ∀ (l : Nat) (J : Nat → σ → World → Prop) (W : World), (∀ N s W', J N s W' → Kp s W') → (∀ N s X X' row, J N s X → X.grownBy X' row → (∀ r, row = some r → W.heap.size ≤ r ∧ r < N ∧ ∃ o : Obj, X.heap[r]? = some o ∧ o.isCells = false) → J N s X') →
  (∀ N s s' args W0 W1, J N s W0 → N ≤ W0.heap.size → Y s W0 args s' W1 → YieldAt F (n - 3) P l args W1 fun e W' => e = .returned (.bool true) ∧ J N s' W' ∧ KeepsFrom W.heap.size W1 W' ∧ ∀ k, W.heap.size ≤ k → k < N → W'.heap[k]? = W1.heap[k]?) →
  (∀ N, W.heap.size ≤ N → J N s0 W) → CallsIn F n P g (#[.func (.yield l) #[] #[]] ++ lb) W fun e W' => (∃ v, e = .returned v) ∧ ∃ N s W2, T s ∧ J N s W2 ∧ Z s W2 W'
theorem zdI {σ : Type} {g : Operand} {ps : Array Tmp} {assign body : Code} {Q : Exit → Act → World → Prop} {a : Act} {w : World}
  (hro : F.round = none) (h1 : 1 ≤ n) {gf : Nat} {lb : Array Value} (hg : a.eval g = .func (.func gf) #[] lb) (hFg : F.fn gf) (eg : ∀ args w, (callFunc gf args).run P w = .ok (.enter gf args) w)
  {Kp : σ → World → Prop} {s0 : σ} {Y : σ → World → Array Value → σ → World → Prop} {T : σ → Prop} {Z : σ → World → World → Prop} (hseq : zkv F (n - 1) P gf lb Kp s0 Y T Z) (hYK : ∀ s W0 args s' W1, Y s W0 args s' W1 → KeepsFrom 0 W0 W1) (hZK : ∀ s W W', Z s W W' → KeepsFrom 0 W W') (hps : ∀ s W0 args s' W1, Y s W0 args s' W1 → args.size = ps.size)
  (I : Nat → σ → World → Prop) (hIK : ∀ N s W, I N s W → Kp s W) (hI : ∀ N s W W' row, I N s W → W.grownBy W' row → (∀ r, row = some r → w.heap.size ≤ r ∧ r < N ∧ ∃ o : Obj, W.heap[r]? = some o ∧ o.isCells = false) → I N s W') (hIZ : ∀ N s W W', T s → I N s W → Z s W W' → I N s W') (h0 : ∀ N, w.heap.size ≤ N → I N s0 w)
  (hround : ∀ (l N : Nat) (s s' : σ) (args : Array Value) (W0 W1 : World), w.heap.size ≤ l → l < w.heap.size + 2 → w.heap.size + 2 ≤ N → N ≤ W0.heap.size → I N s W0 → (∃ r, W0.heap[l]? = some (.loop r)) → Y s W0 args s' W1 →
   assign.wpIn (F.inRound l) (n - 1 - 3) P (Exit.then (fun a' Wa => KeepsFrom w.heap.size W1 Wa ∧ ∀ W2, Wa.grownBy W2 (some l) → (∃ o : Obj, Wa.heap[l]? = some o ∧ o.isCells = false) → (∃ r, W2.heap[l]? = some (.loop r)) → body.wpIn (F.inRound l) (n - 1 - 3) P (YF w.heap.size W2 fun W' => I N s' W' ∧ ∀ k, w.heap.size + 2 ≤ k → k < N → W'.heap[k]? = W1.heap[k]?) a' W2) (fun _ _ _ => False))
    { tmps := (ps.zip args).foldl (fun t (p, v) => t.setIfInBounds p v) a.tmps, defers := [] } W1)
  (hdone : ∀ (D N : Nat) (s : σ) (W : World), w.heap.size ≤ D → D < N → T s → I N s W → W.heap[D]? = some (.deferred (some [])) → Q .normal { a with defers := { target := .collected D, args := #[] } :: a.defers } W) :
  (Code.rangeFunc g ps assign body).wpIn F n P Q a w := by
 refine wpIn_rangeFunc fun fn hfn => ?_;rw [hro];obtain ⟨rc, hrc⟩ : ∃ rc : Loop, rc = { state := .ready, pending := none, fn, tmps := a.tmps, params := ps, assign, body, defers := w.heap.size } := ⟨_, rfl⟩
 obtain ⟨W1, hW1⟩ := zc ((w.alloc (.deferred (some []))).alloc (.loop rc))
 have hL1 : W1.heap[w.heap.size + 1]? = some (.loop rc) := by
  exact XaZ
 have hD1 : W1.heap[w.heap.size]? = some (.deferred (some [])) := by
  exact Xbi
 have hs1 : W1.heap.size = w.heap.size + 2 := by rw [← hW1]; simp
 have hI1 : ∀ N, w.heap.size ≤ N → I N s0 W1 := fun N hN => by
  rw [← hW1];exact hI _ _ _ _ none (hI _ _ _ _ none (h0 N hN) (World.grownBy_alloc w _ none) (fun r e => by cases e)) (World.grownBy_alloc _ _ none) (fun r e => by cases e)
 refine ⟨w.heap.size + 1, [{ target := .collected w.heap.size, args := #[] }], W1, { target := .fn (.func gf) lb, args := #[.func (.yield (w.heap.size + 1)) #[] #[]] }, W1, gf,
  #[.func (.yield (w.heap.size + 1)) #[] #[]] ++ lb, W1, ?_, ?_, ?_, ?_, fun _ => h1, ?_⟩
 ·rw [← hW1, hrc]; exact run_enterLoop_outer _ _ _ _ _
 ·simp only [resolve, hg]
  simp [go_sem]
 ·intro f' hf'; simp [Target.leads] at hf'; subst hf'; exact hFg
 ·simp [invoke, go_sem, eg]
 ·refine (hseq (w.heap.size + 1) (fun N s W => I N s W ∧ W.heap[w.heap.size + 1]? = some (.loop rc) ∧ W.heap[w.heap.size]? = some (.deferred (some [])) ∧ w.heap.size + 2 ≤ N) W1 (fun N s W h => hIK _ _ _ h.1) ?_ ?_ (fun N hN => ⟨hI1 N (by omega), hL1, hD1, by omega⟩)).mono ?_
  ·rintro N s X X' row ⟨hi, hl, hd, hn⟩ hg hr
   have hlt : w.heap.size + 1 < X.heap.size := (Array.getElem?_eq_some_iff.1 hl).1;exact ⟨hI _ _ _ _ row hi hg (fun r e => ⟨by have := (hr r e).1; omega, (hr r e).2⟩), (hg.block _ hlt (fun e => by have := (hr _ e.symm).1; omega)).trans hl, (hg.block _ (by omega : w.heap.size < X.heap.size) (fun e => by have := (hr _ e.symm).1; omega)).trans hd, hn⟩
  ·rintro N s s' args W0 Wy ⟨hi, hl, hd, hn⟩ hN hy
   have hb := hYK _ _ _ _ _ hy;have hl0 : w.heap.size + 1 < W0.heap.size := (Array.getElem?_eq_some_iff.1 hl).1;have hly := hb.same _ _ (Nat.zero_le _) hl rfl;have hdy := hb.same _ _ (Nat.zero_le _) hd rfl;have hr := hround (w.heap.size + 1) N s s' args W0 Wy (by omega) (by omega) hn hN hi ⟨_, hl⟩ hy;obtain ⟨fn', t', as', bo', hyy, hR⟩ := Yy hfn (by rw [hly, hrc]) (hps _ _ _ _ _ hy) (show w.heap.size ≤ w.heap.size + 1 by omega) hr
   refine ⟨fn', t', as', bo', hyy, hR.mono ?_⟩;rintro e W' ⟨rfl, W3, ⟨hi3, hk3⟩, hg3, ho3, hk⟩;refine ⟨rfl, ⟨hI _ _ _ _ _ hi3 hg3 (fun r e => by cases e; exact ⟨by omega, by omega, ho3⟩), hk.same _ _ (by omega) hly rfl, hk.same _ _ (Nat.le_refl _) hdy rfl, hn⟩, ⟨hk.size, fun k o h1 h2 h3 => hk.same k o (by omega) h2 h3⟩, fun k h1 h2 => ?_⟩;have hky := hk3 k (by omega) h2;have hlt : k < Wy.heap.size := by have := hb.size; omega
   have hlt3 : k < W3.heap.size := (Array.getElem?_eq_some_iff.1 (hky.trans (Array.getElem?_eq_getElem hlt))).1;exact (hg3.block k hlt3 (fun e => by cases e; omega)).trans hky
  ·rintro e W' ⟨⟨v, rfl⟩, N, s, W2, hT, ⟨hi, hl, hd, hn⟩, hz⟩
   have hb := hZK _ _ _ hz;have hl0 : w.heap.size + 1 < W2.heap.size := (Array.getElem?_eq_some_iff.1 hl).1;have hly := hb.same _ _ (Nat.zero_le _) hl rfl;have hdy := hb.same _ _ (Nat.zero_le _) hd rfl;refine ⟨none, _, by have := run_endLoop (P := P) hly (by rw [hrc]; simp); rw [hrc] at this; exact this, ?_⟩;exact hdone _ N s _ (Nat.le_refl _) (by omega) hT (hI _ _ _ _ _ (hIZ _ _ _ _ hT hi hz) (grownBy_putObj' _ _ _) (fun r e => by cases e; exact ⟨by omega, by omega, _, hly, rfl⟩)) ((World.putObj_heap_other (by omega)).trans hdy)
end
section
attribute [local go_sem] Oper.semAt_some
def ZPC : Array Value := #[.slice none 0 0, .int .i64 0, .int .i64 0, .slice none 0 0, .slice none 0 0, .int .i64 0, .int .i64 0, .slice none 0 0, .int .i64 0, .int .i64 0, .int .i64 0, .bool false, .int .i64 0, .int .i64 0, .int .i64 0, .bool false, .int .i64 0, .int .i64 0, .int .i64 0, .bool false, .int .i64 0, .int .i64 0, .int .i64 0, .bool false]
theorem zbw (bd : Int) (h0 : 0 ≤ bd) (h1 : bd ≤ 1048576) (w : World) : Calls Tryz.prog 8 #[bd] w fun e w' => e = .returned (.pointer (some ⟨w.heap.size, 0, none⟩)) ∧ w.alloc (.cells (qN false 0 0 ZPC 0 0 bd) 98) = w' := by
 have hl : ¬ bd < 0 := by omega
 have hg : ¬ 1048576 < bd := by omega
 have hu := Tryz.underlying98;have hu2 := Tryz.underlying96;go_enter Tryz.func8, Tryz.ntmps8;go_wp2_with fail;go_ret;exact ⟨rfl, rfl⟩
theorem zb8 (bd : Int) (h : bd < 0 ∨ 1048576 < bd) (w : World) : Calls Tryz.prog 8 #[bd] w fun e w' => e = .returned (.pointer none) ∧ w = w' := by
 by_cases hl : bd < 0
 ·go_enter Tryz.func8, Tryz.ntmps8
  go_wp2_with fail;go_ret;exact ⟨rfl, rfl⟩
 ·have hg : 1048576 < bd := by omega
  go_enter Tryz.func8, Tryz.ntmps8;go_wp2_with fail;go_ret;exact ⟨rfl, rfl⟩
theorem zds (E : Nat) (on : Bool) (pn ps : Int) (pc : Array Value) (m st bd : Int) (hp : pc.size = 24) (w : World) (hA : At w E 98 (qN on pn ps pc m st bd)) :
  Calls Tryz.prog 19 #[.pointer (some ⟨E, 0, none⟩)] w fun e w' => e = .returned (ye m 0 0 st) ∧ Below w.heap.size w w' := by
 have hu := Tryz.underlying98;have hu2 := Tryz.underlying96;have hu4 := Tryz.underlying61;unfold ye;have EA := za (hA.alloc (.cells #[.int .i64 0, .int .i64 0, .int .i64 0, .int .i64 0] 61));obtain ⟨h27, h28, h29, h30, h31⟩ := Qy EA.out hp;go_enter Tryz.func19, Tryz.ntmps19;go_wp2_with fail;obtain ⟨d0, d1, d2, d3⟩ := (At.new w 61 #[m, .int .i64 0, .int .i64 0, st]).four;exact bodyPost_ret (v := .agg #[m, .int .i64 0, .int .i64 0, st]) (by simp [results, Tryz.results19, go_sem, d0, d1, d2, d3]) rfl ⟨rfl, zg (Below.refl _ _) _⟩
def Vh (w : World) (B : Nat) (r : PR) (v : Value) : Prop := qB w B r.n r.x r.p r.y r.s r.a r.b r.c r.d v
def zeN : PR := ⟨0, [], [], [], [], qd, qd, qd, qd⟩
theorem zk.zero (w : World) : zk w none 0 0 [] := ⟨rfl, Nat.le_refl _, fun h => by omega⟩
theorem Vh.zero (w : World) (B : Nat) : Vh w B zeN (.agg ZPC) := ⟨none, 0, none, 0, 0, none, 0, none, 0, 0, rfl, zk.zero w, zk.zero w, zk.zero w, zk.zero w, fun _ _ e => (by cases e), fun _ _ e => (by cases e), fun _ _ e => (by cases e), fun _ _ e => (by cases e)⟩
theorem Vh.agg {w : World} {B : Nat} {r : PR} {v : Value} (h : Vh w B r v) : ∃ pc : Array Value, v = .agg pc ∧ pc.size = 24 ∧ pc.toList.all Value.oneCell' = true := by
 obtain ⟨A0, c0, A1, m1, c1, B0, d0, B1, k1, d1, e, _⟩ := h;exact ⟨_, e, rfl, rfl⟩
theorem Off.argQ {B : Nat} {p : World → Prop} {w W : World} {r : PR} {v : Value} {k : Nat} (h : Off [] w.heap.size k W.heap.size p W) (b : Below w.heap.size w W) (a : Vh w B r v) : Off [] w.heap.size k W.heap.size (fun X => p X ∧ Vh X B r v) W :=
 h.plus fun X hX => by
  obtain ⟨A0, c0, A1, m1, c1, B0, d0, B1, k1, d1, e, n0, n1, n2, n3, f0, f1, f2, f3⟩ := a
  exact ⟨A0, c0, A1, m1, c1, B0, d0, B1, k1, d1, e, (n0.below b).off (fun q o e hn => .inl (n0.low q o e hn)) X hX, (n1.below b).off (fun q o e hn => .inl (n1.low q o e hn)) X hX,
   (n2.below b).off (fun q o e hn => .inl (n2.low q o e hn)) X hX, (n3.below b).off (fun q o e hn => .inl (n3.low q o e hn)) X hX, f0, f1, f2, f3⟩
theorem zkf {W : World} {B : Nat} {r : PR} {v : Value} (h : Vh W B r v) (hn : r.n ≤ 4) (hpl : r.p.length ≤ 1000) (hsl : r.s.length ≤ 1000) : Calls Tryz.prog 52 #[v] W fun e w' => (∃ v', e = .returned v' ∧ Vh w' W.heap.size r v') ∧ Below W.heap.size W w' := by
 obtain ⟨A0, c0, A1, m1, c1, B0, d0, B1, k1, d1, rfl, n0, n1, n2, n3, _⟩ := h;exact zcw _ hn _ _ _ _ _ _ _ _ _ _ _ _ _ _ (by have := n1.1; omega) (by have := n3.1; omega) _ _ _ _ _ n0 n1 n2 n3
theorem zey (E : Nat) (on : Bool) (pn ps : Int) (pc : Array Value) (m st bd : Int) (hp : pc.size = 24) (r : PR) (B : Nat) (hn : r.n ≤ 4) (hpl : r.p.length ≤ 1000) (hsl : r.s.length ≤ 1000) (w : World) (hA : At w E 98 (qN on pn ps pc m st bd)) (hr : Vh w B r (.agg pc)) :
  Calls Tryz.prog 20 #[.pointer (some ⟨E, 0, none⟩)] w fun e w' => (∃ v, e = .returned v ∧ Vh w' w.heap.size r v) ∧ Below w.heap.size w w' := by
 have hu := Tryz.underlying98;have hu2 := Tryz.underlying96;have hu4 := Tryz.underlying76;have OW := za (fun (W : World) (h : Vh W B r (.agg pc)) => zkf h hn hpl hsl);have HA := za hA;have HR := za hr;clear hA hr hn hpl hsl;go_enter Tryz.func20, Tryz.ntmps20;go_wp2_with (show wpList _ _ _ (⟨_, .load 76 _, _, _, _, none⟩ :: _) _ _; refine qs rfl 76 _ rfl E 3 _ rfl (Zs (HA.out.alloc _) hp) ?_)
 obtain ⟨W0, hW0⟩ := zc ((w.alloc (.cells #[.slice none 0 0, .int .i64 0, .int .i64 0, .slice none 0 0, .slice none 0 0, .int .i64 0, .int .i64 0, .slice none 0 0, .int .i64 0, .int .i64 0, .int .i64 0, .bool false, .int .i64 0, .int .i64 0, .int .i64 0, .bool false, .int .i64 0, .int .i64 0, .int .i64 0, .bool false, .int .i64 0, .int .i64 0, .int .i64 0, .bool false] 76)));obtain ⟨bx, b0, hsz⟩ := zV hW0
 rw [hW0];clear hW0;have F := za (((Off.start b0 hsz).argA b0 (HA.out)).argQ b0 (HR.out));have BX := za bx;clear bx b0 hsz;obtain ⟨g, hg⟩ := zc (w.heap.size);rw [hg] at F BX
 try simp only [hg]
 try simp only [World.size_alloc, hg]
 refine (OW.out _ F.out.out.2).mono ?_;rintro e w1 ⟨⟨v, rfl, hv⟩, hb⟩;obtain ⟨qc, rfl, hq, hq1⟩ := hv.agg;have hbs := F.out.hiw;replace F := zd F hb;replace BX := ze BX hb;have V := za hv;clear hb hv;have zz := BX.out.1;go_wp2_with (show wpList _ _ _ (⟨_, .store 76 _ _, _, _, _, none⟩ :: _) _ _; refine yg rfl _ _ rfl g qc _ rfl rfl zz rfl hq hq1 ?_; intro WZ hoZ haZ)
 have BB := L.Below.only (F.out.out.1.1) hoZ (by omega);have VV : Vh WZ g r (.agg qc) := qB.base (qB.only V.out hoZ (by omega)) (by omega);exact bodyPost_ret (results_cell_row (P := Tryz.prog) rfl _ _ g 76 _ (0, 0) _ rfl haZ Tryz.underlying76 rfl (by rw [hq]; kernel_rfl)) rfl ⟨⟨_, rfl, by first | exact VV | (rw [hg]; exact VV)⟩, by first | exact BB | (rw [hg]; exact BB)⟩
end
end Go.Proofs.YtcoiklclbljjeaaGreatDoor.L
