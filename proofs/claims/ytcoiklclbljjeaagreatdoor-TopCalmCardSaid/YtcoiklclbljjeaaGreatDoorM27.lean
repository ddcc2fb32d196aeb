/- Lemmas of the card's proof. -/
import Derived.Lib.AppendZeros
import Derived.Test.YtcoiklclbljjeaaGreatDoorM26
set_option linter.unusedVariables false
set_option linter.unusedSimpArgs false
set_option maxRecDepth 100000
set_option maxHeartbeats 16000000
namespace Go.Proofs.YtcoiklclbljjeaaGreatDoor.L
open Go.RowKit
theorem XbD {P : Prop} (h : P := by
 cases R[i]? with
 | none => rfl
 | some r => by_cases h : j ≤ i ∧ i < k <;> simp [h, Row.on]) : P := h
section
attribute [local go_sem] Oper.semAt_some
def j8 {α : Type} (f : Nat → α → α) (l : List α) (j k : Nat) : List α := l.mapIdx fun i x => if j ≤ i ∧ i < k then f i x else x
section
variable {α : Type} {f : Nat → α → α} {l : List α} {j k : Nat}
theorem Zg : (j8 f l j k).length = l.length := by unfold j8; simp
theorem j5 (i : Nat) : (j8 f l j k)[i]? = l[i]?.map fun x => if j ≤ i ∧ i < k then f i x else x := by unfold j8; rw [List.getElem?_mapIdx]
theorem Yh : j8 f l j j = l := by
 apply List.ext_getElem?;intro i;rw [j5, show (fun x => if j ≤ i ∧ i < j then f i x else x) = id from funext fun x => if_neg (by omega)];simp
theorem zcU : (j8 f l j k)[k]? = l[k]? := by
 rw [j5, show (fun x => if j ≤ k ∧ k < k then f k x else x) = id from funext fun x => if_neg (by omega)];simp
theorem Vk {x : α} (hj : j ≤ k) (h : l[k]? = some x) : (j8 f l j k).set k (f k x) = j8 f l j (k + 1) := by
 apply List.ext_getElem?;intro i;have hk : k < l.length := (List.getElem?_eq_some_iff.1 h).1;rw [List.getElem?_set, j5, j5]
 by_cases e : k = i
 ·subst e
  rw [if_pos rfl, Zg, if_pos hk, h];simp [hj]
 ·rw [if_neg e]
  congr 1
  funext x
  have : (j ≤ i ∧ i < k) ↔ (j ≤ i ∧ i < k + 1) := by omega
  simp only [this]
end
def ZT (j : Nat) (d c : Num) (E : List Num) (i : Nat) (xs : List Num) : List Num := xs.set j (((xs.getD j qd).mul d).sub ((E.getD i qd).mul c))
def zhk (j : Nat) (w : Num) (X : List (List Num)) (i : Nat) (e : Num) : Num := e.add (((X.getD i []).getD j qd).mul w)
def Row.on (f : Nat → List Num → List Num) (i : Nat) (r : Row) : Row := ⟨r.g, r.cap, f i r.xs⟩
theorem Yi {f : Nat → List Num → List Num} {R : List Row} {j k : Nat} : (j8 (Row.on f) R j k).map Row.g = R.map Row.g := by
 apply List.ext_getElem?;intro i;rw [List.getElem?_map, List.getElem?_map, j5];exact XbD
theorem zfO {f : Nat → List Num → List Num} {R : List Row} {j k : Nat} : (j8 (Row.on f) R j k).map Row.xs = j8 f (R.map Row.xs) j k := by
 apply List.ext_getElem?;intro i;rw [List.getElem?_map, j5, j5, List.getElem?_map];exact XbD
theorem vW {α : Type} {l : List α} {i : Nat} {x d : α} (h : l[i]? = some x) : l.getD i d = x := by rw [List.getD_eq_getElem?_getD, h]; rfl
def zeE (a b : Num) : Num := (a.div b).root
def zeF (w a b : Num) : Num := w.div ((a.mul b).root)
theorem zdU (n j : Nat) (R : List Row) (E : List Num) (vg vc eg ec B : Nat) (x a b : Num) (hn : n ≤ 4) (hR : R.length = n) (hrow : ∀ r, r ∈ R → r.xs.length = n) (hE : E.length = n) (hj : j < n) (w : World)
  (hT : zT w B (.slice (some ⟨vg, 0, none⟩) n vc) R 0) (hO : zF w B (.slice (some ⟨eg, 0, none⟩) n ec) E) (hne : ∀ r, r ∈ R → r.g ≠ eg) (hve : vg ≠ eg) :
  Calls Tryz.prog 160 #[.slice (some ⟨vg, 0, none⟩) n vc, .int .i64 (j : Int), x.val, a.val, b.val, .slice (some ⟨eg, 0, none⟩) n ec] w fun e w' => e = .returned (.tuple #[]) ∧ zT w' B (.slice (some ⟨vg, 0, none⟩) n vc) (j8 (Row.on (ZT j (zeE a b) (zeF x a b) E)) R j n) 0 ∧ zF w' B (.slice (some ⟨eg, 0, none⟩) n ec) (j8 (zhk j x (R.map Row.xs)) E j n) ∧ zE (eg :: R.map Row.g) w w' := by
 have hu := Tryz.underlying71;have hu1 := Tryz.underlying63;have hu2 := Tryz.underlying131;obtain ⟨p, hp⟩ := zc (a.div b);obtain ⟨d, hd⟩ := zc (p.root);obtain ⟨q, hq⟩ := zc (a.mul b);obtain ⟨s, hs⟩ := zc (q.root);obtain ⟨c, hc⟩ := zc (x.div s);have C1 := za (fun W => YX a b W);have C2 := za (fun W => zbt p W);have C3 := za (fun W => Qx a b W);have C4 := za (fun W => zbt q W);have C5 := za (fun W => YX x s W)
 rw [hp] at C1;rw [hd] at C2;rw [hq] at C3;rw [hs] at C4;rw [hc] at C5;rw [show zeE a b = d by unfold zeE; rw [hp, hd], show zeF x a b = c by unfold zeF; rw [hq, hs, hc]];obtain ⟨D, hD⟩ := zc (ZT j d c E);obtain ⟨De, hDe⟩ := zc (zhk j x (R.map Row.xs));rw [hD, hDe];have HDD := za hD;have HDE := za hDe;have HVE := za hve;have HT := za hT;have HO := za hO;clear hD hDe hve hT hO hp hd hq hs hc;obtain ⟨pv, pl, ph, pb⟩ := p
 obtain ⟨dv, dl, dh, db⟩ := d;obtain ⟨qv, ql, qh, qb⟩ := q;obtain ⟨sv, sl, sh, sb⟩ := s;obtain ⟨cv, cl, ch, cb⟩ := c;obtain ⟨xv, xl, xh, xb⟩ := x;obtain ⟨av, al, ah, ab⟩ := a;obtain ⟨bv, bl, bh, bb⟩ := b;unfold Num.val at C1 C2 C3 C4 C5;unfold Num.val;dsimp only at C1 C2 C3 C4 C5 ⊢;have hm1 := fun W => Jc av al ah ab W;have hm2 := fun W => Vt pv pl ph pb W;have hm3 := fun W => Z5 av al ah ab W;have hm4 := fun W => Vt qv ql qh qb W
 have hm5 := fun W => Jc xv xl xh xb W;go_enter Tryz.func160, Tryz.ntmps160;go_wp2_with fail;obtain ⟨W0, hW0⟩ := zc ((((w.alloc (.cells #[xv, xl, xh, xb] 71)).alloc (.cells #[av, al, ah, ab] 71)).alloc (.cells #[bv, bl, bh, bb] 71)));obtain ⟨bx, b0, hsz⟩ := QL hW0;rw [hW0];clear hW0;have F := za (Off.startG (G := (eg :: R.map Row.g)) (fun q hq => by rcases List.mem_cons.1 hq with rfl | hq; exact (World.ownsRow.lt HO.out _ rfl).2; obtain ⟨r, hr, rfl⟩ := List.mem_map.1 hq; exact (vq (HT.out.rows r hr)).2) b0 hsz)
 have BX := za bx;have BB := za b0;clear bx b0 hsz;obtain ⟨g, hg⟩ := zc (w.heap.size);rw [hg] at F BX
 try simp only [hg]
 have hvl := (World.ownsRow.lt HT.out.box _ rfl).2;have hel := (World.ownsRow.lt HO.out _ rfl).2;have H := za (Off.mk0 (lo := w.heap.size) (hi := w.heap.size + 3) (by omega) (by have := F.out.hiw; omega) (fun X hX => And.intro ((HT.out.below BB.out).off (fun q e => by cases e; exact hvl) (fun r hr => (vq (HT.out.rows r hr)).2) X hX) ((HO.out.below BB.out).offl (fun q e => by cases e; exact hel) X hX)))
 rw [hg] at H hvl hel;have x0 := (BX.out.1).cell 0;have x1 := (BX.out.1).cell 1;have x2 := (BX.out.1).cell 2;have x3 := (BX.out.1).cell 3;have a0 := (BX.out.2.1).cell 0;have a1 := (BX.out.2.1).cell 1;have a2 := (BX.out.2.1).cell 2;have a3 := (BX.out.2.1).cell 3;have c0 := (BX.out.2.2.1).cell 0;have c1 := (BX.out.2.2.1).cell 1;have c2 := (BX.out.2.2.1).cell 2;have c3 := (BX.out.2.2.1).cell 3;replace F := za F.out.now
 replace H := za H.out.now;have hstart := F.out.hiw;refine zH [] (.rd (i := 0) rfl (.rd (i := 1) rfl (.rd (i := 2) rfl (.rd (i := 6) rfl (.rd (i := 7) rfl (.rd (i := 8) rfl (.rd (i := 9) rfl (.rd (i := 10) rfl (.tl (i := 3) rfl (.rd (i := 4) rfl (.tl (i := 5) rfl (.tl (i := 11) rfl (.rd (i := 12) rfl (.tl (i := 13) rfl (.tl (i := 14) rfl (.fl (i := 15) (st := none) rfl rfl QB (.fl (i := 16) (st := none) rfl rfl QB (.tl (i := 17) rfl (.tl (i := 18) rfl .nil))))))))))))))))))) (by kernel_rfl) (by kernel_rfl) (fun c a d v w h => by cases d <;> exact h) (fun c a d v w h => by cases d <;> exact h) (by simp) ?_
 have kx0 := fun x => But.cell (G := []) x0 (by simp) x;have kx1 := fun x => But.cell (G := []) x1 (by simp) x;have kx2 := fun x => But.cell (G := []) x2 (by simp) x;have kx3 := fun x => But.cell (G := []) x3 (by simp) x;have ka0 := fun x => But.cell (G := []) a0 (by simp) x;have ka1 := fun x => But.cell (G := []) a1 (by simp) x;have ka2 := fun x => But.cell (G := []) a2 (by simp) x;have ka3 := fun x => But.cell (G := []) a3 (by simp) x
 have kc0 := fun x => But.cell (G := []) c0 (by simp) x;have kc1 := fun x => But.cell (G := []) c1 (by simp) x;have kc2 := fun x => But.cell (G := []) c2 (by simp) x;have kc3 := fun x => But.cell (G := []) c3 (by simp) x;iterate 8 (refine zf ?_;go_big_quiet_step (fail);refine wpQuiet_nil ?_)
 clear kx0 kx1 kx2 kx3 ka0 ka1 ka2 ka3 kc0 kc1 kc2 kc3;refine zm rfl (fun w1 hb K hK => ?_);replace hb := qe hb;go_simp;replace F := zd F hb;replace H := za (H.out.call hb);replace BX := ze BX hb;clear hb;refine (C1.out _).mono ?_;rintro e w2 ⟨rfl, hb⟩;refine hK _ _ ((zB.refl _ _).call hb) ?_;clear hK K;replace F := zd F hb;replace H := za (H.out.call hb);replace BX := ze BX hb;clear hb x0 x1 x2 x3 a0 a1 a2 a3 c0 c1 c2 c3
 refine zf ?_;go_big_quiet_step (fail);refine wpQuiet_nil ?_;refine zm rfl (fun w3 hb K hK => ?_);go_simp;replace F := zd F hb;replace H := za (H.out.call hb);replace BX := ze BX hb;clear hb;refine (C2.out _).mono ?_;rintro e w4 ⟨rfl, hb⟩;refine hK _ _ ((zB.refl _ _).call hb) ?_;clear hK K;replace F := zd F hb;replace H := za (H.out.call hb);replace BX := ze BX hb;clear hb;refine zm rfl (fun w5 hb K hK => ?_)
 go_simp;replace F := zd F hb;replace H := za (H.out.call hb);replace BX := ze BX hb;clear hb;refine (C3.out _).mono ?_;rintro e w6 ⟨rfl, hb⟩;refine hK _ _ ((zB.refl _ _).call hb) ?_;clear hK K;replace F := zd F hb;replace H := za (H.out.call hb);replace BX := ze BX hb;clear hb;refine zf ?_;go_big_quiet_step (fail);refine wpQuiet_nil ?_;refine zm rfl (fun w7 hb K hK => ?_);go_simp;replace F := zd F hb
 replace H := za (H.out.call hb);replace BX := ze BX hb;clear hb;refine (C4.out _).mono ?_;rintro e w8 ⟨rfl, hb⟩;refine hK _ _ ((zB.refl _ _).call hb) ?_;clear hK K;replace F := zd F hb;replace H := za (H.out.call hb);replace BX := ze BX hb;clear hb;refine zm rfl (fun w9 hb K hK => ?_);go_simp;replace F := zd F hb;replace H := za (H.out.call hb);replace BX := ze BX hb;clear hb;refine (C5.out _).mono ?_
 rintro e w10 ⟨rfl, hb⟩;refine hK _ _ ((zB.refl _ _).call hb) ?_;clear hK K;replace F := zd F hb;replace H := za (H.out.call hb);replace BX := ze BX hb;clear hb;refine zP (fun w11 bd hb hat lbd nbd => ?_)
 try simp at nbd
 replace F := zd F hb;replace H := za (H.out.call hb);replace BX := ze BX hb;have D1 := za hat;clear hat hb;refine zP (fun w12 bc hb hat lbc nbc => ?_)
 try simp at nbc
 replace F := zd F hb;replace H := za (H.out.call hb);replace BX := ze BX hb;replace D1 := za (D1.out.below hb);have D2 := za hat;clear hat hb;refine zm rfl (fun w13 hb K hK => ?_);replace F := zd F hb;replace H := za (H.out.call hb);replace BX := ze BX hb;replace D1 := za (D1.out.below hb);replace D2 := za (D2.out.below hb);clear hb;have rr0 := (D1.out).cell 0;have zrr0 := (D1.out).frozen 0;have rr1 := (D1.out).cell 1
 have zrr1 := (D1.out).frozen 1;have rr2 := (D1.out).cell 2;have zrr2 := (D1.out).frozen 2;have rr3 := (D1.out).cell 3;have zrr3 := (D1.out).frozen 3;go_simp;refine hK _ _ (((((zB.refl _ _).set (.inl (by simp)) _ _).set (.inl (by simp)) _ _).set (.inl (by simp)) _ _).set (.inl (by simp)) _ _) ?_;clear hK K rr0  zrr0  rr1  zrr1  rr2  zrr2  rr3  zrr3;replace F := za (F.out.set4 (g := bd) (.inr (by omega)) dv dl dh db)
 replace H := za (H.out.set4 (g := bd) (.inr (by omega)) dv dl dh db);replace BX := za (BX.out.far4 (show g + 3 ≤ bd by omega) dv dl dh db);replace D2 := za (D2.out.far4 (q := bd) (by omega) dv dl dh db);replace D1 := za (D1.out.set4 dv dl dh db);obtain ⟨w14, hw14⟩ := zc (((((w13.setCell ⟨bd, 0, none⟩ dv).setCell ⟨bd, 1, none⟩ dl).setCell ⟨bd, 2, none⟩ dh).setCell ⟨bd, 3, none⟩ db));rw [hw14] at F BX D1 D2 H ⊢
 clear hw14;refine zJ rfl (fun w15 hb K hK => ?_);replace F := zd F hb;replace H := za (H.out.call hb);replace BX := ze BX hb;replace D1 := za (D1.out.below hb);replace D2 := za (D2.out.below hb);clear hb;have rr0 := (D2.out).cell 0;have zrr0 := (D2.out).frozen 0;have rr1 := (D2.out).cell 1;have zrr1 := (D2.out).frozen 1;have rr2 := (D2.out).cell 2;have zrr2 := (D2.out).frozen 2;have rr3 := (D2.out).cell 3
 have zrr3 := (D2.out).frozen 3;go_simp;refine hK _ _ ?_;clear hK K rr0 zrr0 rr1 zrr1 rr2 zrr2 rr3 zrr3;replace F := za (F.out.set4 (g := bc) (.inr (by omega)) cv cl ch cb);replace H := za (H.out.set4 (g := bc) (.inr (by omega)) cv cl ch cb);replace BX := za (BX.out.far4 (show g + 3 ≤ bc by omega) cv cl ch cb);replace D1 := za (D1.out.far4 (q := bc) (by omega) cv cl ch cb);replace D2 := za (D2.out.set4 cv cl ch cb)
 obtain ⟨w16, hw16⟩ := zc (((((w15.setCell ⟨bc, 0, none⟩ cv).setCell ⟨bc, 1, none⟩ cl).setCell ⟨bc, 2, none⟩ ch).setCell ⟨bc, 3, none⟩ cb));rw [hw16] at F BX D1 D2 H ⊢;clear hw16;replace F := za (F.out.plus (D1.out.off_ (.inr (by omega)) (F.out.out_G (by omega))));clear D1;replace F := za (F.out.plus (D2.out.off_ (.inr (by omega)) (F.out.out_G (by omega))));clear D2;go_wp2_with fail;have hTO := H.out.out
 have HTO := za hTO;clear hTO H
 go_loopw [14] (fun i wr => ∃ k : Nat, j ≤ k ∧ k ≤ n ∧ i = .int .i64 k ∧ Hid (zE (eg :: R.map Row.g) w16 wr) ∧ Hid (zT wr B (.slice (some ⟨vg, 0, none⟩) n vc) (j8 (Row.on D) R j k) 0 ∧ zF wr B (.slice (some ⟨eg, 0, none⟩) n ec) (j8 De E j k))) (fun i _ => n - (intOf i).toNat)
 case atStart => exact ⟨j, Nat.le_refl _, by omega, rfl, za (zE.refl _ _), za (by rw [Yh, Yh]; exact HTO.out)⟩
 case round =>
  obtain ⟨k, hjk, hk, rfl, HB, HH⟩ := hrel;replace F := za (F.out.touch HB.out)
  by_cases hlt : k < n
  ·have hlt' : (k : Int) < (n : Int) := by omega
   have hj' : (j : Int) < (n : Int) := by omega
   obtain ⟨r, hr⟩ : ∃ r, R[k]? = some r := ⟨_, List.getElem?_eq_getElem (by omega)⟩
   have hrl := hrow r (List.mem_of_getElem? hr);obtain ⟨y, hy⟩ : ∃ y, r.xs[j]? = some y := ⟨_, List.getElem?_eq_getElem (by omega)⟩
   obtain ⟨u, hu9⟩ : ∃ u, E[k]? = some u := ⟨_, List.getElem?_eq_getElem (by omega)⟩
   have hRk : (j8 (Row.on D) R j k)[k]? = some r := by rw [zcU]; exact hr
   have hEk : (j8 De E j k)[k]? = some u := by rw [zcU]; exact hu9
   have t0 := HH.out.1.cell hRk;rw [hrl] at t0;obtain ⟨y0, y1, y2, y3⟩ := HH.out.1.num hRk hy;obtain ⟨yv, yl, yh, yb⟩ := y;dsimp only at y0 y1 y2 y3;obtain ⟨u0, u1, u2, u3⟩ := HH.out.2.num hEk;obtain ⟨uv, ul, uh, ub⟩ := u;dsimp only at u0 u1 u2 u3;obtain ⟨p, hp⟩ := zc (Num.mul ⟨yv, yl, yh, yb⟩ ⟨dv, dl, dh, db⟩);obtain ⟨q, hq⟩ := zc (Num.mul ⟨uv, ul, uh, ub⟩ ⟨cv, cl, ch, cb⟩);obtain ⟨s, hs⟩ := zc (p.sub q)
   obtain ⟨a, ha⟩ := zc (Num.mul ⟨yv, yl, yh, yb⟩ ⟨xv, xl, xh, xb⟩);obtain ⟨b, hb9⟩ := zc (Num.add ⟨uv, ul, uh, ub⟩ a);have K1 := za (fun W => Qx ⟨yv, yl, yh, yb⟩ ⟨dv, dl, dh, db⟩ W);have K2 := za (fun W => Qx ⟨uv, ul, uh, ub⟩ ⟨cv, cl, ch, cb⟩ W);have K3 := za (fun W => JJ p q W);have K4 := za (fun W => Qx ⟨yv, yl, yh, yb⟩ ⟨xv, xl, xh, xb⟩ W);have K5 := za (fun W => JL ⟨uv, ul, uh, ub⟩ a W);rw [hp] at K1
   rw [hq] at K2;rw [hs] at K3;rw [ha] at K4;rw [hb9] at K5;have HS := za (show D k r.xs = r.xs.set j s by rw [← HDD.out]; unfold ZT; rw [vW hy, vW hu9, hp, hq, hs]);have HBN := za (show De k ⟨uv, ul, uh, ub⟩ = b by rw [← HDE.out]; unfold zhk; rw [show (R.map Row.xs).getD k [] = r.xs from vW (by rw [List.getElem?_map, hr]; rfl), vW hy, ha, hb9]);clear hp hq hs ha hb9;obtain ⟨pv, pl, ph, pb⟩ := p;obtain ⟨qv, ql, qh, qb⟩ := q
   obtain ⟨sv, sl, sh, sb⟩ := s;obtain ⟨av, al, ah, ab⟩ := a;obtain ⟨bv, bl, bh, bb⟩ := b;unfold Num.val at K1 K2 K3 K4 K5;dsimp only at K1 K2 K3 K4 K5;have hm1 := fun W => Z5 yv yl yh yb W;have hm2 := fun W => Z5 uv ul uh ub W;have hm3 := fun W => Jb pv pl ph pb W;have hm4 := fun W => Z6 uv ul uh ub W;have hRg : ∀ r, r ∈ j8 (Row.on D) R j k → r.g < g := fun r hr => F.out.gl _ (List.mem_cons_of_mem _ (by rw [← Yi (f := D) (R := R) (j := j) (k := k)]; exact List.mem_map_of_mem hr))
   have H := za (Off.mk0 F.out.le F.out.hiw (fun X hX => And.intro (HH.out.1.off (fun q e => by cases e; exact hvl) hRg X hX) (HH.out.2.offl (fun q e => by cases e; exact hel) X hX)));replace BX := za (BX.out.touch HB.out F.out.gl);clear HH;go_wp2_with fail;obtain ⟨Xby_, hXby_⟩ := zc (wr.alloc (.cells #[yv, yl, yh, yb] 71));obtain ⟨bx, b0, hsz⟩ := zV hXby_;rw [hXby_];have lby_ := F.out.hiw;replace F := za (F.out.gotA b0 bx )
   replace H := za (H.out.call b0);replace HB := za (HB.out.call b0);replace BX := ze BX b0;obtain ⟨by_, hby_⟩ := zc (wr.heap.size);rw [hby_] at F lby_
   try simp only [hby_]
   clear bx b0 hsz hby_ hXby_;have t0 := H.out.out.1.cell hRk;rw [hrl] at t0;obtain ⟨u0, u1, u2, u3⟩ := H.out.out.2.num hEk;dsimp only at u0 u1 u2 u3;have v0 := (F.out.out.2).cell 0;have v1 := (F.out.out.2).cell 1;have v2 := (F.out.out.2).cell 2;have v3 := (F.out.out.2).cell 3;have d0 := (F.out.out.1.1.2).cell 0;have d1 := (F.out.out.1.1.2).cell 1;have d2 := (F.out.out.1.1.2).cell 2;have d3 := (F.out.out.1.1.2).cell 3
   have c0 := (F.out.out.1.2).cell 0;have c1 := (F.out.out.1.2).cell 1;have c2 := (F.out.out.1.2).cell 2;have c3 := (F.out.out.1.2).cell 3;replace F := za F.out.now;replace H := za H.out.now;have hstart := F.out.hiw;refine zH [] (.rd (i := 0) rfl (.rd (i := 1) rfl (.rd (i := 2) rfl (.rd (i := 3) rfl (.rd (i := 4) rfl (.rd (i := 5) rfl (.rd (i := 6) rfl (.rd (i := 7) rfl (.rd (i := 10) rfl (.rd (i := 11) rfl (.rd (i := 12) rfl (.rd (i := 13) rfl (.rd (i := 14) rfl (.rd (i := 15) rfl (.tl (i := 8) rfl (.rd (i := 9) rfl (.tl (i := 16) rfl (.tl (i := 17) rfl (.rd (i := 18) rfl (.tl (i := 19) rfl .nil)))))))))))))))))))) (by kernel_rfl) (by kernel_rfl) (fun c a d v w h => by cases d <;> exact h) (fun c a d v w h => by cases d <;> exact h) (by simp) ?_
   have kt0 := fun x => But.cell (G := []) t0 (by simp) x;have ku0 := fun x => But.cell (G := []) u0 (by simp) x;have ku1 := fun x => But.cell (G := []) u1 (by simp) x;have ku2 := fun x => But.cell (G := []) u2 (by simp) x;have ku3 := fun x => But.cell (G := []) u3 (by simp) x;have kv0 := fun x => But.cell (G := []) v0 (by simp) x;have kv1 := fun x => But.cell (G := []) v1 (by simp) x;have kv2 := fun x => But.cell (G := []) v2 (by simp) x
   have kv3 := fun x => But.cell (G := []) v3 (by simp) x;have kd0 := fun x => But.cell (G := []) d0 (by simp) x;have kd1 := fun x => But.cell (G := []) d1 (by simp) x;have kd2 := fun x => But.cell (G := []) d2 (by simp) x;have kd3 := fun x => But.cell (G := []) d3 (by simp) x;have kc0 := fun x => But.cell (G := []) c0 (by simp) x;have kc1 := fun x => But.cell (G := []) c1 (by simp) x;have kc2 := fun x => But.cell (G := []) c2 (by simp) x
   have kc3 := fun x => But.cell (G := []) c3 (by simp) x;iterate 14 (refine zf ?_;go_big_quiet_step (fail);refine wpQuiet_nil ?_)
   clear kt0 ku0 ku1 ku2 ku3 kv0 kv1 kv2 kv3 kd0 kd1 kd2 kd3 kc0 kc1 kc2 kc3;refine zm rfl (fun w17 hb K hK => ?_);replace hb := qe hb;go_simp;replace F := zd F hb;replace H := za (H.out.call hb);replace HB := za (HB.out.call hb);replace BX := ze BX hb;clear hb;refine (K1.out _).mono ?_;rintro e w18 ⟨rfl, hb⟩;refine hK _ _ ((zB.refl _ _).call hb) ?_;clear hK K;replace F := zd F hb;replace H := za (H.out.call hb)
   replace HB := za (HB.out.call hb);replace BX := ze BX hb;clear hb t0 u0 u1 u2 u3 v0 v1 v2 v3 d0 d1 d2 d3 c0 c1 c2 c3;refine zf ?_;go_big_quiet_step (fail);refine wpQuiet_nil ?_;refine zm rfl (fun w19 hb K hK => ?_);go_simp;replace F := zd F hb;replace H := za (H.out.call hb);replace HB := za (HB.out.call hb);replace BX := ze BX hb;clear hb;refine (K2.out _).mono ?_;rintro e w20 ⟨rfl, hb⟩;refine hK _ _ ((zB.refl _ _).call hb) ?_
   clear hK K;replace F := zd F hb;replace H := za (H.out.call hb);replace HB := za (HB.out.call hb);replace BX := ze BX hb;clear hb;refine zm rfl (fun w21 hb K hK => ?_);go_simp;replace F := zd F hb;replace H := za (H.out.call hb);replace HB := za (HB.out.call hb);replace BX := ze BX hb;clear hb;refine (K3.out _).mono ?_;rintro e w22 ⟨rfl, hb⟩;refine hK _ _ ((zB.refl _ _).call hb) ?_;clear hK K;replace F := zd F hb
   replace H := za (H.out.call hb);replace HB := za (HB.out.call hb);replace BX := ze BX hb;clear hb;refine zf ?_;go_big_quiet_step (fail);refine wpQuiet_nil ?_;refine zJ rfl (fun w23 hb K hK => ?_);replace F := zd F hb;replace H := za (H.out.call hb);replace HB := za (HB.out.call hb);replace BX := ze BX hb;clear hb;obtain ⟨y0, y1, y2, y3⟩ := H.out.out.1.num hRk hy;have z0 := H.out.out.1.frozen hRk (j * 4)
   have z1 := H.out.out.1.frozen hRk (j * 4 + 1);have z2 := H.out.out.1.frozen hRk (j * 4 + 2);have z3 := H.out.out.1.frozen hRk (j * 4 + 3);dsimp only at y0 y1 y2 y3;go_simp;refine hK _ _ ?_;clear hK K y0 y1 y2 y3 z0 z1 z2 z3;have hmr := List.mem_of_getElem? hr;have O1 := z7.set4 r.g (j * 4) (j * 4 + 1) (j * 4 + 2) (j * 4 + 3) w23 sv sl sh sb;have HT1 := za (H.out.out.1.upd hRk (ys := r.xs.set j ⟨sv, sl, sh, sb⟩) (by simp) O1 (zF.put (show zF w23 B (.slice (some ⟨r.g, 0, none⟩) r.xs.length r.cap) r.xs from H.out.out.1.rows r (List.mem_of_getElem? hRk)) j (by omega) ⟨sv, sl, sh, sb⟩))
   have HO1 := za (O1.own H.out.out.2 (fun e => hne r hmr (by cases e; rfl)));rw [← HS.out, show (⟨r.g, r.cap, D k r.xs⟩ : Row) = Row.on D k r from rfl, Vk hjk hr] at HT1;replace F := za (F.out.touch (O1.touch (List.mem_cons_of_mem _ (List.mem_map_of_mem hmr))));replace BX := za (BX.out.touch (O1.touch (G := (eg :: R.map Row.g)) (List.mem_cons_of_mem _ (List.mem_map_of_mem hmr))) F.out.gl);replace HB := za (HB.out.trans (O1.touch (List.mem_cons_of_mem _ (List.mem_map_of_mem hmr))))
   obtain ⟨w24, hw24⟩ := zc (((((w23.setCell ⟨r.g, j * 4, none⟩ sv).setCell ⟨r.g, j * 4 + 1, none⟩ sl).setCell ⟨r.g, j * 4 + 2, none⟩ sh).setCell ⟨r.g, j * 4 + 3, none⟩ sb));rw [hw24] at F BX HB O1 ⊢;rw [hw24] at HT1 HO1;clear hw24 O1 H;have hRg : ∀ r, r ∈ j8 (Row.on D) R j (k + 1) → r.g < g := fun r hr => F.out.gl _ (List.mem_cons_of_mem _ (by rw [← Yi (f := D) (R := R) (j := j) (k := k + 1)]; exact List.mem_map_of_mem hr))
   have H := za (Off.mk0 F.out.le F.out.hiw (fun X hX => And.intro (HT1.out.off (fun q e => by cases e; exact hvl) hRg X hX) (HO1.out.offl (fun q e => by cases e; exact hel) X hX)));clear HT1 HO1;go_wp2_with fail;obtain ⟨u0, u1, u2, u3⟩ := H.out.out.2.num hEk;dsimp only at u0 u1 u2 u3;have v0 := (F.out.out.2).cell 0;have v1 := (F.out.out.2).cell 1;have v2 := (F.out.out.2).cell 2;have v3 := (F.out.out.2).cell 3
   have d0 := (BX.out.1).cell 0;have d1 := (BX.out.1).cell 1;have d2 := (BX.out.1).cell 2;have d3 := (BX.out.1).cell 3;replace F := za F.out.now;replace H := za H.out.now;have hstart := F.out.hiw;refine zH [] (.rd (i := 0) rfl (.rd (i := 1) rfl (.rd (i := 2) rfl (.rd (i := 3) rfl (.rd (i := 4) rfl (.rd (i := 5) rfl (.rd (i := 6) rfl (.rd (i := 7) rfl (.rd (i := 8) rfl (.rd (i := 9) rfl (.tl (i := 10) rfl (.tl (i := 11) rfl (.rd (i := 12) rfl (.tl (i := 13) rfl .nil)))))))))))))) (by kernel_rfl) (by kernel_rfl) (fun c a d v w h => by cases d <;> exact h) (fun c a d v w h => by cases d <;> exact h) (by simp) ?_
   have ku0 := fun x => But.cell (G := []) u0 (by simp) x;have ku1 := fun x => But.cell (G := []) u1 (by simp) x;have ku2 := fun x => But.cell (G := []) u2 (by simp) x;have ku3 := fun x => But.cell (G := []) u3 (by simp) x;have kv0 := fun x => But.cell (G := []) v0 (by simp) x;have kv1 := fun x => But.cell (G := []) v1 (by simp) x;have kv2 := fun x => But.cell (G := []) v2 (by simp) x;have kv3 := fun x => But.cell (G := []) v3 (by simp) x
   have kd0 := fun x => But.cell (G := []) d0 (by simp) x;have kd1 := fun x => But.cell (G := []) d1 (by simp) x;have kd2 := fun x => But.cell (G := []) d2 (by simp) x;have kd3 := fun x => But.cell (G := []) d3 (by simp) x;iterate 10 (refine zf ?_;go_big_quiet_step (fail);refine wpQuiet_nil ?_)
   clear ku0 ku1 ku2 ku3 kv0 kv1 kv2 kv3 kd0 kd1 kd2 kd3;refine zm rfl (fun w25 hb K hK => ?_);replace hb := qe hb;go_simp;replace F := zd F hb;replace H := za (H.out.call hb);replace HB := za (HB.out.call hb);replace BX := ze BX hb;clear hb;refine (K4.out _).mono ?_;rintro e w26 ⟨rfl, hb⟩;refine hK _ _ ((zB.refl _ _).call hb) ?_;clear hK K;replace F := zd F hb;replace H := za (H.out.call hb);replace HB := za (HB.out.call hb)
   replace BX := ze BX hb;clear hb u0 u1 u2 u3 v0 v1 v2 v3 d0 d1 d2 d3;refine zm rfl (fun w27 hb K hK => ?_);go_simp;replace F := zd F hb;replace H := za (H.out.call hb);replace HB := za (HB.out.call hb);replace BX := ze BX hb;clear hb;refine (K5.out _).mono ?_;rintro e w28 ⟨rfl, hb⟩;refine hK _ _ ((zB.refl _ _).call hb) ?_;clear hK K;replace F := zd F hb;replace H := za (H.out.call hb);replace HB := za (HB.out.call hb)
   replace BX := ze BX hb;clear hb;refine zf ?_;go_big_quiet_step (fail);refine wpQuiet_nil ?_;refine zJ rfl (fun w29 hb K hK => ?_);replace F := zd F hb;replace H := za (H.out.call hb);replace HB := za (HB.out.call hb);replace BX := ze BX hb;clear hb;obtain ⟨y0, y1, y2, y3⟩ := H.out.out.2.num hEk;have z0 := H.out.out.2.frozen (k * 4);have z1 := H.out.out.2.frozen (k * 4 + 1);have z2 := H.out.out.2.frozen (k * 4 + 2)
   have z3 := H.out.out.2.frozen (k * 4 + 3);dsimp only at y0 y1 y2 y3;go_simp;refine hK _ _ ?_;clear hK K y0 y1 y2 y3 z0 z1 z2 z3;have O1 := z7.set4 eg (k * 4) (k * 4 + 1) (k * 4 + 2) (k * 4 + 3) w29 bv bl bh bb;have HO1 := za (zF.put H.out.out.2 k (by rw [Zg]; omega) ⟨bv, bl, bh, bb⟩);have HT1 := za (H.out.out.1.same (fun q e => O1.block q (fun e' => HVE.out (by cases e; exact e'))) (fun r hr => O1.block r.g (fun e => by have h2 : r.g ∈ R.map Row.g := (by rw [← Yi (f := D) (R := R) (j := j) (k := k + 1)]; exact List.mem_map_of_mem hr); obtain ⟨s, hs, he⟩ := List.mem_map.1 h2; exact hne s hs (he.trans e))))
   replace F := za (F.out.touch (O1.touch List.mem_cons_self));replace BX := za (BX.out.touch (O1.touch (G := (eg :: R.map Row.g)) List.mem_cons_self) F.out.gl);replace HB := za (HB.out.trans (O1.touch List.mem_cons_self));obtain ⟨w30, hw30⟩ := zc (((((w29.setCell ⟨eg, k * 4, none⟩ bv).setCell ⟨eg, k * 4 + 1, none⟩ bl).setCell ⟨eg, k * 4 + 2, none⟩ bh).setCell ⟨eg, k * 4 + 3, none⟩ bb));rw [hw30] at F BX HB O1 ⊢
   rw [hw30] at HT1 HO1;clear hw30 O1 H;rw [← HBN.out, Vk hjk hu9] at HO1;go_wp2_with fail;go_roundw
   case rel => exact ⟨k + 1, by omega, by omega, by go_num, HB, za ⟨HT1.out, HO1.out⟩⟩
   case measure => simp [intOf]; omega
  ·obtain rfl : n = k := by omega
   go_wp2_with fail
   go_end0
   exact ⟨rfl, HH.out.1, HH.out.2, F.out.out.1.1⟩
end
section
attribute [local go_sem] Oper.semAt_some
theorem zdQ (n : Nat) (hn : n ≤ 1000) (w : World) : Calls Tryz.prog 91 #[.slice none 0 0, .int .i64 (n : Int)] w fun e w' => ∃ v, e = .returned v ∧ zF w' w.heap.size v [] ∧ Below w.heap.size w w' := by
 have hu := Tryz.underlying63;obtain ⟨i0, hi, hz0, hz1, hz2⟩ := info_parts Yp
 by_cases h0 : n = 0
 ·subst h0
  go_enter Tryz.func91, Tryz.ntmps91;go_wp2_with fail;go_ret;exact ⟨_, rfl, zF.nil_ _ _, Below.refl _ _⟩
 ·have happ := Lib.run_append_nil_zeros (P := Tryz.prog) w 63 3 63 71 i0 _ .i64 .i64 Tryz.underlying63 Tryz.underlying3 hi hz0 n (by omega) (by omega) (by omega) (by rw [hz2]; omega)
  obtain ⟨cap, hcap⟩ := zc (grownCap w n 0 71);have hge : n ≤ cap := by rw [← hcap]; exact grownCap_ge w _ 0 71
  have hle : cap ≤ maxLen := by rw [← hcap]; exact grownCap_le_maxLen w _ 0 71 (by unfold maxLen; omega)
  rw [hcap] at happ;obtain ⟨Z, hZ⟩ := zc (Builtin.zeroCells (Value.agg #[.int .i64 0, .int .i64 0, .int .i64 0, .bool false]).cells n ++ Builtin.zeroCells (Value.agg #[.int .i64 0, .int .i64 0, .int .i64 0, .bool false]).cells (cap - n));have hZs : Z.size = cap * 4 := by rw [← hZ]; simp [size_zeroCells, Value.cells]; omega
  rw [hZ] at happ;have hn0 : (0 : Int) < (n : Int) := by omega
  have hcI : (0 : Int) ≤ (cap : Int) := by omega
  clear hcap hZ;go_enter Tryz.func91, Tryz.ntmps91;go_wp2_with (at_builtin; refine Lib.wpList_append_run _ rfl (.tmp 20) (.tmp 21) 63 3 rfl (.slice none 0 0) (.int .i64 (n : Int)) rfl rfl _ _ happ ?_)
  go_ret;refine ⟨_, rfl, ?_, ⟨rfl, rfl, rfl, by simp, fun k hk => Below.heap_alloc w _ k hk⟩⟩;exact World.ownsRow_made w Z cap (Nat.le_refl _) hle hZs
theorem zfJ {B : Nat} {a W W' : World} {v : Value} {xs : List Num} (h : Below B a W) (hB : B ≤ W.heap.size) (o : zF W B v xs) (g : W.grownBy W' v.ownBlock) : Below B a W' :=
 h.trans ⟨g.os, g.tape, g.output, g.size, fun k hk => g.block k (by omega) (fun e => by have := (World.ownsRow.lt o k e.symm).1; omega)⟩
structure SlR where
 A : Option Addr
 n : Nat
 c : Nat
 xs : List Num
def VM (W : World) (b : Nat) (L : List SlR) : Prop := ∀ i s, L[i]? = some s → 0 < s.n ∧ W.cell? ⟨b, i, none⟩ = some (.slice s.A s.n s.c) ∧ zk W s.A s.n s.c s.xs
theorem VM.below {W W' : World} {b : Nat} {L : List SlR} (h : VM W b L) (hb : Below W.heap.size W W') : VM W' b L := fun i s hs => ⟨(h i s hs).1, qm hb _ _ _ (h i s hs).2.1, (h i s hs).2.2.below hb⟩
def zjE (B b : Nat) (L : List SlR) : Prop := ∀ (i : Nat) (s : SlR), L[i]? = some s → b < B ∧ ∀ q o, s.A = some ⟨q, o, none⟩ → q < B
theorem VM.low {W : World} {b B : Nat} {L : List SlR} (h : VM W b L) (hB : W.heap.size = B) : zjE B b L := fun i s hs => by
 subst hB;obtain ⟨h1, h2, h3⟩ := h i s hs;exact ⟨World.block_lt_of_cell? W ⟨b, i, none⟩ h2, fun q o e => h3.low q o e h1⟩
theorem VM.grown {W W' : World} {b B : Nat} {L : List SlR} {row : Option Nat} (h : VM W b L) (hg : W.grownBy W' row) (hr : ∀ q, row = some q → B ≤ q) (hl : zjE B b L) : VM W' b L := fun i s hs => by
 obtain ⟨h1, h2, h3⟩ := h i s hs;obtain ⟨l1, l2⟩ := hl i s hs;refine ⟨h1, hg.cell h2 (fun e => by have := hr b e.symm; omega), h3.1, h3.2.1, fun hn => ?_⟩;obtain ⟨q, o, e, hc⟩ := h3.2.2 hn;have hq := l2 q o e;have hne : ∀ i, some (⟨q, i, none⟩ : Addr).block ≠ row := fun i e => by have := hr q e.symm; omega
 exact ⟨q, o, e, fun k x hx => ⟨hg.cell (hc k x hx).1 (hne _), hg.cell (hc k x hx).2.1 (hne _), hg.cell (hc k x hx).2.2.1 (hne _), hg.cell (hc k x hx).2.2.2 (hne _)⟩⟩
def jb (L : List SlR) : Nat := (L.map SlR.n).sum
theorem YD (L : List SlR) (s : SlR) : jb (L ++ [s]) = jb L + s.n := by simp [jb]
theorem YC (L : List SlR) (k : Nat) : jb (L.take k) ≤ jb L := by
 conv => rhs; rw [← List.take_append_drop k L]
 simp only [jb, List.map_append, List.sum_append];omega
theorem VB {W : World} {b : Nat} : ∀ (L : List SlR), (∀ s, s ∈ L → s.xs.length = s.n) → (L.flatMap SlR.xs).length = jb L
 | [], _ => rfl
 | s :: L, h => by
  have := VB (W := W) (b := b) L (fun s hs => h s (List.mem_cons_of_mem _ hs));have hs := h s List.mem_cons_self;simp only [List.flatMap_cons, List.length_append, this, hs, jb, List.map_cons, List.sum_cons]
theorem JY (b n c : Nat) (L : List SlR) (hL : L.length = n) (hn : n ≤ 100) (ht : jb L ≤ 1000) (w : World) (h : VM w b L) : Calls Tryz.prog 58 #[.slice (some ⟨b, 0, none⟩) n c] w (qT (L.flatMap SlR.xs) w) := by
 have hu := Tryz.underlying63;have hu1 := Tryz.underlying131;have HG := za (fun (k : Nat) (hk : k ≤ 1000) (W : World) => zdQ k hk W);have H := za h;have hxl : ∀ s, s ∈ L → s.xs.length = s.n := fun s hs => by obtain ⟨i, hi⟩ := List.getElem?_of_mem hs; exact (h i s hi).2.2.1
 have HXL := za hxl;clear h hxl;go_enter Tryz.func58, Tryz.ntmps58;go_wp2_with fail
 go_loopw [3, 5, 11] (fun z _ i wr => ∃ k : Nat, k ≤ n ∧ i = .int .i64 k ∧ z = .int .i64 (jb (L.take k) : Nat) ∧ wr = w) (fun _ _ i _ => n - (intOf i).toNat)
 case atStart => exact ⟨0, by omega, rfl, rfl, rfl⟩
 case round =>
  obtain ⟨k, hk, rfl, rfl, rfl⟩ := hrel
  by_cases hlt : k < n
  ·have hltI : (k : Int) < (n : Int) := by omega
   obtain ⟨s, hs⟩ : ∃ s, L[k]? = some s := ⟨_, List.getElem?_eq_getElem (by omega)⟩
   obtain ⟨h1, h2, h3⟩ := H.out k s hs;have hsz : jb (L.take k) + s.n = jb (L.take (k + 1)) := by rw [jV hs, YD]
   have hsz2 := YC L (k + 1);obtain ⟨q, hq⟩ := zc (jb (L.take k));rw [hq] at hsz ⊢;have hneg : ¬ ((q : Int) + (s.n : Int) < 0) := by omega
   have HS := za hsz;have hq9 : q + s.n ≤ 1000 := by omega
   clear hsz hsz2 hq;go_wp2_with fail;go_roundw
   case rel => exact ⟨k + 1, by omega, by go_num, by rw [← HS.out]; go_num, trivial⟩
   case measure => simp [intOf]; omega
  ·obtain rfl : k = n := by omega
   rw [List.take_of_length_le (by omega)];go_wp2_with fail;refine (HG.out _ ht _).mono ?_;rintro e w1 ⟨v, rfl, ho, hb⟩;obtain ⟨Q0, n0, c0, rfl⟩ := zO ho;have HO := za ho;have HB := za hb;have H1 := za (H.out.below hb);obtain ⟨B, hB⟩ := zc (wr.heap.size);rw [hB] at HO HB;have hB1 : B ≤ w1.heap.size := by rw [← hB]; exact hb.size
   have HBE := za hB;have HLO := za (VM.low H.out hB);clear ho hb H;go_wp2_with fail
   go_loopw [6, 8, 27] (fun v _ i wx => ∃ k' : Nat, k' ≤ k ∧ i = .int .i64 k' ∧ Hid (zF wx B v ((L.take k').flatMap SlR.xs)) ∧ Hid (Below B wr wx) ∧ Hid (VM wx b L) ∧ B ≤ wx.heap.size) (fun _ _ i _ => k - (intOf i).toNat)
   case atStart => exact ⟨0, by omega, rfl, HO, HB, H1, hB1⟩
   case round =>
    obtain ⟨j, hj, rfl, HO, HB, H, hBs⟩ := hrel
    by_cases hlt : j < k
    ·have hltI : (j : Int) < (k : Int) := by omega
     obtain ⟨s, hs⟩ : ∃ s, L[j]? = some s := ⟨_, List.getElem?_eq_getElem (by omega)⟩
     obtain ⟨h1, h2, h3⟩ := H.out j s hs;have H3 := za h3;have hT : (L.take j).flatMap SlR.xs ++ s.xs = (L.take (j + 1)).flatMap SlR.xs := by rw [jV hs, List.flatMap_append]; simp
     have hl : ((L.take j).flatMap SlR.xs).length + s.n ≤ 1000 := by
      rw [VB (W := wr) (b := b) _ (fun s hs => HXL.out s (List.mem_of_mem_take hs))];have e1 : jb (L.take j) + s.n = jb (L.take (j + 1)) := by rw [jV hs, YD]
      have := YC L (j + 1);omega
     have HT := za hT;have HLL := za hl;obtain ⟨K9, hK9⟩ := zc ((L.take j).flatMap SlR.xs);rw [hK9] at HO HT HLL;clear h3 hT hl hK9;obtain ⟨v, hv⟩ : ∃ v, v = u6 := ⟨_, rfl⟩
     subst hv;obtain ⟨sA, sn, sc, sx⟩ := s;dsimp only at h1 h2 H3 HLL HT;go_wp2_with (at_builtin; refine wpList_plain rfl (fun K hK => ?_); refine js (.tmp 31) (.tmp 32) rfl B v K9 sx sA sn sc rfl HO.out rfl h1 H3.out (by have := HLL.out; omega) hBs ?_; intro v3 w3 hown hgrow hat; refine hK _ _ ?_; clear hK K; have O3 := za hown; have K3 := za (zfJ HB.out hBs HO.out hgrow); have S3 := za (VM.grown H.out hgrow (fun q e => (World.ownsRow.lt HO.out q e).1) HLO.out); have hB3 : B ≤ w3.heap.size := Nat.le_trans hBs hgrow.size; clear hown hgrow hat)
     rw [HT.out] at O3;go_roundw
     case rel => exact ⟨j + 1, by omega, by go_num, O3, K3, S3, hB3⟩
     case measure => simp [intOf]; omega
    ·obtain rfl : k = j := by omega
     rw [List.take_of_length_le (by omega)] at HO;obtain ⟨Q1, n1, c1, rfl⟩ := zO HO.out;go_wp2_with fail;go_ret;exact ⟨_, _, _, rfl, by rw [HBE.out]; exact HO.out, by rw [HBE.out]; exact HB.out⟩
end
end Go.Proofs.YtcoiklclbljjeaaGreatDoor.L
