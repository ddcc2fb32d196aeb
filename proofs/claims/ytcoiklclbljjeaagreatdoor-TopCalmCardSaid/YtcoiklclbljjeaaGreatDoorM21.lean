/- Lemmas of the card's proof. -/
import Derived.Test.YtcoiklclbljjeaaGreatDoorM20
set_option linter.unusedVariables false
set_option linter.unusedSimpArgs false
set_option maxRecDepth 100000
set_option maxHeartbeats 16000000
namespace Go.Proofs.YtcoiklclbljjeaaGreatDoor.L
open Go.RowKit
theorem XaO {P : Prop} (h : P := by
 go_enter Tryz.func71, Tryz.ntmps71;go_wp2;go_ret;exact ⟨rfl, rfl⟩) : P := h
section
attribute [local go_sem] Oper.semAt_some
def jR (k n : Int) : Int := if n < 1 then 0 else if 4 < n then 0 else if k = 1 then n + n * n else if k = 2 then 2 * n * n else if k = 3 then n + 2 else 0
theorem Yr (k n : Int) (w : World) : Calls Tryz.prog 71 #[k, n] w fun e w' => e = .returned (.int .i64 (jR k n)) ∧ w = w' := by
 have D := za (show jR k n = if n < 1 then 0 else if 4 < n then 0 else if k = 1 then n + n * n else if k = 2 then 2 * n * n else if k = 3 then n + 2 else 0 from rfl);obtain ⟨r, hr⟩ := zc (jR k n);rw [hr] at D ⊢;clear hr
 by_cases h1 : n < 1
 ·have E := D.out
  rw [if_pos h1] at E;subst E;exact XaO
 ·by_cases h2 : 4 < n
  ·have E := D.out
   rw [if_neg h1, if_pos h2] at E;subst E;exact XaO
  ·obtain ⟨m, hm⟩ := zc (n * n)
   have hm1 : 1 ≤ m ∧ m ≤ 16 := by
    have : n = 1 ∨ n = 2 ∨ n = 3 ∨ n = 4 := by omega
    rcases this with rfl | rfl | rfl | rfl <;> omega
   obtain ⟨q, hq⟩ := zc (2 * n * n);have hq1 : 1 ≤ q ∧ q ≤ 32 := by rw [← hq, Int.mul_assoc, hm]; omega
   have E := D.out;rw [if_neg h1, if_neg h2, hm, hq] at E
   by_cases k1 : k = 1
   ·rw [if_pos k1] at E
    subst E k1;exact XaO
   ·by_cases k2 : k = 2
    ·rw [if_neg k1, if_pos k2] at E
     subst E k2;exact XaO
    ·by_cases k3 : k = 3
     ·rw [if_neg k1, if_neg k2, if_pos k3] at E
      subst E k3;exact XaO
     ·rw [if_neg k1, if_neg k2, if_neg k3] at E
      subst E;exact XaO
theorem zdl (x : Int) (w : World) : Calls Tryz.prog 69 #[x] w fun e w' => e = .returned (.bool (!inF x)) ∧ w = w' := by
 have C := za (fun W => jC x W);go_enter Tryz.func69, Tryz.ntmps69;go_wp2_with fail;refine (C.out _).mono ?_;rintro e w' ⟨rfl, rfl⟩;go_wp2;go_ret;exact ⟨rfl, rfl⟩
theorem zir (args : Array Value) (W : World) : (callFunc 69 args).run Tryz.prog W = .ok (.enter 69 args) W := enters_of Tryz.func69 (by kernel_rfl) rfl args W
theorem ziI {xs : List Int} {k : Nat} {x : Int} {p : Int → Bool} (h : xs[k]? = some x) (hk : (xs.take k).any p = false) (hp : p x = false) : (xs.take (k + 1)).any p = false := by
 rw [List.take_add_one, h]; simp [hk, hp]
theorem zj4 {xs : List Int} {k : Nat} {x : Int} {p : Int → Bool} (h : xs[k]? = some x) (hp : p x = true) : xs.any p = true := List.any_eq_true.2 ⟨x, List.mem_of_getElem? h, hp⟩
theorem YB (F : Nat) (p : Int → Bool) (hf : ∀ (x : Int) (W : World), Calls Tryz.prog F #[x] W fun e w' => e = .returned (.bool (p x)) ∧ W = w') (heF : ∀ (args : Array Value) (W : World), (callFunc F args).run Tryz.prog W = .ok (.enter F args) W) (A : Option Addr) (n c : Nat) (xs : List Int) (hn : n ≤ 1000000) (w : World) (hx : zW w A n c xs) :
  Calls Tryz.prog 101 #[.slice A n c, .func (.func F) #[] #[]] w fun e w' => (∃ r : Int, e = .returned r ∧ -1 ≤ r ∧ r ≤ 1000000 ∧ decide (0 ≤ r) = xs.any p) ∧ w = w' := by
 have HF := za hf;clear hf;have HX := za hx;have LX := za hx.1;have hcap := hx.2.1;clear hx;go_enter Tryz.func101, Tryz.ntmps101;go_wp2_with fail
 go_loop [4, 5, 8] (fun v _ i => ∃ k : Nat, k ≤ n ∧ i = .int .i64 k ∧ Hid ((xs.take k).any (p) = false)) (fun _ _ i => n - (intOf i).toNat)
 case atStart => exact ⟨0, by omega, rfl, by simp [Hid]⟩
 case round =>
  obtain ⟨k, hk, rfl, HK⟩ := hrel
  by_cases hlt : k < n
  ·obtain ⟨b, o, x, rfl, hxk, x0⟩ := HX.out.at_ hlt
   have C := za (fun W => HF.out x W);go_wp2_with fail;refine (C.out _).mono ?_;cases hp : p x with
   | true =>
    have HA := za (zj4 (p := p) hxk hp);clear hp hxk;rintro e w' ⟨rfl, rfl⟩;go_wp2_with fail;go_ret;exact ⟨⟨k, rfl, by omega, by omega, by rw [HA.out]; simp⟩, rfl⟩
   | false =>
    have HA := za (ziI (p := p) hxk HK.out hp);clear hp hxk HK;rintro e w' ⟨rfl, rfl⟩;go_wp2_with fail
    go_round
    case rel => exact ⟨k + 1, by omega, by go_num, HA⟩
    case measure => simp [intOf]; omega
  ·have e : xs.take k = xs := List.take_of_length_le (by rw [LX.out]; omega)
   have HK2 := za (e ▸ HK.out);clear e HK;go_wp2_with fail;go_ret;exact ⟨⟨-1, rfl, by omega, by omega, by rw [HK2.out]; rfl⟩, rfl⟩
theorem vC (F : Nat) (p : Int → Bool) (hf : ∀ (x : Int) (W : World), Calls Tryz.prog F #[x] W fun e w' => e = .returned (.bool (p x)) ∧ W = w') (heF : ∀ (args : Array Value) (W : World), (callFunc F args).run Tryz.prog W = .ok (.enter F args) W) (A : Option Addr) (n c : Nat) (xs : List Int) (hn : n ≤ 1000000) (w : World) (hx : zW w A n c xs) :
  Calls Tryz.prog 72 #[.slice A n c, .func (.func F) #[] #[]] w fun e w' => e = .returned (.bool (xs.any p)) ∧ w = w' := by
 have C := za (YB F p hf heF A n c xs hn w hx);clear hf;clear hx;go_enter Tryz.func72, Tryz.ntmps72;go_wp2_with fail;refine C.out.mono ?_;rintro e w' ⟨⟨r, rfl, h1, h2, h3⟩, rfl⟩;have HD := za h3;clear h3;go_wp2_with fail;go_ret;exact ⟨by show Ending.returned (.bool (decide (0 ≤ r))) = _; rw [HD.out], rfl⟩
theorem JV (A : Option Addr) (n c : Nat) (xs : List Int) (hn : n ≤ 1000000) (w : World) (hx : zW w A n c xs) :
  Calls Tryz.prog 72 #[.slice A n c, .func (.func 69) #[] #[]] w fun e w' => e = .returned (.bool (xs.any fun x => !inF x)) ∧ w = w' := vC 69 (fun x => !inF x) zdl zir A n c xs hn w hx
end
theorem Xa0 {P : Prop} (h : P := by
 unfold jR
 split
 ·omega
 ·split
  ·omega
  ·have : n = 1 ∨ n = 2 ∨ n = 3 ∨ n = 4 := by omega
   rcases this with rfl | rfl | rfl | rfl <;> (split <;> first | omega | (split <;> first | omega | (split <;> omega)))) : P := h
theorem Xa8 {P : Prop} (h : P := by
 go_enter Tryz.func95, Tryz.ntmps95;go_wp2;go_ret;exact ⟨rfl, Below.refl _ _⟩) : P := h
section
attribute [local go_sem] Oper.semAt_some
theorem Yn (k n : Int) : 0 ≤ jR k n ∧ jR k n ≤ 32 := by
 exact Xa0
def sizeOf (xs : List Int) : Int := if xs.length < 4 then 0 else if xs.getD 0 0 = 78 ∧ xs.getD 1 0 = 86 then (if jR (xs.getD 2 0) (xs.getD 3 0) = 0 then 0 else 12 + 8 * jR (xs.getD 2 0) (xs.getD 3 0)) else 0
theorem zaB {y : Int} {k : Nat} (hk : k < 256) (h0 : 0 ≤ y) (h1 : y < 256) : (UInt8.ofNat y.toNat == UInt8.ofNat k) = decide (y = (k : Int)) := by
 rw [Bool.eq_iff_iff];simp only [beq_iff_eq, decide_eq_true_eq];constructor
 ·intro h
  have := congrArg UInt8.toNat h;simp at this;omega
 ·rintro rfl
  simp
theorem zgA (A : Option Addr) (n c : Nat) (xs : List Int) (hn : n ≤ 1000000) (hb : IsB xs) (w : World) (hx : qw w A n c xs) :
  Calls Tryz.prog 95 #[.slice A n c] w fun e w' => e = .returned (.int .i64 (sizeOf xs)) ∧ Below w.heap.size w w' := by
 have hcap := hx.2.1;have hlen := hx.1
 by_cases h4 : n < 4
 ·have E := za (show sizeOf xs = 0 by unfold sizeOf; rw [if_pos (by omega)])
  rw [E.out];clear E hx hb hlen;exact Xa8
 ·obtain ⟨b, o, rfl, hc⟩ := hx.2.2 (by omega)
  obtain ⟨y0, y1, y2, y3, zs, rfl⟩ : ∃ y0 y1 y2 y3 zs, xs = y0 :: y1 :: y2 :: y3 :: zs := by
   match xs, hlen with
   | y0 :: y1 :: y2 :: y3 :: zs, _ => exact ⟨y0, y1, y2, y3, zs, rfl⟩
   | [], h => simp at h; omega
   | [_], h => simp at h; omega
   | [_, _], h => simp at h; omega
   | [_, _, _], h => simp at h; omega
  have c0 := hc 0 y0 rfl;have c1 := hc 1 y1 rfl;have c2 := hc 2 y2 rfl;have c3 := hc 3 y3 rfl;have r0 := hb y0 (by simp);have r1 := hb y1 (by simp);obtain ⟨r2, r2'⟩ := hb y2 (by simp);obtain ⟨r3, r3'⟩ := hb y3 (by simp)
  have hs : sizeOf (y0 :: y1 :: y2 :: y3 :: zs) = if y0 = 78 ∧ y1 = 86 then (if jR y2 y3 = 0 then 0 else 12 + 8 * jR y2 y3) else 0 := by
   unfold sizeOf;rw [if_neg (by simp)];rfl
  rw [Nat.add_zero] at c0
  have hcv := run_convert_bytes_arg (P := Tryz.prog) w 41 5 Tryz.underlying41 Tryz.underlying5 b o 2 c [y0, y1] rfl (fun i hi => by
   match i, hi with
   | 0, _ => exact c0
   | 1, _ => exact c1) 9 Tryz.underlying9
  have hstr : strOfNums [y0, y1] = { data := #[UInt8.ofNat y0.toNat, UInt8.ofNat y1.toNat] } := rfl;rw [hstr] at hcv;clear hstr;have e0 : (UInt8.ofNat y0.toNat == 78) = decide (y0 = 78) := zaB (k := 78) (by omega) r0.1 r0.2;have e1 : (UInt8.ofNat y1.toNat == 86) = decide (y1 = 86) := zaB (k := 86) (by omega) r1.1 r1.2;rw [hs];clear hs hx hc hb hlen;have C := za (fun W => Yr y2 y3 W);have hml := Yn y2 y3
  obtain ⟨q, hq⟩ := zc (jR y2 y3);rw [hq] at C hml ⊢;obtain ⟨hm0, hm1⟩ := hml;clear hq;have hn4 : ¬ (n : Int) < 4 := by omega
  by_cases h0 : y0 = 78
  case neg =>
   rw [if_neg (by omega)];rw [decide_eq_false h0] at e0;exact Xa8
  case pos =>
   by_cases h1 : y1 = 86
   case neg =>
    rw [if_neg (by omega)];rw [decide_eq_false h1] at e1;exact Xa8
   case pos =>
    rw [if_pos ⟨h0, h1⟩];obtain ⟨r, hr⟩ := zc ((if q = 0 then (0 : Int) else 12 + 8 * q));rw [hr];have HR := za hr;clear hr;subst h0 h1;rw [decide_eq_true rfl] at e0 e1;go_enter Tryz.func95, Tryz.ntmps95;go_wp2_with fail;refine zaG 8 (by kernel_rfl) (by kernel_rfl) ?_;simp only [List.take_succ_cons, List.take_zero, List.drop_succ_cons, List.drop_zero];have k2 := fun x => Ext.cell c2 x;have k3 := fun x => Ext.cell c3 x
    repeat (go_big_quiet_step (fail))
    refine wpQuiet_nil ?_;rintro w1 ⟨x1, rfl⟩;go_wp2_with fail;refine (C.out x1.w).mono ?_;rintro e w' ⟨rfl, rfl⟩;have hbx := x1.below
    by_cases hq0 : q = 0
    ·have E := HR.out
     rw [if_pos hq0] at E;subst hq0 E;go_wp2_with fail;go_ret;exact ⟨rfl, hbx⟩
    ·have E := HR.out
     rw [if_neg hq0] at E;subst E;go_wp2_with fail;go_ret;exact ⟨rfl, hbx⟩
def zeq (g : Nat) : Value := .func (.func 94) #[] #[.pointer (some ⟨g, 0, none⟩)]
theorem zdT (A : Option Addr) (n c : Nat) (w : World) : Calls Tryz.prog 61 #[.slice A n c] w fun e w' => e = .returned (zeq w.heap.size) ∧ w.alloc (.cells #[.slice A n c] 41) = w' := by
 go_enter Tryz.func61, Tryz.ntmps61;go_wp2;go_ret;exact ⟨rfl, rfl⟩
end
theorem XaC {P : Prop} (h : P := by
 go_wp2_with fail;go_ret
 first | exact ⟨rfl, B0.out⟩ | exact ⟨rfl, by rw [hg]; exact B0.out⟩) : P := h
section
attribute [local go_sem] Oper.semAt_some
def qL (k s n : Int) (A : Option Addr) (m c : Nat) : Value := .agg #[k, s, n, .slice A m c]
def zR (k s n : Int) (l : List Int) : Bool := decide (0 < jR k n) && (decide ((l.length : Int) = jR k n) && (decide (0 ≤ s) && (decide (s ≤ 4294967295) && !(l.any fun x => !inF x))))
theorem zcs (k n : Int) : jR k n ≤ 32 := by
 exact Xa0
theorem vI (k s n : Int) (A : Option Addr) (m c : Nat) (l : List Int) (hm : m ≤ 1000000) (w : World) (hx : zW w A m c l) :
  Calls Tryz.prog 36 #[qL k s n A m c] w fun e w' => e = .returned (.bool (zR k s n l)) ∧ Below w.heap.size w w' := by
 have HX := za hx;have LX := za hx.1;clear hx;have C := za (fun W => Yr k n W);have D := za (show zR k s n l = (decide (0 < jR k n) && (decide ((m : Int) = jR k n) && (decide (0 ≤ s) && (decide (s ≤ 4294967295) && !(l.any fun x => !inF x))))) by unfold zR; rw [LX.out]);obtain ⟨q, hq⟩ := zc (jR k n);obtain ⟨r, hr⟩ := zc (zR k s n l);rw [hq] at C D;rw [hr] at D ⊢;clear hr hq;have hu := Tryz.underlying47
 unfold qL;go_enter Tryz.func36, Tryz.ntmps36;go_wp2_with fail;have A0 := za (At.new w 47 #[k, s, n, .slice A m c]);have B0 := za (zg (Below.refl w.heap.size w) (.cells #[k, s, n, .slice A m c] 47));obtain ⟨W0, hW0⟩ := zc ((w.alloc (.cells #[k, s, n, .slice A m c] 47)));have hWg := za (show W0.heap.size = w.heap.size + 1 by rw [← hW0]; simp);rw [hW0] at A0 B0 ⊢;clear hW0;obtain ⟨g, hg⟩ := zc (w.heap.size)
 rw [hg] at A0 B0 hWg
 try simp only [hg]
 obtain ⟨x0, x1, x2, x3⟩ := A0.out.four;go_wp2_with fail;refine (C.out _).mono ?_;rintro e w' ⟨rfl, rfl⟩
 by_cases h0 : 0 < q
 case neg =>
  have E := D.out;simp only [h0, decide_true, decide_false, Bool.true_and, Bool.false_and, Bool.and_true, Bool.and_false] at E;subst E;exact XaC
 case pos =>
  by_cases h1 : (m : Int) = q
  case neg =>
   have E := D.out;simp only [h0, h1, decide_true, decide_false, Bool.true_and, Bool.false_and, Bool.and_true, Bool.and_false] at E;subst E;exact XaC
  case pos =>
   by_cases h2 : 0 ≤ s
   case neg =>
    have E := D.out;simp only [h0, h1, h2, decide_true, decide_false, Bool.true_and, Bool.false_and, Bool.and_true, Bool.and_false] at E;subst E;exact XaC
   case pos =>
    by_cases h3 : s ≤ 4294967295
    case neg =>
     have E := D.out;simp only [h0, h1, h2, h3, decide_true, decide_false, Bool.true_and, Bool.false_and, Bool.and_true, Bool.and_false] at E;subst E;exact XaC
    case pos =>
     have E := za (show r = !(l.any fun x => !inF x) by have E := D.out; simpa only [h0, h1, h2, h3, decide_true, decide_false, Bool.true_and] using E);clear D;have F := za (JV A m c l hm W0 (HX.out.below (by rw [hg]; exact B0.out)));obtain ⟨u, hu2⟩ := zc ((l.any fun x => !inF x));rw [hu2] at F E;clear hu2;have E9 := E.out;subst E9;clear E;go_wp2_with fail;refine F.out.mono ?_;rintro e w' ⟨rfl, rfl⟩
     exact XaC
end
theorem Xbe {P : Prop} (h : P := by
 intro t
 induction t with
 | nil => rfl
 | cons y t ih => rw [List.flatMap_cons, List.length_append, ih, ZW, List.length_cons]; omega) : P := h
section
attribute [local go_sem] Oper.semAt_some
theorem vj.new4 {W : World} {g B : Nat} {a b c d : Int} (h : At W g 5 #[.int .u8 a, .int .u8 b, .int .u8 c, .int .u8 d]) (hB : B ≤ g) : vj W B (.slice (some ⟨g, 0, none⟩) 4 4) [a, b, c, d] :=
 ⟨rfl, .inr ⟨g, 4, _, rfl, hB, h, by show (4 : Nat) ≤ 4; omega, by unfold maxLen; omega, rfl, rfl⟩⟩
theorem zaf.under {B : Nat} {v v' : Value} {w0 W W' : World} {xs ys : List Int} (h : zaf B v W xs v' W') (hO : vj W B v ys) (hb : Below B w0 W) (hB : B ≤ W.heap.size) : Below B w0 W' := hb.grown h.2.1 hB (fun k hk => (World.ownsRow.lt hO k hk).1)
theorem Vs {w : World} {B : Nat} {v : Value} {xs : List Int} (h : vj w B v xs) : ∃ A c, v = .slice A xs.length c ∧ qw w A xs.length c xs := by
 rcases h.2 with ⟨rfl, h0⟩ | ⟨g, cap, cur, rfl, _, hb, hc, _, hs, ht⟩
 ·refine ⟨none, 0, by rw [h0], by rw [h0], by omega, by omega⟩
 ·refine ⟨_, _, rfl, rfl, hc, fun _ => ⟨g, 0, rfl, fun k x hk => ?_⟩⟩
  have e : (xs.map (Value.int .u8))[k]? = some (.int .u8 x) := by rw [List.getElem?_map, hk]; rfl
  have hk2 : k < xs.length := (List.getElem?_eq_some_iff.1 hk).1;have e2 : (List.take (xs.length * 1) cur.toList)[k]? = some (.int .u8 x) := by rw [ht]; exact e
  rw [List.getElem?_take_of_lt (by omega)] at e2;simp [World.cell?, hb]
  simpa using e2
theorem zgI {w : World} {B B' : Nat} {v : Value} {xs : List Int} (h : vj w B v xs) (hB : B' ≤ B) : vj w B' v xs := by
 exact XaH
def Yc (k s n : Int) (l : List Int) : List Int := [78, 86, k % 256, n % 256] ++ yY s 4 ++ l.flatMap fun x => yY x 8
def yx (k s n : Int) (l : List Int) : List Int := Yc k s n l ++ yY (n32 (VT (Yc k s n l))) 4
theorem zf7 (x : Int) (k : Nat) : IsB (yY x k) := by
 intro y hy;unfold yY at hy;obtain ⟨i, _, rfl⟩ := List.mem_map.1 hy;unfold zdz;exact ⟨Int.emod_nonneg _ (by omega), Int.emod_lt_of_pos _ (by omega)⟩
theorem zia (k s n : Int) (l : List Int) : IsB (Yc k s n l) := by
 intro y hy;unfold Yc at hy;rcases List.mem_append.1 hy with hy | hy
 ·rcases List.mem_append.1 hy with hy | hy
  ·simp only [List.mem_cons, List.not_mem_nil, or_false] at hy
   rcases hy with rfl | rfl | rfl | rfl <;> omega
  ·exact zf7 _ _ y hy
 ·obtain ⟨x, _, hx⟩ := List.mem_flatMap.1 hy
  exact zf7 _ _ y hx
theorem ziv (k s n : Int) (l : List Int) (j : Nat) (h : l.length ≤ 1000) : ([78, 86, k % 256, n % 256] ++ yY s 4 ++ (l.take j).flatMap fun x => yY x 8).length ≤ 100000 := by
 have e : ∀ t : List Int, (t.flatMap fun x => yY x 8).length = t.length * 8 := by
  exact Xbe
 rw [List.length_append, List.length_append, ZW, e, List.length_take];simp only [List.length_cons, List.length_nil];omega
theorem zdm (k s n : Int) (A : Option Addr) (m c : Nat) (l : List Int) (hm : m ≤ 1000) (w : World) (hT : Tab w) (hx : zW w A m c l) (hok : zR k s n l = true) :
  Calls Tryz.prog 13 #[qL k s n A m c] w fun e w' => ∃ v, e = .returned (.tuple #[v, .int .i64 0]) ∧ vj w' w.heap.size v (yx k s n l) ∧ Below w.heap.size w w' := by
 have HX := za hx;have LX := za hx.1;have hcap := hx.2.1;have HT := za hT;clear hx hT;have R := za (fun W h => vI k s n A m c l (by omega) W h);rw [hok] at R
 have hs : 0 ≤ s ∧ s ≤ 4294967295 ∧ l.any (fun x => !inF x) = false := by
  unfold zR at hok;simp only [Bool.and_eq_true, decide_eq_true_eq, Bool.not_eq_true'] at hok;exact ⟨hok.2.2.1, hok.2.2.2.1, hok.2.2.2.2⟩
 obtain ⟨hs0, hs1, hin⟩ := hs;have HIN := za hin;clear hin hok;have hu := Tryz.underlying47;unfold qL at R;unfold qL;go_enter Tryz.func13, Tryz.ntmps13;go_wp2_with fail;have A0 := za (At.new w 47 #[k, s, n, .slice A m c]);have B0 := za (zg (Below.refl w.heap.size w) (.cells #[k, s, n, .slice A m c] 47));obtain ⟨W0, hW0⟩ := zc ((w.alloc (.cells #[k, s, n, .slice A m c] 47)));have hWg := za (show W0.heap.size = w.heap.size + 1 by rw [← hW0]; simp)
 rw [hW0] at A0 B0 ⊢;clear hW0;obtain ⟨g, hg⟩ := zc (w.heap.size);rw [hg] at A0 B0 hWg
 try simp only [hg]
 have A00 := za A0.out;obtain ⟨x0, x1, x2, x3⟩ := A0.out.four;have hsz := hWg.out;go_wp2_with fail;refine (R.out W0 (HX.out.below (by rw [hg]; exact B0.out))).mono ?_;rintro e w1 ⟨rfl, hb1⟩;replace A0 := za (A0.out.below hb1);have K1 := za hb1;clear x0 x1 x2 x3 hb1;obtain ⟨x0, x1, x2, x3⟩ := A0.out.four;have hsz1 := K1.out.size;have y1 := (A0.out.alloc (.cells #[.int .u8 78, .int .u8 86, .int .u8 (k % 256), .int .u8 (n % 256)] 5)).cell 1
 go_wp2_with fail;have O1 := za (vj.new4 (At.new w1 5 #[.int .u8 78, .int .u8 86, .int .u8 (k % 256), .int .u8 (n % 256)]) hsz1);have K2 := za (zg K1.out (.cells #[.int .u8 78, .int .u8 86, .int .u8 (k % 256), .int .u8 (n % 256)] 5));replace A0 := za (A0.out.alloc (.cells #[.int .u8 78, .int .u8 86, .int .u8 (k % 256), .int .u8 (n % 256)] 5));clear x0 x1 x2 x3 y1 K1;obtain ⟨W1, hW1⟩ := zc (w1.alloc (.cells #[.int .u8 78, .int .u8 86, .int .u8 (k % 256), .int .u8 (n % 256)] 5))
 rw [hW1] at O1 K2 A0 ⊢;clear hW1;have hsz2 := K2.out.size;refine (Vy W0.heap.size _ _ s 4 (by omega) (by simp) W1 O1.out hsz2 (by omega) (by omega)).mono ?_;rintro e w2 ⟨v2, rfl, hG⟩;have K3 := za (hG.under O1.out K2.out hsz2);have O2 := za hG.1;clear hG K2 O1 hsz2;replace A0 := za ((show At W0 g 47 #[k, s, n, .slice A m c] from A00.out).below K3.out);obtain ⟨x0, x1, x2, x3⟩ := A0.out.four;have hsz3 := K3.out.size
 go_wp2_with fail;clear x0 x1 x2 x3
 go_loopw [4, 6, 23] (fun v _ i wr => ∃ j : Nat, j ≤ m ∧ i = .int .i64 j ∧ Hid (vj wr W0.heap.size v ([78, 86, k % 256, n % 256] ++ yY s 4 ++ (l.take j).flatMap fun x => yY x 8)) ∧ Hid (Below W0.heap.size W0 wr)) (fun _ _ i _ => m - (intOf i).toNat)
 case atStart => exact ⟨0, by omega, rfl, by simpa [Hid] using O2.out, K3⟩
 case round =>
  obtain ⟨j, hj, rfl, HO, HB⟩ := hrel;have hszr := HB.out.size
  by_cases hlt : j < m
  ·obtain ⟨b, o, x, rfl, hxj, x0⟩ := ((HX.out.below (by rw [hg]; exact B0.out)).below HB.out).at_ (k := j) hlt
   have hxi : inF x = true := by
    have h := HIN.out;rw [List.any_eq_false] at h
    simpa using h x (List.mem_of_getElem? hxj)
   have hxb : -1125899906842624 ≤ x ∧ x ≤ 1125899906842624 := by simpa [inF] using hxi
   obtain ⟨hxb0, hxb1⟩ := hxb;have HTK := za (show ([78, 86, k % 256, n % 256] ++ yY s 4 ++ (l.take j).flatMap fun x => yY x 8) ++ yY x 8 = [78, 86, k % 256, n % 256] ++ yY s 4 ++ (l.take (j + 1)).flatMap fun x => yY x 8 by rw [jV hxj]; simp);obtain ⟨L, hL⟩ := zc (([78, 86, k % 256, n % 256] ++ yY s 4 ++ (l.take j).flatMap fun x => yY x 8));have HLL := za (show L.length ≤ 100000 by rw [← hL]; exact ziv k s n l j (by rw [LX.out]; omega))
   rw [hL] at HO HTK;clear hxj hxi hL;go_wp2_with fail;refine (Vy W0.heap.size _ L x 8 (by omega) HLL.out wr HO.out hszr (by omega) (by omega)).mono ?_;rintro e w3 ⟨v3, rfl, hG⟩;have K4 := za (hG.under HO.out HB.out hszr);have O4 := za hG.1;rw [HTK.out] at O4;clear hG x0;go_wp2_with fail;go_roundw
   case rel => exact ⟨j + 1, by omega, by go_num, O4, K4⟩
   case measure => simp [intOf]; omega
  ·have e : l.take j = l := List.take_of_length_le (by rw [LX.out]; omega)
   rw [e] at HO;clear e;have HO' := za (show vj wr W0.heap.size _ (Yc k s n l) from HO.out);have HLL := za (show (Yc k s n l).length ≤ 100000 by have h := ziv k s n l l.length (by rw [LX.out]; omega); rw [List.take_length] at h; exact h);have HE := za (show yx k s n l = Yc k s n l ++ yY (n32 (VT (Yc k s n l))) 4 from rfl);have HISB := za (zia k s n l);obtain ⟨L, hL⟩ := zc (Yc k s n l);rw [hL] at HO' HLL HE HISB
   clear HO hL;obtain ⟨A1, c1, rfl, hby⟩ := Vs HO'.out;have S := za (zhJ A1 L.length c1 L wr ((HT.out.below (by rw [hg]; exact B0.out)).below HB.out) hby HISB.out (by have := HLL.out; omega));clear hby;obtain ⟨z, hz, hz0, hz1⟩ := Ym (VT L);rw [← hz] at S HE;clear hz;go_wp2_with fail;refine S.out.mono ?_;rintro e w' ⟨rfl, rfl⟩;go_wp2_with fail;refine (Vy W0.heap.size _ L z 4 (by omega) HLL.out wr HO'.out hszr (by omega) (by omega)).mono ?_
   rintro e w3 ⟨v3, rfl, hG⟩;have K4 := za (hG.under HO'.out HB.out hszr);have O4 := za hG.1;rw [← HE.out] at O4;clear hG;go_wp2_with fail
   go_ret2
   exact ⟨v3, rfl, zgI O4.out (by omega), by first | exact B0.out.trans (K4.out.mono (by omega)) | (rw [hg]; exact B0.out.trans (K4.out.mono (by omega)))⟩
theorem zan (k s n : Int) (A : Option Addr) (m c : Nat) (l : List Int) (hm : m ≤ 1000) (w : World) (hx : zW w A m c l) (hok : zR k s n l = false) :
  Calls Tryz.prog 13 #[qL k s n A m c] w fun e w' => e = .returned (.tuple #[.slice none 0 0, .int .i64 1]) ∧ Below w.heap.size w w' := by
 have HX := za hx;clear hx;have R := za (fun W h => vI k s n A m c l (by omega) W h);rw [hok] at R;clear hok;have hu := Tryz.underlying47;unfold qL at R;unfold qL;go_enter Tryz.func13, Tryz.ntmps13;go_wp2_with fail;have A0 := za (At.new w 47 #[k, s, n, .slice A m c]);have B0 := za (zg (Below.refl w.heap.size w) (.cells #[k, s, n, .slice A m c] 47));obtain ⟨W0, hW0⟩ := zc ((w.alloc (.cells #[k, s, n, .slice A m c] 47)))
 have hWg := za (show W0.heap.size = w.heap.size + 1 by rw [← hW0]; simp);rw [hW0] at A0 B0 ⊢;clear hW0;obtain ⟨g, hg⟩ := zc (w.heap.size);rw [hg] at A0 B0 hWg
 try simp only [hg]
 obtain ⟨x0, x1, x2, x3⟩ := A0.out.four;have hsz := hWg.out;go_wp2_with fail;refine (R.out W0 (HX.out.below (by rw [hg]; exact B0.out))).mono ?_;rintro e w1 ⟨rfl, hb1⟩;have K1 := za hb1;clear x0 x1 x2 x3 hb1;go_wp2_with fail
 go_ret2
 exact ⟨rfl, by first | exact B0.out.trans (K1.out.mono (by omega)) | (rw [hg]; exact B0.out.trans (K1.out.mono (by omega)))⟩
end
theorem XaD {P : Prop} (h : P := by
 obtain ⟨hl, hc, hx⟩ := h;refine ⟨by rw [List.length_drop, List.length_take]; omega, by omega, fun hn => ⟨b, o + i, rfl, fun k x hk => ?_⟩⟩;obtain ⟨b', o', e, hx⟩ := hx (by omega);obtain ⟨rfl, rfl⟩ : b = b' ∧ o = o' := by injection e with e; injection e with e1 e2; exact ⟨e1, e2⟩
 rw [List.getElem?_drop, List.getElem?_take] at hk
 split at hk
 ·have := hx (i + k) x hk
  rwa [← Nat.add_assoc] at this
 ·exact absurd hk (by simp)) : P := h
theorem qw.part {w : World} {b o n c : Nat} {xs : List Int} (h : qw w (some ⟨b, o, none⟩) n c xs) (i j : Nat) (hij : i ≤ j) (hj : j ≤ n) : qw w (some ⟨b, o + i, none⟩) (j - i) (c - i) ((xs.take j).drop i) := by
 exact XaD
theorem IsB.part {xs : List Int} (h : IsB xs) (i j : Nat) : IsB ((xs.take j).drop i) := fun x hx => h x (List.mem_of_mem_take (List.mem_of_mem_drop hx))
theorem Ys (A : Option Addr) (n c : Nat) (h : n < 12) (w : World) :
  Calls Tryz.prog 39 #[.slice A n c] w fun e w' => e = .returned (.tuple #[qL 0 0 0 none 0 0, .int .i64 2]) ∧ Below w.heap.size w w' := by
 have hu := Tryz.underlying47;unfold qL;go_enter Tryz.func39, Tryz.ntmps39;go_wp2_with fail;obtain ⟨d0, d1, d2, d3⟩ := (At.new w 47 #[.int .i64 0, .int .i64 0, .int .i64 0, .slice none 0 0]).four;exact bodyPost_ret (v := .tuple #[.agg #[.int .i64 0, .int .i64 0, .int .i64 0, .slice none 0 0], .int .i64 2]) (by simp [results, Tryz.results39, go_sem, d0, d1, d2, d3]) rfl ⟨rfl, zg (Below.refl _ _) _⟩
end Go.Proofs.YtcoiklclbljjeaaGreatDoor.L
