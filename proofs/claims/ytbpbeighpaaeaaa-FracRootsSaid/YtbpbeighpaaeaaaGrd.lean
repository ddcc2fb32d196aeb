-- Written by the kit's print.py for this seat over wip/F/doctor.py, then turned by wip/F/fix.py.
import Derived.Test.YtbpbeighpaaeaaaGx0
import Derived.Test.YtbpbeighpaaeaaaFld
import Derived.Test.YtbpbeighpaaeaaaGx1
import Derived.Test.YtbpbeighpaaeaaaGx2
import Derived.Test.YtbpbeighpaaeaaaGx3
import Derived.Test.YtbpbeighpaaeaaaGx4
import Derived.Test.YtbpbeighpaaeaaaGx5
import Derived.Test.YtbpbeighpaaeaaaGfi
import Derived.Test.YtbpbeighpaaeaaaGx9
import Derived.Test.YtbpbeighpaaeaaaGof
import Derived.Test.YtbpbeighpaaeaaaGx11
namespace Go.Proofs.Ytbpbeighpaaeaaa.G
open Go.RowKit Go.Proofs.YtbpbeighpaaeaaaW.PrintWords Go.Proofs.YtbpbeighpaaeaaaW.PrintLast Go.Proofs.YtbpbeighpaaeaaaW.PrintMore
attribute [local go_sem] max2_int min2_int max_two min_two max_three min_three max_four min_four   -- for this text's walks alone
attribute [local go_sem high] field23_0 field23_1 field23_2
set_option linter.unusedVariables false
set_option linter.unusedSimpArgs false

attribute [local go_sem high] eqA23
/-! ### coupletlaw04_FracRoots: function 5 -/
mutual
def coupletlaw04_FracRoots.j0 : Nat → Int → Int → Bool → Int → Int → Bool → Int → Int → Bool → Option (Bool)
  | 0, _, _, _, _, _, _, _, _, _ => none
  | k + 1, x1, x6, x16, x349000, x349001, x349002, x353000, x353001, x353002 => if x16 = true then (coupletlaw04_FracRoots.j1 k x1 (-1) x349000 x349001 x349002 x353000 x353001 x353002) else (coupletlaw04_FracRoots.j1 k x1 x6 x349000 x349001 x349002 x353000 x353001 x353002)
def coupletlaw04_FracRoots.j1 : Nat → Int → Int → Int → Int → Bool → Int → Int → Bool → Option (Bool)
  | 0, _, _, _, _, _, _, _, _ => none
  | k + 1, x1, x6, x349000, x349001, x349002, x353000, x353001, x353002 => (coupletlaw04_fine.f k x349000 x349001 x349002).bind fun t354 => (if t354 = true then (coupletlaw04_FracRoots.j2 k x1 x6 (decide (x349000 > 0)) x349000 x349001 x349002 x353000 x353001 x353002) else (coupletlaw04_FracRoots.j2 k x1 x6 false x349000 x349001 x349002 x353000 x353001 x353002))
def coupletlaw04_FracRoots.j2 : Nat → Int → Int → Bool → Int → Int → Bool → Int → Int → Bool → Option (Bool)
  | 0, _, _, _, _, _, _, _, _, _ => none
  | k + 1, x1, x6, x23, x349000, x349001, x349002, x353000, x353001, x353002 => if x23 = true then (coupletlaw04_FracRoots.j3 k x1 1 x349000 x349001 x349002 x353000 x353001 x353002) else (coupletlaw04_FracRoots.j3 k x1 x6 x349000 x349001 x349002 x353000 x353001 x353002)
def coupletlaw04_FracRoots.j3 : Nat → Int → Int → Int → Int → Bool → Int → Int → Bool → Option (Bool)
  | 0, _, _, _, _, _, _, _, _ => none
  | k + 1, x1, x6, x349000, x349001, x349002, x353000, x353001, x353002 => (frac_Frac_Of.f k x349000 x349001 x349002 x1).bind fun bt355 => ((frac_Frac_Sign.f k x349000 x349001 x349002).bind fun t359 => (if t359 = x6 then ((frac_Frac_Fine.f k x349000 x349001 x349002).bind fun t360 => ((coupletlaw04_fine.f k x349000 x349001 x349002).bind fun t361 => (if (t360 != t361) = true then (coupletlaw04_FracRoots.j4 k true x349000 x349001 x349002 x353000 x353001 x353002) else ((coupletlaw04_small.f x1).bind fun t362 => (if t362 = true then (if (!(bt355.1 == x1) || (!(bt355.2.1 == 1) || (bt355.2.2))) = true then (coupletlaw04_FracRoots.j4 k true x349000 x349001 x349002 x353000 x353001 x353002) else ((coupletlaw04_small.f x1).bind fun t363 => (if t363 = true then (coupletlaw04_FracRoots.j4 k false x349000 x349001 x349002 x353000 x353001 x353002) else (coupletlaw04_FracRoots.j4 k (!bt355.2.2) x349000 x349001 x349002 x353000 x353001 x353002)))) else ((coupletlaw04_small.f x1).bind fun t364 => (if t364 = true then (coupletlaw04_FracRoots.j4 k false x349000 x349001 x349002 x353000 x353001 x353002) else (coupletlaw04_FracRoots.j4 k (!bt355.2.2) x349000 x349001 x349002 x353000 x353001 x353002)))))))) else (coupletlaw04_FracRoots.j4 k true x349000 x349001 x349002 x353000 x353001 x353002)))
def coupletlaw04_FracRoots.j4 : Nat → Bool → Int → Int → Bool → Int → Int → Bool → Option (Bool)
  | 0, _, _, _, _, _, _, _ => none
  | k + 1, x57, x349000, x349001, x349002, x353000, x353001, x353002 => if x57 = true then (some false) else ((coupletlaw04_fine.f k x349000 x349001 x349002).bind fun t365 => (if t365 = true then (if x349000 < 0 then (coupletlaw04_FracRoots.j5 k true x349000 x349001 x349002 x353000 x353001 x353002) else ((coupletref04_Square.f k x349000).bind fun t366 => (if t366 < 0 then (coupletlaw04_FracRoots.j5 k true x349000 x349001 x349002 x353000 x353001 x353002) else ((coupletref04_Square.f k x349001).bind fun t367 => (coupletlaw04_FracRoots.j5 k (decide (t367 < 0)) x349000 x349001 x349002 x353000 x353001 x353002))))) else (coupletlaw04_FracRoots.j5 k true x349000 x349001 x349002 x353000 x353001 x353002)))
def coupletlaw04_FracRoots.j5 : Nat → Bool → Int → Int → Bool → Int → Int → Bool → Option (Bool)
  | 0, _, _, _, _, _, _, _ => none
  | k + 1, x77, x349000, x349001, x349002, x353000, x353001, x353002 => if x77 = true then ((frac_Wrong.f).bind fun bt368 => (if (x353000 == bt368.1 && (x353001 == bt368.2.1 && (x353002 == bt368.2.2))) = true then ((coupletlaw04_awake.f k).bind fun t371 => (some t371)) else (some false))) else ((coupletref04_Square.f k x349000).bind fun t372 => ((coupletref04_Square.f k x349001).bind fun t373 => (if (x353000 == t372 && (x353001 == t373 && (!x353002))) = true then ((frac_Frac_Mul.f k x353000 x353001 x353002 x353000 x353001 x353002).bind fun bt374 => (if (bt374.1 == x349000 && (bt374.2.1 == x349001 && (bt374.2.2 == x349002))) = true then ((coupletlaw04_awake.f k).bind fun t377 => (some t377)) else (some false))) else (some false))))
end
def coupletlaw04_FracRoots.f (k : Nat) (a0_0 : Int) (a0_1 : Int) (a0_2 : Bool) (a1 : Int) : Option (Bool) := (frac_Frac_Root.f k a0_0 a0_1 a0_2).bind fun bt349 => ((coupletlaw04_fine.f k a0_0 a0_1 a0_2).bind fun t353 => (if t353 = true then (coupletlaw04_FracRoots.j0 k a1 0 (decide (a0_0 < 0)) a0_0 a0_1 a0_2 bt349.1 bt349.2.1 bt349.2.2) else (coupletlaw04_FracRoots.j0 k a1 0 false a0_0 a0_1 a0_2 bt349.1 bt349.2.1 bt349.2.2)))
end Go.Proofs.Ytbpbeighpaaeaaa.G
