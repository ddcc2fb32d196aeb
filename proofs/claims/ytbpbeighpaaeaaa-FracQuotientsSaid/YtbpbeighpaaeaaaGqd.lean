-- Written by the kit's print.py for this seat over wip/F/doctor.py, then turned by wip/F/fix.py.
import Derived.Test.YtbpbeighpaaeaaaGx0
import Derived.Test.YtbpbeighpaaeaaaFld
import Derived.Test.YtbpbeighpaaeaaaGx1
import Derived.Test.YtbpbeighpaaeaaaGx2
import Derived.Test.YtbpbeighpaaeaaaGx5
import Derived.Test.YtbpbeighpaaeaaaGx6
import Derived.Test.YtbpbeighpaaeaaaGx7
import Derived.Test.YtbpbeighpaaeaaaGx9
namespace Go.Proofs.Ytbpbeighpaaeaaa.G
open Go.RowKit Go.Proofs.YtbpbeighpaaeaaaW.PrintWords Go.Proofs.YtbpbeighpaaeaaaW.PrintLast Go.Proofs.YtbpbeighpaaeaaaW.PrintMore
attribute [local go_sem] max2_int min2_int max_two min_two max_three min_three max_four min_four   -- for this text's walks alone
attribute [local go_sem high] field23_0 field23_1 field23_2
set_option linter.unusedVariables false
set_option linter.unusedSimpArgs false

attribute [local go_sem high] eqA23
/-! ### coupletlaw04_FracQuotients: function 4 -/
mutual
def coupletlaw04_FracQuotients.j0 : Nat → Bool → Int → Int → Bool → Int → Int → Bool → Int → Int → Bool → Option (Bool)
  | 0, _, _, _, _, _, _, _, _, _, _ => none
  | k + 1, x64, x379000, x379001, x379002, x380000, x380001, x380002, x384000, x384001, x384002 => if x64 = true then (if x384002 = true then ((coupletlaw04_awake.f k).bind fun t386 => (some t386)) else (some false)) else (if (wrap64 (x379001 * x380000)) < 0 then (coupletlaw04_FracQuotients.j1 k (wrap64 (-(wrap64 (x379000 * x380001)))) (wrap64 (-(wrap64 (x379001 * x380000)))) x379000 x379001 x379002 x384000 x384001 x384002) else (coupletlaw04_FracQuotients.j1 k (wrap64 (x379000 * x380001)) (wrap64 (x379001 * x380000)) x379000 x379001 x379002 x384000 x384001 x384002))
def coupletlaw04_FracQuotients.j1 : Nat → Int → Int → Int → Int → Bool → Int → Int → Bool → Option (Bool)
  | 0, _, _, _, _, _, _, _, _ => none
  | k + 1, x6, x7, x379000, x379001, x379002, x384000, x384001, x384002 => (frac_Frac_Neg.f k x379000 x379001 x379002).bind fun bt387 => ((frac_New.f k x6 x7).bind fun bt391 => (if (x384000 == bt391.1 && (x384001 == bt391.2.1 && (x384002 == bt391.2.2))) = true then (if x384002 = true then (if (bt387.1 == (wrap64 (-x379000)) && (bt387.2.1 == x379001 && (!bt387.2.2))) = true then ((coupletlaw04_awake.f k).bind fun t394 => (some t394)) else (some false)) else ((coupletref04_Same.f k x6 x7 x384000 x384001).bind fun t395 => (if t395 = true then (if (bt387.1 == (wrap64 (-x379000)) && (bt387.2.1 == x379001 && (!bt387.2.2))) = true then ((coupletlaw04_awake.f k).bind fun t396 => (some t396)) else (some false)) else (some false)))) else (some false)))
end
def coupletlaw04_FracQuotients.f (k : Nat) (a0_0 : Int) (a0_1 : Int) (a0_2 : Bool) (a1_0 : Int) (a1_1 : Int) (a1_2 : Bool) : Option (Bool) := (frac_Frac_Div.f k a0_0 a0_1 a0_2 a1_0 a1_1 a1_2).bind fun bt380 => (if a0_0 < (-1073741824) then (coupletlaw04_FracQuotients.j0 k true a0_0 a0_1 a0_2 a1_0 a1_1 a1_2 bt380.1 bt380.2.1 bt380.2.2) else (if a0_0 > 1073741824 then (coupletlaw04_FracQuotients.j0 k true a0_0 a0_1 a0_2 a1_0 a1_1 a1_2 bt380.1 bt380.2.1 bt380.2.2) else (if a0_1 < 1 then (coupletlaw04_FracQuotients.j0 k true a0_0 a0_1 a0_2 a1_0 a1_1 a1_2 bt380.1 bt380.2.1 bt380.2.2) else (if a0_1 > 1073741824 then (coupletlaw04_FracQuotients.j0 k true a0_0 a0_1 a0_2 a1_0 a1_1 a1_2 bt380.1 bt380.2.1 bt380.2.2) else (if a1_0 < (-1073741824) then (coupletlaw04_FracQuotients.j0 k true a0_0 a0_1 a0_2 a1_0 a1_1 a1_2 bt380.1 bt380.2.1 bt380.2.2) else (if a1_0 > 1073741824 then (coupletlaw04_FracQuotients.j0 k true a0_0 a0_1 a0_2 a1_0 a1_1 a1_2 bt380.1 bt380.2.1 bt380.2.2) else (if a1_1 < 1 then (coupletlaw04_FracQuotients.j0 k true a0_0 a0_1 a0_2 a1_0 a1_1 a1_2 bt380.1 bt380.2.1 bt380.2.2) else (if a1_1 > 1073741824 then (coupletlaw04_FracQuotients.j0 k true a0_0 a0_1 a0_2 a1_0 a1_1 a1_2 bt380.1 bt380.2.1 bt380.2.2) else ((coupletlaw04_fine.f k a0_0 a0_1 a0_2).bind fun t384 => (if t384 = true then ((coupletlaw04_fine.f k a1_0 a1_1 a1_2).bind fun t385 => (if t385 = true then (coupletlaw04_FracQuotients.j0 k (a1_0 == 0) a0_0 a0_1 a0_2 a1_0 a1_1 a1_2 bt380.1 bt380.2.1 bt380.2.2) else (coupletlaw04_FracQuotients.j0 k true a0_0 a0_1 a0_2 a1_0 a1_1 a1_2 bt380.1 bt380.2.1 bt380.2.2))) else (coupletlaw04_FracQuotients.j0 k true a0_0 a0_1 a0_2 a1_0 a1_1 a1_2 bt380.1 bt380.2.1 bt380.2.2)))))))))))
end Go.Proofs.Ytbpbeighpaaeaaa.G
