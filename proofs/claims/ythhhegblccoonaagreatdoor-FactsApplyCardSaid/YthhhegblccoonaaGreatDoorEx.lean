import Derived.Test.YthhhegblccoonaaGreatDoorVW
import Derived.Laws.Externs
namespace Go.Proofs.YthhhegblccoonaaGreatDoorW.PrintWords
set_option linter.unusedVariables false
set_option linter.unusedSimpArgs false
set_option linter.unusedSectionVars false
def addlo (x y : Int) : Int := ((x.toNat + y.toNat) % 18446744073709551616 : Nat)
def addhi (x y : Int) : Int := ((x.toNat + y.toNat) / 18446744073709551616 : Nat)
/-- math/bits.Add64 without a carry is an entry of the model: it yields its values at once. -/
theorem add64_run {P : Program} {f : FuncId} {fn : Func} (hf : P.funcs[f]? = some fn) (hname : (fn.name == "runtime.NumGoroutine") = false) (hb : fn.body.isNone = true) (hn : Extern.findNext fn = none) (he : Extern.find fn = some add64Entry) (x y : Int) (w : World) :
    (callFunc f #[.int .u64 x, .int .u64 y, .int .u64 0]).run P w = .ok (.value (.tuple #[.int .u64 (addlo x y), .int .u64 (addhi x y)])) w := by
  rw [run_callFunc_extern hf hname hb hn he]
  rfl
end Go.Proofs.YthhhegblccoonaaGreatDoorW.PrintWords
