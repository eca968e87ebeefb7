import Derived.Test.YtbhijfbjdbjpbaaDoorQSHBase
import Derived.Test.YtbhijfbjdbjpbaaDoorQSHSh
import Derived.Test.YtbhijfbjdbjpbaaDoorGSHx5
namespace Go.Proofs.YtbhijfbjdbjpbaaDoor.Q
open Go.RowKit Go.Proofs.YtbhijfbjdbjpbaaDoor.GSH Go.Proofs.YtbhijfbjdbjpbaaDoorW.PrintWords Go.Proofs.YtbhijfbjdbjpbaaDoorW.PrintLast Go.Proofs.YtbhijfbjdbjpbaaDoorW.PrintMore

theorem wshl {h l : Int} (hh : U h) (hl : U l) (n : Nat) (h0 : 0 < n) (h1 : n < 64) : wide_Shl.f h l (n : Int) = some (shlV h l n) := by
  unfold wide_Shl.f shlV
  rw [if_neg (by omega), if_pos (by omega), if_pos (by omega), wrap64_in (by omega) (by omega), if_pos (by omega)]
  rw [show (64 - (n : Int)) = ((64 - n : Nat) : Int) by omega, shl_at n (by omega), shr_at (64 - n) (by omega), shl_at n (by omega)]
  have d := div_lt_pow (x := l) n (by omega) hl
  have := pow_bd n (by omega)
  rw [or_add n (umod _) (emod_pow n (by omega)) d.1 d.2 (by omega)]
end Go.Proofs.YtbhijfbjdbjpbaaDoor.Q
