import Derived.Test.YtbhijfbjdbjpbaaDoorQSHBase
import Derived.Test.YtbhijfbjdbjpbaaDoorQSHSh
import Derived.Test.YtbhijfbjdbjpbaaDoorGSHx10
namespace Go.Proofs.YtbhijfbjdbjpbaaDoor.Q
open Go.RowKit Go.Proofs.YtbhijfbjdbjpbaaDoor.GSH Go.Proofs.YtbhijfbjdbjpbaaDoorW.PrintWords Go.Proofs.YtbhijfbjdbjpbaaDoorW.PrintLast Go.Proofs.YtbhijfbjdbjpbaaDoorW.PrintMore

theorem wshr {h l : Int} (hh : U h) (hl : U l) (n : Nat) (h0 : 0 < n) (h1 : n < 64) : wide_Shr.f h l (n : Int) = some (shrV h l n) := by
  unfold wide_Shr.f shrV
  rw [if_neg (by omega), if_pos (by omega), if_pos (by omega), wrap64_in (by omega) (by omega), if_pos (by omega)]
  rw [show (64 - (n : Int)) = ((64 - n : Nat) : Int) by omega, shr_at n (by omega), shr_at n (by omega), shl_at (64 - n) (by omega), or_comm_]
  have d := div_lt_pow (x := l) (64 - n) (by omega) hl
  rw [show 64 - (64 - n) = n by omega] at d
  have := pow_bd (64 - n) (by omega)
  rw [or_add (64 - n) (umod _) (emod_pow (64 - n) (by omega)) d.1 d.2 (by omega)]
end Go.Proofs.YtbhijfbjdbjpbaaDoor.Q
