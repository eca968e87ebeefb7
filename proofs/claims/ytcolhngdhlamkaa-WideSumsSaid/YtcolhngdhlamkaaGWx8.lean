-- Laid by a program of this session (wip/tools/pr.py): contracts and pure functions; Lean checks it.
import Derived.Test.YtcolhngdhlamkaaGWx0
import Derived.Test.YtcolhngdhlamkaaGWx1
import Derived.Test.YtcolhngdhlamkaaGWx4
import Derived.Test.YtcolhngdhlamkaaGWx5
import Derived.Test.YtcolhngdhlamkaaGWx6
import Derived.Test.YtcolhngdhlamkaaGWx7
namespace Go.Proofs.Ytcolhngdhlamkaa.GW
open Go.RowKit Go.Proofs.YtcolhngdhlamkaaW.PrintWords Go.Proofs.YtcolhngdhlamkaaW.PrintLast Go.Proofs.YtcolhngdhlamkaaW.PrintMore
attribute [local go_sem] max2_int min2_int max_two min_two max_three min_three max_four min_four   -- for this text's walks alone
set_option linter.unusedVariables false
set_option linter.unusedSimpArgs false

attribute [local go_sem high] eqA25
/-! ### backfilllaw01_WideSums: function 8 -/
set_option maxHeartbeats 8000000 in
set_option maxRecDepth 100000 in
theorem backfilllaw01_WideSums.calls (k : Nat) (a0_0 : Int) (a0_1 : Int) (a1_0 : Int) (a1_1 : Int) (r : Bool) (w : World) (h : backfilllaw01_WideSums.f k a0_0 a0_1 a1_0 a1_1 = some r) :
  Calls Try.prog 8 #[.agg #[.int .u64 a0_0, .int .u64 a0_1], .agg #[.int .u64 a1_0, .int .u64 a1_1]] w fun e w' => e = .returned (.bool r) ∧ Below w.heap.size w w' := by
 have hu25 := Try.underlying25
 have hu28 := Try.underlying28
 have HB := Aside0.mk (Below.refl w.heap.size w)
 have H : ((backfilllaw01_shown.f k).bind fun t205 => ((wide_Add.f a0_0 a0_1 a1_0 a1_1).bind fun bt206 => ((wide_Sub.f a0_0 a0_1 a1_0 a1_1).bind fun bt210 => ((wide_Times.f a0_0 a0_1 a1_1).bind fun bt214 => ((backfilllaw01_ref.f a0_0 a0_1).bind fun bt218 => ((backfilllaw01_ref.f a1_0 a1_1).bind fun bt220 => ((backfillref01_Add.f bt218.1 bt218.2 bt220.1 bt220.2).bind fun bt222 => ((backfilllaw01_ref.f a0_0 a0_1).bind fun bt226 => ((backfilllaw01_ref.f a1_0 a1_1).bind fun bt228 => ((backfillref01_Sub.f k bt226.1 bt226.2 bt228.1 bt228.2).bind fun bt230 => ((backfilllaw01_ref.f a0_0 a0_1).bind fun bt234 => ((backfillref01_Times.f bt234.1 bt234.2 a1_1).bind fun bt236 => (if t205 = true then ((backfilllaw01_num.f bt222.1 bt222.2.1).bind fun bt240 => (if (bt206.1 == bt240.1 && (bt206.2.1 == bt240.2)) = true then (if (bt206.2.2 == bt222.2.2) = true then ((backfilllaw01_num.f bt230.1 bt230.2.1).bind fun bt242 => (if (bt210.1 == bt242.1 && (bt210.2.1 == bt242.2)) = true then (if (bt210.2.2 == bt230.2.2) = true then ((backfilllaw01_num.f bt236.1 bt236.2.1).bind fun bt244 => (if (bt214.1 == bt244.1 && (bt214.2.1 == bt244.2)) = true then (if (bt214.2.2 == bt236.2.2) = true then ((wide_Cmp.f a0_0 a0_1 a1_0 a1_1).bind fun t246 => ((backfilllaw01_ref.f a0_0 a0_1).bind fun bt247 => ((backfilllaw01_ref.f a1_0 a1_1).bind fun bt249 => ((backfillref01_Cmp.f k bt247.1 bt247.2 bt249.1 bt249.2).bind fun t251 => (if t246 = t251 then ((wide_Of.f a0_1).bind fun bt252 => (if (bt252.1 == 0 && (bt252.2 == a0_1)) = true then ((wide_Mul.f a0_1 a1_0).bind fun bt254 => ((backfillref01_Mul.f a0_1 a1_0).bind fun bt256 => ((backfilllaw01_num.f bt256.1 bt256.2).bind fun bt258 => (some (bt254.1 == bt258.1 && (bt254.2 == bt258.2)))))) else (none))) else (none)))))) else (none)) else (none))) else (none)) else (none))) else (none)) else (none))) else (none)))))))))))))) = some r := h
 clear h; replace H := Option.bind_eq_some_iff.mp H; obtain ⟨t205, A30, H⟩ := H; replace H : ((wide_Add.f a0_0 a0_1 a1_0 a1_1).bind fun bt206 => ((wide_Sub.f a0_0 a0_1 a1_0 a1_1).bind fun bt210 => ((wide_Times.f a0_0 a0_1 a1_1).bind fun bt214 => ((backfilllaw01_ref.f a0_0 a0_1).bind fun bt218 => ((backfilllaw01_ref.f a1_0 a1_1).bind fun bt220 => ((backfillref01_Add.f bt218.1 bt218.2 bt220.1 bt220.2).bind fun bt222 => ((backfilllaw01_ref.f a0_0 a0_1).bind fun bt226 => ((backfilllaw01_ref.f a1_0 a1_1).bind fun bt228 => ((backfillref01_Sub.f k bt226.1 bt226.2 bt228.1 bt228.2).bind fun bt230 => ((backfilllaw01_ref.f a0_0 a0_1).bind fun bt234 => ((backfillref01_Times.f bt234.1 bt234.2 a1_1).bind fun bt236 => (if t205 = true then ((backfilllaw01_num.f bt222.1 bt222.2.1).bind fun bt240 => (if (bt206.1 == bt240.1 && (bt206.2.1 == bt240.2)) = true then (if (bt206.2.2 == bt222.2.2) = true then ((backfilllaw01_num.f bt230.1 bt230.2.1).bind fun bt242 => (if (bt210.1 == bt242.1 && (bt210.2.1 == bt242.2)) = true then (if (bt210.2.2 == bt230.2.2) = true then ((backfilllaw01_num.f bt236.1 bt236.2.1).bind fun bt244 => (if (bt214.1 == bt244.1 && (bt214.2.1 == bt244.2)) = true then (if (bt214.2.2 == bt236.2.2) = true then ((wide_Cmp.f a0_0 a0_1 a1_0 a1_1).bind fun t246 => ((backfilllaw01_ref.f a0_0 a0_1).bind fun bt247 => ((backfilllaw01_ref.f a1_0 a1_1).bind fun bt249 => ((backfillref01_Cmp.f k bt247.1 bt247.2 bt249.1 bt249.2).bind fun t251 => (if t246 = t251 then ((wide_Of.f a0_1).bind fun bt252 => (if (bt252.1 == 0 && (bt252.2 == a0_1)) = true then ((wide_Mul.f a0_1 a1_0).bind fun bt254 => ((backfillref01_Mul.f a0_1 a1_0).bind fun bt256 => ((backfilllaw01_num.f bt256.1 bt256.2).bind fun bt258 => (some (bt254.1 == bt258.1 && (bt254.2 == bt258.2)))))) else (none))) else (none)))))) else (none)) else (none))) else (none)) else (none))) else (none)) else (none))) else (none))))))))))))) = some r := H; have A3 := Aside0.mk A30; clear A30; replace H := Option.bind_eq_some_iff.mp H; obtain ⟨⟨t206, t207, t208⟩, A40, H⟩ := H; replace H : ((wide_Sub.f a0_0 a0_1 a1_0 a1_1).bind fun bt210 => ((wide_Times.f a0_0 a0_1 a1_1).bind fun bt214 => ((backfilllaw01_ref.f a0_0 a0_1).bind fun bt218 => ((backfilllaw01_ref.f a1_0 a1_1).bind fun bt220 => ((backfillref01_Add.f bt218.1 bt218.2 bt220.1 bt220.2).bind fun bt222 => ((backfilllaw01_ref.f a0_0 a0_1).bind fun bt226 => ((backfilllaw01_ref.f a1_0 a1_1).bind fun bt228 => ((backfillref01_Sub.f k bt226.1 bt226.2 bt228.1 bt228.2).bind fun bt230 => ((backfilllaw01_ref.f a0_0 a0_1).bind fun bt234 => ((backfillref01_Times.f bt234.1 bt234.2 a1_1).bind fun bt236 => (if t205 = true then ((backfilllaw01_num.f bt222.1 bt222.2.1).bind fun bt240 => (if (t206 == bt240.1 && (t207 == bt240.2)) = true then (if (t208 == bt222.2.2) = true then ((backfilllaw01_num.f bt230.1 bt230.2.1).bind fun bt242 => (if (bt210.1 == bt242.1 && (bt210.2.1 == bt242.2)) = true then (if (bt210.2.2 == bt230.2.2) = true then ((backfilllaw01_num.f bt236.1 bt236.2.1).bind fun bt244 => (if (bt214.1 == bt244.1 && (bt214.2.1 == bt244.2)) = true then (if (bt214.2.2 == bt236.2.2) = true then ((wide_Cmp.f a0_0 a0_1 a1_0 a1_1).bind fun t246 => ((backfilllaw01_ref.f a0_0 a0_1).bind fun bt247 => ((backfilllaw01_ref.f a1_0 a1_1).bind fun bt249 => ((backfillref01_Cmp.f k bt247.1 bt247.2 bt249.1 bt249.2).bind fun t251 => (if t246 = t251 then ((wide_Of.f a0_1).bind fun bt252 => (if (bt252.1 == 0 && (bt252.2 == a0_1)) = true then ((wide_Mul.f a0_1 a1_0).bind fun bt254 => ((backfillref01_Mul.f a0_1 a1_0).bind fun bt256 => ((backfilllaw01_num.f bt256.1 bt256.2).bind fun bt258 => (some (bt254.1 == bt258.1 && (bt254.2 == bt258.2)))))) else (none))) else (none)))))) else (none)) else (none))) else (none)) else (none))) else (none)) else (none))) else (none)))))))))))) = some r := H; have A4 := Aside0.mk A40; clear A40; replace H := Option.bind_eq_some_iff.mp H; obtain ⟨⟨t210, t211, t212⟩, A50, H⟩ := H; replace H : ((wide_Times.f a0_0 a0_1 a1_1).bind fun bt214 => ((backfilllaw01_ref.f a0_0 a0_1).bind fun bt218 => ((backfilllaw01_ref.f a1_0 a1_1).bind fun bt220 => ((backfillref01_Add.f bt218.1 bt218.2 bt220.1 bt220.2).bind fun bt222 => ((backfilllaw01_ref.f a0_0 a0_1).bind fun bt226 => ((backfilllaw01_ref.f a1_0 a1_1).bind fun bt228 => ((backfillref01_Sub.f k bt226.1 bt226.2 bt228.1 bt228.2).bind fun bt230 => ((backfilllaw01_ref.f a0_0 a0_1).bind fun bt234 => ((backfillref01_Times.f bt234.1 bt234.2 a1_1).bind fun bt236 => (if t205 = true then ((backfilllaw01_num.f bt222.1 bt222.2.1).bind fun bt240 => (if (t206 == bt240.1 && (t207 == bt240.2)) = true then (if (t208 == bt222.2.2) = true then ((backfilllaw01_num.f bt230.1 bt230.2.1).bind fun bt242 => (if (t210 == bt242.1 && (t211 == bt242.2)) = true then (if (t212 == bt230.2.2) = true then ((backfilllaw01_num.f bt236.1 bt236.2.1).bind fun bt244 => (if (bt214.1 == bt244.1 && (bt214.2.1 == bt244.2)) = true then (if (bt214.2.2 == bt236.2.2) = true then ((wide_Cmp.f a0_0 a0_1 a1_0 a1_1).bind fun t246 => ((backfilllaw01_ref.f a0_0 a0_1).bind fun bt247 => ((backfilllaw01_ref.f a1_0 a1_1).bind fun bt249 => ((backfillref01_Cmp.f k bt247.1 bt247.2 bt249.1 bt249.2).bind fun t251 => (if t246 = t251 then ((wide_Of.f a0_1).bind fun bt252 => (if (bt252.1 == 0 && (bt252.2 == a0_1)) = true then ((wide_Mul.f a0_1 a1_0).bind fun bt254 => ((backfillref01_Mul.f a0_1 a1_0).bind fun bt256 => ((backfilllaw01_num.f bt256.1 bt256.2).bind fun bt258 => (some (bt254.1 == bt258.1 && (bt254.2 == bt258.2)))))) else (none))) else (none)))))) else (none)) else (none))) else (none)) else (none))) else (none)) else (none))) else (none))))))))))) = some r := H
 have A5 := Aside0.mk A50; clear A50; replace H := Option.bind_eq_some_iff.mp H; obtain ⟨⟨t214, t215, t216⟩, A60, H⟩ := H; replace H : ((backfilllaw01_ref.f a0_0 a0_1).bind fun bt218 => ((backfilllaw01_ref.f a1_0 a1_1).bind fun bt220 => ((backfillref01_Add.f bt218.1 bt218.2 bt220.1 bt220.2).bind fun bt222 => ((backfilllaw01_ref.f a0_0 a0_1).bind fun bt226 => ((backfilllaw01_ref.f a1_0 a1_1).bind fun bt228 => ((backfillref01_Sub.f k bt226.1 bt226.2 bt228.1 bt228.2).bind fun bt230 => ((backfilllaw01_ref.f a0_0 a0_1).bind fun bt234 => ((backfillref01_Times.f bt234.1 bt234.2 a1_1).bind fun bt236 => (if t205 = true then ((backfilllaw01_num.f bt222.1 bt222.2.1).bind fun bt240 => (if (t206 == bt240.1 && (t207 == bt240.2)) = true then (if (t208 == bt222.2.2) = true then ((backfilllaw01_num.f bt230.1 bt230.2.1).bind fun bt242 => (if (t210 == bt242.1 && (t211 == bt242.2)) = true then (if (t212 == bt230.2.2) = true then ((backfilllaw01_num.f bt236.1 bt236.2.1).bind fun bt244 => (if (t214 == bt244.1 && (t215 == bt244.2)) = true then (if (t216 == bt236.2.2) = true then ((wide_Cmp.f a0_0 a0_1 a1_0 a1_1).bind fun t246 => ((backfilllaw01_ref.f a0_0 a0_1).bind fun bt247 => ((backfilllaw01_ref.f a1_0 a1_1).bind fun bt249 => ((backfillref01_Cmp.f k bt247.1 bt247.2 bt249.1 bt249.2).bind fun t251 => (if t246 = t251 then ((wide_Of.f a0_1).bind fun bt252 => (if (bt252.1 == 0 && (bt252.2 == a0_1)) = true then ((wide_Mul.f a0_1 a1_0).bind fun bt254 => ((backfillref01_Mul.f a0_1 a1_0).bind fun bt256 => ((backfilllaw01_num.f bt256.1 bt256.2).bind fun bt258 => (some (bt254.1 == bt258.1 && (bt254.2 == bt258.2)))))) else (none))) else (none)))))) else (none)) else (none))) else (none)) else (none))) else (none)) else (none))) else (none)))))))))) = some r := H; have A6 := Aside0.mk A60; clear A60; replace H := Option.bind_eq_some_iff.mp H; obtain ⟨⟨t218, t219⟩, A70, H⟩ := H; replace H : ((backfilllaw01_ref.f a1_0 a1_1).bind fun bt220 => ((backfillref01_Add.f t218 t219 bt220.1 bt220.2).bind fun bt222 => ((backfilllaw01_ref.f a0_0 a0_1).bind fun bt226 => ((backfilllaw01_ref.f a1_0 a1_1).bind fun bt228 => ((backfillref01_Sub.f k bt226.1 bt226.2 bt228.1 bt228.2).bind fun bt230 => ((backfilllaw01_ref.f a0_0 a0_1).bind fun bt234 => ((backfillref01_Times.f bt234.1 bt234.2 a1_1).bind fun bt236 => (if t205 = true then ((backfilllaw01_num.f bt222.1 bt222.2.1).bind fun bt240 => (if (t206 == bt240.1 && (t207 == bt240.2)) = true then (if (t208 == bt222.2.2) = true then ((backfilllaw01_num.f bt230.1 bt230.2.1).bind fun bt242 => (if (t210 == bt242.1 && (t211 == bt242.2)) = true then (if (t212 == bt230.2.2) = true then ((backfilllaw01_num.f bt236.1 bt236.2.1).bind fun bt244 => (if (t214 == bt244.1 && (t215 == bt244.2)) = true then (if (t216 == bt236.2.2) = true then ((wide_Cmp.f a0_0 a0_1 a1_0 a1_1).bind fun t246 => ((backfilllaw01_ref.f a0_0 a0_1).bind fun bt247 => ((backfilllaw01_ref.f a1_0 a1_1).bind fun bt249 => ((backfillref01_Cmp.f k bt247.1 bt247.2 bt249.1 bt249.2).bind fun t251 => (if t246 = t251 then ((wide_Of.f a0_1).bind fun bt252 => (if (bt252.1 == 0 && (bt252.2 == a0_1)) = true then ((wide_Mul.f a0_1 a1_0).bind fun bt254 => ((backfillref01_Mul.f a0_1 a1_0).bind fun bt256 => ((backfilllaw01_num.f bt256.1 bt256.2).bind fun bt258 => (some (bt254.1 == bt258.1 && (bt254.2 == bt258.2)))))) else (none))) else (none)))))) else (none)) else (none))) else (none)) else (none))) else (none)) else (none))) else (none))))))))) = some r := H; have A7 := Aside0.mk A70; clear A70; replace H := Option.bind_eq_some_iff.mp H; obtain ⟨⟨t220, t221⟩, A80, H⟩ := H; replace H : ((backfillref01_Add.f t218 t219 t220 t221).bind fun bt222 => ((backfilllaw01_ref.f a0_0 a0_1).bind fun bt226 => ((backfilllaw01_ref.f a1_0 a1_1).bind fun bt228 => ((backfillref01_Sub.f k bt226.1 bt226.2 bt228.1 bt228.2).bind fun bt230 => ((backfilllaw01_ref.f a0_0 a0_1).bind fun bt234 => ((backfillref01_Times.f bt234.1 bt234.2 a1_1).bind fun bt236 => (if t205 = true then ((backfilllaw01_num.f bt222.1 bt222.2.1).bind fun bt240 => (if (t206 == bt240.1 && (t207 == bt240.2)) = true then (if (t208 == bt222.2.2) = true then ((backfilllaw01_num.f bt230.1 bt230.2.1).bind fun bt242 => (if (t210 == bt242.1 && (t211 == bt242.2)) = true then (if (t212 == bt230.2.2) = true then ((backfilllaw01_num.f bt236.1 bt236.2.1).bind fun bt244 => (if (t214 == bt244.1 && (t215 == bt244.2)) = true then (if (t216 == bt236.2.2) = true then ((wide_Cmp.f a0_0 a0_1 a1_0 a1_1).bind fun t246 => ((backfilllaw01_ref.f a0_0 a0_1).bind fun bt247 => ((backfilllaw01_ref.f a1_0 a1_1).bind fun bt249 => ((backfillref01_Cmp.f k bt247.1 bt247.2 bt249.1 bt249.2).bind fun t251 => (if t246 = t251 then ((wide_Of.f a0_1).bind fun bt252 => (if (bt252.1 == 0 && (bt252.2 == a0_1)) = true then ((wide_Mul.f a0_1 a1_0).bind fun bt254 => ((backfillref01_Mul.f a0_1 a1_0).bind fun bt256 => ((backfilllaw01_num.f bt256.1 bt256.2).bind fun bt258 => (some (bt254.1 == bt258.1 && (bt254.2 == bt258.2)))))) else (none))) else (none)))))) else (none)) else (none))) else (none)) else (none))) else (none)) else (none))) else (none)))))))) = some r := H
 have A8 := Aside0.mk A80; clear A80; replace H := Option.bind_eq_some_iff.mp H; obtain ⟨⟨t222, t223, t224⟩, A90, H⟩ := H; replace H : ((backfilllaw01_ref.f a0_0 a0_1).bind fun bt226 => ((backfilllaw01_ref.f a1_0 a1_1).bind fun bt228 => ((backfillref01_Sub.f k bt226.1 bt226.2 bt228.1 bt228.2).bind fun bt230 => ((backfilllaw01_ref.f a0_0 a0_1).bind fun bt234 => ((backfillref01_Times.f bt234.1 bt234.2 a1_1).bind fun bt236 => (if t205 = true then ((backfilllaw01_num.f t222 t223).bind fun bt240 => (if (t206 == bt240.1 && (t207 == bt240.2)) = true then (if (t208 == t224) = true then ((backfilllaw01_num.f bt230.1 bt230.2.1).bind fun bt242 => (if (t210 == bt242.1 && (t211 == bt242.2)) = true then (if (t212 == bt230.2.2) = true then ((backfilllaw01_num.f bt236.1 bt236.2.1).bind fun bt244 => (if (t214 == bt244.1 && (t215 == bt244.2)) = true then (if (t216 == bt236.2.2) = true then ((wide_Cmp.f a0_0 a0_1 a1_0 a1_1).bind fun t246 => ((backfilllaw01_ref.f a0_0 a0_1).bind fun bt247 => ((backfilllaw01_ref.f a1_0 a1_1).bind fun bt249 => ((backfillref01_Cmp.f k bt247.1 bt247.2 bt249.1 bt249.2).bind fun t251 => (if t246 = t251 then ((wide_Of.f a0_1).bind fun bt252 => (if (bt252.1 == 0 && (bt252.2 == a0_1)) = true then ((wide_Mul.f a0_1 a1_0).bind fun bt254 => ((backfillref01_Mul.f a0_1 a1_0).bind fun bt256 => ((backfilllaw01_num.f bt256.1 bt256.2).bind fun bt258 => (some (bt254.1 == bt258.1 && (bt254.2 == bt258.2)))))) else (none))) else (none)))))) else (none)) else (none))) else (none)) else (none))) else (none)) else (none))) else (none))))))) = some r := H; have A9 := Aside0.mk A90; clear A90; replace H := Option.bind_eq_some_iff.mp H; obtain ⟨⟨t226, t227⟩, A100, H⟩ := H; replace H : ((backfilllaw01_ref.f a1_0 a1_1).bind fun bt228 => ((backfillref01_Sub.f k t226 t227 bt228.1 bt228.2).bind fun bt230 => ((backfilllaw01_ref.f a0_0 a0_1).bind fun bt234 => ((backfillref01_Times.f bt234.1 bt234.2 a1_1).bind fun bt236 => (if t205 = true then ((backfilllaw01_num.f t222 t223).bind fun bt240 => (if (t206 == bt240.1 && (t207 == bt240.2)) = true then (if (t208 == t224) = true then ((backfilllaw01_num.f bt230.1 bt230.2.1).bind fun bt242 => (if (t210 == bt242.1 && (t211 == bt242.2)) = true then (if (t212 == bt230.2.2) = true then ((backfilllaw01_num.f bt236.1 bt236.2.1).bind fun bt244 => (if (t214 == bt244.1 && (t215 == bt244.2)) = true then (if (t216 == bt236.2.2) = true then ((wide_Cmp.f a0_0 a0_1 a1_0 a1_1).bind fun t246 => ((backfilllaw01_ref.f a0_0 a0_1).bind fun bt247 => ((backfilllaw01_ref.f a1_0 a1_1).bind fun bt249 => ((backfillref01_Cmp.f k bt247.1 bt247.2 bt249.1 bt249.2).bind fun t251 => (if t246 = t251 then ((wide_Of.f a0_1).bind fun bt252 => (if (bt252.1 == 0 && (bt252.2 == a0_1)) = true then ((wide_Mul.f a0_1 a1_0).bind fun bt254 => ((backfillref01_Mul.f a0_1 a1_0).bind fun bt256 => ((backfilllaw01_num.f bt256.1 bt256.2).bind fun bt258 => (some (bt254.1 == bt258.1 && (bt254.2 == bt258.2)))))) else (none))) else (none)))))) else (none)) else (none))) else (none)) else (none))) else (none)) else (none))) else (none)))))) = some r := H; have A10 := Aside0.mk A100; clear A100; replace H := Option.bind_eq_some_iff.mp H; obtain ⟨⟨t228, t229⟩, A110, H⟩ := H; replace H : ((backfillref01_Sub.f k t226 t227 t228 t229).bind fun bt230 => ((backfilllaw01_ref.f a0_0 a0_1).bind fun bt234 => ((backfillref01_Times.f bt234.1 bt234.2 a1_1).bind fun bt236 => (if t205 = true then ((backfilllaw01_num.f t222 t223).bind fun bt240 => (if (t206 == bt240.1 && (t207 == bt240.2)) = true then (if (t208 == t224) = true then ((backfilllaw01_num.f bt230.1 bt230.2.1).bind fun bt242 => (if (t210 == bt242.1 && (t211 == bt242.2)) = true then (if (t212 == bt230.2.2) = true then ((backfilllaw01_num.f bt236.1 bt236.2.1).bind fun bt244 => (if (t214 == bt244.1 && (t215 == bt244.2)) = true then (if (t216 == bt236.2.2) = true then ((wide_Cmp.f a0_0 a0_1 a1_0 a1_1).bind fun t246 => ((backfilllaw01_ref.f a0_0 a0_1).bind fun bt247 => ((backfilllaw01_ref.f a1_0 a1_1).bind fun bt249 => ((backfillref01_Cmp.f k bt247.1 bt247.2 bt249.1 bt249.2).bind fun t251 => (if t246 = t251 then ((wide_Of.f a0_1).bind fun bt252 => (if (bt252.1 == 0 && (bt252.2 == a0_1)) = true then ((wide_Mul.f a0_1 a1_0).bind fun bt254 => ((backfillref01_Mul.f a0_1 a1_0).bind fun bt256 => ((backfilllaw01_num.f bt256.1 bt256.2).bind fun bt258 => (some (bt254.1 == bt258.1 && (bt254.2 == bt258.2)))))) else (none))) else (none)))))) else (none)) else (none))) else (none)) else (none))) else (none)) else (none))) else (none))))) = some r := H
 have A11 := Aside0.mk A110; clear A110; replace H := Option.bind_eq_some_iff.mp H; obtain ⟨⟨t230, t231, t232⟩, A120, H⟩ := H; replace H : ((backfilllaw01_ref.f a0_0 a0_1).bind fun bt234 => ((backfillref01_Times.f bt234.1 bt234.2 a1_1).bind fun bt236 => (if t205 = true then ((backfilllaw01_num.f t222 t223).bind fun bt240 => (if (t206 == bt240.1 && (t207 == bt240.2)) = true then (if (t208 == t224) = true then ((backfilllaw01_num.f t230 t231).bind fun bt242 => (if (t210 == bt242.1 && (t211 == bt242.2)) = true then (if (t212 == t232) = true then ((backfilllaw01_num.f bt236.1 bt236.2.1).bind fun bt244 => (if (t214 == bt244.1 && (t215 == bt244.2)) = true then (if (t216 == bt236.2.2) = true then ((wide_Cmp.f a0_0 a0_1 a1_0 a1_1).bind fun t246 => ((backfilllaw01_ref.f a0_0 a0_1).bind fun bt247 => ((backfilllaw01_ref.f a1_0 a1_1).bind fun bt249 => ((backfillref01_Cmp.f k bt247.1 bt247.2 bt249.1 bt249.2).bind fun t251 => (if t246 = t251 then ((wide_Of.f a0_1).bind fun bt252 => (if (bt252.1 == 0 && (bt252.2 == a0_1)) = true then ((wide_Mul.f a0_1 a1_0).bind fun bt254 => ((backfillref01_Mul.f a0_1 a1_0).bind fun bt256 => ((backfilllaw01_num.f bt256.1 bt256.2).bind fun bt258 => (some (bt254.1 == bt258.1 && (bt254.2 == bt258.2)))))) else (none))) else (none)))))) else (none)) else (none))) else (none)) else (none))) else (none)) else (none))) else (none)))) = some r := H; have A12 := Aside0.mk A120; clear A120; replace H := Option.bind_eq_some_iff.mp H; obtain ⟨⟨t234, t235⟩, A130, H⟩ := H; replace H : ((backfillref01_Times.f t234 t235 a1_1).bind fun bt236 => (if t205 = true then ((backfilllaw01_num.f t222 t223).bind fun bt240 => (if (t206 == bt240.1 && (t207 == bt240.2)) = true then (if (t208 == t224) = true then ((backfilllaw01_num.f t230 t231).bind fun bt242 => (if (t210 == bt242.1 && (t211 == bt242.2)) = true then (if (t212 == t232) = true then ((backfilllaw01_num.f bt236.1 bt236.2.1).bind fun bt244 => (if (t214 == bt244.1 && (t215 == bt244.2)) = true then (if (t216 == bt236.2.2) = true then ((wide_Cmp.f a0_0 a0_1 a1_0 a1_1).bind fun t246 => ((backfilllaw01_ref.f a0_0 a0_1).bind fun bt247 => ((backfilllaw01_ref.f a1_0 a1_1).bind fun bt249 => ((backfillref01_Cmp.f k bt247.1 bt247.2 bt249.1 bt249.2).bind fun t251 => (if t246 = t251 then ((wide_Of.f a0_1).bind fun bt252 => (if (bt252.1 == 0 && (bt252.2 == a0_1)) = true then ((wide_Mul.f a0_1 a1_0).bind fun bt254 => ((backfillref01_Mul.f a0_1 a1_0).bind fun bt256 => ((backfilllaw01_num.f bt256.1 bt256.2).bind fun bt258 => (some (bt254.1 == bt258.1 && (bt254.2 == bt258.2)))))) else (none))) else (none)))))) else (none)) else (none))) else (none)) else (none))) else (none)) else (none))) else (none))) = some r := H; have A13 := Aside0.mk A130; clear A130; replace H := Option.bind_eq_some_iff.mp H; obtain ⟨⟨t236, t237, t238⟩, A140, H⟩ := H; replace H : (if t205 = true then ((backfilllaw01_num.f t222 t223).bind fun bt240 => (if (t206 == bt240.1 && (t207 == bt240.2)) = true then (if (t208 == t224) = true then ((backfilllaw01_num.f t230 t231).bind fun bt242 => (if (t210 == bt242.1 && (t211 == bt242.2)) = true then (if (t212 == t232) = true then ((backfilllaw01_num.f t236 t237).bind fun bt244 => (if (t214 == bt244.1 && (t215 == bt244.2)) = true then (if (t216 == t238) = true then ((wide_Cmp.f a0_0 a0_1 a1_0 a1_1).bind fun t246 => ((backfilllaw01_ref.f a0_0 a0_1).bind fun bt247 => ((backfilllaw01_ref.f a1_0 a1_1).bind fun bt249 => ((backfillref01_Cmp.f k bt247.1 bt247.2 bt249.1 bt249.2).bind fun t251 => (if t246 = t251 then ((wide_Of.f a0_1).bind fun bt252 => (if (bt252.1 == 0 && (bt252.2 == a0_1)) = true then ((wide_Mul.f a0_1 a1_0).bind fun bt254 => ((backfillref01_Mul.f a0_1 a1_0).bind fun bt256 => ((backfilllaw01_num.f bt256.1 bt256.2).bind fun bt258 => (some (bt254.1 == bt258.1 && (bt254.2 == bt258.2)))))) else (none))) else (none)))))) else (none)) else (none))) else (none)) else (none))) else (none)) else (none))) else (none)) = some r := H; have A14 := Aside0.mk A140; clear A140
 by_cases c15 : t205 = true
 ·subst c15
  have H1 : ((backfilllaw01_num.f t222 t223).bind fun bt240 => (if (t206 == bt240.1 && (t207 == bt240.2)) = true then (if (t208 == t224) = true then ((backfilllaw01_num.f t230 t231).bind fun bt242 => (if (t210 == bt242.1 && (t211 == bt242.2)) = true then (if (t212 == t232) = true then ((backfilllaw01_num.f t236 t237).bind fun bt244 => (if (t214 == bt244.1 && (t215 == bt244.2)) = true then (if (t216 == t238) = true then ((wide_Cmp.f a0_0 a0_1 a1_0 a1_1).bind fun t246 => ((backfilllaw01_ref.f a0_0 a0_1).bind fun bt247 => ((backfilllaw01_ref.f a1_0 a1_1).bind fun bt249 => ((backfillref01_Cmp.f k bt247.1 bt247.2 bt249.1 bt249.2).bind fun t251 => (if t246 = t251 then ((wide_Of.f a0_1).bind fun bt252 => (if (bt252.1 == 0 && (bt252.2 == a0_1)) = true then ((wide_Mul.f a0_1 a1_0).bind fun bt254 => ((backfillref01_Mul.f a0_1 a1_0).bind fun bt256 => ((backfilllaw01_num.f bt256.1 bt256.2).bind fun bt258 => (some (bt254.1 == bt258.1 && (bt254.2 == bt258.2)))))) else (none))) else (none)))))) else (none)) else (none))) else (none)) else (none))) else (none)) else (none))) = some r := by rw [if_pos rfl] at H; exact H
  clear H
  have H := H1
  clear H1; replace H := Option.bind_eq_some_iff.mp H; obtain ⟨⟨t240, t241⟩, A160, H⟩ := H; replace H : (if (t206 == t240 && (t207 == t241)) = true then (if (t208 == t224) = true then ((backfilllaw01_num.f t230 t231).bind fun bt242 => (if (t210 == bt242.1 && (t211 == bt242.2)) = true then (if (t212 == t232) = true then ((backfilllaw01_num.f t236 t237).bind fun bt244 => (if (t214 == bt244.1 && (t215 == bt244.2)) = true then (if (t216 == t238) = true then ((wide_Cmp.f a0_0 a0_1 a1_0 a1_1).bind fun t246 => ((backfilllaw01_ref.f a0_0 a0_1).bind fun bt247 => ((backfilllaw01_ref.f a1_0 a1_1).bind fun bt249 => ((backfillref01_Cmp.f k bt247.1 bt247.2 bt249.1 bt249.2).bind fun t251 => (if t246 = t251 then ((wide_Of.f a0_1).bind fun bt252 => (if (bt252.1 == 0 && (bt252.2 == a0_1)) = true then ((wide_Mul.f a0_1 a1_0).bind fun bt254 => ((backfillref01_Mul.f a0_1 a1_0).bind fun bt256 => ((backfilllaw01_num.f bt256.1 bt256.2).bind fun bt258 => (some (bt254.1 == bt258.1 && (bt254.2 == bt258.2)))))) else (none))) else (none)))))) else (none)) else (none))) else (none)) else (none))) else (none)) else (none)) = some r := H; have A16 := Aside0.mk A160; clear A160
  by_cases c17 : (t206 == t240 && (t207 == t241)) = true
  ·rw [if_pos c17] at H
   have c17b0 : (t206 == t240 && (t207 == t241)) = true := c17
   (try (have c17b1 : decide (t206 = t240 && (t207 == t241)) = true := by simpa using c17))
   (try (have c17b2 : (t206 == t240 && (t207 == t241)) = true := by simpa using c17))
   clear c17
   by_cases c18 : (t208 == t224) = true
   ·rw [if_pos c18] at H
    have c18b0 : (t208 == t224) = true := c18
    (try (have c18b1 : decide (t208 = t224) = true := by simpa using c18))
    (try (have c18b2 : (t208 == t224) = true := by simpa using c18))
    clear c18; replace H := Option.bind_eq_some_iff.mp H; obtain ⟨⟨t242, t243⟩, A190, H⟩ := H; replace H : (if (t210 == t242 && (t211 == t243)) = true then (if (t212 == t232) = true then ((backfilllaw01_num.f t236 t237).bind fun bt244 => (if (t214 == bt244.1 && (t215 == bt244.2)) = true then (if (t216 == t238) = true then ((wide_Cmp.f a0_0 a0_1 a1_0 a1_1).bind fun t246 => ((backfilllaw01_ref.f a0_0 a0_1).bind fun bt247 => ((backfilllaw01_ref.f a1_0 a1_1).bind fun bt249 => ((backfillref01_Cmp.f k bt247.1 bt247.2 bt249.1 bt249.2).bind fun t251 => (if t246 = t251 then ((wide_Of.f a0_1).bind fun bt252 => (if (bt252.1 == 0 && (bt252.2 == a0_1)) = true then ((wide_Mul.f a0_1 a1_0).bind fun bt254 => ((backfillref01_Mul.f a0_1 a1_0).bind fun bt256 => ((backfilllaw01_num.f bt256.1 bt256.2).bind fun bt258 => (some (bt254.1 == bt258.1 && (bt254.2 == bt258.2)))))) else (none))) else (none)))))) else (none)) else (none))) else (none)) else (none)) = some r := H; have A19 := Aside0.mk A190; clear A190
    by_cases c20 : (t210 == t242 && (t211 == t243)) = true
    ·rw [if_pos c20] at H
     have c20b0 : (t210 == t242 && (t211 == t243)) = true := c20
     (try (have c20b1 : decide (t210 = t242 && (t211 == t243)) = true := by simpa using c20))
     (try (have c20b2 : (t210 == t242 && (t211 == t243)) = true := by simpa using c20))
     clear c20
     by_cases c21 : (t212 == t232) = true
     ·rw [if_pos c21] at H
      have c21b0 : (t212 == t232) = true := c21
      (try (have c21b1 : decide (t212 = t232) = true := by simpa using c21))
      (try (have c21b2 : (t212 == t232) = true := by simpa using c21))
      clear c21; replace H := Option.bind_eq_some_iff.mp H; obtain ⟨⟨t244, t245⟩, A220, H⟩ := H; replace H : (if (t214 == t244 && (t215 == t245)) = true then (if (t216 == t238) = true then ((wide_Cmp.f a0_0 a0_1 a1_0 a1_1).bind fun t246 => ((backfilllaw01_ref.f a0_0 a0_1).bind fun bt247 => ((backfilllaw01_ref.f a1_0 a1_1).bind fun bt249 => ((backfillref01_Cmp.f k bt247.1 bt247.2 bt249.1 bt249.2).bind fun t251 => (if t246 = t251 then ((wide_Of.f a0_1).bind fun bt252 => (if (bt252.1 == 0 && (bt252.2 == a0_1)) = true then ((wide_Mul.f a0_1 a1_0).bind fun bt254 => ((backfillref01_Mul.f a0_1 a1_0).bind fun bt256 => ((backfilllaw01_num.f bt256.1 bt256.2).bind fun bt258 => (some (bt254.1 == bt258.1 && (bt254.2 == bt258.2)))))) else (none))) else (none)))))) else (none)) else (none)) = some r := H; have A22 := Aside0.mk A220; clear A220
      by_cases c23 : (t214 == t244 && (t215 == t245)) = true
      ·rw [if_pos c23] at H
       have c23b0 : (t214 == t244 && (t215 == t245)) = true := c23
       (try (have c23b1 : decide (t214 = t244 && (t215 == t245)) = true := by simpa using c23))
       (try (have c23b2 : (t214 == t244 && (t215 == t245)) = true := by simpa using c23))
       clear c23
       by_cases c24 : (t216 == t238) = true
       ·rw [if_pos c24] at H
        have c24b0 : (t216 == t238) = true := c24
        (try (have c24b1 : decide (t216 = t238) = true := by simpa using c24))
        (try (have c24b2 : (t216 == t238) = true := by simpa using c24))
        clear c24; replace H := Option.bind_eq_some_iff.mp H; obtain ⟨t246, A250, H⟩ := H; replace H : ((backfilllaw01_ref.f a0_0 a0_1).bind fun bt247 => ((backfilllaw01_ref.f a1_0 a1_1).bind fun bt249 => ((backfillref01_Cmp.f k bt247.1 bt247.2 bt249.1 bt249.2).bind fun t251 => (if t246 = t251 then ((wide_Of.f a0_1).bind fun bt252 => (if (bt252.1 == 0 && (bt252.2 == a0_1)) = true then ((wide_Mul.f a0_1 a1_0).bind fun bt254 => ((backfillref01_Mul.f a0_1 a1_0).bind fun bt256 => ((backfilllaw01_num.f bt256.1 bt256.2).bind fun bt258 => (some (bt254.1 == bt258.1 && (bt254.2 == bt258.2)))))) else (none))) else (none))))) = some r := H; have A25 := Aside0.mk A250; clear A250; replace H := Option.bind_eq_some_iff.mp H; obtain ⟨⟨t247, t248⟩, A260, H⟩ := H; replace H : ((backfilllaw01_ref.f a1_0 a1_1).bind fun bt249 => ((backfillref01_Cmp.f k t247 t248 bt249.1 bt249.2).bind fun t251 => (if t246 = t251 then ((wide_Of.f a0_1).bind fun bt252 => (if (bt252.1 == 0 && (bt252.2 == a0_1)) = true then ((wide_Mul.f a0_1 a1_0).bind fun bt254 => ((backfillref01_Mul.f a0_1 a1_0).bind fun bt256 => ((backfilllaw01_num.f bt256.1 bt256.2).bind fun bt258 => (some (bt254.1 == bt258.1 && (bt254.2 == bt258.2)))))) else (none))) else (none)))) = some r := H; have A26 := Aside0.mk A260; clear A260; replace H := Option.bind_eq_some_iff.mp H; obtain ⟨⟨t249, t250⟩, A270, H⟩ := H; replace H : ((backfillref01_Cmp.f k t247 t248 t249 t250).bind fun t251 => (if t246 = t251 then ((wide_Of.f a0_1).bind fun bt252 => (if (bt252.1 == 0 && (bt252.2 == a0_1)) = true then ((wide_Mul.f a0_1 a1_0).bind fun bt254 => ((backfillref01_Mul.f a0_1 a1_0).bind fun bt256 => ((backfilllaw01_num.f bt256.1 bt256.2).bind fun bt258 => (some (bt254.1 == bt258.1 && (bt254.2 == bt258.2)))))) else (none))) else (none))) = some r := H; have A27 := Aside0.mk A270; clear A270; replace H := Option.bind_eq_some_iff.mp H; obtain ⟨t251, A280, H⟩ := H; replace H : (if t246 = t251 then ((wide_Of.f a0_1).bind fun bt252 => (if (bt252.1 == 0 && (bt252.2 == a0_1)) = true then ((wide_Mul.f a0_1 a1_0).bind fun bt254 => ((backfillref01_Mul.f a0_1 a1_0).bind fun bt256 => ((backfilllaw01_num.f bt256.1 bt256.2).bind fun bt258 => (some (bt254.1 == bt258.1 && (bt254.2 == bt258.2)))))) else (none))) else (none)) = some r := H; have A28 := Aside0.mk A280; clear A280
        by_cases c29 : t246 = t251
        ·rw [if_pos c29] at H
         have c29b0 : (t246 == t251) = true := beq_iff_eq.mpr c29
         have c29b1 : (t246 != t251) = false := bne_eq_false_iff_eq.mpr c29
         clear c29; replace H := Option.bind_eq_some_iff.mp H; obtain ⟨⟨t252, t253⟩, A300, H⟩ := H; replace H : (if (t252 == 0 && (t253 == a0_1)) = true then ((wide_Mul.f a0_1 a1_0).bind fun bt254 => ((backfillref01_Mul.f a0_1 a1_0).bind fun bt256 => ((backfilllaw01_num.f bt256.1 bt256.2).bind fun bt258 => (some (bt254.1 == bt258.1 && (bt254.2 == bt258.2)))))) else (none)) = some r := H; have A30 := Aside0.mk A300; clear A300
         by_cases c31 : (t252 == 0 && (t253 == a0_1)) = true
         ·rw [if_pos c31] at H
          have c31b0 : (t252 == 0 && (t253 == a0_1)) = true := c31
          (try (have c31b1 : decide (t252 = 0 && (t253 == a0_1)) = true := by simpa using c31))
          (try (have c31b2 : (t252 == 0 && (t253 == a0_1)) = true := by simpa using c31))
          clear c31; replace H := Option.bind_eq_some_iff.mp H; obtain ⟨⟨t254, t255⟩, A320, H⟩ := H; replace H : ((backfillref01_Mul.f a0_1 a1_0).bind fun bt256 => ((backfilllaw01_num.f bt256.1 bt256.2).bind fun bt258 => (some (t254 == bt258.1 && (t255 == bt258.2))))) = some r := H; have A32 := Aside0.mk A320; clear A320; replace H := Option.bind_eq_some_iff.mp H; obtain ⟨⟨t256, t257⟩, A330, H⟩ := H; replace H : ((backfilllaw01_num.f t256 t257).bind fun bt258 => (some (t254 == bt258.1 && (t255 == bt258.2)))) = some r := H; have A33 := Aside0.mk A330; clear A330; replace H := Option.bind_eq_some_iff.mp H; obtain ⟨⟨t258, t259⟩, A340, H⟩ := H; replace H : (some (t254 == t258 && (t255 == t259))) = some r := H; have A34 := Aside0.mk A340; clear A340
          obtain rfl := Option.some.inj H
          go_enter Try.func8, Try.ntmps8
          try go_wp2_with (first | ((with_reducible refine gate_dst (N := 2) rfl ?_); refine bxA 2 #[.int .u64 a0_0, .int .u64 a0_1] 25 ?_; intro gb203 hg w35 hbox hb; have n0_ := Aside0.mk (below_step bA hb); have n1_ := Aside0.mk (hbox); have n2_ := Aside0.mk ((by rw [hg]; exact (below_size bA) : w.heap.size ≤ gb203)); have n3_ := Aside0.mk ((by rw [hg]; exact (below_size bA) : w.heap.size ≤ gb203)); clear HB; have HB := n0_; have BK203 := n1_; have GW203 := n2_; have GE203 := n3_; clear n0_ n1_ n2_ n3_ hb hbox hg) | ((with_reducible refine gate_dst (N := 3) rfl ?_); refine bxA 3 #[.int .u64 a1_0, .int .u64 a1_1] 25 ?_; intro gb204 hg w36 hbox hb; have n0_ := Aside0.mk (blk_below (g := gb203) (o := .cells #[.int .u64 a0_0, .int .u64 a0_1] 25 (0, 0)) kA hb); have n1_ := Aside0.mk (below_step bA hb); have n2_ := Aside0.mk (hbox); have n3_ := Aside0.mk ((by rw [hg]; exact (below_size bA) : w.heap.size ≤ gb204)); have n4_ := Aside0.mk ((by rw [hg]; exact (below_size bA) : w.heap.size ≤ gb204)); have n5_ := Aside0.mk ((by rw [hg]; exact Nat.ne_of_lt (blk_lt (g := gb203) (o := .cells #[.int .u64 a0_0, .int .u64 a0_1] 25 (0, 0)) kA) : gb203 ≠ gb204)); have n6_ := Aside0.mk ((by rw [hg]; exact Nat.ne_of_gt (blk_lt (g := gb203) (o := .cells #[.int .u64 a0_0, .int .u64 a0_1] 25 (0, 0)) kA) : gb204 ≠ gb203)); clear BK203 HB; have BK203 := n0_; have HB := n1_; have BK204 := n2_; have GW204 := n3_; have GE204 := n4_; have NB203_204 := n5_; have NB204_203 := n6_; clear n0_ n1_ n2_ n3_ n4_ n5_ n6_ hb hbox hg) | ((with_reducible refine gate_callee (f := 13) rfl ?_); refine goesL_ (some 18) rfl rfl Try.func13 (by kernel_rfl) rfl #[] rfl aA ?_; (with_reducible refine (backfilllaw01_shown.calls k  true _ A3.out).mono ?_); rintro e w37 ⟨rfl, hb⟩; refine ⟨_, rfl, ?_⟩; have n0_ := Aside0.mk (blk_below (g := gb203) (o := .cells #[.int .u64 a0_0, .int .u64 a0_1] 25 (0, 0)) kA hb); have n1_ := Aside0.mk (blk_below (g := gb204) (o := .cells #[.int .u64 a1_0, .int .u64 a1_1] 25 (0, 0)) kA hb); have n2_ := Aside0.mk (below_step bA hb); clear BK203 BK204 HB; have BK203 := n0_; have BK204 := n1_; have HB := n2_; clear n0_ n1_ n2_; (try clear hb); have hnb38 := NB203_204.out; have hnc38 := NB204_203.out; have hcz39_0 : w37.cell? ⟨gb203, 0, none⟩ = some (.int .u64 a0_0) := (blk_cell BK203.out 0).trans rfl; have hcz39_1 : w37.cell? ⟨gb203, 1, none⟩ = some (.int .u64 a0_1) := (blk_cell BK203.out 1).trans rfl; have hfz39_0 := blk_frozen BK203.out 0; have hfz39_1 := blk_frozen BK203.out 1; have hcz40_0 : w37.cell? ⟨gb204, 0, none⟩ = some (.int .u64 a1_0) := (blk_cell BK204.out 0).trans rfl; have hcz40_1 : w37.cell? ⟨gb204, 1, none⟩ = some (.int .u64 a1_1) := (blk_cell BK204.out 1).trans rfl; have hfz40_0 := blk_frozen BK204.out 0; have hfz40_1 := blk_frozen BK204.out 1) | ((with_reducible refine gate_callee (f := 40) rfl ?_); refine goesL_ (some 22) rfl rfl Try.func40 (by kernel_rfl) rfl #[.agg #[.int .u64 a0_0, .int .u64 a0_1], .agg #[.int .u64 a1_0, .int .u64 a1_1]] rfl aA ?_; (with_reducible refine (wide_Add.calls a0_0 a0_1 a1_0 a1_1 t206 t207 t208 _ A4.out).mono ?_); rintro e w41 ⟨rfl, hb⟩; refine ⟨_, rfl, ?_⟩; have n0_ := Aside0.mk (blk_below (g := gb203) (o := .cells #[.int .u64 a0_0, .int .u64 a0_1] 25 (0, 0)) kA hb); have n1_ := Aside0.mk (blk_below (g := gb204) (o := .cells #[.int .u64 a1_0, .int .u64 a1_1] 25 (0, 0)) kA hb); have n2_ := Aside0.mk (below_step bA hb); clear BK203 BK204 HB; have BK203 := n0_; have BK204 := n1_; have HB := n2_; clear n0_ n1_ n2_; (try clear hb)) | ((with_reducible refine gate_dst (N := 6) rfl ?_); refine bxA 6 #[.int .u64 0, .int .u64 0] 25 ?_; intro gb209 hg w42 hbox hb; have n0_ := Aside0.mk (blk_below (g := gb203) (o := .cells #[.int .u64 a0_0, .int .u64 a0_1] 25 (0, 0)) kA hb); have n1_ := Aside0.mk (blk_below (g := gb204) (o := .cells #[.int .u64 a1_0, .int .u64 a1_1] 25 (0, 0)) kA hb); have n2_ := Aside0.mk (below_step bA hb); have n3_ := Aside0.mk (hbox); have n4_ := Aside0.mk ((by rw [hg]; exact (below_size bA) : w.heap.size ≤ gb209)); have n5_ := Aside0.mk ((by rw [hg]; exact (below_size bA) : w.heap.size ≤ gb209)); have n6_ := Aside0.mk ((by rw [hg]; exact Nat.ne_of_lt (blk_lt (g := gb203) (o := .cells #[.int .u64 a0_0, .int .u64 a0_1] 25 (0, 0)) kA) : gb203 ≠ gb209)); have n7_ := Aside0.mk ((by rw [hg]; exact Nat.ne_of_gt (blk_lt (g := gb203) (o := .cells #[.int .u64 a0_0, .int .u64 a0_1] 25 (0, 0)) kA) : gb209 ≠ gb203)); have n8_ := Aside0.mk ((by rw [hg]; exact Nat.ne_of_lt (blk_lt (g := gb204) (o := .cells #[.int .u64 a1_0, .int .u64 a1_1] 25 (0, 0)) kA) : gb204 ≠ gb209)); have n9_ := Aside0.mk ((by rw [hg]; exact Nat.ne_of_gt (blk_lt (g := gb204) (o := .cells #[.int .u64 a1_0, .int .u64 a1_1] 25 (0, 0)) kA) : gb209 ≠ gb204)); clear BK203 BK204 HB; have BK203 := n0_; have BK204 := n1_; have HB := n2_; have BK209 := n3_; have GW209 := n4_; have GE209 := n5_; have NB203_209 := n6_; have NB209_203 := n7_; have NB204_209 := n8_; have NB209_204 := n9_; clear n0_ n1_ n2_ n3_ n4_ n5_ n6_ n7_ n8_ n9_ hb hbox hg; have hnb43 := NB209_203.out; have hnc43 := NB203_209.out; have hnb44 := NB209_204.out; have hnc44 := NB204_209.out; have hcz45_0 : w42.cell? ⟨gb209, 0, none⟩ = some (.int .u64 0) := (blk_cell BK209.out 0).trans rfl; have hcz45_1 : w42.cell? ⟨gb209, 1, none⟩ = some (.int .u64 0) := (blk_cell BK209.out 1).trans rfl; have hfz45_0 := blk_frozen BK209.out 0; have hfz45_1 := blk_frozen BK209.out 1; have hcz46_0 : w42.cell? ⟨gb203, 0, none⟩ = some (.int .u64 a0_0) := (blk_cell BK203.out 0).trans rfl; have hcz46_1 : w42.cell? ⟨gb203, 1, none⟩ = some (.int .u64 a0_1) := (blk_cell BK203.out 1).trans rfl; have hfz46_0 := blk_frozen BK203.out 0; have hfz46_1 := blk_frozen BK203.out 1; have hcz47_0 : w42.cell? ⟨gb204, 0, none⟩ = some (.int .u64 a1_0) := (blk_cell BK204.out 0).trans rfl; have hcz47_1 : w42.cell? ⟨gb204, 1, none⟩ = some (.int .u64 a1_1) := (blk_cell BK204.out 1).trans rfl; have hfz47_0 := blk_frozen BK204.out 0; have hfz47_1 := blk_frozen BK204.out 1) | ((with_reducible refine gate_callee (f := 41) rfl ?_); refine goesL_ (some 28) rfl rfl Try.func41 (by kernel_rfl) rfl #[.agg #[.int .u64 a0_0, .int .u64 a0_1], .agg #[.int .u64 a1_0, .int .u64 a1_1]] rfl aA ?_; (with_reducible refine (wide_Sub.calls a0_0 a0_1 a1_0 a1_1 t210 t211 t212 _ A5.out).mono ?_); rintro e w48 ⟨rfl, hb⟩; refine ⟨_, rfl, ?_⟩; have n0_ := Aside0.mk (blk_below (g := gb203) (o := .cells #[.int .u64 a0_0, .int .u64 a0_1] 25 (0, 0)) (by (with_reducible repeat (first | refine blk_drewN ?_ _ | refine blk_drew ?_ | refine blk_alloc ?_ _)); refine blk_far ?_ NB203_209.out _; (with_reducible repeat (first | refine blk_drewN ?_ _ | refine blk_drew ?_ | refine blk_alloc ?_ _)); refine blk_far ?_ NB203_209.out _; exact kA) hb); have n1_ := Aside0.mk (blk_below (g := gb204) (o := .cells #[.int .u64 a1_0, .int .u64 a1_1] 25 (0, 0)) (by (with_reducible repeat (first | refine blk_drewN ?_ _ | refine blk_drew ?_ | refine blk_alloc ?_ _)); refine blk_far ?_ NB204_209.out _; (with_reducible repeat (first | refine blk_drewN ?_ _ | refine blk_drew ?_ | refine blk_alloc ?_ _)); refine blk_far ?_ NB204_209.out _; exact kA) hb); have n2_ := Aside0.mk (blk_below (g := gb209) (o := .cells #[.int .u64 t206, .int .u64 t207] 25 (0, 0)) (by (with_reducible repeat (first | refine blk_drewN ?_ _ | refine blk_drew ?_ | refine blk_alloc ?_ _)); refine blk_put (cs := #[.int .u64 t206, .int .u64 0]) ?_ 1 _ rfl; (with_reducible repeat (first | refine blk_drewN ?_ _ | refine blk_drew ?_ | refine blk_alloc ?_ _)); refine blk_put (cs := #[.int .u64 0, .int .u64 0]) ?_ 0 _ rfl; exact kA) hb); have n3_ := Aside0.mk (below_step bA hb); clear BK203 BK204 BK209 HB; have BK203 := n0_; have BK204 := n1_; have BK209 := n2_; have HB := n3_; clear n0_ n1_ n2_ n3_; (try clear hb)) | ((with_reducible refine gate_dst (N := 8) rfl ?_); refine bxA 8 #[.int .u64 0, .int .u64 0] 25 ?_; intro gb213 hg w49 hbox hb; have n0_ := Aside0.mk (blk_below (g := gb203) (o := .cells #[.int .u64 a0_0, .int .u64 a0_1] 25 (0, 0)) kA hb); have n1_ := Aside0.mk (blk_below (g := gb204) (o := .cells #[.int .u64 a1_0, .int .u64 a1_1] 25 (0, 0)) kA hb); have n2_ := Aside0.mk (blk_below (g := gb209) (o := .cells #[.int .u64 t206, .int .u64 t207] 25 (0, 0)) kA hb); have n3_ := Aside0.mk (below_step bA hb); have n4_ := Aside0.mk (hbox); have n5_ := Aside0.mk ((by rw [hg]; exact (below_size bA) : w.heap.size ≤ gb213)); have n6_ := Aside0.mk ((by rw [hg]; exact (below_size bA) : w.heap.size ≤ gb213)); have n7_ := Aside0.mk ((by rw [hg]; exact Nat.ne_of_lt (blk_lt (g := gb203) (o := .cells #[.int .u64 a0_0, .int .u64 a0_1] 25 (0, 0)) kA) : gb203 ≠ gb213)); have n8_ := Aside0.mk ((by rw [hg]; exact Nat.ne_of_gt (blk_lt (g := gb203) (o := .cells #[.int .u64 a0_0, .int .u64 a0_1] 25 (0, 0)) kA) : gb213 ≠ gb203)); have n9_ := Aside0.mk ((by rw [hg]; exact Nat.ne_of_lt (blk_lt (g := gb204) (o := .cells #[.int .u64 a1_0, .int .u64 a1_1] 25 (0, 0)) kA) : gb204 ≠ gb213)); have n10_ := Aside0.mk ((by rw [hg]; exact Nat.ne_of_gt (blk_lt (g := gb204) (o := .cells #[.int .u64 a1_0, .int .u64 a1_1] 25 (0, 0)) kA) : gb213 ≠ gb204)); have n11_ := Aside0.mk ((by rw [hg]; exact Nat.ne_of_lt (blk_lt (g := gb209) (o := .cells #[.int .u64 t206, .int .u64 t207] 25 (0, 0)) kA) : gb209 ≠ gb213)); have n12_ := Aside0.mk ((by rw [hg]; exact Nat.ne_of_gt (blk_lt (g := gb209) (o := .cells #[.int .u64 t206, .int .u64 t207] 25 (0, 0)) kA) : gb213 ≠ gb209)); clear BK203 BK204 BK209 HB; have BK203 := n0_; have BK204 := n1_; have BK209 := n2_; have HB := n3_; have BK213 := n4_; have GW213 := n5_; have GE213 := n6_; have NB203_213 := n7_; have NB213_203 := n8_; have NB204_213 := n9_; have NB213_204 := n10_; have NB209_213 := n11_; have NB213_209 := n12_; clear n0_ n1_ n2_ n3_ n4_ n5_ n6_ n7_ n8_ n9_ n10_ n11_ n12_ hb hbox hg; have hnb50 := NB213_203.out; have hnc50 := NB203_213.out; have hnb51 := NB213_204.out; have hnc51 := NB204_213.out; have hnb52 := NB213_209.out; have hnc52 := NB209_213.out; have hcz53_0 : w49.cell? ⟨gb213, 0, none⟩ = some (.int .u64 0) := (blk_cell BK213.out 0).trans rfl; have hcz53_1 : w49.cell? ⟨gb213, 1, none⟩ = some (.int .u64 0) := (blk_cell BK213.out 1).trans rfl; have hfz53_0 := blk_frozen BK213.out 0; have hfz53_1 := blk_frozen BK213.out 1; have hcz54_0 : w49.cell? ⟨gb203, 0, none⟩ = some (.int .u64 a0_0) := (blk_cell BK203.out 0).trans rfl; have hcz54_1 : w49.cell? ⟨gb203, 1, none⟩ = some (.int .u64 a0_1) := (blk_cell BK203.out 1).trans rfl; have hfz54_0 := blk_frozen BK203.out 0; have hfz54_1 := blk_frozen BK203.out 1; have hcz55_0 : w49.cell? ⟨gb204, 0, none⟩ = some (.int .u64 a1_0) := (blk_cell BK204.out 0).trans rfl; have hcz55_1 : w49.cell? ⟨gb204, 1, none⟩ = some (.int .u64 a1_1) := (blk_cell BK204.out 1).trans rfl; have hfz55_0 := blk_frozen BK204.out 0; have hfz55_1 := blk_frozen BK204.out 1) | ((with_reducible refine gate_callee (f := 42) rfl ?_); refine goesL_ (some 35) rfl rfl Try.func42 (by kernel_rfl) rfl #[.agg #[.int .u64 a0_0, .int .u64 a0_1], .int .u64 a1_1] rfl aA ?_; (with_reducible refine (wide_Times.calls a0_0 a0_1 a1_1 t214 t215 t216 _ A6.out).mono ?_); rintro e w56 ⟨rfl, hb⟩; refine ⟨_, rfl, ?_⟩; have n0_ := Aside0.mk (blk_below (g := gb203) (o := .cells #[.int .u64 a0_0, .int .u64 a0_1] 25 (0, 0)) (by (with_reducible repeat (first | refine blk_drewN ?_ _ | refine blk_drew ?_ | refine blk_alloc ?_ _)); refine blk_far ?_ NB203_213.out _; (with_reducible repeat (first | refine blk_drewN ?_ _ | refine blk_drew ?_ | refine blk_alloc ?_ _)); refine blk_far ?_ NB203_213.out _; exact kA) hb); have n1_ := Aside0.mk (blk_below (g := gb204) (o := .cells #[.int .u64 a1_0, .int .u64 a1_1] 25 (0, 0)) (by (with_reducible repeat (first | refine blk_drewN ?_ _ | refine blk_drew ?_ | refine blk_alloc ?_ _)); refine blk_far ?_ NB204_213.out _; (with_reducible repeat (first | refine blk_drewN ?_ _ | refine blk_drew ?_ | refine blk_alloc ?_ _)); refine blk_far ?_ NB204_213.out _; exact kA) hb); have n2_ := Aside0.mk (blk_below (g := gb209) (o := .cells #[.int .u64 t206, .int .u64 t207] 25 (0, 0)) (by (with_reducible repeat (first | refine blk_drewN ?_ _ | refine blk_drew ?_ | refine blk_alloc ?_ _)); refine blk_far ?_ NB209_213.out _; (with_reducible repeat (first | refine blk_drewN ?_ _ | refine blk_drew ?_ | refine blk_alloc ?_ _)); refine blk_far ?_ NB209_213.out _; exact kA) hb); have n3_ := Aside0.mk (blk_below (g := gb213) (o := .cells #[.int .u64 t210, .int .u64 t211] 25 (0, 0)) (by (with_reducible repeat (first | refine blk_drewN ?_ _ | refine blk_drew ?_ | refine blk_alloc ?_ _)); refine blk_put (cs := #[.int .u64 t210, .int .u64 0]) ?_ 1 _ rfl; (with_reducible repeat (first | refine blk_drewN ?_ _ | refine blk_drew ?_ | refine blk_alloc ?_ _)); refine blk_put (cs := #[.int .u64 0, .int .u64 0]) ?_ 0 _ rfl; exact kA) hb); have n4_ := Aside0.mk (below_step bA hb); clear BK203 BK204 BK209 BK213 HB; have BK203 := n0_; have BK204 := n1_; have BK209 := n2_; have BK213 := n3_; have HB := n4_; clear n0_ n1_ n2_ n3_ n4_; (try clear hb)) | ((with_reducible refine gate_dst (N := 10) rfl ?_); refine bxA 10 #[.int .u64 0, .int .u64 0] 25 ?_; intro gb217 hg w57 hbox hb; have n0_ := Aside0.mk (blk_below (g := gb203) (o := .cells #[.int .u64 a0_0, .int .u64 a0_1] 25 (0, 0)) kA hb); have n1_ := Aside0.mk (blk_below (g := gb204) (o := .cells #[.int .u64 a1_0, .int .u64 a1_1] 25 (0, 0)) kA hb); have n2_ := Aside0.mk (blk_below (g := gb209) (o := .cells #[.int .u64 t206, .int .u64 t207] 25 (0, 0)) kA hb); have n3_ := Aside0.mk (blk_below (g := gb213) (o := .cells #[.int .u64 t210, .int .u64 t211] 25 (0, 0)) kA hb); have n4_ := Aside0.mk (below_step bA hb); have n5_ := Aside0.mk (hbox); have n6_ := Aside0.mk ((by rw [hg]; exact (below_size bA) : w.heap.size ≤ gb217)); have n7_ := Aside0.mk ((by rw [hg]; exact (below_size bA) : w.heap.size ≤ gb217)); have n8_ := Aside0.mk ((by rw [hg]; exact Nat.ne_of_lt (blk_lt (g := gb203) (o := .cells #[.int .u64 a0_0, .int .u64 a0_1] 25 (0, 0)) kA) : gb203 ≠ gb217)); have n9_ := Aside0.mk ((by rw [hg]; exact Nat.ne_of_gt (blk_lt (g := gb203) (o := .cells #[.int .u64 a0_0, .int .u64 a0_1] 25 (0, 0)) kA) : gb217 ≠ gb203)); have n10_ := Aside0.mk ((by rw [hg]; exact Nat.ne_of_lt (blk_lt (g := gb204) (o := .cells #[.int .u64 a1_0, .int .u64 a1_1] 25 (0, 0)) kA) : gb204 ≠ gb217)); have n11_ := Aside0.mk ((by rw [hg]; exact Nat.ne_of_gt (blk_lt (g := gb204) (o := .cells #[.int .u64 a1_0, .int .u64 a1_1] 25 (0, 0)) kA) : gb217 ≠ gb204)); have n12_ := Aside0.mk ((by rw [hg]; exact Nat.ne_of_lt (blk_lt (g := gb209) (o := .cells #[.int .u64 t206, .int .u64 t207] 25 (0, 0)) kA) : gb209 ≠ gb217)); have n13_ := Aside0.mk ((by rw [hg]; exact Nat.ne_of_gt (blk_lt (g := gb209) (o := .cells #[.int .u64 t206, .int .u64 t207] 25 (0, 0)) kA) : gb217 ≠ gb209)); have n14_ := Aside0.mk ((by rw [hg]; exact Nat.ne_of_lt (blk_lt (g := gb213) (o := .cells #[.int .u64 t210, .int .u64 t211] 25 (0, 0)) kA) : gb213 ≠ gb217)); have n15_ := Aside0.mk ((by rw [hg]; exact Nat.ne_of_gt (blk_lt (g := gb213) (o := .cells #[.int .u64 t210, .int .u64 t211] 25 (0, 0)) kA) : gb217 ≠ gb213)); clear BK203 BK204 BK209 BK213 HB; have BK203 := n0_; have BK204 := n1_; have BK209 := n2_; have BK213 := n3_; have HB := n4_; have BK217 := n5_; have GW217 := n6_; have GE217 := n7_; have NB203_217 := n8_; have NB217_203 := n9_; have NB204_217 := n10_; have NB217_204 := n11_; have NB209_217 := n12_; have NB217_209 := n13_; have NB213_217 := n14_; have NB217_213 := n15_; clear n0_ n1_ n2_ n3_ n4_ n5_ n6_ n7_ n8_ n9_ n10_ n11_ n12_ n13_ n14_ n15_ hb hbox hg; have hnb58 := NB217_203.out; have hnc58 := NB203_217.out; have hnb59 := NB217_204.out; have hnc59 := NB204_217.out; have hnb60 := NB217_209.out; have hnc60 := NB209_217.out; have hnb61 := NB217_213.out; have hnc61 := NB213_217.out; have hcz62_0 : w57.cell? ⟨gb217, 0, none⟩ = some (.int .u64 0) := (blk_cell BK217.out 0).trans rfl; have hcz62_1 : w57.cell? ⟨gb217, 1, none⟩ = some (.int .u64 0) := (blk_cell BK217.out 1).trans rfl; have hfz62_0 := blk_frozen BK217.out 0; have hfz62_1 := blk_frozen BK217.out 1))
          have n0_ : Aside0 (((w57.setCell ⟨gb217, 0, none⟩ (.int .u64 t214)).setCell ⟨gb217, 1, none⟩ (.int .u64 t215)).heap[gb203]? = some (.cells #[.int .u64 a0_0, .int .u64 a0_1] 25 (0, 0))) := ⟨by (with_reducible repeat (first | refine blk_drewN ?_ _ | refine blk_drew ?_ | refine blk_alloc ?_ _)); refine blk_far ?_ NB203_217.out _; (with_reducible repeat (first | refine blk_drewN ?_ _ | refine blk_drew ?_ | refine blk_alloc ?_ _)); refine blk_far ?_ NB203_217.out _; exact kA⟩
          have n1_ : Aside0 (((w57.setCell ⟨gb217, 0, none⟩ (.int .u64 t214)).setCell ⟨gb217, 1, none⟩ (.int .u64 t215)).heap[gb204]? = some (.cells #[.int .u64 a1_0, .int .u64 a1_1] 25 (0, 0))) := ⟨by (with_reducible repeat (first | refine blk_drewN ?_ _ | refine blk_drew ?_ | refine blk_alloc ?_ _)); refine blk_far ?_ NB204_217.out _; (with_reducible repeat (first | refine blk_drewN ?_ _ | refine blk_drew ?_ | refine blk_alloc ?_ _)); refine blk_far ?_ NB204_217.out _; exact kA⟩
          have n2_ : Aside0 (((w57.setCell ⟨gb217, 0, none⟩ (.int .u64 t214)).setCell ⟨gb217, 1, none⟩ (.int .u64 t215)).heap[gb209]? = some (.cells #[.int .u64 t206, .int .u64 t207] 25 (0, 0))) := ⟨by (with_reducible repeat (first | refine blk_drewN ?_ _ | refine blk_drew ?_ | refine blk_alloc ?_ _)); refine blk_far ?_ NB209_217.out _; (with_reducible repeat (first | refine blk_drewN ?_ _ | refine blk_drew ?_ | refine blk_alloc ?_ _)); refine blk_far ?_ NB209_217.out _; exact kA⟩
          have n3_ : Aside0 (((w57.setCell ⟨gb217, 0, none⟩ (.int .u64 t214)).setCell ⟨gb217, 1, none⟩ (.int .u64 t215)).heap[gb213]? = some (.cells #[.int .u64 t210, .int .u64 t211] 25 (0, 0))) := ⟨by (with_reducible repeat (first | refine blk_drewN ?_ _ | refine blk_drew ?_ | refine blk_alloc ?_ _)); refine blk_far ?_ NB213_217.out _; (with_reducible repeat (first | refine blk_drewN ?_ _ | refine blk_drew ?_ | refine blk_alloc ?_ _)); refine blk_far ?_ NB213_217.out _; exact kA⟩
          have n4_ : Aside0 (((w57.setCell ⟨gb217, 0, none⟩ (.int .u64 t214)).setCell ⟨gb217, 1, none⟩ (.int .u64 t215)).heap[gb217]? = some (.cells #[.int .u64 t214, .int .u64 t215] 25 (0, 0))) := ⟨by (with_reducible repeat (first | refine blk_drewN ?_ _ | refine blk_drew ?_ | refine blk_alloc ?_ _)); refine blk_put (cs := #[.int .u64 t214, .int .u64 0]) ?_ 1 _ rfl; (with_reducible repeat (first | refine blk_drewN ?_ _ | refine blk_drew ?_ | refine blk_alloc ?_ _)); refine blk_put (cs := #[.int .u64 0, .int .u64 0]) ?_ 0 _ rfl; exact kA⟩
          have n5_ : Aside0 (Below w.heap.size w ((w57.setCell ⟨gb217, 0, none⟩ (.int .u64 t214)).setCell ⟨gb217, 1, none⟩ (.int .u64 t215))) := ⟨bA⟩
          (try clear BK203); (try clear BK204); (try clear BK209); (try clear BK213); (try clear BK217); (try clear HB)
          generalize ((w57.setCell ⟨gb217, 0, none⟩ (.int .u64 t214)).setCell ⟨gb217, 1, none⟩ (.int .u64 t215)) = w63 at n0_ n1_ n2_ n3_ n4_ n5_ ⊢
          have BK203 := n0_; have BK204 := n1_; have BK209 := n2_; have BK213 := n3_; have BK217 := n4_; have HB := n5_; clear n0_ n1_ n2_ n3_ n4_ n5_; have n0_ := Aside0.mk (blk_drew BK203.out); have n1_ := Aside0.mk (blk_drew BK204.out); have n2_ := Aside0.mk (blk_drew BK209.out); have n3_ := Aside0.mk (blk_drew BK213.out); have n4_ := Aside0.mk (blk_drew BK217.out); have n5_ := Aside0.mk (below_drew1 HB.out); clear BK203 BK204 BK209 BK213 BK217 HB; have BK203 := n0_; have BK204 := n1_; have BK209 := n2_; have BK213 := n3_; have BK217 := n4_; have HB := n5_; clear n0_ n1_ n2_ n3_ n4_ n5_
          refine start_ (n := 11) (S := fun w' => w'.cell? ⟨gb203, 0, none⟩ = some (.int .u64 a0_0) ∧ w'.cell? ⟨gb203, 1, none⟩ = some (.int .u64 a0_1) ∧ w'.cell? ⟨gb204, 0, none⟩ = some (.int .u64 a1_0) ∧ w'.cell? ⟨gb204, 1, none⟩ = some (.int .u64 a1_1)) (ds := []) #[false, false, false, false, false, false, false, false, false, false, false] (by kernel_rfl) rfl rfl ⟨(blk_cell BK203.out 0).trans rfl, (blk_cell BK203.out 1).trans rfl, (blk_cell BK204.out 0).trans rfl, (blk_cell BK204.out 1).trans rfl⟩ (fun hHeld => ?_); refine with_tabW backfilllaw01_WideSums.tab5 backfilllaw01_WideSums.bits5 (fun HT_ HW_ => ?_)
          generalize w63.drew = w64 at BK203 BK204 BK209 BK213 BK217 HB hHeld ⊢
          refine take_ (i := 0) (N := some 39) (v := ?_) (a' := ?_) #[true, false, false, false, false, false, false, false, false, false, false] rfl rfl (take_ofW HT_.out HW_.out (by kernel_rfl)) (fun _ _ _ h => h) (Or.inl ⟨by rfl, ?_⟩) hHeld ?_ ?_
          rotate_left
          ·rintro w' ⟨s0, s1, s2, s3⟩
           go_simp; with_reducible rfl
          rotate_left
          ·simp only [Act.put, List.setIfInBounds_toArray, List.set_cons_zero, List.set_cons_succ, i64_w, i32_w]
           rfl
          refine take_ (i := 2) (N := some 41) (v := ?_) (a' := ?_) #[true, false, true, false, false, false, false, false, false, false, false] rfl rfl (take_ofW HT_.out HW_.out (by kernel_rfl)) (fun _ _ _ h => h) (Or.inl ⟨by rfl, ?_⟩) hHeld ?_ ?_
          rotate_left
          ·rintro w' ⟨s0, s1, s2, s3⟩
           go_simp; with_reducible rfl
          rotate_left
          ·simp only [Act.put, List.setIfInBounds_toArray, List.set_cons_zero, List.set_cons_succ, i64_w, i32_w]
           rfl
          refine join_ (σ := Nat) 2 #[true, true, true, true, true, true, true, true, true, false, false] (fun s_ => [(40, .agg #[.int .u64 t218, .int .u64 t219]), (42, .agg #[.int .u64 t220, .int .u64 t221]), (43, .tuple #[.agg #[.int .u64 t222, .int .u64 t223], .bool t224]), (12, .pointer (some ⟨s_, 0, none⟩)), (38, .tuple #[.agg #[.int .u64 t222, .int .u64 t223], .bool t224]), (44, .agg #[.int .u64 t222, .int .u64 t223]), (45, .bool t224)]) (fun s_ w' => (w'.cell? ⟨gb203, 0, none⟩ = some (.int .u64 a0_0) ∧ w'.cell? ⟨gb203, 1, none⟩ = some (.int .u64 a0_1) ∧ w'.cell? ⟨gb204, 0, none⟩ = some (.int .u64 a1_0) ∧ w'.cell? ⟨gb204, 1, none⟩ = some (.int .u64 a1_1)) ∧ (w'.heap[gb203]? = some (.cells #[.int .u64 a0_0, .int .u64 a0_1] 25 (0, 0))) ∧ (w'.heap[gb204]? = some (.cells #[.int .u64 a1_0, .int .u64 a1_1] 25 (0, 0))) ∧ (w'.heap[gb209]? = some (.cells #[.int .u64 t206, .int .u64 t207] 25 (0, 0))) ∧ (w'.heap[gb213]? = some (.cells #[.int .u64 t210, .int .u64 t211] 25 (0, 0))) ∧ (w'.heap[gb217]? = some (.cells #[.int .u64 t214, .int .u64 t215] 25 (0, 0))) ∧ (w'.heap[s_]? = some (.cells #[.int .u64 0, .int .u64 0] 28 (0, 0))) ∧ (w.heap.size ≤ s_) ∧ (w.heap.size ≤ s_) ∧ (gb203 ≠ s_) ∧ (s_ ≠ gb203) ∧ (gb204 ≠ s_) ∧ (s_ ≠ gb204) ∧ (gb209 ≠ s_) ∧ (s_ ≠ gb209) ∧ (gb213 ≠ s_) ∧ (s_ ≠ gb213) ∧ (gb217 ≠ s_) ∧ (s_ ≠ gb217) ∧ (Below w.heap.size w w')) ?_ ?_
          rotate_left
          ·intro hCont
           refine two_ (i := 1) (j := 8) (Ni := some 40) (Nj := some 12) #[true, true, true, false, false, false, false, false, false, false, false] #[true, false, true, false, false, false, false, false, true, false, false] rfl rfl rfl rfl (two_of HT_.out (by kernel_rfl)) (by decide) (by decide) (fun K hK => ?_) (fun K hK => ?_)
           ·skip
            refine goes_ Try.func16 (by kernel_rfl) rfl #[.agg #[.int .u64 a0_0, .int .u64 a0_1]] (by rfl) rfl rfl aA ?_
            with_reducible refine (backfilllaw01_ref.calls a0_0 a0_1 t218 t219 _ A7.out).mono ?_
            rintro e w65 ⟨rfl, hb⟩
            refine ⟨_, rfl, ?_⟩; have n0_ := Aside0.mk (blk_below (g := gb203) (o := .cells #[.int .u64 a0_0, .int .u64 a0_1] 25 (0, 0)) kA hb); have n1_ := Aside0.mk (blk_below (g := gb204) (o := .cells #[.int .u64 a1_0, .int .u64 a1_1] 25 (0, 0)) kA hb); have n2_ := Aside0.mk (blk_below (g := gb209) (o := .cells #[.int .u64 t206, .int .u64 t207] 25 (0, 0)) kA hb); have n3_ := Aside0.mk (blk_below (g := gb213) (o := .cells #[.int .u64 t210, .int .u64 t211] 25 (0, 0)) kA hb); have n4_ := Aside0.mk (blk_below (g := gb217) (o := .cells #[.int .u64 t214, .int .u64 t215] 25 (0, 0)) kA hb); have n5_ := Aside0.mk (below_step bA hb); clear BK203 BK204 BK209 BK213 BK217 HB; have BK203 := n0_; have BK204 := n1_; have BK209 := n2_; have BK213 := n3_; have BK217 := n4_; have HB := n5_; clear n0_ n1_ n2_ n3_ n4_ n5_; (try clear hb)
            refine hK.out _ _ ⟨(blk_cell BK203.out 0).trans rfl, (blk_cell BK203.out 1).trans rfl, (blk_cell BK204.out 0).trans rfl, (blk_cell BK204.out 1).trans rfl⟩ (fun hHeld => ?_)
            clear hK K
            refine norm_ (a' := ?_) ?_ ?_
            rotate_left
            ·show Act.put _ (some 40) _ = _
             simp only [Act.put, List.setIfInBounds_toArray, List.set_cons_zero, List.set_cons_succ, i64_w, i32_w]
             rfl
            refine two_ (i := 3) (j := 8) (Ni := some 42) (Nj := some 12) #[true, true, true, true, false, false, false, false, false, false, false] #[true, true, true, false, false, false, false, false, true, false, false] rfl rfl rfl rfl (two_of HT_.out (by kernel_rfl)) (by decide) (by decide) (fun K hK => ?_) (fun K hK => ?_)
            ·skip
             refine goes_ Try.func16 (by kernel_rfl) rfl #[.agg #[.int .u64 a1_0, .int .u64 a1_1]] (by rfl) rfl rfl aA ?_
             with_reducible refine (backfilllaw01_ref.calls a1_0 a1_1 t220 t221 _ A8.out).mono ?_
             rintro e w66 ⟨rfl, hb⟩
             refine ⟨_, rfl, ?_⟩; have n0_ := Aside0.mk (blk_below (g := gb203) (o := .cells #[.int .u64 a0_0, .int .u64 a0_1] 25 (0, 0)) kA hb); have n1_ := Aside0.mk (blk_below (g := gb204) (o := .cells #[.int .u64 a1_0, .int .u64 a1_1] 25 (0, 0)) kA hb); have n2_ := Aside0.mk (blk_below (g := gb209) (o := .cells #[.int .u64 t206, .int .u64 t207] 25 (0, 0)) kA hb); have n3_ := Aside0.mk (blk_below (g := gb213) (o := .cells #[.int .u64 t210, .int .u64 t211] 25 (0, 0)) kA hb); have n4_ := Aside0.mk (blk_below (g := gb217) (o := .cells #[.int .u64 t214, .int .u64 t215] 25 (0, 0)) kA hb); have n5_ := Aside0.mk (below_step bA hb); clear BK203 BK204 BK209 BK213 BK217 HB; have BK203 := n0_; have BK204 := n1_; have BK209 := n2_; have BK213 := n3_; have BK217 := n4_; have HB := n5_; clear n0_ n1_ n2_ n3_ n4_ n5_; (try clear hb)
             refine hK.out _ _ ⟨(blk_cell BK203.out 0).trans rfl, (blk_cell BK203.out 1).trans rfl, (blk_cell BK204.out 0).trans rfl, (blk_cell BK204.out 1).trans rfl⟩ (fun hHeld => ?_)
             clear hK K
             refine norm_ (a' := ?_) ?_ ?_
             rotate_left
             ·show Act.put _ (some 42) _ = _
              simp only [Act.put, List.setIfInBounds_toArray, List.set_cons_zero, List.set_cons_succ, i64_w, i32_w]
              rfl
             refine two_ (i := 4) (j := 8) (Ni := some 43) (Nj := some 12) #[true, true, true, true, true, false, false, false, false, false, false] #[true, true, true, true, false, false, false, false, true, false, false] rfl rfl rfl rfl (two_of HT_.out (by kernel_rfl)) (by decide) (by decide) (fun K hK => ?_) (fun K hK => ?_)
             ·skip
              refine goes_ Try.func43 (by kernel_rfl) rfl #[.agg #[.int .u64 t218, .int .u64 t219], .agg #[.int .u64 t220, .int .u64 t221]] (by rfl) rfl rfl aA ?_
              with_reducible refine (backfillref01_Add.calls t218 t219 t220 t221 t222 t223 t224 _ A9.out).mono ?_
              rintro e w67 ⟨rfl, hb⟩
              refine ⟨_, rfl, ?_⟩; have n0_ := Aside0.mk (blk_below (g := gb203) (o := .cells #[.int .u64 a0_0, .int .u64 a0_1] 25 (0, 0)) kA hb); have n1_ := Aside0.mk (blk_below (g := gb204) (o := .cells #[.int .u64 a1_0, .int .u64 a1_1] 25 (0, 0)) kA hb); have n2_ := Aside0.mk (blk_below (g := gb209) (o := .cells #[.int .u64 t206, .int .u64 t207] 25 (0, 0)) kA hb); have n3_ := Aside0.mk (blk_below (g := gb213) (o := .cells #[.int .u64 t210, .int .u64 t211] 25 (0, 0)) kA hb); have n4_ := Aside0.mk (blk_below (g := gb217) (o := .cells #[.int .u64 t214, .int .u64 t215] 25 (0, 0)) kA hb); have n5_ := Aside0.mk (below_step bA hb); clear BK203 BK204 BK209 BK213 BK217 HB; have BK203 := n0_; have BK204 := n1_; have BK209 := n2_; have BK213 := n3_; have BK217 := n4_; have HB := n5_; clear n0_ n1_ n2_ n3_ n4_ n5_; (try clear hb)
              refine hK.out _ _ ⟨(blk_cell BK203.out 0).trans rfl, (blk_cell BK203.out 1).trans rfl, (blk_cell BK204.out 0).trans rfl, (blk_cell BK204.out 1).trans rfl⟩ (fun hHeld => ?_)
              clear hK K
              refine norm_ (a' := ?_) ?_ ?_
              rotate_left
              ·show Act.put _ (some 43) _ = _
               simp only [Act.put, List.setIfInBounds_toArray, List.set_cons_zero, List.set_cons_succ, i64_w, i32_w]
               rfl
              refine pure_ (i := 5) (N := some 38) (v := ?_) (a' := ?_) #[true, true, true, true, true, true, false, false, false, false, false] rfl rfl (any_of HT_.out (by kernel_rfl)) (fun _ _ _ h => h) (Or.inl ⟨by rfl, ?_⟩) ?_ ?_
              rotate_left
              ·intro w'
               go_simp; with_reducible rfl
              rotate_left
              ·simp only [Act.put, List.setIfInBounds_toArray, List.set_cons_zero, List.set_cons_succ, i64_w, i32_w]
               rfl
              refine pure_ (i := 6) (N := some 44) (v := ?_) (a' := ?_) #[true, true, true, true, true, true, true, false, false, false, false] rfl rfl (any_of HT_.out (by kernel_rfl)) (fun _ _ _ h => h) (Or.inl ⟨by rfl, ?_⟩) ?_ ?_
              rotate_left
              ·intro w'
               go_simp; with_reducible rfl
              rotate_left
              ·simp only [Act.put, List.setIfInBounds_toArray, List.set_cons_zero, List.set_cons_succ, i64_w, i32_w]
               rfl
              refine pure_ (i := 7) (N := some 45) (v := ?_) (a' := ?_) #[true, true, true, true, true, true, true, true, false, false, false] rfl rfl (any_of HT_.out (by kernel_rfl)) (fun _ _ _ h => h) (Or.inl ⟨by rfl, ?_⟩) ?_ ?_
              rotate_left
              ·intro w'
               go_simp; with_reducible rfl
              rotate_left
              ·simp only [Act.put, List.setIfInBounds_toArray, List.set_cons_zero, List.set_cons_succ, i64_w, i32_w]
               rfl
              refine one_ (i := 8) (N := some 12) #[true, true, true, true, true, true, true, true, true, false, false] rfl rfl (one_of HT_.out (by kernel_rfl)) (by decide) (fun K hK => ?_)
              refine box_step ?hg (N := 12) ?hd (cs := #[.int .u64 0, .int .u64 0]) (t := 28) ?hr ?_; (case hd => rfl); (case hg => rfl); (case hr => first | (go_simp; done) | (go_simp; rfl))
              intro gb225 hg w68 hbox hb
              have n0_ := Aside0.mk (blk_below (g := gb203) (o := .cells #[.int .u64 a0_0, .int .u64 a0_1] 25 (0, 0)) kA hb); have n1_ := Aside0.mk (blk_below (g := gb204) (o := .cells #[.int .u64 a1_0, .int .u64 a1_1] 25 (0, 0)) kA hb); have n2_ := Aside0.mk (blk_below (g := gb209) (o := .cells #[.int .u64 t206, .int .u64 t207] 25 (0, 0)) kA hb); have n3_ := Aside0.mk (blk_below (g := gb213) (o := .cells #[.int .u64 t210, .int .u64 t211] 25 (0, 0)) kA hb); have n4_ := Aside0.mk (blk_below (g := gb217) (o := .cells #[.int .u64 t214, .int .u64 t215] 25 (0, 0)) kA hb); have n5_ := Aside0.mk (below_step bA hb); have n6_ := Aside0.mk (hbox); have n7_ := Aside0.mk ((by rw [hg]; exact (below_size bA) : w.heap.size ≤ gb225)); have n8_ := Aside0.mk ((by rw [hg]; exact (below_size bA) : w.heap.size ≤ gb225)); have n9_ := Aside0.mk ((by rw [hg]; exact Nat.ne_of_lt (blk_lt (g := gb203) (o := .cells #[.int .u64 a0_0, .int .u64 a0_1] 25 (0, 0)) kA) : gb203 ≠ gb225)); have n10_ := Aside0.mk ((by rw [hg]; exact Nat.ne_of_gt (blk_lt (g := gb203) (o := .cells #[.int .u64 a0_0, .int .u64 a0_1] 25 (0, 0)) kA) : gb225 ≠ gb203)); have n11_ := Aside0.mk ((by rw [hg]; exact Nat.ne_of_lt (blk_lt (g := gb204) (o := .cells #[.int .u64 a1_0, .int .u64 a1_1] 25 (0, 0)) kA) : gb204 ≠ gb225)); have n12_ := Aside0.mk ((by rw [hg]; exact Nat.ne_of_gt (blk_lt (g := gb204) (o := .cells #[.int .u64 a1_0, .int .u64 a1_1] 25 (0, 0)) kA) : gb225 ≠ gb204)); have n13_ := Aside0.mk ((by rw [hg]; exact Nat.ne_of_lt (blk_lt (g := gb209) (o := .cells #[.int .u64 t206, .int .u64 t207] 25 (0, 0)) kA) : gb209 ≠ gb225)); have n14_ := Aside0.mk ((by rw [hg]; exact Nat.ne_of_gt (blk_lt (g := gb209) (o := .cells #[.int .u64 t206, .int .u64 t207] 25 (0, 0)) kA) : gb225 ≠ gb209)); have n15_ := Aside0.mk ((by rw [hg]; exact Nat.ne_of_lt (blk_lt (g := gb213) (o := .cells #[.int .u64 t210, .int .u64 t211] 25 (0, 0)) kA) : gb213 ≠ gb225)); have n16_ := Aside0.mk ((by rw [hg]; exact Nat.ne_of_gt (blk_lt (g := gb213) (o := .cells #[.int .u64 t210, .int .u64 t211] 25 (0, 0)) kA) : gb225 ≠ gb213)); have n17_ := Aside0.mk ((by rw [hg]; exact Nat.ne_of_lt (blk_lt (g := gb217) (o := .cells #[.int .u64 t214, .int .u64 t215] 25 (0, 0)) kA) : gb217 ≠ gb225)); have n18_ := Aside0.mk ((by rw [hg]; exact Nat.ne_of_gt (blk_lt (g := gb217) (o := .cells #[.int .u64 t214, .int .u64 t215] 25 (0, 0)) kA) : gb225 ≠ gb217)); clear BK203 BK204 BK209 BK213 BK217 HB; have BK203 := n0_; have BK204 := n1_; have BK209 := n2_; have BK213 := n3_; have BK217 := n4_; have HB := n5_; have BK225 := n6_; have GW225 := n7_; have GE225 := n8_; have NB203_225 := n9_; have NB225_203 := n10_; have NB204_225 := n11_; have NB225_204 := n12_; have NB209_225 := n13_; have NB225_209 := n14_; have NB213_225 := n15_; have NB225_213 := n16_; have NB217_225 := n17_; have NB225_217 := n18_; clear n0_ n1_ n2_ n3_ n4_ n5_ n6_ n7_ n8_ n9_ n10_ n11_ n12_ n13_ n14_ n15_ n16_ n17_ n18_ hb hbox hg
              refine hK.out _ _ ⟨(blk_cell BK203.out 0).trans rfl, (blk_cell BK203.out 1).trans rfl, (blk_cell BK204.out 0).trans rfl, (blk_cell BK204.out 1).trans rfl⟩ (fun hHeld => ?_)
              clear hK K
              refine norm_ (a' := ?_) ?_ ?_
              rotate_left
              ·show Act.put _ (some 12) _ = _
               simp only [Act.put, List.setIfInBounds_toArray, List.set_cons_zero, List.set_cons_succ, i64_w, i32_w]
               rfl
              exact norm_ (by simp only [putAll, Act.put, List.setIfInBounds_toArray, List.set_cons_zero, List.set_cons_succ]) (hCont (gb225) _ ⟨hHeld, kA, kA, kA, kA, kA, kA, GW225.out, GE225.out, NB203_225.out, NB225_203.out, NB204_225.out, NB225_204.out, NB209_225.out, NB225_209.out, NB213_225.out, NB225_213.out, NB217_225.out, NB225_217.out, bA⟩)
             ·skip
              refine box_step ?hg (N := 12) ?hd (cs := #[.int .u64 0, .int .u64 0]) (t := 28) ?hr ?_; (case hd => rfl); (case hg => rfl); (case hr => first | (go_simp; done) | (go_simp; rfl))
              intro gb225 hg w67 hbox hb
              have n0_ := Aside0.mk (blk_below (g := gb203) (o := .cells #[.int .u64 a0_0, .int .u64 a0_1] 25 (0, 0)) kA hb); have n1_ := Aside0.mk (blk_below (g := gb204) (o := .cells #[.int .u64 a1_0, .int .u64 a1_1] 25 (0, 0)) kA hb); have n2_ := Aside0.mk (blk_below (g := gb209) (o := .cells #[.int .u64 t206, .int .u64 t207] 25 (0, 0)) kA hb); have n3_ := Aside0.mk (blk_below (g := gb213) (o := .cells #[.int .u64 t210, .int .u64 t211] 25 (0, 0)) kA hb); have n4_ := Aside0.mk (blk_below (g := gb217) (o := .cells #[.int .u64 t214, .int .u64 t215] 25 (0, 0)) kA hb); have n5_ := Aside0.mk (below_step bA hb); have n6_ := Aside0.mk (hbox); have n7_ := Aside0.mk ((by rw [hg]; exact (below_size bA) : w.heap.size ≤ gb225)); have n8_ := Aside0.mk ((by rw [hg]; exact (below_size bA) : w.heap.size ≤ gb225)); have n9_ := Aside0.mk ((by rw [hg]; exact Nat.ne_of_lt (blk_lt (g := gb203) (o := .cells #[.int .u64 a0_0, .int .u64 a0_1] 25 (0, 0)) kA) : gb203 ≠ gb225)); have n10_ := Aside0.mk ((by rw [hg]; exact Nat.ne_of_gt (blk_lt (g := gb203) (o := .cells #[.int .u64 a0_0, .int .u64 a0_1] 25 (0, 0)) kA) : gb225 ≠ gb203)); have n11_ := Aside0.mk ((by rw [hg]; exact Nat.ne_of_lt (blk_lt (g := gb204) (o := .cells #[.int .u64 a1_0, .int .u64 a1_1] 25 (0, 0)) kA) : gb204 ≠ gb225)); have n12_ := Aside0.mk ((by rw [hg]; exact Nat.ne_of_gt (blk_lt (g := gb204) (o := .cells #[.int .u64 a1_0, .int .u64 a1_1] 25 (0, 0)) kA) : gb225 ≠ gb204)); have n13_ := Aside0.mk ((by rw [hg]; exact Nat.ne_of_lt (blk_lt (g := gb209) (o := .cells #[.int .u64 t206, .int .u64 t207] 25 (0, 0)) kA) : gb209 ≠ gb225)); have n14_ := Aside0.mk ((by rw [hg]; exact Nat.ne_of_gt (blk_lt (g := gb209) (o := .cells #[.int .u64 t206, .int .u64 t207] 25 (0, 0)) kA) : gb225 ≠ gb209)); have n15_ := Aside0.mk ((by rw [hg]; exact Nat.ne_of_lt (blk_lt (g := gb213) (o := .cells #[.int .u64 t210, .int .u64 t211] 25 (0, 0)) kA) : gb213 ≠ gb225)); have n16_ := Aside0.mk ((by rw [hg]; exact Nat.ne_of_gt (blk_lt (g := gb213) (o := .cells #[.int .u64 t210, .int .u64 t211] 25 (0, 0)) kA) : gb225 ≠ gb213)); have n17_ := Aside0.mk ((by rw [hg]; exact Nat.ne_of_lt (blk_lt (g := gb217) (o := .cells #[.int .u64 t214, .int .u64 t215] 25 (0, 0)) kA) : gb217 ≠ gb225)); have n18_ := Aside0.mk ((by rw [hg]; exact Nat.ne_of_gt (blk_lt (g := gb217) (o := .cells #[.int .u64 t214, .int .u64 t215] 25 (0, 0)) kA) : gb225 ≠ gb217)); clear BK203 BK204 BK209 BK213 BK217 HB; have BK203 := n0_; have BK204 := n1_; have BK209 := n2_; have BK213 := n3_; have BK217 := n4_; have HB := n5_; have BK225 := n6_; have GW225 := n7_; have GE225 := n8_; have NB203_225 := n9_; have NB225_203 := n10_; have NB204_225 := n11_; have NB225_204 := n12_; have NB209_225 := n13_; have NB225_209 := n14_; have NB213_225 := n15_; have NB225_213 := n16_; have NB217_225 := n17_; have NB225_217 := n18_; clear n0_ n1_ n2_ n3_ n4_ n5_ n6_ n7_ n8_ n9_ n10_ n11_ n12_ n13_ n14_ n15_ n16_ n17_ n18_ hb hbox hg
              refine hK.out _ _ ⟨(blk_cell BK203.out 0).trans rfl, (blk_cell BK203.out 1).trans rfl, (blk_cell BK204.out 0).trans rfl, (blk_cell BK204.out 1).trans rfl⟩ (fun hHeld => ?_)
              clear hK K
              refine norm_ (a' := ?_) ?_ ?_
              rotate_left
              ·show Act.put _ (some 12) _ = _
               simp only [Act.put, List.setIfInBounds_toArray, List.set_cons_zero, List.set_cons_succ, i64_w, i32_w]
               rfl
              refine one_ (i := 4) (N := some 43) #[true, true, true, true, true, false, false, false, true, false, false] rfl rfl (one_of HT_.out (by kernel_rfl)) (by decide) (fun K hK => ?_)
              refine goes_ Try.func43 (by kernel_rfl) rfl #[.agg #[.int .u64 t218, .int .u64 t219], .agg #[.int .u64 t220, .int .u64 t221]] (by rfl) rfl rfl aA ?_
              with_reducible refine (backfillref01_Add.calls t218 t219 t220 t221 t222 t223 t224 _ A9.out).mono ?_
              rintro e w68 ⟨rfl, hb⟩
              refine ⟨_, rfl, ?_⟩; have n0_ := Aside0.mk (blk_below (g := gb203) (o := .cells #[.int .u64 a0_0, .int .u64 a0_1] 25 (0, 0)) kA hb); have n1_ := Aside0.mk (blk_below (g := gb204) (o := .cells #[.int .u64 a1_0, .int .u64 a1_1] 25 (0, 0)) kA hb); have n2_ := Aside0.mk (blk_below (g := gb209) (o := .cells #[.int .u64 t206, .int .u64 t207] 25 (0, 0)) kA hb); have n3_ := Aside0.mk (blk_below (g := gb213) (o := .cells #[.int .u64 t210, .int .u64 t211] 25 (0, 0)) kA hb); have n4_ := Aside0.mk (blk_below (g := gb217) (o := .cells #[.int .u64 t214, .int .u64 t215] 25 (0, 0)) kA hb); have n5_ := Aside0.mk (blk_below (g := gb225) (o := .cells #[.int .u64 0, .int .u64 0] 28 (0, 0)) kA hb); have n6_ := Aside0.mk (below_step bA hb); clear BK203 BK204 BK209 BK213 BK217 BK225 HB; have BK203 := n0_; have BK204 := n1_; have BK209 := n2_; have BK213 := n3_; have BK217 := n4_; have BK225 := n5_; have HB := n6_; clear n0_ n1_ n2_ n3_ n4_ n5_ n6_; (try clear hb)
              refine hK.out _ _ ⟨(blk_cell BK203.out 0).trans rfl, (blk_cell BK203.out 1).trans rfl, (blk_cell BK204.out 0).trans rfl, (blk_cell BK204.out 1).trans rfl⟩ (fun hHeld => ?_)
              clear hK K
              refine norm_ (a' := ?_) ?_ ?_
              rotate_left
              ·show Act.put _ (some 43) _ = _
               simp only [Act.put, List.setIfInBounds_toArray, List.set_cons_zero, List.set_cons_succ, i64_w, i32_w]
               rfl
              refine pure_ (i := 5) (N := some 38) (v := ?_) (a' := ?_) #[true, true, true, true, true, true, false, false, true, false, false] rfl rfl (any_of HT_.out (by kernel_rfl)) (fun _ _ _ h => h) (Or.inl ⟨by rfl, ?_⟩) ?_ ?_
              rotate_left
              ·intro w'
               go_simp; with_reducible rfl
              rotate_left
              ·simp only [Act.put, List.setIfInBounds_toArray, List.set_cons_zero, List.set_cons_succ, i64_w, i32_w]
               rfl
              refine pure_ (i := 6) (N := some 44) (v := ?_) (a' := ?_) #[true, true, true, true, true, true, true, false, true, false, false] rfl rfl (any_of HT_.out (by kernel_rfl)) (fun _ _ _ h => h) (Or.inl ⟨by rfl, ?_⟩) ?_ ?_
              rotate_left
              ·intro w'
               go_simp; with_reducible rfl
              rotate_left
              ·simp only [Act.put, List.setIfInBounds_toArray, List.set_cons_zero, List.set_cons_succ, i64_w, i32_w]
               rfl
              refine pure_ (i := 7) (N := some 45) (v := ?_) (a' := ?_) #[true, true, true, true, true, true, true, true, true, false, false] rfl rfl (any_of HT_.out (by kernel_rfl)) (fun _ _ _ h => h) (Or.inl ⟨by rfl, ?_⟩) ?_ ?_
              rotate_left
              ·intro w'
               go_simp; with_reducible rfl
              rotate_left
              ·simp only [Act.put, List.setIfInBounds_toArray, List.set_cons_zero, List.set_cons_succ, i64_w, i32_w]
               rfl
              exact norm_ (by simp only [putAll, Act.put, List.setIfInBounds_toArray, List.set_cons_zero, List.set_cons_succ]) (hCont (gb225) _ ⟨hHeld, kA, kA, kA, kA, kA, kA, GW225.out, GE225.out, NB203_225.out, NB225_203.out, NB204_225.out, NB225_204.out, NB209_225.out, NB225_209.out, NB213_225.out, NB225_213.out, NB217_225.out, NB225_217.out, bA⟩)
            ·skip
             refine box_step ?hg (N := 12) ?hd (cs := #[.int .u64 0, .int .u64 0]) (t := 28) ?hr ?_; (case hd => rfl); (case hg => rfl); (case hr => first | (go_simp; done) | (go_simp; rfl))
             intro gb225 hg w66 hbox hb
             have n0_ := Aside0.mk (blk_below (g := gb203) (o := .cells #[.int .u64 a0_0, .int .u64 a0_1] 25 (0, 0)) kA hb); have n1_ := Aside0.mk (blk_below (g := gb204) (o := .cells #[.int .u64 a1_0, .int .u64 a1_1] 25 (0, 0)) kA hb); have n2_ := Aside0.mk (blk_below (g := gb209) (o := .cells #[.int .u64 t206, .int .u64 t207] 25 (0, 0)) kA hb); have n3_ := Aside0.mk (blk_below (g := gb213) (o := .cells #[.int .u64 t210, .int .u64 t211] 25 (0, 0)) kA hb); have n4_ := Aside0.mk (blk_below (g := gb217) (o := .cells #[.int .u64 t214, .int .u64 t215] 25 (0, 0)) kA hb); have n5_ := Aside0.mk (below_step bA hb); have n6_ := Aside0.mk (hbox); have n7_ := Aside0.mk ((by rw [hg]; exact (below_size bA) : w.heap.size ≤ gb225)); have n8_ := Aside0.mk ((by rw [hg]; exact (below_size bA) : w.heap.size ≤ gb225)); have n9_ := Aside0.mk ((by rw [hg]; exact Nat.ne_of_lt (blk_lt (g := gb203) (o := .cells #[.int .u64 a0_0, .int .u64 a0_1] 25 (0, 0)) kA) : gb203 ≠ gb225)); have n10_ := Aside0.mk ((by rw [hg]; exact Nat.ne_of_gt (blk_lt (g := gb203) (o := .cells #[.int .u64 a0_0, .int .u64 a0_1] 25 (0, 0)) kA) : gb225 ≠ gb203)); have n11_ := Aside0.mk ((by rw [hg]; exact Nat.ne_of_lt (blk_lt (g := gb204) (o := .cells #[.int .u64 a1_0, .int .u64 a1_1] 25 (0, 0)) kA) : gb204 ≠ gb225)); have n12_ := Aside0.mk ((by rw [hg]; exact Nat.ne_of_gt (blk_lt (g := gb204) (o := .cells #[.int .u64 a1_0, .int .u64 a1_1] 25 (0, 0)) kA) : gb225 ≠ gb204)); have n13_ := Aside0.mk ((by rw [hg]; exact Nat.ne_of_lt (blk_lt (g := gb209) (o := .cells #[.int .u64 t206, .int .u64 t207] 25 (0, 0)) kA) : gb209 ≠ gb225)); have n14_ := Aside0.mk ((by rw [hg]; exact Nat.ne_of_gt (blk_lt (g := gb209) (o := .cells #[.int .u64 t206, .int .u64 t207] 25 (0, 0)) kA) : gb225 ≠ gb209)); have n15_ := Aside0.mk ((by rw [hg]; exact Nat.ne_of_lt (blk_lt (g := gb213) (o := .cells #[.int .u64 t210, .int .u64 t211] 25 (0, 0)) kA) : gb213 ≠ gb225)); have n16_ := Aside0.mk ((by rw [hg]; exact Nat.ne_of_gt (blk_lt (g := gb213) (o := .cells #[.int .u64 t210, .int .u64 t211] 25 (0, 0)) kA) : gb225 ≠ gb213)); have n17_ := Aside0.mk ((by rw [hg]; exact Nat.ne_of_lt (blk_lt (g := gb217) (o := .cells #[.int .u64 t214, .int .u64 t215] 25 (0, 0)) kA) : gb217 ≠ gb225)); have n18_ := Aside0.mk ((by rw [hg]; exact Nat.ne_of_gt (blk_lt (g := gb217) (o := .cells #[.int .u64 t214, .int .u64 t215] 25 (0, 0)) kA) : gb225 ≠ gb217)); clear BK203 BK204 BK209 BK213 BK217 HB; have BK203 := n0_; have BK204 := n1_; have BK209 := n2_; have BK213 := n3_; have BK217 := n4_; have HB := n5_; have BK225 := n6_; have GW225 := n7_; have GE225 := n8_; have NB203_225 := n9_; have NB225_203 := n10_; have NB204_225 := n11_; have NB225_204 := n12_; have NB209_225 := n13_; have NB225_209 := n14_; have NB213_225 := n15_; have NB225_213 := n16_; have NB217_225 := n17_; have NB225_217 := n18_; clear n0_ n1_ n2_ n3_ n4_ n5_ n6_ n7_ n8_ n9_ n10_ n11_ n12_ n13_ n14_ n15_ n16_ n17_ n18_ hb hbox hg
             refine hK.out _ _ ⟨(blk_cell BK203.out 0).trans rfl, (blk_cell BK203.out 1).trans rfl, (blk_cell BK204.out 0).trans rfl, (blk_cell BK204.out 1).trans rfl⟩ (fun hHeld => ?_)
             clear hK K
             refine norm_ (a' := ?_) ?_ ?_
             rotate_left
             ·show Act.put _ (some 12) _ = _
              simp only [Act.put, List.setIfInBounds_toArray, List.set_cons_zero, List.set_cons_succ, i64_w, i32_w]
              rfl
             refine one_ (i := 3) (N := some 42) #[true, true, true, true, false, false, false, false, true, false, false] rfl rfl (one_of HT_.out (by kernel_rfl)) (by decide) (fun K hK => ?_)
             refine goes_ Try.func16 (by kernel_rfl) rfl #[.agg #[.int .u64 a1_0, .int .u64 a1_1]] (by rfl) rfl rfl aA ?_
             with_reducible refine (backfilllaw01_ref.calls a1_0 a1_1 t220 t221 _ A8.out).mono ?_
             rintro e w67 ⟨rfl, hb⟩
             refine ⟨_, rfl, ?_⟩; have n0_ := Aside0.mk (blk_below (g := gb203) (o := .cells #[.int .u64 a0_0, .int .u64 a0_1] 25 (0, 0)) kA hb); have n1_ := Aside0.mk (blk_below (g := gb204) (o := .cells #[.int .u64 a1_0, .int .u64 a1_1] 25 (0, 0)) kA hb); have n2_ := Aside0.mk (blk_below (g := gb209) (o := .cells #[.int .u64 t206, .int .u64 t207] 25 (0, 0)) kA hb); have n3_ := Aside0.mk (blk_below (g := gb213) (o := .cells #[.int .u64 t210, .int .u64 t211] 25 (0, 0)) kA hb); have n4_ := Aside0.mk (blk_below (g := gb217) (o := .cells #[.int .u64 t214, .int .u64 t215] 25 (0, 0)) kA hb); have n5_ := Aside0.mk (blk_below (g := gb225) (o := .cells #[.int .u64 0, .int .u64 0] 28 (0, 0)) kA hb); have n6_ := Aside0.mk (below_step bA hb); clear BK203 BK204 BK209 BK213 BK217 BK225 HB; have BK203 := n0_; have BK204 := n1_; have BK209 := n2_; have BK213 := n3_; have BK217 := n4_; have BK225 := n5_; have HB := n6_; clear n0_ n1_ n2_ n3_ n4_ n5_ n6_; (try clear hb)
             refine hK.out _ _ ⟨(blk_cell BK203.out 0).trans rfl, (blk_cell BK203.out 1).trans rfl, (blk_cell BK204.out 0).trans rfl, (blk_cell BK204.out 1).trans rfl⟩ (fun hHeld => ?_)
             clear hK K
             refine norm_ (a' := ?_) ?_ ?_
             rotate_left
             ·show Act.put _ (some 42) _ = _
              simp only [Act.put, List.setIfInBounds_toArray, List.set_cons_zero, List.set_cons_succ, i64_w, i32_w]
              rfl
             refine one_ (i := 4) (N := some 43) #[true, true, true, true, true, false, false, false, true, false, false] rfl rfl (one_of HT_.out (by kernel_rfl)) (by decide) (fun K hK => ?_)
             refine goes_ Try.func43 (by kernel_rfl) rfl #[.agg #[.int .u64 t218, .int .u64 t219], .agg #[.int .u64 t220, .int .u64 t221]] (by rfl) rfl rfl aA ?_
             with_reducible refine (backfillref01_Add.calls t218 t219 t220 t221 t222 t223 t224 _ A9.out).mono ?_
             rintro e w68 ⟨rfl, hb⟩
             refine ⟨_, rfl, ?_⟩; have n0_ := Aside0.mk (blk_below (g := gb203) (o := .cells #[.int .u64 a0_0, .int .u64 a0_1] 25 (0, 0)) kA hb); have n1_ := Aside0.mk (blk_below (g := gb204) (o := .cells #[.int .u64 a1_0, .int .u64 a1_1] 25 (0, 0)) kA hb); have n2_ := Aside0.mk (blk_below (g := gb209) (o := .cells #[.int .u64 t206, .int .u64 t207] 25 (0, 0)) kA hb); have n3_ := Aside0.mk (blk_below (g := gb213) (o := .cells #[.int .u64 t210, .int .u64 t211] 25 (0, 0)) kA hb); have n4_ := Aside0.mk (blk_below (g := gb217) (o := .cells #[.int .u64 t214, .int .u64 t215] 25 (0, 0)) kA hb); have n5_ := Aside0.mk (blk_below (g := gb225) (o := .cells #[.int .u64 0, .int .u64 0] 28 (0, 0)) kA hb); have n6_ := Aside0.mk (below_step bA hb); clear BK203 BK204 BK209 BK213 BK217 BK225 HB; have BK203 := n0_; have BK204 := n1_; have BK209 := n2_; have BK213 := n3_; have BK217 := n4_; have BK225 := n5_; have HB := n6_; clear n0_ n1_ n2_ n3_ n4_ n5_ n6_; (try clear hb)
             refine hK.out _ _ ⟨(blk_cell BK203.out 0).trans rfl, (blk_cell BK203.out 1).trans rfl, (blk_cell BK204.out 0).trans rfl, (blk_cell BK204.out 1).trans rfl⟩ (fun hHeld => ?_)
             clear hK K
             refine norm_ (a' := ?_) ?_ ?_
             rotate_left
             ·show Act.put _ (some 43) _ = _
              simp only [Act.put, List.setIfInBounds_toArray, List.set_cons_zero, List.set_cons_succ, i64_w, i32_w]
              rfl
             refine pure_ (i := 5) (N := some 38) (v := ?_) (a' := ?_) #[true, true, true, true, true, true, false, false, true, false, false] rfl rfl (any_of HT_.out (by kernel_rfl)) (fun _ _ _ h => h) (Or.inl ⟨by rfl, ?_⟩) ?_ ?_
             rotate_left
             ·intro w'
              go_simp; with_reducible rfl
             rotate_left
             ·simp only [Act.put, List.setIfInBounds_toArray, List.set_cons_zero, List.set_cons_succ, i64_w, i32_w]
              rfl
             refine pure_ (i := 6) (N := some 44) (v := ?_) (a' := ?_) #[true, true, true, true, true, true, true, false, true, false, false] rfl rfl (any_of HT_.out (by kernel_rfl)) (fun _ _ _ h => h) (Or.inl ⟨by rfl, ?_⟩) ?_ ?_
             rotate_left
             ·intro w'
              go_simp; with_reducible rfl
             rotate_left
             ·simp only [Act.put, List.setIfInBounds_toArray, List.set_cons_zero, List.set_cons_succ, i64_w, i32_w]
              rfl
             refine pure_ (i := 7) (N := some 45) (v := ?_) (a' := ?_) #[true, true, true, true, true, true, true, true, true, false, false] rfl rfl (any_of HT_.out (by kernel_rfl)) (fun _ _ _ h => h) (Or.inl ⟨by rfl, ?_⟩) ?_ ?_
             rotate_left
             ·intro w'
              go_simp; with_reducible rfl
             rotate_left
             ·simp only [Act.put, List.setIfInBounds_toArray, List.set_cons_zero, List.set_cons_succ, i64_w, i32_w]
              rfl
             exact norm_ (by simp only [putAll, Act.put, List.setIfInBounds_toArray, List.set_cons_zero, List.set_cons_succ]) (hCont (gb225) _ ⟨hHeld, kA, kA, kA, kA, kA, kA, GW225.out, GE225.out, NB203_225.out, NB225_203.out, NB204_225.out, NB225_204.out, NB209_225.out, NB225_209.out, NB213_225.out, NB225_213.out, NB217_225.out, NB225_217.out, bA⟩)
           ·skip
            refine box_step ?hg (N := 12) ?hd (cs := #[.int .u64 0, .int .u64 0]) (t := 28) ?hr ?_; (case hd => rfl); (case hg => rfl); (case hr => first | (go_simp; done) | (go_simp; rfl))
            intro gb225 hg w65 hbox hb
            have n0_ := Aside0.mk (blk_below (g := gb203) (o := .cells #[.int .u64 a0_0, .int .u64 a0_1] 25 (0, 0)) kA hb); have n1_ := Aside0.mk (blk_below (g := gb204) (o := .cells #[.int .u64 a1_0, .int .u64 a1_1] 25 (0, 0)) kA hb); have n2_ := Aside0.mk (blk_below (g := gb209) (o := .cells #[.int .u64 t206, .int .u64 t207] 25 (0, 0)) kA hb); have n3_ := Aside0.mk (blk_below (g := gb213) (o := .cells #[.int .u64 t210, .int .u64 t211] 25 (0, 0)) kA hb); have n4_ := Aside0.mk (blk_below (g := gb217) (o := .cells #[.int .u64 t214, .int .u64 t215] 25 (0, 0)) kA hb); have n5_ := Aside0.mk (below_step bA hb); have n6_ := Aside0.mk (hbox); have n7_ := Aside0.mk ((by rw [hg]; exact (below_size bA) : w.heap.size ≤ gb225)); have n8_ := Aside0.mk ((by rw [hg]; exact (below_size bA) : w.heap.size ≤ gb225)); have n9_ := Aside0.mk ((by rw [hg]; exact Nat.ne_of_lt (blk_lt (g := gb203) (o := .cells #[.int .u64 a0_0, .int .u64 a0_1] 25 (0, 0)) kA) : gb203 ≠ gb225)); have n10_ := Aside0.mk ((by rw [hg]; exact Nat.ne_of_gt (blk_lt (g := gb203) (o := .cells #[.int .u64 a0_0, .int .u64 a0_1] 25 (0, 0)) kA) : gb225 ≠ gb203)); have n11_ := Aside0.mk ((by rw [hg]; exact Nat.ne_of_lt (blk_lt (g := gb204) (o := .cells #[.int .u64 a1_0, .int .u64 a1_1] 25 (0, 0)) kA) : gb204 ≠ gb225)); have n12_ := Aside0.mk ((by rw [hg]; exact Nat.ne_of_gt (blk_lt (g := gb204) (o := .cells #[.int .u64 a1_0, .int .u64 a1_1] 25 (0, 0)) kA) : gb225 ≠ gb204)); have n13_ := Aside0.mk ((by rw [hg]; exact Nat.ne_of_lt (blk_lt (g := gb209) (o := .cells #[.int .u64 t206, .int .u64 t207] 25 (0, 0)) kA) : gb209 ≠ gb225)); have n14_ := Aside0.mk ((by rw [hg]; exact Nat.ne_of_gt (blk_lt (g := gb209) (o := .cells #[.int .u64 t206, .int .u64 t207] 25 (0, 0)) kA) : gb225 ≠ gb209)); have n15_ := Aside0.mk ((by rw [hg]; exact Nat.ne_of_lt (blk_lt (g := gb213) (o := .cells #[.int .u64 t210, .int .u64 t211] 25 (0, 0)) kA) : gb213 ≠ gb225)); have n16_ := Aside0.mk ((by rw [hg]; exact Nat.ne_of_gt (blk_lt (g := gb213) (o := .cells #[.int .u64 t210, .int .u64 t211] 25 (0, 0)) kA) : gb225 ≠ gb213)); have n17_ := Aside0.mk ((by rw [hg]; exact Nat.ne_of_lt (blk_lt (g := gb217) (o := .cells #[.int .u64 t214, .int .u64 t215] 25 (0, 0)) kA) : gb217 ≠ gb225)); have n18_ := Aside0.mk ((by rw [hg]; exact Nat.ne_of_gt (blk_lt (g := gb217) (o := .cells #[.int .u64 t214, .int .u64 t215] 25 (0, 0)) kA) : gb225 ≠ gb217)); clear BK203 BK204 BK209 BK213 BK217 HB; have BK203 := n0_; have BK204 := n1_; have BK209 := n2_; have BK213 := n3_; have BK217 := n4_; have HB := n5_; have BK225 := n6_; have GW225 := n7_; have GE225 := n8_; have NB203_225 := n9_; have NB225_203 := n10_; have NB204_225 := n11_; have NB225_204 := n12_; have NB209_225 := n13_; have NB225_209 := n14_; have NB213_225 := n15_; have NB225_213 := n16_; have NB217_225 := n17_; have NB225_217 := n18_; clear n0_ n1_ n2_ n3_ n4_ n5_ n6_ n7_ n8_ n9_ n10_ n11_ n12_ n13_ n14_ n15_ n16_ n17_ n18_ hb hbox hg
            refine hK.out _ _ ⟨(blk_cell BK203.out 0).trans rfl, (blk_cell BK203.out 1).trans rfl, (blk_cell BK204.out 0).trans rfl, (blk_cell BK204.out 1).trans rfl⟩ (fun hHeld => ?_)
            clear hK K
            refine norm_ (a' := ?_) ?_ ?_
            rotate_left
            ·show Act.put _ (some 12) _ = _
             simp only [Act.put, List.setIfInBounds_toArray, List.set_cons_zero, List.set_cons_succ, i64_w, i32_w]
             rfl
            refine one_ (i := 1) (N := some 40) #[true, true, true, false, false, false, false, false, true, false, false] rfl rfl (one_of HT_.out (by kernel_rfl)) (by decide) (fun K hK => ?_)
            refine goes_ Try.func16 (by kernel_rfl) rfl #[.agg #[.int .u64 a0_0, .int .u64 a0_1]] (by rfl) rfl rfl aA ?_
            with_reducible refine (backfilllaw01_ref.calls a0_0 a0_1 t218 t219 _ A7.out).mono ?_
            rintro e w66 ⟨rfl, hb⟩
            refine ⟨_, rfl, ?_⟩; have n0_ := Aside0.mk (blk_below (g := gb203) (o := .cells #[.int .u64 a0_0, .int .u64 a0_1] 25 (0, 0)) kA hb); have n1_ := Aside0.mk (blk_below (g := gb204) (o := .cells #[.int .u64 a1_0, .int .u64 a1_1] 25 (0, 0)) kA hb); have n2_ := Aside0.mk (blk_below (g := gb209) (o := .cells #[.int .u64 t206, .int .u64 t207] 25 (0, 0)) kA hb); have n3_ := Aside0.mk (blk_below (g := gb213) (o := .cells #[.int .u64 t210, .int .u64 t211] 25 (0, 0)) kA hb); have n4_ := Aside0.mk (blk_below (g := gb217) (o := .cells #[.int .u64 t214, .int .u64 t215] 25 (0, 0)) kA hb); have n5_ := Aside0.mk (blk_below (g := gb225) (o := .cells #[.int .u64 0, .int .u64 0] 28 (0, 0)) kA hb); have n6_ := Aside0.mk (below_step bA hb); clear BK203 BK204 BK209 BK213 BK217 BK225 HB; have BK203 := n0_; have BK204 := n1_; have BK209 := n2_; have BK213 := n3_; have BK217 := n4_; have BK225 := n5_; have HB := n6_; clear n0_ n1_ n2_ n3_ n4_ n5_ n6_; (try clear hb)
            refine hK.out _ _ ⟨(blk_cell BK203.out 0).trans rfl, (blk_cell BK203.out 1).trans rfl, (blk_cell BK204.out 0).trans rfl, (blk_cell BK204.out 1).trans rfl⟩ (fun hHeld => ?_)
            clear hK K
            refine norm_ (a' := ?_) ?_ ?_
            rotate_left
            ·show Act.put _ (some 40) _ = _
             simp only [Act.put, List.setIfInBounds_toArray, List.set_cons_zero, List.set_cons_succ, i64_w, i32_w]
             rfl
            refine one_ (i := 3) (N := some 42) #[true, true, true, true, false, false, false, false, true, false, false] rfl rfl (one_of HT_.out (by kernel_rfl)) (by decide) (fun K hK => ?_)
            refine goes_ Try.func16 (by kernel_rfl) rfl #[.agg #[.int .u64 a1_0, .int .u64 a1_1]] (by rfl) rfl rfl aA ?_
            with_reducible refine (backfilllaw01_ref.calls a1_0 a1_1 t220 t221 _ A8.out).mono ?_
            rintro e w67 ⟨rfl, hb⟩
            refine ⟨_, rfl, ?_⟩; have n0_ := Aside0.mk (blk_below (g := gb203) (o := .cells #[.int .u64 a0_0, .int .u64 a0_1] 25 (0, 0)) kA hb); have n1_ := Aside0.mk (blk_below (g := gb204) (o := .cells #[.int .u64 a1_0, .int .u64 a1_1] 25 (0, 0)) kA hb); have n2_ := Aside0.mk (blk_below (g := gb209) (o := .cells #[.int .u64 t206, .int .u64 t207] 25 (0, 0)) kA hb); have n3_ := Aside0.mk (blk_below (g := gb213) (o := .cells #[.int .u64 t210, .int .u64 t211] 25 (0, 0)) kA hb); have n4_ := Aside0.mk (blk_below (g := gb217) (o := .cells #[.int .u64 t214, .int .u64 t215] 25 (0, 0)) kA hb); have n5_ := Aside0.mk (blk_below (g := gb225) (o := .cells #[.int .u64 0, .int .u64 0] 28 (0, 0)) kA hb); have n6_ := Aside0.mk (below_step bA hb); clear BK203 BK204 BK209 BK213 BK217 BK225 HB; have BK203 := n0_; have BK204 := n1_; have BK209 := n2_; have BK213 := n3_; have BK217 := n4_; have BK225 := n5_; have HB := n6_; clear n0_ n1_ n2_ n3_ n4_ n5_ n6_; (try clear hb)
            refine hK.out _ _ ⟨(blk_cell BK203.out 0).trans rfl, (blk_cell BK203.out 1).trans rfl, (blk_cell BK204.out 0).trans rfl, (blk_cell BK204.out 1).trans rfl⟩ (fun hHeld => ?_)
            clear hK K
            refine norm_ (a' := ?_) ?_ ?_
            rotate_left
            ·show Act.put _ (some 42) _ = _
             simp only [Act.put, List.setIfInBounds_toArray, List.set_cons_zero, List.set_cons_succ, i64_w, i32_w]
             rfl
            refine one_ (i := 4) (N := some 43) #[true, true, true, true, true, false, false, false, true, false, false] rfl rfl (one_of HT_.out (by kernel_rfl)) (by decide) (fun K hK => ?_)
            refine goes_ Try.func43 (by kernel_rfl) rfl #[.agg #[.int .u64 t218, .int .u64 t219], .agg #[.int .u64 t220, .int .u64 t221]] (by rfl) rfl rfl aA ?_
            with_reducible refine (backfillref01_Add.calls t218 t219 t220 t221 t222 t223 t224 _ A9.out).mono ?_
            rintro e w68 ⟨rfl, hb⟩
            refine ⟨_, rfl, ?_⟩; have n0_ := Aside0.mk (blk_below (g := gb203) (o := .cells #[.int .u64 a0_0, .int .u64 a0_1] 25 (0, 0)) kA hb); have n1_ := Aside0.mk (blk_below (g := gb204) (o := .cells #[.int .u64 a1_0, .int .u64 a1_1] 25 (0, 0)) kA hb); have n2_ := Aside0.mk (blk_below (g := gb209) (o := .cells #[.int .u64 t206, .int .u64 t207] 25 (0, 0)) kA hb); have n3_ := Aside0.mk (blk_below (g := gb213) (o := .cells #[.int .u64 t210, .int .u64 t211] 25 (0, 0)) kA hb); have n4_ := Aside0.mk (blk_below (g := gb217) (o := .cells #[.int .u64 t214, .int .u64 t215] 25 (0, 0)) kA hb); have n5_ := Aside0.mk (blk_below (g := gb225) (o := .cells #[.int .u64 0, .int .u64 0] 28 (0, 0)) kA hb); have n6_ := Aside0.mk (below_step bA hb); clear BK203 BK204 BK209 BK213 BK217 BK225 HB; have BK203 := n0_; have BK204 := n1_; have BK209 := n2_; have BK213 := n3_; have BK217 := n4_; have BK225 := n5_; have HB := n6_; clear n0_ n1_ n2_ n3_ n4_ n5_ n6_; (try clear hb)
            refine hK.out _ _ ⟨(blk_cell BK203.out 0).trans rfl, (blk_cell BK203.out 1).trans rfl, (blk_cell BK204.out 0).trans rfl, (blk_cell BK204.out 1).trans rfl⟩ (fun hHeld => ?_)
            clear hK K
            refine norm_ (a' := ?_) ?_ ?_
            rotate_left
            ·show Act.put _ (some 43) _ = _
             simp only [Act.put, List.setIfInBounds_toArray, List.set_cons_zero, List.set_cons_succ, i64_w, i32_w]
             rfl
            refine pure_ (i := 5) (N := some 38) (v := ?_) (a' := ?_) #[true, true, true, true, true, true, false, false, true, false, false] rfl rfl (any_of HT_.out (by kernel_rfl)) (fun _ _ _ h => h) (Or.inl ⟨by rfl, ?_⟩) ?_ ?_
            rotate_left
            ·intro w'
             go_simp; with_reducible rfl
            rotate_left
            ·simp only [Act.put, List.setIfInBounds_toArray, List.set_cons_zero, List.set_cons_succ, i64_w, i32_w]
             rfl
            refine pure_ (i := 6) (N := some 44) (v := ?_) (a' := ?_) #[true, true, true, true, true, true, true, false, true, false, false] rfl rfl (any_of HT_.out (by kernel_rfl)) (fun _ _ _ h => h) (Or.inl ⟨by rfl, ?_⟩) ?_ ?_
            rotate_left
            ·intro w'
             go_simp; with_reducible rfl
            rotate_left
            ·simp only [Act.put, List.setIfInBounds_toArray, List.set_cons_zero, List.set_cons_succ, i64_w, i32_w]
             rfl
            refine pure_ (i := 7) (N := some 45) (v := ?_) (a' := ?_) #[true, true, true, true, true, true, true, true, true, false, false] rfl rfl (any_of HT_.out (by kernel_rfl)) (fun _ _ _ h => h) (Or.inl ⟨by rfl, ?_⟩) ?_ ?_
            rotate_left
            ·intro w'
             go_simp; with_reducible rfl
            rotate_left
            ·simp only [Act.put, List.setIfInBounds_toArray, List.set_cons_zero, List.set_cons_succ, i64_w, i32_w]
             rfl
            exact norm_ (by simp only [putAll, Act.put, List.setIfInBounds_toArray, List.set_cons_zero, List.set_cons_succ]) (hCont (gb225) _ ⟨hHeld, kA, kA, kA, kA, kA, kA, GW225.out, GE225.out, NB203_225.out, NB225_203.out, NB204_225.out, NB225_204.out, NB209_225.out, NB225_209.out, NB213_225.out, NB225_213.out, NB217_225.out, NB225_217.out, bA⟩)
          rintro gb225 w69 ⟨hS_, h0_, h1_, h2_, h3_, h4_, h5_, h6_, h7_, h8_, h9_, h10_, h11_, h12_, h13_, h14_, h15_, h16_, h17_, h18_⟩
          have n0_ : Aside0 (w69.heap[gb203]? = some (.cells #[.int .u64 a0_0, .int .u64 a0_1] 25 (0, 0))) := ⟨h0_⟩
          have n1_ : Aside0 (w69.heap[gb204]? = some (.cells #[.int .u64 a1_0, .int .u64 a1_1] 25 (0, 0))) := ⟨h1_⟩
          have n2_ : Aside0 (w69.heap[gb209]? = some (.cells #[.int .u64 t206, .int .u64 t207] 25 (0, 0))) := ⟨h2_⟩
          have n3_ : Aside0 (w69.heap[gb213]? = some (.cells #[.int .u64 t210, .int .u64 t211] 25 (0, 0))) := ⟨h3_⟩
          have n4_ : Aside0 (w69.heap[gb217]? = some (.cells #[.int .u64 t214, .int .u64 t215] 25 (0, 0))) := ⟨h4_⟩
          have n5_ : Aside0 (w69.heap[gb225]? = some (.cells #[.int .u64 0, .int .u64 0] 28 (0, 0))) := ⟨h5_⟩
          have n6_ : Aside0 (w.heap.size ≤ gb225) := ⟨h6_⟩
          have n7_ : Aside0 (w.heap.size ≤ gb225) := ⟨h7_⟩
          have n8_ : Aside0 (gb203 ≠ gb225) := ⟨h8_⟩
          have n9_ : Aside0 (gb225 ≠ gb203) := ⟨h9_⟩
          have n10_ : Aside0 (gb204 ≠ gb225) := ⟨h10_⟩
          have n11_ : Aside0 (gb225 ≠ gb204) := ⟨h11_⟩
          have n12_ : Aside0 (gb209 ≠ gb225) := ⟨h12_⟩
          have n13_ : Aside0 (gb225 ≠ gb209) := ⟨h13_⟩
          have n14_ : Aside0 (gb213 ≠ gb225) := ⟨h14_⟩
          have n15_ : Aside0 (gb225 ≠ gb213) := ⟨h15_⟩
          have n16_ : Aside0 (gb217 ≠ gb225) := ⟨h16_⟩
          have n17_ : Aside0 (gb225 ≠ gb217) := ⟨h17_⟩
          have n18_ : Aside0 (Below w.heap.size w w69) := ⟨h18_⟩
          clear BK203 BK204 BK209 BK213 BK217 HB h0_ h1_ h2_ h3_ h4_ h5_ h6_ h7_ h8_ h9_ h10_ h11_ h12_ h13_ h14_ h15_ h16_ h17_ h18_; have BK203 := n0_; have BK204 := n1_; have BK209 := n2_; have BK213 := n3_; have BK217 := n4_; have BK225 := n5_; have GW225 := n6_; have GE225 := n7_; have NB203_225 := n8_; have NB225_203 := n9_; have NB204_225 := n10_; have NB225_204 := n11_; have NB209_225 := n12_; have NB225_209 := n13_; have NB213_225 := n14_; have NB225_213 := n15_; have NB217_225 := n16_; have NB225_217 := n17_; have HB := n18_; clear n0_ n1_ n2_ n3_ n4_ n5_ n6_ n7_ n8_ n9_ n10_ n11_ n12_ n13_ n14_ n15_ n16_ n17_ n18_
          have hHeld : w69.cell? ⟨gb203, 0, none⟩ = some (.int .u64 a0_0) ∧ w69.cell? ⟨gb203, 1, none⟩ = some (.int .u64 a0_1) ∧ w69.cell? ⟨gb204, 0, none⟩ = some (.int .u64 a1_0) ∧ w69.cell? ⟨gb204, 1, none⟩ = some (.int .u64 a1_1) := hS_
          refine norm_ (a' := ?_) ?_ ?_
          rotate_left
          ·simp only [putAll, Act.put, List.setIfInBounds_toArray, List.set_cons_zero, List.set_cons_succ]
           rfl
          refine one_ (i := 9) (N := none) #[true, true, true, true, true, true, true, true, true, true, false] rfl rfl (one_of HT_.out (by kernel_rfl)) (by decide) (fun K hK => ?_)
          have hs70 : w69.cell? ⟨gb225, 0, none⟩ = some (.int .u64 0) := (blk_cell BK225.out 0).trans rfl
          have hfs70 := blk_frozen BK225.out 0
          have hns70_0 := NB203_225.out
          have hns70_1 := NB204_225.out
          have hns70_2 := NB209_225.out
          have hns70_3 := NB213_225.out
          have hns70_4 := NB217_225.out
          have hms70_0 := NB225_203.out
          have hms70_1 := NB225_204.out
          have hms70_2 := NB225_209.out
          have hms70_3 := NB225_213.out
          have hms70_4 := NB225_217.out
          have hs71 : w69.cell? ⟨gb225, 1, none⟩ = some (.int .u64 0) := (blk_cell BK225.out 1).trans rfl
          have hfs71 := blk_frozen BK225.out 1
          have hns71_0 := NB203_225.out
          have hns71_1 := NB204_225.out
          have hns71_2 := NB209_225.out
          have hns71_3 := NB213_225.out
          have hns71_4 := NB217_225.out
          have hms71_0 := NB225_203.out
          have hms71_1 := NB225_204.out
          have hms71_2 := NB225_209.out
          have hms71_3 := NB225_213.out
          have hms71_4 := NB225_217.out
          refine skip_ (w1 := ?_) (by rfl) rfl ?_ ?_
          rotate_left
          ·go_simp
           rfl
          refine hK.out _ _ ⟨((cell_far (p := ⟨gb225, _, none⟩) NB203_225.out _).trans (((cell_far (p := ⟨gb225, _, none⟩) NB203_225.out _).trans (hHeld.1)))), ((cell_far (p := ⟨gb225, _, none⟩) NB203_225.out _).trans (((cell_far (p := ⟨gb225, _, none⟩) NB203_225.out _).trans (hHeld.2.1)))), ((cell_far (p := ⟨gb225, _, none⟩) NB204_225.out _).trans (((cell_far (p := ⟨gb225, _, none⟩) NB204_225.out _).trans (hHeld.2.2.1)))), ((cell_far (p := ⟨gb225, _, none⟩) NB204_225.out _).trans (((cell_far (p := ⟨gb225, _, none⟩) NB204_225.out _).trans (hHeld.2.2.2))))⟩ (fun hHeld => ?_)
          clear hK K
          refine pure_ (i := 10) (N := some 13) (v := ?_) (a' := ?_) #[true, true, true, true, true, true, true, true, true, true, true] rfl rfl (any_of HT_.out (by kernel_rfl)) (fun _ _ _ h => h) (Or.inl ⟨by rfl, ?_⟩) ?_ ?_
          rotate_left
          ·intro w'
           go_simp; with_reducible rfl
          rotate_left
          ·simp only [Act.put, List.setIfInBounds_toArray, List.set_cons_zero, List.set_cons_succ, i64_w, i32_w]
           rfl
          refine done_ (done_of HT_.out (by kernel_rfl)) ?_
          try go_wp2
          have n0_ : Aside0 (((w69.setCell ⟨gb225, 0, none⟩ (.int .u64 t222)).setCell ⟨gb225, 1, none⟩ (.int .u64 t223)).heap[gb203]? = some (.cells #[.int .u64 a0_0, .int .u64 a0_1] 25 (0, 0))) := ⟨by (with_reducible repeat (first | refine blk_drewN ?_ _ | refine blk_drew ?_ | refine blk_alloc ?_ _)); refine blk_far ?_ NB203_225.out _; (with_reducible repeat (first | refine blk_drewN ?_ _ | refine blk_drew ?_ | refine blk_alloc ?_ _)); refine blk_far ?_ NB203_225.out _; exact kA⟩
          have n1_ : Aside0 (((w69.setCell ⟨gb225, 0, none⟩ (.int .u64 t222)).setCell ⟨gb225, 1, none⟩ (.int .u64 t223)).heap[gb204]? = some (.cells #[.int .u64 a1_0, .int .u64 a1_1] 25 (0, 0))) := ⟨by (with_reducible repeat (first | refine blk_drewN ?_ _ | refine blk_drew ?_ | refine blk_alloc ?_ _)); refine blk_far ?_ NB204_225.out _; (with_reducible repeat (first | refine blk_drewN ?_ _ | refine blk_drew ?_ | refine blk_alloc ?_ _)); refine blk_far ?_ NB204_225.out _; exact kA⟩
          have n2_ : Aside0 (((w69.setCell ⟨gb225, 0, none⟩ (.int .u64 t222)).setCell ⟨gb225, 1, none⟩ (.int .u64 t223)).heap[gb209]? = some (.cells #[.int .u64 t206, .int .u64 t207] 25 (0, 0))) := ⟨by (with_reducible repeat (first | refine blk_drewN ?_ _ | refine blk_drew ?_ | refine blk_alloc ?_ _)); refine blk_far ?_ NB209_225.out _; (with_reducible repeat (first | refine blk_drewN ?_ _ | refine blk_drew ?_ | refine blk_alloc ?_ _)); refine blk_far ?_ NB209_225.out _; exact kA⟩
          have n3_ : Aside0 (((w69.setCell ⟨gb225, 0, none⟩ (.int .u64 t222)).setCell ⟨gb225, 1, none⟩ (.int .u64 t223)).heap[gb213]? = some (.cells #[.int .u64 t210, .int .u64 t211] 25 (0, 0))) := ⟨by (with_reducible repeat (first | refine blk_drewN ?_ _ | refine blk_drew ?_ | refine blk_alloc ?_ _)); refine blk_far ?_ NB213_225.out _; (with_reducible repeat (first | refine blk_drewN ?_ _ | refine blk_drew ?_ | refine blk_alloc ?_ _)); refine blk_far ?_ NB213_225.out _; exact kA⟩
          have n4_ : Aside0 (((w69.setCell ⟨gb225, 0, none⟩ (.int .u64 t222)).setCell ⟨gb225, 1, none⟩ (.int .u64 t223)).heap[gb217]? = some (.cells #[.int .u64 t214, .int .u64 t215] 25 (0, 0))) := ⟨by (with_reducible repeat (first | refine blk_drewN ?_ _ | refine blk_drew ?_ | refine blk_alloc ?_ _)); refine blk_far ?_ NB217_225.out _; (with_reducible repeat (first | refine blk_drewN ?_ _ | refine blk_drew ?_ | refine blk_alloc ?_ _)); refine blk_far ?_ NB217_225.out _; exact kA⟩
          have n5_ : Aside0 (((w69.setCell ⟨gb225, 0, none⟩ (.int .u64 t222)).setCell ⟨gb225, 1, none⟩ (.int .u64 t223)).heap[gb225]? = some (.cells #[.int .u64 t222, .int .u64 t223] 28 (0, 0))) := ⟨by (with_reducible repeat (first | refine blk_drewN ?_ _ | refine blk_drew ?_ | refine blk_alloc ?_ _)); refine blk_put (cs := #[.int .u64 t222, .int .u64 0]) ?_ 1 _ rfl; (with_reducible repeat (first | refine blk_drewN ?_ _ | refine blk_drew ?_ | refine blk_alloc ?_ _)); refine blk_put (cs := #[.int .u64 0, .int .u64 0]) ?_ 0 _ rfl; exact kA⟩
          have n6_ : Aside0 (Below w.heap.size w ((w69.setCell ⟨gb225, 0, none⟩ (.int .u64 t222)).setCell ⟨gb225, 1, none⟩ (.int .u64 t223))) := ⟨bA⟩
          (try clear BK203); (try clear BK204); (try clear BK209); (try clear BK213); (try clear BK217); (try clear BK225); (try clear HB)
          generalize ((w69.setCell ⟨gb225, 0, none⟩ (.int .u64 t222)).setCell ⟨gb225, 1, none⟩ (.int .u64 t223)) = w72 at n0_ n1_ n2_ n3_ n4_ n5_ n6_ ⊢
          have BK203 := n0_; have BK204 := n1_; have BK209 := n2_; have BK213 := n3_; have BK217 := n4_; have BK225 := n5_; have HB := n6_; clear n0_ n1_ n2_ n3_ n4_ n5_ n6_; have n0_ := Aside0.mk (blk_drew BK203.out); have n1_ := Aside0.mk (blk_drew BK204.out); have n2_ := Aside0.mk (blk_drew BK209.out); have n3_ := Aside0.mk (blk_drew BK213.out); have n4_ := Aside0.mk (blk_drew BK217.out); have n5_ := Aside0.mk (blk_drew BK225.out); have n6_ := Aside0.mk (below_drew1 HB.out); clear BK203 BK204 BK209 BK213 BK217 BK225 HB; have BK203 := n0_; have BK204 := n1_; have BK209 := n2_; have BK213 := n3_; have BK217 := n4_; have BK225 := n5_; have HB := n6_; clear n0_ n1_ n2_ n3_ n4_ n5_ n6_
          refine start_ (n := 11) (S := fun w' => w'.cell? ⟨gb203, 0, none⟩ = some (.int .u64 a0_0) ∧ w'.cell? ⟨gb203, 1, none⟩ = some (.int .u64 a0_1) ∧ w'.cell? ⟨gb204, 0, none⟩ = some (.int .u64 a1_0) ∧ w'.cell? ⟨gb204, 1, none⟩ = some (.int .u64 a1_1)) (ds := []) #[false, false, false, false, false, false, false, false, false, false, false] (by kernel_rfl) rfl rfl ⟨(blk_cell BK203.out 0).trans rfl, (blk_cell BK203.out 1).trans rfl, (blk_cell BK204.out 0).trans rfl, (blk_cell BK204.out 1).trans rfl⟩ (fun hHeld => ?_); refine with_tabW backfilllaw01_WideSums.tab6 backfilllaw01_WideSums.bits6 (fun HT_ HW_ => ?_)
          generalize w72.drew = w73 at BK203 BK204 BK209 BK213 BK217 BK225 HB hHeld ⊢
          refine take_ (i := 0) (N := some 47) (v := ?_) (a' := ?_) #[true, false, false, false, false, false, false, false, false, false, false] rfl rfl (take_ofW HT_.out HW_.out (by kernel_rfl)) (fun _ _ _ h => h) (Or.inl ⟨by rfl, ?_⟩) hHeld ?_ ?_
          rotate_left
          ·rintro w' ⟨s0, s1, s2, s3⟩
           go_simp; with_reducible rfl
          rotate_left
          ·simp only [Act.put, List.setIfInBounds_toArray, List.set_cons_zero, List.set_cons_succ, i64_w, i32_w]
           rfl
          refine take_ (i := 2) (N := some 49) (v := ?_) (a' := ?_) #[true, false, true, false, false, false, false, false, false, false, false] rfl rfl (take_ofW HT_.out HW_.out (by kernel_rfl)) (fun _ _ _ h => h) (Or.inl ⟨by rfl, ?_⟩) hHeld ?_ ?_
          rotate_left
          ·rintro w' ⟨s0, s1, s2, s3⟩
           go_simp; with_reducible rfl
          rotate_left
          ·simp only [Act.put, List.setIfInBounds_toArray, List.set_cons_zero, List.set_cons_succ, i64_w, i32_w]
           rfl
          refine join_ (σ := Nat) 2 #[true, true, true, true, true, true, true, true, true, false, false] (fun s_ => [(48, .agg #[.int .u64 t226, .int .u64 t227]), (50, .agg #[.int .u64 t228, .int .u64 t229]), (51, .tuple #[.agg #[.int .u64 t230, .int .u64 t231], .bool t232]), (14, .pointer (some ⟨s_, 0, none⟩)), (46, .tuple #[.agg #[.int .u64 t230, .int .u64 t231], .bool t232]), (52, .agg #[.int .u64 t230, .int .u64 t231]), (53, .bool t232)]) (fun s_ w' => (w'.cell? ⟨gb203, 0, none⟩ = some (.int .u64 a0_0) ∧ w'.cell? ⟨gb203, 1, none⟩ = some (.int .u64 a0_1) ∧ w'.cell? ⟨gb204, 0, none⟩ = some (.int .u64 a1_0) ∧ w'.cell? ⟨gb204, 1, none⟩ = some (.int .u64 a1_1)) ∧ (w'.heap[gb203]? = some (.cells #[.int .u64 a0_0, .int .u64 a0_1] 25 (0, 0))) ∧ (w'.heap[gb204]? = some (.cells #[.int .u64 a1_0, .int .u64 a1_1] 25 (0, 0))) ∧ (w'.heap[gb209]? = some (.cells #[.int .u64 t206, .int .u64 t207] 25 (0, 0))) ∧ (w'.heap[gb213]? = some (.cells #[.int .u64 t210, .int .u64 t211] 25 (0, 0))) ∧ (w'.heap[gb217]? = some (.cells #[.int .u64 t214, .int .u64 t215] 25 (0, 0))) ∧ (w'.heap[gb225]? = some (.cells #[.int .u64 t222, .int .u64 t223] 28 (0, 0))) ∧ (w'.heap[s_]? = some (.cells #[.int .u64 0, .int .u64 0] 28 (0, 0))) ∧ (w.heap.size ≤ s_) ∧ (w.heap.size ≤ s_) ∧ (gb203 ≠ s_) ∧ (s_ ≠ gb203) ∧ (gb204 ≠ s_) ∧ (s_ ≠ gb204) ∧ (gb209 ≠ s_) ∧ (s_ ≠ gb209) ∧ (gb213 ≠ s_) ∧ (s_ ≠ gb213) ∧ (gb217 ≠ s_) ∧ (s_ ≠ gb217) ∧ (gb225 ≠ s_) ∧ (s_ ≠ gb225) ∧ (Below w.heap.size w w')) ?_ ?_
          rotate_left
          ·intro hCont
           refine two_ (i := 1) (j := 8) (Ni := some 48) (Nj := some 14) #[true, true, true, false, false, false, false, false, false, false, false] #[true, false, true, false, false, false, false, false, true, false, false] rfl rfl rfl rfl (two_of HT_.out (by kernel_rfl)) (by decide) (by decide) (fun K hK => ?_) (fun K hK => ?_)
           ·skip
            refine goes_ Try.func16 (by kernel_rfl) rfl #[.agg #[.int .u64 a0_0, .int .u64 a0_1]] (by rfl) rfl rfl aA ?_
            with_reducible refine (backfilllaw01_ref.calls a0_0 a0_1 t226 t227 _ A10.out).mono ?_
            rintro e w74 ⟨rfl, hb⟩
            refine ⟨_, rfl, ?_⟩; have n0_ := Aside0.mk (blk_below (g := gb203) (o := .cells #[.int .u64 a0_0, .int .u64 a0_1] 25 (0, 0)) kA hb); have n1_ := Aside0.mk (blk_below (g := gb204) (o := .cells #[.int .u64 a1_0, .int .u64 a1_1] 25 (0, 0)) kA hb); have n2_ := Aside0.mk (blk_below (g := gb209) (o := .cells #[.int .u64 t206, .int .u64 t207] 25 (0, 0)) kA hb); have n3_ := Aside0.mk (blk_below (g := gb213) (o := .cells #[.int .u64 t210, .int .u64 t211] 25 (0, 0)) kA hb); have n4_ := Aside0.mk (blk_below (g := gb217) (o := .cells #[.int .u64 t214, .int .u64 t215] 25 (0, 0)) kA hb); have n5_ := Aside0.mk (blk_below (g := gb225) (o := .cells #[.int .u64 t222, .int .u64 t223] 28 (0, 0)) kA hb); have n6_ := Aside0.mk (below_step bA hb); clear BK203 BK204 BK209 BK213 BK217 BK225 HB; have BK203 := n0_; have BK204 := n1_; have BK209 := n2_; have BK213 := n3_; have BK217 := n4_; have BK225 := n5_; have HB := n6_; clear n0_ n1_ n2_ n3_ n4_ n5_ n6_; (try clear hb)
            refine hK.out _ _ ⟨(blk_cell BK203.out 0).trans rfl, (blk_cell BK203.out 1).trans rfl, (blk_cell BK204.out 0).trans rfl, (blk_cell BK204.out 1).trans rfl⟩ (fun hHeld => ?_)
            clear hK K
            refine norm_ (a' := ?_) ?_ ?_
            rotate_left
            ·show Act.put _ (some 48) _ = _
             simp only [Act.put, List.setIfInBounds_toArray, List.set_cons_zero, List.set_cons_succ, i64_w, i32_w]
             rfl
            refine two_ (i := 3) (j := 8) (Ni := some 50) (Nj := some 14) #[true, true, true, true, false, false, false, false, false, false, false] #[true, true, true, false, false, false, false, false, true, false, false] rfl rfl rfl rfl (two_of HT_.out (by kernel_rfl)) (by decide) (by decide) (fun K hK => ?_) (fun K hK => ?_)
            ·skip
             refine goes_ Try.func16 (by kernel_rfl) rfl #[.agg #[.int .u64 a1_0, .int .u64 a1_1]] (by rfl) rfl rfl aA ?_
             with_reducible refine (backfilllaw01_ref.calls a1_0 a1_1 t228 t229 _ A11.out).mono ?_
             rintro e w75 ⟨rfl, hb⟩
             refine ⟨_, rfl, ?_⟩; have n0_ := Aside0.mk (blk_below (g := gb203) (o := .cells #[.int .u64 a0_0, .int .u64 a0_1] 25 (0, 0)) kA hb); have n1_ := Aside0.mk (blk_below (g := gb204) (o := .cells #[.int .u64 a1_0, .int .u64 a1_1] 25 (0, 0)) kA hb); have n2_ := Aside0.mk (blk_below (g := gb209) (o := .cells #[.int .u64 t206, .int .u64 t207] 25 (0, 0)) kA hb); have n3_ := Aside0.mk (blk_below (g := gb213) (o := .cells #[.int .u64 t210, .int .u64 t211] 25 (0, 0)) kA hb); have n4_ := Aside0.mk (blk_below (g := gb217) (o := .cells #[.int .u64 t214, .int .u64 t215] 25 (0, 0)) kA hb); have n5_ := Aside0.mk (blk_below (g := gb225) (o := .cells #[.int .u64 t222, .int .u64 t223] 28 (0, 0)) kA hb); have n6_ := Aside0.mk (below_step bA hb); clear BK203 BK204 BK209 BK213 BK217 BK225 HB; have BK203 := n0_; have BK204 := n1_; have BK209 := n2_; have BK213 := n3_; have BK217 := n4_; have BK225 := n5_; have HB := n6_; clear n0_ n1_ n2_ n3_ n4_ n5_ n6_; (try clear hb)
             refine hK.out _ _ ⟨(blk_cell BK203.out 0).trans rfl, (blk_cell BK203.out 1).trans rfl, (blk_cell BK204.out 0).trans rfl, (blk_cell BK204.out 1).trans rfl⟩ (fun hHeld => ?_)
             clear hK K
             refine norm_ (a' := ?_) ?_ ?_
             rotate_left
             ·show Act.put _ (some 50) _ = _
              simp only [Act.put, List.setIfInBounds_toArray, List.set_cons_zero, List.set_cons_succ, i64_w, i32_w]
              rfl
             refine two_ (i := 4) (j := 8) (Ni := some 51) (Nj := some 14) #[true, true, true, true, true, false, false, false, false, false, false] #[true, true, true, true, false, false, false, false, true, false, false] rfl rfl rfl rfl (two_of HT_.out (by kernel_rfl)) (by decide) (by decide) (fun K hK => ?_) (fun K hK => ?_)
             ·skip
              refine goes_ Try.func44 (by kernel_rfl) rfl #[.agg #[.int .u64 t226, .int .u64 t227], .agg #[.int .u64 t228, .int .u64 t229]] (by rfl) rfl rfl aA ?_
              with_reducible refine (backfillref01_Sub.calls k t226 t227 t228 t229 t230 t231 t232 _ A12.out).mono ?_
              rintro e w76 ⟨rfl, hb⟩
              refine ⟨_, rfl, ?_⟩; have n0_ := Aside0.mk (blk_below (g := gb203) (o := .cells #[.int .u64 a0_0, .int .u64 a0_1] 25 (0, 0)) kA hb); have n1_ := Aside0.mk (blk_below (g := gb204) (o := .cells #[.int .u64 a1_0, .int .u64 a1_1] 25 (0, 0)) kA hb); have n2_ := Aside0.mk (blk_below (g := gb209) (o := .cells #[.int .u64 t206, .int .u64 t207] 25 (0, 0)) kA hb); have n3_ := Aside0.mk (blk_below (g := gb213) (o := .cells #[.int .u64 t210, .int .u64 t211] 25 (0, 0)) kA hb); have n4_ := Aside0.mk (blk_below (g := gb217) (o := .cells #[.int .u64 t214, .int .u64 t215] 25 (0, 0)) kA hb); have n5_ := Aside0.mk (blk_below (g := gb225) (o := .cells #[.int .u64 t222, .int .u64 t223] 28 (0, 0)) kA hb); have n6_ := Aside0.mk (below_step bA hb); clear BK203 BK204 BK209 BK213 BK217 BK225 HB; have BK203 := n0_; have BK204 := n1_; have BK209 := n2_; have BK213 := n3_; have BK217 := n4_; have BK225 := n5_; have HB := n6_; clear n0_ n1_ n2_ n3_ n4_ n5_ n6_; (try clear hb)
              refine hK.out _ _ ⟨(blk_cell BK203.out 0).trans rfl, (blk_cell BK203.out 1).trans rfl, (blk_cell BK204.out 0).trans rfl, (blk_cell BK204.out 1).trans rfl⟩ (fun hHeld => ?_)
              clear hK K
              refine norm_ (a' := ?_) ?_ ?_
              rotate_left
              ·show Act.put _ (some 51) _ = _
               simp only [Act.put, List.setIfInBounds_toArray, List.set_cons_zero, List.set_cons_succ, i64_w, i32_w]
               rfl
              refine pure_ (i := 5) (N := some 46) (v := ?_) (a' := ?_) #[true, true, true, true, true, true, false, false, false, false, false] rfl rfl (any_of HT_.out (by kernel_rfl)) (fun _ _ _ h => h) (Or.inl ⟨by rfl, ?_⟩) ?_ ?_
              rotate_left
              ·intro w'
               go_simp; with_reducible rfl
              rotate_left
              ·simp only [Act.put, List.setIfInBounds_toArray, List.set_cons_zero, List.set_cons_succ, i64_w, i32_w]
               rfl
              refine pure_ (i := 6) (N := some 52) (v := ?_) (a' := ?_) #[true, true, true, true, true, true, true, false, false, false, false] rfl rfl (any_of HT_.out (by kernel_rfl)) (fun _ _ _ h => h) (Or.inl ⟨by rfl, ?_⟩) ?_ ?_
              rotate_left
              ·intro w'
               go_simp; with_reducible rfl
              rotate_left
              ·simp only [Act.put, List.setIfInBounds_toArray, List.set_cons_zero, List.set_cons_succ, i64_w, i32_w]
               rfl
              refine pure_ (i := 7) (N := some 53) (v := ?_) (a' := ?_) #[true, true, true, true, true, true, true, true, false, false, false] rfl rfl (any_of HT_.out (by kernel_rfl)) (fun _ _ _ h => h) (Or.inl ⟨by rfl, ?_⟩) ?_ ?_
              rotate_left
              ·intro w'
               go_simp; with_reducible rfl
              rotate_left
              ·simp only [Act.put, List.setIfInBounds_toArray, List.set_cons_zero, List.set_cons_succ, i64_w, i32_w]
               rfl
              refine one_ (i := 8) (N := some 14) #[true, true, true, true, true, true, true, true, true, false, false] rfl rfl (one_of HT_.out (by kernel_rfl)) (by decide) (fun K hK => ?_)
              refine box_step ?hg (N := 14) ?hd (cs := #[.int .u64 0, .int .u64 0]) (t := 28) ?hr ?_; (case hd => rfl); (case hg => rfl); (case hr => first | (go_simp; done) | (go_simp; rfl))
              intro gb233 hg w77 hbox hb
              have n0_ := Aside0.mk (blk_below (g := gb203) (o := .cells #[.int .u64 a0_0, .int .u64 a0_1] 25 (0, 0)) kA hb); have n1_ := Aside0.mk (blk_below (g := gb204) (o := .cells #[.int .u64 a1_0, .int .u64 a1_1] 25 (0, 0)) kA hb); have n2_ := Aside0.mk (blk_below (g := gb209) (o := .cells #[.int .u64 t206, .int .u64 t207] 25 (0, 0)) kA hb); have n3_ := Aside0.mk (blk_below (g := gb213) (o := .cells #[.int .u64 t210, .int .u64 t211] 25 (0, 0)) kA hb); have n4_ := Aside0.mk (blk_below (g := gb217) (o := .cells #[.int .u64 t214, .int .u64 t215] 25 (0, 0)) kA hb); have n5_ := Aside0.mk (blk_below (g := gb225) (o := .cells #[.int .u64 t222, .int .u64 t223] 28 (0, 0)) kA hb); have n6_ := Aside0.mk (below_step bA hb); have n7_ := Aside0.mk (hbox); have n8_ := Aside0.mk ((by rw [hg]; exact (below_size bA) : w.heap.size ≤ gb233)); have n9_ := Aside0.mk ((by rw [hg]; exact (below_size bA) : w.heap.size ≤ gb233)); have n10_ := Aside0.mk ((by rw [hg]; exact Nat.ne_of_lt (blk_lt (g := gb203) (o := .cells #[.int .u64 a0_0, .int .u64 a0_1] 25 (0, 0)) kA) : gb203 ≠ gb233)); have n11_ := Aside0.mk ((by rw [hg]; exact Nat.ne_of_gt (blk_lt (g := gb203) (o := .cells #[.int .u64 a0_0, .int .u64 a0_1] 25 (0, 0)) kA) : gb233 ≠ gb203)); have n12_ := Aside0.mk ((by rw [hg]; exact Nat.ne_of_lt (blk_lt (g := gb204) (o := .cells #[.int .u64 a1_0, .int .u64 a1_1] 25 (0, 0)) kA) : gb204 ≠ gb233)); have n13_ := Aside0.mk ((by rw [hg]; exact Nat.ne_of_gt (blk_lt (g := gb204) (o := .cells #[.int .u64 a1_0, .int .u64 a1_1] 25 (0, 0)) kA) : gb233 ≠ gb204)); have n14_ := Aside0.mk ((by rw [hg]; exact Nat.ne_of_lt (blk_lt (g := gb209) (o := .cells #[.int .u64 t206, .int .u64 t207] 25 (0, 0)) kA) : gb209 ≠ gb233)); have n15_ := Aside0.mk ((by rw [hg]; exact Nat.ne_of_gt (blk_lt (g := gb209) (o := .cells #[.int .u64 t206, .int .u64 t207] 25 (0, 0)) kA) : gb233 ≠ gb209)); have n16_ := Aside0.mk ((by rw [hg]; exact Nat.ne_of_lt (blk_lt (g := gb213) (o := .cells #[.int .u64 t210, .int .u64 t211] 25 (0, 0)) kA) : gb213 ≠ gb233)); have n17_ := Aside0.mk ((by rw [hg]; exact Nat.ne_of_gt (blk_lt (g := gb213) (o := .cells #[.int .u64 t210, .int .u64 t211] 25 (0, 0)) kA) : gb233 ≠ gb213)); have n18_ := Aside0.mk ((by rw [hg]; exact Nat.ne_of_lt (blk_lt (g := gb217) (o := .cells #[.int .u64 t214, .int .u64 t215] 25 (0, 0)) kA) : gb217 ≠ gb233)); have n19_ := Aside0.mk ((by rw [hg]; exact Nat.ne_of_gt (blk_lt (g := gb217) (o := .cells #[.int .u64 t214, .int .u64 t215] 25 (0, 0)) kA) : gb233 ≠ gb217)); have n20_ := Aside0.mk ((by rw [hg]; exact Nat.ne_of_lt (blk_lt (g := gb225) (o := .cells #[.int .u64 t222, .int .u64 t223] 28 (0, 0)) kA) : gb225 ≠ gb233)); have n21_ := Aside0.mk ((by rw [hg]; exact Nat.ne_of_gt (blk_lt (g := gb225) (o := .cells #[.int .u64 t222, .int .u64 t223] 28 (0, 0)) kA) : gb233 ≠ gb225)); clear BK203 BK204 BK209 BK213 BK217 BK225 HB; have BK203 := n0_; have BK204 := n1_; have BK209 := n2_; have BK213 := n3_; have BK217 := n4_; have BK225 := n5_; have HB := n6_; have BK233 := n7_; have GW233 := n8_; have GE233 := n9_; have NB203_233 := n10_; have NB233_203 := n11_; have NB204_233 := n12_; have NB233_204 := n13_; have NB209_233 := n14_; have NB233_209 := n15_; have NB213_233 := n16_; have NB233_213 := n17_; have NB217_233 := n18_; have NB233_217 := n19_; have NB225_233 := n20_; have NB233_225 := n21_; clear n0_ n1_ n2_ n3_ n4_ n5_ n6_ n7_ n8_ n9_ n10_ n11_ n12_ n13_ n14_ n15_ n16_ n17_ n18_ n19_ n20_ n21_ hb hbox hg
              refine hK.out _ _ ⟨(blk_cell BK203.out 0).trans rfl, (blk_cell BK203.out 1).trans rfl, (blk_cell BK204.out 0).trans rfl, (blk_cell BK204.out 1).trans rfl⟩ (fun hHeld => ?_)
              clear hK K
              refine norm_ (a' := ?_) ?_ ?_
              rotate_left
              ·show Act.put _ (some 14) _ = _
               simp only [Act.put, List.setIfInBounds_toArray, List.set_cons_zero, List.set_cons_succ, i64_w, i32_w]
               rfl
              exact norm_ (by simp only [putAll, Act.put, List.setIfInBounds_toArray, List.set_cons_zero, List.set_cons_succ]) (hCont (gb233) _ ⟨hHeld, kA, kA, kA, kA, kA, kA, kA, GW233.out, GE233.out, NB203_233.out, NB233_203.out, NB204_233.out, NB233_204.out, NB209_233.out, NB233_209.out, NB213_233.out, NB233_213.out, NB217_233.out, NB233_217.out, NB225_233.out, NB233_225.out, bA⟩)
             ·skip
              refine box_step ?hg (N := 14) ?hd (cs := #[.int .u64 0, .int .u64 0]) (t := 28) ?hr ?_; (case hd => rfl); (case hg => rfl); (case hr => first | (go_simp; done) | (go_simp; rfl))
              intro gb233 hg w76 hbox hb
              have n0_ := Aside0.mk (blk_below (g := gb203) (o := .cells #[.int .u64 a0_0, .int .u64 a0_1] 25 (0, 0)) kA hb); have n1_ := Aside0.mk (blk_below (g := gb204) (o := .cells #[.int .u64 a1_0, .int .u64 a1_1] 25 (0, 0)) kA hb); have n2_ := Aside0.mk (blk_below (g := gb209) (o := .cells #[.int .u64 t206, .int .u64 t207] 25 (0, 0)) kA hb); have n3_ := Aside0.mk (blk_below (g := gb213) (o := .cells #[.int .u64 t210, .int .u64 t211] 25 (0, 0)) kA hb); have n4_ := Aside0.mk (blk_below (g := gb217) (o := .cells #[.int .u64 t214, .int .u64 t215] 25 (0, 0)) kA hb); have n5_ := Aside0.mk (blk_below (g := gb225) (o := .cells #[.int .u64 t222, .int .u64 t223] 28 (0, 0)) kA hb); have n6_ := Aside0.mk (below_step bA hb); have n7_ := Aside0.mk (hbox); have n8_ := Aside0.mk ((by rw [hg]; exact (below_size bA) : w.heap.size ≤ gb233)); have n9_ := Aside0.mk ((by rw [hg]; exact (below_size bA) : w.heap.size ≤ gb233)); have n10_ := Aside0.mk ((by rw [hg]; exact Nat.ne_of_lt (blk_lt (g := gb203) (o := .cells #[.int .u64 a0_0, .int .u64 a0_1] 25 (0, 0)) kA) : gb203 ≠ gb233)); have n11_ := Aside0.mk ((by rw [hg]; exact Nat.ne_of_gt (blk_lt (g := gb203) (o := .cells #[.int .u64 a0_0, .int .u64 a0_1] 25 (0, 0)) kA) : gb233 ≠ gb203)); have n12_ := Aside0.mk ((by rw [hg]; exact Nat.ne_of_lt (blk_lt (g := gb204) (o := .cells #[.int .u64 a1_0, .int .u64 a1_1] 25 (0, 0)) kA) : gb204 ≠ gb233)); have n13_ := Aside0.mk ((by rw [hg]; exact Nat.ne_of_gt (blk_lt (g := gb204) (o := .cells #[.int .u64 a1_0, .int .u64 a1_1] 25 (0, 0)) kA) : gb233 ≠ gb204)); have n14_ := Aside0.mk ((by rw [hg]; exact Nat.ne_of_lt (blk_lt (g := gb209) (o := .cells #[.int .u64 t206, .int .u64 t207] 25 (0, 0)) kA) : gb209 ≠ gb233)); have n15_ := Aside0.mk ((by rw [hg]; exact Nat.ne_of_gt (blk_lt (g := gb209) (o := .cells #[.int .u64 t206, .int .u64 t207] 25 (0, 0)) kA) : gb233 ≠ gb209)); have n16_ := Aside0.mk ((by rw [hg]; exact Nat.ne_of_lt (blk_lt (g := gb213) (o := .cells #[.int .u64 t210, .int .u64 t211] 25 (0, 0)) kA) : gb213 ≠ gb233)); have n17_ := Aside0.mk ((by rw [hg]; exact Nat.ne_of_gt (blk_lt (g := gb213) (o := .cells #[.int .u64 t210, .int .u64 t211] 25 (0, 0)) kA) : gb233 ≠ gb213)); have n18_ := Aside0.mk ((by rw [hg]; exact Nat.ne_of_lt (blk_lt (g := gb217) (o := .cells #[.int .u64 t214, .int .u64 t215] 25 (0, 0)) kA) : gb217 ≠ gb233)); have n19_ := Aside0.mk ((by rw [hg]; exact Nat.ne_of_gt (blk_lt (g := gb217) (o := .cells #[.int .u64 t214, .int .u64 t215] 25 (0, 0)) kA) : gb233 ≠ gb217)); have n20_ := Aside0.mk ((by rw [hg]; exact Nat.ne_of_lt (blk_lt (g := gb225) (o := .cells #[.int .u64 t222, .int .u64 t223] 28 (0, 0)) kA) : gb225 ≠ gb233)); have n21_ := Aside0.mk ((by rw [hg]; exact Nat.ne_of_gt (blk_lt (g := gb225) (o := .cells #[.int .u64 t222, .int .u64 t223] 28 (0, 0)) kA) : gb233 ≠ gb225)); clear BK203 BK204 BK209 BK213 BK217 BK225 HB; have BK203 := n0_; have BK204 := n1_; have BK209 := n2_; have BK213 := n3_; have BK217 := n4_; have BK225 := n5_; have HB := n6_; have BK233 := n7_; have GW233 := n8_; have GE233 := n9_; have NB203_233 := n10_; have NB233_203 := n11_; have NB204_233 := n12_; have NB233_204 := n13_; have NB209_233 := n14_; have NB233_209 := n15_; have NB213_233 := n16_; have NB233_213 := n17_; have NB217_233 := n18_; have NB233_217 := n19_; have NB225_233 := n20_; have NB233_225 := n21_; clear n0_ n1_ n2_ n3_ n4_ n5_ n6_ n7_ n8_ n9_ n10_ n11_ n12_ n13_ n14_ n15_ n16_ n17_ n18_ n19_ n20_ n21_ hb hbox hg
              refine hK.out _ _ ⟨(blk_cell BK203.out 0).trans rfl, (blk_cell BK203.out 1).trans rfl, (blk_cell BK204.out 0).trans rfl, (blk_cell BK204.out 1).trans rfl⟩ (fun hHeld => ?_)
              clear hK K
              refine norm_ (a' := ?_) ?_ ?_
              rotate_left
              ·show Act.put _ (some 14) _ = _
               simp only [Act.put, List.setIfInBounds_toArray, List.set_cons_zero, List.set_cons_succ, i64_w, i32_w]
               rfl
              refine one_ (i := 4) (N := some 51) #[true, true, true, true, true, false, false, false, true, false, false] rfl rfl (one_of HT_.out (by kernel_rfl)) (by decide) (fun K hK => ?_)
              refine goes_ Try.func44 (by kernel_rfl) rfl #[.agg #[.int .u64 t226, .int .u64 t227], .agg #[.int .u64 t228, .int .u64 t229]] (by rfl) rfl rfl aA ?_
              with_reducible refine (backfillref01_Sub.calls k t226 t227 t228 t229 t230 t231 t232 _ A12.out).mono ?_
              rintro e w77 ⟨rfl, hb⟩
              refine ⟨_, rfl, ?_⟩; have n0_ := Aside0.mk (blk_below (g := gb203) (o := .cells #[.int .u64 a0_0, .int .u64 a0_1] 25 (0, 0)) kA hb); have n1_ := Aside0.mk (blk_below (g := gb204) (o := .cells #[.int .u64 a1_0, .int .u64 a1_1] 25 (0, 0)) kA hb); have n2_ := Aside0.mk (blk_below (g := gb209) (o := .cells #[.int .u64 t206, .int .u64 t207] 25 (0, 0)) kA hb); have n3_ := Aside0.mk (blk_below (g := gb213) (o := .cells #[.int .u64 t210, .int .u64 t211] 25 (0, 0)) kA hb); have n4_ := Aside0.mk (blk_below (g := gb217) (o := .cells #[.int .u64 t214, .int .u64 t215] 25 (0, 0)) kA hb); have n5_ := Aside0.mk (blk_below (g := gb225) (o := .cells #[.int .u64 t222, .int .u64 t223] 28 (0, 0)) kA hb); have n6_ := Aside0.mk (blk_below (g := gb233) (o := .cells #[.int .u64 0, .int .u64 0] 28 (0, 0)) kA hb); have n7_ := Aside0.mk (below_step bA hb); clear BK203 BK204 BK209 BK213 BK217 BK225 BK233 HB; have BK203 := n0_; have BK204 := n1_; have BK209 := n2_; have BK213 := n3_; have BK217 := n4_; have BK225 := n5_; have BK233 := n6_; have HB := n7_; clear n0_ n1_ n2_ n3_ n4_ n5_ n6_ n7_; (try clear hb)
              refine hK.out _ _ ⟨(blk_cell BK203.out 0).trans rfl, (blk_cell BK203.out 1).trans rfl, (blk_cell BK204.out 0).trans rfl, (blk_cell BK204.out 1).trans rfl⟩ (fun hHeld => ?_)
              clear hK K
              refine norm_ (a' := ?_) ?_ ?_
              rotate_left
              ·show Act.put _ (some 51) _ = _
               simp only [Act.put, List.setIfInBounds_toArray, List.set_cons_zero, List.set_cons_succ, i64_w, i32_w]
               rfl
              refine pure_ (i := 5) (N := some 46) (v := ?_) (a' := ?_) #[true, true, true, true, true, true, false, false, true, false, false] rfl rfl (any_of HT_.out (by kernel_rfl)) (fun _ _ _ h => h) (Or.inl ⟨by rfl, ?_⟩) ?_ ?_
              rotate_left
              ·intro w'
               go_simp; with_reducible rfl
              rotate_left
              ·simp only [Act.put, List.setIfInBounds_toArray, List.set_cons_zero, List.set_cons_succ, i64_w, i32_w]
               rfl
              refine pure_ (i := 6) (N := some 52) (v := ?_) (a' := ?_) #[true, true, true, true, true, true, true, false, true, false, false] rfl rfl (any_of HT_.out (by kernel_rfl)) (fun _ _ _ h => h) (Or.inl ⟨by rfl, ?_⟩) ?_ ?_
              rotate_left
              ·intro w'
               go_simp; with_reducible rfl
              rotate_left
              ·simp only [Act.put, List.setIfInBounds_toArray, List.set_cons_zero, List.set_cons_succ, i64_w, i32_w]
               rfl
              refine pure_ (i := 7) (N := some 53) (v := ?_) (a' := ?_) #[true, true, true, true, true, true, true, true, true, false, false] rfl rfl (any_of HT_.out (by kernel_rfl)) (fun _ _ _ h => h) (Or.inl ⟨by rfl, ?_⟩) ?_ ?_
              rotate_left
              ·intro w'
               go_simp; with_reducible rfl
              rotate_left
              ·simp only [Act.put, List.setIfInBounds_toArray, List.set_cons_zero, List.set_cons_succ, i64_w, i32_w]
               rfl
              exact norm_ (by simp only [putAll, Act.put, List.setIfInBounds_toArray, List.set_cons_zero, List.set_cons_succ]) (hCont (gb233) _ ⟨hHeld, kA, kA, kA, kA, kA, kA, kA, GW233.out, GE233.out, NB203_233.out, NB233_203.out, NB204_233.out, NB233_204.out, NB209_233.out, NB233_209.out, NB213_233.out, NB233_213.out, NB217_233.out, NB233_217.out, NB225_233.out, NB233_225.out, bA⟩)
            ·skip
             refine box_step ?hg (N := 14) ?hd (cs := #[.int .u64 0, .int .u64 0]) (t := 28) ?hr ?_; (case hd => rfl); (case hg => rfl); (case hr => first | (go_simp; done) | (go_simp; rfl))
             intro gb233 hg w75 hbox hb
             have n0_ := Aside0.mk (blk_below (g := gb203) (o := .cells #[.int .u64 a0_0, .int .u64 a0_1] 25 (0, 0)) kA hb); have n1_ := Aside0.mk (blk_below (g := gb204) (o := .cells #[.int .u64 a1_0, .int .u64 a1_1] 25 (0, 0)) kA hb); have n2_ := Aside0.mk (blk_below (g := gb209) (o := .cells #[.int .u64 t206, .int .u64 t207] 25 (0, 0)) kA hb); have n3_ := Aside0.mk (blk_below (g := gb213) (o := .cells #[.int .u64 t210, .int .u64 t211] 25 (0, 0)) kA hb); have n4_ := Aside0.mk (blk_below (g := gb217) (o := .cells #[.int .u64 t214, .int .u64 t215] 25 (0, 0)) kA hb); have n5_ := Aside0.mk (blk_below (g := gb225) (o := .cells #[.int .u64 t222, .int .u64 t223] 28 (0, 0)) kA hb); have n6_ := Aside0.mk (below_step bA hb); have n7_ := Aside0.mk (hbox); have n8_ := Aside0.mk ((by rw [hg]; exact (below_size bA) : w.heap.size ≤ gb233)); have n9_ := Aside0.mk ((by rw [hg]; exact (below_size bA) : w.heap.size ≤ gb233)); have n10_ := Aside0.mk ((by rw [hg]; exact Nat.ne_of_lt (blk_lt (g := gb203) (o := .cells #[.int .u64 a0_0, .int .u64 a0_1] 25 (0, 0)) kA) : gb203 ≠ gb233)); have n11_ := Aside0.mk ((by rw [hg]; exact Nat.ne_of_gt (blk_lt (g := gb203) (o := .cells #[.int .u64 a0_0, .int .u64 a0_1] 25 (0, 0)) kA) : gb233 ≠ gb203)); have n12_ := Aside0.mk ((by rw [hg]; exact Nat.ne_of_lt (blk_lt (g := gb204) (o := .cells #[.int .u64 a1_0, .int .u64 a1_1] 25 (0, 0)) kA) : gb204 ≠ gb233)); have n13_ := Aside0.mk ((by rw [hg]; exact Nat.ne_of_gt (blk_lt (g := gb204) (o := .cells #[.int .u64 a1_0, .int .u64 a1_1] 25 (0, 0)) kA) : gb233 ≠ gb204)); have n14_ := Aside0.mk ((by rw [hg]; exact Nat.ne_of_lt (blk_lt (g := gb209) (o := .cells #[.int .u64 t206, .int .u64 t207] 25 (0, 0)) kA) : gb209 ≠ gb233)); have n15_ := Aside0.mk ((by rw [hg]; exact Nat.ne_of_gt (blk_lt (g := gb209) (o := .cells #[.int .u64 t206, .int .u64 t207] 25 (0, 0)) kA) : gb233 ≠ gb209)); have n16_ := Aside0.mk ((by rw [hg]; exact Nat.ne_of_lt (blk_lt (g := gb213) (o := .cells #[.int .u64 t210, .int .u64 t211] 25 (0, 0)) kA) : gb213 ≠ gb233)); have n17_ := Aside0.mk ((by rw [hg]; exact Nat.ne_of_gt (blk_lt (g := gb213) (o := .cells #[.int .u64 t210, .int .u64 t211] 25 (0, 0)) kA) : gb233 ≠ gb213)); have n18_ := Aside0.mk ((by rw [hg]; exact Nat.ne_of_lt (blk_lt (g := gb217) (o := .cells #[.int .u64 t214, .int .u64 t215] 25 (0, 0)) kA) : gb217 ≠ gb233)); have n19_ := Aside0.mk ((by rw [hg]; exact Nat.ne_of_gt (blk_lt (g := gb217) (o := .cells #[.int .u64 t214, .int .u64 t215] 25 (0, 0)) kA) : gb233 ≠ gb217)); have n20_ := Aside0.mk ((by rw [hg]; exact Nat.ne_of_lt (blk_lt (g := gb225) (o := .cells #[.int .u64 t222, .int .u64 t223] 28 (0, 0)) kA) : gb225 ≠ gb233)); have n21_ := Aside0.mk ((by rw [hg]; exact Nat.ne_of_gt (blk_lt (g := gb225) (o := .cells #[.int .u64 t222, .int .u64 t223] 28 (0, 0)) kA) : gb233 ≠ gb225)); clear BK203 BK204 BK209 BK213 BK217 BK225 HB; have BK203 := n0_; have BK204 := n1_; have BK209 := n2_; have BK213 := n3_; have BK217 := n4_; have BK225 := n5_; have HB := n6_; have BK233 := n7_; have GW233 := n8_; have GE233 := n9_; have NB203_233 := n10_; have NB233_203 := n11_; have NB204_233 := n12_; have NB233_204 := n13_; have NB209_233 := n14_; have NB233_209 := n15_; have NB213_233 := n16_; have NB233_213 := n17_; have NB217_233 := n18_; have NB233_217 := n19_; have NB225_233 := n20_; have NB233_225 := n21_; clear n0_ n1_ n2_ n3_ n4_ n5_ n6_ n7_ n8_ n9_ n10_ n11_ n12_ n13_ n14_ n15_ n16_ n17_ n18_ n19_ n20_ n21_ hb hbox hg
             refine hK.out _ _ ⟨(blk_cell BK203.out 0).trans rfl, (blk_cell BK203.out 1).trans rfl, (blk_cell BK204.out 0).trans rfl, (blk_cell BK204.out 1).trans rfl⟩ (fun hHeld => ?_)
             clear hK K
             refine norm_ (a' := ?_) ?_ ?_
             rotate_left
             ·show Act.put _ (some 14) _ = _
              simp only [Act.put, List.setIfInBounds_toArray, List.set_cons_zero, List.set_cons_succ, i64_w, i32_w]
              rfl
             refine one_ (i := 3) (N := some 50) #[true, true, true, true, false, false, false, false, true, false, false] rfl rfl (one_of HT_.out (by kernel_rfl)) (by decide) (fun K hK => ?_)
             refine goes_ Try.func16 (by kernel_rfl) rfl #[.agg #[.int .u64 a1_0, .int .u64 a1_1]] (by rfl) rfl rfl aA ?_
             with_reducible refine (backfilllaw01_ref.calls a1_0 a1_1 t228 t229 _ A11.out).mono ?_
             rintro e w76 ⟨rfl, hb⟩
             refine ⟨_, rfl, ?_⟩; have n0_ := Aside0.mk (blk_below (g := gb203) (o := .cells #[.int .u64 a0_0, .int .u64 a0_1] 25 (0, 0)) kA hb); have n1_ := Aside0.mk (blk_below (g := gb204) (o := .cells #[.int .u64 a1_0, .int .u64 a1_1] 25 (0, 0)) kA hb); have n2_ := Aside0.mk (blk_below (g := gb209) (o := .cells #[.int .u64 t206, .int .u64 t207] 25 (0, 0)) kA hb); have n3_ := Aside0.mk (blk_below (g := gb213) (o := .cells #[.int .u64 t210, .int .u64 t211] 25 (0, 0)) kA hb); have n4_ := Aside0.mk (blk_below (g := gb217) (o := .cells #[.int .u64 t214, .int .u64 t215] 25 (0, 0)) kA hb); have n5_ := Aside0.mk (blk_below (g := gb225) (o := .cells #[.int .u64 t222, .int .u64 t223] 28 (0, 0)) kA hb); have n6_ := Aside0.mk (blk_below (g := gb233) (o := .cells #[.int .u64 0, .int .u64 0] 28 (0, 0)) kA hb); have n7_ := Aside0.mk (below_step bA hb); clear BK203 BK204 BK209 BK213 BK217 BK225 BK233 HB; have BK203 := n0_; have BK204 := n1_; have BK209 := n2_; have BK213 := n3_; have BK217 := n4_; have BK225 := n5_; have BK233 := n6_; have HB := n7_; clear n0_ n1_ n2_ n3_ n4_ n5_ n6_ n7_; (try clear hb)
             refine hK.out _ _ ⟨(blk_cell BK203.out 0).trans rfl, (blk_cell BK203.out 1).trans rfl, (blk_cell BK204.out 0).trans rfl, (blk_cell BK204.out 1).trans rfl⟩ (fun hHeld => ?_)
             clear hK K
             refine norm_ (a' := ?_) ?_ ?_
             rotate_left
             ·show Act.put _ (some 50) _ = _
              simp only [Act.put, List.setIfInBounds_toArray, List.set_cons_zero, List.set_cons_succ, i64_w, i32_w]
              rfl
             refine one_ (i := 4) (N := some 51) #[true, true, true, true, true, false, false, false, true, false, false] rfl rfl (one_of HT_.out (by kernel_rfl)) (by decide) (fun K hK => ?_)
             refine goes_ Try.func44 (by kernel_rfl) rfl #[.agg #[.int .u64 t226, .int .u64 t227], .agg #[.int .u64 t228, .int .u64 t229]] (by rfl) rfl rfl aA ?_
             with_reducible refine (backfillref01_Sub.calls k t226 t227 t228 t229 t230 t231 t232 _ A12.out).mono ?_
             rintro e w77 ⟨rfl, hb⟩
             refine ⟨_, rfl, ?_⟩; have n0_ := Aside0.mk (blk_below (g := gb203) (o := .cells #[.int .u64 a0_0, .int .u64 a0_1] 25 (0, 0)) kA hb); have n1_ := Aside0.mk (blk_below (g := gb204) (o := .cells #[.int .u64 a1_0, .int .u64 a1_1] 25 (0, 0)) kA hb); have n2_ := Aside0.mk (blk_below (g := gb209) (o := .cells #[.int .u64 t206, .int .u64 t207] 25 (0, 0)) kA hb); have n3_ := Aside0.mk (blk_below (g := gb213) (o := .cells #[.int .u64 t210, .int .u64 t211] 25 (0, 0)) kA hb); have n4_ := Aside0.mk (blk_below (g := gb217) (o := .cells #[.int .u64 t214, .int .u64 t215] 25 (0, 0)) kA hb); have n5_ := Aside0.mk (blk_below (g := gb225) (o := .cells #[.int .u64 t222, .int .u64 t223] 28 (0, 0)) kA hb); have n6_ := Aside0.mk (blk_below (g := gb233) (o := .cells #[.int .u64 0, .int .u64 0] 28 (0, 0)) kA hb); have n7_ := Aside0.mk (below_step bA hb); clear BK203 BK204 BK209 BK213 BK217 BK225 BK233 HB; have BK203 := n0_; have BK204 := n1_; have BK209 := n2_; have BK213 := n3_; have BK217 := n4_; have BK225 := n5_; have BK233 := n6_; have HB := n7_; clear n0_ n1_ n2_ n3_ n4_ n5_ n6_ n7_; (try clear hb)
             refine hK.out _ _ ⟨(blk_cell BK203.out 0).trans rfl, (blk_cell BK203.out 1).trans rfl, (blk_cell BK204.out 0).trans rfl, (blk_cell BK204.out 1).trans rfl⟩ (fun hHeld => ?_)
             clear hK K
             refine norm_ (a' := ?_) ?_ ?_
             rotate_left
             ·show Act.put _ (some 51) _ = _
              simp only [Act.put, List.setIfInBounds_toArray, List.set_cons_zero, List.set_cons_succ, i64_w, i32_w]
              rfl
             refine pure_ (i := 5) (N := some 46) (v := ?_) (a' := ?_) #[true, true, true, true, true, true, false, false, true, false, false] rfl rfl (any_of HT_.out (by kernel_rfl)) (fun _ _ _ h => h) (Or.inl ⟨by rfl, ?_⟩) ?_ ?_
             rotate_left
             ·intro w'
              go_simp; with_reducible rfl
             rotate_left
             ·simp only [Act.put, List.setIfInBounds_toArray, List.set_cons_zero, List.set_cons_succ, i64_w, i32_w]
              rfl
             refine pure_ (i := 6) (N := some 52) (v := ?_) (a' := ?_) #[true, true, true, true, true, true, true, false, true, false, false] rfl rfl (any_of HT_.out (by kernel_rfl)) (fun _ _ _ h => h) (Or.inl ⟨by rfl, ?_⟩) ?_ ?_
             rotate_left
             ·intro w'
              go_simp; with_reducible rfl
             rotate_left
             ·simp only [Act.put, List.setIfInBounds_toArray, List.set_cons_zero, List.set_cons_succ, i64_w, i32_w]
              rfl
             refine pure_ (i := 7) (N := some 53) (v := ?_) (a' := ?_) #[true, true, true, true, true, true, true, true, true, false, false] rfl rfl (any_of HT_.out (by kernel_rfl)) (fun _ _ _ h => h) (Or.inl ⟨by rfl, ?_⟩) ?_ ?_
             rotate_left
             ·intro w'
              go_simp; with_reducible rfl
             rotate_left
             ·simp only [Act.put, List.setIfInBounds_toArray, List.set_cons_zero, List.set_cons_succ, i64_w, i32_w]
              rfl
             exact norm_ (by simp only [putAll, Act.put, List.setIfInBounds_toArray, List.set_cons_zero, List.set_cons_succ]) (hCont (gb233) _ ⟨hHeld, kA, kA, kA, kA, kA, kA, kA, GW233.out, GE233.out, NB203_233.out, NB233_203.out, NB204_233.out, NB233_204.out, NB209_233.out, NB233_209.out, NB213_233.out, NB233_213.out, NB217_233.out, NB233_217.out, NB225_233.out, NB233_225.out, bA⟩)
           ·skip
            refine box_step ?hg (N := 14) ?hd (cs := #[.int .u64 0, .int .u64 0]) (t := 28) ?hr ?_; (case hd => rfl); (case hg => rfl); (case hr => first | (go_simp; done) | (go_simp; rfl))
            intro gb233 hg w74 hbox hb
            have n0_ := Aside0.mk (blk_below (g := gb203) (o := .cells #[.int .u64 a0_0, .int .u64 a0_1] 25 (0, 0)) kA hb); have n1_ := Aside0.mk (blk_below (g := gb204) (o := .cells #[.int .u64 a1_0, .int .u64 a1_1] 25 (0, 0)) kA hb); have n2_ := Aside0.mk (blk_below (g := gb209) (o := .cells #[.int .u64 t206, .int .u64 t207] 25 (0, 0)) kA hb); have n3_ := Aside0.mk (blk_below (g := gb213) (o := .cells #[.int .u64 t210, .int .u64 t211] 25 (0, 0)) kA hb); have n4_ := Aside0.mk (blk_below (g := gb217) (o := .cells #[.int .u64 t214, .int .u64 t215] 25 (0, 0)) kA hb); have n5_ := Aside0.mk (blk_below (g := gb225) (o := .cells #[.int .u64 t222, .int .u64 t223] 28 (0, 0)) kA hb); have n6_ := Aside0.mk (below_step bA hb); have n7_ := Aside0.mk (hbox); have n8_ := Aside0.mk ((by rw [hg]; exact (below_size bA) : w.heap.size ≤ gb233)); have n9_ := Aside0.mk ((by rw [hg]; exact (below_size bA) : w.heap.size ≤ gb233)); have n10_ := Aside0.mk ((by rw [hg]; exact Nat.ne_of_lt (blk_lt (g := gb203) (o := .cells #[.int .u64 a0_0, .int .u64 a0_1] 25 (0, 0)) kA) : gb203 ≠ gb233)); have n11_ := Aside0.mk ((by rw [hg]; exact Nat.ne_of_gt (blk_lt (g := gb203) (o := .cells #[.int .u64 a0_0, .int .u64 a0_1] 25 (0, 0)) kA) : gb233 ≠ gb203)); have n12_ := Aside0.mk ((by rw [hg]; exact Nat.ne_of_lt (blk_lt (g := gb204) (o := .cells #[.int .u64 a1_0, .int .u64 a1_1] 25 (0, 0)) kA) : gb204 ≠ gb233)); have n13_ := Aside0.mk ((by rw [hg]; exact Nat.ne_of_gt (blk_lt (g := gb204) (o := .cells #[.int .u64 a1_0, .int .u64 a1_1] 25 (0, 0)) kA) : gb233 ≠ gb204)); have n14_ := Aside0.mk ((by rw [hg]; exact Nat.ne_of_lt (blk_lt (g := gb209) (o := .cells #[.int .u64 t206, .int .u64 t207] 25 (0, 0)) kA) : gb209 ≠ gb233)); have n15_ := Aside0.mk ((by rw [hg]; exact Nat.ne_of_gt (blk_lt (g := gb209) (o := .cells #[.int .u64 t206, .int .u64 t207] 25 (0, 0)) kA) : gb233 ≠ gb209)); have n16_ := Aside0.mk ((by rw [hg]; exact Nat.ne_of_lt (blk_lt (g := gb213) (o := .cells #[.int .u64 t210, .int .u64 t211] 25 (0, 0)) kA) : gb213 ≠ gb233)); have n17_ := Aside0.mk ((by rw [hg]; exact Nat.ne_of_gt (blk_lt (g := gb213) (o := .cells #[.int .u64 t210, .int .u64 t211] 25 (0, 0)) kA) : gb233 ≠ gb213)); have n18_ := Aside0.mk ((by rw [hg]; exact Nat.ne_of_lt (blk_lt (g := gb217) (o := .cells #[.int .u64 t214, .int .u64 t215] 25 (0, 0)) kA) : gb217 ≠ gb233)); have n19_ := Aside0.mk ((by rw [hg]; exact Nat.ne_of_gt (blk_lt (g := gb217) (o := .cells #[.int .u64 t214, .int .u64 t215] 25 (0, 0)) kA) : gb233 ≠ gb217)); have n20_ := Aside0.mk ((by rw [hg]; exact Nat.ne_of_lt (blk_lt (g := gb225) (o := .cells #[.int .u64 t222, .int .u64 t223] 28 (0, 0)) kA) : gb225 ≠ gb233)); have n21_ := Aside0.mk ((by rw [hg]; exact Nat.ne_of_gt (blk_lt (g := gb225) (o := .cells #[.int .u64 t222, .int .u64 t223] 28 (0, 0)) kA) : gb233 ≠ gb225)); clear BK203 BK204 BK209 BK213 BK217 BK225 HB; have BK203 := n0_; have BK204 := n1_; have BK209 := n2_; have BK213 := n3_; have BK217 := n4_; have BK225 := n5_; have HB := n6_; have BK233 := n7_; have GW233 := n8_; have GE233 := n9_; have NB203_233 := n10_; have NB233_203 := n11_; have NB204_233 := n12_; have NB233_204 := n13_; have NB209_233 := n14_; have NB233_209 := n15_; have NB213_233 := n16_; have NB233_213 := n17_; have NB217_233 := n18_; have NB233_217 := n19_; have NB225_233 := n20_; have NB233_225 := n21_; clear n0_ n1_ n2_ n3_ n4_ n5_ n6_ n7_ n8_ n9_ n10_ n11_ n12_ n13_ n14_ n15_ n16_ n17_ n18_ n19_ n20_ n21_ hb hbox hg
            refine hK.out _ _ ⟨(blk_cell BK203.out 0).trans rfl, (blk_cell BK203.out 1).trans rfl, (blk_cell BK204.out 0).trans rfl, (blk_cell BK204.out 1).trans rfl⟩ (fun hHeld => ?_)
            clear hK K
            refine norm_ (a' := ?_) ?_ ?_
            rotate_left
            ·show Act.put _ (some 14) _ = _
             simp only [Act.put, List.setIfInBounds_toArray, List.set_cons_zero, List.set_cons_succ, i64_w, i32_w]
             rfl
            refine one_ (i := 1) (N := some 48) #[true, true, true, false, false, false, false, false, true, false, false] rfl rfl (one_of HT_.out (by kernel_rfl)) (by decide) (fun K hK => ?_)
            refine goes_ Try.func16 (by kernel_rfl) rfl #[.agg #[.int .u64 a0_0, .int .u64 a0_1]] (by rfl) rfl rfl aA ?_
            with_reducible refine (backfilllaw01_ref.calls a0_0 a0_1 t226 t227 _ A10.out).mono ?_
            rintro e w75 ⟨rfl, hb⟩
            refine ⟨_, rfl, ?_⟩; have n0_ := Aside0.mk (blk_below (g := gb203) (o := .cells #[.int .u64 a0_0, .int .u64 a0_1] 25 (0, 0)) kA hb); have n1_ := Aside0.mk (blk_below (g := gb204) (o := .cells #[.int .u64 a1_0, .int .u64 a1_1] 25 (0, 0)) kA hb); have n2_ := Aside0.mk (blk_below (g := gb209) (o := .cells #[.int .u64 t206, .int .u64 t207] 25 (0, 0)) kA hb); have n3_ := Aside0.mk (blk_below (g := gb213) (o := .cells #[.int .u64 t210, .int .u64 t211] 25 (0, 0)) kA hb); have n4_ := Aside0.mk (blk_below (g := gb217) (o := .cells #[.int .u64 t214, .int .u64 t215] 25 (0, 0)) kA hb); have n5_ := Aside0.mk (blk_below (g := gb225) (o := .cells #[.int .u64 t222, .int .u64 t223] 28 (0, 0)) kA hb); have n6_ := Aside0.mk (blk_below (g := gb233) (o := .cells #[.int .u64 0, .int .u64 0] 28 (0, 0)) kA hb); have n7_ := Aside0.mk (below_step bA hb); clear BK203 BK204 BK209 BK213 BK217 BK225 BK233 HB; have BK203 := n0_; have BK204 := n1_; have BK209 := n2_; have BK213 := n3_; have BK217 := n4_; have BK225 := n5_; have BK233 := n6_; have HB := n7_; clear n0_ n1_ n2_ n3_ n4_ n5_ n6_ n7_; (try clear hb)
            refine hK.out _ _ ⟨(blk_cell BK203.out 0).trans rfl, (blk_cell BK203.out 1).trans rfl, (blk_cell BK204.out 0).trans rfl, (blk_cell BK204.out 1).trans rfl⟩ (fun hHeld => ?_)
            clear hK K
            refine norm_ (a' := ?_) ?_ ?_
            rotate_left
            ·show Act.put _ (some 48) _ = _
             simp only [Act.put, List.setIfInBounds_toArray, List.set_cons_zero, List.set_cons_succ, i64_w, i32_w]
             rfl
            refine one_ (i := 3) (N := some 50) #[true, true, true, true, false, false, false, false, true, false, false] rfl rfl (one_of HT_.out (by kernel_rfl)) (by decide) (fun K hK => ?_)
            refine goes_ Try.func16 (by kernel_rfl) rfl #[.agg #[.int .u64 a1_0, .int .u64 a1_1]] (by rfl) rfl rfl aA ?_
            with_reducible refine (backfilllaw01_ref.calls a1_0 a1_1 t228 t229 _ A11.out).mono ?_
            rintro e w76 ⟨rfl, hb⟩
            refine ⟨_, rfl, ?_⟩; have n0_ := Aside0.mk (blk_below (g := gb203) (o := .cells #[.int .u64 a0_0, .int .u64 a0_1] 25 (0, 0)) kA hb); have n1_ := Aside0.mk (blk_below (g := gb204) (o := .cells #[.int .u64 a1_0, .int .u64 a1_1] 25 (0, 0)) kA hb); have n2_ := Aside0.mk (blk_below (g := gb209) (o := .cells #[.int .u64 t206, .int .u64 t207] 25 (0, 0)) kA hb); have n3_ := Aside0.mk (blk_below (g := gb213) (o := .cells #[.int .u64 t210, .int .u64 t211] 25 (0, 0)) kA hb); have n4_ := Aside0.mk (blk_below (g := gb217) (o := .cells #[.int .u64 t214, .int .u64 t215] 25 (0, 0)) kA hb); have n5_ := Aside0.mk (blk_below (g := gb225) (o := .cells #[.int .u64 t222, .int .u64 t223] 28 (0, 0)) kA hb); have n6_ := Aside0.mk (blk_below (g := gb233) (o := .cells #[.int .u64 0, .int .u64 0] 28 (0, 0)) kA hb); have n7_ := Aside0.mk (below_step bA hb); clear BK203 BK204 BK209 BK213 BK217 BK225 BK233 HB; have BK203 := n0_; have BK204 := n1_; have BK209 := n2_; have BK213 := n3_; have BK217 := n4_; have BK225 := n5_; have BK233 := n6_; have HB := n7_; clear n0_ n1_ n2_ n3_ n4_ n5_ n6_ n7_; (try clear hb)
            refine hK.out _ _ ⟨(blk_cell BK203.out 0).trans rfl, (blk_cell BK203.out 1).trans rfl, (blk_cell BK204.out 0).trans rfl, (blk_cell BK204.out 1).trans rfl⟩ (fun hHeld => ?_)
            clear hK K
            refine norm_ (a' := ?_) ?_ ?_
            rotate_left
            ·show Act.put _ (some 50) _ = _
             simp only [Act.put, List.setIfInBounds_toArray, List.set_cons_zero, List.set_cons_succ, i64_w, i32_w]
             rfl
            refine one_ (i := 4) (N := some 51) #[true, true, true, true, true, false, false, false, true, false, false] rfl rfl (one_of HT_.out (by kernel_rfl)) (by decide) (fun K hK => ?_)
            refine goes_ Try.func44 (by kernel_rfl) rfl #[.agg #[.int .u64 t226, .int .u64 t227], .agg #[.int .u64 t228, .int .u64 t229]] (by rfl) rfl rfl aA ?_
            with_reducible refine (backfillref01_Sub.calls k t226 t227 t228 t229 t230 t231 t232 _ A12.out).mono ?_
            rintro e w77 ⟨rfl, hb⟩
            refine ⟨_, rfl, ?_⟩; have n0_ := Aside0.mk (blk_below (g := gb203) (o := .cells #[.int .u64 a0_0, .int .u64 a0_1] 25 (0, 0)) kA hb); have n1_ := Aside0.mk (blk_below (g := gb204) (o := .cells #[.int .u64 a1_0, .int .u64 a1_1] 25 (0, 0)) kA hb); have n2_ := Aside0.mk (blk_below (g := gb209) (o := .cells #[.int .u64 t206, .int .u64 t207] 25 (0, 0)) kA hb); have n3_ := Aside0.mk (blk_below (g := gb213) (o := .cells #[.int .u64 t210, .int .u64 t211] 25 (0, 0)) kA hb); have n4_ := Aside0.mk (blk_below (g := gb217) (o := .cells #[.int .u64 t214, .int .u64 t215] 25 (0, 0)) kA hb); have n5_ := Aside0.mk (blk_below (g := gb225) (o := .cells #[.int .u64 t222, .int .u64 t223] 28 (0, 0)) kA hb); have n6_ := Aside0.mk (blk_below (g := gb233) (o := .cells #[.int .u64 0, .int .u64 0] 28 (0, 0)) kA hb); have n7_ := Aside0.mk (below_step bA hb); clear BK203 BK204 BK209 BK213 BK217 BK225 BK233 HB; have BK203 := n0_; have BK204 := n1_; have BK209 := n2_; have BK213 := n3_; have BK217 := n4_; have BK225 := n5_; have BK233 := n6_; have HB := n7_; clear n0_ n1_ n2_ n3_ n4_ n5_ n6_ n7_; (try clear hb)
            refine hK.out _ _ ⟨(blk_cell BK203.out 0).trans rfl, (blk_cell BK203.out 1).trans rfl, (blk_cell BK204.out 0).trans rfl, (blk_cell BK204.out 1).trans rfl⟩ (fun hHeld => ?_)
            clear hK K
            refine norm_ (a' := ?_) ?_ ?_
            rotate_left
            ·show Act.put _ (some 51) _ = _
             simp only [Act.put, List.setIfInBounds_toArray, List.set_cons_zero, List.set_cons_succ, i64_w, i32_w]
             rfl
            refine pure_ (i := 5) (N := some 46) (v := ?_) (a' := ?_) #[true, true, true, true, true, true, false, false, true, false, false] rfl rfl (any_of HT_.out (by kernel_rfl)) (fun _ _ _ h => h) (Or.inl ⟨by rfl, ?_⟩) ?_ ?_
            rotate_left
            ·intro w'
             go_simp; with_reducible rfl
            rotate_left
            ·simp only [Act.put, List.setIfInBounds_toArray, List.set_cons_zero, List.set_cons_succ, i64_w, i32_w]
             rfl
            refine pure_ (i := 6) (N := some 52) (v := ?_) (a' := ?_) #[true, true, true, true, true, true, true, false, true, false, false] rfl rfl (any_of HT_.out (by kernel_rfl)) (fun _ _ _ h => h) (Or.inl ⟨by rfl, ?_⟩) ?_ ?_
            rotate_left
            ·intro w'
             go_simp; with_reducible rfl
            rotate_left
            ·simp only [Act.put, List.setIfInBounds_toArray, List.set_cons_zero, List.set_cons_succ, i64_w, i32_w]
             rfl
            refine pure_ (i := 7) (N := some 53) (v := ?_) (a' := ?_) #[true, true, true, true, true, true, true, true, true, false, false] rfl rfl (any_of HT_.out (by kernel_rfl)) (fun _ _ _ h => h) (Or.inl ⟨by rfl, ?_⟩) ?_ ?_
            rotate_left
            ·intro w'
             go_simp; with_reducible rfl
            rotate_left
            ·simp only [Act.put, List.setIfInBounds_toArray, List.set_cons_zero, List.set_cons_succ, i64_w, i32_w]
             rfl
            exact norm_ (by simp only [putAll, Act.put, List.setIfInBounds_toArray, List.set_cons_zero, List.set_cons_succ]) (hCont (gb233) _ ⟨hHeld, kA, kA, kA, kA, kA, kA, kA, GW233.out, GE233.out, NB203_233.out, NB233_203.out, NB204_233.out, NB233_204.out, NB209_233.out, NB233_209.out, NB213_233.out, NB233_213.out, NB217_233.out, NB233_217.out, NB225_233.out, NB233_225.out, bA⟩)
          rintro gb233 w78 ⟨hS_, h0_, h1_, h2_, h3_, h4_, h5_, h6_, h7_, h8_, h9_, h10_, h11_, h12_, h13_, h14_, h15_, h16_, h17_, h18_, h19_, h20_, h21_⟩
          have n0_ : Aside0 (w78.heap[gb203]? = some (.cells #[.int .u64 a0_0, .int .u64 a0_1] 25 (0, 0))) := ⟨h0_⟩
          have n1_ : Aside0 (w78.heap[gb204]? = some (.cells #[.int .u64 a1_0, .int .u64 a1_1] 25 (0, 0))) := ⟨h1_⟩
          have n2_ : Aside0 (w78.heap[gb209]? = some (.cells #[.int .u64 t206, .int .u64 t207] 25 (0, 0))) := ⟨h2_⟩
          have n3_ : Aside0 (w78.heap[gb213]? = some (.cells #[.int .u64 t210, .int .u64 t211] 25 (0, 0))) := ⟨h3_⟩
          have n4_ : Aside0 (w78.heap[gb217]? = some (.cells #[.int .u64 t214, .int .u64 t215] 25 (0, 0))) := ⟨h4_⟩
          have n5_ : Aside0 (w78.heap[gb225]? = some (.cells #[.int .u64 t222, .int .u64 t223] 28 (0, 0))) := ⟨h5_⟩
          have n6_ : Aside0 (w78.heap[gb233]? = some (.cells #[.int .u64 0, .int .u64 0] 28 (0, 0))) := ⟨h6_⟩
          have n7_ : Aside0 (w.heap.size ≤ gb233) := ⟨h7_⟩
          have n8_ : Aside0 (w.heap.size ≤ gb233) := ⟨h8_⟩
          have n9_ : Aside0 (gb203 ≠ gb233) := ⟨h9_⟩
          have n10_ : Aside0 (gb233 ≠ gb203) := ⟨h10_⟩
          have n11_ : Aside0 (gb204 ≠ gb233) := ⟨h11_⟩
          have n12_ : Aside0 (gb233 ≠ gb204) := ⟨h12_⟩
          have n13_ : Aside0 (gb209 ≠ gb233) := ⟨h13_⟩
          have n14_ : Aside0 (gb233 ≠ gb209) := ⟨h14_⟩
          have n15_ : Aside0 (gb213 ≠ gb233) := ⟨h15_⟩
          have n16_ : Aside0 (gb233 ≠ gb213) := ⟨h16_⟩
          have n17_ : Aside0 (gb217 ≠ gb233) := ⟨h17_⟩
          have n18_ : Aside0 (gb233 ≠ gb217) := ⟨h18_⟩
          have n19_ : Aside0 (gb225 ≠ gb233) := ⟨h19_⟩
          have n20_ : Aside0 (gb233 ≠ gb225) := ⟨h20_⟩
          have n21_ : Aside0 (Below w.heap.size w w78) := ⟨h21_⟩
          clear BK203 BK204 BK209 BK213 BK217 BK225 HB h0_ h1_ h2_ h3_ h4_ h5_ h6_ h7_ h8_ h9_ h10_ h11_ h12_ h13_ h14_ h15_ h16_ h17_ h18_ h19_ h20_ h21_; have BK203 := n0_; have BK204 := n1_; have BK209 := n2_; have BK213 := n3_; have BK217 := n4_; have BK225 := n5_; have BK233 := n6_; have GW233 := n7_; have GE233 := n8_; have NB203_233 := n9_; have NB233_203 := n10_; have NB204_233 := n11_; have NB233_204 := n12_; have NB209_233 := n13_; have NB233_209 := n14_; have NB213_233 := n15_; have NB233_213 := n16_; have NB217_233 := n17_; have NB233_217 := n18_; have NB225_233 := n19_; have NB233_225 := n20_; have HB := n21_; clear n0_ n1_ n2_ n3_ n4_ n5_ n6_ n7_ n8_ n9_ n10_ n11_ n12_ n13_ n14_ n15_ n16_ n17_ n18_ n19_ n20_ n21_
          have hHeld : w78.cell? ⟨gb203, 0, none⟩ = some (.int .u64 a0_0) ∧ w78.cell? ⟨gb203, 1, none⟩ = some (.int .u64 a0_1) ∧ w78.cell? ⟨gb204, 0, none⟩ = some (.int .u64 a1_0) ∧ w78.cell? ⟨gb204, 1, none⟩ = some (.int .u64 a1_1) := hS_
          refine norm_ (a' := ?_) ?_ ?_
          rotate_left
          ·simp only [putAll, Act.put, List.setIfInBounds_toArray, List.set_cons_zero, List.set_cons_succ]
           rfl
          refine one_ (i := 9) (N := none) #[true, true, true, true, true, true, true, true, true, true, false] rfl rfl (one_of HT_.out (by kernel_rfl)) (by decide) (fun K hK => ?_)
          have hs79 : w78.cell? ⟨gb233, 0, none⟩ = some (.int .u64 0) := (blk_cell BK233.out 0).trans rfl
          have hfs79 := blk_frozen BK233.out 0
          have hns79_0 := NB203_233.out
          have hns79_1 := NB204_233.out
          have hns79_2 := NB209_233.out
          have hns79_3 := NB213_233.out
          have hns79_4 := NB217_233.out
          have hns79_5 := NB225_233.out
          have hms79_0 := NB233_203.out
          have hms79_1 := NB233_204.out
          have hms79_2 := NB233_209.out
          have hms79_3 := NB233_213.out
          have hms79_4 := NB233_217.out
          have hms79_5 := NB233_225.out
          have hs80 : w78.cell? ⟨gb233, 1, none⟩ = some (.int .u64 0) := (blk_cell BK233.out 1).trans rfl
          have hfs80 := blk_frozen BK233.out 1
          have hns80_0 := NB203_233.out
          have hns80_1 := NB204_233.out
          have hns80_2 := NB209_233.out
          have hns80_3 := NB213_233.out
          have hns80_4 := NB217_233.out
          have hns80_5 := NB225_233.out
          have hms80_0 := NB233_203.out
          have hms80_1 := NB233_204.out
          have hms80_2 := NB233_209.out
          have hms80_3 := NB233_213.out
          have hms80_4 := NB233_217.out
          have hms80_5 := NB233_225.out
          refine skip_ (w1 := ?_) (by rfl) rfl ?_ ?_
          rotate_left
          ·go_simp
           rfl
          refine hK.out _ _ ⟨((cell_far (p := ⟨gb233, _, none⟩) NB203_233.out _).trans (((cell_far (p := ⟨gb233, _, none⟩) NB203_233.out _).trans (hHeld.1)))), ((cell_far (p := ⟨gb233, _, none⟩) NB203_233.out _).trans (((cell_far (p := ⟨gb233, _, none⟩) NB203_233.out _).trans (hHeld.2.1)))), ((cell_far (p := ⟨gb233, _, none⟩) NB204_233.out _).trans (((cell_far (p := ⟨gb233, _, none⟩) NB204_233.out _).trans (hHeld.2.2.1)))), ((cell_far (p := ⟨gb233, _, none⟩) NB204_233.out _).trans (((cell_far (p := ⟨gb233, _, none⟩) NB204_233.out _).trans (hHeld.2.2.2))))⟩ (fun hHeld => ?_)
          clear hK K
          refine pure_ (i := 10) (N := some 15) (v := ?_) (a' := ?_) #[true, true, true, true, true, true, true, true, true, true, true] rfl rfl (any_of HT_.out (by kernel_rfl)) (fun _ _ _ h => h) (Or.inl ⟨by rfl, ?_⟩) ?_ ?_
          rotate_left
          ·intro w'
           go_simp; with_reducible rfl
          rotate_left
          ·simp only [Act.put, List.setIfInBounds_toArray, List.set_cons_zero, List.set_cons_succ, i64_w, i32_w]
           rfl
          refine done_ (done_of HT_.out (by kernel_rfl)) ?_
          try go_wp2
          have n0_ : Aside0 (((w78.setCell ⟨gb233, 0, none⟩ (.int .u64 t230)).setCell ⟨gb233, 1, none⟩ (.int .u64 t231)).heap[gb203]? = some (.cells #[.int .u64 a0_0, .int .u64 a0_1] 25 (0, 0))) := ⟨by (with_reducible repeat (first | refine blk_drewN ?_ _ | refine blk_drew ?_ | refine blk_alloc ?_ _)); refine blk_far ?_ NB203_233.out _; (with_reducible repeat (first | refine blk_drewN ?_ _ | refine blk_drew ?_ | refine blk_alloc ?_ _)); refine blk_far ?_ NB203_233.out _; exact kA⟩
          have n1_ : Aside0 (((w78.setCell ⟨gb233, 0, none⟩ (.int .u64 t230)).setCell ⟨gb233, 1, none⟩ (.int .u64 t231)).heap[gb204]? = some (.cells #[.int .u64 a1_0, .int .u64 a1_1] 25 (0, 0))) := ⟨by (with_reducible repeat (first | refine blk_drewN ?_ _ | refine blk_drew ?_ | refine blk_alloc ?_ _)); refine blk_far ?_ NB204_233.out _; (with_reducible repeat (first | refine blk_drewN ?_ _ | refine blk_drew ?_ | refine blk_alloc ?_ _)); refine blk_far ?_ NB204_233.out _; exact kA⟩
          have n2_ : Aside0 (((w78.setCell ⟨gb233, 0, none⟩ (.int .u64 t230)).setCell ⟨gb233, 1, none⟩ (.int .u64 t231)).heap[gb209]? = some (.cells #[.int .u64 t206, .int .u64 t207] 25 (0, 0))) := ⟨by (with_reducible repeat (first | refine blk_drewN ?_ _ | refine blk_drew ?_ | refine blk_alloc ?_ _)); refine blk_far ?_ NB209_233.out _; (with_reducible repeat (first | refine blk_drewN ?_ _ | refine blk_drew ?_ | refine blk_alloc ?_ _)); refine blk_far ?_ NB209_233.out _; exact kA⟩
          have n3_ : Aside0 (((w78.setCell ⟨gb233, 0, none⟩ (.int .u64 t230)).setCell ⟨gb233, 1, none⟩ (.int .u64 t231)).heap[gb213]? = some (.cells #[.int .u64 t210, .int .u64 t211] 25 (0, 0))) := ⟨by (with_reducible repeat (first | refine blk_drewN ?_ _ | refine blk_drew ?_ | refine blk_alloc ?_ _)); refine blk_far ?_ NB213_233.out _; (with_reducible repeat (first | refine blk_drewN ?_ _ | refine blk_drew ?_ | refine blk_alloc ?_ _)); refine blk_far ?_ NB213_233.out _; exact kA⟩
          have n4_ : Aside0 (((w78.setCell ⟨gb233, 0, none⟩ (.int .u64 t230)).setCell ⟨gb233, 1, none⟩ (.int .u64 t231)).heap[gb217]? = some (.cells #[.int .u64 t214, .int .u64 t215] 25 (0, 0))) := ⟨by (with_reducible repeat (first | refine blk_drewN ?_ _ | refine blk_drew ?_ | refine blk_alloc ?_ _)); refine blk_far ?_ NB217_233.out _; (with_reducible repeat (first | refine blk_drewN ?_ _ | refine blk_drew ?_ | refine blk_alloc ?_ _)); refine blk_far ?_ NB217_233.out _; exact kA⟩
          have n5_ : Aside0 (((w78.setCell ⟨gb233, 0, none⟩ (.int .u64 t230)).setCell ⟨gb233, 1, none⟩ (.int .u64 t231)).heap[gb225]? = some (.cells #[.int .u64 t222, .int .u64 t223] 28 (0, 0))) := ⟨by (with_reducible repeat (first | refine blk_drewN ?_ _ | refine blk_drew ?_ | refine blk_alloc ?_ _)); refine blk_far ?_ NB225_233.out _; (with_reducible repeat (first | refine blk_drewN ?_ _ | refine blk_drew ?_ | refine blk_alloc ?_ _)); refine blk_far ?_ NB225_233.out _; exact kA⟩
          have n6_ : Aside0 (((w78.setCell ⟨gb233, 0, none⟩ (.int .u64 t230)).setCell ⟨gb233, 1, none⟩ (.int .u64 t231)).heap[gb233]? = some (.cells #[.int .u64 t230, .int .u64 t231] 28 (0, 0))) := ⟨by (with_reducible repeat (first | refine blk_drewN ?_ _ | refine blk_drew ?_ | refine blk_alloc ?_ _)); refine blk_put (cs := #[.int .u64 t230, .int .u64 0]) ?_ 1 _ rfl; (with_reducible repeat (first | refine blk_drewN ?_ _ | refine blk_drew ?_ | refine blk_alloc ?_ _)); refine blk_put (cs := #[.int .u64 0, .int .u64 0]) ?_ 0 _ rfl; exact kA⟩
          have n7_ : Aside0 (Below w.heap.size w ((w78.setCell ⟨gb233, 0, none⟩ (.int .u64 t230)).setCell ⟨gb233, 1, none⟩ (.int .u64 t231))) := ⟨bA⟩
          (try clear BK203); (try clear BK204); (try clear BK209); (try clear BK213); (try clear BK217); (try clear BK225); (try clear BK233); (try clear HB)
          generalize ((w78.setCell ⟨gb233, 0, none⟩ (.int .u64 t230)).setCell ⟨gb233, 1, none⟩ (.int .u64 t231)) = w81 at n0_ n1_ n2_ n3_ n4_ n5_ n6_ n7_ ⊢
          have BK203 := n0_; have BK204 := n1_; have BK209 := n2_; have BK213 := n3_; have BK217 := n4_; have BK225 := n5_; have BK233 := n6_; have HB := n7_; clear n0_ n1_ n2_ n3_ n4_ n5_ n6_ n7_; have n0_ := Aside0.mk (blk_drew BK203.out); have n1_ := Aside0.mk (blk_drew BK204.out); have n2_ := Aside0.mk (blk_drew BK209.out); have n3_ := Aside0.mk (blk_drew BK213.out); have n4_ := Aside0.mk (blk_drew BK217.out); have n5_ := Aside0.mk (blk_drew BK225.out); have n6_ := Aside0.mk (blk_drew BK233.out); have n7_ := Aside0.mk (below_drew1 HB.out); clear BK203 BK204 BK209 BK213 BK217 BK225 BK233 HB; have BK203 := n0_; have BK204 := n1_; have BK209 := n2_; have BK213 := n3_; have BK217 := n4_; have BK225 := n5_; have BK233 := n6_; have HB := n7_; clear n0_ n1_ n2_ n3_ n4_ n5_ n6_ n7_
          refine start_ (n := 11) (S := fun w' => w'.cell? ⟨gb203, 0, none⟩ = some (.int .u64 a0_0) ∧ w'.cell? ⟨gb203, 1, none⟩ = some (.int .u64 a0_1) ∧ w'.cell? ⟨gb204, 0, none⟩ = some (.int .u64 a1_0) ∧ w'.cell? ⟨gb204, 1, none⟩ = some (.int .u64 a1_1)) (ds := []) #[false, false, false, false, false, false, false, false, false, false, false] (by kernel_rfl) rfl rfl ⟨(blk_cell BK203.out 0).trans rfl, (blk_cell BK203.out 1).trans rfl, (blk_cell BK204.out 0).trans rfl, (blk_cell BK204.out 1).trans rfl⟩ (fun hHeld => ?_); refine with_tabW backfilllaw01_WideSums.tab7 backfilllaw01_WideSums.bits7 (fun HT_ HW_ => ?_)
          generalize w81.drew = w82 at BK203 BK204 BK209 BK213 BK217 BK225 BK233 HB hHeld ⊢
          refine pure_ (i := 2) (N := some 57) (v := ?_) (a' := ?_) #[false, false, true, false, false, false, false, false, false, false, false] rfl rfl (any_of HT_.out (by kernel_rfl)) (fun _ _ _ h => h) (Or.inl ⟨by rfl, ?_⟩) ?_ ?_
          rotate_left
          ·intro w'
           go_simp; with_reducible rfl
          rotate_left
          ·simp only [Act.put, List.setIfInBounds_toArray, List.set_cons_zero, List.set_cons_succ, i64_w, i32_w]
           rfl
          refine take_ (i := 0) (N := some 55) (v := ?_) (a' := ?_) #[true, false, true, false, false, false, false, false, false, false, false] rfl rfl (take_ofW HT_.out HW_.out (by kernel_rfl)) (fun _ _ _ h => h) (Or.inl ⟨by rfl, ?_⟩) hHeld ?_ ?_
          rotate_left
          ·rintro w' ⟨s0, s1, s2, s3⟩
           go_simp; with_reducible rfl
          rotate_left
          ·simp only [Act.put, List.setIfInBounds_toArray, List.set_cons_zero, List.set_cons_succ, i64_w, i32_w]
           rfl
          refine take_ (i := 3) (N := some 58) (v := ?_) (a' := ?_) #[true, false, true, true, false, false, false, false, false, false, false] rfl rfl (take_ofW HT_.out HW_.out (by kernel_rfl)) (fun _ _ _ h => h) (Or.inl ⟨by rfl, ?_⟩) hHeld ?_ ?_
          rotate_left
          ·rintro w' ⟨s0, s1, s2, s3⟩
           go_simp; with_reducible rfl
          rotate_left
          ·simp only [Act.put, List.setIfInBounds_toArray, List.set_cons_zero, List.set_cons_succ, i64_w, i32_w]
           rfl
          refine join_ (σ := Nat) 2 #[true, true, true, true, true, true, true, true, true, false, false] (fun s_ => [(56, .agg #[.int .u64 t234, .int .u64 t235]), (59, .tuple #[.agg #[.int .u64 t236, .int .u64 t237], .bool t238]), (16, .pointer (some ⟨s_, 0, none⟩)), (54, .tuple #[.agg #[.int .u64 t236, .int .u64 t237], .bool t238]), (60, .agg #[.int .u64 t236, .int .u64 t237]), (61, .bool t238)]) (fun s_ w' => (w'.cell? ⟨gb203, 0, none⟩ = some (.int .u64 a0_0) ∧ w'.cell? ⟨gb203, 1, none⟩ = some (.int .u64 a0_1) ∧ w'.cell? ⟨gb204, 0, none⟩ = some (.int .u64 a1_0) ∧ w'.cell? ⟨gb204, 1, none⟩ = some (.int .u64 a1_1)) ∧ (w'.heap[gb203]? = some (.cells #[.int .u64 a0_0, .int .u64 a0_1] 25 (0, 0))) ∧ (w'.heap[gb204]? = some (.cells #[.int .u64 a1_0, .int .u64 a1_1] 25 (0, 0))) ∧ (w'.heap[gb209]? = some (.cells #[.int .u64 t206, .int .u64 t207] 25 (0, 0))) ∧ (w'.heap[gb213]? = some (.cells #[.int .u64 t210, .int .u64 t211] 25 (0, 0))) ∧ (w'.heap[gb217]? = some (.cells #[.int .u64 t214, .int .u64 t215] 25 (0, 0))) ∧ (w'.heap[gb225]? = some (.cells #[.int .u64 t222, .int .u64 t223] 28 (0, 0))) ∧ (w'.heap[gb233]? = some (.cells #[.int .u64 t230, .int .u64 t231] 28 (0, 0))) ∧ (w'.heap[s_]? = some (.cells #[.int .u64 0, .int .u64 0] 28 (0, 0))) ∧ (w.heap.size ≤ s_) ∧ (w.heap.size ≤ s_) ∧ (gb203 ≠ s_) ∧ (s_ ≠ gb203) ∧ (gb204 ≠ s_) ∧ (s_ ≠ gb204) ∧ (gb209 ≠ s_) ∧ (s_ ≠ gb209) ∧ (gb213 ≠ s_) ∧ (s_ ≠ gb213) ∧ (gb217 ≠ s_) ∧ (s_ ≠ gb217) ∧ (gb225 ≠ s_) ∧ (s_ ≠ gb225) ∧ (gb233 ≠ s_) ∧ (s_ ≠ gb233) ∧ (Below w.heap.size w w')) ?_ ?_
          rotate_left
          ·intro hCont
           refine two_ (i := 1) (j := 8) (Ni := some 56) (Nj := some 16) #[true, true, true, true, false, false, false, false, false, false, false] #[true, false, true, true, false, false, false, false, true, false, false] rfl rfl rfl rfl (two_of HT_.out (by kernel_rfl)) (by decide) (by decide) (fun K hK => ?_) (fun K hK => ?_)
           ·skip
            refine goes_ Try.func16 (by kernel_rfl) rfl #[.agg #[.int .u64 a0_0, .int .u64 a0_1]] (by rfl) rfl rfl aA ?_
            with_reducible refine (backfilllaw01_ref.calls a0_0 a0_1 t234 t235 _ A13.out).mono ?_
            rintro e w83 ⟨rfl, hb⟩
            refine ⟨_, rfl, ?_⟩; have n0_ := Aside0.mk (blk_below (g := gb203) (o := .cells #[.int .u64 a0_0, .int .u64 a0_1] 25 (0, 0)) kA hb); have n1_ := Aside0.mk (blk_below (g := gb204) (o := .cells #[.int .u64 a1_0, .int .u64 a1_1] 25 (0, 0)) kA hb); have n2_ := Aside0.mk (blk_below (g := gb209) (o := .cells #[.int .u64 t206, .int .u64 t207] 25 (0, 0)) kA hb); have n3_ := Aside0.mk (blk_below (g := gb213) (o := .cells #[.int .u64 t210, .int .u64 t211] 25 (0, 0)) kA hb); have n4_ := Aside0.mk (blk_below (g := gb217) (o := .cells #[.int .u64 t214, .int .u64 t215] 25 (0, 0)) kA hb); have n5_ := Aside0.mk (blk_below (g := gb225) (o := .cells #[.int .u64 t222, .int .u64 t223] 28 (0, 0)) kA hb); have n6_ := Aside0.mk (blk_below (g := gb233) (o := .cells #[.int .u64 t230, .int .u64 t231] 28 (0, 0)) kA hb); have n7_ := Aside0.mk (below_step bA hb); clear BK203 BK204 BK209 BK213 BK217 BK225 BK233 HB; have BK203 := n0_; have BK204 := n1_; have BK209 := n2_; have BK213 := n3_; have BK217 := n4_; have BK225 := n5_; have BK233 := n6_; have HB := n7_; clear n0_ n1_ n2_ n3_ n4_ n5_ n6_ n7_; (try clear hb)
            refine hK.out _ _ ⟨(blk_cell BK203.out 0).trans rfl, (blk_cell BK203.out 1).trans rfl, (blk_cell BK204.out 0).trans rfl, (blk_cell BK204.out 1).trans rfl⟩ (fun hHeld => ?_)
            clear hK K
            refine norm_ (a' := ?_) ?_ ?_
            rotate_left
            ·show Act.put _ (some 56) _ = _
             simp only [Act.put, List.setIfInBounds_toArray, List.set_cons_zero, List.set_cons_succ, i64_w, i32_w]
             rfl
            refine two_ (i := 4) (j := 8) (Ni := some 59) (Nj := some 16) #[true, true, true, true, true, false, false, false, false, false, false] #[true, true, true, true, false, false, false, false, true, false, false] rfl rfl rfl rfl (two_of HT_.out (by kernel_rfl)) (by decide) (by decide) (fun K hK => ?_) (fun K hK => ?_)
            ·skip
             refine goes_ Try.func38 (by kernel_rfl) rfl #[.agg #[.int .u64 t234, .int .u64 t235], .int .u64 a1_1] (by rfl) rfl rfl aA ?_
             with_reducible refine (backfillref01_Times.calls t234 t235 a1_1 t236 t237 t238 _ A14.out).mono ?_
             rintro e w84 ⟨rfl, hb⟩
             refine ⟨_, rfl, ?_⟩; have n0_ := Aside0.mk (blk_below (g := gb203) (o := .cells #[.int .u64 a0_0, .int .u64 a0_1] 25 (0, 0)) kA hb); have n1_ := Aside0.mk (blk_below (g := gb204) (o := .cells #[.int .u64 a1_0, .int .u64 a1_1] 25 (0, 0)) kA hb); have n2_ := Aside0.mk (blk_below (g := gb209) (o := .cells #[.int .u64 t206, .int .u64 t207] 25 (0, 0)) kA hb); have n3_ := Aside0.mk (blk_below (g := gb213) (o := .cells #[.int .u64 t210, .int .u64 t211] 25 (0, 0)) kA hb); have n4_ := Aside0.mk (blk_below (g := gb217) (o := .cells #[.int .u64 t214, .int .u64 t215] 25 (0, 0)) kA hb); have n5_ := Aside0.mk (blk_below (g := gb225) (o := .cells #[.int .u64 t222, .int .u64 t223] 28 (0, 0)) kA hb); have n6_ := Aside0.mk (blk_below (g := gb233) (o := .cells #[.int .u64 t230, .int .u64 t231] 28 (0, 0)) kA hb); have n7_ := Aside0.mk (below_step bA hb); clear BK203 BK204 BK209 BK213 BK217 BK225 BK233 HB; have BK203 := n0_; have BK204 := n1_; have BK209 := n2_; have BK213 := n3_; have BK217 := n4_; have BK225 := n5_; have BK233 := n6_; have HB := n7_; clear n0_ n1_ n2_ n3_ n4_ n5_ n6_ n7_; (try clear hb)
             refine hK.out _ _ ⟨(blk_cell BK203.out 0).trans rfl, (blk_cell BK203.out 1).trans rfl, (blk_cell BK204.out 0).trans rfl, (blk_cell BK204.out 1).trans rfl⟩ (fun hHeld => ?_)
             clear hK K
             refine norm_ (a' := ?_) ?_ ?_
             rotate_left
             ·show Act.put _ (some 59) _ = _
              simp only [Act.put, List.setIfInBounds_toArray, List.set_cons_zero, List.set_cons_succ, i64_w, i32_w]
              rfl
             refine pure_ (i := 5) (N := some 54) (v := ?_) (a' := ?_) #[true, true, true, true, true, true, false, false, false, false, false] rfl rfl (any_of HT_.out (by kernel_rfl)) (fun _ _ _ h => h) (Or.inl ⟨by rfl, ?_⟩) ?_ ?_
             rotate_left
             ·intro w'
              go_simp; with_reducible rfl
             rotate_left
             ·simp only [Act.put, List.setIfInBounds_toArray, List.set_cons_zero, List.set_cons_succ, i64_w, i32_w]
              rfl
             refine pure_ (i := 6) (N := some 60) (v := ?_) (a' := ?_) #[true, true, true, true, true, true, true, false, false, false, false] rfl rfl (any_of HT_.out (by kernel_rfl)) (fun _ _ _ h => h) (Or.inl ⟨by rfl, ?_⟩) ?_ ?_
             rotate_left
             ·intro w'
              go_simp; with_reducible rfl
             rotate_left
             ·simp only [Act.put, List.setIfInBounds_toArray, List.set_cons_zero, List.set_cons_succ, i64_w, i32_w]
              rfl
             refine pure_ (i := 7) (N := some 61) (v := ?_) (a' := ?_) #[true, true, true, true, true, true, true, true, false, false, false] rfl rfl (any_of HT_.out (by kernel_rfl)) (fun _ _ _ h => h) (Or.inl ⟨by rfl, ?_⟩) ?_ ?_
             rotate_left
             ·intro w'
              go_simp; with_reducible rfl
             rotate_left
             ·simp only [Act.put, List.setIfInBounds_toArray, List.set_cons_zero, List.set_cons_succ, i64_w, i32_w]
              rfl
             refine one_ (i := 8) (N := some 16) #[true, true, true, true, true, true, true, true, true, false, false] rfl rfl (one_of HT_.out (by kernel_rfl)) (by decide) (fun K hK => ?_)
             refine box_step ?hg (N := 16) ?hd (cs := #[.int .u64 0, .int .u64 0]) (t := 28) ?hr ?_; (case hd => rfl); (case hg => rfl); (case hr => first | (go_simp; done) | (go_simp; rfl))
             intro gb239 hg w85 hbox hb
             have n0_ := Aside0.mk (blk_below (g := gb203) (o := .cells #[.int .u64 a0_0, .int .u64 a0_1] 25 (0, 0)) kA hb); have n1_ := Aside0.mk (blk_below (g := gb204) (o := .cells #[.int .u64 a1_0, .int .u64 a1_1] 25 (0, 0)) kA hb); have n2_ := Aside0.mk (blk_below (g := gb209) (o := .cells #[.int .u64 t206, .int .u64 t207] 25 (0, 0)) kA hb); have n3_ := Aside0.mk (blk_below (g := gb213) (o := .cells #[.int .u64 t210, .int .u64 t211] 25 (0, 0)) kA hb); have n4_ := Aside0.mk (blk_below (g := gb217) (o := .cells #[.int .u64 t214, .int .u64 t215] 25 (0, 0)) kA hb); have n5_ := Aside0.mk (blk_below (g := gb225) (o := .cells #[.int .u64 t222, .int .u64 t223] 28 (0, 0)) kA hb); have n6_ := Aside0.mk (blk_below (g := gb233) (o := .cells #[.int .u64 t230, .int .u64 t231] 28 (0, 0)) kA hb); have n7_ := Aside0.mk (below_step bA hb); have n8_ := Aside0.mk (hbox); have n9_ := Aside0.mk ((by rw [hg]; exact (below_size bA) : w.heap.size ≤ gb239)); have n10_ := Aside0.mk ((by rw [hg]; exact (below_size bA) : w.heap.size ≤ gb239)); have n11_ := Aside0.mk ((by rw [hg]; exact Nat.ne_of_lt (blk_lt (g := gb203) (o := .cells #[.int .u64 a0_0, .int .u64 a0_1] 25 (0, 0)) kA) : gb203 ≠ gb239)); have n12_ := Aside0.mk ((by rw [hg]; exact Nat.ne_of_gt (blk_lt (g := gb203) (o := .cells #[.int .u64 a0_0, .int .u64 a0_1] 25 (0, 0)) kA) : gb239 ≠ gb203)); have n13_ := Aside0.mk ((by rw [hg]; exact Nat.ne_of_lt (blk_lt (g := gb204) (o := .cells #[.int .u64 a1_0, .int .u64 a1_1] 25 (0, 0)) kA) : gb204 ≠ gb239)); have n14_ := Aside0.mk ((by rw [hg]; exact Nat.ne_of_gt (blk_lt (g := gb204) (o := .cells #[.int .u64 a1_0, .int .u64 a1_1] 25 (0, 0)) kA) : gb239 ≠ gb204)); have n15_ := Aside0.mk ((by rw [hg]; exact Nat.ne_of_lt (blk_lt (g := gb209) (o := .cells #[.int .u64 t206, .int .u64 t207] 25 (0, 0)) kA) : gb209 ≠ gb239)); have n16_ := Aside0.mk ((by rw [hg]; exact Nat.ne_of_gt (blk_lt (g := gb209) (o := .cells #[.int .u64 t206, .int .u64 t207] 25 (0, 0)) kA) : gb239 ≠ gb209)); have n17_ := Aside0.mk ((by rw [hg]; exact Nat.ne_of_lt (blk_lt (g := gb213) (o := .cells #[.int .u64 t210, .int .u64 t211] 25 (0, 0)) kA) : gb213 ≠ gb239)); have n18_ := Aside0.mk ((by rw [hg]; exact Nat.ne_of_gt (blk_lt (g := gb213) (o := .cells #[.int .u64 t210, .int .u64 t211] 25 (0, 0)) kA) : gb239 ≠ gb213)); have n19_ := Aside0.mk ((by rw [hg]; exact Nat.ne_of_lt (blk_lt (g := gb217) (o := .cells #[.int .u64 t214, .int .u64 t215] 25 (0, 0)) kA) : gb217 ≠ gb239)); have n20_ := Aside0.mk ((by rw [hg]; exact Nat.ne_of_gt (blk_lt (g := gb217) (o := .cells #[.int .u64 t214, .int .u64 t215] 25 (0, 0)) kA) : gb239 ≠ gb217)); have n21_ := Aside0.mk ((by rw [hg]; exact Nat.ne_of_lt (blk_lt (g := gb225) (o := .cells #[.int .u64 t222, .int .u64 t223] 28 (0, 0)) kA) : gb225 ≠ gb239)); have n22_ := Aside0.mk ((by rw [hg]; exact Nat.ne_of_gt (blk_lt (g := gb225) (o := .cells #[.int .u64 t222, .int .u64 t223] 28 (0, 0)) kA) : gb239 ≠ gb225)); have n23_ := Aside0.mk ((by rw [hg]; exact Nat.ne_of_lt (blk_lt (g := gb233) (o := .cells #[.int .u64 t230, .int .u64 t231] 28 (0, 0)) kA) : gb233 ≠ gb239)); have n24_ := Aside0.mk ((by rw [hg]; exact Nat.ne_of_gt (blk_lt (g := gb233) (o := .cells #[.int .u64 t230, .int .u64 t231] 28 (0, 0)) kA) : gb239 ≠ gb233)); clear BK203 BK204 BK209 BK213 BK217 BK225 BK233 HB; have BK203 := n0_; have BK204 := n1_; have BK209 := n2_; have BK213 := n3_; have BK217 := n4_; have BK225 := n5_; have BK233 := n6_; have HB := n7_; have BK239 := n8_; have GW239 := n9_; have GE239 := n10_; have NB203_239 := n11_; have NB239_203 := n12_; have NB204_239 := n13_; have NB239_204 := n14_; have NB209_239 := n15_; have NB239_209 := n16_; have NB213_239 := n17_; have NB239_213 := n18_; have NB217_239 := n19_; have NB239_217 := n20_; have NB225_239 := n21_; have NB239_225 := n22_; have NB233_239 := n23_; have NB239_233 := n24_; clear n0_ n1_ n2_ n3_ n4_ n5_ n6_ n7_ n8_ n9_ n10_ n11_ n12_ n13_ n14_ n15_ n16_ n17_ n18_ n19_ n20_ n21_ n22_ n23_ n24_
             clear hb hbox hg
             refine hK.out _ _ ⟨(blk_cell BK203.out 0).trans rfl, (blk_cell BK203.out 1).trans rfl, (blk_cell BK204.out 0).trans rfl, (blk_cell BK204.out 1).trans rfl⟩ (fun hHeld => ?_)
             clear hK K
             refine norm_ (a' := ?_) ?_ ?_
             rotate_left
             ·show Act.put _ (some 16) _ = _
              simp only [Act.put, List.setIfInBounds_toArray, List.set_cons_zero, List.set_cons_succ, i64_w, i32_w]
              rfl
             exact norm_ (by simp only [putAll, Act.put, List.setIfInBounds_toArray, List.set_cons_zero, List.set_cons_succ]) (hCont (gb239) _ ⟨hHeld, kA, kA, kA, kA, kA, kA, kA, kA, GW239.out, GE239.out, NB203_239.out, NB239_203.out, NB204_239.out, NB239_204.out, NB209_239.out, NB239_209.out, NB213_239.out, NB239_213.out, NB217_239.out, NB239_217.out, NB225_239.out, NB239_225.out, NB233_239.out, NB239_233.out, bA⟩)
            ·skip
             refine box_step ?hg (N := 16) ?hd (cs := #[.int .u64 0, .int .u64 0]) (t := 28) ?hr ?_; (case hd => rfl); (case hg => rfl); (case hr => first | (go_simp; done) | (go_simp; rfl))
             intro gb239 hg w84 hbox hb
             have n0_ := Aside0.mk (blk_below (g := gb203) (o := .cells #[.int .u64 a0_0, .int .u64 a0_1] 25 (0, 0)) kA hb); have n1_ := Aside0.mk (blk_below (g := gb204) (o := .cells #[.int .u64 a1_0, .int .u64 a1_1] 25 (0, 0)) kA hb); have n2_ := Aside0.mk (blk_below (g := gb209) (o := .cells #[.int .u64 t206, .int .u64 t207] 25 (0, 0)) kA hb); have n3_ := Aside0.mk (blk_below (g := gb213) (o := .cells #[.int .u64 t210, .int .u64 t211] 25 (0, 0)) kA hb); have n4_ := Aside0.mk (blk_below (g := gb217) (o := .cells #[.int .u64 t214, .int .u64 t215] 25 (0, 0)) kA hb); have n5_ := Aside0.mk (blk_below (g := gb225) (o := .cells #[.int .u64 t222, .int .u64 t223] 28 (0, 0)) kA hb); have n6_ := Aside0.mk (blk_below (g := gb233) (o := .cells #[.int .u64 t230, .int .u64 t231] 28 (0, 0)) kA hb); have n7_ := Aside0.mk (below_step bA hb); have n8_ := Aside0.mk (hbox); have n9_ := Aside0.mk ((by rw [hg]; exact (below_size bA) : w.heap.size ≤ gb239)); have n10_ := Aside0.mk ((by rw [hg]; exact (below_size bA) : w.heap.size ≤ gb239)); have n11_ := Aside0.mk ((by rw [hg]; exact Nat.ne_of_lt (blk_lt (g := gb203) (o := .cells #[.int .u64 a0_0, .int .u64 a0_1] 25 (0, 0)) kA) : gb203 ≠ gb239)); have n12_ := Aside0.mk ((by rw [hg]; exact Nat.ne_of_gt (blk_lt (g := gb203) (o := .cells #[.int .u64 a0_0, .int .u64 a0_1] 25 (0, 0)) kA) : gb239 ≠ gb203)); have n13_ := Aside0.mk ((by rw [hg]; exact Nat.ne_of_lt (blk_lt (g := gb204) (o := .cells #[.int .u64 a1_0, .int .u64 a1_1] 25 (0, 0)) kA) : gb204 ≠ gb239)); have n14_ := Aside0.mk ((by rw [hg]; exact Nat.ne_of_gt (blk_lt (g := gb204) (o := .cells #[.int .u64 a1_0, .int .u64 a1_1] 25 (0, 0)) kA) : gb239 ≠ gb204)); have n15_ := Aside0.mk ((by rw [hg]; exact Nat.ne_of_lt (blk_lt (g := gb209) (o := .cells #[.int .u64 t206, .int .u64 t207] 25 (0, 0)) kA) : gb209 ≠ gb239)); have n16_ := Aside0.mk ((by rw [hg]; exact Nat.ne_of_gt (blk_lt (g := gb209) (o := .cells #[.int .u64 t206, .int .u64 t207] 25 (0, 0)) kA) : gb239 ≠ gb209)); have n17_ := Aside0.mk ((by rw [hg]; exact Nat.ne_of_lt (blk_lt (g := gb213) (o := .cells #[.int .u64 t210, .int .u64 t211] 25 (0, 0)) kA) : gb213 ≠ gb239)); have n18_ := Aside0.mk ((by rw [hg]; exact Nat.ne_of_gt (blk_lt (g := gb213) (o := .cells #[.int .u64 t210, .int .u64 t211] 25 (0, 0)) kA) : gb239 ≠ gb213)); have n19_ := Aside0.mk ((by rw [hg]; exact Nat.ne_of_lt (blk_lt (g := gb217) (o := .cells #[.int .u64 t214, .int .u64 t215] 25 (0, 0)) kA) : gb217 ≠ gb239)); have n20_ := Aside0.mk ((by rw [hg]; exact Nat.ne_of_gt (blk_lt (g := gb217) (o := .cells #[.int .u64 t214, .int .u64 t215] 25 (0, 0)) kA) : gb239 ≠ gb217)); have n21_ := Aside0.mk ((by rw [hg]; exact Nat.ne_of_lt (blk_lt (g := gb225) (o := .cells #[.int .u64 t222, .int .u64 t223] 28 (0, 0)) kA) : gb225 ≠ gb239)); have n22_ := Aside0.mk ((by rw [hg]; exact Nat.ne_of_gt (blk_lt (g := gb225) (o := .cells #[.int .u64 t222, .int .u64 t223] 28 (0, 0)) kA) : gb239 ≠ gb225)); have n23_ := Aside0.mk ((by rw [hg]; exact Nat.ne_of_lt (blk_lt (g := gb233) (o := .cells #[.int .u64 t230, .int .u64 t231] 28 (0, 0)) kA) : gb233 ≠ gb239)); have n24_ := Aside0.mk ((by rw [hg]; exact Nat.ne_of_gt (blk_lt (g := gb233) (o := .cells #[.int .u64 t230, .int .u64 t231] 28 (0, 0)) kA) : gb239 ≠ gb233)); clear BK203 BK204 BK209 BK213 BK217 BK225 BK233 HB; have BK203 := n0_; have BK204 := n1_; have BK209 := n2_; have BK213 := n3_; have BK217 := n4_; have BK225 := n5_; have BK233 := n6_; have HB := n7_; have BK239 := n8_; have GW239 := n9_; have GE239 := n10_; have NB203_239 := n11_; have NB239_203 := n12_; have NB204_239 := n13_; have NB239_204 := n14_; have NB209_239 := n15_; have NB239_209 := n16_; have NB213_239 := n17_; have NB239_213 := n18_; have NB217_239 := n19_; have NB239_217 := n20_; have NB225_239 := n21_; have NB239_225 := n22_; have NB233_239 := n23_; have NB239_233 := n24_; clear n0_ n1_ n2_ n3_ n4_ n5_ n6_ n7_ n8_ n9_ n10_ n11_ n12_ n13_ n14_ n15_ n16_ n17_ n18_ n19_ n20_ n21_ n22_ n23_ n24_
             clear hb hbox hg
             refine hK.out _ _ ⟨(blk_cell BK203.out 0).trans rfl, (blk_cell BK203.out 1).trans rfl, (blk_cell BK204.out 0).trans rfl, (blk_cell BK204.out 1).trans rfl⟩ (fun hHeld => ?_)
             clear hK K
             refine norm_ (a' := ?_) ?_ ?_
             rotate_left
             ·show Act.put _ (some 16) _ = _
              simp only [Act.put, List.setIfInBounds_toArray, List.set_cons_zero, List.set_cons_succ, i64_w, i32_w]
              rfl
             refine one_ (i := 4) (N := some 59) #[true, true, true, true, true, false, false, false, true, false, false] rfl rfl (one_of HT_.out (by kernel_rfl)) (by decide) (fun K hK => ?_)
             refine goes_ Try.func38 (by kernel_rfl) rfl #[.agg #[.int .u64 t234, .int .u64 t235], .int .u64 a1_1] (by rfl) rfl rfl aA ?_
             with_reducible refine (backfillref01_Times.calls t234 t235 a1_1 t236 t237 t238 _ A14.out).mono ?_
             rintro e w85 ⟨rfl, hb⟩
             refine ⟨_, rfl, ?_⟩; have n0_ := Aside0.mk (blk_below (g := gb203) (o := .cells #[.int .u64 a0_0, .int .u64 a0_1] 25 (0, 0)) kA hb); have n1_ := Aside0.mk (blk_below (g := gb204) (o := .cells #[.int .u64 a1_0, .int .u64 a1_1] 25 (0, 0)) kA hb); have n2_ := Aside0.mk (blk_below (g := gb209) (o := .cells #[.int .u64 t206, .int .u64 t207] 25 (0, 0)) kA hb); have n3_ := Aside0.mk (blk_below (g := gb213) (o := .cells #[.int .u64 t210, .int .u64 t211] 25 (0, 0)) kA hb); have n4_ := Aside0.mk (blk_below (g := gb217) (o := .cells #[.int .u64 t214, .int .u64 t215] 25 (0, 0)) kA hb); have n5_ := Aside0.mk (blk_below (g := gb225) (o := .cells #[.int .u64 t222, .int .u64 t223] 28 (0, 0)) kA hb); have n6_ := Aside0.mk (blk_below (g := gb233) (o := .cells #[.int .u64 t230, .int .u64 t231] 28 (0, 0)) kA hb); have n7_ := Aside0.mk (blk_below (g := gb239) (o := .cells #[.int .u64 0, .int .u64 0] 28 (0, 0)) kA hb); have n8_ := Aside0.mk (below_step bA hb); clear BK203 BK204 BK209 BK213 BK217 BK225 BK233 BK239 HB; have BK203 := n0_; have BK204 := n1_; have BK209 := n2_; have BK213 := n3_; have BK217 := n4_; have BK225 := n5_; have BK233 := n6_; have BK239 := n7_; have HB := n8_; clear n0_ n1_ n2_ n3_ n4_ n5_ n6_ n7_ n8_; (try clear hb)
             refine hK.out _ _ ⟨(blk_cell BK203.out 0).trans rfl, (blk_cell BK203.out 1).trans rfl, (blk_cell BK204.out 0).trans rfl, (blk_cell BK204.out 1).trans rfl⟩ (fun hHeld => ?_)
             clear hK K
             refine norm_ (a' := ?_) ?_ ?_
             rotate_left
             ·show Act.put _ (some 59) _ = _
              simp only [Act.put, List.setIfInBounds_toArray, List.set_cons_zero, List.set_cons_succ, i64_w, i32_w]
              rfl
             refine pure_ (i := 5) (N := some 54) (v := ?_) (a' := ?_) #[true, true, true, true, true, true, false, false, true, false, false] rfl rfl (any_of HT_.out (by kernel_rfl)) (fun _ _ _ h => h) (Or.inl ⟨by rfl, ?_⟩) ?_ ?_
             rotate_left
             ·intro w'
              go_simp; with_reducible rfl
             rotate_left
             ·simp only [Act.put, List.setIfInBounds_toArray, List.set_cons_zero, List.set_cons_succ, i64_w, i32_w]
              rfl
             refine pure_ (i := 6) (N := some 60) (v := ?_) (a' := ?_) #[true, true, true, true, true, true, true, false, true, false, false] rfl rfl (any_of HT_.out (by kernel_rfl)) (fun _ _ _ h => h) (Or.inl ⟨by rfl, ?_⟩) ?_ ?_
             rotate_left
             ·intro w'
              go_simp; with_reducible rfl
             rotate_left
             ·simp only [Act.put, List.setIfInBounds_toArray, List.set_cons_zero, List.set_cons_succ, i64_w, i32_w]
              rfl
             refine pure_ (i := 7) (N := some 61) (v := ?_) (a' := ?_) #[true, true, true, true, true, true, true, true, true, false, false] rfl rfl (any_of HT_.out (by kernel_rfl)) (fun _ _ _ h => h) (Or.inl ⟨by rfl, ?_⟩) ?_ ?_
             rotate_left
             ·intro w'
              go_simp; with_reducible rfl
             rotate_left
             ·simp only [Act.put, List.setIfInBounds_toArray, List.set_cons_zero, List.set_cons_succ, i64_w, i32_w]
              rfl
             exact norm_ (by simp only [putAll, Act.put, List.setIfInBounds_toArray, List.set_cons_zero, List.set_cons_succ]) (hCont (gb239) _ ⟨hHeld, kA, kA, kA, kA, kA, kA, kA, kA, GW239.out, GE239.out, NB203_239.out, NB239_203.out, NB204_239.out, NB239_204.out, NB209_239.out, NB239_209.out, NB213_239.out, NB239_213.out, NB217_239.out, NB239_217.out, NB225_239.out, NB239_225.out, NB233_239.out, NB239_233.out, bA⟩)
           ·skip
            refine box_step ?hg (N := 16) ?hd (cs := #[.int .u64 0, .int .u64 0]) (t := 28) ?hr ?_; (case hd => rfl); (case hg => rfl); (case hr => first | (go_simp; done) | (go_simp; rfl))
            intro gb239 hg w83 hbox hb
            have n0_ := Aside0.mk (blk_below (g := gb203) (o := .cells #[.int .u64 a0_0, .int .u64 a0_1] 25 (0, 0)) kA hb); have n1_ := Aside0.mk (blk_below (g := gb204) (o := .cells #[.int .u64 a1_0, .int .u64 a1_1] 25 (0, 0)) kA hb); have n2_ := Aside0.mk (blk_below (g := gb209) (o := .cells #[.int .u64 t206, .int .u64 t207] 25 (0, 0)) kA hb); have n3_ := Aside0.mk (blk_below (g := gb213) (o := .cells #[.int .u64 t210, .int .u64 t211] 25 (0, 0)) kA hb); have n4_ := Aside0.mk (blk_below (g := gb217) (o := .cells #[.int .u64 t214, .int .u64 t215] 25 (0, 0)) kA hb); have n5_ := Aside0.mk (blk_below (g := gb225) (o := .cells #[.int .u64 t222, .int .u64 t223] 28 (0, 0)) kA hb); have n6_ := Aside0.mk (blk_below (g := gb233) (o := .cells #[.int .u64 t230, .int .u64 t231] 28 (0, 0)) kA hb); have n7_ := Aside0.mk (below_step bA hb); have n8_ := Aside0.mk (hbox); have n9_ := Aside0.mk ((by rw [hg]; exact (below_size bA) : w.heap.size ≤ gb239)); have n10_ := Aside0.mk ((by rw [hg]; exact (below_size bA) : w.heap.size ≤ gb239)); have n11_ := Aside0.mk ((by rw [hg]; exact Nat.ne_of_lt (blk_lt (g := gb203) (o := .cells #[.int .u64 a0_0, .int .u64 a0_1] 25 (0, 0)) kA) : gb203 ≠ gb239)); have n12_ := Aside0.mk ((by rw [hg]; exact Nat.ne_of_gt (blk_lt (g := gb203) (o := .cells #[.int .u64 a0_0, .int .u64 a0_1] 25 (0, 0)) kA) : gb239 ≠ gb203)); have n13_ := Aside0.mk ((by rw [hg]; exact Nat.ne_of_lt (blk_lt (g := gb204) (o := .cells #[.int .u64 a1_0, .int .u64 a1_1] 25 (0, 0)) kA) : gb204 ≠ gb239)); have n14_ := Aside0.mk ((by rw [hg]; exact Nat.ne_of_gt (blk_lt (g := gb204) (o := .cells #[.int .u64 a1_0, .int .u64 a1_1] 25 (0, 0)) kA) : gb239 ≠ gb204)); have n15_ := Aside0.mk ((by rw [hg]; exact Nat.ne_of_lt (blk_lt (g := gb209) (o := .cells #[.int .u64 t206, .int .u64 t207] 25 (0, 0)) kA) : gb209 ≠ gb239)); have n16_ := Aside0.mk ((by rw [hg]; exact Nat.ne_of_gt (blk_lt (g := gb209) (o := .cells #[.int .u64 t206, .int .u64 t207] 25 (0, 0)) kA) : gb239 ≠ gb209)); have n17_ := Aside0.mk ((by rw [hg]; exact Nat.ne_of_lt (blk_lt (g := gb213) (o := .cells #[.int .u64 t210, .int .u64 t211] 25 (0, 0)) kA) : gb213 ≠ gb239)); have n18_ := Aside0.mk ((by rw [hg]; exact Nat.ne_of_gt (blk_lt (g := gb213) (o := .cells #[.int .u64 t210, .int .u64 t211] 25 (0, 0)) kA) : gb239 ≠ gb213)); have n19_ := Aside0.mk ((by rw [hg]; exact Nat.ne_of_lt (blk_lt (g := gb217) (o := .cells #[.int .u64 t214, .int .u64 t215] 25 (0, 0)) kA) : gb217 ≠ gb239)); have n20_ := Aside0.mk ((by rw [hg]; exact Nat.ne_of_gt (blk_lt (g := gb217) (o := .cells #[.int .u64 t214, .int .u64 t215] 25 (0, 0)) kA) : gb239 ≠ gb217)); have n21_ := Aside0.mk ((by rw [hg]; exact Nat.ne_of_lt (blk_lt (g := gb225) (o := .cells #[.int .u64 t222, .int .u64 t223] 28 (0, 0)) kA) : gb225 ≠ gb239)); have n22_ := Aside0.mk ((by rw [hg]; exact Nat.ne_of_gt (blk_lt (g := gb225) (o := .cells #[.int .u64 t222, .int .u64 t223] 28 (0, 0)) kA) : gb239 ≠ gb225)); have n23_ := Aside0.mk ((by rw [hg]; exact Nat.ne_of_lt (blk_lt (g := gb233) (o := .cells #[.int .u64 t230, .int .u64 t231] 28 (0, 0)) kA) : gb233 ≠ gb239)); have n24_ := Aside0.mk ((by rw [hg]; exact Nat.ne_of_gt (blk_lt (g := gb233) (o := .cells #[.int .u64 t230, .int .u64 t231] 28 (0, 0)) kA) : gb239 ≠ gb233)); clear BK203 BK204 BK209 BK213 BK217 BK225 BK233 HB; have BK203 := n0_; have BK204 := n1_; have BK209 := n2_; have BK213 := n3_; have BK217 := n4_; have BK225 := n5_; have BK233 := n6_; have HB := n7_; have BK239 := n8_; have GW239 := n9_; have GE239 := n10_; have NB203_239 := n11_; have NB239_203 := n12_; have NB204_239 := n13_; have NB239_204 := n14_; have NB209_239 := n15_; have NB239_209 := n16_; have NB213_239 := n17_; have NB239_213 := n18_; have NB217_239 := n19_; have NB239_217 := n20_; have NB225_239 := n21_; have NB239_225 := n22_; have NB233_239 := n23_; have NB239_233 := n24_; clear n0_ n1_ n2_ n3_ n4_ n5_ n6_ n7_ n8_ n9_ n10_ n11_ n12_ n13_ n14_ n15_ n16_ n17_ n18_ n19_ n20_ n21_ n22_ n23_ n24_
            clear hb hbox hg
            refine hK.out _ _ ⟨(blk_cell BK203.out 0).trans rfl, (blk_cell BK203.out 1).trans rfl, (blk_cell BK204.out 0).trans rfl, (blk_cell BK204.out 1).trans rfl⟩ (fun hHeld => ?_)
            clear hK K
            refine norm_ (a' := ?_) ?_ ?_
            rotate_left
            ·show Act.put _ (some 16) _ = _
             simp only [Act.put, List.setIfInBounds_toArray, List.set_cons_zero, List.set_cons_succ, i64_w, i32_w]
             rfl
            refine one_ (i := 1) (N := some 56) #[true, true, true, true, false, false, false, false, true, false, false] rfl rfl (one_of HT_.out (by kernel_rfl)) (by decide) (fun K hK => ?_)
            refine goes_ Try.func16 (by kernel_rfl) rfl #[.agg #[.int .u64 a0_0, .int .u64 a0_1]] (by rfl) rfl rfl aA ?_
            with_reducible refine (backfilllaw01_ref.calls a0_0 a0_1 t234 t235 _ A13.out).mono ?_
            rintro e w84 ⟨rfl, hb⟩
            refine ⟨_, rfl, ?_⟩; have n0_ := Aside0.mk (blk_below (g := gb203) (o := .cells #[.int .u64 a0_0, .int .u64 a0_1] 25 (0, 0)) kA hb); have n1_ := Aside0.mk (blk_below (g := gb204) (o := .cells #[.int .u64 a1_0, .int .u64 a1_1] 25 (0, 0)) kA hb); have n2_ := Aside0.mk (blk_below (g := gb209) (o := .cells #[.int .u64 t206, .int .u64 t207] 25 (0, 0)) kA hb); have n3_ := Aside0.mk (blk_below (g := gb213) (o := .cells #[.int .u64 t210, .int .u64 t211] 25 (0, 0)) kA hb); have n4_ := Aside0.mk (blk_below (g := gb217) (o := .cells #[.int .u64 t214, .int .u64 t215] 25 (0, 0)) kA hb); have n5_ := Aside0.mk (blk_below (g := gb225) (o := .cells #[.int .u64 t222, .int .u64 t223] 28 (0, 0)) kA hb); have n6_ := Aside0.mk (blk_below (g := gb233) (o := .cells #[.int .u64 t230, .int .u64 t231] 28 (0, 0)) kA hb); have n7_ := Aside0.mk (blk_below (g := gb239) (o := .cells #[.int .u64 0, .int .u64 0] 28 (0, 0)) kA hb); have n8_ := Aside0.mk (below_step bA hb); clear BK203 BK204 BK209 BK213 BK217 BK225 BK233 BK239 HB; have BK203 := n0_; have BK204 := n1_; have BK209 := n2_; have BK213 := n3_; have BK217 := n4_; have BK225 := n5_; have BK233 := n6_; have BK239 := n7_; have HB := n8_; clear n0_ n1_ n2_ n3_ n4_ n5_ n6_ n7_ n8_; (try clear hb)
            refine hK.out _ _ ⟨(blk_cell BK203.out 0).trans rfl, (blk_cell BK203.out 1).trans rfl, (blk_cell BK204.out 0).trans rfl, (blk_cell BK204.out 1).trans rfl⟩ (fun hHeld => ?_)
            clear hK K
            refine norm_ (a' := ?_) ?_ ?_
            rotate_left
            ·show Act.put _ (some 56) _ = _
             simp only [Act.put, List.setIfInBounds_toArray, List.set_cons_zero, List.set_cons_succ, i64_w, i32_w]
             rfl
            refine one_ (i := 4) (N := some 59) #[true, true, true, true, true, false, false, false, true, false, false] rfl rfl (one_of HT_.out (by kernel_rfl)) (by decide) (fun K hK => ?_)
            refine goes_ Try.func38 (by kernel_rfl) rfl #[.agg #[.int .u64 t234, .int .u64 t235], .int .u64 a1_1] (by rfl) rfl rfl aA ?_
            with_reducible refine (backfillref01_Times.calls t234 t235 a1_1 t236 t237 t238 _ A14.out).mono ?_
            rintro e w85 ⟨rfl, hb⟩
            refine ⟨_, rfl, ?_⟩; have n0_ := Aside0.mk (blk_below (g := gb203) (o := .cells #[.int .u64 a0_0, .int .u64 a0_1] 25 (0, 0)) kA hb); have n1_ := Aside0.mk (blk_below (g := gb204) (o := .cells #[.int .u64 a1_0, .int .u64 a1_1] 25 (0, 0)) kA hb); have n2_ := Aside0.mk (blk_below (g := gb209) (o := .cells #[.int .u64 t206, .int .u64 t207] 25 (0, 0)) kA hb); have n3_ := Aside0.mk (blk_below (g := gb213) (o := .cells #[.int .u64 t210, .int .u64 t211] 25 (0, 0)) kA hb); have n4_ := Aside0.mk (blk_below (g := gb217) (o := .cells #[.int .u64 t214, .int .u64 t215] 25 (0, 0)) kA hb); have n5_ := Aside0.mk (blk_below (g := gb225) (o := .cells #[.int .u64 t222, .int .u64 t223] 28 (0, 0)) kA hb); have n6_ := Aside0.mk (blk_below (g := gb233) (o := .cells #[.int .u64 t230, .int .u64 t231] 28 (0, 0)) kA hb); have n7_ := Aside0.mk (blk_below (g := gb239) (o := .cells #[.int .u64 0, .int .u64 0] 28 (0, 0)) kA hb); have n8_ := Aside0.mk (below_step bA hb); clear BK203 BK204 BK209 BK213 BK217 BK225 BK233 BK239 HB; have BK203 := n0_; have BK204 := n1_; have BK209 := n2_; have BK213 := n3_; have BK217 := n4_; have BK225 := n5_; have BK233 := n6_; have BK239 := n7_; have HB := n8_; clear n0_ n1_ n2_ n3_ n4_ n5_ n6_ n7_ n8_; (try clear hb)
            refine hK.out _ _ ⟨(blk_cell BK203.out 0).trans rfl, (blk_cell BK203.out 1).trans rfl, (blk_cell BK204.out 0).trans rfl, (blk_cell BK204.out 1).trans rfl⟩ (fun hHeld => ?_)
            clear hK K
            refine norm_ (a' := ?_) ?_ ?_
            rotate_left
            ·show Act.put _ (some 59) _ = _
             simp only [Act.put, List.setIfInBounds_toArray, List.set_cons_zero, List.set_cons_succ, i64_w, i32_w]
             rfl
            refine pure_ (i := 5) (N := some 54) (v := ?_) (a' := ?_) #[true, true, true, true, true, true, false, false, true, false, false] rfl rfl (any_of HT_.out (by kernel_rfl)) (fun _ _ _ h => h) (Or.inl ⟨by rfl, ?_⟩) ?_ ?_
            rotate_left
            ·intro w'
             go_simp; with_reducible rfl
            rotate_left
            ·simp only [Act.put, List.setIfInBounds_toArray, List.set_cons_zero, List.set_cons_succ, i64_w, i32_w]
             rfl
            refine pure_ (i := 6) (N := some 60) (v := ?_) (a' := ?_) #[true, true, true, true, true, true, true, false, true, false, false] rfl rfl (any_of HT_.out (by kernel_rfl)) (fun _ _ _ h => h) (Or.inl ⟨by rfl, ?_⟩) ?_ ?_
            rotate_left
            ·intro w'
             go_simp; with_reducible rfl
            rotate_left
            ·simp only [Act.put, List.setIfInBounds_toArray, List.set_cons_zero, List.set_cons_succ, i64_w, i32_w]
             rfl
            refine pure_ (i := 7) (N := some 61) (v := ?_) (a' := ?_) #[true, true, true, true, true, true, true, true, true, false, false] rfl rfl (any_of HT_.out (by kernel_rfl)) (fun _ _ _ h => h) (Or.inl ⟨by rfl, ?_⟩) ?_ ?_
            rotate_left
            ·intro w'
             go_simp; with_reducible rfl
            rotate_left
            ·simp only [Act.put, List.setIfInBounds_toArray, List.set_cons_zero, List.set_cons_succ, i64_w, i32_w]
             rfl
            exact norm_ (by simp only [putAll, Act.put, List.setIfInBounds_toArray, List.set_cons_zero, List.set_cons_succ]) (hCont (gb239) _ ⟨hHeld, kA, kA, kA, kA, kA, kA, kA, kA, GW239.out, GE239.out, NB203_239.out, NB239_203.out, NB204_239.out, NB239_204.out, NB209_239.out, NB239_209.out, NB213_239.out, NB239_213.out, NB217_239.out, NB239_217.out, NB225_239.out, NB239_225.out, NB233_239.out, NB239_233.out, bA⟩)
          rintro gb239 w86 ⟨hS_, h0_, h1_, h2_, h3_, h4_, h5_, h6_, h7_, h8_, h9_, h10_, h11_, h12_, h13_, h14_, h15_, h16_, h17_, h18_, h19_, h20_, h21_, h22_, h23_, h24_⟩
          have n0_ : Aside0 (w86.heap[gb203]? = some (.cells #[.int .u64 a0_0, .int .u64 a0_1] 25 (0, 0))) := ⟨h0_⟩
          have n1_ : Aside0 (w86.heap[gb204]? = some (.cells #[.int .u64 a1_0, .int .u64 a1_1] 25 (0, 0))) := ⟨h1_⟩
          have n2_ : Aside0 (w86.heap[gb209]? = some (.cells #[.int .u64 t206, .int .u64 t207] 25 (0, 0))) := ⟨h2_⟩
          have n3_ : Aside0 (w86.heap[gb213]? = some (.cells #[.int .u64 t210, .int .u64 t211] 25 (0, 0))) := ⟨h3_⟩
          have n4_ : Aside0 (w86.heap[gb217]? = some (.cells #[.int .u64 t214, .int .u64 t215] 25 (0, 0))) := ⟨h4_⟩
          have n5_ : Aside0 (w86.heap[gb225]? = some (.cells #[.int .u64 t222, .int .u64 t223] 28 (0, 0))) := ⟨h5_⟩
          have n6_ : Aside0 (w86.heap[gb233]? = some (.cells #[.int .u64 t230, .int .u64 t231] 28 (0, 0))) := ⟨h6_⟩
          have n7_ : Aside0 (w86.heap[gb239]? = some (.cells #[.int .u64 0, .int .u64 0] 28 (0, 0))) := ⟨h7_⟩
          have n8_ : Aside0 (w.heap.size ≤ gb239) := ⟨h8_⟩
          have n9_ : Aside0 (w.heap.size ≤ gb239) := ⟨h9_⟩
          have n10_ : Aside0 (gb203 ≠ gb239) := ⟨h10_⟩
          have n11_ : Aside0 (gb239 ≠ gb203) := ⟨h11_⟩
          have n12_ : Aside0 (gb204 ≠ gb239) := ⟨h12_⟩
          have n13_ : Aside0 (gb239 ≠ gb204) := ⟨h13_⟩
          have n14_ : Aside0 (gb209 ≠ gb239) := ⟨h14_⟩
          have n15_ : Aside0 (gb239 ≠ gb209) := ⟨h15_⟩
          have n16_ : Aside0 (gb213 ≠ gb239) := ⟨h16_⟩
          have n17_ : Aside0 (gb239 ≠ gb213) := ⟨h17_⟩
          have n18_ : Aside0 (gb217 ≠ gb239) := ⟨h18_⟩
          have n19_ : Aside0 (gb239 ≠ gb217) := ⟨h19_⟩
          have n20_ : Aside0 (gb225 ≠ gb239) := ⟨h20_⟩
          have n21_ : Aside0 (gb239 ≠ gb225) := ⟨h21_⟩
          have n22_ : Aside0 (gb233 ≠ gb239) := ⟨h22_⟩
          have n23_ : Aside0 (gb239 ≠ gb233) := ⟨h23_⟩
          have n24_ : Aside0 (Below w.heap.size w w86) := ⟨h24_⟩
          clear BK203 BK204 BK209 BK213 BK217 BK225 BK233 HB h0_ h1_ h2_ h3_ h4_ h5_ h6_ h7_ h8_ h9_ h10_ h11_ h12_ h13_ h14_ h15_ h16_ h17_ h18_ h19_ h20_ h21_ h22_ h23_ h24_; have BK203 := n0_; have BK204 := n1_; have BK209 := n2_; have BK213 := n3_; have BK217 := n4_; have BK225 := n5_; have BK233 := n6_; have BK239 := n7_; have GW239 := n8_; have GE239 := n9_; have NB203_239 := n10_; have NB239_203 := n11_; have NB204_239 := n12_; have NB239_204 := n13_; have NB209_239 := n14_; have NB239_209 := n15_; have NB213_239 := n16_; have NB239_213 := n17_; have NB217_239 := n18_; have NB239_217 := n19_; have NB225_239 := n20_; have NB239_225 := n21_; have NB233_239 := n22_; have NB239_233 := n23_; have HB := n24_; clear n0_ n1_ n2_ n3_ n4_ n5_ n6_ n7_ n8_ n9_ n10_ n11_ n12_ n13_ n14_ n15_ n16_ n17_ n18_ n19_ n20_ n21_ n22_ n23_ n24_
          have hHeld : w86.cell? ⟨gb203, 0, none⟩ = some (.int .u64 a0_0) ∧ w86.cell? ⟨gb203, 1, none⟩ = some (.int .u64 a0_1) ∧ w86.cell? ⟨gb204, 0, none⟩ = some (.int .u64 a1_0) ∧ w86.cell? ⟨gb204, 1, none⟩ = some (.int .u64 a1_1) := hS_
          refine norm_ (a' := ?_) ?_ ?_
          rotate_left
          ·simp only [putAll, Act.put, List.setIfInBounds_toArray, List.set_cons_zero, List.set_cons_succ]
           rfl
          refine one_ (i := 9) (N := none) #[true, true, true, true, true, true, true, true, true, true, false] rfl rfl (one_of HT_.out (by kernel_rfl)) (by decide) (fun K hK => ?_)
          have hs87 : w86.cell? ⟨gb239, 0, none⟩ = some (.int .u64 0) := (blk_cell BK239.out 0).trans rfl
          have hfs87 := blk_frozen BK239.out 0
          have hns87_0 := NB203_239.out
          have hns87_1 := NB204_239.out
          have hns87_2 := NB209_239.out
          have hns87_3 := NB213_239.out
          have hns87_4 := NB217_239.out
          have hns87_5 := NB225_239.out
          have hns87_6 := NB233_239.out
          have hms87_0 := NB239_203.out
          have hms87_1 := NB239_204.out
          have hms87_2 := NB239_209.out
          have hms87_3 := NB239_213.out
          have hms87_4 := NB239_217.out
          have hms87_5 := NB239_225.out
          have hms87_6 := NB239_233.out
          have hs88 : w86.cell? ⟨gb239, 1, none⟩ = some (.int .u64 0) := (blk_cell BK239.out 1).trans rfl
          have hfs88 := blk_frozen BK239.out 1
          have hns88_0 := NB203_239.out
          have hns88_1 := NB204_239.out
          have hns88_2 := NB209_239.out
          have hns88_3 := NB213_239.out
          have hns88_4 := NB217_239.out
          have hns88_5 := NB225_239.out
          have hns88_6 := NB233_239.out
          have hms88_0 := NB239_203.out
          have hms88_1 := NB239_204.out
          have hms88_2 := NB239_209.out
          have hms88_3 := NB239_213.out
          have hms88_4 := NB239_217.out
          have hms88_5 := NB239_225.out
          have hms88_6 := NB239_233.out
          refine skip_ (w1 := ?_) (by rfl) rfl ?_ ?_
          rotate_left
          ·go_simp
           rfl
          refine hK.out _ _ ⟨((cell_far (p := ⟨gb239, _, none⟩) NB203_239.out _).trans (((cell_far (p := ⟨gb239, _, none⟩) NB203_239.out _).trans (hHeld.1)))), ((cell_far (p := ⟨gb239, _, none⟩) NB203_239.out _).trans (((cell_far (p := ⟨gb239, _, none⟩) NB203_239.out _).trans (hHeld.2.1)))), ((cell_far (p := ⟨gb239, _, none⟩) NB204_239.out _).trans (((cell_far (p := ⟨gb239, _, none⟩) NB204_239.out _).trans (hHeld.2.2.1)))), ((cell_far (p := ⟨gb239, _, none⟩) NB204_239.out _).trans (((cell_far (p := ⟨gb239, _, none⟩) NB204_239.out _).trans (hHeld.2.2.2))))⟩ (fun hHeld => ?_)
          clear hK K
          refine pure_ (i := 10) (N := some 17) (v := ?_) (a' := ?_) #[true, true, true, true, true, true, true, true, true, true, true] rfl rfl (any_of HT_.out (by kernel_rfl)) (fun _ _ _ h => h) (Or.inl ⟨by rfl, ?_⟩) ?_ ?_
          rotate_left
          ·intro w'
           go_simp; with_reducible rfl
          rotate_left
          ·simp only [Act.put, List.setIfInBounds_toArray, List.set_cons_zero, List.set_cons_succ, i64_w, i32_w]
           rfl
          refine done_ (done_of HT_.out (by kernel_rfl)) ?_
          try go_wp2
          have n0_ : Aside0 (((w86.setCell ⟨gb239, 0, none⟩ (.int .u64 t236)).setCell ⟨gb239, 1, none⟩ (.int .u64 t237)).heap[gb203]? = some (.cells #[.int .u64 a0_0, .int .u64 a0_1] 25 (0, 0))) := ⟨by (with_reducible repeat (first | refine blk_drewN ?_ _ | refine blk_drew ?_ | refine blk_alloc ?_ _)); refine blk_far ?_ NB203_239.out _; (with_reducible repeat (first | refine blk_drewN ?_ _ | refine blk_drew ?_ | refine blk_alloc ?_ _)); refine blk_far ?_ NB203_239.out _; exact kA⟩
          have n1_ : Aside0 (((w86.setCell ⟨gb239, 0, none⟩ (.int .u64 t236)).setCell ⟨gb239, 1, none⟩ (.int .u64 t237)).heap[gb204]? = some (.cells #[.int .u64 a1_0, .int .u64 a1_1] 25 (0, 0))) := ⟨by (with_reducible repeat (first | refine blk_drewN ?_ _ | refine blk_drew ?_ | refine blk_alloc ?_ _)); refine blk_far ?_ NB204_239.out _; (with_reducible repeat (first | refine blk_drewN ?_ _ | refine blk_drew ?_ | refine blk_alloc ?_ _)); refine blk_far ?_ NB204_239.out _; exact kA⟩
          have n2_ : Aside0 (((w86.setCell ⟨gb239, 0, none⟩ (.int .u64 t236)).setCell ⟨gb239, 1, none⟩ (.int .u64 t237)).heap[gb209]? = some (.cells #[.int .u64 t206, .int .u64 t207] 25 (0, 0))) := ⟨by (with_reducible repeat (first | refine blk_drewN ?_ _ | refine blk_drew ?_ | refine blk_alloc ?_ _)); refine blk_far ?_ NB209_239.out _; (with_reducible repeat (first | refine blk_drewN ?_ _ | refine blk_drew ?_ | refine blk_alloc ?_ _)); refine blk_far ?_ NB209_239.out _; exact kA⟩
          have n3_ : Aside0 (((w86.setCell ⟨gb239, 0, none⟩ (.int .u64 t236)).setCell ⟨gb239, 1, none⟩ (.int .u64 t237)).heap[gb213]? = some (.cells #[.int .u64 t210, .int .u64 t211] 25 (0, 0))) := ⟨by (with_reducible repeat (first | refine blk_drewN ?_ _ | refine blk_drew ?_ | refine blk_alloc ?_ _)); refine blk_far ?_ NB213_239.out _; (with_reducible repeat (first | refine blk_drewN ?_ _ | refine blk_drew ?_ | refine blk_alloc ?_ _)); refine blk_far ?_ NB213_239.out _; exact kA⟩
          have n4_ : Aside0 (((w86.setCell ⟨gb239, 0, none⟩ (.int .u64 t236)).setCell ⟨gb239, 1, none⟩ (.int .u64 t237)).heap[gb217]? = some (.cells #[.int .u64 t214, .int .u64 t215] 25 (0, 0))) := ⟨by (with_reducible repeat (first | refine blk_drewN ?_ _ | refine blk_drew ?_ | refine blk_alloc ?_ _)); refine blk_far ?_ NB217_239.out _; (with_reducible repeat (first | refine blk_drewN ?_ _ | refine blk_drew ?_ | refine blk_alloc ?_ _)); refine blk_far ?_ NB217_239.out _; exact kA⟩
          have n5_ : Aside0 (((w86.setCell ⟨gb239, 0, none⟩ (.int .u64 t236)).setCell ⟨gb239, 1, none⟩ (.int .u64 t237)).heap[gb225]? = some (.cells #[.int .u64 t222, .int .u64 t223] 28 (0, 0))) := ⟨by (with_reducible repeat (first | refine blk_drewN ?_ _ | refine blk_drew ?_ | refine blk_alloc ?_ _)); refine blk_far ?_ NB225_239.out _; (with_reducible repeat (first | refine blk_drewN ?_ _ | refine blk_drew ?_ | refine blk_alloc ?_ _)); refine blk_far ?_ NB225_239.out _; exact kA⟩
          have n6_ : Aside0 (((w86.setCell ⟨gb239, 0, none⟩ (.int .u64 t236)).setCell ⟨gb239, 1, none⟩ (.int .u64 t237)).heap[gb233]? = some (.cells #[.int .u64 t230, .int .u64 t231] 28 (0, 0))) := ⟨by (with_reducible repeat (first | refine blk_drewN ?_ _ | refine blk_drew ?_ | refine blk_alloc ?_ _)); refine blk_far ?_ NB233_239.out _; (with_reducible repeat (first | refine blk_drewN ?_ _ | refine blk_drew ?_ | refine blk_alloc ?_ _)); refine blk_far ?_ NB233_239.out _; exact kA⟩
          have n7_ : Aside0 (((w86.setCell ⟨gb239, 0, none⟩ (.int .u64 t236)).setCell ⟨gb239, 1, none⟩ (.int .u64 t237)).heap[gb239]? = some (.cells #[.int .u64 t236, .int .u64 t237] 28 (0, 0))) := ⟨by (with_reducible repeat (first | refine blk_drewN ?_ _ | refine blk_drew ?_ | refine blk_alloc ?_ _)); refine blk_put (cs := #[.int .u64 t236, .int .u64 0]) ?_ 1 _ rfl; (with_reducible repeat (first | refine blk_drewN ?_ _ | refine blk_drew ?_ | refine blk_alloc ?_ _)); refine blk_put (cs := #[.int .u64 0, .int .u64 0]) ?_ 0 _ rfl; exact kA⟩
          have n8_ : Aside0 (Below w.heap.size w ((w86.setCell ⟨gb239, 0, none⟩ (.int .u64 t236)).setCell ⟨gb239, 1, none⟩ (.int .u64 t237))) := ⟨bA⟩
          (try clear BK203); (try clear BK204); (try clear BK209); (try clear BK213); (try clear BK217); (try clear BK225); (try clear BK233); (try clear BK239); (try clear HB)
          generalize ((w86.setCell ⟨gb239, 0, none⟩ (.int .u64 t236)).setCell ⟨gb239, 1, none⟩ (.int .u64 t237)) = w89 at n0_ n1_ n2_ n3_ n4_ n5_ n6_ n7_ n8_ ⊢
          have BK203 := n0_; have BK204 := n1_; have BK209 := n2_; have BK213 := n3_; have BK217 := n4_; have BK225 := n5_; have BK233 := n6_; have BK239 := n7_; have HB := n8_; clear n0_ n1_ n2_ n3_ n4_ n5_ n6_ n7_ n8_; have n0_ := Aside0.mk (blk_drew BK203.out); have n1_ := Aside0.mk (blk_drew BK204.out); have n2_ := Aside0.mk (blk_drew BK209.out); have n3_ := Aside0.mk (blk_drew BK213.out); have n4_ := Aside0.mk (blk_drew BK217.out); have n5_ := Aside0.mk (blk_drew BK225.out); have n6_ := Aside0.mk (blk_drew BK233.out); have n7_ := Aside0.mk (blk_drew BK239.out); have n8_ := Aside0.mk (below_drew1 HB.out); clear BK203 BK204 BK209 BK213 BK217 BK225 BK233 BK239 HB; have BK203 := n0_; have BK204 := n1_; have BK209 := n2_; have BK213 := n3_; have BK217 := n4_; have BK225 := n5_; have BK233 := n6_; have BK239 := n7_; have HB := n8_; clear n0_ n1_ n2_ n3_ n4_ n5_ n6_ n7_ n8_
          refine start_ (n := 69) (S := fun w' => w'.cell? ⟨gb209, 0, none⟩ = some (.int .u64 t206) ∧ w'.cell? ⟨gb209, 1, none⟩ = some (.int .u64 t207) ∧ w'.cell? ⟨gb225, 0, none⟩ = some (.int .u64 t222) ∧ w'.cell? ⟨gb225, 1, none⟩ = some (.int .u64 t223) ∧ w'.cell? ⟨gb213, 0, none⟩ = some (.int .u64 t210) ∧ w'.cell? ⟨gb213, 1, none⟩ = some (.int .u64 t211) ∧ w'.cell? ⟨gb233, 0, none⟩ = some (.int .u64 t230) ∧ w'.cell? ⟨gb233, 1, none⟩ = some (.int .u64 t231) ∧ w'.cell? ⟨gb217, 0, none⟩ = some (.int .u64 t214) ∧ w'.cell? ⟨gb217, 1, none⟩ = some (.int .u64 t215) ∧ w'.cell? ⟨gb239, 0, none⟩ = some (.int .u64 t236) ∧ w'.cell? ⟨gb239, 1, none⟩ = some (.int .u64 t237) ∧ w'.cell? ⟨gb203, 0, none⟩ = some (.int .u64 a0_0) ∧ w'.cell? ⟨gb203, 1, none⟩ = some (.int .u64 a0_1) ∧ w'.cell? ⟨gb204, 0, none⟩ = some (.int .u64 a1_0) ∧ w'.cell? ⟨gb204, 1, none⟩ = some (.int .u64 a1_1)) (ds := []) #[false, false, false, false, false, false, false, false, false, false, false, false, false, false, false, false, false, false, false, false, false, false, false, false, false, false, false, false, false, false, false, false, false, false, false, false, false, false, false, false, false, false, false, false, false, false, false, false, false, false, false, false, false, false, false, false, false, false, false, false, false, false, false, false, false, false, false, false, false] (by kernel_rfl) rfl rfl ⟨(blk_cell BK209.out 0).trans rfl, (blk_cell BK209.out 1).trans rfl, (blk_cell BK225.out 0).trans rfl, (blk_cell BK225.out 1).trans rfl, (blk_cell BK213.out 0).trans rfl, (blk_cell BK213.out 1).trans rfl, (blk_cell BK233.out 0).trans rfl, (blk_cell BK233.out 1).trans rfl, (blk_cell BK217.out 0).trans rfl, (blk_cell BK217.out 1).trans rfl, (blk_cell BK239.out 0).trans rfl, (blk_cell BK239.out 1).trans rfl, (blk_cell BK203.out 0).trans rfl, (blk_cell BK203.out 1).trans rfl, (blk_cell BK204.out 0).trans rfl, (blk_cell BK204.out 1).trans rfl⟩ (fun hHeld => ?_); refine with_tabW backfilllaw01_WideSums.tab8 backfilllaw01_WideSums.bits8 (fun HT_ HW_ => ?_)
          generalize w89.drew = w90 at BK203 BK204 BK209 BK213 BK217 BK225 BK233 BK239 HB hHeld ⊢
          refine pure_ (i := 0) (N := some 62) (v := ?_) (a' := ?_) #[true, false, false, false, false, false, false, false, false, false, false, false, false, false, false, false, false, false, false, false, false, false, false, false, false, false, false, false, false, false, false, false, false, false, false, false, false, false, false, false, false, false, false, false, false, false, false, false, false, false, false, false, false, false, false, false, false, false, false, false, false, false, false, false, false, false, false, false, false] rfl rfl (any_of HT_.out (by kernel_rfl)) (fun _ _ _ h => h) (Or.inl ⟨by rfl, ?_⟩) ?_ ?_
          rotate_left
          ·intro w'
           go_simp; with_reducible rfl
          rotate_left
          ·simp only [Act.put, List.setIfInBounds_toArray, List.set_cons_zero, List.set_cons_succ, i64_w, i32_w]
           rfl
          refine pure_ (i := 1) (N := some 63) (v := ?_) (a' := ?_) #[true, true, false, false, false, false, false, false, false, false, false, false, false, false, false, false, false, false, false, false, false, false, false, false, false, false, false, false, false, false, false, false, false, false, false, false, false, false, false, false, false, false, false, false, false, false, false, false, false, false, false, false, false, false, false, false, false, false, false, false, false, false, false, false, false, false, false, false, false] rfl rfl (any_of HT_.out (by kernel_rfl)) (fun _ _ _ h => h) (Or.inl ⟨by rfl, ?_⟩) ?_ ?_
          rotate_left
          ·intro w'
           go_simp; with_reducible rfl
          rotate_left
          ·simp only [Act.put, List.setIfInBounds_toArray, List.set_cons_zero, List.set_cons_succ, i64_w, i32_w]
           rfl
          refine take_ (i := 2) (N := some 64) (v := ?_) (a' := ?_) #[true, true, true, false, false, false, false, false, false, false, false, false, false, false, false, false, false, false, false, false, false, false, false, false, false, false, false, false, false, false, false, false, false, false, false, false, false, false, false, false, false, false, false, false, false, false, false, false, false, false, false, false, false, false, false, false, false, false, false, false, false, false, false, false, false, false, false, false, false] rfl rfl (take_ofW HT_.out HW_.out (by kernel_rfl)) (fun _ _ _ h => h) (Or.inl ⟨by rfl, ?_⟩) hHeld ?_ ?_
          rotate_left
          ·rintro w' ⟨s0, s1, s2, s3, s4, s5, s6, s7, s8, s9, s10, s11, s12, s13, s14, s15⟩
           go_simp; with_reducible rfl
          rotate_left
          ·simp only [Act.put, List.setIfInBounds_toArray, List.set_cons_zero, List.set_cons_succ, i64_w, i32_w]
           rfl
          refine take_ (i := 3) (N := some 65) (v := ?_) (a' := ?_) #[true, true, true, true, false, false, false, false, false, false, false, false, false, false, false, false, false, false, false, false, false, false, false, false, false, false, false, false, false, false, false, false, false, false, false, false, false, false, false, false, false, false, false, false, false, false, false, false, false, false, false, false, false, false, false, false, false, false, false, false, false, false, false, false, false, false, false, false, false] rfl rfl (take_ofW HT_.out HW_.out (by kernel_rfl)) (fun _ _ _ h => h) (Or.inl ⟨by rfl, ?_⟩) hHeld ?_ ?_
          rotate_left
          ·rintro w' ⟨s0, s1, s2, s3, s4, s5, s6, s7, s8, s9, s10, s11, s12, s13, s14, s15⟩
           go_simp; with_reducible rfl
          rotate_left
          ·simp only [Act.put, List.setIfInBounds_toArray, List.set_cons_zero, List.set_cons_succ, i64_w, i32_w]
           rfl
          refine one_ (i := 4) (N := some 66) #[true, true, true, true, true, false, false, false, false, false, false, false, false, false, false, false, false, false, false, false, false, false, false, false, false, false, false, false, false, false, false, false, false, false, false, false, false, false, false, false, false, false, false, false, false, false, false, false, false, false, false, false, false, false, false, false, false, false, false, false, false, false, false, false, false, false, false, false, false] rfl rfl (one_of HT_.out (by kernel_rfl)) (by decide) (fun K hK => ?_)
          refine goes_ Try.func17 (by kernel_rfl) rfl #[.agg #[.int .u64 t222, .int .u64 t223]] (by rfl) rfl rfl aA ?_
          with_reducible refine (backfilllaw01_num.calls t222 t223 t240 t241 _ A16.out).mono ?_
          rintro e w91 ⟨rfl, hb⟩
          refine ⟨_, rfl, ?_⟩; have n0_ := Aside0.mk (blk_below (g := gb203) (o := .cells #[.int .u64 a0_0, .int .u64 a0_1] 25 (0, 0)) kA hb); have n1_ := Aside0.mk (blk_below (g := gb204) (o := .cells #[.int .u64 a1_0, .int .u64 a1_1] 25 (0, 0)) kA hb); have n2_ := Aside0.mk (blk_below (g := gb209) (o := .cells #[.int .u64 t206, .int .u64 t207] 25 (0, 0)) kA hb); have n3_ := Aside0.mk (blk_below (g := gb213) (o := .cells #[.int .u64 t210, .int .u64 t211] 25 (0, 0)) kA hb); have n4_ := Aside0.mk (blk_below (g := gb217) (o := .cells #[.int .u64 t214, .int .u64 t215] 25 (0, 0)) kA hb); have n5_ := Aside0.mk (blk_below (g := gb225) (o := .cells #[.int .u64 t222, .int .u64 t223] 28 (0, 0)) kA hb); have n6_ := Aside0.mk (blk_below (g := gb233) (o := .cells #[.int .u64 t230, .int .u64 t231] 28 (0, 0)) kA hb); have n7_ := Aside0.mk (blk_below (g := gb239) (o := .cells #[.int .u64 t236, .int .u64 t237] 28 (0, 0)) kA hb); have n8_ := Aside0.mk (below_step bA hb); clear BK203 BK204 BK209 BK213 BK217 BK225 BK233 BK239 HB; have BK203 := n0_; have BK204 := n1_; have BK209 := n2_; have BK213 := n3_; have BK217 := n4_; have BK225 := n5_; have BK233 := n6_; have BK239 := n7_; have HB := n8_; clear n0_ n1_ n2_ n3_ n4_ n5_ n6_ n7_ n8_; (try clear hb)
          refine hK.out _ _ ⟨(blk_cell BK209.out 0).trans rfl, (blk_cell BK209.out 1).trans rfl, (blk_cell BK225.out 0).trans rfl, (blk_cell BK225.out 1).trans rfl, (blk_cell BK213.out 0).trans rfl, (blk_cell BK213.out 1).trans rfl, (blk_cell BK233.out 0).trans rfl, (blk_cell BK233.out 1).trans rfl, (blk_cell BK217.out 0).trans rfl, (blk_cell BK217.out 1).trans rfl, (blk_cell BK239.out 0).trans rfl, (blk_cell BK239.out 1).trans rfl, (blk_cell BK203.out 0).trans rfl, (blk_cell BK203.out 1).trans rfl, (blk_cell BK204.out 0).trans rfl, (blk_cell BK204.out 1).trans rfl⟩ (fun hHeld => ?_)
          clear hK K
          refine norm_ (a' := ?_) ?_ ?_
          rotate_left
          ·show Act.put _ (some 66) _ = _
           simp only [Act.put, List.setIfInBounds_toArray, List.set_cons_zero, List.set_cons_succ, i64_w, i32_w]
           rfl
          refine pure_ (i := 5) (N := some 67) (v := ?_) (a' := ?_) #[true, true, true, true, true, true, false, false, false, false, false, false, false, false, false, false, false, false, false, false, false, false, false, false, false, false, false, false, false, false, false, false, false, false, false, false, false, false, false, false, false, false, false, false, false, false, false, false, false, false, false, false, false, false, false, false, false, false, false, false, false, false, false, false, false, false, false, false, false] rfl rfl (any_of HT_.out (by kernel_rfl)) (fun _ _ _ h => h) (Or.inl ⟨by rfl, ?_⟩) ?_ ?_
          rotate_left
          ·intro w'
           go_simp; with_reducible rfl
          rotate_left
          ·simp only [Act.put, List.setIfInBounds_toArray, List.set_cons_zero, List.set_cons_succ, i64_w, i32_w]
           rfl
          refine pure_ (i := 6) (N := some 68) (v := ?_) (a' := ?_) #[true, true, true, true, true, true, true, false, false, false, false, false, false, false, false, false, false, false, false, false, false, false, false, false, false, false, false, false, false, false, false, false, false, false, false, false, false, false, false, false, false, false, false, false, false, false, false, false, false, false, false, false, false, false, false, false, false, false, false, false, false, false, false, false, false, false, false, false, false] rfl rfl (any_of HT_.out (by kernel_rfl)) (fun _ _ _ h => h) (Or.inl ⟨by rfl, ?_⟩) ?_ ?_
          rotate_left
          ·intro w'
           go_simp; with_reducible rfl
          rotate_left
          ·simp only [Act.put, List.setIfInBounds_toArray, List.set_cons_zero, List.set_cons_succ, i64_w, i32_w]
           rfl
          refine pure_ (i := 7) (N := some 69) (v := ?_) (a' := ?_) #[true, true, true, true, true, true, true, true, false, false, false, false, false, false, false, false, false, false, false, false, false, false, false, false, false, false, false, false, false, false, false, false, false, false, false, false, false, false, false, false, false, false, false, false, false, false, false, false, false, false, false, false, false, false, false, false, false, false, false, false, false, false, false, false, false, false, false, false, false] rfl rfl (any_of HT_.out (by kernel_rfl)) (fun _ _ _ h => h) (Or.inl ⟨by rfl, ?_⟩) ?_ ?_
          rotate_left
          ·intro w'
           go_simp; with_reducible rfl
          rotate_left
          ·simp only [Act.put, List.setIfInBounds_toArray, List.set_cons_zero, List.set_cons_succ, i64_w, i32_w]
           rfl
          refine pure_ (i := 8) (N := some 70) (v := ?_) (a' := ?_) #[true, true, true, true, true, true, true, true, true, false, false, false, false, false, false, false, false, false, false, false, false, false, false, false, false, false, false, false, false, false, false, false, false, false, false, false, false, false, false, false, false, false, false, false, false, false, false, false, false, false, false, false, false, false, false, false, false, false, false, false, false, false, false, false, false, false, false, false, false] rfl rfl (any_of HT_.out (by kernel_rfl)) (fun _ _ _ h => h) (Or.inl ⟨by rfl, ?_⟩) ?_ ?_
          rotate_left
          ·intro w'
           go_simp; with_reducible rfl
          rotate_left
          ·simp only [Act.put, List.setIfInBounds_toArray, List.set_cons_zero, List.set_cons_succ, i64_w, i32_w]
           rfl
          refine pure_ (i := 9) (N := some 71) (v := ?_) (a' := ?_) #[true, true, true, true, true, true, true, true, true, true, false, false, false, false, false, false, false, false, false, false, false, false, false, false, false, false, false, false, false, false, false, false, false, false, false, false, false, false, false, false, false, false, false, false, false, false, false, false, false, false, false, false, false, false, false, false, false, false, false, false, false, false, false, false, false, false, false, false, false] rfl rfl (any_of HT_.out (by kernel_rfl)) (fun _ _ _ h => h) (Or.inl ⟨by rfl, ?_⟩) ?_ ?_
          rotate_left
          ·intro w'
           go_simp; with_reducible rfl
          rotate_left
          ·simp only [Act.put, List.setIfInBounds_toArray, List.set_cons_zero, List.set_cons_succ, i64_w, i32_w]
           rfl
          refine pure_ (i := 10) (N := some 72) (v := ?_) (a' := ?_) #[true, true, true, true, true, true, true, true, true, true, true, false, false, false, false, false, false, false, false, false, false, false, false, false, false, false, false, false, false, false, false, false, false, false, false, false, false, false, false, false, false, false, false, false, false, false, false, false, false, false, false, false, false, false, false, false, false, false, false, false, false, false, false, false, false, false, false, false, false] rfl rfl (any_of HT_.out (by kernel_rfl)) (fun _ _ _ h => h) (Or.inl ⟨by rfl, ?_⟩) ?_ ?_
          rotate_left
          ·intro w'
           go_simp; with_reducible rfl
          rotate_left
          ·simp only [Act.put, List.setIfInBounds_toArray, List.set_cons_zero, List.set_cons_succ, i64_w, i32_w]
           rfl
          refine pure_ (i := 11) (N := some 73) (v := ?_) (a' := ?_) #[true, true, true, true, true, true, true, true, true, true, true, true, false, false, false, false, false, false, false, false, false, false, false, false, false, false, false, false, false, false, false, false, false, false, false, false, false, false, false, false, false, false, false, false, false, false, false, false, false, false, false, false, false, false, false, false, false, false, false, false, false, false, false, false, false, false, false, false, false] rfl rfl (any_of HT_.out (by kernel_rfl)) (fun _ _ _ h => h) (Or.inl ⟨by rfl, ?_⟩) ?_ ?_
          rotate_left
          ·intro w'
           go_simp; with_reducible rfl
          rotate_left
          ·simp only [Act.put, List.setIfInBounds_toArray, List.set_cons_zero, List.set_cons_succ, i64_w, i32_w]
           rfl
          refine pure_ (i := 12) (N := some 74) (v := ?_) (a' := ?_) #[true, true, true, true, true, true, true, true, true, true, true, true, true, false, false, false, false, false, false, false, false, false, false, false, false, false, false, false, false, false, false, false, false, false, false, false, false, false, false, false, false, false, false, false, false, false, false, false, false, false, false, false, false, false, false, false, false, false, false, false, false, false, false, false, false, false, false, false, false] rfl rfl (any_of HT_.out (by kernel_rfl)) (fun _ _ _ h => h) (Or.inl ⟨by rfl, ?_⟩) ?_ ?_
          rotate_left
          ·intro w'
           go_simp; with_reducible rfl
          rotate_left
          ·simp only [Act.put, List.setIfInBounds_toArray, List.set_cons_zero, List.set_cons_succ, i64_w, i32_w]
           rfl
          refine take_ (i := 13) (N := some 75) (v := ?_) (a' := ?_) #[true, true, true, true, true, true, true, true, true, true, true, true, true, true, false, false, false, false, false, false, false, false, false, false, false, false, false, false, false, false, false, false, false, false, false, false, false, false, false, false, false, false, false, false, false, false, false, false, false, false, false, false, false, false, false, false, false, false, false, false, false, false, false, false, false, false, false, false, false] rfl rfl (take_ofW HT_.out HW_.out (by kernel_rfl)) (fun _ _ _ h => h) (Or.inl ⟨by rfl, ?_⟩) hHeld ?_ ?_
          rotate_left
          ·rintro w' ⟨s0, s1, s2, s3, s4, s5, s6, s7, s8, s9, s10, s11, s12, s13, s14, s15⟩
           go_simp; with_reducible rfl
          rotate_left
          ·simp only [Act.put, List.setIfInBounds_toArray, List.set_cons_zero, List.set_cons_succ, i64_w, i32_w]
           rfl
          refine take_ (i := 14) (N := some 76) (v := ?_) (a' := ?_) #[true, true, true, true, true, true, true, true, true, true, true, true, true, true, true, false, false, false, false, false, false, false, false, false, false, false, false, false, false, false, false, false, false, false, false, false, false, false, false, false, false, false, false, false, false, false, false, false, false, false, false, false, false, false, false, false, false, false, false, false, false, false, false, false, false, false, false, false, false] rfl rfl (take_ofW HT_.out HW_.out (by kernel_rfl)) (fun _ _ _ h => h) (Or.inl ⟨by rfl, ?_⟩) hHeld ?_ ?_
          rotate_left
          ·rintro w' ⟨s0, s1, s2, s3, s4, s5, s6, s7, s8, s9, s10, s11, s12, s13, s14, s15⟩
           go_simp; with_reducible rfl
          rotate_left
          ·simp only [Act.put, List.setIfInBounds_toArray, List.set_cons_zero, List.set_cons_succ, i64_w, i32_w]
           rfl
          refine one_ (i := 15) (N := some 77) #[true, true, true, true, true, true, true, true, true, true, true, true, true, true, true, true, false, false, false, false, false, false, false, false, false, false, false, false, false, false, false, false, false, false, false, false, false, false, false, false, false, false, false, false, false, false, false, false, false, false, false, false, false, false, false, false, false, false, false, false, false, false, false, false, false, false, false, false, false] rfl rfl (one_of HT_.out (by kernel_rfl)) (by decide) (fun K hK => ?_)
          refine goes_ Try.func17 (by kernel_rfl) rfl #[.agg #[.int .u64 t230, .int .u64 t231]] (by rfl) rfl rfl aA ?_
          with_reducible refine (backfilllaw01_num.calls t230 t231 t242 t243 _ A19.out).mono ?_
          rintro e w92 ⟨rfl, hb⟩
          refine ⟨_, rfl, ?_⟩; have n0_ := Aside0.mk (blk_below (g := gb203) (o := .cells #[.int .u64 a0_0, .int .u64 a0_1] 25 (0, 0)) kA hb); have n1_ := Aside0.mk (blk_below (g := gb204) (o := .cells #[.int .u64 a1_0, .int .u64 a1_1] 25 (0, 0)) kA hb); have n2_ := Aside0.mk (blk_below (g := gb209) (o := .cells #[.int .u64 t206, .int .u64 t207] 25 (0, 0)) kA hb); have n3_ := Aside0.mk (blk_below (g := gb213) (o := .cells #[.int .u64 t210, .int .u64 t211] 25 (0, 0)) kA hb); have n4_ := Aside0.mk (blk_below (g := gb217) (o := .cells #[.int .u64 t214, .int .u64 t215] 25 (0, 0)) kA hb); have n5_ := Aside0.mk (blk_below (g := gb225) (o := .cells #[.int .u64 t222, .int .u64 t223] 28 (0, 0)) kA hb); have n6_ := Aside0.mk (blk_below (g := gb233) (o := .cells #[.int .u64 t230, .int .u64 t231] 28 (0, 0)) kA hb); have n7_ := Aside0.mk (blk_below (g := gb239) (o := .cells #[.int .u64 t236, .int .u64 t237] 28 (0, 0)) kA hb); have n8_ := Aside0.mk (below_step bA hb); clear BK203 BK204 BK209 BK213 BK217 BK225 BK233 BK239 HB; have BK203 := n0_; have BK204 := n1_; have BK209 := n2_; have BK213 := n3_; have BK217 := n4_; have BK225 := n5_; have BK233 := n6_; have BK239 := n7_; have HB := n8_; clear n0_ n1_ n2_ n3_ n4_ n5_ n6_ n7_ n8_; (try clear hb)
          refine hK.out _ _ ⟨(blk_cell BK209.out 0).trans rfl, (blk_cell BK209.out 1).trans rfl, (blk_cell BK225.out 0).trans rfl, (blk_cell BK225.out 1).trans rfl, (blk_cell BK213.out 0).trans rfl, (blk_cell BK213.out 1).trans rfl, (blk_cell BK233.out 0).trans rfl, (blk_cell BK233.out 1).trans rfl, (blk_cell BK217.out 0).trans rfl, (blk_cell BK217.out 1).trans rfl, (blk_cell BK239.out 0).trans rfl, (blk_cell BK239.out 1).trans rfl, (blk_cell BK203.out 0).trans rfl, (blk_cell BK203.out 1).trans rfl, (blk_cell BK204.out 0).trans rfl, (blk_cell BK204.out 1).trans rfl⟩ (fun hHeld => ?_)
          clear hK K
          refine norm_ (a' := ?_) ?_ ?_
          rotate_left
          ·show Act.put _ (some 77) _ = _
           simp only [Act.put, List.setIfInBounds_toArray, List.set_cons_zero, List.set_cons_succ, i64_w, i32_w]
           rfl
          refine pure_ (i := 16) (N := some 78) (v := ?_) (a' := ?_) #[true, true, true, true, true, true, true, true, true, true, true, true, true, true, true, true, true, false, false, false, false, false, false, false, false, false, false, false, false, false, false, false, false, false, false, false, false, false, false, false, false, false, false, false, false, false, false, false, false, false, false, false, false, false, false, false, false, false, false, false, false, false, false, false, false, false, false, false, false] rfl rfl (any_of HT_.out (by kernel_rfl)) (fun _ _ _ h => h) (Or.inl ⟨by rfl, ?_⟩) ?_ ?_
          rotate_left
          ·intro w'
           go_simp; with_reducible rfl
          rotate_left
          ·simp only [Act.put, List.setIfInBounds_toArray, List.set_cons_zero, List.set_cons_succ, i64_w, i32_w]
           rfl
          refine pure_ (i := 17) (N := some 79) (v := ?_) (a' := ?_) #[true, true, true, true, true, true, true, true, true, true, true, true, true, true, true, true, true, true, false, false, false, false, false, false, false, false, false, false, false, false, false, false, false, false, false, false, false, false, false, false, false, false, false, false, false, false, false, false, false, false, false, false, false, false, false, false, false, false, false, false, false, false, false, false, false, false, false, false, false] rfl rfl (any_of HT_.out (by kernel_rfl)) (fun _ _ _ h => h) (Or.inl ⟨by rfl, ?_⟩) ?_ ?_
          rotate_left
          ·intro w'
           go_simp; with_reducible rfl
          rotate_left
          ·simp only [Act.put, List.setIfInBounds_toArray, List.set_cons_zero, List.set_cons_succ, i64_w, i32_w]
           rfl
          refine pure_ (i := 18) (N := some 80) (v := ?_) (a' := ?_) #[true, true, true, true, true, true, true, true, true, true, true, true, true, true, true, true, true, true, true, false, false, false, false, false, false, false, false, false, false, false, false, false, false, false, false, false, false, false, false, false, false, false, false, false, false, false, false, false, false, false, false, false, false, false, false, false, false, false, false, false, false, false, false, false, false, false, false, false, false] rfl rfl (any_of HT_.out (by kernel_rfl)) (fun _ _ _ h => h) (Or.inl ⟨by rfl, ?_⟩) ?_ ?_
          rotate_left
          ·intro w'
           go_simp; with_reducible rfl
          rotate_left
          ·simp only [Act.put, List.setIfInBounds_toArray, List.set_cons_zero, List.set_cons_succ, i64_w, i32_w]
           rfl
          refine pure_ (i := 19) (N := some 81) (v := ?_) (a' := ?_) #[true, true, true, true, true, true, true, true, true, true, true, true, true, true, true, true, true, true, true, true, false, false, false, false, false, false, false, false, false, false, false, false, false, false, false, false, false, false, false, false, false, false, false, false, false, false, false, false, false, false, false, false, false, false, false, false, false, false, false, false, false, false, false, false, false, false, false, false, false] rfl rfl (any_of HT_.out (by kernel_rfl)) (fun _ _ _ h => h) (Or.inl ⟨by rfl, ?_⟩) ?_ ?_
          rotate_left
          ·intro w'
           go_simp; with_reducible rfl
          rotate_left
          ·simp only [Act.put, List.setIfInBounds_toArray, List.set_cons_zero, List.set_cons_succ, i64_w, i32_w]
           rfl
          refine pure_ (i := 20) (N := some 82) (v := ?_) (a' := ?_) #[true, true, true, true, true, true, true, true, true, true, true, true, true, true, true, true, true, true, true, true, true, false, false, false, false, false, false, false, false, false, false, false, false, false, false, false, false, false, false, false, false, false, false, false, false, false, false, false, false, false, false, false, false, false, false, false, false, false, false, false, false, false, false, false, false, false, false, false, false] rfl rfl (any_of HT_.out (by kernel_rfl)) (fun _ _ _ h => h) (Or.inl ⟨by rfl, ?_⟩) ?_ ?_
          rotate_left
          ·intro w'
           go_simp; with_reducible rfl
          rotate_left
          ·simp only [Act.put, List.setIfInBounds_toArray, List.set_cons_zero, List.set_cons_succ, i64_w, i32_w]
           rfl
          refine pure_ (i := 21) (N := some 83) (v := ?_) (a' := ?_) #[true, true, true, true, true, true, true, true, true, true, true, true, true, true, true, true, true, true, true, true, true, true, false, false, false, false, false, false, false, false, false, false, false, false, false, false, false, false, false, false, false, false, false, false, false, false, false, false, false, false, false, false, false, false, false, false, false, false, false, false, false, false, false, false, false, false, false, false, false] rfl rfl (any_of HT_.out (by kernel_rfl)) (fun _ _ _ h => h) (Or.inl ⟨by rfl, ?_⟩) ?_ ?_
          rotate_left
          ·intro w'
           go_simp; with_reducible rfl
          rotate_left
          ·simp only [Act.put, List.setIfInBounds_toArray, List.set_cons_zero, List.set_cons_succ, i64_w, i32_w]
           rfl
          refine pure_ (i := 22) (N := some 84) (v := ?_) (a' := ?_) #[true, true, true, true, true, true, true, true, true, true, true, true, true, true, true, true, true, true, true, true, true, true, true, false, false, false, false, false, false, false, false, false, false, false, false, false, false, false, false, false, false, false, false, false, false, false, false, false, false, false, false, false, false, false, false, false, false, false, false, false, false, false, false, false, false, false, false, false, false] rfl rfl (any_of HT_.out (by kernel_rfl)) (fun _ _ _ h => h) (Or.inl ⟨by rfl, ?_⟩) ?_ ?_
          rotate_left
          ·intro w'
           go_simp; with_reducible rfl
          rotate_left
          ·simp only [Act.put, List.setIfInBounds_toArray, List.set_cons_zero, List.set_cons_succ, i64_w, i32_w]
           rfl
          refine pure_ (i := 23) (N := some 85) (v := ?_) (a' := ?_) #[true, true, true, true, true, true, true, true, true, true, true, true, true, true, true, true, true, true, true, true, true, true, true, true, false, false, false, false, false, false, false, false, false, false, false, false, false, false, false, false, false, false, false, false, false, false, false, false, false, false, false, false, false, false, false, false, false, false, false, false, false, false, false, false, false, false, false, false, false] rfl rfl (any_of HT_.out (by kernel_rfl)) (fun _ _ _ h => h) (Or.inl ⟨by rfl, ?_⟩) ?_ ?_
          rotate_left
          ·intro w'
           go_simp; with_reducible rfl
          rotate_left
          ·simp only [Act.put, List.setIfInBounds_toArray, List.set_cons_zero, List.set_cons_succ, i64_w, i32_w]
           rfl
          refine take_ (i := 24) (N := some 86) (v := ?_) (a' := ?_) #[true, true, true, true, true, true, true, true, true, true, true, true, true, true, true, true, true, true, true, true, true, true, true, true, true, false, false, false, false, false, false, false, false, false, false, false, false, false, false, false, false, false, false, false, false, false, false, false, false, false, false, false, false, false, false, false, false, false, false, false, false, false, false, false, false, false, false, false, false] rfl rfl (take_ofW HT_.out HW_.out (by kernel_rfl)) (fun _ _ _ h => h) (Or.inl ⟨by rfl, ?_⟩) hHeld ?_ ?_
          rotate_left
          ·rintro w' ⟨s0, s1, s2, s3, s4, s5, s6, s7, s8, s9, s10, s11, s12, s13, s14, s15⟩
           go_simp; with_reducible rfl
          rotate_left
          ·simp only [Act.put, List.setIfInBounds_toArray, List.set_cons_zero, List.set_cons_succ, i64_w, i32_w]
           rfl
          refine take_ (i := 25) (N := some 87) (v := ?_) (a' := ?_) #[true, true, true, true, true, true, true, true, true, true, true, true, true, true, true, true, true, true, true, true, true, true, true, true, true, true, false, false, false, false, false, false, false, false, false, false, false, false, false, false, false, false, false, false, false, false, false, false, false, false, false, false, false, false, false, false, false, false, false, false, false, false, false, false, false, false, false, false, false] rfl rfl (take_ofW HT_.out HW_.out (by kernel_rfl)) (fun _ _ _ h => h) (Or.inl ⟨by rfl, ?_⟩) hHeld ?_ ?_
          rotate_left
          ·rintro w' ⟨s0, s1, s2, s3, s4, s5, s6, s7, s8, s9, s10, s11, s12, s13, s14, s15⟩
           go_simp; with_reducible rfl
          rotate_left
          ·simp only [Act.put, List.setIfInBounds_toArray, List.set_cons_zero, List.set_cons_succ, i64_w, i32_w]
           rfl
          refine one_ (i := 26) (N := some 88) #[true, true, true, true, true, true, true, true, true, true, true, true, true, true, true, true, true, true, true, true, true, true, true, true, true, true, true, false, false, false, false, false, false, false, false, false, false, false, false, false, false, false, false, false, false, false, false, false, false, false, false, false, false, false, false, false, false, false, false, false, false, false, false, false, false, false, false, false, false] rfl rfl (one_of HT_.out (by kernel_rfl)) (by decide) (fun K hK => ?_)
          refine goes_ Try.func17 (by kernel_rfl) rfl #[.agg #[.int .u64 t236, .int .u64 t237]] (by rfl) rfl rfl aA ?_
          with_reducible refine (backfilllaw01_num.calls t236 t237 t244 t245 _ A22.out).mono ?_
          rintro e w93 ⟨rfl, hb⟩
          refine ⟨_, rfl, ?_⟩; have n0_ := Aside0.mk (blk_below (g := gb203) (o := .cells #[.int .u64 a0_0, .int .u64 a0_1] 25 (0, 0)) kA hb); have n1_ := Aside0.mk (blk_below (g := gb204) (o := .cells #[.int .u64 a1_0, .int .u64 a1_1] 25 (0, 0)) kA hb); have n2_ := Aside0.mk (blk_below (g := gb209) (o := .cells #[.int .u64 t206, .int .u64 t207] 25 (0, 0)) kA hb); have n3_ := Aside0.mk (blk_below (g := gb213) (o := .cells #[.int .u64 t210, .int .u64 t211] 25 (0, 0)) kA hb); have n4_ := Aside0.mk (blk_below (g := gb217) (o := .cells #[.int .u64 t214, .int .u64 t215] 25 (0, 0)) kA hb); have n5_ := Aside0.mk (blk_below (g := gb225) (o := .cells #[.int .u64 t222, .int .u64 t223] 28 (0, 0)) kA hb); have n6_ := Aside0.mk (blk_below (g := gb233) (o := .cells #[.int .u64 t230, .int .u64 t231] 28 (0, 0)) kA hb); have n7_ := Aside0.mk (blk_below (g := gb239) (o := .cells #[.int .u64 t236, .int .u64 t237] 28 (0, 0)) kA hb); have n8_ := Aside0.mk (below_step bA hb); clear BK203 BK204 BK209 BK213 BK217 BK225 BK233 BK239 HB; have BK203 := n0_; have BK204 := n1_; have BK209 := n2_; have BK213 := n3_; have BK217 := n4_; have BK225 := n5_; have BK233 := n6_; have BK239 := n7_; have HB := n8_; clear n0_ n1_ n2_ n3_ n4_ n5_ n6_ n7_ n8_; (try clear hb)
          refine hK.out _ _ ⟨(blk_cell BK209.out 0).trans rfl, (blk_cell BK209.out 1).trans rfl, (blk_cell BK225.out 0).trans rfl, (blk_cell BK225.out 1).trans rfl, (blk_cell BK213.out 0).trans rfl, (blk_cell BK213.out 1).trans rfl, (blk_cell BK233.out 0).trans rfl, (blk_cell BK233.out 1).trans rfl, (blk_cell BK217.out 0).trans rfl, (blk_cell BK217.out 1).trans rfl, (blk_cell BK239.out 0).trans rfl, (blk_cell BK239.out 1).trans rfl, (blk_cell BK203.out 0).trans rfl, (blk_cell BK203.out 1).trans rfl, (blk_cell BK204.out 0).trans rfl, (blk_cell BK204.out 1).trans rfl⟩ (fun hHeld => ?_)
          clear hK K
          refine norm_ (a' := ?_) ?_ ?_
          rotate_left
          ·show Act.put _ (some 88) _ = _
           simp only [Act.put, List.setIfInBounds_toArray, List.set_cons_zero, List.set_cons_succ, i64_w, i32_w]
           rfl
          refine pure_ (i := 27) (N := some 89) (v := ?_) (a' := ?_) #[true, true, true, true, true, true, true, true, true, true, true, true, true, true, true, true, true, true, true, true, true, true, true, true, true, true, true, true, false, false, false, false, false, false, false, false, false, false, false, false, false, false, false, false, false, false, false, false, false, false, false, false, false, false, false, false, false, false, false, false, false, false, false, false, false, false, false, false, false] rfl rfl (any_of HT_.out (by kernel_rfl)) (fun _ _ _ h => h) (Or.inl ⟨by rfl, ?_⟩) ?_ ?_
          rotate_left
          ·intro w'
           go_simp; with_reducible rfl
          rotate_left
          ·simp only [Act.put, List.setIfInBounds_toArray, List.set_cons_zero, List.set_cons_succ, i64_w, i32_w]
           rfl
          refine pure_ (i := 28) (N := some 90) (v := ?_) (a' := ?_) #[true, true, true, true, true, true, true, true, true, true, true, true, true, true, true, true, true, true, true, true, true, true, true, true, true, true, true, true, true, false, false, false, false, false, false, false, false, false, false, false, false, false, false, false, false, false, false, false, false, false, false, false, false, false, false, false, false, false, false, false, false, false, false, false, false, false, false, false, false] rfl rfl (any_of HT_.out (by kernel_rfl)) (fun _ _ _ h => h) (Or.inl ⟨by rfl, ?_⟩) ?_ ?_
          rotate_left
          ·intro w'
           go_simp; with_reducible rfl
          rotate_left
          ·simp only [Act.put, List.setIfInBounds_toArray, List.set_cons_zero, List.set_cons_succ, i64_w, i32_w]
           rfl
          refine pure_ (i := 29) (N := some 91) (v := ?_) (a' := ?_) #[true, true, true, true, true, true, true, true, true, true, true, true, true, true, true, true, true, true, true, true, true, true, true, true, true, true, true, true, true, true, false, false, false, false, false, false, false, false, false, false, false, false, false, false, false, false, false, false, false, false, false, false, false, false, false, false, false, false, false, false, false, false, false, false, false, false, false, false, false] rfl rfl (any_of HT_.out (by kernel_rfl)) (fun _ _ _ h => h) (Or.inl ⟨by rfl, ?_⟩) ?_ ?_
          rotate_left
          ·intro w'
           go_simp; with_reducible rfl
          rotate_left
          ·simp only [Act.put, List.setIfInBounds_toArray, List.set_cons_zero, List.set_cons_succ, i64_w, i32_w]
           rfl
          refine pure_ (i := 30) (N := some 92) (v := ?_) (a' := ?_) #[true, true, true, true, true, true, true, true, true, true, true, true, true, true, true, true, true, true, true, true, true, true, true, true, true, true, true, true, true, true, true, false, false, false, false, false, false, false, false, false, false, false, false, false, false, false, false, false, false, false, false, false, false, false, false, false, false, false, false, false, false, false, false, false, false, false, false, false, false] rfl rfl (any_of HT_.out (by kernel_rfl)) (fun _ _ _ h => h) (Or.inl ⟨by rfl, ?_⟩) ?_ ?_
          rotate_left
          ·intro w'
           go_simp; with_reducible rfl
          rotate_left
          ·simp only [Act.put, List.setIfInBounds_toArray, List.set_cons_zero, List.set_cons_succ, i64_w, i32_w]
           rfl
          refine pure_ (i := 31) (N := some 93) (v := ?_) (a' := ?_) #[true, true, true, true, true, true, true, true, true, true, true, true, true, true, true, true, true, true, true, true, true, true, true, true, true, true, true, true, true, true, true, true, false, false, false, false, false, false, false, false, false, false, false, false, false, false, false, false, false, false, false, false, false, false, false, false, false, false, false, false, false, false, false, false, false, false, false, false, false] rfl rfl (any_of HT_.out (by kernel_rfl)) (fun _ _ _ h => h) (Or.inl ⟨by rfl, ?_⟩) ?_ ?_
          rotate_left
          ·intro w'
           go_simp; with_reducible rfl
          rotate_left
          ·simp only [Act.put, List.setIfInBounds_toArray, List.set_cons_zero, List.set_cons_succ, i64_w, i32_w]
           rfl
          refine pure_ (i := 32) (N := some 94) (v := ?_) (a' := ?_) #[true, true, true, true, true, true, true, true, true, true, true, true, true, true, true, true, true, true, true, true, true, true, true, true, true, true, true, true, true, true, true, true, true, false, false, false, false, false, false, false, false, false, false, false, false, false, false, false, false, false, false, false, false, false, false, false, false, false, false, false, false, false, false, false, false, false, false, false, false] rfl rfl (any_of HT_.out (by kernel_rfl)) (fun _ _ _ h => h) (Or.inl ⟨by rfl, ?_⟩) ?_ ?_
          rotate_left
          ·intro w'
           go_simp; with_reducible rfl
          rotate_left
          ·simp only [Act.put, List.setIfInBounds_toArray, List.set_cons_zero, List.set_cons_succ, i64_w, i32_w]
           rfl
          refine pure_ (i := 33) (N := some 95) (v := ?_) (a' := ?_) #[true, true, true, true, true, true, true, true, true, true, true, true, true, true, true, true, true, true, true, true, true, true, true, true, true, true, true, true, true, true, true, true, true, true, false, false, false, false, false, false, false, false, false, false, false, false, false, false, false, false, false, false, false, false, false, false, false, false, false, false, false, false, false, false, false, false, false, false, false] rfl rfl (any_of HT_.out (by kernel_rfl)) (fun _ _ _ h => h) (Or.inl ⟨by rfl, ?_⟩) ?_ ?_
          rotate_left
          ·intro w'
           go_simp; with_reducible rfl
          rotate_left
          ·simp only [Act.put, List.setIfInBounds_toArray, List.set_cons_zero, List.set_cons_succ, i64_w, i32_w]
           rfl
          refine pure_ (i := 34) (N := some 96) (v := ?_) (a' := ?_) #[true, true, true, true, true, true, true, true, true, true, true, true, true, true, true, true, true, true, true, true, true, true, true, true, true, true, true, true, true, true, true, true, true, true, true, false, false, false, false, false, false, false, false, false, false, false, false, false, false, false, false, false, false, false, false, false, false, false, false, false, false, false, false, false, false, false, false, false, false] rfl rfl (any_of HT_.out (by kernel_rfl)) (fun _ _ _ h => h) (Or.inl ⟨by rfl, ?_⟩) ?_ ?_
          rotate_left
          ·intro w'
           go_simp; with_reducible rfl
          rotate_left
          ·simp only [Act.put, List.setIfInBounds_toArray, List.set_cons_zero, List.set_cons_succ, i64_w, i32_w]
           rfl
          refine take_ (i := 35) (N := some 97) (v := ?_) (a' := ?_) #[true, true, true, true, true, true, true, true, true, true, true, true, true, true, true, true, true, true, true, true, true, true, true, true, true, true, true, true, true, true, true, true, true, true, true, true, false, false, false, false, false, false, false, false, false, false, false, false, false, false, false, false, false, false, false, false, false, false, false, false, false, false, false, false, false, false, false, false, false] rfl rfl (take_ofW HT_.out HW_.out (by kernel_rfl)) (fun _ _ _ h => h) (Or.inl ⟨by rfl, ?_⟩) hHeld ?_ ?_
          rotate_left
          ·rintro w' ⟨s0, s1, s2, s3, s4, s5, s6, s7, s8, s9, s10, s11, s12, s13, s14, s15⟩
           go_simp; with_reducible rfl
          rotate_left
          ·simp only [Act.put, List.setIfInBounds_toArray, List.set_cons_zero, List.set_cons_succ, i64_w, i32_w]
           rfl
          refine take_ (i := 36) (N := some 98) (v := ?_) (a' := ?_) #[true, true, true, true, true, true, true, true, true, true, true, true, true, true, true, true, true, true, true, true, true, true, true, true, true, true, true, true, true, true, true, true, true, true, true, true, true, false, false, false, false, false, false, false, false, false, false, false, false, false, false, false, false, false, false, false, false, false, false, false, false, false, false, false, false, false, false, false, false] rfl rfl (take_ofW HT_.out HW_.out (by kernel_rfl)) (fun _ _ _ h => h) (Or.inl ⟨by rfl, ?_⟩) hHeld ?_ ?_
          rotate_left
          ·rintro w' ⟨s0, s1, s2, s3, s4, s5, s6, s7, s8, s9, s10, s11, s12, s13, s14, s15⟩
           go_simp; with_reducible rfl
          rotate_left
          ·simp only [Act.put, List.setIfInBounds_toArray, List.set_cons_zero, List.set_cons_succ, i64_w, i32_w]
           rfl
          refine take_ (i := 38) (N := some 100) (v := ?_) (a' := ?_) #[true, true, true, true, true, true, true, true, true, true, true, true, true, true, true, true, true, true, true, true, true, true, true, true, true, true, true, true, true, true, true, true, true, true, true, true, true, false, true, false, false, false, false, false, false, false, false, false, false, false, false, false, false, false, false, false, false, false, false, false, false, false, false, false, false, false, false, false, false] rfl rfl (take_ofW HT_.out HW_.out (by kernel_rfl)) (fun _ _ _ h => h) (Or.inl ⟨by rfl, ?_⟩) hHeld ?_ ?_
          rotate_left
          ·rintro w' ⟨s0, s1, s2, s3, s4, s5, s6, s7, s8, s9, s10, s11, s12, s13, s14, s15⟩
           go_simp; with_reducible rfl
          rotate_left
          ·simp only [Act.put, List.setIfInBounds_toArray, List.set_cons_zero, List.set_cons_succ, i64_w, i32_w]
           rfl
          refine take_ (i := 40) (N := some 102) (v := ?_) (a' := ?_) #[true, true, true, true, true, true, true, true, true, true, true, true, true, true, true, true, true, true, true, true, true, true, true, true, true, true, true, true, true, true, true, true, true, true, true, true, true, false, true, false, true, false, false, false, false, false, false, false, false, false, false, false, false, false, false, false, false, false, false, false, false, false, false, false, false, false, false, false, false] rfl rfl (take_ofW HT_.out HW_.out (by kernel_rfl)) (fun _ _ _ h => h) (Or.inl ⟨by rfl, ?_⟩) hHeld ?_ ?_
          rotate_left
          ·rintro w' ⟨s0, s1, s2, s3, s4, s5, s6, s7, s8, s9, s10, s11, s12, s13, s14, s15⟩
           go_simp; with_reducible rfl
          rotate_left
          ·simp only [Act.put, List.setIfInBounds_toArray, List.set_cons_zero, List.set_cons_succ, i64_w, i32_w]
           rfl
          refine one_ (i := 37) (N := some 99) #[true, true, true, true, true, true, true, true, true, true, true, true, true, true, true, true, true, true, true, true, true, true, true, true, true, true, true, true, true, true, true, true, true, true, true, true, true, true, true, false, true, false, false, false, false, false, false, false, false, false, false, false, false, false, false, false, false, false, false, false, false, false, false, false, false, false, false, false, false] rfl rfl (one_of HT_.out (by kernel_rfl)) (by decide) (fun K hK => ?_)
          refine goes_ Try.func45 (by kernel_rfl) rfl #[.agg #[.int .u64 a0_0, .int .u64 a0_1], .agg #[.int .u64 a1_0, .int .u64 a1_1]] (by rfl) rfl rfl aA ?_
          with_reducible refine (wide_Cmp.calls a0_0 a0_1 a1_0 a1_1 t246 _ A25.out).mono ?_
          rintro e w94 ⟨rfl, hb⟩
          refine ⟨_, rfl, ?_⟩; have n0_ := Aside0.mk (blk_below (g := gb203) (o := .cells #[.int .u64 a0_0, .int .u64 a0_1] 25 (0, 0)) kA hb); have n1_ := Aside0.mk (blk_below (g := gb204) (o := .cells #[.int .u64 a1_0, .int .u64 a1_1] 25 (0, 0)) kA hb); have n2_ := Aside0.mk (blk_below (g := gb209) (o := .cells #[.int .u64 t206, .int .u64 t207] 25 (0, 0)) kA hb); have n3_ := Aside0.mk (blk_below (g := gb213) (o := .cells #[.int .u64 t210, .int .u64 t211] 25 (0, 0)) kA hb); have n4_ := Aside0.mk (blk_below (g := gb217) (o := .cells #[.int .u64 t214, .int .u64 t215] 25 (0, 0)) kA hb); have n5_ := Aside0.mk (blk_below (g := gb225) (o := .cells #[.int .u64 t222, .int .u64 t223] 28 (0, 0)) kA hb); have n6_ := Aside0.mk (blk_below (g := gb233) (o := .cells #[.int .u64 t230, .int .u64 t231] 28 (0, 0)) kA hb); have n7_ := Aside0.mk (blk_below (g := gb239) (o := .cells #[.int .u64 t236, .int .u64 t237] 28 (0, 0)) kA hb); have n8_ := Aside0.mk (below_step bA hb); clear BK203 BK204 BK209 BK213 BK217 BK225 BK233 BK239 HB; have BK203 := n0_; have BK204 := n1_; have BK209 := n2_; have BK213 := n3_; have BK217 := n4_; have BK225 := n5_; have BK233 := n6_; have BK239 := n7_; have HB := n8_; clear n0_ n1_ n2_ n3_ n4_ n5_ n6_ n7_ n8_; (try clear hb)
          refine hK.out _ _ ⟨(blk_cell BK209.out 0).trans rfl, (blk_cell BK209.out 1).trans rfl, (blk_cell BK225.out 0).trans rfl, (blk_cell BK225.out 1).trans rfl, (blk_cell BK213.out 0).trans rfl, (blk_cell BK213.out 1).trans rfl, (blk_cell BK233.out 0).trans rfl, (blk_cell BK233.out 1).trans rfl, (blk_cell BK217.out 0).trans rfl, (blk_cell BK217.out 1).trans rfl, (blk_cell BK239.out 0).trans rfl, (blk_cell BK239.out 1).trans rfl, (blk_cell BK203.out 0).trans rfl, (blk_cell BK203.out 1).trans rfl, (blk_cell BK204.out 0).trans rfl, (blk_cell BK204.out 1).trans rfl⟩ (fun hHeld => ?_)
          clear hK K
          refine norm_ (a' := ?_) ?_ ?_
          rotate_left
          ·show Act.put _ (some 99) _ = _
           simp only [Act.put, List.setIfInBounds_toArray, List.set_cons_zero, List.set_cons_succ, i64_w, i32_w]
           rfl
          refine one_ (i := 39) (N := some 101) #[true, true, true, true, true, true, true, true, true, true, true, true, true, true, true, true, true, true, true, true, true, true, true, true, true, true, true, true, true, true, true, true, true, true, true, true, true, true, true, true, true, false, false, false, false, false, false, false, false, false, false, false, false, false, false, false, false, false, false, false, false, false, false, false, false, false, false, false, false] rfl rfl (one_of HT_.out (by kernel_rfl)) (by decide) (fun K hK => ?_)
          refine goes_ Try.func16 (by kernel_rfl) rfl #[.agg #[.int .u64 a0_0, .int .u64 a0_1]] (by rfl) rfl rfl aA ?_
          with_reducible refine (backfilllaw01_ref.calls a0_0 a0_1 t247 t248 _ A26.out).mono ?_
          rintro e w95 ⟨rfl, hb⟩
          refine ⟨_, rfl, ?_⟩; have n0_ := Aside0.mk (blk_below (g := gb203) (o := .cells #[.int .u64 a0_0, .int .u64 a0_1] 25 (0, 0)) kA hb); have n1_ := Aside0.mk (blk_below (g := gb204) (o := .cells #[.int .u64 a1_0, .int .u64 a1_1] 25 (0, 0)) kA hb); have n2_ := Aside0.mk (blk_below (g := gb209) (o := .cells #[.int .u64 t206, .int .u64 t207] 25 (0, 0)) kA hb); have n3_ := Aside0.mk (blk_below (g := gb213) (o := .cells #[.int .u64 t210, .int .u64 t211] 25 (0, 0)) kA hb); have n4_ := Aside0.mk (blk_below (g := gb217) (o := .cells #[.int .u64 t214, .int .u64 t215] 25 (0, 0)) kA hb); have n5_ := Aside0.mk (blk_below (g := gb225) (o := .cells #[.int .u64 t222, .int .u64 t223] 28 (0, 0)) kA hb); have n6_ := Aside0.mk (blk_below (g := gb233) (o := .cells #[.int .u64 t230, .int .u64 t231] 28 (0, 0)) kA hb); have n7_ := Aside0.mk (blk_below (g := gb239) (o := .cells #[.int .u64 t236, .int .u64 t237] 28 (0, 0)) kA hb); have n8_ := Aside0.mk (below_step bA hb); clear BK203 BK204 BK209 BK213 BK217 BK225 BK233 BK239 HB; have BK203 := n0_; have BK204 := n1_; have BK209 := n2_; have BK213 := n3_; have BK217 := n4_; have BK225 := n5_; have BK233 := n6_; have BK239 := n7_; have HB := n8_; clear n0_ n1_ n2_ n3_ n4_ n5_ n6_ n7_ n8_; (try clear hb)
          refine hK.out _ _ ⟨(blk_cell BK209.out 0).trans rfl, (blk_cell BK209.out 1).trans rfl, (blk_cell BK225.out 0).trans rfl, (blk_cell BK225.out 1).trans rfl, (blk_cell BK213.out 0).trans rfl, (blk_cell BK213.out 1).trans rfl, (blk_cell BK233.out 0).trans rfl, (blk_cell BK233.out 1).trans rfl, (blk_cell BK217.out 0).trans rfl, (blk_cell BK217.out 1).trans rfl, (blk_cell BK239.out 0).trans rfl, (blk_cell BK239.out 1).trans rfl, (blk_cell BK203.out 0).trans rfl, (blk_cell BK203.out 1).trans rfl, (blk_cell BK204.out 0).trans rfl, (blk_cell BK204.out 1).trans rfl⟩ (fun hHeld => ?_)
          clear hK K
          refine norm_ (a' := ?_) ?_ ?_
          rotate_left
          ·show Act.put _ (some 101) _ = _
           simp only [Act.put, List.setIfInBounds_toArray, List.set_cons_zero, List.set_cons_succ, i64_w, i32_w]
           rfl
          refine one_ (i := 41) (N := some 103) #[true, true, true, true, true, true, true, true, true, true, true, true, true, true, true, true, true, true, true, true, true, true, true, true, true, true, true, true, true, true, true, true, true, true, true, true, true, true, true, true, true, true, false, false, false, false, false, false, false, false, false, false, false, false, false, false, false, false, false, false, false, false, false, false, false, false, false, false, false] rfl rfl (one_of HT_.out (by kernel_rfl)) (by decide) (fun K hK => ?_)
          refine goes_ Try.func16 (by kernel_rfl) rfl #[.agg #[.int .u64 a1_0, .int .u64 a1_1]] (by rfl) rfl rfl aA ?_
          with_reducible refine (backfilllaw01_ref.calls a1_0 a1_1 t249 t250 _ A27.out).mono ?_
          rintro e w96 ⟨rfl, hb⟩
          refine ⟨_, rfl, ?_⟩; have n0_ := Aside0.mk (blk_below (g := gb203) (o := .cells #[.int .u64 a0_0, .int .u64 a0_1] 25 (0, 0)) kA hb); have n1_ := Aside0.mk (blk_below (g := gb204) (o := .cells #[.int .u64 a1_0, .int .u64 a1_1] 25 (0, 0)) kA hb); have n2_ := Aside0.mk (blk_below (g := gb209) (o := .cells #[.int .u64 t206, .int .u64 t207] 25 (0, 0)) kA hb); have n3_ := Aside0.mk (blk_below (g := gb213) (o := .cells #[.int .u64 t210, .int .u64 t211] 25 (0, 0)) kA hb); have n4_ := Aside0.mk (blk_below (g := gb217) (o := .cells #[.int .u64 t214, .int .u64 t215] 25 (0, 0)) kA hb); have n5_ := Aside0.mk (blk_below (g := gb225) (o := .cells #[.int .u64 t222, .int .u64 t223] 28 (0, 0)) kA hb); have n6_ := Aside0.mk (blk_below (g := gb233) (o := .cells #[.int .u64 t230, .int .u64 t231] 28 (0, 0)) kA hb); have n7_ := Aside0.mk (blk_below (g := gb239) (o := .cells #[.int .u64 t236, .int .u64 t237] 28 (0, 0)) kA hb); have n8_ := Aside0.mk (below_step bA hb); clear BK203 BK204 BK209 BK213 BK217 BK225 BK233 BK239 HB; have BK203 := n0_; have BK204 := n1_; have BK209 := n2_; have BK213 := n3_; have BK217 := n4_; have BK225 := n5_; have BK233 := n6_; have BK239 := n7_; have HB := n8_; clear n0_ n1_ n2_ n3_ n4_ n5_ n6_ n7_ n8_; (try clear hb)
          refine hK.out _ _ ⟨(blk_cell BK209.out 0).trans rfl, (blk_cell BK209.out 1).trans rfl, (blk_cell BK225.out 0).trans rfl, (blk_cell BK225.out 1).trans rfl, (blk_cell BK213.out 0).trans rfl, (blk_cell BK213.out 1).trans rfl, (blk_cell BK233.out 0).trans rfl, (blk_cell BK233.out 1).trans rfl, (blk_cell BK217.out 0).trans rfl, (blk_cell BK217.out 1).trans rfl, (blk_cell BK239.out 0).trans rfl, (blk_cell BK239.out 1).trans rfl, (blk_cell BK203.out 0).trans rfl, (blk_cell BK203.out 1).trans rfl, (blk_cell BK204.out 0).trans rfl, (blk_cell BK204.out 1).trans rfl⟩ (fun hHeld => ?_)
          clear hK K
          refine norm_ (a' := ?_) ?_ ?_
          rotate_left
          ·show Act.put _ (some 103) _ = _
           simp only [Act.put, List.setIfInBounds_toArray, List.set_cons_zero, List.set_cons_succ, i64_w, i32_w]
           rfl
          refine one_ (i := 42) (N := some 104) #[true, true, true, true, true, true, true, true, true, true, true, true, true, true, true, true, true, true, true, true, true, true, true, true, true, true, true, true, true, true, true, true, true, true, true, true, true, true, true, true, true, true, true, false, false, false, false, false, false, false, false, false, false, false, false, false, false, false, false, false, false, false, false, false, false, false, false, false, false] rfl rfl (one_of HT_.out (by kernel_rfl)) (by decide) (fun K hK => ?_)
          refine goes_ Try.func39 (by kernel_rfl) rfl #[.agg #[.int .u64 t247, .int .u64 t248], .agg #[.int .u64 t249, .int .u64 t250]] (by rfl) rfl rfl aA ?_
          with_reducible refine (backfillref01_Cmp.calls k t247 t248 t249 t250 t251 _ A28.out).mono ?_
          rintro e w97 ⟨rfl, hb⟩
          refine ⟨_, rfl, ?_⟩; have n0_ := Aside0.mk (blk_below (g := gb203) (o := .cells #[.int .u64 a0_0, .int .u64 a0_1] 25 (0, 0)) kA hb); have n1_ := Aside0.mk (blk_below (g := gb204) (o := .cells #[.int .u64 a1_0, .int .u64 a1_1] 25 (0, 0)) kA hb); have n2_ := Aside0.mk (blk_below (g := gb209) (o := .cells #[.int .u64 t206, .int .u64 t207] 25 (0, 0)) kA hb); have n3_ := Aside0.mk (blk_below (g := gb213) (o := .cells #[.int .u64 t210, .int .u64 t211] 25 (0, 0)) kA hb); have n4_ := Aside0.mk (blk_below (g := gb217) (o := .cells #[.int .u64 t214, .int .u64 t215] 25 (0, 0)) kA hb); have n5_ := Aside0.mk (blk_below (g := gb225) (o := .cells #[.int .u64 t222, .int .u64 t223] 28 (0, 0)) kA hb); have n6_ := Aside0.mk (blk_below (g := gb233) (o := .cells #[.int .u64 t230, .int .u64 t231] 28 (0, 0)) kA hb); have n7_ := Aside0.mk (blk_below (g := gb239) (o := .cells #[.int .u64 t236, .int .u64 t237] 28 (0, 0)) kA hb); have n8_ := Aside0.mk (below_step bA hb); clear BK203 BK204 BK209 BK213 BK217 BK225 BK233 BK239 HB; have BK203 := n0_; have BK204 := n1_; have BK209 := n2_; have BK213 := n3_; have BK217 := n4_; have BK225 := n5_; have BK233 := n6_; have BK239 := n7_; have HB := n8_; clear n0_ n1_ n2_ n3_ n4_ n5_ n6_ n7_ n8_; (try clear hb)
          refine hK.out _ _ ⟨(blk_cell BK209.out 0).trans rfl, (blk_cell BK209.out 1).trans rfl, (blk_cell BK225.out 0).trans rfl, (blk_cell BK225.out 1).trans rfl, (blk_cell BK213.out 0).trans rfl, (blk_cell BK213.out 1).trans rfl, (blk_cell BK233.out 0).trans rfl, (blk_cell BK233.out 1).trans rfl, (blk_cell BK217.out 0).trans rfl, (blk_cell BK217.out 1).trans rfl, (blk_cell BK239.out 0).trans rfl, (blk_cell BK239.out 1).trans rfl, (blk_cell BK203.out 0).trans rfl, (blk_cell BK203.out 1).trans rfl, (blk_cell BK204.out 0).trans rfl, (blk_cell BK204.out 1).trans rfl⟩ (fun hHeld => ?_)
          clear hK K
          refine norm_ (a' := ?_) ?_ ?_
          rotate_left
          ·show Act.put _ (some 104) _ = _
           simp only [Act.put, List.setIfInBounds_toArray, List.set_cons_zero, List.set_cons_succ, i64_w, i32_w]
           rfl
          refine pure_ (i := 43) (N := some 105) (v := ?_) (a' := ?_) #[true, true, true, true, true, true, true, true, true, true, true, true, true, true, true, true, true, true, true, true, true, true, true, true, true, true, true, true, true, true, true, true, true, true, true, true, true, true, true, true, true, true, true, true, false, false, false, false, false, false, false, false, false, false, false, false, false, false, false, false, false, false, false, false, false, false, false, false, false] rfl rfl (any_of HT_.out (by kernel_rfl)) (fun _ _ _ h => h) (Or.inl ⟨by rfl, ?_⟩) ?_ ?_
          rotate_left
          ·intro w'
           go_simp; with_reducible rfl
          rotate_left
          ·simp only [Act.put, List.setIfInBounds_toArray, List.set_cons_zero, List.set_cons_succ, i64_w, i32_w]
           rfl
          refine pure_ (i := 44) (N := some 106) (v := ?_) (a' := ?_) #[true, true, true, true, true, true, true, true, true, true, true, true, true, true, true, true, true, true, true, true, true, true, true, true, true, true, true, true, true, true, true, true, true, true, true, true, true, true, true, true, true, true, true, true, true, false, false, false, false, false, false, false, false, false, false, false, false, false, false, false, false, false, false, false, false, false, false, false, false] rfl rfl (any_of HT_.out (by kernel_rfl)) (fun _ _ _ h => h) (Or.inl ⟨by rfl, ?_⟩) ?_ ?_
          rotate_left
          ·intro w'
           go_simp; with_reducible rfl
          rotate_left
          ·simp only [Act.put, List.setIfInBounds_toArray, List.set_cons_zero, List.set_cons_succ, i64_w, i32_w]
           rfl
          refine pure_ (i := 45) (N := some 107) (v := ?_) (a' := ?_) #[true, true, true, true, true, true, true, true, true, true, true, true, true, true, true, true, true, true, true, true, true, true, true, true, true, true, true, true, true, true, true, true, true, true, true, true, true, true, true, true, true, true, true, true, true, true, false, false, false, false, false, false, false, false, false, false, false, false, false, false, false, false, false, false, false, false, false, false, false] rfl rfl (any_of HT_.out (by kernel_rfl)) (fun _ _ _ h => h) (Or.inl ⟨by rfl, ?_⟩) ?_ ?_
          rotate_left
          ·intro w'
           go_simp; with_reducible rfl
          rotate_left
          ·simp only [Act.put, List.setIfInBounds_toArray, List.set_cons_zero, List.set_cons_succ, i64_w, i32_w]
           rfl
          refine pure_ (i := 46) (N := some 108) (v := ?_) (a' := ?_) #[true, true, true, true, true, true, true, true, true, true, true, true, true, true, true, true, true, true, true, true, true, true, true, true, true, true, true, true, true, true, true, true, true, true, true, true, true, true, true, true, true, true, true, true, true, true, true, false, false, false, false, false, false, false, false, false, false, false, false, false, false, false, false, false, false, false, false, false, false] rfl rfl (any_of HT_.out (by kernel_rfl)) (fun _ _ _ h => h) (Or.inl ⟨by rfl, ?_⟩) ?_ ?_
          rotate_left
          ·intro w'
           go_simp; with_reducible rfl
          rotate_left
          ·simp only [Act.put, List.setIfInBounds_toArray, List.set_cons_zero, List.set_cons_succ, i64_w, i32_w]
           rfl
          refine pure_ (i := 49) (N := some 111) (v := ?_) (a' := ?_) #[true, true, true, true, true, true, true, true, true, true, true, true, true, true, true, true, true, true, true, true, true, true, true, true, true, true, true, true, true, true, true, true, true, true, true, true, true, true, true, true, true, true, true, true, true, true, true, false, false, true, false, false, false, false, false, false, false, false, false, false, false, false, false, false, false, false, false, false, false] rfl rfl (any_of HT_.out (by kernel_rfl)) (fun _ _ _ h => h) (Or.inl ⟨by rfl, ?_⟩) ?_ ?_
          rotate_left
          ·intro w'
           go_simp; with_reducible rfl
          rotate_left
          ·simp only [Act.put, List.setIfInBounds_toArray, List.set_cons_zero, List.set_cons_succ, i64_w, i32_w]
           rfl
          refine take_ (i := 47) (N := some 109) (v := ?_) (a' := ?_) #[true, true, true, true, true, true, true, true, true, true, true, true, true, true, true, true, true, true, true, true, true, true, true, true, true, true, true, true, true, true, true, true, true, true, true, true, true, true, true, true, true, true, true, true, true, true, true, true, false, true, false, false, false, false, false, false, false, false, false, false, false, false, false, false, false, false, false, false, false] rfl rfl (take_ofW HT_.out HW_.out (by kernel_rfl)) (fun _ _ _ h => h) (Or.inl ⟨by rfl, ?_⟩) hHeld ?_ ?_
          rotate_left
          ·rintro w' ⟨s0, s1, s2, s3, s4, s5, s6, s7, s8, s9, s10, s11, s12, s13, s14, s15⟩
           go_simp; with_reducible rfl
          rotate_left
          ·simp only [Act.put, List.setIfInBounds_toArray, List.set_cons_zero, List.set_cons_succ, i64_w, i32_w]
           rfl
          refine take_ (i := 50) (N := some 112) (v := ?_) (a' := ?_) #[true, true, true, true, true, true, true, true, true, true, true, true, true, true, true, true, true, true, true, true, true, true, true, true, true, true, true, true, true, true, true, true, true, true, true, true, true, true, true, true, true, true, true, true, true, true, true, true, false, true, true, false, false, false, false, false, false, false, false, false, false, false, false, false, false, false, false, false, false] rfl rfl (take_ofW HT_.out HW_.out (by kernel_rfl)) (fun _ _ _ h => h) (Or.inl ⟨by rfl, ?_⟩) hHeld ?_ ?_
          rotate_left
          ·rintro w' ⟨s0, s1, s2, s3, s4, s5, s6, s7, s8, s9, s10, s11, s12, s13, s14, s15⟩
           go_simp; with_reducible rfl
          rotate_left
          ·simp only [Act.put, List.setIfInBounds_toArray, List.set_cons_zero, List.set_cons_succ, i64_w, i32_w]
           rfl
          refine pure_ (i := 51) (N := some 113) (v := ?_) (a' := ?_) #[true, true, true, true, true, true, true, true, true, true, true, true, true, true, true, true, true, true, true, true, true, true, true, true, true, true, true, true, true, true, true, true, true, true, true, true, true, true, true, true, true, true, true, true, true, true, true, true, false, true, true, true, false, false, false, false, false, false, false, false, false, false, false, false, false, false, false, false, false] rfl rfl (any_of HT_.out (by kernel_rfl)) (fun _ _ _ h => h) (Or.inl ⟨by rfl, ?_⟩) ?_ ?_
          rotate_left
          ·intro w'
           go_simp; with_reducible rfl
          rotate_left
          ·simp only [Act.put, List.setIfInBounds_toArray, List.set_cons_zero, List.set_cons_succ, i64_w, i32_w]
           rfl
          refine one_ (i := 48) (N := some 110) #[true, true, true, true, true, true, true, true, true, true, true, true, true, true, true, true, true, true, true, true, true, true, true, true, true, true, true, true, true, true, true, true, true, true, true, true, true, true, true, true, true, true, true, true, true, true, true, true, true, true, true, true, false, false, false, false, false, false, false, false, false, false, false, false, false, false, false, false, false] rfl rfl (one_of HT_.out (by kernel_rfl)) (by decide) (fun K hK => ?_)
          refine goes_ Try.func46 (by kernel_rfl) rfl #[.int .u64 a0_1] (by rfl) rfl rfl aA ?_
          with_reducible refine (wide_Of.calls a0_1 t252 t253 _ A30.out).mono ?_
          rintro e w98 ⟨rfl, hb⟩
          refine ⟨_, rfl, ?_⟩; have n0_ := Aside0.mk (blk_below (g := gb203) (o := .cells #[.int .u64 a0_0, .int .u64 a0_1] 25 (0, 0)) kA hb); have n1_ := Aside0.mk (blk_below (g := gb204) (o := .cells #[.int .u64 a1_0, .int .u64 a1_1] 25 (0, 0)) kA hb); have n2_ := Aside0.mk (blk_below (g := gb209) (o := .cells #[.int .u64 t206, .int .u64 t207] 25 (0, 0)) kA hb); have n3_ := Aside0.mk (blk_below (g := gb213) (o := .cells #[.int .u64 t210, .int .u64 t211] 25 (0, 0)) kA hb); have n4_ := Aside0.mk (blk_below (g := gb217) (o := .cells #[.int .u64 t214, .int .u64 t215] 25 (0, 0)) kA hb); have n5_ := Aside0.mk (blk_below (g := gb225) (o := .cells #[.int .u64 t222, .int .u64 t223] 28 (0, 0)) kA hb); have n6_ := Aside0.mk (blk_below (g := gb233) (o := .cells #[.int .u64 t230, .int .u64 t231] 28 (0, 0)) kA hb); have n7_ := Aside0.mk (blk_below (g := gb239) (o := .cells #[.int .u64 t236, .int .u64 t237] 28 (0, 0)) kA hb); have n8_ := Aside0.mk (below_step bA hb); clear BK203 BK204 BK209 BK213 BK217 BK225 BK233 BK239 HB; have BK203 := n0_; have BK204 := n1_; have BK209 := n2_; have BK213 := n3_; have BK217 := n4_; have BK225 := n5_; have BK233 := n6_; have BK239 := n7_; have HB := n8_; clear n0_ n1_ n2_ n3_ n4_ n5_ n6_ n7_ n8_; (try clear hb)
          refine hK.out _ _ ⟨(blk_cell BK209.out 0).trans rfl, (blk_cell BK209.out 1).trans rfl, (blk_cell BK225.out 0).trans rfl, (blk_cell BK225.out 1).trans rfl, (blk_cell BK213.out 0).trans rfl, (blk_cell BK213.out 1).trans rfl, (blk_cell BK233.out 0).trans rfl, (blk_cell BK233.out 1).trans rfl, (blk_cell BK217.out 0).trans rfl, (blk_cell BK217.out 1).trans rfl, (blk_cell BK239.out 0).trans rfl, (blk_cell BK239.out 1).trans rfl, (blk_cell BK203.out 0).trans rfl, (blk_cell BK203.out 1).trans rfl, (blk_cell BK204.out 0).trans rfl, (blk_cell BK204.out 1).trans rfl⟩ (fun hHeld => ?_)
          clear hK K
          refine norm_ (a' := ?_) ?_ ?_
          rotate_left
          ·show Act.put _ (some 110) _ = _
           simp only [Act.put, List.setIfInBounds_toArray, List.set_cons_zero, List.set_cons_succ, i64_w, i32_w]
           rfl
          refine pure_ (i := 52) (N := some 114) (v := ?_) (a' := ?_) #[true, true, true, true, true, true, true, true, true, true, true, true, true, true, true, true, true, true, true, true, true, true, true, true, true, true, true, true, true, true, true, true, true, true, true, true, true, true, true, true, true, true, true, true, true, true, true, true, true, true, true, true, true, false, false, false, false, false, false, false, false, false, false, false, false, false, false, false, false] rfl rfl (any_of HT_.out (by kernel_rfl)) (fun _ _ _ h => h) (Or.inl ⟨by rfl, ?_⟩) ?_ ?_
          rotate_left
          ·intro w'
           go_simp; with_reducible rfl
          rotate_left
          ·simp only [Act.put, List.setIfInBounds_toArray, List.set_cons_zero, List.set_cons_succ, i64_w, i32_w]
           rfl
          refine pure_ (i := 53) (N := some 115) (v := ?_) (a' := ?_) #[true, true, true, true, true, true, true, true, true, true, true, true, true, true, true, true, true, true, true, true, true, true, true, true, true, true, true, true, true, true, true, true, true, true, true, true, true, true, true, true, true, true, true, true, true, true, true, true, true, true, true, true, true, true, false, false, false, false, false, false, false, false, false, false, false, false, false, false, false] rfl rfl (any_of HT_.out (by kernel_rfl)) (fun _ _ _ h => h) (Or.inl ⟨by rfl, ?_⟩) ?_ ?_
          rotate_left
          ·intro w'
           go_simp; with_reducible rfl
          rotate_left
          ·simp only [Act.put, List.setIfInBounds_toArray, List.set_cons_zero, List.set_cons_succ, i64_w, i32_w]
           rfl
          refine pure_ (i := 54) (N := some 116) (v := ?_) (a' := ?_) #[true, true, true, true, true, true, true, true, true, true, true, true, true, true, true, true, true, true, true, true, true, true, true, true, true, true, true, true, true, true, true, true, true, true, true, true, true, true, true, true, true, true, true, true, true, true, true, true, true, true, true, true, true, true, true, false, false, false, false, false, false, false, false, false, false, false, false, false, false] rfl rfl (any_of HT_.out (by kernel_rfl)) (fun _ _ _ h => h) (Or.inl ⟨by rfl, ?_⟩) ?_ ?_
          rotate_left
          ·intro w'
           go_simp; with_reducible rfl
          rotate_left
          ·simp only [Act.put, List.setIfInBounds_toArray, List.set_cons_zero, List.set_cons_succ, i64_w, i32_w]
           rfl
          refine pure_ (i := 55) (N := some 117) (v := ?_) (a' := ?_) #[true, true, true, true, true, true, true, true, true, true, true, true, true, true, true, true, true, true, true, true, true, true, true, true, true, true, true, true, true, true, true, true, true, true, true, true, true, true, true, true, true, true, true, true, true, true, true, true, true, true, true, true, true, true, true, true, false, false, false, false, false, false, false, false, false, false, false, false, false] rfl rfl (any_of HT_.out (by kernel_rfl)) (fun _ _ _ h => h) (Or.inl ⟨by rfl, ?_⟩) ?_ ?_
          rotate_left
          ·intro w'
           go_simp; with_reducible rfl
          rotate_left
          ·simp only [Act.put, List.setIfInBounds_toArray, List.set_cons_zero, List.set_cons_succ, i64_w, i32_w]
           rfl
          refine pure_ (i := 57) (N := some 119) (v := ?_) (a' := ?_) #[true, true, true, true, true, true, true, true, true, true, true, true, true, true, true, true, true, true, true, true, true, true, true, true, true, true, true, true, true, true, true, true, true, true, true, true, true, true, true, true, true, true, true, true, true, true, true, true, true, true, true, true, true, true, true, true, false, true, false, false, false, false, false, false, false, false, false, false, false] rfl rfl (any_of HT_.out (by kernel_rfl)) (fun _ _ _ h => h) (Or.inl ⟨by rfl, ?_⟩) ?_ ?_
          rotate_left
          ·intro w'
           go_simp; with_reducible rfl
          rotate_left
          ·simp only [Act.put, List.setIfInBounds_toArray, List.set_cons_zero, List.set_cons_succ, i64_w, i32_w]
           rfl
          refine pure_ (i := 60) (N := some 122) (v := ?_) (a' := ?_) #[true, true, true, true, true, true, true, true, true, true, true, true, true, true, true, true, true, true, true, true, true, true, true, true, true, true, true, true, true, true, true, true, true, true, true, true, true, true, true, true, true, true, true, true, true, true, true, true, true, true, true, true, true, true, true, true, false, true, false, false, true, false, false, false, false, false, false, false, false] rfl rfl (any_of HT_.out (by kernel_rfl)) (fun _ _ _ h => h) (Or.inl ⟨by rfl, ?_⟩) ?_ ?_
          rotate_left
          ·intro w'
           go_simp; with_reducible rfl
          rotate_left
          ·simp only [Act.put, List.setIfInBounds_toArray, List.set_cons_zero, List.set_cons_succ, i64_w, i32_w]
           rfl
          refine pure_ (i := 62) (N := some 124) (v := ?_) (a' := ?_) #[true, true, true, true, true, true, true, true, true, true, true, true, true, true, true, true, true, true, true, true, true, true, true, true, true, true, true, true, true, true, true, true, true, true, true, true, true, true, true, true, true, true, true, true, true, true, true, true, true, true, true, true, true, true, true, true, false, true, false, false, true, false, true, false, false, false, false, false, false] rfl rfl (any_of HT_.out (by kernel_rfl)) (fun _ _ _ h => h) (Or.inl ⟨by rfl, ?_⟩) ?_ ?_
          rotate_left
          ·intro w'
           go_simp; with_reducible rfl
          rotate_left
          ·simp only [Act.put, List.setIfInBounds_toArray, List.set_cons_zero, List.set_cons_succ, i64_w, i32_w]
           rfl
          refine take_ (i := 56) (N := some 118) (v := ?_) (a' := ?_) #[true, true, true, true, true, true, true, true, true, true, true, true, true, true, true, true, true, true, true, true, true, true, true, true, true, true, true, true, true, true, true, true, true, true, true, true, true, true, true, true, true, true, true, true, true, true, true, true, true, true, true, true, true, true, true, true, true, true, false, false, true, false, true, false, false, false, false, false, false] rfl rfl (take_ofW HT_.out HW_.out (by kernel_rfl)) (fun _ _ _ h => h) (Or.inl ⟨by rfl, ?_⟩) hHeld ?_ ?_
          rotate_left
          ·rintro w' ⟨s0, s1, s2, s3, s4, s5, s6, s7, s8, s9, s10, s11, s12, s13, s14, s15⟩
           go_simp; with_reducible rfl
          rotate_left
          ·simp only [Act.put, List.setIfInBounds_toArray, List.set_cons_zero, List.set_cons_succ, i64_w, i32_w]
           rfl
          refine take_ (i := 58) (N := some 120) (v := ?_) (a' := ?_) #[true, true, true, true, true, true, true, true, true, true, true, true, true, true, true, true, true, true, true, true, true, true, true, true, true, true, true, true, true, true, true, true, true, true, true, true, true, true, true, true, true, true, true, true, true, true, true, true, true, true, true, true, true, true, true, true, true, true, true, false, true, false, true, false, false, false, false, false, false] rfl rfl (take_ofW HT_.out HW_.out (by kernel_rfl)) (fun _ _ _ h => h) (Or.inl ⟨by rfl, ?_⟩) hHeld ?_ ?_
          rotate_left
          ·rintro w' ⟨s0, s1, s2, s3, s4, s5, s6, s7, s8, s9, s10, s11, s12, s13, s14, s15⟩
           go_simp; with_reducible rfl
          rotate_left
          ·simp only [Act.put, List.setIfInBounds_toArray, List.set_cons_zero, List.set_cons_succ, i64_w, i32_w]
           rfl
          refine take_ (i := 61) (N := some 123) (v := ?_) (a' := ?_) #[true, true, true, true, true, true, true, true, true, true, true, true, true, true, true, true, true, true, true, true, true, true, true, true, true, true, true, true, true, true, true, true, true, true, true, true, true, true, true, true, true, true, true, true, true, true, true, true, true, true, true, true, true, true, true, true, true, true, true, false, true, true, true, false, false, false, false, false, false] rfl rfl (take_ofW HT_.out HW_.out (by kernel_rfl)) (fun _ _ _ h => h) (Or.inl ⟨by rfl, ?_⟩) hHeld ?_ ?_
          rotate_left
          ·rintro w' ⟨s0, s1, s2, s3, s4, s5, s6, s7, s8, s9, s10, s11, s12, s13, s14, s15⟩
           go_simp; with_reducible rfl
          rotate_left
          ·simp only [Act.put, List.setIfInBounds_toArray, List.set_cons_zero, List.set_cons_succ, i64_w, i32_w]
           rfl
          refine take_ (i := 63) (N := some 125) (v := ?_) (a' := ?_) #[true, true, true, true, true, true, true, true, true, true, true, true, true, true, true, true, true, true, true, true, true, true, true, true, true, true, true, true, true, true, true, true, true, true, true, true, true, true, true, true, true, true, true, true, true, true, true, true, true, true, true, true, true, true, true, true, true, true, true, false, true, true, true, true, false, false, false, false, false] rfl rfl (take_ofW HT_.out HW_.out (by kernel_rfl)) (fun _ _ _ h => h) (Or.inl ⟨by rfl, ?_⟩) hHeld ?_ ?_
          rotate_left
          ·rintro w' ⟨s0, s1, s2, s3, s4, s5, s6, s7, s8, s9, s10, s11, s12, s13, s14, s15⟩
           go_simp; with_reducible rfl
          rotate_left
          ·simp only [Act.put, List.setIfInBounds_toArray, List.set_cons_zero, List.set_cons_succ, i64_w, i32_w]
           rfl
          refine one_ (i := 59) (N := some 121) #[true, true, true, true, true, true, true, true, true, true, true, true, true, true, true, true, true, true, true, true, true, true, true, true, true, true, true, true, true, true, true, true, true, true, true, true, true, true, true, true, true, true, true, true, true, true, true, true, true, true, true, true, true, true, true, true, true, true, true, true, true, true, true, true, false, false, false, false, false] rfl rfl (one_of HT_.out (by kernel_rfl)) (by decide) (fun K hK => ?_)
          refine goes_ Try.func47 (by kernel_rfl) rfl #[.int .u64 a0_1, .int .u64 a1_0] (by rfl) rfl rfl aA ?_
          with_reducible refine (wide_Mul.calls a0_1 a1_0 t254 t255 _ A32.out).mono ?_
          rintro e w99 ⟨rfl, hb⟩
          refine ⟨_, rfl, ?_⟩; have n0_ := Aside0.mk (blk_below (g := gb203) (o := .cells #[.int .u64 a0_0, .int .u64 a0_1] 25 (0, 0)) kA hb); have n1_ := Aside0.mk (blk_below (g := gb204) (o := .cells #[.int .u64 a1_0, .int .u64 a1_1] 25 (0, 0)) kA hb); have n2_ := Aside0.mk (blk_below (g := gb209) (o := .cells #[.int .u64 t206, .int .u64 t207] 25 (0, 0)) kA hb); have n3_ := Aside0.mk (blk_below (g := gb213) (o := .cells #[.int .u64 t210, .int .u64 t211] 25 (0, 0)) kA hb); have n4_ := Aside0.mk (blk_below (g := gb217) (o := .cells #[.int .u64 t214, .int .u64 t215] 25 (0, 0)) kA hb); have n5_ := Aside0.mk (blk_below (g := gb225) (o := .cells #[.int .u64 t222, .int .u64 t223] 28 (0, 0)) kA hb); have n6_ := Aside0.mk (blk_below (g := gb233) (o := .cells #[.int .u64 t230, .int .u64 t231] 28 (0, 0)) kA hb); have n7_ := Aside0.mk (blk_below (g := gb239) (o := .cells #[.int .u64 t236, .int .u64 t237] 28 (0, 0)) kA hb); have n8_ := Aside0.mk (below_step bA hb); clear BK203 BK204 BK209 BK213 BK217 BK225 BK233 BK239 HB; have BK203 := n0_; have BK204 := n1_; have BK209 := n2_; have BK213 := n3_; have BK217 := n4_; have BK225 := n5_; have BK233 := n6_; have BK239 := n7_; have HB := n8_; clear n0_ n1_ n2_ n3_ n4_ n5_ n6_ n7_ n8_; (try clear hb)
          refine hK.out _ _ ⟨(blk_cell BK209.out 0).trans rfl, (blk_cell BK209.out 1).trans rfl, (blk_cell BK225.out 0).trans rfl, (blk_cell BK225.out 1).trans rfl, (blk_cell BK213.out 0).trans rfl, (blk_cell BK213.out 1).trans rfl, (blk_cell BK233.out 0).trans rfl, (blk_cell BK233.out 1).trans rfl, (blk_cell BK217.out 0).trans rfl, (blk_cell BK217.out 1).trans rfl, (blk_cell BK239.out 0).trans rfl, (blk_cell BK239.out 1).trans rfl, (blk_cell BK203.out 0).trans rfl, (blk_cell BK203.out 1).trans rfl, (blk_cell BK204.out 0).trans rfl, (blk_cell BK204.out 1).trans rfl⟩ (fun hHeld => ?_)
          clear hK K
          refine norm_ (a' := ?_) ?_ ?_
          rotate_left
          ·show Act.put _ (some 121) _ = _
           simp only [Act.put, List.setIfInBounds_toArray, List.set_cons_zero, List.set_cons_succ, i64_w, i32_w]
           rfl
          refine one_ (i := 64) (N := some 126) #[true, true, true, true, true, true, true, true, true, true, true, true, true, true, true, true, true, true, true, true, true, true, true, true, true, true, true, true, true, true, true, true, true, true, true, true, true, true, true, true, true, true, true, true, true, true, true, true, true, true, true, true, true, true, true, true, true, true, true, true, true, true, true, true, true, false, false, false, false] rfl rfl (one_of HT_.out (by kernel_rfl)) (by decide) (fun K hK => ?_)
          refine goes_ Try.func48 (by kernel_rfl) rfl #[.int .u64 a0_1, .int .u64 a1_0] (by rfl) rfl rfl aA ?_
          with_reducible refine (backfillref01_Mul.calls a0_1 a1_0 t256 t257 _ A33.out).mono ?_
          rintro e w100 ⟨rfl, hb⟩
          refine ⟨_, rfl, ?_⟩; have n0_ := Aside0.mk (blk_below (g := gb203) (o := .cells #[.int .u64 a0_0, .int .u64 a0_1] 25 (0, 0)) kA hb); have n1_ := Aside0.mk (blk_below (g := gb204) (o := .cells #[.int .u64 a1_0, .int .u64 a1_1] 25 (0, 0)) kA hb); have n2_ := Aside0.mk (blk_below (g := gb209) (o := .cells #[.int .u64 t206, .int .u64 t207] 25 (0, 0)) kA hb); have n3_ := Aside0.mk (blk_below (g := gb213) (o := .cells #[.int .u64 t210, .int .u64 t211] 25 (0, 0)) kA hb); have n4_ := Aside0.mk (blk_below (g := gb217) (o := .cells #[.int .u64 t214, .int .u64 t215] 25 (0, 0)) kA hb); have n5_ := Aside0.mk (blk_below (g := gb225) (o := .cells #[.int .u64 t222, .int .u64 t223] 28 (0, 0)) kA hb); have n6_ := Aside0.mk (blk_below (g := gb233) (o := .cells #[.int .u64 t230, .int .u64 t231] 28 (0, 0)) kA hb); have n7_ := Aside0.mk (blk_below (g := gb239) (o := .cells #[.int .u64 t236, .int .u64 t237] 28 (0, 0)) kA hb); have n8_ := Aside0.mk (below_step bA hb); clear BK203 BK204 BK209 BK213 BK217 BK225 BK233 BK239 HB; have BK203 := n0_; have BK204 := n1_; have BK209 := n2_; have BK213 := n3_; have BK217 := n4_; have BK225 := n5_; have BK233 := n6_; have BK239 := n7_; have HB := n8_; clear n0_ n1_ n2_ n3_ n4_ n5_ n6_ n7_ n8_; (try clear hb)
          refine hK.out _ _ ⟨(blk_cell BK209.out 0).trans rfl, (blk_cell BK209.out 1).trans rfl, (blk_cell BK225.out 0).trans rfl, (blk_cell BK225.out 1).trans rfl, (blk_cell BK213.out 0).trans rfl, (blk_cell BK213.out 1).trans rfl, (blk_cell BK233.out 0).trans rfl, (blk_cell BK233.out 1).trans rfl, (blk_cell BK217.out 0).trans rfl, (blk_cell BK217.out 1).trans rfl, (blk_cell BK239.out 0).trans rfl, (blk_cell BK239.out 1).trans rfl, (blk_cell BK203.out 0).trans rfl, (blk_cell BK203.out 1).trans rfl, (blk_cell BK204.out 0).trans rfl, (blk_cell BK204.out 1).trans rfl⟩ (fun hHeld => ?_)
          clear hK K
          refine norm_ (a' := ?_) ?_ ?_
          rotate_left
          ·show Act.put _ (some 126) _ = _
           simp only [Act.put, List.setIfInBounds_toArray, List.set_cons_zero, List.set_cons_succ, i64_w, i32_w]
           rfl
          refine one_ (i := 65) (N := some 127) #[true, true, true, true, true, true, true, true, true, true, true, true, true, true, true, true, true, true, true, true, true, true, true, true, true, true, true, true, true, true, true, true, true, true, true, true, true, true, true, true, true, true, true, true, true, true, true, true, true, true, true, true, true, true, true, true, true, true, true, true, true, true, true, true, true, true, false, false, false] rfl rfl (one_of HT_.out (by kernel_rfl)) (by decide) (fun K hK => ?_)
          refine goes_ Try.func17 (by kernel_rfl) rfl #[.agg #[.int .u64 t256, .int .u64 t257]] (by rfl) rfl rfl aA ?_
          with_reducible refine (backfilllaw01_num.calls t256 t257 t258 t259 _ A34.out).mono ?_
          rintro e w101 ⟨rfl, hb⟩
          refine ⟨_, rfl, ?_⟩; have n0_ := Aside0.mk (blk_below (g := gb203) (o := .cells #[.int .u64 a0_0, .int .u64 a0_1] 25 (0, 0)) kA hb); have n1_ := Aside0.mk (blk_below (g := gb204) (o := .cells #[.int .u64 a1_0, .int .u64 a1_1] 25 (0, 0)) kA hb); have n2_ := Aside0.mk (blk_below (g := gb209) (o := .cells #[.int .u64 t206, .int .u64 t207] 25 (0, 0)) kA hb); have n3_ := Aside0.mk (blk_below (g := gb213) (o := .cells #[.int .u64 t210, .int .u64 t211] 25 (0, 0)) kA hb); have n4_ := Aside0.mk (blk_below (g := gb217) (o := .cells #[.int .u64 t214, .int .u64 t215] 25 (0, 0)) kA hb); have n5_ := Aside0.mk (blk_below (g := gb225) (o := .cells #[.int .u64 t222, .int .u64 t223] 28 (0, 0)) kA hb); have n6_ := Aside0.mk (blk_below (g := gb233) (o := .cells #[.int .u64 t230, .int .u64 t231] 28 (0, 0)) kA hb); have n7_ := Aside0.mk (blk_below (g := gb239) (o := .cells #[.int .u64 t236, .int .u64 t237] 28 (0, 0)) kA hb); have n8_ := Aside0.mk (below_step bA hb); clear BK203 BK204 BK209 BK213 BK217 BK225 BK233 BK239 HB; have BK203 := n0_; have BK204 := n1_; have BK209 := n2_; have BK213 := n3_; have BK217 := n4_; have BK225 := n5_; have BK233 := n6_; have BK239 := n7_; have HB := n8_; clear n0_ n1_ n2_ n3_ n4_ n5_ n6_ n7_ n8_; (try clear hb)
          refine hK.out _ _ ⟨(blk_cell BK209.out 0).trans rfl, (blk_cell BK209.out 1).trans rfl, (blk_cell BK225.out 0).trans rfl, (blk_cell BK225.out 1).trans rfl, (blk_cell BK213.out 0).trans rfl, (blk_cell BK213.out 1).trans rfl, (blk_cell BK233.out 0).trans rfl, (blk_cell BK233.out 1).trans rfl, (blk_cell BK217.out 0).trans rfl, (blk_cell BK217.out 1).trans rfl, (blk_cell BK239.out 0).trans rfl, (blk_cell BK239.out 1).trans rfl, (blk_cell BK203.out 0).trans rfl, (blk_cell BK203.out 1).trans rfl, (blk_cell BK204.out 0).trans rfl, (blk_cell BK204.out 1).trans rfl⟩ (fun hHeld => ?_)
          clear hK K
          refine norm_ (a' := ?_) ?_ ?_
          rotate_left
          ·show Act.put _ (some 127) _ = _
           simp only [Act.put, List.setIfInBounds_toArray, List.set_cons_zero, List.set_cons_succ, i64_w, i32_w]
           rfl
          refine pure_ (i := 66) (N := some 128) (v := ?_) (a' := ?_) #[true, true, true, true, true, true, true, true, true, true, true, true, true, true, true, true, true, true, true, true, true, true, true, true, true, true, true, true, true, true, true, true, true, true, true, true, true, true, true, true, true, true, true, true, true, true, true, true, true, true, true, true, true, true, true, true, true, true, true, true, true, true, true, true, true, true, true, false, false] rfl rfl (any_of HT_.out (by kernel_rfl)) (fun _ _ _ h => h) (Or.inl ⟨by rfl, ?_⟩) ?_ ?_
          rotate_left
          ·intro w'
           go_simp; with_reducible rfl
          rotate_left
          ·simp only [Act.put, List.setIfInBounds_toArray, List.set_cons_zero, List.set_cons_succ, i64_w, i32_w]
           rfl
          refine pure_ (i := 67) (N := some 129) (v := ?_) (a' := ?_) #[true, true, true, true, true, true, true, true, true, true, true, true, true, true, true, true, true, true, true, true, true, true, true, true, true, true, true, true, true, true, true, true, true, true, true, true, true, true, true, true, true, true, true, true, true, true, true, true, true, true, true, true, true, true, true, true, true, true, true, true, true, true, true, true, true, true, true, true, false] rfl rfl (any_of HT_.out (by kernel_rfl)) (fun _ _ _ h => h) (Or.inl ⟨by rfl, ?_⟩) ?_ ?_
          rotate_left
          ·intro w'
           go_simp; with_reducible rfl
          rotate_left
          ·simp only [Act.put, List.setIfInBounds_toArray, List.set_cons_zero, List.set_cons_succ, i64_w, i32_w]
           rfl
          refine pure_ (i := 68) (N := some 4) (v := ?_) (a' := ?_) #[true, true, true, true, true, true, true, true, true, true, true, true, true, true, true, true, true, true, true, true, true, true, true, true, true, true, true, true, true, true, true, true, true, true, true, true, true, true, true, true, true, true, true, true, true, true, true, true, true, true, true, true, true, true, true, true, true, true, true, true, true, true, true, true, true, true, true, true, true] rfl rfl (any_of HT_.out (by kernel_rfl)) (fun _ _ _ h => h) (Or.inl ⟨by rfl, ?_⟩) ?_ ?_
          rotate_left
          ·intro w'
           go_simp; with_reducible rfl
          rotate_left
          ·simp only [Act.put, List.setIfInBounds_toArray, List.set_cons_zero, List.set_cons_succ, i64_w, i32_w]
           rfl
          refine done_ (done_of HT_.out (by kernel_rfl)) ?_
          try go_wp2
          go_ret
          exact ⟨by first | rfl | (simp [errW_none, errW_some] <;> rfl) | (simp [*, errW_none, errW_some] <;> rfl), bA⟩
         ·rw [if_neg c31] at H
          have c31b0 : (t252 == 0 && (t253 == a0_1)) = false := by simpa using c31
          (try (have c31b1 : decide (t252 = 0 && (t253 == a0_1)) = false := by simpa using c31))
          (try (have c31b2 : (t252 == 0 && (t253 == a0_1)) = false := by simpa using c31))
          (try (have c31b3 : ¬ (t252 = 0 && (t253 == a0_1)) := by simpa using c31))
          clear c31
          exact absurd H (by simp)
        ·rw [if_neg c29] at H
         have c29b0 : (t246 == t251) = false := beq_eq_false_iff_ne.mpr c29
         have c29b1 : (t246 != t251) = true := bne_iff_ne.mpr c29
         exact absurd H (by simp)
       ·rw [if_neg c24] at H
        have c24b0 : (t216 == t238) = false := by simpa using c24
        (try (have c24b1 : decide (t216 = t238) = false := by simpa using c24))
        (try (have c24b2 : (t216 == t238) = false := by simpa using c24))
        (try (have c24b3 : ¬ (t216 = t238) := by simpa using c24))
        clear c24
        exact absurd H (by simp)
      ·rw [if_neg c23] at H
       have c23b0 : (t214 == t244 && (t215 == t245)) = false := by simpa using c23
       (try (have c23b1 : decide (t214 = t244 && (t215 == t245)) = false := by simpa using c23))
       (try (have c23b2 : (t214 == t244 && (t215 == t245)) = false := by simpa using c23))
       (try (have c23b3 : ¬ (t214 = t244 && (t215 == t245)) := by simpa using c23))
       clear c23
       exact absurd H (by simp)
     ·rw [if_neg c21] at H
      have c21b0 : (t212 == t232) = false := by simpa using c21
      (try (have c21b1 : decide (t212 = t232) = false := by simpa using c21))
      (try (have c21b2 : (t212 == t232) = false := by simpa using c21))
      (try (have c21b3 : ¬ (t212 = t232) := by simpa using c21))
      clear c21
      exact absurd H (by simp)
    ·rw [if_neg c20] at H
     have c20b0 : (t210 == t242 && (t211 == t243)) = false := by simpa using c20
     (try (have c20b1 : decide (t210 = t242 && (t211 == t243)) = false := by simpa using c20))
     (try (have c20b2 : (t210 == t242 && (t211 == t243)) = false := by simpa using c20))
     (try (have c20b3 : ¬ (t210 = t242 && (t211 == t243)) := by simpa using c20))
     clear c20
     exact absurd H (by simp)
   ·rw [if_neg c18] at H
    have c18b0 : (t208 == t224) = false := by simpa using c18
    (try (have c18b1 : decide (t208 = t224) = false := by simpa using c18))
    (try (have c18b2 : (t208 == t224) = false := by simpa using c18))
    (try (have c18b3 : ¬ (t208 = t224) := by simpa using c18))
    clear c18
    exact absurd H (by simp)
  ·rw [if_neg c17] at H
   have c17b0 : (t206 == t240 && (t207 == t241)) = false := by simpa using c17
   (try (have c17b1 : decide (t206 = t240 && (t207 == t241)) = false := by simpa using c17))
   (try (have c17b2 : (t206 == t240 && (t207 == t241)) = false := by simpa using c17))
   (try (have c17b3 : ¬ (t206 = t240 && (t207 == t241)) := by simpa using c17))
   clear c17
   exact absurd H (by simp)
 ·replace c15 := Bool.eq_false_iff.mpr c15
  subst c15
  have H1 : (none) = some r := by rw [if_neg (show ¬ (false = true) by decide)] at H; exact H
  clear H
  have H := H1
  clear H1
  exact absurd H (by simp)

end Go.Proofs.Ytcolhngdhlamkaa.GW
