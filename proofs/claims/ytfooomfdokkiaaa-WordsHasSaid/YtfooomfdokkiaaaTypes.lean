/-
  What the program's table says of its types of slices; which functions can be called. No condition.
-/
import Derived.Test.YtfooomfdokkiaaaProg
import Derived.Test.YtfooomfdokkiaaaEngI
namespace Go.Proofs.Ytfooomfdokkiaaa
open Go.RowKit
set_option linter.unusedVariables false
theorem slT24 : SlT Try.prog 24 9 1 16 (.string ⟨#[]⟩) := slT_of Try.underlying24 (by kernel_rfl) rfl (by omega)
theorem slT27 : SlT Try.prog 27 4 1 1 (.bool false) := slT_of Try.underlying27 (by kernel_rfl) rfl (by omega)
theorem slT28 : SlT Try.prog 28 5 1 1 (.int .u8 0) := slT_of Try.underlying28 (by kernel_rfl) rfl (by omega)
theorem co2 : Callable Try.prog 2 := callable Try.func2 (by decide) rfl
theorem co3 : Callable Try.prog 3 := callable Try.func3 (by decide) rfl
theorem co4 : Callable Try.prog 4 := callable Try.func4 (by decide) rfl
theorem co5 : Callable Try.prog 5 := callable Try.func5 (by decide) rfl
theorem co6 : Callable Try.prog 6 := callable Try.func6 (by decide) rfl
theorem co7 : Callable Try.prog 7 := callable Try.func7 (by decide) rfl
theorem co8 : Callable Try.prog 8 := callable Try.func8 (by decide) rfl
theorem co9 : Callable Try.prog 9 := callable Try.func9 (by decide) rfl
theorem co10 : Callable Try.prog 10 := callable Try.func10 (by decide) rfl
theorem co11 : Callable Try.prog 11 := callable Try.func11 (by decide) rfl
theorem co12 : Callable Try.prog 12 := callable Try.func12 (by decide) rfl
theorem co13 : Callable Try.prog 13 := callable Try.func13 (by decide) rfl
theorem co14 : Callable Try.prog 14 := callable Try.func14 (by decide) rfl
theorem co15 : Callable Try.prog 15 := callable Try.func15 (by decide) rfl
theorem co16 : Callable Try.prog 16 := callable Try.func16 (by decide) rfl
theorem co17 : Callable Try.prog 17 := callable Try.func17 (by decide) rfl
theorem co18 : Callable Try.prog 18 := callable Try.func18 (by decide) rfl
theorem co19 : Callable Try.prog 19 := callable Try.func19 (by decide) rfl
theorem co20 : Callable Try.prog 20 := callable Try.func20 (by decide) rfl
theorem co21 : Callable Try.prog 21 := callable Try.func21 (by decide) rfl
theorem co22 : Callable Try.prog 22 := callable Try.func22 (by decide) rfl
theorem co23 : Callable Try.prog 23 := callable Try.func23 (by decide) rfl
theorem co24 : Callable Try.prog 24 := callable Try.func24 (by decide) rfl
theorem co25 : Callable Try.prog 25 := callable Try.func25 (by decide) rfl
theorem co26 : Callable Try.prog 26 := callable Try.func26 (by decide) rfl
theorem co27 : Callable Try.prog 27 := callable Try.func27 (by decide) rfl
theorem co28 : Callable Try.prog 28 := callable Try.func28 (by decide) rfl
theorem co29 : Callable Try.prog 29 := callable Try.func29 (by decide) rfl
theorem co30 : Callable Try.prog 30 := callable Try.func30 (by decide) rfl
theorem co31 : Callable Try.prog 31 := callable Try.func31 (by decide) rfl
theorem co32 : Callable Try.prog 32 := callable Try.func32 (by decide) rfl
theorem co33 : Callable Try.prog 33 := callable Try.func33 (by decide) rfl
theorem co34 : Callable Try.prog 34 := callable Try.func34 (by decide) rfl
theorem co35 : Callable Try.prog 35 := callable Try.func35 (by decide) rfl
theorem co36 : Callable Try.prog 36 := callable Try.func36 (by decide) rfl
theorem co37 : Callable Try.prog 37 := callable Try.func37 (by decide) rfl
theorem co38 : Callable Try.prog 38 := callable Try.func38 (by decide) rfl
theorem co39 : Callable Try.prog 39 := callable Try.func39 (by decide) rfl
theorem co40 : Callable Try.prog 40 := callable Try.func40 (by decide) rfl
theorem co41 : Callable Try.prog 41 := callable Try.func41 (by decide) rfl
theorem co42 : Callable Try.prog 42 := callable Try.func42 (by decide) rfl
theorem co43 : Callable Try.prog 43 := callable Try.func43 (by decide) rfl
theorem co44 : Callable Try.prog 44 := callable Try.func44 (by decide) rfl
theorem co45 : Callable Try.prog 45 := callable Try.func45 (by decide) rfl
theorem co46 : Callable Try.prog 46 := callable Try.func46 (by decide) rfl
theorem co47 : Callable Try.prog 47 := callable Try.func47 (by decide) rfl
theorem co48 : Callable Try.prog 48 := callable Try.func48 (by decide) rfl
theorem co49 : Callable Try.prog 49 := callable Try.func49 (by decide) rfl
theorem co50 : Callable Try.prog 50 := callable Try.func50 (by decide) rfl
end Go.Proofs.Ytfooomfdokkiaaa
