/- FnExactPlainFont: both fonts are made, and held against each other, by calculation. -/
import Derived.Test.YtbhmoodfninbjaaQFnExactPlainFontx5
import Derived.KernelRfl
namespace Go.Proofs.Ytbhmoodfninbjaa.QFnExactPlainFont
open Go Go.RowKit
theorem FnExactPlainFont : laws_FnExactPlainFont.Pure := ⟨500, by kernel_rfl⟩
end Go.Proofs.Ytbhmoodfninbjaa.QFnExactPlainFont
