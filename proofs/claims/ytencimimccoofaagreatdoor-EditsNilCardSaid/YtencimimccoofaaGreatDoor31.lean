/- The tie of the listed package variables to the program's text, fact by fact (each closed fact a theorem of its own: the kernel's memory). -/
import Derived.Test.YtencimimccoofaaGreatDoorRows
import Derived.LaidByTextLater
import Derived.SevenTiedAt
import Derived.Deep.DeepLaidRun
namespace Go.Proofs.YtencimimccoofaaGreatDoor.Tied
open Go

def tail : List (String × DataW Unit) := [("unicode/utf8.acceptRanges", Rows.laid_unicode_utf8_acceptRanges), ("internal/strconv.uint64pow10", Rows.laid_internal_strconv_uint64pow10), ("math/bits.deBruijn32tab", Rows.laid_math_bits_deBruijn32tab), ("math/bits.deBruijn64tab", Rows.laid_math_bits_deBruijn64tab), ("strconv.ErrSyntax", Rows.laid_strconv_ErrSyntax), ("strconv.ErrRange", Rows.laid_strconv_ErrRange), ("quadrille/table.quotients", Rows.laid_quadrille_table_quotients), ("quadrille/table.totals", Rows.laid_quadrille_table_totals), ("quadrille/table.products", Rows.laid_quadrille_table_products), ("quadrille/table.rests", Rows.laid_quadrille_table_rests)]
theorem f1 : Tryz.prog.worded (varsWordLater true) = true := by kernel_rfl
theorem f2 : Tryz.prog.worded (varsWordLater !true) = false := by kernel_rfl
theorem f3 : Tryz.prog.worded rootWordLater = true := by kernel_rfl
theorem f4 : tail.map (fun x => Tryz.prog.kindOfLater x.1) = [LaidKind.data, .data, .data, .data, .sentinel, .sentinel, .data, .data, .data, .data].map some := by kernel_rfl
theorem f5 : (Tryz.prog.funcNamed "gosem.cut.vars").isSome = true := by kernel_rfl
theorem f6 : varsNamedLaterB Tryz.prog (varsId Tryz.prog) tail = true := by kernel_rfl
theorem f7 (os : Os) (tape : Tape) : varsDone Tryz.prog 400 (varsId Tryz.prog) os tape = true := by kernel_rfl
theorem f8 (os : Os) (tape : Tape) : (DataW.laidRun Tryz.prog (varsWorld Tryz.prog 400 (varsId Tryz.prog) os tape).memory 8 (tail.map (·.1))).map (·.1) = some tail := by kernel_rfl
end Go.Proofs.YtencimimccoofaaGreatDoor.Tied
