/-
  What the calculus asks of the types of this seat's translation: how many cells, what a nought is. By a program.
-/
import Derived.Test.YtjdeooeddcjmmaaProg
import Derived.Test.YtjdeooeddcjmmaaRv
namespace Go.Proofs.Ytjdeooeddcjmmaa
open Go Go.Proofs.RV
theorem cells0 : Try.prog.cellsOf 0 = 1 := by kernel_rfl
theorem cells1 : Try.prog.cellsOf 1 = 1 := by kernel_rfl
theorem cells2 : Try.prog.cellsOf 2 = 1 := by kernel_rfl
theorem cells3 : Try.prog.cellsOf 3 = 1 := by kernel_rfl
theorem cells4 : Try.prog.cellsOf 4 = 1 := by kernel_rfl
theorem cells5 : Try.prog.cellsOf 5 = 1 := by kernel_rfl
theorem cells6 : Try.prog.cellsOf 6 = 1 := by kernel_rfl
theorem cells7 : Try.prog.cellsOf 7 = 4 := by kernel_rfl
theorem cells8 : Try.prog.cellsOf 8 = 4 := by kernel_rfl
theorem cells9 : Try.prog.cellsOf 9 = 1 := by kernel_rfl
theorem cells10 : Try.prog.cellsOf 10 = 1 := by kernel_rfl
theorem cells11 : Try.prog.cellsOf 11 = 1 := by kernel_rfl
theorem cells12 : Try.prog.cellsOf 12 = 1 := by kernel_rfl
theorem cells13 : Try.prog.cellsOf 13 = 2 := by kernel_rfl
theorem cells14 : Try.prog.cellsOf 14 = 2 := by kernel_rfl
theorem cells15 : Try.prog.cellsOf 15 = 1 := by kernel_rfl
theorem cells16 : Try.prog.cellsOf 16 = 1 := by kernel_rfl
theorem cells17 : Try.prog.cellsOf 17 = 1 := by kernel_rfl
theorem cells18 : Try.prog.cellsOf 18 = 1 := by kernel_rfl
theorem cells19 : Try.prog.cellsOf 19 = 1 := by kernel_rfl
theorem cells20 : Try.prog.cellsOf 20 = 1 := by kernel_rfl
theorem cells21 : Try.prog.cellsOf 21 = 1 := by kernel_rfl
theorem cells22 : Try.prog.cellsOf 22 = 1 := by kernel_rfl
theorem cells23 : Try.prog.cellsOf 23 = 1 := by kernel_rfl
theorem cells24 : Try.prog.cellsOf 24 = 16 := by kernel_rfl
theorem cells25 : Try.prog.cellsOf 25 = 35 := by kernel_rfl
theorem cells26 : Try.prog.cellsOf 26 = 35 := by kernel_rfl
theorem cells27 : Try.prog.cellsOf 27 = 1 := by kernel_rfl
theorem cells28 : Try.prog.cellsOf 28 = 1 := by kernel_rfl
theorem cells29 : Try.prog.cellsOf 29 = 1 := by kernel_rfl
theorem cells30 : Try.prog.cellsOf 30 = 35 := by kernel_rfl
theorem cells31 : Try.prog.cellsOf 31 = 1 := by kernel_rfl
theorem cells32 : Try.prog.cellsOf 32 = 1 := by kernel_rfl
theorem cells33 : Try.prog.cellsOf 33 = 1 := by kernel_rfl
theorem cells34 : Try.prog.cellsOf 34 = 1 := by kernel_rfl
theorem cells35 : Try.prog.cellsOf 35 = 1 := by kernel_rfl
theorem cells36 : Try.prog.cellsOf 36 = 1 := by kernel_rfl
theorem cells37 : Try.prog.cellsOf 37 = 1 := by kernel_rfl
theorem cells38 : Try.prog.cellsOf 38 = 1 := by kernel_rfl
theorem cells39 : Try.prog.cellsOf 39 = 1 := by kernel_rfl
theorem cells40 : Try.prog.cellsOf 40 = 1 := by kernel_rfl
theorem cells41 : Try.prog.cellsOf 41 = 1 := by kernel_rfl
theorem cells42 : Try.prog.cellsOf 42 = 1 := by kernel_rfl
theorem cells43 : Try.prog.cellsOf 43 = 1 := by kernel_rfl
theorem cells44 : Try.prog.cellsOf 44 = 1 := by kernel_rfl
theorem cells45 : Try.prog.cellsOf 45 = 1 := by kernel_rfl
theorem cells46 : Try.prog.cellsOf 46 = 1 := by kernel_rfl
theorem cells47 : Try.prog.cellsOf 47 = 1 := by kernel_rfl
theorem cells48 : Try.prog.cellsOf 48 = 32 := by kernel_rfl
theorem cells49 : Try.prog.cellsOf 49 = 1 := by kernel_rfl
theorem cells50 : Try.prog.cellsOf 50 = 1 := by kernel_rfl
theorem cells51 : Try.prog.cellsOf 51 = 1 := by kernel_rfl
theorem cells52 : Try.prog.cellsOf 52 = 1 := by kernel_rfl
theorem cells53 : Try.prog.cellsOf 53 = 1 := by kernel_rfl
theorem cells54 : Try.prog.cellsOf 54 = 1 := by kernel_rfl
theorem cells55 : Try.prog.cellsOf 55 = 1 := by kernel_rfl
theorem cells56 : Try.prog.cellsOf 56 = 1 := by kernel_rfl
theorem cells57 : Try.prog.cellsOf 57 = 1 := by kernel_rfl
theorem cells58 : Try.prog.cellsOf 58 = 1 := by kernel_rfl
theorem cells59 : Try.prog.cellsOf 59 = 2 := by kernel_rfl
theorem cells60 : Try.prog.cellsOf 60 = 2 := by kernel_rfl
theorem cells61 : Try.prog.cellsOf 61 = 1 := by kernel_rfl
theorem cells62 : Try.prog.cellsOf 62 = 1 := by kernel_rfl
theorem cells63 : Try.prog.cellsOf 63 = 1 := by kernel_rfl
theorem cells64 : Try.prog.cellsOf 64 = 1 := by kernel_rfl
theorem cells65 : Try.prog.cellsOf 65 = 4 := by kernel_rfl
theorem cells66 : Try.prog.cellsOf 66 = 4 := by kernel_rfl
theorem cells67 : Try.prog.cellsOf 67 = 0 := by kernel_rfl
theorem cells68 : Try.prog.cellsOf 68 = 0 := by kernel_rfl
theorem cells69 : Try.prog.cellsOf 69 = 0 := by kernel_rfl
theorem cells70 : Try.prog.cellsOf 70 = 1 := by kernel_rfl
theorem cells71 : Try.prog.cellsOf 71 = 1 := by kernel_rfl
theorem cells72 : Try.prog.cellsOf 72 = 1 := by kernel_rfl
theorem cells73 : Try.prog.cellsOf 73 = 1 := by kernel_rfl
theorem cells74 : Try.prog.cellsOf 74 = 1 := by kernel_rfl
theorem cells75 : Try.prog.cellsOf 75 = 1 := by kernel_rfl
theorem cells76 : Try.prog.cellsOf 76 = 1 := by kernel_rfl
theorem cells77 : Try.prog.cellsOf 77 = 1 := by kernel_rfl
theorem cells78 : Try.prog.cellsOf 78 = 11 := by kernel_rfl
theorem cells79 : Try.prog.cellsOf 79 = 11 := by kernel_rfl
theorem cells80 : Try.prog.cellsOf 80 = 1 := by kernel_rfl
theorem zer0 : zer Try.prog 0 = some ((Go.Value.tuple #[])) := by kernel_rfl
theorem zer1 : zer Try.prog 1 = some (Go.Value.nilFunc) := by kernel_rfl
theorem zer2 : zer Try.prog 2 = some ((Go.Value.int Go.IntKind.i64 0)) := by kernel_rfl
theorem zer3 : zer Try.prog 3 = some ((Go.Value.int Go.IntKind.i64 0)) := by kernel_rfl
theorem zer4 : zer Try.prog 4 = some ((Go.Value.bool Bool.false)) := by kernel_rfl
theorem zer5 : zer Try.prog 5 = some ((Go.Value.int Go.IntKind.u8 0)) := by kernel_rfl
theorem zer6 : zer Try.prog 6 = some ((Go.Value.int Go.IntKind.u8 0)) := by kernel_rfl
theorem zer7 : zer Try.prog 7 = some ((Go.Value.agg #[Go.Value.int Go.IntKind.i64 0, Go.Value.int Go.IntKind.i64 0, Go.Value.bool Bool.false, Go.Value.int Go.IntKind.u8 0])) := by kernel_rfl
theorem zer8 : zer Try.prog 8 = some ((Go.Value.agg #[Go.Value.int Go.IntKind.i64 0, Go.Value.int Go.IntKind.i64 0, Go.Value.bool Bool.false, Go.Value.int Go.IntKind.u8 0])) := by kernel_rfl
theorem zer9 : zer Try.prog 9 = some ((Go.Value.string { data := #[] })) := by kernel_rfl
theorem zer10 : zer Try.prog 10 = some ((Go.Value.string { data := #[] })) := by kernel_rfl
theorem zer11 : zer Try.prog 11 = some ((Go.Value.string { data := #[] })) := by kernel_rfl
theorem zer12 : zer Try.prog 12 = some ((Go.Value.int Go.IntKind.u64 0)) := by kernel_rfl
theorem zer13 : zer Try.prog 13 = some ((Go.Value.agg #[Go.Value.string { data := #[] }, Go.Value.int Go.IntKind.u64 0])) := by kernel_rfl
theorem zer14 : zer Try.prog 14 = some ((Go.Value.agg #[Go.Value.string { data := #[] }, Go.Value.int Go.IntKind.u64 0])) := by kernel_rfl
theorem zer15 : zer Try.prog 15 = some ((Go.Value.pointer Option.none)) := by kernel_rfl
theorem zer16 : zer Try.prog 16 = some ((Go.Value.pointer Option.none)) := by kernel_rfl
theorem zer17 : zer Try.prog 17 = some ((Go.Value.pointer Option.none)) := by kernel_rfl
theorem zer18 : zer Try.prog 18 = some ((Go.Value.agg #[Go.Value.pointer Option.none])) := by kernel_rfl
theorem zer19 : zer Try.prog 19 = some ((Go.Value.agg #[Go.Value.pointer Option.none])) := by kernel_rfl
theorem zer20 : zer Try.prog 20 = some (Go.Value.nilIface) := by kernel_rfl
theorem zer21 : zer Try.prog 21 = some ((Go.Value.int Go.IntKind.i32 0)) := by kernel_rfl
theorem zer22 : zer Try.prog 22 = some ((Go.Value.slice Option.none 0 0)) := by kernel_rfl
theorem zer23 : zer Try.prog 23 = some (Go.Value.nilFunc) := by kernel_rfl
theorem zer24 : zer Try.prog 24 = some ((Go.Value.agg #[Go.Value.int Go.IntKind.u8 0, Go.Value.int Go.IntKind.u8 0, Go.Value.int Go.IntKind.u8 0, Go.Value.int Go.IntKind.u8 0, Go.Value.int Go.IntKind.u8 0, Go.Value.int Go.IntKind.u8 0, Go.Value.int Go.IntKind.u8 0, Go.Value.int Go.IntKind.u8 0, Go.Value.int Go.IntKind.u8 0, Go.Value.int Go.IntKind.u8 0, Go.Value.int Go.IntKind.u8 0, Go.Value.int Go.IntKind.u8 0, Go.Value.int Go.IntKind.u8 0, Go.Value.int Go.IntKind.u8 0, Go.Value.int Go.IntKind.u8 0, Go.Value.int Go.IntKind.u8 0])) := by kernel_rfl
theorem zer25 : zer Try.prog 25 = some ((Go.Value.agg #[Go.Value.int Go.IntKind.u8 0, Go.Value.int Go.IntKind.u8 0, Go.Value.int Go.IntKind.u8 0, Go.Value.int Go.IntKind.u8 0, Go.Value.int Go.IntKind.u8 0, Go.Value.int Go.IntKind.u8 0, Go.Value.int Go.IntKind.u8 0, Go.Value.int Go.IntKind.u8 0, Go.Value.int Go.IntKind.u8 0, Go.Value.int Go.IntKind.u8 0, Go.Value.int Go.IntKind.u8 0, Go.Value.int Go.IntKind.u8 0, Go.Value.int Go.IntKind.u8 0, Go.Value.int Go.IntKind.u8 0, Go.Value.int Go.IntKind.u8 0, Go.Value.int Go.IntKind.u8 0, Go.Value.int Go.IntKind.u8 0, Go.Value.int Go.IntKind.u8 0, Go.Value.int Go.IntKind.u8 0, Go.Value.int Go.IntKind.u8 0, Go.Value.int Go.IntKind.u8 0, Go.Value.int Go.IntKind.u8 0, Go.Value.int Go.IntKind.u8 0, Go.Value.int Go.IntKind.u8 0, Go.Value.int Go.IntKind.u8 0, Go.Value.int Go.IntKind.u8 0, Go.Value.int Go.IntKind.u8 0, Go.Value.int Go.IntKind.u8 0, Go.Value.int Go.IntKind.u8 0, Go.Value.int Go.IntKind.u8 0, Go.Value.int Go.IntKind.u8 0, Go.Value.int Go.IntKind.u8 0, Go.Value.int Go.IntKind.u8 0, Go.Value.slice Option.none 0 0, Go.Value.bool Bool.false])) := by kernel_rfl
theorem zer26 : zer Try.prog 26 = some ((Go.Value.agg #[Go.Value.int Go.IntKind.u8 0, Go.Value.int Go.IntKind.u8 0, Go.Value.int Go.IntKind.u8 0, Go.Value.int Go.IntKind.u8 0, Go.Value.int Go.IntKind.u8 0, Go.Value.int Go.IntKind.u8 0, Go.Value.int Go.IntKind.u8 0, Go.Value.int Go.IntKind.u8 0, Go.Value.int Go.IntKind.u8 0, Go.Value.int Go.IntKind.u8 0, Go.Value.int Go.IntKind.u8 0, Go.Value.int Go.IntKind.u8 0, Go.Value.int Go.IntKind.u8 0, Go.Value.int Go.IntKind.u8 0, Go.Value.int Go.IntKind.u8 0, Go.Value.int Go.IntKind.u8 0, Go.Value.int Go.IntKind.u8 0, Go.Value.int Go.IntKind.u8 0, Go.Value.int Go.IntKind.u8 0, Go.Value.int Go.IntKind.u8 0, Go.Value.int Go.IntKind.u8 0, Go.Value.int Go.IntKind.u8 0, Go.Value.int Go.IntKind.u8 0, Go.Value.int Go.IntKind.u8 0, Go.Value.int Go.IntKind.u8 0, Go.Value.int Go.IntKind.u8 0, Go.Value.int Go.IntKind.u8 0, Go.Value.int Go.IntKind.u8 0, Go.Value.int Go.IntKind.u8 0, Go.Value.int Go.IntKind.u8 0, Go.Value.int Go.IntKind.u8 0, Go.Value.int Go.IntKind.u8 0, Go.Value.int Go.IntKind.u8 0, Go.Value.slice Option.none 0 0, Go.Value.bool Bool.false])) := by kernel_rfl
theorem zer27 : zer Try.prog 27 = some ((Go.Value.int Go.IntKind.i64 0)) := by kernel_rfl
theorem zer28 : zer Try.prog 28 = some ((Go.Value.tuple #[Go.Value.agg #[Go.Value.int Go.IntKind.u8 0, Go.Value.int Go.IntKind.u8 0, Go.Value.int Go.IntKind.u8 0, Go.Value.int Go.IntKind.u8 0, Go.Value.int Go.IntKind.u8 0, Go.Value.int Go.IntKind.u8 0, Go.Value.int Go.IntKind.u8 0, Go.Value.int Go.IntKind.u8 0, Go.Value.int Go.IntKind.u8 0, Go.Value.int Go.IntKind.u8 0, Go.Value.int Go.IntKind.u8 0, Go.Value.int Go.IntKind.u8 0, Go.Value.int Go.IntKind.u8 0, Go.Value.int Go.IntKind.u8 0, Go.Value.int Go.IntKind.u8 0, Go.Value.int Go.IntKind.u8 0, Go.Value.int Go.IntKind.u8 0, Go.Value.int Go.IntKind.u8 0, Go.Value.int Go.IntKind.u8 0, Go.Value.int Go.IntKind.u8 0, Go.Value.int Go.IntKind.u8 0, Go.Value.int Go.IntKind.u8 0, Go.Value.int Go.IntKind.u8 0, Go.Value.int Go.IntKind.u8 0, Go.Value.int Go.IntKind.u8 0, Go.Value.int Go.IntKind.u8 0, Go.Value.int Go.IntKind.u8 0, Go.Value.int Go.IntKind.u8 0, Go.Value.int Go.IntKind.u8 0, Go.Value.int Go.IntKind.u8 0, Go.Value.int Go.IntKind.u8 0, Go.Value.int Go.IntKind.u8 0, Go.Value.int Go.IntKind.u8 0, Go.Value.slice Option.none 0 0, Go.Value.bool Bool.false], Go.Value.int Go.IntKind.i64 0])) := by kernel_rfl
theorem zer29 : zer Try.prog 29 = some (Go.Value.nilFunc) := by kernel_rfl
theorem zer30 : zer Try.prog 30 = some ((Go.Value.agg #[Go.Value.int Go.IntKind.u8 0, Go.Value.int Go.IntKind.u8 0, Go.Value.int Go.IntKind.u8 0, Go.Value.int Go.IntKind.u8 0, Go.Value.int Go.IntKind.u8 0, Go.Value.int Go.IntKind.u8 0, Go.Value.int Go.IntKind.u8 0, Go.Value.int Go.IntKind.u8 0, Go.Value.int Go.IntKind.u8 0, Go.Value.int Go.IntKind.u8 0, Go.Value.int Go.IntKind.u8 0, Go.Value.int Go.IntKind.u8 0, Go.Value.int Go.IntKind.u8 0, Go.Value.int Go.IntKind.u8 0, Go.Value.int Go.IntKind.u8 0, Go.Value.int Go.IntKind.u8 0, Go.Value.int Go.IntKind.u8 0, Go.Value.int Go.IntKind.u8 0, Go.Value.int Go.IntKind.u8 0, Go.Value.int Go.IntKind.u8 0, Go.Value.int Go.IntKind.u8 0, Go.Value.int Go.IntKind.u8 0, Go.Value.int Go.IntKind.u8 0, Go.Value.int Go.IntKind.u8 0, Go.Value.int Go.IntKind.u8 0, Go.Value.int Go.IntKind.u8 0, Go.Value.int Go.IntKind.u8 0, Go.Value.int Go.IntKind.u8 0, Go.Value.int Go.IntKind.u8 0, Go.Value.int Go.IntKind.u8 0, Go.Value.int Go.IntKind.u8 0, Go.Value.int Go.IntKind.u8 0, Go.Value.int Go.IntKind.u8 0, Go.Value.slice Option.none 0 0, Go.Value.bool Bool.false])) := by kernel_rfl
theorem zer31 : zer Try.prog 31 = some ((Go.Value.tuple #[Go.Value.agg #[Go.Value.int Go.IntKind.u8 0, Go.Value.int Go.IntKind.u8 0, Go.Value.int Go.IntKind.u8 0, Go.Value.int Go.IntKind.u8 0, Go.Value.int Go.IntKind.u8 0, Go.Value.int Go.IntKind.u8 0, Go.Value.int Go.IntKind.u8 0, Go.Value.int Go.IntKind.u8 0, Go.Value.int Go.IntKind.u8 0, Go.Value.int Go.IntKind.u8 0, Go.Value.int Go.IntKind.u8 0, Go.Value.int Go.IntKind.u8 0, Go.Value.int Go.IntKind.u8 0, Go.Value.int Go.IntKind.u8 0, Go.Value.int Go.IntKind.u8 0, Go.Value.int Go.IntKind.u8 0, Go.Value.int Go.IntKind.u8 0, Go.Value.int Go.IntKind.u8 0, Go.Value.int Go.IntKind.u8 0, Go.Value.int Go.IntKind.u8 0, Go.Value.int Go.IntKind.u8 0, Go.Value.int Go.IntKind.u8 0, Go.Value.int Go.IntKind.u8 0, Go.Value.int Go.IntKind.u8 0, Go.Value.int Go.IntKind.u8 0, Go.Value.int Go.IntKind.u8 0, Go.Value.int Go.IntKind.u8 0, Go.Value.int Go.IntKind.u8 0, Go.Value.int Go.IntKind.u8 0, Go.Value.int Go.IntKind.u8 0, Go.Value.int Go.IntKind.u8 0, Go.Value.int Go.IntKind.u8 0, Go.Value.int Go.IntKind.u8 0, Go.Value.slice Option.none 0 0, Go.Value.bool Bool.false], Go.Value.int Go.IntKind.i64 0])) := by kernel_rfl
theorem zer32 : zer Try.prog 32 = some (Go.Value.nilFunc) := by kernel_rfl
theorem zer33 : zer Try.prog 33 = some (Go.Value.nilFunc) := by kernel_rfl
theorem zer34 : zer Try.prog 34 = some (Go.Value.nilFunc) := by kernel_rfl
theorem zer35 : zer Try.prog 35 = some (Go.Value.nilFunc) := by kernel_rfl
theorem zer36 : zer Try.prog 36 = some (Go.Value.nilFunc) := by kernel_rfl
theorem zer37 : zer Try.prog 37 = some ((Go.Value.int Go.IntKind.u16 0)) := by kernel_rfl
theorem zer38 : zer Try.prog 38 = some (Go.Value.nilFunc) := by kernel_rfl
theorem zer39 : zer Try.prog 39 = some ((Go.Value.tuple #[Go.Value.int Go.IntKind.u16 0, Go.Value.int Go.IntKind.u16 0, Go.Value.int Go.IntKind.i64 0])) := by kernel_rfl
theorem zer40 : zer Try.prog 40 = some (Go.Value.nilFunc) := by kernel_rfl
theorem zer41 : zer Try.prog 41 = some ((Go.Value.tuple #[Go.Value.int Go.IntKind.i64 0, Go.Value.int Go.IntKind.i64 0, Go.Value.int Go.IntKind.i64 0])) := by kernel_rfl
theorem zer42 : zer Try.prog 42 = some (Go.Value.nilFunc) := by kernel_rfl
theorem zer43 : zer Try.prog 43 = some (Go.Value.nilFunc) := by kernel_rfl
theorem zer44 : zer Try.prog 44 = some (Go.Value.nilFunc) := by kernel_rfl
theorem zer45 : zer Try.prog 45 = some (Go.Value.nilFunc) := by kernel_rfl
theorem zer46 : zer Try.prog 46 = some ((Go.Value.int Go.IntKind.u64 0)) := by kernel_rfl
theorem zer47 : zer Try.prog 47 = some (Go.Value.nilFunc) := by kernel_rfl
theorem zer48 : zer Try.prog 48 = some ((Go.Value.agg #[Go.Value.int Go.IntKind.u8 0, Go.Value.int Go.IntKind.u8 0, Go.Value.int Go.IntKind.u8 0, Go.Value.int Go.IntKind.u8 0, Go.Value.int Go.IntKind.u8 0, Go.Value.int Go.IntKind.u8 0, Go.Value.int Go.IntKind.u8 0, Go.Value.int Go.IntKind.u8 0, Go.Value.int Go.IntKind.u8 0, Go.Value.int Go.IntKind.u8 0, Go.Value.int Go.IntKind.u8 0, Go.Value.int Go.IntKind.u8 0, Go.Value.int Go.IntKind.u8 0, Go.Value.int Go.IntKind.u8 0, Go.Value.int Go.IntKind.u8 0, Go.Value.int Go.IntKind.u8 0, Go.Value.int Go.IntKind.u8 0, Go.Value.int Go.IntKind.u8 0, Go.Value.int Go.IntKind.u8 0, Go.Value.int Go.IntKind.u8 0, Go.Value.int Go.IntKind.u8 0, Go.Value.int Go.IntKind.u8 0, Go.Value.int Go.IntKind.u8 0, Go.Value.int Go.IntKind.u8 0, Go.Value.int Go.IntKind.u8 0, Go.Value.int Go.IntKind.u8 0, Go.Value.int Go.IntKind.u8 0, Go.Value.int Go.IntKind.u8 0, Go.Value.int Go.IntKind.u8 0, Go.Value.int Go.IntKind.u8 0, Go.Value.int Go.IntKind.u8 0, Go.Value.int Go.IntKind.u8 0])) := by kernel_rfl
theorem zer49 : zer Try.prog 49 = some (Go.Value.nilFunc) := by kernel_rfl
theorem zer50 : zer Try.prog 50 = some (Go.Value.nilFunc) := by kernel_rfl
theorem zer51 : zer Try.prog 51 = some (Go.Value.nilFunc) := by kernel_rfl
theorem zer52 : zer Try.prog 52 = some (Go.Value.nilFunc) := by kernel_rfl
theorem zer53 : zer Try.prog 53 = some ((Go.Value.pointer Option.none)) := by kernel_rfl
theorem zer54 : zer Try.prog 54 = some (Go.Value.nilFunc) := by kernel_rfl
theorem zer55 : zer Try.prog 55 = some (Go.Value.nilFunc) := by kernel_rfl
theorem zer56 : zer Try.prog 56 = some (Go.Value.nilFunc) := by kernel_rfl
theorem zer57 : zer Try.prog 57 = some ((Go.Value.tuple #[Go.Value.slice Option.none 0 0, Go.Value.bool Bool.false, Go.Value.bool Bool.false])) := by kernel_rfl
theorem zer58 : zer Try.prog 58 = some (Go.Value.nilFunc) := by kernel_rfl
theorem zer59 : zer Try.prog 59 = some ((Go.Value.agg #[Go.Value.slice Option.none 0 0, Go.Value.bool Bool.false])) := by kernel_rfl
theorem zer60 : zer Try.prog 60 = some ((Go.Value.agg #[Go.Value.slice Option.none 0 0, Go.Value.bool Bool.false])) := by kernel_rfl
theorem zer61 : zer Try.prog 61 = some ((Go.Value.int Go.IntKind.u64 0)) := by kernel_rfl
theorem zer62 : zer Try.prog 62 = some (Go.Value.nilFunc) := by kernel_rfl
theorem zer63 : zer Try.prog 63 = some (Go.Value.nilFunc) := by kernel_rfl
theorem zer64 : zer Try.prog 64 = some (Go.Value.nilFunc) := by kernel_rfl
theorem zer65 : zer Try.prog 65 = some ((Go.Value.agg #[Go.Value.pointer Option.none, Go.Value.pointer Option.none, Go.Value.pointer Option.none, Go.Value.string { data := #[] }])) := by kernel_rfl
theorem zer66 : zer Try.prog 66 = some ((Go.Value.agg #[Go.Value.pointer Option.none, Go.Value.pointer Option.none, Go.Value.pointer Option.none, Go.Value.string { data := #[] }])) := by kernel_rfl
theorem zer67 : zer Try.prog 67 = some ((Go.Value.agg #[])) := by kernel_rfl
theorem zer68 : zer Try.prog 68 = some ((Go.Value.agg #[])) := by kernel_rfl
theorem zer69 : zer Try.prog 69 = some ((Go.Value.agg #[])) := by kernel_rfl
theorem zer70 : zer Try.prog 70 = some (Go.Value.nilFunc) := by kernel_rfl
theorem zer71 : zer Try.prog 71 = some ((Go.Value.int Go.IntKind.u32 0)) := by kernel_rfl
theorem zer72 : zer Try.prog 72 = some ((Go.Value.int Go.IntKind.u8 0)) := by kernel_rfl
theorem zer73 : zer Try.prog 73 = some ((Go.Value.int Go.IntKind.u8 0)) := by kernel_rfl
theorem zer74 : zer Try.prog 74 = some (Go.Value.nilFunc) := by kernel_rfl
theorem zer75 : zer Try.prog 75 = some ((Go.Value.pointer Option.none)) := by kernel_rfl
theorem zer76 : zer Try.prog 76 = some ((Go.Value.int Go.IntKind.i32 0)) := by kernel_rfl
theorem zer77 : zer Try.prog 77 = some ((Go.Value.int Go.IntKind.i32 0)) := by kernel_rfl
theorem zer78 : zer Try.prog 78 = some ((Go.Value.agg #[Go.Value.int Go.IntKind.u64 0, Go.Value.int Go.IntKind.u64 0, Go.Value.int Go.IntKind.u32 0, Go.Value.int Go.IntKind.u8 0, Go.Value.int Go.IntKind.u8 0, Go.Value.int Go.IntKind.u8 0, Go.Value.int Go.IntKind.u8 0, Go.Value.nilFunc, Go.Value.pointer Option.none, Go.Value.int Go.IntKind.i32 0, Go.Value.int Go.IntKind.i32 0])) := by kernel_rfl
theorem zer79 : zer Try.prog 79 = some ((Go.Value.agg #[Go.Value.int Go.IntKind.u64 0, Go.Value.int Go.IntKind.u64 0, Go.Value.int Go.IntKind.u32 0, Go.Value.int Go.IntKind.u8 0, Go.Value.int Go.IntKind.u8 0, Go.Value.int Go.IntKind.u8 0, Go.Value.int Go.IntKind.u8 0, Go.Value.nilFunc, Go.Value.pointer Option.none, Go.Value.int Go.IntKind.i32 0, Go.Value.int Go.IntKind.i32 0])) := by kernel_rfl
theorem zer80 : zer Try.prog 80 = some ((Go.Value.pointer Option.none)) := by kernel_rfl
theorem mixed : Try.prog.follows .mixedOrders = true := by kernel_rfl
end Go.Proofs.Ytjdeooeddcjmmaa
