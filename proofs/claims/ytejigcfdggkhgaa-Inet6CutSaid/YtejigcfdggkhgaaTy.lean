/-
  What the calculus asks of the types of this seat's translation: how many cells, what a nought is. By a program.
-/
import Derived.Test.YtejigcfdggkhgaaProg
import Derived.Test.YtejigcfdggkhgaaRv
namespace Go.Proofs.Ytejigcfdggkhgaa
open Go Go.RowKit Go.Proofs.RV
theorem cells0 : Try.prog.cellsOf 0 = 1 := by kernel_rfl
theorem cells1 : Try.prog.cellsOf 1 = 1 := by kernel_rfl
theorem cells2 : Try.prog.cellsOf 2 = 1 := by kernel_rfl
theorem cells3 : Try.prog.cellsOf 3 = 1 := by kernel_rfl
theorem cells4 : Try.prog.cellsOf 4 = 1 := by kernel_rfl
theorem cells5 : Try.prog.cellsOf 5 = 1 := by kernel_rfl
theorem cells6 : Try.prog.cellsOf 6 = 1 := by kernel_rfl
theorem cells7 : Try.prog.cellsOf 7 = 4 := by kernel_rfl
theorem cells8 : Try.prog.cellsOf 8 = 4 := by kernel_rfl
theorem cells9 : Try.prog.cellsOf 9 = 1 := by kernel_rfl
theorem cells10 : Try.prog.cellsOf 10 = 1 := by kernel_rfl
theorem cells11 : Try.prog.cellsOf 11 = 1 := by kernel_rfl
theorem cells12 : Try.prog.cellsOf 12 = 1 := by kernel_rfl
theorem cells13 : Try.prog.cellsOf 13 = 2 := by kernel_rfl
theorem cells14 : Try.prog.cellsOf 14 = 2 := by kernel_rfl
theorem cells15 : Try.prog.cellsOf 15 = 1 := by kernel_rfl
theorem cells16 : Try.prog.cellsOf 16 = 1 := by kernel_rfl
theorem cells17 : Try.prog.cellsOf 17 = 1 := by kernel_rfl
theorem cells18 : Try.prog.cellsOf 18 = 1 := by kernel_rfl
theorem cells19 : Try.prog.cellsOf 19 = 1 := by kernel_rfl
theorem cells20 : Try.prog.cellsOf 20 = 1 := by kernel_rfl
theorem cells21 : Try.prog.cellsOf 21 = 1 := by kernel_rfl
theorem cells22 : Try.prog.cellsOf 22 = 16 := by kernel_rfl
theorem cells23 : Try.prog.cellsOf 23 = 1 := by kernel_rfl
theorem cells24 : Try.prog.cellsOf 24 = 35 := by kernel_rfl
theorem cells25 : Try.prog.cellsOf 25 = 35 := by kernel_rfl
theorem cells26 : Try.prog.cellsOf 26 = 1 := by kernel_rfl
theorem cells27 : Try.prog.cellsOf 27 = 1 := by kernel_rfl
theorem cells28 : Try.prog.cellsOf 28 = 1 := by kernel_rfl
theorem cells29 : Try.prog.cellsOf 29 = 1 := by kernel_rfl
theorem cells30 : Try.prog.cellsOf 30 = 1 := by kernel_rfl
theorem cells31 : Try.prog.cellsOf 31 = 1 := by kernel_rfl
theorem cells32 : Try.prog.cellsOf 32 = 1 := by kernel_rfl
theorem cells33 : Try.prog.cellsOf 33 = 35 := by kernel_rfl
theorem cells34 : Try.prog.cellsOf 34 = 1 := by kernel_rfl
theorem cells35 : Try.prog.cellsOf 35 = 1 := by kernel_rfl
theorem cells36 : Try.prog.cellsOf 36 = 1 := by kernel_rfl
theorem cells37 : Try.prog.cellsOf 37 = 1 := by kernel_rfl
theorem cells38 : Try.prog.cellsOf 38 = 1 := by kernel_rfl
theorem cells39 : Try.prog.cellsOf 39 = 1 := by kernel_rfl
theorem cells40 : Try.prog.cellsOf 40 = 1 := by kernel_rfl
theorem cells41 : Try.prog.cellsOf 41 = 1 := by kernel_rfl
theorem cells42 : Try.prog.cellsOf 42 = 1 := by kernel_rfl
theorem cells43 : Try.prog.cellsOf 43 = 1 := by kernel_rfl
theorem cells44 : Try.prog.cellsOf 44 = 1 := by kernel_rfl
theorem cells45 : Try.prog.cellsOf 45 = 1 := by kernel_rfl
theorem cells46 : Try.prog.cellsOf 46 = 1 := by kernel_rfl
theorem cells47 : Try.prog.cellsOf 47 = 32 := by kernel_rfl
theorem cells48 : Try.prog.cellsOf 48 = 1 := by kernel_rfl
theorem cells49 : Try.prog.cellsOf 49 = 1 := by kernel_rfl
theorem cells50 : Try.prog.cellsOf 50 = 1 := by kernel_rfl
theorem cells51 : Try.prog.cellsOf 51 = 1 := by kernel_rfl
theorem cells52 : Try.prog.cellsOf 52 = 1 := by kernel_rfl
theorem cells53 : Try.prog.cellsOf 53 = 1 := by kernel_rfl
theorem cells54 : Try.prog.cellsOf 54 = 1 := by kernel_rfl
theorem cells55 : Try.prog.cellsOf 55 = 2 := by kernel_rfl
theorem cells56 : Try.prog.cellsOf 56 = 2 := by kernel_rfl
theorem cells57 : Try.prog.cellsOf 57 = 1 := by kernel_rfl
theorem cells58 : Try.prog.cellsOf 58 = 1 := by kernel_rfl
theorem cells59 : Try.prog.cellsOf 59 = 1 := by kernel_rfl
theorem cells60 : Try.prog.cellsOf 60 = 1 := by kernel_rfl
theorem cells61 : Try.prog.cellsOf 61 = 3 := by kernel_rfl
theorem cells62 : Try.prog.cellsOf 62 = 3 := by kernel_rfl
theorem cells63 : Try.prog.cellsOf 63 = 1 := by kernel_rfl
theorem cells64 : Try.prog.cellsOf 64 = 12 := by kernel_rfl
theorem cells65 : Try.prog.cellsOf 65 = 1 := by kernel_rfl
theorem cells66 : Try.prog.cellsOf 66 = 1 := by kernel_rfl
theorem cells67 : Try.prog.cellsOf 67 = 1 := by kernel_rfl
theorem cells68 : Try.prog.cellsOf 68 = 1 := by kernel_rfl
theorem cells69 : Try.prog.cellsOf 69 = 1 := by kernel_rfl
theorem cells70 : Try.prog.cellsOf 70 = 1 := by kernel_rfl
theorem cells71 : Try.prog.cellsOf 71 = 1 := by kernel_rfl
theorem cells72 : Try.prog.cellsOf 72 = 1 := by kernel_rfl
theorem cells73 : Try.prog.cellsOf 73 = 1 := by kernel_rfl
theorem cells74 : Try.prog.cellsOf 74 = 1 := by kernel_rfl
theorem cells75 : Try.prog.cellsOf 75 = 2 := by kernel_rfl
theorem cells76 : Try.prog.cellsOf 76 = 2 := by kernel_rfl
theorem cells77 : Try.prog.cellsOf 77 = 1 := by kernel_rfl
theorem cells78 : Try.prog.cellsOf 78 = 1 := by kernel_rfl
theorem cells79 : Try.prog.cellsOf 79 = 1 := by kernel_rfl
theorem cells80 : Try.prog.cellsOf 80 = 1 := by kernel_rfl
theorem cells81 : Try.prog.cellsOf 81 = 1 := by kernel_rfl
theorem cells82 : Try.prog.cellsOf 82 = 1 := by kernel_rfl
theorem cells83 : Try.prog.cellsOf 83 = 1 := by kernel_rfl
theorem cells84 : Try.prog.cellsOf 84 = 1 := by kernel_rfl
theorem cells85 : Try.prog.cellsOf 85 = 1 := by kernel_rfl
theorem cells86 : Try.prog.cellsOf 86 = 1 := by kernel_rfl
theorem cells87 : Try.prog.cellsOf 87 = 1 := by kernel_rfl
theorem cells88 : Try.prog.cellsOf 88 = 1 := by kernel_rfl
theorem cells89 : Try.prog.cellsOf 89 = 2 := by kernel_rfl
theorem cells90 : Try.prog.cellsOf 90 = 2 := by kernel_rfl
theorem cells91 : Try.prog.cellsOf 91 = 1 := by kernel_rfl
theorem cells92 : Try.prog.cellsOf 92 = 1 := by kernel_rfl
theorem cells93 : Try.prog.cellsOf 93 = 1 := by kernel_rfl
theorem cells94 : Try.prog.cellsOf 94 = 1 := by kernel_rfl
theorem cells95 : Try.prog.cellsOf 95 = 1 := by kernel_rfl
theorem cells96 : Try.prog.cellsOf 96 = 1 := by kernel_rfl
theorem cells97 : Try.prog.cellsOf 97 = 1 := by kernel_rfl
theorem cells98 : Try.prog.cellsOf 98 = 1 := by kernel_rfl
theorem cells99 : Try.prog.cellsOf 99 = 4 := by kernel_rfl
theorem cells100 : Try.prog.cellsOf 100 = 4 := by kernel_rfl
theorem cells101 : Try.prog.cellsOf 101 = 0 := by kernel_rfl
theorem cells102 : Try.prog.cellsOf 102 = 0 := by kernel_rfl
theorem cells103 : Try.prog.cellsOf 103 = 0 := by kernel_rfl
theorem cells104 : Try.prog.cellsOf 104 = 1 := by kernel_rfl
theorem cells105 : Try.prog.cellsOf 105 = 1 := by kernel_rfl
theorem cells106 : Try.prog.cellsOf 106 = 1 := by kernel_rfl
theorem cells107 : Try.prog.cellsOf 107 = 1 := by kernel_rfl
theorem cells108 : Try.prog.cellsOf 108 = 1 := by kernel_rfl
theorem cells109 : Try.prog.cellsOf 109 = 1 := by kernel_rfl
theorem cells110 : Try.prog.cellsOf 110 = 11 := by kernel_rfl
theorem cells111 : Try.prog.cellsOf 111 = 11 := by kernel_rfl
theorem cells112 : Try.prog.cellsOf 112 = 1 := by kernel_rfl
theorem zer0 : zer Try.prog 0 = some ((Go.Value.tuple #[])) := by kernel_rfl
theorem zer1 : zer Try.prog 1 = some (Go.Value.nilFunc) := by kernel_rfl
theorem zer2 : zer Try.prog 2 = some ((Go.Value.int Go.IntKind.i64 0)) := by kernel_rfl
theorem zer3 : zer Try.prog 3 = some ((Go.Value.int Go.IntKind.i64 0)) := by kernel_rfl
theorem zer4 : zer Try.prog 4 = some ((Go.Value.bool Bool.false)) := by kernel_rfl
theorem zer5 : zer Try.prog 5 = some ((Go.Value.int Go.IntKind.u8 0)) := by kernel_rfl
theorem zer6 : zer Try.prog 6 = some ((Go.Value.int Go.IntKind.u8 0)) := by kernel_rfl
theorem zer7 : zer Try.prog 7 = some ((Go.Value.agg #[Go.Value.int Go.IntKind.i64 0, Go.Value.int Go.IntKind.i64 0, Go.Value.bool Bool.false, Go.Value.int Go.IntKind.u8 0])) := by kernel_rfl
theorem zer8 : zer Try.prog 8 = some ((Go.Value.agg #[Go.Value.int Go.IntKind.i64 0, Go.Value.int Go.IntKind.i64 0, Go.Value.bool Bool.false, Go.Value.int Go.IntKind.u8 0])) := by kernel_rfl
theorem zer9 : zer Try.prog 9 = some ((Go.Value.string { data := #[] })) := by kernel_rfl
theorem zer10 : zer Try.prog 10 = some ((Go.Value.string { data := #[] })) := by kernel_rfl
theorem zer11 : zer Try.prog 11 = some ((Go.Value.string { data := #[] })) := by kernel_rfl
theorem zer12 : zer Try.prog 12 = some ((Go.Value.int Go.IntKind.u64 0)) := by kernel_rfl
theorem zer13 : zer Try.prog 13 = some ((Go.Value.agg #[Go.Value.string { data := #[] }, Go.Value.int Go.IntKind.u64 0])) := by kernel_rfl
theorem zer14 : zer Try.prog 14 = some ((Go.Value.agg #[Go.Value.string { data := #[] }, Go.Value.int Go.IntKind.u64 0])) := by kernel_rfl
theorem zer15 : zer Try.prog 15 = some ((Go.Value.pointer Option.none)) := by kernel_rfl
theorem zer16 : zer Try.prog 16 = some ((Go.Value.pointer Option.none)) := by kernel_rfl
theorem zer17 : zer Try.prog 17 = some ((Go.Value.pointer Option.none)) := by kernel_rfl
theorem zer18 : zer Try.prog 18 = some ((Go.Value.agg #[Go.Value.pointer Option.none])) := by kernel_rfl
theorem zer19 : zer Try.prog 19 = some ((Go.Value.agg #[Go.Value.pointer Option.none])) := by kernel_rfl
theorem zer20 : zer Try.prog 20 = some (Go.Value.nilIface) := by kernel_rfl
theorem zer21 : zer Try.prog 21 = some ((Go.Value.int Go.IntKind.i32 0)) := by kernel_rfl
theorem zer22 : zer Try.prog 22 = some ((Go.Value.agg #[Go.Value.int Go.IntKind.u8 0, Go.Value.int Go.IntKind.u8 0, Go.Value.int Go.IntKind.u8 0, Go.Value.int Go.IntKind.u8 0, Go.Value.int Go.IntKind.u8 0, Go.Value.int Go.IntKind.u8 0, Go.Value.int Go.IntKind.u8 0, Go.Value.int Go.IntKind.u8 0, Go.Value.int Go.IntKind.u8 0, Go.Value.int Go.IntKind.u8 0, Go.Value.int Go.IntKind.u8 0, Go.Value.int Go.IntKind.u8 0, Go.Value.int Go.IntKind.u8 0, Go.Value.int Go.IntKind.u8 0, Go.Value.int Go.IntKind.u8 0, Go.Value.int Go.IntKind.u8 0])) := by kernel_rfl
theorem zer23 : zer Try.prog 23 = some ((Go.Value.slice Option.none 0 0)) := by kernel_rfl
theorem zer24 : zer Try.prog 24 = some ((Go.Value.agg #[Go.Value.int Go.IntKind.u8 0, Go.Value.int Go.IntKind.u8 0, Go.Value.int Go.IntKind.u8 0, Go.Value.int Go.IntKind.u8 0, Go.Value.int Go.IntKind.u8 0, Go.Value.int Go.IntKind.u8 0, Go.Value.int Go.IntKind.u8 0, Go.Value.int Go.IntKind.u8 0, Go.Value.int Go.IntKind.u8 0, Go.Value.int Go.IntKind.u8 0, Go.Value.int Go.IntKind.u8 0, Go.Value.int Go.IntKind.u8 0, Go.Value.int Go.IntKind.u8 0, Go.Value.int Go.IntKind.u8 0, Go.Value.int Go.IntKind.u8 0, Go.Value.int Go.IntKind.u8 0, Go.Value.int Go.IntKind.u8 0, Go.Value.int Go.IntKind.u8 0, Go.Value.int Go.IntKind.u8 0, Go.Value.int Go.IntKind.u8 0, Go.Value.int Go.IntKind.u8 0, Go.Value.int Go.IntKind.u8 0, Go.Value.int Go.IntKind.u8 0, Go.Value.int Go.IntKind.u8 0, Go.Value.int Go.IntKind.u8 0, Go.Value.int Go.IntKind.u8 0, Go.Value.int Go.IntKind.u8 0, Go.Value.int Go.IntKind.u8 0, Go.Value.int Go.IntKind.u8 0, Go.Value.int Go.IntKind.u8 0, Go.Value.int Go.IntKind.u8 0, Go.Value.int Go.IntKind.u8 0, Go.Value.int Go.IntKind.u8 0, Go.Value.slice Option.none 0 0, Go.Value.bool Bool.false])) := by kernel_rfl
theorem zer25 : zer Try.prog 25 = some ((Go.Value.agg #[Go.Value.int Go.IntKind.u8 0, Go.Value.int Go.IntKind.u8 0, Go.Value.int Go.IntKind.u8 0, Go.Value.int Go.IntKind.u8 0, Go.Value.int Go.IntKind.u8 0, Go.Value.int Go.IntKind.u8 0, Go.Value.int Go.IntKind.u8 0, Go.Value.int Go.IntKind.u8 0, Go.Value.int Go.IntKind.u8 0, Go.Value.int Go.IntKind.u8 0, Go.Value.int Go.IntKind.u8 0, Go.Value.int Go.IntKind.u8 0, Go.Value.int Go.IntKind.u8 0, Go.Value.int Go.IntKind.u8 0, Go.Value.int Go.IntKind.u8 0, Go.Value.int Go.IntKind.u8 0, Go.Value.int Go.IntKind.u8 0, Go.Value.int Go.IntKind.u8 0, Go.Value.int Go.IntKind.u8 0, Go.Value.int Go.IntKind.u8 0, Go.Value.int Go.IntKind.u8 0, Go.Value.int Go.IntKind.u8 0, Go.Value.int Go.IntKind.u8 0, Go.Value.int Go.IntKind.u8 0, Go.Value.int Go.IntKind.u8 0, Go.Value.int Go.IntKind.u8 0, Go.Value.int Go.IntKind.u8 0, Go.Value.int Go.IntKind.u8 0, Go.Value.int Go.IntKind.u8 0, Go.Value.int Go.IntKind.u8 0, Go.Value.int Go.IntKind.u8 0, Go.Value.int Go.IntKind.u8 0, Go.Value.int Go.IntKind.u8 0, Go.Value.slice Option.none 0 0, Go.Value.bool Bool.false])) := by kernel_rfl
theorem zer26 : zer Try.prog 26 = some (Go.Value.nilFunc) := by kernel_rfl
theorem zer27 : zer Try.prog 27 = some ((Go.Value.int Go.IntKind.u16 0)) := by kernel_rfl
theorem zer28 : zer Try.prog 28 = some ((Go.Value.int Go.IntKind.i64 0)) := by kernel_rfl
theorem zer29 : zer Try.prog 29 = some ((Go.Value.tuple #[Go.Value.int Go.IntKind.u16 0, Go.Value.int Go.IntKind.u16 0, Go.Value.int Go.IntKind.i64 0])) := by kernel_rfl
theorem zer30 : zer Try.prog 30 = some (Go.Value.nilFunc) := by kernel_rfl
theorem zer31 : zer Try.prog 31 = some ((Go.Value.tuple #[Go.Value.int Go.IntKind.i64 0, Go.Value.int Go.IntKind.i64 0, Go.Value.int Go.IntKind.i64 0])) := by kernel_rfl
theorem zer32 : zer Try.prog 32 = some (Go.Value.nilFunc) := by kernel_rfl
theorem zer33 : zer Try.prog 33 = some ((Go.Value.agg #[Go.Value.int Go.IntKind.u8 0, Go.Value.int Go.IntKind.u8 0, Go.Value.int Go.IntKind.u8 0, Go.Value.int Go.IntKind.u8 0, Go.Value.int Go.IntKind.u8 0, Go.Value.int Go.IntKind.u8 0, Go.Value.int Go.IntKind.u8 0, Go.Value.int Go.IntKind.u8 0, Go.Value.int Go.IntKind.u8 0, Go.Value.int Go.IntKind.u8 0, Go.Value.int Go.IntKind.u8 0, Go.Value.int Go.IntKind.u8 0, Go.Value.int Go.IntKind.u8 0, Go.Value.int Go.IntKind.u8 0, Go.Value.int Go.IntKind.u8 0, Go.Value.int Go.IntKind.u8 0, Go.Value.int Go.IntKind.u8 0, Go.Value.int Go.IntKind.u8 0, Go.Value.int Go.IntKind.u8 0, Go.Value.int Go.IntKind.u8 0, Go.Value.int Go.IntKind.u8 0, Go.Value.int Go.IntKind.u8 0, Go.Value.int Go.IntKind.u8 0, Go.Value.int Go.IntKind.u8 0, Go.Value.int Go.IntKind.u8 0, Go.Value.int Go.IntKind.u8 0, Go.Value.int Go.IntKind.u8 0, Go.Value.int Go.IntKind.u8 0, Go.Value.int Go.IntKind.u8 0, Go.Value.int Go.IntKind.u8 0, Go.Value.int Go.IntKind.u8 0, Go.Value.int Go.IntKind.u8 0, Go.Value.int Go.IntKind.u8 0, Go.Value.slice Option.none 0 0, Go.Value.bool Bool.false])) := by kernel_rfl
theorem zer34 : zer Try.prog 34 = some (Go.Value.nilFunc) := by kernel_rfl
theorem zer35 : zer Try.prog 35 = some (Go.Value.nilFunc) := by kernel_rfl
theorem zer36 : zer Try.prog 36 = some (Go.Value.nilFunc) := by kernel_rfl
theorem zer37 : zer Try.prog 37 = some ((Go.Value.pointer Option.none)) := by kernel_rfl
theorem zer38 : zer Try.prog 38 = some (Go.Value.nilFunc) := by kernel_rfl
theorem zer39 : zer Try.prog 39 = some (Go.Value.nilFunc) := by kernel_rfl
theorem zer40 : zer Try.prog 40 = some (Go.Value.nilFunc) := by kernel_rfl
theorem zer41 : zer Try.prog 41 = some ((Go.Value.tuple #[Go.Value.agg #[Go.Value.int Go.IntKind.u8 0, Go.Value.int Go.IntKind.u8 0, Go.Value.int Go.IntKind.u8 0, Go.Value.int Go.IntKind.u8 0, Go.Value.int Go.IntKind.u8 0, Go.Value.int Go.IntKind.u8 0, Go.Value.int Go.IntKind.u8 0, Go.Value.int Go.IntKind.u8 0, Go.Value.int Go.IntKind.u8 0, Go.Value.int Go.IntKind.u8 0, Go.Value.int Go.IntKind.u8 0, Go.Value.int Go.IntKind.u8 0, Go.Value.int Go.IntKind.u8 0, Go.Value.int Go.IntKind.u8 0, Go.Value.int Go.IntKind.u8 0, Go.Value.int Go.IntKind.u8 0, Go.Value.int Go.IntKind.u8 0, Go.Value.int Go.IntKind.u8 0, Go.Value.int Go.IntKind.u8 0, Go.Value.int Go.IntKind.u8 0, Go.Value.int Go.IntKind.u8 0, Go.Value.int Go.IntKind.u8 0, Go.Value.int Go.IntKind.u8 0, Go.Value.int Go.IntKind.u8 0, Go.Value.int Go.IntKind.u8 0, Go.Value.int Go.IntKind.u8 0, Go.Value.int Go.IntKind.u8 0, Go.Value.int Go.IntKind.u8 0, Go.Value.int Go.IntKind.u8 0, Go.Value.int Go.IntKind.u8 0, Go.Value.int Go.IntKind.u8 0, Go.Value.int Go.IntKind.u8 0, Go.Value.int Go.IntKind.u8 0, Go.Value.slice Option.none 0 0, Go.Value.bool Bool.false], Go.Value.int Go.IntKind.i64 0])) := by kernel_rfl
theorem zer42 : zer Try.prog 42 = some (Go.Value.nilFunc) := by kernel_rfl
theorem zer43 : zer Try.prog 43 = some ((Go.Value.int Go.IntKind.u64 0)) := by kernel_rfl
theorem zer44 : zer Try.prog 44 = some (Go.Value.nilFunc) := by kernel_rfl
theorem zer45 : zer Try.prog 45 = some (Go.Value.nilFunc) := by kernel_rfl
theorem zer46 : zer Try.prog 46 = some (Go.Value.nilFunc) := by kernel_rfl
theorem zer47 : zer Try.prog 47 = some ((Go.Value.agg #[Go.Value.int Go.IntKind.u8 0, Go.Value.int Go.IntKind.u8 0, Go.Value.int Go.IntKind.u8 0, Go.Value.int Go.IntKind.u8 0, Go.Value.int Go.IntKind.u8 0, Go.Value.int Go.IntKind.u8 0, Go.Value.int Go.IntKind.u8 0, Go.Value.int Go.IntKind.u8 0, Go.Value.int Go.IntKind.u8 0, Go.Value.int Go.IntKind.u8 0, Go.Value.int Go.IntKind.u8 0, Go.Value.int Go.IntKind.u8 0, Go.Value.int Go.IntKind.u8 0, Go.Value.int Go.IntKind.u8 0, Go.Value.int Go.IntKind.u8 0, Go.Value.int Go.IntKind.u8 0, Go.Value.int Go.IntKind.u8 0, Go.Value.int Go.IntKind.u8 0, Go.Value.int Go.IntKind.u8 0, Go.Value.int Go.IntKind.u8 0, Go.Value.int Go.IntKind.u8 0, Go.Value.int Go.IntKind.u8 0, Go.Value.int Go.IntKind.u8 0, Go.Value.int Go.IntKind.u8 0, Go.Value.int Go.IntKind.u8 0, Go.Value.int Go.IntKind.u8 0, Go.Value.int Go.IntKind.u8 0, Go.Value.int Go.IntKind.u8 0, Go.Value.int Go.IntKind.u8 0, Go.Value.int Go.IntKind.u8 0, Go.Value.int Go.IntKind.u8 0, Go.Value.int Go.IntKind.u8 0])) := by kernel_rfl
theorem zer48 : zer Try.prog 48 = some (Go.Value.nilFunc) := by kernel_rfl
theorem zer49 : zer Try.prog 49 = some ((Go.Value.agg #[Go.Value.slice Option.none 0 0])) := by kernel_rfl
theorem zer50 : zer Try.prog 50 = some ((Go.Value.agg #[Go.Value.slice Option.none 0 0])) := by kernel_rfl
theorem zer51 : zer Try.prog 51 = some (Go.Value.nilFunc) := by kernel_rfl
theorem zer52 : zer Try.prog 52 = some (Go.Value.nilFunc) := by kernel_rfl
theorem zer53 : zer Try.prog 53 = some (Go.Value.nilFunc) := by kernel_rfl
theorem zer54 : zer Try.prog 54 = some (Go.Value.nilFunc) := by kernel_rfl
theorem zer55 : zer Try.prog 55 = some ((Go.Value.agg #[Go.Value.bool Bool.false, Go.Value.int Go.IntKind.i64 0])) := by kernel_rfl
theorem zer56 : zer Try.prog 56 = some ((Go.Value.agg #[Go.Value.bool Bool.false, Go.Value.int Go.IntKind.i64 0])) := by kernel_rfl
theorem zer57 : zer Try.prog 57 = some ((Go.Value.tuple #[Go.Value.agg #[Go.Value.bool Bool.false, Go.Value.int Go.IntKind.i64 0], Go.Value.int Go.IntKind.i64 0])) := by kernel_rfl
theorem zer58 : zer Try.prog 58 = some (Go.Value.nilFunc) := by kernel_rfl
theorem zer59 : zer Try.prog 59 = some ((Go.Value.tuple #[Go.Value.bool Bool.false, Go.Value.int Go.IntKind.i64 0, Go.Value.int Go.IntKind.i64 0])) := by kernel_rfl
theorem zer60 : zer Try.prog 60 = some (Go.Value.nilFunc) := by kernel_rfl
theorem zer61 : zer Try.prog 61 = some ((Go.Value.agg #[Go.Value.int Go.IntKind.u16 0, Go.Value.int Go.IntKind.u16 0, Go.Value.int Go.IntKind.u16 0])) := by kernel_rfl
theorem zer62 : zer Try.prog 62 = some ((Go.Value.agg #[Go.Value.bool Bool.false, Go.Value.bool Bool.false, Go.Value.bool Bool.false])) := by kernel_rfl
theorem zer63 : zer Try.prog 63 = some (Go.Value.nilFunc) := by kernel_rfl
theorem zer64 : zer Try.prog 64 = some ((Go.Value.agg #[Go.Value.int Go.IntKind.u8 0, Go.Value.int Go.IntKind.u8 0, Go.Value.int Go.IntKind.u8 0, Go.Value.int Go.IntKind.u8 0, Go.Value.int Go.IntKind.u8 0, Go.Value.int Go.IntKind.u8 0, Go.Value.int Go.IntKind.u8 0, Go.Value.int Go.IntKind.u8 0, Go.Value.int Go.IntKind.u8 0, Go.Value.int Go.IntKind.u8 0, Go.Value.int Go.IntKind.u8 0, Go.Value.int Go.IntKind.u8 0])) := by kernel_rfl
theorem zer65 : zer Try.prog 65 = some (Go.Value.nilFunc) := by kernel_rfl
theorem zer66 : zer Try.prog 66 = some ((Go.Value.slice Option.none 0 0)) := by kernel_rfl
theorem zer67 : zer Try.prog 67 = some (Go.Value.nilFunc) := by kernel_rfl
theorem zer68 : zer Try.prog 68 = some (Go.Value.nilFunc) := by kernel_rfl
theorem zer69 : zer Try.prog 69 = some ((Go.Value.int Go.IntKind.u64 0)) := by kernel_rfl
theorem zer70 : zer Try.prog 70 = some (Go.Value.nilFunc) := by kernel_rfl
theorem zer71 : zer Try.prog 71 = some (Go.Value.nilFunc) := by kernel_rfl
theorem zer72 : zer Try.prog 72 = some (Go.Value.nilFunc) := by kernel_rfl
theorem zer73 : zer Try.prog 73 = some ((Go.Value.int Go.IntKind.u32 0)) := by kernel_rfl
theorem zer74 : zer Try.prog 74 = some (Go.Value.nilFunc) := by kernel_rfl
theorem zer75 : zer Try.prog 75 = some ((Go.Value.agg #[Go.Value.slice Option.none 0 0, Go.Value.bool Bool.false])) := by kernel_rfl
theorem zer76 : zer Try.prog 76 = some ((Go.Value.agg #[Go.Value.slice Option.none 0 0, Go.Value.bool Bool.false])) := by kernel_rfl
theorem zer77 : zer Try.prog 77 = some ((Go.Value.tuple #[Go.Value.int Go.IntKind.u64 0, Go.Value.agg #[Go.Value.slice Option.none 0 0, Go.Value.bool Bool.false]])) := by kernel_rfl
theorem zer78 : zer Try.prog 78 = some (Go.Value.nilFunc) := by kernel_rfl
theorem zer79 : zer Try.prog 79 = some (Go.Value.nilFunc) := by kernel_rfl
theorem zer80 : zer Try.prog 80 = some (Go.Value.nilFunc) := by kernel_rfl
theorem zer81 : zer Try.prog 81 = some ((Go.Value.pointer Option.none)) := by kernel_rfl
theorem zer82 : zer Try.prog 82 = some (Go.Value.nilFunc) := by kernel_rfl
theorem zer83 : zer Try.prog 83 = some (Go.Value.nilFunc) := by kernel_rfl
theorem zer84 : zer Try.prog 84 = some (Go.Value.nilFunc) := by kernel_rfl
theorem zer85 : zer Try.prog 85 = some ((Go.Value.tuple #[Go.Value.slice Option.none 0 0, Go.Value.agg #[Go.Value.slice Option.none 0 0, Go.Value.bool Bool.false]])) := by kernel_rfl
theorem zer86 : zer Try.prog 86 = some (Go.Value.nilFunc) := by kernel_rfl
theorem zer87 : zer Try.prog 87 = some (Go.Value.nilFunc) := by kernel_rfl
theorem zer88 : zer Try.prog 88 = some (Go.Value.nilFunc) := by kernel_rfl
theorem zer89 : zer Try.prog 89 = some ((Go.Value.agg #[Go.Value.slice Option.none 0 0, Go.Value.bool Bool.false])) := by kernel_rfl
theorem zer90 : zer Try.prog 90 = some ((Go.Value.agg #[Go.Value.slice Option.none 0 0, Go.Value.bool Bool.false])) := by kernel_rfl
theorem zer91 : zer Try.prog 91 = some (Go.Value.nilFunc) := by kernel_rfl
theorem zer92 : zer Try.prog 92 = some (Go.Value.nilFunc) := by kernel_rfl
theorem zer93 : zer Try.prog 93 = some ((Go.Value.tuple #[Go.Value.slice Option.none 0 0, Go.Value.bool Bool.false, Go.Value.bool Bool.false])) := by kernel_rfl
theorem zer94 : zer Try.prog 94 = some (Go.Value.nilFunc) := by kernel_rfl
theorem zer95 : zer Try.prog 95 = some (Go.Value.nilFunc) := by kernel_rfl
theorem zer96 : zer Try.prog 96 = some (Go.Value.nilFunc) := by kernel_rfl
theorem zer97 : zer Try.prog 97 = some (Go.Value.nilFunc) := by kernel_rfl
theorem zer98 : zer Try.prog 98 = some (Go.Value.nilFunc) := by kernel_rfl
theorem zer99 : zer Try.prog 99 = some ((Go.Value.agg #[Go.Value.pointer Option.none, Go.Value.pointer Option.none, Go.Value.pointer Option.none, Go.Value.string { data := #[] }])) := by kernel_rfl
theorem zer100 : zer Try.prog 100 = some ((Go.Value.agg #[Go.Value.pointer Option.none, Go.Value.pointer Option.none, Go.Value.pointer Option.none, Go.Value.string { data := #[] }])) := by kernel_rfl
theorem zer101 : zer Try.prog 101 = some ((Go.Value.agg #[])) := by kernel_rfl
theorem zer102 : zer Try.prog 102 = some ((Go.Value.agg #[])) := by kernel_rfl
theorem zer103 : zer Try.prog 103 = some ((Go.Value.agg #[])) := by kernel_rfl
theorem zer104 : zer Try.prog 104 = some ((Go.Value.int Go.IntKind.u8 0)) := by kernel_rfl
theorem zer105 : zer Try.prog 105 = some ((Go.Value.int Go.IntKind.u8 0)) := by kernel_rfl
theorem zer106 : zer Try.prog 106 = some (Go.Value.nilFunc) := by kernel_rfl
theorem zer107 : zer Try.prog 107 = some ((Go.Value.pointer Option.none)) := by kernel_rfl
theorem zer108 : zer Try.prog 108 = some ((Go.Value.int Go.IntKind.i32 0)) := by kernel_rfl
theorem zer109 : zer Try.prog 109 = some ((Go.Value.int Go.IntKind.i32 0)) := by kernel_rfl
theorem zer110 : zer Try.prog 110 = some ((Go.Value.agg #[Go.Value.int Go.IntKind.u64 0, Go.Value.int Go.IntKind.u64 0, Go.Value.int Go.IntKind.u32 0, Go.Value.int Go.IntKind.u8 0, Go.Value.int Go.IntKind.u8 0, Go.Value.int Go.IntKind.u8 0, Go.Value.int Go.IntKind.u8 0, Go.Value.nilFunc, Go.Value.pointer Option.none, Go.Value.int Go.IntKind.i32 0, Go.Value.int Go.IntKind.i32 0])) := by kernel_rfl
theorem zer111 : zer Try.prog 111 = some ((Go.Value.agg #[Go.Value.int Go.IntKind.u64 0, Go.Value.int Go.IntKind.u64 0, Go.Value.int Go.IntKind.u32 0, Go.Value.int Go.IntKind.u8 0, Go.Value.int Go.IntKind.u8 0, Go.Value.int Go.IntKind.u8 0, Go.Value.int Go.IntKind.u8 0, Go.Value.nilFunc, Go.Value.pointer Option.none, Go.Value.int Go.IntKind.i32 0, Go.Value.int Go.IntKind.i32 0])) := by kernel_rfl
theorem zer112 : zer Try.prog 112 = some ((Go.Value.pointer Option.none)) := by kernel_rfl
set_option linter.defProp false
def tyF := (And.intro (And.intro (And.intro (And.intro (And.intro (And.intro (And.intro (And.intro @List.take_succ_cons.{0} @List.take_zero.{0}) (And.intro @List.drop_succ_cons.{0} @List.drop_zero.{0})) (And.intro (And.intro @Try.underlying0 @Try.underlying1) (And.intro @Try.underlying2 (And.intro @Try.underlying3 @Try.underlying4)))) (And.intro (And.intro (And.intro @Try.underlying5 @Try.underlying6) (And.intro @Try.underlying7 @Try.underlying8)) (And.intro (And.intro @Try.underlying9 @Try.underlying10) (And.intro @Try.underlying11 (And.intro @Try.underlying12 @Try.underlying13))))) (And.intro (And.intro (And.intro (And.intro @Try.underlying14 @Try.underlying15) (And.intro @Try.underlying16 @Try.underlying17)) (And.intro (And.intro @Try.underlying18 @Try.underlying19) (And.intro @Try.underlying20 (And.intro @Try.underlying21 @Try.underlying22)))) (And.intro (And.intro (And.intro @Try.underlying23 @Try.underlying24) (And.intro @Try.underlying25 (And.intro @Try.underlying26 @Try.underlying27))) (And.intro (And.intro @Try.underlying28 @Try.underlying29) (And.intro @Try.underlying30 (And.intro @Try.underlying31 @Try.underlying32)))))) (And.intro (And.intro (And.intro (And.intro (And.intro @Try.underlying33 @Try.underlying34) (And.intro @Try.underlying35 @Try.underlying36)) (And.intro (And.intro @Try.underlying37 @Try.underlying38) (And.intro @Try.underlying39 (And.intro @Try.underlying40 @Try.underlying41)))) (And.intro (And.intro (And.intro @Try.underlying42 @Try.underlying43) (And.intro @Try.underlying44 (And.intro @Try.underlying45 @Try.underlying46))) (And.intro (And.intro @Try.underlying47 @Try.underlying48) (And.intro @Try.underlying49 (And.intro @Try.underlying50 @Try.underlying51))))) (And.intro (And.intro (And.intro (And.intro @Try.underlying52 @Try.underlying53) (And.intro @Try.underlying54 @Try.underlying55)) (And.intro (And.intro @Try.underlying56 @Try.underlying57) (And.intro @Try.underlying58 (And.intro @Try.underlying59 @Try.underlying60)))) (And.intro (And.intro (And.intro @Try.underlying61 @Try.underlying62) (And.intro @Try.underlying63 (And.intro @Try.underlying64 @Try.underlying65))) (And.intro (And.intro @Try.underlying66 @Try.underlying67) (And.intro @Try.underlying68 (And.intro @Try.underlying69 @Try.underlying70))))))) (And.intro (And.intro (And.intro (And.intro (And.intro (And.intro @Try.underlying71 @Try.underlying72) (And.intro @Try.underlying73 @Try.underlying74)) (And.intro (And.intro @Try.underlying75 @Try.underlying76) (And.intro @Try.underlying77 (And.intro @Try.underlying78 @Try.underlying79)))) (And.intro (And.intro (And.intro @Try.underlying80 @Try.underlying81) (And.intro @Try.underlying82 (And.intro @Try.underlying83 @Try.underlying84))) (And.intro (And.intro @Try.underlying85 @Try.underlying86) (And.intro @Try.underlying87 (And.intro @Try.underlying88 @Try.underlying89))))) (And.intro (And.intro (And.intro (And.intro @Try.underlying90 @Try.underlying91) (And.intro @Try.underlying92 @Try.underlying93)) (And.intro (And.intro @Try.underlying94 @Try.underlying95) (And.intro @Try.underlying96 (And.intro @Try.underlying97 @Try.underlying98)))) (And.intro (And.intro (And.intro @Try.underlying99 @Try.underlying100) (And.intro @Try.underlying101 (And.intro @Try.underlying102 @Try.underlying103))) (And.intro (And.intro @Try.underlying104 @Try.underlying105) (And.intro @Try.underlying106 (And.intro @Try.underlying107 @Try.underlying108)))))) (And.intro (And.intro (And.intro (And.intro (And.intro @Try.underlying109 @Try.underlying110) (And.intro @Try.underlying111 @Try.underlying112)) (And.intro (And.intro @cells0 @cells1) (And.intro @cells2 (And.intro @cells3 @cells4)))) (And.intro (And.intro (And.intro @cells5 @cells6) (And.intro @cells7 (And.intro @cells8 @cells9))) (And.intro (And.intro @cells10 @cells11) (And.intro @cells12 (And.intro @cells13 @cells14))))) (And.intro (And.intro (And.intro (And.intro @cells15 @cells16) (And.intro @cells17 @cells18)) (And.intro (And.intro @cells19 @cells20) (And.intro @cells21 (And.intro @cells22 @cells23)))) (And.intro (And.intro (And.intro @cells24 @cells25) (And.intro @cells26 (And.intro @cells27 @cells28))) (And.intro (And.intro @cells29 @cells30) (And.intro @cells31 (And.intro @cells32 @cells33)))))))) (And.intro (And.intro (And.intro (And.intro (And.intro (And.intro (And.intro @cells34 @cells35) (And.intro @cells36 @cells37)) (And.intro (And.intro @cells38 @cells39) (And.intro @cells40 (And.intro @cells41 @cells42)))) (And.intro (And.intro (And.intro @cells43 @cells44) (And.intro @cells45 @cells46)) (And.intro (And.intro @cells47 @cells48) (And.intro @cells49 (And.intro @cells50 @cells51))))) (And.intro (And.intro (And.intro (And.intro @cells52 @cells53) (And.intro @cells54 @cells55)) (And.intro (And.intro @cells56 @cells57) (And.intro @cells58 (And.intro @cells59 @cells60)))) (And.intro (And.intro (And.intro @cells61 @cells62) (And.intro @cells63 (And.intro @cells64 @cells65))) (And.intro (And.intro @cells66 @cells67) (And.intro @cells68 (And.intro @cells69 @cells70)))))) (And.intro (And.intro (And.intro (And.intro (And.intro @cells71 @cells72) (And.intro @cells73 @cells74)) (And.intro (And.intro @cells75 @cells76) (And.intro @cells77 (And.intro @cells78 @cells79)))) (And.intro (And.intro (And.intro @cells80 @cells81) (And.intro @cells82 (And.intro @cells83 @cells84))) (And.intro (And.intro @cells85 @cells86) (And.intro @cells87 (And.intro @cells88 @cells89))))) (And.intro (And.intro (And.intro (And.intro @cells90 @cells91) (And.intro @cells92 @cells93)) (And.intro (And.intro @cells94 @cells95) (And.intro @cells96 (And.intro @cells97 @cells98)))) (And.intro (And.intro (And.intro @cells99 @cells100) (And.intro @cells101 (And.intro @cells102 @cells103))) (And.intro (And.intro @cells104 @cells105) (And.intro @cells106 (And.intro @cells107 @cells108))))))) (And.intro (And.intro (And.intro (And.intro (And.intro (And.intro @cells109 @cells110) (And.intro @cells111 @cells112)) (And.intro (And.intro @Try.results0 @Try.results1) (And.intro @Try.results2 (And.intro @Try.results3 @Try.results4)))) (And.intro (And.intro (And.intro @Try.results5 @Try.results6) (And.intro @Try.results7 (And.intro @Try.results8 @Try.results9))) (And.intro (And.intro @Try.results10 @Try.results11) (And.intro @Try.results12 (And.intro @Try.results13 @Try.results14))))) (And.intro (And.intro (And.intro (And.intro @Try.results15 @Try.results16) (And.intro @Try.results17 @Try.results18)) (And.intro (And.intro @Try.results19 @Try.results20) (And.intro @Try.results21 (And.intro @Try.results22 @Try.results23)))) (And.intro (And.intro (And.intro @Try.results24 @Try.results25) (And.intro @Try.results26 (And.intro @Try.results27 @Try.results28))) (And.intro (And.intro @Try.results29 @Try.results30) (And.intro @Try.results31 (And.intro @Try.results32 @Try.results33)))))) (And.intro (And.intro (And.intro (And.intro (And.intro @Try.results34 @Try.results35) (And.intro @Try.results36 @Try.results37)) (And.intro (And.intro @Try.results38 @Try.results39) (And.intro @Try.results40 (And.intro @Try.results41 @Try.results42)))) (And.intro (And.intro (And.intro @Try.results43 @Try.results44) (And.intro @Try.results45 (And.intro @Try.results46 @Try.results47))) (And.intro (And.intro @Try.results48 @Try.results49) (And.intro @Try.results50 (And.intro @Try.results51 @Try.results52))))) (And.intro (And.intro (And.intro (And.intro @Try.results53 @Try.results54) (And.intro @Try.results55 @Try.results56)) (And.intro (And.intro @Try.results57 @Try.results58) (And.intro @Try.results59 (And.intro @Try.results60 @Try.results61)))) (And.intro (And.intro (And.intro @Try.results62 @Try.results63) (And.intro @Try.results64 (And.intro @Try.results65 @Try.results66))) (And.intro (And.intro @Try.results67 @Try.results68) (And.intro @Try.results69 (And.intro @Try.results70 @Try.results71)))))))))
theorem mixed : Try.prog.follows .mixedOrders = true := by kernel_rfl
end Go.Proofs.Ytejigcfdggkhgaa
