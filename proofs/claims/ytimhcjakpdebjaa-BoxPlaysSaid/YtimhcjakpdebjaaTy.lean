/-
  What the calculus asks of the types of this seat's translation: how many cells, what a nought is. By a program.
-/
import Derived.Test.YtimhcjakpdebjaaProg
import Derived.Test.YtimhcjakpdebjaaRv
namespace Go.Proofs.Ytimhcjakpdebjaa
open Go Go.RowKit Go.Proofs.RV
theorem cells0 : Try.prog.cellsOf 0 = 1 := by kernel_rfl
theorem cells1 : Try.prog.cellsOf 1 = 1 := by kernel_rfl
theorem cells2 : Try.prog.cellsOf 2 = 1 := by kernel_rfl
theorem cells3 : Try.prog.cellsOf 3 = 1 := by kernel_rfl
theorem cells4 : Try.prog.cellsOf 4 = 1 := by kernel_rfl
theorem cells5 : Try.prog.cellsOf 5 = 1 := by kernel_rfl
theorem cells6 : Try.prog.cellsOf 6 = 1 := by kernel_rfl
theorem cells7 : Try.prog.cellsOf 7 = 4 := by kernel_rfl
theorem cells8 : Try.prog.cellsOf 8 = 4 := by kernel_rfl
theorem cells9 : Try.prog.cellsOf 9 = 1 := by kernel_rfl
theorem cells10 : Try.prog.cellsOf 10 = 1 := by kernel_rfl
theorem cells11 : Try.prog.cellsOf 11 = 1 := by kernel_rfl
theorem cells12 : Try.prog.cellsOf 12 = 1 := by kernel_rfl
theorem cells13 : Try.prog.cellsOf 13 = 2 := by kernel_rfl
theorem cells14 : Try.prog.cellsOf 14 = 2 := by kernel_rfl
theorem cells15 : Try.prog.cellsOf 15 = 1 := by kernel_rfl
theorem cells16 : Try.prog.cellsOf 16 = 1 := by kernel_rfl
theorem cells17 : Try.prog.cellsOf 17 = 1 := by kernel_rfl
theorem cells18 : Try.prog.cellsOf 18 = 1 := by kernel_rfl
theorem cells19 : Try.prog.cellsOf 19 = 1 := by kernel_rfl
theorem cells20 : Try.prog.cellsOf 20 = 1 := by kernel_rfl
theorem cells21 : Try.prog.cellsOf 21 = 1 := by kernel_rfl
theorem cells22 : Try.prog.cellsOf 22 = 7 := by kernel_rfl
theorem cells23 : Try.prog.cellsOf 23 = 8 := by kernel_rfl
theorem cells24 : Try.prog.cellsOf 24 = 8 := by kernel_rfl
theorem cells25 : Try.prog.cellsOf 25 = 1 := by kernel_rfl
theorem cells26 : Try.prog.cellsOf 26 = 1 := by kernel_rfl
theorem cells27 : Try.prog.cellsOf 27 = 1 := by kernel_rfl
theorem cells28 : Try.prog.cellsOf 28 = 1 := by kernel_rfl
theorem cells29 : Try.prog.cellsOf 29 = 1 := by kernel_rfl
theorem cells30 : Try.prog.cellsOf 30 = 1 := by kernel_rfl
theorem cells31 : Try.prog.cellsOf 31 = 1 := by kernel_rfl
theorem cells32 : Try.prog.cellsOf 32 = 1 := by kernel_rfl
theorem cells33 : Try.prog.cellsOf 33 = 1 := by kernel_rfl
theorem cells34 : Try.prog.cellsOf 34 = 1 := by kernel_rfl
theorem cells35 : Try.prog.cellsOf 35 = 1 := by kernel_rfl
theorem cells36 : Try.prog.cellsOf 36 = 1 := by kernel_rfl
theorem cells37 : Try.prog.cellsOf 37 = 1 := by kernel_rfl
theorem cells38 : Try.prog.cellsOf 38 = 1 := by kernel_rfl
theorem cells39 : Try.prog.cellsOf 39 = 1 := by kernel_rfl
theorem cells40 : Try.prog.cellsOf 40 = 1 := by kernel_rfl
theorem cells41 : Try.prog.cellsOf 41 = 1 := by kernel_rfl
theorem cells42 : Try.prog.cellsOf 42 = 10 := by kernel_rfl
theorem cells43 : Try.prog.cellsOf 43 = 10 := by kernel_rfl
theorem cells44 : Try.prog.cellsOf 44 = 1 := by kernel_rfl
theorem cells45 : Try.prog.cellsOf 45 = 9 := by kernel_rfl
theorem cells46 : Try.prog.cellsOf 46 = 9 := by kernel_rfl
theorem cells47 : Try.prog.cellsOf 47 = 1 := by kernel_rfl
theorem cells48 : Try.prog.cellsOf 48 = 1 := by kernel_rfl
theorem cells49 : Try.prog.cellsOf 49 = 1 := by kernel_rfl
theorem cells50 : Try.prog.cellsOf 50 = 1 := by kernel_rfl
theorem cells51 : Try.prog.cellsOf 51 = 1 := by kernel_rfl
theorem cells52 : Try.prog.cellsOf 52 = 1 := by kernel_rfl
theorem cells53 : Try.prog.cellsOf 53 = 1 := by kernel_rfl
theorem cells54 : Try.prog.cellsOf 54 = 1 := by kernel_rfl
theorem cells55 : Try.prog.cellsOf 55 = 1 := by kernel_rfl
theorem cells56 : Try.prog.cellsOf 56 = 1 := by kernel_rfl
theorem cells57 : Try.prog.cellsOf 57 = 1 := by kernel_rfl
theorem cells58 : Try.prog.cellsOf 58 = 1 := by kernel_rfl
theorem cells59 : Try.prog.cellsOf 59 = 1 := by kernel_rfl
theorem cells60 : Try.prog.cellsOf 60 = 1 := by kernel_rfl
theorem cells61 : Try.prog.cellsOf 61 = 1 := by kernel_rfl
theorem cells62 : Try.prog.cellsOf 62 = 1 := by kernel_rfl
theorem cells63 : Try.prog.cellsOf 63 = 1 := by kernel_rfl
theorem cells64 : Try.prog.cellsOf 64 = 1 := by kernel_rfl
theorem cells65 : Try.prog.cellsOf 65 = 1 := by kernel_rfl
theorem cells66 : Try.prog.cellsOf 66 = 1 := by kernel_rfl
theorem cells67 : Try.prog.cellsOf 67 = 1 := by kernel_rfl
theorem cells68 : Try.prog.cellsOf 68 = 1 := by kernel_rfl
theorem cells69 : Try.prog.cellsOf 69 = 1 := by kernel_rfl
theorem cells70 : Try.prog.cellsOf 70 = 11 := by kernel_rfl
theorem cells71 : Try.prog.cellsOf 71 = 11 := by kernel_rfl
theorem cells72 : Try.prog.cellsOf 72 = 1 := by kernel_rfl
theorem cells73 : Try.prog.cellsOf 73 = 1 := by kernel_rfl
theorem cells74 : Try.prog.cellsOf 74 = 1 := by kernel_rfl
theorem cells75 : Try.prog.cellsOf 75 = 1 := by kernel_rfl
theorem cells76 : Try.prog.cellsOf 76 = 5 := by kernel_rfl
theorem cells77 : Try.prog.cellsOf 77 = 5 := by kernel_rfl
theorem cells78 : Try.prog.cellsOf 78 = 1 := by kernel_rfl
theorem cells79 : Try.prog.cellsOf 79 = 1 := by kernel_rfl
theorem cells80 : Try.prog.cellsOf 80 = 1 := by kernel_rfl
theorem cells81 : Try.prog.cellsOf 81 = 1 := by kernel_rfl
theorem cells82 : Try.prog.cellsOf 82 = 1 := by kernel_rfl
theorem cells83 : Try.prog.cellsOf 83 = 1 := by kernel_rfl
theorem cells84 : Try.prog.cellsOf 84 = 1 := by kernel_rfl
theorem cells85 : Try.prog.cellsOf 85 = 1 := by kernel_rfl
theorem cells86 : Try.prog.cellsOf 86 = 1 := by kernel_rfl
theorem cells87 : Try.prog.cellsOf 87 = 1 := by kernel_rfl
theorem cells88 : Try.prog.cellsOf 88 = 1 := by kernel_rfl
theorem cells89 : Try.prog.cellsOf 89 = 1 := by kernel_rfl
theorem cells90 : Try.prog.cellsOf 90 = 3 := by kernel_rfl
theorem cells91 : Try.prog.cellsOf 91 = 3 := by kernel_rfl
theorem cells92 : Try.prog.cellsOf 92 = 1 := by kernel_rfl
theorem cells93 : Try.prog.cellsOf 93 = 1 := by kernel_rfl
theorem cells94 : Try.prog.cellsOf 94 = 10 := by kernel_rfl
theorem cells95 : Try.prog.cellsOf 95 = 10 := by kernel_rfl
theorem cells96 : Try.prog.cellsOf 96 = 1 := by kernel_rfl
theorem cells97 : Try.prog.cellsOf 97 = 1 := by kernel_rfl
theorem cells98 : Try.prog.cellsOf 98 = 1 := by kernel_rfl
theorem cells99 : Try.prog.cellsOf 99 = 3 := by kernel_rfl
theorem cells100 : Try.prog.cellsOf 100 = 3 := by kernel_rfl
theorem cells101 : Try.prog.cellsOf 101 = 10 := by kernel_rfl
theorem cells102 : Try.prog.cellsOf 102 = 10 := by kernel_rfl
theorem cells103 : Try.prog.cellsOf 103 = 1 := by kernel_rfl
theorem cells104 : Try.prog.cellsOf 104 = 1 := by kernel_rfl
theorem cells105 : Try.prog.cellsOf 105 = 1 := by kernel_rfl
theorem cells106 : Try.prog.cellsOf 106 = 1 := by kernel_rfl
theorem cells107 : Try.prog.cellsOf 107 = 2 := by kernel_rfl
theorem cells108 : Try.prog.cellsOf 108 = 2 := by kernel_rfl
theorem cells109 : Try.prog.cellsOf 109 = 1 := by kernel_rfl
theorem cells110 : Try.prog.cellsOf 110 = 1 := by kernel_rfl
theorem cells111 : Try.prog.cellsOf 111 = 4 := by kernel_rfl
theorem cells112 : Try.prog.cellsOf 112 = 4 := by kernel_rfl
theorem cells113 : Try.prog.cellsOf 113 = 1 := by kernel_rfl
theorem cells114 : Try.prog.cellsOf 114 = 1 := by kernel_rfl
theorem cells115 : Try.prog.cellsOf 115 = 1 := by kernel_rfl
theorem cells116 : Try.prog.cellsOf 116 = 1 := by kernel_rfl
theorem cells117 : Try.prog.cellsOf 117 = 1 := by kernel_rfl
theorem cells118 : Try.prog.cellsOf 118 = 1 := by kernel_rfl
theorem cells119 : Try.prog.cellsOf 119 = 4 := by kernel_rfl
theorem cells120 : Try.prog.cellsOf 120 = 4 := by kernel_rfl
theorem cells121 : Try.prog.cellsOf 121 = 1 := by kernel_rfl
theorem cells122 : Try.prog.cellsOf 122 = 1 := by kernel_rfl
theorem cells123 : Try.prog.cellsOf 123 = 1 := by kernel_rfl
theorem cells124 : Try.prog.cellsOf 124 = 13 := by kernel_rfl
theorem cells125 : Try.prog.cellsOf 125 = 13 := by kernel_rfl
theorem cells126 : Try.prog.cellsOf 126 = 1 := by kernel_rfl
theorem cells127 : Try.prog.cellsOf 127 = 1 := by kernel_rfl
theorem cells128 : Try.prog.cellsOf 128 = 1 := by kernel_rfl
theorem cells129 : Try.prog.cellsOf 129 = 16 := by kernel_rfl
theorem cells130 : Try.prog.cellsOf 130 = 1 := by kernel_rfl
theorem cells131 : Try.prog.cellsOf 131 = 1 := by kernel_rfl
theorem cells132 : Try.prog.cellsOf 132 = 1 := by kernel_rfl
theorem cells133 : Try.prog.cellsOf 133 = 1 := by kernel_rfl
theorem cells134 : Try.prog.cellsOf 134 = 3 := by kernel_rfl
theorem cells135 : Try.prog.cellsOf 135 = 3 := by kernel_rfl
theorem cells136 : Try.prog.cellsOf 136 = 4 := by kernel_rfl
theorem cells137 : Try.prog.cellsOf 137 = 4 := by kernel_rfl
theorem cells138 : Try.prog.cellsOf 138 = 11 := by kernel_rfl
theorem cells139 : Try.prog.cellsOf 139 = 11 := by kernel_rfl
theorem cells140 : Try.prog.cellsOf 140 = 1 := by kernel_rfl
theorem cells141 : Try.prog.cellsOf 141 = 1 := by kernel_rfl
theorem cells142 : Try.prog.cellsOf 142 = 1 := by kernel_rfl
theorem cells143 : Try.prog.cellsOf 143 = 1 := by kernel_rfl
theorem cells144 : Try.prog.cellsOf 144 = 4 := by kernel_rfl
theorem cells145 : Try.prog.cellsOf 145 = 4 := by kernel_rfl
theorem cells146 : Try.prog.cellsOf 146 = 1 := by kernel_rfl
theorem cells147 : Try.prog.cellsOf 147 = 1 := by kernel_rfl
theorem cells148 : Try.prog.cellsOf 148 = 1 := by kernel_rfl
theorem cells149 : Try.prog.cellsOf 149 = 1 := by kernel_rfl
theorem cells150 : Try.prog.cellsOf 150 = 1 := by kernel_rfl
theorem cells151 : Try.prog.cellsOf 151 = 1 := by kernel_rfl
theorem cells152 : Try.prog.cellsOf 152 = 1 := by kernel_rfl
theorem cells153 : Try.prog.cellsOf 153 = 1 := by kernel_rfl
theorem cells154 : Try.prog.cellsOf 154 = 1 := by kernel_rfl
theorem cells155 : Try.prog.cellsOf 155 = 1 := by kernel_rfl
theorem cells156 : Try.prog.cellsOf 156 = 1 := by kernel_rfl
theorem cells157 : Try.prog.cellsOf 157 = 1 := by kernel_rfl
theorem cells158 : Try.prog.cellsOf 158 = 1 := by kernel_rfl
theorem cells159 : Try.prog.cellsOf 159 = 1 := by kernel_rfl
theorem cells160 : Try.prog.cellsOf 160 = 1 := by kernel_rfl
theorem cells161 : Try.prog.cellsOf 161 = 1 := by kernel_rfl
theorem cells162 : Try.prog.cellsOf 162 = 1 := by kernel_rfl
theorem cells163 : Try.prog.cellsOf 163 = 1 := by kernel_rfl
theorem cells164 : Try.prog.cellsOf 164 = 1 := by kernel_rfl
theorem cells165 : Try.prog.cellsOf 165 = 1 := by kernel_rfl
theorem cells166 : Try.prog.cellsOf 166 = 1 := by kernel_rfl
theorem cells167 : Try.prog.cellsOf 167 = 1 := by kernel_rfl
theorem cells168 : Try.prog.cellsOf 168 = 1 := by kernel_rfl
theorem cells169 : Try.prog.cellsOf 169 = 4 := by kernel_rfl
theorem cells170 : Try.prog.cellsOf 170 = 4 := by kernel_rfl
theorem cells171 : Try.prog.cellsOf 171 = 0 := by kernel_rfl
theorem cells172 : Try.prog.cellsOf 172 = 0 := by kernel_rfl
theorem cells173 : Try.prog.cellsOf 173 = 0 := by kernel_rfl
theorem cells174 : Try.prog.cellsOf 174 = 1 := by kernel_rfl
theorem cells175 : Try.prog.cellsOf 175 = 1 := by kernel_rfl
theorem cells176 : Try.prog.cellsOf 176 = 1 := by kernel_rfl
theorem cells177 : Try.prog.cellsOf 177 = 1 := by kernel_rfl
theorem cells178 : Try.prog.cellsOf 178 = 1 := by kernel_rfl
theorem cells179 : Try.prog.cellsOf 179 = 1 := by kernel_rfl
theorem cells180 : Try.prog.cellsOf 180 = 11 := by kernel_rfl
theorem cells181 : Try.prog.cellsOf 181 = 11 := by kernel_rfl
theorem cells182 : Try.prog.cellsOf 182 = 1 := by kernel_rfl
theorem zer0 : zer Try.prog 0 = some ((Go.Value.tuple #[])) := by kernel_rfl
theorem zer1 : zer Try.prog 1 = some (Go.Value.nilFunc) := by kernel_rfl
theorem zer2 : zer Try.prog 2 = some ((Go.Value.int Go.IntKind.i64 0)) := by kernel_rfl
theorem zer3 : zer Try.prog 3 = some ((Go.Value.int Go.IntKind.i64 0)) := by kernel_rfl
theorem zer4 : zer Try.prog 4 = some ((Go.Value.bool Bool.false)) := by kernel_rfl
theorem zer5 : zer Try.prog 5 = some ((Go.Value.int Go.IntKind.u8 0)) := by kernel_rfl
theorem zer6 : zer Try.prog 6 = some ((Go.Value.int Go.IntKind.u8 0)) := by kernel_rfl
theorem zer7 : zer Try.prog 7 = some ((Go.Value.agg #[Go.Value.int Go.IntKind.i64 0, Go.Value.int Go.IntKind.i64 0, Go.Value.bool Bool.false, Go.Value.int Go.IntKind.u8 0])) := by kernel_rfl
theorem zer8 : zer Try.prog 8 = some ((Go.Value.agg #[Go.Value.int Go.IntKind.i64 0, Go.Value.int Go.IntKind.i64 0, Go.Value.bool Bool.false, Go.Value.int Go.IntKind.u8 0])) := by kernel_rfl
theorem zer9 : zer Try.prog 9 = some ((Go.Value.string { data := #[] })) := by kernel_rfl
theorem zer10 : zer Try.prog 10 = some ((Go.Value.string { data := #[] })) := by kernel_rfl
theorem zer11 : zer Try.prog 11 = some ((Go.Value.string { data := #[] })) := by kernel_rfl
theorem zer12 : zer Try.prog 12 = some ((Go.Value.int Go.IntKind.u64 0)) := by kernel_rfl
theorem zer13 : zer Try.prog 13 = some ((Go.Value.agg #[Go.Value.string { data := #[] }, Go.Value.int Go.IntKind.u64 0])) := by kernel_rfl
theorem zer14 : zer Try.prog 14 = some ((Go.Value.agg #[Go.Value.string { data := #[] }, Go.Value.int Go.IntKind.u64 0])) := by kernel_rfl
theorem zer15 : zer Try.prog 15 = some ((Go.Value.pointer Option.none)) := by kernel_rfl
theorem zer16 : zer Try.prog 16 = some ((Go.Value.pointer Option.none)) := by kernel_rfl
theorem zer17 : zer Try.prog 17 = some ((Go.Value.pointer Option.none)) := by kernel_rfl
theorem zer18 : zer Try.prog 18 = some ((Go.Value.agg #[Go.Value.pointer Option.none])) := by kernel_rfl
theorem zer19 : zer Try.prog 19 = some ((Go.Value.agg #[Go.Value.pointer Option.none])) := by kernel_rfl
theorem zer20 : zer Try.prog 20 = some (Go.Value.nilIface) := by kernel_rfl
theorem zer21 : zer Try.prog 21 = some ((Go.Value.int Go.IntKind.i32 0)) := by kernel_rfl
theorem zer22 : zer Try.prog 22 = some ((Go.Value.agg #[Go.Value.int Go.IntKind.u8 0, Go.Value.int Go.IntKind.u8 0, Go.Value.int Go.IntKind.u8 0, Go.Value.int Go.IntKind.u8 0, Go.Value.int Go.IntKind.u8 0, Go.Value.int Go.IntKind.u8 0, Go.Value.int Go.IntKind.u8 0])) := by kernel_rfl
theorem zer23 : zer Try.prog 23 = some ((Go.Value.agg #[Go.Value.bool Bool.false, Go.Value.int Go.IntKind.u8 0, Go.Value.int Go.IntKind.u8 0, Go.Value.int Go.IntKind.u8 0, Go.Value.int Go.IntKind.u8 0, Go.Value.int Go.IntKind.u8 0, Go.Value.int Go.IntKind.u8 0, Go.Value.int Go.IntKind.u8 0])) := by kernel_rfl
theorem zer24 : zer Try.prog 24 = some ((Go.Value.agg #[Go.Value.bool Bool.false, Go.Value.int Go.IntKind.u8 0, Go.Value.int Go.IntKind.u8 0, Go.Value.int Go.IntKind.u8 0, Go.Value.int Go.IntKind.u8 0, Go.Value.int Go.IntKind.u8 0, Go.Value.int Go.IntKind.u8 0, Go.Value.int Go.IntKind.u8 0])) := by kernel_rfl
theorem zer25 : zer Try.prog 25 = some (Go.Value.nilFunc) := by kernel_rfl
theorem zer26 : zer Try.prog 26 = some (Go.Value.nilFunc) := by kernel_rfl
theorem zer27 : zer Try.prog 27 = some (Go.Value.nilFunc) := by kernel_rfl
theorem zer28 : zer Try.prog 28 = some ((Go.Value.pointer Option.none)) := by kernel_rfl
theorem zer29 : zer Try.prog 29 = some ((Go.Value.int Go.IntKind.i64 0)) := by kernel_rfl
theorem zer30 : zer Try.prog 30 = some ((Go.Value.tuple #[Go.Value.pointer Option.none, Go.Value.int Go.IntKind.i64 0])) := by kernel_rfl
theorem zer31 : zer Try.prog 31 = some (Go.Value.nilFunc) := by kernel_rfl
theorem zer32 : zer Try.prog 32 = some (Go.Value.nilFunc) := by kernel_rfl
theorem zer33 : zer Try.prog 33 = some (Go.Value.nilFunc) := by kernel_rfl
theorem zer34 : zer Try.prog 34 = some (Go.Value.nilFunc) := by kernel_rfl
theorem zer35 : zer Try.prog 35 = some ((Go.Value.tuple #[Go.Value.int Go.IntKind.i64 0, Go.Value.bool Bool.false])) := by kernel_rfl
theorem zer36 : zer Try.prog 36 = some (Go.Value.nilFunc) := by kernel_rfl
theorem zer37 : zer Try.prog 37 = some (Go.Value.nilFunc) := by kernel_rfl
theorem zer38 : zer Try.prog 38 = some ((Go.Value.slice Option.none 0 0)) := by kernel_rfl
theorem zer39 : zer Try.prog 39 = some ((Go.Value.slice Option.none 0 0)) := by kernel_rfl
theorem zer40 : zer Try.prog 40 = some (Go.Value.nilFunc) := by kernel_rfl
theorem zer41 : zer Try.prog 41 = some ((Go.Value.slice Option.none 0 0)) := by kernel_rfl
theorem zer42 : zer Try.prog 42 = some ((Go.Value.agg #[Go.Value.int Go.IntKind.u8 0, Go.Value.bool Bool.false, Go.Value.int Go.IntKind.u8 0, Go.Value.int Go.IntKind.u8 0, Go.Value.int Go.IntKind.u8 0, Go.Value.int Go.IntKind.u8 0, Go.Value.int Go.IntKind.u8 0, Go.Value.int Go.IntKind.u8 0, Go.Value.int Go.IntKind.u8 0, Go.Value.int Go.IntKind.i64 0])) := by kernel_rfl
theorem zer43 : zer Try.prog 43 = some ((Go.Value.agg #[Go.Value.int Go.IntKind.u8 0, Go.Value.bool Bool.false, Go.Value.int Go.IntKind.u8 0, Go.Value.int Go.IntKind.u8 0, Go.Value.int Go.IntKind.u8 0, Go.Value.int Go.IntKind.u8 0, Go.Value.int Go.IntKind.u8 0, Go.Value.int Go.IntKind.u8 0, Go.Value.int Go.IntKind.u8 0, Go.Value.int Go.IntKind.i64 0])) := by kernel_rfl
theorem zer44 : zer Try.prog 44 = some (Go.Value.nilFunc) := by kernel_rfl
theorem zer45 : zer Try.prog 45 = some ((Go.Value.agg #[Go.Value.bool Bool.false, Go.Value.int Go.IntKind.u8 0, Go.Value.int Go.IntKind.u8 0, Go.Value.int Go.IntKind.u8 0, Go.Value.int Go.IntKind.u8 0, Go.Value.int Go.IntKind.u8 0, Go.Value.int Go.IntKind.u8 0, Go.Value.int Go.IntKind.u8 0, Go.Value.int Go.IntKind.i64 0])) := by kernel_rfl
theorem zer46 : zer Try.prog 46 = some ((Go.Value.agg #[Go.Value.bool Bool.false, Go.Value.int Go.IntKind.u8 0, Go.Value.int Go.IntKind.u8 0, Go.Value.int Go.IntKind.u8 0, Go.Value.int Go.IntKind.u8 0, Go.Value.int Go.IntKind.u8 0, Go.Value.int Go.IntKind.u8 0, Go.Value.int Go.IntKind.u8 0, Go.Value.int Go.IntKind.i64 0])) := by kernel_rfl
theorem zer47 : zer Try.prog 47 = some ((Go.Value.tuple #[Go.Value.slice Option.none 0 0, Go.Value.bool Bool.false])) := by kernel_rfl
theorem zer48 : zer Try.prog 48 = some (Go.Value.nilFunc) := by kernel_rfl
theorem zer49 : zer Try.prog 49 = some (Go.Value.nilFunc) := by kernel_rfl
theorem zer50 : zer Try.prog 50 = some (Go.Value.nilFunc) := by kernel_rfl
theorem zer51 : zer Try.prog 51 = some (Go.Value.nilFunc) := by kernel_rfl
theorem zer52 : zer Try.prog 52 = some (Go.Value.nilFunc) := by kernel_rfl
theorem zer53 : zer Try.prog 53 = some ((Go.Value.pointer Option.none)) := by kernel_rfl
theorem zer54 : zer Try.prog 54 = some ((Go.Value.tuple #[Go.Value.pointer Option.none, Go.Value.int Go.IntKind.i64 0])) := by kernel_rfl
theorem zer55 : zer Try.prog 55 = some (Go.Value.nilFunc) := by kernel_rfl
theorem zer56 : zer Try.prog 56 = some (Go.Value.nilFunc) := by kernel_rfl
theorem zer57 : zer Try.prog 57 = some ((Go.Value.tuple #[Go.Value.string { data := #[] }, Go.Value.bool Bool.false])) := by kernel_rfl
theorem zer58 : zer Try.prog 58 = some (Go.Value.nilFunc) := by kernel_rfl
theorem zer59 : zer Try.prog 59 = some (Go.Value.nilFunc) := by kernel_rfl
theorem zer60 : zer Try.prog 60 = some ((Go.Value.int Go.IntKind.u64 0)) := by kernel_rfl
theorem zer61 : zer Try.prog 61 = some ((Go.Value.pointer Option.none)) := by kernel_rfl
theorem zer62 : zer Try.prog 62 = some ((Go.Value.tuple #[Go.Value.pointer Option.none, Go.Value.int Go.IntKind.i64 0])) := by kernel_rfl
theorem zer63 : zer Try.prog 63 = some (Go.Value.nilFunc) := by kernel_rfl
theorem zer64 : zer Try.prog 64 = some (Go.Value.nilFunc) := by kernel_rfl
theorem zer65 : zer Try.prog 65 = some (Go.Value.nilFunc) := by kernel_rfl
theorem zer66 : zer Try.prog 66 = some (Go.Value.nilFunc) := by kernel_rfl
theorem zer67 : zer Try.prog 67 = some ((Go.Value.int Go.IntKind.u32 0)) := by kernel_rfl
theorem zer68 : zer Try.prog 68 = some ((Go.Value.slice Option.none 0 0)) := by kernel_rfl
theorem zer69 : zer Try.prog 69 = some ((Go.Value.slice Option.none 0 0)) := by kernel_rfl
theorem zer70 : zer Try.prog 70 = some ((Go.Value.agg #[Go.Value.int Go.IntKind.u8 0, Go.Value.bool Bool.false, Go.Value.int Go.IntKind.u8 0, Go.Value.int Go.IntKind.u8 0, Go.Value.int Go.IntKind.u8 0, Go.Value.int Go.IntKind.u8 0, Go.Value.int Go.IntKind.u8 0, Go.Value.int Go.IntKind.u8 0, Go.Value.int Go.IntKind.u8 0, Go.Value.int Go.IntKind.i64 0, Go.Value.int Go.IntKind.i64 0])) := by kernel_rfl
theorem zer71 : zer Try.prog 71 = some ((Go.Value.agg #[Go.Value.int Go.IntKind.u8 0, Go.Value.bool Bool.false, Go.Value.int Go.IntKind.u8 0, Go.Value.int Go.IntKind.u8 0, Go.Value.int Go.IntKind.u8 0, Go.Value.int Go.IntKind.u8 0, Go.Value.int Go.IntKind.u8 0, Go.Value.int Go.IntKind.u8 0, Go.Value.int Go.IntKind.u8 0, Go.Value.int Go.IntKind.i64 0, Go.Value.int Go.IntKind.i64 0])) := by kernel_rfl
theorem zer72 : zer Try.prog 72 = some (Go.Value.nilFunc) := by kernel_rfl
theorem zer73 : zer Try.prog 73 = some (Go.Value.nilFunc) := by kernel_rfl
theorem zer74 : zer Try.prog 74 = some (Go.Value.nilFunc) := by kernel_rfl
theorem zer75 : zer Try.prog 75 = some ((Go.Value.slice Option.none 0 0)) := by kernel_rfl
theorem zer76 : zer Try.prog 76 = some ((Go.Value.agg #[Go.Value.slice Option.none 0 0, Go.Value.int Go.IntKind.i64 0, Go.Value.int Go.IntKind.i64 0, Go.Value.int Go.IntKind.i64 0, Go.Value.int Go.IntKind.i64 0])) := by kernel_rfl
theorem zer77 : zer Try.prog 77 = some ((Go.Value.agg #[Go.Value.slice Option.none 0 0, Go.Value.int Go.IntKind.i64 0, Go.Value.int Go.IntKind.i64 0, Go.Value.int Go.IntKind.i64 0, Go.Value.int Go.IntKind.i64 0])) := by kernel_rfl
theorem zer78 : zer Try.prog 78 = some ((Go.Value.tuple #[Go.Value.agg #[Go.Value.slice Option.none 0 0, Go.Value.int Go.IntKind.i64 0, Go.Value.int Go.IntKind.i64 0, Go.Value.int Go.IntKind.i64 0, Go.Value.int Go.IntKind.i64 0], Go.Value.int Go.IntKind.i64 0])) := by kernel_rfl
theorem zer79 : zer Try.prog 79 = some (Go.Value.nilFunc) := by kernel_rfl
theorem zer80 : zer Try.prog 80 = some (Go.Value.nilFunc) := by kernel_rfl
theorem zer81 : zer Try.prog 81 = some (Go.Value.nilFunc) := by kernel_rfl
theorem zer82 : zer Try.prog 82 = some ((Go.Value.tuple #[Go.Value.agg #[Go.Value.slice Option.none 0 0, Go.Value.int Go.IntKind.i64 0, Go.Value.int Go.IntKind.i64 0, Go.Value.int Go.IntKind.i64 0, Go.Value.int Go.IntKind.i64 0], Go.Value.bool Bool.false])) := by kernel_rfl
theorem zer83 : zer Try.prog 83 = some (Go.Value.nilFunc) := by kernel_rfl
theorem zer84 : zer Try.prog 84 = some (Go.Value.nilFunc) := by kernel_rfl
theorem zer85 : zer Try.prog 85 = some (Go.Value.nilFunc) := by kernel_rfl
theorem zer86 : zer Try.prog 86 = some (Go.Value.nilFunc) := by kernel_rfl
theorem zer87 : zer Try.prog 87 = some ((Go.Value.slice Option.none 0 0)) := by kernel_rfl
theorem zer88 : zer Try.prog 88 = some (Go.Value.nilFunc) := by kernel_rfl
theorem zer89 : zer Try.prog 89 = some ((Go.Value.slice Option.none 0 0)) := by kernel_rfl
theorem zer90 : zer Try.prog 90 = some ((Go.Value.agg #[Go.Value.slice Option.none 0 0, Go.Value.int Go.IntKind.i64 0, Go.Value.int Go.IntKind.i64 0])) := by kernel_rfl
theorem zer91 : zer Try.prog 91 = some ((Go.Value.agg #[Go.Value.slice Option.none 0 0, Go.Value.int Go.IntKind.i64 0, Go.Value.int Go.IntKind.i64 0])) := by kernel_rfl
theorem zer92 : zer Try.prog 92 = some ((Go.Value.tuple #[Go.Value.int Go.IntKind.i64 0, Go.Value.int Go.IntKind.i64 0])) := by kernel_rfl
theorem zer93 : zer Try.prog 93 = some (Go.Value.nilFunc) := by kernel_rfl
theorem zer94 : zer Try.prog 94 = some ((Go.Value.agg #[Go.Value.int Go.IntKind.i64 0, Go.Value.bool Bool.false, Go.Value.int Go.IntKind.u8 0, Go.Value.int Go.IntKind.u8 0, Go.Value.int Go.IntKind.u8 0, Go.Value.int Go.IntKind.u8 0, Go.Value.int Go.IntKind.u8 0, Go.Value.int Go.IntKind.u8 0, Go.Value.int Go.IntKind.u8 0, Go.Value.int Go.IntKind.i64 0])) := by kernel_rfl
theorem zer95 : zer Try.prog 95 = some ((Go.Value.agg #[Go.Value.int Go.IntKind.i64 0, Go.Value.bool Bool.false, Go.Value.int Go.IntKind.u8 0, Go.Value.int Go.IntKind.u8 0, Go.Value.int Go.IntKind.u8 0, Go.Value.int Go.IntKind.u8 0, Go.Value.int Go.IntKind.u8 0, Go.Value.int Go.IntKind.u8 0, Go.Value.int Go.IntKind.u8 0, Go.Value.int Go.IntKind.i64 0])) := by kernel_rfl
theorem zer96 : zer Try.prog 96 = some (Go.Value.nilFunc) := by kernel_rfl
theorem zer97 : zer Try.prog 97 = some (Go.Value.nilFunc) := by kernel_rfl
theorem zer98 : zer Try.prog 98 = some ((Go.Value.slice Option.none 0 0)) := by kernel_rfl
theorem zer99 : zer Try.prog 99 = some ((Go.Value.agg #[Go.Value.slice Option.none 0 0, Go.Value.int Go.IntKind.i64 0, Go.Value.int Go.IntKind.i64 0])) := by kernel_rfl
theorem zer100 : zer Try.prog 100 = some ((Go.Value.agg #[Go.Value.slice Option.none 0 0, Go.Value.int Go.IntKind.i64 0, Go.Value.int Go.IntKind.i64 0])) := by kernel_rfl
theorem zer101 : zer Try.prog 101 = some ((Go.Value.agg #[Go.Value.int Go.IntKind.i64 0, Go.Value.bool Bool.false, Go.Value.int Go.IntKind.u8 0, Go.Value.int Go.IntKind.u8 0, Go.Value.int Go.IntKind.u8 0, Go.Value.int Go.IntKind.u8 0, Go.Value.int Go.IntKind.u8 0, Go.Value.int Go.IntKind.u8 0, Go.Value.int Go.IntKind.u8 0, Go.Value.string { data := #[] }])) := by kernel_rfl
theorem zer102 : zer Try.prog 102 = some ((Go.Value.agg #[Go.Value.int Go.IntKind.i64 0, Go.Value.bool Bool.false, Go.Value.int Go.IntKind.u8 0, Go.Value.int Go.IntKind.u8 0, Go.Value.int Go.IntKind.u8 0, Go.Value.int Go.IntKind.u8 0, Go.Value.int Go.IntKind.u8 0, Go.Value.int Go.IntKind.u8 0, Go.Value.int Go.IntKind.u8 0, Go.Value.string { data := #[] }])) := by kernel_rfl
theorem zer103 : zer Try.prog 103 = some ((Go.Value.pointer Option.none)) := by kernel_rfl
theorem zer104 : zer Try.prog 104 = some ((Go.Value.tuple #[Go.Value.pointer Option.none, Go.Value.int Go.IntKind.i64 0])) := by kernel_rfl
theorem zer105 : zer Try.prog 105 = some (Go.Value.nilFunc) := by kernel_rfl
theorem zer106 : zer Try.prog 106 = some ((Go.Value.pointer Option.none)) := by kernel_rfl
theorem zer107 : zer Try.prog 107 = some ((Go.Value.agg #[Go.Value.int Go.IntKind.i64 0, Go.Value.pointer Option.none])) := by kernel_rfl
theorem zer108 : zer Try.prog 108 = some ((Go.Value.agg #[Go.Value.int Go.IntKind.i64 0, Go.Value.pointer Option.none])) := by kernel_rfl
theorem zer109 : zer Try.prog 109 = some ((Go.Value.tuple #[Go.Value.pointer Option.none, Go.Value.int Go.IntKind.i64 0])) := by kernel_rfl
theorem zer110 : zer Try.prog 110 = some (Go.Value.nilFunc) := by kernel_rfl
theorem zer111 : zer Try.prog 111 = some ((Go.Value.agg #[Go.Value.pointer Option.none, Go.Value.int Go.IntKind.i64 0, Go.Value.int Go.IntKind.i64 0, Go.Value.int Go.IntKind.i64 0])) := by kernel_rfl
theorem zer112 : zer Try.prog 112 = some ((Go.Value.agg #[Go.Value.pointer Option.none, Go.Value.int Go.IntKind.i64 0, Go.Value.int Go.IntKind.i64 0, Go.Value.int Go.IntKind.i64 0])) := by kernel_rfl
theorem zer113 : zer Try.prog 113 = some (Go.Value.nilFunc) := by kernel_rfl
theorem zer114 : zer Try.prog 114 = some ((Go.Value.tuple #[Go.Value.agg #[Go.Value.int Go.IntKind.i64 0, Go.Value.pointer Option.none], Go.Value.bool Bool.false])) := by kernel_rfl
theorem zer115 : zer Try.prog 115 = some (Go.Value.nilFunc) := by kernel_rfl
theorem zer116 : zer Try.prog 116 = some (Go.Value.nilFunc) := by kernel_rfl
theorem zer117 : zer Try.prog 117 = some (Go.Value.nilFunc) := by kernel_rfl
theorem zer118 : zer Try.prog 118 = some (Go.Value.nilFunc) := by kernel_rfl
theorem zer119 : zer Try.prog 119 = some ((Go.Value.agg #[Go.Value.int Go.IntKind.i64 0, Go.Value.int Go.IntKind.i64 0, Go.Value.int Go.IntKind.i64 0, Go.Value.int Go.IntKind.i64 0])) := by kernel_rfl
theorem zer120 : zer Try.prog 120 = some ((Go.Value.agg #[Go.Value.int Go.IntKind.i64 0, Go.Value.int Go.IntKind.i64 0, Go.Value.int Go.IntKind.i64 0, Go.Value.int Go.IntKind.i64 0])) := by kernel_rfl
theorem zer121 : zer Try.prog 121 = some (Go.Value.nilFunc) := by kernel_rfl
theorem zer122 : zer Try.prog 122 = some (Go.Value.nilFunc) := by kernel_rfl
theorem zer123 : zer Try.prog 123 = some (Go.Value.nilFunc) := by kernel_rfl
theorem zer124 : zer Try.prog 124 = some ((Go.Value.agg #[Go.Value.bool Bool.false, Go.Value.int Go.IntKind.u8 0, Go.Value.int Go.IntKind.u8 0, Go.Value.int Go.IntKind.u8 0, Go.Value.int Go.IntKind.u8 0, Go.Value.int Go.IntKind.u8 0, Go.Value.int Go.IntKind.u8 0, Go.Value.int Go.IntKind.u8 0, Go.Value.int Go.IntKind.i64 0, Go.Value.int Go.IntKind.i64 0, Go.Value.int Go.IntKind.i64 0, Go.Value.int Go.IntKind.i64 0, Go.Value.int Go.IntKind.i64 0])) := by kernel_rfl
theorem zer125 : zer Try.prog 125 = some ((Go.Value.agg #[Go.Value.bool Bool.false, Go.Value.int Go.IntKind.u8 0, Go.Value.int Go.IntKind.u8 0, Go.Value.int Go.IntKind.u8 0, Go.Value.int Go.IntKind.u8 0, Go.Value.int Go.IntKind.u8 0, Go.Value.int Go.IntKind.u8 0, Go.Value.int Go.IntKind.u8 0, Go.Value.int Go.IntKind.i64 0, Go.Value.int Go.IntKind.i64 0, Go.Value.int Go.IntKind.i64 0, Go.Value.int Go.IntKind.i64 0, Go.Value.int Go.IntKind.i64 0])) := by kernel_rfl
theorem zer126 : zer Try.prog 126 = some ((Go.Value.tuple #[Go.Value.agg #[Go.Value.int Go.IntKind.i64 0, Go.Value.int Go.IntKind.i64 0, Go.Value.int Go.IntKind.i64 0, Go.Value.int Go.IntKind.i64 0], Go.Value.bool Bool.false])) := by kernel_rfl
theorem zer127 : zer Try.prog 127 = some (Go.Value.nilFunc) := by kernel_rfl
theorem zer128 : zer Try.prog 128 = some (Go.Value.nilFunc) := by kernel_rfl
theorem zer129 : zer Try.prog 129 = some ((Go.Value.agg #[Go.Value.int Go.IntKind.u8 0, Go.Value.int Go.IntKind.u8 0, Go.Value.int Go.IntKind.u8 0, Go.Value.int Go.IntKind.u8 0, Go.Value.int Go.IntKind.u8 0, Go.Value.int Go.IntKind.u8 0, Go.Value.int Go.IntKind.u8 0, Go.Value.int Go.IntKind.u8 0, Go.Value.int Go.IntKind.u8 0, Go.Value.int Go.IntKind.u8 0, Go.Value.int Go.IntKind.u8 0, Go.Value.int Go.IntKind.u8 0, Go.Value.int Go.IntKind.u8 0, Go.Value.int Go.IntKind.u8 0, Go.Value.int Go.IntKind.u8 0, Go.Value.int Go.IntKind.u8 0])) := by kernel_rfl
theorem zer130 : zer Try.prog 130 = some (Go.Value.nilFunc) := by kernel_rfl
theorem zer131 : zer Try.prog 131 = some (Go.Value.nilFunc) := by kernel_rfl
theorem zer132 : zer Try.prog 132 = some ((Go.Value.int Go.IntKind.u64 0)) := by kernel_rfl
theorem zer133 : zer Try.prog 133 = some ((Go.Value.slice Option.none 0 0)) := by kernel_rfl
theorem zer134 : zer Try.prog 134 = some ((Go.Value.agg #[Go.Value.slice Option.none 0 0, Go.Value.int Go.IntKind.i64 0, Go.Value.int Go.IntKind.i64 0])) := by kernel_rfl
theorem zer135 : zer Try.prog 135 = some ((Go.Value.agg #[Go.Value.slice Option.none 0 0, Go.Value.int Go.IntKind.i64 0, Go.Value.int Go.IntKind.i64 0])) := by kernel_rfl
theorem zer136 : zer Try.prog 136 = some ((Go.Value.agg #[Go.Value.int Go.IntKind.i64 0, Go.Value.int Go.IntKind.i64 0, Go.Value.int Go.IntKind.i64 0, Go.Value.int Go.IntKind.i64 0])) := by kernel_rfl
theorem zer137 : zer Try.prog 137 = some ((Go.Value.agg #[Go.Value.int Go.IntKind.i64 0, Go.Value.int Go.IntKind.i64 0, Go.Value.int Go.IntKind.i64 0, Go.Value.int Go.IntKind.i64 0])) := by kernel_rfl
theorem zer138 : zer Try.prog 138 = some ((Go.Value.agg #[Go.Value.int Go.IntKind.i64 0, Go.Value.bool Bool.false, Go.Value.int Go.IntKind.u8 0, Go.Value.int Go.IntKind.u8 0, Go.Value.int Go.IntKind.u8 0, Go.Value.int Go.IntKind.u8 0, Go.Value.int Go.IntKind.u8 0, Go.Value.int Go.IntKind.u8 0, Go.Value.int Go.IntKind.u8 0, Go.Value.int Go.IntKind.i64 0, Go.Value.pointer Option.none])) := by kernel_rfl
theorem zer139 : zer Try.prog 139 = some ((Go.Value.agg #[Go.Value.int Go.IntKind.i64 0, Go.Value.bool Bool.false, Go.Value.int Go.IntKind.u8 0, Go.Value.int Go.IntKind.u8 0, Go.Value.int Go.IntKind.u8 0, Go.Value.int Go.IntKind.u8 0, Go.Value.int Go.IntKind.u8 0, Go.Value.int Go.IntKind.u8 0, Go.Value.int Go.IntKind.u8 0, Go.Value.int Go.IntKind.i64 0, Go.Value.pointer Option.none])) := by kernel_rfl
theorem zer140 : zer Try.prog 140 = some (Go.Value.nilFunc) := by kernel_rfl
theorem zer141 : zer Try.prog 141 = some ((Go.Value.slice Option.none 0 0)) := by kernel_rfl
theorem zer142 : zer Try.prog 142 = some (Go.Value.nilFunc) := by kernel_rfl
theorem zer143 : zer Try.prog 143 = some ((Go.Value.pointer Option.none)) := by kernel_rfl
theorem zer144 : zer Try.prog 144 = some ((Go.Value.agg #[Go.Value.int Go.IntKind.u64 0, Go.Value.int Go.IntKind.u64 0, Go.Value.int Go.IntKind.u64 0, Go.Value.int Go.IntKind.u64 0])) := by kernel_rfl
theorem zer145 : zer Try.prog 145 = some ((Go.Value.agg #[Go.Value.int Go.IntKind.u64 0, Go.Value.int Go.IntKind.u64 0, Go.Value.int Go.IntKind.u64 0, Go.Value.int Go.IntKind.u64 0])) := by kernel_rfl
theorem zer146 : zer Try.prog 146 = some (Go.Value.nilFunc) := by kernel_rfl
theorem zer147 : zer Try.prog 147 = some (Go.Value.nilFunc) := by kernel_rfl
theorem zer148 : zer Try.prog 148 = some (Go.Value.nilFunc) := by kernel_rfl
theorem zer149 : zer Try.prog 149 = some (Go.Value.nilFunc) := by kernel_rfl
theorem zer150 : zer Try.prog 150 = some ((Go.Value.int Go.IntKind.i64 0)) := by kernel_rfl
theorem zer151 : zer Try.prog 151 = some ((Go.Value.tuple #[Go.Value.int Go.IntKind.i64 0, Go.Value.int Go.IntKind.i64 0])) := by kernel_rfl
theorem zer152 : zer Try.prog 152 = some (Go.Value.nilFunc) := by kernel_rfl
theorem zer153 : zer Try.prog 153 = some (Go.Value.nilFunc) := by kernel_rfl
theorem zer154 : zer Try.prog 154 = some (Go.Value.nilFunc) := by kernel_rfl
theorem zer155 : zer Try.prog 155 = some (Go.Value.nilFunc) := by kernel_rfl
theorem zer156 : zer Try.prog 156 = some (Go.Value.nilFunc) := by kernel_rfl
theorem zer157 : zer Try.prog 157 = some (Go.Value.nilFunc) := by kernel_rfl
theorem zer158 : zer Try.prog 158 = some (Go.Value.nilFunc) := by kernel_rfl
theorem zer159 : zer Try.prog 159 = some (Go.Value.nilFunc) := by kernel_rfl
theorem zer160 : zer Try.prog 160 = some ((Go.Value.int Go.IntKind.u64 0)) := by kernel_rfl
theorem zer161 : zer Try.prog 161 = some (Go.Value.nilFunc) := by kernel_rfl
theorem zer162 : zer Try.prog 162 = some (Go.Value.nilFunc) := by kernel_rfl
theorem zer163 : zer Try.prog 163 = some (Go.Value.nilFunc) := by kernel_rfl
theorem zer164 : zer Try.prog 164 = some ((Go.Value.pointer Option.none)) := by kernel_rfl
theorem zer165 : zer Try.prog 165 = some (Go.Value.nilFunc) := by kernel_rfl
theorem zer166 : zer Try.prog 166 = some ((Go.Value.pointer Option.none)) := by kernel_rfl
theorem zer167 : zer Try.prog 167 = some (Go.Value.nilFunc) := by kernel_rfl
theorem zer168 : zer Try.prog 168 = some (Go.Value.nilFunc) := by kernel_rfl
theorem zer169 : zer Try.prog 169 = some ((Go.Value.agg #[Go.Value.pointer Option.none, Go.Value.pointer Option.none, Go.Value.pointer Option.none, Go.Value.string { data := #[] }])) := by kernel_rfl
theorem zer170 : zer Try.prog 170 = some ((Go.Value.agg #[Go.Value.pointer Option.none, Go.Value.pointer Option.none, Go.Value.pointer Option.none, Go.Value.string { data := #[] }])) := by kernel_rfl
theorem zer171 : zer Try.prog 171 = some ((Go.Value.agg #[])) := by kernel_rfl
theorem zer172 : zer Try.prog 172 = some ((Go.Value.agg #[])) := by kernel_rfl
theorem zer173 : zer Try.prog 173 = some ((Go.Value.agg #[])) := by kernel_rfl
theorem zer174 : zer Try.prog 174 = some ((Go.Value.int Go.IntKind.u8 0)) := by kernel_rfl
theorem zer175 : zer Try.prog 175 = some ((Go.Value.int Go.IntKind.u8 0)) := by kernel_rfl
theorem zer176 : zer Try.prog 176 = some (Go.Value.nilFunc) := by kernel_rfl
theorem zer177 : zer Try.prog 177 = some ((Go.Value.pointer Option.none)) := by kernel_rfl
theorem zer178 : zer Try.prog 178 = some ((Go.Value.int Go.IntKind.i32 0)) := by kernel_rfl
theorem zer179 : zer Try.prog 179 = some ((Go.Value.int Go.IntKind.i32 0)) := by kernel_rfl
theorem zer180 : zer Try.prog 180 = some ((Go.Value.agg #[Go.Value.int Go.IntKind.u64 0, Go.Value.int Go.IntKind.u64 0, Go.Value.int Go.IntKind.u32 0, Go.Value.int Go.IntKind.u8 0, Go.Value.int Go.IntKind.u8 0, Go.Value.int Go.IntKind.u8 0, Go.Value.int Go.IntKind.u8 0, Go.Value.nilFunc, Go.Value.pointer Option.none, Go.Value.int Go.IntKind.i32 0, Go.Value.int Go.IntKind.i32 0])) := by kernel_rfl
theorem zer181 : zer Try.prog 181 = some ((Go.Value.agg #[Go.Value.int Go.IntKind.u64 0, Go.Value.int Go.IntKind.u64 0, Go.Value.int Go.IntKind.u32 0, Go.Value.int Go.IntKind.u8 0, Go.Value.int Go.IntKind.u8 0, Go.Value.int Go.IntKind.u8 0, Go.Value.int Go.IntKind.u8 0, Go.Value.nilFunc, Go.Value.pointer Option.none, Go.Value.int Go.IntKind.i32 0, Go.Value.int Go.IntKind.i32 0])) := by kernel_rfl
theorem zer182 : zer Try.prog 182 = some ((Go.Value.pointer Option.none)) := by kernel_rfl
set_option linter.defProp false
def tyF := (And.intro (And.intro (And.intro (And.intro (And.intro (And.intro (And.intro (And.intro @List.take_succ_cons.{0} (And.intro @List.take_zero.{0} @List.drop_succ_cons.{0})) (And.intro (And.intro @List.drop_zero.{0} @Try.underlying0) (And.intro @Try.underlying1 @Try.underlying2))) (And.intro (And.intro (And.intro @Try.underlying3 @Try.underlying4) (And.intro @Try.underlying5 @Try.underlying6)) (And.intro (And.intro @Try.underlying7 @Try.underlying8) (And.intro @Try.underlying9 @Try.underlying10)))) (And.intro (And.intro (And.intro @Try.underlying11 (And.intro @Try.underlying12 @Try.underlying13)) (And.intro (And.intro @Try.underlying14 @Try.underlying15) (And.intro @Try.underlying16 @Try.underlying17))) (And.intro (And.intro (And.intro @Try.underlying18 @Try.underlying19) (And.intro @Try.underlying20 @Try.underlying21)) (And.intro (And.intro @Try.underlying22 @Try.underlying23) (And.intro @Try.underlying24 @Try.underlying25))))) (And.intro (And.intro (And.intro (And.intro @Try.underlying26 (And.intro @Try.underlying27 @Try.underlying28)) (And.intro (And.intro @Try.underlying29 @Try.underlying30) (And.intro @Try.underlying31 @Try.underlying32))) (And.intro (And.intro (And.intro @Try.underlying33 @Try.underlying34) (And.intro @Try.underlying35 @Try.underlying36)) (And.intro (And.intro @Try.underlying37 @Try.underlying38) (And.intro @Try.underlying39 @Try.underlying40)))) (And.intro (And.intro (And.intro @Try.underlying41 (And.intro @Try.underlying42 @Try.underlying43)) (And.intro (And.intro @Try.underlying44 @Try.underlying45) (And.intro @Try.underlying46 @Try.underlying47))) (And.intro (And.intro (And.intro @Try.underlying48 @Try.underlying49) (And.intro @Try.underlying50 @Try.underlying51)) (And.intro (And.intro @Try.underlying52 @Try.underlying53) (And.intro @Try.underlying54 @Try.underlying55)))))) (And.intro (And.intro (And.intro (And.intro (And.intro @Try.underlying56 (And.intro @Try.underlying57 @Try.underlying58)) (And.intro (And.intro @Try.underlying59 @Try.underlying60) (And.intro @Try.underlying61 @Try.underlying62))) (And.intro (And.intro (And.intro @Try.underlying63 @Try.underlying64) (And.intro @Try.underlying65 @Try.underlying66)) (And.intro (And.intro @Try.underlying67 @Try.underlying68) (And.intro @Try.underlying69 @Try.underlying70)))) (And.intro (And.intro (And.intro @Try.underlying71 (And.intro @Try.underlying72 @Try.underlying73)) (And.intro (And.intro @Try.underlying74 @Try.underlying75) (And.intro @Try.underlying76 @Try.underlying77))) (And.intro (And.intro (And.intro @Try.underlying78 @Try.underlying79) (And.intro @Try.underlying80 @Try.underlying81)) (And.intro (And.intro @Try.underlying82 @Try.underlying83) (And.intro @Try.underlying84 @Try.underlying85))))) (And.intro (And.intro (And.intro (And.intro @Try.underlying86 (And.intro @Try.underlying87 @Try.underlying88)) (And.intro (And.intro @Try.underlying89 @Try.underlying90) (And.intro @Try.underlying91 @Try.underlying92))) (And.intro (And.intro (And.intro @Try.underlying93 @Try.underlying94) (And.intro @Try.underlying95 @Try.underlying96)) (And.intro (And.intro @Try.underlying97 @Try.underlying98) (And.intro @Try.underlying99 @Try.underlying100)))) (And.intro (And.intro (And.intro (And.intro @Try.underlying101 @Try.underlying102) (And.intro @Try.underlying103 @Try.underlying104)) (And.intro (And.intro @Try.underlying105 @Try.underlying106) (And.intro @Try.underlying107 @Try.underlying108))) (And.intro (And.intro (And.intro @Try.underlying109 @Try.underlying110) (And.intro @Try.underlying111 @Try.underlying112)) (And.intro (And.intro @Try.underlying113 @Try.underlying114) (And.intro @Try.underlying115 @Try.underlying116))))))) (And.intro (And.intro (And.intro (And.intro (And.intro (And.intro @Try.underlying117 (And.intro @Try.underlying118 @Try.underlying119)) (And.intro (And.intro @Try.underlying120 @Try.underlying121) (And.intro @Try.underlying122 @Try.underlying123))) (And.intro (And.intro (And.intro @Try.underlying124 @Try.underlying125) (And.intro @Try.underlying126 @Try.underlying127)) (And.intro (And.intro @Try.underlying128 @Try.underlying129) (And.intro @Try.underlying130 @Try.underlying131)))) (And.intro (And.intro (And.intro @Try.underlying132 (And.intro @Try.underlying133 @Try.underlying134)) (And.intro (And.intro @Try.underlying135 @Try.underlying136) (And.intro @Try.underlying137 @Try.underlying138))) (And.intro (And.intro (And.intro @Try.underlying139 @Try.underlying140) (And.intro @Try.underlying141 @Try.underlying142)) (And.intro (And.intro @Try.underlying143 @Try.underlying144) (And.intro @Try.underlying145 @Try.underlying146))))) (And.intro (And.intro (And.intro (And.intro @Try.underlying147 (And.intro @Try.underlying148 @Try.underlying149)) (And.intro (And.intro @Try.underlying150 @Try.underlying151) (And.intro @Try.underlying152 @Try.underlying153))) (And.intro (And.intro (And.intro @Try.underlying154 @Try.underlying155) (And.intro @Try.underlying156 @Try.underlying157)) (And.intro (And.intro @Try.underlying158 @Try.underlying159) (And.intro @Try.underlying160 @Try.underlying161)))) (And.intro (And.intro (And.intro (And.intro @Try.underlying162 @Try.underlying163) (And.intro @Try.underlying164 @Try.underlying165)) (And.intro (And.intro @Try.underlying166 @Try.underlying167) (And.intro @Try.underlying168 @Try.underlying169))) (And.intro (And.intro (And.intro @Try.underlying170 @Try.underlying171) (And.intro @Try.underlying172 @Try.underlying173)) (And.intro (And.intro @Try.underlying174 @Try.underlying175) (And.intro @Try.underlying176 @Try.underlying177)))))) (And.intro (And.intro (And.intro (And.intro (And.intro @Try.underlying178 (And.intro @Try.underlying179 @Try.underlying180)) (And.intro (And.intro @Try.underlying181 @Try.underlying182) (And.intro @cells0 @cells1))) (And.intro (And.intro (And.intro @cells2 @cells3) (And.intro @cells4 @cells5)) (And.intro (And.intro @cells6 @cells7) (And.intro @cells8 @cells9)))) (And.intro (And.intro (And.intro @cells10 (And.intro @cells11 @cells12)) (And.intro (And.intro @cells13 @cells14) (And.intro @cells15 @cells16))) (And.intro (And.intro (And.intro @cells17 @cells18) (And.intro @cells19 @cells20)) (And.intro (And.intro @cells21 @cells22) (And.intro @cells23 @cells24))))) (And.intro (And.intro (And.intro (And.intro @cells25 (And.intro @cells26 @cells27)) (And.intro (And.intro @cells28 @cells29) (And.intro @cells30 @cells31))) (And.intro (And.intro (And.intro @cells32 @cells33) (And.intro @cells34 @cells35)) (And.intro (And.intro @cells36 @cells37) (And.intro @cells38 @cells39)))) (And.intro (And.intro (And.intro (And.intro @cells40 @cells41) (And.intro @cells42 @cells43)) (And.intro (And.intro @cells44 @cells45) (And.intro @cells46 @cells47))) (And.intro (And.intro (And.intro @cells48 @cells49) (And.intro @cells50 @cells51)) (And.intro (And.intro @cells52 @cells53) (And.intro @cells54 @cells55)))))))) (And.intro (And.intro (And.intro (And.intro (And.intro (And.intro (And.intro @cells56 (And.intro @cells57 @cells58)) (And.intro (And.intro @cells59 @cells60) (And.intro @cells61 @cells62))) (And.intro (And.intro (And.intro @cells63 @cells64) (And.intro @cells65 @cells66)) (And.intro (And.intro @cells67 @cells68) (And.intro @cells69 @cells70)))) (And.intro (And.intro (And.intro @cells71 (And.intro @cells72 @cells73)) (And.intro (And.intro @cells74 @cells75) (And.intro @cells76 @cells77))) (And.intro (And.intro (And.intro @cells78 @cells79) (And.intro @cells80 @cells81)) (And.intro (And.intro @cells82 @cells83) (And.intro @cells84 @cells85))))) (And.intro (And.intro (And.intro (And.intro @cells86 (And.intro @cells87 @cells88)) (And.intro (And.intro @cells89 @cells90) (And.intro @cells91 @cells92))) (And.intro (And.intro (And.intro @cells93 @cells94) (And.intro @cells95 @cells96)) (And.intro (And.intro @cells97 @cells98) (And.intro @cells99 @cells100)))) (And.intro (And.intro (And.intro @cells101 (And.intro @cells102 @cells103)) (And.intro (And.intro @cells104 @cells105) (And.intro @cells106 @cells107))) (And.intro (And.intro (And.intro @cells108 @cells109) (And.intro @cells110 @cells111)) (And.intro (And.intro @cells112 @cells113) (And.intro @cells114 @cells115)))))) (And.intro (And.intro (And.intro (And.intro (And.intro @cells116 (And.intro @cells117 @cells118)) (And.intro (And.intro @cells119 @cells120) (And.intro @cells121 @cells122))) (And.intro (And.intro (And.intro @cells123 @cells124) (And.intro @cells125 @cells126)) (And.intro (And.intro @cells127 @cells128) (And.intro @cells129 @cells130)))) (And.intro (And.intro (And.intro @cells131 (And.intro @cells132 @cells133)) (And.intro (And.intro @cells134 @cells135) (And.intro @cells136 @cells137))) (And.intro (And.intro (And.intro @cells138 @cells139) (And.intro @cells140 @cells141)) (And.intro (And.intro @cells142 @cells143) (And.intro @cells144 @cells145))))) (And.intro (And.intro (And.intro (And.intro @cells146 (And.intro @cells147 @cells148)) (And.intro (And.intro @cells149 @cells150) (And.intro @cells151 @cells152))) (And.intro (And.intro (And.intro @cells153 @cells154) (And.intro @cells155 @cells156)) (And.intro (And.intro @cells157 @cells158) (And.intro @cells159 @cells160)))) (And.intro (And.intro (And.intro (And.intro @cells161 @cells162) (And.intro @cells163 @cells164)) (And.intro (And.intro @cells165 @cells166) (And.intro @cells167 @cells168))) (And.intro (And.intro (And.intro @cells169 @cells170) (And.intro @cells171 @cells172)) (And.intro (And.intro @cells173 @cells174) (And.intro @cells175 @cells176))))))) (And.intro (And.intro (And.intro (And.intro (And.intro (And.intro @cells177 (And.intro @cells178 @cells179)) (And.intro (And.intro @cells180 @cells181) (And.intro @cells182 @Try.results0))) (And.intro (And.intro (And.intro @Try.results1 @Try.results2) (And.intro @Try.results3 @Try.results4)) (And.intro (And.intro @Try.results5 @Try.results6) (And.intro @Try.results7 @Try.results8)))) (And.intro (And.intro (And.intro @Try.results9 (And.intro @Try.results10 @Try.results11)) (And.intro (And.intro @Try.results12 @Try.results13) (And.intro @Try.results14 @Try.results15))) (And.intro (And.intro (And.intro @Try.results16 @Try.results17) (And.intro @Try.results18 @Try.results19)) (And.intro (And.intro @Try.results20 @Try.results21) (And.intro @Try.results22 @Try.results23))))) (And.intro (And.intro (And.intro (And.intro @Try.results24 (And.intro @Try.results25 @Try.results26)) (And.intro (And.intro @Try.results27 @Try.results28) (And.intro @Try.results29 @Try.results30))) (And.intro (And.intro (And.intro @Try.results31 @Try.results32) (And.intro @Try.results33 @Try.results34)) (And.intro (And.intro @Try.results35 @Try.results36) (And.intro @Try.results37 @Try.results38)))) (And.intro (And.intro (And.intro (And.intro @Try.results39 @Try.results40) (And.intro @Try.results41 @Try.results42)) (And.intro (And.intro @Try.results43 @Try.results44) (And.intro @Try.results45 @Try.results46))) (And.intro (And.intro (And.intro @Try.results47 @Try.results48) (And.intro @Try.results49 @Try.results50)) (And.intro (And.intro @Try.results51 @Try.results52) (And.intro @Try.results53 @Try.results54)))))) (And.intro (And.intro (And.intro (And.intro (And.intro @Try.results55 (And.intro @Try.results56 @Try.results57)) (And.intro (And.intro @Try.results58 @Try.results59) (And.intro @Try.results60 @Try.results61))) (And.intro (And.intro (And.intro @Try.results62 @Try.results63) (And.intro @Try.results64 @Try.results65)) (And.intro (And.intro @Try.results66 @Try.results67) (And.intro @Try.results68 @Try.results69)))) (And.intro (And.intro (And.intro @Try.results70 (And.intro @Try.results71 @Try.results72)) (And.intro (And.intro @Try.results73 @Try.results74) (And.intro @Try.results75 @Try.results76))) (And.intro (And.intro (And.intro @Try.results77 @Try.results78) (And.intro @Try.results79 @Try.results80)) (And.intro (And.intro @Try.results81 @Try.results82) (And.intro @Try.results83 @Try.results84))))) (And.intro (And.intro (And.intro (And.intro @Try.results85 (And.intro @Try.results86 @Try.results87)) (And.intro (And.intro @Try.results88 @Try.results89) (And.intro @Try.results90 @Try.results91))) (And.intro (And.intro (And.intro @Try.results92 @Try.results93) (And.intro @Try.results94 @Try.results95)) (And.intro (And.intro @Try.results96 @Try.results97) (And.intro @Try.results98 @Try.results99)))) (And.intro (And.intro (And.intro (And.intro @Try.results100 @Try.results101) (And.intro @Try.results102 @Try.results103)) (And.intro (And.intro @Try.results104 @Try.results105) (And.intro @Try.results106 @Try.results107))) (And.intro (And.intro (And.intro @Try.results108 @Try.results109) (And.intro @Try.results110 @Try.results111)) (And.intro (And.intro @Try.results112 @Try.results113) (And.intro @Try.results114 @Try.results115)))))))))
theorem mixed : Try.prog.follows .mixedOrders = true := by kernel_rfl
end Go.Proofs.Ytimhcjakpdebjaa
