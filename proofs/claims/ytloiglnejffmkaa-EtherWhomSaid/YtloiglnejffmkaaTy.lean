/-
  What the calculus asks of the types of this seat's translation: how many cells, what a nought is. By a program.
-/
import Derived.Test.YtloiglnejffmkaaProg
import Derived.Test.YtloiglnejffmkaaRv
namespace Go.Proofs.Ytloiglnejffmkaa
open Go Go.RowKit Go.Proofs.RV
theorem cells0 : Try.prog.cellsOf 0 = 1 := by kernel_rfl
theorem cells1 : Try.prog.cellsOf 1 = 1 := by kernel_rfl
theorem cells2 : Try.prog.cellsOf 2 = 1 := by kernel_rfl
theorem cells3 : Try.prog.cellsOf 3 = 1 := by kernel_rfl
theorem cells4 : Try.prog.cellsOf 4 = 1 := by kernel_rfl
theorem cells5 : Try.prog.cellsOf 5 = 1 := by kernel_rfl
theorem cells6 : Try.prog.cellsOf 6 = 1 := by kernel_rfl
theorem cells7 : Try.prog.cellsOf 7 = 4 := by kernel_rfl
theorem cells8 : Try.prog.cellsOf 8 = 4 := by kernel_rfl
theorem cells9 : Try.prog.cellsOf 9 = 1 := by kernel_rfl
theorem cells10 : Try.prog.cellsOf 10 = 1 := by kernel_rfl
theorem cells11 : Try.prog.cellsOf 11 = 1 := by kernel_rfl
theorem cells12 : Try.prog.cellsOf 12 = 1 := by kernel_rfl
theorem cells13 : Try.prog.cellsOf 13 = 2 := by kernel_rfl
theorem cells14 : Try.prog.cellsOf 14 = 2 := by kernel_rfl
theorem cells15 : Try.prog.cellsOf 15 = 1 := by kernel_rfl
theorem cells16 : Try.prog.cellsOf 16 = 1 := by kernel_rfl
theorem cells17 : Try.prog.cellsOf 17 = 1 := by kernel_rfl
theorem cells18 : Try.prog.cellsOf 18 = 1 := by kernel_rfl
theorem cells19 : Try.prog.cellsOf 19 = 1 := by kernel_rfl
theorem cells20 : Try.prog.cellsOf 20 = 1 := by kernel_rfl
theorem cells21 : Try.prog.cellsOf 21 = 1 := by kernel_rfl
theorem cells22 : Try.prog.cellsOf 22 = 1 := by kernel_rfl
theorem cells23 : Try.prog.cellsOf 23 = 1 := by kernel_rfl
theorem cells24 : Try.prog.cellsOf 24 = 1 := by kernel_rfl
theorem cells25 : Try.prog.cellsOf 25 = 1 := by kernel_rfl
theorem cells26 : Try.prog.cellsOf 26 = 1 := by kernel_rfl
theorem cells27 : Try.prog.cellsOf 27 = 1 := by kernel_rfl
theorem cells28 : Try.prog.cellsOf 28 = 1 := by kernel_rfl
theorem cells29 : Try.prog.cellsOf 29 = 1 := by kernel_rfl
theorem cells30 : Try.prog.cellsOf 30 = 1 := by kernel_rfl
theorem cells31 : Try.prog.cellsOf 31 = 1 := by kernel_rfl
theorem cells32 : Try.prog.cellsOf 32 = 1 := by kernel_rfl
theorem cells33 : Try.prog.cellsOf 33 = 12 := by kernel_rfl
theorem cells34 : Try.prog.cellsOf 34 = 2 := by kernel_rfl
theorem cells35 : Try.prog.cellsOf 35 = 2 := by kernel_rfl
theorem cells36 : Try.prog.cellsOf 36 = 1 := by kernel_rfl
theorem cells37 : Try.prog.cellsOf 37 = 1 := by kernel_rfl
theorem cells38 : Try.prog.cellsOf 38 = 1 := by kernel_rfl
theorem cells39 : Try.prog.cellsOf 39 = 1 := by kernel_rfl
theorem cells40 : Try.prog.cellsOf 40 = 1 := by kernel_rfl
theorem cells41 : Try.prog.cellsOf 41 = 1 := by kernel_rfl
theorem cells42 : Try.prog.cellsOf 42 = 1 := by kernel_rfl
theorem cells43 : Try.prog.cellsOf 43 = 1 := by kernel_rfl
theorem cells44 : Try.prog.cellsOf 44 = 1 := by kernel_rfl
theorem cells45 : Try.prog.cellsOf 45 = 1 := by kernel_rfl
theorem cells46 : Try.prog.cellsOf 46 = 1 := by kernel_rfl
theorem cells47 : Try.prog.cellsOf 47 = 1 := by kernel_rfl
theorem cells48 : Try.prog.cellsOf 48 = 1 := by kernel_rfl
theorem cells49 : Try.prog.cellsOf 49 = 1 := by kernel_rfl
theorem cells50 : Try.prog.cellsOf 50 = 2 := by kernel_rfl
theorem cells51 : Try.prog.cellsOf 51 = 2 := by kernel_rfl
theorem cells52 : Try.prog.cellsOf 52 = 1 := by kernel_rfl
theorem cells53 : Try.prog.cellsOf 53 = 1 := by kernel_rfl
theorem cells54 : Try.prog.cellsOf 54 = 1 := by kernel_rfl
theorem cells55 : Try.prog.cellsOf 55 = 1 := by kernel_rfl
theorem cells56 : Try.prog.cellsOf 56 = 1 := by kernel_rfl
theorem cells57 : Try.prog.cellsOf 57 = 1 := by kernel_rfl
theorem cells58 : Try.prog.cellsOf 58 = 1 := by kernel_rfl
theorem cells59 : Try.prog.cellsOf 59 = 7 := by kernel_rfl
theorem cells60 : Try.prog.cellsOf 60 = 8 := by kernel_rfl
theorem cells61 : Try.prog.cellsOf 61 = 8 := by kernel_rfl
theorem cells62 : Try.prog.cellsOf 62 = 1 := by kernel_rfl
theorem cells63 : Try.prog.cellsOf 63 = 1 := by kernel_rfl
theorem cells64 : Try.prog.cellsOf 64 = 1 := by kernel_rfl
theorem cells65 : Try.prog.cellsOf 65 = 1 := by kernel_rfl
theorem cells66 : Try.prog.cellsOf 66 = 1 := by kernel_rfl
theorem cells67 : Try.prog.cellsOf 67 = 1 := by kernel_rfl
theorem cells68 : Try.prog.cellsOf 68 = 1 := by kernel_rfl
theorem cells69 : Try.prog.cellsOf 69 = 1 := by kernel_rfl
theorem cells70 : Try.prog.cellsOf 70 = 1 := by kernel_rfl
theorem cells71 : Try.prog.cellsOf 71 = 1 := by kernel_rfl
theorem cells72 : Try.prog.cellsOf 72 = 1 := by kernel_rfl
theorem cells73 : Try.prog.cellsOf 73 = 1 := by kernel_rfl
theorem cells74 : Try.prog.cellsOf 74 = 1 := by kernel_rfl
theorem cells75 : Try.prog.cellsOf 75 = 1 := by kernel_rfl
theorem cells76 : Try.prog.cellsOf 76 = 1 := by kernel_rfl
theorem cells77 : Try.prog.cellsOf 77 = 1 := by kernel_rfl
theorem cells78 : Try.prog.cellsOf 78 = 1 := by kernel_rfl
theorem cells79 : Try.prog.cellsOf 79 = 1 := by kernel_rfl
theorem cells80 : Try.prog.cellsOf 80 = 1 := by kernel_rfl
theorem cells81 : Try.prog.cellsOf 81 = 2 := by kernel_rfl
theorem cells82 : Try.prog.cellsOf 82 = 16 := by kernel_rfl
theorem cells83 : Try.prog.cellsOf 83 = 20 := by kernel_rfl
theorem cells84 : Try.prog.cellsOf 84 = 20 := by kernel_rfl
theorem cells85 : Try.prog.cellsOf 85 = 49 := by kernel_rfl
theorem cells86 : Try.prog.cellsOf 86 = 49 := by kernel_rfl
theorem cells87 : Try.prog.cellsOf 87 = 1 := by kernel_rfl
theorem cells88 : Try.prog.cellsOf 88 = 1 := by kernel_rfl
theorem cells89 : Try.prog.cellsOf 89 = 1 := by kernel_rfl
theorem cells90 : Try.prog.cellsOf 90 = 1 := by kernel_rfl
theorem cells91 : Try.prog.cellsOf 91 = 1 := by kernel_rfl
theorem cells92 : Try.prog.cellsOf 92 = 1 := by kernel_rfl
theorem cells93 : Try.prog.cellsOf 93 = 1 := by kernel_rfl
theorem cells94 : Try.prog.cellsOf 94 = 1 := by kernel_rfl
theorem cells95 : Try.prog.cellsOf 95 = 1 := by kernel_rfl
theorem cells96 : Try.prog.cellsOf 96 = 10 := by kernel_rfl
theorem cells97 : Try.prog.cellsOf 97 = 10 := by kernel_rfl
theorem cells98 : Try.prog.cellsOf 98 = 1 := by kernel_rfl
theorem cells99 : Try.prog.cellsOf 99 = 9 := by kernel_rfl
theorem cells100 : Try.prog.cellsOf 100 = 9 := by kernel_rfl
theorem cells101 : Try.prog.cellsOf 101 = 1 := by kernel_rfl
theorem cells102 : Try.prog.cellsOf 102 = 1 := by kernel_rfl
theorem cells103 : Try.prog.cellsOf 103 = 1 := by kernel_rfl
theorem cells104 : Try.prog.cellsOf 104 = 1 := by kernel_rfl
theorem cells105 : Try.prog.cellsOf 105 = 1 := by kernel_rfl
theorem cells106 : Try.prog.cellsOf 106 = 1 := by kernel_rfl
theorem cells107 : Try.prog.cellsOf 107 = 1 := by kernel_rfl
theorem cells108 : Try.prog.cellsOf 108 = 1 := by kernel_rfl
theorem cells109 : Try.prog.cellsOf 109 = 1 := by kernel_rfl
theorem cells110 : Try.prog.cellsOf 110 = 1 := by kernel_rfl
theorem cells111 : Try.prog.cellsOf 111 = 1 := by kernel_rfl
theorem cells112 : Try.prog.cellsOf 112 = 1 := by kernel_rfl
theorem cells113 : Try.prog.cellsOf 113 = 1 := by kernel_rfl
theorem cells114 : Try.prog.cellsOf 114 = 1 := by kernel_rfl
theorem cells115 : Try.prog.cellsOf 115 = 1 := by kernel_rfl
theorem cells116 : Try.prog.cellsOf 116 = 1 := by kernel_rfl
theorem cells117 : Try.prog.cellsOf 117 = 1 := by kernel_rfl
theorem cells118 : Try.prog.cellsOf 118 = 1 := by kernel_rfl
theorem cells119 : Try.prog.cellsOf 119 = 1 := by kernel_rfl
theorem cells120 : Try.prog.cellsOf 120 = 1 := by kernel_rfl
theorem cells121 : Try.prog.cellsOf 121 = 1 := by kernel_rfl
theorem cells122 : Try.prog.cellsOf 122 = 11 := by kernel_rfl
theorem cells123 : Try.prog.cellsOf 123 = 11 := by kernel_rfl
theorem cells124 : Try.prog.cellsOf 124 = 1 := by kernel_rfl
theorem cells125 : Try.prog.cellsOf 125 = 1 := by kernel_rfl
theorem cells126 : Try.prog.cellsOf 126 = 1 := by kernel_rfl
theorem cells127 : Try.prog.cellsOf 127 = 1 := by kernel_rfl
theorem cells128 : Try.prog.cellsOf 128 = 5 := by kernel_rfl
theorem cells129 : Try.prog.cellsOf 129 = 5 := by kernel_rfl
theorem cells130 : Try.prog.cellsOf 130 = 1 := by kernel_rfl
theorem cells131 : Try.prog.cellsOf 131 = 1 := by kernel_rfl
theorem cells132 : Try.prog.cellsOf 132 = 1 := by kernel_rfl
theorem cells133 : Try.prog.cellsOf 133 = 1 := by kernel_rfl
theorem cells134 : Try.prog.cellsOf 134 = 1 := by kernel_rfl
theorem cells135 : Try.prog.cellsOf 135 = 1 := by kernel_rfl
theorem cells136 : Try.prog.cellsOf 136 = 1 := by kernel_rfl
theorem cells137 : Try.prog.cellsOf 137 = 1 := by kernel_rfl
theorem cells138 : Try.prog.cellsOf 138 = 1 := by kernel_rfl
theorem cells139 : Try.prog.cellsOf 139 = 1 := by kernel_rfl
theorem cells140 : Try.prog.cellsOf 140 = 1 := by kernel_rfl
theorem cells141 : Try.prog.cellsOf 141 = 2 := by kernel_rfl
theorem cells142 : Try.prog.cellsOf 142 = 2 := by kernel_rfl
theorem cells143 : Try.prog.cellsOf 143 = 1 := by kernel_rfl
theorem cells144 : Try.prog.cellsOf 144 = 1 := by kernel_rfl
theorem cells145 : Try.prog.cellsOf 145 = 1 := by kernel_rfl
theorem cells146 : Try.prog.cellsOf 146 = 1 := by kernel_rfl
theorem cells147 : Try.prog.cellsOf 147 = 1 := by kernel_rfl
theorem cells148 : Try.prog.cellsOf 148 = 1 := by kernel_rfl
theorem cells149 : Try.prog.cellsOf 149 = 1 := by kernel_rfl
theorem cells150 : Try.prog.cellsOf 150 = 1 := by kernel_rfl
theorem cells151 : Try.prog.cellsOf 151 = 3 := by kernel_rfl
theorem cells152 : Try.prog.cellsOf 152 = 3 := by kernel_rfl
theorem cells153 : Try.prog.cellsOf 153 = 1 := by kernel_rfl
theorem cells154 : Try.prog.cellsOf 154 = 1 := by kernel_rfl
theorem cells155 : Try.prog.cellsOf 155 = 10 := by kernel_rfl
theorem cells156 : Try.prog.cellsOf 156 = 10 := by kernel_rfl
theorem cells157 : Try.prog.cellsOf 157 = 20 := by kernel_rfl
theorem cells158 : Try.prog.cellsOf 158 = 49 := by kernel_rfl
theorem cells159 : Try.prog.cellsOf 159 = 49 := by kernel_rfl
theorem cells160 : Try.prog.cellsOf 160 = 1 := by kernel_rfl
theorem cells161 : Try.prog.cellsOf 161 = 1 := by kernel_rfl
theorem cells162 : Try.prog.cellsOf 162 = 1 := by kernel_rfl
theorem cells163 : Try.prog.cellsOf 163 = 1 := by kernel_rfl
theorem cells164 : Try.prog.cellsOf 164 = 1 := by kernel_rfl
theorem cells165 : Try.prog.cellsOf 165 = 1 := by kernel_rfl
theorem cells166 : Try.prog.cellsOf 166 = 1 := by kernel_rfl
theorem cells167 : Try.prog.cellsOf 167 = 1 := by kernel_rfl
theorem cells168 : Try.prog.cellsOf 168 = 1 := by kernel_rfl
theorem cells169 : Try.prog.cellsOf 169 = 3 := by kernel_rfl
theorem cells170 : Try.prog.cellsOf 170 = 3 := by kernel_rfl
theorem cells171 : Try.prog.cellsOf 171 = 10 := by kernel_rfl
theorem cells172 : Try.prog.cellsOf 172 = 10 := by kernel_rfl
theorem cells173 : Try.prog.cellsOf 173 = 1 := by kernel_rfl
theorem cells174 : Try.prog.cellsOf 174 = 1 := by kernel_rfl
theorem cells175 : Try.prog.cellsOf 175 = 1 := by kernel_rfl
theorem cells176 : Try.prog.cellsOf 176 = 1 := by kernel_rfl
theorem cells177 : Try.prog.cellsOf 177 = 2 := by kernel_rfl
theorem cells178 : Try.prog.cellsOf 178 = 2 := by kernel_rfl
theorem cells179 : Try.prog.cellsOf 179 = 1 := by kernel_rfl
theorem cells180 : Try.prog.cellsOf 180 = 1 := by kernel_rfl
theorem cells181 : Try.prog.cellsOf 181 = 4 := by kernel_rfl
theorem cells182 : Try.prog.cellsOf 182 = 4 := by kernel_rfl
theorem cells183 : Try.prog.cellsOf 183 = 1 := by kernel_rfl
theorem cells184 : Try.prog.cellsOf 184 = 1 := by kernel_rfl
theorem cells185 : Try.prog.cellsOf 185 = 1 := by kernel_rfl
theorem cells186 : Try.prog.cellsOf 186 = 1 := by kernel_rfl
theorem cells187 : Try.prog.cellsOf 187 = 1 := by kernel_rfl
theorem cells188 : Try.prog.cellsOf 188 = 1 := by kernel_rfl
theorem cells189 : Try.prog.cellsOf 189 = 4 := by kernel_rfl
theorem cells190 : Try.prog.cellsOf 190 = 4 := by kernel_rfl
theorem cells191 : Try.prog.cellsOf 191 = 1 := by kernel_rfl
theorem cells192 : Try.prog.cellsOf 192 = 1 := by kernel_rfl
theorem cells193 : Try.prog.cellsOf 193 = 1 := by kernel_rfl
theorem cells194 : Try.prog.cellsOf 194 = 13 := by kernel_rfl
theorem cells195 : Try.prog.cellsOf 195 = 13 := by kernel_rfl
theorem cells196 : Try.prog.cellsOf 196 = 1 := by kernel_rfl
theorem cells197 : Try.prog.cellsOf 197 = 1 := by kernel_rfl
theorem cells198 : Try.prog.cellsOf 198 = 1 := by kernel_rfl
theorem cells199 : Try.prog.cellsOf 199 = 1 := by kernel_rfl
theorem cells200 : Try.prog.cellsOf 200 = 1 := by kernel_rfl
theorem cells201 : Try.prog.cellsOf 201 = 1 := by kernel_rfl
theorem cells202 : Try.prog.cellsOf 202 = 1 := by kernel_rfl
theorem cells203 : Try.prog.cellsOf 203 = 1 := by kernel_rfl
theorem cells204 : Try.prog.cellsOf 204 = 1 := by kernel_rfl
theorem cells205 : Try.prog.cellsOf 205 = 1 := by kernel_rfl
theorem cells206 : Try.prog.cellsOf 206 = 1 := by kernel_rfl
theorem cells207 : Try.prog.cellsOf 207 = 1 := by kernel_rfl
theorem cells208 : Try.prog.cellsOf 208 = 1 := by kernel_rfl
theorem cells209 : Try.prog.cellsOf 209 = 1 := by kernel_rfl
theorem cells210 : Try.prog.cellsOf 210 = 1 := by kernel_rfl
theorem cells211 : Try.prog.cellsOf 211 = 3 := by kernel_rfl
theorem cells212 : Try.prog.cellsOf 212 = 3 := by kernel_rfl
theorem cells213 : Try.prog.cellsOf 213 = 4 := by kernel_rfl
theorem cells214 : Try.prog.cellsOf 214 = 4 := by kernel_rfl
theorem cells215 : Try.prog.cellsOf 215 = 11 := by kernel_rfl
theorem cells216 : Try.prog.cellsOf 216 = 11 := by kernel_rfl
theorem cells217 : Try.prog.cellsOf 217 = 1 := by kernel_rfl
theorem cells218 : Try.prog.cellsOf 218 = 1 := by kernel_rfl
theorem cells219 : Try.prog.cellsOf 219 = 1 := by kernel_rfl
theorem cells220 : Try.prog.cellsOf 220 = 1 := by kernel_rfl
theorem cells221 : Try.prog.cellsOf 221 = 4 := by kernel_rfl
theorem cells222 : Try.prog.cellsOf 222 = 4 := by kernel_rfl
theorem cells223 : Try.prog.cellsOf 223 = 1 := by kernel_rfl
theorem cells224 : Try.prog.cellsOf 224 = 1 := by kernel_rfl
theorem cells225 : Try.prog.cellsOf 225 = 1 := by kernel_rfl
theorem cells226 : Try.prog.cellsOf 226 = 1 := by kernel_rfl
theorem cells227 : Try.prog.cellsOf 227 = 1 := by kernel_rfl
theorem cells228 : Try.prog.cellsOf 228 = 1 := by kernel_rfl
theorem cells229 : Try.prog.cellsOf 229 = 1 := by kernel_rfl
theorem cells230 : Try.prog.cellsOf 230 = 1 := by kernel_rfl
theorem cells231 : Try.prog.cellsOf 231 = 1 := by kernel_rfl
theorem cells232 : Try.prog.cellsOf 232 = 1 := by kernel_rfl
theorem cells233 : Try.prog.cellsOf 233 = 1 := by kernel_rfl
theorem cells234 : Try.prog.cellsOf 234 = 1 := by kernel_rfl
theorem cells235 : Try.prog.cellsOf 235 = 1 := by kernel_rfl
theorem cells236 : Try.prog.cellsOf 236 = 1 := by kernel_rfl
theorem cells237 : Try.prog.cellsOf 237 = 1 := by kernel_rfl
theorem cells238 : Try.prog.cellsOf 238 = 1 := by kernel_rfl
theorem cells239 : Try.prog.cellsOf 239 = 1 := by kernel_rfl
theorem cells240 : Try.prog.cellsOf 240 = 1 := by kernel_rfl
theorem cells241 : Try.prog.cellsOf 241 = 1 := by kernel_rfl
theorem cells242 : Try.prog.cellsOf 242 = 1 := by kernel_rfl
theorem cells243 : Try.prog.cellsOf 243 = 1 := by kernel_rfl
theorem cells244 : Try.prog.cellsOf 244 = 1 := by kernel_rfl
theorem cells245 : Try.prog.cellsOf 245 = 1 := by kernel_rfl
theorem cells246 : Try.prog.cellsOf 246 = 1 := by kernel_rfl
theorem cells247 : Try.prog.cellsOf 247 = 1 := by kernel_rfl
theorem cells248 : Try.prog.cellsOf 248 = 1 := by kernel_rfl
theorem cells249 : Try.prog.cellsOf 249 = 1 := by kernel_rfl
theorem cells250 : Try.prog.cellsOf 250 = 1 := by kernel_rfl
theorem cells251 : Try.prog.cellsOf 251 = 1 := by kernel_rfl
theorem cells252 : Try.prog.cellsOf 252 = 1 := by kernel_rfl
theorem cells253 : Try.prog.cellsOf 253 = 1 := by kernel_rfl
theorem cells254 : Try.prog.cellsOf 254 = 1 := by kernel_rfl
theorem cells255 : Try.prog.cellsOf 255 = 1 := by kernel_rfl
theorem cells256 : Try.prog.cellsOf 256 = 1 := by kernel_rfl
theorem cells257 : Try.prog.cellsOf 257 = 1 := by kernel_rfl
theorem cells258 : Try.prog.cellsOf 258 = 1 := by kernel_rfl
theorem cells259 : Try.prog.cellsOf 259 = 7 := by kernel_rfl
theorem cells260 : Try.prog.cellsOf 260 = 7 := by kernel_rfl
theorem cells261 : Try.prog.cellsOf 261 = 1 := by kernel_rfl
theorem cells262 : Try.prog.cellsOf 262 = 1 := by kernel_rfl
theorem cells263 : Try.prog.cellsOf 263 = 1 := by kernel_rfl
theorem cells264 : Try.prog.cellsOf 264 = 4 := by kernel_rfl
theorem cells265 : Try.prog.cellsOf 265 = 4 := by kernel_rfl
theorem cells266 : Try.prog.cellsOf 266 = 1 := by kernel_rfl
theorem cells267 : Try.prog.cellsOf 267 = 2 := by kernel_rfl
theorem cells268 : Try.prog.cellsOf 268 = 2 := by kernel_rfl
theorem cells269 : Try.prog.cellsOf 269 = 1 := by kernel_rfl
theorem cells270 : Try.prog.cellsOf 270 = 4 := by kernel_rfl
theorem cells271 : Try.prog.cellsOf 271 = 4 := by kernel_rfl
theorem cells272 : Try.prog.cellsOf 272 = 0 := by kernel_rfl
theorem cells273 : Try.prog.cellsOf 273 = 0 := by kernel_rfl
theorem cells274 : Try.prog.cellsOf 274 = 0 := by kernel_rfl
theorem cells275 : Try.prog.cellsOf 275 = 1 := by kernel_rfl
theorem cells276 : Try.prog.cellsOf 276 = 1 := by kernel_rfl
theorem cells277 : Try.prog.cellsOf 277 = 1 := by kernel_rfl
theorem cells278 : Try.prog.cellsOf 278 = 1 := by kernel_rfl
theorem cells279 : Try.prog.cellsOf 279 = 1 := by kernel_rfl
theorem cells280 : Try.prog.cellsOf 280 = 1 := by kernel_rfl
theorem cells281 : Try.prog.cellsOf 281 = 11 := by kernel_rfl
theorem cells282 : Try.prog.cellsOf 282 = 11 := by kernel_rfl
theorem cells283 : Try.prog.cellsOf 283 = 1 := by kernel_rfl
theorem cells284 : Try.prog.cellsOf 284 = 3 := by kernel_rfl
theorem cells285 : Try.prog.cellsOf 285 = 3 := by kernel_rfl
theorem cells286 : Try.prog.cellsOf 286 = 10 := by kernel_rfl
theorem cells287 : Try.prog.cellsOf 287 = 10 := by kernel_rfl
theorem cells288 : Try.prog.cellsOf 288 = 1 := by kernel_rfl
theorem zer0 : zer Try.prog 0 = some ((Go.Value.tuple #[])) := by kernel_rfl
theorem zer1 : zer Try.prog 1 = some (Go.Value.nilFunc) := by kernel_rfl
theorem zer2 : zer Try.prog 2 = some ((Go.Value.int Go.IntKind.i64 0)) := by kernel_rfl
theorem zer3 : zer Try.prog 3 = some ((Go.Value.int Go.IntKind.i64 0)) := by kernel_rfl
theorem zer4 : zer Try.prog 4 = some ((Go.Value.bool Bool.false)) := by kernel_rfl
theorem zer5 : zer Try.prog 5 = some ((Go.Value.int Go.IntKind.u8 0)) := by kernel_rfl
theorem zer6 : zer Try.prog 6 = some ((Go.Value.int Go.IntKind.u8 0)) := by kernel_rfl
theorem zer7 : zer Try.prog 7 = some ((Go.Value.agg #[Go.Value.int Go.IntKind.i64 0, Go.Value.int Go.IntKind.i64 0, Go.Value.bool Bool.false, Go.Value.int Go.IntKind.u8 0])) := by kernel_rfl
theorem zer8 : zer Try.prog 8 = some ((Go.Value.agg #[Go.Value.int Go.IntKind.i64 0, Go.Value.int Go.IntKind.i64 0, Go.Value.bool Bool.false, Go.Value.int Go.IntKind.u8 0])) := by kernel_rfl
theorem zer9 : zer Try.prog 9 = some ((Go.Value.string { data := #[] })) := by kernel_rfl
theorem zer10 : zer Try.prog 10 = some ((Go.Value.string { data := #[] })) := by kernel_rfl
theorem zer11 : zer Try.prog 11 = some ((Go.Value.string { data := #[] })) := by kernel_rfl
theorem zer12 : zer Try.prog 12 = some ((Go.Value.int Go.IntKind.u64 0)) := by kernel_rfl
theorem zer13 : zer Try.prog 13 = some ((Go.Value.agg #[Go.Value.string { data := #[] }, Go.Value.int Go.IntKind.u64 0])) := by kernel_rfl
theorem zer14 : zer Try.prog 14 = some ((Go.Value.agg #[Go.Value.string { data := #[] }, Go.Value.int Go.IntKind.u64 0])) := by kernel_rfl
theorem zer15 : zer Try.prog 15 = some ((Go.Value.pointer Option.none)) := by kernel_rfl
theorem zer16 : zer Try.prog 16 = some ((Go.Value.pointer Option.none)) := by kernel_rfl
theorem zer17 : zer Try.prog 17 = some ((Go.Value.pointer Option.none)) := by kernel_rfl
theorem zer18 : zer Try.prog 18 = some ((Go.Value.agg #[Go.Value.pointer Option.none])) := by kernel_rfl
theorem zer19 : zer Try.prog 19 = some ((Go.Value.agg #[Go.Value.pointer Option.none])) := by kernel_rfl
theorem zer20 : zer Try.prog 20 = some (Go.Value.nilIface) := by kernel_rfl
theorem zer21 : zer Try.prog 21 = some ((Go.Value.int Go.IntKind.i32 0)) := by kernel_rfl
theorem zer22 : zer Try.prog 22 = some ((Go.Value.slice Option.none 0 0)) := by kernel_rfl
theorem zer23 : zer Try.prog 23 = some (Go.Value.nilFunc) := by kernel_rfl
theorem zer24 : zer Try.prog 24 = some ((Go.Value.agg #[Go.Value.slice Option.none 0 0])) := by kernel_rfl
theorem zer25 : zer Try.prog 25 = some ((Go.Value.agg #[Go.Value.slice Option.none 0 0])) := by kernel_rfl
theorem zer26 : zer Try.prog 26 = some (Go.Value.nilFunc) := by kernel_rfl
theorem zer27 : zer Try.prog 27 = some ((Go.Value.pointer Option.none)) := by kernel_rfl
theorem zer28 : zer Try.prog 28 = some (Go.Value.nilFunc) := by kernel_rfl
theorem zer29 : zer Try.prog 29 = some (Go.Value.nilFunc) := by kernel_rfl
theorem zer30 : zer Try.prog 30 = some (Go.Value.nilFunc) := by kernel_rfl
theorem zer31 : zer Try.prog 31 = some (Go.Value.nilFunc) := by kernel_rfl
theorem zer32 : zer Try.prog 32 = some (Go.Value.nilFunc) := by kernel_rfl
theorem zer33 : zer Try.prog 33 = some ((Go.Value.agg #[Go.Value.int Go.IntKind.u8 0, Go.Value.int Go.IntKind.u8 0, Go.Value.int Go.IntKind.u8 0, Go.Value.int Go.IntKind.u8 0, Go.Value.int Go.IntKind.u8 0, Go.Value.int Go.IntKind.u8 0, Go.Value.int Go.IntKind.u8 0, Go.Value.int Go.IntKind.u8 0, Go.Value.int Go.IntKind.u8 0, Go.Value.int Go.IntKind.u8 0, Go.Value.int Go.IntKind.u8 0, Go.Value.int Go.IntKind.u8 0])) := by kernel_rfl
theorem zer34 : zer Try.prog 34 = some ((Go.Value.agg #[Go.Value.bool Bool.false, Go.Value.int Go.IntKind.i64 0])) := by kernel_rfl
theorem zer35 : zer Try.prog 35 = some ((Go.Value.agg #[Go.Value.bool Bool.false, Go.Value.int Go.IntKind.i64 0])) := by kernel_rfl
theorem zer36 : zer Try.prog 36 = some ((Go.Value.int Go.IntKind.i64 0)) := by kernel_rfl
theorem zer37 : zer Try.prog 37 = some ((Go.Value.tuple #[Go.Value.agg #[Go.Value.bool Bool.false, Go.Value.int Go.IntKind.i64 0], Go.Value.int Go.IntKind.i64 0])) := by kernel_rfl
theorem zer38 : zer Try.prog 38 = some (Go.Value.nilFunc) := by kernel_rfl
theorem zer39 : zer Try.prog 39 = some (Go.Value.nilFunc) := by kernel_rfl
theorem zer40 : zer Try.prog 40 = some ((Go.Value.slice Option.none 0 0)) := by kernel_rfl
theorem zer41 : zer Try.prog 41 = some (Go.Value.nilFunc) := by kernel_rfl
theorem zer42 : zer Try.prog 42 = some (Go.Value.nilFunc) := by kernel_rfl
theorem zer43 : zer Try.prog 43 = some ((Go.Value.int Go.IntKind.u64 0)) := by kernel_rfl
theorem zer44 : zer Try.prog 44 = some (Go.Value.nilFunc) := by kernel_rfl
theorem zer45 : zer Try.prog 45 = some (Go.Value.nilFunc) := by kernel_rfl
theorem zer46 : zer Try.prog 46 = some ((Go.Value.int Go.IntKind.u16 0)) := by kernel_rfl
theorem zer47 : zer Try.prog 47 = some (Go.Value.nilFunc) := by kernel_rfl
theorem zer48 : zer Try.prog 48 = some ((Go.Value.int Go.IntKind.u32 0)) := by kernel_rfl
theorem zer49 : zer Try.prog 49 = some (Go.Value.nilFunc) := by kernel_rfl
theorem zer50 : zer Try.prog 50 = some ((Go.Value.agg #[Go.Value.slice Option.none 0 0, Go.Value.bool Bool.false])) := by kernel_rfl
theorem zer51 : zer Try.prog 51 = some ((Go.Value.agg #[Go.Value.slice Option.none 0 0, Go.Value.bool Bool.false])) := by kernel_rfl
theorem zer52 : zer Try.prog 52 = some ((Go.Value.tuple #[Go.Value.int Go.IntKind.u64 0, Go.Value.agg #[Go.Value.slice Option.none 0 0, Go.Value.bool Bool.false]])) := by kernel_rfl
theorem zer53 : zer Try.prog 53 = some (Go.Value.nilFunc) := by kernel_rfl
theorem zer54 : zer Try.prog 54 = some (Go.Value.nilFunc) := by kernel_rfl
theorem zer55 : zer Try.prog 55 = some (Go.Value.nilFunc) := by kernel_rfl
theorem zer56 : zer Try.prog 56 = some ((Go.Value.tuple #[Go.Value.slice Option.none 0 0, Go.Value.agg #[Go.Value.slice Option.none 0 0, Go.Value.bool Bool.false]])) := by kernel_rfl
theorem zer57 : zer Try.prog 57 = some (Go.Value.nilFunc) := by kernel_rfl
theorem zer58 : zer Try.prog 58 = some (Go.Value.nilFunc) := by kernel_rfl
theorem zer59 : zer Try.prog 59 = some ((Go.Value.agg #[Go.Value.int Go.IntKind.u8 0, Go.Value.int Go.IntKind.u8 0, Go.Value.int Go.IntKind.u8 0, Go.Value.int Go.IntKind.u8 0, Go.Value.int Go.IntKind.u8 0, Go.Value.int Go.IntKind.u8 0, Go.Value.int Go.IntKind.u8 0])) := by kernel_rfl
theorem zer60 : zer Try.prog 60 = some ((Go.Value.agg #[Go.Value.bool Bool.false, Go.Value.int Go.IntKind.u8 0, Go.Value.int Go.IntKind.u8 0, Go.Value.int Go.IntKind.u8 0, Go.Value.int Go.IntKind.u8 0, Go.Value.int Go.IntKind.u8 0, Go.Value.int Go.IntKind.u8 0, Go.Value.int Go.IntKind.u8 0])) := by kernel_rfl
theorem zer61 : zer Try.prog 61 = some ((Go.Value.agg #[Go.Value.bool Bool.false, Go.Value.int Go.IntKind.u8 0, Go.Value.int Go.IntKind.u8 0, Go.Value.int Go.IntKind.u8 0, Go.Value.int Go.IntKind.u8 0, Go.Value.int Go.IntKind.u8 0, Go.Value.int Go.IntKind.u8 0, Go.Value.int Go.IntKind.u8 0])) := by kernel_rfl
theorem zer62 : zer Try.prog 62 = some (Go.Value.nilFunc) := by kernel_rfl
theorem zer63 : zer Try.prog 63 = some (Go.Value.nilFunc) := by kernel_rfl
theorem zer64 : zer Try.prog 64 = some ((Go.Value.pointer Option.none)) := by kernel_rfl
theorem zer65 : zer Try.prog 65 = some ((Go.Value.int Go.IntKind.i64 0)) := by kernel_rfl
theorem zer66 : zer Try.prog 66 = some ((Go.Value.tuple #[Go.Value.pointer Option.none, Go.Value.int Go.IntKind.i64 0])) := by kernel_rfl
theorem zer67 : zer Try.prog 67 = some (Go.Value.nilFunc) := by kernel_rfl
theorem zer68 : zer Try.prog 68 = some (Go.Value.nilFunc) := by kernel_rfl
theorem zer69 : zer Try.prog 69 = some (Go.Value.nilFunc) := by kernel_rfl
theorem zer70 : zer Try.prog 70 = some ((Go.Value.tuple #[Go.Value.int Go.IntKind.i64 0, Go.Value.bool Bool.false])) := by kernel_rfl
theorem zer71 : zer Try.prog 71 = some (Go.Value.nilFunc) := by kernel_rfl
theorem zer72 : zer Try.prog 72 = some (Go.Value.nilFunc) := by kernel_rfl
theorem zer73 : zer Try.prog 73 = some ((Go.Value.slice Option.none 0 0)) := by kernel_rfl
theorem zer74 : zer Try.prog 74 = some ((Go.Value.tuple #[Go.Value.slice Option.none 0 0, Go.Value.int Go.IntKind.i64 0])) := by kernel_rfl
theorem zer75 : zer Try.prog 75 = some (Go.Value.nilFunc) := by kernel_rfl
theorem zer76 : zer Try.prog 76 = some ((Go.Value.slice Option.none 0 0)) := by kernel_rfl
theorem zer77 : zer Try.prog 77 = some ((Go.Value.tuple #[Go.Value.slice Option.none 0 0, Go.Value.bool Bool.false])) := by kernel_rfl
theorem zer78 : zer Try.prog 78 = some (Go.Value.nilFunc) := by kernel_rfl
theorem zer79 : zer Try.prog 79 = some (Go.Value.nilFunc) := by kernel_rfl
theorem zer80 : zer Try.prog 80 = some (Go.Value.nilFunc) := by kernel_rfl
theorem zer81 : zer Try.prog 81 = some ((Go.Value.agg #[Go.Value.int Go.IntKind.u64 0, Go.Value.int Go.IntKind.u64 0])) := by kernel_rfl
theorem zer82 : zer Try.prog 82 = some ((Go.Value.agg #[Go.Value.int Go.IntKind.u8 0, Go.Value.int Go.IntKind.u8 0, Go.Value.int Go.IntKind.u8 0, Go.Value.int Go.IntKind.u8 0, Go.Value.int Go.IntKind.u8 0, Go.Value.int Go.IntKind.u8 0, Go.Value.int Go.IntKind.u8 0, Go.Value.int Go.IntKind.u8 0, Go.Value.int Go.IntKind.u8 0, Go.Value.int Go.IntKind.u8 0, Go.Value.int Go.IntKind.u8 0, Go.Value.int Go.IntKind.u8 0, Go.Value.int Go.IntKind.u8 0, Go.Value.int Go.IntKind.u8 0, Go.Value.int Go.IntKind.u8 0, Go.Value.int Go.IntKind.u8 0])) := by kernel_rfl
theorem zer83 : zer Try.prog 83 = some ((Go.Value.agg #[Go.Value.int Go.IntKind.i64 0, Go.Value.int Go.IntKind.i64 0, Go.Value.int Go.IntKind.i64 0, Go.Value.int Go.IntKind.i64 0, Go.Value.int Go.IntKind.i64 0, Go.Value.int Go.IntKind.i64 0, Go.Value.int Go.IntKind.i64 0, Go.Value.int Go.IntKind.i64 0, Go.Value.int Go.IntKind.i64 0, Go.Value.int Go.IntKind.i64 0, Go.Value.int Go.IntKind.i64 0, Go.Value.int Go.IntKind.i64 0, Go.Value.int Go.IntKind.i64 0, Go.Value.int Go.IntKind.i64 0, Go.Value.int Go.IntKind.i64 0, Go.Value.int Go.IntKind.i64 0, Go.Value.int Go.IntKind.i64 0, Go.Value.int Go.IntKind.i64 0, Go.Value.int Go.IntKind.i64 0, Go.Value.int Go.IntKind.i64 0])) := by kernel_rfl
theorem zer84 : zer Try.prog 84 = some ((Go.Value.agg #[Go.Value.int Go.IntKind.i64 0, Go.Value.int Go.IntKind.i64 0, Go.Value.int Go.IntKind.i64 0, Go.Value.int Go.IntKind.i64 0, Go.Value.int Go.IntKind.i64 0, Go.Value.int Go.IntKind.i64 0, Go.Value.int Go.IntKind.i64 0, Go.Value.int Go.IntKind.i64 0, Go.Value.int Go.IntKind.i64 0, Go.Value.int Go.IntKind.i64 0, Go.Value.int Go.IntKind.i64 0, Go.Value.int Go.IntKind.i64 0, Go.Value.int Go.IntKind.i64 0, Go.Value.int Go.IntKind.i64 0, Go.Value.int Go.IntKind.i64 0, Go.Value.int Go.IntKind.i64 0, Go.Value.int Go.IntKind.i64 0, Go.Value.int Go.IntKind.i64 0, Go.Value.int Go.IntKind.i64 0, Go.Value.int Go.IntKind.i64 0])) := by kernel_rfl
theorem zer85 : zer Try.prog 85 = some ((Go.Value.agg #[Go.Value.int Go.IntKind.u8 0, Go.Value.int Go.IntKind.i64 0, Go.Value.int Go.IntKind.u64 0, Go.Value.int Go.IntKind.u64 0, Go.Value.slice Option.none 0 0, Go.Value.int Go.IntKind.u8 0, Go.Value.int Go.IntKind.u8 0, Go.Value.int Go.IntKind.u8 0, Go.Value.int Go.IntKind.u8 0, Go.Value.int Go.IntKind.u8 0, Go.Value.int Go.IntKind.u8 0, Go.Value.int Go.IntKind.u8 0, Go.Value.int Go.IntKind.u8 0, Go.Value.int Go.IntKind.u8 0, Go.Value.int Go.IntKind.u8 0, Go.Value.int Go.IntKind.u8 0, Go.Value.int Go.IntKind.u8 0, Go.Value.int Go.IntKind.u8 0, Go.Value.int Go.IntKind.u8 0, Go.Value.int Go.IntKind.u8 0, Go.Value.int Go.IntKind.u8 0, Go.Value.bool Bool.false, Go.Value.int Go.IntKind.u8 0, Go.Value.int Go.IntKind.u8 0, Go.Value.int Go.IntKind.u8 0, Go.Value.int Go.IntKind.u8 0, Go.Value.int Go.IntKind.u8 0, Go.Value.int Go.IntKind.u8 0, Go.Value.int Go.IntKind.u8 0, Go.Value.int Go.IntKind.i64 0, Go.Value.int Go.IntKind.i64 0, Go.Value.int Go.IntKind.i64 0, Go.Value.int Go.IntKind.i64 0, Go.Value.int Go.IntKind.i64 0, Go.Value.int Go.IntKind.i64 0, Go.Value.int Go.IntKind.i64 0, Go.Value.int Go.IntKind.i64 0, Go.Value.int Go.IntKind.i64 0, Go.Value.int Go.IntKind.i64 0, Go.Value.int Go.IntKind.i64 0, Go.Value.int Go.IntKind.i64 0, Go.Value.int Go.IntKind.i64 0, Go.Value.int Go.IntKind.i64 0, Go.Value.int Go.IntKind.i64 0, Go.Value.int Go.IntKind.i64 0, Go.Value.int Go.IntKind.i64 0, Go.Value.int Go.IntKind.i64 0, Go.Value.int Go.IntKind.i64 0, Go.Value.int Go.IntKind.i64 0])) := by kernel_rfl
theorem zer86 : zer Try.prog 86 = some ((Go.Value.agg #[Go.Value.int Go.IntKind.u8 0, Go.Value.int Go.IntKind.i64 0, Go.Value.int Go.IntKind.u64 0, Go.Value.int Go.IntKind.u64 0, Go.Value.slice Option.none 0 0, Go.Value.int Go.IntKind.u8 0, Go.Value.int Go.IntKind.u8 0, Go.Value.int Go.IntKind.u8 0, Go.Value.int Go.IntKind.u8 0, Go.Value.int Go.IntKind.u8 0, Go.Value.int Go.IntKind.u8 0, Go.Value.int Go.IntKind.u8 0, Go.Value.int Go.IntKind.u8 0, Go.Value.int Go.IntKind.u8 0, Go.Value.int Go.IntKind.u8 0, Go.Value.int Go.IntKind.u8 0, Go.Value.int Go.IntKind.u8 0, Go.Value.int Go.IntKind.u8 0, Go.Value.int Go.IntKind.u8 0, Go.Value.int Go.IntKind.u8 0, Go.Value.int Go.IntKind.u8 0, Go.Value.bool Bool.false, Go.Value.int Go.IntKind.u8 0, Go.Value.int Go.IntKind.u8 0, Go.Value.int Go.IntKind.u8 0, Go.Value.int Go.IntKind.u8 0, Go.Value.int Go.IntKind.u8 0, Go.Value.int Go.IntKind.u8 0, Go.Value.int Go.IntKind.u8 0, Go.Value.int Go.IntKind.i64 0, Go.Value.int Go.IntKind.i64 0, Go.Value.int Go.IntKind.i64 0, Go.Value.int Go.IntKind.i64 0, Go.Value.int Go.IntKind.i64 0, Go.Value.int Go.IntKind.i64 0, Go.Value.int Go.IntKind.i64 0, Go.Value.int Go.IntKind.i64 0, Go.Value.int Go.IntKind.i64 0, Go.Value.int Go.IntKind.i64 0, Go.Value.int Go.IntKind.i64 0, Go.Value.int Go.IntKind.i64 0, Go.Value.int Go.IntKind.i64 0, Go.Value.int Go.IntKind.i64 0, Go.Value.int Go.IntKind.i64 0, Go.Value.int Go.IntKind.i64 0, Go.Value.int Go.IntKind.i64 0, Go.Value.int Go.IntKind.i64 0, Go.Value.int Go.IntKind.i64 0, Go.Value.int Go.IntKind.i64 0])) := by kernel_rfl
theorem zer87 : zer Try.prog 87 = some ((Go.Value.tuple #[Go.Value.slice Option.none 0 0, Go.Value.int Go.IntKind.i64 0])) := by kernel_rfl
theorem zer88 : zer Try.prog 88 = some (Go.Value.nilFunc) := by kernel_rfl
theorem zer89 : zer Try.prog 89 = some ((Go.Value.tuple #[Go.Value.slice Option.none 0 0, Go.Value.bool Bool.false])) := by kernel_rfl
theorem zer90 : zer Try.prog 90 = some (Go.Value.nilFunc) := by kernel_rfl
theorem zer91 : zer Try.prog 91 = some (Go.Value.nilFunc) := by kernel_rfl
theorem zer92 : zer Try.prog 92 = some ((Go.Value.slice Option.none 0 0)) := by kernel_rfl
theorem zer93 : zer Try.prog 93 = some ((Go.Value.slice Option.none 0 0)) := by kernel_rfl
theorem zer94 : zer Try.prog 94 = some (Go.Value.nilFunc) := by kernel_rfl
theorem zer95 : zer Try.prog 95 = some ((Go.Value.slice Option.none 0 0)) := by kernel_rfl
theorem zer96 : zer Try.prog 96 = some ((Go.Value.agg #[Go.Value.int Go.IntKind.u8 0, Go.Value.bool Bool.false, Go.Value.int Go.IntKind.u8 0, Go.Value.int Go.IntKind.u8 0, Go.Value.int Go.IntKind.u8 0, Go.Value.int Go.IntKind.u8 0, Go.Value.int Go.IntKind.u8 0, Go.Value.int Go.IntKind.u8 0, Go.Value.int Go.IntKind.u8 0, Go.Value.int Go.IntKind.i64 0])) := by kernel_rfl
theorem zer97 : zer Try.prog 97 = some ((Go.Value.agg #[Go.Value.int Go.IntKind.u8 0, Go.Value.bool Bool.false, Go.Value.int Go.IntKind.u8 0, Go.Value.int Go.IntKind.u8 0, Go.Value.int Go.IntKind.u8 0, Go.Value.int Go.IntKind.u8 0, Go.Value.int Go.IntKind.u8 0, Go.Value.int Go.IntKind.u8 0, Go.Value.int Go.IntKind.u8 0, Go.Value.int Go.IntKind.i64 0])) := by kernel_rfl
theorem zer98 : zer Try.prog 98 = some (Go.Value.nilFunc) := by kernel_rfl
theorem zer99 : zer Try.prog 99 = some ((Go.Value.agg #[Go.Value.bool Bool.false, Go.Value.int Go.IntKind.u8 0, Go.Value.int Go.IntKind.u8 0, Go.Value.int Go.IntKind.u8 0, Go.Value.int Go.IntKind.u8 0, Go.Value.int Go.IntKind.u8 0, Go.Value.int Go.IntKind.u8 0, Go.Value.int Go.IntKind.u8 0, Go.Value.int Go.IntKind.i64 0])) := by kernel_rfl
theorem zer100 : zer Try.prog 100 = some ((Go.Value.agg #[Go.Value.bool Bool.false, Go.Value.int Go.IntKind.u8 0, Go.Value.int Go.IntKind.u8 0, Go.Value.int Go.IntKind.u8 0, Go.Value.int Go.IntKind.u8 0, Go.Value.int Go.IntKind.u8 0, Go.Value.int Go.IntKind.u8 0, Go.Value.int Go.IntKind.u8 0, Go.Value.int Go.IntKind.i64 0])) := by kernel_rfl
theorem zer101 : zer Try.prog 101 = some ((Go.Value.tuple #[Go.Value.slice Option.none 0 0, Go.Value.bool Bool.false])) := by kernel_rfl
theorem zer102 : zer Try.prog 102 = some (Go.Value.nilFunc) := by kernel_rfl
theorem zer103 : zer Try.prog 103 = some (Go.Value.nilFunc) := by kernel_rfl
theorem zer104 : zer Try.prog 104 = some (Go.Value.nilFunc) := by kernel_rfl
theorem zer105 : zer Try.prog 105 = some (Go.Value.nilFunc) := by kernel_rfl
theorem zer106 : zer Try.prog 106 = some (Go.Value.nilFunc) := by kernel_rfl
theorem zer107 : zer Try.prog 107 = some ((Go.Value.pointer Option.none)) := by kernel_rfl
theorem zer108 : zer Try.prog 108 = some ((Go.Value.tuple #[Go.Value.pointer Option.none, Go.Value.int Go.IntKind.i64 0])) := by kernel_rfl
theorem zer109 : zer Try.prog 109 = some (Go.Value.nilFunc) := by kernel_rfl
theorem zer110 : zer Try.prog 110 = some (Go.Value.nilFunc) := by kernel_rfl
theorem zer111 : zer Try.prog 111 = some ((Go.Value.tuple #[Go.Value.string { data := #[] }, Go.Value.bool Bool.false])) := by kernel_rfl
theorem zer112 : zer Try.prog 112 = some (Go.Value.nilFunc) := by kernel_rfl
theorem zer113 : zer Try.prog 113 = some (Go.Value.nilFunc) := by kernel_rfl
theorem zer114 : zer Try.prog 114 = some ((Go.Value.pointer Option.none)) := by kernel_rfl
theorem zer115 : zer Try.prog 115 = some ((Go.Value.tuple #[Go.Value.pointer Option.none, Go.Value.int Go.IntKind.i64 0])) := by kernel_rfl
theorem zer116 : zer Try.prog 116 = some (Go.Value.nilFunc) := by kernel_rfl
theorem zer117 : zer Try.prog 117 = some (Go.Value.nilFunc) := by kernel_rfl
theorem zer118 : zer Try.prog 118 = some (Go.Value.nilFunc) := by kernel_rfl
theorem zer119 : zer Try.prog 119 = some (Go.Value.nilFunc) := by kernel_rfl
theorem zer120 : zer Try.prog 120 = some ((Go.Value.slice Option.none 0 0)) := by kernel_rfl
theorem zer121 : zer Try.prog 121 = some ((Go.Value.slice Option.none 0 0)) := by kernel_rfl
theorem zer122 : zer Try.prog 122 = some ((Go.Value.agg #[Go.Value.int Go.IntKind.u8 0, Go.Value.bool Bool.false, Go.Value.int Go.IntKind.u8 0, Go.Value.int Go.IntKind.u8 0, Go.Value.int Go.IntKind.u8 0, Go.Value.int Go.IntKind.u8 0, Go.Value.int Go.IntKind.u8 0, Go.Value.int Go.IntKind.u8 0, Go.Value.int Go.IntKind.u8 0, Go.Value.int Go.IntKind.i64 0, Go.Value.int Go.IntKind.i64 0])) := by kernel_rfl
theorem zer123 : zer Try.prog 123 = some ((Go.Value.agg #[Go.Value.int Go.IntKind.u8 0, Go.Value.bool Bool.false, Go.Value.int Go.IntKind.u8 0, Go.Value.int Go.IntKind.u8 0, Go.Value.int Go.IntKind.u8 0, Go.Value.int Go.IntKind.u8 0, Go.Value.int Go.IntKind.u8 0, Go.Value.int Go.IntKind.u8 0, Go.Value.int Go.IntKind.u8 0, Go.Value.int Go.IntKind.i64 0, Go.Value.int Go.IntKind.i64 0])) := by kernel_rfl
theorem zer124 : zer Try.prog 124 = some (Go.Value.nilFunc) := by kernel_rfl
theorem zer125 : zer Try.prog 125 = some (Go.Value.nilFunc) := by kernel_rfl
theorem zer126 : zer Try.prog 126 = some (Go.Value.nilFunc) := by kernel_rfl
theorem zer127 : zer Try.prog 127 = some ((Go.Value.slice Option.none 0 0)) := by kernel_rfl
theorem zer128 : zer Try.prog 128 = some ((Go.Value.agg #[Go.Value.slice Option.none 0 0, Go.Value.int Go.IntKind.i64 0, Go.Value.int Go.IntKind.i64 0, Go.Value.int Go.IntKind.i64 0, Go.Value.int Go.IntKind.i64 0])) := by kernel_rfl
theorem zer129 : zer Try.prog 129 = some ((Go.Value.agg #[Go.Value.slice Option.none 0 0, Go.Value.int Go.IntKind.i64 0, Go.Value.int Go.IntKind.i64 0, Go.Value.int Go.IntKind.i64 0, Go.Value.int Go.IntKind.i64 0])) := by kernel_rfl
theorem zer130 : zer Try.prog 130 = some ((Go.Value.tuple #[Go.Value.agg #[Go.Value.slice Option.none 0 0, Go.Value.int Go.IntKind.i64 0, Go.Value.int Go.IntKind.i64 0, Go.Value.int Go.IntKind.i64 0, Go.Value.int Go.IntKind.i64 0], Go.Value.int Go.IntKind.i64 0])) := by kernel_rfl
theorem zer131 : zer Try.prog 131 = some (Go.Value.nilFunc) := by kernel_rfl
theorem zer132 : zer Try.prog 132 = some (Go.Value.nilFunc) := by kernel_rfl
theorem zer133 : zer Try.prog 133 = some (Go.Value.nilFunc) := by kernel_rfl
theorem zer134 : zer Try.prog 134 = some ((Go.Value.tuple #[Go.Value.agg #[Go.Value.slice Option.none 0 0, Go.Value.int Go.IntKind.i64 0, Go.Value.int Go.IntKind.i64 0, Go.Value.int Go.IntKind.i64 0, Go.Value.int Go.IntKind.i64 0], Go.Value.bool Bool.false])) := by kernel_rfl
theorem zer135 : zer Try.prog 135 = some (Go.Value.nilFunc) := by kernel_rfl
theorem zer136 : zer Try.prog 136 = some (Go.Value.nilFunc) := by kernel_rfl
theorem zer137 : zer Try.prog 137 = some (Go.Value.nilFunc) := by kernel_rfl
theorem zer138 : zer Try.prog 138 = some (Go.Value.nilFunc) := by kernel_rfl
theorem zer139 : zer Try.prog 139 = some ((Go.Value.pointer Option.none)) := by kernel_rfl
theorem zer140 : zer Try.prog 140 = some (Go.Value.nilFunc) := by kernel_rfl
theorem zer141 : zer Try.prog 141 = some ((Go.Value.agg #[Go.Value.slice Option.none 0 0, Go.Value.bool Bool.false])) := by kernel_rfl
theorem zer142 : zer Try.prog 142 = some ((Go.Value.agg #[Go.Value.slice Option.none 0 0, Go.Value.bool Bool.false])) := by kernel_rfl
theorem zer143 : zer Try.prog 143 = some (Go.Value.nilFunc) := by kernel_rfl
theorem zer144 : zer Try.prog 144 = some ((Go.Value.int Go.IntKind.u64 0)) := by kernel_rfl
theorem zer145 : zer Try.prog 145 = some (Go.Value.nilFunc) := by kernel_rfl
theorem zer146 : zer Try.prog 146 = some (Go.Value.nilFunc) := by kernel_rfl
theorem zer147 : zer Try.prog 147 = some (Go.Value.nilFunc) := by kernel_rfl
theorem zer148 : zer Try.prog 148 = some (Go.Value.nilFunc) := by kernel_rfl
theorem zer149 : zer Try.prog 149 = some (Go.Value.nilFunc) := by kernel_rfl
theorem zer150 : zer Try.prog 150 = some ((Go.Value.slice Option.none 0 0)) := by kernel_rfl
theorem zer151 : zer Try.prog 151 = some ((Go.Value.agg #[Go.Value.slice Option.none 0 0, Go.Value.int Go.IntKind.i64 0, Go.Value.int Go.IntKind.i64 0])) := by kernel_rfl
theorem zer152 : zer Try.prog 152 = some ((Go.Value.agg #[Go.Value.slice Option.none 0 0, Go.Value.int Go.IntKind.i64 0, Go.Value.int Go.IntKind.i64 0])) := by kernel_rfl
theorem zer153 : zer Try.prog 153 = some ((Go.Value.tuple #[Go.Value.int Go.IntKind.i64 0, Go.Value.int Go.IntKind.i64 0])) := by kernel_rfl
theorem zer154 : zer Try.prog 154 = some (Go.Value.nilFunc) := by kernel_rfl
theorem zer155 : zer Try.prog 155 = some ((Go.Value.agg #[Go.Value.int Go.IntKind.i64 0, Go.Value.bool Bool.false, Go.Value.int Go.IntKind.u8 0, Go.Value.int Go.IntKind.u8 0, Go.Value.int Go.IntKind.u8 0, Go.Value.int Go.IntKind.u8 0, Go.Value.int Go.IntKind.u8 0, Go.Value.int Go.IntKind.u8 0, Go.Value.int Go.IntKind.u8 0, Go.Value.int Go.IntKind.i64 0])) := by kernel_rfl
theorem zer156 : zer Try.prog 156 = some ((Go.Value.agg #[Go.Value.int Go.IntKind.i64 0, Go.Value.bool Bool.false, Go.Value.int Go.IntKind.u8 0, Go.Value.int Go.IntKind.u8 0, Go.Value.int Go.IntKind.u8 0, Go.Value.int Go.IntKind.u8 0, Go.Value.int Go.IntKind.u8 0, Go.Value.int Go.IntKind.u8 0, Go.Value.int Go.IntKind.u8 0, Go.Value.int Go.IntKind.i64 0])) := by kernel_rfl
theorem zer157 : zer Try.prog 157 = some ((Go.Value.agg #[Go.Value.int Go.IntKind.i64 0, Go.Value.int Go.IntKind.i64 0, Go.Value.int Go.IntKind.i64 0, Go.Value.int Go.IntKind.i64 0, Go.Value.int Go.IntKind.i64 0, Go.Value.int Go.IntKind.i64 0, Go.Value.int Go.IntKind.i64 0, Go.Value.int Go.IntKind.i64 0, Go.Value.int Go.IntKind.i64 0, Go.Value.int Go.IntKind.i64 0, Go.Value.int Go.IntKind.i64 0, Go.Value.int Go.IntKind.i64 0, Go.Value.int Go.IntKind.i64 0, Go.Value.int Go.IntKind.i64 0, Go.Value.int Go.IntKind.i64 0, Go.Value.int Go.IntKind.i64 0, Go.Value.int Go.IntKind.i64 0, Go.Value.int Go.IntKind.i64 0, Go.Value.int Go.IntKind.i64 0, Go.Value.int Go.IntKind.i64 0])) := by kernel_rfl
theorem zer158 : zer Try.prog 158 = some ((Go.Value.agg #[Go.Value.int Go.IntKind.u8 0, Go.Value.int Go.IntKind.i64 0, Go.Value.int Go.IntKind.u64 0, Go.Value.int Go.IntKind.u64 0, Go.Value.slice Option.none 0 0, Go.Value.int Go.IntKind.u8 0, Go.Value.int Go.IntKind.u8 0, Go.Value.int Go.IntKind.u8 0, Go.Value.int Go.IntKind.u8 0, Go.Value.int Go.IntKind.u8 0, Go.Value.int Go.IntKind.u8 0, Go.Value.int Go.IntKind.u8 0, Go.Value.int Go.IntKind.u8 0, Go.Value.int Go.IntKind.u8 0, Go.Value.int Go.IntKind.u8 0, Go.Value.int Go.IntKind.u8 0, Go.Value.int Go.IntKind.u8 0, Go.Value.int Go.IntKind.u8 0, Go.Value.int Go.IntKind.u8 0, Go.Value.int Go.IntKind.u8 0, Go.Value.int Go.IntKind.u8 0, Go.Value.bool Bool.false, Go.Value.int Go.IntKind.u8 0, Go.Value.int Go.IntKind.u8 0, Go.Value.int Go.IntKind.u8 0, Go.Value.int Go.IntKind.u8 0, Go.Value.int Go.IntKind.u8 0, Go.Value.int Go.IntKind.u8 0, Go.Value.int Go.IntKind.u8 0, Go.Value.int Go.IntKind.i64 0, Go.Value.int Go.IntKind.i64 0, Go.Value.int Go.IntKind.i64 0, Go.Value.int Go.IntKind.i64 0, Go.Value.int Go.IntKind.i64 0, Go.Value.int Go.IntKind.i64 0, Go.Value.int Go.IntKind.i64 0, Go.Value.int Go.IntKind.i64 0, Go.Value.int Go.IntKind.i64 0, Go.Value.int Go.IntKind.i64 0, Go.Value.int Go.IntKind.i64 0, Go.Value.int Go.IntKind.i64 0, Go.Value.int Go.IntKind.i64 0, Go.Value.int Go.IntKind.i64 0, Go.Value.int Go.IntKind.i64 0, Go.Value.int Go.IntKind.i64 0, Go.Value.int Go.IntKind.i64 0, Go.Value.int Go.IntKind.i64 0, Go.Value.int Go.IntKind.i64 0, Go.Value.int Go.IntKind.i64 0])) := by kernel_rfl
theorem zer159 : zer Try.prog 159 = some ((Go.Value.agg #[Go.Value.int Go.IntKind.u8 0, Go.Value.int Go.IntKind.i64 0, Go.Value.int Go.IntKind.u64 0, Go.Value.int Go.IntKind.u64 0, Go.Value.slice Option.none 0 0, Go.Value.int Go.IntKind.u8 0, Go.Value.int Go.IntKind.u8 0, Go.Value.int Go.IntKind.u8 0, Go.Value.int Go.IntKind.u8 0, Go.Value.int Go.IntKind.u8 0, Go.Value.int Go.IntKind.u8 0, Go.Value.int Go.IntKind.u8 0, Go.Value.int Go.IntKind.u8 0, Go.Value.int Go.IntKind.u8 0, Go.Value.int Go.IntKind.u8 0, Go.Value.int Go.IntKind.u8 0, Go.Value.int Go.IntKind.u8 0, Go.Value.int Go.IntKind.u8 0, Go.Value.int Go.IntKind.u8 0, Go.Value.int Go.IntKind.u8 0, Go.Value.int Go.IntKind.u8 0, Go.Value.bool Bool.false, Go.Value.int Go.IntKind.u8 0, Go.Value.int Go.IntKind.u8 0, Go.Value.int Go.IntKind.u8 0, Go.Value.int Go.IntKind.u8 0, Go.Value.int Go.IntKind.u8 0, Go.Value.int Go.IntKind.u8 0, Go.Value.int Go.IntKind.u8 0, Go.Value.int Go.IntKind.i64 0, Go.Value.int Go.IntKind.i64 0, Go.Value.int Go.IntKind.i64 0, Go.Value.int Go.IntKind.i64 0, Go.Value.int Go.IntKind.i64 0, Go.Value.int Go.IntKind.i64 0, Go.Value.int Go.IntKind.i64 0, Go.Value.int Go.IntKind.i64 0, Go.Value.int Go.IntKind.i64 0, Go.Value.int Go.IntKind.i64 0, Go.Value.int Go.IntKind.i64 0, Go.Value.int Go.IntKind.i64 0, Go.Value.int Go.IntKind.i64 0, Go.Value.int Go.IntKind.i64 0, Go.Value.int Go.IntKind.i64 0, Go.Value.int Go.IntKind.i64 0, Go.Value.int Go.IntKind.i64 0, Go.Value.int Go.IntKind.i64 0, Go.Value.int Go.IntKind.i64 0, Go.Value.int Go.IntKind.i64 0])) := by kernel_rfl
theorem zer160 : zer Try.prog 160 = some (Go.Value.nilFunc) := by kernel_rfl
theorem zer161 : zer Try.prog 161 = some ((Go.Value.tuple #[Go.Value.agg #[Go.Value.int Go.IntKind.u8 0, Go.Value.int Go.IntKind.i64 0, Go.Value.int Go.IntKind.u64 0, Go.Value.int Go.IntKind.u64 0, Go.Value.slice Option.none 0 0, Go.Value.int Go.IntKind.u8 0, Go.Value.int Go.IntKind.u8 0, Go.Value.int Go.IntKind.u8 0, Go.Value.int Go.IntKind.u8 0, Go.Value.int Go.IntKind.u8 0, Go.Value.int Go.IntKind.u8 0, Go.Value.int Go.IntKind.u8 0, Go.Value.int Go.IntKind.u8 0, Go.Value.int Go.IntKind.u8 0, Go.Value.int Go.IntKind.u8 0, Go.Value.int Go.IntKind.u8 0, Go.Value.int Go.IntKind.u8 0, Go.Value.int Go.IntKind.u8 0, Go.Value.int Go.IntKind.u8 0, Go.Value.int Go.IntKind.u8 0, Go.Value.int Go.IntKind.u8 0, Go.Value.bool Bool.false, Go.Value.int Go.IntKind.u8 0, Go.Value.int Go.IntKind.u8 0, Go.Value.int Go.IntKind.u8 0, Go.Value.int Go.IntKind.u8 0, Go.Value.int Go.IntKind.u8 0, Go.Value.int Go.IntKind.u8 0, Go.Value.int Go.IntKind.u8 0, Go.Value.int Go.IntKind.i64 0, Go.Value.int Go.IntKind.i64 0, Go.Value.int Go.IntKind.i64 0, Go.Value.int Go.IntKind.i64 0, Go.Value.int Go.IntKind.i64 0, Go.Value.int Go.IntKind.i64 0, Go.Value.int Go.IntKind.i64 0, Go.Value.int Go.IntKind.i64 0, Go.Value.int Go.IntKind.i64 0, Go.Value.int Go.IntKind.i64 0, Go.Value.int Go.IntKind.i64 0, Go.Value.int Go.IntKind.i64 0, Go.Value.int Go.IntKind.i64 0, Go.Value.int Go.IntKind.i64 0, Go.Value.int Go.IntKind.i64 0, Go.Value.int Go.IntKind.i64 0, Go.Value.int Go.IntKind.i64 0, Go.Value.int Go.IntKind.i64 0, Go.Value.int Go.IntKind.i64 0, Go.Value.int Go.IntKind.i64 0], Go.Value.int Go.IntKind.i64 0])) := by kernel_rfl
theorem zer162 : zer Try.prog 162 = some (Go.Value.nilFunc) := by kernel_rfl
theorem zer163 : zer Try.prog 163 = some (Go.Value.nilFunc) := by kernel_rfl
theorem zer164 : zer Try.prog 164 = some (Go.Value.nilFunc) := by kernel_rfl
theorem zer165 : zer Try.prog 165 = some (Go.Value.nilFunc) := by kernel_rfl
theorem zer166 : zer Try.prog 166 = some (Go.Value.nilFunc) := by kernel_rfl
theorem zer167 : zer Try.prog 167 = some (Go.Value.nilFunc) := by kernel_rfl
theorem zer168 : zer Try.prog 168 = some ((Go.Value.slice Option.none 0 0)) := by kernel_rfl
theorem zer169 : zer Try.prog 169 = some ((Go.Value.agg #[Go.Value.slice Option.none 0 0, Go.Value.int Go.IntKind.i64 0, Go.Value.int Go.IntKind.i64 0])) := by kernel_rfl
theorem zer170 : zer Try.prog 170 = some ((Go.Value.agg #[Go.Value.slice Option.none 0 0, Go.Value.int Go.IntKind.i64 0, Go.Value.int Go.IntKind.i64 0])) := by kernel_rfl
theorem zer171 : zer Try.prog 171 = some ((Go.Value.agg #[Go.Value.int Go.IntKind.i64 0, Go.Value.bool Bool.false, Go.Value.int Go.IntKind.u8 0, Go.Value.int Go.IntKind.u8 0, Go.Value.int Go.IntKind.u8 0, Go.Value.int Go.IntKind.u8 0, Go.Value.int Go.IntKind.u8 0, Go.Value.int Go.IntKind.u8 0, Go.Value.int Go.IntKind.u8 0, Go.Value.string { data := #[] }])) := by kernel_rfl
theorem zer172 : zer Try.prog 172 = some ((Go.Value.agg #[Go.Value.int Go.IntKind.i64 0, Go.Value.bool Bool.false, Go.Value.int Go.IntKind.u8 0, Go.Value.int Go.IntKind.u8 0, Go.Value.int Go.IntKind.u8 0, Go.Value.int Go.IntKind.u8 0, Go.Value.int Go.IntKind.u8 0, Go.Value.int Go.IntKind.u8 0, Go.Value.int Go.IntKind.u8 0, Go.Value.string { data := #[] }])) := by kernel_rfl
theorem zer173 : zer Try.prog 173 = some ((Go.Value.pointer Option.none)) := by kernel_rfl
theorem zer174 : zer Try.prog 174 = some ((Go.Value.tuple #[Go.Value.pointer Option.none, Go.Value.int Go.IntKind.i64 0])) := by kernel_rfl
theorem zer175 : zer Try.prog 175 = some (Go.Value.nilFunc) := by kernel_rfl
theorem zer176 : zer Try.prog 176 = some ((Go.Value.pointer Option.none)) := by kernel_rfl
theorem zer177 : zer Try.prog 177 = some ((Go.Value.agg #[Go.Value.int Go.IntKind.i64 0, Go.Value.pointer Option.none])) := by kernel_rfl
theorem zer178 : zer Try.prog 178 = some ((Go.Value.agg #[Go.Value.int Go.IntKind.i64 0, Go.Value.pointer Option.none])) := by kernel_rfl
theorem zer179 : zer Try.prog 179 = some ((Go.Value.tuple #[Go.Value.pointer Option.none, Go.Value.int Go.IntKind.i64 0])) := by kernel_rfl
theorem zer180 : zer Try.prog 180 = some (Go.Value.nilFunc) := by kernel_rfl
theorem zer181 : zer Try.prog 181 = some ((Go.Value.agg #[Go.Value.pointer Option.none, Go.Value.int Go.IntKind.i64 0, Go.Value.int Go.IntKind.i64 0, Go.Value.int Go.IntKind.i64 0])) := by kernel_rfl
theorem zer182 : zer Try.prog 182 = some ((Go.Value.agg #[Go.Value.pointer Option.none, Go.Value.int Go.IntKind.i64 0, Go.Value.int Go.IntKind.i64 0, Go.Value.int Go.IntKind.i64 0])) := by kernel_rfl
theorem zer183 : zer Try.prog 183 = some (Go.Value.nilFunc) := by kernel_rfl
theorem zer184 : zer Try.prog 184 = some ((Go.Value.tuple #[Go.Value.agg #[Go.Value.int Go.IntKind.i64 0, Go.Value.pointer Option.none], Go.Value.bool Bool.false])) := by kernel_rfl
theorem zer185 : zer Try.prog 185 = some (Go.Value.nilFunc) := by kernel_rfl
theorem zer186 : zer Try.prog 186 = some (Go.Value.nilFunc) := by kernel_rfl
theorem zer187 : zer Try.prog 187 = some (Go.Value.nilFunc) := by kernel_rfl
theorem zer188 : zer Try.prog 188 = some (Go.Value.nilFunc) := by kernel_rfl
theorem zer189 : zer Try.prog 189 = some ((Go.Value.agg #[Go.Value.int Go.IntKind.i64 0, Go.Value.int Go.IntKind.i64 0, Go.Value.int Go.IntKind.i64 0, Go.Value.int Go.IntKind.i64 0])) := by kernel_rfl
theorem zer190 : zer Try.prog 190 = some ((Go.Value.agg #[Go.Value.int Go.IntKind.i64 0, Go.Value.int Go.IntKind.i64 0, Go.Value.int Go.IntKind.i64 0, Go.Value.int Go.IntKind.i64 0])) := by kernel_rfl
theorem zer191 : zer Try.prog 191 = some (Go.Value.nilFunc) := by kernel_rfl
theorem zer192 : zer Try.prog 192 = some (Go.Value.nilFunc) := by kernel_rfl
theorem zer193 : zer Try.prog 193 = some (Go.Value.nilFunc) := by kernel_rfl
theorem zer194 : zer Try.prog 194 = some ((Go.Value.agg #[Go.Value.bool Bool.false, Go.Value.int Go.IntKind.u8 0, Go.Value.int Go.IntKind.u8 0, Go.Value.int Go.IntKind.u8 0, Go.Value.int Go.IntKind.u8 0, Go.Value.int Go.IntKind.u8 0, Go.Value.int Go.IntKind.u8 0, Go.Value.int Go.IntKind.u8 0, Go.Value.int Go.IntKind.i64 0, Go.Value.int Go.IntKind.i64 0, Go.Value.int Go.IntKind.i64 0, Go.Value.int Go.IntKind.i64 0, Go.Value.int Go.IntKind.i64 0])) := by kernel_rfl
theorem zer195 : zer Try.prog 195 = some ((Go.Value.agg #[Go.Value.bool Bool.false, Go.Value.int Go.IntKind.u8 0, Go.Value.int Go.IntKind.u8 0, Go.Value.int Go.IntKind.u8 0, Go.Value.int Go.IntKind.u8 0, Go.Value.int Go.IntKind.u8 0, Go.Value.int Go.IntKind.u8 0, Go.Value.int Go.IntKind.u8 0, Go.Value.int Go.IntKind.i64 0, Go.Value.int Go.IntKind.i64 0, Go.Value.int Go.IntKind.i64 0, Go.Value.int Go.IntKind.i64 0, Go.Value.int Go.IntKind.i64 0])) := by kernel_rfl
theorem zer196 : zer Try.prog 196 = some ((Go.Value.tuple #[Go.Value.agg #[Go.Value.int Go.IntKind.i64 0, Go.Value.int Go.IntKind.i64 0, Go.Value.int Go.IntKind.i64 0, Go.Value.int Go.IntKind.i64 0], Go.Value.bool Bool.false])) := by kernel_rfl
theorem zer197 : zer Try.prog 197 = some (Go.Value.nilFunc) := by kernel_rfl
theorem zer198 : zer Try.prog 198 = some (Go.Value.nilFunc) := by kernel_rfl
theorem zer199 : zer Try.prog 199 = some (Go.Value.nilFunc) := by kernel_rfl
theorem zer200 : zer Try.prog 200 = some ((Go.Value.tuple #[Go.Value.agg #[Go.Value.int Go.IntKind.i64 0, Go.Value.int Go.IntKind.i64 0, Go.Value.int Go.IntKind.i64 0, Go.Value.int Go.IntKind.i64 0, Go.Value.int Go.IntKind.i64 0, Go.Value.int Go.IntKind.i64 0, Go.Value.int Go.IntKind.i64 0, Go.Value.int Go.IntKind.i64 0, Go.Value.int Go.IntKind.i64 0, Go.Value.int Go.IntKind.i64 0, Go.Value.int Go.IntKind.i64 0, Go.Value.int Go.IntKind.i64 0, Go.Value.int Go.IntKind.i64 0, Go.Value.int Go.IntKind.i64 0, Go.Value.int Go.IntKind.i64 0, Go.Value.int Go.IntKind.i64 0, Go.Value.int Go.IntKind.i64 0, Go.Value.int Go.IntKind.i64 0, Go.Value.int Go.IntKind.i64 0, Go.Value.int Go.IntKind.i64 0], Go.Value.int Go.IntKind.i64 0])) := by kernel_rfl
theorem zer201 : zer Try.prog 201 = some (Go.Value.nilFunc) := by kernel_rfl
theorem zer202 : zer Try.prog 202 = some ((Go.Value.tuple #[Go.Value.agg #[Go.Value.int Go.IntKind.i64 0, Go.Value.int Go.IntKind.i64 0, Go.Value.int Go.IntKind.i64 0, Go.Value.int Go.IntKind.i64 0, Go.Value.int Go.IntKind.i64 0, Go.Value.int Go.IntKind.i64 0, Go.Value.int Go.IntKind.i64 0, Go.Value.int Go.IntKind.i64 0, Go.Value.int Go.IntKind.i64 0, Go.Value.int Go.IntKind.i64 0, Go.Value.int Go.IntKind.i64 0, Go.Value.int Go.IntKind.i64 0, Go.Value.int Go.IntKind.i64 0, Go.Value.int Go.IntKind.i64 0, Go.Value.int Go.IntKind.i64 0, Go.Value.int Go.IntKind.i64 0, Go.Value.int Go.IntKind.i64 0, Go.Value.int Go.IntKind.i64 0, Go.Value.int Go.IntKind.i64 0, Go.Value.int Go.IntKind.i64 0], Go.Value.int Go.IntKind.i64 0])) := by kernel_rfl
theorem zer203 : zer Try.prog 203 = some (Go.Value.nilFunc) := by kernel_rfl
theorem zer204 : zer Try.prog 204 = some (Go.Value.nilFunc) := by kernel_rfl
theorem zer205 : zer Try.prog 205 = some (Go.Value.nilFunc) := by kernel_rfl
theorem zer206 : zer Try.prog 206 = some (Go.Value.nilFunc) := by kernel_rfl
theorem zer207 : zer Try.prog 207 = some (Go.Value.nilFunc) := by kernel_rfl
theorem zer208 : zer Try.prog 208 = some (Go.Value.nilFunc) := by kernel_rfl
theorem zer209 : zer Try.prog 209 = some (Go.Value.nilFunc) := by kernel_rfl
theorem zer210 : zer Try.prog 210 = some ((Go.Value.slice Option.none 0 0)) := by kernel_rfl
theorem zer211 : zer Try.prog 211 = some ((Go.Value.agg #[Go.Value.slice Option.none 0 0, Go.Value.int Go.IntKind.i64 0, Go.Value.int Go.IntKind.i64 0])) := by kernel_rfl
theorem zer212 : zer Try.prog 212 = some ((Go.Value.agg #[Go.Value.slice Option.none 0 0, Go.Value.int Go.IntKind.i64 0, Go.Value.int Go.IntKind.i64 0])) := by kernel_rfl
theorem zer213 : zer Try.prog 213 = some ((Go.Value.agg #[Go.Value.int Go.IntKind.i64 0, Go.Value.int Go.IntKind.i64 0, Go.Value.int Go.IntKind.i64 0, Go.Value.int Go.IntKind.i64 0])) := by kernel_rfl
theorem zer214 : zer Try.prog 214 = some ((Go.Value.agg #[Go.Value.int Go.IntKind.i64 0, Go.Value.int Go.IntKind.i64 0, Go.Value.int Go.IntKind.i64 0, Go.Value.int Go.IntKind.i64 0])) := by kernel_rfl
theorem zer215 : zer Try.prog 215 = some ((Go.Value.agg #[Go.Value.int Go.IntKind.i64 0, Go.Value.bool Bool.false, Go.Value.int Go.IntKind.u8 0, Go.Value.int Go.IntKind.u8 0, Go.Value.int Go.IntKind.u8 0, Go.Value.int Go.IntKind.u8 0, Go.Value.int Go.IntKind.u8 0, Go.Value.int Go.IntKind.u8 0, Go.Value.int Go.IntKind.u8 0, Go.Value.int Go.IntKind.i64 0, Go.Value.pointer Option.none])) := by kernel_rfl
theorem zer216 : zer Try.prog 216 = some ((Go.Value.agg #[Go.Value.int Go.IntKind.i64 0, Go.Value.bool Bool.false, Go.Value.int Go.IntKind.u8 0, Go.Value.int Go.IntKind.u8 0, Go.Value.int Go.IntKind.u8 0, Go.Value.int Go.IntKind.u8 0, Go.Value.int Go.IntKind.u8 0, Go.Value.int Go.IntKind.u8 0, Go.Value.int Go.IntKind.u8 0, Go.Value.int Go.IntKind.i64 0, Go.Value.pointer Option.none])) := by kernel_rfl
theorem zer217 : zer Try.prog 217 = some (Go.Value.nilFunc) := by kernel_rfl
theorem zer218 : zer Try.prog 218 = some ((Go.Value.slice Option.none 0 0)) := by kernel_rfl
theorem zer219 : zer Try.prog 219 = some (Go.Value.nilFunc) := by kernel_rfl
theorem zer220 : zer Try.prog 220 = some ((Go.Value.pointer Option.none)) := by kernel_rfl
theorem zer221 : zer Try.prog 221 = some ((Go.Value.agg #[Go.Value.int Go.IntKind.u64 0, Go.Value.int Go.IntKind.u64 0, Go.Value.int Go.IntKind.u64 0, Go.Value.int Go.IntKind.u64 0])) := by kernel_rfl
theorem zer222 : zer Try.prog 222 = some ((Go.Value.agg #[Go.Value.int Go.IntKind.u64 0, Go.Value.int Go.IntKind.u64 0, Go.Value.int Go.IntKind.u64 0, Go.Value.int Go.IntKind.u64 0])) := by kernel_rfl
theorem zer223 : zer Try.prog 223 = some (Go.Value.nilFunc) := by kernel_rfl
theorem zer224 : zer Try.prog 224 = some (Go.Value.nilFunc) := by kernel_rfl
theorem zer225 : zer Try.prog 225 = some ((Go.Value.slice Option.none 0 0)) := by kernel_rfl
theorem zer226 : zer Try.prog 226 = some (Go.Value.nilFunc) := by kernel_rfl
theorem zer227 : zer Try.prog 227 = some ((Go.Value.pointer Option.none)) := by kernel_rfl
theorem zer228 : zer Try.prog 228 = some ((Go.Value.slice Option.none 0 0)) := by kernel_rfl
theorem zer229 : zer Try.prog 229 = some (Go.Value.nilFunc) := by kernel_rfl
theorem zer230 : zer Try.prog 230 = some ((Go.Value.pointer Option.none)) := by kernel_rfl
theorem zer231 : zer Try.prog 231 = some (Go.Value.nilFunc) := by kernel_rfl
theorem zer232 : zer Try.prog 232 = some (Go.Value.nilFunc) := by kernel_rfl
theorem zer233 : zer Try.prog 233 = some (Go.Value.nilFunc) := by kernel_rfl
theorem zer234 : zer Try.prog 234 = some ((Go.Value.int Go.IntKind.i64 0)) := by kernel_rfl
theorem zer235 : zer Try.prog 235 = some ((Go.Value.tuple #[Go.Value.int Go.IntKind.i64 0, Go.Value.int Go.IntKind.i64 0])) := by kernel_rfl
theorem zer236 : zer Try.prog 236 = some (Go.Value.nilFunc) := by kernel_rfl
theorem zer237 : zer Try.prog 237 = some (Go.Value.nilFunc) := by kernel_rfl
theorem zer238 : zer Try.prog 238 = some (Go.Value.nilFunc) := by kernel_rfl
theorem zer239 : zer Try.prog 239 = some (Go.Value.nilFunc) := by kernel_rfl
theorem zer240 : zer Try.prog 240 = some (Go.Value.nilFunc) := by kernel_rfl
theorem zer241 : zer Try.prog 241 = some (Go.Value.nilFunc) := by kernel_rfl
theorem zer242 : zer Try.prog 242 = some (Go.Value.nilFunc) := by kernel_rfl
theorem zer243 : zer Try.prog 243 = some (Go.Value.nilFunc) := by kernel_rfl
theorem zer244 : zer Try.prog 244 = some ((Go.Value.pointer Option.none)) := by kernel_rfl
theorem zer245 : zer Try.prog 245 = some ((Go.Value.int Go.IntKind.u64 0)) := by kernel_rfl
theorem zer246 : zer Try.prog 246 = some (Go.Value.nilFunc) := by kernel_rfl
theorem zer247 : zer Try.prog 247 = some (Go.Value.nilFunc) := by kernel_rfl
theorem zer248 : zer Try.prog 248 = some (Go.Value.nilFunc) := by kernel_rfl
theorem zer249 : zer Try.prog 249 = some ((Go.Value.pointer Option.none)) := by kernel_rfl
theorem zer250 : zer Try.prog 250 = some ((Go.Value.tuple #[Go.Value.pointer Option.none, Go.Value.int Go.IntKind.i64 0])) := by kernel_rfl
theorem zer251 : zer Try.prog 251 = some (Go.Value.nilFunc) := by kernel_rfl
theorem zer252 : zer Try.prog 252 = some ((Go.Value.pointer Option.none)) := by kernel_rfl
theorem zer253 : zer Try.prog 253 = some ((Go.Value.tuple #[Go.Value.pointer Option.none, Go.Value.int Go.IntKind.i64 0])) := by kernel_rfl
theorem zer254 : zer Try.prog 254 = some (Go.Value.nilFunc) := by kernel_rfl
theorem zer255 : zer Try.prog 255 = some ((Go.Value.pointer Option.none)) := by kernel_rfl
theorem zer256 : zer Try.prog 256 = some (Go.Value.nilFunc) := by kernel_rfl
theorem zer257 : zer Try.prog 257 = some (Go.Value.nilFunc) := by kernel_rfl
theorem zer258 : zer Try.prog 258 = some ((Go.Value.slice Option.none 0 0)) := by kernel_rfl
theorem zer259 : zer Try.prog 259 = some ((Go.Value.agg #[Go.Value.slice Option.none 0 0, Go.Value.int Go.IntKind.i64 0, Go.Value.int Go.IntKind.i64 0, Go.Value.int Go.IntKind.i64 0, Go.Value.int Go.IntKind.i64 0, Go.Value.int Go.IntKind.i64 0, Go.Value.int Go.IntKind.i64 0])) := by kernel_rfl
theorem zer260 : zer Try.prog 260 = some ((Go.Value.agg #[Go.Value.slice Option.none 0 0, Go.Value.int Go.IntKind.i64 0, Go.Value.int Go.IntKind.i64 0, Go.Value.int Go.IntKind.i64 0, Go.Value.int Go.IntKind.i64 0, Go.Value.int Go.IntKind.i64 0, Go.Value.int Go.IntKind.i64 0])) := by kernel_rfl
theorem zer261 : zer Try.prog 261 = some ((Go.Value.pointer Option.none)) := by kernel_rfl
theorem zer262 : zer Try.prog 262 = some ((Go.Value.tuple #[Go.Value.pointer Option.none, Go.Value.int Go.IntKind.i64 0])) := by kernel_rfl
theorem zer263 : zer Try.prog 263 = some (Go.Value.nilFunc) := by kernel_rfl
theorem zer264 : zer Try.prog 264 = some ((Go.Value.agg #[Go.Value.pointer Option.none, Go.Value.int Go.IntKind.i64 0, Go.Value.int Go.IntKind.i64 0, Go.Value.int Go.IntKind.i64 0])) := by kernel_rfl
theorem zer265 : zer Try.prog 265 = some ((Go.Value.agg #[Go.Value.pointer Option.none, Go.Value.int Go.IntKind.i64 0, Go.Value.int Go.IntKind.i64 0, Go.Value.int Go.IntKind.i64 0])) := by kernel_rfl
theorem zer266 : zer Try.prog 266 = some ((Go.Value.slice Option.none 0 0)) := by kernel_rfl
theorem zer267 : zer Try.prog 267 = some ((Go.Value.agg #[Go.Value.slice Option.none 0 0, Go.Value.int Go.IntKind.i64 0])) := by kernel_rfl
theorem zer268 : zer Try.prog 268 = some ((Go.Value.agg #[Go.Value.slice Option.none 0 0, Go.Value.int Go.IntKind.i64 0])) := by kernel_rfl
theorem zer269 : zer Try.prog 269 = some (Go.Value.nilFunc) := by kernel_rfl
theorem zer270 : zer Try.prog 270 = some ((Go.Value.agg #[Go.Value.pointer Option.none, Go.Value.pointer Option.none, Go.Value.pointer Option.none, Go.Value.string { data := #[] }])) := by kernel_rfl
theorem zer271 : zer Try.prog 271 = some ((Go.Value.agg #[Go.Value.pointer Option.none, Go.Value.pointer Option.none, Go.Value.pointer Option.none, Go.Value.string { data := #[] }])) := by kernel_rfl
theorem zer272 : zer Try.prog 272 = some ((Go.Value.agg #[])) := by kernel_rfl
theorem zer273 : zer Try.prog 273 = some ((Go.Value.agg #[])) := by kernel_rfl
theorem zer274 : zer Try.prog 274 = some ((Go.Value.agg #[])) := by kernel_rfl
theorem zer275 : zer Try.prog 275 = some ((Go.Value.int Go.IntKind.u8 0)) := by kernel_rfl
theorem zer276 : zer Try.prog 276 = some ((Go.Value.int Go.IntKind.u8 0)) := by kernel_rfl
theorem zer277 : zer Try.prog 277 = some (Go.Value.nilFunc) := by kernel_rfl
theorem zer278 : zer Try.prog 278 = some ((Go.Value.pointer Option.none)) := by kernel_rfl
theorem zer279 : zer Try.prog 279 = some ((Go.Value.int Go.IntKind.i32 0)) := by kernel_rfl
theorem zer280 : zer Try.prog 280 = some ((Go.Value.int Go.IntKind.i32 0)) := by kernel_rfl
theorem zer281 : zer Try.prog 281 = some ((Go.Value.agg #[Go.Value.int Go.IntKind.u64 0, Go.Value.int Go.IntKind.u64 0, Go.Value.int Go.IntKind.u32 0, Go.Value.int Go.IntKind.u8 0, Go.Value.int Go.IntKind.u8 0, Go.Value.int Go.IntKind.u8 0, Go.Value.int Go.IntKind.u8 0, Go.Value.nilFunc, Go.Value.pointer Option.none, Go.Value.int Go.IntKind.i32 0, Go.Value.int Go.IntKind.i32 0])) := by kernel_rfl
theorem zer282 : zer Try.prog 282 = some ((Go.Value.agg #[Go.Value.int Go.IntKind.u64 0, Go.Value.int Go.IntKind.u64 0, Go.Value.int Go.IntKind.u32 0, Go.Value.int Go.IntKind.u8 0, Go.Value.int Go.IntKind.u8 0, Go.Value.int Go.IntKind.u8 0, Go.Value.int Go.IntKind.u8 0, Go.Value.nilFunc, Go.Value.pointer Option.none, Go.Value.int Go.IntKind.i32 0, Go.Value.int Go.IntKind.i32 0])) := by kernel_rfl
theorem zer283 : zer Try.prog 283 = some (Go.Value.nilFunc) := by kernel_rfl
theorem zer284 : zer Try.prog 284 = some ((Go.Value.agg #[Go.Value.int Go.IntKind.i64 0, Go.Value.int Go.IntKind.i64 0, Go.Value.int Go.IntKind.i64 0])) := by kernel_rfl
theorem zer285 : zer Try.prog 285 = some ((Go.Value.agg #[Go.Value.int Go.IntKind.i64 0, Go.Value.int Go.IntKind.i64 0, Go.Value.int Go.IntKind.i64 0])) := by kernel_rfl
theorem zer286 : zer Try.prog 286 = some ((Go.Value.agg #[Go.Value.bool Bool.false, Go.Value.int Go.IntKind.u8 0, Go.Value.int Go.IntKind.u8 0, Go.Value.int Go.IntKind.u8 0, Go.Value.int Go.IntKind.u8 0, Go.Value.int Go.IntKind.u8 0, Go.Value.int Go.IntKind.u8 0, Go.Value.int Go.IntKind.u8 0, Go.Value.int Go.IntKind.i64 0, Go.Value.int Go.IntKind.i64 0])) := by kernel_rfl
theorem zer287 : zer Try.prog 287 = some ((Go.Value.agg #[Go.Value.bool Bool.false, Go.Value.int Go.IntKind.u8 0, Go.Value.int Go.IntKind.u8 0, Go.Value.int Go.IntKind.u8 0, Go.Value.int Go.IntKind.u8 0, Go.Value.int Go.IntKind.u8 0, Go.Value.int Go.IntKind.u8 0, Go.Value.int Go.IntKind.u8 0, Go.Value.int Go.IntKind.i64 0, Go.Value.int Go.IntKind.i64 0])) := by kernel_rfl
theorem zer288 : zer Try.prog 288 = some ((Go.Value.pointer Option.none)) := by kernel_rfl
set_option linter.defProp false
def tyF := (And.intro (And.intro (And.intro (And.intro (And.intro (And.intro (And.intro (And.intro (And.intro @List.take_succ_cons.{0} @List.take_zero.{0}) (And.intro @List.drop_succ_cons.{0} (And.intro @List.drop_zero.{0} @Try.underlying0))) (And.intro (And.intro @Try.underlying1 (And.intro @Try.underlying2 @Try.underlying3)) (And.intro @Try.underlying4 (And.intro @Try.underlying5 @Try.underlying6)))) (And.intro (And.intro (And.intro @Try.underlying7 (And.intro @Try.underlying8 @Try.underlying9)) (And.intro @Try.underlying10 (And.intro @Try.underlying11 @Try.underlying12))) (And.intro (And.intro @Try.underlying13 (And.intro @Try.underlying14 @Try.underlying15)) (And.intro @Try.underlying16 (And.intro @Try.underlying17 @Try.underlying18))))) (And.intro (And.intro (And.intro (And.intro @Try.underlying19 (And.intro @Try.underlying20 @Try.underlying21)) (And.intro @Try.underlying22 (And.intro @Try.underlying23 @Try.underlying24))) (And.intro (And.intro @Try.underlying25 (And.intro @Try.underlying26 @Try.underlying27)) (And.intro @Try.underlying28 (And.intro @Try.underlying29 @Try.underlying30)))) (And.intro (And.intro (And.intro @Try.underlying31 (And.intro @Try.underlying32 @Try.underlying33)) (And.intro @Try.underlying34 (And.intro @Try.underlying35 @Try.underlying36))) (And.intro (And.intro @Try.underlying37 (And.intro @Try.underlying38 @Try.underlying39)) (And.intro @Try.underlying40 (And.intro @Try.underlying41 @Try.underlying42)))))) (And.intro (And.intro (And.intro (And.intro (And.intro @Try.underlying43 (And.intro @Try.underlying44 @Try.underlying45)) (And.intro @Try.underlying46 (And.intro @Try.underlying47 @Try.underlying48))) (And.intro (And.intro @Try.underlying49 (And.intro @Try.underlying50 @Try.underlying51)) (And.intro @Try.underlying52 (And.intro @Try.underlying53 @Try.underlying54)))) (And.intro (And.intro (And.intro @Try.underlying55 (And.intro @Try.underlying56 @Try.underlying57)) (And.intro @Try.underlying58 (And.intro @Try.underlying59 @Try.underlying60))) (And.intro (And.intro @Try.underlying61 (And.intro @Try.underlying62 @Try.underlying63)) (And.intro @Try.underlying64 (And.intro @Try.underlying65 @Try.underlying66))))) (And.intro (And.intro (And.intro (And.intro @Try.underlying67 (And.intro @Try.underlying68 @Try.underlying69)) (And.intro @Try.underlying70 (And.intro @Try.underlying71 @Try.underlying72))) (And.intro (And.intro @Try.underlying73 (And.intro @Try.underlying74 @Try.underlying75)) (And.intro @Try.underlying76 (And.intro @Try.underlying77 @Try.underlying78)))) (And.intro (And.intro (And.intro @Try.underlying79 (And.intro @Try.underlying80 @Try.underlying81)) (And.intro @Try.underlying82 (And.intro @Try.underlying83 @Try.underlying84))) (And.intro (And.intro @Try.underlying85 (And.intro @Try.underlying86 @Try.underlying87)) (And.intro @Try.underlying88 (And.intro @Try.underlying89 @Try.underlying90))))))) (And.intro (And.intro (And.intro (And.intro (And.intro (And.intro @Try.underlying91 @Try.underlying92) (And.intro @Try.underlying93 (And.intro @Try.underlying94 @Try.underlying95))) (And.intro (And.intro @Try.underlying96 (And.intro @Try.underlying97 @Try.underlying98)) (And.intro @Try.underlying99 (And.intro @Try.underlying100 @Try.underlying101)))) (And.intro (And.intro (And.intro @Try.underlying102 (And.intro @Try.underlying103 @Try.underlying104)) (And.intro @Try.underlying105 (And.intro @Try.underlying106 @Try.underlying107))) (And.intro (And.intro @Try.underlying108 (And.intro @Try.underlying109 @Try.underlying110)) (And.intro @Try.underlying111 (And.intro @Try.underlying112 @Try.underlying113))))) (And.intro (And.intro (And.intro (And.intro @Try.underlying114 (And.intro @Try.underlying115 @Try.underlying116)) (And.intro @Try.underlying117 (And.intro @Try.underlying118 @Try.underlying119))) (And.intro (And.intro @Try.underlying120 (And.intro @Try.underlying121 @Try.underlying122)) (And.intro @Try.underlying123 (And.intro @Try.underlying124 @Try.underlying125)))) (And.intro (And.intro (And.intro @Try.underlying126 (And.intro @Try.underlying127 @Try.underlying128)) (And.intro @Try.underlying129 (And.intro @Try.underlying130 @Try.underlying131))) (And.intro (And.intro @Try.underlying132 (And.intro @Try.underlying133 @Try.underlying134)) (And.intro @Try.underlying135 (And.intro @Try.underlying136 @Try.underlying137)))))) (And.intro (And.intro (And.intro (And.intro (And.intro @Try.underlying138 (And.intro @Try.underlying139 @Try.underlying140)) (And.intro @Try.underlying141 (And.intro @Try.underlying142 @Try.underlying143))) (And.intro (And.intro @Try.underlying144 (And.intro @Try.underlying145 @Try.underlying146)) (And.intro @Try.underlying147 (And.intro @Try.underlying148 @Try.underlying149)))) (And.intro (And.intro (And.intro @Try.underlying150 (And.intro @Try.underlying151 @Try.underlying152)) (And.intro @Try.underlying153 (And.intro @Try.underlying154 @Try.underlying155))) (And.intro (And.intro @Try.underlying156 (And.intro @Try.underlying157 @Try.underlying158)) (And.intro @Try.underlying159 (And.intro @Try.underlying160 @Try.underlying161))))) (And.intro (And.intro (And.intro (And.intro @Try.underlying162 (And.intro @Try.underlying163 @Try.underlying164)) (And.intro @Try.underlying165 (And.intro @Try.underlying166 @Try.underlying167))) (And.intro (And.intro @Try.underlying168 (And.intro @Try.underlying169 @Try.underlying170)) (And.intro @Try.underlying171 (And.intro @Try.underlying172 @Try.underlying173)))) (And.intro (And.intro (And.intro @Try.underlying174 (And.intro @Try.underlying175 @Try.underlying176)) (And.intro @Try.underlying177 (And.intro @Try.underlying178 @Try.underlying179))) (And.intro (And.intro @Try.underlying180 (And.intro @Try.underlying181 @Try.underlying182)) (And.intro @Try.underlying183 (And.intro @Try.underlying184 @Try.underlying185)))))))) (And.intro (And.intro (And.intro (And.intro (And.intro (And.intro (And.intro @Try.underlying186 @Try.underlying187) (And.intro @Try.underlying188 (And.intro @Try.underlying189 @Try.underlying190))) (And.intro (And.intro @Try.underlying191 (And.intro @Try.underlying192 @Try.underlying193)) (And.intro @Try.underlying194 (And.intro @Try.underlying195 @Try.underlying196)))) (And.intro (And.intro (And.intro @Try.underlying197 (And.intro @Try.underlying198 @Try.underlying199)) (And.intro @Try.underlying200 (And.intro @Try.underlying201 @Try.underlying202))) (And.intro (And.intro @Try.underlying203 (And.intro @Try.underlying204 @Try.underlying205)) (And.intro @Try.underlying206 (And.intro @Try.underlying207 @Try.underlying208))))) (And.intro (And.intro (And.intro (And.intro @Try.underlying209 (And.intro @Try.underlying210 @Try.underlying211)) (And.intro @Try.underlying212 (And.intro @Try.underlying213 @Try.underlying214))) (And.intro (And.intro @Try.underlying215 (And.intro @Try.underlying216 @Try.underlying217)) (And.intro @Try.underlying218 (And.intro @Try.underlying219 @Try.underlying220)))) (And.intro (And.intro (And.intro @Try.underlying221 (And.intro @Try.underlying222 @Try.underlying223)) (And.intro @Try.underlying224 (And.intro @Try.underlying225 @Try.underlying226))) (And.intro (And.intro @Try.underlying227 (And.intro @Try.underlying228 @Try.underlying229)) (And.intro @Try.underlying230 (And.intro @Try.underlying231 @Try.underlying232)))))) (And.intro (And.intro (And.intro (And.intro (And.intro @Try.underlying233 (And.intro @Try.underlying234 @Try.underlying235)) (And.intro @Try.underlying236 (And.intro @Try.underlying237 @Try.underlying238))) (And.intro (And.intro @Try.underlying239 (And.intro @Try.underlying240 @Try.underlying241)) (And.intro @Try.underlying242 (And.intro @Try.underlying243 @Try.underlying244)))) (And.intro (And.intro (And.intro @Try.underlying245 (And.intro @Try.underlying246 @Try.underlying247)) (And.intro @Try.underlying248 (And.intro @Try.underlying249 @Try.underlying250))) (And.intro (And.intro @Try.underlying251 (And.intro @Try.underlying252 @Try.underlying253)) (And.intro @Try.underlying254 (And.intro @Try.underlying255 @Try.underlying256))))) (And.intro (And.intro (And.intro (And.intro @Try.underlying257 (And.intro @Try.underlying258 @Try.underlying259)) (And.intro @Try.underlying260 (And.intro @Try.underlying261 @Try.underlying262))) (And.intro (And.intro @Try.underlying263 (And.intro @Try.underlying264 @Try.underlying265)) (And.intro @Try.underlying266 (And.intro @Try.underlying267 @Try.underlying268)))) (And.intro (And.intro (And.intro @Try.underlying269 (And.intro @Try.underlying270 @Try.underlying271)) (And.intro @Try.underlying272 (And.intro @Try.underlying273 @Try.underlying274))) (And.intro (And.intro @Try.underlying275 (And.intro @Try.underlying276 @Try.underlying277)) (And.intro @Try.underlying278 (And.intro @Try.underlying279 @Try.underlying280))))))) (And.intro (And.intro (And.intro (And.intro (And.intro (And.intro @Try.underlying281 (And.intro @Try.underlying282 @Try.underlying283)) (And.intro @Try.underlying284 (And.intro @Try.underlying285 @Try.underlying286))) (And.intro (And.intro @Try.underlying287 (And.intro @Try.underlying288 @cells0)) (And.intro @cells1 (And.intro @cells2 @cells3)))) (And.intro (And.intro (And.intro @cells4 (And.intro @cells5 @cells6)) (And.intro @cells7 (And.intro @cells8 @cells9))) (And.intro (And.intro @cells10 (And.intro @cells11 @cells12)) (And.intro @cells13 (And.intro @cells14 @cells15))))) (And.intro (And.intro (And.intro (And.intro @cells16 (And.intro @cells17 @cells18)) (And.intro @cells19 (And.intro @cells20 @cells21))) (And.intro (And.intro @cells22 (And.intro @cells23 @cells24)) (And.intro @cells25 (And.intro @cells26 @cells27)))) (And.intro (And.intro (And.intro @cells28 (And.intro @cells29 @cells30)) (And.intro @cells31 (And.intro @cells32 @cells33))) (And.intro (And.intro @cells34 (And.intro @cells35 @cells36)) (And.intro @cells37 (And.intro @cells38 @cells39)))))) (And.intro (And.intro (And.intro (And.intro (And.intro @cells40 (And.intro @cells41 @cells42)) (And.intro @cells43 (And.intro @cells44 @cells45))) (And.intro (And.intro @cells46 (And.intro @cells47 @cells48)) (And.intro @cells49 (And.intro @cells50 @cells51)))) (And.intro (And.intro (And.intro @cells52 (And.intro @cells53 @cells54)) (And.intro @cells55 (And.intro @cells56 @cells57))) (And.intro (And.intro @cells58 (And.intro @cells59 @cells60)) (And.intro @cells61 (And.intro @cells62 @cells63))))) (And.intro (And.intro (And.intro (And.intro @cells64 (And.intro @cells65 @cells66)) (And.intro @cells67 (And.intro @cells68 @cells69))) (And.intro (And.intro @cells70 (And.intro @cells71 @cells72)) (And.intro @cells73 (And.intro @cells74 @cells75)))) (And.intro (And.intro (And.intro @cells76 (And.intro @cells77 @cells78)) (And.intro @cells79 (And.intro @cells80 @cells81))) (And.intro (And.intro @cells82 (And.intro @cells83 @cells84)) (And.intro @cells85 (And.intro @cells86 @cells87))))))))) (And.intro (And.intro (And.intro (And.intro (And.intro (And.intro (And.intro (And.intro @cells88 @cells89) (And.intro @cells90 (And.intro @cells91 @cells92))) (And.intro (And.intro @cells93 (And.intro @cells94 @cells95)) (And.intro @cells96 (And.intro @cells97 @cells98)))) (And.intro (And.intro (And.intro @cells99 (And.intro @cells100 @cells101)) (And.intro @cells102 (And.intro @cells103 @cells104))) (And.intro (And.intro @cells105 (And.intro @cells106 @cells107)) (And.intro @cells108 (And.intro @cells109 @cells110))))) (And.intro (And.intro (And.intro (And.intro @cells111 (And.intro @cells112 @cells113)) (And.intro @cells114 (And.intro @cells115 @cells116))) (And.intro (And.intro @cells117 (And.intro @cells118 @cells119)) (And.intro @cells120 (And.intro @cells121 @cells122)))) (And.intro (And.intro (And.intro @cells123 (And.intro @cells124 @cells125)) (And.intro @cells126 (And.intro @cells127 @cells128))) (And.intro (And.intro @cells129 (And.intro @cells130 @cells131)) (And.intro @cells132 (And.intro @cells133 @cells134)))))) (And.intro (And.intro (And.intro (And.intro (And.intro @cells135 (And.intro @cells136 @cells137)) (And.intro @cells138 (And.intro @cells139 @cells140))) (And.intro (And.intro @cells141 (And.intro @cells142 @cells143)) (And.intro @cells144 (And.intro @cells145 @cells146)))) (And.intro (And.intro (And.intro @cells147 (And.intro @cells148 @cells149)) (And.intro @cells150 (And.intro @cells151 @cells152))) (And.intro (And.intro @cells153 (And.intro @cells154 @cells155)) (And.intro @cells156 (And.intro @cells157 @cells158))))) (And.intro (And.intro (And.intro (And.intro @cells159 (And.intro @cells160 @cells161)) (And.intro @cells162 (And.intro @cells163 @cells164))) (And.intro (And.intro @cells165 (And.intro @cells166 @cells167)) (And.intro @cells168 (And.intro @cells169 @cells170)))) (And.intro (And.intro (And.intro @cells171 (And.intro @cells172 @cells173)) (And.intro @cells174 (And.intro @cells175 @cells176))) (And.intro (And.intro @cells177 (And.intro @cells178 @cells179)) (And.intro @cells180 (And.intro @cells181 @cells182))))))) (And.intro (And.intro (And.intro (And.intro (And.intro (And.intro @cells183 (And.intro @cells184 @cells185)) (And.intro @cells186 (And.intro @cells187 @cells188))) (And.intro (And.intro @cells189 (And.intro @cells190 @cells191)) (And.intro @cells192 (And.intro @cells193 @cells194)))) (And.intro (And.intro (And.intro @cells195 (And.intro @cells196 @cells197)) (And.intro @cells198 (And.intro @cells199 @cells200))) (And.intro (And.intro @cells201 (And.intro @cells202 @cells203)) (And.intro @cells204 (And.intro @cells205 @cells206))))) (And.intro (And.intro (And.intro (And.intro @cells207 (And.intro @cells208 @cells209)) (And.intro @cells210 (And.intro @cells211 @cells212))) (And.intro (And.intro @cells213 (And.intro @cells214 @cells215)) (And.intro @cells216 (And.intro @cells217 @cells218)))) (And.intro (And.intro (And.intro @cells219 (And.intro @cells220 @cells221)) (And.intro @cells222 (And.intro @cells223 @cells224))) (And.intro (And.intro @cells225 (And.intro @cells226 @cells227)) (And.intro @cells228 (And.intro @cells229 @cells230)))))) (And.intro (And.intro (And.intro (And.intro (And.intro @cells231 (And.intro @cells232 @cells233)) (And.intro @cells234 (And.intro @cells235 @cells236))) (And.intro (And.intro @cells237 (And.intro @cells238 @cells239)) (And.intro @cells240 (And.intro @cells241 @cells242)))) (And.intro (And.intro (And.intro @cells243 (And.intro @cells244 @cells245)) (And.intro @cells246 (And.intro @cells247 @cells248))) (And.intro (And.intro @cells249 (And.intro @cells250 @cells251)) (And.intro @cells252 (And.intro @cells253 @cells254))))) (And.intro (And.intro (And.intro (And.intro @cells255 (And.intro @cells256 @cells257)) (And.intro @cells258 (And.intro @cells259 @cells260))) (And.intro (And.intro @cells261 (And.intro @cells262 @cells263)) (And.intro @cells264 (And.intro @cells265 @cells266)))) (And.intro (And.intro (And.intro @cells267 (And.intro @cells268 @cells269)) (And.intro @cells270 (And.intro @cells271 @cells272))) (And.intro (And.intro @cells273 (And.intro @cells274 @cells275)) (And.intro @cells276 (And.intro @cells277 @cells278)))))))) (And.intro (And.intro (And.intro (And.intro (And.intro (And.intro (And.intro @cells279 @cells280) (And.intro @cells281 (And.intro @cells282 @cells283))) (And.intro (And.intro @cells284 (And.intro @cells285 @cells286)) (And.intro @cells287 (And.intro @cells288 @Try.results0)))) (And.intro (And.intro (And.intro @Try.results1 (And.intro @Try.results2 @Try.results3)) (And.intro @Try.results4 (And.intro @Try.results5 @Try.results6))) (And.intro (And.intro @Try.results7 (And.intro @Try.results8 @Try.results9)) (And.intro @Try.results10 (And.intro @Try.results11 @Try.results12))))) (And.intro (And.intro (And.intro (And.intro @Try.results13 (And.intro @Try.results14 @Try.results15)) (And.intro @Try.results16 (And.intro @Try.results17 @Try.results18))) (And.intro (And.intro @Try.results19 (And.intro @Try.results20 @Try.results21)) (And.intro @Try.results22 (And.intro @Try.results23 @Try.results24)))) (And.intro (And.intro (And.intro @Try.results25 (And.intro @Try.results26 @Try.results27)) (And.intro @Try.results28 (And.intro @Try.results29 @Try.results30))) (And.intro (And.intro @Try.results31 (And.intro @Try.results32 @Try.results33)) (And.intro @Try.results34 (And.intro @Try.results35 @Try.results36)))))) (And.intro (And.intro (And.intro (And.intro (And.intro @Try.results37 (And.intro @Try.results38 @Try.results39)) (And.intro @Try.results40 (And.intro @Try.results41 @Try.results42))) (And.intro (And.intro @Try.results43 (And.intro @Try.results44 @Try.results45)) (And.intro @Try.results46 (And.intro @Try.results47 @Try.results48)))) (And.intro (And.intro (And.intro @Try.results49 (And.intro @Try.results50 @Try.results51)) (And.intro @Try.results52 (And.intro @Try.results53 @Try.results54))) (And.intro (And.intro @Try.results55 (And.intro @Try.results56 @Try.results57)) (And.intro @Try.results58 (And.intro @Try.results59 @Try.results60))))) (And.intro (And.intro (And.intro (And.intro @Try.results61 (And.intro @Try.results62 @Try.results63)) (And.intro @Try.results64 (And.intro @Try.results65 @Try.results66))) (And.intro (And.intro @Try.results67 (And.intro @Try.results68 @Try.results69)) (And.intro @Try.results70 (And.intro @Try.results71 @Try.results72)))) (And.intro (And.intro (And.intro @Try.results73 (And.intro @Try.results74 @Try.results75)) (And.intro @Try.results76 (And.intro @Try.results77 @Try.results78))) (And.intro (And.intro @Try.results79 (And.intro @Try.results80 @Try.results81)) (And.intro @Try.results82 (And.intro @Try.results83 @Try.results84))))))) (And.intro (And.intro (And.intro (And.intro (And.intro (And.intro @Try.results85 (And.intro @Try.results86 @Try.results87)) (And.intro @Try.results88 (And.intro @Try.results89 @Try.results90))) (And.intro (And.intro @Try.results91 (And.intro @Try.results92 @Try.results93)) (And.intro @Try.results94 (And.intro @Try.results95 @Try.results96)))) (And.intro (And.intro (And.intro @Try.results97 (And.intro @Try.results98 @Try.results99)) (And.intro @Try.results100 (And.intro @Try.results101 @Try.results102))) (And.intro (And.intro @Try.results103 (And.intro @Try.results104 @Try.results105)) (And.intro @Try.results106 (And.intro @Try.results107 @Try.results108))))) (And.intro (And.intro (And.intro (And.intro @Try.results109 (And.intro @Try.results110 @Try.results111)) (And.intro @Try.results112 (And.intro @Try.results113 @Try.results114))) (And.intro (And.intro @Try.results115 (And.intro @Try.results116 @Try.results117)) (And.intro @Try.results118 (And.intro @Try.results119 @Try.results120)))) (And.intro (And.intro (And.intro @Try.results121 (And.intro @Try.results122 @Try.results123)) (And.intro @Try.results124 (And.intro @Try.results125 @Try.results126))) (And.intro (And.intro @Try.results127 (And.intro @Try.results128 @Try.results129)) (And.intro @Try.results130 (And.intro @Try.results131 @Try.results132)))))) (And.intro (And.intro (And.intro (And.intro (And.intro @Try.results133 (And.intro @Try.results134 @Try.results135)) (And.intro @Try.results136 (And.intro @Try.results137 @Try.results138))) (And.intro (And.intro @Try.results139 (And.intro @Try.results140 @Try.results141)) (And.intro @Try.results142 (And.intro @Try.results143 @Try.results144)))) (And.intro (And.intro (And.intro @Try.results145 (And.intro @Try.results146 @Try.results147)) (And.intro @Try.results148 (And.intro @Try.results149 @Try.results150))) (And.intro (And.intro @Try.results151 (And.intro @Try.results152 @Try.results153)) (And.intro @Try.results154 (And.intro @Try.results155 @Try.results156))))) (And.intro (And.intro (And.intro (And.intro @Try.results157 (And.intro @Try.results158 @Try.results159)) (And.intro @Try.results160 (And.intro @Try.results161 @Try.results162))) (And.intro (And.intro @Try.results163 (And.intro @Try.results164 @Try.results165)) (And.intro @Try.results166 (And.intro @Try.results167 @Try.results168)))) (And.intro (And.intro (And.intro @Try.results169 (And.intro @Try.results170 @Try.results171)) (And.intro @Try.results172 (And.intro @Try.results173 @Try.results174))) (And.intro (And.intro @Try.results175 (And.intro @Try.results176 @Try.results177)) (And.intro @Try.results178 (And.intro @Try.results179 @Try.results180))))))))))
theorem mixed : Try.prog.follows .mixedOrders = true := by kernel_rfl
end Go.Proofs.Ytloiglnejffmkaa
