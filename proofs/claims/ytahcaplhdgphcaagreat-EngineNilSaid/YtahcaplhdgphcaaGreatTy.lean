/-
  What the calculus asks of the types of this seat's translation: how many cells, what a nought is. By a program.
-/
import Derived.Test.YtahcaplhdgphcaaGreatProg
import Derived.Test.YtahcaplhdgphcaaGreatRv
namespace Go.Proofs.YtahcaplhdgphcaaGreat
open Go Go.RowKit Go.Proofs.RV
theorem cells0 : Tryz.prog.cellsOf 0 = 1 := by kernel_rfl
theorem cells1 : Tryz.prog.cellsOf 1 = 1 := by kernel_rfl
theorem cells2 : Tryz.prog.cellsOf 2 = 1 := by kernel_rfl
theorem cells3 : Tryz.prog.cellsOf 3 = 1 := by kernel_rfl
theorem cells4 : Tryz.prog.cellsOf 4 = 1 := by kernel_rfl
theorem cells5 : Tryz.prog.cellsOf 5 = 1 := by kernel_rfl
theorem cells6 : Tryz.prog.cellsOf 6 = 1 := by kernel_rfl
theorem cells7 : Tryz.prog.cellsOf 7 = 4 := by kernel_rfl
theorem cells8 : Tryz.prog.cellsOf 8 = 4 := by kernel_rfl
theorem cells9 : Tryz.prog.cellsOf 9 = 1 := by kernel_rfl
theorem cells10 : Tryz.prog.cellsOf 10 = 1 := by kernel_rfl
theorem cells11 : Tryz.prog.cellsOf 11 = 1 := by kernel_rfl
theorem cells12 : Tryz.prog.cellsOf 12 = 1 := by kernel_rfl
theorem cells13 : Tryz.prog.cellsOf 13 = 2 := by kernel_rfl
theorem cells14 : Tryz.prog.cellsOf 14 = 2 := by kernel_rfl
theorem cells15 : Tryz.prog.cellsOf 15 = 1 := by kernel_rfl
theorem cells16 : Tryz.prog.cellsOf 16 = 1 := by kernel_rfl
theorem cells17 : Tryz.prog.cellsOf 17 = 1 := by kernel_rfl
theorem cells18 : Tryz.prog.cellsOf 18 = 1 := by kernel_rfl
theorem cells19 : Tryz.prog.cellsOf 19 = 1 := by kernel_rfl
theorem cells20 : Tryz.prog.cellsOf 20 = 1 := by kernel_rfl
theorem cells21 : Tryz.prog.cellsOf 21 = 1 := by kernel_rfl
theorem cells22 : Tryz.prog.cellsOf 22 = 1 := by kernel_rfl
theorem cells23 : Tryz.prog.cellsOf 23 = 1 := by kernel_rfl
theorem cells24 : Tryz.prog.cellsOf 24 = 1 := by kernel_rfl
theorem cells25 : Tryz.prog.cellsOf 25 = 1 := by kernel_rfl
theorem cells26 : Tryz.prog.cellsOf 26 = 1 := by kernel_rfl
theorem cells27 : Tryz.prog.cellsOf 27 = 1 := by kernel_rfl
theorem cells28 : Tryz.prog.cellsOf 28 = 20 := by kernel_rfl
theorem cells29 : Tryz.prog.cellsOf 29 = 20 := by kernel_rfl
theorem cells30 : Tryz.prog.cellsOf 30 = 1 := by kernel_rfl
theorem cells31 : Tryz.prog.cellsOf 31 = 16 := by kernel_rfl
theorem cells32 : Tryz.prog.cellsOf 32 = 1 := by kernel_rfl
theorem cells33 : Tryz.prog.cellsOf 33 = 1 := by kernel_rfl
theorem cells34 : Tryz.prog.cellsOf 34 = 15 := by kernel_rfl
theorem cells35 : Tryz.prog.cellsOf 35 = 16 := by kernel_rfl
theorem cells36 : Tryz.prog.cellsOf 36 = 31 := by kernel_rfl
theorem cells37 : Tryz.prog.cellsOf 37 = 31 := by kernel_rfl
theorem cells38 : Tryz.prog.cellsOf 38 = 1 := by kernel_rfl
theorem cells39 : Tryz.prog.cellsOf 39 = 1 := by kernel_rfl
theorem cells40 : Tryz.prog.cellsOf 40 = 1 := by kernel_rfl
theorem cells41 : Tryz.prog.cellsOf 41 = 1 := by kernel_rfl
theorem cells42 : Tryz.prog.cellsOf 42 = 2 := by kernel_rfl
theorem cells43 : Tryz.prog.cellsOf 43 = 7 := by kernel_rfl
theorem cells44 : Tryz.prog.cellsOf 44 = 8 := by kernel_rfl
theorem cells45 : Tryz.prog.cellsOf 45 = 8 := by kernel_rfl
theorem cells46 : Tryz.prog.cellsOf 46 = 49 := by kernel_rfl
theorem cells47 : Tryz.prog.cellsOf 47 = 49 := by kernel_rfl
theorem cells48 : Tryz.prog.cellsOf 48 = 5 := by kernel_rfl
theorem cells49 : Tryz.prog.cellsOf 49 = 5 := by kernel_rfl
theorem cells50 : Tryz.prog.cellsOf 50 = 1 := by kernel_rfl
theorem cells51 : Tryz.prog.cellsOf 51 = 1 := by kernel_rfl
theorem cells52 : Tryz.prog.cellsOf 52 = 1 := by kernel_rfl
theorem cells53 : Tryz.prog.cellsOf 53 = 6 := by kernel_rfl
theorem cells54 : Tryz.prog.cellsOf 54 = 6 := by kernel_rfl
theorem cells55 : Tryz.prog.cellsOf 55 = 1 := by kernel_rfl
theorem cells56 : Tryz.prog.cellsOf 56 = 1 := by kernel_rfl
theorem cells57 : Tryz.prog.cellsOf 57 = 1 := by kernel_rfl
theorem cells58 : Tryz.prog.cellsOf 58 = 1 := by kernel_rfl
theorem cells59 : Tryz.prog.cellsOf 59 = 1 := by kernel_rfl
theorem cells60 : Tryz.prog.cellsOf 60 = 1 := by kernel_rfl
theorem cells61 : Tryz.prog.cellsOf 61 = 1 := by kernel_rfl
theorem cells62 : Tryz.prog.cellsOf 62 = 1 := by kernel_rfl
theorem cells63 : Tryz.prog.cellsOf 63 = 1 := by kernel_rfl
theorem cells64 : Tryz.prog.cellsOf 64 = 49 := by kernel_rfl
theorem cells65 : Tryz.prog.cellsOf 65 = 49 := by kernel_rfl
theorem cells66 : Tryz.prog.cellsOf 66 = 1 := by kernel_rfl
theorem cells67 : Tryz.prog.cellsOf 67 = 1 := by kernel_rfl
theorem cells68 : Tryz.prog.cellsOf 68 = 1 := by kernel_rfl
theorem cells69 : Tryz.prog.cellsOf 69 = 1 := by kernel_rfl
theorem cells70 : Tryz.prog.cellsOf 70 = 1 := by kernel_rfl
theorem cells71 : Tryz.prog.cellsOf 71 = 1 := by kernel_rfl
theorem cells72 : Tryz.prog.cellsOf 72 = 1 := by kernel_rfl
theorem cells73 : Tryz.prog.cellsOf 73 = 1 := by kernel_rfl
theorem cells74 : Tryz.prog.cellsOf 74 = 34 := by kernel_rfl
theorem cells75 : Tryz.prog.cellsOf 75 = 34 := by kernel_rfl
theorem cells76 : Tryz.prog.cellsOf 76 = 1 := by kernel_rfl
theorem cells77 : Tryz.prog.cellsOf 77 = 1 := by kernel_rfl
theorem cells78 : Tryz.prog.cellsOf 78 = 1 := by kernel_rfl
theorem cells79 : Tryz.prog.cellsOf 79 = 1 := by kernel_rfl
theorem cells80 : Tryz.prog.cellsOf 80 = 36 := by kernel_rfl
theorem cells81 : Tryz.prog.cellsOf 81 = 36 := by kernel_rfl
theorem cells82 : Tryz.prog.cellsOf 82 = 46 := by kernel_rfl
theorem cells83 : Tryz.prog.cellsOf 83 = 46 := by kernel_rfl
theorem cells84 : Tryz.prog.cellsOf 84 = 1 := by kernel_rfl
theorem cells85 : Tryz.prog.cellsOf 85 = 1 := by kernel_rfl
theorem cells86 : Tryz.prog.cellsOf 86 = 1 := by kernel_rfl
theorem cells87 : Tryz.prog.cellsOf 87 = 1 := by kernel_rfl
theorem cells88 : Tryz.prog.cellsOf 88 = 1 := by kernel_rfl
theorem cells89 : Tryz.prog.cellsOf 89 = 1 := by kernel_rfl
theorem cells90 : Tryz.prog.cellsOf 90 = 1 := by kernel_rfl
theorem cells91 : Tryz.prog.cellsOf 91 = 1 := by kernel_rfl
theorem cells92 : Tryz.prog.cellsOf 92 = 1 := by kernel_rfl
theorem cells93 : Tryz.prog.cellsOf 93 = 1 := by kernel_rfl
theorem cells94 : Tryz.prog.cellsOf 94 = 1 := by kernel_rfl
theorem cells95 : Tryz.prog.cellsOf 95 = 1 := by kernel_rfl
theorem cells96 : Tryz.prog.cellsOf 96 = 1 := by kernel_rfl
theorem cells97 : Tryz.prog.cellsOf 97 = 1 := by kernel_rfl
theorem cells98 : Tryz.prog.cellsOf 98 = 1 := by kernel_rfl
theorem cells99 : Tryz.prog.cellsOf 99 = 1 := by kernel_rfl
theorem cells100 : Tryz.prog.cellsOf 100 = 1 := by kernel_rfl
theorem cells101 : Tryz.prog.cellsOf 101 = 1 := by kernel_rfl
theorem cells102 : Tryz.prog.cellsOf 102 = 1 := by kernel_rfl
theorem cells103 : Tryz.prog.cellsOf 103 = 1 := by kernel_rfl
theorem cells104 : Tryz.prog.cellsOf 104 = 1 := by kernel_rfl
theorem cells105 : Tryz.prog.cellsOf 105 = 1 := by kernel_rfl
theorem cells106 : Tryz.prog.cellsOf 106 = 1 := by kernel_rfl
theorem cells107 : Tryz.prog.cellsOf 107 = 1 := by kernel_rfl
theorem cells108 : Tryz.prog.cellsOf 108 = 1 := by kernel_rfl
theorem cells109 : Tryz.prog.cellsOf 109 = 1 := by kernel_rfl
theorem cells110 : Tryz.prog.cellsOf 110 = 2 := by kernel_rfl
theorem cells111 : Tryz.prog.cellsOf 111 = 2 := by kernel_rfl
theorem cells112 : Tryz.prog.cellsOf 112 = 1 := by kernel_rfl
theorem cells113 : Tryz.prog.cellsOf 113 = 1 := by kernel_rfl
theorem cells114 : Tryz.prog.cellsOf 114 = 1 := by kernel_rfl
theorem cells115 : Tryz.prog.cellsOf 115 = 1 := by kernel_rfl
theorem cells116 : Tryz.prog.cellsOf 116 = 1 := by kernel_rfl
theorem cells117 : Tryz.prog.cellsOf 117 = 1 := by kernel_rfl
theorem cells118 : Tryz.prog.cellsOf 118 = 1 := by kernel_rfl
theorem cells119 : Tryz.prog.cellsOf 119 = 1 := by kernel_rfl
theorem cells120 : Tryz.prog.cellsOf 120 = 1 := by kernel_rfl
theorem cells121 : Tryz.prog.cellsOf 121 = 2 := by kernel_rfl
theorem cells122 : Tryz.prog.cellsOf 122 = 2 := by kernel_rfl
theorem cells123 : Tryz.prog.cellsOf 123 = 1 := by kernel_rfl
theorem cells124 : Tryz.prog.cellsOf 124 = 1 := by kernel_rfl
theorem cells125 : Tryz.prog.cellsOf 125 = 1 := by kernel_rfl
theorem cells126 : Tryz.prog.cellsOf 126 = 35 := by kernel_rfl
theorem cells127 : Tryz.prog.cellsOf 127 = 35 := by kernel_rfl
theorem cells128 : Tryz.prog.cellsOf 128 = 1 := by kernel_rfl
theorem cells129 : Tryz.prog.cellsOf 129 = 1 := by kernel_rfl
theorem cells130 : Tryz.prog.cellsOf 130 = 1 := by kernel_rfl
theorem cells131 : Tryz.prog.cellsOf 131 = 1 := by kernel_rfl
theorem cells132 : Tryz.prog.cellsOf 132 = 1 := by kernel_rfl
theorem cells133 : Tryz.prog.cellsOf 133 = 1 := by kernel_rfl
theorem cells134 : Tryz.prog.cellsOf 134 = 1 := by kernel_rfl
theorem cells135 : Tryz.prog.cellsOf 135 = 1 := by kernel_rfl
theorem cells136 : Tryz.prog.cellsOf 136 = 1 := by kernel_rfl
theorem cells137 : Tryz.prog.cellsOf 137 = 2 := by kernel_rfl
theorem cells138 : Tryz.prog.cellsOf 138 = 1 := by kernel_rfl
theorem cells139 : Tryz.prog.cellsOf 139 = 1 := by kernel_rfl
theorem cells140 : Tryz.prog.cellsOf 140 = 29 := by kernel_rfl
theorem cells141 : Tryz.prog.cellsOf 141 = 29 := by kernel_rfl
theorem cells142 : Tryz.prog.cellsOf 142 = 1 := by kernel_rfl
theorem cells143 : Tryz.prog.cellsOf 143 = 1 := by kernel_rfl
theorem cells144 : Tryz.prog.cellsOf 144 = 1 := by kernel_rfl
theorem cells145 : Tryz.prog.cellsOf 145 = 1 := by kernel_rfl
theorem cells146 : Tryz.prog.cellsOf 146 = 1 := by kernel_rfl
theorem cells147 : Tryz.prog.cellsOf 147 = 1 := by kernel_rfl
theorem cells148 : Tryz.prog.cellsOf 148 = 1 := by kernel_rfl
theorem cells149 : Tryz.prog.cellsOf 149 = 1 := by kernel_rfl
theorem cells150 : Tryz.prog.cellsOf 150 = 1 := by kernel_rfl
theorem cells151 : Tryz.prog.cellsOf 151 = 1 := by kernel_rfl
theorem cells152 : Tryz.prog.cellsOf 152 = 1 := by kernel_rfl
theorem cells153 : Tryz.prog.cellsOf 153 = 1 := by kernel_rfl
theorem cells154 : Tryz.prog.cellsOf 154 = 1 := by kernel_rfl
theorem cells155 : Tryz.prog.cellsOf 155 = 1 := by kernel_rfl
theorem cells156 : Tryz.prog.cellsOf 156 = 1 := by kernel_rfl
theorem cells157 : Tryz.prog.cellsOf 157 = 1 := by kernel_rfl
theorem cells158 : Tryz.prog.cellsOf 158 = 1 := by kernel_rfl
theorem cells159 : Tryz.prog.cellsOf 159 = 1 := by kernel_rfl
theorem cells160 : Tryz.prog.cellsOf 160 = 1 := by kernel_rfl
theorem cells161 : Tryz.prog.cellsOf 161 = 1 := by kernel_rfl
theorem cells162 : Tryz.prog.cellsOf 162 = 1 := by kernel_rfl
theorem cells163 : Tryz.prog.cellsOf 163 = 1 := by kernel_rfl
theorem cells164 : Tryz.prog.cellsOf 164 = 1 := by kernel_rfl
theorem cells165 : Tryz.prog.cellsOf 165 = 1 := by kernel_rfl
theorem cells166 : Tryz.prog.cellsOf 166 = 1 := by kernel_rfl
theorem cells167 : Tryz.prog.cellsOf 167 = 1 := by kernel_rfl
theorem cells168 : Tryz.prog.cellsOf 168 = 1 := by kernel_rfl
theorem cells169 : Tryz.prog.cellsOf 169 = 1 := by kernel_rfl
theorem cells170 : Tryz.prog.cellsOf 170 = 1 := by kernel_rfl
theorem cells171 : Tryz.prog.cellsOf 171 = 1 := by kernel_rfl
theorem cells172 : Tryz.prog.cellsOf 172 = 1 := by kernel_rfl
theorem cells173 : Tryz.prog.cellsOf 173 = 1 := by kernel_rfl
theorem cells174 : Tryz.prog.cellsOf 174 = 1 := by kernel_rfl
theorem cells175 : Tryz.prog.cellsOf 175 = 1 := by kernel_rfl
theorem cells176 : Tryz.prog.cellsOf 176 = 1 := by kernel_rfl
theorem cells177 : Tryz.prog.cellsOf 177 = 1 := by kernel_rfl
theorem cells178 : Tryz.prog.cellsOf 178 = 1 := by kernel_rfl
theorem cells179 : Tryz.prog.cellsOf 179 = 1 := by kernel_rfl
theorem cells180 : Tryz.prog.cellsOf 180 = 1 := by kernel_rfl
theorem cells181 : Tryz.prog.cellsOf 181 = 2 := by kernel_rfl
theorem cells182 : Tryz.prog.cellsOf 182 = 2 := by kernel_rfl
theorem cells183 : Tryz.prog.cellsOf 183 = 1 := by kernel_rfl
theorem cells184 : Tryz.prog.cellsOf 184 = 1 := by kernel_rfl
theorem cells185 : Tryz.prog.cellsOf 185 = 1 := by kernel_rfl
theorem cells186 : Tryz.prog.cellsOf 186 = 1 := by kernel_rfl
theorem cells187 : Tryz.prog.cellsOf 187 = 1 := by kernel_rfl
theorem cells188 : Tryz.prog.cellsOf 188 = 1 := by kernel_rfl
theorem cells189 : Tryz.prog.cellsOf 189 = 1 := by kernel_rfl
theorem cells190 : Tryz.prog.cellsOf 190 = 1 := by kernel_rfl
theorem cells191 : Tryz.prog.cellsOf 191 = 1 := by kernel_rfl
theorem cells192 : Tryz.prog.cellsOf 192 = 1 := by kernel_rfl
theorem cells193 : Tryz.prog.cellsOf 193 = 1 := by kernel_rfl
theorem cells194 : Tryz.prog.cellsOf 194 = 1 := by kernel_rfl
theorem cells195 : Tryz.prog.cellsOf 195 = 1 := by kernel_rfl
theorem cells196 : Tryz.prog.cellsOf 196 = 1 := by kernel_rfl
theorem cells197 : Tryz.prog.cellsOf 197 = 1 := by kernel_rfl
theorem cells198 : Tryz.prog.cellsOf 198 = 1 := by kernel_rfl
theorem cells199 : Tryz.prog.cellsOf 199 = 1 := by kernel_rfl
theorem cells200 : Tryz.prog.cellsOf 200 = 1 := by kernel_rfl
theorem cells201 : Tryz.prog.cellsOf 201 = 1 := by kernel_rfl
theorem cells202 : Tryz.prog.cellsOf 202 = 1 := by kernel_rfl
theorem cells203 : Tryz.prog.cellsOf 203 = 1 := by kernel_rfl
theorem cells204 : Tryz.prog.cellsOf 204 = 1 := by kernel_rfl
theorem cells205 : Tryz.prog.cellsOf 205 = 4 := by kernel_rfl
theorem cells206 : Tryz.prog.cellsOf 206 = 4 := by kernel_rfl
theorem cells207 : Tryz.prog.cellsOf 207 = 10 := by kernel_rfl
theorem cells208 : Tryz.prog.cellsOf 208 = 10 := by kernel_rfl
theorem cells209 : Tryz.prog.cellsOf 209 = 1 := by kernel_rfl
theorem cells210 : Tryz.prog.cellsOf 210 = 1 := by kernel_rfl
theorem cells211 : Tryz.prog.cellsOf 211 = 2 := by kernel_rfl
theorem cells212 : Tryz.prog.cellsOf 212 = 2 := by kernel_rfl
theorem cells213 : Tryz.prog.cellsOf 213 = 1 := by kernel_rfl
theorem cells214 : Tryz.prog.cellsOf 214 = 1 := by kernel_rfl
theorem cells215 : Tryz.prog.cellsOf 215 = 4 := by kernel_rfl
theorem cells216 : Tryz.prog.cellsOf 216 = 4 := by kernel_rfl
theorem cells217 : Tryz.prog.cellsOf 217 = 1 := by kernel_rfl
theorem cells218 : Tryz.prog.cellsOf 218 = 1 := by kernel_rfl
theorem cells219 : Tryz.prog.cellsOf 219 = 1 := by kernel_rfl
theorem cells220 : Tryz.prog.cellsOf 220 = 1 := by kernel_rfl
theorem cells221 : Tryz.prog.cellsOf 221 = 1 := by kernel_rfl
theorem cells222 : Tryz.prog.cellsOf 222 = 1 := by kernel_rfl
theorem cells223 : Tryz.prog.cellsOf 223 = 1 := by kernel_rfl
theorem cells224 : Tryz.prog.cellsOf 224 = 1 := by kernel_rfl
theorem cells225 : Tryz.prog.cellsOf 225 = 1 := by kernel_rfl
theorem cells226 : Tryz.prog.cellsOf 226 = 1 := by kernel_rfl
theorem cells227 : Tryz.prog.cellsOf 227 = 1 := by kernel_rfl
theorem cells228 : Tryz.prog.cellsOf 228 = 1 := by kernel_rfl
theorem cells229 : Tryz.prog.cellsOf 229 = 32 := by kernel_rfl
theorem cells230 : Tryz.prog.cellsOf 230 = 37 := by kernel_rfl
theorem cells231 : Tryz.prog.cellsOf 231 = 37 := by kernel_rfl
theorem cells232 : Tryz.prog.cellsOf 232 = 1 := by kernel_rfl
theorem cells233 : Tryz.prog.cellsOf 233 = 1 := by kernel_rfl
theorem cells234 : Tryz.prog.cellsOf 234 = 3 := by kernel_rfl
theorem cells235 : Tryz.prog.cellsOf 235 = 3 := by kernel_rfl
theorem cells236 : Tryz.prog.cellsOf 236 = 1 := by kernel_rfl
theorem cells237 : Tryz.prog.cellsOf 237 = 1 := by kernel_rfl
theorem cells238 : Tryz.prog.cellsOf 238 = 1 := by kernel_rfl
theorem cells239 : Tryz.prog.cellsOf 239 = 7 := by kernel_rfl
theorem cells240 : Tryz.prog.cellsOf 240 = 7 := by kernel_rfl
theorem cells241 : Tryz.prog.cellsOf 241 = 2 := by kernel_rfl
theorem cells242 : Tryz.prog.cellsOf 242 = 2 := by kernel_rfl
theorem cells243 : Tryz.prog.cellsOf 243 = 1 := by kernel_rfl
theorem cells244 : Tryz.prog.cellsOf 244 = 1 := by kernel_rfl
theorem cells245 : Tryz.prog.cellsOf 245 = 1 := by kernel_rfl
theorem cells246 : Tryz.prog.cellsOf 246 = 1 := by kernel_rfl
theorem cells247 : Tryz.prog.cellsOf 247 = 1 := by kernel_rfl
theorem cells248 : Tryz.prog.cellsOf 248 = 1 := by kernel_rfl
theorem cells249 : Tryz.prog.cellsOf 249 = 1 := by kernel_rfl
theorem cells250 : Tryz.prog.cellsOf 250 = 1 := by kernel_rfl
theorem cells251 : Tryz.prog.cellsOf 251 = 1 := by kernel_rfl
theorem cells252 : Tryz.prog.cellsOf 252 = 1 := by kernel_rfl
theorem cells253 : Tryz.prog.cellsOf 253 = 1 := by kernel_rfl
theorem cells254 : Tryz.prog.cellsOf 254 = 4 := by kernel_rfl
theorem cells255 : Tryz.prog.cellsOf 255 = 4 := by kernel_rfl
theorem cells256 : Tryz.prog.cellsOf 256 = 1 := by kernel_rfl
theorem cells257 : Tryz.prog.cellsOf 257 = 3 := by kernel_rfl
theorem cells258 : Tryz.prog.cellsOf 258 = 3 := by kernel_rfl
theorem cells259 : Tryz.prog.cellsOf 259 = 1 := by kernel_rfl
theorem cells260 : Tryz.prog.cellsOf 260 = 1 := by kernel_rfl
theorem cells261 : Tryz.prog.cellsOf 261 = 1 := by kernel_rfl
theorem cells262 : Tryz.prog.cellsOf 262 = 1 := by kernel_rfl
theorem cells263 : Tryz.prog.cellsOf 263 = 1 := by kernel_rfl
theorem cells264 : Tryz.prog.cellsOf 264 = 1 := by kernel_rfl
theorem cells265 : Tryz.prog.cellsOf 265 = 1 := by kernel_rfl
theorem cells266 : Tryz.prog.cellsOf 266 = 1 := by kernel_rfl
theorem cells267 : Tryz.prog.cellsOf 267 = 3 := by kernel_rfl
theorem cells268 : Tryz.prog.cellsOf 268 = 3 := by kernel_rfl
theorem cells269 : Tryz.prog.cellsOf 269 = 1 := by kernel_rfl
theorem cells270 : Tryz.prog.cellsOf 270 = 1 := by kernel_rfl
theorem cells271 : Tryz.prog.cellsOf 271 = 1 := by kernel_rfl
theorem cells272 : Tryz.prog.cellsOf 272 = 1 := by kernel_rfl
theorem cells273 : Tryz.prog.cellsOf 273 = 1 := by kernel_rfl
theorem cells274 : Tryz.prog.cellsOf 274 = 3 := by kernel_rfl
theorem cells275 : Tryz.prog.cellsOf 275 = 3 := by kernel_rfl
theorem cells276 : Tryz.prog.cellsOf 276 = 1 := by kernel_rfl
theorem cells277 : Tryz.prog.cellsOf 277 = 1 := by kernel_rfl
theorem cells278 : Tryz.prog.cellsOf 278 = 1 := by kernel_rfl
theorem cells279 : Tryz.prog.cellsOf 279 = 1 := by kernel_rfl
theorem cells280 : Tryz.prog.cellsOf 280 = 1 := by kernel_rfl
theorem cells281 : Tryz.prog.cellsOf 281 = 1 := by kernel_rfl
theorem cells282 : Tryz.prog.cellsOf 282 = 2 := by kernel_rfl
theorem cells283 : Tryz.prog.cellsOf 283 = 2 := by kernel_rfl
theorem cells284 : Tryz.prog.cellsOf 284 = 1 := by kernel_rfl
theorem cells285 : Tryz.prog.cellsOf 285 = 1 := by kernel_rfl
theorem cells286 : Tryz.prog.cellsOf 286 = 11 := by kernel_rfl
theorem cells287 : Tryz.prog.cellsOf 287 = 11 := by kernel_rfl
theorem cells288 : Tryz.prog.cellsOf 288 = 1 := by kernel_rfl
theorem cells289 : Tryz.prog.cellsOf 289 = 3 := by kernel_rfl
theorem cells290 : Tryz.prog.cellsOf 290 = 3 := by kernel_rfl
theorem cells291 : Tryz.prog.cellsOf 291 = 4 := by kernel_rfl
theorem cells292 : Tryz.prog.cellsOf 292 = 4 := by kernel_rfl
theorem cells293 : Tryz.prog.cellsOf 293 = 1 := by kernel_rfl
theorem cells294 : Tryz.prog.cellsOf 294 = 3 := by kernel_rfl
theorem cells295 : Tryz.prog.cellsOf 295 = 3 := by kernel_rfl
theorem cells296 : Tryz.prog.cellsOf 296 = 1 := by kernel_rfl
theorem cells297 : Tryz.prog.cellsOf 297 = 1 := by kernel_rfl
theorem cells298 : Tryz.prog.cellsOf 298 = 2 := by kernel_rfl
theorem cells299 : Tryz.prog.cellsOf 299 = 2 := by kernel_rfl
theorem cells300 : Tryz.prog.cellsOf 300 = 1 := by kernel_rfl
theorem cells301 : Tryz.prog.cellsOf 301 = 1 := by kernel_rfl
theorem cells302 : Tryz.prog.cellsOf 302 = 3 := by kernel_rfl
theorem cells303 : Tryz.prog.cellsOf 303 = 3 := by kernel_rfl
theorem cells304 : Tryz.prog.cellsOf 304 = 1 := by kernel_rfl
theorem cells305 : Tryz.prog.cellsOf 305 = 1 := by kernel_rfl
theorem cells306 : Tryz.prog.cellsOf 306 = 1 := by kernel_rfl
theorem cells307 : Tryz.prog.cellsOf 307 = 1 := by kernel_rfl
theorem cells308 : Tryz.prog.cellsOf 308 = 1 := by kernel_rfl
theorem cells309 : Tryz.prog.cellsOf 309 = 1 := by kernel_rfl
theorem cells310 : Tryz.prog.cellsOf 310 = 1 := by kernel_rfl
theorem cells311 : Tryz.prog.cellsOf 311 = 2 := by kernel_rfl
theorem cells312 : Tryz.prog.cellsOf 312 = 2 := by kernel_rfl
theorem cells313 : Tryz.prog.cellsOf 313 = 48 := by kernel_rfl
theorem cells314 : Tryz.prog.cellsOf 314 = 48 := by kernel_rfl
theorem cells315 : Tryz.prog.cellsOf 315 = 1 := by kernel_rfl
theorem cells316 : Tryz.prog.cellsOf 316 = 1 := by kernel_rfl
theorem cells317 : Tryz.prog.cellsOf 317 = 1 := by kernel_rfl
theorem cells318 : Tryz.prog.cellsOf 318 = 1 := by kernel_rfl
theorem cells319 : Tryz.prog.cellsOf 319 = 1 := by kernel_rfl
theorem cells320 : Tryz.prog.cellsOf 320 = 1 := by kernel_rfl
theorem cells321 : Tryz.prog.cellsOf 321 = 1 := by kernel_rfl
theorem cells322 : Tryz.prog.cellsOf 322 = 1 := by kernel_rfl
theorem cells323 : Tryz.prog.cellsOf 323 = 1 := by kernel_rfl
theorem cells324 : Tryz.prog.cellsOf 324 = 1 := by kernel_rfl
theorem cells325 : Tryz.prog.cellsOf 325 = 1 := by kernel_rfl
theorem cells326 : Tryz.prog.cellsOf 326 = 1 := by kernel_rfl
theorem cells327 : Tryz.prog.cellsOf 327 = 1 := by kernel_rfl
theorem cells328 : Tryz.prog.cellsOf 328 = 1 := by kernel_rfl
theorem cells329 : Tryz.prog.cellsOf 329 = 1 := by kernel_rfl
theorem cells330 : Tryz.prog.cellsOf 330 = 1 := by kernel_rfl
theorem cells331 : Tryz.prog.cellsOf 331 = 4 := by kernel_rfl
theorem cells332 : Tryz.prog.cellsOf 332 = 4 := by kernel_rfl
theorem cells333 : Tryz.prog.cellsOf 333 = 1 := by kernel_rfl
theorem cells334 : Tryz.prog.cellsOf 334 = 1 := by kernel_rfl
theorem cells335 : Tryz.prog.cellsOf 335 = 1 := by kernel_rfl
theorem cells336 : Tryz.prog.cellsOf 336 = 1 := by kernel_rfl
theorem cells337 : Tryz.prog.cellsOf 337 = 1 := by kernel_rfl
theorem cells338 : Tryz.prog.cellsOf 338 = 1 := by kernel_rfl
theorem cells339 : Tryz.prog.cellsOf 339 = 1 := by kernel_rfl
theorem cells340 : Tryz.prog.cellsOf 340 = 1 := by kernel_rfl
theorem cells341 : Tryz.prog.cellsOf 341 = 1 := by kernel_rfl
theorem cells342 : Tryz.prog.cellsOf 342 = 1 := by kernel_rfl
theorem cells343 : Tryz.prog.cellsOf 343 = 1 := by kernel_rfl
theorem cells344 : Tryz.prog.cellsOf 344 = 1 := by kernel_rfl
theorem cells345 : Tryz.prog.cellsOf 345 = 1 := by kernel_rfl
theorem cells346 : Tryz.prog.cellsOf 346 = 1 := by kernel_rfl
theorem cells347 : Tryz.prog.cellsOf 347 = 1 := by kernel_rfl
theorem cells348 : Tryz.prog.cellsOf 348 = 1 := by kernel_rfl
theorem cells349 : Tryz.prog.cellsOf 349 = 1 := by kernel_rfl
theorem cells350 : Tryz.prog.cellsOf 350 = 1 := by kernel_rfl
theorem cells351 : Tryz.prog.cellsOf 351 = 1 := by kernel_rfl
theorem cells352 : Tryz.prog.cellsOf 352 = 1 := by kernel_rfl
theorem cells353 : Tryz.prog.cellsOf 353 = 1 := by kernel_rfl
theorem cells354 : Tryz.prog.cellsOf 354 = 4 := by kernel_rfl
theorem cells355 : Tryz.prog.cellsOf 355 = 4 := by kernel_rfl
theorem cells356 : Tryz.prog.cellsOf 356 = 0 := by kernel_rfl
theorem cells357 : Tryz.prog.cellsOf 357 = 0 := by kernel_rfl
theorem cells358 : Tryz.prog.cellsOf 358 = 0 := by kernel_rfl
theorem cells359 : Tryz.prog.cellsOf 359 = 1 := by kernel_rfl
theorem cells360 : Tryz.prog.cellsOf 360 = 1 := by kernel_rfl
theorem cells361 : Tryz.prog.cellsOf 361 = 1 := by kernel_rfl
theorem cells362 : Tryz.prog.cellsOf 362 = 1 := by kernel_rfl
theorem cells363 : Tryz.prog.cellsOf 363 = 1 := by kernel_rfl
theorem cells364 : Tryz.prog.cellsOf 364 = 1 := by kernel_rfl
theorem cells365 : Tryz.prog.cellsOf 365 = 11 := by kernel_rfl
theorem cells366 : Tryz.prog.cellsOf 366 = 11 := by kernel_rfl
theorem cells367 : Tryz.prog.cellsOf 367 = 1 := by kernel_rfl
theorem zer0 : zer Tryz.prog 0 = some ((Go.Value.tuple #[])) := by kernel_rfl
theorem zer1 : zer Tryz.prog 1 = some (Go.Value.nilFunc) := by kernel_rfl
theorem zer2 : zer Tryz.prog 2 = some ((Go.Value.int Go.IntKind.i64 0)) := by kernel_rfl
theorem zer3 : zer Tryz.prog 3 = some ((Go.Value.int Go.IntKind.i64 0)) := by kernel_rfl
theorem zer4 : zer Tryz.prog 4 = some ((Go.Value.bool Bool.false)) := by kernel_rfl
theorem zer5 : zer Tryz.prog 5 = some ((Go.Value.int Go.IntKind.u8 0)) := by kernel_rfl
theorem zer6 : zer Tryz.prog 6 = some ((Go.Value.int Go.IntKind.u8 0)) := by kernel_rfl
theorem zer7 : zer Tryz.prog 7 = some ((Go.Value.agg #[Go.Value.int Go.IntKind.i64 0, Go.Value.int Go.IntKind.i64 0, Go.Value.bool Bool.false, Go.Value.int Go.IntKind.u8 0])) := by kernel_rfl
theorem zer8 : zer Tryz.prog 8 = some ((Go.Value.agg #[Go.Value.int Go.IntKind.i64 0, Go.Value.int Go.IntKind.i64 0, Go.Value.bool Bool.false, Go.Value.int Go.IntKind.u8 0])) := by kernel_rfl
theorem zer9 : zer Tryz.prog 9 = some ((Go.Value.string { data := #[] })) := by kernel_rfl
theorem zer10 : zer Tryz.prog 10 = some ((Go.Value.string { data := #[] })) := by kernel_rfl
theorem zer11 : zer Tryz.prog 11 = some ((Go.Value.string { data := #[] })) := by kernel_rfl
theorem zer12 : zer Tryz.prog 12 = some ((Go.Value.int Go.IntKind.u64 0)) := by kernel_rfl
theorem zer13 : zer Tryz.prog 13 = some ((Go.Value.agg #[Go.Value.string { data := #[] }, Go.Value.int Go.IntKind.u64 0])) := by kernel_rfl
theorem zer14 : zer Tryz.prog 14 = some ((Go.Value.agg #[Go.Value.string { data := #[] }, Go.Value.int Go.IntKind.u64 0])) := by kernel_rfl
theorem zer15 : zer Tryz.prog 15 = some ((Go.Value.pointer Option.none)) := by kernel_rfl
theorem zer16 : zer Tryz.prog 16 = some ((Go.Value.pointer Option.none)) := by kernel_rfl
theorem zer17 : zer Tryz.prog 17 = some ((Go.Value.pointer Option.none)) := by kernel_rfl
theorem zer18 : zer Tryz.prog 18 = some ((Go.Value.agg #[Go.Value.pointer Option.none])) := by kernel_rfl
theorem zer19 : zer Tryz.prog 19 = some ((Go.Value.agg #[Go.Value.pointer Option.none])) := by kernel_rfl
theorem zer20 : zer Tryz.prog 20 = some (Go.Value.nilIface) := by kernel_rfl
theorem zer21 : zer Tryz.prog 21 = some ((Go.Value.int Go.IntKind.i32 0)) := by kernel_rfl
theorem zer22 : zer Tryz.prog 22 = some ((Go.Value.slice Option.none 0 0)) := by kernel_rfl
theorem zer23 : zer Tryz.prog 23 = some (Go.Value.nilFunc) := by kernel_rfl
theorem zer24 : zer Tryz.prog 24 = some ((Go.Value.pointer Option.none)) := by kernel_rfl
theorem zer25 : zer Tryz.prog 25 = some ((Go.Value.int Go.IntKind.i64 0)) := by kernel_rfl
theorem zer26 : zer Tryz.prog 26 = some ((Go.Value.tuple #[Go.Value.pointer Option.none, Go.Value.int Go.IntKind.i64 0])) := by kernel_rfl
theorem zer27 : zer Tryz.prog 27 = some (Go.Value.nilFunc) := by kernel_rfl
theorem zer28 : zer Tryz.prog 28 = some ((Go.Value.agg #[Go.Value.int Go.IntKind.i64 0, Go.Value.int Go.IntKind.i64 0, Go.Value.int Go.IntKind.i64 0, Go.Value.int Go.IntKind.i64 0, Go.Value.int Go.IntKind.i64 0, Go.Value.int Go.IntKind.i64 0, Go.Value.int Go.IntKind.i64 0, Go.Value.int Go.IntKind.i64 0, Go.Value.int Go.IntKind.i64 0, Go.Value.int Go.IntKind.i64 0, Go.Value.int Go.IntKind.i64 0, Go.Value.int Go.IntKind.i64 0, Go.Value.int Go.IntKind.i64 0, Go.Value.int Go.IntKind.i64 0, Go.Value.int Go.IntKind.i64 0, Go.Value.int Go.IntKind.i64 0, Go.Value.int Go.IntKind.i64 0, Go.Value.int Go.IntKind.i64 0, Go.Value.int Go.IntKind.i64 0, Go.Value.int Go.IntKind.i64 0])) := by kernel_rfl
theorem zer29 : zer Tryz.prog 29 = some ((Go.Value.agg #[Go.Value.int Go.IntKind.i64 0, Go.Value.int Go.IntKind.i64 0, Go.Value.int Go.IntKind.i64 0, Go.Value.int Go.IntKind.i64 0, Go.Value.int Go.IntKind.i64 0, Go.Value.int Go.IntKind.i64 0, Go.Value.int Go.IntKind.i64 0, Go.Value.int Go.IntKind.i64 0, Go.Value.int Go.IntKind.i64 0, Go.Value.int Go.IntKind.i64 0, Go.Value.int Go.IntKind.i64 0, Go.Value.int Go.IntKind.i64 0, Go.Value.int Go.IntKind.i64 0, Go.Value.int Go.IntKind.i64 0, Go.Value.int Go.IntKind.i64 0, Go.Value.int Go.IntKind.i64 0, Go.Value.int Go.IntKind.i64 0, Go.Value.int Go.IntKind.i64 0, Go.Value.int Go.IntKind.i64 0, Go.Value.int Go.IntKind.i64 0])) := by kernel_rfl
theorem zer30 : zer Tryz.prog 30 = some (Go.Value.nilFunc) := by kernel_rfl
theorem zer31 : zer Tryz.prog 31 = some ((Go.Value.agg #[Go.Value.int Go.IntKind.u8 0, Go.Value.int Go.IntKind.u8 0, Go.Value.int Go.IntKind.u8 0, Go.Value.int Go.IntKind.u8 0, Go.Value.int Go.IntKind.u8 0, Go.Value.int Go.IntKind.u8 0, Go.Value.int Go.IntKind.u8 0, Go.Value.int Go.IntKind.u8 0, Go.Value.int Go.IntKind.u8 0, Go.Value.int Go.IntKind.u8 0, Go.Value.int Go.IntKind.u8 0, Go.Value.int Go.IntKind.u8 0, Go.Value.int Go.IntKind.u8 0, Go.Value.int Go.IntKind.u8 0, Go.Value.int Go.IntKind.u8 0, Go.Value.int Go.IntKind.u8 0])) := by kernel_rfl
theorem zer32 : zer Tryz.prog 32 = some (Go.Value.nilFunc) := by kernel_rfl
theorem zer33 : zer Tryz.prog 33 = some (Go.Value.nilFunc) := by kernel_rfl
theorem zer34 : zer Tryz.prog 34 = some ((Go.Value.agg #[Go.Value.int Go.IntKind.i64 0, Go.Value.int Go.IntKind.i64 0, Go.Value.int Go.IntKind.i64 0, Go.Value.int Go.IntKind.i64 0, Go.Value.int Go.IntKind.i64 0, Go.Value.int Go.IntKind.i64 0, Go.Value.int Go.IntKind.i64 0, Go.Value.int Go.IntKind.i64 0, Go.Value.int Go.IntKind.i64 0, Go.Value.int Go.IntKind.i64 0, Go.Value.int Go.IntKind.i64 0, Go.Value.int Go.IntKind.i64 0, Go.Value.int Go.IntKind.i64 0, Go.Value.int Go.IntKind.i64 0, Go.Value.int Go.IntKind.i64 0])) := by kernel_rfl
theorem zer35 : zer Tryz.prog 35 = some ((Go.Value.agg #[Go.Value.int Go.IntKind.i64 0, Go.Value.int Go.IntKind.i64 0, Go.Value.int Go.IntKind.i64 0, Go.Value.int Go.IntKind.i64 0, Go.Value.int Go.IntKind.i64 0, Go.Value.int Go.IntKind.i64 0, Go.Value.int Go.IntKind.i64 0, Go.Value.int Go.IntKind.i64 0, Go.Value.int Go.IntKind.i64 0, Go.Value.int Go.IntKind.i64 0, Go.Value.int Go.IntKind.i64 0, Go.Value.int Go.IntKind.i64 0, Go.Value.int Go.IntKind.i64 0, Go.Value.int Go.IntKind.i64 0, Go.Value.int Go.IntKind.i64 0, Go.Value.int Go.IntKind.i64 0])) := by kernel_rfl
theorem zer36 : zer Tryz.prog 36 = some ((Go.Value.agg #[Go.Value.int Go.IntKind.i64 0, Go.Value.int Go.IntKind.i64 0, Go.Value.int Go.IntKind.i64 0, Go.Value.int Go.IntKind.i64 0, Go.Value.int Go.IntKind.i64 0, Go.Value.int Go.IntKind.i64 0, Go.Value.int Go.IntKind.i64 0, Go.Value.int Go.IntKind.i64 0, Go.Value.int Go.IntKind.i64 0, Go.Value.int Go.IntKind.i64 0, Go.Value.int Go.IntKind.i64 0, Go.Value.int Go.IntKind.i64 0, Go.Value.int Go.IntKind.i64 0, Go.Value.int Go.IntKind.i64 0, Go.Value.int Go.IntKind.i64 0, Go.Value.int Go.IntKind.i64 0, Go.Value.int Go.IntKind.i64 0, Go.Value.int Go.IntKind.i64 0, Go.Value.int Go.IntKind.i64 0, Go.Value.int Go.IntKind.i64 0, Go.Value.int Go.IntKind.i64 0, Go.Value.int Go.IntKind.i64 0, Go.Value.int Go.IntKind.i64 0, Go.Value.int Go.IntKind.i64 0, Go.Value.int Go.IntKind.i64 0, Go.Value.int Go.IntKind.i64 0, Go.Value.int Go.IntKind.i64 0, Go.Value.int Go.IntKind.i64 0, Go.Value.int Go.IntKind.i64 0, Go.Value.int Go.IntKind.i64 0, Go.Value.int Go.IntKind.i64 0])) := by kernel_rfl
theorem zer37 : zer Tryz.prog 37 = some ((Go.Value.agg #[Go.Value.int Go.IntKind.i64 0, Go.Value.int Go.IntKind.i64 0, Go.Value.int Go.IntKind.i64 0, Go.Value.int Go.IntKind.i64 0, Go.Value.int Go.IntKind.i64 0, Go.Value.int Go.IntKind.i64 0, Go.Value.int Go.IntKind.i64 0, Go.Value.int Go.IntKind.i64 0, Go.Value.int Go.IntKind.i64 0, Go.Value.int Go.IntKind.i64 0, Go.Value.int Go.IntKind.i64 0, Go.Value.int Go.IntKind.i64 0, Go.Value.int Go.IntKind.i64 0, Go.Value.int Go.IntKind.i64 0, Go.Value.int Go.IntKind.i64 0, Go.Value.int Go.IntKind.i64 0, Go.Value.int Go.IntKind.i64 0, Go.Value.int Go.IntKind.i64 0, Go.Value.int Go.IntKind.i64 0, Go.Value.int Go.IntKind.i64 0, Go.Value.int Go.IntKind.i64 0, Go.Value.int Go.IntKind.i64 0, Go.Value.int Go.IntKind.i64 0, Go.Value.int Go.IntKind.i64 0, Go.Value.int Go.IntKind.i64 0, Go.Value.int Go.IntKind.i64 0, Go.Value.int Go.IntKind.i64 0, Go.Value.int Go.IntKind.i64 0, Go.Value.int Go.IntKind.i64 0, Go.Value.int Go.IntKind.i64 0, Go.Value.int Go.IntKind.i64 0])) := by kernel_rfl
theorem zer38 : zer Tryz.prog 38 = some (Go.Value.nilFunc) := by kernel_rfl
theorem zer39 : zer Tryz.prog 39 = some (Go.Value.nilFunc) := by kernel_rfl
theorem zer40 : zer Tryz.prog 40 = some ((Go.Value.slice Option.none 0 0)) := by kernel_rfl
theorem zer41 : zer Tryz.prog 41 = some ((Go.Value.int Go.IntKind.u64 0)) := by kernel_rfl
theorem zer42 : zer Tryz.prog 42 = some ((Go.Value.agg #[Go.Value.int Go.IntKind.u64 0, Go.Value.int Go.IntKind.u64 0])) := by kernel_rfl
theorem zer43 : zer Tryz.prog 43 = some ((Go.Value.agg #[Go.Value.int Go.IntKind.u8 0, Go.Value.int Go.IntKind.u8 0, Go.Value.int Go.IntKind.u8 0, Go.Value.int Go.IntKind.u8 0, Go.Value.int Go.IntKind.u8 0, Go.Value.int Go.IntKind.u8 0, Go.Value.int Go.IntKind.u8 0])) := by kernel_rfl
theorem zer44 : zer Tryz.prog 44 = some ((Go.Value.agg #[Go.Value.bool Bool.false, Go.Value.int Go.IntKind.u8 0, Go.Value.int Go.IntKind.u8 0, Go.Value.int Go.IntKind.u8 0, Go.Value.int Go.IntKind.u8 0, Go.Value.int Go.IntKind.u8 0, Go.Value.int Go.IntKind.u8 0, Go.Value.int Go.IntKind.u8 0])) := by kernel_rfl
theorem zer45 : zer Tryz.prog 45 = some ((Go.Value.agg #[Go.Value.bool Bool.false, Go.Value.int Go.IntKind.u8 0, Go.Value.int Go.IntKind.u8 0, Go.Value.int Go.IntKind.u8 0, Go.Value.int Go.IntKind.u8 0, Go.Value.int Go.IntKind.u8 0, Go.Value.int Go.IntKind.u8 0, Go.Value.int Go.IntKind.u8 0])) := by kernel_rfl
theorem zer46 : zer Tryz.prog 46 = some ((Go.Value.agg #[Go.Value.int Go.IntKind.u8 0, Go.Value.slice Option.none 0 0, Go.Value.int Go.IntKind.u64 0, Go.Value.int Go.IntKind.u64 0, Go.Value.int Go.IntKind.i64 0, Go.Value.int Go.IntKind.u8 0, Go.Value.int Go.IntKind.u8 0, Go.Value.int Go.IntKind.u8 0, Go.Value.int Go.IntKind.u8 0, Go.Value.int Go.IntKind.u8 0, Go.Value.int Go.IntKind.u8 0, Go.Value.int Go.IntKind.u8 0, Go.Value.int Go.IntKind.u8 0, Go.Value.int Go.IntKind.u8 0, Go.Value.int Go.IntKind.u8 0, Go.Value.int Go.IntKind.u8 0, Go.Value.int Go.IntKind.u8 0, Go.Value.int Go.IntKind.u8 0, Go.Value.int Go.IntKind.u8 0, Go.Value.int Go.IntKind.u8 0, Go.Value.int Go.IntKind.u8 0, Go.Value.bool Bool.false, Go.Value.int Go.IntKind.u8 0, Go.Value.int Go.IntKind.u8 0, Go.Value.int Go.IntKind.u8 0, Go.Value.int Go.IntKind.u8 0, Go.Value.int Go.IntKind.u8 0, Go.Value.int Go.IntKind.u8 0, Go.Value.int Go.IntKind.u8 0, Go.Value.int Go.IntKind.i64 0, Go.Value.int Go.IntKind.i64 0, Go.Value.int Go.IntKind.i64 0, Go.Value.int Go.IntKind.i64 0, Go.Value.int Go.IntKind.i64 0, Go.Value.int Go.IntKind.i64 0, Go.Value.int Go.IntKind.i64 0, Go.Value.int Go.IntKind.i64 0, Go.Value.int Go.IntKind.i64 0, Go.Value.int Go.IntKind.i64 0, Go.Value.int Go.IntKind.i64 0, Go.Value.int Go.IntKind.i64 0, Go.Value.int Go.IntKind.i64 0, Go.Value.int Go.IntKind.i64 0, Go.Value.int Go.IntKind.i64 0, Go.Value.int Go.IntKind.i64 0, Go.Value.int Go.IntKind.i64 0, Go.Value.int Go.IntKind.i64 0, Go.Value.int Go.IntKind.i64 0, Go.Value.int Go.IntKind.i64 0])) := by kernel_rfl
theorem zer47 : zer Tryz.prog 47 = some ((Go.Value.agg #[Go.Value.int Go.IntKind.u8 0, Go.Value.slice Option.none 0 0, Go.Value.int Go.IntKind.u64 0, Go.Value.int Go.IntKind.u64 0, Go.Value.int Go.IntKind.i64 0, Go.Value.int Go.IntKind.u8 0, Go.Value.int Go.IntKind.u8 0, Go.Value.int Go.IntKind.u8 0, Go.Value.int Go.IntKind.u8 0, Go.Value.int Go.IntKind.u8 0, Go.Value.int Go.IntKind.u8 0, Go.Value.int Go.IntKind.u8 0, Go.Value.int Go.IntKind.u8 0, Go.Value.int Go.IntKind.u8 0, Go.Value.int Go.IntKind.u8 0, Go.Value.int Go.IntKind.u8 0, Go.Value.int Go.IntKind.u8 0, Go.Value.int Go.IntKind.u8 0, Go.Value.int Go.IntKind.u8 0, Go.Value.int Go.IntKind.u8 0, Go.Value.int Go.IntKind.u8 0, Go.Value.bool Bool.false, Go.Value.int Go.IntKind.u8 0, Go.Value.int Go.IntKind.u8 0, Go.Value.int Go.IntKind.u8 0, Go.Value.int Go.IntKind.u8 0, Go.Value.int Go.IntKind.u8 0, Go.Value.int Go.IntKind.u8 0, Go.Value.int Go.IntKind.u8 0, Go.Value.int Go.IntKind.i64 0, Go.Value.int Go.IntKind.i64 0, Go.Value.int Go.IntKind.i64 0, Go.Value.int Go.IntKind.i64 0, Go.Value.int Go.IntKind.i64 0, Go.Value.int Go.IntKind.i64 0, Go.Value.int Go.IntKind.i64 0, Go.Value.int Go.IntKind.i64 0, Go.Value.int Go.IntKind.i64 0, Go.Value.int Go.IntKind.i64 0, Go.Value.int Go.IntKind.i64 0, Go.Value.int Go.IntKind.i64 0, Go.Value.int Go.IntKind.i64 0, Go.Value.int Go.IntKind.i64 0, Go.Value.int Go.IntKind.i64 0, Go.Value.int Go.IntKind.i64 0, Go.Value.int Go.IntKind.i64 0, Go.Value.int Go.IntKind.i64 0, Go.Value.int Go.IntKind.i64 0, Go.Value.int Go.IntKind.i64 0])) := by kernel_rfl
theorem zer48 : zer Tryz.prog 48 = some ((Go.Value.agg #[Go.Value.int Go.IntKind.i64 0, Go.Value.int Go.IntKind.i64 0, Go.Value.int Go.IntKind.i64 0, Go.Value.int Go.IntKind.i64 0, Go.Value.int Go.IntKind.i64 0])) := by kernel_rfl
theorem zer49 : zer Tryz.prog 49 = some ((Go.Value.agg #[Go.Value.int Go.IntKind.i64 0, Go.Value.int Go.IntKind.i64 0, Go.Value.int Go.IntKind.i64 0, Go.Value.int Go.IntKind.i64 0, Go.Value.int Go.IntKind.i64 0])) := by kernel_rfl
theorem zer50 : zer Tryz.prog 50 = some ((Go.Value.tuple #[Go.Value.agg #[Go.Value.int Go.IntKind.i64 0, Go.Value.int Go.IntKind.i64 0, Go.Value.int Go.IntKind.i64 0, Go.Value.int Go.IntKind.i64 0, Go.Value.int Go.IntKind.i64 0], Go.Value.bool Bool.false])) := by kernel_rfl
theorem zer51 : zer Tryz.prog 51 = some (Go.Value.nilFunc) := by kernel_rfl
theorem zer52 : zer Tryz.prog 52 = some ((Go.Value.int Go.IntKind.i64 0)) := by kernel_rfl
theorem zer53 : zer Tryz.prog 53 = some ((Go.Value.agg #[Go.Value.int Go.IntKind.i64 0, Go.Value.int Go.IntKind.i64 0, Go.Value.int Go.IntKind.i64 0, Go.Value.int Go.IntKind.i64 0, Go.Value.bool Bool.false, Go.Value.bool Bool.false])) := by kernel_rfl
theorem zer54 : zer Tryz.prog 54 = some ((Go.Value.agg #[Go.Value.int Go.IntKind.i64 0, Go.Value.int Go.IntKind.i64 0, Go.Value.int Go.IntKind.i64 0, Go.Value.int Go.IntKind.i64 0, Go.Value.bool Bool.false, Go.Value.bool Bool.false])) := by kernel_rfl
theorem zer55 : zer Tryz.prog 55 = some (Go.Value.nilFunc) := by kernel_rfl
theorem zer56 : zer Tryz.prog 56 = some (Go.Value.nilFunc) := by kernel_rfl
theorem zer57 : zer Tryz.prog 57 = some (Go.Value.nilFunc) := by kernel_rfl
theorem zer58 : zer Tryz.prog 58 = some (Go.Value.nilFunc) := by kernel_rfl
theorem zer59 : zer Tryz.prog 59 = some (Go.Value.nilFunc) := by kernel_rfl
theorem zer60 : zer Tryz.prog 60 = some (Go.Value.nilFunc) := by kernel_rfl
theorem zer61 : zer Tryz.prog 61 = some ((Go.Value.slice Option.none 0 0)) := by kernel_rfl
theorem zer62 : zer Tryz.prog 62 = some (Go.Value.nilFunc) := by kernel_rfl
theorem zer63 : zer Tryz.prog 63 = some (Go.Value.nilFunc) := by kernel_rfl
theorem zer64 : zer Tryz.prog 64 = some ((Go.Value.agg #[Go.Value.int Go.IntKind.u8 0, Go.Value.int Go.IntKind.i64 0, Go.Value.int Go.IntKind.u64 0, Go.Value.int Go.IntKind.u64 0, Go.Value.slice Option.none 0 0, Go.Value.int Go.IntKind.u8 0, Go.Value.int Go.IntKind.u8 0, Go.Value.int Go.IntKind.u8 0, Go.Value.int Go.IntKind.u8 0, Go.Value.int Go.IntKind.u8 0, Go.Value.int Go.IntKind.u8 0, Go.Value.int Go.IntKind.u8 0, Go.Value.int Go.IntKind.u8 0, Go.Value.int Go.IntKind.u8 0, Go.Value.int Go.IntKind.u8 0, Go.Value.int Go.IntKind.u8 0, Go.Value.int Go.IntKind.u8 0, Go.Value.int Go.IntKind.u8 0, Go.Value.int Go.IntKind.u8 0, Go.Value.int Go.IntKind.u8 0, Go.Value.int Go.IntKind.u8 0, Go.Value.bool Bool.false, Go.Value.int Go.IntKind.u8 0, Go.Value.int Go.IntKind.u8 0, Go.Value.int Go.IntKind.u8 0, Go.Value.int Go.IntKind.u8 0, Go.Value.int Go.IntKind.u8 0, Go.Value.int Go.IntKind.u8 0, Go.Value.int Go.IntKind.u8 0, Go.Value.int Go.IntKind.i64 0, Go.Value.int Go.IntKind.i64 0, Go.Value.int Go.IntKind.i64 0, Go.Value.int Go.IntKind.i64 0, Go.Value.int Go.IntKind.i64 0, Go.Value.int Go.IntKind.i64 0, Go.Value.int Go.IntKind.i64 0, Go.Value.int Go.IntKind.i64 0, Go.Value.int Go.IntKind.i64 0, Go.Value.int Go.IntKind.i64 0, Go.Value.int Go.IntKind.i64 0, Go.Value.int Go.IntKind.i64 0, Go.Value.int Go.IntKind.i64 0, Go.Value.int Go.IntKind.i64 0, Go.Value.int Go.IntKind.i64 0, Go.Value.int Go.IntKind.i64 0, Go.Value.int Go.IntKind.i64 0, Go.Value.int Go.IntKind.i64 0, Go.Value.int Go.IntKind.i64 0, Go.Value.int Go.IntKind.i64 0])) := by kernel_rfl
theorem zer65 : zer Tryz.prog 65 = some ((Go.Value.agg #[Go.Value.int Go.IntKind.u8 0, Go.Value.int Go.IntKind.i64 0, Go.Value.int Go.IntKind.u64 0, Go.Value.int Go.IntKind.u64 0, Go.Value.slice Option.none 0 0, Go.Value.int Go.IntKind.u8 0, Go.Value.int Go.IntKind.u8 0, Go.Value.int Go.IntKind.u8 0, Go.Value.int Go.IntKind.u8 0, Go.Value.int Go.IntKind.u8 0, Go.Value.int Go.IntKind.u8 0, Go.Value.int Go.IntKind.u8 0, Go.Value.int Go.IntKind.u8 0, Go.Value.int Go.IntKind.u8 0, Go.Value.int Go.IntKind.u8 0, Go.Value.int Go.IntKind.u8 0, Go.Value.int Go.IntKind.u8 0, Go.Value.int Go.IntKind.u8 0, Go.Value.int Go.IntKind.u8 0, Go.Value.int Go.IntKind.u8 0, Go.Value.int Go.IntKind.u8 0, Go.Value.bool Bool.false, Go.Value.int Go.IntKind.u8 0, Go.Value.int Go.IntKind.u8 0, Go.Value.int Go.IntKind.u8 0, Go.Value.int Go.IntKind.u8 0, Go.Value.int Go.IntKind.u8 0, Go.Value.int Go.IntKind.u8 0, Go.Value.int Go.IntKind.u8 0, Go.Value.int Go.IntKind.i64 0, Go.Value.int Go.IntKind.i64 0, Go.Value.int Go.IntKind.i64 0, Go.Value.int Go.IntKind.i64 0, Go.Value.int Go.IntKind.i64 0, Go.Value.int Go.IntKind.i64 0, Go.Value.int Go.IntKind.i64 0, Go.Value.int Go.IntKind.i64 0, Go.Value.int Go.IntKind.i64 0, Go.Value.int Go.IntKind.i64 0, Go.Value.int Go.IntKind.i64 0, Go.Value.int Go.IntKind.i64 0, Go.Value.int Go.IntKind.i64 0, Go.Value.int Go.IntKind.i64 0, Go.Value.int Go.IntKind.i64 0, Go.Value.int Go.IntKind.i64 0, Go.Value.int Go.IntKind.i64 0, Go.Value.int Go.IntKind.i64 0, Go.Value.int Go.IntKind.i64 0, Go.Value.int Go.IntKind.i64 0])) := by kernel_rfl
theorem zer66 : zer Tryz.prog 66 = some ((Go.Value.tuple #[Go.Value.slice Option.none 0 0, Go.Value.int Go.IntKind.i64 0])) := by kernel_rfl
theorem zer67 : zer Tryz.prog 67 = some (Go.Value.nilFunc) := by kernel_rfl
theorem zer68 : zer Tryz.prog 68 = some (Go.Value.nilFunc) := by kernel_rfl
theorem zer69 : zer Tryz.prog 69 = some ((Go.Value.pointer Option.none)) := by kernel_rfl
theorem zer70 : zer Tryz.prog 70 = some ((Go.Value.tuple #[Go.Value.pointer Option.none, Go.Value.int Go.IntKind.i64 0])) := by kernel_rfl
theorem zer71 : zer Tryz.prog 71 = some (Go.Value.nilFunc) := by kernel_rfl
theorem zer72 : zer Tryz.prog 72 = some ((Go.Value.pointer Option.none)) := by kernel_rfl
theorem zer73 : zer Tryz.prog 73 = some (Go.Value.nilFunc) := by kernel_rfl
theorem zer74 : zer Tryz.prog 74 = some ((Go.Value.agg #[Go.Value.pointer Option.none, Go.Value.pointer Option.none, Go.Value.int Go.IntKind.i64 0, Go.Value.int Go.IntKind.i64 0, Go.Value.int Go.IntKind.i64 0, Go.Value.int Go.IntKind.i64 0, Go.Value.int Go.IntKind.i64 0, Go.Value.int Go.IntKind.i64 0, Go.Value.int Go.IntKind.i64 0, Go.Value.int Go.IntKind.i64 0, Go.Value.int Go.IntKind.i64 0, Go.Value.int Go.IntKind.i64 0, Go.Value.int Go.IntKind.i64 0, Go.Value.int Go.IntKind.i64 0, Go.Value.int Go.IntKind.i64 0, Go.Value.int Go.IntKind.i64 0, Go.Value.int Go.IntKind.i64 0, Go.Value.int Go.IntKind.i64 0, Go.Value.int Go.IntKind.i64 0, Go.Value.int Go.IntKind.i64 0, Go.Value.int Go.IntKind.i64 0, Go.Value.int Go.IntKind.i64 0, Go.Value.int Go.IntKind.i64 0, Go.Value.int Go.IntKind.i64 0, Go.Value.int Go.IntKind.i64 0, Go.Value.int Go.IntKind.i64 0, Go.Value.int Go.IntKind.i64 0, Go.Value.int Go.IntKind.i64 0, Go.Value.int Go.IntKind.i64 0, Go.Value.int Go.IntKind.i64 0, Go.Value.int Go.IntKind.i64 0, Go.Value.int Go.IntKind.i64 0, Go.Value.int Go.IntKind.i64 0, Go.Value.int Go.IntKind.i64 0])) := by kernel_rfl
theorem zer75 : zer Tryz.prog 75 = some ((Go.Value.agg #[Go.Value.pointer Option.none, Go.Value.pointer Option.none, Go.Value.int Go.IntKind.i64 0, Go.Value.int Go.IntKind.i64 0, Go.Value.int Go.IntKind.i64 0, Go.Value.int Go.IntKind.i64 0, Go.Value.int Go.IntKind.i64 0, Go.Value.int Go.IntKind.i64 0, Go.Value.int Go.IntKind.i64 0, Go.Value.int Go.IntKind.i64 0, Go.Value.int Go.IntKind.i64 0, Go.Value.int Go.IntKind.i64 0, Go.Value.int Go.IntKind.i64 0, Go.Value.int Go.IntKind.i64 0, Go.Value.int Go.IntKind.i64 0, Go.Value.int Go.IntKind.i64 0, Go.Value.int Go.IntKind.i64 0, Go.Value.int Go.IntKind.i64 0, Go.Value.int Go.IntKind.i64 0, Go.Value.int Go.IntKind.i64 0, Go.Value.int Go.IntKind.i64 0, Go.Value.int Go.IntKind.i64 0, Go.Value.int Go.IntKind.i64 0, Go.Value.int Go.IntKind.i64 0, Go.Value.int Go.IntKind.i64 0, Go.Value.int Go.IntKind.i64 0, Go.Value.int Go.IntKind.i64 0, Go.Value.int Go.IntKind.i64 0, Go.Value.int Go.IntKind.i64 0, Go.Value.int Go.IntKind.i64 0, Go.Value.int Go.IntKind.i64 0, Go.Value.int Go.IntKind.i64 0, Go.Value.int Go.IntKind.i64 0, Go.Value.int Go.IntKind.i64 0])) := by kernel_rfl
theorem zer76 : zer Tryz.prog 76 = some (Go.Value.nilFunc) := by kernel_rfl
theorem zer77 : zer Tryz.prog 77 = some (Go.Value.nilFunc) := by kernel_rfl
theorem zer78 : zer Tryz.prog 78 = some (Go.Value.nilFunc) := by kernel_rfl
theorem zer79 : zer Tryz.prog 79 = some ((Go.Value.int Go.IntKind.u16 0)) := by kernel_rfl
theorem zer80 : zer Tryz.prog 80 = some ((Go.Value.agg #[Go.Value.bool Bool.false, Go.Value.int Go.IntKind.u8 0, Go.Value.int Go.IntKind.u8 0, Go.Value.int Go.IntKind.u8 0, Go.Value.int Go.IntKind.u8 0, Go.Value.int Go.IntKind.u8 0, Go.Value.int Go.IntKind.u8 0, Go.Value.int Go.IntKind.u8 0, Go.Value.int Go.IntKind.u8 0, Go.Value.int Go.IntKind.u8 0, Go.Value.int Go.IntKind.u8 0, Go.Value.int Go.IntKind.u8 0, Go.Value.int Go.IntKind.u8 0, Go.Value.int Go.IntKind.u8 0, Go.Value.int Go.IntKind.u8 0, Go.Value.int Go.IntKind.u8 0, Go.Value.int Go.IntKind.u8 0, Go.Value.int Go.IntKind.u8 0, Go.Value.int Go.IntKind.u8 0, Go.Value.int Go.IntKind.u8 0, Go.Value.int Go.IntKind.u8 0, Go.Value.int Go.IntKind.u8 0, Go.Value.int Go.IntKind.u8 0, Go.Value.int Go.IntKind.u8 0, Go.Value.int Go.IntKind.u8 0, Go.Value.int Go.IntKind.u8 0, Go.Value.int Go.IntKind.u8 0, Go.Value.int Go.IntKind.u8 0, Go.Value.int Go.IntKind.u8 0, Go.Value.int Go.IntKind.u8 0, Go.Value.int Go.IntKind.u8 0, Go.Value.int Go.IntKind.u8 0, Go.Value.int Go.IntKind.u8 0, Go.Value.int Go.IntKind.u8 0, Go.Value.int Go.IntKind.u16 0, Go.Value.int Go.IntKind.u16 0])) := by kernel_rfl
theorem zer81 : zer Tryz.prog 81 = some ((Go.Value.agg #[Go.Value.bool Bool.false, Go.Value.int Go.IntKind.u8 0, Go.Value.int Go.IntKind.u8 0, Go.Value.int Go.IntKind.u8 0, Go.Value.int Go.IntKind.u8 0, Go.Value.int Go.IntKind.u8 0, Go.Value.int Go.IntKind.u8 0, Go.Value.int Go.IntKind.u8 0, Go.Value.int Go.IntKind.u8 0, Go.Value.int Go.IntKind.u8 0, Go.Value.int Go.IntKind.u8 0, Go.Value.int Go.IntKind.u8 0, Go.Value.int Go.IntKind.u8 0, Go.Value.int Go.IntKind.u8 0, Go.Value.int Go.IntKind.u8 0, Go.Value.int Go.IntKind.u8 0, Go.Value.int Go.IntKind.u8 0, Go.Value.int Go.IntKind.u8 0, Go.Value.int Go.IntKind.u8 0, Go.Value.int Go.IntKind.u8 0, Go.Value.int Go.IntKind.u8 0, Go.Value.int Go.IntKind.u8 0, Go.Value.int Go.IntKind.u8 0, Go.Value.int Go.IntKind.u8 0, Go.Value.int Go.IntKind.u8 0, Go.Value.int Go.IntKind.u8 0, Go.Value.int Go.IntKind.u8 0, Go.Value.int Go.IntKind.u8 0, Go.Value.int Go.IntKind.u8 0, Go.Value.int Go.IntKind.u8 0, Go.Value.int Go.IntKind.u8 0, Go.Value.int Go.IntKind.u8 0, Go.Value.int Go.IntKind.u8 0, Go.Value.int Go.IntKind.u8 0, Go.Value.int Go.IntKind.u16 0, Go.Value.int Go.IntKind.u16 0])) := by kernel_rfl
theorem zer82 : zer Tryz.prog 82 = some ((Go.Value.agg #[Go.Value.int Go.IntKind.i64 0, Go.Value.bool Bool.false, Go.Value.int Go.IntKind.u8 0, Go.Value.int Go.IntKind.u8 0, Go.Value.int Go.IntKind.u8 0, Go.Value.int Go.IntKind.u8 0, Go.Value.int Go.IntKind.u8 0, Go.Value.int Go.IntKind.u8 0, Go.Value.int Go.IntKind.u8 0, Go.Value.int Go.IntKind.u8 0, Go.Value.int Go.IntKind.u8 0, Go.Value.int Go.IntKind.u8 0, Go.Value.int Go.IntKind.u8 0, Go.Value.int Go.IntKind.u8 0, Go.Value.int Go.IntKind.u8 0, Go.Value.int Go.IntKind.u8 0, Go.Value.int Go.IntKind.u8 0, Go.Value.int Go.IntKind.u8 0, Go.Value.int Go.IntKind.u8 0, Go.Value.int Go.IntKind.u8 0, Go.Value.int Go.IntKind.u8 0, Go.Value.int Go.IntKind.u8 0, Go.Value.int Go.IntKind.u8 0, Go.Value.int Go.IntKind.u8 0, Go.Value.int Go.IntKind.u8 0, Go.Value.int Go.IntKind.u8 0, Go.Value.int Go.IntKind.u8 0, Go.Value.int Go.IntKind.u8 0, Go.Value.int Go.IntKind.u8 0, Go.Value.int Go.IntKind.u8 0, Go.Value.int Go.IntKind.u8 0, Go.Value.int Go.IntKind.u8 0, Go.Value.int Go.IntKind.u8 0, Go.Value.int Go.IntKind.u8 0, Go.Value.int Go.IntKind.u8 0, Go.Value.int Go.IntKind.u16 0, Go.Value.int Go.IntKind.u16 0, Go.Value.bool Bool.false, Go.Value.int Go.IntKind.u8 0, Go.Value.int Go.IntKind.u8 0, Go.Value.int Go.IntKind.u8 0, Go.Value.int Go.IntKind.u8 0, Go.Value.int Go.IntKind.u8 0, Go.Value.int Go.IntKind.u8 0, Go.Value.int Go.IntKind.u8 0, Go.Value.int Go.IntKind.i64 0])) := by kernel_rfl
theorem zer83 : zer Tryz.prog 83 = some ((Go.Value.agg #[Go.Value.int Go.IntKind.i64 0, Go.Value.bool Bool.false, Go.Value.int Go.IntKind.u8 0, Go.Value.int Go.IntKind.u8 0, Go.Value.int Go.IntKind.u8 0, Go.Value.int Go.IntKind.u8 0, Go.Value.int Go.IntKind.u8 0, Go.Value.int Go.IntKind.u8 0, Go.Value.int Go.IntKind.u8 0, Go.Value.int Go.IntKind.u8 0, Go.Value.int Go.IntKind.u8 0, Go.Value.int Go.IntKind.u8 0, Go.Value.int Go.IntKind.u8 0, Go.Value.int Go.IntKind.u8 0, Go.Value.int Go.IntKind.u8 0, Go.Value.int Go.IntKind.u8 0, Go.Value.int Go.IntKind.u8 0, Go.Value.int Go.IntKind.u8 0, Go.Value.int Go.IntKind.u8 0, Go.Value.int Go.IntKind.u8 0, Go.Value.int Go.IntKind.u8 0, Go.Value.int Go.IntKind.u8 0, Go.Value.int Go.IntKind.u8 0, Go.Value.int Go.IntKind.u8 0, Go.Value.int Go.IntKind.u8 0, Go.Value.int Go.IntKind.u8 0, Go.Value.int Go.IntKind.u8 0, Go.Value.int Go.IntKind.u8 0, Go.Value.int Go.IntKind.u8 0, Go.Value.int Go.IntKind.u8 0, Go.Value.int Go.IntKind.u8 0, Go.Value.int Go.IntKind.u8 0, Go.Value.int Go.IntKind.u8 0, Go.Value.int Go.IntKind.u8 0, Go.Value.int Go.IntKind.u8 0, Go.Value.int Go.IntKind.u16 0, Go.Value.int Go.IntKind.u16 0, Go.Value.bool Bool.false, Go.Value.int Go.IntKind.u8 0, Go.Value.int Go.IntKind.u8 0, Go.Value.int Go.IntKind.u8 0, Go.Value.int Go.IntKind.u8 0, Go.Value.int Go.IntKind.u8 0, Go.Value.int Go.IntKind.u8 0, Go.Value.int Go.IntKind.u8 0, Go.Value.int Go.IntKind.i64 0])) := by kernel_rfl
theorem zer84 : zer Tryz.prog 84 = some ((Go.Value.tuple #[Go.Value.agg #[Go.Value.int Go.IntKind.i64 0, Go.Value.bool Bool.false, Go.Value.int Go.IntKind.u8 0, Go.Value.int Go.IntKind.u8 0, Go.Value.int Go.IntKind.u8 0, Go.Value.int Go.IntKind.u8 0, Go.Value.int Go.IntKind.u8 0, Go.Value.int Go.IntKind.u8 0, Go.Value.int Go.IntKind.u8 0, Go.Value.int Go.IntKind.u8 0, Go.Value.int Go.IntKind.u8 0, Go.Value.int Go.IntKind.u8 0, Go.Value.int Go.IntKind.u8 0, Go.Value.int Go.IntKind.u8 0, Go.Value.int Go.IntKind.u8 0, Go.Value.int Go.IntKind.u8 0, Go.Value.int Go.IntKind.u8 0, Go.Value.int Go.IntKind.u8 0, Go.Value.int Go.IntKind.u8 0, Go.Value.int Go.IntKind.u8 0, Go.Value.int Go.IntKind.u8 0, Go.Value.int Go.IntKind.u8 0, Go.Value.int Go.IntKind.u8 0, Go.Value.int Go.IntKind.u8 0, Go.Value.int Go.IntKind.u8 0, Go.Value.int Go.IntKind.u8 0, Go.Value.int Go.IntKind.u8 0, Go.Value.int Go.IntKind.u8 0, Go.Value.int Go.IntKind.u8 0, Go.Value.int Go.IntKind.u8 0, Go.Value.int Go.IntKind.u8 0, Go.Value.int Go.IntKind.u8 0, Go.Value.int Go.IntKind.u8 0, Go.Value.int Go.IntKind.u8 0, Go.Value.int Go.IntKind.u8 0, Go.Value.int Go.IntKind.u16 0, Go.Value.int Go.IntKind.u16 0, Go.Value.bool Bool.false, Go.Value.int Go.IntKind.u8 0, Go.Value.int Go.IntKind.u8 0, Go.Value.int Go.IntKind.u8 0, Go.Value.int Go.IntKind.u8 0, Go.Value.int Go.IntKind.u8 0, Go.Value.int Go.IntKind.u8 0, Go.Value.int Go.IntKind.u8 0, Go.Value.int Go.IntKind.i64 0], Go.Value.int Go.IntKind.i64 0])) := by kernel_rfl
theorem zer85 : zer Tryz.prog 85 = some (Go.Value.nilFunc) := by kernel_rfl
theorem zer86 : zer Tryz.prog 86 = some (Go.Value.nilFunc) := by kernel_rfl
theorem zer87 : zer Tryz.prog 87 = some (Go.Value.nilFunc) := by kernel_rfl
theorem zer88 : zer Tryz.prog 88 = some (Go.Value.nilFunc) := by kernel_rfl
theorem zer89 : zer Tryz.prog 89 = some (Go.Value.nilFunc) := by kernel_rfl
theorem zer90 : zer Tryz.prog 90 = some (Go.Value.nilFunc) := by kernel_rfl
theorem zer91 : zer Tryz.prog 91 = some ((Go.Value.slice Option.none 0 0)) := by kernel_rfl
theorem zer92 : zer Tryz.prog 92 = some ((Go.Value.tuple #[Go.Value.slice Option.none 0 0, Go.Value.int Go.IntKind.i64 0])) := by kernel_rfl
theorem zer93 : zer Tryz.prog 93 = some (Go.Value.nilFunc) := by kernel_rfl
theorem zer94 : zer Tryz.prog 94 = some (Go.Value.nilFunc) := by kernel_rfl
theorem zer95 : zer Tryz.prog 95 = some ((Go.Value.agg #[Go.Value.slice Option.none 0 0])) := by kernel_rfl
theorem zer96 : zer Tryz.prog 96 = some ((Go.Value.agg #[Go.Value.slice Option.none 0 0])) := by kernel_rfl
theorem zer97 : zer Tryz.prog 97 = some (Go.Value.nilFunc) := by kernel_rfl
theorem zer98 : zer Tryz.prog 98 = some (Go.Value.nilFunc) := by kernel_rfl
theorem zer99 : zer Tryz.prog 99 = some ((Go.Value.pointer Option.none)) := by kernel_rfl
theorem zer100 : zer Tryz.prog 100 = some (Go.Value.nilFunc) := by kernel_rfl
theorem zer101 : zer Tryz.prog 101 = some (Go.Value.nilFunc) := by kernel_rfl
theorem zer102 : zer Tryz.prog 102 = some (Go.Value.nilFunc) := by kernel_rfl
theorem zer103 : zer Tryz.prog 103 = some (Go.Value.nilFunc) := by kernel_rfl
theorem zer104 : zer Tryz.prog 104 = some (Go.Value.nilFunc) := by kernel_rfl
theorem zer105 : zer Tryz.prog 105 = some ((Go.Value.tuple #[Go.Value.pointer Option.none, Go.Value.int Go.IntKind.i64 0])) := by kernel_rfl
theorem zer106 : zer Tryz.prog 106 = some (Go.Value.nilFunc) := by kernel_rfl
theorem zer107 : zer Tryz.prog 107 = some ((Go.Value.pointer Option.none)) := by kernel_rfl
theorem zer108 : zer Tryz.prog 108 = some ((Go.Value.tuple #[Go.Value.pointer Option.none, Go.Value.int Go.IntKind.i64 0])) := by kernel_rfl
theorem zer109 : zer Tryz.prog 109 = some (Go.Value.nilFunc) := by kernel_rfl
theorem zer110 : zer Tryz.prog 110 = some ((Go.Value.agg #[Go.Value.pointer Option.none, Go.Value.pointer Option.none])) := by kernel_rfl
theorem zer111 : zer Tryz.prog 111 = some ((Go.Value.agg #[Go.Value.pointer Option.none, Go.Value.pointer Option.none])) := by kernel_rfl
theorem zer112 : zer Tryz.prog 112 = some ((Go.Value.tuple #[Go.Value.int Go.IntKind.i64 0, Go.Value.bool Bool.false])) := by kernel_rfl
theorem zer113 : zer Tryz.prog 113 = some (Go.Value.nilFunc) := by kernel_rfl
theorem zer114 : zer Tryz.prog 114 = some (Go.Value.nilFunc) := by kernel_rfl
theorem zer115 : zer Tryz.prog 115 = some ((Go.Value.tuple #[Go.Value.agg #[Go.Value.int Go.IntKind.i64 0, Go.Value.bool Bool.false, Go.Value.int Go.IntKind.u8 0, Go.Value.int Go.IntKind.u8 0, Go.Value.int Go.IntKind.u8 0, Go.Value.int Go.IntKind.u8 0, Go.Value.int Go.IntKind.u8 0, Go.Value.int Go.IntKind.u8 0, Go.Value.int Go.IntKind.u8 0, Go.Value.int Go.IntKind.u8 0, Go.Value.int Go.IntKind.u8 0, Go.Value.int Go.IntKind.u8 0, Go.Value.int Go.IntKind.u8 0, Go.Value.int Go.IntKind.u8 0, Go.Value.int Go.IntKind.u8 0, Go.Value.int Go.IntKind.u8 0, Go.Value.int Go.IntKind.u8 0, Go.Value.int Go.IntKind.u8 0, Go.Value.int Go.IntKind.u8 0, Go.Value.int Go.IntKind.u8 0, Go.Value.int Go.IntKind.u8 0, Go.Value.int Go.IntKind.u8 0, Go.Value.int Go.IntKind.u8 0, Go.Value.int Go.IntKind.u8 0, Go.Value.int Go.IntKind.u8 0, Go.Value.int Go.IntKind.u8 0, Go.Value.int Go.IntKind.u8 0, Go.Value.int Go.IntKind.u8 0, Go.Value.int Go.IntKind.u8 0, Go.Value.int Go.IntKind.u8 0, Go.Value.int Go.IntKind.u8 0, Go.Value.int Go.IntKind.u8 0, Go.Value.int Go.IntKind.u8 0, Go.Value.int Go.IntKind.u8 0, Go.Value.int Go.IntKind.u8 0, Go.Value.int Go.IntKind.u16 0, Go.Value.int Go.IntKind.u16 0, Go.Value.bool Bool.false, Go.Value.int Go.IntKind.u8 0, Go.Value.int Go.IntKind.u8 0, Go.Value.int Go.IntKind.u8 0, Go.Value.int Go.IntKind.u8 0, Go.Value.int Go.IntKind.u8 0, Go.Value.int Go.IntKind.u8 0, Go.Value.int Go.IntKind.u8 0, Go.Value.int Go.IntKind.i64 0], Go.Value.int Go.IntKind.i64 0, Go.Value.bool Bool.false])) := by kernel_rfl
theorem zer116 : zer Tryz.prog 116 = some (Go.Value.nilFunc) := by kernel_rfl
theorem zer117 : zer Tryz.prog 117 = some ((Go.Value.tuple #[Go.Value.int Go.IntKind.i64 0, Go.Value.int Go.IntKind.i64 0, Go.Value.int Go.IntKind.i64 0])) := by kernel_rfl
theorem zer118 : zer Tryz.prog 118 = some (Go.Value.nilFunc) := by kernel_rfl
theorem zer119 : zer Tryz.prog 119 = some ((Go.Value.pointer Option.none)) := by kernel_rfl
theorem zer120 : zer Tryz.prog 120 = some (Go.Value.nilFunc) := by kernel_rfl
theorem zer121 : zer Tryz.prog 121 = some ((Go.Value.agg #[Go.Value.bool Bool.false, Go.Value.int Go.IntKind.i64 0])) := by kernel_rfl
theorem zer122 : zer Tryz.prog 122 = some ((Go.Value.agg #[Go.Value.bool Bool.false, Go.Value.int Go.IntKind.i64 0])) := by kernel_rfl
theorem zer123 : zer Tryz.prog 123 = some ((Go.Value.tuple #[Go.Value.agg #[Go.Value.bool Bool.false, Go.Value.int Go.IntKind.i64 0], Go.Value.int Go.IntKind.i64 0])) := by kernel_rfl
theorem zer124 : zer Tryz.prog 124 = some (Go.Value.nilFunc) := by kernel_rfl
theorem zer125 : zer Tryz.prog 125 = some (Go.Value.nilFunc) := by kernel_rfl
theorem zer126 : zer Tryz.prog 126 = some ((Go.Value.agg #[Go.Value.int Go.IntKind.u8 0, Go.Value.int Go.IntKind.u8 0, Go.Value.int Go.IntKind.u8 0, Go.Value.int Go.IntKind.u8 0, Go.Value.int Go.IntKind.u8 0, Go.Value.int Go.IntKind.u8 0, Go.Value.int Go.IntKind.u8 0, Go.Value.int Go.IntKind.u8 0, Go.Value.int Go.IntKind.u8 0, Go.Value.int Go.IntKind.u8 0, Go.Value.int Go.IntKind.u8 0, Go.Value.int Go.IntKind.u8 0, Go.Value.int Go.IntKind.u8 0, Go.Value.int Go.IntKind.u8 0, Go.Value.int Go.IntKind.u8 0, Go.Value.int Go.IntKind.u8 0, Go.Value.int Go.IntKind.u8 0, Go.Value.int Go.IntKind.u8 0, Go.Value.int Go.IntKind.u8 0, Go.Value.int Go.IntKind.u8 0, Go.Value.int Go.IntKind.u8 0, Go.Value.int Go.IntKind.u8 0, Go.Value.int Go.IntKind.u8 0, Go.Value.int Go.IntKind.u8 0, Go.Value.int Go.IntKind.u8 0, Go.Value.int Go.IntKind.u8 0, Go.Value.int Go.IntKind.u8 0, Go.Value.int Go.IntKind.u8 0, Go.Value.int Go.IntKind.u8 0, Go.Value.int Go.IntKind.u8 0, Go.Value.int Go.IntKind.u8 0, Go.Value.int Go.IntKind.u8 0, Go.Value.int Go.IntKind.u8 0, Go.Value.slice Option.none 0 0, Go.Value.bool Bool.false])) := by kernel_rfl
theorem zer127 : zer Tryz.prog 127 = some ((Go.Value.agg #[Go.Value.int Go.IntKind.u8 0, Go.Value.int Go.IntKind.u8 0, Go.Value.int Go.IntKind.u8 0, Go.Value.int Go.IntKind.u8 0, Go.Value.int Go.IntKind.u8 0, Go.Value.int Go.IntKind.u8 0, Go.Value.int Go.IntKind.u8 0, Go.Value.int Go.IntKind.u8 0, Go.Value.int Go.IntKind.u8 0, Go.Value.int Go.IntKind.u8 0, Go.Value.int Go.IntKind.u8 0, Go.Value.int Go.IntKind.u8 0, Go.Value.int Go.IntKind.u8 0, Go.Value.int Go.IntKind.u8 0, Go.Value.int Go.IntKind.u8 0, Go.Value.int Go.IntKind.u8 0, Go.Value.int Go.IntKind.u8 0, Go.Value.int Go.IntKind.u8 0, Go.Value.int Go.IntKind.u8 0, Go.Value.int Go.IntKind.u8 0, Go.Value.int Go.IntKind.u8 0, Go.Value.int Go.IntKind.u8 0, Go.Value.int Go.IntKind.u8 0, Go.Value.int Go.IntKind.u8 0, Go.Value.int Go.IntKind.u8 0, Go.Value.int Go.IntKind.u8 0, Go.Value.int Go.IntKind.u8 0, Go.Value.int Go.IntKind.u8 0, Go.Value.int Go.IntKind.u8 0, Go.Value.int Go.IntKind.u8 0, Go.Value.int Go.IntKind.u8 0, Go.Value.int Go.IntKind.u8 0, Go.Value.int Go.IntKind.u8 0, Go.Value.slice Option.none 0 0, Go.Value.bool Bool.false])) := by kernel_rfl
theorem zer128 : zer Tryz.prog 128 = some ((Go.Value.tuple #[Go.Value.agg #[Go.Value.int Go.IntKind.u8 0, Go.Value.int Go.IntKind.u8 0, Go.Value.int Go.IntKind.u8 0, Go.Value.int Go.IntKind.u8 0, Go.Value.int Go.IntKind.u8 0, Go.Value.int Go.IntKind.u8 0, Go.Value.int Go.IntKind.u8 0, Go.Value.int Go.IntKind.u8 0, Go.Value.int Go.IntKind.u8 0, Go.Value.int Go.IntKind.u8 0, Go.Value.int Go.IntKind.u8 0, Go.Value.int Go.IntKind.u8 0, Go.Value.int Go.IntKind.u8 0, Go.Value.int Go.IntKind.u8 0, Go.Value.int Go.IntKind.u8 0, Go.Value.int Go.IntKind.u8 0, Go.Value.int Go.IntKind.u8 0, Go.Value.int Go.IntKind.u8 0, Go.Value.int Go.IntKind.u8 0, Go.Value.int Go.IntKind.u8 0, Go.Value.int Go.IntKind.u8 0, Go.Value.int Go.IntKind.u8 0, Go.Value.int Go.IntKind.u8 0, Go.Value.int Go.IntKind.u8 0, Go.Value.int Go.IntKind.u8 0, Go.Value.int Go.IntKind.u8 0, Go.Value.int Go.IntKind.u8 0, Go.Value.int Go.IntKind.u8 0, Go.Value.int Go.IntKind.u8 0, Go.Value.int Go.IntKind.u8 0, Go.Value.int Go.IntKind.u8 0, Go.Value.int Go.IntKind.u8 0, Go.Value.int Go.IntKind.u8 0, Go.Value.slice Option.none 0 0, Go.Value.bool Bool.false], Go.Value.int Go.IntKind.i64 0])) := by kernel_rfl
theorem zer129 : zer Tryz.prog 129 = some ((Go.Value.tuple #[Go.Value.int Go.IntKind.u16 0, Go.Value.int Go.IntKind.u16 0, Go.Value.int Go.IntKind.i64 0])) := by kernel_rfl
theorem zer130 : zer Tryz.prog 130 = some (Go.Value.nilFunc) := by kernel_rfl
theorem zer131 : zer Tryz.prog 131 = some (Go.Value.nilFunc) := by kernel_rfl
theorem zer132 : zer Tryz.prog 132 = some ((Go.Value.pointer Option.none)) := by kernel_rfl
theorem zer133 : zer Tryz.prog 133 = some ((Go.Value.pointer Option.none)) := by kernel_rfl
theorem zer134 : zer Tryz.prog 134 = some ((Go.Value.pointer Option.none)) := by kernel_rfl
theorem zer135 : zer Tryz.prog 135 = some ((Go.Value.pointer Option.none)) := by kernel_rfl
theorem zer136 : zer Tryz.prog 136 = some ((Go.Value.pointer Option.none)) := by kernel_rfl
theorem zer137 : zer Tryz.prog 137 = some ((Go.Value.agg #[Go.Value.pointer Option.none, Go.Value.pointer Option.none])) := by kernel_rfl
theorem zer138 : zer Tryz.prog 138 = some ((Go.Value.pointer Option.none)) := by kernel_rfl
theorem zer139 : zer Tryz.prog 139 = some ((Go.Value.pointer Option.none)) := by kernel_rfl
theorem zer140 : zer Tryz.prog 140 = some ((Go.Value.agg #[Go.Value.int Go.IntKind.i64 0, Go.Value.int Go.IntKind.i64 0, Go.Value.int Go.IntKind.i64 0, Go.Value.int Go.IntKind.i64 0, Go.Value.int Go.IntKind.i64 0, Go.Value.int Go.IntKind.i64 0, Go.Value.int Go.IntKind.i64 0, Go.Value.int Go.IntKind.i64 0, Go.Value.int Go.IntKind.i64 0, Go.Value.int Go.IntKind.i64 0, Go.Value.int Go.IntKind.i64 0, Go.Value.int Go.IntKind.i64 0, Go.Value.int Go.IntKind.i64 0, Go.Value.int Go.IntKind.i64 0, Go.Value.int Go.IntKind.i64 0, Go.Value.int Go.IntKind.i64 0, Go.Value.int Go.IntKind.i64 0, Go.Value.int Go.IntKind.i64 0, Go.Value.int Go.IntKind.i64 0, Go.Value.int Go.IntKind.i64 0, Go.Value.pointer Option.none, Go.Value.pointer Option.none, Go.Value.pointer Option.none, Go.Value.pointer Option.none, Go.Value.pointer Option.none, Go.Value.pointer Option.none, Go.Value.pointer Option.none, Go.Value.pointer Option.none, Go.Value.int Go.IntKind.i64 0])) := by kernel_rfl
theorem zer141 : zer Tryz.prog 141 = some ((Go.Value.agg #[Go.Value.int Go.IntKind.i64 0, Go.Value.int Go.IntKind.i64 0, Go.Value.int Go.IntKind.i64 0, Go.Value.int Go.IntKind.i64 0, Go.Value.int Go.IntKind.i64 0, Go.Value.int Go.IntKind.i64 0, Go.Value.int Go.IntKind.i64 0, Go.Value.int Go.IntKind.i64 0, Go.Value.int Go.IntKind.i64 0, Go.Value.int Go.IntKind.i64 0, Go.Value.int Go.IntKind.i64 0, Go.Value.int Go.IntKind.i64 0, Go.Value.int Go.IntKind.i64 0, Go.Value.int Go.IntKind.i64 0, Go.Value.int Go.IntKind.i64 0, Go.Value.int Go.IntKind.i64 0, Go.Value.int Go.IntKind.i64 0, Go.Value.int Go.IntKind.i64 0, Go.Value.int Go.IntKind.i64 0, Go.Value.int Go.IntKind.i64 0, Go.Value.pointer Option.none, Go.Value.pointer Option.none, Go.Value.pointer Option.none, Go.Value.pointer Option.none, Go.Value.pointer Option.none, Go.Value.pointer Option.none, Go.Value.pointer Option.none, Go.Value.pointer Option.none, Go.Value.int Go.IntKind.i64 0])) := by kernel_rfl
theorem zer142 : zer Tryz.prog 142 = some (Go.Value.nilFunc) := by kernel_rfl
theorem zer143 : zer Tryz.prog 143 = some (Go.Value.nilFunc) := by kernel_rfl
theorem zer144 : zer Tryz.prog 144 = some (Go.Value.nilFunc) := by kernel_rfl
theorem zer145 : zer Tryz.prog 145 = some (Go.Value.nilFunc) := by kernel_rfl
theorem zer146 : zer Tryz.prog 146 = some ((Go.Value.pointer Option.none)) := by kernel_rfl
theorem zer147 : zer Tryz.prog 147 = some (Go.Value.nilFunc) := by kernel_rfl
theorem zer148 : zer Tryz.prog 148 = some ((Go.Value.tuple #[Go.Value.agg #[Go.Value.int Go.IntKind.i64 0, Go.Value.bool Bool.false, Go.Value.int Go.IntKind.u8 0, Go.Value.int Go.IntKind.u8 0, Go.Value.int Go.IntKind.u8 0, Go.Value.int Go.IntKind.u8 0, Go.Value.int Go.IntKind.u8 0, Go.Value.int Go.IntKind.u8 0, Go.Value.int Go.IntKind.u8 0, Go.Value.int Go.IntKind.u8 0, Go.Value.int Go.IntKind.u8 0, Go.Value.int Go.IntKind.u8 0, Go.Value.int Go.IntKind.u8 0, Go.Value.int Go.IntKind.u8 0, Go.Value.int Go.IntKind.u8 0, Go.Value.int Go.IntKind.u8 0, Go.Value.int Go.IntKind.u8 0, Go.Value.int Go.IntKind.u8 0, Go.Value.int Go.IntKind.u8 0, Go.Value.int Go.IntKind.u8 0, Go.Value.int Go.IntKind.u8 0, Go.Value.int Go.IntKind.u8 0, Go.Value.int Go.IntKind.u8 0, Go.Value.int Go.IntKind.u8 0, Go.Value.int Go.IntKind.u8 0, Go.Value.int Go.IntKind.u8 0, Go.Value.int Go.IntKind.u8 0, Go.Value.int Go.IntKind.u8 0, Go.Value.int Go.IntKind.u8 0, Go.Value.int Go.IntKind.u8 0, Go.Value.int Go.IntKind.u8 0, Go.Value.int Go.IntKind.u8 0, Go.Value.int Go.IntKind.u8 0, Go.Value.int Go.IntKind.u8 0, Go.Value.int Go.IntKind.u8 0, Go.Value.int Go.IntKind.u16 0, Go.Value.int Go.IntKind.u16 0, Go.Value.bool Bool.false, Go.Value.int Go.IntKind.u8 0, Go.Value.int Go.IntKind.u8 0, Go.Value.int Go.IntKind.u8 0, Go.Value.int Go.IntKind.u8 0, Go.Value.int Go.IntKind.u8 0, Go.Value.int Go.IntKind.u8 0, Go.Value.int Go.IntKind.u8 0, Go.Value.int Go.IntKind.i64 0], Go.Value.bool Bool.false])) := by kernel_rfl
theorem zer149 : zer Tryz.prog 149 = some (Go.Value.nilFunc) := by kernel_rfl
theorem zer150 : zer Tryz.prog 150 = some (Go.Value.nilFunc) := by kernel_rfl
theorem zer151 : zer Tryz.prog 151 = some (Go.Value.nilFunc) := by kernel_rfl
theorem zer152 : zer Tryz.prog 152 = some ((Go.Value.pointer Option.none)) := by kernel_rfl
theorem zer153 : zer Tryz.prog 153 = some (Go.Value.nilFunc) := by kernel_rfl
theorem zer154 : zer Tryz.prog 154 = some (Go.Value.nilFunc) := by kernel_rfl
theorem zer155 : zer Tryz.prog 155 = some (Go.Value.nilFunc) := by kernel_rfl
theorem zer156 : zer Tryz.prog 156 = some (Go.Value.nilFunc) := by kernel_rfl
theorem zer157 : zer Tryz.prog 157 = some (Go.Value.nilFunc) := by kernel_rfl
theorem zer158 : zer Tryz.prog 158 = some (Go.Value.nilFunc) := by kernel_rfl
theorem zer159 : zer Tryz.prog 159 = some (Go.Value.nilFunc) := by kernel_rfl
theorem zer160 : zer Tryz.prog 160 = some ((Go.Value.int Go.IntKind.u32 0)) := by kernel_rfl
theorem zer161 : zer Tryz.prog 161 = some ((Go.Value.slice Option.none 0 0)) := by kernel_rfl
theorem zer162 : zer Tryz.prog 162 = some (Go.Value.nilFunc) := by kernel_rfl
theorem zer163 : zer Tryz.prog 163 = some ((Go.Value.pointer Option.none)) := by kernel_rfl
theorem zer164 : zer Tryz.prog 164 = some (Go.Value.nilFunc) := by kernel_rfl
theorem zer165 : zer Tryz.prog 165 = some (Go.Value.nilFunc) := by kernel_rfl
theorem zer166 : zer Tryz.prog 166 = some (Go.Value.nilFunc) := by kernel_rfl
theorem zer167 : zer Tryz.prog 167 = some ((Go.Value.tuple #[Go.Value.pointer Option.none, Go.Value.int Go.IntKind.i64 0])) := by kernel_rfl
theorem zer168 : zer Tryz.prog 168 = some (Go.Value.nilFunc) := by kernel_rfl
theorem zer169 : zer Tryz.prog 169 = some ((Go.Value.tuple #[Go.Value.pointer Option.none, Go.Value.int Go.IntKind.i64 0])) := by kernel_rfl
theorem zer170 : zer Tryz.prog 170 = some (Go.Value.nilFunc) := by kernel_rfl
theorem zer171 : zer Tryz.prog 171 = some ((Go.Value.tuple #[Go.Value.pointer Option.none, Go.Value.int Go.IntKind.i64 0])) := by kernel_rfl
theorem zer172 : zer Tryz.prog 172 = some (Go.Value.nilFunc) := by kernel_rfl
theorem zer173 : zer Tryz.prog 173 = some ((Go.Value.tuple #[Go.Value.pointer Option.none, Go.Value.int Go.IntKind.i64 0])) := by kernel_rfl
theorem zer174 : zer Tryz.prog 174 = some (Go.Value.nilFunc) := by kernel_rfl
theorem zer175 : zer Tryz.prog 175 = some ((Go.Value.tuple #[Go.Value.pointer Option.none, Go.Value.int Go.IntKind.i64 0])) := by kernel_rfl
theorem zer176 : zer Tryz.prog 176 = some (Go.Value.nilFunc) := by kernel_rfl
theorem zer177 : zer Tryz.prog 177 = some ((Go.Value.tuple #[Go.Value.pointer Option.none, Go.Value.int Go.IntKind.i64 0])) := by kernel_rfl
theorem zer178 : zer Tryz.prog 178 = some (Go.Value.nilFunc) := by kernel_rfl
theorem zer179 : zer Tryz.prog 179 = some ((Go.Value.tuple #[Go.Value.pointer Option.none, Go.Value.int Go.IntKind.i64 0])) := by kernel_rfl
theorem zer180 : zer Tryz.prog 180 = some (Go.Value.nilFunc) := by kernel_rfl
theorem zer181 : zer Tryz.prog 181 = some ((Go.Value.agg #[Go.Value.int Go.IntKind.i64 0, Go.Value.int Go.IntKind.i64 0])) := by kernel_rfl
theorem zer182 : zer Tryz.prog 182 = some ((Go.Value.agg #[Go.Value.int Go.IntKind.i64 0, Go.Value.int Go.IntKind.i64 0])) := by kernel_rfl
theorem zer183 : zer Tryz.prog 183 = some ((Go.Value.map Option.none)) := by kernel_rfl
theorem zer184 : zer Tryz.prog 184 = some (Go.Value.nilFunc) := by kernel_rfl
theorem zer185 : zer Tryz.prog 185 = some (Go.Value.nilFunc) := by kernel_rfl
theorem zer186 : zer Tryz.prog 186 = some (Go.Value.nilFunc) := by kernel_rfl
theorem zer187 : zer Tryz.prog 187 = some ((Go.Value.slice Option.none 0 0)) := by kernel_rfl
theorem zer188 : zer Tryz.prog 188 = some ((Go.Value.tuple #[Go.Value.int Go.IntKind.i64 0, Go.Value.int Go.IntKind.i64 0])) := by kernel_rfl
theorem zer189 : zer Tryz.prog 189 = some (Go.Value.nilFunc) := by kernel_rfl
theorem zer190 : zer Tryz.prog 190 = some (Go.Value.nilFunc) := by kernel_rfl
theorem zer191 : zer Tryz.prog 191 = some (Go.Value.nilFunc) := by kernel_rfl
theorem zer192 : zer Tryz.prog 192 = some (Go.Value.nilFunc) := by kernel_rfl
theorem zer193 : zer Tryz.prog 193 = some (Go.Value.nilFunc) := by kernel_rfl
theorem zer194 : zer Tryz.prog 194 = some (Go.Value.nilFunc) := by kernel_rfl
theorem zer195 : zer Tryz.prog 195 = some (Go.Value.nilFunc) := by kernel_rfl
theorem zer196 : zer Tryz.prog 196 = some (Go.Value.nilFunc) := by kernel_rfl
theorem zer197 : zer Tryz.prog 197 = some (Go.Value.nilFunc) := by kernel_rfl
theorem zer198 : zer Tryz.prog 198 = some (Go.Value.nilFunc) := by kernel_rfl
theorem zer199 : zer Tryz.prog 199 = some ((Go.Value.int Go.IntKind.u64 0)) := by kernel_rfl
theorem zer200 : zer Tryz.prog 200 = some (Go.Value.nilFunc) := by kernel_rfl
theorem zer201 : zer Tryz.prog 201 = some (Go.Value.nilFunc) := by kernel_rfl
theorem zer202 : zer Tryz.prog 202 = some ((Go.Value.tuple #[Go.Value.slice Option.none 0 0, Go.Value.bool Bool.false, Go.Value.bool Bool.false])) := by kernel_rfl
theorem zer203 : zer Tryz.prog 203 = some (Go.Value.nilFunc) := by kernel_rfl
theorem zer204 : zer Tryz.prog 204 = some ((Go.Value.pointer Option.none)) := by kernel_rfl
theorem zer205 : zer Tryz.prog 205 = some ((Go.Value.agg #[Go.Value.pointer Option.none, Go.Value.int Go.IntKind.i64 0, Go.Value.int Go.IntKind.i64 0, Go.Value.int Go.IntKind.i64 0])) := by kernel_rfl
theorem zer206 : zer Tryz.prog 206 = some ((Go.Value.agg #[Go.Value.pointer Option.none, Go.Value.int Go.IntKind.i64 0, Go.Value.int Go.IntKind.i64 0, Go.Value.int Go.IntKind.i64 0])) := by kernel_rfl
theorem zer207 : zer Tryz.prog 207 = some ((Go.Value.agg #[Go.Value.bool Bool.false, Go.Value.int Go.IntKind.u8 0, Go.Value.int Go.IntKind.u8 0, Go.Value.int Go.IntKind.u8 0, Go.Value.int Go.IntKind.u8 0, Go.Value.int Go.IntKind.u8 0, Go.Value.int Go.IntKind.u8 0, Go.Value.int Go.IntKind.u8 0, Go.Value.int Go.IntKind.i64 0, Go.Value.int Go.IntKind.i64 0])) := by kernel_rfl
theorem zer208 : zer Tryz.prog 208 = some ((Go.Value.agg #[Go.Value.bool Bool.false, Go.Value.int Go.IntKind.u8 0, Go.Value.int Go.IntKind.u8 0, Go.Value.int Go.IntKind.u8 0, Go.Value.int Go.IntKind.u8 0, Go.Value.int Go.IntKind.u8 0, Go.Value.int Go.IntKind.u8 0, Go.Value.int Go.IntKind.u8 0, Go.Value.int Go.IntKind.i64 0, Go.Value.int Go.IntKind.i64 0])) := by kernel_rfl
theorem zer209 : zer Tryz.prog 209 = some (Go.Value.nilFunc) := by kernel_rfl
theorem zer210 : zer Tryz.prog 210 = some ((Go.Value.pointer Option.none)) := by kernel_rfl
theorem zer211 : zer Tryz.prog 211 = some ((Go.Value.agg #[Go.Value.int Go.IntKind.i64 0, Go.Value.pointer Option.none])) := by kernel_rfl
theorem zer212 : zer Tryz.prog 212 = some ((Go.Value.agg #[Go.Value.int Go.IntKind.i64 0, Go.Value.pointer Option.none])) := by kernel_rfl
theorem zer213 : zer Tryz.prog 213 = some ((Go.Value.tuple #[Go.Value.agg #[Go.Value.int Go.IntKind.i64 0, Go.Value.pointer Option.none], Go.Value.bool Bool.false])) := by kernel_rfl
theorem zer214 : zer Tryz.prog 214 = some ((Go.Value.pointer Option.none)) := by kernel_rfl
theorem zer215 : zer Tryz.prog 215 = some ((Go.Value.agg #[Go.Value.pointer Option.none, Go.Value.int Go.IntKind.i64 0, Go.Value.int Go.IntKind.i64 0, Go.Value.int Go.IntKind.i64 0])) := by kernel_rfl
theorem zer216 : zer Tryz.prog 216 = some ((Go.Value.agg #[Go.Value.pointer Option.none, Go.Value.int Go.IntKind.i64 0, Go.Value.int Go.IntKind.i64 0, Go.Value.int Go.IntKind.i64 0])) := by kernel_rfl
theorem zer217 : zer Tryz.prog 217 = some (Go.Value.nilFunc) := by kernel_rfl
theorem zer218 : zer Tryz.prog 218 = some ((Go.Value.tuple #[Go.Value.pointer Option.none, Go.Value.int Go.IntKind.i64 0])) := by kernel_rfl
theorem zer219 : zer Tryz.prog 219 = some (Go.Value.nilFunc) := by kernel_rfl
theorem zer220 : zer Tryz.prog 220 = some (Go.Value.nilFunc) := by kernel_rfl
theorem zer221 : zer Tryz.prog 221 = some (Go.Value.nilFunc) := by kernel_rfl
theorem zer222 : zer Tryz.prog 222 = some (Go.Value.nilFunc) := by kernel_rfl
theorem zer223 : zer Tryz.prog 223 = some (Go.Value.nilFunc) := by kernel_rfl
theorem zer224 : zer Tryz.prog 224 = some (Go.Value.nilFunc) := by kernel_rfl
theorem zer225 : zer Tryz.prog 225 = some (Go.Value.nilFunc) := by kernel_rfl
theorem zer226 : zer Tryz.prog 226 = some ((Go.Value.slice Option.none 0 0)) := by kernel_rfl
theorem zer227 : zer Tryz.prog 227 = some (Go.Value.nilFunc) := by kernel_rfl
theorem zer228 : zer Tryz.prog 228 = some (Go.Value.nilFunc) := by kernel_rfl
theorem zer229 : zer Tryz.prog 229 = some ((Go.Value.agg #[Go.Value.int Go.IntKind.u8 0, Go.Value.int Go.IntKind.u8 0, Go.Value.int Go.IntKind.u8 0, Go.Value.int Go.IntKind.u8 0, Go.Value.int Go.IntKind.u8 0, Go.Value.int Go.IntKind.u8 0, Go.Value.int Go.IntKind.u8 0, Go.Value.int Go.IntKind.u8 0, Go.Value.int Go.IntKind.u8 0, Go.Value.int Go.IntKind.u8 0, Go.Value.int Go.IntKind.u8 0, Go.Value.int Go.IntKind.u8 0, Go.Value.int Go.IntKind.u8 0, Go.Value.int Go.IntKind.u8 0, Go.Value.int Go.IntKind.u8 0, Go.Value.int Go.IntKind.u8 0, Go.Value.int Go.IntKind.u8 0, Go.Value.int Go.IntKind.u8 0, Go.Value.int Go.IntKind.u8 0, Go.Value.int Go.IntKind.u8 0, Go.Value.int Go.IntKind.u8 0, Go.Value.int Go.IntKind.u8 0, Go.Value.int Go.IntKind.u8 0, Go.Value.int Go.IntKind.u8 0, Go.Value.int Go.IntKind.u8 0, Go.Value.int Go.IntKind.u8 0, Go.Value.int Go.IntKind.u8 0, Go.Value.int Go.IntKind.u8 0, Go.Value.int Go.IntKind.u8 0, Go.Value.int Go.IntKind.u8 0, Go.Value.int Go.IntKind.u8 0, Go.Value.int Go.IntKind.u8 0])) := by kernel_rfl
theorem zer230 : zer Tryz.prog 230 = some ((Go.Value.agg #[Go.Value.int Go.IntKind.i64 0, Go.Value.int Go.IntKind.u8 0, Go.Value.int Go.IntKind.u8 0, Go.Value.int Go.IntKind.u8 0, Go.Value.int Go.IntKind.u8 0, Go.Value.int Go.IntKind.u8 0, Go.Value.int Go.IntKind.u8 0, Go.Value.int Go.IntKind.u8 0, Go.Value.int Go.IntKind.u8 0, Go.Value.int Go.IntKind.u8 0, Go.Value.int Go.IntKind.u8 0, Go.Value.int Go.IntKind.u8 0, Go.Value.int Go.IntKind.u8 0, Go.Value.int Go.IntKind.u8 0, Go.Value.int Go.IntKind.u8 0, Go.Value.int Go.IntKind.u8 0, Go.Value.int Go.IntKind.u8 0, Go.Value.int Go.IntKind.u8 0, Go.Value.int Go.IntKind.u8 0, Go.Value.int Go.IntKind.u8 0, Go.Value.int Go.IntKind.u8 0, Go.Value.int Go.IntKind.u8 0, Go.Value.int Go.IntKind.u8 0, Go.Value.int Go.IntKind.u8 0, Go.Value.int Go.IntKind.u8 0, Go.Value.int Go.IntKind.u8 0, Go.Value.int Go.IntKind.u8 0, Go.Value.int Go.IntKind.u8 0, Go.Value.int Go.IntKind.u8 0, Go.Value.int Go.IntKind.u8 0, Go.Value.int Go.IntKind.u8 0, Go.Value.int Go.IntKind.u8 0, Go.Value.int Go.IntKind.u8 0, Go.Value.int Go.IntKind.i64 0, Go.Value.bool Bool.false, Go.Value.int Go.IntKind.i64 0, Go.Value.int Go.IntKind.i64 0])) := by kernel_rfl
theorem zer231 : zer Tryz.prog 231 = some ((Go.Value.agg #[Go.Value.int Go.IntKind.i64 0, Go.Value.int Go.IntKind.u8 0, Go.Value.int Go.IntKind.u8 0, Go.Value.int Go.IntKind.u8 0, Go.Value.int Go.IntKind.u8 0, Go.Value.int Go.IntKind.u8 0, Go.Value.int Go.IntKind.u8 0, Go.Value.int Go.IntKind.u8 0, Go.Value.int Go.IntKind.u8 0, Go.Value.int Go.IntKind.u8 0, Go.Value.int Go.IntKind.u8 0, Go.Value.int Go.IntKind.u8 0, Go.Value.int Go.IntKind.u8 0, Go.Value.int Go.IntKind.u8 0, Go.Value.int Go.IntKind.u8 0, Go.Value.int Go.IntKind.u8 0, Go.Value.int Go.IntKind.u8 0, Go.Value.int Go.IntKind.u8 0, Go.Value.int Go.IntKind.u8 0, Go.Value.int Go.IntKind.u8 0, Go.Value.int Go.IntKind.u8 0, Go.Value.int Go.IntKind.u8 0, Go.Value.int Go.IntKind.u8 0, Go.Value.int Go.IntKind.u8 0, Go.Value.int Go.IntKind.u8 0, Go.Value.int Go.IntKind.u8 0, Go.Value.int Go.IntKind.u8 0, Go.Value.int Go.IntKind.u8 0, Go.Value.int Go.IntKind.u8 0, Go.Value.int Go.IntKind.u8 0, Go.Value.int Go.IntKind.u8 0, Go.Value.int Go.IntKind.u8 0, Go.Value.int Go.IntKind.u8 0, Go.Value.int Go.IntKind.i64 0, Go.Value.bool Bool.false, Go.Value.int Go.IntKind.i64 0, Go.Value.int Go.IntKind.i64 0])) := by kernel_rfl
theorem zer232 : zer Tryz.prog 232 = some ((Go.Value.pointer Option.none)) := by kernel_rfl
theorem zer233 : zer Tryz.prog 233 = some ((Go.Value.pointer Option.none)) := by kernel_rfl
theorem zer234 : zer Tryz.prog 234 = some ((Go.Value.agg #[Go.Value.pointer Option.none, Go.Value.pointer Option.none, Go.Value.slice Option.none 0 0])) := by kernel_rfl
theorem zer235 : zer Tryz.prog 235 = some ((Go.Value.agg #[Go.Value.pointer Option.none, Go.Value.pointer Option.none, Go.Value.slice Option.none 0 0])) := by kernel_rfl
theorem zer236 : zer Tryz.prog 236 = some (Go.Value.nilFunc) := by kernel_rfl
theorem zer237 : zer Tryz.prog 237 = some (Go.Value.nilFunc) := by kernel_rfl
theorem zer238 : zer Tryz.prog 238 = some ((Go.Value.slice Option.none 0 0)) := by kernel_rfl
theorem zer239 : zer Tryz.prog 239 = some ((Go.Value.agg #[Go.Value.slice Option.none 0 0, Go.Value.int Go.IntKind.i64 0, Go.Value.int Go.IntKind.i64 0, Go.Value.int Go.IntKind.i64 0, Go.Value.int Go.IntKind.i64 0, Go.Value.int Go.IntKind.i64 0, Go.Value.int Go.IntKind.i64 0])) := by kernel_rfl
theorem zer240 : zer Tryz.prog 240 = some ((Go.Value.agg #[Go.Value.slice Option.none 0 0, Go.Value.int Go.IntKind.i64 0, Go.Value.int Go.IntKind.i64 0, Go.Value.int Go.IntKind.i64 0, Go.Value.int Go.IntKind.i64 0, Go.Value.int Go.IntKind.i64 0, Go.Value.int Go.IntKind.i64 0])) := by kernel_rfl
theorem zer241 : zer Tryz.prog 241 = some ((Go.Value.agg #[Go.Value.slice Option.none 0 0, Go.Value.bool Bool.false])) := by kernel_rfl
theorem zer242 : zer Tryz.prog 242 = some ((Go.Value.agg #[Go.Value.slice Option.none 0 0, Go.Value.bool Bool.false])) := by kernel_rfl
theorem zer243 : zer Tryz.prog 243 = some (Go.Value.nilFunc) := by kernel_rfl
theorem zer244 : zer Tryz.prog 244 = some ((Go.Value.tuple #[Go.Value.agg #[Go.Value.int Go.IntKind.i64 0, Go.Value.int Go.IntKind.i64 0, Go.Value.int Go.IntKind.i64 0, Go.Value.int Go.IntKind.i64 0, Go.Value.int Go.IntKind.i64 0, Go.Value.int Go.IntKind.i64 0, Go.Value.int Go.IntKind.i64 0, Go.Value.int Go.IntKind.i64 0, Go.Value.int Go.IntKind.i64 0, Go.Value.int Go.IntKind.i64 0, Go.Value.int Go.IntKind.i64 0, Go.Value.int Go.IntKind.i64 0, Go.Value.int Go.IntKind.i64 0, Go.Value.int Go.IntKind.i64 0, Go.Value.int Go.IntKind.i64 0, Go.Value.int Go.IntKind.i64 0, Go.Value.int Go.IntKind.i64 0, Go.Value.int Go.IntKind.i64 0, Go.Value.int Go.IntKind.i64 0, Go.Value.int Go.IntKind.i64 0], Go.Value.int Go.IntKind.i64 0])) := by kernel_rfl
theorem zer245 : zer Tryz.prog 245 = some (Go.Value.nilFunc) := by kernel_rfl
theorem zer246 : zer Tryz.prog 246 = some (Go.Value.nilFunc) := by kernel_rfl
theorem zer247 : zer Tryz.prog 247 = some (Go.Value.nilFunc) := by kernel_rfl
theorem zer248 : zer Tryz.prog 248 = some (Go.Value.nilFunc) := by kernel_rfl
theorem zer249 : zer Tryz.prog 249 = some (Go.Value.nilFunc) := by kernel_rfl
theorem zer250 : zer Tryz.prog 250 = some ((Go.Value.tuple #[Go.Value.pointer Option.none, Go.Value.int Go.IntKind.i64 0])) := by kernel_rfl
theorem zer251 : zer Tryz.prog 251 = some (Go.Value.nilFunc) := by kernel_rfl
theorem zer252 : zer Tryz.prog 252 = some ((Go.Value.tuple #[Go.Value.pointer Option.none, Go.Value.int Go.IntKind.i64 0])) := by kernel_rfl
theorem zer253 : zer Tryz.prog 253 = some (Go.Value.nilFunc) := by kernel_rfl
theorem zer254 : zer Tryz.prog 254 = some ((Go.Value.agg #[Go.Value.int Go.IntKind.i64 0, Go.Value.int Go.IntKind.i64 0, Go.Value.int Go.IntKind.i64 0, Go.Value.slice Option.none 0 0])) := by kernel_rfl
theorem zer255 : zer Tryz.prog 255 = some ((Go.Value.agg #[Go.Value.int Go.IntKind.i64 0, Go.Value.int Go.IntKind.i64 0, Go.Value.int Go.IntKind.i64 0, Go.Value.slice Option.none 0 0])) := by kernel_rfl
theorem zer256 : zer Tryz.prog 256 = some ((Go.Value.slice Option.none 0 0)) := by kernel_rfl
theorem zer257 : zer Tryz.prog 257 = some ((Go.Value.agg #[Go.Value.int Go.IntKind.i64 0, Go.Value.slice Option.none 0 0, Go.Value.slice Option.none 0 0])) := by kernel_rfl
theorem zer258 : zer Tryz.prog 258 = some ((Go.Value.agg #[Go.Value.int Go.IntKind.i64 0, Go.Value.slice Option.none 0 0, Go.Value.slice Option.none 0 0])) := by kernel_rfl
theorem zer259 : zer Tryz.prog 259 = some ((Go.Value.tuple #[Go.Value.pointer Option.none, Go.Value.int Go.IntKind.i64 0])) := by kernel_rfl
theorem zer260 : zer Tryz.prog 260 = some (Go.Value.nilFunc) := by kernel_rfl
theorem zer261 : zer Tryz.prog 261 = some ((Go.Value.tuple #[Go.Value.pointer Option.none, Go.Value.int Go.IntKind.i64 0])) := by kernel_rfl
theorem zer262 : zer Tryz.prog 262 = some (Go.Value.nilFunc) := by kernel_rfl
theorem zer263 : zer Tryz.prog 263 = some ((Go.Value.slice Option.none 0 0)) := by kernel_rfl
theorem zer264 : zer Tryz.prog 264 = some (Go.Value.nilFunc) := by kernel_rfl
theorem zer265 : zer Tryz.prog 265 = some (Go.Value.nilFunc) := by kernel_rfl
theorem zer266 : zer Tryz.prog 266 = some ((Go.Value.pointer Option.none)) := by kernel_rfl
theorem zer267 : zer Tryz.prog 267 = some ((Go.Value.agg #[Go.Value.int Go.IntKind.i64 0, Go.Value.int Go.IntKind.i64 0, Go.Value.int Go.IntKind.i64 0])) := by kernel_rfl
theorem zer268 : zer Tryz.prog 268 = some ((Go.Value.agg #[Go.Value.int Go.IntKind.i64 0, Go.Value.int Go.IntKind.i64 0, Go.Value.int Go.IntKind.i64 0])) := by kernel_rfl
theorem zer269 : zer Tryz.prog 269 = some (Go.Value.nilFunc) := by kernel_rfl
theorem zer270 : zer Tryz.prog 270 = some (Go.Value.nilFunc) := by kernel_rfl
theorem zer271 : zer Tryz.prog 271 = some (Go.Value.nilFunc) := by kernel_rfl
theorem zer272 : zer Tryz.prog 272 = some (Go.Value.nilFunc) := by kernel_rfl
theorem zer273 : zer Tryz.prog 273 = some (Go.Value.nilFunc) := by kernel_rfl
theorem zer274 : zer Tryz.prog 274 = some ((Go.Value.agg #[Go.Value.bool Bool.false, Go.Value.bool Bool.false, Go.Value.int Go.IntKind.i64 0])) := by kernel_rfl
theorem zer275 : zer Tryz.prog 275 = some ((Go.Value.agg #[Go.Value.bool Bool.false, Go.Value.bool Bool.false, Go.Value.int Go.IntKind.i64 0])) := by kernel_rfl
theorem zer276 : zer Tryz.prog 276 = some (Go.Value.nilFunc) := by kernel_rfl
theorem zer277 : zer Tryz.prog 277 = some (Go.Value.nilFunc) := by kernel_rfl
theorem zer278 : zer Tryz.prog 278 = some (Go.Value.nilIface) := by kernel_rfl
theorem zer279 : zer Tryz.prog 279 = some (Go.Value.nilIface) := by kernel_rfl
theorem zer280 : zer Tryz.prog 280 = some ((Go.Value.pointer Option.none)) := by kernel_rfl
theorem zer281 : zer Tryz.prog 281 = some ((Go.Value.slice Option.none 0 0)) := by kernel_rfl
theorem zer282 : zer Tryz.prog 282 = some ((Go.Value.agg #[Go.Value.slice Option.none 0 0, Go.Value.int Go.IntKind.i64 0])) := by kernel_rfl
theorem zer283 : zer Tryz.prog 283 = some ((Go.Value.agg #[Go.Value.slice Option.none 0 0, Go.Value.int Go.IntKind.i64 0])) := by kernel_rfl
theorem zer284 : zer Tryz.prog 284 = some (Go.Value.nilFunc) := by kernel_rfl
theorem zer285 : zer Tryz.prog 285 = some (Go.Value.nilFunc) := by kernel_rfl
theorem zer286 : zer Tryz.prog 286 = some ((Go.Value.agg #[Go.Value.int Go.IntKind.i64 0, Go.Value.bool Bool.false, Go.Value.int Go.IntKind.u8 0, Go.Value.int Go.IntKind.u8 0, Go.Value.int Go.IntKind.u8 0, Go.Value.int Go.IntKind.u8 0, Go.Value.int Go.IntKind.u8 0, Go.Value.int Go.IntKind.u8 0, Go.Value.int Go.IntKind.u8 0, Go.Value.int Go.IntKind.i64 0, Go.Value.pointer Option.none])) := by kernel_rfl
theorem zer287 : zer Tryz.prog 287 = some ((Go.Value.agg #[Go.Value.int Go.IntKind.i64 0, Go.Value.bool Bool.false, Go.Value.int Go.IntKind.u8 0, Go.Value.int Go.IntKind.u8 0, Go.Value.int Go.IntKind.u8 0, Go.Value.int Go.IntKind.u8 0, Go.Value.int Go.IntKind.u8 0, Go.Value.int Go.IntKind.u8 0, Go.Value.int Go.IntKind.u8 0, Go.Value.int Go.IntKind.i64 0, Go.Value.pointer Option.none])) := by kernel_rfl
theorem zer288 : zer Tryz.prog 288 = some ((Go.Value.slice Option.none 0 0)) := by kernel_rfl
theorem zer289 : zer Tryz.prog 289 = some ((Go.Value.agg #[Go.Value.slice Option.none 0 0, Go.Value.int Go.IntKind.i64 0, Go.Value.int Go.IntKind.i64 0])) := by kernel_rfl
theorem zer290 : zer Tryz.prog 290 = some ((Go.Value.agg #[Go.Value.slice Option.none 0 0, Go.Value.int Go.IntKind.i64 0, Go.Value.int Go.IntKind.i64 0])) := by kernel_rfl
theorem zer291 : zer Tryz.prog 291 = some ((Go.Value.agg #[Go.Value.int Go.IntKind.i64 0, Go.Value.int Go.IntKind.i64 0, Go.Value.int Go.IntKind.i64 0, Go.Value.int Go.IntKind.i64 0])) := by kernel_rfl
theorem zer292 : zer Tryz.prog 292 = some ((Go.Value.agg #[Go.Value.int Go.IntKind.i64 0, Go.Value.int Go.IntKind.i64 0, Go.Value.int Go.IntKind.i64 0, Go.Value.int Go.IntKind.i64 0])) := by kernel_rfl
theorem zer293 : zer Tryz.prog 293 = some (Go.Value.nilFunc) := by kernel_rfl
theorem zer294 : zer Tryz.prog 294 = some ((Go.Value.agg #[Go.Value.int Go.IntKind.i64 0, Go.Value.int Go.IntKind.i64 0, Go.Value.int Go.IntKind.i64 0])) := by kernel_rfl
theorem zer295 : zer Tryz.prog 295 = some ((Go.Value.agg #[Go.Value.int Go.IntKind.i64 0, Go.Value.int Go.IntKind.i64 0, Go.Value.int Go.IntKind.i64 0])) := by kernel_rfl
theorem zer296 : zer Tryz.prog 296 = some ((Go.Value.slice Option.none 0 0)) := by kernel_rfl
theorem zer297 : zer Tryz.prog 297 = some ((Go.Value.slice Option.none 0 0)) := by kernel_rfl
theorem zer298 : zer Tryz.prog 298 = some ((Go.Value.agg #[Go.Value.slice Option.none 0 0, Go.Value.slice Option.none 0 0])) := by kernel_rfl
theorem zer299 : zer Tryz.prog 299 = some ((Go.Value.agg #[Go.Value.slice Option.none 0 0, Go.Value.slice Option.none 0 0])) := by kernel_rfl
theorem zer300 : zer Tryz.prog 300 = some (Go.Value.nilFunc) := by kernel_rfl
theorem zer301 : zer Tryz.prog 301 = some ((Go.Value.slice Option.none 0 0)) := by kernel_rfl
theorem zer302 : zer Tryz.prog 302 = some ((Go.Value.agg #[Go.Value.slice Option.none 0 0, Go.Value.int Go.IntKind.i64 0, Go.Value.int Go.IntKind.i64 0])) := by kernel_rfl
theorem zer303 : zer Tryz.prog 303 = some ((Go.Value.agg #[Go.Value.slice Option.none 0 0, Go.Value.int Go.IntKind.i64 0, Go.Value.int Go.IntKind.i64 0])) := by kernel_rfl
theorem zer304 : zer Tryz.prog 304 = some (Go.Value.nilFunc) := by kernel_rfl
theorem zer305 : zer Tryz.prog 305 = some (Go.Value.nilFunc) := by kernel_rfl
theorem zer306 : zer Tryz.prog 306 = some (Go.Value.nilFunc) := by kernel_rfl
theorem zer307 : zer Tryz.prog 307 = some (Go.Value.nilFunc) := by kernel_rfl
theorem zer308 : zer Tryz.prog 308 = some ((Go.Value.slice Option.none 0 0)) := by kernel_rfl
theorem zer309 : zer Tryz.prog 309 = some (Go.Value.nilFunc) := by kernel_rfl
theorem zer310 : zer Tryz.prog 310 = some ((Go.Value.pointer Option.none)) := by kernel_rfl
theorem zer311 : zer Tryz.prog 311 = some ((Go.Value.agg #[Go.Value.int Go.IntKind.i64 0, Go.Value.int Go.IntKind.i64 0])) := by kernel_rfl
theorem zer312 : zer Tryz.prog 312 = some ((Go.Value.agg #[Go.Value.int Go.IntKind.i64 0, Go.Value.int Go.IntKind.i64 0])) := by kernel_rfl
theorem zer313 : zer Tryz.prog 313 = some ((Go.Value.agg #[Go.Value.int Go.IntKind.i64 0, Go.Value.bool Bool.false, Go.Value.int Go.IntKind.u8 0, Go.Value.int Go.IntKind.u8 0, Go.Value.int Go.IntKind.u8 0, Go.Value.int Go.IntKind.u8 0, Go.Value.int Go.IntKind.u8 0, Go.Value.int Go.IntKind.u8 0, Go.Value.int Go.IntKind.u8 0, Go.Value.int Go.IntKind.u8 0, Go.Value.int Go.IntKind.u8 0, Go.Value.int Go.IntKind.u8 0, Go.Value.int Go.IntKind.u8 0, Go.Value.int Go.IntKind.u8 0, Go.Value.int Go.IntKind.u8 0, Go.Value.int Go.IntKind.u8 0, Go.Value.int Go.IntKind.u8 0, Go.Value.int Go.IntKind.u8 0, Go.Value.int Go.IntKind.u8 0, Go.Value.int Go.IntKind.u8 0, Go.Value.int Go.IntKind.u8 0, Go.Value.int Go.IntKind.u8 0, Go.Value.int Go.IntKind.u8 0, Go.Value.int Go.IntKind.u8 0, Go.Value.int Go.IntKind.u8 0, Go.Value.int Go.IntKind.u8 0, Go.Value.int Go.IntKind.u8 0, Go.Value.int Go.IntKind.u8 0, Go.Value.int Go.IntKind.u8 0, Go.Value.int Go.IntKind.u8 0, Go.Value.int Go.IntKind.u8 0, Go.Value.int Go.IntKind.u8 0, Go.Value.int Go.IntKind.u8 0, Go.Value.int Go.IntKind.u8 0, Go.Value.int Go.IntKind.u8 0, Go.Value.int Go.IntKind.u16 0, Go.Value.int Go.IntKind.u16 0, Go.Value.bool Bool.false, Go.Value.int Go.IntKind.u8 0, Go.Value.int Go.IntKind.u8 0, Go.Value.int Go.IntKind.u8 0, Go.Value.int Go.IntKind.u8 0, Go.Value.int Go.IntKind.u8 0, Go.Value.int Go.IntKind.u8 0, Go.Value.int Go.IntKind.u8 0, Go.Value.int Go.IntKind.i64 0, Go.Value.bool Bool.false, Go.Value.int Go.IntKind.i64 0])) := by kernel_rfl
theorem zer314 : zer Tryz.prog 314 = some ((Go.Value.agg #[Go.Value.int Go.IntKind.i64 0, Go.Value.bool Bool.false, Go.Value.int Go.IntKind.u8 0, Go.Value.int Go.IntKind.u8 0, Go.Value.int Go.IntKind.u8 0, Go.Value.int Go.IntKind.u8 0, Go.Value.int Go.IntKind.u8 0, Go.Value.int Go.IntKind.u8 0, Go.Value.int Go.IntKind.u8 0, Go.Value.int Go.IntKind.u8 0, Go.Value.int Go.IntKind.u8 0, Go.Value.int Go.IntKind.u8 0, Go.Value.int Go.IntKind.u8 0, Go.Value.int Go.IntKind.u8 0, Go.Value.int Go.IntKind.u8 0, Go.Value.int Go.IntKind.u8 0, Go.Value.int Go.IntKind.u8 0, Go.Value.int Go.IntKind.u8 0, Go.Value.int Go.IntKind.u8 0, Go.Value.int Go.IntKind.u8 0, Go.Value.int Go.IntKind.u8 0, Go.Value.int Go.IntKind.u8 0, Go.Value.int Go.IntKind.u8 0, Go.Value.int Go.IntKind.u8 0, Go.Value.int Go.IntKind.u8 0, Go.Value.int Go.IntKind.u8 0, Go.Value.int Go.IntKind.u8 0, Go.Value.int Go.IntKind.u8 0, Go.Value.int Go.IntKind.u8 0, Go.Value.int Go.IntKind.u8 0, Go.Value.int Go.IntKind.u8 0, Go.Value.int Go.IntKind.u8 0, Go.Value.int Go.IntKind.u8 0, Go.Value.int Go.IntKind.u8 0, Go.Value.int Go.IntKind.u8 0, Go.Value.int Go.IntKind.u16 0, Go.Value.int Go.IntKind.u16 0, Go.Value.bool Bool.false, Go.Value.int Go.IntKind.u8 0, Go.Value.int Go.IntKind.u8 0, Go.Value.int Go.IntKind.u8 0, Go.Value.int Go.IntKind.u8 0, Go.Value.int Go.IntKind.u8 0, Go.Value.int Go.IntKind.u8 0, Go.Value.int Go.IntKind.u8 0, Go.Value.int Go.IntKind.i64 0, Go.Value.bool Bool.false, Go.Value.int Go.IntKind.i64 0])) := by kernel_rfl
theorem zer315 : zer Tryz.prog 315 = some (Go.Value.nilFunc) := by kernel_rfl
theorem zer316 : zer Tryz.prog 316 = some (Go.Value.nilFunc) := by kernel_rfl
theorem zer317 : zer Tryz.prog 317 = some ((Go.Value.pointer Option.none)) := by kernel_rfl
theorem zer318 : zer Tryz.prog 318 = some (Go.Value.nilFunc) := by kernel_rfl
theorem zer319 : zer Tryz.prog 319 = some (Go.Value.nilFunc) := by kernel_rfl
theorem zer320 : zer Tryz.prog 320 = some (Go.Value.nilFunc) := by kernel_rfl
theorem zer321 : zer Tryz.prog 321 = some (Go.Value.nilFunc) := by kernel_rfl
theorem zer322 : zer Tryz.prog 322 = some ((Go.Value.tuple #[Go.Value.int Go.IntKind.i64 0, Go.Value.int Go.IntKind.i64 0, Go.Value.bool Bool.false])) := by kernel_rfl
theorem zer323 : zer Tryz.prog 323 = some (Go.Value.nilFunc) := by kernel_rfl
theorem zer324 : zer Tryz.prog 324 = some (Go.Value.nilFunc) := by kernel_rfl
theorem zer325 : zer Tryz.prog 325 = some (Go.Value.nilFunc) := by kernel_rfl
theorem zer326 : zer Tryz.prog 326 = some ((Go.Value.pointer Option.none)) := by kernel_rfl
theorem zer327 : zer Tryz.prog 327 = some (Go.Value.nilFunc) := by kernel_rfl
theorem zer328 : zer Tryz.prog 328 = some ((Go.Value.slice Option.none 0 0)) := by kernel_rfl
theorem zer329 : zer Tryz.prog 329 = some (Go.Value.nilFunc) := by kernel_rfl
theorem zer330 : zer Tryz.prog 330 = some ((Go.Value.pointer Option.none)) := by kernel_rfl
theorem zer331 : zer Tryz.prog 331 = some ((Go.Value.agg #[Go.Value.int Go.IntKind.u64 0, Go.Value.int Go.IntKind.u64 0, Go.Value.int Go.IntKind.u64 0, Go.Value.int Go.IntKind.u64 0])) := by kernel_rfl
theorem zer332 : zer Tryz.prog 332 = some ((Go.Value.agg #[Go.Value.int Go.IntKind.u64 0, Go.Value.int Go.IntKind.u64 0, Go.Value.int Go.IntKind.u64 0, Go.Value.int Go.IntKind.u64 0])) := by kernel_rfl
theorem zer333 : zer Tryz.prog 333 = some (Go.Value.nilFunc) := by kernel_rfl
theorem zer334 : zer Tryz.prog 334 = some (Go.Value.nilFunc) := by kernel_rfl
theorem zer335 : zer Tryz.prog 335 = some (Go.Value.nilFunc) := by kernel_rfl
theorem zer336 : zer Tryz.prog 336 = some ((Go.Value.int Go.IntKind.i64 0)) := by kernel_rfl
theorem zer337 : zer Tryz.prog 337 = some ((Go.Value.tuple #[Go.Value.int Go.IntKind.i64 0, Go.Value.int Go.IntKind.i64 0])) := by kernel_rfl
theorem zer338 : zer Tryz.prog 338 = some (Go.Value.nilFunc) := by kernel_rfl
theorem zer339 : zer Tryz.prog 339 = some (Go.Value.nilFunc) := by kernel_rfl
theorem zer340 : zer Tryz.prog 340 = some (Go.Value.nilFunc) := by kernel_rfl
theorem zer341 : zer Tryz.prog 341 = some (Go.Value.nilFunc) := by kernel_rfl
theorem zer342 : zer Tryz.prog 342 = some (Go.Value.nilFunc) := by kernel_rfl
theorem zer343 : zer Tryz.prog 343 = some (Go.Value.nilFunc) := by kernel_rfl
theorem zer344 : zer Tryz.prog 344 = some (Go.Value.nilFunc) := by kernel_rfl
theorem zer345 : zer Tryz.prog 345 = some (Go.Value.nilFunc) := by kernel_rfl
theorem zer346 : zer Tryz.prog 346 = some (Go.Value.nilFunc) := by kernel_rfl
theorem zer347 : zer Tryz.prog 347 = some ((Go.Value.int Go.IntKind.u64 0)) := by kernel_rfl
theorem zer348 : zer Tryz.prog 348 = some (Go.Value.nilFunc) := by kernel_rfl
theorem zer349 : zer Tryz.prog 349 = some (Go.Value.nilFunc) := by kernel_rfl
theorem zer350 : zer Tryz.prog 350 = some (Go.Value.nilFunc) := by kernel_rfl
theorem zer351 : zer Tryz.prog 351 = some ((Go.Value.pointer Option.none)) := by kernel_rfl
theorem zer352 : zer Tryz.prog 352 = some (Go.Value.nilFunc) := by kernel_rfl
theorem zer353 : zer Tryz.prog 353 = some (Go.Value.nilFunc) := by kernel_rfl
theorem zer354 : zer Tryz.prog 354 = some ((Go.Value.agg #[Go.Value.pointer Option.none, Go.Value.pointer Option.none, Go.Value.pointer Option.none, Go.Value.string { data := #[] }])) := by kernel_rfl
theorem zer355 : zer Tryz.prog 355 = some ((Go.Value.agg #[Go.Value.pointer Option.none, Go.Value.pointer Option.none, Go.Value.pointer Option.none, Go.Value.string { data := #[] }])) := by kernel_rfl
theorem zer356 : zer Tryz.prog 356 = some ((Go.Value.agg #[])) := by kernel_rfl
theorem zer357 : zer Tryz.prog 357 = some ((Go.Value.agg #[])) := by kernel_rfl
theorem zer358 : zer Tryz.prog 358 = some ((Go.Value.agg #[])) := by kernel_rfl
theorem zer359 : zer Tryz.prog 359 = some ((Go.Value.int Go.IntKind.u8 0)) := by kernel_rfl
theorem zer360 : zer Tryz.prog 360 = some ((Go.Value.int Go.IntKind.u8 0)) := by kernel_rfl
theorem zer361 : zer Tryz.prog 361 = some (Go.Value.nilFunc) := by kernel_rfl
theorem zer362 : zer Tryz.prog 362 = some ((Go.Value.pointer Option.none)) := by kernel_rfl
theorem zer363 : zer Tryz.prog 363 = some ((Go.Value.int Go.IntKind.i32 0)) := by kernel_rfl
theorem zer364 : zer Tryz.prog 364 = some ((Go.Value.int Go.IntKind.i32 0)) := by kernel_rfl
theorem zer365 : zer Tryz.prog 365 = some ((Go.Value.agg #[Go.Value.int Go.IntKind.u64 0, Go.Value.int Go.IntKind.u64 0, Go.Value.int Go.IntKind.u32 0, Go.Value.int Go.IntKind.u8 0, Go.Value.int Go.IntKind.u8 0, Go.Value.int Go.IntKind.u8 0, Go.Value.int Go.IntKind.u8 0, Go.Value.nilFunc, Go.Value.pointer Option.none, Go.Value.int Go.IntKind.i32 0, Go.Value.int Go.IntKind.i32 0])) := by kernel_rfl
theorem zer366 : zer Tryz.prog 366 = some ((Go.Value.agg #[Go.Value.int Go.IntKind.u64 0, Go.Value.int Go.IntKind.u64 0, Go.Value.int Go.IntKind.u32 0, Go.Value.int Go.IntKind.u8 0, Go.Value.int Go.IntKind.u8 0, Go.Value.int Go.IntKind.u8 0, Go.Value.int Go.IntKind.u8 0, Go.Value.nilFunc, Go.Value.pointer Option.none, Go.Value.int Go.IntKind.i32 0, Go.Value.int Go.IntKind.i32 0])) := by kernel_rfl
theorem zer367 : zer Tryz.prog 367 = some ((Go.Value.pointer Option.none)) := by kernel_rfl
set_option linter.defProp false
def tyF := (And.intro (And.intro (And.intro (And.intro (And.intro (And.intro (And.intro (And.intro (And.intro @List.take_succ_cons.{0} (And.intro @List.take_zero.{0} @List.drop_succ_cons.{0})) (And.intro (And.intro @List.drop_zero.{0} @Tryz.underlying0) (And.intro @Tryz.underlying1 @Tryz.underlying2))) (And.intro (And.intro (And.intro @Tryz.underlying3 @Tryz.underlying4) (And.intro @Tryz.underlying5 @Tryz.underlying6)) (And.intro (And.intro @Tryz.underlying7 @Tryz.underlying8) (And.intro @Tryz.underlying9 @Tryz.underlying10)))) (And.intro (And.intro (And.intro (And.intro @Tryz.underlying11 @Tryz.underlying12) (And.intro @Tryz.underlying13 @Tryz.underlying14)) (And.intro (And.intro @Tryz.underlying15 @Tryz.underlying16) (And.intro @Tryz.underlying17 @Tryz.underlying18))) (And.intro (And.intro (And.intro @Tryz.underlying19 @Tryz.underlying20) (And.intro @Tryz.underlying21 @Tryz.underlying22)) (And.intro (And.intro @Tryz.underlying23 @Tryz.underlying24) (And.intro @Tryz.underlying25 @Tryz.underlying26))))) (And.intro (And.intro (And.intro (And.intro @Tryz.underlying27 (And.intro @Tryz.underlying28 @Tryz.underlying29)) (And.intro (And.intro @Tryz.underlying30 @Tryz.underlying31) (And.intro @Tryz.underlying32 @Tryz.underlying33))) (And.intro (And.intro (And.intro @Tryz.underlying34 @Tryz.underlying35) (And.intro @Tryz.underlying36 @Tryz.underlying37)) (And.intro (And.intro @Tryz.underlying38 @Tryz.underlying39) (And.intro @Tryz.underlying40 @Tryz.underlying41)))) (And.intro (And.intro (And.intro (And.intro @Tryz.underlying42 @Tryz.underlying43) (And.intro @Tryz.underlying44 @Tryz.underlying45)) (And.intro (And.intro @Tryz.underlying46 @Tryz.underlying47) (And.intro @Tryz.underlying48 @Tryz.underlying49))) (And.intro (And.intro (And.intro @Tryz.underlying50 @Tryz.underlying51) (And.intro @Tryz.underlying52 @Tryz.underlying53)) (And.intro (And.intro @Tryz.underlying54 @Tryz.underlying55) (And.intro @Tryz.underlying56 @Tryz.underlying57)))))) (And.intro (And.intro (And.intro (And.intro (And.intro @Tryz.underlying58 (And.intro @Tryz.underlying59 @Tryz.underlying60)) (And.intro (And.intro @Tryz.underlying61 @Tryz.underlying62) (And.intro @Tryz.underlying63 @Tryz.underlying64))) (And.intro (And.intro (And.intro @Tryz.underlying65 @Tryz.underlying66) (And.intro @Tryz.underlying67 @Tryz.underlying68)) (And.intro (And.intro @Tryz.underlying69 @Tryz.underlying70) (And.intro @Tryz.underlying71 @Tryz.underlying72)))) (And.intro (And.intro (And.intro (And.intro @Tryz.underlying73 @Tryz.underlying74) (And.intro @Tryz.underlying75 @Tryz.underlying76)) (And.intro (And.intro @Tryz.underlying77 @Tryz.underlying78) (And.intro @Tryz.underlying79 @Tryz.underlying80))) (And.intro (And.intro (And.intro @Tryz.underlying81 @Tryz.underlying82) (And.intro @Tryz.underlying83 @Tryz.underlying84)) (And.intro (And.intro @Tryz.underlying85 @Tryz.underlying86) (And.intro @Tryz.underlying87 @Tryz.underlying88))))) (And.intro (And.intro (And.intro (And.intro @Tryz.underlying89 (And.intro @Tryz.underlying90 @Tryz.underlying91)) (And.intro (And.intro @Tryz.underlying92 @Tryz.underlying93) (And.intro @Tryz.underlying94 @Tryz.underlying95))) (And.intro (And.intro (And.intro @Tryz.underlying96 @Tryz.underlying97) (And.intro @Tryz.underlying98 @Tryz.underlying99)) (And.intro (And.intro @Tryz.underlying100 @Tryz.underlying101) (And.intro @Tryz.underlying102 @Tryz.underlying103)))) (And.intro (And.intro (And.intro (And.intro @Tryz.underlying104 @Tryz.underlying105) (And.intro @Tryz.underlying106 @Tryz.underlying107)) (And.intro (And.intro @Tryz.underlying108 @Tryz.underlying109) (And.intro @Tryz.underlying110 @Tryz.underlying111))) (And.intro (And.intro (And.intro @Tryz.underlying112 @Tryz.underlying113) (And.intro @Tryz.underlying114 @Tryz.underlying115)) (And.intro (And.intro @Tryz.underlying116 @Tryz.underlying117) (And.intro @Tryz.underlying118 @Tryz.underlying119))))))) (And.intro (And.intro (And.intro (And.intro (And.intro (And.intro @Tryz.underlying120 (And.intro @Tryz.underlying121 @Tryz.underlying122)) (And.intro (And.intro @Tryz.underlying123 @Tryz.underlying124) (And.intro @Tryz.underlying125 @Tryz.underlying126))) (And.intro (And.intro (And.intro @Tryz.underlying127 @Tryz.underlying128) (And.intro @Tryz.underlying129 @Tryz.underlying130)) (And.intro (And.intro @Tryz.underlying131 @Tryz.underlying132) (And.intro @Tryz.underlying133 @Tryz.underlying134)))) (And.intro (And.intro (And.intro (And.intro @Tryz.underlying135 @Tryz.underlying136) (And.intro @Tryz.underlying137 @Tryz.underlying138)) (And.intro (And.intro @Tryz.underlying139 @Tryz.underlying140) (And.intro @Tryz.underlying141 @Tryz.underlying142))) (And.intro (And.intro (And.intro @Tryz.underlying143 @Tryz.underlying144) (And.intro @Tryz.underlying145 @Tryz.underlying146)) (And.intro (And.intro @Tryz.underlying147 @Tryz.underlying148) (And.intro @Tryz.underlying149 @Tryz.underlying150))))) (And.intro (And.intro (And.intro (And.intro @Tryz.underlying151 (And.intro @Tryz.underlying152 @Tryz.underlying153)) (And.intro (And.intro @Tryz.underlying154 @Tryz.underlying155) (And.intro @Tryz.underlying156 @Tryz.underlying157))) (And.intro (And.intro (And.intro @Tryz.underlying158 @Tryz.underlying159) (And.intro @Tryz.underlying160 @Tryz.underlying161)) (And.intro (And.intro @Tryz.underlying162 @Tryz.underlying163) (And.intro @Tryz.underlying164 @Tryz.underlying165)))) (And.intro (And.intro (And.intro (And.intro @Tryz.underlying166 @Tryz.underlying167) (And.intro @Tryz.underlying168 @Tryz.underlying169)) (And.intro (And.intro @Tryz.underlying170 @Tryz.underlying171) (And.intro @Tryz.underlying172 @Tryz.underlying173))) (And.intro (And.intro (And.intro @Tryz.underlying174 @Tryz.underlying175) (And.intro @Tryz.underlying176 @Tryz.underlying177)) (And.intro (And.intro @Tryz.underlying178 @Tryz.underlying179) (And.intro @Tryz.underlying180 @Tryz.underlying181)))))) (And.intro (And.intro (And.intro (And.intro (And.intro @Tryz.underlying182 (And.intro @Tryz.underlying183 @Tryz.underlying184)) (And.intro (And.intro @Tryz.underlying185 @Tryz.underlying186) (And.intro @Tryz.underlying187 @Tryz.underlying188))) (And.intro (And.intro (And.intro @Tryz.underlying189 @Tryz.underlying190) (And.intro @Tryz.underlying191 @Tryz.underlying192)) (And.intro (And.intro @Tryz.underlying193 @Tryz.underlying194) (And.intro @Tryz.underlying195 @Tryz.underlying196)))) (And.intro (And.intro (And.intro (And.intro @Tryz.underlying197 @Tryz.underlying198) (And.intro @Tryz.underlying199 @Tryz.underlying200)) (And.intro (And.intro @Tryz.underlying201 @Tryz.underlying202) (And.intro @Tryz.underlying203 @Tryz.underlying204))) (And.intro (And.intro (And.intro @Tryz.underlying205 @Tryz.underlying206) (And.intro @Tryz.underlying207 @Tryz.underlying208)) (And.intro (And.intro @Tryz.underlying209 @Tryz.underlying210) (And.intro @Tryz.underlying211 @Tryz.underlying212))))) (And.intro (And.intro (And.intro (And.intro @Tryz.underlying213 (And.intro @Tryz.underlying214 @Tryz.underlying215)) (And.intro (And.intro @Tryz.underlying216 @Tryz.underlying217) (And.intro @Tryz.underlying218 @Tryz.underlying219))) (And.intro (And.intro (And.intro @Tryz.underlying220 @Tryz.underlying221) (And.intro @Tryz.underlying222 @Tryz.underlying223)) (And.intro (And.intro @Tryz.underlying224 @Tryz.underlying225) (And.intro @Tryz.underlying226 @Tryz.underlying227)))) (And.intro (And.intro (And.intro (And.intro @Tryz.underlying228 @Tryz.underlying229) (And.intro @Tryz.underlying230 @Tryz.underlying231)) (And.intro (And.intro @Tryz.underlying232 @Tryz.underlying233) (And.intro @Tryz.underlying234 @Tryz.underlying235))) (And.intro (And.intro (And.intro @Tryz.underlying236 @Tryz.underlying237) (And.intro @Tryz.underlying238 @Tryz.underlying239)) (And.intro (And.intro @Tryz.underlying240 @Tryz.underlying241) (And.intro @Tryz.underlying242 @Tryz.underlying243)))))))) (And.intro (And.intro (And.intro (And.intro (And.intro (And.intro (And.intro @Tryz.underlying244 (And.intro @Tryz.underlying245 @Tryz.underlying246)) (And.intro (And.intro @Tryz.underlying247 @Tryz.underlying248) (And.intro @Tryz.underlying249 @Tryz.underlying250))) (And.intro (And.intro (And.intro @Tryz.underlying251 @Tryz.underlying252) (And.intro @Tryz.underlying253 @Tryz.underlying254)) (And.intro (And.intro @Tryz.underlying255 @Tryz.underlying256) (And.intro @Tryz.underlying257 @Tryz.underlying258)))) (And.intro (And.intro (And.intro (And.intro @Tryz.underlying259 @Tryz.underlying260) (And.intro @Tryz.underlying261 @Tryz.underlying262)) (And.intro (And.intro @Tryz.underlying263 @Tryz.underlying264) (And.intro @Tryz.underlying265 @Tryz.underlying266))) (And.intro (And.intro (And.intro @Tryz.underlying267 @Tryz.underlying268) (And.intro @Tryz.underlying269 @Tryz.underlying270)) (And.intro (And.intro @Tryz.underlying271 @Tryz.underlying272) (And.intro @Tryz.underlying273 @Tryz.underlying274))))) (And.intro (And.intro (And.intro (And.intro @Tryz.underlying275 (And.intro @Tryz.underlying276 @Tryz.underlying277)) (And.intro (And.intro @Tryz.underlying278 @Tryz.underlying279) (And.intro @Tryz.underlying280 @Tryz.underlying281))) (And.intro (And.intro (And.intro @Tryz.underlying282 @Tryz.underlying283) (And.intro @Tryz.underlying284 @Tryz.underlying285)) (And.intro (And.intro @Tryz.underlying286 @Tryz.underlying287) (And.intro @Tryz.underlying288 @Tryz.underlying289)))) (And.intro (And.intro (And.intro (And.intro @Tryz.underlying290 @Tryz.underlying291) (And.intro @Tryz.underlying292 @Tryz.underlying293)) (And.intro (And.intro @Tryz.underlying294 @Tryz.underlying295) (And.intro @Tryz.underlying296 @Tryz.underlying297))) (And.intro (And.intro (And.intro @Tryz.underlying298 @Tryz.underlying299) (And.intro @Tryz.underlying300 @Tryz.underlying301)) (And.intro (And.intro @Tryz.underlying302 @Tryz.underlying303) (And.intro @Tryz.underlying304 @Tryz.underlying305)))))) (And.intro (And.intro (And.intro (And.intro (And.intro @Tryz.underlying306 (And.intro @Tryz.underlying307 @Tryz.underlying308)) (And.intro (And.intro @Tryz.underlying309 @Tryz.underlying310) (And.intro @Tryz.underlying311 @Tryz.underlying312))) (And.intro (And.intro (And.intro @Tryz.underlying313 @Tryz.underlying314) (And.intro @Tryz.underlying315 @Tryz.underlying316)) (And.intro (And.intro @Tryz.underlying317 @Tryz.underlying318) (And.intro @Tryz.underlying319 @Tryz.underlying320)))) (And.intro (And.intro (And.intro (And.intro @Tryz.underlying321 @Tryz.underlying322) (And.intro @Tryz.underlying323 @Tryz.underlying324)) (And.intro (And.intro @Tryz.underlying325 @Tryz.underlying326) (And.intro @Tryz.underlying327 @Tryz.underlying328))) (And.intro (And.intro (And.intro @Tryz.underlying329 @Tryz.underlying330) (And.intro @Tryz.underlying331 @Tryz.underlying332)) (And.intro (And.intro @Tryz.underlying333 @Tryz.underlying334) (And.intro @Tryz.underlying335 @Tryz.underlying336))))) (And.intro (And.intro (And.intro (And.intro @Tryz.underlying337 (And.intro @Tryz.underlying338 @Tryz.underlying339)) (And.intro (And.intro @Tryz.underlying340 @Tryz.underlying341) (And.intro @Tryz.underlying342 @Tryz.underlying343))) (And.intro (And.intro (And.intro @Tryz.underlying344 @Tryz.underlying345) (And.intro @Tryz.underlying346 @Tryz.underlying347)) (And.intro (And.intro @Tryz.underlying348 @Tryz.underlying349) (And.intro @Tryz.underlying350 @Tryz.underlying351)))) (And.intro (And.intro (And.intro (And.intro @Tryz.underlying352 @Tryz.underlying353) (And.intro @Tryz.underlying354 @Tryz.underlying355)) (And.intro (And.intro @Tryz.underlying356 @Tryz.underlying357) (And.intro @Tryz.underlying358 @Tryz.underlying359))) (And.intro (And.intro (And.intro @Tryz.underlying360 @Tryz.underlying361) (And.intro @Tryz.underlying362 @Tryz.underlying363)) (And.intro (And.intro @Tryz.underlying364 @Tryz.underlying365) (And.intro @Tryz.underlying366 @Tryz.underlying367))))))) (And.intro (And.intro (And.intro (And.intro (And.intro (And.intro @cells0 (And.intro @cells1 @cells2)) (And.intro (And.intro @cells3 @cells4) (And.intro @cells5 @cells6))) (And.intro (And.intro (And.intro @cells7 @cells8) (And.intro @cells9 @cells10)) (And.intro (And.intro @cells11 @cells12) (And.intro @cells13 @cells14)))) (And.intro (And.intro (And.intro (And.intro @cells15 @cells16) (And.intro @cells17 @cells18)) (And.intro (And.intro @cells19 @cells20) (And.intro @cells21 @cells22))) (And.intro (And.intro (And.intro @cells23 @cells24) (And.intro @cells25 @cells26)) (And.intro (And.intro @cells27 @cells28) (And.intro @cells29 @cells30))))) (And.intro (And.intro (And.intro (And.intro @cells31 (And.intro @cells32 @cells33)) (And.intro (And.intro @cells34 @cells35) (And.intro @cells36 @cells37))) (And.intro (And.intro (And.intro @cells38 @cells39) (And.intro @cells40 @cells41)) (And.intro (And.intro @cells42 @cells43) (And.intro @cells44 @cells45)))) (And.intro (And.intro (And.intro (And.intro @cells46 @cells47) (And.intro @cells48 @cells49)) (And.intro (And.intro @cells50 @cells51) (And.intro @cells52 @cells53))) (And.intro (And.intro (And.intro @cells54 @cells55) (And.intro @cells56 @cells57)) (And.intro (And.intro @cells58 @cells59) (And.intro @cells60 @cells61)))))) (And.intro (And.intro (And.intro (And.intro (And.intro @cells62 (And.intro @cells63 @cells64)) (And.intro (And.intro @cells65 @cells66) (And.intro @cells67 @cells68))) (And.intro (And.intro (And.intro @cells69 @cells70) (And.intro @cells71 @cells72)) (And.intro (And.intro @cells73 @cells74) (And.intro @cells75 @cells76)))) (And.intro (And.intro (And.intro (And.intro @cells77 @cells78) (And.intro @cells79 @cells80)) (And.intro (And.intro @cells81 @cells82) (And.intro @cells83 @cells84))) (And.intro (And.intro (And.intro @cells85 @cells86) (And.intro @cells87 @cells88)) (And.intro (And.intro @cells89 @cells90) (And.intro @cells91 @cells92))))) (And.intro (And.intro (And.intro (And.intro (And.intro @cells93 @cells94) (And.intro @cells95 @cells96)) (And.intro (And.intro @cells97 @cells98) (And.intro @cells99 @cells100))) (And.intro (And.intro (And.intro @cells101 @cells102) (And.intro @cells103 @cells104)) (And.intro (And.intro @cells105 @cells106) (And.intro @cells107 @cells108)))) (And.intro (And.intro (And.intro (And.intro @cells109 @cells110) (And.intro @cells111 @cells112)) (And.intro (And.intro @cells113 @cells114) (And.intro @cells115 @cells116))) (And.intro (And.intro (And.intro @cells117 @cells118) (And.intro @cells119 @cells120)) (And.intro (And.intro @cells121 @cells122) (And.intro @cells123 @cells124))))))))) (And.intro (And.intro (And.intro (And.intro (And.intro (And.intro (And.intro (And.intro @cells125 (And.intro @cells126 @cells127)) (And.intro (And.intro @cells128 @cells129) (And.intro @cells130 @cells131))) (And.intro (And.intro (And.intro @cells132 @cells133) (And.intro @cells134 @cells135)) (And.intro (And.intro @cells136 @cells137) (And.intro @cells138 @cells139)))) (And.intro (And.intro (And.intro (And.intro @cells140 @cells141) (And.intro @cells142 @cells143)) (And.intro (And.intro @cells144 @cells145) (And.intro @cells146 @cells147))) (And.intro (And.intro (And.intro @cells148 @cells149) (And.intro @cells150 @cells151)) (And.intro (And.intro @cells152 @cells153) (And.intro @cells154 @cells155))))) (And.intro (And.intro (And.intro (And.intro @cells156 (And.intro @cells157 @cells158)) (And.intro (And.intro @cells159 @cells160) (And.intro @cells161 @cells162))) (And.intro (And.intro (And.intro @cells163 @cells164) (And.intro @cells165 @cells166)) (And.intro (And.intro @cells167 @cells168) (And.intro @cells169 @cells170)))) (And.intro (And.intro (And.intro (And.intro @cells171 @cells172) (And.intro @cells173 @cells174)) (And.intro (And.intro @cells175 @cells176) (And.intro @cells177 @cells178))) (And.intro (And.intro (And.intro @cells179 @cells180) (And.intro @cells181 @cells182)) (And.intro (And.intro @cells183 @cells184) (And.intro @cells185 @cells186)))))) (And.intro (And.intro (And.intro (And.intro (And.intro @cells187 (And.intro @cells188 @cells189)) (And.intro (And.intro @cells190 @cells191) (And.intro @cells192 @cells193))) (And.intro (And.intro (And.intro @cells194 @cells195) (And.intro @cells196 @cells197)) (And.intro (And.intro @cells198 @cells199) (And.intro @cells200 @cells201)))) (And.intro (And.intro (And.intro (And.intro @cells202 @cells203) (And.intro @cells204 @cells205)) (And.intro (And.intro @cells206 @cells207) (And.intro @cells208 @cells209))) (And.intro (And.intro (And.intro @cells210 @cells211) (And.intro @cells212 @cells213)) (And.intro (And.intro @cells214 @cells215) (And.intro @cells216 @cells217))))) (And.intro (And.intro (And.intro (And.intro @cells218 (And.intro @cells219 @cells220)) (And.intro (And.intro @cells221 @cells222) (And.intro @cells223 @cells224))) (And.intro (And.intro (And.intro @cells225 @cells226) (And.intro @cells227 @cells228)) (And.intro (And.intro @cells229 @cells230) (And.intro @cells231 @cells232)))) (And.intro (And.intro (And.intro (And.intro @cells233 @cells234) (And.intro @cells235 @cells236)) (And.intro (And.intro @cells237 @cells238) (And.intro @cells239 @cells240))) (And.intro (And.intro (And.intro @cells241 @cells242) (And.intro @cells243 @cells244)) (And.intro (And.intro @cells245 @cells246) (And.intro @cells247 @cells248))))))) (And.intro (And.intro (And.intro (And.intro (And.intro (And.intro @cells249 (And.intro @cells250 @cells251)) (And.intro (And.intro @cells252 @cells253) (And.intro @cells254 @cells255))) (And.intro (And.intro (And.intro @cells256 @cells257) (And.intro @cells258 @cells259)) (And.intro (And.intro @cells260 @cells261) (And.intro @cells262 @cells263)))) (And.intro (And.intro (And.intro (And.intro @cells264 @cells265) (And.intro @cells266 @cells267)) (And.intro (And.intro @cells268 @cells269) (And.intro @cells270 @cells271))) (And.intro (And.intro (And.intro @cells272 @cells273) (And.intro @cells274 @cells275)) (And.intro (And.intro @cells276 @cells277) (And.intro @cells278 @cells279))))) (And.intro (And.intro (And.intro (And.intro @cells280 (And.intro @cells281 @cells282)) (And.intro (And.intro @cells283 @cells284) (And.intro @cells285 @cells286))) (And.intro (And.intro (And.intro @cells287 @cells288) (And.intro @cells289 @cells290)) (And.intro (And.intro @cells291 @cells292) (And.intro @cells293 @cells294)))) (And.intro (And.intro (And.intro (And.intro @cells295 @cells296) (And.intro @cells297 @cells298)) (And.intro (And.intro @cells299 @cells300) (And.intro @cells301 @cells302))) (And.intro (And.intro (And.intro @cells303 @cells304) (And.intro @cells305 @cells306)) (And.intro (And.intro @cells307 @cells308) (And.intro @cells309 @cells310)))))) (And.intro (And.intro (And.intro (And.intro (And.intro @cells311 (And.intro @cells312 @cells313)) (And.intro (And.intro @cells314 @cells315) (And.intro @cells316 @cells317))) (And.intro (And.intro (And.intro @cells318 @cells319) (And.intro @cells320 @cells321)) (And.intro (And.intro @cells322 @cells323) (And.intro @cells324 @cells325)))) (And.intro (And.intro (And.intro (And.intro @cells326 @cells327) (And.intro @cells328 @cells329)) (And.intro (And.intro @cells330 @cells331) (And.intro @cells332 @cells333))) (And.intro (And.intro (And.intro @cells334 @cells335) (And.intro @cells336 @cells337)) (And.intro (And.intro @cells338 @cells339) (And.intro @cells340 @cells341))))) (And.intro (And.intro (And.intro (And.intro @cells342 (And.intro @cells343 @cells344)) (And.intro (And.intro @cells345 @cells346) (And.intro @cells347 @cells348))) (And.intro (And.intro (And.intro @cells349 @cells350) (And.intro @cells351 @cells352)) (And.intro (And.intro @cells353 @cells354) (And.intro @cells355 @cells356)))) (And.intro (And.intro (And.intro (And.intro @cells357 @cells358) (And.intro @cells359 @cells360)) (And.intro (And.intro @cells361 @cells362) (And.intro @cells363 @cells364))) (And.intro (And.intro (And.intro @cells365 @cells366) (And.intro @cells367 @Tryz.results0)) (And.intro (And.intro @Tryz.results1 @Tryz.results2) (And.intro @Tryz.results3 @Tryz.results4)))))))) (And.intro (And.intro (And.intro (And.intro (And.intro (And.intro (And.intro @Tryz.results5 (And.intro @Tryz.results6 @Tryz.results7)) (And.intro (And.intro @Tryz.results8 @Tryz.results9) (And.intro @Tryz.results10 @Tryz.results11))) (And.intro (And.intro (And.intro @Tryz.results12 @Tryz.results13) (And.intro @Tryz.results14 @Tryz.results15)) (And.intro (And.intro @Tryz.results16 @Tryz.results17) (And.intro @Tryz.results18 @Tryz.results19)))) (And.intro (And.intro (And.intro (And.intro @Tryz.results20 @Tryz.results21) (And.intro @Tryz.results22 @Tryz.results23)) (And.intro (And.intro @Tryz.results24 @Tryz.results25) (And.intro @Tryz.results26 @Tryz.results27))) (And.intro (And.intro (And.intro @Tryz.results28 @Tryz.results29) (And.intro @Tryz.results30 @Tryz.results31)) (And.intro (And.intro @Tryz.results32 @Tryz.results33) (And.intro @Tryz.results34 @Tryz.results35))))) (And.intro (And.intro (And.intro (And.intro @Tryz.results36 (And.intro @Tryz.results37 @Tryz.results38)) (And.intro (And.intro @Tryz.results39 @Tryz.results40) (And.intro @Tryz.results41 @Tryz.results42))) (And.intro (And.intro (And.intro @Tryz.results43 @Tryz.results44) (And.intro @Tryz.results45 @Tryz.results46)) (And.intro (And.intro @Tryz.results47 @Tryz.results48) (And.intro @Tryz.results49 @Tryz.results50)))) (And.intro (And.intro (And.intro (And.intro @Tryz.results51 @Tryz.results52) (And.intro @Tryz.results53 @Tryz.results54)) (And.intro (And.intro @Tryz.results55 @Tryz.results56) (And.intro @Tryz.results57 @Tryz.results58))) (And.intro (And.intro (And.intro @Tryz.results59 @Tryz.results60) (And.intro @Tryz.results61 @Tryz.results62)) (And.intro (And.intro @Tryz.results63 @Tryz.results64) (And.intro @Tryz.results65 @Tryz.results66)))))) (And.intro (And.intro (And.intro (And.intro (And.intro @Tryz.results67 (And.intro @Tryz.results68 @Tryz.results69)) (And.intro (And.intro @Tryz.results70 @Tryz.results71) (And.intro @Tryz.results72 @Tryz.results73))) (And.intro (And.intro (And.intro @Tryz.results74 @Tryz.results75) (And.intro @Tryz.results76 @Tryz.results77)) (And.intro (And.intro @Tryz.results78 @Tryz.results79) (And.intro @Tryz.results80 @Tryz.results81)))) (And.intro (And.intro (And.intro (And.intro @Tryz.results82 @Tryz.results83) (And.intro @Tryz.results84 @Tryz.results85)) (And.intro (And.intro @Tryz.results86 @Tryz.results87) (And.intro @Tryz.results88 @Tryz.results89))) (And.intro (And.intro (And.intro @Tryz.results90 @Tryz.results91) (And.intro @Tryz.results92 @Tryz.results93)) (And.intro (And.intro @Tryz.results94 @Tryz.results95) (And.intro @Tryz.results96 @Tryz.results97))))) (And.intro (And.intro (And.intro (And.intro @Tryz.results98 (And.intro @Tryz.results99 @Tryz.results100)) (And.intro (And.intro @Tryz.results101 @Tryz.results102) (And.intro @Tryz.results103 @Tryz.results104))) (And.intro (And.intro (And.intro @Tryz.results105 @Tryz.results106) (And.intro @Tryz.results107 @Tryz.results108)) (And.intro (And.intro @Tryz.results109 @Tryz.results110) (And.intro @Tryz.results111 @Tryz.results112)))) (And.intro (And.intro (And.intro (And.intro @Tryz.results113 @Tryz.results114) (And.intro @Tryz.results115 @Tryz.results116)) (And.intro (And.intro @Tryz.results117 @Tryz.results118) (And.intro @Tryz.results119 @Tryz.results120))) (And.intro (And.intro (And.intro @Tryz.results121 @Tryz.results122) (And.intro @Tryz.results123 @Tryz.results124)) (And.intro (And.intro @Tryz.results125 @Tryz.results126) (And.intro @Tryz.results127 @Tryz.results128))))))) (And.intro (And.intro (And.intro (And.intro (And.intro (And.intro @Tryz.results129 (And.intro @Tryz.results130 @Tryz.results131)) (And.intro (And.intro @Tryz.results132 @Tryz.results133) (And.intro @Tryz.results134 @Tryz.results135))) (And.intro (And.intro (And.intro @Tryz.results136 @Tryz.results137) (And.intro @Tryz.results138 @Tryz.results139)) (And.intro (And.intro @Tryz.results140 @Tryz.results141) (And.intro @Tryz.results142 @Tryz.results143)))) (And.intro (And.intro (And.intro (And.intro @Tryz.results144 @Tryz.results145) (And.intro @Tryz.results146 @Tryz.results147)) (And.intro (And.intro @Tryz.results148 @Tryz.results149) (And.intro @Tryz.results150 @Tryz.results151))) (And.intro (And.intro (And.intro @Tryz.results152 @Tryz.results153) (And.intro @Tryz.results154 @Tryz.results155)) (And.intro (And.intro @Tryz.results156 @Tryz.results157) (And.intro @Tryz.results158 @Tryz.results159))))) (And.intro (And.intro (And.intro (And.intro @Tryz.results160 (And.intro @Tryz.results161 @Tryz.results162)) (And.intro (And.intro @Tryz.results163 @Tryz.results164) (And.intro @Tryz.results165 @Tryz.results166))) (And.intro (And.intro (And.intro @Tryz.results167 @Tryz.results168) (And.intro @Tryz.results169 @Tryz.results170)) (And.intro (And.intro @Tryz.results171 @Tryz.results172) (And.intro @Tryz.results173 @Tryz.results174)))) (And.intro (And.intro (And.intro (And.intro @Tryz.results175 @Tryz.results176) (And.intro @Tryz.results177 @Tryz.results178)) (And.intro (And.intro @Tryz.results179 @Tryz.results180) (And.intro @Tryz.results181 @Tryz.results182))) (And.intro (And.intro (And.intro @Tryz.results183 @Tryz.results184) (And.intro @Tryz.results185 @Tryz.results186)) (And.intro (And.intro @Tryz.results187 @Tryz.results188) (And.intro @Tryz.results189 @Tryz.results190)))))) (And.intro (And.intro (And.intro (And.intro (And.intro @Tryz.results191 (And.intro @Tryz.results192 @Tryz.results193)) (And.intro (And.intro @Tryz.results194 @Tryz.results195) (And.intro @Tryz.results196 @Tryz.results197))) (And.intro (And.intro (And.intro @Tryz.results198 @Tryz.results199) (And.intro @Tryz.results200 @Tryz.results201)) (And.intro (And.intro @Tryz.results202 @Tryz.results203) (And.intro @Tryz.results204 @Tryz.results205)))) (And.intro (And.intro (And.intro (And.intro @Tryz.results206 @Tryz.results207) (And.intro @Tryz.results208 @Tryz.results209)) (And.intro (And.intro @Tryz.results210 @Tryz.results211) (And.intro @Tryz.results212 @Tryz.results213))) (And.intro (And.intro (And.intro @Tryz.results214 @Tryz.results215) (And.intro @Tryz.results216 @Tryz.results217)) (And.intro (And.intro @Tryz.results218 @Tryz.results219) (And.intro @Tryz.results220 @Tryz.results221))))) (And.intro (And.intro (And.intro (And.intro (And.intro @Tryz.results222 @Tryz.results223) (And.intro @Tryz.results224 @Tryz.results225)) (And.intro (And.intro @Tryz.results226 @Tryz.results227) (And.intro @Tryz.results228 @Tryz.results229))) (And.intro (And.intro (And.intro @Tryz.results230 @Tryz.results231) (And.intro @Tryz.results232 @Tryz.results233)) (And.intro (And.intro @Tryz.results234 @Tryz.results235) (And.intro @Tryz.results236 @Tryz.results237)))) (And.intro (And.intro (And.intro (And.intro @Tryz.results238 @Tryz.results239) (And.intro @Tryz.results240 @Tryz.results241)) (And.intro (And.intro @Tryz.results242 @Tryz.results243) (And.intro @Tryz.results244 @Tryz.results245))) (And.intro (And.intro (And.intro @Tryz.results246 @Tryz.results247) (And.intro @Tryz.results248 @Tryz.results249)) (And.intro (And.intro @Tryz.results250 @Tryz.results251) (And.intro @Tryz.results252 @Tryz.results253))))))))))
theorem mixed : Tryz.prog.follows .mixedOrders = true := by kernel_rfl
end Go.Proofs.YtahcaplhdgphcaaGreat
