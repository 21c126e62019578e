/-
  Texts that the law stands on, part 9.
-/
import Derived.Test.YtofhbonnojooeaaGreatKPoliceBoxed8
namespace Go.Proofs.YtofhbonnojooeaaGreat
open Go Go.RowKit Go.Proofs.RV
set_option linter.unusedSimpArgs false
set_option linter.unusedVariables false
set_option maxRecDepth 10000
set_option maxHeartbeats 4000000
def chC (cb cc n m : Nat) : List Value := [.slice (some ⟨cb, 0, none⟩) n n, .slice (some ⟨cc, 0, none⟩) m m]
structure ChR (w : World) (cp cb cc : Nat) (ls : List LineM) (ks : List LinkM) : Prop where
  blk : Blk w cp 323 (chC cb cc ls.length ks.length)
  lines : Blk w cb 325 (ls.flatMap LineM.cells)
  links : Blk w cc 327 (ks.flatMap LinkM.cells)
  ll : ls.length ≤ 129
  kl : ks.length ≤ 4096
theorem ChR.ne {w : World} {cp cb cc : Nat} {ls : List LineM} {ks : List LinkM} (h : ChR w cp cb cc ls ks) : cp ≠ cb ∧ cp ≠ cc ∧ cb ≠ cc := by
  refine ⟨?_, ?_, ?_⟩
  · intro e
    have h1 := h.blk
    rw [e] at h1
    exact absurd (blk_ty h1 h.lines) (by decide)
  · intro e
    have h1 := h.blk
    rw [e] at h1
    exact absurd (blk_ty h1 h.links) (by decide)
  · intro e
    have h1 := h.lines
    rw [e] at h1
    exact absurd (blk_ty h1 h.links) (by decide)
theorem ChR.more {w w' : World} {cp cb cc : Nat} {ls : List LineM} {ks : List LinkM} (h : ChR w cp cb cc ls ks) (hm : More w w') : ChR w' cp cb cc ls ks := ⟨h.blk.more hm, h.lines.more hm, h.links.more hm, h.ll, h.kl⟩
theorem ChR.c0 {w : World} {cp cb cc : Nat} {ls : List LineM} {ks : List LinkM} (h : ChR w cp cb cc ls ks) : w.cell? ⟨cp, 0, none⟩ = some (.slice (some ⟨cb, 0, none⟩) ls.length ls.length) := by rw [h.blk.cell]; rfl
theorem ChR.c1 {w : World} {cp cb cc : Nat} {ls : List LineM} {ks : List LinkM} (h : ChR w cp cb cc ls ks) : w.cell? ⟨cp, 1, none⟩ = some (.slice (some ⟨cc, 0, none⟩) ks.length ks.length) := by rw [h.blk.cell]; rfl
theorem ChR.first {w : World} {cp cb cc : Nat} {ls : List LineM} {ks : List LinkM} (h : ChR w cp cb cc ls ks) {l : Nat} {x : LineM} (hx : ls[l]? = some x) : w.cell? ⟨cb, l * 3, none⟩ = some (.int .i64 x.first) := by
  rw [blk_elem0 h.lines (fun m _ => LineM.cells_len m) hx (by decide)]; rfl
theorem ChR.last {w : World} {cp cb cc : Nat} {ls : List LineM} {ks : List LinkM} (h : ChR w cp cb cc ls ks) {l : Nat} {x : LineM} (hx : ls[l]? = some x) : w.cell? ⟨cb, l * 3 + 1, none⟩ = some (.int .i64 x.last) := by
  rw [blk_elemAt h.lines (fun m _ => LineM.cells_len m) hx (by decide)]; rfl
theorem ChR.n {w : World} {cp cb cc : Nat} {ls : List LineM} {ks : List LinkM} (h : ChR w cp cb cc ls ks) {l : Nat} {x : LineM} (hx : ls[l]? = some x) : w.cell? ⟨cb, l * 3 + 2, none⟩ = some (.int .i64 x.n) := by
  rw [blk_elemAt h.lines (fun m _ => LineM.cells_len m) hx (by decide)]; rfl
theorem ChR.lk {w : World} {cp cb cc : Nat} {ls : List LineM} {ks : List LinkM} (h : ChR w cp cb cc ls ks) {p : Nat} {y : LinkM} (hy : ks[p]? = some y) : w.cell? ⟨cc, p * 2, none⟩ = some (.int .i64 y.line) := by
  rw [blk_elem0 h.links (fun m _ => LinkM.cells_len m) hy (by decide)]; rfl
theorem ChR.next {w : World} {cp cb cc : Nat} {ls : List LineM} {ks : List LinkM} (h : ChR w cp cb cc ls ks) {p : Nat} {y : LinkM} (hy : ks[p]? = some y) : w.cell? ⟨cc, p * 2 + 1, none⟩ = some (.int .i64 y.next) := by
  rw [blk_elemAt h.links (fun m _ => LinkM.cells_len m) hy (by decide)]; rfl
theorem chain_has (w : World) (cp cb cc : Nat) (ls : List LineM) (ks : List LinkM) (h : ChR w cp cb cc ls ks) (l : Int) :
    Ret Tryz.prog 215 #[.pointer (some ⟨cp, 0, none⟩), .int .i64 l] w fun v w' => v = .bool (decide (0 ≤ l ∧ l < ls.length)) ∧ w' = w := by
  refine ret_of Tryz.func215 rfl (by kernel_rfl) (Nat.le_of_ble_eq_true (by kernel_rfl)) ?_
  by_cases h0 : 0 ≤ l
  · by_cases h1 : l < (ls.length : Int)
    · rw [decide_eq_true (show 0 ≤ l ∧ l < (ls.length : Int) from ⟨h0, h1⟩)]
      simp -implicitDefEqProofs (maxSteps := 1000000) only [↓zvN, zvU, ↓zvE, zvM, init, one, Value.cells, simprocAttr, tyF, h0, h1, h.c0]
    · rw [decide_eq_false (fun h => h1 h.2)]
      simp -implicitDefEqProofs (maxSteps := 1000000) only [↓zvN, zvU, ↓zvE, zvM, init, one, Value.cells, simprocAttr, tyF, h0, h1, h.c0]
  · rw [decide_eq_false (fun h => h0 h.1)]
    simp -implicitDefEqProofs (maxSteps := 1000000) only [↓zvN, zvU, ↓zvE, zvM, init, one, Value.cells, simprocAttr, tyF, h0]
theorem chain_len (w : World) (cp cb cc : Nat) (ls : List LineM) (ks : List LinkM) (h : ChR w cp cb cc ls ks) {l : Nat} {x : LineM} (hx : ls[l]? = some x) :
    Ret Tryz.prog 156 #[.pointer (some ⟨cp, 0, none⟩), .int .i64 l] w fun v w' => v = .int .i64 x.n ∧ w' = w := by
  refine ret_of Tryz.func156 rfl (by kernel_rfl) (Nat.le_of_ble_eq_true (by kernel_rfl)) ?_
  have hl : l < ls.length := (List.getElem?_eq_some_iff.1 hx).1
  have g0 : (0 : Int) ≤ (l : Int) := by omega
  have g1 : (l : Int) < (ls.length : Int) := by omega
  simp -implicitDefEqProofs (maxSteps := 1000000) only [↓zvN, zvU, ↓zvE, zvM, init, one, Value.cells, simprocAttr, tyF]
  refine call_ok Tryz.call215 (chain_has w cp cb cc ls ks h l) ?_
  rintro _ _ ⟨rfl, rfl⟩
  rw [decide_eq_true ⟨g0, g1⟩]
  simp -implicitDefEqProofs (maxSteps := 1000000) only [↓zvN, zvU, ↓zvE, zvM, init, one, Value.cells, simprocAttr, tyF, h.c0, g0, g1, Int.toNat_natCast, h.n hx]
theorem chain_push (w : World) (cp cb cc : Nat) (ls : List LineM) (ks : List LinkM) (h : ChR w cp cb cc ls ks) {l p : Nat} {x : LineM} {y : LinkM} (hx : ls[l]? = some x) (hy : ks[p]? = some y) (hyl : y.line = -1) (hn : 0 ≤ x.n ∧ x.n ≤ 4096)
    (hlast : x.n ≠ 0 → ∃ q z, x.last = (q : Nat) ∧ q ≠ p ∧ ks[q]? = some z ∧ z.line = l) :
    Ret Tryz.prog 168 #[.pointer (some ⟨cp, 0, none⟩), .int .i64 l, .int .i64 p] w fun v w' => v = .bool true ∧ Mod (duo cb cc) w w' ∧
      ChR w' cp cb cc (ls.set l ⟨if x.n = 0 then p else x.first, p, x.n + 1⟩) ((if x.n = 0 then ks else ks.set x.last.toNat ⟨l, p⟩).set p ⟨l, -1⟩) := by
  refine ret_of Tryz.func168 rfl (by kernel_rfl) (Nat.le_of_ble_eq_true (by kernel_rfl)) ?_
  have hl : l < ls.length := (List.getElem?_eq_some_iff.1 hx).1
  have hp : p < ks.length := (List.getElem?_eq_some_iff.1 hy).1
  have g0 : (0 : Int) ≤ (l : Int) := by omega
  have g1 : (l : Int) < (ls.length : Int) := by omega
  have p0 : (0 : Int) ≤ (p : Int) := by omega
  have p0' : ¬ (p : Int) < 0 := by omega
  have p1 : (p : Int) < (ks.length : Int) := by omega
  have p1' : ¬ (ks.length : Int) ≤ (p : Int) := by omega
  have hne := h.ne
  have en : IntKind.i64.wrap (x.n + 1) = x.n + 1 := w64 (by omega) (by omega)
  simp -implicitDefEqProofs (maxSteps := 1000000) only [↓zvN, zvU, ↓zvE, zvM, init, one, Value.cells, simprocAttr, tyF]
  refine call_ok Tryz.call215 (chain_has w cp cb cc ls ks h l) ?_
  rintro _ w1 ⟨rfl, rfl⟩
  rw [decide_eq_true ⟨g0, g1⟩]
  simp -implicitDefEqProofs (maxSteps := 1000000) only [↓zvN, zvU, ↓zvE, zvM, init, one, Value.cells, simprocAttr, tyF, h.c0, h.c1, g0, g1, p0, p0', p1, p1', Int.toNat_natCast, h.lk hy, hyl, h.n hx]
  refine ⟨fun h0 => ?_, fun h0 => ?_⟩
  · rw [if_pos h0, if_pos h0]
    refine blk_setElem0 h.lines (fun m _ => LineM.cells_len m) hx (m' := ⟨p, x.last, x.n⟩) (by decide) rfl rfl fun w2 i2 k2 => ?_
    rw [s2_undef]
    have hx1 : (ls.set l ⟨p, x.last, x.n⟩)[l]? = some (⟨p, x.last, x.n⟩ : LineM) := List.getElem?_set_self hl
    have hB2 := i2.blk h.blk hne.1
    have hK2 := i2.blk h.links (fun e => hne.2.2 e.symm)
    have m02 : Mod (duo cb cc) w1 w2 := Mod.of_wr i2 (.inl rfl)
    have hL1l : (ls.set l ⟨p, x.last, x.n⟩).length = ls.length := by simp
    have hK1l : (ks).length = ks.length := by simp
    simp -implicitDefEqProofs (maxSteps := 1000000) only [↓zvN, zvU, ↓zvE, zvM, init, one, Value.cells, simprocAttr, tyF]
    refine blk_setElem k2 (fun m _ => LineM.cells_len m) hx1 (j := 1) (m' := ⟨p, p, x.n⟩) (by decide) rfl rfl fun w3 i3 k3 => ?_
    rw [s2_undef]
    have hx2 : ((ls.set l ⟨p, x.last, x.n⟩).set l ⟨p, p, x.n⟩)[l]? = some (⟨p, p, x.n⟩ : LineM) := List.getElem?_set_self (by rw [hL1l]; exact hl)
    have cn : w3.cell? ⟨cb, l * 3 + 2, none⟩ = some (.int .i64 x.n) := by rw [blk_elemAt k3 (fun m _ => LineM.cells_len m) hx2 (by decide)]; rfl
    simp -implicitDefEqProofs (maxSteps := 1000000) only [↓zvN, zvU, ↓zvE, zvM, init, one, Value.cells, simprocAttr, tyF, cn, en]
    refine blk_setElem k3 (fun m _ => LineM.cells_len m) hx2 (j := 2) (m' := ⟨p, p, x.n + 1⟩) (by decide) rfl rfl fun w4 i4 k4 => ?_
    rw [s2_undef]
    have hB4 := i4.blk (i3.blk hB2 hne.1) hne.1
    have hK4 := i4.blk (i3.blk hK2 (fun e => hne.2.2 e.symm)) (fun e => hne.2.2 e.symm)
    have c1 : w4.cell? ⟨cp, 1, none⟩ = some (.slice (some ⟨cc, 0, none⟩) ks.length ks.length) := by rw [hB4.cell]; rfl
    have bk := build_of (P := Tryz.prog) (T := 327) (parts := #[(0, .int .i64 (l : Int)), (1, .int .i64 (-1))]) (LinkM.mk l (-1)).cells (by kernel_rfl) zer327 (by kernel_rfl) w4
    simp -implicitDefEqProofs (maxSteps := 1000000) only [↓zvN, zvU, ↓zvE, zvM, init, one, Value.cells, simprocAttr, tyF, c1, p0, p1, Int.toNat_natCast, bk]
    refine blk_setRow hK4 (fun m _ => LinkM.cells_len m) (i := p) (by rw [hK1l]; exact hp) (m' := ⟨l, -1⟩) rfl (LinkM.one _) fun w5 i5 k5 => ?_
    rw [s2_undef]
    simp -implicitDefEqProofs (maxSteps := 1000000) only [↓zvN, zvU, ↓zvE, zvM, init, one, Value.cells, simprocAttr, tyF]
    rw [List.set_set, List.set_set] at k4
    have m25 : Mod (duo cb cc) w2 w5 := ((Mod.of_wr i3 (.inl rfl)).trans (Mod.of_wr i4 (.inl rfl))).trans (Mod.of_wr i5 (.inr rfl))
    exact ⟨(m02).trans m25, by simp only [List.length_set, hne]; exact i5.blk hB4 hne.2.1, i5.blk k4 hne.2.2, k5, by simp only [List.length_set]; exact h.ll, by simp only [List.length_set, hne]; exact h.kl⟩
  · rw [if_neg h0, if_neg h0]
    obtain ⟨q, z, hq, hqp, hz, hzl⟩ := hlast h0
    have hql : q < ks.length := (List.getElem?_eq_some_iff.1 hz).1
    have q0 : (0 : Int) ≤ (q : Int) := by omega
    have q1 : (q : Int) < (ks.length : Int) := by omega
    have hlast1 := h.last hx
    rw [hq] at hlast1 ⊢
    rw [Int.toNat_natCast]
    have lcp := h.blk.lt
    have lcb := h.lines.lt
    refine draw_seen 9 [[], [0], [0, 1], [0, 1, 2], [], [4], [4, 5], [4, 5, 6], [], [0, 1, 2, 3, 4, 5, 6, 7, 8], [0, 1, 2, 3, 4, 5, 6, 7, 8, 9], [0, 1, 2, 3, 4, 5, 6, 7, 8, 9, 10]] (RV.look []) mixed (by kernel_rfl) (by kernel_rfl) (look_keeps _ (by simp)) ?_
    simp -implicitDefEqProofs (maxSteps := 1000000) only [↓zvN, zvU, ↓zqD, ↓zvE, zvM, init, one, Value.cells, simprocAttr, tyF, h.c1, hlast1, lcp, lcb]
    intro w2 hm2
    have h2 := h.more hm2
    simp -implicitDefEqProofs (maxSteps := 1000000) only [↓zvN, zvU, ↓zvE, zvM, init, one, Value.cells, simprocAttr, tyF, p_nil, q0, q1, Int.toNat_natCast]
    refine blk_setElem h2.links (fun m _ => LinkM.cells_len m) hz (j := 1) (m' := ⟨l, p⟩) (by decide) (by rw [← hzl]; rfl) rfl fun w3' i2 k2 => ?_
    rw [s2_undef]
    have hB2 := i2.blk h2.blk hne.2.1
    have hL2 := i2.blk h2.lines hne.2.2
    have m02 : Mod (duo cb cc) w1 w3' := (Mod.of_more hm2).trans (Mod.of_wr i2 (.inr rfl))
    have hx1 : (ls.set l x)[l]? = some (⟨x.first, x.last, x.n⟩ : LineM) := List.getElem?_set_self hl
    have hsx : ls.set l x = ls := by
      apply List.ext_getElem?
      intro k
      by_cases e : l = k
      · subst e; rw [List.getElem?_set_self hl, hx]
      · rw [List.getElem?_set_ne e]
    rw [← hsx] at hL2
    have hL1l : (ls.set l x).length = ls.length := by simp
    have hK1l : (ks.set q ⟨l, p⟩).length = ks.length := by simp
    simp -implicitDefEqProofs (maxSteps := 1000000) only [↓zvN, zvU, ↓zvE, zvM, init, one, Value.cells, simprocAttr, tyF]
    refine blk_setElem hL2 (fun m _ => LineM.cells_len m) hx1 (j := 1) (m' := ⟨x.first, p, x.n⟩) (by decide) rfl rfl fun w3 i3 k3 => ?_
    rw [s2_undef]
    have hx2 : ((ls.set l x).set l ⟨x.first, p, x.n⟩)[l]? = some (⟨x.first, p, x.n⟩ : LineM) := List.getElem?_set_self (by rw [hL1l]; exact hl)
    have cn : w3.cell? ⟨cb, l * 3 + 2, none⟩ = some (.int .i64 x.n) := by rw [blk_elemAt k3 (fun m _ => LineM.cells_len m) hx2 (by decide)]; rfl
    simp -implicitDefEqProofs (maxSteps := 1000000) only [↓zvN, zvU, ↓zvE, zvM, init, one, Value.cells, simprocAttr, tyF, cn, en]
    refine blk_setElem k3 (fun m _ => LineM.cells_len m) hx2 (j := 2) (m' := ⟨x.first, p, x.n + 1⟩) (by decide) rfl rfl fun w4 i4 k4 => ?_
    rw [s2_undef]
    have hB4 := i4.blk (i3.blk hB2 hne.1) hne.1
    have hK4 := i4.blk (i3.blk k2 (fun e => hne.2.2 e.symm)) (fun e => hne.2.2 e.symm)
    have c1 : w4.cell? ⟨cp, 1, none⟩ = some (.slice (some ⟨cc, 0, none⟩) ks.length ks.length) := by rw [hB4.cell]; rfl
    have bk := build_of (P := Tryz.prog) (T := 327) (parts := #[(0, .int .i64 (l : Int)), (1, .int .i64 (-1))]) (LinkM.mk l (-1)).cells (by kernel_rfl) zer327 (by kernel_rfl) w4
    simp -implicitDefEqProofs (maxSteps := 1000000) only [↓zvN, zvU, ↓zvE, zvM, init, one, Value.cells, simprocAttr, tyF, c1, p0, p1, Int.toNat_natCast, bk]
    refine blk_setRow hK4 (fun m _ => LinkM.cells_len m) (i := p) (by rw [hK1l]; exact hp) (m' := ⟨l, -1⟩) rfl (LinkM.one _) fun w5 i5 k5 => ?_
    rw [s2_undef]
    simp -implicitDefEqProofs (maxSteps := 1000000) only [↓zvN, zvU, ↓zvE, zvM, init, one, Value.cells, simprocAttr, tyF]
    rw [List.set_set, List.set_set] at k4
    have m25 : Mod (duo cb cc) w3' w5 := ((Mod.of_wr i3 (.inl rfl)).trans (Mod.of_wr i4 (.inl rfl))).trans (Mod.of_wr i5 (.inr rfl))
    exact ⟨(m02).trans m25, by simp only [List.length_set, hne]; exact i5.blk hB4 hne.2.1, i5.blk k4 hne.2.2, k5, by simp only [List.length_set]; exact h.ll, by simp only [List.length_set, hne]; exact h.kl⟩
def nthI (xs : List Nat) (j : Nat) : Int := match xs[j]? with | some p => (p : Int) | none => -1
def aheadI (xs : List Nat) : Nat → Int
  | 0 => -1
  | j + 1 => nthI xs j
theorem nthI_some {xs : List Nat} {j p : Nat} (h : xs[j]? = some p) : nthI xs j = p := by unfold nthI; rw [h]
theorem nthI_none {xs : List Nat} {j : Nat} (h : xs.length ≤ j) : nthI xs j = -1 := by unfold nthI; rw [List.getElem?_eq_none h]
structure PathM (l : Nat) (x : LineM) (ks : List LinkM) (xs : List Nat) : Prop where
  n : x.n = xs.length
  first : x.first = nthI xs 0
  at_ : ∀ j p, xs[j]? = some p → ks[p]? = some (LinkM.mk l (nthI xs (j + 1)))
  le : xs.length ≤ 4096
def FindCJ (xs : List Nat) (k : Nat) (w0 : World) (v9 v10 v40 : Value) (w : World) : Prop := ∃ j : Nat, v40 = .int .i64 j ∧ j ≤ k ∧ v10 = .int .i64 (nthI xs j) ∧ v9 = .int .i64 (aheadI xs j) ∧ More w0 w
theorem chain_find (w : World) (cp cb cc : Nat) (ls : List LineM) (ks : List LinkM) (h : ChR w cp cb cc ls ks) {l : Nat} {x : LineM} {xs : List Nat} (hx : ls[l]? = some x) (hp : PathM l x ks xs) {k p : Nat} (hk : xs[k]? = some p) :
    Ret Tryz.prog 216 #[.pointer (some ⟨cp, 0, none⟩), .int .i64 l, .int .i64 k] w fun v w' => v = .tuple #[.int .i64 p, .int .i64 (aheadI xs k), .bool true] ∧ More w w' := by
  refine ret_of Tryz.func216 rfl (by kernel_rfl) (Nat.le_of_ble_eq_true (by kernel_rfl)) ?_
  have hl : l < ls.length := (List.getElem?_eq_some_iff.1 hx).1
  have hkl : k < xs.length := (List.getElem?_eq_some_iff.1 hk).1
  have g0 : (0 : Int) ≤ (l : Int) := by omega
  have g1 : (l : Int) < (ls.length : Int) := by omega
  have k0 : ¬ (k : Int) < 0 := by omega
  have k1 : ¬ (xs.length : Int) ≤ (k : Int) := by omega
  have hxn := hp.n
  simp -implicitDefEqProofs (maxSteps := 1000000) only [↓zvN, zvU, ↓zvE, zvM, init, one, Value.cells, simprocAttr, tyF]
  refine call_ok Tryz.call215 (chain_has w cp cb cc ls ks h l) ?_
  rintro _ w1 ⟨rfl, rfl⟩
  rw [decide_eq_true ⟨g0, g1⟩]
  have cn := h.n hx
  have cf := h.first hx
  rw [hxn] at cn
  rw [hp.first] at cf
  have lcp := h.blk.lt
  have lcb := h.lines.lt
  simp -implicitDefEqProofs (maxSteps := 1000000) only [↓zvN, zvU, ↓zvE, zvM, init, one, Value.cells, simprocAttr, tyF, k0, k1, h.c0, g0, g1, Int.toNat_natCast, cn]
  refine draw_seen 9 [[], [0], [0, 1], [0, 1, 2], [], [0, 1, 2, 3, 4], [0, 1, 2, 3, 4, 5], [0, 1, 2, 3, 4, 5, 6], [], [0, 1, 2, 3, 4, 5, 6, 7, 8]] (RV.look []) mixed (by kernel_rfl) (by kernel_rfl) (look_keeps _ (by simp)) ?_
  simp -implicitDefEqProofs (maxSteps := 1000000) only [↓zvN, zvU, ↓zqD, ↓zvE, zvM, init, one, Value.cells, simprocAttr, tyF, h.c0, cf, lcp, lcb, g0, g1, Int.toNat_natCast]
  intro w2 hm2
  try simp -implicitDefEqProofs (maxSteps := 1000000) only [↓zvN, zvU, ↓zvE, zvM, init, one, Value.cells, simprocAttr, tyF, p_nil]
  refine loop_p (9 :: 10 :: List.range' 40 12) (fun e w' => FindCJ xs k w1 (e 9) (e 10) (e 40) w') (fun e _ => k - (numOf (e 40)).toNat) ?_ ?_
  · exact ⟨0, by simp only [hv_apply, up_apply, upO_some, upO_none, init, List.mem_cons, List.mem_range'_1, true_and, and_true, and_false, false_and, Nat.reduceLT, Nat.reduceLeDiff, Nat.reduceAdd, true_or, or_true, if_true, if_false, ↓reduceIte, Nat.reduceEqDiff, false_or, or_false, List.not_mem_nil, List.getElem?_cons_zero, List.getElem?_cons_succ, Option.getD_some] <;> rfl, by omega, by simp only [hv_apply, up_apply, upO_some, upO_none, init, List.mem_cons, List.mem_range'_1, true_and, and_true, and_false, false_and, Nat.reduceLT, Nat.reduceLeDiff, Nat.reduceAdd, true_or, or_true, if_true, if_false, ↓reduceIte, Nat.reduceEqDiff, false_or, or_false, List.not_mem_nil, List.getElem?_cons_zero, List.getElem?_cons_succ, Option.getD_some] <;> rfl, by simp only [hv_apply, up_apply, upO_some, upO_none, init, List.mem_cons, List.mem_range'_1, true_and, and_true, and_false, false_and, Nat.reduceLT, Nat.reduceLeDiff, Nat.reduceAdd, true_or, or_true, if_true, if_false, ↓reduceIte, Nat.reduceEqDiff, false_or, or_false, List.not_mem_nil, List.getElem?_cons_zero, List.getElem?_cons_succ, Option.getD_some] <;> rfl, hm2⟩
  rintro v w3 ⟨j, h40, hj, h10, h9, hm3⟩
  simp only [hv_apply, up_apply, upO_some, upO_none, init, List.mem_cons, List.mem_range'_1, true_and, and_true, and_false, false_and, Nat.reduceLT, Nat.reduceLeDiff, Nat.reduceAdd, true_or, or_true, if_true, if_false, ↓reduceIte, Nat.reduceEqDiff, false_or, or_false, List.not_mem_nil, List.getElem?_cons_zero, List.getElem?_cons_succ, Option.getD_some] at h40 h10 h9
  have h3 := h.more hm3
  simp -implicitDefEqProofs (maxSteps := 1000000) only [↓zvN, zvU, ↓zvE, zvM, init, one, Value.cells, simprocAttr, tyF, h40]
  refine ⟨fun c9 => ?_, fun c9 => ?_⟩
  · obtain ⟨q, hq⟩ : ∃ q, xs[j]? = some q := ⟨xs[j]'(by omega), List.getElem?_eq_getElem _⟩
    have hkq := hp.at_ j q hq
    have hql : q < ks.length := (List.getElem?_eq_some_iff.1 hkq).1
    have q0 : (0 : Int) ≤ (q : Int) := by omega
    have q1 : (q : Int) < (ks.length : Int) := by omega
    have hle := hp.le
    have ej : IntKind.i64.wrap ((j : Int) + 1) = ((j + 1 : Nat) : Int) := w64 (by omega) (by omega)
    rw [nthI_some hq] at h10
    have lcp3 := h3.blk.lt
    have lcc3 := h3.links.lt
    have cx := h3.next hkq
    refine draw_seen 10 [[], [], [1], [1, 2], [1, 2, 3], [], [1, 2, 3, 4, 5], [1, 2, 3, 4, 5, 6], [1, 2, 3, 4, 5, 6, 7], [0], [0, 1, 2, 3, 4, 5, 6, 7, 8, 9]] (RV.look []) mixed (by kernel_rfl) (by kernel_rfl) (look_keeps _ (by simp)) ?_
    simp -implicitDefEqProofs (maxSteps := 1000000) only [↓zvN, zvU, ↓zqD, ↓zvE, zvM, init, one, Value.cells, simprocAttr, tyF, h10, h3.c1, cx, lcp3, lcc3, q0, q1, Int.toNat_natCast]
    intro w4 hm4
    simp -implicitDefEqProofs (maxSteps := 1000000) only [↓zvN, zvU, ↓zvE, zvM, init, one, Value.cells, simprocAttr, tyF, p_nil, h40, ej]
    refine ⟨⟨?_, j + 1, rfl, by omega, rfl, by show _ = Value.int .i64 (nthI xs j); rw [nthI_some hq], hm3.trans hm4⟩, by simp only [numOf]; omega⟩
    repeat (first | exact Same.hv _ _ _ | refine Same.hv2 (fun s hs => mem_allS (by decide) hs) ?_ | refine Same.up (by simp) ?_)
  obtain rfl : j = k := by omega
  rw [nthI_some hk] at h10
  simp -implicitDefEqProofs (maxSteps := 1000000) only [↓zvN, zvU, ↓zvE, zvM, init, one, Value.cells, simprocAttr, tyF, h10, h9]
  exact hm3
theorem chain_at (w : World) (cp cb cc : Nat) (ls : List LineM) (ks : List LinkM) (h : ChR w cp cb cc ls ks) {l : Nat} {x : LineM} {xs : List Nat} (hx : ls[l]? = some x) (hp : PathM l x ks xs) {k p : Nat} (hk : xs[k]? = some p) :
    Ret Tryz.prog 157 #[.pointer (some ⟨cp, 0, none⟩), .int .i64 l, .int .i64 k] w fun v w' => v = .tuple #[.int .i64 p, .bool true] ∧ More w w' := by
  refine ret_of Tryz.func157 rfl (by kernel_rfl) (Nat.le_of_ble_eq_true (by kernel_rfl)) ?_
  simp -implicitDefEqProofs (maxSteps := 1000000) only [↓zvN, zvU, ↓zvE, zvM, init, one, Value.cells, simprocAttr, tyF]
  refine call_ok Tryz.call216 (chain_find w cp cb cc ls ks h hx hp hk) ?_
  rintro _ w1 ⟨rfl, hm1⟩
  simp -implicitDefEqProofs (maxSteps := 1000000) only [↓zvN, zvU, ↓zvE, zvM, init, one, Value.cells, simprocAttr, tyF]
  exact hm1
def cutL (x : LineM) (xs : List Nat) (k : Nat) : LineM := ⟨if k = 0 then nthI xs 1 else x.first, if k + 1 = xs.length then aheadI xs k else x.last, x.n - 1⟩
def cutK (ks : List LinkM) (l : Nat) (xs : List Nat) (k p : Nat) : List LinkM := (if k = 0 then ks else ks.set (aheadI xs k).toNat ⟨l, nthI xs (k + 1)⟩).set p ⟨-1, -1⟩
theorem chain_cut (w : World) (cp cb cc : Nat) (ls : List LineM) (ks : List LinkM) (h : ChR w cp cb cc ls ks) {l : Nat} {x : LineM} {xs : List Nat} (hx : ls[l]? = some x) (hp : PathM l x ks xs) {k p : Nat} (hk : xs[k]? = some p) :
    Ret Tryz.prog 211 #[.pointer (some ⟨cp, 0, none⟩), .int .i64 l, .int .i64 k] w fun v w' => v = .tuple #[.int .i64 p, .bool true] ∧ Mod (duo cb cc) w w' ∧ ChR w' cp cb cc (ls.set l (cutL x xs k)) (cutK ks l xs k p) := by
  refine ret_of Tryz.func211 rfl (by kernel_rfl) (Nat.le_of_ble_eq_true (by kernel_rfl)) ?_
  have hl : l < ls.length := (List.getElem?_eq_some_iff.1 hx).1
  have hkl : k < xs.length := (List.getElem?_eq_some_iff.1 hk).1
  have hkp := hp.at_ k p hk
  have hpl : p < ks.length := (List.getElem?_eq_some_iff.1 hkp).1
  have g0 : (0 : Int) ≤ (l : Int) := by omega
  have g1 : (l : Int) < (ls.length : Int) := by omega
  have p0 : (0 : Int) ≤ (p : Int) := by omega
  have p1 : (p : Int) < (ks.length : Int) := by omega
  have hne := h.ne
  have hxn := hp.n
  have hle := hp.le
  have en : IntKind.i64.wrap (x.n - 1) = x.n - 1 := w64 (by omega) (by omega)
  simp -implicitDefEqProofs (maxSteps := 1000000) only [↓zvN, zvU, ↓zvE, zvM, init, one, Value.cells, simprocAttr, tyF]
  refine call_ok Tryz.call216 (chain_find w cp cb cc ls ks h hx hp hk) ?_
  rintro _ w1 ⟨rfl, hm1⟩
  have h1 := h.more hm1
  have lcp := h1.blk.lt
  have lcc := h1.links.lt
  simp -implicitDefEqProofs (maxSteps := 1000000) only [↓zvN, zvU, ↓zvE, zvM, init, one, Value.cells, simprocAttr, tyF]
  refine draw_seen 15 [[], [0], [0, 1], [0, 1, 2], [], [0, 1, 2, 3, 4], [], [6], [6, 7], [6, 7, 8], [], [6, 7, 8, 9, 10], [6, 7, 8, 9, 10, 11], [6, 7, 8, 9, 10, 11, 12], [0, 1, 2, 3, 4, 5], [0, 1, 2, 3, 4, 5, 6, 7, 8, 9, 10, 11, 12, 13, 14]] (RV.look []) mixed (by kernel_rfl) (by kernel_rfl) (look_keeps _ (by simp)) ?_
  simp -implicitDefEqProofs (maxSteps := 1000000) only [↓zvN, zvU, ↓zqD, ↓zvE, zvM, init, one, Value.cells, simprocAttr, tyF, h1.c0, h1.c1, h1.next hkp, lcp, lcc, g0, g1, p0, p1, Int.toNat_natCast]
  intro w2 hm2
  have h2 := h1.more hm2
  have hm02 : Mod (duo cb cc) w w2 := Mod.of_more (hm1.trans hm2)
  obtain ⟨nx, hnx⟩ : ∃ nx, nthI xs (k + 1) = nx := ⟨_, rfl⟩
  have hnxk : (nx = -1) = (k + 1 = xs.length) := by
    rw [← hnx]
    unfold nthI
    rcases Nat.lt_or_ge (k + 1) xs.length with e | e
    · rw [List.getElem?_eq_getElem e]
      exact propext ⟨fun h => (by simp only at h; omega), fun h => (by omega)⟩
    · rw [List.getElem?_eq_none e]
      exact propext ⟨fun _ => (by omega), fun _ => rfl⟩
  rw [hnx]
  have hnxe := hnx
  refine ⟨fun ha => ?_, fun ha => ?_⟩
  · have hk0 : k = 0 := by
      cases k with
      | zero => rfl
      | succ k' =>
        have : aheadI xs (k' + 1) = ((xs[k']'(by omega) : Nat) : Int) := nthI_some (List.getElem?_eq_getElem _)
        omega
    have hff : (if k = 0 then nthI xs 1 else x.first) = nx := by rw [if_pos hk0, ← hnx, hk0]
    have hkk : (if k = 0 then ks else ks.set (aheadI xs k).toNat ⟨l, nthI xs (k + 1)⟩) = ks := if_pos hk0
    refine blk_setElem0 h2.lines (fun m _ => LineM.cells_len m) hx (m' := ⟨nx, x.last, x.n⟩) (by decide) rfl rfl fun w3 i3 k3 => ?_
    rw [s2_undef]
    have hx1 : (ls.set l ⟨nx, x.last, x.n⟩)[l]? = some (⟨nx, x.last, x.n⟩ : LineM) := List.getElem?_set_self hl
    have hB3 := i3.blk h2.blk hne.1
    have hK3 := i3.blk h2.links (fun e => hne.2.2 e.symm)
    have m03 := hm02.trans (Mod.of_wr (S := duo cb cc) i3 (.inl rfl))
    simp -implicitDefEqProofs (maxSteps := 1000000) only [↓zvN, zvU, ↓zvE, zvM, init, one, Value.cells, simprocAttr, tyF]
    have hav : aheadI xs k = aheadI xs k := rfl
    by_cases hnx1 : nx = -1
    · have hll : (if k + 1 = xs.length then aheadI xs (k) else x.last) = aheadI xs k := (if_pos (hnxk.mp hnx1)).trans hav
      simp -implicitDefEqProofs (maxSteps := 1000000) only [↓zvN, zvU, ↓zvE, zvM, init, one, Value.cells, simprocAttr, tyF, hnx1]
      refine blk_setElem k3 (fun m _ => LineM.cells_len m) hx1 (j := 1) (m' := ⟨nx, aheadI xs k, x.n⟩) (by decide) rfl rfl fun w4 i4 k4 => ?_
      rw [s2_undef]
      have hx2 : ((ls.set l ⟨nx, x.last, x.n⟩).set l ⟨nx, aheadI xs k, x.n⟩)[l]? = some (⟨nx, aheadI xs k, x.n⟩ : LineM) := List.getElem?_set_self (by simp; exact hl)
      have hB4 := i4.blk hB3 hne.1
      have hK4 := i4.blk hK3 (fun e => hne.2.2 e.symm)
      have m34 := (m03).trans (Mod.of_wr (S := duo cb cc) i4 (.inl rfl))
      have cn : (w4).cell? ⟨cb, l * 3 + 2, none⟩ = some (.int .i64 x.n) := by rw [blk_elemAt k4 (fun m _ => LineM.cells_len m) hx2 (by decide)]; rfl
      simp -implicitDefEqProofs (maxSteps := 1000000) only [↓zvN, zvU, ↓zvE, zvM, init, one, Value.cells, simprocAttr, tyF, cn, en]
      refine blk_setElem k4 (fun m _ => LineM.cells_len m) hx2 (j := 2) (m' := ⟨nx, aheadI xs k, x.n - 1⟩) (by decide) rfl rfl fun w5 i5 k5 => ?_
      rw [s2_undef]
      have hB5 := i5.blk hB4 hne.1
      have hK5 := i5.blk hK4 (fun e => hne.2.2 e.symm)
      have c15 : w5.cell? ⟨cp, 1, none⟩ = some (.slice (some ⟨cc, 0, none⟩) ks.length ks.length) := by rw [hB5.cell]; rfl
      have bk := build_of (P := Tryz.prog) (T := 327) (parts := #[(0, .int .i64 (-1)), (1, .int .i64 (-1))]) (LinkM.mk (-1) (-1)).cells (by kernel_rfl) zer327 (by kernel_rfl) w5
      simp -implicitDefEqProofs (maxSteps := 1000000) only [↓zvN, zvU, ↓zvE, zvM, init, one, Value.cells, simprocAttr, tyF, c15, p0, p1, Int.toNat_natCast, bk]
      refine blk_setRow hK5 (fun m _ => LinkM.cells_len m) (i := p) (by first | exact hpl | (rw [List.length_set]; exact hpl)) (m' := ⟨-1, -1⟩) rfl (LinkM.one _) fun w6 i6 k6 => ?_
      rw [s2_undef]
      simp -implicitDefEqProofs (maxSteps := 1000000) only [↓zvN, zvU, ↓zvE, zvM, init, one, Value.cells, simprocAttr, tyF]
      simp only [List.set_set] at k5
      have m46 : Mod (duo cb cc) w4 w6 := (Mod.of_wr i5 (.inl rfl)).trans (Mod.of_wr i6 (.inr rfl))
      refine ⟨(m34).trans m46, ?_, ?_, ?_, by simp only [List.length_set]; exact h.ll, ?_⟩
      · unfold cutK
        have e1 : ((if k = 0 then ks else ks.set (aheadI xs (k)).toNat ⟨l, nthI xs (k + 1)⟩).set p (⟨-1, -1⟩ : LinkM)).length = ks.length := by rw [List.length_set]; split <;> simp
        rw [e1, List.length_set]
        exact i6.blk hB5 hne.2.1
      · unfold cutL
        have := i6.blk k5 hne.2.2
        simp only [hff, hll] at this ⊢
        exact this
      · unfold cutK
        rw [hkk]
        exact k6
      · unfold cutK
        have e1 : ((if k = 0 then ks else ks.set (aheadI xs (k)).toNat ⟨l, nthI xs (k + 1)⟩).set p (⟨-1, -1⟩ : LinkM)).length = ks.length := by rw [List.length_set]; split <;> simp
        rw [e1]
        exact h.kl
    · have hll : (if k + 1 = xs.length then aheadI xs (k) else x.last) = x.last := if_neg (fun h => hnx1 (hnxk.mpr h))
      simp -implicitDefEqProofs (maxSteps := 1000000) only [↓zvN, zvU, ↓zvE, zvM, init, one, Value.cells, simprocAttr, tyF, hnx1]
      have cn : (w3).cell? ⟨cb, l * 3 + 2, none⟩ = some (.int .i64 x.n) := by rw [blk_elemAt k3 (fun m _ => LineM.cells_len m) hx1 (by decide)]; rfl
      simp -implicitDefEqProofs (maxSteps := 1000000) only [↓zvN, zvU, ↓zvE, zvM, init, one, Value.cells, simprocAttr, tyF, cn, en]
      refine blk_setElem k3 (fun m _ => LineM.cells_len m) hx1 (j := 2) (m' := ⟨nx, x.last, x.n - 1⟩) (by decide) rfl rfl fun w5 i5 k5 => ?_
      rw [s2_undef]
      have hB5 := i5.blk hB3 hne.1
      have hK5 := i5.blk hK3 (fun e => hne.2.2 e.symm)
      have c15 : w5.cell? ⟨cp, 1, none⟩ = some (.slice (some ⟨cc, 0, none⟩) ks.length ks.length) := by rw [hB5.cell]; rfl
      have bk := build_of (P := Tryz.prog) (T := 327) (parts := #[(0, .int .i64 (-1)), (1, .int .i64 (-1))]) (LinkM.mk (-1) (-1)).cells (by kernel_rfl) zer327 (by kernel_rfl) w5
      simp -implicitDefEqProofs (maxSteps := 1000000) only [↓zvN, zvU, ↓zvE, zvM, init, one, Value.cells, simprocAttr, tyF, c15, p0, p1, Int.toNat_natCast, bk]
      refine blk_setRow hK5 (fun m _ => LinkM.cells_len m) (i := p) (by first | exact hpl | (rw [List.length_set]; exact hpl)) (m' := ⟨-1, -1⟩) rfl (LinkM.one _) fun w6 i6 k6 => ?_
      rw [s2_undef]
      simp -implicitDefEqProofs (maxSteps := 1000000) only [↓zvN, zvU, ↓zvE, zvM, init, one, Value.cells, simprocAttr, tyF]
      simp only [List.set_set] at k5
      have m46 : Mod (duo cb cc) w3 w6 := (Mod.of_wr i5 (.inl rfl)).trans (Mod.of_wr i6 (.inr rfl))
      refine ⟨(m03).trans m46, ?_, ?_, ?_, by simp only [List.length_set]; exact h.ll, ?_⟩
      · unfold cutK
        have e1 : ((if k = 0 then ks else ks.set (aheadI xs (k)).toNat ⟨l, nthI xs (k + 1)⟩).set p (⟨-1, -1⟩ : LinkM)).length = ks.length := by rw [List.length_set]; split <;> simp
        rw [e1, List.length_set]
        exact i6.blk hB5 hne.2.1
      · unfold cutL
        have := i6.blk k5 hne.2.2
        simp only [hff, hll] at this ⊢
        exact this
      · unfold cutK
        rw [hkk]
        exact k6
      · unfold cutK
        have e1 : ((if k = 0 then ks else ks.set (aheadI xs (k)).toNat ⟨l, nthI xs (k + 1)⟩).set p (⟨-1, -1⟩ : LinkM)).length = ks.length := by rw [List.length_set]; split <;> simp
        rw [e1]
        exact h.kl
  · obtain ⟨k', rfl⟩ : ∃ k', k = k' + 1 := by
      cases k with
      | zero => exact absurd rfl ha
      | succ k' => exact ⟨k', rfl⟩
    obtain ⟨q, hq⟩ : ∃ q, xs[k']? = some q := ⟨xs[k']'(by omega), List.getElem?_eq_getElem _⟩
    have hqa : aheadI xs (k' + 1) = q := nthI_some hq
    have hkq := hp.at_ k' q hq
    have hql : q < ks.length := (List.getElem?_eq_some_iff.1 hkq).1
    have q0 : (0 : Int) ≤ (q : Int) := by omega
    have q1 : (q : Int) < (ks.length : Int) := by omega
    have hff : (if k' + 1 = 0 then nthI xs 1 else x.first) = x.first := if_neg (by omega)
    have hkk : (if k' + 1 = 0 then ks else ks.set (aheadI xs (k' + 1)).toNat ⟨l, nthI xs (k' + 1 + 1)⟩) = ks.set q ⟨l, nx⟩ := by rw [if_neg (by omega), hqa, hnxe, Int.toNat_natCast]
    simp -implicitDefEqProofs (maxSteps := 1000000) only [↓zvN, zvU, ↓zvE, zvM, init, one, Value.cells, simprocAttr, tyF, h2.c1, hqa, q0, q1, Int.toNat_natCast]
    refine blk_setElem h2.links (fun m _ => LinkM.cells_len m) hkq (j := 1) (m' := ⟨l, nx⟩) (by decide) rfl rfl fun w3 i3 k3 => ?_
    rw [s2_undef]
    have hB3 := i3.blk h2.blk hne.2.1
    have hL3 := i3.blk h2.lines hne.2.2
    have m03 := hm02.trans (Mod.of_wr (S := duo cb cc) i3 (.inr rfl))
    simp -implicitDefEqProofs (maxSteps := 1000000) only [↓zvN, zvU, ↓zvE, zvM, init, one, Value.cells, simprocAttr, tyF, hqa]
    have hsx : ls.set l x = ls := by
      apply List.ext_getElem?
      intro k
      by_cases e : l = k
      · subst e; rw [List.getElem?_set_self hl, hx]
      · rw [List.getElem?_set_ne e]
    have hx1 : (ls.set l x)[l]? = some (⟨x.first, x.last, x.n⟩ : LineM) := List.getElem?_set_self hl
    rw [← hsx] at hL3
    have hav := hqa
    by_cases hnx1 : nx = -1
    · have hll : (if k' + 1 + 1 = xs.length then aheadI xs (k' + 1) else x.last) = q := (if_pos (hnxk.mp hnx1)).trans hav
      simp -implicitDefEqProofs (maxSteps := 1000000) only [↓zvN, zvU, ↓zvE, zvM, init, one, Value.cells, simprocAttr, tyF, hnx1]
      refine blk_setElem hL3 (fun m _ => LineM.cells_len m) hx1 (j := 1) (m' := ⟨x.first, q, x.n⟩) (by decide) rfl rfl fun w4 i4 k4 => ?_
      rw [s2_undef]
      have hx2 : ((ls.set l x).set l ⟨x.first, q, x.n⟩)[l]? = some (⟨x.first, q, x.n⟩ : LineM) := List.getElem?_set_self (by simp; exact hl)
      have hB4 := i4.blk hB3 hne.1
      have hK4 := i4.blk k3 (fun e => hne.2.2 e.symm)
      have m34 := (m03).trans (Mod.of_wr (S := duo cb cc) i4 (.inl rfl))
      have cn : (w4).cell? ⟨cb, l * 3 + 2, none⟩ = some (.int .i64 x.n) := by rw [blk_elemAt k4 (fun m _ => LineM.cells_len m) hx2 (by decide)]; rfl
      simp -implicitDefEqProofs (maxSteps := 1000000) only [↓zvN, zvU, ↓zvE, zvM, init, one, Value.cells, simprocAttr, tyF, cn, en]
      refine blk_setElem k4 (fun m _ => LineM.cells_len m) hx2 (j := 2) (m' := ⟨x.first, q, x.n - 1⟩) (by decide) rfl rfl fun w5 i5 k5 => ?_
      rw [s2_undef]
      have hB5 := i5.blk hB4 hne.1
      have hK5 := i5.blk hK4 (fun e => hne.2.2 e.symm)
      have c15 : w5.cell? ⟨cp, 1, none⟩ = some (.slice (some ⟨cc, 0, none⟩) ks.length ks.length) := by rw [hB5.cell]; rfl
      have bk := build_of (P := Tryz.prog) (T := 327) (parts := #[(0, .int .i64 (-1)), (1, .int .i64 (-1))]) (LinkM.mk (-1) (-1)).cells (by kernel_rfl) zer327 (by kernel_rfl) w5
      simp -implicitDefEqProofs (maxSteps := 1000000) only [↓zvN, zvU, ↓zvE, zvM, init, one, Value.cells, simprocAttr, tyF, c15, p0, p1, Int.toNat_natCast, bk]
      refine blk_setRow hK5 (fun m _ => LinkM.cells_len m) (i := p) (by first | exact hpl | (rw [List.length_set]; exact hpl)) (m' := ⟨-1, -1⟩) rfl (LinkM.one _) fun w6 i6 k6 => ?_
      rw [s2_undef]
      simp -implicitDefEqProofs (maxSteps := 1000000) only [↓zvN, zvU, ↓zvE, zvM, init, one, Value.cells, simprocAttr, tyF]
      simp only [List.set_set] at k5
      have m46 : Mod (duo cb cc) w4 w6 := (Mod.of_wr i5 (.inl rfl)).trans (Mod.of_wr i6 (.inr rfl))
      refine ⟨(m34).trans m46, ?_, ?_, ?_, by simp only [List.length_set]; exact h.ll, ?_⟩
      · unfold cutK
        have e1 : ((if k' + 1 = 0 then ks else ks.set (aheadI xs (k' + 1)).toNat ⟨l, nthI xs (k' + 1 + 1)⟩).set p (⟨-1, -1⟩ : LinkM)).length = ks.length := by rw [List.length_set]; split <;> simp
        rw [e1, List.length_set]
        exact i6.blk hB5 hne.2.1
      · unfold cutL
        have := i6.blk k5 hne.2.2
        simp only [hff, hll] at this ⊢
        exact this
      · unfold cutK
        rw [hkk]
        exact k6
      · unfold cutK
        have e1 : ((if k' + 1 = 0 then ks else ks.set (aheadI xs (k' + 1)).toNat ⟨l, nthI xs (k' + 1 + 1)⟩).set p (⟨-1, -1⟩ : LinkM)).length = ks.length := by rw [List.length_set]; split <;> simp
        rw [e1]
        exact h.kl
    · have hll : (if k' + 1 + 1 = xs.length then aheadI xs (k' + 1) else x.last) = x.last := if_neg (fun h => hnx1 (hnxk.mpr h))
      simp -implicitDefEqProofs (maxSteps := 1000000) only [↓zvN, zvU, ↓zvE, zvM, init, one, Value.cells, simprocAttr, tyF, hnx1]
      have cn : (w3).cell? ⟨cb, l * 3 + 2, none⟩ = some (.int .i64 x.n) := by rw [blk_elemAt hL3 (fun m _ => LineM.cells_len m) hx1 (by decide)]; rfl
      simp -implicitDefEqProofs (maxSteps := 1000000) only [↓zvN, zvU, ↓zvE, zvM, init, one, Value.cells, simprocAttr, tyF, cn, en]
      refine blk_setElem hL3 (fun m _ => LineM.cells_len m) hx1 (j := 2) (m' := ⟨x.first, x.last, x.n - 1⟩) (by decide) rfl rfl fun w5 i5 k5 => ?_
      rw [s2_undef]
      have hB5 := i5.blk hB3 hne.1
      have hK5 := i5.blk k3 (fun e => hne.2.2 e.symm)
      have c15 : w5.cell? ⟨cp, 1, none⟩ = some (.slice (some ⟨cc, 0, none⟩) ks.length ks.length) := by rw [hB5.cell]; rfl
      have bk := build_of (P := Tryz.prog) (T := 327) (parts := #[(0, .int .i64 (-1)), (1, .int .i64 (-1))]) (LinkM.mk (-1) (-1)).cells (by kernel_rfl) zer327 (by kernel_rfl) w5
      simp -implicitDefEqProofs (maxSteps := 1000000) only [↓zvN, zvU, ↓zvE, zvM, init, one, Value.cells, simprocAttr, tyF, c15, p0, p1, Int.toNat_natCast, bk]
      refine blk_setRow hK5 (fun m _ => LinkM.cells_len m) (i := p) (by first | exact hpl | (rw [List.length_set]; exact hpl)) (m' := ⟨-1, -1⟩) rfl (LinkM.one _) fun w6 i6 k6 => ?_
      rw [s2_undef]
      simp -implicitDefEqProofs (maxSteps := 1000000) only [↓zvN, zvU, ↓zvE, zvM, init, one, Value.cells, simprocAttr, tyF]
      simp only [List.set_set] at k5
      have m46 : Mod (duo cb cc) w3 w6 := (Mod.of_wr i5 (.inl rfl)).trans (Mod.of_wr i6 (.inr rfl))
      refine ⟨(m03).trans m46, ?_, ?_, ?_, by simp only [List.length_set]; exact h.ll, ?_⟩
      · unfold cutK
        have e1 : ((if k' + 1 = 0 then ks else ks.set (aheadI xs (k' + 1)).toNat ⟨l, nthI xs (k' + 1 + 1)⟩).set p (⟨-1, -1⟩ : LinkM)).length = ks.length := by rw [List.length_set]; split <;> simp
        rw [e1, List.length_set]
        exact i6.blk hB5 hne.2.1
      · unfold cutL
        have := i6.blk k5 hne.2.2
        simp only [hff, hll] at this ⊢
        exact this
      · unfold cutK
        rw [hkk]
        exact k6
      · unfold cutK
        have e1 : ((if k' + 1 = 0 then ks else ks.set (aheadI xs (k' + 1)).toNat ⟨l, nthI xs (k' + 1 + 1)⟩).set p (⟨-1, -1⟩ : LinkM)).length = ks.length := by rw [List.length_set]; split <;> simp
        rw [e1]
        exact h.kl
abbrev Cls := List (List PackM)
def PackM.Ok (x : PackM) : Prop := x.flow.Fit ∧ x.pref.addr.length = 7 ∧ 1 ≤ x.len ∧ x.len ≤ 9216
def cntM (cls : Cls) : Nat := (cls.map List.length).sum
structure StInv (cls : Cls) (m : Nat) (paths : List (List Nat)) (fl : List Nat) (ls : List LineM) (ks : List LinkM) (ps : List PlcM) (first free : Int) : Prop where
  ll : ls.length = cls.length
  pl : paths.length = cls.length
  kl : ks.length = m
  sl : ps.length = m
  path : ∀ (l : Nat) (x : LineM) (xs : List Nat), ls[l]? = some x → paths[l]? = some xs → PathM l x ks xs ∧ x.last = nthI xs (xs.length - 1)
  len : ∀ (l : Nat) (xs : List Nat) (cl : List PackM), paths[l]? = some xs → cls[l]? = some cl → xs.length = cl.length
  hold : ∀ (l : Nat) (xs : List Nat) (cl : List PackM), paths[l]? = some xs → cls[l]? = some cl → ∀ (j p : Nat) (pk : PackM), xs[j]? = some p → cl[j]? = some pk → ∃ n, ps[p]? = some (PlcM.mk pk true n)
  nd : ∀ (l : Nat) (xs : List Nat), paths[l]? = some xs → xs.Nodup
  fr : ∀ (j p : Nat), fl[j]? = some p → (∃ x, ps[p]? = some (PlcM.mk x false (nthI fl (j + 1)))) ∧ ks[p]? = some (LinkM.mk (-1) (-1))
  fnd : fl.Nodup
  first : first = nthI fl 0
  free : free = (fl.length : Int)
  tot : fl.length + cntM cls = m
  fit : ∀ cl ∈ cls, ∀ pk ∈ cl, pk.Ok
  ml : m ≤ 4096
  cl : cls.length ≤ 129
theorem sum_set : ∀ (l : List Nat) (i a b : Nat), l[i]? = some a → (l.set i b).sum + a = l.sum + b
  | [], i, a, b, h => by cases h
  | x :: l, 0, a, b, h => by
    simp at h
    subst h
    simp [List.set_cons_zero]
    omega
  | x :: l, i + 1, a, b, h => by
    have := sum_set l i a b (by simpa using h)
    simp [List.set_cons_succ]
    omega
theorem cnt_set {cls : Cls} {c : Nat} {cl : List PackM} (h : cls[c]? = some cl) (cl' : List PackM) : cntM (cls.set c cl') + cl.length = cntM cls + cl'.length := by
  unfold cntM
  rw [List.map_set]
  exact sum_set _ _ _ _ (by rw [List.getElem?_map, h]; rfl)
theorem nthI_app_lt {xs ys : List Nat} {j : Nat} (h : j < xs.length) : nthI (xs ++ ys) j = nthI xs j := by unfold nthI; rw [List.getElem?_append_left h]
theorem nthI_app_len {xs : List Nat} {p : Nat} : nthI (xs ++ [p]) xs.length = p := by unfold nthI; rw [List.getElem?_append_right (Nat.le_refl _), Nat.sub_self]; rfl
theorem StInv.line {cls : Cls} {m : Nat} {paths : List (List Nat)} {fl : List Nat} {ls : List LineM} {ks : List LinkM} {ps : List PlcM} {first free : Int} (h : StInv cls m paths fl ls ks ps first free) {l : Nat} {xs : List Nat} (hx : paths[l]? = some xs) {j p : Nat} (hp : xs[j]? = some p) : ks[p]? = some (LinkM.mk l (nthI xs (j + 1))) := by
  have hl : l < ls.length := by rw [h.ll, ← h.pl]; exact (List.getElem?_eq_some_iff.1 hx).1
  exact (h.path l _ xs (List.getElem?_eq_getElem hl) hx).1.at_ j p hp
theorem StInv.push {cls : Cls} {m : Nat} {paths : List (List Nat)} {p : Nat} {fl : List Nat} {ls : List LineM} {ks : List LinkM} {ps : List PlcM} {first free : Int} (h : StInv cls m paths (p :: fl) ls ks ps first free)
    {c : Nat} {cl : List PackM} {xs : List Nat} {x : LineM} (hcl : cls[c]? = some cl) (hxs : paths[c]? = some xs) (hx : ls[c]? = some x) (pk : PackM) (hok : pk.Ok) :
    StInv (cls.set c (cl ++ [pk])) m (paths.set c (xs ++ [p])) fl (ls.set c ⟨if x.n = 0 then p else x.first, p, x.n + 1⟩) ((if x.n = 0 then ks else ks.set x.last.toNat ⟨c, p⟩).set p ⟨c, -1⟩) (ps.set p ⟨pk, true, 0⟩) (nthI fl 0) (free - 1) := by
  obtain ⟨hP, hlast⟩ := h.path c x xs hx hxs
  have hfp := h.fr 0 p rfl
  have hpk : ks[p]? = some (LinkM.mk (-1) (-1)) := hfp.2
  have hpl : p < ks.length := (List.getElem?_eq_some_iff.1 hpk).1
  have hcl' : c < cls.length := (List.getElem?_eq_some_iff.1 hcl).1
  have hn := hP.n
  have hlen := h.len c xs cl hxs hcl
  have hxs0 : x.n = 0 ↔ xs = [] := by rw [hn]; exact ⟨fun e => List.eq_nil_of_length_eq_zero (by omega), fun e => by simp [e]⟩
  -- places of lines are not p
  have np : ∀ (l : Nat) (ys : List Nat), paths[l]? = some ys → ∀ (j q : Nat), ys[j]? = some q → q ≠ p := by
    rintro l ys hy j q hq rfl
    have := h.line hy hq
    rw [hpk] at this
    injection this with this
    injection this with this _
    omega
  -- the last place
  have hlq : xs ≠ [] → ∃ q, xs[xs.length - 1]? = some q ∧ x.last.toNat = q := by
    intro e
    have hl0 : 0 < xs.length := List.length_pos_iff.2 e
    refine ⟨xs[xs.length - 1]'(by omega), List.getElem?_eq_getElem _, ?_⟩
    rw [hlast, nthI_some (List.getElem?_eq_getElem (by omega)), Int.toNat_natCast]
  -- links that stay
  have keep : ∀ (q : Nat) (y : LinkM), q ≠ p → (xs ≠ [] → x.last.toNat ≠ q) → ks[q]? = some y → ((if x.n = 0 then ks else ks.set x.last.toNat ⟨c, p⟩).set p ⟨c, -1⟩)[q]? = some y := by
    intro q y h1 h2 h3
    rw [List.getElem?_set_ne (fun e => h1 e.symm)]
    split
    · exact h3
    · rename_i h4
      rw [List.getElem?_set_ne (h2 (fun e => h4 (hxs0.2 e)))]
      exact h3
  have hkl : ((if x.n = 0 then ks else ks.set x.last.toNat ⟨c, p⟩).set p (⟨c, -1⟩ : LinkM)).length = ks.length := by rw [List.length_set]; split <;> simp
  have hpnew : ((if x.n = 0 then ks else ks.set x.last.toNat ⟨c, p⟩).set p (⟨c, -1⟩ : LinkM))[p]? = some ⟨c, -1⟩ := List.getElem?_set_self (by split; exact hpl; simpa using hpl)
  have htot := h.tot
  have hcnt := cnt_set hcl (cl ++ [pk])
  simp only [List.length_append, List.length_cons, List.length_nil] at hcnt htot
  refine ⟨by simp [h.ll], by simp [h.pl], by rw [hkl]; exact h.kl, by simp [h.sl], ?_, ?_, ?_, ?_, ?_, (List.nodup_cons.1 h.fnd).2, rfl, ?_, ?_, ?_, h.ml, by simp [h.cl]⟩
  · intro l y ys hy hys
    by_cases e : c = l
    · subst e
      rw [List.getElem?_set_self (by rw [h.ll]; exact hcl')] at hy
      rw [List.getElem?_set_self (by rw [h.pl]; exact hcl')] at hys
      cases hy
      cases hys
      refine ⟨⟨?_, ?_, ?_, ?_⟩, ?_⟩
      · show x.n + 1 = ((xs ++ [p]).length : Int)
        rw [hn]; simp
      · show (if x.n = 0 then (p : Int) else x.first) = nthI (xs ++ [p]) 0
        split
        · rename_i h0
          rw [hxs0.1 h0]; rfl
        · rename_i h0
          have hne : 0 < xs.length := List.length_pos_iff.2 (fun e => h0 (hxs0.2 e))
          rw [nthI_app_lt hne, hP.first]
      · intro j q hq
        rcases Nat.lt_or_ge j xs.length with hj | hj
        · rw [List.getElem?_append_left hj] at hq
          have hqk := hP.at_ j q hq
          have hqp := np c xs hxs j q hq
          by_cases hjl : j + 1 = xs.length
          · rw [hjl, nthI_app_len]
            have hne : xs ≠ [] := by rintro rfl; simp at hj
            obtain ⟨q', hq', hlq'⟩ := hlq hne
            have : q = q' := by rw [show xs.length - 1 = j by omega, hq] at hq'; exact Option.some.inj hq'
            subst this
            rw [List.getElem?_set_ne (fun e => hqp e.symm), if_neg (fun e => hne (hxs0.1 e)), hlq', List.getElem?_set_self (List.getElem?_eq_some_iff.1 hqk).1]
          · rw [nthI_app_lt (by omega)]
            refine keep q _ hqp (fun hne e => ?_) hqk
            obtain ⟨q', hq', hlq'⟩ := hlq hne
            rw [hlq'] at e
            subst e
            have := (List.getElem?_inj hj (h.nd c xs hxs)).1 (hq.trans hq'.symm)
            omega
        · have hj2 : j = xs.length := by
            have := (List.getElem?_eq_some_iff.1 hq).1
            simp at this
            omega
          subst hj2
          rw [List.getElem?_append_right (Nat.le_refl _), Nat.sub_self] at hq
          cases hq
          rw [nthI_none (by simp)]
          exact hpnew
      · have : cl.length ≤ cntM cls := by
          have := cnt_set hcl []
          simp at this
          omega
        have hm := h.ml
        simp only [List.length_append, List.length_cons, List.length_nil]
        omega
      · show (p : Int) = nthI (xs ++ [p]) ((xs ++ [p]).length - 1)
        rw [show (xs ++ [p]).length - 1 = xs.length by simp, nthI_app_len]
    · rw [List.getElem?_set_ne e] at hy hys
      obtain ⟨hPl, hll⟩ := h.path l y ys hy hys
      refine ⟨⟨hPl.n, hPl.first, fun j q hq => ?_, hPl.le⟩, hll⟩
      have hqk := hPl.at_ j q hq
      refine keep q _ (np l ys hys j q hq) (fun hne e2 => ?_) hqk
      obtain ⟨q', hq', hlq'⟩ := hlq hne
      rw [hlq'] at e2
      subst e2
      have := hP.at_ _ _ hq'
      rw [hqk] at this
      injection this with this
      injection this with this _
      omega
  · intro l ys dl hys hdl
    by_cases e : c = l
    · subst e
      rw [List.getElem?_set_self (by rw [h.pl]; exact hcl')] at hys
      rw [List.getElem?_set_self hcl'] at hdl
      cases hys; cases hdl
      simp [hlen]
    · rw [List.getElem?_set_ne e] at hys hdl
      exact h.len l ys dl hys hdl
  · intro l ys dl hys hdl j q pk' hq hpk'
    by_cases e : c = l
    · subst e
      rw [List.getElem?_set_self (by rw [h.pl]; exact hcl')] at hys
      rw [List.getElem?_set_self hcl'] at hdl
      cases hys; cases hdl
      rcases Nat.lt_or_ge j xs.length with hj | hj
      · rw [List.getElem?_append_left hj] at hq
        rw [List.getElem?_append_left (by omega)] at hpk'
        rw [List.getElem?_set_ne (fun e => np c xs hxs j q hq e.symm)]
        exact h.hold c xs cl hxs hcl j q pk' hq hpk'
      · have hj2 : j = xs.length := by
          have := (List.getElem?_eq_some_iff.1 hq).1
          simp at this
          omega
        subst hj2
        rw [List.getElem?_append_right (Nat.le_refl _), Nat.sub_self] at hq
        rw [hlen, List.getElem?_append_right (Nat.le_refl _), Nat.sub_self] at hpk'
        cases hq; cases hpk'
        exact ⟨0, List.getElem?_set_self (by rw [h.sl, ← h.kl]; exact hpl)⟩
    · rw [List.getElem?_set_ne e] at hys hdl
      rw [List.getElem?_set_ne (fun e => np l ys hys j q hq e.symm)]
      exact h.hold l ys dl hys hdl j q pk' hq hpk'
  · intro l ys hys
    by_cases e : c = l
    · subst e
      rw [List.getElem?_set_self (by rw [h.pl]; exact hcl')] at hys
      cases hys
      rw [List.nodup_append]
      refine ⟨h.nd c xs hxs, by simp, ?_⟩
      intro a ha b hb e
      simp at hb
      subst hb e
      obtain ⟨j, hj⟩ := List.getElem?_of_mem ha
      exact np c xs hxs j a hj rfl
    · rw [List.getElem?_set_ne e] at hys
      exact h.nd l ys hys
  · intro j q hq
    have hfq : (p :: fl)[j + 1]? = some q := by simpa using hq
    obtain ⟨⟨y, hy⟩, hk⟩ := h.fr (j + 1) q hfq
    have hqp : q ≠ p := by
      rintro rfl
      exact (List.nodup_cons.1 h.fnd).1 (List.mem_of_getElem? hq)
    refine ⟨⟨y, ?_⟩, ?_⟩
    · rw [List.getElem?_set_ne (fun e => hqp e.symm), hy]
      rfl
    · refine keep q _ hqp (fun hne e => ?_) hk
      obtain ⟨q', hq', hlq'⟩ := hlq hne
      rw [hlq'] at e
      subst e
      have := hP.at_ _ _ hq'
      rw [hk] at this
      injection this with this
      injection this with this _
      omega
  · rw [h.free]
    simp
  · omega
  · intro dl hdl q hq
    rcases List.mem_or_eq_of_mem_set hdl with h1 | h1
    · exact h.fit dl h1 q hq
    · subst h1
      rcases List.mem_append.1 hq with h2 | h2
      · exact h.fit cl (List.mem_of_getElem? hcl) q h2
      · simp at h2; subst h2; exact hok
theorem era_get {α : Type} (xs : List α) (k j : Nat) : (xs.eraseIdx k)[j]? = if j < k then xs[j]? else xs[j + 1]? := by
  rw [List.getElem?_eraseIdx]
theorem nthI_era (xs : List Nat) (k j : Nat) : nthI (xs.eraseIdx k) j = if j < k then nthI xs j else nthI xs (j + 1) := by
  unfold nthI
  rw [era_get]
  by_cases h : j < k
  · rw [if_pos h, if_pos h]
  · rw [if_neg h, if_neg h]
theorem StInv.cut {cls : Cls} {m : Nat} {paths : List (List Nat)} {fl : List Nat} {ls : List LineM} {ks : List LinkM} {ps : List PlcM} {first free : Int} (h : StInv cls m paths fl ls ks ps first free)
    {c k p : Nat} {cl : List PackM} {xs : List Nat} {x : LineM} (hcl : cls[c]? = some cl) (hxs : paths[c]? = some xs) (hx : ls[c]? = some x) (hk : xs[k]? = some p) :
    StInv (cls.set c (cl.eraseIdx k)) m (paths.set c (xs.eraseIdx k)) (p :: fl) (ls.set c (cutL x xs k)) (cutK ks c xs k p) (ps.set p ⟨packZ, false, first⟩) p (free + 1) := by
  obtain ⟨hP, hlast⟩ := h.path c x xs hx hxs
  have hkp := hP.at_ k p hk
  have hpl : p < ks.length := (List.getElem?_eq_some_iff.1 hkp).1
  have hcl' : c < cls.length := (List.getElem?_eq_some_iff.1 hcl).1
  have hkl : k < xs.length := (List.getElem?_eq_some_iff.1 hk).1
  have hn := hP.n
  have hnd := h.nd c xs hxs
  have hlen := h.len c xs cl hxs hcl
  have hel : (xs.eraseIdx k).length = xs.length - 1 := List.length_eraseIdx_of_lt hkl
  have hec : (cl.eraseIdx k).length = cl.length - 1 := List.length_eraseIdx_of_lt (by omega)
  -- the place ahead
  have hah : k ≠ 0 → ∃ q, xs[k - 1]? = some q ∧ (aheadI xs k).toNat = q := by
    intro e
    obtain ⟨k', rfl⟩ : ∃ k', k = k' + 1 := ⟨k - 1, by omega⟩
    refine ⟨xs[k']'(by omega), List.getElem?_eq_getElem _, ?_⟩
    show (nthI xs k').toNat = _
    rw [nthI_some (List.getElem?_eq_getElem (by omega)), Int.toNat_natCast]
  have keep : ∀ (q : Nat) (y : LinkM), q ≠ p → (k ≠ 0 → (aheadI xs k).toNat ≠ q) → ks[q]? = some y → (cutK ks c xs k p)[q]? = some y := by
    intro q y h1 h2 h3
    unfold cutK
    rw [List.getElem?_set_ne (fun e => h1 e.symm)]
    split
    · exact h3
    · rename_i h4
      rw [List.getElem?_set_ne (h2 h4)]
      exact h3
  have hKl : (cutK ks c xs k p).length = ks.length := by unfold cutK; rw [List.length_set]; split <;> simp
  have hpnew : (cutK ks c xs k p)[p]? = some ⟨-1, -1⟩ := by unfold cutK; exact List.getElem?_set_self (by split; exact hpl; simpa using hpl)
  -- places of other lines, and free ones
  have oth : ∀ (q : Nat) (y : LinkM), ks[q]? = some y → y.line ≠ c → (cutK ks c xs k p)[q]? = some y := by
    intro q y hq hy
    refine keep q y ?_ (fun e0 e => ?_) hq
    · rintro rfl
      rw [hkp] at hq
      cases hq
      exact hy rfl
    · obtain ⟨q', hz, hz2⟩ := hah e0
      rw [hz2] at e
      subst e
      have := hP.at_ _ _ hz
      rw [hq] at this
      cases this
      exact hy rfl
  refine ⟨by simp [h.ll], by simp [h.pl], by rw [hKl]; exact h.kl, by simp [h.sl], ?_, ?_, ?_, ?_, ?_, ?_, ?_, ?_, ?_, ?_, h.ml, by simp [h.cl]⟩
  · intro l y ys hy hys
    by_cases e : c = l
    · subst e
      rw [List.getElem?_set_self (by rw [h.ll]; exact hcl')] at hy
      rw [List.getElem?_set_self (by rw [h.pl]; exact hcl')] at hys
      cases hy
      cases hys
      refine ⟨⟨?_, ?_, ?_, ?_⟩, ?_⟩
      · show x.n - 1 = ((xs.eraseIdx k).length : Int)
        rw [hel, hn]
        clear hah keep oth hKl hpnew
        omega
      · show (if k = 0 then nthI xs 1 else x.first) = nthI (xs.eraseIdx k) 0
        rw [nthI_era]
        by_cases h0 : k = 0
        · rw [if_pos h0, if_neg (by omega)]
        · rw [if_neg h0, if_pos (by omega)]
          exact hP.first
      · intro j q hq
        rw [era_get] at hq
        rw [nthI_era]
        split at hq
        · rename_i hj
          have hqk := hP.at_ j q hq
          have hqp : q ≠ p := by
            rintro rfl
            have := (List.getElem?_inj (by omega) hnd).1 (hq.trans hk.symm)
            omega
          by_cases hj1 : j + 1 < k
          · rw [if_pos hj1]
            refine keep q _ hqp (fun e0 e => ?_) hqk
            obtain ⟨q', hz, hz2⟩ := hah e0
            rw [hz2] at e
            subst e
            have := (List.getElem?_inj (by omega) hnd).1 (hq.trans hz.symm)
            omega
          · rw [if_neg hj1]
            have hjk : k = j + 1 := by omega
            obtain ⟨q', hz, hz2⟩ := hah (by omega)
            have : q = q' := by rw [show k - 1 = j by omega, hq] at hz; exact Option.some.inj hz
            subst this
            unfold cutK
            rw [List.getElem?_set_ne (fun e => hqp e.symm), if_neg (by omega), hz2, List.getElem?_set_self (List.getElem?_eq_some_iff.1 hqk).1, hjk]
        · rename_i hj
          have hqk := hP.at_ (j + 1) q hq
          rw [if_neg (by omega)]
          have hjl : j + 1 < xs.length := (List.getElem?_eq_some_iff.1 hq).1
          refine keep q _ ?_ (fun e0 e => ?_) hqk
          · rintro rfl
            have := (List.getElem?_inj hjl hnd).1 (hq.trans hk.symm)
            omega
          · obtain ⟨q', hz, hz2⟩ := hah e0
            rw [hz2] at e
            subst e
            have := (List.getElem?_inj hjl hnd).1 (hq.trans hz.symm)
            omega
      · have := hP.le
        omega
      · show (if k + 1 = xs.length then aheadI xs k else x.last) = nthI (xs.eraseIdx k) ((xs.eraseIdx k).length - 1)
        rw [hel, nthI_era]
        by_cases hke : k + 1 = xs.length
        · rw [if_pos hke]
          cases k with
          | zero =>
            rw [if_neg (by omega), nthI_none (by omega)]
            rfl
          | succ k' =>
            rw [if_pos (by omega), show xs.length - 1 - 1 = k' by omega]
            rfl
        · rw [if_neg hke, if_neg (by omega), hlast, show xs.length - 1 - 1 + 1 = xs.length - 1 by clear hah keep oth hKl hpnew; omega]
    · rw [List.getElem?_set_ne e] at hy hys
      obtain ⟨hPl, hll⟩ := h.path l y ys hy hys
      refine ⟨⟨hPl.n, hPl.first, fun j q hq => ?_, hPl.le⟩, hll⟩
      exact oth q _ (hPl.at_ j q hq) (fun e2 => e (by show c = l; have : (l : Int) = c := e2; omega))
  · intro l ys dl hys hdl
    by_cases e : c = l
    · subst e
      rw [List.getElem?_set_self (by rw [h.pl]; exact hcl')] at hys
      rw [List.getElem?_set_self hcl'] at hdl
      cases hys; cases hdl
      rw [hel, hec, hlen]
    · rw [List.getElem?_set_ne e] at hys hdl
      exact h.len l ys dl hys hdl
  · intro l ys dl hys hdl j q pk' hq hpk'
    by_cases e : c = l
    · subst e
      rw [List.getElem?_set_self (by rw [h.pl]; exact hcl')] at hys
      rw [List.getElem?_set_self hcl'] at hdl
      cases hys; cases hdl
      rw [era_get] at hq hpk'
      have key : ∀ i, i ≠ k → xs[i]? = some q → cl[i]? = some pk' → ∃ n, (ps.set p ⟨packZ, false, first⟩)[q]? = some (PlcM.mk pk' true n) := by
        intro i hi h1 h2
        have hqp : q ≠ p := by
          rintro rfl
          have := (List.getElem?_inj (List.getElem?_eq_some_iff.1 h1).1 hnd).1 (h1.trans hk.symm)
          omega
        rw [List.getElem?_set_ne (fun e => hqp e.symm)]
        exact h.hold c xs cl hxs hcl i q pk' h1 h2
      split at hq
      · rename_i hj
        rw [if_pos hj] at hpk'
        exact key j (by omega) hq hpk'
      · rename_i hj
        rw [if_neg hj] at hpk'
        exact key (j + 1) (by omega) hq hpk'
    · rw [List.getElem?_set_ne e] at hys hdl
      have hqp : p ≠ q := by
        rintro rfl
        have := h.line hys hq
        rw [hkp] at this
        injection this with this
        injection this with this _
        omega
      rw [List.getElem?_set_ne hqp]
      exact h.hold l ys dl hys hdl j q pk' hq hpk'
  · intro l ys hys
    by_cases e : c = l
    · subst e
      rw [List.getElem?_set_self (by rw [h.pl]; exact hcl')] at hys
      cases hys
      exact (List.eraseIdx_sublist _ _).nodup hnd
    · rw [List.getElem?_set_ne e] at hys
      exact h.nd l ys hys
  · intro j q hq
    cases j with
    | zero =>
      cases hq
      refine ⟨⟨packZ, ?_⟩, hpnew⟩
      rw [List.getElem?_set_self (by rw [h.sl, ← h.kl]; exact hpl), h.first]
      rfl
    | succ j =>
      have hq' : fl[j]? = some q := by simpa using hq
      obtain ⟨⟨y, hy⟩, hkq⟩ := h.fr j q hq'
      refine ⟨⟨y, ?_⟩, oth q _ hkq (by show (-1 : Int) ≠ c; omega)⟩
      have hqp : p ≠ q := by
        rintro rfl
        rw [hkp] at hkq
        injection hkq with hkq
        injection hkq with hkq _
        omega
      rw [List.getElem?_set_ne hqp, hy]
      rfl
  · rw [List.nodup_cons]
    refine ⟨fun hm => ?_, h.fnd⟩
    obtain ⟨j, hj⟩ := List.getElem?_of_mem hm
    have := (h.fr j p hj).2
    rw [hkp] at this
    injection this with this
    injection this with this _
    omega
  · rfl
  · rw [h.free]; simp
  · have htot := h.tot
    have hcnt := cnt_set hcl (cl.eraseIdx k)
    rw [hec] at hcnt
    rw [List.length_cons]
    clear hah keep oth hKl hpnew
    omega
  · intro dl hdl q hq
    rcases List.mem_or_eq_of_mem_set hdl with h1 | h1
    · exact h.fit dl h1 q hq
    · subst h1
      exact h.fit cl (List.mem_of_getElem? hcl) q (List.mem_of_mem_eraseIdx hq)
end Go.Proofs.YtofhbonnojooeaaGreat

