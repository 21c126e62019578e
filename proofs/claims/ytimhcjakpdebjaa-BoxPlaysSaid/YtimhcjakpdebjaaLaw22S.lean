/-
  Layer 22: acts, and rows that lie elsewhere.
-/
import Derived.Test.YtimhcjakpdebjaaLaw22
namespace Go.Proofs.Ytimhcjakpdebjaa
open Go Go.RowKit Go.Proofs.RV
set_option linter.unusedSimpArgs false
set_option linter.unusedVariables false
set_option maxRecDepth 10000
set_option maxHeartbeats 4000000
theorem mem_all22 {M M2 : List Nat} (hs : M2.all (M.contains ·) = true) {s : Nat} (h : s ∈ M2) : s ∈ M := by simpa using List.all_eq_true.1 hs s h
structure Act22 where
  kind : Int
  p : PrefM
  now : Int
  n : Int
def Act22.cells (a : Act22) : List Value := .int .u8 a.kind :: (a.p.cells ++ [.int .i64 a.now, .int .i64 a.n])
structure Act22.Fit (a : Act22) : Prop where
  p : a.p.addr.length = 7
  k0 : 0 ≤ a.kind
  k1 : a.kind < 256
  n0 : -9223372036854775808 ≤ a.n
  n1 : a.n ≤ 9223372036854775807
  w0 : -9223372036854775808 ≤ a.now
  w1 : a.now ≤ 9223372036854775807
theorem Act22.len {a : Act22} (h : a.Fit) : a.cells.length = 11 := by simp [Act22.cells, PrefM.cells, h.p]
theorem Act22.one (a : Act22) : ∀ u ∈ a.cells, u.oneCell' = true := by
  intro u hu
  simp only [Act22.cells, List.mem_cons, List.mem_append, List.not_mem_nil, or_false] at hu
  rcases hu with rfl | hu | rfl | rfl
  · rfl
  · exact PrefM.one _ u hu
  · rfl
  · rfl
theorem acts22_in {w : World} {k : Nat} {cs : List Value} (h : Lays Try.prog w k 68 cs) :
    ∃ (A : Option Addr) (l : List Act22) (c : Nat), cs = [.slice A l.length c] ∧ l.length ≤ c ∧ Cs w A (l.flatMap Act22.cells) ∧ (∀ a ∈ l, a.cells.length = 11) ∧ ∀ a ∈ l, a.Fit := by
  refine h.rowOf Try.underlying68 cells71 (by omega) _ fun k cs' h' hl => ?_
  obtain ⟨_, f0⟩ := h'.fieldAt Try.underlying71 0 5 0 rfl cells5
  obtain ⟨_, f1⟩ := h'.fieldAt Try.underlying71 1 24 1 rfl cells24
  obtain ⟨_, f2⟩ := h'.fieldAt Try.underlying71 2 2 9 rfl cells2
  obtain ⟨_, f3⟩ := h'.fieldAt Try.underlying71 3 2 10 rfl cells2
  obtain ⟨x, e0, r0⟩ := f0.int Try.underlying5
  obtain ⟨p, e1, hp⟩ := pref_in f1
  obtain ⟨y, e2, r2⟩ := f2.int Try.underlying2
  obtain ⟨z, e3, r3⟩ := f3.int Try.underlying2
  refine ⟨⟨x, p, y, z⟩, ?_, ?_⟩
  · have e : cs' = [Value.int .u8 x] ++ (p.cells ++ ([.int .i64 y] ++ [.int .i64 z])) := by
      rw [← e0, ← e1, ← e2, ← e3]
      conv => lhs; rw [← List.drop_zero (l := cs'), cut_at _ 0 1, cut_at _ (0 + 1) 8, cut_at _ (0 + 1 + 8) 1, cut_at _ (0 + 1 + 8 + 1) 1]
      rw [List.drop_eq_nil_of_le (i := 0 + 1 + 8 + 1 + 1) (by omega), List.append_nil]
    rw [e]
    rfl
  · simp [IntKind.min, IntKind.max, IntKind.signed, IntKind.bits] at r0 r2 r3
    exact ⟨hp, r0.1, by show x < 256; omega, r3.1, by show z ≤ 9223372036854775807; omega, r2.1, by show y ≤ 9223372036854775807; omega⟩
theorem zerAct22 : zer Try.prog 71 = some (.agg (Act22.mk 0 prefZ 0 0).cells.toArray) := by rw [zer71]; rfl
theorem BoxW.mod {w w' : World} {S : Nat → Prop} {x b t room : Nat} {term rate burst : Int} {L : BoxL} (h : BoxW w x b t room term rate burst L) (hm : Mod S w w') (hx : ¬ S x) (hS : ∀ k, owns b t L k → ¬ S k) : BoxW w' x b t room term rate burst L :=
  ⟨hm.blk h.box hx, h.tab.mod hm (hS b (.inl (.inl rfl))) (hS t (.inl (.inr rfl))), h.own.mod hm (fun e he => hS _ (.inr ⟨e, he, rfl⟩)), h.ne, h.room_le, h.ok⟩
theorem own_blk {w : World} {B e s n c : Nat} {x : Addr} {xs : List Value} (h : Own w B e s (some x) n c xs) : ∃ cur, Blk w x.block e cur := by
  rcases h.blk with ⟨h1, _⟩ | ⟨g, h1, _, _, cur, hc⟩
  · cases h1
  · cases h1; exact ⟨cur, hc⟩
theorem blk_type {w : World} {q e e' : Nat} {cs cs' : List Value} (h : Blk w q e cs) (h' : Blk w q e' cs') : e = e' := by
  unfold Blk at h h'
  rw [h] at h'
  injection h' with h'
  injection h' with _ h' _
/-- a row of another type than the box's parts lies elsewhere -/
theorem own_apart {w : World} {B e s n c x b t room : Nat} {term rate burst : Int} {L : BoxL} {A : Option Addr} {xs : List Value} (ho : Own w B e s A n c xs) (hB : BoxW w x b t room term rate burst L) (hlo : x < B ∧ b < B ∧ t < B) (he : e ≠ 137) :
    ∀ a, A = some a → ¬ owns b t L a.block ∧ a.block ≠ x := by
  intro a ha
  subst ha
  have h1 := (ho.atB_ge ⟨a, rfl, rfl⟩).1
  refine ⟨?_, by omega⟩
  rintro ((h | h) | ⟨d, hd, h⟩)
  · omega
  · omega
  · obtain ⟨cur, hc⟩ := own_blk ho
    rw [h] at hc
    exact he (blk_type hc (hB.own.tok d hd).1)
theorem own_apart2 {w : World} {B B' e e' s s' n n' c c' : Nat} {A A' : Option Addr} {xs xs' : List Value} (ho : Own w B e s A n c xs) (ho' : Own w B' e' s' A' n' c' xs') (he : e ≠ e') : ∀ a, A' = some a → ¬ atB A a.block := by
  rintro a rfl ⟨y, rfl, hy⟩
  obtain ⟨cur, hc⟩ := own_blk ho
  obtain ⟨cur', hc'⟩ := own_blk ho'
  rw [hy] at hc
  exact he (blk_type hc hc')
end Go.Proofs.Ytimhcjakpdebjaa
