/-
  Layer 2: CursorOwn.
-/
import Derived.Test.YthpoabnijhfhiaaLaw02a
import Derived.Test.YthpoabnijhfhiaaCurMore
import Derived.Test.YthpoabnijhfhiaaSq
namespace Go.Proofs.Ythpoabnijhfhiaa
open Go Go.RowKit Go.Proofs.RV
set_option linter.unusedSimpArgs false
set_option linter.unusedVariables false
set_option maxRecDepth 10000
set_option maxHeartbeats 4000000

theorem u8_wrap (x : Int) : ∃ b : UInt8, Value.int .u8 (IntKind.u8.wrap x) = byteV b := by
  refine ⟨u8 (IntKind.u8.wrap x), ?_⟩
  rw [byteV_u8]
  · simp [IntKind.wrap, IntKind.signed, IntKind.bits]; omega
  · simp [IntKind.wrap, IntKind.signed, IntKind.bits]; omega
theorem set_byte {l : List UInt8} {k : Nat} {b : UInt8} : (l.map byteV).set k (byteV b) = (l.set k b).map byteV := by
  rw [List.map_set]
/-- an own row of n bytes -/
def Row (w : World) (B : Nat) (A : Option Addr) (n c : Nat) : Prop := ∃ l : List UInt8, l.length = n ∧ Own w B 5 1 A n c (l.map byteV)
theorem Row.at_ {w : World} {B n c : Nat} {A : Option Addr} (h : Row w B A n c) (hn : 0 < n) : ∃ g, A = some ⟨g, 0, none⟩ ∧ B ≤ g ∧ g < w.heap.size := by
  obtain ⟨l, hl, ho⟩ := h
  exact ho.at' hn
theorem Row.cell {w : World} {B g n c k : Nat} (h : Row w B (some ⟨g, 0, none⟩) n c) (hk : k < n) : ∃ x, w.cell? ⟨g, k, none⟩ = some (.int .u8 x) := by
  obtain ⟨l, hl, ho⟩ := h
  exact ⟨_, ho.cellG (by omega)⟩
theorem Row.st {w : World} {B g n c k : Nat} {x : Int} {K : World → Prop} (h : Row w B (some ⟨g, 0, none⟩) n c) (hk : k < n) (hK : ∀ w', Wr g w w' → Row w' B (some ⟨g, 0, none⟩) n c → K w') : stCell (.int .u8 (IntKind.u8.wrap x)) ⟨g, k, none⟩ w K := by
  obtain ⟨l, hl, ho⟩ := h
  obtain ⟨b, hb⟩ := u8_wrap x
  rw [hb]
  refine ho.stG hk rfl fun w' h1 h2 => hK w' h1 ⟨l.set k b, by rw [List.length_set, hl], ?_⟩
  rw [← set_byte]
  exact h2
theorem Row.wr {w w' : World} {B n c b : Nat} {A : Option Addr} (h : Row w B A n c) (hw : Wr b w w') (hne : ¬ atB A b) : Row w' B A n c := by
  obtain ⟨l, hl, ho⟩ := h
  exact ⟨l, hl, ho.wr hw fun g' hg hh => hne ⟨_, hg, hh⟩⟩
def half (l : List UInt8) : List UInt8 := l.drop (l.length / 2)
theorem OutAt.wr {w w' : World} {B q c b : Nat} {A : Option Addr} {l : List UInt8} (h : OutAt w B q A c l) (hw : Wr b w w') (hb : ¬ outS q A b) : OutAt w' B q A c l :=
  h.mod (S := fun k => k = b) (Mod.of_wr hw rfl) fun k hk hh => hb (hh ▸ hk)
/-- all that is apart -/
structure OwnS (w : World) (l : List UInt8) (B q q2 : Nat) (A3 A7 : Option Addr) (c3 c7 : Nat) (A : Option Addr) (cA : Nat) (F : Nat → Prop) (w' : World) : Prop where
  out : OutAt w' q q A cA l
  inn : InW w' F q2 ⟨half l, false⟩
  own : Row w' B A3 l.length c3
  cl : Row w' B A7 l.length c7
  more : More w w'
def OwnJ (w : World) (l : List UInt8) (B q q2 : Nat) (A3 A7 : Option Addr) (c3 c7 : Nat) (A : Option Addr) (cA : Nat) (F : Nat → Prop) (v : Value) (w' : World) : Prop := ∃ k : Nat, v = .int .i64 k ∧ k ≤ l.length ∧ OwnS w l B q q2 A3 A7 c3 c7 A cA F w'
def OwnK (w : World) (l : List UInt8) (n B q q2 : Nat) (A8 : Option Addr) (c8 : Nat) (A : Option Addr) (cA : Nat) (F : Nat → Prop) (v : Value) (w' : World) : Prop := ∃ k : Nat, v = .int .i64 k ∧ k ≤ n ∧ OutAt w' q q A cA l ∧ InW w' F q2 ⟨half l, false⟩ ∧ Row w' B A8 n c8 ∧ More w w'
theorem cursor_own (w : World) (A : Option Addr) (l : List UInt8) (c : Nat) (hA : Bs w A l) (hc : l.length ≤ c) :
    Ret Try.prog 3 #[.slice A l.length c] w fun v w' => v = .bool true ∧ More w w' := by
  refine ret_of Try.func3 rfl (by kernel_rfl) (Nat.le_of_ble_eq_true (by kernel_rfl)) ?_
  simp (config := {maxSteps := 1000000}) only [↓zvD, zvU, ↓up_apply, ↓hv_apply, ↓upO_some, ↓upO_none, ↓ev_tmp, ↓ev_const, ↓ev_func, ↓ev_global, init, Nat.reduceEqDiff, Nat.reduceAdd, Nat.reduceMul, Nat.reduceSub, ↓reduceIte, Int.reduceEq, Int.reduceNe, Nat.reduceLeDiff, one, Value.cells, Int.reduceLE, Int.reduceLT, Int.reduceToNat, add_mk, reduceCtorEq, List.mem_range'_1, true_and, and_true, and_false, false_and, Nat.reduceLT, Nat.reduceLeDiff, tyF]
  refine call_ok Try.call16 (law02_awake w) ?_
  rintro _ w1 ⟨rfl, hm1⟩
  simp (config := {maxSteps := 1000000}) only [↓zvD, zvU, ↓up_apply, ↓hv_apply, ↓upO_some, ↓upO_none, ↓ev_tmp, ↓ev_const, ↓ev_func, ↓ev_global, init, Nat.reduceEqDiff, Nat.reduceAdd, Nat.reduceMul, Nat.reduceSub, ↓reduceIte, Int.reduceEq, Int.reduceNe, Nat.reduceLeDiff, one, Value.cells, Int.reduceLE, Int.reduceLT, Int.reduceToNat, add_mk, reduceCtorEq, List.mem_range'_1, true_and, and_true, and_false, false_and, Nat.reduceLT, Nat.reduceLeDiff, tyF]
  refine ⟨fun h60 => ?_, fun h60 => ?_⟩
  · refine call_ok Try.call16 (law02_awake w1) ?_
    rintro _ w2 ⟨rfl, hm2⟩
    simp (config := {maxSteps := 1000000}) only [↓zvD, zvU, ↓up_apply, ↓hv_apply, ↓upO_some, ↓upO_none, ↓ev_tmp, ↓ev_const, ↓ev_func, ↓ev_global, init, Nat.reduceEqDiff, Nat.reduceAdd, Nat.reduceMul, Nat.reduceSub, ↓reduceIte, Int.reduceEq, Int.reduceNe, Nat.reduceLeDiff, one, Value.cells, Int.reduceLE, Int.reduceLT, Int.reduceToNat, add_mk, reduceCtorEq, List.mem_range'_1, true_and, and_true, and_false, false_and, Nat.reduceLT, Nat.reduceLeDiff, tyF]
    exact hm1.trans hm2
  refine bslice (z := .int .u8 0) (cells := #[]) Try.underlying22 byteE (by omega) (bcells_list [] (by simp)) ?_
  simp (config := {maxSteps := 1000000}) only [↓zvD, zvU, ↓up_apply, ↓hv_apply, ↓upO_some, ↓upO_none, ↓ev_tmp, ↓ev_const, ↓ev_func, ↓ev_global, init, Nat.reduceEqDiff, Nat.reduceAdd, Nat.reduceMul, Nat.reduceSub, ↓reduceIte, Int.reduceEq, Int.reduceNe, Nat.reduceLeDiff, one, Value.cells, Int.reduceLE, Int.reduceLT, Int.reduceToNat, add_mk, reduceCtorEq, List.mem_range'_1, true_and, and_true, and_false, false_and, Nat.reduceLT, Nat.reduceLeDiff, tyF]
  have hm2 := more_alloc w1 (.cells #[] 5)
  have s2 : (w1.alloc (.cells #[] 5)).heap.size = w1.heap.size + 1 := size_alloc _ _
  have own0 := Own.made w1 5 1 #[] 0 rfl (by simp [maxLen]) (B := w1.heap.size) (Nat.le_refl _)
  generalize w1.alloc (.cells #[] 5) = w2 at hm2 s2 own0 ⊢
  have hm12 := hm1.trans hm2
  refine app_own (m := l.length) Try.underlying22 byteE rfl (by omega) own0 (hA.more hm12) (by simp) (byteV_one _) (by simp only [maxLen]; omega) (by omega) (by omega) ?_
  intro A3 c3 w3 ho3 hg3 _
  have hm3 : More w1 w3 := grown_below own0 hm2 (by omega) hg3
  rw [Nat.zero_add, show (#[] : Array Value).toList = [] from rfl, List.nil_append] at ho3
  rw [Nat.zero_add]
  have hM3 := hm1.trans hm3
  have s1 := hm1.size
  have s3 := hm3.size
  simp (config := {maxSteps := 1000000}) only [↓zvD, zvU, ↓up_apply, ↓hv_apply, ↓upO_some, ↓upO_none, ↓ev_tmp, ↓ev_const, ↓ev_func, ↓ev_global, init, Nat.reduceEqDiff, Nat.reduceAdd, Nat.reduceMul, Nat.reduceSub, ↓reduceIte, Int.reduceEq, Int.reduceNe, Nat.reduceLeDiff, one, Value.cells, Int.reduceLE, Int.reduceLT, Int.reduceToNat, add_mk, reduceCtorEq, List.mem_range'_1, true_and, and_true, and_false, false_and, Nat.reduceLT, Nat.reduceLeDiff, tyF, zerOut]
  have hm4 := more_alloc w3 (.cells #[.slice none 0 0] 25)
  have ho4 := out_made w3
  have s4 := size_alloc w3 (.cells #[.slice none 0 0] 25)
  generalize w3.alloc (.cells #[.slice none 0 0] 25) = w4 at hm4 ho4 s4 ⊢
  refine call_ok Try.call17 (out_raw w4 _ _ _ _ _ A3 l c3 ho4 (ho3.more hm4).cs (by simp) (by omega) (by omega)) ?_
  rintro _ w5 ⟨rfl, A5, c5, ho5, hm5, hat5⟩
  rw [List.nil_append] at ho5
  have ho35 := hm5.own (ho3.more hm4) (fun x hx hs => by
    have h1 := ho3.atB_ge ⟨x, hx, rfl⟩
    rcases hs with h | h
    · omega
    · exact atB_none _ h)
  have hM5 : More w w5 := hm5.more (hM3.trans hm4) (fun k hk hs => by
    rcases hs with h | h
    · omega
    · exact atB_none _ h)
  have s5 := hm5.size
  simp (config := {maxSteps := 1000000}) only [↓zvD, zvU, ↓up_apply, ↓hv_apply, ↓upO_some, ↓upO_none, ↓ev_tmp, ↓ev_const, ↓ev_func, ↓ev_global, init, Nat.reduceEqDiff, Nat.reduceAdd, Nat.reduceMul, Nat.reduceSub, ↓reduceIte, Int.reduceEq, Int.reduceNe, Nat.reduceLeDiff, one, Value.cells, Int.reduceLE, Int.reduceLT, Int.reduceToNat, add_mk, reduceCtorEq, List.mem_range'_1, true_and, and_true, and_false, false_and, Nat.reduceLT, Nat.reduceLeDiff, tyF]
  refine call_ok Try.call18 (cur_new w5 A3 l c3 ho35.cs (by omega)) ?_
  rintro _ w6 ⟨q2, rfl, hq2, hI6, hm6⟩
  have hq2' : q2 < w6.heap.size := by obtain ⟨_, _, h, _⟩ := hI6; exact h.lt
  simp (config := {maxSteps := 1000000}) only [↓zvD, zvU, ↓up_apply, ↓hv_apply, ↓upO_some, ↓upO_none, ↓ev_tmp, ↓ev_const, ↓ev_func, ↓ev_global, init, Nat.reduceEqDiff, Nat.reduceAdd, Nat.reduceMul, Nat.reduceSub, ↓reduceIte, Int.reduceEq, Int.reduceNe, Nat.reduceLeDiff, one, Value.cells, Int.reduceLE, Int.reduceLT, Int.reduceToNat, add_mk, reduceCtorEq, List.mem_range'_1, true_and, and_true, and_false, false_and, Nat.reduceLT, Nat.reduceLeDiff, tyF]
  refine call_ok Try.call19 (out_bytes w6 _ _ A5 c5 l (ho5.more hm6) (by omega)) ?_
  rintro _ w7 ⟨A7, c7, rfl, ho7, hm7⟩
  have g0 : ¬ ((2 : Int) = 0) := by omega
  have e2 : IntKind.i64.wrap ((l.length : Int).tdiv 2) = ((l.length / 2 : Nat) : Int) := by
    rw [show (l.length : Int).tdiv 2 = ((l.length / 2 : Nat) : Int) by rw [Int.tdiv_eq_ediv_of_nonneg (by omega)]; omega]
    exact w64 (by omega) (by omega)
  simp (config := {maxSteps := 1000000}) only [↓zvD, zvU, ↓up_apply, ↓hv_apply, ↓upO_some, ↓upO_none, ↓ev_tmp, ↓ev_const, ↓ev_func, ↓ev_global, init, Nat.reduceEqDiff, Nat.reduceAdd, Nat.reduceMul, Nat.reduceSub, ↓reduceIte, Int.reduceEq, Int.reduceNe, Nat.reduceLeDiff, one, Value.cells, Int.reduceLE, Int.reduceLT, Int.reduceToNat, add_mk, reduceCtorEq, List.mem_range'_1, true_and, and_true, and_false, false_and, Nat.reduceLT, Nat.reduceLeDiff, tyF, g0, e2]
  have s6 := hm6.size
  have s7 := hm7.size
  refine call_ok Try.call20 (cur_raw w7 _ q2 _ ((l.length / 2 : Nat) : Int) (hI6.more hm7) (by show l.length ≤ _; omega)) ?_
  rintro _ w8 ⟨A8, c8, rfl, ho8, hI8, hb8⟩
  have t8 : (InM.mk l false).take ((l.length / 2 : Nat) : Int) = (l.take (l.length / 2), ⟨half l, false⟩) := take_ok (by omega)
  rw [t8] at ho8 hI8
  rw [t8]
  have hl8 : (l.take (l.length / 2)).length = l.length / 2 := by rw [List.length_take]; omega
  simp only [hl8]
  simp (config := {maxSteps := 1000000}) only [↓zvD, zvU, ↓up_apply, ↓hv_apply, ↓upO_some, ↓upO_none, ↓ev_tmp, ↓ev_const, ↓ev_func, ↓ev_global, init, Nat.reduceEqDiff, Nat.reduceAdd, Nat.reduceMul, Nat.reduceSub, ↓reduceIte, Int.reduceEq, Int.reduceNe, Nat.reduceLeDiff, one, Value.cells, Int.reduceLE, Int.reduceLT, Int.reduceToNat, add_mk, reduceCtorEq, List.mem_range'_1, true_and, and_true, and_false, false_and, Nat.reduceLT, Nat.reduceLeDiff, tyF]
  generalize hqq : w3.heap.size = q at ho4 ho5 s4 hm5 hat5
  generalize hFF : (fun k => w5.heap.size ≤ k ∧ k < q2) = F at hI6 hI8
  have hF : ∀ k, F k → w5.heap.size ≤ k ∧ k < q2 := fun k hk => by rw [← hFF] at hk; exact hk
  try rw [hqq]
  have ho8' := ((ho5.more hm6).more hm7).mod hb8 (fun k hk hq => by have := ho5.ge hk; omega)
  have hb5 : ∀ k, atB A5 k → w4.heap.size ≤ k ∧ k < w5.heap.size := fun k hk => by
    have h1 := (ho5.ge (.inr hk)).2
    rcases hat5 k (.inr hk) with (h | h) | h
    · have := ho5.2.2.2 k hk; omega
    · exact (atB_none k h).elim
    · exact ⟨h, h1⟩
  have hat3 : ∀ k, atB A3 k → w1.heap.size ≤ k ∧ k < w3.heap.size := fun k hk => ho3.atB_ge hk
  have hat7 : ∀ k, atB A7 k → w6.heap.size ≤ k ∧ k < w7.heap.size := fun k hk => ho7.atB_ge hk
  have hat8 : ∀ k, atB A8 k → w7.heap.size ≤ k := fun k hk => (ho8.atB_ge hk).1
  have hown8 : Row w8 w1.heap.size A3 l.length c3 := ⟨l, rfl, hb8.own ((ho35.more hm6).more hm7) (fun x hx hq => by have := hat3 _ ⟨x, hx, rfl⟩; omega)⟩
  have hcl8 : Row w8 w1.heap.size A7 l.length c7 := ⟨l, rfl, (hb8.own ho7 (fun x hx hq => by have := hat7 _ ⟨x, hx, rfl⟩; omega)).mono (by omega)⟩
  have hM8 : More w w8 := more_but ((hM5.trans hm6).trans hm7) hb8 (by omega)
  refine loop_p (8 :: List.range' 33 16) (fun e w' => OwnJ w l w1.heap.size q q2 A3 A7 c3 c7 A5 c5 F (e 33) w' ∧ Row w' w7.heap.size A8 (l.length / 2) c8) (fun e _ => l.length - (numOf (e 33)).toNat) ?_ ?_
  · exact ⟨⟨0, by simp only [hv_apply, up_apply, upO_some, upO_none, init, List.mem_cons, List.mem_range'_1, true_and, and_true, and_false, false_and, Nat.reduceLT, Nat.reduceLeDiff, Nat.reduceAdd, true_or, or_true, if_true, if_false, ↓reduceIte, Nat.reduceEqDiff, false_or, or_false, List.not_mem_nil, List.getElem?_cons_zero, List.getElem?_cons_succ, Option.getD_some] <;> rfl, by omega, ho8', hI8, hown8, hcl8, hM8⟩, ⟨l.take (l.length / 2), hl8, by have h := ho8; simp only [hl8] at h; exact h⟩⟩
  rintro v w9 ⟨⟨k, h33, hk, ⟨hout, hin, hown, hcl, hM9⟩⟩, hy9⟩
  simp only [hv_apply, up_apply, upO_some, upO_none, init, List.mem_cons, List.mem_range'_1, true_and, and_true, and_false, false_and, Nat.reduceLT, Nat.reduceLeDiff, Nat.reduceAdd, true_or, or_true, if_true, if_false, ↓reduceIte, Nat.reduceEqDiff, false_or, or_false, List.not_mem_nil, List.getElem?_cons_zero, List.getElem?_cons_succ, Option.getD_some] at h33
  have ek : IntKind.i64.wrap ((k : Int) + 1) = ((k + 1 : Nat) : Int) := w64 (by omega) (by omega)
  have gk : (0 : Int) ≤ (k : Int) := by omega
  simp (config := {maxSteps := 1000000}) only [↓zvD, zvU, ↓up_apply, ↓hv_apply, ↓upO_some, ↓upO_none, ↓ev_tmp, ↓ev_const, ↓ev_func, ↓ev_global, init, Nat.reduceEqDiff, Nat.reduceAdd, Nat.reduceMul, Nat.reduceSub, ↓reduceIte, Int.reduceEq, Int.reduceNe, Nat.reduceLeDiff, one, Value.cells, Int.reduceLE, Int.reduceLT, Int.reduceToNat, add_mk, reduceCtorEq, List.mem_range'_1, true_and, and_true, and_false, false_and, Nat.reduceLT, Nat.reduceLeDiff, tyF, h33]
  refine ⟨fun h9 => ?_, fun h9 => ?_⟩
  · have hk1 : k < l.length := by omega
    obtain ⟨g, e3, _, _⟩ := hown.at_ (by omega)
    obtain ⟨g', e7, _, _⟩ := hcl.at_ (by omega)
    subst e3 e7
    have r3 := hat3 g ⟨_, rfl, rfl⟩
    have r7 := hat7 g' ⟨_, rfl, rfl⟩
    obtain ⟨x, hx⟩ := hown.cell hk1
    simp (config := {maxSteps := 1000000}) only [↓zvD, zvU, ↓up_apply, ↓hv_apply, ↓upO_some, ↓upO_none, ↓ev_tmp, ↓ev_const, ↓ev_func, ↓ev_global, init, Nat.reduceEqDiff, Nat.reduceAdd, Nat.reduceMul, Nat.reduceSub, ↓reduceIte, Int.reduceEq, Int.reduceNe, Nat.reduceLeDiff, one, Value.cells, Int.reduceLE, Int.reduceLT, Int.reduceToNat, add_mk, reduceCtorEq, List.mem_range'_1, true_and, and_true, and_false, false_and, Nat.reduceLT, Nat.reduceLeDiff, tyF, h33, gk, h9, hx, Int.toNat_natCast]
    refine hown.st hk1 fun w10 k1 hown10 => ?_
    have hcl10 := hcl.wr k1 (fun h => by have := hat7 _ h; omega)
    obtain ⟨x', hx'⟩ := hcl10.cell hk1
    simp (config := {maxSteps := 1000000}) only [↓zvD, zvU, ↓up_apply, ↓hv_apply, ↓upO_some, ↓upO_none, ↓ev_tmp, ↓ev_const, ↓ev_func, ↓ev_global, init, Nat.reduceEqDiff, Nat.reduceAdd, Nat.reduceMul, Nat.reduceSub, ↓reduceIte, Int.reduceEq, Int.reduceNe, Nat.reduceLeDiff, one, Value.cells, Int.reduceLE, Int.reduceLT, Int.reduceToNat, add_mk, reduceCtorEq, List.mem_range'_1, true_and, and_true, and_false, false_and, Nat.reduceLT, Nat.reduceLeDiff, tyF, h33, gk, h9, hx', Int.toNat_natCast]
    refine hcl10.st hk1 fun w11 k2 hcl11 => ?_
    have low : ∀ {a b : World} {p : Nat}, Wr p a b → (w1.heap.size ≤ p) → (p < w3.heap.size ∨ (w6.heap.size ≤ p ∧ p < w7.heap.size)) → OutAt a q q A5 c5 l → InW a F q2 ⟨half l, false⟩ → Row a w7.heap.size A8 (l.length / 2) c8 → More w a →
        OutAt b q q A5 c5 l ∧ InW b F q2 ⟨half l, false⟩ ∧ Row b w7.heap.size A8 (l.length / 2) c8 ∧ More w b := by
      intro a b p hw hp1 hp2 h1 h2 h3 h4
      refine ⟨h1.mod (S := fun k => k = p) (Mod.of_wr hw rfl) (fun k hk hh => ?_), h2.mod (S := fun k => k = p) (Mod.of_wr hw rfl) ?_ (fun k hk hh => ?_), h3.wr hw (fun h => ?_), hw.below h4 (by omega)⟩
      · rcases hk with h | h
        · omega
        · have := hb5 _ h; omega
      · omega
      · have := hF _ hk; omega
      · have := hat8 _ h; omega
    obtain ⟨o1, i1, y1, m1⟩ := low k1 r3.1 (.inl r3.2) hout hin hy9 hM9
    obtain ⟨o2, i2, y2, m2⟩ := low k2 (by omega) (.inr r7) o1 i1 y1 m1
    have hown11 := hown10.wr k2 (fun h => by have := hat3 _ h; omega)
    simp (config := {maxSteps := 1000000}) only [↓zvD, zvU, ↓up_apply, ↓hv_apply, ↓upO_some, ↓upO_none, ↓ev_tmp, ↓ev_const, ↓ev_func, ↓ev_global, init, Nat.reduceEqDiff, Nat.reduceAdd, Nat.reduceMul, Nat.reduceSub, ↓reduceIte, Int.reduceEq, Int.reduceNe, Nat.reduceLeDiff, one, Value.cells, Int.reduceLE, Int.reduceLT, Int.reduceToNat, add_mk, reduceCtorEq, List.mem_range'_1, true_and, and_true, and_false, false_and, Nat.reduceLT, Nat.reduceLeDiff, tyF, h33, ek]
    refine ⟨⟨?_, ⟨k + 1, rfl, by omega, o2, i2, hown11, hcl11, m2⟩, y2⟩, by simp only [numOf]; omega⟩
    repeat (first | exact Same.hv _ _ _ | refine Same.up (by simp) ?_)
  · clear h33 ek gk h9
    refine loop_p (9 :: List.range' 51 10) (fun e w' => OwnK w l (l.length / 2) w7.heap.size q q2 A8 c8 A5 c5 F (e 51) w') (fun e _ => l.length / 2 - (numOf (e 51)).toNat) ?_ ?_
    · exact ⟨0, by simp only [hv_apply, up_apply, upO_some, upO_none, init, List.mem_cons, List.mem_range'_1, true_and, and_true, and_false, false_and, Nat.reduceLT, Nat.reduceLeDiff, Nat.reduceAdd, true_or, or_true, if_true, if_false, ↓reduceIte, Nat.reduceEqDiff, false_or, or_false, List.not_mem_nil, List.getElem?_cons_zero, List.getElem?_cons_succ, Option.getD_some] <;> rfl, by omega, hout, hin, hy9, hM9⟩
    rintro v w10 ⟨k, h51, hk, hout, hin, hy, hM10⟩
    simp only [hv_apply, up_apply, upO_some, upO_none, init, List.mem_cons, List.mem_range'_1, true_and, and_true, and_false, false_and, Nat.reduceLT, Nat.reduceLeDiff, Nat.reduceAdd, true_or, or_true, if_true, if_false, ↓reduceIte, Nat.reduceEqDiff, false_or, or_false, List.not_mem_nil, List.getElem?_cons_zero, List.getElem?_cons_succ, Option.getD_some] at h51
    have ek : IntKind.i64.wrap ((k : Int) + 1) = ((k + 1 : Nat) : Int) := w64 (by omega) (by omega)
    have gk : (0 : Int) ≤ (k : Int) := by omega
    simp (config := {maxSteps := 1000000}) only [↓zvD, zvU, ↓up_apply, ↓hv_apply, ↓upO_some, ↓upO_none, ↓ev_tmp, ↓ev_const, ↓ev_func, ↓ev_global, init, Nat.reduceEqDiff, Nat.reduceAdd, Nat.reduceMul, Nat.reduceSub, ↓reduceIte, Int.reduceEq, Int.reduceNe, Nat.reduceLeDiff, one, Value.cells, Int.reduceLE, Int.reduceLT, Int.reduceToNat, add_mk, reduceCtorEq, List.mem_range'_1, true_and, and_true, and_false, false_and, Nat.reduceLT, Nat.reduceLeDiff, tyF, h51]
    refine ⟨fun h9 => ?_, fun h9 => ?_⟩
    · have hk1 : k < l.length / 2 := by omega
      obtain ⟨g, e8, _, _⟩ := hy.at_ (by omega)
      subst e8
      have r8 := hat8 g ⟨_, rfl, rfl⟩
      obtain ⟨x, hx⟩ := hy.cell hk1
      simp (config := {maxSteps := 1000000}) only [↓zvD, zvU, ↓up_apply, ↓hv_apply, ↓upO_some, ↓upO_none, ↓ev_tmp, ↓ev_const, ↓ev_func, ↓ev_global, init, Nat.reduceEqDiff, Nat.reduceAdd, Nat.reduceMul, Nat.reduceSub, ↓reduceIte, Int.reduceEq, Int.reduceNe, Nat.reduceLeDiff, one, Value.cells, Int.reduceLE, Int.reduceLT, Int.reduceToNat, add_mk, reduceCtorEq, List.mem_range'_1, true_and, and_true, and_false, false_and, Nat.reduceLT, Nat.reduceLeDiff, tyF, h51, gk, h9, hx, Int.toNat_natCast]
      refine hy.st hk1 fun w11 k1 hy11 => ?_
      have o1 := hout.mod (S := fun k => k = g) (Mod.of_wr k1 rfl) (fun k hk hh => by
        rcases hk with h | h
        · omega
        · have := hb5 _ h; omega)
      have i1 := hin.mod (S := fun k => k = g) (Mod.of_wr k1 rfl) (by omega) (fun k hk hh => by have := hF _ hk; omega)
      simp (config := {maxSteps := 1000000}) only [↓zvD, zvU, ↓up_apply, ↓hv_apply, ↓upO_some, ↓upO_none, ↓ev_tmp, ↓ev_const, ↓ev_func, ↓ev_global, init, Nat.reduceEqDiff, Nat.reduceAdd, Nat.reduceMul, Nat.reduceSub, ↓reduceIte, Int.reduceEq, Int.reduceNe, Nat.reduceLeDiff, one, Value.cells, Int.reduceLE, Int.reduceLT, Int.reduceToNat, add_mk, reduceCtorEq, List.mem_range'_1, true_and, and_true, and_false, false_and, Nat.reduceLT, Nat.reduceLeDiff, tyF, h51, ek]
      refine ⟨⟨?_, ⟨k + 1, rfl, by omega, o1, i1, hy11, k1.below hM10 (by omega)⟩⟩, by simp only [numOf]; omega⟩
      repeat (first | exact Same.hv _ _ _ | refine Same.up (by simp) ?_)
    · have hlow := Cs.below_of hA
      have y0 := readstr_lt (B := q) Try.underlying22 Try.underlying5 Try.underlying9 (hA.more hM10) c (fun a ha hl => by have := hlow a ha hl; omega)
      have hld : (l.drop (l.length / 2)).length = l.length - l.length / 2 := List.length_drop
      have y1 := readstr_lt (B := q) Try.underlying22 Try.underlying5 Try.underlying9 (Cs.advB (k := l.length / 2) (hA.more hM10) hc) (c - l.length / 2) (fun a ha hl => by
        obtain ⟨b, rfl⟩ := hA.isAt (by omega)
        have h1 := hlow b rfl (by omega)
        have h2 := adv_ne (F := fun k => k = b.block) (fun x hx => by cases hx; rfl) a ha
        omega)
      rw [hld] at y1
      have g2 : (0 : Int) ≤ ((l.length / 2 : Nat) : Int) := by omega
      have g3 : l.length / 2 ≤ l.length := by omega
      refine draw_name fun K hK => ?_
      refine draw_seq q [true, true, false, false, false, false, false, false, true, true, true, false, false, false, false, false, false, false, false, false] [[], [0], [], [2], [0, 1, 2, 3], [0, 1, 2, 3, 4], [0, 1, 2, 3, 4, 5], [0, 1, 2, 3, 4, 5], [0, 1, 2, 3, 4, 5, 7], [0, 1, 2, 3, 4, 5, 6, 7, 8], [0, 1, 2, 3, 4, 5, 6, 7, 8, 9], [0, 1, 2, 3, 4, 5], [0, 1, 2, 3, 4, 5], [0, 1, 2, 3, 4, 5, 12], [0, 1, 2, 3, 4, 5, 12, 13], [0, 1, 2, 3, 4, 5, 11, 12, 13, 14], [0, 1, 2, 3, 4, 5, 11, 12, 13, 14, 15], [0, 1, 2, 3, 4, 5, 6, 7, 8, 9, 10, 11, 12, 13, 14, 15, 16], [0, 1, 2, 3, 4, 5, 6, 7, 8, 9, 10, 11, 12, 13, 14, 15, 16, 17], [0, 1, 2, 3, 4, 5, 6, 7, 8, 9, 10, 11, 12, 13, 14, 15, 16, 17, 18]] mixed (by kernel_rfl) (by kernel_rfl) ?_
      intro w11 hm11
      try simp (config := {maxSteps := 1000000}) only [↓zvD, zvU, ↓zqD, ↓sq_nil, ↓sq_cons, ↓sq_guard, ↓sq_true, ↓sq_false, ↓up_apply, ↓hv_apply, ↓upO_some, ↓upO_none, ↓ev_tmp, ↓ev_const, ↓ev_func, ↓ev_global, init, Nat.reduceEqDiff, Nat.reduceAdd, Nat.reduceMul, Nat.reduceSub, ↓reduceIte, Int.reduceEq, Int.reduceNe, Nat.reduceLeDiff, one, Value.cells, Int.reduceLE, Int.reduceLT, Int.reduceToNat, add_mk, reduceCtorEq, List.mem_range'_1, true_and, and_true, and_false, false_and, Nat.reduceLT, Nat.reduceLeDiff, tyF]
      refine call_ok Try.call19 (out_bytes w11 _ _ A5 c5 l (hout.more hm11) (by omega)) ?_
      rintro _ w12 ⟨A12, c12, rfl, ho12, hm12⟩
      have hmm := hm11.trans hm12
      have s10 : q ≤ w10.heap.size := by have := hM8.size; have := hout.1.lt; omega
      try simp (config := {maxSteps := 1000000}) only [↓zvD, zvU, ↓zqD, ↓sq_nil, ↓sq_cons, ↓sq_guard, ↓sq_true, ↓sq_false, ↓up_apply, ↓hv_apply, ↓upO_some, ↓upO_none, ↓ev_tmp, ↓ev_const, ↓ev_func, ↓ev_global, init, Nat.reduceEqDiff, Nat.reduceAdd, Nat.reduceMul, Nat.reduceSub, ↓reduceIte, Int.reduceEq, Int.reduceNe, Nat.reduceLeDiff, one, Value.cells, Int.reduceLE, Int.reduceLT, Int.reduceToNat, add_mk, reduceCtorEq, List.mem_range'_1, true_and, and_true, and_false, false_and, Nat.reduceLT, Nat.reduceLeDiff, tyF]
      refine ⟨hmm.mono s10, ?_⟩
      refine conv_str Try.underlying22 Try.underlying5 Try.underlying9 ho12.cs ?_
      try simp (config := {maxSteps := 1000000}) only [↓zvD, zvU, ↓zqD, ↓sq_nil, ↓sq_cons, ↓sq_guard, ↓sq_true, ↓sq_false, ↓up_apply, ↓hv_apply, ↓upO_some, ↓upO_none, ↓ev_tmp, ↓ev_const, ↓ev_func, ↓ev_global, init, Nat.reduceEqDiff, Nat.reduceAdd, Nat.reduceMul, Nat.reduceSub, ↓reduceIte, Int.reduceEq, Int.reduceNe, Nat.reduceLeDiff, one, Value.cells, Int.reduceLE, Int.reduceLT, Int.reduceToNat, add_mk, reduceCtorEq, List.mem_range'_1, true_and, and_true, and_false, false_and, Nat.reduceLT, Nat.reduceLeDiff, tyF]
      refine ⟨hmm.mono s10, ?_⟩
      simp (config := {maxSteps := 1000000}) only [↓zvD, zvU, ↓zqD, ↓sq_nil, ↓sq_cons, ↓sq_guard, ↓sq_true, ↓sq_false, ↓up_apply, ↓hv_apply, ↓upO_some, ↓upO_none, ↓ev_tmp, ↓ev_const, ↓ev_func, ↓ev_global, init, Nat.reduceEqDiff, Nat.reduceAdd, Nat.reduceMul, Nat.reduceSub, ↓reduceIte, Int.reduceEq, Int.reduceNe, Nat.reduceLeDiff, one, Value.cells, Int.reduceLE, Int.reduceLT, Int.reduceToNat, add_mk, reduceCtorEq, List.mem_range'_1, true_and, and_true, and_false, false_and, Nat.reduceLT, Nat.reduceLeDiff, tyF, y0, beq_self_eq_true]
      refine call_ok Try.call21 (cur_left w12 _ q2 _ (hin.more hmm)) ?_
      rintro _ w13 ⟨rfl, rfl⟩
      have el : InM.left ⟨half l, false⟩ = l.length - l.length / 2 := by unfold InM.left half; simp
      rw [el]
      try simp (config := {maxSteps := 1000000}) only [↓zvD, zvU, ↓zqD, ↓sq_nil, ↓sq_cons, ↓sq_guard, ↓sq_true, ↓sq_false, ↓up_apply, ↓hv_apply, ↓upO_some, ↓upO_none, ↓ev_tmp, ↓ev_const, ↓ev_func, ↓ev_global, init, Nat.reduceEqDiff, Nat.reduceAdd, Nat.reduceMul, Nat.reduceSub, ↓reduceIte, Int.reduceEq, Int.reduceNe, Nat.reduceLeDiff, one, Value.cells, Int.reduceLE, Int.reduceLT, Int.reduceToNat, add_mk, reduceCtorEq, List.mem_range'_1, true_and, and_true, and_false, false_and, Nat.reduceLT, Nat.reduceLeDiff, tyF]
      refine ⟨hmm.mono s10, ?_⟩
      try simp (config := {maxSteps := 1000000}) only [↓zvD, zvU, ↓zqD, ↓sq_nil, ↓sq_cons, ↓sq_guard, ↓sq_true, ↓sq_false, ↓up_apply, ↓hv_apply, ↓upO_some, ↓upO_none, ↓ev_tmp, ↓ev_const, ↓ev_func, ↓ev_global, init, Nat.reduceEqDiff, Nat.reduceAdd, Nat.reduceMul, Nat.reduceSub, ↓reduceIte, Int.reduceEq, Int.reduceNe, Nat.reduceLeDiff, one, Value.cells, Int.reduceLE, Int.reduceLT, Int.reduceToNat, add_mk, reduceCtorEq, List.mem_range'_1, true_and, and_true, and_false, false_and, Nat.reduceLT, Nat.reduceLeDiff, tyF]
      refine call_ok Try.call20 (cur_raw w13 _ q2 _ ((l.length - l.length / 2 : Nat) : Int) (hin.more hmm) (by show (half l).length ≤ _; unfold half; omega)) ?_
      rintro _ w14 ⟨A14, c14, rfl, ho14, hI14, hb14⟩
      have t14 : (InM.mk (half l) false).take ((l.length - l.length / 2 : Nat) : Int) = (half l, ⟨[], false⟩) := by
        rw [take_ok (by unfold half; omega), List.take_of_length_le (by unfold half; omega), List.drop_of_length_le (by unfold half; omega)]
      rw [t14] at ho14 hI14
      rw [t14]
      have hb10 : Below q w10 w14 := (hmm.mono s10).trans (hb14.below (by omega) (by have := hmm.size; omega))
      try simp (config := {maxSteps := 1000000}) only [↓zvD, zvU, ↓zqD, ↓sq_nil, ↓sq_cons, ↓sq_guard, ↓sq_true, ↓sq_false, ↓up_apply, ↓hv_apply, ↓upO_some, ↓upO_none, ↓ev_tmp, ↓ev_const, ↓ev_func, ↓ev_global, init, Nat.reduceEqDiff, Nat.reduceAdd, Nat.reduceMul, Nat.reduceSub, ↓reduceIte, Int.reduceEq, Int.reduceNe, Nat.reduceLeDiff, one, Value.cells, Int.reduceLE, Int.reduceLT, Int.reduceToNat, add_mk, reduceCtorEq, List.mem_range'_1, true_and, and_true, and_false, false_and, Nat.reduceLT, Nat.reduceLeDiff, tyF]
      refine ⟨hb10, ?_⟩
      refine conv_str Try.underlying22 Try.underlying5 Try.underlying9 ho14.cs ?_
      try simp (config := {maxSteps := 1000000}) only [↓zvD, zvU, ↓zqD, ↓sq_nil, ↓sq_cons, ↓sq_guard, ↓sq_true, ↓sq_false, ↓up_apply, ↓hv_apply, ↓upO_some, ↓upO_none, ↓ev_tmp, ↓ev_const, ↓ev_func, ↓ev_global, init, Nat.reduceEqDiff, Nat.reduceAdd, Nat.reduceMul, Nat.reduceSub, ↓reduceIte, Int.reduceEq, Int.reduceNe, Nat.reduceLeDiff, one, Value.cells, Int.reduceLE, Int.reduceLT, Int.reduceToNat, add_mk, reduceCtorEq, List.mem_range'_1, true_and, and_true, and_false, false_and, Nat.reduceLT, Nat.reduceLeDiff, tyF]
      refine ⟨hb10, ?_⟩
      simp (config := {maxSteps := 1000000}) only [↓zvD, zvU, ↓zqD, ↓sq_nil, ↓sq_cons, ↓sq_guard, ↓sq_true, ↓sq_false, ↓up_apply, ↓hv_apply, ↓upO_some, ↓upO_none, ↓ev_tmp, ↓ev_const, ↓ev_func, ↓ev_global, init, Nat.reduceEqDiff, Nat.reduceAdd, Nat.reduceMul, Nat.reduceSub, ↓reduceIte, Int.reduceEq, Int.reduceNe, Nat.reduceLeDiff, one, Value.cells, Int.reduceLE, Int.reduceLT, Int.reduceToNat, add_mk, reduceCtorEq, List.mem_range'_1, true_and, and_true, and_false, false_and, Nat.reduceLT, Nat.reduceLeDiff, tyF, g0, e2, g2, g3]
      rw [Int.toNat_natCast]
      refine ⟨g3, ?_⟩
      rw [show l.length - l.length / 2 = (l.drop (l.length / 2)).length by omega] 
      rw [hld, y1]
      simp (config := {maxSteps := 1000000}) only [↓zvD, zvU, ↓zqD, ↓sq_nil, ↓sq_cons, ↓sq_guard, ↓sq_true, ↓sq_false, ↓up_apply, ↓hv_apply, ↓upO_some, ↓upO_none, ↓ev_tmp, ↓ev_const, ↓ev_func, ↓ev_global, init, Nat.reduceEqDiff, Nat.reduceAdd, Nat.reduceMul, Nat.reduceSub, ↓reduceIte, Int.reduceEq, Int.reduceNe, Nat.reduceLeDiff, one, Value.cells, Int.reduceLE, Int.reduceLT, Int.reduceToNat, add_mk, reduceCtorEq, List.mem_range'_1, true_and, and_true, and_false, false_and, Nat.reduceLT, Nat.reduceLeDiff, tyF, half, beq_self_eq_true]
      refine hK _ _ ?_
      simp (config := {maxSteps := 1000000}) only [↓zvD, zvU, ↓up_apply, ↓hv_apply, ↓upO_some, ↓upO_none, ↓ev_tmp, ↓ev_const, ↓ev_func, ↓ev_global, init, Nat.reduceEqDiff, Nat.reduceAdd, Nat.reduceMul, Nat.reduceSub, ↓reduceIte, Int.reduceEq, Int.reduceNe, Nat.reduceLeDiff, one, Value.cells, Int.reduceLE, Int.reduceLT, Int.reduceToNat, add_mk, reduceCtorEq, List.mem_range'_1, true_and, and_true, and_false, false_and, Nat.reduceLT, Nat.reduceLeDiff, tyF]
      have hwq : w.heap.size ≤ q := by rw [← hqq]; omega
      exact Below.trans hM10 (Below.mono hb10 hwq)
end Go.Proofs.Ythpoabnijhfhiaa
