/-
  Layer 8: EtherTags.
-/
import Derived.Test.YtejigcfdggkhgaaEtherL
namespace Go.Proofs.Ytejigcfdggkhgaa
open Go Go.RowKit Go.Proofs.RV
set_option linter.unusedSimpArgs false
set_option linter.unusedVariables false
set_option maxRecDepth 10000
set_option maxHeartbeats 4000000

def tagB (t x : Int) : List UInt8 := [u8 (t / 256), u8 (t % 256), u8 (x / 256), u8 (x % 256)]
def tagT (b : Bool) : Int := if b = true then 34984 else 33024
def tagsB (tags : List Int) (outer : List Bool) : Nat → List UInt8
  | 0 => []
  | k + 1 => tagsB tags outer k ++ tagB (tagT (outer.getD k false)) (tags.getD k 0)
theorem tagsB_len (tags : List Int) (outer : List Bool) : ∀ n, (tagsB tags outer n).length = 4 * n
  | 0 => rfl
  | n + 1 => by rw [tagsB, List.length_append, tagsB_len tags outer n]; simp [tagB]; omega
theorem two_at (pre : List UInt8) (a b : UInt8) (r : List UInt8) {k : Nat} (hk : pre.length = k) : two (pre ++ (a :: b :: r)) k = a.toNat * 256 + b.toNat := by
  subst hk
  unfold two bt
  simp [List.getD_eq_getElem?_getD, List.getElem?_append_right]
theorem tag_at (pre : List UInt8) (b : Bool) (x : Int) (r : List UInt8) {k : Nat} (hk : pre.length = k) : isTag (two (pre ++ (tagB (tagT b) x ++ r)) k) = true := by
  have : tagB (tagT b) x ++ r = u8 (tagT b / 256) :: u8 (tagT b % 256) :: ([u8 (x / 256), u8 (x % 256)] ++ r) := rfl
  rw [this, two_at pre _ _ _ hk]
  cases b <;> decide
/-- a tag is passed -/
theorem ethGo_pass (pre : List UInt8) (b : Bool) (x : Int) (r : List UInt8) {k : Nat} (hk : pre.length = k) (n : Nat) : ethGo (pre ++ (tagB (tagT b) x ++ r)) n k = match n with | 0 => (false, 0, 6) | m + 1 => ethGo (pre ++ (tagB (tagT b) x ++ r)) m (k + 4) :=
  ethGo_tag (by simp [tagB]; omega) (tag_at pre b x r hk)
/-- what stands behind the tags -/
theorem ethGo_base {l : List UInt8} {b : Bool} (h : etherM l = (b, 14, 0)) (pre : List UInt8) {k : Nat} (hk : pre.length = k) (n : Nat) : ethGo (pre ++ l.drop 12) n k = (b, ((k + 2 : Nat) : Int), 0) := by
  subst hk
  unfold etherM at h
  rcases Nat.lt_or_ge l.length 14 with h1 | h1
  · rw [ethGo_short (by omega)] at h; simp at h
  · have e : two (pre ++ l.drop 12) pre.length = two l 12 := by
      unfold two bt
      simp [List.getD_eq_getElem?_getD, List.getElem?_append_right]
    have hl : pre.length + 2 ≤ (pre ++ l.drop 12).length := by rw [List.length_append, List.length_drop]; omega
    cases ht : isTag (two l 12) with
    | true =>
      obtain ⟨a, ha, h2, _⟩ := ethGo_fine l 2 12 _ _ h
      rw [ethGo_tag h1 ht] at h
      obtain ⟨a, ha, h2, _⟩ := ethGo_fine l 1 16 _ _ h
      omega
    | false =>
      rw [ethGo_end h1 ht] at h
      rw [ethGo_end hl (by rw [e]; exact ht), e]
      split at h
      · simp at h
      · rename_i h2
        rw [if_neg h2]
        simp only [Prod.mk.injEq] at h
        rw [h.1]
theorem tagB_map {t x : Int} (ht : 0 ≤ t ∧ t < 65536) (hx : 0 ≤ x ∧ x < 65536) : (tagB t x).map byteV = [.int .u8 (t / 256), .int .u8 (t % 256), .int .u8 (x / 256), .int .u8 (x % 256)] := by
  simp only [tagB, List.map_cons, List.map_nil]
  rw [byteV_u8 (by omega) (by omega), byteV_u8 (by omega) (by omega), byteV_u8 (by omega) (by omega), byteV_u8 (by omega) (by omega)]
theorem Same.hvs {M M2 : List Nat} {e e' v : Env} (hs : M2.all (M.contains ·) = true) (h : Same M e' e) : Same M (hv e' M2 v) e := by
  intro s hn
  have : s ∉ M2 := fun hh => hn (by simpa using List.all_eq_true.1 hs s hh)
  rw [hv_apply, if_neg this]
  exact h s hn
theorem _root_.Go.World.ownsRow.not_at {w : World} {B e e' s n c b : Nat} {A : Option Addr} {xs cs : List Value} (h : Own w B e s A n c xs) (hb : Blk w b e' cs) (hne : e ≠ e') : ¬ atB A b := by
  rintro ⟨x, rfl, rfl⟩
  rcases h.blk with ⟨h1, _⟩ | ⟨g, h1, _⟩
  · cases h1
  · cases h1
    exact h.ne_blk hb hne g rfl rfl
def tagged (l : List UInt8) (tags : List Int) (outer : List Bool) (n : Nat) : List UInt8 := (l.take 12 ++ tagsB tags outer n) ++ l.drop 12
theorem tagged_one {l : List UInt8} {b : Bool} (h : etherM l = (b, 14, 0)) (hl : 14 ≤ l.length) (tags : List Int) (outer : List Bool) : etherM (tagged l tags outer 1) = (b, 18, 0) := by
  have h12 : (l.take 12).length = 12 := by rw [List.length_take]; omega
  have e : tagged l tags outer 1 = l.take 12 ++ (tagB (tagT (outer.getD 0 false)) (tags.getD 0 0) ++ l.drop 12) := by simp [tagged, tagsB]
  rw [e]
  show ethGo _ 2 12 = _
  rw [ethGo_pass _ _ _ _ h12 2, ← List.append_assoc]
  exact ethGo_base h _ (by simp [h12, tagB]) 1
theorem tagged_two {l : List UInt8} {b : Bool} (h : etherM l = (b, 14, 0)) (hl : 14 ≤ l.length) (tags : List Int) (outer : List Bool) : etherM (tagged l tags outer 2) = (b, 22, 0) := by
  have h12 : (l.take 12).length = 12 := by rw [List.length_take]; omega
  have e : tagged l tags outer 2 = l.take 12 ++ (tagB (tagT (outer.getD 0 false)) (tags.getD 0 0) ++ (tagB (tagT (outer.getD 1 false)) (tags.getD 1 0) ++ l.drop 12)) := by simp [tagged, tagsB]
  rw [e]
  show ethGo _ 2 12 = _
  rw [ethGo_pass _ _ _ _ h12 2, ← List.append_assoc]
  show ethGo _ 1 16 = _
  rw [ethGo_pass _ _ _ _ (by simp [h12, tagB]) 1, ← List.append_assoc]
  exact ethGo_base h _ (by simp [h12, tagB]) 0
theorem tagged_three {l : List UInt8} (hl : 14 ≤ l.length) (tags : List Int) (outer : List Bool) : etherM (tagged l tags outer 3) = (false, 0, 6) := by
  have h12 : (l.take 12).length = 12 := by rw [List.length_take]; omega
  have e : tagged l tags outer 3 = l.take 12 ++ (tagB (tagT (outer.getD 0 false)) (tags.getD 0 0) ++ (tagB (tagT (outer.getD 1 false)) (tags.getD 1 0) ++ (tagB (tagT (outer.getD 2 false)) (tags.getD 2 0) ++ l.drop 12))) := by simp [tagged, tagsB]
  rw [e]
  show ethGo _ 2 12 = _
  rw [ethGo_pass _ _ _ _ h12 2, ← List.append_assoc]
  show ethGo _ 1 16 = _
  rw [ethGo_pass _ _ _ _ (by simp [h12, tagB]) 1, ← List.append_assoc]
  show ethGo _ 0 20 = _
  rw [ethGo_pass _ _ _ _ (by simp [h12, tagB]) 0]
/-- what stays in the loops -/
def TagE (w : World) (tags : List Int) (outer : List Bool) (L : Nat) (b : Bool) (w' : World) : Prop :=
  Blk w' w.heap.size 61 (tags.map (Value.int .u16)) ∧ Blk w' (w.heap.size + 1) 62 (outer.map Value.bool) ∧ Blk w' L 56 [.bool b, .int .i64 14] ∧ More w w'
theorem TagE.more {w w' w'' : World} {tags : List Int} {outer : List Bool} {L : Nat} {b : Bool} (h : TagE w tags outer L b w') (hm : More w' w'') : TagE w tags outer L b w'' :=
  ⟨h.1.more hm, h.2.1.more hm, h.2.2.1.more hm, h.2.2.2.trans hm⟩
def TagK (w : World) (l : List UInt8) (tags : List Int) (outer : List Bool) (L : Nat) (b : Bool) (n : Nat) (v10 v49 : Value) (w' : World) : Prop :=
  ∃ (k : Nat) (A : Option Addr) (c : Nat), v49 = .int .i64 k ∧ k ≤ n ∧ v10 = .slice A (12 + 4 * k) c ∧ Own w' w.heap.size 5 1 A (12 + 4 * k) c ((l.take 12 ++ tagsB tags outer k).map byteV) ∧ TagE w tags outer L b w'
def TagN (w : World) (tags : List Int) (outer : List Bool) (L : Nat) (b : Bool) (v9 : Value) (w' : World) : Prop :=
  ∃ n : Nat, v9 = .int .i64 n ∧ 1 ≤ n ∧ n ≤ 4 ∧ TagE w tags outer L b w'
theorem shr8w {x : Int} (h0 : 0 ≤ x) (h1 : x < 65536) : IntKind.u8.wrap (x.fdiv (2 ^ min 8 IntKind.u16.bits)) = x / 256 := by
  rw [show min 8 IntKind.u16.bits = 8 from rfl, Int.fdiv_eq_ediv_of_nonneg _ (by omega)]
  exact wu8 (by omega) (by omega)
theorem low8 (x : Int) : IntKind.u8.wrap x = x % 256 := by simp [IntKind.wrap, IntKind.signed, IntKind.bits]
theorem ether_tags (w : World) (A : Option Addr) (l : List UInt8) (c : Nat) (tags : List Int) (outer : List Bool) (hA : Bs w A l) (hc : l.length ≤ c) (ht : tags.length = 3) (htr : ∀ x ∈ tags, 0 ≤ x ∧ x < 65536) (ho : outer.length = 3) :
    Ret Try.prog 12 #[.slice A l.length c, .agg (tags.map (Value.int .u16)).toArray, .agg (outer.map Value.bool).toArray] w fun v w' => v = .bool true ∧ More w w' := by
  refine ret_of Try.func12 rfl (by kernel_rfl) (Nat.le_of_ble_eq_true (by kernel_rfl)) ?_
  have hma := more_alloc w (.cells (tags.map (Value.int .u16)).toArray 61)
  have hba := Blk.new w 61 (tags.map (Value.int .u16)).toArray
  have sa := size_alloc w (.cells (tags.map (Value.int .u16)).toArray 61)
  generalize hwa : w.alloc (.cells (tags.map (Value.int .u16)).toArray 61) = wa at hma hba sa
  have hmb := more_alloc wa (.cells (outer.map Value.bool).toArray 62)
  have hbb := Blk.new wa 62 (outer.map Value.bool).toArray
  have sb := size_alloc wa (.cells (outer.map Value.bool).toArray 62)
  generalize hwb : wa.alloc (.cells (outer.map Value.bool).toArray 62) = wb at hmb hbb sb
  have hba := hba.more hmb
  have hm0 := hma.trans hmb
  simp (config := {maxSteps := 1000000}) only [↓zvD, zvU, ↓up_apply, ↓hv_apply, ↓upO_some, ↓upO_none, ↓ev_tmp, ↓ev_const, ↓ev_func, ↓ev_global, init, Nat.reduceEqDiff, Nat.reduceAdd, Nat.reduceMul, Nat.reduceSub, ↓reduceIte, Int.reduceEq, Int.reduceNe, Nat.reduceLeDiff, one, Value.cells, Int.reduceLE, Int.reduceLT, Int.reduceToNat, add_mk, reduceCtorEq, tyF, hwa, hwb, sa]
  refine call_ok Try.call32 (law08_awake wb) ?_
  rintro _ w1 ⟨rfl, hm01⟩
  have hm1 := hm0.trans hm01
  simp (config := {maxSteps := 1000000}) only [↓zvD, zvU, ↓up_apply, ↓hv_apply, ↓upO_some, ↓upO_none, ↓ev_tmp, ↓ev_const, ↓ev_func, ↓ev_global, init, Nat.reduceEqDiff, Nat.reduceAdd, Nat.reduceMul, Nat.reduceSub, ↓reduceIte, Int.reduceEq, Int.reduceNe, Nat.reduceLeDiff, one, Value.cells, Int.reduceLE, Int.reduceLT, Int.reduceToNat, add_mk, reduceCtorEq, tyF]
  refine ⟨fun h1 => ?_, fun h1 => ⟨fun h2 => ?_, fun h2 => ?_⟩⟩
  · refine call_ok Try.call32 (law08_awake w1) ?_
    rintro _ w2 ⟨rfl, hm2⟩
    simp (config := {maxSteps := 1000000}) only [↓zvD, zvU, ↓up_apply, ↓hv_apply, ↓upO_some, ↓upO_none, ↓ev_tmp, ↓ev_const, ↓ev_func, ↓ev_global, init, Nat.reduceEqDiff, Nat.reduceAdd, Nat.reduceMul, Nat.reduceSub, ↓reduceIte, Int.reduceEq, Int.reduceNe, Nat.reduceLeDiff, one, Value.cells, Int.reduceLE, Int.reduceLT, Int.reduceToNat, add_mk, reduceCtorEq, tyF]
    exact More.trans hm1 hm2
  · refine call_ok Try.call32 (law08_awake w1) ?_
    rintro _ w2 ⟨rfl, hm2⟩
    simp (config := {maxSteps := 1000000}) only [↓zvD, zvU, ↓up_apply, ↓hv_apply, ↓upO_some, ↓upO_none, ↓ev_tmp, ↓ev_const, ↓ev_func, ↓ev_global, init, Nat.reduceEqDiff, Nat.reduceAdd, Nat.reduceMul, Nat.reduceSub, ↓reduceIte, Int.reduceEq, Int.reduceNe, Nat.reduceLeDiff, one, Value.cells, Int.reduceLE, Int.reduceLT, Int.reduceToNat, add_mk, reduceCtorEq, tyF]
    exact More.trans hm1 hm2
  refine call_ok Try.call33 (ether_parse w1 A l c (hA.more hm1) (by omega)) ?_
  rintro _ w2 ⟨rfl, hm2⟩
  have hm12 := hm1.trans hm2
  simp (config := {maxSteps := 1000000}) only [↓zvD, zvU, ↓up_apply, ↓hv_apply, ↓upO_some, ↓upO_none, ↓ev_tmp, ↓ev_const, ↓ev_func, ↓ev_global, init, Nat.reduceEqDiff, Nat.reduceAdd, Nat.reduceMul, Nat.reduceSub, ↓reduceIte, Int.reduceEq, Int.reduceNe, Nat.reduceLeDiff, one, Value.cells, Int.reduceLE, Int.reduceLT, Int.reduceToNat, add_mk, reduceCtorEq, tyF, zerLink]
  refine link_var fun w3 hm3 hb3 hs3 => ?_
  have hm13 := hm12.trans hm3
  rcases ethGo_why l 2 12 with hw | ⟨r, hw, hr⟩
  rotate_left
  · have hw : (etherM l).2.2 = r := by unfold etherM; rw [hw]
    have hne : ¬ (etherM l).2.2 = 0 := by rw [hw]; exact hr
    simp (config := {maxSteps := 1000000}) only [↓zvD, zvU, ↓up_apply, ↓hv_apply, ↓upO_some, ↓upO_none, ↓ev_tmp, ↓ev_const, ↓ev_func, ↓ev_global, init, Nat.reduceEqDiff, Nat.reduceAdd, Nat.reduceMul, Nat.reduceSub, ↓reduceIte, Int.reduceEq, Int.reduceNe, Nat.reduceLeDiff, one, Value.cells, Int.reduceLE, Int.reduceLT, Int.reduceToNat, add_mk, reduceCtorEq, tyF, hne]
    exact hm13
  have hw : (etherM l).2.2 = 0 := hw
  by_cases h14 : (etherM l).2.1 = 14
  rotate_left
  · simp (config := {maxSteps := 1000000}) only [↓zvD, zvU, ↓up_apply, ↓hv_apply, ↓upO_some, ↓upO_none, ↓ev_tmp, ↓ev_const, ↓ev_func, ↓ev_global, init, Nat.reduceEqDiff, Nat.reduceAdd, Nat.reduceMul, Nat.reduceSub, ↓reduceIte, Int.reduceEq, Int.reduceNe, Nat.reduceLeDiff, one, Value.cells, Int.reduceLE, Int.reduceLT, Int.reduceToNat, add_mk, reduceCtorEq, tyF, hw, hb3.cell, h14]
    exact hm13
  obtain ⟨b, hbx⟩ : ∃ b, etherM l = (b, 14, 0) := ⟨_, by rw [← hw, ← h14]⟩
  rw [hbx] at hb3 ⊢
  simp (config := {maxSteps := 1000000}) only [↓zvD, zvU, ↓up_apply, ↓hv_apply, ↓upO_some, ↓upO_none, ↓ev_tmp, ↓ev_const, ↓ev_func, ↓ev_global, init, Nat.reduceEqDiff, Nat.reduceAdd, Nat.reduceMul, Nat.reduceSub, ↓reduceIte, Int.reduceEq, Int.reduceNe, Nat.reduceLeDiff, one, Value.cells, Int.reduceLE, Int.reduceLT, Int.reduceToNat, add_mk, reduceCtorEq, tyF, hb3.cell]
  have hl14 : 14 ≤ l.length := by omega
  have hE : TagE w tags outer w2.heap.size b w3 := ⟨((hba.more hm01).more hm2).more hm3, by rw [← sa]; exact ((hbb.more hm01).more hm2).more hm3, hb3, hm13⟩
  generalize w2.heap.size = L at hE ⊢
  refine loop_p [9, 10, 11, 12, 13, 14, 40, 41, 42, 43, 44, 45, 46, 47, 48, 49, 50, 51, 52, 53, 54, 55, 56, 57, 58, 59, 60, 61, 62, 63, 64, 65, 66, 67, 68, 69, 70, 71, 72, 73, 74, 75, 76, 77, 78, 79, 80, 81, 82, 83, 84, 85, 86, 87, 88, 89, 90, 91, 92, 93, 94, 95, 96, 97, 98, 99, 100, 101, 102, 103, 104] (fun e w' => TagN w tags outer L b (e 9) w') (fun e _ => 4 - (numOf (e 9)).toNat) ?_ ?_
  · exact ⟨1, by simp only [hv_apply, up_apply, upO_some, upO_none, init, List.mem_cons, true_or, or_true, if_true, if_false, ↓reduceIte, Nat.reduceEqDiff, false_or, or_false, List.not_mem_nil, List.getElem?_cons_zero, List.getElem?_cons_succ, Option.getD_some]; try rfl, by omega, by omega, hE⟩
  rintro v w4 ⟨n, h9, hn1, hn4, hE4⟩
  simp only [hv_apply, up_apply, upO_some, upO_none, init, List.mem_cons, true_or, or_true, if_true, if_false, ↓reduceIte, Nat.reduceEqDiff, false_or, or_false, List.not_mem_nil, List.getElem?_cons_zero, List.getElem?_cons_succ, Option.getD_some] at h9
  simp (config := {maxSteps := 1000000}) only [↓zvD, zvU, ↓up_apply, ↓hv_apply, ↓upO_some, ↓upO_none, ↓ev_tmp, ↓ev_const, ↓ev_func, ↓ev_global, init, Nat.reduceEqDiff, Nat.reduceAdd, Nat.reduceMul, Nat.reduceSub, ↓reduceIte, Int.reduceEq, Int.reduceNe, Nat.reduceLeDiff, one, Value.cells, Int.reduceLE, Int.reduceLT, Int.reduceToNat, add_mk, reduceCtorEq, tyF, h9]
  refine ⟨fun h3 => ?_, fun h3 => hE4.2.2.2⟩
  have hn3 : n ≤ 3 := by omega
  refine bslice (z := .int .u8 0) (cells := #[]) Try.underlying23 byteE (by omega) (bcells_list [] (by simp)) ?_
  have hm5 := more_alloc w4 (.cells #[] 5)
  have s5 : (w4.alloc (.cells #[] 5)).heap.size = w4.heap.size + 1 := size_alloc _ _
  have hs4 := hE4.2.2.2.size
  have own0 := Own.made w4 5 1 #[] 0 rfl (by simp [maxLen]) (B := w.heap.size) hs4
  have hE5 := hE4.more hm5
  have own0n := Own.made w4 5 1 #[] 0 rfl (by simp [maxLen]) (B := w4.heap.size) (Nat.le_refl _)
  generalize w4.alloc (.cells #[] 5) = w5 at hm5 s5 own0 hE5 own0n ⊢
  have h12c : 12 ≤ c := by omega
  have ht12 : (l.take 12).length = 12 := by rw [List.length_take]; omega
  simp (config := {maxSteps := 1000000}) only [↓zvD, zvU, ↓up_apply, ↓hv_apply, ↓upO_some, ↓upO_none, ↓ev_tmp, ↓ev_const, ↓ev_func, ↓ev_global, init, Nat.reduceEqDiff, Nat.reduceAdd, Nat.reduceMul, Nat.reduceSub, ↓reduceIte, Int.reduceEq, Int.reduceNe, Nat.reduceLeDiff, one, Value.cells, Int.reduceLE, Int.reduceLT, Int.reduceToNat, add_mk, reduceCtorEq, tyF, h9, h12c]
  refine app_own (m := 12) Try.underlying23 byteE rfl (by omega) own0n (Cs.takeB (hA.more hE5.2.2.2) 12) (by simpa using ht12) (byteV_one _) (by simp only [maxLen]; omega) (by omega) (by omega) ?_
  intro A6 c6 w6 ho6 hg6 _
  have hm46 : More w4 w6 := grown_below own0n hm5 (by omega) hg6
  have hE6 := hE4.more hm46
  rw [Nat.zero_add, show (#[] : Array Value).toList = [] from rfl, List.nil_append] at ho6
  rw [Nat.zero_add]
  simp (config := {maxSteps := 1000000}) only [↓zvD, zvU, ↓up_apply, ↓hv_apply, ↓upO_some, ↓upO_none, ↓ev_tmp, ↓ev_const, ↓ev_func, ↓ev_global, init, Nat.reduceEqDiff, Nat.reduceAdd, Nat.reduceMul, Nat.reduceSub, ↓reduceIte, Int.reduceEq, Int.reduceNe, Nat.reduceLeDiff, one, Value.cells, Int.reduceLE, Int.reduceLT, Int.reduceToNat, add_mk, reduceCtorEq, tyF, h9]
  refine loop_p [10, 11, 12, 49, 50, 51, 52, 53, 54, 55, 56, 57, 58, 59, 60, 61, 62, 63, 64, 65, 66, 67, 68, 69, 70, 71, 72] (fun e w' => TagK w l tags outer L b n (e 10) (e 49) w') (fun e _ => n - (numOf (e 49)).toNat) ?_ ?_
  · refine ⟨0, A6, c6, by simp only [hv_apply, up_apply, upO_some, upO_none, init, List.mem_cons, true_or, or_true, if_true, if_false, ↓reduceIte, Nat.reduceEqDiff, false_or, or_false, List.not_mem_nil, List.getElem?_cons_zero, List.getElem?_cons_succ, Option.getD_some]; try rfl, by omega, by simp only [hv_apply, up_apply, upO_some, upO_none, init, List.mem_cons, true_or, or_true, if_true, if_false, ↓reduceIte, Nat.reduceEqDiff, false_or, or_false, List.not_mem_nil, List.getElem?_cons_zero, List.getElem?_cons_succ, Option.getD_some]; try rfl, ?_, hE6⟩
    have := Own.mono ho6 hs4
    simpa [tagsB] using this
  rintro v2 w7 ⟨k, A7, c7, h49, hkn, h10, ho7, hE7⟩
  simp only [hv_apply, up_apply, upO_some, upO_none, init, List.mem_cons, true_or, or_true, if_true, if_false, ↓reduceIte, Nat.reduceEqDiff, false_or, or_false, List.not_mem_nil, List.getElem?_cons_zero, List.getElem?_cons_succ, Option.getD_some] at h49 h10
  simp (config := {maxSteps := 1000000}) only [↓zvD, zvU, ↓up_apply, ↓hv_apply, ↓upO_some, ↓upO_none, ↓ev_tmp, ↓ev_const, ↓ev_func, ↓ev_global, init, Nat.reduceEqDiff, Nat.reduceAdd, Nat.reduceMul, Nat.reduceSub, ↓reduceIte, Int.reduceEq, Int.reduceNe, Nat.reduceLeDiff, one, Value.cells, Int.reduceLE, Int.reduceLT, Int.reduceToNat, add_mk, reduceCtorEq, tyF, h49, h10]
  refine ⟨fun hk => ?_, fun hk => ?_⟩
  · have hk3 : k < 3 := by omega
    have hk3i : (k : Int) < 3 := by omega
    have hk0 : (0 : Int) ≤ k := by omega
    have x1 : w7.cell? ⟨w.heap.size, k, none⟩ = some (.int .u16 (tags.getD k 0)) := by
      rw [hE7.1.cell, List.getElem?_map, List.getElem?_eq_getElem (by omega)]
      simp [List.getD_eq_getElem?_getD, List.getElem?_eq_getElem (show k < tags.length by omega)]
    have x2 : w7.cell? ⟨w.heap.size + 1, k, none⟩ = some (.bool (outer.getD k false)) := by
      rw [hE7.2.1.cell, List.getElem?_map, List.getElem?_eq_getElem (by omega)]
      simp [List.getD_eq_getElem?_getD, List.getElem?_eq_getElem (show k < outer.length by omega)]
    have hx : 0 ≤ tags.getD k 0 ∧ tags.getD k 0 < 65536 := htr _ (by
      rw [List.getD_eq_getElem?_getD, List.getElem?_eq_getElem (show k < tags.length by omega)]
      exact List.getElem_mem _)
    have hstep : tagsB tags outer (k + 1) = tagsB tags outer k ++ tagB (tagT (outer.getD k false)) (tags.getD k 0) := rfl
    generalize tags.getD k 0 = x at x1 hx hstep
    have e2 := shr8w hx.1 hx.2
    have e3 := low8 x
    have e4 : IntKind.u8.wrap ((34984 : Int).fdiv (2 ^ min 8 IntKind.u16.bits)) = 34984 / 256 := shr8w (by omega) (by omega)
    have e5 : IntKind.u8.wrap ((33024 : Int).fdiv (2 ^ min 8 IntKind.u16.bits)) = 33024 / 256 := shr8w (by omega) (by omega)
    have ek : IntKind.i64.wrap ((k : Int) + 1) = ((k + 1 : Nat) : Int) := w64 (by omega) (by omega)
    have lt1 := hE7.1.lt
    have lt2 := hE7.2.1.lt
    have hs7 := hE7.2.2.2.size
    cases hbk : outer.getD k false with
    | true =>
      rw [hbk] at x2 hstep
      simp (config := {maxSteps := 1000000}) only [↓zvD, zvU, ↓up_apply, ↓hv_apply, ↓upO_some, ↓upO_none, ↓ev_tmp, ↓ev_const, ↓ev_func, ↓ev_global, init, Nat.reduceEqDiff, Nat.reduceAdd, Nat.reduceMul, Nat.reduceSub, ↓reduceIte, Int.reduceEq, Int.reduceNe, Nat.reduceLeDiff, one, Value.cells, Int.reduceLE, Int.reduceLT, Int.reduceToNat, add_mk, reduceCtorEq, tyF, h49, h10, hwa, sa, x2, hk0, hk3i, Int.toNat_natCast]
      refine draw_seen 16 [[], [], [1], [1, 2], [], [4], [], [6], [6, 7], [6, 7, 8], [6, 7, 8, 9], [], [11], [11, 12], [11, 12, 13], [1, 2, 3, 4, 5, 6, 7, 8, 9, 10, 11, 12, 13, 14], [0, 1, 2, 3, 4, 5, 6, 7, 8, 9, 10, 11, 12, 13, 14, 15], [0, 1, 2, 3, 4, 5, 6, 7, 8, 9, 10, 11, 12, 13, 14, 15, 16]] (RV.look [(15, fun v w' => ∃ g, v = .slice (some ⟨g, 0, none⟩) 4 4 ∧ Blk w' g 5 ((tagB 34984 x).map byteV))]) mixed (by kernel_rfl) (by kernel_rfl) (look_keeps _ ?_) ?_
      · intro y hy
        simp only [List.mem_cons, List.not_mem_nil, or_false] at hy
        subst hy
        rintro v a b hab ⟨g, rfl, hb⟩
        exact ⟨g, rfl, hb.more hab⟩
      simp (config := {maxSteps := 1000000}) only [↓zvD, zvU, ↓zqD, ↓up_apply, ↓hv_apply, ↓upO_some, ↓upO_none, ↓ev_tmp, ↓ev_const, ↓ev_func, ↓ev_global, init, Nat.reduceEqDiff, Nat.reduceAdd, Nat.reduceMul, Nat.reduceSub, ↓reduceIte, Int.reduceEq, Int.reduceNe, Nat.reduceLeDiff, one, Value.cells, Int.reduceLE, Int.reduceLT, Int.reduceToNat, add_mk, reduceCtorEq, tyF, h49, h10, x1, hk0, hk3i, lt1, Int.toNat_natCast, e4, e2, e3, low8]
      refine ⟨fun w8 hm8 => ?_, ?_⟩
      · refine bslice (z := .int .u8 0) (cells := #[.int .u8 (34984 / 256), .int .u8 (34984 % 256), .int .u8 (x / 256), .int .u8 (x % 256)]) Try.underlying23 byteE (by omega) (by have := bcells_list (z := .int .u8 0) [.int .u8 (34984 / 256), .int .u8 (34984 % 256), .int .u8 (x / 256), .int .u8 (x % 256)] (by intro v hv; simp at hv; rcases hv with rfl | rfl | rfl | rfl <;> rfl); exact this) ?_
        simp (config := {maxSteps := 1000000}) only [↓zvD, zvU, ↓zqD, ↓up_apply, ↓hv_apply, ↓upO_some, ↓upO_none, ↓ev_tmp, ↓ev_const, ↓ev_func, ↓ev_global, init, Nat.reduceEqDiff, Nat.reduceAdd, Nat.reduceMul, Nat.reduceSub, ↓reduceIte, Int.reduceEq, Int.reduceNe, Nat.reduceLeDiff, one, Value.cells, Int.reduceLE, Int.reduceLT, Int.reduceToNat, add_mk, reduceCtorEq, tyF]
        refine ⟨more_alloc .., _, rfl, ?_⟩
        rw [tagB_map (by omega) hx]
        exact Blk.new ..
      rintro _ ⟨w8, hm8, g, rfl, hb8⟩
      simp (config := {maxSteps := 1000000}) only [↓zvD, zvU, ↓zqD, ↓up_apply, ↓hv_apply, ↓upO_some, ↓upO_none, ↓ev_tmp, ↓ev_const, ↓ev_func, ↓ev_global, init, Nat.reduceEqDiff, Nat.reduceAdd, Nat.reduceMul, Nat.reduceSub, ↓reduceIte, Int.reduceEq, Int.reduceNe, Nat.reduceLeDiff, one, Value.cells, Int.reduceLE, Int.reduceLT, Int.reduceToNat, add_mk, reduceCtorEq, tyF, h10]
      intro w9 hm9 hf9
      obtain ⟨g', e9, hb9⟩ := hf9
      cases e9
      have hE9 := hE7.more hm9
      have ho9 := ho7.more hm9
      have hs9 := hE9.2.2.2.size
      refine app_mod (m := 4) Try.underlying23 byteE rfl (by omega) ho9 hb9.cs (by simp [tagB]) (byteV_one _) (by simp only [maxLen]; omega) (by omega) hs9 ?_
      intro A10 c10 w10 ho10 hmod10 hat10
      simp (config := {maxSteps := 1000000}) only [↓zvD, zvU, ↓up_apply, ↓hv_apply, ↓upO_some, ↓upO_none, ↓ev_tmp, ↓ev_const, ↓ev_func, ↓ev_global, init, Nat.reduceEqDiff, Nat.reduceAdd, Nat.reduceMul, Nat.reduceSub, ↓reduceIte, Int.reduceEq, Int.reduceNe, Nat.reduceLeDiff, one, Value.cells, Int.reduceLE, Int.reduceLT, Int.reduceToNat, add_mk, reduceCtorEq, tyF, h49, ek, hwa, sa]
      refine ⟨⟨?_, k + 1, A10, c10, rfl, by omega, by congr 1, ?_, hmod10.blk hE9.1 (ho9.not_at hE9.1 (by decide)), hmod10.blk hE9.2.1 (ho9.not_at hE9.2.1 (by decide)), hmod10.blk hE9.2.2.1 (ho9.not_at hE9.2.2.1 (by decide)), Mod.more hE9.2.2.2 hmod10 fun j hj hh => by have := ho9.atB_ge hh; omega⟩, by simp only [numOf]; omega⟩
      · repeat (first | exact Same.hv _ _ _ | refine Same.up (by simp) ?_)
      · rw [hstep, show tagT true = 34984 from rfl, ← List.append_assoc, List.map_append, show 12 + 4 * (k + 1) = 12 + 4 * k + 4 by omega]
        exact ho10
    | false =>
      rw [hbk] at x2 hstep
      simp (config := {maxSteps := 1000000}) only [↓zvD, zvU, ↓up_apply, ↓hv_apply, ↓upO_some, ↓upO_none, ↓ev_tmp, ↓ev_const, ↓ev_func, ↓ev_global, init, Nat.reduceEqDiff, Nat.reduceAdd, Nat.reduceMul, Nat.reduceSub, ↓reduceIte, Int.reduceEq, Int.reduceNe, Nat.reduceLeDiff, one, Value.cells, Int.reduceLE, Int.reduceLT, Int.reduceToNat, add_mk, reduceCtorEq, tyF, h49, h10, hwa, sa, x2, hk0, hk3i, Int.toNat_natCast]
      refine draw_seen 16 [[], [], [1], [1, 2], [], [4], [], [6], [6, 7], [6, 7, 8], [6, 7, 8, 9], [], [11], [11, 12], [11, 12, 13], [1, 2, 3, 4, 5, 6, 7, 8, 9, 10, 11, 12, 13, 14], [0, 1, 2, 3, 4, 5, 6, 7, 8, 9, 10, 11, 12, 13, 14, 15], [0, 1, 2, 3, 4, 5, 6, 7, 8, 9, 10, 11, 12, 13, 14, 15, 16]] (RV.look [(15, fun v w' => ∃ g, v = .slice (some ⟨g, 0, none⟩) 4 4 ∧ Blk w' g 5 ((tagB 33024 x).map byteV))]) mixed (by kernel_rfl) (by kernel_rfl) (look_keeps _ ?_) ?_
      · intro y hy
        simp only [List.mem_cons, List.not_mem_nil, or_false] at hy
        subst hy
        rintro v a b hab ⟨g, rfl, hb⟩
        exact ⟨g, rfl, hb.more hab⟩
      simp (config := {maxSteps := 1000000}) only [↓zvD, zvU, ↓zqD, ↓up_apply, ↓hv_apply, ↓upO_some, ↓upO_none, ↓ev_tmp, ↓ev_const, ↓ev_func, ↓ev_global, init, Nat.reduceEqDiff, Nat.reduceAdd, Nat.reduceMul, Nat.reduceSub, ↓reduceIte, Int.reduceEq, Int.reduceNe, Nat.reduceLeDiff, one, Value.cells, Int.reduceLE, Int.reduceLT, Int.reduceToNat, add_mk, reduceCtorEq, tyF, h49, h10, x1, hk0, hk3i, lt1, Int.toNat_natCast, e5, e2, e3, low8]
      refine ⟨fun w8 hm8 => ?_, ?_⟩
      · refine bslice (z := .int .u8 0) (cells := #[.int .u8 (33024 / 256), .int .u8 (33024 % 256), .int .u8 (x / 256), .int .u8 (x % 256)]) Try.underlying23 byteE (by omega) (by have := bcells_list (z := .int .u8 0) [.int .u8 (33024 / 256), .int .u8 (33024 % 256), .int .u8 (x / 256), .int .u8 (x % 256)] (by intro v hv; simp at hv; rcases hv with rfl | rfl | rfl | rfl <;> rfl); exact this) ?_
        simp (config := {maxSteps := 1000000}) only [↓zvD, zvU, ↓zqD, ↓up_apply, ↓hv_apply, ↓upO_some, ↓upO_none, ↓ev_tmp, ↓ev_const, ↓ev_func, ↓ev_global, init, Nat.reduceEqDiff, Nat.reduceAdd, Nat.reduceMul, Nat.reduceSub, ↓reduceIte, Int.reduceEq, Int.reduceNe, Nat.reduceLeDiff, one, Value.cells, Int.reduceLE, Int.reduceLT, Int.reduceToNat, add_mk, reduceCtorEq, tyF]
        refine ⟨more_alloc .., _, rfl, ?_⟩
        rw [tagB_map (by omega) hx]
        exact Blk.new ..
      rintro _ ⟨w8, hm8, g, rfl, hb8⟩
      simp (config := {maxSteps := 1000000}) only [↓zvD, zvU, ↓zqD, ↓up_apply, ↓hv_apply, ↓upO_some, ↓upO_none, ↓ev_tmp, ↓ev_const, ↓ev_func, ↓ev_global, init, Nat.reduceEqDiff, Nat.reduceAdd, Nat.reduceMul, Nat.reduceSub, ↓reduceIte, Int.reduceEq, Int.reduceNe, Nat.reduceLeDiff, one, Value.cells, Int.reduceLE, Int.reduceLT, Int.reduceToNat, add_mk, reduceCtorEq, tyF, h10]
      intro w9 hm9 hf9
      obtain ⟨g', e9, hb9⟩ := hf9
      cases e9
      have hE9 := hE7.more hm9
      have ho9 := ho7.more hm9
      have hs9 := hE9.2.2.2.size
      refine app_mod (m := 4) Try.underlying23 byteE rfl (by omega) ho9 hb9.cs (by simp [tagB]) (byteV_one _) (by simp only [maxLen]; omega) (by omega) hs9 ?_
      intro A10 c10 w10 ho10 hmod10 hat10
      simp (config := {maxSteps := 1000000}) only [↓zvD, zvU, ↓up_apply, ↓hv_apply, ↓upO_some, ↓upO_none, ↓ev_tmp, ↓ev_const, ↓ev_func, ↓ev_global, init, Nat.reduceEqDiff, Nat.reduceAdd, Nat.reduceMul, Nat.reduceSub, ↓reduceIte, Int.reduceEq, Int.reduceNe, Nat.reduceLeDiff, one, Value.cells, Int.reduceLE, Int.reduceLT, Int.reduceToNat, add_mk, reduceCtorEq, tyF, h49, ek, hwa, sa]
      refine ⟨⟨?_, k + 1, A10, c10, rfl, by omega, by congr 1, ?_, hmod10.blk hE9.1 (ho9.not_at hE9.1 (by decide)), hmod10.blk hE9.2.1 (ho9.not_at hE9.2.1 (by decide)), hmod10.blk hE9.2.2.1 (ho9.not_at hE9.2.2.1 (by decide)), Mod.more hE9.2.2.2 hmod10 fun j hj hh => by have := ho9.atB_ge hh; omega⟩, by simp only [numOf]; omega⟩
      · repeat (first | exact Same.hv _ _ _ | refine Same.up (by simp) ?_)
      · rw [hstep, show tagT false = 33024 from rfl, ← List.append_assoc, List.map_append, show 12 + 4 * (k + 1) = 12 + 4 * k + 4 by omega]
        exact ho10
  · have hkn' : k = n := by omega
    subst hkn'
    have hmax : l.length - 12 ≤ c - 12 := by omega
    have hi12 : 12 ≤ l.length := by omega
    have hi12' : (12 : Int) ≤ l.length := by omega
    simp (config := {maxSteps := 1000000}) only [↓zvD, zvU, ↓up_apply, ↓hv_apply, ↓upO_some, ↓upO_none, ↓ev_tmp, ↓ev_const, ↓ev_func, ↓ev_global, init, Nat.reduceEqDiff, Nat.reduceAdd, Nat.reduceMul, Nat.reduceSub, ↓reduceIte, Int.reduceEq, Int.reduceNe, Nat.reduceLeDiff, one, Value.cells, Int.reduceLE, Int.reduceLT, Int.reduceToNat, add_mk, reduceCtorEq, tyF, h10, h12c, hi12, hi12']
    have hs7 := hE7.2.2.2.size
    have hT : (l.take 12 ++ tagsB tags outer k).length = 12 + 4 * k := by rw [List.length_append, ht12, tagsB_len]
    refine app_mod (m := l.length - 12) (news := (l.drop 12).map byteV) Try.underlying23 byteE rfl (by omega) ho7 (Cs.advB (hA.more hE7.2.2.2) hc) (by simp) (byteV_one _) (by simp only [maxLen]; omega) (by omega) hs7 ?_
    intro A8 c8 w8 ho8 hmod8 hat8
    have hE8 : TagE w tags outer L b w8 := ⟨hmod8.blk hE7.1 (ho7.not_at hE7.1 (by decide)), hmod8.blk hE7.2.1 (ho7.not_at hE7.2.1 (by decide)), hmod8.blk hE7.2.2.1 (ho7.not_at hE7.2.2.1 (by decide)), Mod.more hE7.2.2.2 hmod8 fun j hj hh => by have := ho7.atB_ge hh; omega⟩
    rw [← List.map_append] at ho8
    have hG : (tagged l tags outer k).length = 12 + 4 * k + (l.length - 12) := by unfold tagged; rw [List.length_append, hT, List.length_drop]
    simp (config := {maxSteps := 1000000}) only [↓zvD, zvU, ↓up_apply, ↓hv_apply, ↓upO_some, ↓upO_none, ↓ev_tmp, ↓ev_const, ↓ev_func, ↓ev_global, init, Nat.reduceEqDiff, Nat.reduceAdd, Nat.reduceMul, Nat.reduceSub, ↓reduceIte, Int.reduceEq, Int.reduceNe, Nat.reduceLeDiff, one, Value.cells, Int.reduceLE, Int.reduceLT, Int.reduceToNat, add_mk, reduceCtorEq, tyF]
    refine call_ok Try.call33 (by have := ether_parse w8 A8 (tagged l tags outer k) c8 ho8.cs (by omega); rw [hG] at this; exact this) ?_
    rintro _ w9 ⟨rfl, hm9⟩
    have hE9 := hE8.more hm9
    have hcases : k = 1 ∨ k = 2 ∨ k = 3 := by omega
    rcases hcases with rfl | rfl | rfl
    · rw [tagged_one hbx hl14 tags outer]
      simp (config := {maxSteps := 1000000}) only [↓zvD, zvU, ↓up_apply, ↓hv_apply, ↓upO_some, ↓upO_none, ↓ev_tmp, ↓ev_const, ↓ev_func, ↓ev_global, init, Nat.reduceEqDiff, Nat.reduceAdd, Nat.reduceMul, Nat.reduceSub, ↓reduceIte, Int.reduceEq, Int.reduceNe, Nat.reduceLeDiff, one, Value.cells, Int.reduceLE, Int.reduceLT, Int.reduceToNat, add_mk, reduceCtorEq, tyF, zerLink]
      refine link_var fun w10 hm10 hb10 _ => ?_
      have hE10 := hE9.more hm10
      have r1 := hb10.all_eq 2 rfl
      have ek : IntKind.i64.wrap (1 + 1) = 1 + 1 := w64 (by omega) (by omega)
      have em : IntKind.i64.wrap (14 + IntKind.i64.wrap (4 * 1)) = 18 := by decide
      simp (config := {maxSteps := 1000000}) only [↓zvD, zvU, ↓up_apply, ↓hv_apply, ↓upO_some, ↓upO_none, ↓ev_tmp, ↓ev_const, ↓ev_func, ↓ev_global, init, Nat.reduceEqDiff, Nat.reduceAdd, Nat.reduceMul, Nat.reduceSub, ↓reduceIte, Int.reduceEq, Int.reduceNe, Nat.reduceLeDiff, one, Value.cells, Int.reduceLE, Int.reduceLT, Int.reduceToNat, add_mk, reduceCtorEq, tyF, h9, hE10.2.2.1.cell, r1, link_build _ _ w, link_ne _ _ _ _ w, em, ek, beq_self_eq_true, Bool.and_self, Bool.true_and]
      refine ⟨⟨?_, 1 + 1, rfl, by omega, by omega, hE10⟩, by simp only [numOf]; omega⟩
      repeat (first | exact Same.hv _ _ _ | refine Same.hvs (by decide) ?_ | refine Same.up (by simp) ?_)
    · rw [tagged_two hbx hl14 tags outer]
      simp (config := {maxSteps := 1000000}) only [↓zvD, zvU, ↓up_apply, ↓hv_apply, ↓upO_some, ↓upO_none, ↓ev_tmp, ↓ev_const, ↓ev_func, ↓ev_global, init, Nat.reduceEqDiff, Nat.reduceAdd, Nat.reduceMul, Nat.reduceSub, ↓reduceIte, Int.reduceEq, Int.reduceNe, Nat.reduceLeDiff, one, Value.cells, Int.reduceLE, Int.reduceLT, Int.reduceToNat, add_mk, reduceCtorEq, tyF, zerLink]
      refine link_var fun w10 hm10 hb10 _ => ?_
      have hE10 := hE9.more hm10
      have r1 := hb10.all_eq 2 rfl
      have ek : IntKind.i64.wrap (2 + 1) = 2 + 1 := w64 (by omega) (by omega)
      have em : IntKind.i64.wrap (14 + IntKind.i64.wrap (4 * 2)) = 22 := by decide
      simp (config := {maxSteps := 1000000}) only [↓zvD, zvU, ↓up_apply, ↓hv_apply, ↓upO_some, ↓upO_none, ↓ev_tmp, ↓ev_const, ↓ev_func, ↓ev_global, init, Nat.reduceEqDiff, Nat.reduceAdd, Nat.reduceMul, Nat.reduceSub, ↓reduceIte, Int.reduceEq, Int.reduceNe, Nat.reduceLeDiff, one, Value.cells, Int.reduceLE, Int.reduceLT, Int.reduceToNat, add_mk, reduceCtorEq, tyF, h9, hE10.2.2.1.cell, r1, link_build _ _ w, link_ne _ _ _ _ w, em, ek, beq_self_eq_true, Bool.and_self, Bool.true_and]
      refine ⟨⟨?_, 2 + 1, rfl, by omega, by omega, hE10⟩, by simp only [numOf]; omega⟩
      repeat (first | exact Same.hv _ _ _ | refine Same.hvs (by decide) ?_ | refine Same.up (by simp) ?_)
    · rw [tagged_three hl14 tags outer]
      simp (config := {maxSteps := 1000000}) only [↓zvD, zvU, ↓up_apply, ↓hv_apply, ↓upO_some, ↓upO_none, ↓ev_tmp, ↓ev_const, ↓ev_func, ↓ev_global, init, Nat.reduceEqDiff, Nat.reduceAdd, Nat.reduceMul, Nat.reduceSub, ↓reduceIte, Int.reduceEq, Int.reduceNe, Nat.reduceLeDiff, one, Value.cells, Int.reduceLE, Int.reduceLT, Int.reduceToNat, add_mk, reduceCtorEq, tyF, zerLink]
      refine link_var fun w10 hm10 hb10 _ => ?_
      have hE10 := hE9.more hm10
      have ek : IntKind.i64.wrap (3 + 1) = 4 := w64 (by omega) (by omega)
      simp (config := {maxSteps := 1000000}) only [↓zvD, zvU, ↓up_apply, ↓hv_apply, ↓upO_some, ↓upO_none, ↓ev_tmp, ↓ev_const, ↓ev_func, ↓ev_global, init, Nat.reduceEqDiff, Nat.reduceAdd, Nat.reduceMul, Nat.reduceSub, ↓reduceIte, Int.reduceEq, Int.reduceNe, Nat.reduceLeDiff, one, Value.cells, Int.reduceLE, Int.reduceLT, Int.reduceToNat, add_mk, reduceCtorEq, tyF, h9, ek]
      refine ⟨⟨?_, 4, rfl, by omega, by omega, hE10⟩, by simp only [numOf]; omega⟩
      repeat (first | exact Same.hv _ _ _ | refine Same.hvs (by decide) ?_ | refine Same.up (by simp) ?_)
end Go.Proofs.Ytejigcfdggkhgaa
