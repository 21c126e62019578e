/-
  Structs and arrays compared: they are equal just if their cells are.
-/
import Derived.Test.YtahcaplhdgphcaaGreatAp
namespace Go.Proofs.RV
open Go Go.RowKit
set_option linter.unusedSimpArgs false
set_option linter.unusedVariables false

def FlatFs (R : TypeId → List Value → Prop) (P : Program) : List Field → Nat → List Value → Prop
  | [], off, cs => cs = []
  | f :: fs, off, cs => f.name ≠ "_" ∧ f.offset = off ∧ ∃ a b, cs = a ++ b ∧ a.length = P.cellsOf f.type ∧ R f.type a ∧ FlatFs R P fs (off + a.length) b
/-- cells of a type that is made of numbers, truth values and texts alone -/
def Flat (P : Program) : Nat → TypeId → List Value → Prop
  | 0, _, _ => False
  | n + 1, T, cs => match P.underlying T with
    | some .bool => ∃ b, cs = [.bool b]
    | some (.int k) => ∃ x, cs = [.int k x]
    | some .string => ∃ s, cs = [.string s]
    | some (.struct fs) => P.stoodInHeld T = false ∧ FlatFs (Flat P n) P fs.toList 0 cs
    | some (.array m e) => P.cellsOf e ≠ 0 ∧ ∃ cc : List (List Value), cc.length = m ∧ cs = cc.flatten ∧ ∀ c ∈ cc, c.length = P.cellsOf e ∧ Flat P n e c
    | _ => False
/-- the value of these cells -/
def tv (P : Program) (T : TypeId) (cs : List Value) : Value := match P.underlying T with
  | some (.struct _) => .agg cs.toArray
  | some (.array _ _) => .agg cs.toArray
  | _ => cs.headD undef
section
variable {P : Program}
theorem part_run {T : TypeId} {n : Nat} {pre a b : List Value} (h : Flat P n T a) (hl : a.length = P.cellsOf T) (w : World) : (part T (pre ++ (a ++ b)).toArray pre.length).run P w = .ok (tv P T a) w := by
  have one : ∀ d, P.underlying T = some d → aggD d = false → (∃ v, a = [v] ∧ tv P T a = v) → (part T (pre ++ (a ++ b)).toArray pre.length).run P w = .ok (tv P T a) w := by
    rintro d hd hag ⟨v, rfl, hv⟩
    unfold part
    rw [Sem.run_bind, isAgg_run hd, hag]
    simp [hv]
  have many : ∀ d, P.underlying T = some d → aggD d = true → tv P T a = .agg a.toArray → (part T (pre ++ (a ++ b)).toArray pre.length).run P w = .ok (tv P T a) w := by
    intro d hd hag hv
    unfold part
    rw [Sem.run_bind, isAgg_run hd, hag]
    simp only [Result.andThen_ok, if_true]
    rw [Sem.run_bind, size_run hd]
    simp only [Result.andThen_ok, Sem.run_pure]
    rw [hv]
    congr 2
    rw [← hl]
    simp
  cases n with
  | zero => exact h.elim
  | succ n =>
    unfold Flat at h
    split at h
    · rename_i hd
      obtain ⟨x, rfl⟩ := h
      exact one _ hd rfl ⟨_, rfl, by simp [tv, hd]⟩
    · rename_i hd
      obtain ⟨x, rfl⟩ := h
      exact one _ hd rfl ⟨_, rfl, by simp [tv, hd]⟩
    · rename_i hd
      obtain ⟨x, rfl⟩ := h
      exact one _ hd rfl ⟨_, rfl, by simp [tv, hd]⟩
    · rename_i hd
      exact many _ hd rfl (by simp [tv, hd])
    · rename_i hd
      exact many _ hd rfl (by simp [tv, hd])
    · exact h.elim
open Classical in
theorem eq_chunks {w : World} (xs ys : List (List Value)) (hl : xs.length = ys.length) (f : Nat → Option Bool × Unit → Sem (ForInStep (Option Bool × Unit)))
    (hf : ∀ j x y b, xs[j]? = some x → ys[j]? = some y → (f j b).run P w = .ok (if x = y then .yield (none, ()) else .done (some false, ())) w) :
    ∀ (k i : Nat), i + k = xs.length → (forIn (List.range' i k 1) (none, ()) f).run P w = .ok (if xs.drop i = ys.drop i then (none, ()) else (some false, ())) w
  | 0, i, h => by
    rw [List.drop_eq_nil_of_le (by omega), List.drop_eq_nil_of_le (by omega)]
    simp
  | k + 1, i, h => by
    have hx : i < xs.length := by omega
    have hy : i < ys.length := by omega
    rw [List.range'_succ, List.forIn_cons, Sem.run_bind, hf i _ _ _ (List.getElem?_eq_getElem hx) (List.getElem?_eq_getElem hy)]
    rw [List.drop_eq_getElem_cons hx, List.drop_eq_getElem_cons hy]
    by_cases hxy : xs[i] = ys[i]
    · rw [if_pos hxy]
      simp only [Result.andThen_ok]
      rw [eq_chunks xs ys hl f hf k (i + 1) (by omega), hxy]
      simp only [List.cons.injEq, true_and]
    · rw [if_neg hxy, if_neg (fun hh => hxy (List.cons.inj hh).1)]
      simp only [Result.andThen_ok, Sem.run_pure]
theorem flatten_inj {s : Nat} : ∀ (xs ys : List (List Value)), xs.length = ys.length → (∀ c ∈ xs, c.length = s) → (∀ c ∈ ys, c.length = s) → xs.flatten = ys.flatten → xs = ys
  | [], [], _, _, _, _ => rfl
  | [], _ :: _, h, _, _, _ => by simp at h
  | _ :: _, [], h, _, _, _ => by simp at h
  | x :: xs, y :: ys, h, hx, hy, he => by
    simp only [List.flatten_cons] at he
    have h1 : x.length = y.length := by rw [hx x (by simp), hy y (by simp)]
    obtain ⟨e1, e2⟩ := List.append_inj he h1
    rw [e1, flatten_inj xs ys (by simpa using h) (fun c hc => hx c (by simp [hc])) (fun c hc => hy c (by simp [hc])) e2]
theorem flatten_cut {s : Nat} : ∀ (xs : List (List Value)) (j : Nat) (x : List Value), (∀ c ∈ xs, c.length = s) → xs[j]? = some x → ∃ pre b, xs.flatten = pre ++ (x ++ b) ∧ pre.length = j * s
  | [], j, x, _, h => by simp at h
  | c :: xs, 0, x, hx, h => by
    simp only [List.getElem?_cons_zero, Option.some.injEq] at h
    subst h
    exact ⟨[], xs.flatten, by simp, by simp⟩
  | c :: xs, j + 1, x, hx, h => by
    obtain ⟨pre, b, h1, h2⟩ := flatten_cut xs j x (fun c hc => hx c (by simp [hc])) (by simpa using h)
    refine ⟨c ++ pre, b, by simp [h1], ?_⟩
    rw [List.length_append, h2, hx c (by simp), Nat.succ_mul, Nat.add_comm]
open Classical in
theorem eq_flat : ∀ (n : Nat) (T : TypeId) (xs ys : List Value) (d : Nat), Flat P n T xs → Flat P n T ys → n ≤ d → ∀ w, (Op.equalIn d T (tv P T xs) (tv P T ys)).run P w = .ok (decide (xs = ys)) w
  | 0, T, xs, ys, d, hx, _, _, _ => hx.elim
  | n + 1, T, xs, ys, 0, _, _, hd, _ => by omega
  | n + 1, T, xs, ys, d + 1, hx, hy, hd, w => by
    unfold Flat at hx hy
    split at hx
    · rename_i hT
      rw [hT] at hy
      obtain ⟨p, rfl⟩ := hx
      obtain ⟨q, rfl⟩ := hy
      simp only [tv, hT, List.headD_cons]
      unfold Op.equalIn
      simp [run_un hT]
      cases p <;> cases q <;> rfl
    · rename_i k hT
      rw [hT] at hy
      obtain ⟨p, rfl⟩ := hx
      obtain ⟨q, rfl⟩ := hy
      simp only [tv, hT, List.headD_cons]
      rw [run_equalIn_int w d T k k p q hT]
      congr 1
      by_cases h : p = q
      · subst h; simp
      · simp [h]
    · rename_i hT
      rw [hT] at hy
      obtain ⟨p, rfl⟩ := hx
      obtain ⟨q, rfl⟩ := hy
      simp only [tv, hT, List.headD_cons]
      unfold Op.equalIn
      simp [run_un hT]
      rw [beq_toListBytes]
      by_cases h : p = q
      · subst h; simp
      · have : ¬ p.toList = q.toList := fun hh => h (by
          rw [ByteArray.toList_eq, ByteArray.toList_eq] at hh
          obtain ⟨⟨x⟩⟩ := p
          obtain ⟨⟨y⟩⟩ := q
          simp at hh
          subst hh
          rfl)
        simp [h, this]
    · rename_i fs hT
      rw [hT] at hy
      obtain ⟨hp, hx⟩ := hx
      obtain ⟨_, hy⟩ := hy
      have hfs : P.fieldsOf T = fs := by simp [Program.fieldsOf, hT]
      simp only [tv, hT]
      rw [run_equalIn_struct w d T _ _ (by rw [hfs]; exact hT) hp, hfs]
      have key : ∀ (l : List Field) (off : Nat) (px py xs ys : List Value), px.length = off → py.length = off → FlatFs (Flat P n) P l off xs → FlatFs (Flat P n) P l off ys →
          (Op.eqFields d (px ++ xs).toArray (py ++ ys).toArray l).run P w = .ok (decide (xs = ys)) w := by
        intro l
        induction l with
        | nil =>
          rintro off px py xs ys _ _ rfl rfl
          simp [Op.eqFields]
        | cons f l ih =>
          rintro off px py _ _ hpx hpy ⟨hn, ho, a, b, rfl, hla, ha, hb⟩ ⟨_, _, a', b', rfl, hla', ha', hb'⟩
          unfold Op.eqFields
          rw [if_pos hn, ho, Sem.run_bind]
          conv => lhs; rw [← hpx]
          rw [part_run ha hla]
          simp only [Result.andThen_ok]
          rw [Sem.run_bind, hpx]
          conv => lhs; rw [← hpy]
          rw [part_run ha' hla']
          simp only [Result.andThen_ok]
          rw [Sem.run_bind, eq_flat n f.type a a' d ha ha' (by omega)]
          simp only [Result.andThen_ok]
          by_cases h : a = a'
          · subst h
            simp only [decide_true, Bool.not_true, Bool.false_eq_true, if_false, List.append_cancel_left_eq]
            have := ih (off + a.length) (px ++ a) (py ++ a) b b' (by simp [hpx]) (by simp [hpy]) hb hb'
            rw [List.append_assoc, List.append_assoc] at this
            exact this
          · have h2 : ¬ a ++ b = a' ++ b' := fun hh => h (List.append_inj hh (by omega)).1
            simp [h, h2]
      simpa using key fs.toList 0 [] [] xs ys rfl rfl hx hy
    · rename_i m e hT
      rw [hT] at hy
      obtain ⟨h0, cx, hlx, rfl, hcx⟩ := hx
      obtain ⟨_, cy, hly, rfl, hcy⟩ := hy
      simp only [tv, hT]
      unfold Op.equalIn
      rw [Sem.run_bind, run_underlying hT]
      simp only [Result.andThen_ok]
      rw [Sem.run_bind, size_run' h0]
      simp only [Result.andThen_ok]
      rw [Sem.run_bind, Std.Legacy.Range.forIn_eq_forIn_range']
      simp only [Std.Legacy.Range.size, Nat.sub_zero, Nat.add_sub_cancel, Nat.div_one]
      rw [eq_chunks cx cy (by omega) _ ?_ m 0 (by omega)]
      · by_cases h : cx = cy
        · subst h; simp
        · have : ¬ cx.flatten = cy.flatten := fun hh => h (flatten_inj cx cy (by omega) (fun c hc => (hcx c hc).1) (fun c hc => (hcy c hc).1) hh)
          simp [h, this]
      · intro j x y b h2 h3
        obtain ⟨p1, b1, e1, l1⟩ := flatten_cut cx j x (fun c hc => (hcx c hc).1) h2
        obtain ⟨p2, b2, e2, l2⟩ := flatten_cut cy j y (fun c hc => (hcy c hc).1) h3
        have fx := hcx x (List.mem_of_getElem? h2)
        have fy := hcy y (List.mem_of_getElem? h3)
        have r1 := part_run (pre := p1) (b := b1) fx.2 fx.1 w
        have r2 := part_run (pre := p2) (b := b2) fy.2 fy.1 w
        rw [← e1, l1] at r1
        rw [← e2, l2] at r2
        rw [Sem.run_bind, r1]
        simp only [Result.andThen_ok]
        rw [Sem.run_bind, r2]
        simp only [Result.andThen_ok]
        rw [Sem.run_bind, eq_flat n e x y d fx.2 fy.2 (by omega)]
        simp only [Result.andThen_ok]
        by_cases h : x = y
        · subst h; simp
        · simp [h]
    · exact hx.elim
open Classical in
theorem eql_flat {T : TypeId} {n : Nat} {xs ys : List Value} (hg : P.eqGuardType P.depth T = false) (hT : tv P T xs = .agg xs.toArray ∧ tv P T ys = .agg ys.toArray) (hx : Flat P n T xs) (hy : Flat P n T ys) (hn : n ≤ 10000) (w0 : World) (ox oy : Operand) (K : Value → Prop) :
    pureP P (do eqGuard .eql T ox oy (.agg xs.toArray) (.agg ys.toArray); binOp .eql T (.agg xs.toArray) (.agg ys.toArray)) K = K (.bool (decide (xs = ys))) := by
  refine pure_eq (fun w => ?_) w0 K
  rw [Sem.run_bind, run_eqGuard_agg w _ _ _ _ _ _ hg]
  simp only [Result.andThen_ok]
  have := eq_flat n T xs ys 10000 hx hy hn w
  rw [hT.1, hT.2] at this
  rw [run_eql_struct, this]
  rfl
open Classical in
theorem neq_flat {T : TypeId} {n : Nat} {xs ys : List Value} (hg : P.eqGuardType P.depth T = false) (hT : tv P T xs = .agg xs.toArray ∧ tv P T ys = .agg ys.toArray) (hx : Flat P n T xs) (hy : Flat P n T ys) (hn : n ≤ 10000) (w0 : World) (ox oy : Operand) (K : Value → Prop) :
    pureP P (do eqGuard .neq T ox oy (.agg xs.toArray) (.agg ys.toArray); binOp .neq T (.agg xs.toArray) (.agg ys.toArray)) K = K (.bool (!decide (xs = ys))) := by
  refine pure_eq (fun w => ?_) w0 K
  rw [Sem.run_bind, run_eqGuard_agg w _ _ _ _ _ _ hg]
  simp only [Result.andThen_ok]
  have := eq_flat n T xs ys 10000 hx hy hn w
  rw [hT.1, hT.2] at this
  rw [run_neq_struct, this]
  rfl
theorem flat_bytes {T e : TypeId} {n m : Nat} {l : List UInt8} (hT : P.underlying T = some (.array m e)) (he : P.underlying e = some (.int .u8)) (h1 : P.cellsOf e = 1) (hl : l.length = m) : Flat P (n + 2) T (l.map byteV) := by
  unfold Flat
  rw [hT]
  refine ⟨by omega, l.map fun b => [byteV b], by simpa using hl, ?_, ?_⟩
  · have : ∀ l : List UInt8, l.map byteV = (l.map fun b => [byteV b]).flatten := by
      intro l
      induction l with
      | nil => rfl
      | cons b l ih => simp [ih]
    exact this l
  · intro c hc
    obtain ⟨b, _, rfl⟩ := List.mem_map.1 hc
    refine ⟨by simp [h1], ?_⟩
    unfold Flat
    rw [he]
    exact ⟨_, rfl⟩
theorem flat_bool {T : TypeId} {n : Nat} (hT : P.underlying T = some .bool) (b : Bool) : Flat P (n + 1) T [.bool b] := by unfold Flat; rw [hT]; exact ⟨b, rfl⟩
theorem flat_int {T : TypeId} {n : Nat} {k : IntKind} (hT : P.underlying T = some (.int k)) (x : Int) : Flat P (n + 1) T [.int k x] := by unfold Flat; rw [hT]; exact ⟨x, rfl⟩
theorem flat_struct {T : TypeId} {n : Nat} {fs : Array Field} {cs : List Value} (hT : P.underlying T = some (.struct fs)) (hp : P.stoodInHeld T = false) (h : FlatFs (Flat P n) P fs.toList 0 cs) : Flat P (n + 1) T cs := by unfold Flat; rw [hT]; exact ⟨hp, h⟩
end
end Go.Proofs.RV
