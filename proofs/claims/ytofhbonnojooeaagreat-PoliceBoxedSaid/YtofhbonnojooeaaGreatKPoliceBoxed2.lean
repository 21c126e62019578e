/-
  Texts that the law stands on, part 2.
-/
import Derived.Test.YtofhbonnojooeaaGreatKPoliceBoxed1
import Derived.Laws.OwnMore
import Derived.Maps.AppendAt
import Derived.Deep.AppendLies
namespace Go.Proofs.RV
open Go Go.RowKit
set_option linter.unusedSimpArgs false

def binding (o : Oper) : List Nat := o.after.toList.filterMap fun e => if Region.binds .any e = true then some e.on else none
def slotsOf (o : Oper) : List Nat := o.op.operands.toList.filterMap fun | .tmp t => some t | _ => none
def guardSlot (ops : Array Oper) (o : Oper) : List Nat := match o.guard with | some (j, _) => (match (ops[j]?).bind (·.dst) with | some t => [t] | none => []) | none => []
def isSelect : Op → Bool
  | .select _ _ => true
  | _ => false
def okD (ops : Array Oper) (D : List (List Nat)) : Bool :=
  (List.range ops.size).all fun i => ((ops[i]?).map fun o =>
    (D.getD i []).all (fun x => decide (x < i) && ((binding o).contains x || (binding o).any fun j => (D.getD j []).contains x)) &&
    (binding o).all (fun x => (D.getD i []).contains x) &&
    !isSelect o.op &&
    (slotsOf o ++ guardSlot ops o).all (fun s => (List.range ops.size).all fun k => ((ops[k]?).map fun q => !(q.dst == some s) || (D.getD i []).contains k || (D.getD k []).contains i).getD true) &&
    (List.range ops.size).all (fun k => k == i || ((ops[k]?).map fun q => q.dst.isNone || !(q.dst == o.dst)).getD true)).getD false

structure OkD (ops : Array Oper) (D : List (List Nat)) : Prop where
  lt : ∀ (i : Nat) (o : Oper), ops[i]? = some o → ∀ x ∈ D.getD i [], x < i
  dep : ∀ (i : Nat) (o : Oper), ops[i]? = some o → ∀ x ∈ D.getD i [], x ∈ binding o ∨ ∃ j ∈ binding o, x ∈ D.getD j []
  bind : ∀ (i : Nat) (o : Oper), ops[i]? = some o → ∀ x ∈ binding o, x ∈ D.getD i []
  sel : ∀ (i : Nat) (o : Oper), ops[i]? = some o → isSelect o.op = false
  read : ∀ (i : Nat) (o : Oper), ops[i]? = some o → ∀ s ∈ slotsOf o ++ guardSlot ops o, ∀ (k : Nat) (q : Oper), ops[k]? = some q → q.dst = some s → k ∈ D.getD i [] ∨ i ∈ D.getD k []
  dst : ∀ (i : Nat) (o : Oper) (k : Nat) (q : Oper), ops[i]? = some o → ops[k]? = some q → k ≠ i → ∀ s, o.dst = some s → q.dst ≠ some s

theorem okD_spec {ops : Array Oper} {D : List (List Nat)} (h : okD ops D = true) : OkD ops D := by
  unfold okD at h
  rw [List.all_eq_true] at h
  have lt_of : ∀ (i : Nat) (o : Oper), ops[i]? = some o → i ∈ List.range ops.size := fun i o ho => by
    rw [List.mem_range]
    exact (Array.getElem?_eq_some_iff.1 ho).1
  have key : ∀ (i : Nat) (o : Oper), ops[i]? = some o → _ := fun i o ho => by
    have := h i (lt_of i o ho)
    rw [ho] at this
    simp only [Option.map_some, Option.getD_some, Bool.and_eq_true] at this
    exact this
  refine ⟨?_, ?_, ?_, ?_, ?_, ?_⟩
  · intro i o ho x hx
    have := (key i o ho).1.1.1.1
    rw [List.all_eq_true] at this
    have := this x hx
    simp only [Bool.and_eq_true, decide_eq_true_eq] at this
    exact this.1
  · intro i o ho x hx
    have := (key i o ho).1.1.1.1
    rw [List.all_eq_true] at this
    have := this x hx
    simp only [Bool.and_eq_true, Bool.or_eq_true, List.any_eq_true, List.contains_iff_mem] at this
    exact this.2
  · intro i o ho x hx
    have := (key i o ho).1.1.1.2
    rw [List.all_eq_true] at this
    simpa using this x hx
  · intro i o ho
    have := (key i o ho).1.1.2
    simpa using this
  · intro i o ho s hs k q hk hd
    have := (key i o ho).1.2
    rw [List.all_eq_true] at this
    have := this s hs
    rw [List.all_eq_true] at this
    have := this k (lt_of k q hk)
    rw [hk] at this
    simp only [Option.map_some, Option.getD_some, Bool.or_eq_true, List.contains_iff_mem, hd, beq_self_eq_true, Bool.not_true, Bool.false_eq_true, false_or] at this
    exact this
  · intro i o k q ho hk hne s hs
    have := (key i o ho).2
    rw [List.all_eq_true] at this
    have := this k (lt_of k q hk)
    rw [hk] at this
    simp only [Option.map_some, Option.getD_some, Bool.or_eq_true, beq_iff_eq, hne, false_or] at this
    intro hq
    rw [hq, hs] at this
    simp at this

theorem execOp_congr {o : Oper} (hs : isSelect o.op = false) {ρ ρ' : Operand → Value} (h : ∀ x ∈ o.op.operands.toList, ρ x = ρ' x) : execOp ρ o = execOp ρ' o := by
  obtain ⟨dst, op, ty, pos, aft, gd⟩ := o
  have m : ∀ (xs : Array Operand), (∀ x ∈ xs.toList, ρ x = ρ' x) → xs.map ρ = xs.map ρ' := fun xs hx => by
    apply Array.map_congr_left
    intro x hm
    exact hx x (by simpa using hm)
  cases op with
  | select cs b => simp [isSelect] at hs
  | call c =>
    obtain ⟨callee, args, tys⟩ := c
    have ha : args.map ρ = args.map ρ' := m args (fun x hx => h x (by cases callee <;> simp [Op.operands, Call.operands] <;> first | exact .inr (by simpa using hx) | simpa using hx))
    cases callee <;> simp only [execOp, resolve, ha] <;> first | rfl | (rw [h _ (by simp [Op.operands, Call.operands])])
  | go c =>
    obtain ⟨callee, args, tys⟩ := c
    have ha : args.map ρ = args.map ρ' := m args (fun x hx => h x (by cases callee <;> simp [Op.operands, Call.operands] <;> first | exact .inr (by simpa using hx) | simpa using hx))
    cases callee <;> simp only [execOp, resolve, ha] <;> first | rfl | (rw [h _ (by simp [Op.operands, Call.operands])])
  | defer c =>
    obtain ⟨callee, args, tys⟩ := c
    have ha : args.map ρ = args.map ρ' := m args (fun x hx => h x (by cases callee <;> simp [Op.operands, Call.operands] <;> first | exact .inr (by simpa using hx) | simpa using hx))
    cases callee <;> simp only [execOp, resolve, ha] <;> first | rfl | (rw [h _ (by simp [Op.operands, Call.operands])])
  | build T ps =>
    have : (ps.map fun (i, x) => (i, ρ x)) = ps.map fun (i, x) => (i, ρ' x) := by
      apply Array.map_congr_left
      rintro ⟨i, x⟩ hm
      simp only [Prod.mk.injEq, true_and]
      exact h x (by simp only [Op.operands, List.mem_map]; exact ⟨(i, x), by simpa using hm, rfl⟩)
    simp only [execOp, this]
  | buildSlice T n ps =>
    have : (ps.map fun (i, x) => (i, ρ x)) = ps.map fun (i, x) => (i, ρ' x) := by
      apply Array.map_congr_left
      rintro ⟨i, x⟩ hm
      simp only [Prod.mk.injEq, true_and]
      exact h x (by simp only [Op.operands, List.mem_map]; exact ⟨(i, x), by simpa using hm, rfl⟩)
    simp only [execOp, this]
  | makeFunc fn a c =>
    have h1 := m a (fun x hx => h x (by simp [Op.operands]; exact .inl (by simpa using hx)))
    have h2 := m c (fun x hx => h x (by simp [Op.operands]; exact .inr (by simpa using hx)))
    simp only [execOp, h1, h2]
  | makeMap T r =>
    cases r with
    | none => rfl
    | some x => simp only [execOp, Option.map_some, h x (by simp [Op.operands])]
  | slice T x lo hi mx =>
    have h0 := h x (by simp [Op.operands])
    have h1 : lo.map ρ = lo.map ρ' := by cases lo with | none => rfl | some y => simp only [Option.map_some, h y (by simp [Op.operands])]
    have h2 : hi.map ρ = hi.map ρ' := by cases hi with | none => rfl | some y => simp only [Option.map_some, h y (by simp [Op.operands])]
    have h3 : mx.map ρ = mx.map ρ' := by cases mx with | none => rfl | some y => simp only [Option.map_some, h y (by simp [Op.operands])]
    simp only [execOp, h0, h1, h2, h3]
  | _ =>
    simp only [Op.operands, List.mem_cons, List.not_mem_nil, or_false, forall_eq_or_imp, forall_eq] at h
    first
      | rfl
      | (simp only [execOp, h])
      | (obtain ⟨h1, h2⟩ := h; simp only [execOp, h1, h2])
      | (obtain ⟨h1, h2, h3⟩ := h; simp only [execOp, h1, h2, h3])

def opV (P : Program) (B : Nat) (o : Oper) (e : Env) (w : World) (K : Value → Prop) : Prop :=
  (match o.op with | .call ⟨.value _, _, _⟩ => False | _ => True) ∧ opQ P B o e w K
def nz (o : Oper) (v : Value) : Value := match o.dst with | some _ => v | none => undef
def vc (P : Program) (B : Nat) (Ext : World → World → Prop) (ops : Array Oper) (D : List (List Nat)) (Phi : Nat → Option (Value → World → Prop)) (w0 : World) :
    Nat → List Oper → Env → List (Nat × (World → Prop)) → (Env → World → Prop) → Prop
  | _, [], e, Γ, K => ∀ w', Ext w0 w' → (∀ x ∈ Γ, x.2 w') → K e w'
  | k, o :: r, e, Γ, K => guardP o.guard ops e
      (fun e => match Phi k with
        | none => opV P B o e w0 fun v => vc P B Ext ops D Phi w0 (k + 1) r (upO e o.dst v) Γ K
        | some Φ => (∀ w1, Ext w0 w1 → (∀ x ∈ Γ, x.1 ∈ D.getD k [] → x.2 w1) → opP P o e w1 fun v w2 => Ext w1 w2 ∧ Φ (nz o v) w2) ∧
            ∀ v, (∃ w', Ext w0 w' ∧ (∀ x ∈ Γ, x.2 w') ∧ Φ v w') → vc P B Ext ops D Phi w0 (k + 1) r (upO e o.dst v) (Γ ++ [(k, Φ v)]) K)
      (fun e => vc P B Ext ops D Phi w0 (k + 1) r (upO e o.dst undef) Γ K)

section
variable {P : Program} {B : Nat}
theorem calls_exists {k : Nat} {args : Array Value} {w : World} {R : Ending → World → Prop} (h : Calls P k args w R) : ∃ e w', R e w' := by
  obtain ⟨e, w', _, h1, _⟩ := h []
  exact ⟨e, w', h1⟩
theorem op_exists {o : Oper} {e : Env} {w : World} {K : Value → World → Prop} (h : opP P o e w K) : ∃ v w', K v w' := by
  have := op_sound h
  unfold Ends at this
  split at this
  · exact ⟨_, _, this⟩
  · exact ⟨_, _, this⟩
  · obtain ⟨en, w', v, _, hk⟩ := calls_exists this
    exact ⟨v, w', hk⟩
  · exact this.elim
def Val (P : Program) (B : Nat) (o : Oper) (ρ : Operand → Value) (w : World) (v : Value) : Prop := ∀ w1, Below B w w1 → (execOp ρ o).run P w1 = .ok (.value v) w1
theorem val_unique {o : Oper} {ρ : Operand → Value} {w : World} {v v' : Value} (h : Val P B o ρ w v) (h' : Val P B o ρ w v') : v = v' := by
  have h1 := h w (Below.refl _ _)
  rw [h' w (Below.refl _ _)] at h1
  injection h1 with h1
  injection h1 with h1
  exact h1.symm
theorem lifted_value {s : Sem Value} {w w' : World} {n : Next} (h : (do pure (.value (← s)) : Sem Next).run P w = .ok n w') : ∃ u, n = .value u := by
  rw [Sem.run_bind] at h
  cases hr : s.run P w with
  | ok a w1 =>
    rw [hr] at h
    simp only [Result.andThen_ok, Sem.run_pure] at h
    injection h with h
    exact ⟨a, h.symm⟩
  | halt x w1 => rw [hr] at h; cases h
theorem opV_sound {o : Oper} {e : Env} {w : World} {K : Value → Prop} (h : opV P B o e w K) : ∃ v, Val P B o (ev e) w v ∧ K v := by
  obtain ⟨hc, h⟩ := h
  obtain ⟨v, h1, h2⟩ := opQ_sound h
  refine ⟨v, fun w1 hb => ?_, h2⟩
  have h3 := h1 w1 hb
  have key : ∀ n w', (execOp (ev e) o).run P w1 = .ok n w' → ∃ u, n = .value u := by
    clear h3
    obtain ⟨dst, op, ty, pos, aft, gd⟩ := o
    intro n w' hr
    cases op with
    | move x => exact ⟨_, by injection hr with hr; exact hr.symm⟩
    | assign x => exact ⟨_, by injection hr with hr; exact hr.symm⟩
    | pick c a b => exact lifted_value (s := do pure (if ← asBool (ev e c) then ev e a else ev e b)) (by simpa [execOp] using hr)
    | nilCheck x =>
      have h : nilCheckP (ev e x) K := h
      unfold nilCheckP at h
      split at h
      · rename_i a ha
        simp only [execOp, ha] at hr
        exact ⟨_, by injection hr with hr; exact hr.symm⟩
      · exact h.elim
    | call c =>
      obtain ⟨callee, args, tys⟩ := c
      cases callee with
      | value f => exact hc.elim
      | builtin b =>
        have h : bltQ P b tys (args.map (ev e)) K := h
        unfold bltQ at h
        split at h
        · exact lifted_value (s := Builtin.len_ tys ty (args.map (ev e))) hr
        · exact lifted_value (s := Builtin.len_ tys ty (args.map (ev e))) hr
        · exact lifted_value (s := Builtin.min_ tys ty (args.map (ev e))) hr
        · exact lifted_value (s := Builtin.max_ tys ty (args.map (ev e))) hr
        · exact h.elim
      | invoke r m => exact h.elim
    | _ => first | exact h.elim | exact lifted_value hr
  generalize (execOp (ev e) o).run P w1 = rr at h3 key ⊢
  unfold Oper.quietUpon at h3
  split at h3
  · obtain ⟨rfl, rfl⟩ := h3; rfl
  · obtain ⟨u, hu⟩ := key _ _ rfl; cases hu
  · obtain ⟨u, hu⟩ := key _ _ rfl; cases hu
  · exact h3.elim

variable {Ext : World → World → Prop} {ops : Array Oper} {D : List (List Nat)} {Phi : Nat → Option (Value → World → Prop)} {e0 : Env} {w0 : World}
def seen (ops : Array Oper) (D : List (List Nat)) (e0 : Env) (j : Nat) (e : Env) : Env := fun s => if (∃ k ∈ D.getD j [], ∃ q, ops[k]? = some q ∧ q.dst = some s) then e s else e0 s
def valOf (o : Oper) (e : Env) : Value := match o.dst with | some d => e d | none => undef
def okv (P : Program) (B : Nat) (ops : Array Oper) (D : List (List Nat)) (Phi : Nat → Option (Value → World → Prop)) (e0 : Env) (w0 : World) (j : Nat) (o : Oper) (e : Env) (w : World) : Prop :=
  guardP o.guard ops (seen ops D e0 j e) (fun _ => match Phi j with
    | none => o.dst = none ∨ Val P B o (ev (seen ops D e0 j e)) w0 (valOf o e)
    | some Φ => Φ (valOf o e) w) (fun _ => valOf o e = undef)

def wants (g : Option (Nat × Bool)) (ops : Array Oper) (e : Env) : Bool :=
  match g with
  | none => true
  | some (j, want) => match (ops[j]?).bind (·.dst) with
    | some t => (match e t with | .bool b => b == want | _ => false)
    | none => false
theorem up_self {e : Env} {t : Nat} {v : Value} (h : e t = v) : up e t v = e := by
  funext s
  unfold up
  split
  · rename_i hs; rw [hs, h]
  · rfl
theorem guard_ite (g : Option (Nat × Bool)) (ops : Array Oper) (e : Env) (A A' : Env → Prop) : guardP g ops e A A' ↔ if wants g ops e = true then A e else A' e := by
  unfold guardP wants
  split
  · simp
  · rename_i j want
    unfold guardV
    cases hj : (ops[j]?).bind (·.dst) with
    | none => simp [hj]
    | some t =>
      simp only [hj]
      unfold guardB
      split
      · rename_i b hb
        by_cases hbw : b = want
        · subst hbw
          simp [up_self hb, hb, hj]
        · have : b = !want := by cases b <;> cases want <;> simp_all
          subst this
          simp [up_self hb, hb, hj]
      · rename_i hnb
        have : (match e t with | .bool b => b == want | _ => false) = false := by
          split
          · rename_i b hb; exact absurd hb (hnb b)
          · rfl
        simp [this, hj]
theorem wanted_eq {n : Nat} {a : Act} {e : Env} (hr : Rep n a e) (o : Oper) : Region.wanted o (yielded ops a.tmps) = wants o.guard ops e := by
  unfold Region.wanted wants
  split
  · rename_i hg; simp [hg]
  · rename_i j want hg
    simp only [hg]
    have hy : yielded ops a.tmps j = match (ops[j]?).bind (·.dst) with | some t => (match e t with | .bool b => some b | _ => none) | none => none := by
      unfold yielded
      cases (ops[j]?).bind (·.dst) with
      | none => rfl
      | some t =>
        obtain ⟨_, hs, rfl⟩ := hr
        simp only [Option.bind_some, Array.getD_eq_getD_getElem?]
        cases a.tmps[t]? with
        | none => rfl
        | some v => cases v <;> rfl
    rw [hy]
    cases (ops[j]?).bind (·.dst) with
    | none => simp
    | some t =>
      simp only
      generalize e t = v
      cases v <;> simp
theorem wants_congr {g : Option (Nat × Bool)} {e e' : Env} (h : ∀ s ∈ (match g with | some (j, _) => (match (ops[j]?).bind (·.dst) with | some t => [t] | none => []) | none => []), e s = e' s) : wants g ops e = wants g ops e' := by
  unfold wants
  split
  · rfl
  · rename_i j want
    simp only at h
    split
    · rename_i t ht
      rw [ht] at h
      rw [h t (by simp)]
    · rfl
theorem op_wp {n : Nat} {a : Act} {e : Env} {o : Oper} {w : World} {K : Value → World → Prop} {next : Act → World → Prop} {Q : Exit → Act → World → Prop} (hr : Rep n a e) (h1 : Ends P ((execOp (ev e) o).run P w) K) (hn : ∀ v w', K v w' → next (a.put o.dst v) w') : o.wp P a w next Q := by
  unfold Oper.wp
  rw [hr.evalf]
  generalize (execOp (ev e) o).run P w = res at h1
  cases res with
  | ok nx w' =>
    cases nx <;> simp only [Ends] at h1 <;> simp only [Oper.upon]
    case value v => exact hn _ _ h1
    case skip => exact hn _ _ h1
    case enter f xs =>
      refine h1.mono ?_
      rintro en w'' ⟨v, rfl, hk⟩
      exact hn _ _ hk
  | halt x w' => exact h1.elim

structure Inv (P : Program) (B : Nat) (Ext : World → World → Prop) (ops : Array Oper) (D : List (List Nat)) (Phi : Nat → Option (Value → World → Prop)) (e0 : Env) (w0 : World) (L : Nat → Bool) (e : Env) (w : World) : Prop where
  ext : Ext w0 w
  old : ∀ s, (∀ (i : Nat) (q : Oper), ops[i]? = some q → q.dst = some s → L i = false) → e s = e0 s
  shut : ∀ (i : Nat) (o : Oper), ops[i]? = some o → L i = true → ∀ x ∈ D.getD i [], L x = true
  okay : ∀ (i : Nat) (o : Oper), ops[i]? = some o → L i = true → okv P B ops D Phi e0 w0 i o e w

theorem seen_dep {L : Nat → Bool} {e : Env} {w : World} (hD : OkD ops D) (hI : Inv P B Ext ops D Phi e0 w0 L e w) {i : Nat} {o : Oper} (ho : ops[i]? = some o) (hi : L i = false) :
    ∀ s ∈ slotsOf o ++ guardSlot ops o, seen ops D e0 i e s = e s := by
  intro s hs
  unfold seen
  split
  · rfl
  · rename_i hno
    refine (hI.old s ?_).symm
    intro k q hk hq
    rcases hD.read i o ho s hs k q hk hq with h | h
    · exact absurd ⟨k, h, q, hk, hq⟩ hno
    · cases hL : L k with
      | false => rfl
      | true =>
        have := hI.shut k q hk hL i h
        rw [hi] at this
        cases this
theorem ev_congr {o : Oper} {e e' : Env} (h : ∀ s ∈ slotsOf o ++ guardSlot ops o, e s = e' s) : ∀ x ∈ o.op.operands.toList, ev e x = ev e' x := by
  intro x hx
  cases x with
  | tmp t => exact h t (List.mem_append_left _ (List.mem_filterMap.2 ⟨.tmp t, hx, rfl⟩))
  | _ => rfl
theorem wants_of {o : Oper} {e e' : Env} (h : ∀ s ∈ slotsOf o ++ guardSlot ops o, e s = e' s) : wants o.guard ops e = wants o.guard ops e' :=
  wants_congr fun s hs => h s (List.mem_append_right _ hs)

def Exec (P : Program) (B : Nat) (Ext : World → World → Prop) (ops : Array Oper) (Phi : Nat → Option (Value → World → Prop)) (w0 : World) (i : Nat) (o : Oper) (e : Env) (w : World) : Prop :=
  wants o.guard ops e = true → match Phi i with
    | none => ∃ v, Val P B o (ev e) w0 v
    | some Φ => Ends P ((execOp (ev e) o).run P w) fun v w2 => Ext w w2 ∧ Φ (nz o v) w2

theorem trav (hD : OkD ops D) (htr : ∀ a b c, Ext a b → Ext b c → Ext a c) (hrf : ∀ a, Ext a a) (hst : ∀ k Φ, Phi k = some Φ → ∀ v a b, Ext a b → Φ v a → Φ v b)
    {L : Nat → Bool} {e : Env} {w : World} (hI : Inv P B Ext ops D Phi e0 w0 L e w) {K : Env → World → Prop}
    {m : Nat} (hLm : ∀ j, m ≤ j → L j = false) :
    ∀ (l : List Oper) (k : Nat) (h : Env) (Γ : List (Nat × (World → Prop))) (wh : World), (∀ j, l[j]? = if k + j < m then ops[k + j]? else none) → k ≤ m → vc P B Ext ops D Phi w0 k l h Γ K →
      (∀ s, (∀ (j : Nat) (q : Oper), j < k → ops[j]? = some q → q.dst ≠ some s) → h s = e0 s) →
      (∀ (j : Nat) (o : Oper), j < k → ops[j]? = some o → L j = true → ∀ d, o.dst = some d → h d = e d) →
      (∀ x ∈ Γ, (x.1 < k ∧ ∃ q : Oper, ops[x.1]? = some q) ∧ x.2 wh ∧ (L x.1 = true → x.2 w) ∧ ∀ a b, Ext a b → x.2 a → x.2 b) → Ext w wh →
      (∀ (i : Nat) (o : Oper), k ≤ i → i < m → ops[i]? = some o → L i = false → (∀ x ∈ D.getD i [], L x = true) → Exec P B Ext ops Phi w0 i o e w) ∧
      ((∀ (j : Nat) (q : Oper), j < m → ops[j]? = some q → L j = true) → K e w)
  | [], k, h, Γ, wh, hl, hkm, hv, t1, t2, t3, hw => by
    have hk : ∀ (j : Nat) (q : Oper), j < m → ops[j]? = some q → j < k := by
      intro j q hjm hq
      rcases Nat.lt_or_ge j k with h1 | h1
      · exact h1
      · have := hl (j - k)
        rw [show k + (j - k) = j by omega, if_pos hjm, hq] at this
        cases this
    refine ⟨fun i o hki him ho => ?_, fun hall => ?_⟩
    · have := hk i o him ho
      omega
    · have he : h = e := by
        funext s
        by_cases hs : ∃ (j : Nat) (q : Oper), j < m ∧ ops[j]? = some q ∧ q.dst = some s
        · obtain ⟨j, q, hjm, hq, hqs⟩ := hs
          exact t2 j q (hk j q hjm hq) hq (hall j q hjm hq) s hqs
        · have h2 : e s = e0 s := hI.old s fun j q hq hqs => by
            rcases Nat.lt_or_ge j m with h1 | h1
            · exact absurd ⟨j, q, h1, hq, hqs⟩ hs
            · exact hLm j h1
          rw [h2]
          refine t1 s fun j q hj hq hqs => ?_
          rcases Nat.lt_or_ge j m with h1 | h1
          · exact hs ⟨j, q, h1, hq, hqs⟩
          · omega
      subst he
      refine hv w hI.ext fun x hx => (t3 x hx).2.2.1 ?_
      obtain ⟨⟨h1, q, hq⟩, _⟩ := t3 x hx
      exact hall _ _ (by omega) hq
  | o :: r, k, h, Γ, wh, hl, hkm, hv, t1, t2, t3, hw => by
    have hokm : k < m ∧ ops[k]? = some o := by simpa using (hl 0).symm
    have hok := hokm.2
    have hkm' : k + 1 ≤ m := hokm.1
    have hl' : ∀ j, r[j]? = if k + 1 + j < m then ops[k + 1 + j]? else none := fun j => by
      have := hl (j + 1)
      rw [show k + (j + 1) = k + 1 + j by omega] at this
      simpa using this
    have hwh : Ext w0 wh := htr _ _ _ hI.ext hw
    -- what k reads is in the walk's frame asv k saw it, if all that it waits for has run
    have hread : (∀ x ∈ D.getD k [], L x = true) → ∀ s ∈ slotsOf o ++ guardSlot ops o, h s = seen ops D e0 k e s := by
      intro hdone s hs
      unfold seen
      split
      · rename_i hyes
        obtain ⟨k', hk', q, hq, hqs⟩ := hyes
        exact t2 k' q (hD.lt k o hok k' hk') hq (hdone k' hk') s hqs
      · rename_i hno
        refine t1 s fun j q hj hq hqs => ?_
        rcases hD.read k o hok s hs j q hq hqs with h1 | h1
        · exact hno ⟨j, h1, q, hq, hqs⟩
        · have := hD.lt j q hq k h1; omega
    -- one step on: the frame with a value v for k
    have step1 : ∀ v, ∀ s, (∀ (j : Nat) (q : Oper), j < k + 1 → ops[j]? = some q → q.dst ≠ some s) → upO h o.dst v s = e0 s := by
      intro v s hs
      have hne := hs k o (by omega) hok
      have h0 := t1 s fun j q hj hq => hs j q (by omega) hq
      cases hd : o.dst with
      | none => simpa [upO] using h0
      | some d =>
        rw [hd] at hne
        simp only [upO, up]
        rw [if_neg (fun h => hne (by rw [h]))]
        exact h0
    have step2 : ∀ v, (L k = true → ∀ d, o.dst = some d → v = e d) → ∀ (j : Nat) (q : Oper), j < k + 1 → ops[j]? = some q → L j = true → ∀ d, q.dst = some d → upO h o.dst v d = e d := by
      intro v hv j q hj hq hLj d hd
      by_cases hjk : j = k
      · subst hjk
        obtain rfl : q = o := by rw [hq] at hok; injection hok
        have hv1 : v = e d := hv hLj d hd
        rw [hd]
        simp [upO, up, hv1]
      · have h0 := t2 j q (by omega) hq hLj d hd
        cases hdo : o.dst with
        | none => simpa [upO] using h0
        | some d' =>
          have hne : d ≠ d' := fun hh => hD.dst k o j q hok hq hjk d' hdo (by rw [hd, hh])
          simp only [upO, up]
          rw [if_neg hne]
          exact h0
    have mono3 : ∀ x ∈ Γ, (x.1 < k + 1 ∧ ∃ q : Oper, ops[x.1]? = some q) ∧ x.2 wh ∧ (L x.1 = true → x.2 w) ∧ ∀ a b, Ext a b → x.2 a → x.2 b := fun x hx => by
      obtain ⟨⟨h1, h2⟩, h3⟩ := t3 x hx
      exact ⟨⟨by omega, h2⟩, h3⟩
    unfold vc at hv
    rw [guard_ite] at hv
    cases hLk : L k with
    | true =>
      have hdone := hI.shut k o hok hLk
      have hrd := hread hdone
      have hw1 : wants o.guard ops h = wants o.guard ops (seen ops D e0 k e) := wants_of hrd
      have hokv := hI.okay k o hok hLk
      unfold okv at hokv
      rw [guard_ite, ← hw1] at hokv
      have back : (∀ (i : Nat) (o' : Oper), k + 1 ≤ i → i < m → ops[i]? = some o' → L i = false → (∀ x ∈ D.getD i [], L x = true) → Exec P B Ext ops Phi w0 i o' e w) ∧ ((∀ (j : Nat) (q : Oper), j < m → ops[j]? = some q → L j = true) → K e w) →
          (∀ (i : Nat) (o' : Oper), k ≤ i → i < m → ops[i]? = some o' → L i = false → (∀ x ∈ D.getD i [], L x = true) → Exec P B Ext ops Phi w0 i o' e w) ∧ ((∀ (j : Nat) (q : Oper), j < m → ops[j]? = some q → L j = true) → K e w) := by
        rintro ⟨b1, b2⟩
        refine ⟨fun i o' hki him ho' hLi => ?_, b2⟩
        by_cases hik : i = k
        · subst hik; rw [hLk] at hLi; cases hLi
        · exact b1 i o' (by omega) him ho' hLi
      refine back ?_
      by_cases hwant : wants o.guard ops h = true
      · rw [if_pos hwant] at hv hokv
        cases hp : Phi k with
        | none =>
          simp only [hp] at hv hokv
          obtain ⟨v, hval, hv⟩ := opV_sound hv
          have hvv : ∀ d, o.dst = some d → v = e d := by
            intro d hd
            rcases hokv with hokv | hokv
            · rw [hokv] at hd; cases hd
            · have hval' : Val P B o (ev h) w0 (valOf o e) := by
                intro w1 hb
                rw [execOp_congr (hD.sel k o hok) (ev_congr (ops := ops) hrd)]
                exact hokv w1 hb
              rw [val_unique hval hval']
              unfold valOf
              rw [hd]
          exact trav hD htr hrf hst hI hLm r (k + 1) _ Γ wh hl' hkm' hv (step1 v) (step2 v fun _ => hvv) mono3 hw
        | some Φ =>
          simp only [hp] at hv hokv
          refine trav hD htr hrf hst hI hLm r (k + 1) _ _ wh hl' hkm' (hv.2 (valOf o e) ⟨wh, hwh, fun x hx => (t3 x hx).2.1, hst k Φ hp _ _ _ hw hokv⟩) (step1 _) (step2 _ fun _ d hd => by unfold valOf; rw [hd]) ?_ hw
          intro x hx
          rcases List.mem_append.1 hx with hx | hx
          · exact mono3 x hx
          · obtain rfl := List.mem_singleton.1 hx
            exact ⟨⟨by simp, o, hok⟩, hst k Φ hp _ _ _ hw hokv, fun _ => hokv, fun a b hab hh => hst k Φ hp _ _ _ hab hh⟩
      · rw [if_neg hwant] at hv hokv
        exact trav hD htr hrf hst hI hLm r (k + 1) _ Γ wh hl' hkm' hv (step1 _) (step2 _ fun _ d hd => by unfold valOf at hokv; rw [hd] at hokv; exact hokv.symm) mono3 hw
    | false =>
      have here : (∀ x ∈ D.getD k [], L x = true) → Exec P B Ext ops Phi w0 k o e w := by
        intro hdone hwant
        have hrd : ∀ s ∈ slotsOf o ++ guardSlot ops o, h s = e s := fun s hs => (hread hdone s hs).trans (seen_dep hD hI hok hLk s hs)
        rw [← wants_of hrd] at hwant
        rw [if_pos hwant] at hv
        have hex : execOp (ev h) o = execOp (ev e) o := execOp_congr (hD.sel k o hok) (ev_congr (ops := ops) hrd)
        cases hp : Phi k with
        | none =>
          simp only [hp] at hv
          obtain ⟨v, hval, _⟩ := opV_sound hv
          refine ⟨v, fun w1 hb => ?_⟩
          rw [← hex]
          exact hval w1 hb
        | some Φ =>
          simp only [hp] at hv
          show Ends P ((execOp (ev e) o).run P w) fun v w2 => Ext w w2 ∧ Φ (nz o v) w2
          rw [← hex]
          exact op_sound (hv.1 w hI.ext fun x hx hxd => (t3 x hx).2.2.1 (hdone _ hxd))
      have back : (∀ (i : Nat) (o' : Oper), k + 1 ≤ i → i < m → ops[i]? = some o' → L i = false → (∀ x ∈ D.getD i [], L x = true) → Exec P B Ext ops Phi w0 i o' e w) ∧ ((∀ (j : Nat) (q : Oper), j < m → ops[j]? = some q → L j = true) → K e w) →
          (∀ (i : Nat) (o' : Oper), k ≤ i → i < m → ops[i]? = some o' → L i = false → (∀ x ∈ D.getD i [], L x = true) → Exec P B Ext ops Phi w0 i o' e w) ∧ ((∀ (j : Nat) (q : Oper), j < m → ops[j]? = some q → L j = true) → K e w) := by
        rintro ⟨b1, b2⟩
        refine ⟨fun i o' hki him ho' hLi hdone => ?_, b2⟩
        by_cases hik : i = k
        · subst hik
          obtain rfl : o' = o := by rw [ho'] at hok; injection hok
          exact here hdone
        · exact b1 i o' (by omega) him ho' hLi hdone
      refine back ?_
      by_cases hwant : wants o.guard ops h = true
      · rw [if_pos hwant] at hv
        cases hp : Phi k with
        | none =>
          simp only [hp] at hv
          obtain ⟨v, _, hv⟩ := opV_sound hv
          exact trav hD htr hrf hst hI hLm r (k + 1) _ Γ wh hl' hkm' hv (step1 v) (step2 v fun hh => by rw [hLk] at hh; cases hh) mono3 hw
        | some Φ =>
          simp only [hp] at hv
          obtain ⟨v, w2, hx2, hphi⟩ := op_exists (hv.1 wh hwh fun x hx _ => (t3 x hx).2.1)
          refine trav hD htr hrf hst hI hLm r (k + 1) _ _ w2 hl' hkm' (hv.2 _ ⟨w2, htr _ _ _ hwh hx2, fun x hx => (t3 x hx).2.2.2 _ _ hx2 (t3 x hx).2.1, hphi⟩) (step1 _) (step2 _ fun hh => by rw [hLk] at hh; cases hh) ?_ (htr _ _ _ hw hx2)
          intro x hx
          rcases List.mem_append.1 hx with hx | hx
          · obtain ⟨h1, h2, h3, h4⟩ := mono3 x hx
            exact ⟨h1, h4 _ _ hx2 h2, h3, h4⟩
          · obtain rfl := List.mem_singleton.1 hx
            exact ⟨⟨by simp, o, hok⟩, hphi, fun hh => (by simp only at hh; rw [hLk] at hh; cases hh), fun a b hab hh => hst k Φ hp _ _ _ hab hh⟩
      · rw [if_neg hwant] at hv
        exact trav hD htr hrf hst hI hLm r (k + 1) _ Γ wh hl' hkm' hv (step1 _) (step2 _ fun hh => by rw [hLk] at hh; cases hh) mono3 hw

theorem set_get {listed : Array Bool} {i j : Nat} (hi : i < listed.size) : (listed.setIfInBounds i true).getD j false = if j = i then true else listed.getD j false := by
  simp only [Array.getD_eq_getD_getElem?, Array.getElem?_setIfInBounds]
  by_cases h : i = j
  · subst h; simp [hi]
  · rw [if_neg h, if_neg (fun hh => h hh.symm)]
theorem seen_put {o : Oper} {i j : Nat} {e : Env} {v : Value} (hD : OkD ops D) (ho : ops[i]? = some o) (hij : i ∉ D.getD j []) : seen ops D e0 j (upO e o.dst v) = seen ops D e0 j e := by
  funext s
  unfold seen
  split
  · rename_i h
    obtain ⟨k, hk, q, hq, hqs⟩ := h
    cases hd : o.dst with
    | none => rfl
    | some d =>
      simp only [upO, up]
      rw [if_neg ?_]
      rintro rfl
      by_cases hki : k = i
      · subst hki; exact hij hk
      · exact hD.dst i o k q ho hq hki _ hd hqs
  · rfl
theorem tail_any (hD : OkD ops D) {n m : Nat} (hT : ∀ (i : Nat) (o : Oper), ops[i]? = some o → m ≤ i → ∀ j, j < i → j ∈ D.getD i []) {K : Env → World → Prop} {Q : Exit → Act → World → Prop} (hn : ∀ o ∈ ops, ∀ t, o.dst = some t → t < n)
    (hQ : ∀ a e w, Rep n a e → K e w → Q .normal a w) : ∀ (l : List Oper) (k fuel : Nat) (listed : Array Bool) (a : Act) (e : Env) (w : World), m ≤ k → (∀ j, l[j]? = ops[k + j]?) → listed.size = ops.size →
      (∀ j, j < ops.size → listed.getD j false = decide (j < k)) → k + l.length = ops.size → l.length ≤ fuel → Rep n a e → opsP P ops l e w K → wpAny P .any ops Q fuel listed a w
  | [], k, fuel, listed, a, e, w, hmk, hl, hsz, hli, hkl, hf, hr, h => by
    have hnil : Region.ready .any ops listed = [] := by
      refine List.eq_nil_iff_forall_not_mem.2 fun j hj => ?_
      obtain ⟨h1, o, ho, _⟩ := mem_ready.1 hj
      have hj' := (Array.getElem?_eq_some_iff.1 ho).1
      have h2 := hli j hj'
      simp only [Array.getD_eq_getD_getElem?, Array.getElem?_eq_getElem (hsz ▸ hj'), Option.getD_some] at h1 h2
      rw [h1] at h2
      simp at h2 hkl
      omega
    cases fuel with
    | zero => exact ⟨hnil, hQ _ _ _ hr h⟩
    | succ f => exact ⟨fun _ => hQ _ _ _ hr h, fun i hi => by rw [hnil] at hi; cases hi⟩
  | o :: r, k, fuel, listed, a, e, w, hmk, hl, hsz, hli, hkl, hf, hr, h => by
    have hok : ops[k]? = some o := by simpa using (hl 0).symm
    have hk' := (Array.getElem?_eq_some_iff.1 hok).1
    have same : ∀ j, j < ops.size → listed.getD j true = decide (j < k) := fun j hj => by
      rw [← hli j hj]
      simp [Array.getD_eq_getD_getElem?, Array.getElem?_eq_getElem (hsz ▸ hj)]
    have bound : ∀ (i : Nat) (q : Oper), ops[i]? = some q → ∀ ed ∈ q.after, Region.binds .any ed = true → ed.on ∈ binding q := fun i q hq ed hed hb =>
      List.mem_filterMap.2 ⟨ed, by simpa using hed, by rw [if_pos hb]⟩
    have hready : k ∈ Region.ready .any ops listed := mem_ready.2 ⟨by rw [same k hk']; simp, o, hok, fun ed hed hb => by
      have h1 := hD.lt k o hok ed.on (hD.bind k o hok ed.on (bound k o hok ed hed hb))
      rw [hli ed.on (by omega)]
      simpa using h1⟩
    cases fuel with
    | zero => simp at hf
    | succ f =>
      refine ⟨fun hnil => (by rw [hnil] at hready; cases hready), fun i hi => ?_⟩
      obtain ⟨h1, q, hq, h2⟩ := mem_ready.1 hi
      have hi' := (Array.getElem?_eq_some_iff.1 hq).1
      have hki : k ≤ i := by
        rw [same i hi'] at h1
        simpa using h1
      have hik : i = k := by
        rcases Nat.eq_or_lt_of_le hki with h3 | h3
        · exact h3.symm
        · have hkD := hT i q hq (by omega) k h3
          have hb : ∀ x ∈ binding q, x < k := by
            intro x hx
            obtain ⟨ed, hed, hh⟩ := List.mem_filterMap.1 hx
            by_cases hbb : Region.binds .any ed = true
            · rw [if_pos hbb] at hh
              injection hh with hh
              subst hh
              have h4 := h2 ed (by simpa using hed) hbb
              have h5 := hD.lt i q hq ed.on (hD.bind i q hq ed.on hx)
              rw [hli ed.on (by omega)] at h4
              simpa using h4
            · rw [if_neg hbb] at hh
              cases hh
          rcases hD.dep i q hq k hkD with h4 | ⟨j, hj, hkj⟩
          · have := hb k h4; omega
          · have h5 := hb j hj
            have h6 := hD.lt j _ (Array.getElem?_eq_getElem (show j < ops.size by omega)) k hkj
            omega
      subst hik
      obtain rfl : q = o := by rw [hq] at hok; injection hok
      have hnd := hn q (by rw [Array.mem_iff_getElem?]; exact ⟨i, hq⟩)
      have next : ∀ v w', opsP P ops r (upO e q.dst v) w' K → wpAny P .any ops Q f (listed.setIfInBounds i true) (a.put q.dst v) w' := by
        intro v w' hh
        refine tail_any hD hT hn hQ r (i + 1) f _ _ _ w' (by omega) (fun j => ?_) (by simpa using hsz) (fun j hj => ?_) (by simp at hkl; omega) (by simpa using hf) (hr.put _ hnd v) hh
        · have := hl (j + 1)
          rw [show i + (j + 1) = i + 1 + j by omega] at this
          simpa using this
        · rw [set_get (hsz ▸ hi')]
          split
          · rename_i h3; simp [h3]
          · rename_i h3
            rw [hli j hj]
            have : (j < i) ↔ (j < i + 1) := by omega
            simp [this]
      unfold opsP at h
      rw [guard_ite] at h
      unfold wpOp
      simp only [hq]
      rw [wanted_eq hr]
      by_cases hw : wants q.guard ops e = true
      · rw [if_pos hw] at h ⊢
        exact .inl (op_wp hr (op_sound h) next)
      · rw [if_neg hw] at h ⊢
        exact next undef w h
def okT (ops : Array Oper) (D : List (List Nat)) (m : Nat) : Bool :=
  decide (m ≤ ops.size) && (List.range ops.size).all fun i => decide (i < m) || (List.range i).all fun j => (D.getD i []).contains j
theorem okT_spec {m : Nat} (h : okT ops D m = true) : m ≤ ops.size ∧ ∀ (i : Nat) (o : Oper), ops[i]? = some o → m ≤ i → ∀ j, j < i → j ∈ D.getD i [] := by
  unfold okT at h
  simp only [Bool.and_eq_true, decide_eq_true_eq, List.all_eq_true, List.mem_range, Bool.or_eq_true, List.contains_iff_mem] at h
  refine ⟨h.1, fun i o ho hmi j hj => ?_⟩
  rcases h.2 i (Array.getElem?_eq_some_iff.1 ho).1 with h1 | h1
  · omega
  · exact h1 j hj
theorem any_of (hD : OkD ops D) (htr : ∀ a b c, Ext a b → Ext b c → Ext a c) (hrf : ∀ a, Ext a a) (hst : ∀ k Φ, Phi k = some Φ → ∀ v a b, Ext a b → Φ v a → Φ v b) (hBe : ∀ b, Ext w0 b → Below B w0 b)
    {n m : Nat} (hT : ∀ (i : Nat) (o : Oper), ops[i]? = some o → m ≤ i → ∀ j, j < i → j ∈ D.getD i []) (hm : m ≤ ops.size) {K : Env → World → Prop} {Q : Exit → Act → World → Prop} (hn : ∀ o ∈ ops, ∀ t, o.dst = some t → t < n) (hQ : ∀ a e w, Rep n a e → K e w → Q .normal a w)
    (hv : vc P B Ext ops D Phi w0 0 (ops.toList.take m) e0 [] fun e w => opsP P ops (ops.toList.drop m) e w K) :
    ∀ (fuel : Nat) (listed : Array Bool) (a : Act) (e : Env) (w : World), listed.size = ops.size → Rep n a e → Inv P B Ext ops D Phi e0 w0 (fun j => listed.getD j false) e w → (∀ j, m ≤ j → listed.getD j false = false) →
      ((List.range ops.size).filter fun j => !listed.getD j false).length ≤ fuel → wpAny P .any ops Q fuel listed a w := by
  have htake : ∀ j, (ops.toList.take m)[j]? = if 0 + j < m then ops[0 + j]? else none := fun j => by
    rw [List.getElem?_take, Nat.zero_add]
    simp
  intro fuel
  induction fuel with
  | zero =>
    intro listed a e w hsz hr hI hLm hf
    have hall : ∀ j, j < ops.size → listed.getD j false = true := by
      intro j hj
      cases h : listed.getD j false with
      | true => rfl
      | false =>
        have : j ∈ (List.range ops.size).filter fun j => !listed.getD j false := List.mem_filter.2 ⟨List.mem_range.2 hj, by rw [h]; rfl⟩
        rw [List.eq_nil_of_length_eq_zero (Nat.le_zero.1 hf)] at this
        cases this
    have ht := (trav hD htr hrf hst hI hLm (ops.toList.take m) 0 e0 [] w htake (Nat.zero_le _) hv (fun _ _ => rfl) (fun j o hj => absurd hj (Nat.not_lt_zero _)) (fun x hx => by cases hx) (hrf _)).2 (fun j q _ hq => hall j (Array.getElem?_eq_some_iff.1 hq).1)
    have hms : m = ops.size := by
      rcases Nat.lt_or_ge m ops.size with h1 | h1
      · have := hLm m (Nat.le_refl _)
        rw [hall m h1] at this
        cases this
      · omega
    exact tail_any hD hT hn hQ (ops.toList.drop m) m 0 listed a e w (Nat.le_refl _) (fun j => by simp) hsz (fun j hj => by rw [hall j hj]; simp; omega) (by simp; omega) (by simp; omega) hr ht
  | succ fuel ih =>
    intro listed a e w hsz hr hI hLm hf
    have ht := trav hD htr hrf hst hI hLm (ops.toList.take m) 0 e0 [] w htake (Nat.zero_le _) hv (fun _ _ => rfl) (fun j o hj => absurd hj (Nat.not_lt_zero _)) (fun x hx => by cases hx) (hrf _)
    have same : ∀ j, j < ops.size → listed.getD j true = listed.getD j false := fun j hj => by
      simp [Array.getD_eq_getD_getElem?, Array.getElem?_eq_getElem (hsz ▸ hj)]
    by_cases hpre : ∀ (j : Nat) (q : Oper), j < m → ops[j]? = some q → listed.getD j false = true
    · have hmn : ops.size - m ≤ fuel + 1 := by
        refine Nat.le_trans ?_ hf
        have : ((List.range ops.size).drop m).length ≤ ((List.range ops.size).filter fun j => !listed.getD j false).length := by
          refine (List.Sublist.length_le ?_)
          have h1 : (List.range ops.size).drop m = ((List.range ops.size).drop m).filter fun j => !listed.getD j false := by
            refine (List.filter_eq_self.2 fun j hj => ?_).symm
            obtain ⟨i, hi, hij⟩ := List.mem_iff_getElem.1 hj
            simp at hij
            rw [hLm j (by omega)]
            rfl
          rw [h1]
          exact (List.drop_sublist _ _).filter _
        simpa using this
      exact tail_any hD hT hn hQ (ops.toList.drop m) m (fuel + 1) listed a e w (Nat.le_refl _) (fun j => by simp) hsz (fun j hj => by
        rcases Nat.lt_or_ge j m with h1 | h1
        · rw [hpre j _ h1 (Array.getElem?_eq_getElem hj)]; simp [h1]
        · rw [hLm j h1]; simp; omega) (by simp; omega) (by simpa using hmn) hr (ht.2 hpre)
    refine ⟨fun hnil => ?_, fun i hi => ?_⟩
    · refine absurd (fun j q _ hq => ?_) hpre
      -- the least that has not run is ready
      have key : ∀ m j (q : Oper), j ≤ m → ops[j]? = some q → listed.getD j false = true := by
        intro m
        induction m with
        | zero =>
          intro j q hj hq
          obtain rfl : j = 0 := by omega
          cases h : listed.getD 0 false with
          | true => rfl
          | false =>
            have : 0 ∈ Region.ready .any ops listed := mem_ready.2 ⟨by rw [same 0 (Array.getElem?_eq_some_iff.1 hq).1]; exact h, q, hq, fun ed hed hb => absurd (hD.lt 0 q hq ed.on (hD.bind 0 q hq ed.on (List.mem_filterMap.2 ⟨ed, by simpa using hed, by rw [if_pos hb]⟩))) (Nat.not_lt_zero _)⟩
            rw [hnil] at this
            cases this
        | succ m ihm =>
          intro j q hj hq
          by_cases hjm : j ≤ m
          · exact ihm j q hjm hq
          · cases h : listed.getD j false with
            | true => rfl
            | false =>
              have : j ∈ Region.ready .any ops listed := mem_ready.2 ⟨by rw [same j (Array.getElem?_eq_some_iff.1 hq).1]; exact h, q, hq, fun ed hed hb => by
                have h1 := hD.bind j q hq ed.on (List.mem_filterMap.2 ⟨ed, by simpa using hed, by rw [if_pos hb]⟩)
                have h2 := hD.lt j q hq ed.on h1
                have h3 := (Array.getElem?_eq_some_iff.1 hq).1
                exact ihm ed.on _ (by omega) (Array.getElem?_eq_getElem (show ed.on < ops.size by omega))⟩
              rw [hnil] at this
              cases this
      exact key j j q (Nat.le_refl _) hq
    · obtain ⟨h1, o, ho, h2⟩ := mem_ready.1 hi
      have hi' := (Array.getElem?_eq_some_iff.1 ho).1
      have hLi : listed.getD i false = false := (same i hi').symm.trans h1
      have hdone : ∀ x ∈ D.getD i [], listed.getD x false = true := by
        have hb : ∀ x ∈ binding o, listed.getD x false = true := by
          intro x hx
          obtain ⟨ed, hed, hh⟩ := List.mem_filterMap.1 hx
          by_cases hb : Region.binds .any ed = true
          · rw [if_pos hb] at hh
            injection hh with hh
            subst hh
            exact h2 ed (by simpa using hed) hb
          · rw [if_neg hb] at hh
            cases hh
        intro x hx
        rcases hD.dep i o ho x hx with h3 | ⟨j, hj, hxj⟩
        · exact hb x h3
        · have hjs : j < ops.size := by
            have := hD.lt i o ho j (hD.bind i o ho j hj)
            omega
          exact hI.shut j _ (Array.getElem?_eq_getElem hjs) (hb j hj) x hxj
      have him : i < m := by
        rcases Nat.lt_or_ge i m with h3 | h3
        · exact h3
        · exact absurd (fun j q hjm hq => hdone j (hT i o ho h3 j (by omega))) hpre
      have hex := ht.1 i o (Nat.zero_le _) him ho hLi hdone
      have hreads := seen_dep hD hI ho hLi
      have hnot : ∀ j, listed.getD j false = true → (j < ops.size) → i ∉ D.getD j [] := fun j hj hjs hh => by
        have := hI.shut j _ (Array.getElem?_eq_getElem hjs) hj i hh
        simp only [hLi] at this
        cases this
      have hself : i ∉ D.getD i [] := fun hh => absurd (hD.lt i o ho i hh) (Nat.lt_irrefl _)
      -- the invariant behind operation i
      have next : ∀ v w', Ext w w' → okv P B ops D Phi e0 w0 i o (upO e o.dst v) w' → Inv P B Ext ops D Phi e0 w0 (fun j => (listed.setIfInBounds i true).getD j false) (upO e o.dst v) w' := by
        intro v w' hx hnew
        refine ⟨htr _ _ _ hI.ext hx, ?_, ?_, ?_⟩
        · intro s hs
          have hne : o.dst ≠ some s := fun hd => by
            have := hs i o ho hd
            simp only [set_get (hsz ▸ hi'), if_pos] at this
            cases this
          have h0 := hI.old s fun j q hq hqs => by
            have := hs j q hq hqs
            simp only [set_get (hsz ▸ hi')] at this ⊢
            split at this
            · cases this
            · exact this
          cases hd : o.dst with
          | none => simpa [upO] using h0
          | some d =>
            rw [hd] at hne
            simp only [upO, up]
            rw [if_neg (fun h => hne (by rw [h]))]
            exact h0
        · intro j q hq hj x hx'
          simp only [set_get (hsz ▸ hi')] at hj ⊢
          split
          · rfl
          · split at hj
            · rename_i hji
              subst hji
              exact hdone x hx'
            · exact hI.shut j q hq hj x hx'
        · intro j q hq hj
          simp only [set_get (hsz ▸ hi')] at hj
          by_cases hji : j = i
          · subst hji
            obtain rfl : q = o := by rw [hq] at ho; injection ho
            exact hnew
          · rw [if_neg hji] at hj
            have h0 := hI.okay j q hq hj
            have hjs := (Array.getElem?_eq_some_iff.1 hq).1
            unfold okv at h0 ⊢
            rw [seen_put hD ho (hnot j hj hjs)]
            have hval : valOf q (upO e o.dst v) = valOf q e := by
              unfold valOf
              cases hqd : q.dst with
              | none => rfl
              | some d =>
                cases hod : o.dst with
                | none => rfl
                | some d' =>
                  simp only [upO, up]
                  rw [if_neg (fun hh => hD.dst i o j q ho hq hji d' hod (by rw [hqd, hh]))]
            rw [hval]
            rw [guard_ite] at h0 ⊢
            by_cases hwn : wants q.guard ops (seen ops D e0 j e) = true
            · rw [if_pos hwn] at h0 ⊢
              cases hp : Phi j with
              | none => simpa only [hp] using h0
              | some Φ =>
                simp only [hp] at h0 ⊢
                exact hst j Φ hp _ _ _ hx h0
            · rw [if_neg hwn] at h0 ⊢
              exact h0
      have hlen : ((List.range ops.size).filter fun j => !(listed.setIfInBounds i true).getD j false).length ≤ fuel := by
        have hsub : ((List.range ops.size).filter fun j => !(listed.setIfInBounds i true).getD j false) = ((List.range ops.size).filter fun j => !listed.getD j false).filter (fun j => !(j == i)) := by
          rw [List.filter_filter]
          apply List.filter_congr
          intro j _
          rw [set_get (hsz ▸ hi')]
          by_cases hji : j = i
          · simp [hji]
          · simp [hji]
        have hmem : i ∈ (List.range ops.size).filter fun j => !listed.getD j false := List.mem_filter.2 ⟨List.mem_range.2 hi', by rw [hLi]; rfl⟩
        rw [hsub]
        have : (((List.range ops.size).filter fun j => !listed.getD j false).filter fun j => !(j == i)).length < ((List.range ops.size).filter fun j => !listed.getD j false).length := by
          refine List.length_filter_lt_length_iff_exists.2 ⟨i, hmem, by simp⟩
        omega
      have hnd := hn o (by rw [Array.mem_iff_getElem?]; exact ⟨i, ho⟩)
      unfold wpOp
      simp only [ho]
      rw [wanted_eq hr]
      have hgs : wants o.guard ops (seen ops D e0 i e) = wants o.guard ops e := wants_of hreads
      have hsz' : (listed.setIfInBounds i true).size = ops.size := by simpa using hsz
      have hLm' : ∀ j, m ≤ j → (listed.setIfInBounds i true).getD j false = false := fun j hj => by
        rw [set_get (hsz ▸ hi'), if_neg (by omega)]
        exact hLm j hj
      by_cases hwn : wants o.guard ops e = true
      · rw [if_pos hwn]
        refine .inl ?_
        have hex := hex hwn
        cases hp : Phi i with
        | none =>
          simp only [hp] at hex
          obtain ⟨v, hval⟩ := hex
          refine op_wp (K := fun u w' => u = v ∧ w' = w) hr ?_ ?_
          · rw [hval w (hBe _ hI.ext)]
            exact ⟨rfl, rfl⟩
          · rintro u w' ⟨rfl, rfl⟩
            refine ih _ _ _ _ hsz' (hr.put _ hnd u) (next u w' (hrf _) ?_) hLm' hlen
            unfold okv
            rw [seen_put hD ho hself, guard_ite, hgs, if_pos hwn]
            simp only [hp]
            have : valOf o (upO e o.dst u) = u ∨ o.dst = none := by
              unfold valOf
              cases o.dst with
              | none => exact .inr rfl
              | some d => exact .inl (by simp [upO, up])
            rcases this with h3 | h3
            · refine .inr ?_
              rw [h3]
              intro w1 hb
              rw [execOp_congr (hD.sel i o ho) (ev_congr (ops := ops) hreads)]
              exact hval w1 hb
            · exact .inl h3
        | some Φ =>
          simp only [hp] at hex
          refine op_wp hr hex ?_
          rintro v w' ⟨hx, hphi⟩
          refine ih _ _ _ _ hsz' (hr.put _ hnd v) (next v w' hx ?_) hLm' hlen
          unfold okv
          rw [seen_put hD ho hself, guard_ite, hgs, if_pos hwn]
          simp only [hp]
          have : valOf o (upO e o.dst v) = nz o v := by
            unfold valOf nz
            cases o.dst with
            | none => rfl
            | some d => simp [upO, up]
          rw [this]
          exact hphi
      · rw [if_neg hwn]
        refine ih _ _ _ _ hsz' (hr.put _ hnd undef) (next undef w (hrf _) ?_) hLm' hlen
        unfold okv
        rw [seen_put hD ho hself, guard_ite, hgs, if_neg hwn]
        unfold valOf
        cases o.dst with
        | none => rfl
        | some d => simp [upO, up]

theorem below_drawn (B : Nat) (w : World) : Below B w { w with drawn := w.drawn + 1 } := ⟨rfl, rfl, rfl, Nat.le_refl _, fun _ _ => rfl⟩
def More (a b : World) : Prop := Below a.heap.size a b
theorem More.refl (a : World) : More a a := Below.refl _ _
theorem More.trans {a b c : World} (h : More a b) (k : More b c) : More a c := Below.trans h (Below.mono k h.size)
theorem draw_rg {id : Nat} {K : Env → World → Prop} (B : Nat) (Ext : World → World → Prop) (D : List (List Nat)) (Phi : Nat → Option (Value → World → Prop)) (hm : P.follows .mixedOrders = true) (hD : okD ops D = true)
    (htr : ∀ a b c, Ext a b → Ext b c → Ext a c) (hrf : ∀ a, Ext a a) (hdr : Ext w0 { w0 with drawn := w0.drawn + 1 }) (hBe : ∀ b, Ext w0 b → Below B w0 b)
    (hst : ∀ k Φ, Phi k = some Φ → ∀ v a b, Ext a b → Φ v a → Φ v b)
    (m : Nat) (hT : okT ops D m = true) (hv : vc P B Ext ops D Phi w0 0 (ops.toList.take m) e0 [] fun e w => opsP P ops (ops.toList.drop m) e w K) : drawP P id ops e0 w0 K := by
  intro n a hd hr
  refine wp_region_any hm ?_
  refine any_of (okD_spec hD) htr hrf hst hBe (okT_spec hT).2 (okT_spec hT).1 hd (fun a e w hr hk => ⟨e, hr, rfl, hk⟩) hv ops.size _ a e0 _ (by simp) hr ⟨hdr, fun _ _ => rfl, ?_, ?_⟩ (fun j _ => by simp [Array.getD_eq_getD_getElem?, Array.getElem?_replicate]; split <;> rfl) ?_
  · intro i o ho hi
    simp [Array.getD_eq_getD_getElem?, Array.getElem?_replicate] at hi
    split at hi <;> simp at hi
  · intro i o ho hi
    simp [Array.getD_eq_getD_getElem?, Array.getElem?_replicate] at hi
    split at hi <;> simp at hi
  · exact Nat.le_trans (List.length_filter_le _ _) (by simp)
theorem draw_facts {id : Nat} {K : Env → World → Prop} (m : Nat) (D : List (List Nat)) (Phi : Nat → Option (Value → World → Prop)) (hm : P.follows .mixedOrders = true) (hD : okD ops D = true) (hT : okT ops D m = true)
    (hst : ∀ k Φ, Phi k = some Φ → ∀ v a b, More a b → Φ v a → Φ v b)
    (hv : vc P w0.heap.size More ops D Phi w0 0 (ops.toList.take m) e0 [] fun e w => opsP P ops (ops.toList.drop m) e w K) : drawP P id ops e0 w0 K :=
  draw_rg w0.heap.size More D Phi hm hD (fun _ _ _ h k => h.trans k) More.refl (below_drawn _ _) (fun _ h => h) hst m hT hv
end

def After (H N : Value → Prop) : Prop := ∀ v, H v → N v
def stepV (P : Program) (B : Nat) (Ext : World → World → Prop) (D : List (List Nat)) (w0 : World) (k : Nat) (o : Oper) (e : Env) (Γ : List (Nat × (World → Prop))) (N : Value → List (Nat × (World → Prop)) → Prop) (Φ : Option (Value → World → Prop)) : Prop :=
  match Φ with
  | none => opV P B o e w0 fun v => N v Γ
  | some Φ => (∀ w1, Ext w0 w1 → (∀ x ∈ Γ, x.1 ∈ D.getD k [] → x.2 w1) → opP P o e w1 fun v w2 => Ext w1 w2 ∧ Φ (nz o v) w2) ∧ After (fun v => ∃ w', Ext w0 w' ∧ (∀ x ∈ Γ, x.2 w') ∧ Φ v w') fun v => N v (Γ ++ [(k, Φ v)])
def look : List (Nat × (Value → World → Prop)) → Nat → Option (Value → World → Prop)
  | [], _ => none
  | (j, Φ) :: r, k => if k = j then some Φ else look r k
section
variable (P : Program) (B : Nat) (Ext : World → World → Prop) (ops : Array Oper) (D : List (List Nat)) (Phi : Nat → Option (Value → World → Prop)) (w0 : World) (k : Nat) (e : Env) (Γ : List (Nat × (World → Prop))) (K : Env → World → Prop)
theorem v_cons (d : Option Nat) (op : Op) (t : TypeId) (p : String) (af : Array Edge) (r : List Oper) :
    vc P B Ext ops D Phi w0 k (⟨d, op, t, p, af, none⟩ :: r) e Γ K = stepV P B Ext D w0 k ⟨d, op, t, p, af, none⟩ e Γ (fun v G => vc P B Ext ops D Phi w0 (k + 1) r (upO e d v) G K) (Phi k) := by
  conv => lhs; unfold vc
  simp only [guardP, stepV]
  try (cases Phi k <;> rfl)
theorem v_guard (d : Option Nat) (op : Op) (t : TypeId) (p : String) (af : Array Edge) (g : Nat × Bool) (r : List Oper) :
    vc P B Ext ops D Phi w0 k (⟨d, op, t, p, af, some g⟩ :: r) e Γ K = guardP (some g) ops e (fun e => stepV P B Ext D w0 k ⟨d, op, t, p, af, none⟩ e Γ (fun v G => vc P B Ext ops D Phi w0 (k + 1) r (upO e d v) G K) (Phi k)) (fun e => vc P B Ext ops D Phi w0 (k + 1) r (upO e d undef) Γ K) := by
  conv => lhs; unfold vc
  congr 1
theorem s_some (o : Oper) (N : Value → List (Nat × (World → Prop)) → Prop) (Φ : Value → World → Prop) : stepV P B Ext D w0 k o e Γ N (some Φ) =
    ((∀ w1, Ext w0 w1 → (∀ x ∈ Γ, x.1 ∈ D.getD k [] → x.2 w1) → opP P o e w1 fun v w2 => Ext w1 w2 ∧ Φ (nz o v) w2) ∧ After (fun v => ∃ w', Ext w0 w' ∧ (∀ x ∈ Γ, x.2 w') ∧ Φ v w') (Stop (fun v => N v (Γ ++ [(k, Φ v)])) .mk)) := propext Iff.rfl
theorem look_nil : look [] k = none := rfl
theorem look_cons (j : Nat) (Φ : Value → World → Prop) (r : List (Nat × (Value → World → Prop))) : look ((j, Φ) :: r) k = if k = j then some Φ else look r k := rfl
theorem nz_some (d : Nat) (op : Op) (t : TypeId) (p : String) (af : Array Edge) (g : Option (Nat × Bool)) (v : Value) : nz ⟨some d, op, t, p, af, g⟩ v = v := rfl
theorem nz_none (op : Op) (t : TypeId) (p : String) (af : Array Edge) (g : Option (Nat × Bool)) (v : Value) : nz ⟨none, op, t, p, af, g⟩ v = undef := rfl
theorem opV_eq (o : Oper) (w : World) (Kv : Value → Prop) : opV P B o e w Kv = ((match o.op with | .call ⟨.value _, _, _⟩ => False | _ => True) ∧ opQ P B o e w Kv) := propext Iff.rfl
end

def Keeps (Φ : Value → World → Prop) : Prop := ∀ v a b, More a b → Φ v a → Φ v b
theorem look_keeps : ∀ (l : List (Nat × (Value → World → Prop))), (∀ x ∈ l, Keeps x.2) → ∀ k Φ, look l k = some Φ → ∀ v a b, More a b → Φ v a → Φ v b
  | [], _, k, Φ, h => by cases h
  | (j, Ψ) :: r, hl, k, Φ, h => by
    unfold look at h
    split at h
    · injection h with h
      subst h
      exact hl _ (List.mem_cons_self ..)
    · exact look_keeps r (fun x hx => hl x (List.mem_cons_of_mem _ hx)) k Φ h

theorem add_mk (b o n : Nat) : (⟨b, o, none⟩ : Addr).add n = ⟨b, o + n, none⟩ := by
  unfold Addr.add
  split
  · rename_i h; subst h; rfl
  · rfl
theorem add_add (a : Addr) (i j : Nat) : (a.add i).add j = a.add (i + j) := by
  unfold Addr.add
  by_cases hi : i = 0 <;> by_cases hj : j = 0 <;> simp [hi, hj, Nat.add_assoc]

def byteV (b : UInt8) : Value := .int .u8 b.toNat
def bt (l : List UInt8) (i : Nat) : Int := ((l.getD i 0).toNat : Int)
theorem bt_nonneg (l : List UInt8) (i : Nat) : 0 ≤ bt l i := Int.natCast_nonneg _
theorem bt_lt (l : List UInt8) (i : Nat) : bt l i < 256 := by
  unfold bt
  have := (l.getD i 0).toNat_lt
  omega
theorem byteV_bt {l : List UInt8} {i : Nat} (h : i < l.length) : (l.map byteV)[i]? = some (.int .u8 (bt l i)) := by
  rw [List.getElem?_map, List.getElem?_eq_getElem h]
  simp [byteV, bt, List.getD_eq_getElem?_getD, List.getElem?_eq_getElem h]
theorem byteV_one (l : List UInt8) : ∀ u ∈ l.map byteV, u.oneCell' = true := by
  intro u hu
  obtain ⟨b, _, rfl⟩ := List.mem_map.1 hu
  rfl

def Cs (w : World) (A : Option Addr) (cs : List Value) : Prop := ∀ (i : Nat) (v : Value), cs[i]? = some v → ∃ a, A = some a ∧ w.cell? (a.add i) = some v
abbrev Bs (w : World) (A : Option Addr) (l : List UInt8) : Prop := Cs w A (l.map byteV)
theorem Cs.more {w w' : World} {A : Option Addr} {cs : List Value} (h : Cs w A cs) (hm : More w w') : Cs w' A cs := by
  intro i v hi
  obtain ⟨a, ha, hc⟩ := h i v hi
  exact ⟨a, ha, cell_later hm hc⟩
theorem adv_zero (A : Option Addr) (c s : Nat) : adv A c 0 s = A := by
  unfold adv
  split
  · rfl
  · cases A with
    | none => rfl
    | some a => simp [Addr.add]
theorem Cs.nil (w : World) (A : Option Addr) : Cs w A [] := fun i v h => by simp at h
theorem Cs.take {w : World} {A : Option Addr} {cs : List Value} (h : Cs w A cs) (k : Nat) : Cs w A (cs.take k) := by
  intro i v hi
  rw [List.getElem?_take] at hi
  split at hi
  · exact h i v hi
  · cases hi
theorem Cs.adv {w : World} {A : Option Addr} {cs : List Value} {c k : Nat} (h : Cs w A cs) (hc : cs.length ≤ c) : Cs w (adv A c k 1) (cs.drop k) := by
  intro i v hi
  unfold RV.adv
  by_cases hck : c = k
  · rw [List.drop_eq_nil_of_le (by omega)] at hi
    simp at hi
  · rw [if_neg hck]
    rw [List.getElem?_drop] at hi
    obtain ⟨a, rfl, hcell⟩ := h (k + i) v hi
    exact ⟨a.add (k * 1), rfl, by rw [add_add, Nat.mul_one]; exact hcell⟩
theorem Cs.takeB {w : World} {A : Option Addr} {l : List UInt8} (h : Bs w A l) (k : Nat) : Bs w A (l.take k) := by
  have := Cs.take h k
  rwa [← List.map_take] at this
theorem Cs.advB {w : World} {A : Option Addr} {l : List UInt8} {c k : Nat} (h : Bs w A l) (hc : l.length ≤ c) : Bs w (RV.adv A c k 1) (l.drop k) := by
  have := Cs.adv (k := k) h (by simpa using hc)
  rwa [← List.map_drop] at this
theorem Cs.at_ {w : World} {A : Option Addr} {l : List UInt8} (h : Bs w A l) {i : Nat} (hi : i < l.length) : ∃ a, A = some a ∧ w.cell? (a.add i) = some (.int .u8 (bt l i)) := h i _ (byteV_bt hi)
def Blk (w : World) (b : Nat) (e : TypeId) (cs : List Value) : Prop := w.heap[b]? = some (.cells cs.toArray e (0, 0))
theorem Blk.lt {w : World} {b : Nat} {e : TypeId} {cs : List Value} (h : Blk w b e cs) : b < w.heap.size := (Array.getElem?_eq_some_iff.1 h).1
theorem Blk.cell {w : World} {b : Nat} {e : TypeId} {cs : List Value} (h : Blk w b e cs) (i : Nat) : w.cell? ⟨b, i, none⟩ = cs[i]? := by
  unfold Blk at h
  simp [World.cell?, h]
theorem Blk.frozen {w : World} {b : Nat} {e : TypeId} {cs : List Value} (h : Blk w b e cs) (i : Nat) : w.frozen? ⟨b, i, none⟩ = false := by
  unfold Blk at h
  simp [World.frozen?, h]
theorem Blk.ne {w : World} {b b' : Nat} {e e' : TypeId} {cs cs' : List Value} (h : Blk w b e cs) (h' : Blk w b' e' cs') (hne : e ≠ e') : b ≠ b' := by
  rintro rfl
  unfold Blk at h h'
  rw [h] at h'
  injection h' with h'
  injection h' with _ h'
  exact hne h'
theorem Blk.new (w : World) (e : TypeId) (cs : Array Value) : Blk (w.alloc (.cells cs e)) w.heap.size e cs.toList := by
  unfold Blk
  rw [heap_alloc_new]
theorem Blk.more {w w' : World} {b : Nat} {e : TypeId} {cs : List Value} (h : Blk w b e cs) (hm : More w w') : Blk w' b e cs := (hm.block b h.lt).trans h
theorem Blk.cs {w : World} {b : Nat} {e : TypeId} {cs : List Value} (h : Blk w b e cs) : Cs w (some ⟨b, 0, none⟩) cs := by
  intro i v hi
  exact ⟨_, rfl, by rw [add_mk, Nat.zero_add, h.cell i]; exact hi⟩
theorem more_alloc (w : World) (o : Obj) : More w (w.alloc o) := (Below.refl _ _).alloc (Nat.le_refl _) o
theorem size_alloc (w : World) (o : Obj) : (w.alloc o).heap.size = w.heap.size + 1 := by
  show (w.heap.push o).size = _
  simp

structure Wr (b : Nat) (w w' : World) : Prop where
  os : w'.os = w.os
  tape : w'.tape = w.tape
  output : w'.output = w.output
  size : w'.heap.size = w.heap.size
  block : ∀ k, k ≠ b → w'.heap[k]? = w.heap[k]?
theorem Wr.refl (b : Nat) (w : World) : Wr b w w := ⟨rfl, rfl, rfl, rfl, fun _ _ => rfl⟩
theorem Wr.trans {b : Nat} {w w' w'' : World} (h : Wr b w w') (k : Wr b w' w'') : Wr b w w'' :=
  ⟨k.os.trans h.os, k.tape.trans h.tape, k.output.trans h.output, k.size.trans h.size, fun i hi => (k.block i hi).trans (h.block i hi)⟩
theorem Wr.blk {b c : Nat} {w w' : World} {e : TypeId} {cs : List Value} (h : Wr b w w') (hk : Blk w c e cs) (hne : c ≠ b) : Blk w' c e cs := (h.block c hne).trans hk
theorem Wr.below {B b : Nat} {a w w' : World} (hb : Below B a w) (h : Wr b w w') (hB : B ≤ b) : Below B a w' :=
  hb.trans ⟨h.os, h.tape, h.output, Nat.le_of_eq h.size.symm, fun k hk => h.block k (by omega)⟩
theorem wr_setCell (w : World) (b i : Nat) (v : Value) : Wr b w (w.setCell ⟨b, i, none⟩ v) :=
  ⟨rfl, rfl, rfl, by simp [World.setCell], fun k hk => by simp [World.setCell, Array.getElem?_modify, hk.symm]⟩
theorem Blk.set {w : World} {b : Nat} {e : TypeId} {cs : List Value} (h : Blk w b e cs) (i : Nat) (v : Value) : Blk (w.setCell ⟨b, i, none⟩ v) b e (cs.set i v) := by
  unfold Blk at h ⊢
  simp [World.setCell, Array.getElem?_modify, h]
def splice (xs : List Value) : Nat → List Value → List Value
  | _, [] => xs
  | i, v :: r => splice (xs.set i v) (i + 1) r
theorem splice_eq : ∀ (vs xs : List Value) (i : Nat), i + vs.length ≤ xs.length → splice xs i vs = xs.take i ++ vs ++ xs.drop (i + vs.length)
  | [], xs, i, h => by simp [splice]
  | v :: r, xs, i, h => by
    have hi : i < xs.length := by simp at h; omega
    rw [splice, splice_eq r _ (i + 1) (by simp at h ⊢; omega)]
    have h1 : (xs.set i v).take (i + 1) = xs.take i ++ [v] := by
      rw [List.take_set]
      rw [List.set_eq_take_append_cons_drop]
      simp
      rw [if_pos (by omega)]
      rw [List.take_take, Nat.min_eq_left (by omega)]
    have h2 : (xs.set i v).drop (i + 1 + r.length) = xs.drop (i + 1 + r.length) := by
      rw [List.drop_set_of_lt (by omega)]
    rw [h1, h2]
    simp [Nat.add_assoc, Nat.add_comm 1]
theorem splice_length : ∀ (vs xs : List Value) (i : Nat), (splice xs i vs).length = xs.length
  | [], xs, i => rfl
  | v :: r, xs, i => by rw [splice, splice_length r]; simp
theorem wr_setCells (b : Nat) : ∀ (vs : List Value) (i : Nat) (w : World), Wr b w (w.setCells b i vs)
  | [], i, w => Wr.refl b w
  | v :: r, i, w => by
    rw [World.setCells]
    exact (wr_setCell w b i v).trans (wr_setCells b r (i + 1) _)
theorem Blk.sets {b : Nat} {e : TypeId} : ∀ (vs : List Value) (i : Nat) (w : World) (cs : List Value), Blk w b e cs → Blk (w.setCells b i vs) b e (splice cs i vs)
  | [], i, w, cs, h => h
  | v :: r, i, w, cs, h => by
    rw [World.setCells, splice]
    exact Blk.sets r (i + 1) _ _ (h.set i v)
end Go.Proofs.RV

