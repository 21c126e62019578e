/-
  A region whose order the tape draws, once more: what is told of an operation may name what it was given.
-/
import Derived.Test.YtahcaplhdgphcaaGreatSq
namespace Go.Proofs.RV
open Go Go.RowKit
set_option linter.unusedSimpArgs false
set_option linter.unusedVariables false
/-- what an operation is given -/
def given (o : Oper) (e : Env) : List Value := o.op.operands.toList.map (ev e)
theorem given_store (d : Option Nat) (T : TypeId) (x v : Operand) (t : TypeId) (p : String) (af : Array Edge) (g : Option (Nat × Bool)) (e : Env) : given ⟨d, .store T x v, t, p, af, g⟩ e = [ev e x, ev e v] := by
  simp [given, Op.operands]
theorem given_congr {ops : Array Oper} {o : Oper} {e e' : Env} (h : ∀ s ∈ slotsOf o ++ guardSlot ops o, e s = e' s) : given o e = given o e' := by
  unfold given
  exact List.map_congr_left (ev_congr (ops := ops) h)
abbrev Fact := List Value → Value → World → Prop
def vcH (P : Program) (B : Nat) (Ext : World → World → Prop) (ops : Array Oper) (D : List (List Nat)) (Phi : Nat → Option Fact) (w0 : World) :
    Nat → List Oper → Env → List (Nat × (World → Prop)) → (Env → World → Prop) → Prop
  | _, [], e, Γ, K => ∀ w', Ext w0 w' → (∀ x ∈ Γ, x.2 w') → K e w'
  | k, o :: r, e, Γ, K => guardP o.guard ops e
      (fun e => match Phi k with
        | none => opV P B o e w0 fun v => vcH P B Ext ops D Phi w0 (k + 1) r (upO e o.dst v) Γ K
        | some Φ => (∀ w1, Ext w0 w1 → (∀ x ∈ Γ, x.1 ∈ D.getD k [] → x.2 w1) → opP P o e w1 fun v w2 => Ext w1 w2 ∧ Φ (given o e) (nz o v) w2) ∧
            ∀ v, (∃ w', Ext w0 w' ∧ (∀ x ∈ Γ, x.2 w') ∧ Φ (given o e) v w') → vcH P B Ext ops D Phi w0 (k + 1) r (upO e o.dst v) (Γ ++ [(k, Φ (given o e) v)]) K)
      (fun e => vcH P B Ext ops D Phi w0 (k + 1) r (upO e o.dst undef) Γ K)

section
variable {P : Program} {B : Nat}
variable {Ext : World → World → Prop} {ops : Array Oper} {D : List (List Nat)} {Phi : Nat → Option Fact} {e0 : Env} {w0 : World}
def okvH (P : Program) (B : Nat) (ops : Array Oper) (D : List (List Nat)) (Phi : Nat → Option Fact) (e0 : Env) (w0 : World) (j : Nat) (o : Oper) (e : Env) (w : World) : Prop :=
  guardP o.guard ops (seen ops D e0 j e) (fun _ => match Phi j with
    | none => o.dst = none ∨ Val P B o (ev (seen ops D e0 j e)) w0 (valOf o e)
    | some Φ => Φ (given o (seen ops D e0 j e)) (valOf o e) w) (fun _ => valOf o e = undef)

/-- the operations that have run, a frame and a world that fit them -/
structure InvH (P : Program) (B : Nat) (Ext : World → World → Prop) (ops : Array Oper) (D : List (List Nat)) (Phi : Nat → Option Fact) (e0 : Env) (w0 : World) (L : Nat → Bool) (e : Env) (w : World) : Prop where
  ext : Ext w0 w
  old : ∀ s, (∀ (i : Nat) (q : Oper), ops[i]? = some q → q.dst = some s → L i = false) → e s = e0 s
  shut : ∀ (i : Nat) (o : Oper), ops[i]? = some o → L i = true → ∀ x ∈ D.getD i [], L x = true
  okay : ∀ (i : Nat) (o : Oper), ops[i]? = some o → L i = true → okvH P B ops D Phi e0 w0 i o e w

theorem seen_depH {L : Nat → Bool} {e : Env} {w : World} (hD : OkD ops D) (hI : InvH P B Ext ops D Phi e0 w0 L e w) {i : Nat} {o : Oper} (ho : ops[i]? = some o) (hi : L i = false) :
    ∀ s ∈ slotsOf o ++ guardSlot ops o, seen ops D e0 i e s = e s := by
  intro s hs
  unfold seen
  split
  · rfl
  · rename_i hno
    refine (hI.old s ?_).symm
    intro k q hk hq
    rcases hD.read i o ho s hs k q hk hq with h | h
    · exact absurd ⟨k, h, q, hk, hq⟩ hno
    · cases hL : L k with
      | false => rfl
      | true =>
        have := hI.shut k q hk hL i h
        rw [hi] at this
        cases this
/-- what can be said of operation i, which has not run, in the frame and the world that are -/
def ExecH (P : Program) (B : Nat) (Ext : World → World → Prop) (ops : Array Oper) (Phi : Nat → Option Fact) (w0 : World) (i : Nat) (o : Oper) (e : Env) (w : World) : Prop :=
  wants o.guard ops e = true → match Phi i with
    | none => ∃ v, Val P B o (ev e) w0 v
    | some Φ => Ends P ((execOp (ev e) o).run P w) fun v w2 => Ext w w2 ∧ Φ (given o e) (nz o v) w2

theorem travH (hD : OkD ops D) (htr : ∀ a b c, Ext a b → Ext b c → Ext a c) (hrf : ∀ a, Ext a a) (hst : ∀ k Φ, Phi k = some Φ → ∀ g v a b, Ext a b → Φ g v a → Φ g v b)
    {L : Nat → Bool} {e : Env} {w : World} (hI : InvH P B Ext ops D Phi e0 w0 L e w) {K : Env → World → Prop}
    {m : Nat} (hLm : ∀ j, m ≤ j → L j = false) :
    ∀ (l : List Oper) (k : Nat) (h : Env) (Γ : List (Nat × (World → Prop))) (wh : World), (∀ j, l[j]? = if k + j < m then ops[k + j]? else none) → k ≤ m → vcH P B Ext ops D Phi w0 k l h Γ K →
      (∀ s, (∀ (j : Nat) (q : Oper), j < k → ops[j]? = some q → q.dst ≠ some s) → h s = e0 s) →
      (∀ (j : Nat) (o : Oper), j < k → ops[j]? = some o → L j = true → ∀ d, o.dst = some d → h d = e d) →
      (∀ x ∈ Γ, (x.1 < k ∧ ∃ q : Oper, ops[x.1]? = some q) ∧ x.2 wh ∧ (L x.1 = true → x.2 w) ∧ ∀ a b, Ext a b → x.2 a → x.2 b) → Ext w wh →
      (∀ (i : Nat) (o : Oper), k ≤ i → i < m → ops[i]? = some o → L i = false → (∀ x ∈ D.getD i [], L x = true) → ExecH P B Ext ops Phi w0 i o e w) ∧
      ((∀ (j : Nat) (q : Oper), j < m → ops[j]? = some q → L j = true) → K e w)
  | [], k, h, Γ, wh, hl, hkm, hv, t1, t2, t3, hw => by
    have hk : ∀ (j : Nat) (q : Oper), j < m → ops[j]? = some q → j < k := by
      intro j q hjm hq
      rcases Nat.lt_or_ge j k with h1 | h1
      · exact h1
      · have := hl (j - k)
        rw [show k + (j - k) = j by omega, if_pos hjm, hq] at this
        cases this
    refine ⟨fun i o hki him ho => ?_, fun hall => ?_⟩
    · have := hk i o him ho
      omega
    · have he : h = e := by
        funext s
        by_cases hs : ∃ (j : Nat) (q : Oper), j < m ∧ ops[j]? = some q ∧ q.dst = some s
        · obtain ⟨j, q, hjm, hq, hqs⟩ := hs
          exact t2 j q (hk j q hjm hq) hq (hall j q hjm hq) s hqs
        · have h2 : e s = e0 s := hI.old s fun j q hq hqs => by
            rcases Nat.lt_or_ge j m with h1 | h1
            · exact absurd ⟨j, q, h1, hq, hqs⟩ hs
            · exact hLm j h1
          rw [h2]
          refine t1 s fun j q hj hq hqs => ?_
          rcases Nat.lt_or_ge j m with h1 | h1
          · exact hs ⟨j, q, h1, hq, hqs⟩
          · omega
      subst he
      refine hv w hI.ext fun x hx => (t3 x hx).2.2.1 ?_
      obtain ⟨⟨h1, q, hq⟩, _⟩ := t3 x hx
      exact hall _ _ (by omega) hq
  | o :: r, k, h, Γ, wh, hl, hkm, hv, t1, t2, t3, hw => by
    have hokm : k < m ∧ ops[k]? = some o := by simpa using (hl 0).symm
    have hok := hokm.2
    have hkm' : k + 1 ≤ m := hokm.1
    have hl' : ∀ j, r[j]? = if k + 1 + j < m then ops[k + 1 + j]? else none := fun j => by
      have := hl (j + 1)
      rw [show k + (j + 1) = k + 1 + j by omega] at this
      simpa using this
    have hwh : Ext w0 wh := htr _ _ _ hI.ext hw
    -- what k reads is in the walk's frame as k saw it, if all that it waits for has run
    have hread : (∀ x ∈ D.getD k [], L x = true) → ∀ s ∈ slotsOf o ++ guardSlot ops o, h s = seen ops D e0 k e s := by
      intro hdone s hs
      unfold seen
      split
      · rename_i hyes
        obtain ⟨k', hk', q, hq, hqs⟩ := hyes
        exact t2 k' q (hD.lt k o hok k' hk') hq (hdone k' hk') s hqs
      · rename_i hno
        refine t1 s fun j q hj hq hqs => ?_
        rcases hD.read k o hok s hs j q hq hqs with h1 | h1
        · exact hno ⟨j, h1, q, hq, hqs⟩
        · have := hD.lt j q hq k h1; omega
    -- one step on: the frame with a value v for k
    have step1 : ∀ v, ∀ s, (∀ (j : Nat) (q : Oper), j < k + 1 → ops[j]? = some q → q.dst ≠ some s) → upO h o.dst v s = e0 s := by
      intro v s hs
      have hne := hs k o (by omega) hok
      have h0 := t1 s fun j q hj hq => hs j q (by omega) hq
      cases hd : o.dst with
      | none => simpa [upO] using h0
      | some d =>
        rw [hd] at hne
        simp only [upO, up]
        rw [if_neg (fun h => hne (by rw [h]))]
        exact h0
    have step2 : ∀ v, (L k = true → ∀ d, o.dst = some d → v = e d) → ∀ (j : Nat) (q : Oper), j < k + 1 → ops[j]? = some q → L j = true → ∀ d, q.dst = some d → upO h o.dst v d = e d := by
      intro v hv j q hj hq hLj d hd
      by_cases hjk : j = k
      · subst hjk
        obtain rfl : q = o := by rw [hq] at hok; injection hok
        have hv1 : v = e d := hv hLj d hd
        rw [hd]
        simp [upO, up, hv1]
      · have h0 := t2 j q (by omega) hq hLj d hd
        cases hdo : o.dst with
        | none => simpa [upO] using h0
        | some d' =>
          have hne : d ≠ d' := fun hh => hD.dst k o j q hok hq hjk d' hdo (by rw [hd, hh])
          simp only [upO, up]
          rw [if_neg hne]
          exact h0
    have mono3 : ∀ x ∈ Γ, (x.1 < k + 1 ∧ ∃ q : Oper, ops[x.1]? = some q) ∧ x.2 wh ∧ (L x.1 = true → x.2 w) ∧ ∀ a b, Ext a b → x.2 a → x.2 b := fun x hx => by
      obtain ⟨⟨h1, h2⟩, h3⟩ := t3 x hx
      exact ⟨⟨by omega, h2⟩, h3⟩
    unfold vcH at hv
    rw [guard_ite] at hv
    cases hLk : L k with
    | true =>
      have hdone := hI.shut k o hok hLk
      have hrd := hread hdone
      have hw1 : wants o.guard ops h = wants o.guard ops (seen ops D e0 k e) := wants_of hrd
      have hokv := hI.okay k o hok hLk
      unfold okvH at hokv
      rw [guard_ite, ← hw1] at hokv
      have back : (∀ (i : Nat) (o' : Oper), k + 1 ≤ i → i < m → ops[i]? = some o' → L i = false → (∀ x ∈ D.getD i [], L x = true) → ExecH P B Ext ops Phi w0 i o' e w) ∧ ((∀ (j : Nat) (q : Oper), j < m → ops[j]? = some q → L j = true) → K e w) →
          (∀ (i : Nat) (o' : Oper), k ≤ i → i < m → ops[i]? = some o' → L i = false → (∀ x ∈ D.getD i [], L x = true) → ExecH P B Ext ops Phi w0 i o' e w) ∧ ((∀ (j : Nat) (q : Oper), j < m → ops[j]? = some q → L j = true) → K e w) := by
        rintro ⟨b1, b2⟩
        refine ⟨fun i o' hki him ho' hLi => ?_, b2⟩
        by_cases hik : i = k
        · subst hik; rw [hLk] at hLi; cases hLi
        · exact b1 i o' (by omega) him ho' hLi
      refine back ?_
      by_cases hwant : wants o.guard ops h = true
      · rw [if_pos hwant] at hv hokv
        cases hp : Phi k with
        | none =>
          simp only [hp] at hv hokv
          obtain ⟨v, hval, hv⟩ := opV_sound hv
          have hvv : ∀ d, o.dst = some d → v = e d := by
            intro d hd
            rcases hokv with hokv | hokv
            · rw [hokv] at hd; cases hd
            · have hval' : Val P B o (ev h) w0 (valOf o e) := by
                intro w1 hb
                rw [execOp_congr (hD.sel k o hok) (ev_congr (ops := ops) hrd)]
                exact hokv w1 hb
              rw [val_unique hval hval']
              unfold valOf
              rw [hd]
          exact travH hD htr hrf hst hI hLm r (k + 1) _ Γ wh hl' hkm' hv (step1 v) (step2 v fun _ => hvv) mono3 hw
        | some Φ =>
          simp only [hp] at hv hokv
          rw [← given_congr (ops := ops) hrd] at hokv
          refine travH hD htr hrf hst hI hLm r (k + 1) _ _ wh hl' hkm' (hv.2 (valOf o e) ⟨wh, hwh, fun x hx => (t3 x hx).2.1, hst k Φ hp _ _ _ _ hw hokv⟩) (step1 _) (step2 _ fun _ d hd => by unfold valOf; rw [hd]) ?_ hw
          intro x hx
          rcases List.mem_append.1 hx with hx | hx
          · exact mono3 x hx
          · obtain rfl := List.mem_singleton.1 hx
            exact ⟨⟨by simp, o, hok⟩, hst k Φ hp _ _ _ _ hw hokv, fun _ => hokv, fun a b hab hh => hst k Φ hp _ _ _ _ hab hh⟩
      · rw [if_neg hwant] at hv hokv
        exact travH hD htr hrf hst hI hLm r (k + 1) _ Γ wh hl' hkm' hv (step1 _) (step2 _ fun _ d hd => by unfold valOf at hokv; rw [hd] at hokv; exact hokv.symm) mono3 hw
    | false =>
      have here : (∀ x ∈ D.getD k [], L x = true) → ExecH P B Ext ops Phi w0 k o e w := by
        intro hdone hwant
        have hrd : ∀ s ∈ slotsOf o ++ guardSlot ops o, h s = e s := fun s hs => (hread hdone s hs).trans (seen_depH hD hI hok hLk s hs)
        rw [← wants_of hrd] at hwant
        rw [if_pos hwant] at hv
        have hex : execOp (ev h) o = execOp (ev e) o := execOp_congr (hD.sel k o hok) (ev_congr (ops := ops) hrd)
        cases hp : Phi k with
        | none =>
          simp only [hp] at hv
          obtain ⟨v, hval, _⟩ := opV_sound hv
          refine ⟨v, fun w1 hb => ?_⟩
          rw [← hex]
          exact hval w1 hb
        | some Φ =>
          simp only [hp] at hv
          show Ends P ((execOp (ev e) o).run P w) fun v w2 => Ext w w2 ∧ Φ (given o e) (nz o v) w2
          rw [← hex, ← given_congr (ops := ops) hrd]
          exact op_sound (hv.1 w hI.ext fun x hx hxd => (t3 x hx).2.2.1 (hdone _ hxd))
      have back : (∀ (i : Nat) (o' : Oper), k + 1 ≤ i → i < m → ops[i]? = some o' → L i = false → (∀ x ∈ D.getD i [], L x = true) → ExecH P B Ext ops Phi w0 i o' e w) ∧ ((∀ (j : Nat) (q : Oper), j < m → ops[j]? = some q → L j = true) → K e w) →
          (∀ (i : Nat) (o' : Oper), k ≤ i → i < m → ops[i]? = some o' → L i = false → (∀ x ∈ D.getD i [], L x = true) → ExecH P B Ext ops Phi w0 i o' e w) ∧ ((∀ (j : Nat) (q : Oper), j < m → ops[j]? = some q → L j = true) → K e w) := by
        rintro ⟨b1, b2⟩
        refine ⟨fun i o' hki him ho' hLi hdone => ?_, b2⟩
        by_cases hik : i = k
        · subst hik
          obtain rfl : o' = o := by rw [ho'] at hok; injection hok
          exact here hdone
        · exact b1 i o' (by omega) him ho' hLi hdone
      refine back ?_
      by_cases hwant : wants o.guard ops h = true
      · rw [if_pos hwant] at hv
        cases hp : Phi k with
        | none =>
          simp only [hp] at hv
          obtain ⟨v, _, hv⟩ := opV_sound hv
          exact travH hD htr hrf hst hI hLm r (k + 1) _ Γ wh hl' hkm' hv (step1 v) (step2 v fun hh => by rw [hLk] at hh; cases hh) mono3 hw
        | some Φ =>
          simp only [hp] at hv
          obtain ⟨v, w2, hx2, hphi⟩ := op_exists (hv.1 wh hwh fun x hx _ => (t3 x hx).2.1)
          refine travH hD htr hrf hst hI hLm r (k + 1) _ _ w2 hl' hkm' (hv.2 _ ⟨w2, htr _ _ _ hwh hx2, fun x hx => (t3 x hx).2.2.2 _ _ hx2 (t3 x hx).2.1, hphi⟩) (step1 _) (step2 _ fun hh => by rw [hLk] at hh; cases hh) ?_ (htr _ _ _ hw hx2)
          intro x hx
          rcases List.mem_append.1 hx with hx | hx
          · obtain ⟨h1, h2, h3, h4⟩ := mono3 x hx
            exact ⟨h1, h4 _ _ hx2 h2, h3, h4⟩
          · obtain rfl := List.mem_singleton.1 hx
            exact ⟨⟨by simp, o, hok⟩, hphi, fun hh => (by simp only at hh; rw [hLk] at hh; cases hh), fun a b hab hh => hst k Φ hp _ _ _ _ hab hh⟩
      · rw [if_neg hwant] at hv
        exact travH hD htr hrf hst hI hLm r (k + 1) _ Γ wh hl' hkm' hv (step1 _) (step2 _ fun hh => by rw [hLk] at hh; cases hh) mono3 hw

theorem any_ofH (hD : OkD ops D) (htr : ∀ a b c, Ext a b → Ext b c → Ext a c) (hrf : ∀ a, Ext a a) (hst : ∀ k Φ, Phi k = some Φ → ∀ g v a b, Ext a b → Φ g v a → Φ g v b) (hBe : ∀ b, Ext w0 b → Below B w0 b)
    {n m : Nat} (hT : ∀ (i : Nat) (o : Oper), ops[i]? = some o → m ≤ i → ∀ j, j < i → j ∈ D.getD i []) (hm : m ≤ ops.size) {K : Env → World → Prop} {Q : Exit → Act → World → Prop} (hn : ∀ o ∈ ops, ∀ t, o.dst = some t → t < n) (hQ : ∀ a e w, Rep n a e → K e w → Q .normal a w)
    (hv : vcH P B Ext ops D Phi w0 0 (ops.toList.take m) e0 [] fun e w => opsP P ops (ops.toList.drop m) e w K) :
    ∀ (fuel : Nat) (listed : Array Bool) (a : Act) (e : Env) (w : World), listed.size = ops.size → Rep n a e → InvH P B Ext ops D Phi e0 w0 (fun j => listed.getD j false) e w → (∀ j, m ≤ j → listed.getD j false = false) →
      ((List.range ops.size).filter fun j => !listed.getD j false).length ≤ fuel → wpAny P .any ops Q fuel listed a w := by
  have htake : ∀ j, (ops.toList.take m)[j]? = if 0 + j < m then ops[0 + j]? else none := fun j => by
    rw [List.getElem?_take, Nat.zero_add]
    simp
  intro fuel
  induction fuel with
  | zero =>
    intro listed a e w hsz hr hI hLm hf
    have hall : ∀ j, j < ops.size → listed.getD j false = true := by
      intro j hj
      cases h : listed.getD j false with
      | true => rfl
      | false =>
        have : j ∈ (List.range ops.size).filter fun j => !listed.getD j false := List.mem_filter.2 ⟨List.mem_range.2 hj, by rw [h]; rfl⟩
        rw [List.eq_nil_of_length_eq_zero (Nat.le_zero.1 hf)] at this
        cases this
    have ht := (travH hD htr hrf hst hI hLm (ops.toList.take m) 0 e0 [] w htake (Nat.zero_le _) hv (fun _ _ => rfl) (fun j o hj => absurd hj (Nat.not_lt_zero _)) (fun x hx => by cases hx) (hrf _)).2 (fun j q _ hq => hall j (Array.getElem?_eq_some_iff.1 hq).1)
    have hms : m = ops.size := by
      rcases Nat.lt_or_ge m ops.size with h1 | h1
      · have := hLm m (Nat.le_refl _)
        rw [hall m h1] at this
        cases this
      · omega
    exact tail_any hD hT hn hQ (ops.toList.drop m) m 0 listed a e w (Nat.le_refl _) (fun j => by simp) hsz (fun j hj => by rw [hall j hj]; simp; omega) (by simp; omega) (by simp; omega) hr ht
  | succ fuel ih =>
    intro listed a e w hsz hr hI hLm hf
    have ht := travH hD htr hrf hst hI hLm (ops.toList.take m) 0 e0 [] w htake (Nat.zero_le _) hv (fun _ _ => rfl) (fun j o hj => absurd hj (Nat.not_lt_zero _)) (fun x hx => by cases hx) (hrf _)
    have same : ∀ j, j < ops.size → listed.getD j true = listed.getD j false := fun j hj => by
      simp [Array.getD_eq_getD_getElem?, Array.getElem?_eq_getElem (hsz ▸ hj)]
    by_cases hpre : ∀ (j : Nat) (q : Oper), j < m → ops[j]? = some q → listed.getD j false = true
    · have hmn : ops.size - m ≤ fuel + 1 := by
        refine Nat.le_trans ?_ hf
        have : ((List.range ops.size).drop m).length ≤ ((List.range ops.size).filter fun j => !listed.getD j false).length := by
          refine (List.Sublist.length_le ?_)
          have h1 : (List.range ops.size).drop m = ((List.range ops.size).drop m).filter fun j => !listed.getD j false := by
            refine (List.filter_eq_self.2 fun j hj => ?_).symm
            obtain ⟨i, hi, hij⟩ := List.mem_iff_getElem.1 hj
            simp at hij
            rw [hLm j (by omega)]
            rfl
          rw [h1]
          exact (List.drop_sublist _ _).filter _
        simpa using this
      exact tail_any hD hT hn hQ (ops.toList.drop m) m (fuel + 1) listed a e w (Nat.le_refl _) (fun j => by simp) hsz (fun j hj => by
        rcases Nat.lt_or_ge j m with h1 | h1
        · rw [hpre j _ h1 (Array.getElem?_eq_getElem hj)]; simp [h1]
        · rw [hLm j h1]; simp; omega) (by simp; omega) (by simpa using hmn) hr (ht.2 hpre)
    refine ⟨fun hnil => ?_, fun i hi => ?_⟩
    · refine absurd (fun j q _ hq => ?_) hpre
      -- the least that has not run is ready
      have key : ∀ m j (q : Oper), j ≤ m → ops[j]? = some q → listed.getD j false = true := by
        intro m
        induction m with
        | zero =>
          intro j q hj hq
          obtain rfl : j = 0 := by omega
          cases h : listed.getD 0 false with
          | true => rfl
          | false =>
            have : 0 ∈ Region.ready .any ops listed := mem_ready.2 ⟨by rw [same 0 (Array.getElem?_eq_some_iff.1 hq).1]; exact h, q, hq, fun ed hed hb => absurd (hD.lt 0 q hq ed.on (hD.bind 0 q hq ed.on (List.mem_filterMap.2 ⟨ed, by simpa using hed, by rw [if_pos hb]⟩))) (Nat.not_lt_zero _)⟩
            rw [hnil] at this
            cases this
        | succ m ihm =>
          intro j q hj hq
          by_cases hjm : j ≤ m
          · exact ihm j q hjm hq
          · cases h : listed.getD j false with
            | true => rfl
            | false =>
              have : j ∈ Region.ready .any ops listed := mem_ready.2 ⟨by rw [same j (Array.getElem?_eq_some_iff.1 hq).1]; exact h, q, hq, fun ed hed hb => by
                have h1 := hD.bind j q hq ed.on (List.mem_filterMap.2 ⟨ed, by simpa using hed, by rw [if_pos hb]⟩)
                have h2 := hD.lt j q hq ed.on h1
                have h3 := (Array.getElem?_eq_some_iff.1 hq).1
                exact ihm ed.on _ (by omega) (Array.getElem?_eq_getElem (show ed.on < ops.size by omega))⟩
              rw [hnil] at this
              cases this
      exact key j j q (Nat.le_refl _) hq
    · obtain ⟨h1, o, ho, h2⟩ := mem_ready.1 hi
      have hi' := (Array.getElem?_eq_some_iff.1 ho).1
      have hLi : listed.getD i false = false := (same i hi').symm.trans h1
      have hdone : ∀ x ∈ D.getD i [], listed.getD x false = true := by
        have hb : ∀ x ∈ binding o, listed.getD x false = true := by
          intro x hx
          obtain ⟨ed, hed, hh⟩ := List.mem_filterMap.1 hx
          by_cases hb : Region.binds .any ed = true
          · rw [if_pos hb] at hh
            injection hh with hh
            subst hh
            exact h2 ed (by simpa using hed) hb
          · rw [if_neg hb] at hh
            cases hh
        intro x hx
        rcases hD.dep i o ho x hx with h3 | ⟨j, hj, hxj⟩
        · exact hb x h3
        · have hjs : j < ops.size := by
            have := hD.lt i o ho j (hD.bind i o ho j hj)
            omega
          exact hI.shut j _ (Array.getElem?_eq_getElem hjs) (hb j hj) x hxj
      have him : i < m := by
        rcases Nat.lt_or_ge i m with h3 | h3
        · exact h3
        · exact absurd (fun j q hjm hq => hdone j (hT i o ho h3 j (by omega))) hpre
      have hex := ht.1 i o (Nat.zero_le _) him ho hLi hdone
      have hreads := seen_depH hD hI ho hLi
      have hnot : ∀ j, listed.getD j false = true → (j < ops.size) → i ∉ D.getD j [] := fun j hj hjs hh => by
        have := hI.shut j _ (Array.getElem?_eq_getElem hjs) hj i hh
        simp only [hLi] at this
        cases this
      have hself : i ∉ D.getD i [] := fun hh => absurd (hD.lt i o ho i hh) (Nat.lt_irrefl _)
      -- the invariant behind operation i
      have next : ∀ v w', Ext w w' → okvH P B ops D Phi e0 w0 i o (upO e o.dst v) w' → InvH P B Ext ops D Phi e0 w0 (fun j => (listed.setIfInBounds i true).getD j false) (upO e o.dst v) w' := by
        intro v w' hx hnew
        refine ⟨htr _ _ _ hI.ext hx, ?_, ?_, ?_⟩
        · intro s hs
          have hne : o.dst ≠ some s := fun hd => by
            have := hs i o ho hd
            simp only [set_get (hsz ▸ hi'), if_pos] at this
            cases this
          have h0 := hI.old s fun j q hq hqs => by
            have := hs j q hq hqs
            simp only [set_get (hsz ▸ hi')] at this ⊢
            split at this
            · cases this
            · exact this
          cases hd : o.dst with
          | none => simpa [upO] using h0
          | some d =>
            rw [hd] at hne
            simp only [upO, up]
            rw [if_neg (fun h => hne (by rw [h]))]
            exact h0
        · intro j q hq hj x hx'
          simp only [set_get (hsz ▸ hi')] at hj ⊢
          split
          · rfl
          · split at hj
            · rename_i hji
              subst hji
              exact hdone x hx'
            · exact hI.shut j q hq hj x hx'
        · intro j q hq hj
          simp only [set_get (hsz ▸ hi')] at hj
          by_cases hji : j = i
          · subst hji
            obtain rfl : q = o := by rw [hq] at ho; injection ho
            exact hnew
          · rw [if_neg hji] at hj
            have h0 := hI.okay j q hq hj
            have hjs := (Array.getElem?_eq_some_iff.1 hq).1
            unfold okvH at h0 ⊢
            rw [seen_put hD ho (hnot j hj hjs)]
            have hval : valOf q (upO e o.dst v) = valOf q e := by
              unfold valOf
              cases hqd : q.dst with
              | none => rfl
              | some d =>
                cases hod : o.dst with
                | none => rfl
                | some d' =>
                  simp only [upO, up]
                  rw [if_neg (fun hh => hD.dst i o j q ho hq hji d' hod (by rw [hqd, hh]))]
            rw [hval]
            rw [guard_ite] at h0 ⊢
            by_cases hwn : wants q.guard ops (seen ops D e0 j e) = true
            · rw [if_pos hwn] at h0 ⊢
              cases hp : Phi j with
              | none => simpa only [hp] using h0
              | some Φ =>
                simp only [hp] at h0 ⊢
                exact hst j Φ hp _ _ _ _ hx h0
            · rw [if_neg hwn] at h0 ⊢
              exact h0
      have hlen : ((List.range ops.size).filter fun j => !(listed.setIfInBounds i true).getD j false).length ≤ fuel := by
        have hsub : ((List.range ops.size).filter fun j => !(listed.setIfInBounds i true).getD j false) = ((List.range ops.size).filter fun j => !listed.getD j false).filter (fun j => !(j == i)) := by
          rw [List.filter_filter]
          apply List.filter_congr
          intro j _
          rw [set_get (hsz ▸ hi')]
          by_cases hji : j = i
          · simp [hji]
          · simp [hji]
        have hmem : i ∈ (List.range ops.size).filter fun j => !listed.getD j false := List.mem_filter.2 ⟨List.mem_range.2 hi', by rw [hLi]; rfl⟩
        rw [hsub]
        have : (((List.range ops.size).filter fun j => !listed.getD j false).filter fun j => !(j == i)).length < ((List.range ops.size).filter fun j => !listed.getD j false).length := by
          refine List.length_filter_lt_length_iff_exists.2 ⟨i, hmem, by simp⟩
        omega
      have hnd := hn o (by rw [Array.mem_iff_getElem?]; exact ⟨i, ho⟩)
      unfold wpOp
      simp only [ho]
      rw [wanted_eq hr]
      have hgs : wants o.guard ops (seen ops D e0 i e) = wants o.guard ops e := wants_of hreads
      have hsz' : (listed.setIfInBounds i true).size = ops.size := by simpa using hsz
      have hLm' : ∀ j, m ≤ j → (listed.setIfInBounds i true).getD j false = false := fun j hj => by
        rw [set_get (hsz ▸ hi'), if_neg (by omega)]
        exact hLm j hj
      by_cases hwn : wants o.guard ops e = true
      · rw [if_pos hwn]
        refine .inl ?_
        have hex := hex hwn
        cases hp : Phi i with
        | none =>
          simp only [hp] at hex
          obtain ⟨v, hval⟩ := hex
          refine op_wp (K := fun u w' => u = v ∧ w' = w) hr ?_ ?_
          · rw [hval w (hBe _ hI.ext)]
            exact ⟨rfl, rfl⟩
          · rintro u w' ⟨rfl, rfl⟩
            refine ih _ _ _ _ hsz' (hr.put _ hnd u) (next u w' (hrf _) ?_) hLm' hlen
            unfold okvH
            rw [seen_put hD ho hself, guard_ite, hgs, if_pos hwn]
            simp only [hp]
            have : valOf o (upO e o.dst u) = u ∨ o.dst = none := by
              unfold valOf
              cases o.dst with
              | none => exact .inr rfl
              | some d => exact .inl (by simp [upO, up])
            rcases this with h3 | h3
            · refine .inr ?_
              rw [h3]
              intro w1 hb
              rw [execOp_congr (hD.sel i o ho) (ev_congr (ops := ops) hreads)]
              exact hval w1 hb
            · exact .inl h3
        | some Φ =>
          simp only [hp] at hex
          refine op_wp hr hex ?_
          rintro v w' ⟨hx, hphi⟩
          refine ih _ _ _ _ hsz' (hr.put _ hnd v) (next v w' hx ?_) hLm' hlen
          unfold okvH
          rw [seen_put hD ho hself, guard_ite, hgs, if_pos hwn]
          simp only [hp]
          have : valOf o (upO e o.dst v) = nz o v := by
            unfold valOf nz
            cases o.dst with
            | none => rfl
            | some d => simp [upO, up]
          rw [this, given_congr (ops := ops) hreads]
          exact hphi
      · rw [if_neg hwn]
        refine ih _ _ _ _ hsz' (hr.put _ hnd undef) (next undef w (hrf _) ?_) hLm' hlen
        unfold okvH
        rw [seen_put hD ho hself, guard_ite, hgs, if_neg hwn]
        unfold valOf
        cases o.dst with
        | none => rfl
        | some d => simp [upO, up]

theorem draw_rgH {id : Nat} {K : Env → World → Prop} (B : Nat) (Ext : World → World → Prop) (D : List (List Nat)) (Phi : Nat → Option Fact) (hm : P.follows .mixedOrders = true) (hD : okD ops D = true)
    (htr : ∀ a b c, Ext a b → Ext b c → Ext a c) (hrf : ∀ a, Ext a a) (hdr : Ext w0 { w0 with drawn := w0.drawn + 1 }) (hBe : ∀ b, Ext w0 b → Below B w0 b)
    (hst : ∀ k Φ, Phi k = some Φ → ∀ g v a b, Ext a b → Φ g v a → Φ g v b)
    (m : Nat) (hT : okT ops D m = true) (hv : vcH P B Ext ops D Phi w0 0 (ops.toList.take m) e0 [] fun e w => opsP P ops (ops.toList.drop m) e w K) : drawP P id ops e0 w0 K := by
  intro n a hd hr
  refine wp_region_any hm ?_
  refine any_ofH (okD_spec hD) htr hrf hst hBe (okT_spec hT).2 (okT_spec hT).1 hd (fun a e w hr hk => ⟨e, hr, rfl, hk⟩) hv ops.size _ a e0 _ (by simp) hr ⟨hdr, fun _ _ => rfl, ?_, ?_⟩ (fun j _ => by simp [Array.getD_eq_getD_getElem?, Array.getElem?_replicate]; split <;> rfl) ?_
  · intro i o ho hi
    simp [Array.getD_eq_getD_getElem?, Array.getElem?_replicate] at hi
    split at hi <;> simp at hi
  · intro i o ho hi
    simp [Array.getD_eq_getD_getElem?, Array.getElem?_replicate] at hi
    split at hi <;> simp at hi
  · exact Nat.le_trans (List.length_filter_le _ _) (by simp)
end
def stepH (P : Program) (B : Nat) (Ext : World → World → Prop) (D : List (List Nat)) (w0 : World) (k : Nat) (o : Oper) (e : Env) (Γ : List (Nat × (World → Prop))) (N : Value → List (Nat × (World → Prop)) → Prop) (Φ : Option Fact) : Prop :=
  match Φ with
  | none => opV P B o e w0 fun v => N v Γ
  | some Φ => (∀ w1, Ext w0 w1 → (∀ x ∈ Γ, x.1 ∈ D.getD k [] → x.2 w1) → opP P o e w1 fun v w2 => Ext w1 w2 ∧ Φ (given o e) (nz o v) w2) ∧ After (fun v => ∃ w', Ext w0 w' ∧ (∀ x ∈ Γ, x.2 w') ∧ Φ (given o e) v w') fun v => N v (Γ ++ [(k, Φ (given o e) v)])
def lookH : List (Nat × Fact) → Nat → Option Fact
  | [], _ => none
  | (j, Φ) :: r, k => if k = j then some Φ else lookH r k
section
variable (P : Program) (B : Nat) (Ext : World → World → Prop) (ops : Array Oper) (D : List (List Nat)) (Phi : Nat → Option Fact) (w0 : World) (k : Nat) (e : Env) (Γ : List (Nat × (World → Prop))) (K : Env → World → Prop)
theorem h_nil : vcH P B Ext ops D Phi w0 k [] e Γ K = ∀ w', Ext w0 w' → (∀ x ∈ Γ, x.2 w') → K e w' := propext Iff.rfl
theorem h_cons (d : Option Nat) (op : Op) (t : TypeId) (p : String) (af : Array Edge) (r : List Oper) :
    vcH P B Ext ops D Phi w0 k (⟨d, op, t, p, af, none⟩ :: r) e Γ K = stepH P B Ext D w0 k ⟨d, op, t, p, af, none⟩ e Γ (fun v G => vcH P B Ext ops D Phi w0 (k + 1) r (upO e d v) G K) (Phi k) := by
  conv => lhs; unfold vcH
  simp only [guardP, stepH]
  try (cases Phi k <;> rfl)
theorem h_guard (d : Option Nat) (op : Op) (t : TypeId) (p : String) (af : Array Edge) (g : Nat × Bool) (r : List Oper) :
    vcH P B Ext ops D Phi w0 k (⟨d, op, t, p, af, some g⟩ :: r) e Γ K = guardP (some g) ops e (fun e => stepH P B Ext D w0 k ⟨d, op, t, p, af, none⟩ e Γ (fun v G => vcH P B Ext ops D Phi w0 (k + 1) r (upO e d v) G K) (Phi k)) (fun e => vcH P B Ext ops D Phi w0 (k + 1) r (upO e d undef) Γ K) := by
  conv => lhs; unfold vcH
  congr 1
theorem h_none (o : Oper) (N : Value → List (Nat × (World → Prop)) → Prop) : stepH P B Ext D w0 k o e Γ N none = opV P B o e w0 fun v => N v Γ := propext Iff.rfl
theorem h_some (o : Oper) (N : Value → List (Nat × (World → Prop)) → Prop) (Φ : Fact) : stepH P B Ext D w0 k o e Γ N (some Φ) =
    ((∀ w1, Ext w0 w1 → (∀ x ∈ Γ, x.1 ∈ D.getD k [] → x.2 w1) → opP P o e w1 fun v w2 => Ext w1 w2 ∧ Φ (given o e) (nz o v) w2) ∧ After (fun v => ∃ w', Ext w0 w' ∧ (∀ x ∈ Γ, x.2 w') ∧ Φ (given o e) v w') (Stop (fun v => N v (Γ ++ [(k, Φ (given o e) v)])) .mk)) := propext Iff.rfl
theorem lookH_nil : lookH [] k = none := rfl
theorem lookH_cons (j : Nat) (Φ : Fact) (r : List (Nat × Fact)) : lookH ((j, Φ) :: r) k = if k = j then some Φ else lookH r k := rfl
end
end Go.Proofs.RV
