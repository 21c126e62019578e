/-
  Texts that the law stands on, part 6.
-/
import Derived.Test.YtofhbonnojooeaaGreatKPoliceBoxed5
import Derived.Deep.DeepAppendWide
namespace Go.Proofs.RV
open Go Go.RowKit
set_option linter.unusedSimpArgs false
set_option linter.unusedVariables false
def given (o : Oper) (e : Env) : List Value := o.op.operands.toList.map (ev e)
theorem given_store (d : Option Nat) (T : TypeId) (x v : Operand) (t : TypeId) (p : String) (af : Array Edge) (g : Option (Nat × Bool)) (e : Env) : given ⟨d, .store T x v, t, p, af, g⟩ e = [ev e x, ev e v] := by
  simp [given, Op.operands]
theorem given_congr {ops : Array Oper} {o : Oper} {e e' : Env} (h : ∀ s ∈ slotsOf o ++ guardSlot ops o, e s = e' s) : given o e = given o e' := by
  unfold given
  exact List.map_congr_left (ev_congr (ops := ops) h)
abbrev Fact := List Value → Value → World → Prop
def vcH (P : Program) (B : Nat) (Ext : World → World → Prop) (ops : Array Oper) (D : List (List Nat)) (Phi : Nat → Option Fact) (w0 : World) :
    Nat → List Oper → Env → List (Nat × (World → Prop)) → (Env → World → Prop) → Prop
  | _, [], e, Γ, K => ∀ w', Ext w0 w' → (∀ x ∈ Γ, x.2 w') → K e w'
  | k, o :: r, e, Γ, K => guardP o.guard ops e
      (fun e => match Phi k with
        | none => opV P B o e w0 fun v => vcH P B Ext ops D Phi w0 (k + 1) r (upO e o.dst v) Γ K
        | some Φ => (∀ w1, Ext w0 w1 → (∀ x ∈ Γ, x.1 ∈ D.getD k [] → x.2 w1) → opP P o e w1 fun v w2 => Ext w1 w2 ∧ Φ (given o e) (nz o v) w2) ∧
            ∀ v, (∃ w', Ext w0 w' ∧ (∀ x ∈ Γ, x.2 w') ∧ Φ (given o e) v w') → vcH P B Ext ops D Phi w0 (k + 1) r (upO e o.dst v) (Γ ++ [(k, Φ (given o e) v)]) K)
      (fun e => vcH P B Ext ops D Phi w0 (k + 1) r (upO e o.dst undef) Γ K)

section
variable {P : Program} {B : Nat}
variable {Ext : World → World → Prop} {ops : Array Oper} {D : List (List Nat)} {Phi : Nat → Option Fact} {e0 : Env} {w0 : World}
def okvH (P : Program) (B : Nat) (ops : Array Oper) (D : List (List Nat)) (Phi : Nat → Option Fact) (e0 : Env) (w0 : World) (j : Nat) (o : Oper) (e : Env) (w : World) : Prop :=
  guardP o.guard ops (seen ops D e0 j e) (fun _ => match Phi j with
    | none => o.dst = none ∨ Val P B o (ev (seen ops D e0 j e)) w0 (valOf o e)
    | some Φ => Φ (given o (seen ops D e0 j e)) (valOf o e) w) (fun _ => valOf o e = undef)

structure InvH (P : Program) (B : Nat) (Ext : World → World → Prop) (ops : Array Oper) (D : List (List Nat)) (Phi : Nat → Option Fact) (e0 : Env) (w0 : World) (L : Nat → Bool) (e : Env) (w : World) : Prop where
  ext : Ext w0 w
  old : ∀ s, (∀ (i : Nat) (q : Oper), ops[i]? = some q → q.dst = some s → L i = false) → e s = e0 s
  shut : ∀ (i : Nat) (o : Oper), ops[i]? = some o → L i = true → ∀ x ∈ D.getD i [], L x = true
  okay : ∀ (i : Nat) (o : Oper), ops[i]? = some o → L i = true → okvH P B ops D Phi e0 w0 i o e w

theorem seen_depH {L : Nat → Bool} {e : Env} {w : World} (hD : OkD ops D) (hI : InvH P B Ext ops D Phi e0 w0 L e w) {i : Nat} {o : Oper} (ho : ops[i]? = some o) (hi : L i = false) :
    ∀ s ∈ slotsOf o ++ guardSlot ops o, seen ops D e0 i e s = e s := by
  intro s hs
  unfold seen
  split
  · rfl
  · rename_i hno
    refine (hI.old s ?_).symm
    intro k q hk hq
    rcases hD.read i o ho s hs k q hk hq with h | h
    · exact absurd ⟨k, h, q, hk, hq⟩ hno
    · cases hL : L k with
      | false => rfl
      | true =>
        have := hI.shut k q hk hL i h
        rw [hi] at this
        cases this
def ExecH (P : Program) (B : Nat) (Ext : World → World → Prop) (ops : Array Oper) (Phi : Nat → Option Fact) (w0 : World) (i : Nat) (o : Oper) (e : Env) (w : World) : Prop :=
  wants o.guard ops e = true → match Phi i with
    | none => ∃ v, Val P B o (ev e) w0 v
    | some Φ => Ends P ((execOp (ev e) o).run P w) fun v w2 => Ext w w2 ∧ Φ (given o e) (nz o v) w2

theorem travH (hD : OkD ops D) (htr : ∀ a b c, Ext a b → Ext b c → Ext a c) (hrf : ∀ a, Ext a a) (hst : ∀ k Φ, Phi k = some Φ → ∀ g v a b, Ext a b → Φ g v a → Φ g v b)
    {L : Nat → Bool} {e : Env} {w : World} (hI : InvH P B Ext ops D Phi e0 w0 L e w) {K : Env → World → Prop}
    {m : Nat} (hLm : ∀ j, m ≤ j → L j = false) :
    ∀ (l : List Oper) (k : Nat) (h : Env) (Γ : List (Nat × (World → Prop))) (wh : World), (∀ j, l[j]? = if k + j < m then ops[k + j]? else none) → k ≤ m → vcH P B Ext ops D Phi w0 k l h Γ K →
      (∀ s, (∀ (j : Nat) (q : Oper), j < k → ops[j]? = some q → q.dst ≠ some s) → h s = e0 s) →
      (∀ (j : Nat) (o : Oper), j < k → ops[j]? = some o → L j = true → ∀ d, o.dst = some d → h d = e d) →
      (∀ x ∈ Γ, (x.1 < k ∧ ∃ q : Oper, ops[x.1]? = some q) ∧ x.2 wh ∧ (L x.1 = true → x.2 w) ∧ ∀ a b, Ext a b → x.2 a → x.2 b) → Ext w wh →
      (∀ (i : Nat) (o : Oper), k ≤ i → i < m → ops[i]? = some o → L i = false → (∀ x ∈ D.getD i [], L x = true) → ExecH P B Ext ops Phi w0 i o e w) ∧
      ((∀ (j : Nat) (q : Oper), j < m → ops[j]? = some q → L j = true) → K e w)
  | [], k, h, Γ, wh, hl, hkm, hv, t1, t2, t3, hw => by
    have hk : ∀ (j : Nat) (q : Oper), j < m → ops[j]? = some q → j < k := by
      intro j q hjm hq
      rcases Nat.lt_or_ge j k with h1 | h1
      · exact h1
      · have := hl (j - k)
        rw [show k + (j - k) = j by omega, if_pos hjm, hq] at this
        cases this
    refine ⟨fun i o hki him ho => ?_, fun hall => ?_⟩
    · have := hk i o him ho
      omega
    · have he : h = e := by
        funext s
        by_cases hs : ∃ (j : Nat) (q : Oper), j < m ∧ ops[j]? = some q ∧ q.dst = some s
        · obtain ⟨j, q, hjm, hq, hqs⟩ := hs
          exact t2 j q (hk j q hjm hq) hq (hall j q hjm hq) s hqs
        · have h2 : e s = e0 s := hI.old s fun j q hq hqs => by
            rcases Nat.lt_or_ge j m with h1 | h1
            · exact absurd ⟨j, q, h1, hq, hqs⟩ hs
            · exact hLm j h1
          rw [h2]
          refine t1 s fun j q hj hq hqs => ?_
          rcases Nat.lt_or_ge j m with h1 | h1
          · exact hs ⟨j, q, h1, hq, hqs⟩
          · omega
      subst he
      refine hv w hI.ext fun x hx => (t3 x hx).2.2.1 ?_
      obtain ⟨⟨h1, q, hq⟩, _⟩ := t3 x hx
      exact hall _ _ (by omega) hq
  | o :: r, k, h, Γ, wh, hl, hkm, hv, t1, t2, t3, hw => by
    have hokm : k < m ∧ ops[k]? = some o := by simpa using (hl 0).symm
    have hok := hokm.2
    have hkm' : k + 1 ≤ m := hokm.1
    have hl' : ∀ j, r[j]? = if k + 1 + j < m then ops[k + 1 + j]? else none := fun j => by
      have := hl (j + 1)
      rw [show k + (j + 1) = k + 1 + j by omega] at this
      simpa using this
    have hwh : Ext w0 wh := htr _ _ _ hI.ext hw
    -- what k reads is in the walk's frame asv k saw it, if all that it waits for has run
    have hread : (∀ x ∈ D.getD k [], L x = true) → ∀ s ∈ slotsOf o ++ guardSlot ops o, h s = seen ops D e0 k e s := by
      intro hdone s hs
      unfold seen
      split
      · rename_i hyes
        obtain ⟨k', hk', q, hq, hqs⟩ := hyes
        exact t2 k' q (hD.lt k o hok k' hk') hq (hdone k' hk') s hqs
      · rename_i hno
        refine t1 s fun j q hj hq hqs => ?_
        rcases hD.read k o hok s hs j q hq hqs with h1 | h1
        · exact hno ⟨j, h1, q, hq, hqs⟩
        · have := hD.lt j q hq k h1; omega
    -- one step on: the frame with a value v for k
    have step1 : ∀ v, ∀ s, (∀ (j : Nat) (q : Oper), j < k + 1 → ops[j]? = some q → q.dst ≠ some s) → upO h o.dst v s = e0 s := by
      intro v s hs
      have hne := hs k o (by omega) hok
      have h0 := t1 s fun j q hj hq => hs j q (by omega) hq
      cases hd : o.dst with
      | none => simpa [upO] using h0
      | some d =>
        rw [hd] at hne
        simp only [upO, up]
        rw [if_neg (fun h => hne (by rw [h]))]
        exact h0
    have step2 : ∀ v, (L k = true → ∀ d, o.dst = some d → v = e d) → ∀ (j : Nat) (q : Oper), j < k + 1 → ops[j]? = some q → L j = true → ∀ d, q.dst = some d → upO h o.dst v d = e d := by
      intro v hv j q hj hq hLj d hd
      by_cases hjk : j = k
      · subst hjk
        obtain rfl : q = o := by rw [hq] at hok; injection hok
        have hv1 : v = e d := hv hLj d hd
        rw [hd]
        simp [upO, up, hv1]
      · have h0 := t2 j q (by omega) hq hLj d hd
        cases hdo : o.dst with
        | none => simpa [upO] using h0
        | some d' =>
          have hne : d ≠ d' := fun hh => hD.dst k o j q hok hq hjk d' hdo (by rw [hd, hh])
          simp only [upO, up]
          rw [if_neg hne]
          exact h0
    have mono3 : ∀ x ∈ Γ, (x.1 < k + 1 ∧ ∃ q : Oper, ops[x.1]? = some q) ∧ x.2 wh ∧ (L x.1 = true → x.2 w) ∧ ∀ a b, Ext a b → x.2 a → x.2 b := fun x hx => by
      obtain ⟨⟨h1, h2⟩, h3⟩ := t3 x hx
      exact ⟨⟨by omega, h2⟩, h3⟩
    unfold vcH at hv
    rw [guard_ite] at hv
    cases hLk : L k with
    | true =>
      have hdone := hI.shut k o hok hLk
      have hrd := hread hdone
      have hw1 : wants o.guard ops h = wants o.guard ops (seen ops D e0 k e) := wants_of hrd
      have hokv := hI.okay k o hok hLk
      unfold okvH at hokv
      rw [guard_ite, ← hw1] at hokv
      have back : (∀ (i : Nat) (o' : Oper), k + 1 ≤ i → i < m → ops[i]? = some o' → L i = false → (∀ x ∈ D.getD i [], L x = true) → ExecH P B Ext ops Phi w0 i o' e w) ∧ ((∀ (j : Nat) (q : Oper), j < m → ops[j]? = some q → L j = true) → K e w) →
          (∀ (i : Nat) (o' : Oper), k ≤ i → i < m → ops[i]? = some o' → L i = false → (∀ x ∈ D.getD i [], L x = true) → ExecH P B Ext ops Phi w0 i o' e w) ∧ ((∀ (j : Nat) (q : Oper), j < m → ops[j]? = some q → L j = true) → K e w) := by
        rintro ⟨b1, b2⟩
        refine ⟨fun i o' hki him ho' hLi => ?_, b2⟩
        by_cases hik : i = k
        · subst hik; rw [hLk] at hLi; cases hLi
        · exact b1 i o' (by omega) him ho' hLi
      refine back ?_
      by_cases hwant : wants o.guard ops h = true
      · rw [if_pos hwant] at hv hokv
        cases hp : Phi k with
        | none =>
          simp only [hp] at hv hokv
          obtain ⟨v, hval, hv⟩ := opV_sound hv
          have hvv : ∀ d, o.dst = some d → v = e d := by
            intro d hd
            rcases hokv with hokv | hokv
            · rw [hokv] at hd; cases hd
            · have hval' : Val P B o (ev h) w0 (valOf o e) := by
                intro w1 hb
                rw [execOp_congr (hD.sel k o hok) (ev_congr (ops := ops) hrd)]
                exact hokv w1 hb
              rw [val_unique hval hval']
              unfold valOf
              rw [hd]
          exact travH hD htr hrf hst hI hLm r (k + 1) _ Γ wh hl' hkm' hv (step1 v) (step2 v fun _ => hvv) mono3 hw
        | some Φ =>
          simp only [hp] at hv hokv
          rw [← given_congr (ops := ops) hrd] at hokv
          refine travH hD htr hrf hst hI hLm r (k + 1) _ _ wh hl' hkm' (hv.2 (valOf o e) ⟨wh, hwh, fun x hx => (t3 x hx).2.1, hst k Φ hp _ _ _ _ hw hokv⟩) (step1 _) (step2 _ fun _ d hd => by unfold valOf; rw [hd]) ?_ hw
          intro x hx
          rcases List.mem_append.1 hx with hx | hx
          · exact mono3 x hx
          · obtain rfl := List.mem_singleton.1 hx
            exact ⟨⟨by simp, o, hok⟩, hst k Φ hp _ _ _ _ hw hokv, fun _ => hokv, fun a b hab hh => hst k Φ hp _ _ _ _ hab hh⟩
      · rw [if_neg hwant] at hv hokv
        exact travH hD htr hrf hst hI hLm r (k + 1) _ Γ wh hl' hkm' hv (step1 _) (step2 _ fun _ d hd => by unfold valOf at hokv; rw [hd] at hokv; exact hokv.symm) mono3 hw
    | false =>
      have here : (∀ x ∈ D.getD k [], L x = true) → ExecH P B Ext ops Phi w0 k o e w := by
        intro hdone hwant
        have hrd : ∀ s ∈ slotsOf o ++ guardSlot ops o, h s = e s := fun s hs => (hread hdone s hs).trans (seen_depH hD hI hok hLk s hs)
        rw [← wants_of hrd] at hwant
        rw [if_pos hwant] at hv
        have hex : execOp (ev h) o = execOp (ev e) o := execOp_congr (hD.sel k o hok) (ev_congr (ops := ops) hrd)
        cases hp : Phi k with
        | none =>
          simp only [hp] at hv
          obtain ⟨v, hval, _⟩ := opV_sound hv
          refine ⟨v, fun w1 hb => ?_⟩
          rw [← hex]
          exact hval w1 hb
        | some Φ =>
          simp only [hp] at hv
          show Ends P ((execOp (ev e) o).run P w) fun v w2 => Ext w w2 ∧ Φ (given o e) (nz o v) w2
          rw [← hex, ← given_congr (ops := ops) hrd]
          exact op_sound (hv.1 w hI.ext fun x hx hxd => (t3 x hx).2.2.1 (hdone _ hxd))
      have back : (∀ (i : Nat) (o' : Oper), k + 1 ≤ i → i < m → ops[i]? = some o' → L i = false → (∀ x ∈ D.getD i [], L x = true) → ExecH P B Ext ops Phi w0 i o' e w) ∧ ((∀ (j : Nat) (q : Oper), j < m → ops[j]? = some q → L j = true) → K e w) →
          (∀ (i : Nat) (o' : Oper), k ≤ i → i < m → ops[i]? = some o' → L i = false → (∀ x ∈ D.getD i [], L x = true) → ExecH P B Ext ops Phi w0 i o' e w) ∧ ((∀ (j : Nat) (q : Oper), j < m → ops[j]? = some q → L j = true) → K e w) := by
        rintro ⟨b1, b2⟩
        refine ⟨fun i o' hki him ho' hLi hdone => ?_, b2⟩
        by_cases hik : i = k
        · subst hik
          obtain rfl : o' = o := by rw [ho'] at hok; injection hok
          exact here hdone
        · exact b1 i o' (by omega) him ho' hLi hdone
      refine back ?_
      by_cases hwant : wants o.guard ops h = true
      · rw [if_pos hwant] at hv
        cases hp : Phi k with
        | none =>
          simp only [hp] at hv
          obtain ⟨v, _, hv⟩ := opV_sound hv
          exact travH hD htr hrf hst hI hLm r (k + 1) _ Γ wh hl' hkm' hv (step1 v) (step2 v fun hh => by rw [hLk] at hh; cases hh) mono3 hw
        | some Φ =>
          simp only [hp] at hv
          obtain ⟨v, w2, hx2, hphi⟩ := op_exists (hv.1 wh hwh fun x hx _ => (t3 x hx).2.1)
          refine travH hD htr hrf hst hI hLm r (k + 1) _ _ w2 hl' hkm' (hv.2 _ ⟨w2, htr _ _ _ hwh hx2, fun x hx => (t3 x hx).2.2.2 _ _ hx2 (t3 x hx).2.1, hphi⟩) (step1 _) (step2 _ fun hh => by rw [hLk] at hh; cases hh) ?_ (htr _ _ _ hw hx2)
          intro x hx
          rcases List.mem_append.1 hx with hx | hx
          · obtain ⟨h1, h2, h3, h4⟩ := mono3 x hx
            exact ⟨h1, h4 _ _ hx2 h2, h3, h4⟩
          · obtain rfl := List.mem_singleton.1 hx
            exact ⟨⟨by simp, o, hok⟩, hphi, fun hh => (by simp only at hh; rw [hLk] at hh; cases hh), fun a b hab hh => hst k Φ hp _ _ _ _ hab hh⟩
      · rw [if_neg hwant] at hv
        exact travH hD htr hrf hst hI hLm r (k + 1) _ Γ wh hl' hkm' hv (step1 _) (step2 _ fun hh => by rw [hLk] at hh; cases hh) mono3 hw

theorem any_ofH (hD : OkD ops D) (htr : ∀ a b c, Ext a b → Ext b c → Ext a c) (hrf : ∀ a, Ext a a) (hst : ∀ k Φ, Phi k = some Φ → ∀ g v a b, Ext a b → Φ g v a → Φ g v b) (hBe : ∀ b, Ext w0 b → Below B w0 b)
    {n m : Nat} (hT : ∀ (i : Nat) (o : Oper), ops[i]? = some o → m ≤ i → ∀ j, j < i → j ∈ D.getD i []) (hm : m ≤ ops.size) {K : Env → World → Prop} {Q : Exit → Act → World → Prop} (hn : ∀ o ∈ ops, ∀ t, o.dst = some t → t < n) (hQ : ∀ a e w, Rep n a e → K e w → Q .normal a w)
    (hv : vcH P B Ext ops D Phi w0 0 (ops.toList.take m) e0 [] fun e w => opsP P ops (ops.toList.drop m) e w K) :
    ∀ (fuel : Nat) (listed : Array Bool) (a : Act) (e : Env) (w : World), listed.size = ops.size → Rep n a e → InvH P B Ext ops D Phi e0 w0 (fun j => listed.getD j false) e w → (∀ j, m ≤ j → listed.getD j false = false) →
      ((List.range ops.size).filter fun j => !listed.getD j false).length ≤ fuel → wpAny P .any ops Q fuel listed a w := by
  have htake : ∀ j, (ops.toList.take m)[j]? = if 0 + j < m then ops[0 + j]? else none := fun j => by
    rw [List.getElem?_take, Nat.zero_add]
    simp
  intro fuel
  induction fuel with
  | zero =>
    intro listed a e w hsz hr hI hLm hf
    have hall : ∀ j, j < ops.size → listed.getD j false = true := by
      intro j hj
      cases h : listed.getD j false with
      | true => rfl
      | false =>
        have : j ∈ (List.range ops.size).filter fun j => !listed.getD j false := List.mem_filter.2 ⟨List.mem_range.2 hj, by rw [h]; rfl⟩
        rw [List.eq_nil_of_length_eq_zero (Nat.le_zero.1 hf)] at this
        cases this
    have ht := (travH hD htr hrf hst hI hLm (ops.toList.take m) 0 e0 [] w htake (Nat.zero_le _) hv (fun _ _ => rfl) (fun j o hj => absurd hj (Nat.not_lt_zero _)) (fun x hx => by cases hx) (hrf _)).2 (fun j q _ hq => hall j (Array.getElem?_eq_some_iff.1 hq).1)
    have hms : m = ops.size := by
      rcases Nat.lt_or_ge m ops.size with h1 | h1
      · have := hLm m (Nat.le_refl _)
        rw [hall m h1] at this
        cases this
      · omega
    exact tail_any hD hT hn hQ (ops.toList.drop m) m 0 listed a e w (Nat.le_refl _) (fun j => by simp) hsz (fun j hj => by rw [hall j hj]; simp; omega) (by simp; omega) (by simp; omega) hr ht
  | succ fuel ih =>
    intro listed a e w hsz hr hI hLm hf
    have ht := travH hD htr hrf hst hI hLm (ops.toList.take m) 0 e0 [] w htake (Nat.zero_le _) hv (fun _ _ => rfl) (fun j o hj => absurd hj (Nat.not_lt_zero _)) (fun x hx => by cases hx) (hrf _)
    have same : ∀ j, j < ops.size → listed.getD j true = listed.getD j false := fun j hj => by
      simp [Array.getD_eq_getD_getElem?, Array.getElem?_eq_getElem (hsz ▸ hj)]
    by_cases hpre : ∀ (j : Nat) (q : Oper), j < m → ops[j]? = some q → listed.getD j false = true
    · have hmn : ops.size - m ≤ fuel + 1 := by
        refine Nat.le_trans ?_ hf
        have : ((List.range ops.size).drop m).length ≤ ((List.range ops.size).filter fun j => !listed.getD j false).length := by
          refine (List.Sublist.length_le ?_)
          have h1 : (List.range ops.size).drop m = ((List.range ops.size).drop m).filter fun j => !listed.getD j false := by
            refine (List.filter_eq_self.2 fun j hj => ?_).symm
            obtain ⟨i, hi, hij⟩ := List.mem_iff_getElem.1 hj
            simp at hij
            rw [hLm j (by omega)]
            rfl
          rw [h1]
          exact (List.drop_sublist _ _).filter _
        simpa using this
      exact tail_any hD hT hn hQ (ops.toList.drop m) m (fuel + 1) listed a e w (Nat.le_refl _) (fun j => by simp) hsz (fun j hj => by
        rcases Nat.lt_or_ge j m with h1 | h1
        · rw [hpre j _ h1 (Array.getElem?_eq_getElem hj)]; simp [h1]
        · rw [hLm j h1]; simp; omega) (by simp; omega) (by simpa using hmn) hr (ht.2 hpre)
    refine ⟨fun hnil => ?_, fun i hi => ?_⟩
    · refine absurd (fun j q _ hq => ?_) hpre
      -- the least that has not run is ready
      have key : ∀ m j (q : Oper), j ≤ m → ops[j]? = some q → listed.getD j false = true := by
        intro m
        induction m with
        | zero =>
          intro j q hj hq
          obtain rfl : j = 0 := by omega
          cases h : listed.getD 0 false with
          | true => rfl
          | false =>
            have : 0 ∈ Region.ready .any ops listed := mem_ready.2 ⟨by rw [same 0 (Array.getElem?_eq_some_iff.1 hq).1]; exact h, q, hq, fun ed hed hb => absurd (hD.lt 0 q hq ed.on (hD.bind 0 q hq ed.on (List.mem_filterMap.2 ⟨ed, by simpa using hed, by rw [if_pos hb]⟩))) (Nat.not_lt_zero _)⟩
            rw [hnil] at this
            cases this
        | succ m ihm =>
          intro j q hj hq
          by_cases hjm : j ≤ m
          · exact ihm j q hjm hq
          · cases h : listed.getD j false with
            | true => rfl
            | false =>
              have : j ∈ Region.ready .any ops listed := mem_ready.2 ⟨by rw [same j (Array.getElem?_eq_some_iff.1 hq).1]; exact h, q, hq, fun ed hed hb => by
                have h1 := hD.bind j q hq ed.on (List.mem_filterMap.2 ⟨ed, by simpa using hed, by rw [if_pos hb]⟩)
                have h2 := hD.lt j q hq ed.on h1
                have h3 := (Array.getElem?_eq_some_iff.1 hq).1
                exact ihm ed.on _ (by omega) (Array.getElem?_eq_getElem (show ed.on < ops.size by omega))⟩
              rw [hnil] at this
              cases this
      exact key j j q (Nat.le_refl _) hq
    · obtain ⟨h1, o, ho, h2⟩ := mem_ready.1 hi
      have hi' := (Array.getElem?_eq_some_iff.1 ho).1
      have hLi : listed.getD i false = false := (same i hi').symm.trans h1
      have hdone : ∀ x ∈ D.getD i [], listed.getD x false = true := by
        have hb : ∀ x ∈ binding o, listed.getD x false = true := by
          intro x hx
          obtain ⟨ed, hed, hh⟩ := List.mem_filterMap.1 hx
          by_cases hb : Region.binds .any ed = true
          · rw [if_pos hb] at hh
            injection hh with hh
            subst hh
            exact h2 ed (by simpa using hed) hb
          · rw [if_neg hb] at hh
            cases hh
        intro x hx
        rcases hD.dep i o ho x hx with h3 | ⟨j, hj, hxj⟩
        · exact hb x h3
        · have hjs : j < ops.size := by
            have := hD.lt i o ho j (hD.bind i o ho j hj)
            omega
          exact hI.shut j _ (Array.getElem?_eq_getElem hjs) (hb j hj) x hxj
      have him : i < m := by
        rcases Nat.lt_or_ge i m with h3 | h3
        · exact h3
        · exact absurd (fun j q hjm hq => hdone j (hT i o ho h3 j (by omega))) hpre
      have hex := ht.1 i o (Nat.zero_le _) him ho hLi hdone
      have hreads := seen_depH hD hI ho hLi
      have hnot : ∀ j, listed.getD j false = true → (j < ops.size) → i ∉ D.getD j [] := fun j hj hjs hh => by
        have := hI.shut j _ (Array.getElem?_eq_getElem hjs) hj i hh
        simp only [hLi] at this
        cases this
      have hself : i ∉ D.getD i [] := fun hh => absurd (hD.lt i o ho i hh) (Nat.lt_irrefl _)
      -- the invariant behind operation i
      have next : ∀ v w', Ext w w' → okvH P B ops D Phi e0 w0 i o (upO e o.dst v) w' → InvH P B Ext ops D Phi e0 w0 (fun j => (listed.setIfInBounds i true).getD j false) (upO e o.dst v) w' := by
        intro v w' hx hnew
        refine ⟨htr _ _ _ hI.ext hx, ?_, ?_, ?_⟩
        · intro s hs
          have hne : o.dst ≠ some s := fun hd => by
            have := hs i o ho hd
            simp only [set_get (hsz ▸ hi'), if_pos] at this
            cases this
          have h0 := hI.old s fun j q hq hqs => by
            have := hs j q hq hqs
            simp only [set_get (hsz ▸ hi')] at this ⊢
            split at this
            · cases this
            · exact this
          cases hd : o.dst with
          | none => simpa [upO] using h0
          | some d =>
            rw [hd] at hne
            simp only [upO, up]
            rw [if_neg (fun h => hne (by rw [h]))]
            exact h0
        · intro j q hq hj x hx'
          simp only [set_get (hsz ▸ hi')] at hj ⊢
          split
          · rfl
          · split at hj
            · rename_i hji
              subst hji
              exact hdone x hx'
            · exact hI.shut j q hq hj x hx'
        · intro j q hq hj
          simp only [set_get (hsz ▸ hi')] at hj
          by_cases hji : j = i
          · subst hji
            obtain rfl : q = o := by rw [hq] at ho; injection ho
            exact hnew
          · rw [if_neg hji] at hj
            have h0 := hI.okay j q hq hj
            have hjs := (Array.getElem?_eq_some_iff.1 hq).1
            unfold okvH at h0 ⊢
            rw [seen_put hD ho (hnot j hj hjs)]
            have hval : valOf q (upO e o.dst v) = valOf q e := by
              unfold valOf
              cases hqd : q.dst with
              | none => rfl
              | some d =>
                cases hod : o.dst with
                | none => rfl
                | some d' =>
                  simp only [upO, up]
                  rw [if_neg (fun hh => hD.dst i o j q ho hq hji d' hod (by rw [hqd, hh]))]
            rw [hval]
            rw [guard_ite] at h0 ⊢
            by_cases hwn : wants q.guard ops (seen ops D e0 j e) = true
            · rw [if_pos hwn] at h0 ⊢
              cases hp : Phi j with
              | none => simpa only [hp] using h0
              | some Φ =>
                simp only [hp] at h0 ⊢
                exact hst j Φ hp _ _ _ _ hx h0
            · rw [if_neg hwn] at h0 ⊢
              exact h0
      have hlen : ((List.range ops.size).filter fun j => !(listed.setIfInBounds i true).getD j false).length ≤ fuel := by
        have hsub : ((List.range ops.size).filter fun j => !(listed.setIfInBounds i true).getD j false) = ((List.range ops.size).filter fun j => !listed.getD j false).filter (fun j => !(j == i)) := by
          rw [List.filter_filter]
          apply List.filter_congr
          intro j _
          rw [set_get (hsz ▸ hi')]
          by_cases hji : j = i
          · simp [hji]
          · simp [hji]
        have hmem : i ∈ (List.range ops.size).filter fun j => !listed.getD j false := List.mem_filter.2 ⟨List.mem_range.2 hi', by rw [hLi]; rfl⟩
        rw [hsub]
        have : (((List.range ops.size).filter fun j => !listed.getD j false).filter fun j => !(j == i)).length < ((List.range ops.size).filter fun j => !listed.getD j false).length := by
          refine List.length_filter_lt_length_iff_exists.2 ⟨i, hmem, by simp⟩
        omega
      have hnd := hn o (by rw [Array.mem_iff_getElem?]; exact ⟨i, ho⟩)
      unfold wpOp
      simp only [ho]
      rw [wanted_eq hr]
      have hgs : wants o.guard ops (seen ops D e0 i e) = wants o.guard ops e := wants_of hreads
      have hsz' : (listed.setIfInBounds i true).size = ops.size := by simpa using hsz
      have hLm' : ∀ j, m ≤ j → (listed.setIfInBounds i true).getD j false = false := fun j hj => by
        rw [set_get (hsz ▸ hi'), if_neg (by omega)]
        exact hLm j hj
      by_cases hwn : wants o.guard ops e = true
      · rw [if_pos hwn]
        refine .inl ?_
        have hex := hex hwn
        cases hp : Phi i with
        | none =>
          simp only [hp] at hex
          obtain ⟨v, hval⟩ := hex
          refine op_wp (K := fun u w' => u = v ∧ w' = w) hr ?_ ?_
          · rw [hval w (hBe _ hI.ext)]
            exact ⟨rfl, rfl⟩
          · rintro u w' ⟨rfl, rfl⟩
            refine ih _ _ _ _ hsz' (hr.put _ hnd u) (next u w' (hrf _) ?_) hLm' hlen
            unfold okvH
            rw [seen_put hD ho hself, guard_ite, hgs, if_pos hwn]
            simp only [hp]
            have : valOf o (upO e o.dst u) = u ∨ o.dst = none := by
              unfold valOf
              cases o.dst with
              | none => exact .inr rfl
              | some d => exact .inl (by simp [upO, up])
            rcases this with h3 | h3
            · refine .inr ?_
              rw [h3]
              intro w1 hb
              rw [execOp_congr (hD.sel i o ho) (ev_congr (ops := ops) hreads)]
              exact hval w1 hb
            · exact .inl h3
        | some Φ =>
          simp only [hp] at hex
          refine op_wp hr hex ?_
          rintro v w' ⟨hx, hphi⟩
          refine ih _ _ _ _ hsz' (hr.put _ hnd v) (next v w' hx ?_) hLm' hlen
          unfold okvH
          rw [seen_put hD ho hself, guard_ite, hgs, if_pos hwn]
          simp only [hp]
          have : valOf o (upO e o.dst v) = nz o v := by
            unfold valOf nz
            cases o.dst with
            | none => rfl
            | some d => simp [upO, up]
          rw [this, given_congr (ops := ops) hreads]
          exact hphi
      · rw [if_neg hwn]
        refine ih _ _ _ _ hsz' (hr.put _ hnd undef) (next undef w (hrf _) ?_) hLm' hlen
        unfold okvH
        rw [seen_put hD ho hself, guard_ite, hgs, if_neg hwn]
        unfold valOf
        cases o.dst with
        | none => rfl
        | some d => simp [upO, up]

theorem draw_rgH {id : Nat} {K : Env → World → Prop} (B : Nat) (Ext : World → World → Prop) (D : List (List Nat)) (Phi : Nat → Option Fact) (hm : P.follows .mixedOrders = true) (hD : okD ops D = true)
    (htr : ∀ a b c, Ext a b → Ext b c → Ext a c) (hrf : ∀ a, Ext a a) (hdr : Ext w0 { w0 with drawn := w0.drawn + 1 }) (hBe : ∀ b, Ext w0 b → Below B w0 b)
    (hst : ∀ k Φ, Phi k = some Φ → ∀ g v a b, Ext a b → Φ g v a → Φ g v b)
    (m : Nat) (hT : okT ops D m = true) (hv : vcH P B Ext ops D Phi w0 0 (ops.toList.take m) e0 [] fun e w => opsP P ops (ops.toList.drop m) e w K) : drawP P id ops e0 w0 K := by
  intro n a hd hr
  refine wp_region_any hm ?_
  refine any_ofH (okD_spec hD) htr hrf hst hBe (okT_spec hT).2 (okT_spec hT).1 hd (fun a e w hr hk => ⟨e, hr, rfl, hk⟩) hv ops.size _ a e0 _ (by simp) hr ⟨hdr, fun _ _ => rfl, ?_, ?_⟩ (fun j _ => by simp [Array.getD_eq_getD_getElem?, Array.getElem?_replicate]; split <;> rfl) ?_
  · intro i o ho hi
    simp [Array.getD_eq_getD_getElem?, Array.getElem?_replicate] at hi
    split at hi <;> simp at hi
  · intro i o ho hi
    simp [Array.getD_eq_getD_getElem?, Array.getElem?_replicate] at hi
    split at hi <;> simp at hi
  · exact Nat.le_trans (List.length_filter_le _ _) (by simp)
end
def stepH (P : Program) (B : Nat) (Ext : World → World → Prop) (D : List (List Nat)) (w0 : World) (k : Nat) (o : Oper) (e : Env) (Γ : List (Nat × (World → Prop))) (N : Value → List (Nat × (World → Prop)) → Prop) (Φ : Option Fact) : Prop :=
  match Φ with
  | none => opV P B o e w0 fun v => N v Γ
  | some Φ => (∀ w1, Ext w0 w1 → (∀ x ∈ Γ, x.1 ∈ D.getD k [] → x.2 w1) → opP P o e w1 fun v w2 => Ext w1 w2 ∧ Φ (given o e) (nz o v) w2) ∧ After (fun v => ∃ w', Ext w0 w' ∧ (∀ x ∈ Γ, x.2 w') ∧ Φ (given o e) v w') fun v => N v (Γ ++ [(k, Φ (given o e) v)])
def lookH : List (Nat × Fact) → Nat → Option Fact
  | [], _ => none
  | (j, Φ) :: r, k => if k = j then some Φ else lookH r k
section
variable (P : Program) (B : Nat) (Ext : World → World → Prop) (ops : Array Oper) (D : List (List Nat)) (Phi : Nat → Option Fact) (w0 : World) (k : Nat) (e : Env) (Γ : List (Nat × (World → Prop))) (K : Env → World → Prop)
theorem h_cons (d : Option Nat) (op : Op) (t : TypeId) (p : String) (af : Array Edge) (r : List Oper) :
    vcH P B Ext ops D Phi w0 k (⟨d, op, t, p, af, none⟩ :: r) e Γ K = stepH P B Ext D w0 k ⟨d, op, t, p, af, none⟩ e Γ (fun v G => vcH P B Ext ops D Phi w0 (k + 1) r (upO e d v) G K) (Phi k) := by
  conv => lhs; unfold vcH
  simp only [guardP, stepH]
  try (cases Phi k <;> rfl)
theorem h_guard (d : Option Nat) (op : Op) (t : TypeId) (p : String) (af : Array Edge) (g : Nat × Bool) (r : List Oper) :
    vcH P B Ext ops D Phi w0 k (⟨d, op, t, p, af, some g⟩ :: r) e Γ K = guardP (some g) ops e (fun e => stepH P B Ext D w0 k ⟨d, op, t, p, af, none⟩ e Γ (fun v G => vcH P B Ext ops D Phi w0 (k + 1) r (upO e d v) G K) (Phi k)) (fun e => vcH P B Ext ops D Phi w0 (k + 1) r (upO e d undef) Γ K) := by
  conv => lhs; unfold vcH
  congr 1
theorem h_some (o : Oper) (N : Value → List (Nat × (World → Prop)) → Prop) (Φ : Fact) : stepH P B Ext D w0 k o e Γ N (some Φ) =
    ((∀ w1, Ext w0 w1 → (∀ x ∈ Γ, x.1 ∈ D.getD k [] → x.2 w1) → opP P o e w1 fun v w2 => Ext w1 w2 ∧ Φ (given o e) (nz o v) w2) ∧ After (fun v => ∃ w', Ext w0 w' ∧ (∀ x ∈ Γ, x.2 w') ∧ Φ (given o e) v w') (Stop (fun v => N v (Γ ++ [(k, Φ (given o e) v)])) .mk)) := propext Iff.rfl
theorem lookH_nil : lookH [] k = none := rfl
theorem lookH_cons (j : Nat) (Φ : Fact) (r : List (Nat × Fact)) : lookH ((j, Φ) :: r) k = if k = j then some Φ else lookH r k := rfl
end
set_option linter.defProp false
def zvN := (And.intro (And.intro (And.intro (And.intro (And.intro (And.intro (And.intro @c_loop @c_skip) (And.intro @c_draw (And.intro @c_seq @c_block))) (And.intro (And.intro @c_exit (And.intro @c_ret @n_normal)) (And.intro @n_exit (And.intro @n_ret @b_normal)))) (And.intro (And.intro (And.intro @b_exit (And.intro @b_ret @dx)) (And.intro @f_normal (And.intro @f_ret @l_nil))) (And.intro (And.intro @l_tmp (And.intro @l_cell @g_some)) (And.intro @g_slot (And.intro @gx_t @gx_f))))) (And.intro (And.intro (And.intro (And.intro @g_undef (And.intro @o_move @o_assign)) (And.intro @o_pick (And.intro @o_binOp @o_unOp))) (And.intro (And.intro @o_convert (And.intro @o_load @o_store)) (And.intro @o_alloc (And.intro @o_box @o_build)))) (And.intro (And.intro (And.intro @o_buildSlice (And.intro @o_nilCheck @o_fieldAddr)) (And.intro @o_indexAddr (And.intro @o_slice @o_extract))) (And.intro (And.intro @o_field (And.intro @o_index @o_makeSlice)) (And.intro @o_makeInterface (And.intro @o_makeFunc @o_makeMap)))))) (And.intro (And.intro (And.intro (And.intro (And.intro @o_lookup @o_mapUpdate) (And.intro @o_call (And.intro @o_blt @i_add))) (And.intro (And.intro @i_sub (And.intro @i_mul @i_and)) (And.intro @i_or (And.intro @i_xor @i_eql)))) (And.intro (And.intro (And.intro @i_neq (And.intro @i_lss @i_leq)) (And.intro @i_gtr (And.intro @i_geq @i_quo))) (And.intro (And.intro @i_rem (And.intro @i_shl @i_shr)) (And.intro @b_eql (And.intro @b_neq @t_eql))))) (And.intro (And.intro (And.intro (And.intro @t_neq (And.intro @t_add @p_eql)) (And.intro @p_neq (And.intro @l_eql @l_neq))) (And.intro (And.intro @a_bin (And.intro @u_not @u_neg)) (And.intro @kx (And.intro @v_int @vq_int)))) (And.intro (And.intro (And.intro @v_ok (And.intro @v_slice @vq_slice)) (And.intro @v_agg (And.intro @m_load @m_loadq))) (And.intro (And.intro @hc_int (And.intro @lc_int @e_int)) (And.intro @hc_bool (And.intro @lc_bool @e_bool))))))) (And.intro (And.intro (And.intro (And.intro (And.intro (And.intro @hc_string @lc_string) (And.intro @e_string (And.intro @hc_pointer @lc_pointer))) (And.intro (And.intro @e_pointer (And.intro @hc_slice @lc_slice)) (And.intro @e_slice (And.intro @h_struct @e_struct)))) (And.intro (And.intro (And.intro @h_array (And.intro @e_array @h_map)) (And.intro @e_map (And.intro @h_func @e_func))) (And.intro (And.intro @h_iface (And.intro @e_iface @m_store)) (And.intro @m_alloc (And.intro @m_new @m_nil))))) (And.intro (And.intro (And.intro (And.intro @m_field (And.intro @m_faO @m_faF)) (And.intro @x_slice (And.intro @x_array @x_ixO))) (And.intro (And.intro @x_iyO (And.intro @s_slice @s_array)) (And.intro @s_slO (And.intro @s_spO @n_none)))) (And.intro (And.intro (And.intro @n_int (And.intro @x_tuple @x_some)) (And.intro @z_len (And.intro @z_cap @z_min))) (And.intro (And.intro @z_max (And.intro @z_append @z_copy)) (And.intro @z_clear (And.intro @z_delete @zq_len)))))) (And.intro (And.intro (And.intro (And.intro (And.intro @zq_lens @zq_min) (And.intro @zq_max (And.intro @y_slice @y_ok))) (And.intro (And.intro @y_min (And.intro @y_max @s1_int)) (And.intro @s2_int (And.intro @s1_bool @s2_bool)))) (And.intro (And.intro (And.intro @s1_string (And.intro @s2_string @s1_pointer)) (And.intro @s2_pointer (And.intro @s1_slice @s2_slice))) (And.intro (And.intro @s1_agg (And.intro @s2_agg @s1_tuple)) (And.intro @s2_tuple (And.intro @s1_undef @s1_map))))) (And.intro (And.intro (And.intro (And.intro @s2_map (And.intro @s1_func @s2_func)) (And.intro @s1_nilFunc (And.intro @s2_nilFunc @s1_iface))) (And.intro (And.intro @s2_iface (And.intro @s1_nilIface @s2_nilIface)) (And.intro @s1_up (And.intro @s2_up @s1_hv)))) (And.intro (And.intro (And.intro @s2_hv (And.intro @s1_init @s2_init)) (And.intro @s3_any (And.intro @zp_cons @zp_none))) (And.intro (And.intro @zp_guard (And.intro @zp_guardN @zp_nil)) (And.intro @zc_cond (And.intro @zc_bool @zc_region))))))))
theorem run_app_wide {P : Program} {t ty e : TypeId} {i : TypeInfo} {z : Value} {B n c m c2 : Nat} {A : Option Addr} {ad : Addr} {xs news : List Value} {w : World} (ht : P.underlying t = some (.slice e)) (hi : P.info? e = some i) (hz : i.zero = some z) (hzs : z.cells.size = i.size) (hsz : 0 < i.size)
    (hown : Own w B e i.size A n c xs) (hl : news.length = m * i.size) (hnews : ∀ (j : Nat) (u : Value), news[j]? = some u → w.cell? (ad.add j) = some u) (h1 : ∀ u ∈ news, u.oneCell' = true) (h63 : n + m ≤ maxLen) (hbytes : ((n + m) + (n + m) / 4 + 192) * i.bytes ≤ 281474976710656) (hB : B ≤ w.heap.size) :
    ∃ v' w', (Builtin.append_ #[t, t] ty #[.slice A n c, .slice (some ad) m c2]).run P w = .ok v' w' ∧ w'.ownsRow B e i.size v' (n + m) (xs ++ news) ∧ w.grownBy w' (Value.slice A n c).ownBlock ∧ (v'.ownBlock = (Value.slice A n c).ownBlock ∨ v'.ownBlock = some w.heap.size) := by
  have hlen : (xs ++ news).length = (n + m) * i.size := by rw [List.length_append, hown.1, hl, Nat.add_mul]
  have hmx : n + m ≤ 9223372036854775807 := by simp only [maxLen] at h63; omega
  have made : ∀ old, old < n + m → ∀ row,
      (w.drew.alloc (.cells (xs.toArray ++ news.toArray ++ Builtin.zeroCells z.cells (grownCap w (n + m) old e - (n + m))) e)).ownsRow B e i.size (.slice (some ⟨w.heap.size, 0, none⟩) (n + m) (grownCap w (n + m) old e)) (n + m) (xs ++ news) ∧
      w.grownBy (w.drew.alloc (.cells (xs.toArray ++ news.toArray ++ Builtin.zeroCells z.cells (grownCap w (n + m) old e - (n + m))) e)) row := by
    intro old ho row
    have hge := grownCap_ge w (n + m) old e
    refine ⟨⟨hlen, .inr ⟨w.heap.size, _, _, rfl, hB, heap_alloc_new w.drew _, hge, grownCap_le_maxLen w (n + m) old e h63, ?_, ?_⟩⟩, ⟨rfl, rfl, rfl, by simp, fun k hk _ => heap_alloc_old w.drew _ (by simpa using hk)⟩⟩
    · simp only [Array.size_append, List.size_toArray, size_zeroCells, hzs, hown.1, hl, ← Nat.add_mul]
      congr 1
      omega
    · simp only [Array.toList_append, List.append_assoc]
      rw [← List.append_assoc, ← hlen]
      exact List.take_left
  rcases hown.2 with ⟨hv, rfl⟩ | ⟨g, cap, cur, hv, hbg, hg, hnc, hcm, hcs, htake⟩
  · cases hv
    have hx : xs = [] := List.eq_nil_of_length_eq_zero (by simpa using hown.1)
    subst hx
    by_cases hm : m = 0
    · subst hm
      have hn : news = [] := List.eq_nil_of_length_eq_zero (by simpa using hl)
      subst hn
      refine ⟨.slice none 0 0, w, ?_, hown, World.grownBy.refl w _, .inl rfl⟩
      simp [Builtin.append_, run_underlying ht, sizeOf, typeInfo, hi, Builtin.lenOf, Builtin.firstCells, loadCells, loadCellsFrom]
    · have hr := run_append_nil (P := P) w t ty e i z ht hi hz ad m c2 news hl hnews (by omega) (by omega) (by simp only [Nat.zero_add] at hbytes; exact Nat.le_trans (Nat.mul_le_mul_right _ (by omega)) hbytes)
      have hgr := made 0 (by omega) (Value.ownBlock (.slice none 0 0))
      simp only [Nat.zero_add, List.nil_append, Array.empty_append] at hgr ⊢
      exact ⟨_, _, hr, hgr.1, hgr.2, .inr rfl⟩
  · cases hv
    by_cases hroom : n + m ≤ c
    · have hfit : n * i.size + news.length ≤ cur.size := by rw [hl, hcs, ← Nat.add_mul]; exact Nat.mul_le_mul_right _ hroom
      have hr := run_append_room (P := P) w t ty e i ht hi g n c cur hg ad m c2 news hl hnews h1 hroom hfit
      refine ⟨_, _, hr, ⟨hlen, .inr ⟨g, c, _, rfl, hbg, setRow_heap w g cur _ e _ hg, hroom, hcm, ?_, ?_⟩⟩, ⟨rfl, rfl, rfl, by simp, fun k _ hk => setRow_other w g k _ (fun e => hk (by simp [Value.ownBlock, e]))⟩, .inl rfl⟩
      · simp only [List.size_toArray, List.length_append, List.length_take, List.length_drop, Array.length_toList]
        omega
      · rw [htake, ← hlen]
        exact List.take_left
    · have holds : ∀ (j : Nat) (u : Value), xs[j]? = some u → w.cell? ((⟨g, 0, none⟩ : Addr).add j) = some u := by
        intro j u hu
        obtain ⟨a, ha, hc⟩ := Own.cs hown j u hu
        cases ha
        exact hc
      have hr := run_append_grow (P := P) w t ty e i z ht hi hz ⟨g, 0, none⟩ n c xs hown.1 holds ad m c2 news hl hnews (by omega) (by omega) (growslice_fits_wide (by omega) hbytes)
      have hgr := made c (by omega) (Value.ownBlock (.slice (some ⟨g, 0, none⟩) n c))
      exact ⟨_, _, hr, hgr.1, hgr.2, .inr rfl⟩
theorem app_wide {P : Program} {t ty e : TypeId} {z : Value} {size bytes B n c m c2 : Nat} {A A2 : Option Addr} {xs news : List Value} {w : World} {K : Value → World → Prop} (ht : P.underlying t = some (.slice e)) (hE : ElemT P e z size bytes) (hzs : z.cells.size = size) (hsz : 0 < size)
    (hown : Own w B e size A n c xs) (hsrc : Cs w A2 news) (hl : news.length = m * size) (h1 : ∀ u ∈ news, u.oneCell' = true) (h63 : n + m ≤ maxLen) (hbytes : ((n + m) + (n + m) / 4 + 192) * bytes ≤ 281474976710656) (hB : B ≤ w.heap.size)
    (hK : ∀ A' c' w', Own w' B e size A' (n + m) c' (xs ++ news) → Mod (atB A) w w' → (∀ k, atB A' k → atB A k ∨ k = w.heap.size) → K (.slice A' (n + m) c') w') :
    runP P (Builtin.append_ #[t, t] ty #[.slice A n c, .slice A2 m c2]) w K := by
  obtain ⟨i, hi, hz, hs, hby⟩ := info_parts hE
  have fin : ∀ v' w', w'.ownsRow B e size v' (n + m) (xs ++ news) → w.grownBy w' (Value.slice A n c).ownBlock → (v'.ownBlock = (Value.slice A n c).ownBlock ∨ v'.ownBlock = some w.heap.size) → K v' w' := by
    have last : ∀ A' c' w', Own w' B e size A' (n + m) c' (xs ++ news) → w.grownBy w' (Value.slice A n c).ownBlock → ((Value.slice A' (n + m) c').ownBlock = (Value.slice A n c).ownBlock ∨ (Value.slice A' (n + m) c').ownBlock = some w.heap.size) → K (.slice A' (n + m) c') w' := by
      intro A' c' w' ho hg hat
      refine hK A' c' w' ho (Mod.of_grown hg fun k hk => ownBlock_at.1 hk) fun k hk => ?_
      rcases hat with h | h
      · left
        exact (ownBlock_at (n := n) (c := c)).1 (by rw [← h]; exact ownBlock_at.2 hk)
      · right
        have := (ownBlock_at (n := n + m) (c := c')).2 hk
        rw [this] at h
        exact Option.some.inj h
    intro v' w' ho hg hat
    rcases ho.2 with ⟨hv, hn⟩ | ⟨g, cap, cur, hv, rest⟩
    · subst hv
      have e1 : (Value.slice none 0 0) = .slice none (n + m) 0 := by rw [hn]
      rw [e1] at ho hat ⊢
      exact last _ _ _ ho hg hat
    · subst hv
      exact last _ _ _ ho hg hat
  rcases A2 with _ | ad
  · have hn : news = [] := by
      cases news with
      | nil => rfl
      | cons u r =>
        obtain ⟨a, ha, _⟩ := hsrc 0 u (by simp)
        cases ha
    subst hn
    have hm : m = 0 := by
      have : m * size = 0 := by simpa using hl.symm
      rcases Nat.mul_eq_zero.1 this with h | h <;> omega
    subst hm
    exact ⟨.slice A n c, w, run_app_none ht hi hown, fin _ _ (by simpa using hown) (World.grownBy.refl w _) (.inl rfl)⟩
  · have hcells : ∀ (j : Nat) (u : Value), news[j]? = some u → w.cell? (ad.add j) = some u := by
      intro j u hu
      obtain ⟨a, ha, hc⟩ := hsrc j u hu
      injection ha with ha
      subst ha
      exact hc
    subst hs
    subst hby
    obtain ⟨v', w', hrun, h2, h3, h5⟩ := run_app_wide (P := P) (ty := ty) (c2 := c2) ht hi hz hzs hsz hown hl hcells h1 h63 hbytes hB
    exact ⟨v', w', hrun, fin _ _ h2 h3 h5⟩
theorem ldRow_eq {w : World} {a : Addr} {n : Nat} {cs : List Value} (hn : cs.length = n) (h : ∀ i, i < n → w.cell? (a.add i) = cs[i]?) (K : Value → Prop) : ldRow n a w K = K (.agg cs.toArray) := by
  apply propext
  constructor
  · rintro ⟨xs, hs, hx, hk⟩
    have : xs = cs.toArray := by
      apply Array.ext
      · rw [hs]; simp [hn]
      · intro i h1 h2
        have h3 := hx i (by omega)
        rw [h i (by omega)] at h3
        have h4 : i < cs.length := by simpa using h2
        rw [List.getElem?_eq_getElem h4, Array.getElem?_eq_getElem h1] at h3
        simpa using (Option.some.inj h3).symm
    rw [← this]
    exact hk
  · intro hk
    exact ⟨cs.toArray, by simp [hn], fun i hi => by rw [h i hi]; simp, hk⟩
section
variable {M : Type} {E : M → List Value} {s : Nat}
theorem Cs.rowEq {w : World} {a : Addr} {ms : List M} (hc : Cs w (some a) (ms.flatMap E)) (h : ∀ m ∈ ms, (E m).length = s) {i : Nat} {m : M} (hi : ms[i]? = some m) (K : Value → Prop) : ldRow s (a.add (i * s)) w K = K (.agg (E m).toArray) :=
  ldRow_eq (h m (List.mem_of_getElem? hi)) (fun j hj => hc.elemA h hi hj) K
theorem row_cut : ∀ (ms : List M), (∀ m ∈ ms, (E m).length = s) → ∀ (i : Nat) (m : M), ms[i]? = some m → ((ms.flatMap E).drop (i * s)).take s = E m
  | [], _, i, m, h => by cases h
  | x :: r, hl, 0, m, h => by
    cases h
    have := hl x (List.mem_cons_self ..)
    simp only [List.flatMap_cons, Nat.zero_mul, List.drop_zero]
    rw [← this, List.take_left]
  | x :: r, hl, i + 1, m, h => by
    have := hl x (List.mem_cons_self ..)
    simp only [List.flatMap_cons]
    rw [Nat.add_mul, Nat.one_mul, Nat.add_comm, ← List.drop_drop, ← this, List.drop_left, this]
    exact row_cut r (fun m hm => hl m (List.mem_cons_of_mem _ hm)) i m (by simpa using h)
theorem row_fits (ms : List M) (h : ∀ m ∈ ms, (E m).length = s) {i : Nat} (hi : i < ms.length) : i * s + s ≤ (ms.flatMap E).length := by
  rw [row_len ms h, ← Nat.succ_mul]
  exact Nat.mul_le_mul_right _ hi
end
def ValE (P : Program) (Ext : World → World → Prop) (o : Oper) (ρ : Operand → Value) (w : World) (v : Value) : Prop := ∀ w1, Ext w w1 → (execOp ρ o).run P w1 = .ok (.value v) w1
theorem valE_unique {P : Program} {Ext : World → World → Prop} {o : Oper} {ρ : Operand → Value} {w : World} {v v' : Value} (hr : Ext w w) (h : ValE P Ext o ρ w v) (h' : ValE P Ext o ρ w v') : v = v' := by
  have h1 := h w hr
  rw [h' w hr] at h1
  injection h1 with h1
  injection h1 with h1
  exact h1.symm
section
variable {P : Program} {Ext : World → World → Prop} {ops : Array Oper} {w0 : World}
def stepSK (P : Program) (Ext : World → World → Prop) (ops : Array Oper) (w0 : World) (f : Bool) (o : Oper) (e : Env) (w : World) (N : Env → World → Prop) : Prop :=
  if wants o.guard ops e = true then
    (if f = true then Ends P ((execOp (ev e) o).run P w) (fun v w' => Ext w0 w' ∧ N (upO e o.dst v) w') else ∃ v, ValE P Ext o (ev e) w0 v ∧ N (upO e o.dst v) w)
  else N (upO e o.dst undef) w
theorem stepS_monoK {f : Bool} {o : Oper} {e : Env} {w : World} {N N' : Env → World → Prop} (h : stepSK P Ext ops w0 f o e w N) (hN : ∀ e w, N e w → N' e w) : stepSK P Ext ops w0 f o e w N' := by
  unfold stepSK at *
  split at h
  · rename_i hw
    rw [if_pos hw]
    split at h
    · rename_i hf
      rw [if_pos hf]
      exact h.mono fun v w' ⟨h1, h2⟩ => ⟨h1, hN _ _ h2⟩
    · rename_i hf
      rw [if_neg hf]
      obtain ⟨v, h1, h2⟩ := h
      exact ⟨v, h1, hN _ _ h2⟩
  · rename_i hw
    rw [if_neg hw]
    exact hN _ _ h
def sqSK (P : Program) (Ext : World → World → Prop) (ops : Array Oper) (w0 : World) : List (Bool × Nat × Oper) → Env → World → (Env → World → Prop) → Prop
  | [], e, w, K => K e w
  | (f, _, o) :: r, e, w, K => stepSK P Ext ops w0 f o e w fun e w => sqSK P Ext ops w0 r e w K
theorem sqS_consK (f : Bool) (k : Nat) (o : Oper) (r : List (Bool × Nat × Oper)) (e : Env) (w : World) (K : Env → World → Prop) : sqSK P Ext ops w0 ((f, k, o) :: r) e w K = stepSK P Ext ops w0 f o e w fun e w => sqSK P Ext ops w0 r e w K := rfl
theorem Indep.valE {o q : Oper} (h : Indep ops o q) (e : Env) (v u : Value) : ValE P Ext o (ev (upO e q.dst v)) w0 u ↔ ValE P Ext o (ev e) w0 u := by
  unfold ValE
  rw [h.exec e v]
theorem swapK (hrf : Ext w0 w0) {o q : Oper} (h : Indep ops o q) {f g : Bool} (hfg : ¬ (f = true ∧ g = true)) {e : Env} {w : World} {N : Env → World → Prop}
    (hs : stepSK P Ext ops w0 g q e w fun e w => stepSK P Ext ops w0 f o e w N) : stepSK P Ext ops w0 f o e w fun e w => stepSK P Ext ops w0 g q e w N := by
  have h' := h.symm
  have comm : ∀ a b, upO (upO e q.dst a) o.dst b = upO (upO e o.dst b) q.dst a := fun a b => upO_comm h'.dd
  unfold stepSK at *
  simp only [h.wants, h'.wants, h.exec, h'.exec, h.valE, h'.valE] at *
  by_cases wq : wants q.guard ops e = true
  · simp only [wq, if_true] at *
    by_cases wo : wants o.guard ops e = true
    · simp only [wo, if_true] at *
      cases g with
      | true =>
        cases f with
        | true => exact absurd ⟨rfl, rfl⟩ hfg
        | false =>
          simp only [if_true, Bool.false_eq_true, if_false] at *
          obtain ⟨_, _, _, vo, hvo, _⟩ := hs.exists
          refine ⟨vo, hvo, hs.mono ?_⟩
          rintro v w' ⟨h1, vo', hvo', h2⟩
          rw [valE_unique hrf hvo hvo', ← comm]
          exact ⟨h1, h2⟩
      | false =>
        cases f with
        | true =>
          simp only [if_true, Bool.false_eq_true, if_false] at *
          obtain ⟨vq, hvq, h2⟩ := hs
          refine h2.mono ?_
          rintro v w' ⟨h3, h4⟩
          refine ⟨h3, vq, hvq, ?_⟩
          rw [← comm]
          exact h4
        | false =>
          simp only [Bool.false_eq_true, if_false] at *
          obtain ⟨vq, hvq, vo, hvo, h2⟩ := hs
          refine ⟨vo, hvo, vq, hvq, ?_⟩
          rw [← comm]
          exact h2
    · simp only [wo, Bool.false_eq_true, if_false] at *
      cases g with
      | true =>
        simp only [if_true] at *
        refine hs.mono ?_
        rintro v w' ⟨h1, h2⟩
        rw [← comm]
        exact ⟨h1, h2⟩
      | false =>
        simp only [Bool.false_eq_true, if_false] at *
        obtain ⟨vq, hvq, h2⟩ := hs
        refine ⟨vq, hvq, ?_⟩
        rw [← comm]
        exact h2
  · simp only [wq, Bool.false_eq_true, if_false] at *
    by_cases wo : wants o.guard ops e = true
    · simp only [wo, if_true] at *
      cases f with
      | true =>
        simp only [if_true] at *
        refine hs.mono ?_
        rintro v w' ⟨h1, h2⟩
        rw [← comm]
        exact ⟨h1, h2⟩
      | false =>
        simp only [Bool.false_eq_true, if_false] at *
        obtain ⟨vo, hvo, h2⟩ := hs
        refine ⟨vo, hvo, ?_⟩
        rw [← comm]
        exact h2
    · simp only [wo, Bool.false_eq_true, if_false] at *
      rw [← comm]
      exact hs
theorem frontK (hrf : Ext w0 w0) {f : Bool} {i : Nat} {o : Oper} {post : List (Bool × Nat × Oper)} {K : Env → World → Prop} : ∀ (pre : List (Bool × Nat × Oper)), (∀ x ∈ pre, Indep ops o x.2.2 ∧ ¬ (f = true ∧ x.1 = true)) → ∀ (e : Env) (w : World),
    sqSK P Ext ops w0 (pre ++ (f, i, o) :: post) e w K → sqSK P Ext ops w0 ((f, i, o) :: (pre ++ post)) e w K
  | [], _, e, w, hs => hs
  | (g, j, q) :: pre, h, e, w, hs => by
    have h0 := h (g, j, q) (List.mem_cons_self ..)
    have hs' : stepSK P Ext ops w0 g q e w fun e w => stepSK P Ext ops w0 f o e w fun e w => sqSK P Ext ops w0 (pre ++ post) e w K :=
      stepS_monoK (N := fun e w => sqSK P Ext ops w0 (pre ++ (f, i, o) :: post) e w K) hs fun e w hh => frontK hrf pre (fun x hx => h x (List.mem_cons_of_mem _ hx)) e w hh
    exact swapK hrf h0.1 h0.2 hs'
variable {D : List (List Nat)}
theorem any_seqK (hrf : Ext w0 w0) (hD : OkD ops D) {F : List Bool} (hF : okF D F = true) {n : Nat} {K : Env → World → Prop} {Q : Exit → Act → World → Prop} (hn : ∀ o ∈ ops, ∀ t, o.dst = some t → t < n) (hQ : ∀ a e w, Rep n a e → K e w → Q .normal a w) :
    ∀ (fuel : Nat) (listed : Array Bool) (a : Act) (e : Env) (w : World), listed.size = ops.size → Rep n a e → (∀ (i : Nat) (o : Oper), ops[i]? = some o → listed.getD i false = true → ∀ x ∈ D.getD i [], listed.getD x false = true) → Ext w0 w →
      sqSK P Ext ops w0 (rems F listed ops.toList.zipIdx) e w K → ((List.range ops.size).filter fun j => !listed.getD j false).length ≤ fuel → wpAny P .any ops Q fuel listed a w := by
  intro fuel
  induction fuel with
  | zero =>
    intro listed a e w hsz hr hsh hb hs hf
    have hall : ∀ j, j < ops.size → listed.getD j false = true := by
      intro j hj
      cases h : listed.getD j false with
      | true => rfl
      | false =>
        have : j ∈ (List.range ops.size).filter fun j => !listed.getD j false := List.mem_filter.2 ⟨List.mem_range.2 hj, by rw [h]; rfl⟩
        rw [List.eq_nil_of_length_eq_zero (Nat.le_zero.1 hf)] at this
        cases this
    have hrem : rems F listed ops.toList.zipIdx = [] := by
      unfold rems
      rw [List.filter_eq_nil_iff.2 fun x hx => ?_, List.map_nil]
      have := List.mem_zipIdx hx
      rw [hall x.2 (by simp at this; omega)]
      simp
    rw [hrem] at hs
    refine ⟨?_, hQ _ _ _ hr hs⟩
    refine List.eq_nil_iff_forall_not_mem.2 fun j hj => ?_
    obtain ⟨h1, o, ho, _⟩ := mem_ready.1 hj
    have hj' := (Array.getElem?_eq_some_iff.1 ho).1
    have h2 := hall j hj'
    simp only [Array.getD_eq_getD_getElem?, Array.getElem?_eq_getElem (hsz ▸ hj'), Option.getD_some] at h1 h2
    rw [h1] at h2
    cases h2
  | succ fuel ih =>
    intro listed a e w hsz hr hsh hb hs hf
    have same : ∀ j, j < ops.size → listed.getD j true = listed.getD j false := fun j hj => by
      simp [Array.getD_eq_getD_getElem?, Array.getElem?_eq_getElem (hsz ▸ hj)]
    refine ⟨fun hnil => ?_, fun i hi => ?_⟩
    · have key : ∀ m j (q : Oper), j ≤ m → ops[j]? = some q → listed.getD j false = true := by
        intro m
        induction m with
        | zero =>
          intro j q hj hq
          obtain rfl : j = 0 := by omega
          cases h : listed.getD 0 false with
          | true => rfl
          | false =>
            have : 0 ∈ Region.ready .any ops listed := mem_ready.2 ⟨by rw [same 0 (Array.getElem?_eq_some_iff.1 hq).1]; exact h, q, hq, fun ed hed hb => absurd (hD.lt 0 q hq ed.on (hD.bind 0 q hq ed.on (List.mem_filterMap.2 ⟨ed, by simpa using hed, by rw [if_pos hb]⟩))) (Nat.not_lt_zero _)⟩
            rw [hnil] at this
            cases this
        | succ m ihm =>
          intro j q hj hq
          by_cases hjm : j ≤ m
          · exact ihm j q hjm hq
          · cases h : listed.getD j false with
            | true => rfl
            | false =>
              have : j ∈ Region.ready .any ops listed := mem_ready.2 ⟨by rw [same j (Array.getElem?_eq_some_iff.1 hq).1]; exact h, q, hq, fun ed hed hb => by
                have h1 := hD.bind j q hq ed.on (List.mem_filterMap.2 ⟨ed, by simpa using hed, by rw [if_pos hb]⟩)
                have h2 := hD.lt j q hq ed.on h1
                have h3 := (Array.getElem?_eq_some_iff.1 hq).1
                exact ihm ed.on _ (by omega) (Array.getElem?_eq_getElem (show ed.on < ops.size by omega))⟩
              rw [hnil] at this
              cases this
      have hrem : rems F listed ops.toList.zipIdx = [] := by
        unfold rems
        rw [List.filter_eq_nil_iff.2 fun x hx => ?_, List.map_nil]
        have hx2 := List.mem_zipIdx hx
        have hlt : x.2 < ops.size := by simp at hx2; omega
        rw [key x.2 x.2 _ (Nat.le_refl _) (Array.getElem?_eq_getElem hlt)]
        simp
      rw [hrem] at hs
      exact hQ _ _ _ hr hs
    · obtain ⟨h1, o, ho, h2⟩ := mem_ready.1 hi
      have hi' := (Array.getElem?_eq_some_iff.1 ho).1
      have hLi : listed.getD i false = false := (same i hi').symm.trans h1
      have hdone : ∀ x ∈ D.getD i [], listed.getD x false = true := by
        have hb : ∀ x ∈ binding o, listed.getD x false = true := by
          intro x hx
          obtain ⟨ed, hed, hh⟩ := List.mem_filterMap.1 hx
          by_cases hb : Region.binds .any ed = true
          · rw [if_pos hb] at hh
            injection hh with hh
            subst hh
            exact h2 ed (by simpa using hed) hb
          · rw [if_neg hb] at hh
            cases hh
        intro x hx
        rcases hD.dep i o ho x hx with h3 | ⟨j, hj, hxj⟩
        · exact hb x h3
        · have hjs : j < ops.size := by
            have := hD.lt i o ho j (hD.bind i o ho j hj)
            omega
          exact hsh j _ (Array.getElem?_eq_getElem hjs) (hb j hj) x hxj
      -- the list, parted at i
      have hsplit : ops.toList.zipIdx = ops.toList.zipIdx.take i ++ (o, i) :: ops.toList.zipIdx.drop (i + 1) := by
        have hg : ops.toList.zipIdx[i]? = some (o, i) := by
          rw [List.getElem?_zipIdx]
          simp [ho]
        have hlt := (List.getElem?_eq_some_iff.1 hg).1
        conv => lhs; rw [← List.take_append_drop i ops.toList.zipIdx]
        rw [List.drop_eq_getElem_cons hlt]
        rw [(List.getElem?_eq_some_iff.1 hg).2]
      have hpre : ∀ x ∈ ops.toList.zipIdx.take i, x.2 < i ∧ ops[x.2]? = some x.1 := by
        intro x hx
        obtain ⟨k, hk⟩ := List.getElem?_of_mem hx
        rw [List.getElem?_take] at hk
        split at hk
        · rename_i hki
          rw [List.getElem?_zipIdx] at hk
          simp only [Option.map_eq_some_iff] at hk
          obtain ⟨y, hy, rfl⟩ := hk
          simp only [Nat.zero_add]
          exact ⟨hki, by simpa using hy⟩
        · cases hk
      have hpost : ∀ x ∈ ops.toList.zipIdx.drop (i + 1), x.2 ≠ i := by
        intro x hx
        obtain ⟨k, hk⟩ := List.getElem?_of_mem hx
        rw [List.getElem?_drop, List.getElem?_zipIdx] at hk
        simp only [Option.map_eq_some_iff] at hk
        obtain ⟨y, hy, rfl⟩ := hk
        simp only
        omega
      have hr1 : rems F listed ops.toList.zipIdx = rems F listed (ops.toList.zipIdx.take i) ++ (F.getD i false, i, o) :: rems F listed (ops.toList.zipIdx.drop (i + 1)) := by
        conv => lhs; rw [hsplit]
        unfold rems
        rw [List.filter_append, List.map_append, List.filter_cons_of_pos (by simp only [hLi]; rfl), List.map_cons]
      have hr2 : rems F (listed.setIfInBounds i true) ops.toList.zipIdx = rems F listed (ops.toList.zipIdx.take i) ++ rems F listed (ops.toList.zipIdx.drop (i + 1)) := by
        conv => lhs; rw [hsplit]
        rw [← rems_listed (F := F) (hsz ▸ hi') (ops.toList.zipIdx.take i) (fun x hx => by have := (hpre x hx).1; omega), ← rems_listed (F := F) (hsz ▸ hi') (ops.toList.zipIdx.drop (i + 1)) hpost]
        unfold rems
        rw [List.filter_append, List.map_append, List.filter_cons_of_neg (by simp only [set_get (hsz ▸ hi')]; simp)]
      rw [hr1] at hs
      have hs2 := frontK hrf (rems F listed (ops.toList.zipIdx.take i)) (fun x hx => by
        unfold rems at hx
        obtain ⟨y, hy, rfl⟩ := List.mem_map.1 hx
        obtain ⟨hy1, hy2⟩ := List.mem_filter.1 hy
        obtain ⟨hlt, hq⟩ := hpre y hy1
        have hyl : listed.getD y.2 false = false := by simpa using hy2
        have hnd : y.2 ∉ D.getD i [] := fun hh => by rw [hdone _ hh] at hyl; cases hyl
        have hnd2 : i ∉ D.getD y.2 [] := fun hh => by have := hD.lt y.2 _ hq i hh; omega
        refine ⟨⟨fun s hs hd => ?_, fun s hs hd => ?_, fun s hd => hD.dst i o y.2 _ ho hq (by omega) s hd, hD.sel i o ho, hD.sel y.2 _ hq⟩, fun hff => ?_⟩
        · rcases hD.read i o ho s hs y.2 _ hq hd with h5 | h5
          · exact hnd h5
          · exact hnd2 h5
        · rcases hD.read y.2 _ hq s hs i o ho hd with h5 | h5
          · exact hnd2 h5
          · exact hnd h5
        · exact hnd (okF_spec hF hff.2 hff.1 hlt)) e w hs
      rw [sqS_consK] at hs2
      rw [← hr2] at hs2
      have hlen : ((List.range ops.size).filter fun j => !(listed.setIfInBounds i true).getD j false).length ≤ fuel := by
        have hsub : ((List.range ops.size).filter fun j => !(listed.setIfInBounds i true).getD j false) = ((List.range ops.size).filter fun j => !listed.getD j false).filter (fun j => !(j == i)) := by
          rw [List.filter_filter]
          apply List.filter_congr
          intro j _
          rw [set_get (hsz ▸ hi')]
          by_cases hji : j = i
          · simp [hji]
          · simp [hji]
        have hmem : i ∈ (List.range ops.size).filter fun j => !listed.getD j false := List.mem_filter.2 ⟨List.mem_range.2 hi', by rw [hLi]; rfl⟩
        rw [hsub]
        have : (((List.range ops.size).filter fun j => !listed.getD j false).filter fun j => !(j == i)).length < ((List.range ops.size).filter fun j => !listed.getD j false).length := by
          refine List.length_filter_lt_length_iff_exists.2 ⟨i, hmem, by simp⟩
        omega
      have hsh' : ∀ (j : Nat) (q : Oper), ops[j]? = some q → (listed.setIfInBounds i true).getD j false = true → ∀ x ∈ D.getD j [], (listed.setIfInBounds i true).getD x false = true := by
        intro j q hq hj x hx
        rw [set_get (hsz ▸ hi')] at hj ⊢
        split
        · rfl
        · split at hj
          · rename_i hji
            subst hji
            exact hdone x hx
          · exact hsh j q hq hj x hx
      have hnd := hn o (by rw [Array.mem_iff_getElem?]; exact ⟨i, ho⟩)
      have next : ∀ v w', Ext w0 w' → sqSK P Ext ops w0 (rems F (listed.setIfInBounds i true) ops.toList.zipIdx) (upO e o.dst v) w' K → wpAny P .any ops Q fuel (listed.setIfInBounds i true) (a.put o.dst v) w' :=
        fun v w' hb' hh => ih _ _ _ _ (by simpa using hsz) (hr.put _ hnd v) hsh' hb' hh hlen
      unfold wpOp
      simp only [ho]
      rw [wanted_eq hr]
      unfold stepSK at hs2
      by_cases hw : wants o.guard ops e = true
      · rw [if_pos hw] at hs2 ⊢
        refine .inl ?_
        by_cases hff : F.getD i false = true
        · rw [if_pos hff] at hs2
          exact op_wp hr hs2 fun v w' ⟨h3, h4⟩ => next v w' h3 h4
        · rw [if_neg hff] at hs2
          obtain ⟨v, hval, h4⟩ := hs2
          refine op_wp (K := fun u w' => u = v ∧ w' = w) hr ?_ ?_
          · rw [hval w hb]
            exact ⟨rfl, rfl⟩
          · rintro u w' ⟨rfl, rfl⟩
            exact next u w' hb h4
      · rw [if_neg hw] at hs2 ⊢
        exact next undef w hb hs2
end
def isRead : Op → Bool
  | .load _ _ => true
  | .convert _ _ _ => true
  | _ => false
def readK (P : Program) (Ext : World → World → Prop) (o : Oper) (e : Env) (w0 : World) (N : Value → Prop) : Prop :=
  isRead o.op = true ∧ ∃ v, (∀ w1, Ext w0 w1 → opP P o e w1 fun u w' => u = v ∧ w' = w1) ∧ N v
theorem readK_sound {P : Program} {Ext : World → World → Prop} {o : Oper} {e : Env} {w0 : World} {N : Value → Prop} (h : readK P Ext o e w0 N) : ∃ v, ValE P Ext o (ev e) w0 v ∧ N v := by
  obtain ⟨hr, v, h1, h2⟩ := h
  refine ⟨v, fun w1 hx => ?_, h2⟩
  have h3 := op_sound (h1 w1 hx)
  obtain ⟨dst, op, ty, pos, aft, gd⟩ := o
  have key : ∀ n w', (execOp (ev e) ⟨dst, op, ty, pos, aft, gd⟩).run P w1 = .ok n w' → ∃ u, n = .value u := by
    intro n w' hh
    cases op with
    | load T x => exact lifted_value hh
    | convert S D x => exact lifted_value hh
    | _ => cases hr
  generalize (execOp (ev e) ⟨dst, op, ty, pos, aft, gd⟩).run P w1 = rr at h3 key ⊢
  unfold Ends at h3
  split at h3
  · obtain ⟨rfl, rfl⟩ := h3; rfl
  · obtain ⟨u, hu⟩ := key _ _ rfl; cases hu
  · obtain ⟨u, hu⟩ := key _ _ rfl; cases hu
  · exact h3.elim
def skI (f : Nat) (P : Program) (B : Nat) (Ext : World → World → Prop) (w0 : World) (o : Oper) (e : Env) (w : World) (N : Value → World → Prop) (_ : Mark N) : Prop :=
  match f with
  | 0 => opV P B o e w0 fun v => N v w
  | 1 => opP P o e w fun v w' => Ext w0 w' ∧ N v w'
  | _ => readK P Ext o e w0 fun v => N v w
def skP (P : Program) (B : Nat) (Ext : World → World → Prop) (ops : Array Oper) (w0 : World) : List Oper → List Nat → Env → World → (Env → World → Prop) → Prop
  | [], _, e, w, K => K e w
  | o :: r, fs, e, w, K => guardP o.guard ops e
      (fun e => skI (fs.headD 0) P B Ext w0 o e w (fun v w' => skP P B Ext ops w0 r fs.tail (upO e o.dst v) w' K) .mk)
      (fun e => skP P B Ext ops w0 r fs.tail (upO e o.dst undef) w K)
theorem sk_sound {P : Program} {B : Nat} {Ext : World → World → Prop} {ops : Array Oper} {w0 : World} {K : Env → World → Prop} {F : List Bool} (hBe : ∀ w', Ext w0 w' → Below B w0 w') : ∀ (l : List Oper) (k : Nat) (fs : List Nat) (e : Env) (w : World), (∀ j, (fs.getD j 0 == 1) = F.getD (k + j) false) → skP P B Ext ops w0 l fs e w K →
    sqSK P Ext ops w0 ((l.zipIdx k).map fun x => (F.getD x.2 false, x.2, x.1)) e w K
  | [], k, fs, e, w, hfs, h => h
  | o :: r, k, fs, e, w, hfs, h => by
    have h0 : (fs.headD 0 == 1) = F.getD k false := by
      have := hfs 0
      rw [Nat.add_zero] at this
      rw [← this]
      cases fs <;> rfl
    have ht : ∀ j, (fs.tail.getD j 0 == 1) = F.getD (k + 1 + j) false := fun j => by
      have := hfs (j + 1)
      rw [show k + (j + 1) = k + 1 + j by omega] at this
      rw [← this]
      cases fs <;> simp
    unfold skP at h
    rw [guard_ite] at h
    rw [List.zipIdx_cons, List.map_cons, sqS_consK]
    unfold stepSK
    by_cases hw : wants o.guard ops e = true
    · rw [if_pos hw] at h ⊢
      generalize fs.headD 0 = f at h h0
      rw [← h0]
      unfold skI at h
      split at h
      · rw [if_neg (by simp)]
        obtain ⟨v, h1, h2⟩ := opV_sound h
        exact ⟨v, fun w1 hx => h1 w1 (hBe w1 hx), sk_sound hBe r (k + 1) fs.tail _ _ ht h2⟩
      · rw [if_pos (by simp)]
        exact (op_sound h).mono fun v w' ⟨h1, h2⟩ => ⟨h1, sk_sound hBe r (k + 1) fs.tail _ _ ht h2⟩
      · rename_i h5 h6
        rw [if_neg (by simpa using h6)]
        obtain ⟨v, h1, h2⟩ := readK_sound h
        exact ⟨v, h1, sk_sound hBe r (k + 1) fs.tail _ _ ht h2⟩
    · rw [if_neg hw] at h ⊢
      exact sk_sound hBe r (k + 1) fs.tail _ _ ht h
theorem draw_line {P : Program} {id : Nat} {l : List Oper} {e0 : Env} {w0 : World} {K : Env → World → Prop} (B : Nat) (Ext : World → World → Prop) (F : List Nat) (D : List (List Nat)) (hm : P.follows .mixedOrders = true) (hD : okD l.toArray D = true) (hF : okF D (F.map (· == 1)) = true)
    (hrf : Ext w0 w0) (hdr : ∀ w', More w0 w' → Ext w0 w') (hBe : ∀ w', Ext w0 w' → Below B w0 w')
    (hv : ∀ w1, More w0 w1 → skP P B Ext l.toArray w0 l F e0 w1 (Stop K .mk)) : drawP P id l.toArray e0 w0 K := by
  intro n a hd hr
  refine wp_region_any hm ?_
  refine any_seqK (Ext := Ext) (w0 := w0) hrf (okD_spec hD) hF hd (fun a e w hr hk => ⟨e, hr, rfl, hk⟩) l.toArray.size _ a e0 _ (by simp) hr ?_ (hdr _ (below_drawn _ _)) ?_ ?_
  · intro i o ho hi
    simp [Array.getD_eq_getD_getElem?, Array.getElem?_replicate] at hi
    split at hi <;> simp at hi
  · have h1 := sk_sound (F := F.map (· == 1)) hBe l 0 F e0 _ (fun j => by
      rw [Nat.zero_add, List.getD_eq_getElem?_getD, List.getD_eq_getElem?_getD, List.getElem?_map]
      cases F[j]? <;> rfl) (hv _ (below_drawn _ _))
    have h2 : rems (F.map (· == 1)) (Array.replicate l.toArray.size false) l.toArray.toList.zipIdx = (l.zipIdx 0).map fun x => ((F.map (· == 1)).getD x.2 false, x.2, x.1) := by
      unfold rems
      rw [List.filter_eq_self.2 fun x _ => ?_]
      simp [Array.getD_eq_getD_getElem?, Array.getElem?_replicate]
      split <;> rfl
    rw [h2]
    exact h1
  · exact Nat.le_trans (List.length_filter_le _ _) (by simp)
section
variable (P : Program) (B : Nat) (Ext : World → World → Prop) (ops : Array Oper) (w0 : World) (e : Env) (w : World) (K : Env → World → Prop)
theorem sk_nil (fs : List Nat) (m : Mark K) : skP P B Ext ops w0 [] fs e w (Stop K m) = K e w := propext Iff.rfl
theorem sk_cons (d : Option Nat) (op : Op) (t : TypeId) (p : String) (af : Array Edge) (r : List Oper) (f : Nat) (fs : List Nat) :
    skP P B Ext ops w0 (⟨d, op, t, p, af, none⟩ :: r) (f :: fs) e w K = skI f P B Ext w0 ⟨d, op, t, p, af, none⟩ e w (fun v w' => skP P B Ext ops w0 r fs (upO e d v) w' K) .mk := by
  conv => lhs; unfold skP
  rfl
theorem sk_guard (d : Option Nat) (op : Op) (t : TypeId) (p : String) (af : Array Edge) (g : Nat × Bool) (r : List Oper) (f : Nat) (fs : List Nat) :
    skP P B Ext ops w0 (⟨d, op, t, p, af, some g⟩ :: r) (f :: fs) e w K = guardP (some g) ops e (Stop (fun e => skI f P B Ext w0 ⟨d, op, t, p, af, none⟩ e w (fun v w' => skP P B Ext ops w0 r fs (upO e d v) w' K) .mk) .mk) (Stop (fun e => skP P B Ext ops w0 r fs (upO e d undef) w K) .mk) := by
  conv => lhs; unfold skP
  rfl
theorem sk_zero (o : Oper) (N : Value → World → Prop) (m : Mark N) : skI 0 P B Ext w0 o e w N m = opV P B o e w0 (Stop (fun v => N v w) .mk) := propext Iff.rfl
theorem sk_one (o : Oper) (N : Value → World → Prop) (m : Mark N) : skI 1 P B Ext w0 o e w N m = opP P o e w (Stop (fun v w' => Ext w0 w' ∧ N v w') .mk) := propext Iff.rfl
theorem sk_two (o : Oper) (N : Value → World → Prop) (m : Mark N) : skI 2 P B Ext w0 o e w N m = readK P Ext o e w0 (Stop (fun v => N v w) .mk) := propext Iff.rfl
end
theorem read_ok {P : Program} {Ext : World → World → Prop} {o : Oper} {e : Env} {w0 : World} {N : Value → Prop} (v : Value) (hr : isRead o.op = true) (h : ∀ w1, Ext w0 w1 → opP P o e w1 fun u w' => u = v ∧ w' = w1) (hk : N v) : readK P Ext o e w0 N := ⟨hr, v, h, hk⟩
def KeepF (B : Nat) (F : Nat → Prop) (a b : World) : Prop := Below B a b ∧ ∀ k, F k → b.heap[k]? = a.heap[k]?
theorem KeepF.refl (B : Nat) (F : Nat → Prop) (a : World) : KeepF B F a a := ⟨Below.refl _ _, fun _ _ => rfl⟩
theorem KeepF.of_more {B : Nat} {F : Nat → Prop} {a b : World} (h : More a b) (hB : B ≤ a.heap.size) (hF : ∀ k, F k → k < a.heap.size) : KeepF B F a b := ⟨Below.mono h hB, fun k hk => h.block k (hF k hk)⟩
theorem KeepF.blk {B : Nat} {F : Nat → Prop} {a b : World} {p e : Nat} {cs : List Value} (h : KeepF B F a b) (hp : F p) (hb : Blk a p e cs) : Blk b p e cs := by
  unfold Blk at *
  rw [h.2 p hp, hb]
theorem KeepF.next {B : Nat} {F S : Nat → Prop} {a b c : World} (h : KeepF B F a b) (k : Mod S b c) (hS : ∀ x, F x → ¬ S x) (hS2 : ∀ x, x < B → ¬ S x) (hF : ∀ x, F x → x < b.heap.size) (hB : B ≤ b.heap.size) : KeepF B F a c :=
  ⟨h.1.trans (k.below hS2 hB), fun x hx => (k.block x (hF x hx) (hS x hx)).trans (h.2 x hx)⟩
theorem KeepF.more {B : Nat} {F : Nat → Prop} {a b c : World} (h : KeepF B F a b) (k : More b c) (hF : ∀ x, F x → x < b.heap.size) (hB : B ≤ b.heap.size) : KeepF B F a c :=
  ⟨h.1.trans (Below.mono k hB), fun x hx => (k.block x (hF x hx)).trans (h.2 x hx)⟩
theorem laid_next {place : Nat → Option (Nat × Nat)} {cs a b c vs : List Value} {i : Nat} {v : Value} {r : List (Nat × Value)} {out : List Value} (hv : v.cells.toList = vs) (hcs : cs = a ++ (b ++ c)) (hp : place i = some (a.length, b.length)) (hl : vs.length = b.length)
    (h : laid place (a ++ (vs ++ c)) r = some out) : laid place cs ((i, v) :: r) = some out := by
  subst hv hcs
  unfold laid
  rw [hp, Option.bind_some, if_pos ⟨hl, by simp [hl]⟩, splice_eq _ _ _ (by simp [hl])]
  have e1 : (a ++ (b ++ c)).take a.length = a := by simp
  have e2 : (a ++ (b ++ c)).drop (a.length + v.cells.toList.length) = c := by rw [hl]; simp [← List.drop_drop]
  simp only at hl ⊢
  rw [e1, e2, List.append_assoc]
  exact h
def pairs : Nat → List Value → List (Nat × Value)
  | _, [] => []
  | k, v :: r => (k, v) :: pairs (k + 1) r
def PlacesOk (place : Nat → Option (Nat × Nat)) : Nat → Nat → List (List Value) → Prop
  | _, _, [] => True
  | k, off, v :: r => place k = some (off, v.length) ∧ PlacesOk place (k + 1) (off + v.length) r
theorem laid_all {place : Nat → Option (Nat × Nat)} : ∀ (vs : List Value) (k : Nat) (a z : List Value), PlacesOk place k a.length (vs.map fun v => v.cells.toList) → z.length = (vs.flatMap fun v => v.cells.toList).length →
    laid place (a ++ z) (pairs k vs) = some (a ++ vs.flatMap fun v => v.cells.toList)
  | [], k, a, z, hp, hz => by
    have : z = [] := List.eq_nil_of_length_eq_zero (by simpa using hz)
    subst this
    simp [pairs, laid]
  | v :: r, k, a, z, hp, hz => by
    obtain ⟨h1, h2⟩ := hp
    rw [List.flatMap_cons, List.length_append] at hz
    have hz' : v.cells.toList.length ≤ z.length := by rw [hz]; exact Nat.le_add_right _ _
    have hz2 : z.length - v.cells.toList.length = (r.flatMap fun v => v.cells.toList).length := by rw [hz]; exact Nat.add_sub_cancel_left ..
    unfold pairs
    refine laid_next (b := z.take v.cells.toList.length) (c := z.drop v.cells.toList.length) rfl (by rw [List.take_append_drop]) (by rw [h1, List.length_take, Nat.min_eq_left hz']) (by rw [List.length_take, Nat.min_eq_left hz']) ?_
    have h3 := laid_all r (k + 1) (a ++ v.cells.toList) (z.drop v.cells.toList.length) (by rw [List.length_append]; exact h2) (by rw [List.length_drop]; exact hz2)
    rw [List.append_assoc] at h3
    rw [h3, List.flatMap_cons, List.append_assoc]
theorem build_all {P : Program} {T : TypeId} {z : Value} (vs : List Value) {out : List Value} (hc : structOk P T = true) (hz : zer P T = some z) (hp : PlacesOk (placeOf P T) 0 0 (vs.map fun v => v.cells.toList)) (hl : z.cells.toList.length = (vs.flatMap fun v => v.cells.toList).length) (ho : (vs.flatMap fun v => v.cells.toList) = out) (w0 : World) (K : Value → Prop) :
    pureP P (Instr.build T (pairs 0 vs).toArray) K = K (.agg out.toArray) := by
  refine build_of out hc hz ?_ w0 K
  have := laid_all vs 0 [] z.cells.toList hp hl
  rw [List.nil_append, List.nil_append, ho] at this
  simpa using this
end Go.Proofs.RV
namespace Go.Proofs.RV
open Go Go.RowKit Go.ChangeShapes Go.WideShapes
set_option linter.unusedSimpArgs false
set_option linter.unusedVariables false
section
variable {H : Type} {enc : TypeId × Value → H} {P : Program} {w : World} {base : Nat} {spare : Nat → Bool} {held : Bool}
end
section
variable {P : Program} {w : World}
variable {n : Nat} {t : TypeId} {cs : List Value}
variable {M : Type} {E : M → List Value} {s : Nat}
end
theorem lookH_all {E : World → World → Prop} : ∀ (l : List (Nat × Fact)), (∀ x ∈ l, ∀ g v a b, E a b → x.2 g v a → x.2 g v b) → ∀ k Φ, lookH l k = some Φ → ∀ g v a b, E a b → Φ g v a → Φ g v b
  | [], _, k, Φ, h => by cases h
  | (j, Ψ) :: r, hl, k, Φ, h => by
    unfold lookH at h
    split at h
    · injection h with h
      subst h
      exact hl _ (List.mem_cons_self ..)
    · exact lookH_all r (fun x hx => hl x (List.mem_cons_of_mem _ hx)) k Φ h
theorem draw_finH {P : Program} {id : Nat} {l : List Oper} {e0 : Env} {w0 : World} {K : Env → World → Prop} (T : TypeId) (V : List Value) (m : Nat) (D : List (List Nat)) (fs : List (Nat × Fact)) (hm : P.follows .mixedOrders = true) (hD : okD l.toArray D = true) (hT : okT l.toArray D m = true)
    (hst : ∀ x ∈ fs, ∀ g v a b, Fin w0.heap.size T V a b → x.2 g v a → x.2 g v b)
    (hv : vcH P w0.heap.size (Fin w0.heap.size T V) l.toArray D (lookH fs) w0 0 (l.take m) e0 [] (Stop (fun e w => opsP P l.toArray (l.drop m) e w K) .mk)) : drawP P id l.toArray e0 w0 K :=
  draw_rgH w0.heap.size (Fin w0.heap.size T V) D (lookH fs) hm hD (fun _ _ _ h k => h.trans k) (Fin.refl _ T V) (Fin.of_more (below_drawn _ _) (Nat.le_refl _)) (fun _ h => h.below) (lookH_all fs hst) m hT (by simpa [Stop] using hv)
section
variable (P : Program) (B : Nat) (Ext : World → World → Prop) (ops : Array Oper) (D : List (List Nat)) (Phi : Nat → Option Fact) (w0 : World) (k : Nat) (e : Env) (Γ : List (Nat × (World → Prop))) (K : Env → World → Prop)
theorem hs_nil (m : Mark K) : vcH P B Ext ops D Phi w0 k [] e Γ (Stop K m) = ∀ w', Ext w0 w' → (∀ x ∈ Γ, x.2 w') → K e w' := propext Iff.rfl
theorem hs_none (o : Oper) (N : Value → List (Nat × (World → Prop)) → Prop) : stepH P B Ext D w0 k o e Γ N none = opV P B o e w0 (Stop (fun v => N v Γ) .mk) := propext Iff.rfl
theorem hs_guard (d : Option Nat) (op : Op) (t : TypeId) (p : String) (af : Array Edge) (g : Nat × Bool) (r : List Oper) :
    vcH P B Ext ops D Phi w0 k (⟨d, op, t, p, af, some g⟩ :: r) e Γ K = guardP (some g) ops e (Stop (fun e => stepH P B Ext D w0 k ⟨d, op, t, p, af, none⟩ e Γ (fun v G => vcH P B Ext ops D Phi w0 (k + 1) r (upO e d v) G K) (Phi k)) .mk) (Stop (fun e => vcH P B Ext ops D Phi w0 (k + 1) r (upO e d undef) Γ K) .mk) := h_guard P B Ext ops D Phi w0 k e Γ K d op t p af g r
end
end Go.Proofs.RV

