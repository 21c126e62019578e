/-
  The rules once more, each of which leaves what follows alone till the value is known.
-/
import Derived.Test.YtahcaplhdgphcaaGreatStr
namespace Go.Proofs.RV
open Go Go.RowKit
set_option linter.unusedSimpArgs false
set_option linter.unusedVariables false
theorem s1_int (K : Value → Prop) (m : Mark K) (k : IntKind) (n : Int) : Stop K m (.int k n) = K (.int k n) := propext Iff.rfl
theorem s2_int (K : Value → World → Prop) (m : Mark K) (k : IntKind) (n : Int) (w : World) : Stop K m (.int k n) w = K (.int k n) w := propext Iff.rfl
theorem s1_bool (K : Value → Prop) (m : Mark K) (b : Bool) : Stop K m (.bool b) = K (.bool b) := propext Iff.rfl
theorem s2_bool (K : Value → World → Prop) (m : Mark K) (b : Bool) (w : World) : Stop K m (.bool b) w = K (.bool b) w := propext Iff.rfl
theorem s1_string (K : Value → Prop) (m : Mark K) (s : ByteArray) : Stop K m (.string s) = K (.string s) := propext Iff.rfl
theorem s2_string (K : Value → World → Prop) (m : Mark K) (s : ByteArray) (w : World) : Stop K m (.string s) w = K (.string s) w := propext Iff.rfl
theorem s1_pointer (K : Value → Prop) (m : Mark K) (p : Option Addr) : Stop K m (.pointer p) = K (.pointer p) := propext Iff.rfl
theorem s2_pointer (K : Value → World → Prop) (m : Mark K) (p : Option Addr) (w : World) : Stop K m (.pointer p) w = K (.pointer p) w := propext Iff.rfl
theorem s1_slice (K : Value → Prop) (m : Mark K) (A : Option Addr) (n c : Nat) : Stop K m (.slice A n c) = K (.slice A n c) := propext Iff.rfl
theorem s2_slice (K : Value → World → Prop) (m : Mark K) (A : Option Addr) (n c : Nat) (w : World) : Stop K m (.slice A n c) w = K (.slice A n c) w := propext Iff.rfl
theorem s1_agg (K : Value → Prop) (m : Mark K) (xs : Array Value) : Stop K m (.agg xs) = K (.agg xs) := propext Iff.rfl
theorem s2_agg (K : Value → World → Prop) (m : Mark K) (xs : Array Value) (w : World) : Stop K m (.agg xs) w = K (.agg xs) w := propext Iff.rfl
theorem s1_tuple (K : Value → Prop) (m : Mark K) (xs : Array Value) : Stop K m (.tuple xs) = K (.tuple xs) := propext Iff.rfl
theorem s2_tuple (K : Value → World → Prop) (m : Mark K) (xs : Array Value) (w : World) : Stop K m (.tuple xs) w = K (.tuple xs) w := propext Iff.rfl
theorem s1_undef (K : Value → Prop) (m : Mark K)  : Stop K m undef = K undef := propext Iff.rfl
theorem s2_undef (K : Value → World → Prop) (m : Mark K)  (w : World) : Stop K m undef w = K undef w := propext Iff.rfl
theorem s1_map (K : Value → Prop) (m : Mark K) (r : Option Nat) : Stop K m (.map r) = K (.map r) := propext Iff.rfl
theorem s2_map (K : Value → World → Prop) (m : Mark K) (r : Option Nat) (w : World) : Stop K m (.map r) w = K (.map r) w := propext Iff.rfl
theorem s1_func (K : Value → Prop) (m : Mark K) (f : Fn) (a b : Array Value) : Stop K m (.func f a b) = K (.func f a b) := propext Iff.rfl
theorem s2_func (K : Value → World → Prop) (m : Mark K) (f : Fn) (a b : Array Value) (w : World) : Stop K m (.func f a b) w = K (.func f a b) w := propext Iff.rfl
theorem s1_nilFunc (K : Value → Prop) (m : Mark K)  : Stop K m .nilFunc = K .nilFunc := propext Iff.rfl
theorem s2_nilFunc (K : Value → World → Prop) (m : Mark K)  (w : World) : Stop K m .nilFunc w = K .nilFunc w := propext Iff.rfl
theorem s1_iface (K : Value → Prop) (m : Mark K) (t : TypeId) (v : Value) : Stop K m (.iface t v) = K (.iface t v) := propext Iff.rfl
theorem s2_iface (K : Value → World → Prop) (m : Mark K) (t : TypeId) (v : Value) (w : World) : Stop K m (.iface t v) w = K (.iface t v) w := propext Iff.rfl
theorem s1_nilIface (K : Value → Prop) (m : Mark K)  : Stop K m .nilIface = K .nilIface := propext Iff.rfl
theorem s2_nilIface (K : Value → World → Prop) (m : Mark K)  (w : World) : Stop K m .nilIface w = K .nilIface w := propext Iff.rfl
theorem s1_up (K : Env → Prop) (m : Mark K) (e : Env) (t : Nat) (v : Value) : Stop K m (up e t v) = K (up e t v) := propext Iff.rfl
theorem s2_up (K : Env → World → Prop) (m : Mark K) (e : Env) (t : Nat) (v : Value) (w : World) : Stop K m (up e t v) w = K (up e t v) w := propext Iff.rfl
theorem s1_hv (K : Env → Prop) (m : Mark K) (e : Env) (M : List Nat) (v : Env) : Stop K m (hv e M v) = K (hv e M v) := propext Iff.rfl
theorem s2_hv (K : Env → World → Prop) (m : Mark K) (e : Env) (M : List Nat) (v : Env) (w : World) : Stop K m (hv e M v) w = K (hv e M v) w := propext Iff.rfl
theorem s1_init (K : Env → Prop) (m : Mark K) (l : List Value) (t : Nat) : Stop K m (init l t) = K (init l t) := propext Iff.rfl
theorem s2_init (K : Env → World → Prop) (m : Mark K) (l : List Value) (t : Nat) (w : World) : Stop K m (init l t) w = K (init l t) w := propext Iff.rfl
theorem s3_any (Q : Exit → Env → World → Prop) (m : Mark Q) (x : Exit) (e : Env) (w : World) : Stop Q m x e w = Q x e w := propext Iff.rfl
section
variable (P : Program) (B : Nat) (e : Env) (w : World)
theorem zp_cons (ops : Array Oper) (d : Nat) (op : Op) (t : TypeId) (p : String) (af : Array Edge) (r : List Oper) (K : Env → World → Prop) :
    opsP P ops (⟨some d, op, t, p, af, none⟩ :: r) e w K = opP P ⟨some d, op, t, p, af, none⟩ e w (Stop (fun v w' => opsP P ops r (up e d v) w' K) .mk) := propext Iff.rfl
theorem zp_none (ops : Array Oper) (op : Op) (t : TypeId) (p : String) (af : Array Edge) (r : List Oper) (K : Env → World → Prop) :
    opsP P ops (⟨none, op, t, p, af, none⟩ :: r) e w K = opP P ⟨none, op, t, p, af, none⟩ e w (Stop (fun v w' => opsP P ops r e w' K) .mk) := propext Iff.rfl
theorem zp_guard (ops : Array Oper) (d : Nat) (op : Op) (t : TypeId) (p : String) (af : Array Edge) (g : Nat × Bool) (r : List Oper) (K : Env → World → Prop) :
    opsP P ops (⟨some d, op, t, p, af, some g⟩ :: r) e w K = guardP (some g) ops e (Stop (fun e => opP P ⟨some d, op, t, p, af, none⟩ e w (Stop (fun v w' => opsP P ops r (up e d v) w' K) .mk)) .mk) (Stop (fun e => opsP P ops r (up e d undef) w K) .mk) := propext Iff.rfl
theorem zp_guardN (ops : Array Oper) (op : Op) (t : TypeId) (p : String) (af : Array Edge) (g : Nat × Bool) (r : List Oper) (K : Env → World → Prop) :
    opsP P ops (⟨none, op, t, p, af, some g⟩ :: r) e w K = guardP (some g) ops e (Stop (fun e => opP P ⟨none, op, t, p, af, none⟩ e w (Stop (fun v w' => opsP P ops r e w' K) .mk)) .mk) (Stop (fun e => opsP P ops r e w K) .mk) := propext Iff.rfl
theorem zr_cons (ops : Array Oper) (d : Nat) (op : Op) (t : TypeId) (p : String) (af : Array Edge) (r : List Oper) (K : Env → Prop) :
    opsQ P B ops (⟨some d, op, t, p, af, none⟩ :: r) e w K = opQ P B ⟨some d, op, t, p, af, none⟩ e w (Stop (fun v => opsQ P B ops r (up e d v) w K) .mk) := propext Iff.rfl
theorem zr_none (ops : Array Oper) (op : Op) (t : TypeId) (p : String) (af : Array Edge) (r : List Oper) (K : Env → Prop) :
    opsQ P B ops (⟨none, op, t, p, af, none⟩ :: r) e w K = opQ P B ⟨none, op, t, p, af, none⟩ e w (Stop (fun v => opsQ P B ops r e w K) .mk) := propext Iff.rfl
theorem zr_guard (ops : Array Oper) (d : Nat) (op : Op) (t : TypeId) (p : String) (af : Array Edge) (g : Nat × Bool) (r : List Oper) (K : Env → Prop) :
    opsQ P B ops (⟨some d, op, t, p, af, some g⟩ :: r) e w K = guardP (some g) ops e (Stop (fun e => opQ P B ⟨some d, op, t, p, af, none⟩ e w (Stop (fun v => opsQ P B ops r (up e d v) w K) .mk)) .mk) (Stop (fun e => opsQ P B ops r (up e d undef) w K) .mk) := propext Iff.rfl
theorem zr_guardN (ops : Array Oper) (op : Op) (t : TypeId) (p : String) (af : Array Edge) (g : Nat × Bool) (r : List Oper) (K : Env → Prop) :
    opsQ P B ops (⟨none, op, t, p, af, some g⟩ :: r) e w K = guardP (some g) ops e (Stop (fun e => opQ P B ⟨none, op, t, p, af, none⟩ e w (Stop (fun v => opsQ P B ops r e w K) .mk)) .mk) (Stop (fun e => opsQ P B ops r e w K) .mk) := propext Iff.rfl
variable (Q : Exit → Env → World → Prop)
def condV (v : Value) (A B : Prop) (_ : Mark A) (_ : Mark B) : Prop := condP v A B
theorem zc_cond (c : Operand) (a b : Code) : code P (.cond c a b) e w Q = condV (ev e c) (code P a e w Q) (code P b e w Q) .mk .mk := propext Iff.rfl
theorem zc_bool (b : Bool) (A B : Prop) (m : Mark A) (m' : Mark B) : condV (.bool b) A B m m' = condB b A B .mk .mk := propext Iff.rfl
theorem zc_region (id : Nat) (l : List Oper) : code P (.region id l.toArray false) e w Q = opsP P l.toArray l e w (Stop (fun e w => Q .normal e w) .mk) := by
  simp [code, Stop]
theorem zp_nil (ops : Array Oper) (K : Env → World → Prop) (m : Mark K) : opsP P ops [] e w (Stop K m) = K e w := propext Iff.rfl
theorem zr_nil (ops : Array Oper) (K : Env → Prop) (m : Mark K) : opsQ P B ops [] e w (Stop K m) = K e := propext Iff.rfl
theorem zs_none (Ext : World → World → Prop) (D : List (List Nat)) (k : Nat) (o : Oper) (Γ : List (Nat × (World → Prop))) (N : Value → List (Nat × (World → Prop)) → Prop) : stepV P B Ext D w k o e Γ N none = opV P B o e w (Stop (fun v => N v Γ) .mk) := propext Iff.rfl
theorem zv_guard (Ext : World → World → Prop) (ops : Array Oper) (D : List (List Nat)) (Phi : Nat → Option (Value → World → Prop)) (k : Nat) (Γ : List (Nat × (World → Prop))) (K : Env → World → Prop) (d : Option Nat) (op : Op) (t : TypeId) (p : String) (af : Array Edge) (g : Nat × Bool) (r : List Oper) :
    vc P B Ext ops D Phi w k (⟨d, op, t, p, af, some g⟩ :: r) e Γ K = guardP (some g) ops e (Stop (fun e => stepV P B Ext D w k ⟨d, op, t, p, af, none⟩ e Γ (fun v G => vc P B Ext ops D Phi w (k + 1) r (upO e d v) G K) (Phi k)) .mk) (Stop (fun e => vc P B Ext ops D Phi w (k + 1) r (upO e d undef) Γ K) .mk) := v_guard P B Ext ops D Phi w k e Γ K d op t p af g r
end
/-- the same as draw_quiet, what follows left alone -/
theorem draw_calm {P : Program} {id : Nat} {l : List Oper} {e : Env} {w : World} {K : Env → World → Prop} (hm : P.follows .mixedOrders = true) (hB : Region.lexB .any l.toArray = true)
    (h : opsQ P w.heap.size l.toArray l e w (Stop (fun e => ∀ w', Below w.heap.size w w' → K e w') .mk)) : drawP P id l.toArray e w K :=
  draw_quiet hm hB (by simpa [Stop] using h)
theorem draw_seen {P : Program} {id : Nat} {l : List Oper} {e0 : Env} {w0 : World} {K : Env → World → Prop} (m : Nat) (D : List (List Nat)) (Phi : Nat → Option (Value → World → Prop)) (hm : P.follows .mixedOrders = true) (hD : okD l.toArray D = true) (hT : okT l.toArray D m = true)
    (hst : ∀ k Φ, Phi k = some Φ → ∀ v a b, More a b → Φ v a → Φ v b)
    (hv : vc P w0.heap.size More l.toArray D Phi w0 0 (l.take m) e0 [] (Stop (fun e w => opsP P l.toArray (l.drop m) e w K) .mk)) : drawP P id l.toArray e0 w0 K :=
  draw_facts m D Phi hm hD hT hst (by simpa [Stop] using hv)
theorem zv_nil (P : Program) (B : Nat) (Ext : World → World → Prop) (ops : Array Oper) (D : List (List Nat)) (Phi : Nat → Option (Value → World → Prop)) (w0 : World) (k : Nat) (e : Env) (Γ : List (Nat × (World → Prop))) (K : Env → World → Prop) (m : Mark K) : vc P B Ext ops D Phi w0 k [] e Γ (Stop K m) = ∀ w', Ext w0 w' → (∀ x ∈ Γ, x.2 w') → K e w' := propext Iff.rfl
/-- one cell of block p may be written amid the region -/
def Put (B p : Nat) (e : TypeId) (i : Nat) (v : Value) (a b : World) : Prop := Below B a b ∧ ∀ cs, Blk a p e cs → Blk b p e cs ∨ Blk b p e (cs.set i v)
theorem Put.refl (B p : Nat) (e : TypeId) (i : Nat) (v : Value) (a : World) : Put B p e i v a a := ⟨Below.refl _ _, fun _ h => .inl h⟩
theorem Put.trans {B p : Nat} {e : TypeId} {i : Nat} {v : Value} {a b c : World} (h : Put B p e i v a b) (k : Put B p e i v b c) : Put B p e i v a c :=
  ⟨h.1.trans k.1, fun cs hc => by
    rcases h.2 cs hc with h1 | h1
    · exact k.2 cs h1
    · rcases k.2 _ h1 with h2 | h2
      · exact .inr h2
      · rw [List.set_set] at h2
        exact .inr h2⟩
theorem Put.done {B p : Nat} {e : TypeId} {i : Nat} {v : Value} {a b : World} {cs : List Value} (h : Put B p e i v a b) (hb : Blk a p e cs) (hd : ∃ cs, Blk b p e cs ∧ cs[i]? = some v) : Blk b p e (cs.set i v) := by
  obtain ⟨cs', h1, h2⟩ := hd
  rcases h.2 cs hb with h3 | h3
  · have : cs = cs' := by
      unfold Blk at h1 h3
      rw [h1] at h3
      injection h3 with h3
      injection h3 with h3
      exact (by simpa using h3.symm)
    subst this
    have hs : cs.set i v = cs := by
      apply List.ext_getElem?
      intro j
      by_cases hij : i = j
      · subst hij
        rw [List.getElem?_set_self (List.getElem?_eq_some_iff.1 h2).1, h2]
      · rw [List.getElem?_set_ne hij]
    rw [hs]
    exact h3
  · exact h3
theorem Put.keeps {B p : Nat} {e : TypeId} {i : Nat} {v : Value} {a b : World} (h : Put B p e i v a b) (hd : ∃ cs, Blk a p e cs ∧ cs[i]? = some v) : ∃ cs, Blk b p e cs ∧ cs[i]? = some v := by
  obtain ⟨cs, h1, h2⟩ := hd
  rcases h.2 cs h1 with h3 | h3
  · exact ⟨cs, h3, h2⟩
  · exact ⟨_, h3, by rw [List.getElem?_set_self (List.getElem?_eq_some_iff.1 h2).1]⟩
theorem Blk.inj {w : World} {b : Nat} {e e' : TypeId} {cs cs' : List Value} (h : Blk w b e cs) (h' : Blk w b e' cs') : cs = cs' := by
  unfold Blk at h h'
  rw [h] at h'
  injection h' with h'
  injection h' with h'
  simpa using h'
theorem Put.st {B p : Nat} {e : TypeId} {i : Nat} {v : Value} {a : World} {cs : List Value} {K : World → Prop} (hb : Blk a p e cs) (hi : i < cs.length) (hv : v.oneCell' = true) (hB : B ≤ p)
    (hK : ∀ w', Wr p a w' → Put B p e i v a w' → (∃ cs, Blk w' p e cs ∧ cs[i]? = some v) → K w') : stCell v ⟨p, i, none⟩ a K :=
  st_cell hb hi hv fun w' h1 h2 => hK w' h1 ⟨h1.below (Below.refl _ _) hB, fun cs' hc => .inr (by rw [hc.inj hb]; exact h2)⟩ ⟨_, h2, List.getElem?_set_self hi⟩
theorem Put.blk {B p : Nat} {e : TypeId} {i : Nat} {v : Value} {a b : World} {cs : List Value} (h : Put B p e i v a b) (hb : Blk a p e cs) : ∃ cs', Blk b p e cs' ∧ cs'.length = cs.length := by
  rcases h.2 cs hb with h1 | h1
  · exact ⟨_, h1, rfl⟩
  · exact ⟨_, h1, by simp⟩
theorem Put.wr {B p : Nat} {e : TypeId} {i : Nat} {v : Value} {a b : World} (hw : Wr p a b) (hB : B ≤ p) (hs : ∀ cs, Blk a p e cs → Blk b p e (cs.set i v)) : Put B p e i v a b :=
  ⟨hw.below (Below.refl _ _) hB, fun cs hc => .inr (hs cs hc)⟩
theorem draw_put {P : Program} {id : Nat} {l : List Oper} {e0 : Env} {w0 : World} {K : Env → World → Prop} (B p : Nat) (e : TypeId) (i : Nat) (v : Value) (j m : Nat) (D : List (List Nat)) (hm : P.follows .mixedOrders = true) (hD : okD l.toArray D = true) (hT : okT l.toArray D m = true)
    (hv : vc P B (Put B p e i v) l.toArray D (look [(j, fun _ w' => ∃ cs, Blk w' p e cs ∧ cs[i]? = some v)]) w0 0 (l.take m) e0 [] (Stop (fun e w => opsP P l.toArray (l.drop m) e w K) .mk)) : drawP P id l.toArray e0 w0 K := by
  refine draw_rg B (Put B p e i v) D _ hm hD (fun _ _ _ h k => h.trans k) (Put.refl B p e i v) ⟨below_drawn _ _, fun cs h => .inl h⟩ (fun _ h => h.1) ?_ m hT (by simpa [Stop] using hv)
  intro k Φ hk u a b hab hu
  simp only [look] at hk
  split at hk
  · injection hk with hk
    subst hk
    exact hab.keeps hu
  · cases hk
end Go.Proofs.RV
