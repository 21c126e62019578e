/-
  Texts that the law stands on, part 1.
-/
import Derived.WalkKit
import Derived.Deep.Quiet
import Derived.KernelRfl
import Derived.Laws.IdiomCopy
namespace Go.Proofs.RV
open Go Go.RowKit

abbrev Env := Nat → Value
def up (e : Env) (t : Nat) (v : Value) : Env := fun s => if s = t then v else e s
def upO (e : Env) (d : Option Nat) (v : Value) : Env := match d with | some t => up e t v | none => e
def ev (e : Env) : Operand → Value
  | .tmp t => e t
  | .const v => v
  | .global g => .pointer (some ⟨g, 0, none⟩)
  | .func f => .func (.func f) #[] #[]
theorem up_apply (e : Env) (t : Nat) (v : Value) (s : Nat) : up e t v s = if s = t then v else e s := rfl
theorem upO_some (e : Env) (t : Nat) (v : Value) : upO e (some t) v = up e t v := rfl
theorem upO_none (e : Env) (v : Value) : upO e none v = e := rfl
theorem ev_tmp (e : Env) (t : Nat) : ev e (.tmp t) = e t := rfl
theorem ev_const (e : Env) (v : Value) : ev e (.const v) = v := rfl
theorem ev_global (e : Env) (g : Nat) : ev e (.global g) = .pointer (some ⟨g, 0, none⟩) := rfl
theorem ev_func (e : Env) (f : Nat) : ev e (.func f) = .func (.func f) #[] #[] := rfl

def Rep (n : Nat) (a : Act) (e : Env) : Prop := a.defers = [] ∧ a.tmps.size = n ∧ e = fun s => a.tmps.getD s undef
theorem Rep.eval {n : Nat} {a : Act} {e : Env} (h : Rep n a e) (x : Operand) : a.eval x = ev e x := by
  obtain ⟨_, _, rfl⟩ := h
  cases x <;> rfl
theorem Rep.evalf {n : Nat} {a : Act} {e : Env} (h : Rep n a e) : a.eval = ev e := funext h.eval
theorem Rep.put {n : Nat} {a : Act} {e : Env} (h : Rep n a e) (d : Option Nat) (hd : ∀ t, d = some t → t < n) (v : Value) : Rep n (a.put d v) (upO e d v) := by
  obtain ⟨h1, h2, rfl⟩ := h
  cases d with
  | none => exact ⟨h1, h2, rfl⟩
  | some t =>
    refine ⟨h1, by simpa [Act.put] using h2, ?_⟩
    funext s
    have ht := hd t rfl
    simp only [upO, up, Act.put, Array.getD_eq_getD_getElem?, Array.getElem?_setIfInBounds]
    by_cases hs : s = t
    · subst hs; simp [h2, ht]
    · rw [if_neg hs, if_neg (by omega)]

def condP (v : Value) (A B : Prop) : Prop :=
  match v with
  | .bool b => (b = true → A) ∧ (b = false → B)
  | _ => False
def runP {α : Type} (P : Program) (s : Sem α) (w : World) (K : α → World → Prop) : Prop := ∃ v w', s.run P w = .ok v w' ∧ K v w'
def pureP (P : Program) (s : Sem Value) (K : Value → Prop) : Prop := ∃ v, (∀ w, s.run P w = .ok v w) ∧ K v
def pickP (c a b : Value) (K : Value → Prop) : Prop :=
  match c with
  | .bool t => K (if t = true then a else b)
  | _ => False
def intP (b : BinOp) (k : IntKind) (x y : Int) (K : Value → Prop) : Prop :=
  match b with
  | .add => K (.int k (k.wrap (x + y)))
  | .sub => K (.int k (k.wrap (x - y)))
  | .mul => K (.int k (k.wrap (x * y)))
  | .quo => y ≠ 0 ∧ K (.int k (k.wrap (x.tdiv y)))
  | .rem => y ≠ 0 ∧ K (.int k (x.tmod y))
  | .and => K (.int k (Go.bits .and k x y))
  | .or => K (.int k (Go.bits .or k x y))
  | .xor => K (.int k (Go.bits .xor k x y))
  | .eql => K (.bool (decide (x = y)))
  | .neq => K (.bool (!decide (x = y)))
  | .lss => K (.bool (decide (x < y)))
  | .leq => K (.bool (decide (x ≤ y)))
  | .gtr => K (.bool (decide (y < x)))
  | .geq => K (.bool (decide (y ≤ x)))
  | _ => False
def strP (b : BinOp) (x y : ByteArray) (K : Value → Prop) : Prop :=
  match b with
  | .add => ((x.size + y.size : Nat) : Int) ≤ IntKind.i64.max ∧ K (.string (x ++ y))
  | .eql => K (.bool (x.toList == y.toList))
  | .neq => K (.bool (!(x.toList == y.toList)))
  | _ => False
def boolP (b : BinOp) (x y : Bool) (K : Value → Prop) : Prop :=
  match b with
  | .eql => K (.bool (x == y))
  | .neq => K (.bool (!(x == y)))
  | _ => False
def nilP (b : BinOp) (x : Bool) (K : Value → Prop) : Prop :=
  match b with
  | .eql => K (.bool x)
  | .neq => K (.bool (!x))
  | _ => False
def binP (P : Program) (b : BinOp) (T : TypeId) (ox oy : Operand) (x y : Value) (K : Value → Prop) : Prop :=
  match x, y with
  | .int k p, .int k' q =>
    match b with
    | .shl => 0 ≤ q ∧ K (.int k (k.wrap (p * 2 ^ min q.toNat k.bits)))
    | .shr => 0 ≤ q ∧ K (.int k (p.fdiv (2 ^ min q.toNat k.bits)))
    | _ => k = k' ∧ intP b k p q K
  | .string s, .string t => strP b s t K
  | .bool p, .bool q => P.underlying T = some .bool ∧ boolP b p q K
  | .pointer p, .pointer none => (∃ e, P.underlying T = some (.pointer e)) ∧ nilP b p.isNone K
  | .slice A _ _, .slice none _ _ => (∃ e, P.underlying T = some (.slice e)) ∧ nilP b A.isNone K
  | _, _ => pureP P (do eqGuard b T ox oy x y; binOp b T x y) K
def unP (b : UnOp) (x : Value) (K : Value → Prop) : Prop :=
  match b, x with
  | .not, .bool p => K (.bool (!p))
  | .neg, .int k n => K (.int k (k.wrap (0 - n)))
  | _, _ => False
def convP (P : Program) (s d : TypeId) (x : Value) (w : World) (K : Value → World → Prop) : Prop :=
  match x, P.underlying s, P.underlying d with
  | .int _ n, some _, some (.int k) => K (.int k (k.wrap n)) w
  | _, _, _ => runP P (convert s d x) w K
def ldRow (n : Nat) (a : Addr) (w : World) (K : Value → Prop) : Prop := ∃ cs : Array Value, cs.size = n ∧ (∀ i, i < n → w.cell? (a.add i) = cs[i]?) ∧ K (.agg cs)
def stCell (v : Value) (a : Addr) (w : World) (K : World → Prop) : Prop := v.oneCell' = true ∧ (∃ u, w.cell? a = some u) ∧ w.frozen? a = false ∧ K (w.setCell a v)
def stRow (n : Nat) (cs : Array Value) (a : Addr) (w : World) (K : World → Prop) : Prop :=
  a.spot = none ∧ cs.size = n ∧ (∀ i, i < n → (w.cell? ⟨a.block, a.off + i, none⟩).isSome = true ∧ w.frozen? ⟨a.block, a.off + i, none⟩ = false) ∧ (∀ u ∈ cs, u.oneCell' = true) ∧ K (w.setCells a.block a.off cs.toList)
def ldP (d : TypeDesc) (n : Nat) (a : Addr) (w : World) (K : Value → Prop) : Prop :=
  match d with
  | .int k => ∃ x, w.cell? a = some (.int k x) ∧ K (.int k x)
  | .bool => ∃ x, w.cell? a = some (.bool x) ∧ K (.bool x)
  | .string => ∃ x, w.cell? a = some (.string x) ∧ K (.string x)
  | .pointer _ => ∃ x, w.cell? a = some (.pointer x) ∧ K (.pointer x)
  | .slice _ => ∃ A m c, w.cell? a = some (.slice A m c) ∧ K (.slice A m c)
  | .struct _ => ldRow n a w K
  | .array _ _ => ldRow n a w K
  | _ => ∃ v, w.cell? a = some v ∧ K v
def loadP (P : Program) (T : TypeId) (x : Value) (w : World) (K : Value → Prop) : Prop :=
  match x, P.underlying T with
  | .pointer (some a), some d => ldP d (P.cellsOf T) a w K
  | _, _ => False
def stP (d : TypeDesc) (n : Nat) (a : Addr) (v : Value) (w : World) (K : World → Prop) : Prop :=
  match d, v with
  | .struct _, .agg cs => stRow n cs a w K
  | .array _ _, .agg cs => stRow n cs a w K
  | _, _ => n = 1 ∧ stCell v a w K
def storeP (P : Program) (T : TypeId) (x v : Value) (w : World) (K : World → Prop) : Prop :=
  match x, P.underlying T with
  | .pointer (some a), some d => stP d (P.cellsOf T) a v w K
  | _, _ => False
def zer (P : Program) (T : TypeId) : Option Value := (P.info? T).bind (·.zero)
def allocP (P : Program) (T : TypeId) (w : World) (K : Value → World → Prop) : Prop :=
  match zer P T with
  | some z => K (.pointer (some ⟨w.heap.size, 0, none⟩)) (w.alloc (.cells z.cells T))
  | none => False
def nilCheckP (x : Value) (K : Value → Prop) : Prop :=
  match x with
  | .pointer (some a) => K (.pointer (some a))
  | _ => False
def fieldAddrP (P : Program) (T : TypeId) (x : Value) (f : Nat) (K : Value → Prop) : Prop :=
  match x, P.underlying T with
  | .pointer (some a), some (.struct fs) =>
    match fs[f]? with
    | some g => P.cellsOf g.type ≠ 0 ∧ K (.pointer (some (a.add g.offset)))
    | none => False
  | _, _ => False
def indexAddrP (P : Program) (T : TypeId) (x i : Value) (K : Value → Prop) : Prop :=
  match x, i, P.underlying T with
  | .slice A n _, .int _ j, some (.slice e) => P.cellsOf e ≠ 0 ∧ 0 ≤ j ∧ j < n ∧ ∃ a, A = some a ∧ K (.pointer (some (a.add (j.toNat * P.cellsOf e))))
  | .pointer (some a), .int _ j, some (.array n e) => P.cellsOf e ≠ 0 ∧ 0 ≤ j ∧ j < n ∧ K (.pointer (some (a.add (j.toNat * P.cellsOf e))))
  | _, _, _ => False
def adv (A : Option Addr) (c l s : Nat) : Option Addr := if c = l then A else A.map (·.add (l * s))
def asN (o : Option Value) (d : Nat) (K : Nat → Prop) : Prop :=
  match o with
  | none => K d
  | some (.int _ j) => 0 ≤ j ∧ K j.toNat
  | _ => False
def sliceP (P : Program) (T : TypeId) (x : Value) (lo hi mx : Option Value) (K : Value → Prop) : Prop :=
  match x, P.underlying T, mx with
  | .slice A n c, some (.slice e), none => P.cellsOf e ≠ 0 ∧ asN hi n fun h => asN lo 0 fun l => (hi.isSome = true → h ≤ c) ∧ (lo.isSome = true → l ≤ h) ∧ K (.slice (adv A c l (P.cellsOf e)) (h - l) (c - l))
  | .pointer (some a), some (.array n e), none => P.cellsOf e ≠ 0 ∧ asN hi n fun h => asN lo 0 fun l => (hi.isSome = true → h ≤ n) ∧ (lo.isSome = true → l ≤ h) ∧ K (.slice (adv (some a) n l (P.cellsOf e)) (h - l) (n - l))
  | _, _, _ => pureP P (Instr.sliceAt T x lo hi mx) K
def extractP (x : Value) (i : Nat) (K : Value → Prop) : Prop :=
  match x with
  | .tuple vs => ∃ v, vs[i]? = some v ∧ K v
  | _ => False
def callP (P : Program) (f : Value) (args : Array Value) (w : World) (K : Value → World → Prop) : Prop :=
  match f with
  | .func (.func k) first captured => ((∀ args w, (callFunc k args).run P w = .ok (.enter k args) w) ∧ Calls P k (first ++ args ++ captured) w (fun en w' => ∃ v, en = .returned v ∧ K v w')) ∨
      ∃ v w', (callFunc k (first ++ args ++ captured)).run P w = .ok (.value v) w' ∧ K v w'
  | _ => False
def lenP (P : Program) (T : TypeId) (x : Value) (w : World) (K : Value → Prop) : Prop :=
  match x, P.underlying T with
  | .slice _ n _, some (.slice _) => K (.int .i64 n)
  | .string s, some .string => K (.int .i64 s.size)
  | _, some (.array n _) => K (.int .i64 n)
  | _, _ => ∃ v, (Builtin.len_ #[T] 0 #[x]).run P w = .ok v w ∧ K v
def minP (x y : Value) (K : Value → Prop) : Prop :=
  match x, y with
  | .int k a, .int _ b => K (.int k (if b < a then b else a))
  | _, _ => False
def maxP (x y : Value) (K : Value → Prop) : Prop :=
  match x, y with
  | .int k a, .int _ b => K (.int k (if a < b then b else a))
  | _, _ => False

def bltP (P : Program) (b : Builtin) (ts : Array TypeId) (ty : TypeId) (xs : Array Value) (w : World) (K : Value → World → Prop) : Prop :=
  match b, ts.toList, xs.toList with
  | .len, T :: _, x :: _ => lenP P T x w (fun v => K v w)
  | .cap, T :: _, .slice _ _ c :: _ => (∃ e, P.underlying T = some (.slice e)) ∧ K (.int .i64 c) w
  | .min, _, [x, y] => minP x y fun v => K v w
  | .max, _, [x, y] => maxP x y fun v => K v w
  | .append, _, _ => runP P (Builtin.append_ ts ty xs) w K
  | .copy, _, _ => runP P (Builtin.copy_ ts ty xs) w K
  | .clear, _, _ => runP P (Builtin.clear_ ts ty xs) w K
  | .delete, _, _ => runP P (Builtin.delete_ ts ty xs) w K
  | _, _, _ => False
def opP (P : Program) (o : Oper) (e : Env) (w : World) (K : Value → World → Prop) : Prop :=
  match o.op with
  | .move x => K (ev e x) w
  | .assign x => K (ev e x) w
  | .pick c a b => pickP (ev e c) (ev e a) (ev e b) fun v => K v w
  | .binOp b T x y _ => binP P b T x y (ev e x) (ev e y) fun v => K v w
  | .unOp b _ x => unP b (ev e x) fun v => K v w
  | .convert s d x => convP P s d (ev e x) w K
  | .load T x => loadP P T (ev e x) w fun v => K v w
  | .store T x v => storeP P T (ev e x) (ev e v) w fun w' => K undef w'
  | .alloc T => allocP P T w K
  | .box T x => K (.pointer (some ⟨w.heap.size, 0, none⟩)) (w.alloc (.cells (ev e x).cells T))
  | .build T ps => pureP P (Instr.build T (ps.map fun (i, x) => (i, ev e x))) fun v => K v w
  | .buildSlice T n ps => runP P (Instr.buildSlice T n (ps.map fun (i, x) => (i, ev e x))) w K
  | .nilCheck x => nilCheckP (ev e x) fun v => K v w
  | .fieldAddr T x f => fieldAddrP P T (ev e x) f fun v => K v w
  | .indexAddr T x i => indexAddrP P T (ev e x) (ev e i) fun v => K v w
  | .slice T x lo hi mx => sliceP P T (ev e x) (lo.map (ev e)) (hi.map (ev e)) (mx.map (ev e)) fun v => K v w
  | .extract x i => extractP (ev e x) i fun v => K v w
  | .field T x f => pureP P (Instr.field T (ev e x) f) fun v => K v w
  | .index T x i => pureP P (Instr.index T (ev e x) (ev e i)) fun v => K v w
  | .makeSlice T l c => runP P (Instr.makeSlice T (ev e l) (ev e c)) w K
  | .makeInterface T x => pureP P (Instr.makeInterface T (ev e x)) fun v => K v w
  | .makeFunc fn a c => pureP P (Instr.makeFunc fn (a.map (ev e)) (c.map (ev e))) fun v => K v w
  | .makeMap T r => runP P (Instr.makeMap T (r.map (ev e))) w K
  | .lookup T x i ok => runP P (Instr.lookup T (ev e x) (ev e i) ok) w K
  | .mapUpdate T m k x => runP P (Instr.mapUpdate T (ev e m) (ev e k) (ev e x)) w fun _ w' => K undef w'
  | .call c =>
    match c.callee with
    | .value f => callP P (ev e f) (c.args.map (ev e)) w K
    | .builtin b => bltP P b c.argTypes o.type (c.args.map (ev e)) w K
    | .invoke r m => runP P (callMethod (ev e r) m (c.args.map (ev e))) w fun n w' =>
      match n with
      | .enter f xs => Calls P f xs w' (fun en w'' => ∃ v, en = .returned v ∧ K v w'')
      | _ => False
  | _ => False

def Ends (P : Program) (r : Result Next) (K : Value → World → Prop) : Prop :=
  match r with
  | .ok (.value v) w' => K v w'
  | .ok .skip w' => K undef w'
  | .ok (.enter f xs) w' => Calls P f xs w' (fun en w'' => ∃ v, en = .returned v ∧ K v w'')
  | _ => False

section
variable {P : Program} {w : World}
theorem run_lift {s : Sem Value} {v : Value} {w' : World} (h : s.run P w = .ok v w') : (do pure (.value (← s)) : Sem Next).run P w = .ok (.value v) w' := by
  simp [h]
theorem ends_value {s : Sem Value} {v : Value} {w' : World} {K : Value → World → Prop} (h : s.run P w = .ok v w') (hk : K v w') : Ends P ((do pure (.value (← s)) : Sem Next).run P w) K := by
  rw [run_lift h]; exact hk
theorem ends_pure {s : Sem Value} {K : Value → World → Prop} (h : pureP P s fun v => K v w) : Ends P ((do pure (.value (← s)) : Sem Next).run P w) K := by
  obtain ⟨v, h1, h2⟩ := h
  exact ends_value (h1 w) h2
theorem ends_run {s : Sem Value} {K : Value → World → Prop} (h : runP P s w K) : Ends P ((do pure (.value (← s)) : Sem Next).run P w) K := by
  obtain ⟨v, w', h1, h2⟩ := h
  exact ends_value h1 h2
theorem run_un {T : TypeId} {d : TypeDesc} (h : P.underlying T = some d) (w : World) : (underlying T).run P w = .ok d w := run_underlying h w
theorem size_run {T : TypeId} {d : TypeDesc} (h : P.underlying T = some d) (w : World) : (Go.sizeOf T).run P w = .ok (P.cellsOf T) w := by
  unfold Program.underlying at h
  unfold Go.sizeOf typeInfo Program.cellsOf
  cases hi : P.info? T with
  | none => rw [hi] at h; simp at h
  | some i => simp [hi]
theorem zero_run {T : TypeId} {z : Value} (h : zer P T = some z) (w : World) : (zeroValue T).run P w = .ok z w := by
  unfold zer at h
  unfold zeroValue typeInfo
  cases hi : P.info? T with
  | none => rw [hi] at h; simp at h
  | some i =>
    rw [hi] at h
    simp at h
    simp [hi, h]

theorem equal_bool {T : TypeId} (hT : P.underlying T = some .bool) (a b : Bool) (w : World) : (Op.equal T (.bool a) (.bool b)).run P w = .ok (a == b) w := by
  show (Op.equalIn (9999 + 1) T (.bool a) (.bool b)).run P w = _
  unfold Op.equalIn
  simp [run_un hT]
theorem equal_nil {T e : TypeId} (hT : P.underlying T = some (.pointer e)) (a : Option Addr) (w : World) : (Op.equal T (.pointer a) (.pointer none)).run P w = .ok a.isNone w := by
  show (Op.equalIn (9999 + 1) T (.pointer a) (.pointer none)).run P w = _
  unfold Op.equalIn
  cases a <;> simp [run_un hT]
theorem equal_nils {T e : TypeId} (hT : P.underlying T = some (.slice e)) (A : Option Addr) (n c n' c' : Nat) (w : World) : (Op.equal T (.slice A n c) (.slice none n' c')).run P w = .ok A.isNone w := by
  show (Op.equalIn (9999 + 1) T (.slice A n c) (.slice none n' c')).run P w = _
  unfold Op.equalIn
  cases A <;> simp [run_un hT]
theorem bin_sound {b : BinOp} {T : TypeId} {ox oy : Operand} {x y : Value} {K : Value → Prop} (h : binP P b T ox oy x y K) :
    pureP P (do eqGuard b T ox oy x y; binOp b T x y) K := by
  unfold binP at h
  split at h
  · split at h
    · exact ⟨_, fun w => by simp [eqGuard, binOp, Op.shift, show ¬ (_ : Int) < 0 from Int.not_lt.2 h.1], h.2⟩
    · exact ⟨_, fun w => by simp [eqGuard, binOp, Op.shift, show ¬ (_ : Int) < 0 from Int.not_lt.2 h.1], h.2⟩
    · obtain ⟨rfl, h⟩ := h
      unfold intP at h
      split at h <;> first
        | exact h.elim
        | exact ⟨_, fun w => by simp only [eqGuard, binOp, Op.intArith, Op.intBits, Go.bits]; rfl, h⟩
        | exact ⟨_, fun w => by simp [eqGuard, binOp, Op.intDiv, h.1], h.2⟩
        | exact ⟨_, fun w => by simp [eqGuard, binOp, Op.intCmp]; try rfl, h⟩
        | exact ⟨_, fun w => by simp [eqGuard, binOp, Op.intArith, Op.intBits, Go.bits], h⟩
  · unfold strP at h
    split at h
    · have h1 : ¬ IntKind.i64.max < ((_ + _ : Nat) : Int) := Int.not_lt.2 h.1
      exact ⟨_, fun w => by simp only [eqGuard, binOp, Op.stringOp, gt_iff_lt, if_neg h1]; rfl, h.2⟩
    · exact ⟨_, fun w => by simp [eqGuard, binOp, Op.stringOp], h⟩
    · exact ⟨_, fun w => by simp [eqGuard, binOp, Op.stringOp], h⟩
    · exact h.elim
  · obtain ⟨hT, h⟩ := h
    unfold boolP at h
    split at h
    · exact ⟨_, fun w => by simp [eqGuard, binOp, equal_bool hT], h⟩
    · exact ⟨_, fun w => by simp [eqGuard, binOp, equal_bool hT], h⟩
    · exact h.elim
  · obtain ⟨⟨e, hT⟩, h⟩ := h
    unfold nilP at h
    split at h
    · exact ⟨_, fun w => by simp [eqGuard, binOp, equal_nil hT], h⟩
    · exact ⟨_, fun w => by simp [eqGuard, binOp, equal_nil hT], h⟩
    · exact h.elim
  · obtain ⟨⟨e, hT⟩, h⟩ := h
    unfold nilP at h
    split at h
    · exact ⟨_, fun w => by simp [eqGuard, binOp, equal_nils hT], h⟩
    · exact ⟨_, fun w => by simp [eqGuard, binOp, equal_nils hT], h⟩
    · exact h.elim
  · exact h

theorem un_sound {b : UnOp} {x : Value} {K : Value → Prop} (h : unP b x K) : pureP P (Op.unary b x) K := by
  unfold unP at h
  split at h
  · exact ⟨_, fun w => by simp [Op.unary], h⟩
  · exact ⟨_, fun w => by simp [Op.unary, Op.intArith], h⟩
  · exact h.elim
theorem conv_sound {S D : TypeId} {x : Value} {K : Value → World → Prop} (h : convP P S D x w K) : runP P (convert S D x) w K := by
  unfold convP at h
  split at h
  · rename_i k n d1 k2 h1 h2
    refine ⟨_, w, ?_, h⟩
    unfold convert
    rw [Sem.run_bind, run_un h1]
    simp only [Result.andThen_ok]
    rw [Sem.run_bind, run_un h2]
    simp [Conv.intToInt]
  · exact h
theorem cell_size {a : Addr} {n : Nat} {cs : Array Value} (hs : cs.size = n) (h : ∀ i, i < n → w.cell? (a.add i) = cs[i]?) : (loadCells a n).run P w = .ok cs w := by
  have h1 := run_firstCells_some (P := P) w 1 n a n n cs.toList (by simp [hs]) (fun j u hu => by
    have hj : j < n := by
      rw [← hs]
      have := (List.getElem?_eq_some_iff.1 hu).1
      simpa using this
    rw [h j hj]
    simpa using hu)
  simpa [Builtin.firstCells] using h1
def aggD : TypeDesc → Bool
  | .struct _ => true
  | .array _ _ => true
  | _ => false
theorem isAgg_run {T : TypeId} {d : TypeDesc} (h : P.underlying T = some d) (w : World) : (isAgg T).run P w = .ok (aggD d) w := by
  unfold isAgg
  rw [Sem.run_bind, run_un h]
  simp only [Result.andThen_ok]
  cases d <;> rfl
theorem load_sound {T : TypeId} {x : Value} {K : Value → Prop} (h : loadP P T x w K) : ∃ v, (Instr.loadAt T x).run P w = .ok v w ∧ K v := by
  unfold loadP at h
  split at h
  · rename_i a d hd
    have one : ∀ v, w.cell? a = some v → aggD d = false → (Instr.loadAt T (.pointer (some a))).run P w = .ok v w := by
      intro v hv hag
      unfold Instr.loadAt Instr.sureAddr loadVar
      rw [Sem.run_bind]
      simp only [Sem.run_pure, Result.andThen_ok]
      rw [Sem.run_bind, isAgg_run hd, hag]
      simp [load, Sem.run, hv]
    have many : ∀ cs : Array Value, cs.size = P.cellsOf T → (∀ i, i < P.cellsOf T → w.cell? (a.add i) = cs[i]?) → aggD d = true → (Instr.loadAt T (.pointer (some a))).run P w = .ok (.agg cs) w := by
      intro cs h1 h2 hag
      unfold Instr.loadAt Instr.sureAddr loadVar
      rw [Sem.run_bind]
      simp only [Sem.run_pure, Result.andThen_ok]
      rw [Sem.run_bind, isAgg_run hd, hag]
      simp only [Result.andThen_ok, if_true]
      rw [Sem.run_bind, size_run hd]
      simp only [Result.andThen_ok]
      rw [Sem.run_bind, cell_size h1 h2]
      simp
    unfold ldP at h
    split at h
    · obtain ⟨x, h1, h2⟩ := h; exact ⟨_, one _ h1 rfl, h2⟩
    · obtain ⟨x, h1, h2⟩ := h; exact ⟨_, one _ h1 rfl, h2⟩
    · obtain ⟨x, h1, h2⟩ := h; exact ⟨_, one _ h1 rfl, h2⟩
    · obtain ⟨x, h1, h2⟩ := h; exact ⟨_, one _ h1 rfl, h2⟩
    · obtain ⟨A, m, c, h1, h2⟩ := h; exact ⟨_, one _ h1 rfl, h2⟩
    · obtain ⟨cs, h1, h2, h3⟩ := h; exact ⟨_, many _ h1 h2 rfl, h3⟩
    · obtain ⟨cs, h1, h2, h3⟩ := h; exact ⟨_, many _ h1 h2 rfl, h3⟩
    · obtain ⟨x, h1, h2⟩ := h
      refine ⟨_, one _ h1 ?_, h2⟩
      unfold aggD; split <;> simp_all
  · exact h.elim
theorem store_sound {T : TypeId} {x v : Value} {K : World → Prop} (h : storeP P T x v w K) : ∃ w', (Instr.storeAt T x v).run P w = .ok () w' ∧ K w' := by
  unfold storeP at h
  split at h
  · rename_i a d hd
    have many : ∀ cs : Array Value, a.spot = none → cs.size = P.cellsOf T → (∀ i, i < P.cellsOf T → (w.cell? ⟨a.block, a.off + i, none⟩).isSome = true ∧ w.frozen? ⟨a.block, a.off + i, none⟩ = false) → (∀ u ∈ cs, u.oneCell' = true) →
        (Instr.storeAt T (.pointer (some a)) (.agg cs)).run P w = .ok () (w.setCells a.block a.off cs.toList) := by
      intro cs hs h1 h2 h3
      unfold Instr.storeAt Instr.sureAddr storeVar
      rw [Sem.run_bind]
      simp only [Sem.run_pure, Result.andThen_ok]
      rw [Sem.run_bind, size_run hd]
      simp only [Result.andThen_ok, Value.cells]
      simp only [ne_eq, h1, not_true_eq_false, if_false]
      have ha : a = ⟨a.block, a.off, none⟩ := by cases a; simp_all
      have h4 := run_storeCells_cells (P := P) a.block a.off cs.toList 0 w (fun j hj => by simpa using (h2 j (by simpa [h1] using hj)).1) (fun j hj => by simpa using (h2 j (by simpa [h1] using hj)).2) (by simpa using h3)
      rw [← ha] at h4
      simpa using h4
    unfold stP at h
    split at h
    · obtain ⟨h0, h1, h2, h3, h4⟩ := h; exact ⟨_, many _ h0 h1 h2 h3, h4⟩
    · obtain ⟨h0, h1, h2, h3, h4⟩ := h; exact ⟨_, many _ h0 h1 h2 h3, h4⟩
    · obtain ⟨h1, h0, ⟨u, h2⟩, h3, h4⟩ := h
      refine ⟨_, ?_, h4⟩
      unfold Instr.storeAt Instr.sureAddr storeVar
      rw [Sem.run_bind]
      simp only [Sem.run_pure, Result.andThen_ok]
      rw [Sem.run_bind, size_run hd]
      have hv : v.cells = #[v] := by cases v <;> simp_all [Value.cells, Value.oneCell']
      simp only [Result.andThen_ok, hv]
      simp only [ne_eq, h1, List.size_toArray, List.length_cons, List.length_nil, Nat.zero_add, not_true_eq_false, if_false]
      have ha : a.add 0 = a := by simp [Addr.add]
      simp [storeCells, ha, run_store P w a v _ h0, h2, h3]
  · exact h.elim
theorem alloc_sound {T : TypeId} {K : Value → World → Prop} (h : allocP P T w K) : runP P (Instr.alloc T true (.tuple #[])) w K := by
  unfold allocP at h
  split at h
  · rename_i z hz
    refine ⟨_, _, ?_, h⟩
    unfold Instr.alloc
    rw [Sem.run_bind, zero_run hz]
    rfl
  · exact h.elim
theorem field_sound {T : TypeId} {x : Value} {f : Nat} {K : Value → Prop} (h : fieldAddrP P T x f K) : pureP P (Instr.fieldAt T x f) K := by
  unfold fieldAddrP at h
  split at h
  · rename_i a fs hd
    split at h
    · rename_i g hg
      refine ⟨_, fun w => ?_, h.2⟩
      have hne := h.1
      unfold Program.cellsOf at hne
      unfold Instr.fieldAt
      rw [Sem.run_bind, run_un hd]
      simp only [Result.andThen_ok, hg]
      cases hi : P.info? g.type with
      | none => rw [hi] at hne; simp at hne
      | some i =>
        rw [hi] at hne
        simp at hne
        simp [Instr.sureAddr, fieldPlace, Go.sizeOf, typeInfo, hi, hne]
    · exact h.elim
  · exact h.elim

theorem size_run' {T : TypeId} (h : P.cellsOf T ≠ 0) (w : World) : (Go.sizeOf T).run P w = .ok (P.cellsOf T) w := by
  unfold Program.cellsOf at h
  unfold Go.sizeOf typeInfo Program.cellsOf
  cases hi : P.info? T with
  | none => rw [hi] at h; simp at h
  | some i => simp [hi]
theorem index_sound {T : TypeId} {x i : Value} {K : Value → Prop} (h : indexAddrP P T x i K) : pureP P (Instr.indexAt T x i) K := by
  unfold indexAddrP at h
  split at h
  · rename_i A n c k j e hT
    obtain ⟨hne, h0, h1, a, rfl, h2⟩ := h
    refine ⟨_, fun w => ?_, h2⟩
    unfold Instr.indexAt
    simp [asIntOf, run_un hT, h0, h1, size_run' hne]
  · rename_i a k j n e hT
    obtain ⟨hne, h0, h1, h2⟩ := h
    refine ⟨_, fun w => ?_, h2⟩
    unfold Instr.indexAt
    simp [asIntOf, run_un hT, h0, h1, size_run' hne, Instr.sureAddr]
  · exact h.elim
theorem asN_some {o : Option Value} {d : Nat} {K : Nat → Prop} (h : asN o d K) : ∃ m, K m ∧ ((o = none ∧ m = d) ∨ ∃ k, o = some (.int k (m : Int))) := by
  unfold asN at h
  split at h
  · exact ⟨_, h, .inl ⟨rfl, rfl⟩⟩
  · exact ⟨_, h.2, .inr ⟨_, by rw [Int.toNat_of_nonneg h.1]⟩⟩
  · exact h.elim
theorem bound_run {k : IntKind} {m y : Nat} {code : BoundsCode} (h : m ≤ y) : (Instr.sliceBound (.int k (m : Int)) y code).run P w = .ok m w := by
  unfold Instr.sliceBound
  simp [asIntOf, h]
theorem bounds_run {b : Bool} {n c m l : Nat} {lo hi : Option Value} (hh : (hi = none ∧ m = n) ∨ ∃ k, hi = some (.int k (m : Int))) (hl : (lo = none ∧ l = 0) ∨ ∃ k, lo = some (.int k (l : Int)))
    (h1 : hi.isSome = true → m ≤ c) (h2 : lo.isSome = true → l ≤ m) : (Instr.sliceBounds b n c lo hi none).run P w = .ok (l, m, c) w := by
  unfold Instr.sliceBounds
  rcases hh with ⟨rfl, rfl⟩ | ⟨k, rfl⟩ <;> rcases hl with ⟨rfl, rfl⟩ | ⟨k', rfl⟩ <;> simp_all [bound_run]
theorem slice_sound {T : TypeId} {x : Value} {lo hi mx : Option Value} {K : Value → Prop} (h : sliceP P T x lo hi mx K) : pureP P (Instr.sliceAt T x lo hi mx) K := by
  unfold sliceP at h
  split at h
  · rename_i A n c e hT
    obtain ⟨hne, h⟩ := h
    obtain ⟨m, h, hm⟩ := asN_some h
    obtain ⟨l, h, hl⟩ := asN_some h
    refine ⟨_, fun w => ?_, h.2.2⟩
    unfold Instr.sliceAt Instr.slice
    simp [run_un hT, size_run' hne, bounds_run hm hl h.1 h.2.1, adv]
  · rename_i a n e hT
    obtain ⟨hne, h⟩ := h
    obtain ⟨m, h, hm⟩ := asN_some h
    obtain ⟨l, h, hl⟩ := asN_some h
    refine ⟨_, fun w => ?_, h.2.2⟩
    unfold Instr.sliceAt
    simp only [Sem.run_bind, run_un hT, size_run' hne, bounds_run hm hl h.1 h.2.1, Result.andThen_ok, Instr.sureAddr, Sem.run_pure, adv]
    split <;> simp
  · exact h
theorem len_sound {T : TypeId} {ty : TypeId} {ts : List TypeId} {x : Value} {xs : List Value} {K : Value → Prop} (h : lenP P T x w K) : ∃ v, (Builtin.len_ (T :: ts).toArray ty (x :: xs).toArray).run P w = .ok v w ∧ K v := by
  unfold lenP at h
  split at h
  · rename_i hT
    exact ⟨_, by simp [Builtin.len_, run_un hT, goInt], h⟩
  · rename_i hT
    exact ⟨_, by simp [Builtin.len_, run_un hT, goInt], h⟩
  · rename_i hT
    refine ⟨_, ?_, h⟩
    simp only [Builtin.len_, List.getElem?_toArray, List.getElem?_cons_zero, Sem.run_bind, run_un hT, Result.andThen_ok]
    rfl
  · obtain ⟨v, h1, h2⟩ := h
    exact ⟨v, by simpa [Builtin.len_] using h1, h2⟩

theorem blt_sound {b : Builtin} {ts : Array TypeId} {ty : TypeId} {cs : Array Bool} {xs : Array Value} {K : Value → World → Prop} (h : bltP P b ts ty xs w K) : Ends P ((builtin b ts ty cs xs).run P w) K := by
  obtain ⟨ts⟩ := ts
  obtain ⟨xs⟩ := xs
  unfold bltP at h
  split at h
  · rename_i T ts' x xs' h1 h2
    obtain rfl : ts = T :: ts' := by simpa using h1
    obtain rfl : xs = x :: xs' := by simpa using h2
    obtain ⟨v, h1, h2⟩ := len_sound (ty := ty) (ts := ts') (xs := xs') h
    exact ends_value h1 h2
  · rename_i T ts' A n c xs' h1 h2
    obtain rfl : ts = T :: ts' := by simpa using h1
    obtain rfl : xs = .slice A n c :: xs' := by simpa using h2
    obtain ⟨⟨e, hT⟩, h⟩ := h
    exact ends_value (by simp [Builtin.cap_, run_un hT, goInt]) h
  · rename_i x y h2
    obtain rfl : xs = [x, y] := by simpa using h2
    unfold minP at h
    split at h
    · exact ends_value (by simp [Builtin.min_, Builtin.min2]) h
    · exact h.elim
  · rename_i x y h2
    obtain rfl : xs = [x, y] := by simpa using h2
    unfold maxP at h
    split at h
    · exact ends_value (by simp [Builtin.max_, Builtin.max2]) h
    · exact h.elim
  · exact ends_run h
  · exact ends_run h
  · exact ends_run h
  · exact ends_run h
  · exact h.elim

theorem op_sound {o : Oper} {e : Env} {K : Value → World → Prop} (h : opP P o e w K) : Ends P ((execOp (ev e) o).run P w) K := by
  obtain ⟨dst, op, ty, pos, aft, gd⟩ := o
  cases op with
  | move x => exact h
  | assign x => exact h
  | pick c a b =>
    have h : pickP (ev e c) (ev e a) (ev e b) fun v => K v w := h
    unfold pickP at h
    split at h
    · rename_i t ht
      simp only [execOp, ht, asBool, Sem.run_bind, Sem.run_pure, Result.andThen_ok]
      exact h
    · exact h.elim
  | binOp b T x y _ => exact ends_pure (bin_sound h)
  | unOp b _ x => exact ends_pure (un_sound h)
  | convert s d x => exact ends_run (conv_sound h)
  | load T x =>
    obtain ⟨v, h1, h2⟩ := load_sound h
    exact ends_value h1 h2
  | store T x v =>
    obtain ⟨w', h1, h2⟩ := store_sound h
    simp only [execOp]
    rw [show (do Instr.storeAt T (ev e x) (ev e v); pure Next.skip : Sem Next).run P w = .ok .skip w' by simp [h1]]
    exact h2
  | alloc T => exact ends_run (alloc_sound h)
  | box T x => exact ends_value rfl h
  | build T ps => exact ends_pure h
  | buildSlice T n ps => exact ends_run h
  | nilCheck x =>
    have h : nilCheckP (ev e x) fun v => K v w := h
    unfold nilCheckP at h
    split at h
    · rename_i a ha
      simp only [execOp, ha]
      exact h
    · exact h.elim
  | fieldAddr T x f => exact ends_pure (field_sound h)
  | indexAddr T x i => exact ends_pure (index_sound h)
  | slice T x lo hi mx => exact ends_pure (slice_sound h)
  | extract x i =>
    have h : extractP (ev e x) i fun v => K v w := h
    unfold extractP at h
    split at h
    · rename_i vs hvs
      obtain ⟨v, h1, h2⟩ := h
      exact ends_value (by simp [hvs, Instr.extract, h1]) h2
    · exact h.elim
  | field T x f => exact ends_pure h
  | index T x i => exact ends_pure h
  | makeSlice T l c => exact ends_run h
  | makeInterface T x => exact ends_pure h
  | makeFunc fn a c => exact ends_pure h
  | makeMap T r => exact ends_run h
  | lookup T x i ok => exact ends_run h
  | mapUpdate T m k x =>
    obtain ⟨v, w', h1, h2⟩ := h
    simp only [execOp]
    rw [show (do Instr.mapUpdate T (ev e m) (ev e k) (ev e x); pure Next.skip : Sem Next).run P w = .ok .skip w' by simp [h1]]
    exact h2
  | call c =>
    obtain ⟨callee, args, tys⟩ := c
    cases callee with
    | value f =>
      have h : callP P (ev e f) (args.map (ev e)) w K := h
      unfold callP at h
      split at h
      · rename_i k first captured hf
        rcases h with ⟨h1, h2⟩ | ⟨v, w', h1, h2⟩
        · simp only [execOp, resolve, hf, Deferred.ofValue, invoke, Sem.run_bind, Sem.run_pure, Result.andThen_ok, h1]
          exact h2
        · simp only [execOp, resolve, hf, Deferred.ofValue, invoke, Sem.run_bind, Sem.run_pure, Result.andThen_ok, h1]
          exact h2
      · exact h.elim
    | builtin b => exact blt_sound h
    | invoke r m =>
      obtain ⟨n, w', h1, h2⟩ := h
      split at h2
      · rename_i f xs
        simp only [execOp, resolve, invoke, Sem.run_bind, Sem.run_pure, Result.andThen_ok]
        have e1 : (#[ev e r] ++ Array.map (ev e) args)[0]? = some (ev e r) := by
          rw [Array.getElem?_append_left (by simp)]; rfl
        have e2 : (#[ev e r] ++ Array.map (ev e) args).extract 1 (#[ev e r] ++ Array.map (ev e) args).size = Array.map (ev e) args := by
          apply Array.ext'
          simp
          rw [List.take_of_length_le (by simp)]
        rw [e1]
        simp only [e2]
        rw [h1]
        exact h2
      · exact h2.elim
  | _ => exact h.elim
end

def guardB (v : Value) (t : Nat) (want : Bool) (e : Env) (A B : Env → Prop) : Prop :=
  match v with
  | .bool b => (b = want → A (up e t (.bool want))) ∧ (b = !want → B (up e t (.bool !want)))
  | _ => B e
def guardV (s : Option Nat) (want : Bool) (e : Env) (A B : Env → Prop) : Prop :=
  match s with
  | some t => guardB (e t) t want e A B
  | none => B e
def guardP (g : Option (Nat × Bool)) (ops : Array Oper) (e : Env) (A B : Env → Prop) : Prop :=
  match g with
  | none => A e
  | some (j, want) => guardV ((ops[j]?).bind (·.dst)) want e A B
def opsP (P : Program) (ops : Array Oper) : List Oper → Env → World → (Env → World → Prop) → Prop
  | [], e, w, K => K e w
  | o :: r, e, w, K => guardP o.guard ops e (fun e => opP P o e w fun v w' => opsP P ops r (upO e o.dst v) w' K) (fun e => opsP P ops r (upO e o.dst undef) w K)

def lift (n : Nat) (Q : Exit → Env → World → Prop) : Exit → Act → World → Prop := fun x a w => ∃ e, Rep n a e ∧ Q x e w
def drawP (P : Program) (id : Nat) (ops : Array Oper) (e : Env) (w : World) (K : Env → World → Prop) : Prop :=
  ∀ n a, (∀ o ∈ ops, ∀ t, o.dst = some t → t < n) → Rep n a e → (Code.region id ops true).wp P (lift n fun x e w => x = .normal ∧ K e w) a w
def inB (id : Nat) (Q : Exit → Env → World → Prop) : Exit → Env → World → Prop
  | .exit j, e, w => if j = id then Q .normal e w else Q (.exit j) e w
  | x, e, w => Q x e w
def thenP (N : Env → World → Prop) (Q : Exit → Env → World → Prop) : Exit → Env → World → Prop
  | .normal, e, w => N e w
  | x, e, w => Q x e w
def code (P : Program) : Code → Env → World → (Exit → Env → World → Prop) → Prop
  | .skip, e, w, Q => Q .normal e w
  | .region id ops draw, e, w, Q => if draw = true then drawP P id ops e w (fun e w => Q .normal e w) else opsP P ops ops.toList e w (fun e w => Q .normal e w)
  | .seq a b, e, w, Q => code P a e w (thenP (fun e w => code P b e w Q) Q)
  | .cond c a b, e, w, Q => condP (ev e c) (code P a e w Q) (code P b e w Q)
  | .block id c, e, w, Q => code P c e w (inB id Q)
  | .loop c, e, w, Q => ∃ (I : Env → World → Prop) (μ : Env → World → Nat), I e w ∧ ∀ e w, I e w → code P c e w (thenP (fun e' w' => I e' w' ∧ μ e' w' < μ e w) Q)
  | .exit id, e, w, Q => Q (.exit id) e w
  | .ret, e, w, Q => Q .ret e w
  | _, _, _, _ => False
def fitsO (n : Nat) (ops : Array Oper) : Bool := ops.all fun o => match o.dst with | some t => decide (t < n) | none => true
def fits (n : Nat) : Code → Bool
  | .region _ ops _ => fitsO n ops
  | .seq a b => fits n a && fits n b
  | .cond _ a b => fits n a && fits n b
  | .block _ c => fits n c
  | .loop c => fits n c
  | .skip | .exit _ | .ret => true
  | _ => false

theorem fitsO_spec {n : Nat} {ops : Array Oper} (h : fitsO n ops = true) : ∀ o ∈ ops, ∀ t, o.dst = some t → t < n := by
  intro o ho t ht
  unfold fitsO at h
  rw [Array.all_eq_true_iff_forall_mem] at h
  have := h o ho
  rw [ht] at this
  simpa using this

section
variable {P : Program} {n : Nat}
theorem ops_sound {ops : Array Oper} : ∀ (l : List Oper) (e : Env) (w : World) (K : Env → World → Prop) (Q : Exit → Act → World → Prop) (a : Act), (∀ o ∈ l, ∀ t, o.dst = some t → t < n) → (∀ a e w, Rep n a e → K e w → Q .normal a w) → Rep n a e →
    opsP P ops l e w K → wpList P ops Q l a w
  | [], e, w, K, Q, a, _, hQ, hr, h => hQ _ _ _ hr h
  | o :: r, e, w, K, Q, a, hl, hQ, hr, h => by
    have hl' : ∀ o ∈ r, ∀ t, o.dst = some t → t < n := fun o ho => hl o (List.mem_cons_of_mem _ ho)
    have hd := hl o (List.mem_cons_self ..)
    have yes : ∀ e, Rep n a e → opP P o e w (fun v w' => opsP P ops r (upO e o.dst v) w' K) → o.wp P a w (wpList P ops Q r) Q := by
      intro e hr h
      have h1 := op_sound h
      unfold Oper.wp
      rw [hr.evalf]
      generalize (execOp (ev e) o).run P w = res at h1
      cases res with
      | ok nx w' =>
        cases nx <;> simp only [Ends] at h1 <;> simp only [Oper.upon]
        case value v => exact ops_sound r _ _ K Q _ hl' hQ (hr.put _ hd v) h1
        case skip => exact ops_sound r _ _ K Q _ hl' hQ (hr.put _ hd undef) h1
        case enter f xs =>
          refine h1.mono ?_
          rintro en w'' ⟨v, rfl, hk⟩
          exact ops_sound r _ _ K Q _ hl' hQ (hr.put _ hd v) hk
      | halt x w' => exact h1.elim
    have no : ∀ e, Rep n a e → opsP P ops r (upO e o.dst undef) w K → wpList P ops Q r (a.put o.dst undef) w := fun e hr h => ops_sound r _ _ K Q _ hl' hQ (hr.put _ hd undef) h
    unfold opsP guardP guardV guardB at h
    unfold wpList
    split at h
    · rename_i hg
      rw [if_pos (by simp [Region.wanted, hg])]
      exact .inl (yes e hr h)
    · rename_i j want hg
      have upd : ∀ t b, e t = .bool b → up e t (.bool b) = e := by
        intro t b h
        funext s
        unfold up
        split
        · rename_i hs; rw [hs, h]
        · rfl
      have hy : yielded ops a.tmps j = match (ops[j]?).bind (·.dst) with | some t => (match e t with | .bool b => some b | _ => none) | none => none := by
        unfold yielded
        cases (ops[j]?).bind (·.dst) with
        | none => rfl
        | some t =>
          obtain ⟨_, hs, rfl⟩ := hr
          simp only [Option.bind_some, Array.getD_eq_getD_getElem?]
          cases a.tmps[t]? with
          | none => rfl
          | some v => cases v <;> rfl
      split at h
      · rename_i t ht
        rw [ht] at hy
        split at h
        · rename_i b hb
          simp only [hb] at hy
          by_cases hbw : b = want
          · subst hbw
            rw [if_pos (by simp [Region.wanted, hg, hy])]
            have := h.1 rfl
            rw [upd _ _ hb] at this
            exact .inl (yes e hr this)
          · rw [if_neg (by simp [Region.wanted, hg, hy, hbw])]
            have hb' : b = !want := by cases b <;> cases want <;> simp_all
            have := h.2 hb'
            rw [← hb', upd _ _ hb] at this
            exact no e hr this
        · rename_i hnb
          have : yielded ops a.tmps j = none := by
            rw [hy]
            show (match e t with | .bool b => some b | _ => none) = none
            split
            · rename_i b hb; exact absurd hb (hnb b)
            · rfl
          rw [if_neg (by simp [Region.wanted, hg, this])]
          exact no e hr h
      · rename_i ht
        rw [ht] at hy
        rw [if_neg (by simp [Region.wanted, hg, hy])]
        exact no e hr h

theorem code_sound : ∀ (c : Code) (e : Env) (w : World) (Q : Exit → Env → World → Prop) (a : Act), fits n c = true → Rep n a e → code P c e w Q → c.wp P (lift n Q) a w
  | .skip, e, w, Q, a, _, hr, h => wp_skip ⟨e, hr, h⟩
  | .region id ops draw, e, w, Q, a, hf, hr, h => by
    unfold code at h
    cases draw with
    | true =>
      simp only [if_true] at h
      refine wp_mono (h n a (fitsO_spec hf) hr) ?_
      rintro x a w ⟨e, hr, rfl, h⟩
      exact ⟨e, hr, h⟩
    | false =>
      simp only [Bool.false_eq_true, if_false] at h
      refine wp_region_list (ops_sound ops.toList e w _ _ a (fun o ho => fitsO_spec hf o (by simpa using ho)) ?_ hr h)
      intro a e w hr h
      exact ⟨e, hr, h⟩
  | .seq c d, e, w, Q, a, hf, hr, h => by
    unfold code at h
    simp only [fits, Bool.and_eq_true] at hf
    refine wp_seq (wp_mono (code_sound c e w _ a hf.1 hr h) ?_)
    rintro x a w ⟨e, hr, h⟩
    cases x with
    | normal => exact code_sound d e w Q a hf.2 hr h
    | _ => exact ⟨e, hr, h⟩
  | .cond c x y, e, w, Q, a, hf, hr, h => by
    unfold code condP at h
    simp only [fits, Bool.and_eq_true] at hf
    split at h
    · rename_i b hb
      refine wp_cond_split (t := b) ((hr.eval c).trans hb) (fun ht => code_sound x e w Q a hf.1 hr (h.1 ht)) (fun ht => code_sound y e w Q a hf.2 hr (h.2 ht))
    · exact h.elim
  | .block id c, e, w, Q, a, hf, hr, h => by
    unfold code at h
    refine wp_block (wp_mono (code_sound c e w _ a hf hr h) ?_)
    rintro x a w ⟨e, hr, h⟩
    cases x with
    | exit j =>
      have h : if j = id then Q .normal e w else Q (.exit j) e w := h
      show if j = id then lift n Q .normal a w else lift n Q (.exit j) a w
      by_cases hj : j = id
      · rw [if_pos hj] at h ⊢; exact ⟨e, hr, h⟩
      · rw [if_neg hj] at h ⊢; exact ⟨e, hr, h⟩
    | _ => exact ⟨e, hr, h⟩
  | .loop c, e, w, Q, a, hf, hr, h => by
    unfold code at h
    obtain ⟨I, μ, h0, hround⟩ := h
    refine wp_loop (fun a w => ∃ e, Rep n a e ∧ I e w) (fun a w => μ (fun s => a.tmps.getD s undef) w) ⟨e, hr, h0⟩ ?_
    rintro a w ⟨e, hr, hI⟩
    refine wp_mono (code_sound c e w _ a hf hr (hround e w hI)) ?_
    rintro x a' w' ⟨e', hr', h⟩
    cases x with
    | normal =>
      obtain ⟨h1, h2⟩ := h
      refine ⟨⟨e', hr', h1⟩, ?_⟩
      rw [← hr.2.2, ← hr'.2.2]
      exact h2
    | _ => exact ⟨e', hr', h⟩
  | .exit id, e, w, Q, a, _, hr, h => wp_exit ⟨e, hr, h⟩
  | .ret, e, w, Q, a, _, hr, h => wp_ret ⟨e, hr, h⟩
  | .rangeFunc .., _, _, _, _, hf, _, _ => by simp [fits] at hf
  | .scope _, _, _, _, _, hf, _, _ => by simp [fits] at hf
  | .label _, _, _, _, _, hf, _, _ => by simp [fits] at hf
  | .goto _, _, _, _, _, hf, _, _ => by simp [fits] at hf
  | .refuse _, _, _, _, _, hf, _, _ => by simp [fits] at hf

def resL (P : Program) : List ResultVar → Env → World → (List Value → Prop) → Prop
  | [], _, _, K => K []
  | .tmp t :: r, e, w, K => resL P r e w fun vs => K (e t :: vs)
  | .cell a T :: r, e, w, K => loadP P T (e a) w fun v => resL P r e w fun vs => K (v :: vs)
def one : List Value → Value
  | [v] => v
  | vs => .tuple vs.toArray
def init : List Value → Nat → Env
  | [], _ => fun _ => undef
  | v :: r, k => up (init r (k + 1)) k v
theorem init_apply : ∀ (l : List Value) (k s : Nat), init l k s = if k ≤ s then l.getD (s - k) undef else undef
  | [], k, s => by simp [init]
  | v :: r, k, s => by
    simp only [init, up]
    by_cases h : s = k
    · subst h; simp
    · rw [if_neg h, init_apply r (k + 1) s]
      by_cases h1 : k ≤ s
      · rw [if_pos h1, if_pos (by omega), show s - k = (s - (k + 1)) + 1 by omega]
        simp
      · rw [if_neg h1, if_neg (by omega)]
def post (P : Program) (rs : List ResultVar) (R : Value → World → Prop) : Exit → Env → World → Prop
  | .normal, e, w => resL P rs e w fun vs => R (one vs) w
  | .ret, e, w => resL P rs e w fun vs => R (one vs) w
  | _, _, _ => False

def rsem (a : Act) : ResultVar → Sem Value
  | .tmp t => pure (a.tmps.getD t undef)
  | .cell x t => do loadVar t (← asAddr (a.tmps.getD x undef))
theorem sure_as {P : Program} {w : World} {T : TypeId} {x v : Value} (h : (Instr.loadAt T x).run P w = .ok v w) : (do loadVar T (← asAddr x) : Sem Value).run P w = .ok v w := by
  unfold Instr.loadAt Instr.sureAddr at h
  cases x with
  | pointer q =>
    cases q with
    | some q => exact h
    | none => cases h
  | _ => cases h
theorem resL_sound : ∀ (rs : List ResultVar) (a : Act) (e : Env) (w : World) (K : List Value → Prop), Rep n a e → resL P rs e w K →
    ∃ vs, (rs.mapM (rsem a)).run P w = .ok vs w ∧ K vs
  | [], _, _, _, K, _, h => ⟨[], by simp, h⟩
  | .tmp t :: r, a, e, w, K, hr, h => by
    obtain ⟨vs, h1, h2⟩ := resL_sound r a e w _ hr h
    refine ⟨e t :: vs, ?_, h2⟩
    obtain ⟨_, _, rfl⟩ := hr
    rw [List.mapM_cons, Sem.run_bind]
    simp only [rsem, Sem.run_pure, Result.andThen_ok]
    rw [Sem.run_bind]
    rw [h1]
    rfl
  | .cell x T :: r, a, e, w, K, hr, h => by
    obtain ⟨v, h3, h⟩ := load_sound h
    obtain ⟨vs, h1, h2⟩ := resL_sound r a e w _ hr h
    refine ⟨v :: vs, ?_, h2⟩
    obtain ⟨_, _, rfl⟩ := hr
    rw [List.mapM_cons, Sem.run_bind]
    rw [show rsem a (.cell x T) = (do loadVar T (← asAddr (a.tmps.getD x undef))) from rfl, sure_as h3]
    simp only [Result.andThen_ok]
    rw [Sem.run_bind, h1]
    rfl
theorem results_run {fn : Func} {a : Act} {w : World} {vs : List Value} (h : (fn.results.toList.mapM (rsem a)).run P w = .ok vs w) : (results fn a.tmps).run P w = .ok (one vs) w := by
  have e : (fn.results.mapM (rsem a)) = List.toArray <$> fn.results.toList.mapM (rsem a) := Array.mapM_eq_mapM_toList
  have e' : (fn.results.mapM (rsem a)).run P w = .ok vs.toArray w := by rw [e]; simp [h]
  unfold results
  rw [Sem.run_bind]
  have e3 : ∀ f : ResultVar → Sem Value, f = rsem a → (fn.results.mapM f).run P w = .ok vs.toArray w := fun f hf => by rw [hf]; exact e'
  rw [e3 _ (by funext r; cases r <;> rfl)]
  simp only [Result.andThen_ok, Sem.run_pure]
  unfold one
  rcases vs with _ | ⟨v, _ | ⟨v', r⟩⟩ <;> simp
theorem calls_of {f : FuncId} {fn : Func} {c : Code} {args : Array Value} {w : World} {R : Ending → World → Prop} (hf : P.funcs[f]? = some fn) (hb : fn.body = some c) (hfit : fits fn.ntmps c = true) (hargs : args.size ≤ fn.ntmps)
    (h : code P c (init args.toList 0) w (post P fn.results.toList fun v w' => R (.returned v) w')) : Calls P f args w R := by
  refine calls_of_wp hf hb ?_
  have hr : Rep fn.ntmps { tmps := args ++ Array.replicate (fn.ntmps - args.size) undef, defers := [] } (init args.toList 0) := by
    refine ⟨rfl, by simp; omega, ?_⟩
    funext s
    rw [init_apply]
    simp only [Nat.zero_le, if_true, Nat.sub_zero, Array.getD_eq_getD_getElem?, List.getD_eq_getElem?_getD, Array.getElem?_append, Array.getElem?_replicate]
    by_cases hs : s < args.size
    · rw [if_pos hs]; simp
    · rw [if_neg hs]
      have : args.toList[s]? = none := List.getElem?_eq_none (by simpa using hs)
      rw [this]
      split <;> rfl
  refine wp_mono (code_sound c _ w _ _ hfit hr h) ?_
  rintro x a w' ⟨e, hr, h⟩
  have hd := hr.1
  cases x with
  | normal =>
    obtain ⟨vs, h1, h2⟩ := resL_sound _ a e w' _ hr h
    exact ⟨hd, _, results_run h1, h2⟩
  | ret =>
    obtain ⟨vs, h1, h2⟩ := resL_sound _ a e w' _ hr h
    exact ⟨hd, _, results_run h1, h2⟩
  | _ => exact h.elim
end

def readP (P : Program) (B : Nat) (s : Sem Value) (w : World) (K : Value → Prop) : Prop := ∃ v, (∀ w', Below B w w' → s.run P w' = .ok v w') ∧ K v
def loadQ (P : Program) (B : Nat) (T : TypeId) (x : Value) (w : World) (K : Value → Prop) : Prop :=
  match x with
  | .pointer (some a) => (a.block < B ∨ w.heap.size ≤ B) ∧ loadP P T (.pointer (some a)) w K
  | _ => False
def callQ (P : Program) (B : Nat) (f : Value) (args : Array Value) (w : World) (K : Value → Prop) : Prop :=
  match f with
  | .func (.func k) first captured => (∀ args w, (callFunc k args).run P w = .ok (.enter k args) w) ∧
      ∃ v, (∀ w1, Below B w w1 → Calls P k (first ++ args ++ captured) w1 (fun en w2 => en = .returned v ∧ Below w1.heap.size w1 w2)) ∧ K v
  | _ => False
def convQ (P : Program) (B : Nat) (S D : TypeId) (x : Value) (w : World) (K : Value → Prop) : Prop :=
  match x, P.underlying S, P.underlying D with
  | .int _ n, some _, some (.int k) => K (.int k (k.wrap n))
  | _, _, _ => readP P B (convert S D x) w K
def bltQ (P : Program) (b : Builtin) (ts : Array TypeId) (xs : Array Value) (K : Value → Prop) : Prop :=
  match b, ts.toList, xs.toList with
  | .len, T :: _, .slice _ n _ :: _ => (∃ el, P.underlying T = some (.slice el)) ∧ K (.int .i64 n)
  | .len, T :: _, .string s :: _ => P.underlying T = some .string ∧ K (.int .i64 s.size)
  | .min, _, [x, y] => minP x y K
  | .max, _, [x, y] => maxP x y K
  | _, _, _ => False
def opQ (P : Program) (B : Nat) (o : Oper) (e : Env) (w : World) (K : Value → Prop) : Prop :=
  match o.op with
  | .move x => K (ev e x)
  | .assign x => K (ev e x)
  | .pick c a b => pickP (ev e c) (ev e a) (ev e b) K
  | .binOp b T x y _ => binP P b T x y (ev e x) (ev e y) K
  | .unOp b _ x => unP b (ev e x) K
  | .convert s d x => convQ P B s d (ev e x) w K
  | .load T x => loadQ P B T (ev e x) w K
  | .build T ps => pureP P (Instr.build T (ps.map fun (i, x) => (i, ev e x))) K
  | .nilCheck x => nilCheckP (ev e x) K
  | .fieldAddr T x f => fieldAddrP P T (ev e x) f K
  | .indexAddr T x i => indexAddrP P T (ev e x) (ev e i) K
  | .slice T x lo hi mx => sliceP P T (ev e x) (lo.map (ev e)) (hi.map (ev e)) (mx.map (ev e)) K
  | .extract x i => extractP (ev e x) i K
  | .field T x f => pureP P (Instr.field T (ev e x) f) K
  | .index T x i => pureP P (Instr.index T (ev e x) (ev e i)) K
  | .makeInterface T x => pureP P (Instr.makeInterface T (ev e x)) K
  | .call c =>
    match c.callee with
    | .value f => callQ P B (ev e f) (c.args.map (ev e)) w K
    | .builtin b => bltQ P b c.argTypes (c.args.map (ev e)) K
    | _ => False
  | _ => False
def opsQ (P : Program) (B : Nat) (ops : Array Oper) : List Oper → Env → World → (Env → Prop) → Prop
  | [], e, _, K => K e
  | o :: r, e, w, K => guardP o.guard ops e (fun e => opQ P B o e w fun v => opsQ P B ops r (upO e o.dst v) w K) (fun e => opsQ P B ops r (upO e o.dst undef) w K)

section
variable {P : Program} {B : Nat} {w : World}
def EndsQ (P : Program) (B : Nat) (o : Oper) (e : Env) (w : World) (v : Value) : Prop :=
  ∀ w1, Below B w w1 → Oper.quietUpon P (Below w1.heap.size w1) w1 v ((execOp (ev e) o).run P w1)
theorem lift_quiet {C : World → Prop} {s : Sem Value} {v : Value} (h : s.run P w = .ok v w) : Oper.quietUpon P C w v ((do pure (.value (← s)) : Sem Next).run P w) := by
  rw [run_lift h]; exact ⟨rfl, rfl⟩
theorem cell_later {w w1 : World} {a : Addr} {v : Value} (hb : Below w.heap.size w w1) (h : w.cell? a = some v) : w1.cell? a = some v :=
  (hb.cell (World.block_lt_of_cell? w a h)).trans h
theorem cell_later' {w w1 : World} {a : Addr} {v : Value} (hb : Below B w w1) (hB : a.block < B ∨ w.heap.size ≤ B) (h : w.cell? a = some v) : w1.cell? a = some v := by
  have h1 := World.block_lt_of_cell? w a h
  exact (hb.cell (by omega)).trans h
theorem add_block (a : Addr) (n : Nat) : (a.add n).block = a.block := by unfold Addr.add; split <;> rfl
theorem load_quiet {T : TypeId} {x : Value} {K : Value → Prop} (h : loadQ P B T x w K) : ∃ v, (∀ w1, Below B w w1 → (Instr.loadAt T x).run P w1 = .ok v w1) ∧ K v := by
  unfold loadQ at h
  split at h
  case h_2 => exact h.elim
  rename_i ad
  obtain ⟨hB, h⟩ := h
  generalize hx : Value.pointer (some ad) = x at h ⊢
  have key : ∀ v, loadP P T x w (fun u => u = v) → ∀ w1, Below B w w1 → (Instr.loadAt T x).run P w1 = .ok v w1 := by
    intro v hv w1 hb
    have : loadP P T x w1 (fun u => u = v) := by
      unfold loadP at hv ⊢
      split at hv
      · rename_i a d hd
        obtain rfl : ad = a := by injection hx with hx; injection hx
        unfold ldP at hv ⊢
        have many : ∀ (cs : Array Value) n, cs.size = n → (∀ i, i < n → w.cell? (ad.add i) = cs[i]?) → ∀ i, i < n → w1.cell? (ad.add i) = cs[i]? := by
          intro cs n hs h i hi
          have h1 := h i hi
          rw [Array.getElem?_eq_getElem (by omega)] at h1 ⊢
          exact cell_later' hb (by rw [add_block]; exact hB) h1
        split at hv
        · obtain ⟨x, h1, h2⟩ := hv; exact ⟨x, cell_later' hb hB h1, h2⟩
        · obtain ⟨x, h1, h2⟩ := hv; exact ⟨x, cell_later' hb hB h1, h2⟩
        · obtain ⟨x, h1, h2⟩ := hv; exact ⟨x, cell_later' hb hB h1, h2⟩
        · obtain ⟨x, h1, h2⟩ := hv; exact ⟨x, cell_later' hb hB h1, h2⟩
        · obtain ⟨A, m, c, h1, h2⟩ := hv; exact ⟨A, m, c, cell_later' hb hB h1, h2⟩
        · obtain ⟨cs, h1, h2, h3⟩ := hv; exact ⟨cs, h1, many cs _ h1 h2, h3⟩
        · obtain ⟨cs, h1, h2, h3⟩ := hv; exact ⟨cs, h1, many cs _ h1 h2, h3⟩
        · obtain ⟨x, h1, h2⟩ := hv; exact ⟨x, cell_later' hb hB h1, h2⟩
      · exact hv.elim
    obtain ⟨u, h1, rfl⟩ := load_sound this
    exact h1
  have mono : ∃ v, loadP P T x w (fun u => u = v) ∧ K v := by
    unfold loadP at h ⊢
    split at h
    · rename_i a d hd
      unfold ldP at h ⊢
      split at h
      · obtain ⟨x, h1, h2⟩ := h; exact ⟨_, ⟨x, h1, rfl⟩, h2⟩
      · obtain ⟨x, h1, h2⟩ := h; exact ⟨_, ⟨x, h1, rfl⟩, h2⟩
      · obtain ⟨x, h1, h2⟩ := h; exact ⟨_, ⟨x, h1, rfl⟩, h2⟩
      · obtain ⟨x, h1, h2⟩ := h; exact ⟨_, ⟨x, h1, rfl⟩, h2⟩
      · obtain ⟨A, m, c, h1, h2⟩ := h; exact ⟨_, ⟨A, m, c, h1, rfl⟩, h2⟩
      · obtain ⟨cs, h1, h2, h3⟩ := h; exact ⟨_, ⟨cs, h1, h2, rfl⟩, h3⟩
      · obtain ⟨cs, h1, h2, h3⟩ := h; exact ⟨_, ⟨cs, h1, h2, rfl⟩, h3⟩
      · obtain ⟨x, h1, h2⟩ := h; exact ⟨_, ⟨x, h1, rfl⟩, h2⟩
    · exact h.elim
  obtain ⟨v, h1, h2⟩ := mono
  exact ⟨v, key v h1, h2⟩
theorem opQ_sound {o : Oper} {e : Env} {K : Value → Prop} (h : opQ P B o e w K) : ∃ v, EndsQ P B o e w v ∧ K v := by
  have pureQ : ∀ {s : Sem Value} {K : Value → Prop}, pureP P s K → ∃ v, (∀ w1, Oper.quietUpon P (Below w1.heap.size w1) w1 v ((do pure (.value (← s)) : Sem Next).run P w1)) ∧ K v := by
    rintro s K ⟨v, h1, h2⟩
    exact ⟨v, fun w1 => lift_quiet (h1 w1), h2⟩
  obtain ⟨dst, op, ty, pos, aft, gd⟩ := o
  cases op with
  | move x => exact ⟨_, fun w1 _ => ⟨rfl, rfl⟩, h⟩
  | assign x => exact ⟨_, fun w1 _ => ⟨rfl, rfl⟩, h⟩
  | pick c a b =>
    have h : pickP (ev e c) (ev e a) (ev e b) K := h
    unfold pickP at h
    split at h
    · rename_i t ht
      refine ⟨_, fun w1 _ => ?_, h⟩
      simp only [execOp, ht, asBool, Sem.run_bind, Sem.run_pure, Result.andThen_ok]
      exact ⟨rfl, rfl⟩
    · exact h.elim
  | binOp b T x y _ =>
    obtain ⟨v, h1, h2⟩ := pureQ (bin_sound h)
    exact ⟨v, fun w1 _ => h1 w1, h2⟩
  | unOp b _ x =>
    obtain ⟨v, h1, h2⟩ := pureQ (un_sound h)
    exact ⟨v, fun w1 _ => h1 w1, h2⟩
  | convert s d x =>
    replace h : convQ P B s d (ev e x) w K := h
    unfold convQ at h
    split at h
    · rename_i k n d1 k2 hx h1 h2
      refine ⟨_, fun w1 _ => ?_, h⟩
      refine lift_quiet ?_
      have := conv_sound (P := P) (w := w1) (S := s) (D := d) (x := ev e x) (K := fun v w' => v = .int k2 (k2.wrap n) ∧ w' = w1) (by unfold convP; simp only [hx, h1, h2]; exact ⟨trivial, trivial⟩)
      obtain ⟨v, w', h3, rfl, rfl⟩ := this
      exact h3
    · obtain ⟨v, h1, h2⟩ := h
      exact ⟨v, fun w1 hb => lift_quiet (h1 w1 hb), h2⟩
  | load T x =>
    obtain ⟨v, h1, h2⟩ := load_quiet h
    exact ⟨v, fun w1 hb => lift_quiet (h1 w1 hb), h2⟩
  | build T ps =>
    obtain ⟨v, h1, h2⟩ := pureQ h
    exact ⟨v, fun w1 _ => h1 w1, h2⟩
  | nilCheck x =>
    have h : nilCheckP (ev e x) K := h
    unfold nilCheckP at h
    split at h
    · rename_i a ha
      refine ⟨_, fun w1 _ => ?_, h⟩
      simp only [execOp, ha]
      exact ⟨rfl, rfl⟩
    · exact h.elim
  | fieldAddr T x f =>
    obtain ⟨v, h1, h2⟩ := pureQ (field_sound h)
    exact ⟨v, fun w1 _ => h1 w1, h2⟩
  | indexAddr T x i =>
    obtain ⟨v, h1, h2⟩ := pureQ (index_sound h)
    exact ⟨v, fun w1 _ => h1 w1, h2⟩
  | slice T x lo hi mx =>
    obtain ⟨v, h1, h2⟩ := pureQ (slice_sound h)
    exact ⟨v, fun w1 _ => h1 w1, h2⟩
  | extract x i =>
    have h : extractP (ev e x) i K := h
    unfold extractP at h
    split at h
    · rename_i vs hvs
      obtain ⟨v, h1, h2⟩ := h
      exact ⟨v, fun w1 _ => lift_quiet (by simp [hvs, Instr.extract, h1]), h2⟩
    · exact h.elim
  | field T x f =>
    obtain ⟨v, h1, h2⟩ := pureQ h
    exact ⟨v, fun w1 _ => h1 w1, h2⟩
  | index T x i =>
    obtain ⟨v, h1, h2⟩ := pureQ h
    exact ⟨v, fun w1 _ => h1 w1, h2⟩
  | makeInterface T x =>
    obtain ⟨v, h1, h2⟩ := pureQ h
    exact ⟨v, fun w1 _ => h1 w1, h2⟩
  | call c =>
    obtain ⟨callee, args, tys⟩ := c
    cases callee with
    | value f =>
      have h : callQ P B (ev e f) (args.map (ev e)) w K := h
      unfold callQ at h
      split at h
      · rename_i k first captured hf
        obtain ⟨h1, v, h2, h3⟩ := h
        refine ⟨v, fun w1 hb => ?_, h3⟩
        simp only [execOp, resolve, hf, Deferred.ofValue, invoke, Sem.run_bind, Sem.run_pure, Result.andThen_ok, h1]
        refine ⟨rfl, (h2 w1 hb).mono ?_⟩
        rintro en w2 ⟨he, hb2⟩
        exact ⟨he, hb2⟩
      · exact h.elim
    | builtin b =>
      replace h : bltQ P b tys (args.map (ev e)) K := h
      unfold bltQ at h
      split at h
      · rename_i T ts A n c xs h1 h2
        obtain ⟨⟨el, hT⟩, h⟩ := h
        refine ⟨_, fun w1 _ => lift_quiet ?_, h⟩
        obtain ⟨v, h3, h4⟩ := len_sound (P := P) (w := w1) (T := T) (ty := ty) (ts := ts) (x := .slice A n c) (xs := xs) (K := fun v => v = .int .i64 n) (by unfold lenP; simp only [hT])
        subst h4
        rw [← h1, ← h2, Array.toArray_toList, Array.toArray_toList] at h3
        exact h3
      · rename_i T ts s xs h1 h2
        obtain ⟨hT, h⟩ := h
        refine ⟨_, fun w1 _ => lift_quiet ?_, h⟩
        obtain ⟨v, h3, h4⟩ := len_sound (P := P) (w := w1) (T := T) (ty := ty) (ts := ts) (x := .string s) (xs := xs) (K := fun v => v = .int .i64 s.size) (by unfold lenP; simp only [hT])
        subst h4
        rw [← h1, ← h2, Array.toArray_toList, Array.toArray_toList] at h3
        exact h3
      · rename_i x y hx
        unfold minP at h
        split at h
        · refine ⟨_, fun w1 _ => lift_quiet ?_, h⟩
          show (Builtin.min_ tys ty (args.map (ev e))).run P w1 = _
          simp only [Builtin.min_, hx]
          simp [Builtin.min2]
        · exact h.elim
      · rename_i x y hx
        unfold maxP at h
        split at h
        · refine ⟨_, fun w1 _ => lift_quiet ?_, h⟩
          show (Builtin.max_ tys ty (args.map (ev e))).run P w1 = _
          simp only [Builtin.max_, hx]
          simp [Builtin.max2]
        · exact h.elim
      · exact h.elim
    | invoke r m => exact h.elim
  | _ => exact h.elim

theorem opsQ_sound {n : Nat} {ops : Array Oper} : ∀ (l : List Oper) (e : Env) (K : Env → Prop) (K' : Act → Prop) (a : Act), (∀ o ∈ l, ∀ t, o.dst = some t → t < n) → (∀ a e, Rep n a e → K e → K' a) → Rep n a e →
    B ≤ w.heap.size → opsQ P B ops l e w K → wpQuiet P ops (Below B w) K' l a
  | [], e, K, K', a, _, hK, hr, _, h => hK _ _ hr h
  | o :: r, e, K, K', a, hl, hK, hr, hBs, h => by
    have hl' : ∀ o ∈ r, ∀ t, o.dst = some t → t < n := fun o ho => hl o (List.mem_cons_of_mem _ ho)
    have hd := hl o (List.mem_cons_self ..)
    have yes : ∀ e, Rep n a e → opQ P B o e w (fun v => opsQ P B ops r (upO e o.dst v) w K) → o.quiet P a (Below B w) (wpQuiet P ops (Below B w) K' r) := by
      intro e hr h
      obtain ⟨v, h1, h2⟩ := opQ_sound h
      refine ⟨v, fun w1 hb => ?_, opsQ_sound r _ K K' _ hl' hK (hr.put _ hd v) hBs h2⟩
      unfold Oper.quietAt
      rw [hr.evalf]
      have h3 := h1 w1 hb
      have hm : ∀ w2, Below w1.heap.size w1 w2 → Below B w w2 := fun w2 h2 => hb.trans (h2.mono (Nat.le_trans hBs hb.size))
      generalize (execOp (ev e) o).run P w1 = rr at h3 ⊢
      unfold Oper.quietUpon at h3 ⊢
      split at h3
      · exact h3
      · exact h3
      · exact ⟨h3.1, h3.2.mono fun en w2 hh => ⟨hh.1, hm w2 hh.2⟩⟩
      · exact h3.elim
    have no : ∀ e, Rep n a e → opsQ P B ops r (upO e o.dst undef) w K → wpQuiet P ops (Below B w) K' r (a.put o.dst undef) := fun e hr h => opsQ_sound r _ K K' _ hl' hK (hr.put _ hd undef) hBs h
    unfold opsQ guardP guardV guardB at h
    unfold wpQuiet
    split at h
    · rename_i hg
      rw [if_pos (by simp [Region.wanted, hg])]
      exact yes e hr h
    · rename_i j want hg
      have upd : ∀ t b, e t = .bool b → up e t (.bool b) = e := by
        intro t b h
        funext s
        unfold up
        split
        · rename_i hs; rw [hs, h]
        · rfl
      have hy : yielded ops a.tmps j = match (ops[j]?).bind (·.dst) with | some t => (match e t with | .bool b => some b | _ => none) | none => none := by
        unfold yielded
        cases (ops[j]?).bind (·.dst) with
        | none => rfl
        | some t =>
          obtain ⟨_, hs, rfl⟩ := hr
          simp only [Option.bind_some, Array.getD_eq_getD_getElem?]
          cases a.tmps[t]? with
          | none => rfl
          | some v => cases v <;> rfl
      split at h
      · rename_i t ht
        rw [ht] at hy
        split at h
        · rename_i b hb
          simp only [hb] at hy
          by_cases hbw : b = want
          · subst hbw
            rw [if_pos (by simp [Region.wanted, hg, hy])]
            have := h.1 rfl
            rw [upd _ _ hb] at this
            exact yes e hr this
          · rw [if_neg (by simp [Region.wanted, hg, hy, hbw])]
            have hb' : b = !want := by cases b <;> cases want <;> simp_all
            have := h.2 hb'
            rw [← hb', upd _ _ hb] at this
            exact no e hr this
        · rename_i hnb
          have : yielded ops a.tmps j = none := by
            rw [hy]
            show (match e t with | .bool b => some b | _ => none) = none
            split
            · rename_i b hb; exact absurd hb (hnb b)
            · rfl
          rw [if_neg (by simp [Region.wanted, hg, this])]
          exact no e hr h
      · rename_i ht
        rw [ht] at hy
        rw [if_neg (by simp [Region.wanted, hg, hy])]
        exact no e hr h

theorem draw_quiet {id : Nat} {ops : Array Oper} {e : Env} {K : Env → World → Prop} (hm : P.follows .mixedOrders = true) (hB : Region.lexB .any ops = true)
    (h : opsQ P w.heap.size ops ops.toList e w fun e => ∀ w', Below w.heap.size w w' → K e w') : drawP P id ops e w K := by
  intro n a hd hr
  refine wp_region_quiet (C := Below w.heap.size w) hm hB ⟨rfl, rfl, rfl, Nat.le_refl _, fun _ _ => rfl⟩ ?_
  refine opsQ_sound ops.toList e _ _ a (fun o ho => hd o (by simpa using ho)) ?_ hr (Nat.le_refl _) h
  intro a e hr h w' hw'
  exact ⟨e, hr, rfl, h w' hw'⟩
end

def hv (e : Env) (M : List Nat) (v : Env) : Env := fun s => if s ∈ M then v s else e s
theorem hv_apply (e : Env) (M : List Nat) (v : Env) (s : Nat) : hv e M v s = if s ∈ M then v s else e s := rfl
def Same (M : List Nat) (e' e : Env) : Prop := ∀ s, s ∉ M → e' s = e s
theorem Same.hv (e : Env) (M : List Nat) (v : Env) : Same M (hv e M v) e := fun s hs => by unfold RV.hv; rw [if_neg hs]
theorem Same.up {e e' : Env} {M : List Nat} {t : Nat} {v : Value} (ht : t ∈ M) (h : Same M e' e) : Same M (up e' t v) e := fun s hs => by
  unfold RV.up
  rw [if_neg (fun hh => hs (by rw [hh]; exact ht))]
  exact h s hs
theorem Same.hv2 {e e' : Env} {M M' : List Nat} {v : Env} (hM : ∀ s ∈ M', s ∈ M) (h : Same M e' e) : Same M (RV.hv e' M' v) e := fun s hs => by
  unfold RV.hv
  rw [if_neg (fun hh => hs (hM s hh))]
  exact h s hs
theorem loop_rule {P : Program} {body : Code} {e : Env} {w : World} {Q : Exit → Env → World → Prop} (M : List Nat) (I : Env → World → Prop) (μ : Env → World → Nat) (h0 : I e w)
    (round : ∀ v w', I (hv e M v) w' → code P body (hv e M v) w' (thenP (fun e' w'' => (Same M e' e ∧ I e' w'') ∧ μ e' w'' < μ (hv e M v) w') Q)) : code P (.loop body) e w Q := by
  unfold code
  refine ⟨fun e' w' => Same M e' e ∧ I e' w', μ, ⟨fun _ _ => rfl, h0⟩, ?_⟩
  rintro e' w' ⟨h1, h2⟩
  have he : e' = hv e M e' := by
    funext s
    unfold hv
    split
    · rfl
    · rename_i hs; exact h1 s hs
  rw [he] at h2 ⊢
  exact round e' w' h2

inductive Mark {α : Type} (a : α) : Type
  | mk
def Stop {α : Type} (K : α) (_ : Mark K) : α := K
theorem stop1 {α : Type} (K : α → Prop) (m : Mark K) (a : α) : Stop K m a = K a := propext Iff.rfl
def loopP (P : Program) (c : Code) (e : Env) (w : World) (Q : Exit → Env → World → Prop) : Prop := code P (.loop c) e w Q

section
variable (P : Program) (B : Nat) (e : Env) (w : World)
theorem o_move (d : Option Nat) (t : TypeId) (p : String) (af : Array Edge) (g : Option (Nat × Bool)) (x : Operand) (K : Value → World → Prop) : opP P ⟨d, .move x, t, p, af, g⟩ e w K = (K (ev e x) w) := propext Iff.rfl
theorem q_move (d : Option Nat) (t : TypeId) (p : String) (af : Array Edge) (g : Option (Nat × Bool)) (x : Operand) (K : Value → Prop) : opQ P B ⟨d, .move x, t, p, af, g⟩ e w K = (K (ev e x)) := propext Iff.rfl
theorem o_assign (d : Option Nat) (t : TypeId) (p : String) (af : Array Edge) (g : Option (Nat × Bool)) (x : Operand) (K : Value → World → Prop) : opP P ⟨d, .assign x, t, p, af, g⟩ e w K = (K (ev e x) w) := propext Iff.rfl
theorem q_assign (d : Option Nat) (t : TypeId) (p : String) (af : Array Edge) (g : Option (Nat × Bool)) (x : Operand) (K : Value → Prop) : opQ P B ⟨d, .assign x, t, p, af, g⟩ e w K = (K (ev e x)) := propext Iff.rfl
theorem o_pick (d : Option Nat) (t : TypeId) (p : String) (af : Array Edge) (g : Option (Nat × Bool)) (c a b : Operand) (K : Value → World → Prop) : opP P ⟨d, .pick c a b, t, p, af, g⟩ e w K = (pickP (ev e c) (ev e a) (ev e b) fun v => K v w) := propext Iff.rfl
theorem q_pick (d : Option Nat) (t : TypeId) (p : String) (af : Array Edge) (g : Option (Nat × Bool)) (c a b : Operand) (K : Value → Prop) : opQ P B ⟨d, .pick c a b, t, p, af, g⟩ e w K = (pickP (ev e c) (ev e a) (ev e b) K) := propext Iff.rfl
theorem o_binOp (d : Option Nat) (t : TypeId) (p : String) (af : Array Edge) (g : Option (Nat × Bool)) (b : BinOp) (T U : TypeId) (x y : Operand) (K : Value → World → Prop) : opP P ⟨d, .binOp b T x y U, t, p, af, g⟩ e w K = (binP P b T x y (ev e x) (ev e y) fun v => K v w) := propext Iff.rfl
theorem q_binOp (d : Option Nat) (t : TypeId) (p : String) (af : Array Edge) (g : Option (Nat × Bool)) (b : BinOp) (T U : TypeId) (x y : Operand) (K : Value → Prop) : opQ P B ⟨d, .binOp b T x y U, t, p, af, g⟩ e w K = (binP P b T x y (ev e x) (ev e y) K) := propext Iff.rfl
theorem o_unOp (d : Option Nat) (t : TypeId) (p : String) (af : Array Edge) (g : Option (Nat × Bool)) (b : UnOp) (T : TypeId) (x : Operand) (K : Value → World → Prop) : opP P ⟨d, .unOp b T x, t, p, af, g⟩ e w K = (unP b (ev e x) fun v => K v w) := propext Iff.rfl
theorem q_unOp (d : Option Nat) (t : TypeId) (p : String) (af : Array Edge) (g : Option (Nat × Bool)) (b : UnOp) (T : TypeId) (x : Operand) (K : Value → Prop) : opQ P B ⟨d, .unOp b T x, t, p, af, g⟩ e w K = (unP b (ev e x) K) := propext Iff.rfl
theorem o_convert (d : Option Nat) (t : TypeId) (p : String) (af : Array Edge) (g : Option (Nat × Bool)) (S D : TypeId) (x : Operand) (K : Value → World → Prop) : opP P ⟨d, .convert S D x, t, p, af, g⟩ e w K = (convP P S D (ev e x) w K) := propext Iff.rfl
theorem q_convert (d : Option Nat) (t : TypeId) (p : String) (af : Array Edge) (g : Option (Nat × Bool)) (S D : TypeId) (x : Operand) (K : Value → Prop) : opQ P B ⟨d, .convert S D x, t, p, af, g⟩ e w K = (convQ P B S D (ev e x) w K) := propext Iff.rfl
theorem o_load (d : Option Nat) (t : TypeId) (p : String) (af : Array Edge) (g : Option (Nat × Bool)) (T : TypeId) (x : Operand) (K : Value → World → Prop) : opP P ⟨d, .load T x, t, p, af, g⟩ e w K = (loadP P T (ev e x) w fun v => K v w) := propext Iff.rfl
theorem q_load (d : Option Nat) (t : TypeId) (p : String) (af : Array Edge) (g : Option (Nat × Bool)) (T : TypeId) (x : Operand) (K : Value → Prop) : opQ P B ⟨d, .load T x, t, p, af, g⟩ e w K = (loadQ P B T (ev e x) w K) := propext Iff.rfl
theorem o_store (d : Option Nat) (t : TypeId) (p : String) (af : Array Edge) (g : Option (Nat × Bool)) (T : TypeId) (x v : Operand) (K : Value → World → Prop) : opP P ⟨d, .store T x v, t, p, af, g⟩ e w K = (storeP P T (ev e x) (ev e v) w fun w' => K undef w') := propext Iff.rfl
theorem o_alloc (d : Option Nat) (t : TypeId) (p : String) (af : Array Edge) (g : Option (Nat × Bool)) (T : TypeId) (K : Value → World → Prop) : opP P ⟨d, .alloc T, t, p, af, g⟩ e w K = (allocP P T w K) := propext Iff.rfl
theorem o_box (d : Option Nat) (t : TypeId) (p : String) (af : Array Edge) (g : Option (Nat × Bool)) (T : TypeId) (x : Operand) (K : Value → World → Prop) : opP P ⟨d, .box T x, t, p, af, g⟩ e w K = (K (.pointer (some ⟨w.heap.size, 0, none⟩)) (w.alloc (.cells (ev e x).cells T))) := propext Iff.rfl
theorem o_build (d : Option Nat) (t : TypeId) (p : String) (af : Array Edge) (g : Option (Nat × Bool)) (T : TypeId) (ps : Array (Nat × Operand)) (K : Value → World → Prop) : opP P ⟨d, .build T ps, t, p, af, g⟩ e w K = (pureP P (Instr.build T (ps.map fun (i, x) => (i, ev e x))) (Stop (fun v => K v w) .mk)) := propext Iff.rfl
theorem q_build (d : Option Nat) (t : TypeId) (p : String) (af : Array Edge) (g : Option (Nat × Bool)) (T : TypeId) (ps : Array (Nat × Operand)) (K : Value → Prop) : opQ P B ⟨d, .build T ps, t, p, af, g⟩ e w K = (pureP P (Instr.build T (ps.map fun (i, x) => (i, ev e x))) (Stop K .mk)) := propext Iff.rfl
theorem o_buildSlice (d : Option Nat) (t : TypeId) (p : String) (af : Array Edge) (g : Option (Nat × Bool)) (T n : Nat) (ps : Array (Nat × Operand)) (K : Value → World → Prop) : opP P ⟨d, .buildSlice T n ps, t, p, af, g⟩ e w K = (runP P (Instr.buildSlice T n (ps.map fun (i, x) => (i, ev e x))) w (Stop K .mk)) := propext Iff.rfl
theorem o_nilCheck (d : Option Nat) (t : TypeId) (p : String) (af : Array Edge) (g : Option (Nat × Bool)) (x : Operand) (K : Value → World → Prop) : opP P ⟨d, .nilCheck x, t, p, af, g⟩ e w K = (nilCheckP (ev e x) fun v => K v w) := propext Iff.rfl
theorem q_nilCheck (d : Option Nat) (t : TypeId) (p : String) (af : Array Edge) (g : Option (Nat × Bool)) (x : Operand) (K : Value → Prop) : opQ P B ⟨d, .nilCheck x, t, p, af, g⟩ e w K = (nilCheckP (ev e x) K) := propext Iff.rfl
theorem o_fieldAddr (d : Option Nat) (t : TypeId) (p : String) (af : Array Edge) (g : Option (Nat × Bool)) (T f : Nat) (x : Operand) (K : Value → World → Prop) : opP P ⟨d, .fieldAddr T x f, t, p, af, g⟩ e w K = (fieldAddrP P T (ev e x) f fun v => K v w) := propext Iff.rfl
theorem q_fieldAddr (d : Option Nat) (t : TypeId) (p : String) (af : Array Edge) (g : Option (Nat × Bool)) (T f : Nat) (x : Operand) (K : Value → Prop) : opQ P B ⟨d, .fieldAddr T x f, t, p, af, g⟩ e w K = (fieldAddrP P T (ev e x) f K) := propext Iff.rfl
theorem o_indexAddr (d : Option Nat) (t : TypeId) (p : String) (af : Array Edge) (g : Option (Nat × Bool)) (T : TypeId) (x i : Operand) (K : Value → World → Prop) : opP P ⟨d, .indexAddr T x i, t, p, af, g⟩ e w K = (indexAddrP P T (ev e x) (ev e i) fun v => K v w) := propext Iff.rfl
theorem q_indexAddr (d : Option Nat) (t : TypeId) (p : String) (af : Array Edge) (g : Option (Nat × Bool)) (T : TypeId) (x i : Operand) (K : Value → Prop) : opQ P B ⟨d, .indexAddr T x i, t, p, af, g⟩ e w K = (indexAddrP P T (ev e x) (ev e i) K) := propext Iff.rfl
theorem o_slice (d : Option Nat) (t : TypeId) (p : String) (af : Array Edge) (g : Option (Nat × Bool)) (T : TypeId) (x : Operand) (lo hi mx : Option Operand) (K : Value → World → Prop) : opP P ⟨d, .slice T x lo hi mx, t, p, af, g⟩ e w K = (sliceP P T (ev e x) (lo.map (ev e)) (hi.map (ev e)) (mx.map (ev e)) fun v => K v w) := propext Iff.rfl
theorem q_slice (d : Option Nat) (t : TypeId) (p : String) (af : Array Edge) (g : Option (Nat × Bool)) (T : TypeId) (x : Operand) (lo hi mx : Option Operand) (K : Value → Prop) : opQ P B ⟨d, .slice T x lo hi mx, t, p, af, g⟩ e w K = (sliceP P T (ev e x) (lo.map (ev e)) (hi.map (ev e)) (mx.map (ev e)) K) := propext Iff.rfl
theorem o_extract (d : Option Nat) (t : TypeId) (p : String) (af : Array Edge) (g : Option (Nat × Bool)) (x : Operand) (i : Nat) (K : Value → World → Prop) : opP P ⟨d, .extract x i, t, p, af, g⟩ e w K = (extractP (ev e x) i fun v => K v w) := propext Iff.rfl
theorem q_extract (d : Option Nat) (t : TypeId) (p : String) (af : Array Edge) (g : Option (Nat × Bool)) (x : Operand) (i : Nat) (K : Value → Prop) : opQ P B ⟨d, .extract x i, t, p, af, g⟩ e w K = (extractP (ev e x) i K) := propext Iff.rfl
theorem o_field (d : Option Nat) (t : TypeId) (p : String) (af : Array Edge) (g : Option (Nat × Bool)) (T f : Nat) (x : Operand) (K : Value → World → Prop) : opP P ⟨d, .field T x f, t, p, af, g⟩ e w K = (pureP P (Instr.field T (ev e x) f) (Stop (fun v => K v w) .mk)) := propext Iff.rfl
theorem q_field (d : Option Nat) (t : TypeId) (p : String) (af : Array Edge) (g : Option (Nat × Bool)) (T f : Nat) (x : Operand) (K : Value → Prop) : opQ P B ⟨d, .field T x f, t, p, af, g⟩ e w K = (pureP P (Instr.field T (ev e x) f) (Stop K .mk)) := propext Iff.rfl
theorem o_index (d : Option Nat) (t : TypeId) (p : String) (af : Array Edge) (g : Option (Nat × Bool)) (T : TypeId) (x i : Operand) (K : Value → World → Prop) : opP P ⟨d, .index T x i, t, p, af, g⟩ e w K = (pureP P (Instr.index T (ev e x) (ev e i)) (Stop (fun v => K v w) .mk)) := propext Iff.rfl
theorem q_index (d : Option Nat) (t : TypeId) (p : String) (af : Array Edge) (g : Option (Nat × Bool)) (T : TypeId) (x i : Operand) (K : Value → Prop) : opQ P B ⟨d, .index T x i, t, p, af, g⟩ e w K = (pureP P (Instr.index T (ev e x) (ev e i)) (Stop K .mk)) := propext Iff.rfl
theorem o_makeSlice (d : Option Nat) (t : TypeId) (p : String) (af : Array Edge) (g : Option (Nat × Bool)) (T : TypeId) (l c : Operand) (K : Value → World → Prop) : opP P ⟨d, .makeSlice T l c, t, p, af, g⟩ e w K = (runP P (Instr.makeSlice T (ev e l) (ev e c)) w (Stop K .mk)) := propext Iff.rfl
theorem o_makeInterface (d : Option Nat) (t : TypeId) (p : String) (af : Array Edge) (g : Option (Nat × Bool)) (T : TypeId) (x : Operand) (K : Value → World → Prop) : opP P ⟨d, .makeInterface T x, t, p, af, g⟩ e w K = (pureP P (Instr.makeInterface T (ev e x)) (Stop (fun v => K v w) .mk)) := propext Iff.rfl
theorem q_makeInterface (d : Option Nat) (t : TypeId) (p : String) (af : Array Edge) (g : Option (Nat × Bool)) (T : TypeId) (x : Operand) (K : Value → Prop) : opQ P B ⟨d, .makeInterface T x, t, p, af, g⟩ e w K = (pureP P (Instr.makeInterface T (ev e x)) (Stop K .mk)) := propext Iff.rfl
theorem o_makeFunc (d : Option Nat) (t : TypeId) (p : String) (af : Array Edge) (g : Option (Nat × Bool)) (fn : Fn) (a c : Array Operand) (K : Value → World → Prop) : opP P ⟨d, .makeFunc fn a c, t, p, af, g⟩ e w K = (pureP P (Instr.makeFunc fn (a.map (ev e)) (c.map (ev e))) (Stop (fun v => K v w) .mk)) := propext Iff.rfl
theorem o_makeMap (d : Option Nat) (t : TypeId) (p : String) (af : Array Edge) (g : Option (Nat × Bool)) (T : TypeId) (r : Option Operand) (K : Value → World → Prop) : opP P ⟨d, .makeMap T r, t, p, af, g⟩ e w K = (runP P (Instr.makeMap T (r.map (ev e))) w (Stop K .mk)) := propext Iff.rfl
theorem o_lookup (d : Option Nat) (t : TypeId) (p : String) (af : Array Edge) (g : Option (Nat × Bool)) (T : TypeId) (x i : Operand) (ok : Bool) (K : Value → World → Prop) : opP P ⟨d, .lookup T x i ok, t, p, af, g⟩ e w K = (runP P (Instr.lookup T (ev e x) (ev e i) ok) w (Stop K .mk)) := propext Iff.rfl
theorem o_mapUpdate (d : Option Nat) (t : TypeId) (p : String) (af : Array Edge) (g : Option (Nat × Bool)) (T : TypeId) (m k x : Operand) (K : Value → World → Prop) : opP P ⟨d, .mapUpdate T m k x, t, p, af, g⟩ e w K = (runP P (Instr.mapUpdate T (ev e m) (ev e k) (ev e x)) w (Stop (fun _ w' => K undef w') .mk)) := propext Iff.rfl
theorem o_call (d : Option Nat) (t : TypeId) (p : String) (af : Array Edge) (g : Option (Nat × Bool)) (f : Operand) (xs : Array Operand) (ts : Array TypeId) (K : Value → World → Prop) :
    opP P ⟨d, .call ⟨.value f, xs, ts⟩, t, p, af, g⟩ e w K = callP P (ev e f) (xs.map (ev e)) w (Stop K .mk) := propext Iff.rfl
theorem o_blt (d : Option Nat) (t : TypeId) (p : String) (af : Array Edge) (g : Option (Nat × Bool)) (b : Builtin) (xs : Array Operand) (ts : Array TypeId) (K : Value → World → Prop) :
    opP P ⟨d, .call ⟨.builtin b, xs, ts⟩, t, p, af, g⟩ e w K = bltP P b ts t (xs.map (ev e)) w K := propext Iff.rfl
theorem q_call (d : Option Nat) (t : TypeId) (p : String) (af : Array Edge) (g : Option (Nat × Bool)) (f : Operand) (xs : Array Operand) (ts : Array TypeId) (K : Value → Prop) :
    opQ P B ⟨d, .call ⟨.value f, xs, ts⟩, t, p, af, g⟩ e w K = callQ P B (ev e f) (xs.map (ev e)) w (Stop K .mk) := propext Iff.rfl
theorem q_blt (d : Option Nat) (t : TypeId) (p : String) (af : Array Edge) (g : Option (Nat × Bool)) (b : Builtin) (xs : Array Operand) (ts : Array TypeId) (K : Value → Prop) :
    opQ P B ⟨d, .call ⟨.builtin b, xs, ts⟩, t, p, af, g⟩ e w K = bltQ P b ts (xs.map (ev e)) K := propext Iff.rfl
theorem g_some (j : Nat) (want : Bool) (ops : Array Oper) (A B : Env → Prop) : guardP (some (j, want)) ops e A B = guardV ((ops[j]?).bind (·.dst)) want e A B := propext Iff.rfl
theorem g_slot (t : Nat) (want : Bool) (A B : Env → Prop) : guardV (some t) want e A B = guardB (e t) t want e A B := propext Iff.rfl
theorem g_undef (t : Nat) (want : Bool) (A B : Env → Prop) : guardB undef t want e A B = B e := propext Iff.rfl
theorem p_nil (ops : Array Oper) (K : Env → World → Prop) : opsP P ops [] e w K = K e w := propext Iff.rfl
variable (Q : Exit → Env → World → Prop)
theorem c_skip : code P .skip e w Q = Q .normal e w := propext Iff.rfl
theorem c_draw (id : Nat) (ops : Array Oper) : code P (.region id ops true) e w Q = drawP P id ops e w (Stop (fun e w => Q .normal e w) .mk) := by
  simp [code, Stop]
theorem c_loop (c : Code) : code P (.loop c) e w Q = loopP P c e w (Stop Q .mk) := propext Iff.rfl
theorem c_seq (a b : Code) : code P (.seq a b) e w Q = code P a e w (thenP (fun e w => code P b e w Q) Q) := propext Iff.rfl
theorem c_block (id : Nat) (c : Code) : code P (.block id c) e w Q = code P c e w (inB id Q) := propext Iff.rfl
theorem c_exit (id : Nat) : code P (.exit id) e w Q = Q (.exit id) e w := propext Iff.rfl
theorem c_ret : code P .ret e w Q = Q .ret e w := propext Iff.rfl
theorem n_normal (N : Env → World → Prop) : thenP N Q .normal e w = N e w := propext Iff.rfl
theorem n_exit (N : Env → World → Prop) (id : Nat) : thenP N Q (.exit id) e w = Q (.exit id) e w := propext Iff.rfl
theorem n_ret (N : Env → World → Prop) : thenP N Q .ret e w = Q .ret e w := propext Iff.rfl
theorem b_normal (id : Nat) : inB id Q .normal e w = Q .normal e w := propext Iff.rfl
theorem b_exit (id j : Nat) : inB id Q (.exit j) e w = if j = id then Q .normal e w else Q (.exit j) e w := propext Iff.rfl
theorem b_ret (id : Nat) : inB id Q .ret e w = Q .ret e w := propext Iff.rfl
variable (R : Value → World → Prop)
theorem f_normal (rs : List ResultVar) : post P rs R .normal e w = resL P rs e w fun vs => R (one vs) w := propext Iff.rfl
theorem f_ret (rs : List ResultVar) : post P rs R .ret e w = resL P rs e w fun vs => R (one vs) w := propext Iff.rfl
theorem l_nil (K : List Value → Prop) : resL P [] e w K = K [] := propext Iff.rfl
theorem l_tmp (t : Nat) (r : List ResultVar) (K : List Value → Prop) : resL P (.tmp t :: r) e w K = resL P r e w fun vs => K (e t :: vs) := propext Iff.rfl
theorem l_cell (a T : Nat) (r : List ResultVar) (K : List Value → Prop) : resL P (.cell a T :: r) e w K = loadP P T (e a) w fun v => resL P r e w fun vs => K (v :: vs) := propext Iff.rfl
end




def cvO (S D : Option TypeDesc) (n : Int) (K : Value → Prop) (E : Prop) : Prop :=
  match S, D with
  | some _, some (.int k) => K (.int k (k.wrap n))
  | _, _ => E
def ldO (d : Option TypeDesc) (n : Nat) (a : Addr) (w : World) (K : Value → Prop) : Prop := match d with | some d => ldP d n a w K | none => False
def stO (d : Option TypeDesc) (n : Nat) (a : Addr) (v : Value) (w : World) (K : World → Prop) : Prop := match d with | some d => stP d n a v w K | none => False
def alO (z : Option Value) (T : TypeId) (w : World) (K : Value → World → Prop) : Prop := match z with | some z => K (.pointer (some ⟨w.heap.size, 0, none⟩)) (w.alloc (.cells z.cells T)) | none => False
def faF (P : Program) (g : Option Field) (a : Addr) (K : Value → Prop) : Prop := match g with | some g => P.cellsOf g.type ≠ 0 ∧ K (.pointer (some (a.add g.offset))) | none => False
def faO (P : Program) (d : Option TypeDesc) (a : Addr) (f : Nat) (K : Value → Prop) : Prop := match d with | some (.struct fs) => faF P fs[f]? a K | _ => False
def ixO (P : Program) (d : Option TypeDesc) (A : Option Addr) (n : Nat) (j : Int) (K : Value → Prop) : Prop := match d with | some (.slice e) => P.cellsOf e ≠ 0 ∧ 0 ≤ j ∧ j < n ∧ ∃ a, A = some a ∧ K (.pointer (some (a.add (j.toNat * P.cellsOf e)))) | _ => False
def iyO (P : Program) (d : Option TypeDesc) (a : Addr) (j : Int) (K : Value → Prop) : Prop := match d with | some (.array n e) => P.cellsOf e ≠ 0 ∧ 0 ≤ j ∧ j < n ∧ K (.pointer (some (a.add (j.toNat * P.cellsOf e)))) | _ => False
def slO (P : Program) (d : Option TypeDesc) (A : Option Addr) (n c : Nat) (lo hi : Option Value) (K : Value → Prop) (E : Prop) : Prop :=
  match d with
  | some (.slice e) => P.cellsOf e ≠ 0 ∧ asN hi n fun h => asN lo 0 fun l => (hi.isSome = true → h ≤ c) ∧ (lo.isSome = true → l ≤ h) ∧ K (.slice (adv A c l (P.cellsOf e)) (h - l) (c - l))
  | _ => E
def spO (P : Program) (d : Option TypeDesc) (a : Addr) (lo hi : Option Value) (K : Value → Prop) (E : Prop) : Prop :=
  match d with
  | some (.array n e) => P.cellsOf e ≠ 0 ∧ asN hi n fun h => asN lo 0 fun l => (hi.isSome = true → h ≤ n) ∧ (lo.isSome = true → l ≤ h) ∧ K (.slice (adv (some a) n l (P.cellsOf e)) (h - l) (n - l))
  | _ => E
def exO (o : Option Value) (K : Value → Prop) : Prop := match o with | some v => K v | none => False
def lnS (d : Option TypeDesc) (n : Nat) (K : Value → Prop) (E : Prop) : Prop := match d with | some (.slice _) => K (.int .i64 n) | some (.array m _) => K (.int .i64 m) | _ => E
section
variable (P : Program) (w : World)
theorem i_add (T : TypeId) (ox oy : Operand) (k : IntKind) (p q : Int) (K : Value → Prop) : binP P .add T ox oy (.int k p) (.int k q) K = K (.int k (k.wrap (p + q))) := propext ⟨fun h => h.2, fun h => ⟨rfl, h⟩⟩
theorem i_sub (T : TypeId) (ox oy : Operand) (k : IntKind) (p q : Int) (K : Value → Prop) : binP P .sub T ox oy (.int k p) (.int k q) K = K (.int k (k.wrap (p - q))) := propext ⟨fun h => h.2, fun h => ⟨rfl, h⟩⟩
theorem i_mul (T : TypeId) (ox oy : Operand) (k : IntKind) (p q : Int) (K : Value → Prop) : binP P .mul T ox oy (.int k p) (.int k q) K = K (.int k (k.wrap (p * q))) := propext ⟨fun h => h.2, fun h => ⟨rfl, h⟩⟩
theorem i_and (T : TypeId) (ox oy : Operand) (k : IntKind) (p q : Int) (K : Value → Prop) : binP P .and T ox oy (.int k p) (.int k q) K = K (.int k (Go.bits .and k p q)) := propext ⟨fun h => h.2, fun h => ⟨rfl, h⟩⟩
theorem i_or (T : TypeId) (ox oy : Operand) (k : IntKind) (p q : Int) (K : Value → Prop) : binP P .or T ox oy (.int k p) (.int k q) K = K (.int k (Go.bits .or k p q)) := propext ⟨fun h => h.2, fun h => ⟨rfl, h⟩⟩
theorem i_xor (T : TypeId) (ox oy : Operand) (k : IntKind) (p q : Int) (K : Value → Prop) : binP P .xor T ox oy (.int k p) (.int k q) K = K (.int k (Go.bits .xor k p q)) := propext ⟨fun h => h.2, fun h => ⟨rfl, h⟩⟩
theorem i_eql (T : TypeId) (ox oy : Operand) (k : IntKind) (p q : Int) (K : Value → Prop) : binP P .eql T ox oy (.int k p) (.int k q) K = K (.bool (decide (p = q))) := propext ⟨fun h => h.2, fun h => ⟨rfl, h⟩⟩
theorem i_neq (T : TypeId) (ox oy : Operand) (k : IntKind) (p q : Int) (K : Value → Prop) : binP P .neq T ox oy (.int k p) (.int k q) K = K (.bool (!decide (p = q))) := propext ⟨fun h => h.2, fun h => ⟨rfl, h⟩⟩
theorem i_lss (T : TypeId) (ox oy : Operand) (k : IntKind) (p q : Int) (K : Value → Prop) : binP P .lss T ox oy (.int k p) (.int k q) K = K (.bool (decide (p < q))) := propext ⟨fun h => h.2, fun h => ⟨rfl, h⟩⟩
theorem i_leq (T : TypeId) (ox oy : Operand) (k : IntKind) (p q : Int) (K : Value → Prop) : binP P .leq T ox oy (.int k p) (.int k q) K = K (.bool (decide (p ≤ q))) := propext ⟨fun h => h.2, fun h => ⟨rfl, h⟩⟩
theorem i_gtr (T : TypeId) (ox oy : Operand) (k : IntKind) (p q : Int) (K : Value → Prop) : binP P .gtr T ox oy (.int k p) (.int k q) K = K (.bool (decide (q < p))) := propext ⟨fun h => h.2, fun h => ⟨rfl, h⟩⟩
theorem i_geq (T : TypeId) (ox oy : Operand) (k : IntKind) (p q : Int) (K : Value → Prop) : binP P .geq T ox oy (.int k p) (.int k q) K = K (.bool (decide (q ≤ p))) := propext ⟨fun h => h.2, fun h => ⟨rfl, h⟩⟩
theorem i_quo (T : TypeId) (ox oy : Operand) (k : IntKind) (p q : Int) (K : Value → Prop) : binP P .quo T ox oy (.int k p) (.int k q) K = (q ≠ 0 ∧ K (.int k (k.wrap (p.tdiv q)))) := propext ⟨fun h => h.2, fun h => ⟨rfl, h⟩⟩
theorem i_rem (T : TypeId) (ox oy : Operand) (k : IntKind) (p q : Int) (K : Value → Prop) : binP P .rem T ox oy (.int k p) (.int k q) K = (q ≠ 0 ∧ K (.int k (p.tmod q))) := propext ⟨fun h => h.2, fun h => ⟨rfl, h⟩⟩
theorem i_shl (T : TypeId) (ox oy : Operand) (k k' : IntKind) (p q : Int) (K : Value → Prop) : binP P .shl T ox oy (.int k p) (.int k' q) K = (0 ≤ q ∧ K (.int k (k.wrap (p * 2 ^ min q.toNat k.bits)))) := propext Iff.rfl
theorem i_shr (T : TypeId) (ox oy : Operand) (k k' : IntKind) (p q : Int) (K : Value → Prop) : binP P .shr T ox oy (.int k p) (.int k' q) K = (0 ≤ q ∧ K (.int k (p.fdiv (2 ^ min q.toNat k.bits)))) := propext Iff.rfl
theorem b_eql (T : TypeId) (ox oy : Operand) (p q : Bool) (K : Value → Prop) : binP P .eql T ox oy (.bool p) (.bool q) K = (P.underlying T = some .bool ∧ K (.bool (p == q))) := propext Iff.rfl
theorem b_neq (T : TypeId) (ox oy : Operand) (p q : Bool) (K : Value → Prop) : binP P .neq T ox oy (.bool p) (.bool q) K = (P.underlying T = some .bool ∧ K (.bool (!(p == q)))) := propext Iff.rfl
theorem t_eql (T : TypeId) (ox oy : Operand) (p q : ByteArray) (K : Value → Prop) : binP P .eql T ox oy (.string p) (.string q) K = (K (.bool (p.toList == q.toList))) := propext Iff.rfl
theorem t_neq (T : TypeId) (ox oy : Operand) (p q : ByteArray) (K : Value → Prop) : binP P .neq T ox oy (.string p) (.string q) K = (K (.bool (!(p.toList == q.toList)))) := propext Iff.rfl
theorem t_add (T : TypeId) (ox oy : Operand) (p q : ByteArray) (K : Value → Prop) : binP P .add T ox oy (.string p) (.string q) K = (((p.size + q.size : Nat) : Int) ≤ IntKind.i64.max ∧ K (.string (p ++ q))) := propext Iff.rfl
theorem p_eql (T : TypeId) (ox oy : Operand) (p : Option Addr) (K : Value → Prop) : binP P .eql T ox oy (.pointer p) (.pointer none) K = ((∃ e, P.underlying T = some (.pointer e)) ∧ K (.bool p.isNone)) := propext Iff.rfl
theorem p_neq (T : TypeId) (ox oy : Operand) (p : Option Addr) (K : Value → Prop) : binP P .neq T ox oy (.pointer p) (.pointer none) K = ((∃ e, P.underlying T = some (.pointer e)) ∧ K (.bool (!p.isNone))) := propext Iff.rfl
theorem l_eql (T : TypeId) (ox oy : Operand) (A : Option Addr) (n c n' c' : Nat) (K : Value → Prop) : binP P .eql T ox oy (.slice A n c) (.slice none n' c') K = ((∃ e, P.underlying T = some (.slice e)) ∧ K (.bool A.isNone)) := propext Iff.rfl
theorem l_neq (T : TypeId) (ox oy : Operand) (A : Option Addr) (n c n' c' : Nat) (K : Value → Prop) : binP P .neq T ox oy (.slice A n c) (.slice none n' c') K = ((∃ e, P.underlying T = some (.slice e)) ∧ K (.bool (!A.isNone))) := propext Iff.rfl
theorem a_bin (b : BinOp) (T : TypeId) (ox oy : Operand) (xs ys : Array Value) (K : Value → Prop) : binP P b T ox oy (.agg xs) (.agg ys) K = (pureP P (do eqGuard b T ox oy (.agg xs) (.agg ys); binOp b T (.agg xs) (.agg ys)) (Stop K .mk)) := propext Iff.rfl
theorem u_not (p : Bool) (K : Value → Prop) : unP .not (.bool p) K = (K (.bool (!p))) := propext Iff.rfl
theorem u_neg (k : IntKind) (n : Int) (K : Value → Prop) : unP .neg (.int k n) K = (K (.int k (k.wrap (0 - n)))) := propext Iff.rfl
theorem v_int (S D : TypeId) (k : IntKind) (n : Int) (K : Value → World → Prop) : convP P S D (.int k n) w K = (cvO (P.underlying S) (P.underlying D) n (fun v => K v w) (runP P (convert S D (.int k n)) w K)) := by
  unfold convP cvO
  split <;> simp_all
theorem vq_int (B : Nat) (S D : TypeId) (k : IntKind) (n : Int) (K : Value → Prop) : convQ P B S D (.int k n) w K = (cvO (P.underlying S) (P.underlying D) n K (readP P B (convert S D (.int k n)) w K)) := by
  unfold convQ cvO
  split <;> simp_all
theorem v_ok (d : TypeDesc) (k : IntKind) (n : Int) (K : Value → Prop) (E : Prop) : cvO (some d) (some (.int k)) n K E = (K (.int k (k.wrap n))) := propext Iff.rfl
theorem v_slice (S D : TypeId) (A : Option Addr) (n c : Nat) (K : Value → World → Prop) : convP P S D (.slice A n c) w K = (runP P (convert S D (.slice A n c)) w (Stop K .mk)) := propext Iff.rfl
theorem vq_slice (B : Nat) (S D : TypeId) (A : Option Addr) (n c : Nat) (K : Value → Prop) : convQ P B S D (.slice A n c) w K = (readP P B (convert S D (.slice A n c)) w (Stop K .mk)) := propext Iff.rfl
theorem v_agg (S D : TypeId) (xs : Array Value) (K : Value → World → Prop) : convP P S D (.agg xs) w K = (runP P (convert S D (.agg xs)) w (Stop K .mk)) := propext Iff.rfl
theorem m_load (T : TypeId) (a : Addr) (K : Value → Prop) : loadP P T (.pointer (some a)) w K = (ldO (P.underlying T) (P.cellsOf T) a w K) := by
  unfold loadP ldO
  cases P.underlying T <;> rfl
theorem m_loadq (B : Nat) (T : TypeId) (a : Addr) (K : Value → Prop) : loadQ P B T (.pointer (some a)) w K = ((a.block < B ∨ w.heap.size ≤ B) ∧ ldO (P.underlying T) (P.cellsOf T) a w K) := by
  rw [← m_load]; rfl
theorem e_int (k : IntKind) (a : Addr) (v : Value) (K : World → Prop) : stO (some (.int k)) 1 a v w K = stCell v a w K := propext ⟨fun h => h.2, fun h => ⟨rfl, h⟩⟩
theorem e_bool  (a : Addr) (v : Value) (K : World → Prop) : stO (some .bool) 1 a v w K = stCell v a w K := propext ⟨fun h => h.2, fun h => ⟨rfl, h⟩⟩
theorem e_string  (a : Addr) (v : Value) (K : World → Prop) : stO (some .string) 1 a v w K = stCell v a w K := propext ⟨fun h => h.2, fun h => ⟨rfl, h⟩⟩
theorem e_pointer (k : TypeId) (a : Addr) (v : Value) (K : World → Prop) : stO (some (.pointer k)) 1 a v w K = stCell v a w K := propext ⟨fun h => h.2, fun h => ⟨rfl, h⟩⟩
theorem e_slice (k : TypeId) (a : Addr) (v : Value) (K : World → Prop) : stO (some (.slice k)) 1 a v w K = stCell v a w K := propext ⟨fun h => h.2, fun h => ⟨rfl, h⟩⟩
theorem h_struct (k : Array Field) (n : Nat) (a : Addr) (K : Value → Prop) : ldO (some (.struct k)) n a w K = (ldRow n a w (Stop K .mk)) := propext Iff.rfl
theorem e_struct (k : Array Field) (n : Nat) (a : Addr) (cs : Array Value) (K : World → Prop) : stO (some (.struct k)) n a (.agg cs) w K = (stRow n cs a w K) := propext Iff.rfl
theorem h_array (k : Nat) (k' : TypeId) (n : Nat) (a : Addr) (K : Value → Prop) : ldO (some (.array k k')) n a w K = (ldRow n a w (Stop K .mk)) := propext Iff.rfl
theorem e_array (k : Nat) (k' : TypeId) (n : Nat) (a : Addr) (cs : Array Value) (K : World → Prop) : stO (some (.array k k')) n a (.agg cs) w K = (stRow n cs a w K) := propext Iff.rfl
theorem h_map (k k' : TypeId) (n : Nat) (a : Addr) (K : Value → Prop) : ldO (some (.map k k')) n a w K = (∃ v, w.cell? a = some v ∧ K v) := propext Iff.rfl
theorem e_map (k k' : TypeId) (a : Addr) (v : Value) (K : World → Prop) : stO (some (.map k k')) 1 a v w K = stCell v a w K := propext ⟨fun h => h.2, fun h => ⟨rfl, h⟩⟩
theorem h_func (k k' : Array TypeId) (k'' : Bool) (n : Nat) (a : Addr) (K : Value → Prop) : ldO (some (.func k k' k'')) n a w K = (∃ v, w.cell? a = some v ∧ K v) := propext Iff.rfl
theorem e_func (k k' : Array TypeId) (k'' : Bool) (a : Addr) (v : Value) (K : World → Prop) : stO (some (.func k k' k'')) 1 a v w K = stCell v a w K := propext ⟨fun h => h.2, fun h => ⟨rfl, h⟩⟩
theorem h_iface (k : Array (String × TypeId)) (n : Nat) (a : Addr) (K : Value → Prop) : ldO (some (.interface k)) n a w K = (∃ v, w.cell? a = some v ∧ K v) := propext Iff.rfl
theorem e_iface (k : Array (String × TypeId)) (a : Addr) (v : Value) (K : World → Prop) : stO (some (.interface k)) 1 a v w K = stCell v a w K := propext ⟨fun h => h.2, fun h => ⟨rfl, h⟩⟩
theorem m_store (T : TypeId) (a : Addr) (v : Value) (K : World → Prop) : storeP P T (.pointer (some a)) v w K = (stO (P.underlying T) (P.cellsOf T) a v w K) := by
  unfold storeP stO
  cases P.underlying T <;> rfl
theorem m_alloc (T : TypeId) (K : Value → World → Prop) : allocP P T w K = (alO (zer P T) T w K) := by
  unfold allocP alO
  split <;> simp_all
theorem m_new (z : Value) (T : TypeId) (K : Value → World → Prop) : alO (some z) T w K = (K (.pointer (some ⟨w.heap.size, 0, none⟩)) (w.alloc (.cells z.cells T))) := propext Iff.rfl
theorem m_nil (a : Addr) (K : Value → Prop) : nilCheckP (.pointer (some a)) K = (K (.pointer (some a))) := propext Iff.rfl
theorem m_field (T : TypeId) (a : Addr) (f : Nat) (K : Value → Prop) : fieldAddrP P T (.pointer (some a)) f K = (faO P (P.underlying T) a f K) := by
  unfold fieldAddrP faO faF
  split <;> simp_all
theorem m_faO (fs : Array Field) (a : Addr) (f : Nat) (K : Value → Prop) : faO P (some (.struct fs)) a f K = (faF P fs[f]? a K) := propext Iff.rfl
theorem m_faF (g : Field) (a : Addr) (K : Value → Prop) : faF P (some g) a K = (P.cellsOf g.type ≠ 0 ∧ K (.pointer (some (a.add g.offset)))) := propext Iff.rfl
theorem x_slice (T : TypeId) (A : Option Addr) (n c : Nat) (k : IntKind) (j : Int) (K : Value → Prop) : indexAddrP P T (.slice A n c) (.int k j) K = (ixO P (P.underlying T) A n j K) := by
  unfold indexAddrP ixO
  split <;> simp_all
theorem x_array (T : TypeId) (a : Addr) (k : IntKind) (j : Int) (K : Value → Prop) : indexAddrP P T (.pointer (some a)) (.int k j) K = (iyO P (P.underlying T) a j K) := by
  unfold indexAddrP iyO
  split <;> simp_all
theorem x_ixO (e : TypeId) (A : Option Addr) (n : Nat) (j : Int) (K : Value → Prop) : ixO P (some (.slice e)) A n j K = (P.cellsOf e ≠ 0 ∧ 0 ≤ j ∧ j < n ∧ ∃ a, A = some a ∧ K (.pointer (some (a.add (j.toNat * P.cellsOf e))))) := propext Iff.rfl
theorem x_iyO (n : Nat) (e : TypeId) (a : Addr) (j : Int) (K : Value → Prop) : iyO P (some (.array n e)) a j K = (P.cellsOf e ≠ 0 ∧ 0 ≤ j ∧ j < n ∧ K (.pointer (some (a.add (j.toNat * P.cellsOf e))))) := propext Iff.rfl
theorem s_slice (T : TypeId) (A : Option Addr) (n c : Nat) (lo hi : Option Value) (K : Value → Prop) : sliceP P T (.slice A n c) lo hi none K = (slO P (P.underlying T) A n c lo hi K (pureP P (Instr.sliceAt T (.slice A n c) lo hi none) K)) := by
  unfold sliceP slO
  split <;> simp_all
theorem s_array (T : TypeId) (a : Addr) (lo hi : Option Value) (K : Value → Prop) : sliceP P T (.pointer (some a)) lo hi none K = (spO P (P.underlying T) a lo hi K (pureP P (Instr.sliceAt T (.pointer (some a)) lo hi none) K)) := by
  unfold sliceP spO
  split <;> simp_all
theorem s_slO (e : TypeId) (A : Option Addr) (n c : Nat) (lo hi : Option Value) (K : Value → Prop) (E : Prop) : slO P (some (.slice e)) A n c lo hi K E = (P.cellsOf e ≠ 0 ∧ asN hi n fun h => asN lo 0 fun l => (hi.isSome = true → h ≤ c) ∧ (lo.isSome = true → l ≤ h) ∧ K (.slice (adv A c l (P.cellsOf e)) (h - l) (c - l))) := propext Iff.rfl
theorem s_spO (n : Nat) (e : TypeId) (a : Addr) (lo hi : Option Value) (K : Value → Prop) (E : Prop) : spO P (some (.array n e)) a lo hi K E = (P.cellsOf e ≠ 0 ∧ asN hi n fun h => asN lo 0 fun l => (hi.isSome = true → h ≤ n) ∧ (lo.isSome = true → l ≤ h) ∧ K (.slice (adv (some a) n l (P.cellsOf e)) (h - l) (n - l))) := propext Iff.rfl
theorem n_none (d : Nat) (K : Nat → Prop) : asN none d K = (K d) := propext Iff.rfl
theorem n_int (k : IntKind) (j : Int) (d : Nat) (K : Nat → Prop) : asN (some (.int k j)) d K = (0 ≤ j ∧ K j.toNat) := propext Iff.rfl
theorem x_tuple (vs : Array Value) (i : Nat) (K : Value → Prop) : extractP (.tuple vs) i K = (exO vs[i]? K) := by
  apply propext
  unfold extractP exO
  cases h : vs[i]? <;> simp [h]
theorem x_some (v : Value) (K : Value → Prop) : exO (some v) K = (K v) := propext Iff.rfl
theorem z_len (T : TypeId) (ty : TypeId) (x : Value) (K : Value → World → Prop) : bltP P .len #[T] ty #[x] w K = (lenP P T x w fun v => K v w) := propext Iff.rfl
theorem z_cap (T : TypeId) (ty : TypeId) (A : Option Addr) (n c : Nat) (K : Value → World → Prop) : bltP P .cap #[T] ty #[.slice A n c] w K = ((∃ e, P.underlying T = some (.slice e)) ∧ K (.int .i64 c) w) := propext Iff.rfl
theorem z_min (ts : Array TypeId) (ty : TypeId) (x y : Value) (K : Value → World → Prop) : bltP P .min ts ty #[x, y] w K = (minP x y fun v => K v w) := propext Iff.rfl
theorem z_max (ts : Array TypeId) (ty : TypeId) (x y : Value) (K : Value → World → Prop) : bltP P .max ts ty #[x, y] w K = (maxP x y fun v => K v w) := propext Iff.rfl
theorem z_append (ts : Array TypeId) (ty : TypeId) (xs : Array Value) (K : Value → World → Prop) : bltP P .append ts ty xs w K = (runP P (Builtin.append_ ts ty xs) w (Stop K .mk)) := propext Iff.rfl
theorem z_copy (ts : Array TypeId) (ty : TypeId) (xs : Array Value) (K : Value → World → Prop) : bltP P .copy ts ty xs w K = (runP P (Builtin.copy_ ts ty xs) w (Stop K .mk)) := propext Iff.rfl
theorem z_clear (ts : Array TypeId) (ty : TypeId) (xs : Array Value) (K : Value → World → Prop) : bltP P .clear ts ty xs w K = (runP P (Builtin.clear_ ts ty xs) w (Stop K .mk)) := propext Iff.rfl
theorem z_delete (ts : Array TypeId) (ty : TypeId) (xs : Array Value) (K : Value → World → Prop) : bltP P .delete ts ty xs w K = (runP P (Builtin.delete_ ts ty xs) w (Stop K .mk)) := propext Iff.rfl
theorem zq_len (T : TypeId) (A : Option Addr) (n c : Nat) (K : Value → Prop) : bltQ P .len #[T] #[.slice A n c] K = ((∃ el, P.underlying T = some (.slice el)) ∧ K (.int .i64 n)) := propext Iff.rfl
theorem zq_lens (T : TypeId) (s : ByteArray) (K : Value → Prop) : bltQ P .len #[T] #[.string s] K = (P.underlying T = some .string ∧ K (.int .i64 s.size)) := propext Iff.rfl
theorem zq_min (ts : Array TypeId) (x y : Value) (K : Value → Prop) : bltQ P .min ts #[x, y] K = (minP x y K) := propext Iff.rfl
theorem zq_max (ts : Array TypeId) (x y : Value) (K : Value → Prop) : bltQ P .max ts #[x, y] K = (maxP x y K) := propext Iff.rfl
theorem y_slice (T : TypeId) (A : Option Addr) (n c : Nat) (K : Value → Prop) : lenP P T (.slice A n c) w K = (lnS (P.underlying T) n K (∃ v, (Builtin.len_ #[T] 0 #[.slice A n c]).run P w = .ok v w ∧ K v)) := by
  unfold lenP lnS
  split <;> simp_all
theorem y_ok (e : TypeId) (n : Nat) (K : Value → Prop) (E : Prop) : lnS (some (.slice e)) n K E = (K (.int .i64 n)) := propext Iff.rfl
theorem y_min (k : IntKind) (a b : Int) (K : Value → Prop) : minP (.int k a) (.int k b) K = (K (.int k (if b < a then b else a))) := propext Iff.rfl
theorem y_max (k : IntKind) (a b : Int) (K : Value → Prop) : maxP (.int k a) (.int k b) K = (K (.int k (if a < b then b else a))) := propext Iff.rfl
end

theorem loop_p {P : Program} {body : Code} {e : Env} {w : World} {Q : Exit → Env → World → Prop} (M : List Nat) (I : Env → World → Prop) (μ : Env → World → Nat) (h0 : I e w)
    (round : ∀ v w', I (hv e M v) w' → code P body (hv e M v) w' (thenP (fun e' w'' => (Same M e' e ∧ I e' w'') ∧ μ e' w'' < μ (hv e M v) w') Q)) : loopP P body e w Q := loop_rule M I μ h0 round
end Go.Proofs.RV

