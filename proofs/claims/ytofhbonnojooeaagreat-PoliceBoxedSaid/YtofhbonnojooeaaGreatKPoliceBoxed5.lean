/-
  Texts that the law stands on, part 5.
-/
import Derived.Test.YtofhbonnojooeaaGreatKPoliceBoxed4
import Derived.Laws.MakeOwn
namespace Go.Proofs.RV
open Go Go.RowKit
set_option linter.unusedSimpArgs false
set_option linter.unusedVariables false
theorem s1_int (K : Value → Prop) (m : Mark K) (k : IntKind) (n : Int) : Stop K m (.int k n) = K (.int k n) := propext Iff.rfl
theorem s2_int (K : Value → World → Prop) (m : Mark K) (k : IntKind) (n : Int) (w : World) : Stop K m (.int k n) w = K (.int k n) w := propext Iff.rfl
theorem s1_bool (K : Value → Prop) (m : Mark K) (b : Bool) : Stop K m (.bool b) = K (.bool b) := propext Iff.rfl
theorem s2_bool (K : Value → World → Prop) (m : Mark K) (b : Bool) (w : World) : Stop K m (.bool b) w = K (.bool b) w := propext Iff.rfl
theorem s1_string (K : Value → Prop) (m : Mark K) (s : ByteArray) : Stop K m (.string s) = K (.string s) := propext Iff.rfl
theorem s2_string (K : Value → World → Prop) (m : Mark K) (s : ByteArray) (w : World) : Stop K m (.string s) w = K (.string s) w := propext Iff.rfl
theorem s1_pointer (K : Value → Prop) (m : Mark K) (p : Option Addr) : Stop K m (.pointer p) = K (.pointer p) := propext Iff.rfl
theorem s2_pointer (K : Value → World → Prop) (m : Mark K) (p : Option Addr) (w : World) : Stop K m (.pointer p) w = K (.pointer p) w := propext Iff.rfl
theorem s1_slice (K : Value → Prop) (m : Mark K) (A : Option Addr) (n c : Nat) : Stop K m (.slice A n c) = K (.slice A n c) := propext Iff.rfl
theorem s2_slice (K : Value → World → Prop) (m : Mark K) (A : Option Addr) (n c : Nat) (w : World) : Stop K m (.slice A n c) w = K (.slice A n c) w := propext Iff.rfl
theorem s1_agg (K : Value → Prop) (m : Mark K) (xs : Array Value) : Stop K m (.agg xs) = K (.agg xs) := propext Iff.rfl
theorem s2_agg (K : Value → World → Prop) (m : Mark K) (xs : Array Value) (w : World) : Stop K m (.agg xs) w = K (.agg xs) w := propext Iff.rfl
theorem s1_tuple (K : Value → Prop) (m : Mark K) (xs : Array Value) : Stop K m (.tuple xs) = K (.tuple xs) := propext Iff.rfl
theorem s2_tuple (K : Value → World → Prop) (m : Mark K) (xs : Array Value) (w : World) : Stop K m (.tuple xs) w = K (.tuple xs) w := propext Iff.rfl
theorem s1_undef (K : Value → Prop) (m : Mark K)  : Stop K m undef = K undef := propext Iff.rfl
theorem s2_undef (K : Value → World → Prop) (m : Mark K)  (w : World) : Stop K m undef w = K undef w := propext Iff.rfl
theorem s1_map (K : Value → Prop) (m : Mark K) (r : Option Nat) : Stop K m (.map r) = K (.map r) := propext Iff.rfl
theorem s2_map (K : Value → World → Prop) (m : Mark K) (r : Option Nat) (w : World) : Stop K m (.map r) w = K (.map r) w := propext Iff.rfl
theorem s1_func (K : Value → Prop) (m : Mark K) (f : Fn) (a b : Array Value) : Stop K m (.func f a b) = K (.func f a b) := propext Iff.rfl
theorem s2_func (K : Value → World → Prop) (m : Mark K) (f : Fn) (a b : Array Value) (w : World) : Stop K m (.func f a b) w = K (.func f a b) w := propext Iff.rfl
theorem s1_nilFunc (K : Value → Prop) (m : Mark K)  : Stop K m .nilFunc = K .nilFunc := propext Iff.rfl
theorem s2_nilFunc (K : Value → World → Prop) (m : Mark K)  (w : World) : Stop K m .nilFunc w = K .nilFunc w := propext Iff.rfl
theorem s1_iface (K : Value → Prop) (m : Mark K) (t : TypeId) (v : Value) : Stop K m (.iface t v) = K (.iface t v) := propext Iff.rfl
theorem s2_iface (K : Value → World → Prop) (m : Mark K) (t : TypeId) (v : Value) (w : World) : Stop K m (.iface t v) w = K (.iface t v) w := propext Iff.rfl
theorem s1_nilIface (K : Value → Prop) (m : Mark K)  : Stop K m .nilIface = K .nilIface := propext Iff.rfl
theorem s2_nilIface (K : Value → World → Prop) (m : Mark K)  (w : World) : Stop K m .nilIface w = K .nilIface w := propext Iff.rfl
theorem s1_up (K : Env → Prop) (m : Mark K) (e : Env) (t : Nat) (v : Value) : Stop K m (up e t v) = K (up e t v) := propext Iff.rfl
theorem s2_up (K : Env → World → Prop) (m : Mark K) (e : Env) (t : Nat) (v : Value) (w : World) : Stop K m (up e t v) w = K (up e t v) w := propext Iff.rfl
theorem s1_hv (K : Env → Prop) (m : Mark K) (e : Env) (M : List Nat) (v : Env) : Stop K m (hv e M v) = K (hv e M v) := propext Iff.rfl
theorem s2_hv (K : Env → World → Prop) (m : Mark K) (e : Env) (M : List Nat) (v : Env) (w : World) : Stop K m (hv e M v) w = K (hv e M v) w := propext Iff.rfl
theorem s1_init (K : Env → Prop) (m : Mark K) (l : List Value) (t : Nat) : Stop K m (init l t) = K (init l t) := propext Iff.rfl
theorem s2_init (K : Env → World → Prop) (m : Mark K) (l : List Value) (t : Nat) (w : World) : Stop K m (init l t) w = K (init l t) w := propext Iff.rfl
theorem s3_any (Q : Exit → Env → World → Prop) (m : Mark Q) (x : Exit) (e : Env) (w : World) : Stop Q m x e w = Q x e w := propext Iff.rfl
section
variable (P : Program) (B : Nat) (e : Env) (w : World)
theorem zp_cons (ops : Array Oper) (d : Nat) (op : Op) (t : TypeId) (p : String) (af : Array Edge) (r : List Oper) (K : Env → World → Prop) :
    opsP P ops (⟨some d, op, t, p, af, none⟩ :: r) e w K = opP P ⟨some d, op, t, p, af, none⟩ e w (Stop (fun v w' => opsP P ops r (up e d v) w' K) .mk) := propext Iff.rfl
theorem zp_none (ops : Array Oper) (op : Op) (t : TypeId) (p : String) (af : Array Edge) (r : List Oper) (K : Env → World → Prop) :
    opsP P ops (⟨none, op, t, p, af, none⟩ :: r) e w K = opP P ⟨none, op, t, p, af, none⟩ e w (Stop (fun v w' => opsP P ops r e w' K) .mk) := propext Iff.rfl
theorem zp_guard (ops : Array Oper) (d : Nat) (op : Op) (t : TypeId) (p : String) (af : Array Edge) (g : Nat × Bool) (r : List Oper) (K : Env → World → Prop) :
    opsP P ops (⟨some d, op, t, p, af, some g⟩ :: r) e w K = guardP (some g) ops e (Stop (fun e => opP P ⟨some d, op, t, p, af, none⟩ e w (Stop (fun v w' => opsP P ops r (up e d v) w' K) .mk)) .mk) (Stop (fun e => opsP P ops r (up e d undef) w K) .mk) := propext Iff.rfl
theorem zp_guardN (ops : Array Oper) (op : Op) (t : TypeId) (p : String) (af : Array Edge) (g : Nat × Bool) (r : List Oper) (K : Env → World → Prop) :
    opsP P ops (⟨none, op, t, p, af, some g⟩ :: r) e w K = guardP (some g) ops e (Stop (fun e => opP P ⟨none, op, t, p, af, none⟩ e w (Stop (fun v w' => opsP P ops r e w' K) .mk)) .mk) (Stop (fun e => opsP P ops r e w K) .mk) := propext Iff.rfl
theorem zr_cons (ops : Array Oper) (d : Nat) (op : Op) (t : TypeId) (p : String) (af : Array Edge) (r : List Oper) (K : Env → Prop) :
    opsQ P B ops (⟨some d, op, t, p, af, none⟩ :: r) e w K = opQ P B ⟨some d, op, t, p, af, none⟩ e w (Stop (fun v => opsQ P B ops r (up e d v) w K) .mk) := propext Iff.rfl
theorem zr_none (ops : Array Oper) (op : Op) (t : TypeId) (p : String) (af : Array Edge) (r : List Oper) (K : Env → Prop) :
    opsQ P B ops (⟨none, op, t, p, af, none⟩ :: r) e w K = opQ P B ⟨none, op, t, p, af, none⟩ e w (Stop (fun v => opsQ P B ops r e w K) .mk) := propext Iff.rfl
theorem zr_guard (ops : Array Oper) (d : Nat) (op : Op) (t : TypeId) (p : String) (af : Array Edge) (g : Nat × Bool) (r : List Oper) (K : Env → Prop) :
    opsQ P B ops (⟨some d, op, t, p, af, some g⟩ :: r) e w K = guardP (some g) ops e (Stop (fun e => opQ P B ⟨some d, op, t, p, af, none⟩ e w (Stop (fun v => opsQ P B ops r (up e d v) w K) .mk)) .mk) (Stop (fun e => opsQ P B ops r (up e d undef) w K) .mk) := propext Iff.rfl
theorem zr_guardN (ops : Array Oper) (op : Op) (t : TypeId) (p : String) (af : Array Edge) (g : Nat × Bool) (r : List Oper) (K : Env → Prop) :
    opsQ P B ops (⟨none, op, t, p, af, some g⟩ :: r) e w K = guardP (some g) ops e (Stop (fun e => opQ P B ⟨none, op, t, p, af, none⟩ e w (Stop (fun v => opsQ P B ops r e w K) .mk)) .mk) (Stop (fun e => opsQ P B ops r e w K) .mk) := propext Iff.rfl
variable (Q : Exit → Env → World → Prop)
def condV (v : Value) (A B : Prop) (_ : Mark A) (_ : Mark B) : Prop := condP v A B
theorem zc_cond (c : Operand) (a b : Code) : code P (.cond c a b) e w Q = condV (ev e c) (code P a e w Q) (code P b e w Q) .mk .mk := propext Iff.rfl
theorem zc_bool (b : Bool) (A B : Prop) (m : Mark A) (m' : Mark B) : condV (.bool b) A B m m' = condB b A B .mk .mk := propext Iff.rfl
theorem zc_region (id : Nat) (l : List Oper) : code P (.region id l.toArray false) e w Q = opsP P l.toArray l e w (Stop (fun e w => Q .normal e w) .mk) := by
  simp [code, Stop]
theorem zp_nil (ops : Array Oper) (K : Env → World → Prop) (m : Mark K) : opsP P ops [] e w (Stop K m) = K e w := propext Iff.rfl
theorem zr_nil (ops : Array Oper) (K : Env → Prop) (m : Mark K) : opsQ P B ops [] e w (Stop K m) = K e := propext Iff.rfl
theorem zs_none (Ext : World → World → Prop) (D : List (List Nat)) (k : Nat) (o : Oper) (Γ : List (Nat × (World → Prop))) (N : Value → List (Nat × (World → Prop)) → Prop) : stepV P B Ext D w k o e Γ N none = opV P B o e w (Stop (fun v => N v Γ) .mk) := propext Iff.rfl
theorem zv_guard (Ext : World → World → Prop) (ops : Array Oper) (D : List (List Nat)) (Phi : Nat → Option (Value → World → Prop)) (k : Nat) (Γ : List (Nat × (World → Prop))) (K : Env → World → Prop) (d : Option Nat) (op : Op) (t : TypeId) (p : String) (af : Array Edge) (g : Nat × Bool) (r : List Oper) :
    vc P B Ext ops D Phi w k (⟨d, op, t, p, af, some g⟩ :: r) e Γ K = guardP (some g) ops e (Stop (fun e => stepV P B Ext D w k ⟨d, op, t, p, af, none⟩ e Γ (fun v G => vc P B Ext ops D Phi w (k + 1) r (upO e d v) G K) (Phi k)) .mk) (Stop (fun e => vc P B Ext ops D Phi w (k + 1) r (upO e d undef) Γ K) .mk) := v_guard P B Ext ops D Phi w k e Γ K d op t p af g r
end
theorem draw_calm {P : Program} {id : Nat} {l : List Oper} {e : Env} {w : World} {K : Env → World → Prop} (hm : P.follows .mixedOrders = true) (hB : Region.lexB .any l.toArray = true)
    (h : opsQ P w.heap.size l.toArray l e w (Stop (fun e => ∀ w', Below w.heap.size w w' → K e w') .mk)) : drawP P id l.toArray e w K :=
  draw_quiet hm hB (by simpa [Stop] using h)
theorem draw_seen {P : Program} {id : Nat} {l : List Oper} {e0 : Env} {w0 : World} {K : Env → World → Prop} (m : Nat) (D : List (List Nat)) (Phi : Nat → Option (Value → World → Prop)) (hm : P.follows .mixedOrders = true) (hD : okD l.toArray D = true) (hT : okT l.toArray D m = true)
    (hst : ∀ k Φ, Phi k = some Φ → ∀ v a b, More a b → Φ v a → Φ v b)
    (hv : vc P w0.heap.size More l.toArray D Phi w0 0 (l.take m) e0 [] (Stop (fun e w => opsP P l.toArray (l.drop m) e w K) .mk)) : drawP P id l.toArray e0 w0 K :=
  draw_facts m D Phi hm hD hT hst (by simpa [Stop] using hv)
theorem zv_nil (P : Program) (B : Nat) (Ext : World → World → Prop) (ops : Array Oper) (D : List (List Nat)) (Phi : Nat → Option (Value → World → Prop)) (w0 : World) (k : Nat) (e : Env) (Γ : List (Nat × (World → Prop))) (K : Env → World → Prop) (m : Mark K) : vc P B Ext ops D Phi w0 k [] e Γ (Stop K m) = ∀ w', Ext w0 w' → (∀ x ∈ Γ, x.2 w') → K e w' := propext Iff.rfl
def Put (B p : Nat) (e : TypeId) (i : Nat) (v : Value) (a b : World) : Prop := Below B a b ∧ ∀ cs, Blk a p e cs → Blk b p e cs ∨ Blk b p e (cs.set i v)
theorem Blk.inj {w : World} {b : Nat} {e e' : TypeId} {cs cs' : List Value} (h : Blk w b e cs) (h' : Blk w b e' cs') : cs = cs' := by
  unfold Blk at h h'
  rw [h] at h'
  injection h' with h'
  injection h' with h'
  simpa using h'
theorem Put.st {B p : Nat} {e : TypeId} {i : Nat} {v : Value} {a : World} {cs : List Value} {K : World → Prop} (hb : Blk a p e cs) (hi : i < cs.length) (hv : v.oneCell' = true) (hB : B ≤ p)
    (hK : ∀ w', Wr p a w' → Put B p e i v a w' → (∃ cs, Blk w' p e cs ∧ cs[i]? = some v) → K w') : stCell v ⟨p, i, none⟩ a K :=
  st_cell hb hi hv fun w' h1 h2 => hK w' h1 ⟨h1.below (Below.refl _ _) hB, fun cs' hc => .inr (by rw [hc.inj hb]; exact h2)⟩ ⟨_, h2, List.getElem?_set_self hi⟩
set_option linter.defProp false
def zvD := (And.intro (And.intro (And.intro (And.intro (And.intro (And.intro (And.intro @c_loop @c_skip) (And.intro @c_draw (And.intro @c_seq @c_block))) (And.intro (And.intro @c_exit (And.intro @c_ret @n_normal)) (And.intro @n_exit (And.intro @n_ret @b_normal)))) (And.intro (And.intro (And.intro @b_exit (And.intro @b_ret @dx)) (And.intro @f_normal (And.intro @f_ret @l_nil))) (And.intro (And.intro @l_tmp (And.intro @l_cell @g_some)) (And.intro @g_slot (And.intro @gx_t @gx_f))))) (And.intro (And.intro (And.intro (And.intro @g_undef (And.intro @o_move @o_assign)) (And.intro @o_pick (And.intro @o_binOp @o_unOp))) (And.intro (And.intro @o_convert (And.intro @o_load @o_store)) (And.intro @o_alloc (And.intro @o_box @o_build)))) (And.intro (And.intro (And.intro @o_buildSlice (And.intro @o_nilCheck @o_fieldAddr)) (And.intro @o_indexAddr (And.intro @o_slice @o_extract))) (And.intro (And.intro @o_field (And.intro @o_index @o_makeSlice)) (And.intro @o_makeInterface (And.intro @o_makeFunc @o_makeMap)))))) (And.intro (And.intro (And.intro (And.intro (And.intro @o_lookup @o_mapUpdate) (And.intro @o_call (And.intro @o_blt @i_add))) (And.intro (And.intro @i_sub (And.intro @i_mul @i_and)) (And.intro @i_or (And.intro @i_xor @i_eql)))) (And.intro (And.intro (And.intro @i_neq (And.intro @i_lss @i_leq)) (And.intro @i_gtr (And.intro @i_geq @i_quo))) (And.intro (And.intro @i_rem (And.intro @i_shl @i_shr)) (And.intro @b_eql (And.intro @b_neq @t_eql))))) (And.intro (And.intro (And.intro (And.intro @t_neq (And.intro @t_add @p_eql)) (And.intro @p_neq (And.intro @l_eql @l_neq))) (And.intro (And.intro @a_bin (And.intro @u_not @u_neg)) (And.intro @kx (And.intro @v_int @vq_int)))) (And.intro (And.intro (And.intro @v_ok (And.intro @v_slice @vq_slice)) (And.intro @v_agg (And.intro @m_load @m_loadq))) (And.intro (And.intro @hc_int (And.intro @lc_int @e_int)) (And.intro @hc_bool (And.intro @lc_bool @e_bool))))))) (And.intro (And.intro (And.intro (And.intro (And.intro (And.intro @hc_string @lc_string) (And.intro @e_string (And.intro @hc_pointer @lc_pointer))) (And.intro (And.intro @e_pointer (And.intro @hc_slice @lc_slice)) (And.intro @e_slice (And.intro @h_struct @e_struct)))) (And.intro (And.intro (And.intro @h_array (And.intro @e_array @h_map)) (And.intro @e_map (And.intro @h_func @e_func))) (And.intro (And.intro @h_iface (And.intro @e_iface @m_store)) (And.intro @m_alloc (And.intro @m_new @m_nil))))) (And.intro (And.intro (And.intro (And.intro @m_field (And.intro @m_faO @m_faF)) (And.intro @x_slice (And.intro @x_array @x_ixO))) (And.intro (And.intro @x_iyO (And.intro @s_slice @s_array)) (And.intro @s_slO (And.intro @s_spO @n_none)))) (And.intro (And.intro (And.intro @n_int (And.intro @x_tuple @x_some)) (And.intro @z_len (And.intro @z_cap @z_min))) (And.intro (And.intro @z_max (And.intro @z_append @z_copy)) (And.intro @z_clear (And.intro @z_delete @zq_len)))))) (And.intro (And.intro (And.intro (And.intro (And.intro @zq_lens (And.intro @zq_min @zq_max)) (And.intro @y_slice (And.intro @y_ok @y_min))) (And.intro (And.intro @y_max (And.intro @s1_int @s2_int)) (And.intro @s1_bool (And.intro @s2_bool @s1_string)))) (And.intro (And.intro (And.intro @s2_string (And.intro @s1_pointer @s2_pointer)) (And.intro @s1_slice (And.intro @s2_slice @s1_agg))) (And.intro (And.intro @s2_agg (And.intro @s1_tuple @s2_tuple)) (And.intro @s1_undef (And.intro @s2_undef @s1_map))))) (And.intro (And.intro (And.intro (And.intro @s2_map (And.intro @s1_func @s2_func)) (And.intro @s1_nilFunc (And.intro @s2_nilFunc @s1_iface))) (And.intro (And.intro @s2_iface (And.intro @s1_nilIface @s2_nilIface)) (And.intro @s1_up (And.intro @s2_up @s1_hv)))) (And.intro (And.intro (And.intro @s2_hv (And.intro @s1_init @s2_init)) (And.intro @s3_any (And.intro @zp_cons @zp_none))) (And.intro (And.intro @zp_guard (And.intro @zp_guardN @zp_nil)) (And.intro @zc_cond (And.intro @zc_bool @zc_region))))))))
def zvE := And.intro @up_apply (And.intro @hv_apply (And.intro @upO_some (And.intro @upO_none (And.intro @ev_tmp (And.intro @ev_const (And.intro @ev_func @ev_global))))))
def zvM := And.intro @add_mk (And.intro @List.mem_range'_1 (And.intro @true_and (And.intro @and_true (And.intro @and_false @false_and))))
def zvU := (And.intro (And.intro (And.intro (And.intro (And.intro (And.intro @dx @gx_t) (And.intro @gx_f @cx_true)) (And.intro (And.intro @cx_false @cx_decide) (And.intro @cx_not (And.intro @cx_beq @cx_none)))) (And.intro (And.intro (And.intro @kx @px_true) (And.intro @px_false (And.intro @lc_int @lc_bool))) (And.intro (And.intro @lc_string @lc_pointer) (And.intro @lc_slice (And.intro @List.getElem?_toArray.{0} @List.getElem?_cons_zero.{0}))))) (And.intro (And.intro (And.intro (And.intro @List.getElem?_cons_succ.{0} @Option.bind_some.{0,0}) (And.intro @Option.map_some.{0,0} @Option.map_none.{0,0})) (And.intro (And.intro @List.map_toArray.{0,0} @List.map_cons.{0,0}) (And.intro @List.map_nil.{0,0} (And.intro @Int.cast_ofNat_Int @Int.natCast_eq_zero)))) (And.intro (And.intro (And.intro @decide_true @decide_false) (And.intro @not_true_eq_false (And.intro @not_false_eq_true @Bool.not_true))) (And.intro (And.intro @Bool.not_false @Bool.true_eq_false) (And.intro (And.intro @implies_true.{0} @implies_true.{1}) (And.intro @Nat.mul_one @Nat.le_refl)))))) (And.intro (And.intro (And.intro (And.intro (And.intro @or_true @true_or) (And.intro @or_false @false_or)) (And.intro (And.intro @true_and @and_true) (And.intro @ne_eq.{1} (And.intro @Nat.one_ne_zero @Nat.zero_add)))) (And.intro (And.intro (And.intro @Nat.sub_zero @Nat.add_zero) (And.intro @adv_zero (And.intro @Option.isSome_some.{0} @Option.isSome_none.{0}))) (And.intro (And.intro @Bool.false_eq_true @false_implies) (And.intro @true_implies (And.intro (And.intro @forall_const.{0} @forall_const.{1}) @Option.some.injEq.{0}))))) (And.intro (And.intro (And.intro (And.intro @exists_eq'.{1} @exists_eq_left'.{1}) (And.intro @TypeDesc.slice.injEq @TypeDesc.pointer.injEq)) (And.intro (And.intro @decide_eq_true_eq @decide_eq_false_iff_not) (And.intro @Bool.not_eq_true' (And.intro @Bool.not_eq_false' @Int.not_lt)))) (And.intro (And.intro (And.intro @Int.not_le @List.mem_cons.{0}) (And.intro @List.not_mem_nil.{0} (And.intro @List.nil_append.{0} @List.cons_append.{0}))) (And.intro (And.intro @List.mem_append.{0} @forall_eq_or_imp.{1}) (And.intro @forall_eq.{1} (And.intro @List.getD_cons_zero.{0} @List.getD_cons_succ.{0})))))))
def zqD := (And.intro (And.intro (And.intro (And.intro (And.intro @q_move @q_assign) (And.intro @q_pick @q_binOp)) (And.intro (And.intro @q_unOp @q_convert) (And.intro @q_load @q_build))) (And.intro (And.intro (And.intro @q_nilCheck @q_fieldAddr) (And.intro @q_indexAddr @q_slice)) (And.intro (And.intro @q_extract @q_field) (And.intro @q_index @q_makeInterface)))) (And.intro (And.intro (And.intro (And.intro @q_call @q_blt) (And.intro @v_cons @s_some)) (And.intro (And.intro @look_nil @look_cons) (And.intro @opV_eq @nz_some))) (And.intro (And.intro (And.intro @nz_none @zr_cons) (And.intro @zr_none @zr_guard)) (And.intro (And.intro @zr_guardN @zr_nil) (And.intro @zs_none (And.intro @zv_guard @zv_nil))))))

structure Mod (S : Nat → Prop) (w w' : World) : Prop where
  os : w'.os = w.os
  tape : w'.tape = w.tape
  output : w'.output = w.output
  size : w.heap.size ≤ w'.heap.size
  block : ∀ k, k < w.heap.size → ¬ S k → w'.heap[k]? = w.heap[k]?
section
variable {S S' : Nat → Prop} {a b c : World}
theorem Mod.refl (S : Nat → Prop) (w : World) : Mod S w w := ⟨rfl, rfl, rfl, Nat.le_refl _, fun _ _ _ => rfl⟩
theorem Mod.next (h : Mod S a b) (k : Mod S' b c) (hs : ∀ k, k < a.heap.size → S' k → S k) : Mod S a c :=
  ⟨k.os.trans h.os, k.tape.trans h.tape, k.output.trans h.output, Nat.le_trans h.size k.size, fun i hi hq => (k.block i (Nat.lt_of_lt_of_le hi h.size) fun hh => hq (hs i hi hh)).trans (h.block i hi hq)⟩
theorem Mod.trans (h : Mod S a b) (k : Mod S b c) : Mod S a c := h.next k fun _ _ h => h
theorem Mod.mono (h : Mod S a b) (hS : ∀ k, k < a.heap.size → S k → S' k) : Mod S' a b := ⟨h.os, h.tape, h.output, h.size, fun k hk hn => h.block k hk fun hh => hn (hS k hk hh)⟩
theorem Mod.of_more (h : More a b) : Mod S a b := ⟨h.os, h.tape, h.output, h.size, fun k hk _ => h.block k hk⟩
theorem Mod.of_wr {q : Nat} (h : Wr q a b) (hq : S q) : Mod S a b := ⟨h.os, h.tape, h.output, Nat.le_of_eq h.size.symm, fun k _ hn => h.block k fun hk => hn (hk ▸ hq)⟩
theorem Mod.of_grown {row : Option Nat} (h : a.grownBy b row) (hr : ∀ k, row = some k → S k) : Mod S a b :=
  ⟨h.os, h.tape, h.output, h.size, fun k hk hn => h.block k hk fun hh => hn (hr k hh.symm)⟩
theorem Mod.below {B : Nat} (h : Mod S a b) (hB : ∀ k, k < B → ¬ S k) (hs : B ≤ a.heap.size) : Below B a b := ⟨h.os, h.tape, h.output, h.size, fun k hk => h.block k (by omega) (hB k hk)⟩
theorem Mod.more {w : World} (h : More w a) (k : Mod S a b) (hS : ∀ k, k < w.heap.size → ¬ S k) : More w b := Below.trans h (k.below hS h.size)
theorem Mod.blk {p e : Nat} {cs : List Value} (h : Mod S a b) (hb : Blk a p e cs) (hn : ¬ S p) : Blk b p e cs := (h.block p hb.lt hn).trans hb
theorem Cs.lt {w : World} {A : Option Addr} {v : Value} {cs : List Value} (h : Cs w A (v :: cs)) : ∃ x, A = some x ∧ x.block < w.heap.size := by
  obtain ⟨x, hx, hc⟩ := h 0 v rfl
  refine ⟨x, hx, ?_⟩
  rcases Nat.lt_or_ge x.block w.heap.size with h1 | h1
  · exact h1
  · unfold World.cell? at hc
    rw [add_block, Array.getElem?_eq_none h1] at hc
    cases hc
theorem Mod.cs {A : Option Addr} {cs : List Value} (h : Mod S a b) (hc : Cs a A cs) (hn : ∀ x, A = some x → ¬ S x.block) : Cs b A cs := by
  cases cs with
  | nil => exact Cs.nil _ _
  | cons v r =>
    obtain ⟨x, rfl, hx⟩ := hc.lt
    intro i u hi
    obtain ⟨y, hy, hcell⟩ := hc i u hi
    cases hy
    refine ⟨x, rfl, ?_⟩
    rw [← hcell]
    exact World.cell?_of_block (h.block _ (by rw [add_block]; exact hx) (by rw [add_block]; exact hn x rfl))
theorem Mod.own {A : Option Addr} {xs : List Value} {B e size n m : Nat} (h : Mod S a b) (ho : Own a B e size A n m xs) (hn : ∀ x, A = some x → ¬ S x.block) : Own b B e size A n m xs :=
  ho.keep fun g hA hg => h.block g hg (hn _ hA)
end
def atB (A : Option Addr) (k : Nat) : Prop := ∃ x, A = some x ∧ x.block = k
theorem ownBlock_at {A : Option Addr} {n c k : Nat} : (Value.slice A n c).ownBlock = some k ↔ atB A k := by
  cases A <;> simp [Value.ownBlock, atB]
theorem atB_none (k : Nat) : ¬ atB none k := by simp [atB]
theorem Own.atB_ge {w : World} {B e size n c k : Nat} {A : Option Addr} {xs : List Value} (h : Own w B e size A n c xs) (hk : atB A k) : B ≤ k ∧ k < w.heap.size := by
  obtain ⟨x, rfl, rfl⟩ := hk
  rcases h.blk with ⟨h1, _⟩ | ⟨g, h1, h2, h3, _⟩
  · cases h1
  · cases h1
    exact ⟨h2, h3⟩
theorem app_mod {P : Program} {t ty e : TypeId} {z : Value} {size bytes B n c m c2 : Nat} {A A2 : Option Addr} {xs news : List Value} {w : World} {K : Value → World → Prop} (ht : P.underlying t = some (.slice e)) (hE : ElemT P e z size bytes) (hzs : z.cells.size = size) (hsz : 0 < size)
    (hown : Own w B e size A n c xs) (hsrc : Cs w A2 news) (hl : news.length = m * size) (h1 : ∀ u ∈ news, u.oneCell' = true) (h63 : n + m ≤ maxLen) (hbytes : (n + m) * bytes ≤ 140737488355328) (hB : B ≤ w.heap.size)
    (hK : ∀ A' c' w', Own w' B e size A' (n + m) c' (xs ++ news) → Mod (atB A) w w' → (∀ k, atB A' k → atB A k ∨ k = w.heap.size) → K (.slice A' (n + m) c') w') :
    runP P (Builtin.append_ #[t, t] ty #[.slice A n c, .slice A2 m c2]) w K := by
  refine app_own ht hE hzs hsz hown hsrc hl h1 h63 hbytes hB fun A' c' w' ho hg hat => hK A' c' w' ho (Mod.of_grown hg fun k hk => ownBlock_at.1 hk) fun k hk => ?_
  rcases hat with h | h
  · left
    exact (ownBlock_at (n := n) (c := c)).1 (by rw [← h]; exact ownBlock_at.2 hk)
  · right
    have := (ownBlock_at (n := n + m) (c := c')).2 hk
    rw [this] at h
    exact Option.some.inj h

structure Pre (B : Nat) (e : TypeId) (N : Nat) (L : List Value) (a b : World) : Prop where
  below : Below B a b
  low : ∀ A k c xs, k ≤ N → Own a B e 1 A k c xs → Own b B e 1 A k c xs
  own : ∀ A k c, Own a B e 1 A k c (L.take k) → Own b B e 1 A k c (L.take k)
  blk : ∀ p e' cs, e' ≠ e → Blk a p e' cs → Blk b p e' cs
section
variable {B : Nat} {e : TypeId} {N : Nat} {L : List Value} {a b c w : World}
variable {P : Program}
end
def Holds (B : Nat) (e : TypeId) (L : List Value) (k : Nat) (v : Value) (w : World) : Prop := ∃ A c, v = .slice A k c ∧ Own w B e 1 A k c (L.take k)
theorem Holds.pre {B : Nat} {e : TypeId} {N : Nat} {L : List Value} {k : Nat} {v : Value} {a b : World} (hp : Pre B e N L a b) (h : Holds B e L k v a) : Holds B e L k v b := by
  obtain ⟨A, c, rfl, ho⟩ := h
  exact ⟨A, c, rfl, hp.own A k c ho⟩
end Go.Proofs.RV

namespace Go.Proofs.YtofhbonnojooeaaGreat
open Go Go.RowKit Go.Proofs.RV
set_option linter.unusedSimpArgs false
set_option linter.unusedVariables false

theorem byteE : ElemT Tryz.prog 5 (.int .u8 0) 1 1 := by unfold ElemT; kernel_rfl
set_option maxHeartbeats 1000000 in
theorem clone (w : World) (A : Option Addr) (l : List UInt8) (c : Nat) (hA : Bs w A l) (hl : l.length ≤ 140737488355328) :
    Ret Tryz.prog 265 #[.slice A l.length c] w fun v w' => ∃ A' c', v = .slice A' l.length c' ∧ Own w' w.heap.size 5 1 A' l.length c' (l.map byteV) ∧ More w w' := by
  refine ret_of Tryz.func265 rfl (by kernel_rfl) (by show 1 ≤ 8; omega) ?_
  simp -implicitDefEqProofs (maxSteps := 1000000) only [↓zvD, zvU, ↓zvE, zvM, init, one, Value.cells, simprocAttr, tyF]
  refine ⟨fun hnone => ?_, fun _ => ?_⟩
  · have : l = [] := by
      cases l with
      | nil => rfl
      | cons b r =>
        obtain ⟨a, ha, _⟩ := hA.at_ (i := 0) (by simp)
        rw [ha] at hnone
        cases hnone
    subst this
    exact ⟨none, 0, rfl, Own.nil _ _ _ _, More.refl w⟩
  · refine bslice (cells := #[]) Tryz.underlying348 byteE (by omega) (bcells_list [] (by simp)) ?_
    simp -implicitDefEqProofs (maxSteps := 1000000) only [↓zvD, zvU, ↓zvE, zvM, init, one, Value.cells, simprocAttr]
    have hm := more_alloc w (.cells #[] 5)
    refine app_own Tryz.underlying348 byteE rfl (by omega) (Own.made w _ 1 #[] 0 rfl (by simp [maxLen]) (Nat.le_refl _)) (hA.more hm) (by simp) (byteV_one l) (by simp only [maxLen]; omega) (by omega) (by rw [size_alloc]; omega) ?_
    intro A' c' w' hown hg _
    simp -implicitDefEqProofs (maxSteps := 1000000) only [↓zvD, zvU, ↓zvE, zvM, init, one, Value.cells, simprocAttr, tyF]
    refine ⟨A', c', by simp, by simpa using hown, ?_⟩
    exact grown_below (Own.made w _ 1 #[] 0 rfl (by simp [maxLen]) (Nat.le_refl _)) hm (by rw [size_alloc]; omega) hg
def noBytes (n : Nat) : List UInt8 := List.replicate n 0
def lenOf : Value → Nat
  | .slice _ n _ => n
  | _ => 0
def numOf : Value → Int
  | .int _ n => n
  | _ => 0
theorem adv_add (b o n c k s : Nat) (h : c ≠ k) : adv (some ⟨b, o, none⟩) c k s = some ⟨b, o + k * s, none⟩ := by
  unfold adv
  rw [if_neg h, Option.map_some, add_mk]
end Go.Proofs.YtofhbonnojooeaaGreat

namespace Go.Proofs.RV
open Go Go.RowKit
set_option linter.unusedSimpArgs false
set_option linter.unusedVariables false

def FlatFs (R : TypeId → List Value → Prop) (P : Program) : List Field → Nat → List Value → Prop
  | [], off, cs => cs = []
  | f :: fs, off, cs => f.name ≠ "_" ∧ f.offset = off ∧ ∃ a b, cs = a ++ b ∧ a.length = P.cellsOf f.type ∧ R f.type a ∧ FlatFs R P fs (off + a.length) b
def Flat (P : Program) : Nat → TypeId → List Value → Prop
  | 0, _, _ => False
  | n + 1, T, cs => match P.underlying T with
    | some .bool => ∃ b, cs = [.bool b]
    | some (.int k) => ∃ x, cs = [.int k x]
    | some .string => ∃ s, cs = [.string s]
    | some (.struct fs) => P.stoodInHeld T = false ∧ FlatFs (Flat P n) P fs.toList 0 cs
    | some (.array m e) => P.cellsOf e ≠ 0 ∧ ∃ cc : List (List Value), cc.length = m ∧ cs = cc.flatten ∧ ∀ c ∈ cc, c.length = P.cellsOf e ∧ Flat P n e c
    | _ => False
def tv (P : Program) (T : TypeId) (cs : List Value) : Value := match P.underlying T with
  | some (.struct _) => .agg cs.toArray
  | some (.array _ _) => .agg cs.toArray
  | _ => cs.headD undef
section
variable {P : Program}
theorem part_run {T : TypeId} {n : Nat} {pre a b : List Value} (h : Flat P n T a) (hl : a.length = P.cellsOf T) (w : World) : (part T (pre ++ (a ++ b)).toArray pre.length).run P w = .ok (tv P T a) w := by
  have one : ∀ d, P.underlying T = some d → aggD d = false → (∃ v, a = [v] ∧ tv P T a = v) → (part T (pre ++ (a ++ b)).toArray pre.length).run P w = .ok (tv P T a) w := by
    rintro d hd hag ⟨v, rfl, hv⟩
    unfold part
    rw [Sem.run_bind, isAgg_run hd, hag]
    simp [hv]
  have many : ∀ d, P.underlying T = some d → aggD d = true → tv P T a = .agg a.toArray → (part T (pre ++ (a ++ b)).toArray pre.length).run P w = .ok (tv P T a) w := by
    intro d hd hag hv
    unfold part
    rw [Sem.run_bind, isAgg_run hd, hag]
    simp only [Result.andThen_ok, if_true]
    rw [Sem.run_bind, size_run hd]
    simp only [Result.andThen_ok, Sem.run_pure]
    rw [hv]
    congr 2
    rw [← hl]
    simp
  cases n with
  | zero => exact h.elim
  | succ n =>
    unfold Flat at h
    split at h
    · rename_i hd
      obtain ⟨x, rfl⟩ := h
      exact one _ hd rfl ⟨_, rfl, by simp [tv, hd]⟩
    · rename_i hd
      obtain ⟨x, rfl⟩ := h
      exact one _ hd rfl ⟨_, rfl, by simp [tv, hd]⟩
    · rename_i hd
      obtain ⟨x, rfl⟩ := h
      exact one _ hd rfl ⟨_, rfl, by simp [tv, hd]⟩
    · rename_i hd
      exact many _ hd rfl (by simp [tv, hd])
    · rename_i hd
      exact many _ hd rfl (by simp [tv, hd])
    · exact h.elim
open Classical in
theorem eq_chunks {w : World} (xs ys : List (List Value)) (hl : xs.length = ys.length) (f : Nat → Option Bool × Unit → Sem (ForInStep (Option Bool × Unit)))
    (hf : ∀ j x y b, xs[j]? = some x → ys[j]? = some y → (f j b).run P w = .ok (if x = y then .yield (none, ()) else .done (some false, ())) w) :
    ∀ (k i : Nat), i + k = xs.length → (forIn (List.range' i k 1) (none, ()) f).run P w = .ok (if xs.drop i = ys.drop i then (none, ()) else (some false, ())) w
  | 0, i, h => by
    rw [List.drop_eq_nil_of_le (by omega), List.drop_eq_nil_of_le (by omega)]
    simp
  | k + 1, i, h => by
    have hx : i < xs.length := by omega
    have hy : i < ys.length := by omega
    rw [List.range'_succ, List.forIn_cons, Sem.run_bind, hf i _ _ _ (List.getElem?_eq_getElem hx) (List.getElem?_eq_getElem hy)]
    rw [List.drop_eq_getElem_cons hx, List.drop_eq_getElem_cons hy]
    by_cases hxy : xs[i] = ys[i]
    · rw [if_pos hxy]
      simp only [Result.andThen_ok]
      rw [eq_chunks xs ys hl f hf k (i + 1) (by omega), hxy]
      simp only [List.cons.injEq, true_and]
    · rw [if_neg hxy, if_neg (fun hh => hxy (List.cons.inj hh).1)]
      simp only [Result.andThen_ok, Sem.run_pure]
theorem flatten_inj {s : Nat} : ∀ (xs ys : List (List Value)), xs.length = ys.length → (∀ c ∈ xs, c.length = s) → (∀ c ∈ ys, c.length = s) → xs.flatten = ys.flatten → xs = ys
  | [], [], _, _, _, _ => rfl
  | [], _ :: _, h, _, _, _ => by simp at h
  | _ :: _, [], h, _, _, _ => by simp at h
  | x :: xs, y :: ys, h, hx, hy, he => by
    simp only [List.flatten_cons] at he
    have h1 : x.length = y.length := by rw [hx x (by simp), hy y (by simp)]
    obtain ⟨e1, e2⟩ := List.append_inj he h1
    rw [e1, flatten_inj xs ys (by simpa using h) (fun c hc => hx c (by simp [hc])) (fun c hc => hy c (by simp [hc])) e2]
theorem flatten_cut {s : Nat} : ∀ (xs : List (List Value)) (j : Nat) (x : List Value), (∀ c ∈ xs, c.length = s) → xs[j]? = some x → ∃ pre b, xs.flatten = pre ++ (x ++ b) ∧ pre.length = j * s
  | [], j, x, _, h => by simp at h
  | c :: xs, 0, x, hx, h => by
    simp only [List.getElem?_cons_zero, Option.some.injEq] at h
    subst h
    exact ⟨[], xs.flatten, by simp, by simp⟩
  | c :: xs, j + 1, x, hx, h => by
    obtain ⟨pre, b, h1, h2⟩ := flatten_cut xs j x (fun c hc => hx c (by simp [hc])) (by simpa using h)
    refine ⟨c ++ pre, b, by simp [h1], ?_⟩
    rw [List.length_append, h2, hx c (by simp), Nat.succ_mul, Nat.add_comm]
open Classical in
theorem eq_flat : ∀ (n : Nat) (T : TypeId) (xs ys : List Value) (d : Nat), Flat P n T xs → Flat P n T ys → n ≤ d → ∀ w, (Op.equalIn d T (tv P T xs) (tv P T ys)).run P w = .ok (decide (xs = ys)) w
  | 0, T, xs, ys, d, hx, _, _, _ => hx.elim
  | n + 1, T, xs, ys, 0, _, _, hd, _ => by omega
  | n + 1, T, xs, ys, d + 1, hx, hy, hd, w => by
    unfold Flat at hx hy
    split at hx
    · rename_i hT
      rw [hT] at hy
      obtain ⟨p, rfl⟩ := hx
      obtain ⟨q, rfl⟩ := hy
      simp only [tv, hT, List.headD_cons]
      unfold Op.equalIn
      simp [run_un hT]
      cases p <;> cases q <;> rfl
    · rename_i k hT
      rw [hT] at hy
      obtain ⟨p, rfl⟩ := hx
      obtain ⟨q, rfl⟩ := hy
      simp only [tv, hT, List.headD_cons]
      rw [run_equalIn_int w d T k k p q hT]
      congr 1
      by_cases h : p = q
      · subst h; simp
      · simp [h]
    · rename_i hT
      rw [hT] at hy
      obtain ⟨p, rfl⟩ := hx
      obtain ⟨q, rfl⟩ := hy
      simp only [tv, hT, List.headD_cons]
      unfold Op.equalIn
      simp [run_un hT]
      rw [beq_toListBytes]
      by_cases h : p = q
      · subst h; simp
      · have : ¬ p.toList = q.toList := fun hh => h (by
          rw [ByteArray.toList_eq, ByteArray.toList_eq] at hh
          obtain ⟨⟨x⟩⟩ := p
          obtain ⟨⟨y⟩⟩ := q
          simp at hh
          subst hh
          rfl)
        simp [h, this]
    · rename_i fs hT
      rw [hT] at hy
      obtain ⟨hp, hx⟩ := hx
      obtain ⟨_, hy⟩ := hy
      have hfs : P.fieldsOf T = fs := by simp [Program.fieldsOf, hT]
      simp only [tv, hT]
      rw [run_equalIn_struct w d T _ _ (by rw [hfs]; exact hT) hp, hfs]
      have key : ∀ (l : List Field) (off : Nat) (px py xs ys : List Value), px.length = off → py.length = off → FlatFs (Flat P n) P l off xs → FlatFs (Flat P n) P l off ys →
          (Op.eqFields d (px ++ xs).toArray (py ++ ys).toArray l).run P w = .ok (decide (xs = ys)) w := by
        intro l
        induction l with
        | nil =>
          rintro off px py xs ys _ _ rfl rfl
          simp [Op.eqFields]
        | cons f l ih =>
          rintro off px py _ _ hpx hpy ⟨hn, ho, a, b, rfl, hla, ha, hb⟩ ⟨_, _, a', b', rfl, hla', ha', hb'⟩
          unfold Op.eqFields
          rw [if_pos hn, ho, Sem.run_bind]
          conv => lhs; rw [← hpx]
          rw [part_run ha hla]
          simp only [Result.andThen_ok]
          rw [Sem.run_bind, hpx]
          conv => lhs; rw [← hpy]
          rw [part_run ha' hla']
          simp only [Result.andThen_ok]
          rw [Sem.run_bind, eq_flat n f.type a a' d ha ha' (by omega)]
          simp only [Result.andThen_ok]
          by_cases h : a = a'
          · subst h
            simp only [decide_true, Bool.not_true, Bool.false_eq_true, if_false, List.append_cancel_left_eq]
            have := ih (off + a.length) (px ++ a) (py ++ a) b b' (by simp [hpx]) (by simp [hpy]) hb hb'
            rw [List.append_assoc, List.append_assoc] at this
            exact this
          · have h2 : ¬ a ++ b = a' ++ b' := fun hh => h (List.append_inj hh (by omega)).1
            simp [h, h2]
      simpa using key fs.toList 0 [] [] xs ys rfl rfl hx hy
    · rename_i m e hT
      rw [hT] at hy
      obtain ⟨h0, cx, hlx, rfl, hcx⟩ := hx
      obtain ⟨_, cy, hly, rfl, hcy⟩ := hy
      simp only [tv, hT]
      unfold Op.equalIn
      rw [Sem.run_bind, run_underlying hT]
      simp only [Result.andThen_ok]
      rw [Sem.run_bind, size_run' h0]
      simp only [Result.andThen_ok]
      rw [Sem.run_bind, Std.Legacy.Range.forIn_eq_forIn_range']
      simp only [Std.Legacy.Range.size, Nat.sub_zero, Nat.add_sub_cancel, Nat.div_one]
      rw [eq_chunks cx cy (by omega) _ ?_ m 0 (by omega)]
      · by_cases h : cx = cy
        · subst h; simp
        · have : ¬ cx.flatten = cy.flatten := fun hh => h (flatten_inj cx cy (by omega) (fun c hc => (hcx c hc).1) (fun c hc => (hcy c hc).1) hh)
          simp [h, this]
      · intro j x y b h2 h3
        obtain ⟨p1, b1, e1, l1⟩ := flatten_cut cx j x (fun c hc => (hcx c hc).1) h2
        obtain ⟨p2, b2, e2, l2⟩ := flatten_cut cy j y (fun c hc => (hcy c hc).1) h3
        have fx := hcx x (List.mem_of_getElem? h2)
        have fy := hcy y (List.mem_of_getElem? h3)
        have r1 := part_run (pre := p1) (b := b1) fx.2 fx.1 w
        have r2 := part_run (pre := p2) (b := b2) fy.2 fy.1 w
        rw [← e1, l1] at r1
        rw [← e2, l2] at r2
        rw [Sem.run_bind, r1]
        simp only [Result.andThen_ok]
        rw [Sem.run_bind, r2]
        simp only [Result.andThen_ok]
        rw [Sem.run_bind, eq_flat n e x y d fx.2 fy.2 (by omega)]
        simp only [Result.andThen_ok]
        by_cases h : x = y
        · subst h; simp
        · simp [h]
    · exact hx.elim
open Classical in
theorem eql_flat {T : TypeId} {n : Nat} {xs ys : List Value} (hg : P.eqGuardType P.depth T = false) (hT : tv P T xs = .agg xs.toArray ∧ tv P T ys = .agg ys.toArray) (hx : Flat P n T xs) (hy : Flat P n T ys) (hn : n ≤ 10000) (w0 : World) (ox oy : Operand) (K : Value → Prop) :
    pureP P (do eqGuard .eql T ox oy (.agg xs.toArray) (.agg ys.toArray); binOp .eql T (.agg xs.toArray) (.agg ys.toArray)) K = K (.bool (decide (xs = ys))) := by
  refine pure_eq (fun w => ?_) w0 K
  rw [Sem.run_bind, run_eqGuard_agg w _ _ _ _ _ _ hg]
  simp only [Result.andThen_ok]
  have := eq_flat n T xs ys 10000 hx hy hn w
  rw [hT.1, hT.2] at this
  rw [run_eql_struct, this]
  rfl
open Classical in
theorem neq_flat {T : TypeId} {n : Nat} {xs ys : List Value} (hg : P.eqGuardType P.depth T = false) (hT : tv P T xs = .agg xs.toArray ∧ tv P T ys = .agg ys.toArray) (hx : Flat P n T xs) (hy : Flat P n T ys) (hn : n ≤ 10000) (w0 : World) (ox oy : Operand) (K : Value → Prop) :
    pureP P (do eqGuard .neq T ox oy (.agg xs.toArray) (.agg ys.toArray); binOp .neq T (.agg xs.toArray) (.agg ys.toArray)) K = K (.bool (!decide (xs = ys))) := by
  refine pure_eq (fun w => ?_) w0 K
  rw [Sem.run_bind, run_eqGuard_agg w _ _ _ _ _ _ hg]
  simp only [Result.andThen_ok]
  have := eq_flat n T xs ys 10000 hx hy hn w
  rw [hT.1, hT.2] at this
  rw [run_neq_struct, this]
  rfl
theorem flat_bytes {T e : TypeId} {n m : Nat} {l : List UInt8} (hT : P.underlying T = some (.array m e)) (he : P.underlying e = some (.int .u8)) (h1 : P.cellsOf e = 1) (hl : l.length = m) : Flat P (n + 2) T (l.map byteV) := by
  unfold Flat
  rw [hT]
  refine ⟨by omega, l.map fun b => [byteV b], by simpa using hl, ?_, ?_⟩
  · have : ∀ l : List UInt8, l.map byteV = (l.map fun b => [byteV b]).flatten := by
      intro l
      induction l with
      | nil => rfl
      | cons b l ih => simp [ih]
    exact this l
  · intro c hc
    obtain ⟨b, _, rfl⟩ := List.mem_map.1 hc
    refine ⟨by simp [h1], ?_⟩
    unfold Flat
    rw [he]
    exact ⟨_, rfl⟩
theorem flat_bool {T : TypeId} {n : Nat} (hT : P.underlying T = some .bool) (b : Bool) : Flat P (n + 1) T [.bool b] := by unfold Flat; rw [hT]; exact ⟨b, rfl⟩
theorem flat_int {T : TypeId} {n : Nat} {k : IntKind} (hT : P.underlying T = some (.int k)) (x : Int) : Flat P (n + 1) T [.int k x] := by unfold Flat; rw [hT]; exact ⟨x, rfl⟩
theorem flat_struct {T : TypeId} {n : Nat} {fs : Array Field} {cs : List Value} (hT : P.underlying T = some (.struct fs)) (hp : P.stoodInHeld T = false) (h : FlatFs (Flat P n) P fs.toList 0 cs) : Flat P (n + 1) T cs := by unfold Flat; rw [hT]; exact ⟨hp, h⟩
end

structure Fin (B : Nat) (T : TypeId) (V : List Value) (a b : World) : Prop where
  below : Below B a b
  blk : ∀ p e cs, e ≠ T → Blk a p e cs → Blk b p e cs
  fin : ∀ p cs, Blk a p T cs → Blk b p T cs ∨ (B ≤ p ∧ Blk b p T V)
section
variable {B : Nat} {T : TypeId} {V : List Value} {a b c : World}
theorem Fin.refl (B : Nat) (T : TypeId) (V : List Value) (a : World) : Fin B T V a a := ⟨Below.refl _ _, fun _ _ _ _ h => h, fun _ _ h => .inl h⟩
theorem Fin.trans (h : Fin B T V a b) (k : Fin B T V b c) : Fin B T V a c :=
  ⟨h.below.trans k.below, fun p e cs hn hb => k.blk p e cs hn (h.blk p e cs hn hb), fun p cs hb => by
    rcases h.fin p cs hb with h1 | ⟨h1, h2⟩
    · exact k.fin p cs h1
    · rcases k.fin p V h2 with h3 | h3
      · exact .inr ⟨h1, h3⟩
      · exact .inr h3⟩
theorem Fin.of_more (h : More a b) (hB : B ≤ a.heap.size) : Fin B T V a b := ⟨h.mono hB, fun _ _ _ _ hb => hb.more h, fun _ _ hb => .inl (hb.more h)⟩
theorem Fin.of_wr {p : Nat} {cs : List Value} (hw : Wr p a b) (hb : Blk a p T cs) (hv : Blk b p T V) (hB : B ≤ p) : Fin B T V a b :=
  ⟨hw.below (Below.refl _ _) hB, fun p' e cs' hn hb' => hw.blk hb' (hb'.ne hb hn), fun p' cs' hb' => by
    by_cases h : p' = p
    · subst h
      exact .inr ⟨hB, hv⟩
    · exact .inl (hw.blk hb' h)⟩
theorem Fin.some (h : Fin B T V a b) {p : Nat} (hp : ∃ cs, Blk a p T cs ∧ cs.length = V.length) : ∃ cs, Blk b p T cs ∧ cs.length = V.length := by
  obtain ⟨cs, h1, h2⟩ := hp
  rcases h.fin p cs h1 with h3 | ⟨_, h3⟩
  · exact ⟨cs, h3, h2⟩
  · exact ⟨V, h3, rfl⟩
theorem Fin.done (h : Fin B T V a b) {p : Nat} (hp : Blk a p T V) : Blk b p T V := by
  rcases h.fin p V hp with h3 | ⟨_, h3⟩ <;> exact h3
end
theorem look_all {E : World → World → Prop} : ∀ (l : List (Nat × (Value → World → Prop))), (∀ x ∈ l, ∀ v a b, E a b → x.2 v a → x.2 v b) → ∀ k Φ, look l k = some Φ → ∀ v a b, E a b → Φ v a → Φ v b
  | [], _, k, Φ, h => by cases h
  | (j, Ψ) :: r, hl, k, Φ, h => by
    unfold look at h
    split at h
    · injection h with h
      subst h
      exact hl _ (List.mem_cons_self ..)
    · exact look_all r (fun x hx => hl x (List.mem_cons_of_mem _ hx)) k Φ h
theorem mk_slice {P : Program} {t e : TypeId} {z : Value} {size bytes n : Nat} {kl kc : IntKind} {w : World} {K : Value → World → Prop} (ht : P.underlying t = some (.slice e)) (hE : ElemT P e z size bytes) (hbytes : bytes * n ≤ 281474976710656) (h63 : n ≤ maxLen)
    (hK : K (.slice (some ⟨w.heap.size, 0, none⟩) n n) (w.alloc (.cells (madeCells z.cells (n * size)) e))) : runP P (Instr.makeSlice t (.int kl (n : Int)) (.int kc (n : Int))) w K := by
  obtain ⟨i, hi, hz, hs, hby⟩ := info_parts hE
  have hr := run_make (P := P) (w := w) t e i z ht hi hz kl kc n n (by omega) (by omega) (by rw [hby, ← Int.natCast_mul]; omega) (by simp only [maxLen] at h63; omega)
  rw [hs, Int.toNat_natCast] at hr
  exact ⟨_, _, hr, hK⟩

section
variable {M : Type} {E : M → List Value} {s : Nat}
theorem row_len : ∀ ms : List M, (∀ m ∈ ms, (E m).length = s) → (ms.flatMap E).length = ms.length * s
  | [], _ => by simp
  | m :: ms, h => by rw [List.flatMap_cons, List.length_append, h m (by simp), row_len ms (fun x hx => h x (by simp [hx])), List.length_cons, Nat.succ_mul, Nat.add_comm]
theorem row_cell : ∀ (ms : List M), (∀ m ∈ ms, (E m).length = s) → ∀ (i : Nat) (m : M) (j : Nat), ms[i]? = some m → j < s → (ms.flatMap E)[i * s + j]? = (E m)[j]?
  | [], _, i, m, j, hi, _ => by simp at hi
  | x :: ms, h, 0, m, j, hi, hj => by
    simp only [List.getElem?_cons_zero, Option.some.injEq] at hi
    subst hi
    rw [List.flatMap_cons, Nat.zero_mul, Nat.zero_add, List.getElem?_append_left (by rw [h x (by simp)]; exact hj)]
  | x :: ms, h, i + 1, m, j, hi, hj => by
    have hx := h x (by simp)
    rw [List.flatMap_cons, List.getElem?_append_right (by rw [hx, Nat.succ_mul]; omega), hx, show (i + 1) * s + j - s = i * s + j by rw [Nat.succ_mul]; omega]
    exact row_cell ms (fun y hy => h y (by simp [hy])) i m j (by simpa using hi) hj
theorem row_find (h0 : 0 < s) : ∀ (ms : List M), (∀ m ∈ ms, (E m).length = s) → ∀ (k : Nat) (v : Value), (ms.flatMap E)[k]? = some v → ∃ i m j, ms[i]? = some m ∧ j < s ∧ k = i * s + j ∧ (E m)[j]? = some v
  | [], _, k, v, hk => by simp at hk
  | x :: ms, h, k, v, hk => by
    have hx := h x (by simp)
    rw [List.flatMap_cons] at hk
    rcases Nat.lt_or_ge k s with h1 | h1
    · rw [List.getElem?_append_left (by rw [hx]; exact h1)] at hk
      exact ⟨0, x, k, rfl, h1, by omega, hk⟩
    · rw [List.getElem?_append_right (by rw [hx]; exact h1), hx] at hk
      obtain ⟨i, m, j, h2, h3, h4, h5⟩ := row_find h0 ms (fun y hy => h y (by simp [hy])) (k - s) v hk
      exact ⟨i + 1, m, j, by simpa using h2, h3, by rw [Nat.succ_mul]; omega, h5⟩
theorem Cs.elem {w : World} {A : Option Addr} {ms : List M} (hc : Cs w A (ms.flatMap E)) (h : ∀ m ∈ ms, (E m).length = s) {i : Nat} {m : M} (hi : ms[i]? = some m) {j : Nat} (hj : j < s) : ∃ a, A = some a ∧ w.cell? (a.add (i * s + j)) = (E m)[j]? := by
  have h1 := row_cell ms h i m j hi hj
  have h2 : j < (E m).length := by rw [h m (List.mem_of_getElem? hi)]; exact hj
  rw [List.getElem?_eq_getElem h2] at h1 ⊢
  exact hc _ _ h1
theorem Cs.elemA {w : World} {a : Addr} {ms : List M} (hc : Cs w (some a) (ms.flatMap E)) (h : ∀ m ∈ ms, (E m).length = s) {i : Nat} {m : M} (hi : ms[i]? = some m) {j : Nat} (hj : j < s) : w.cell? ((a.add (i * s)).add j) = (E m)[j]? := by
  obtain ⟨b, hb, hcell⟩ := hc.elem h hi hj
  cases hb
  rw [add_add]
  exact hcell
theorem Cs.some_of {w : World} {A : Option Addr} {cs : List Value} (hc : Cs w A cs) (h : 0 < cs.length) : ∃ a, A = some a := by
  cases cs with
  | nil => simp at h
  | cons v r => obtain ⟨x, hx, _⟩ := hc 0 v rfl; exact ⟨x, hx⟩
theorem row_nat (ms : List M) (i : Nat) (h : i < ms.length) : ∃ m, ms[i]? = some m := ⟨ms[i], List.getElem?_eq_getElem h⟩
theorem Lays.rowOf {P : Program} {w : World} {n : Nat} {t e : TypeId} {cs : List Value} (h : Lays P w n t cs) (ht : P.underlying t = some (.slice e)) (he : P.cellsOf e = s) (h0 : 0 < s) (F : M → Prop)
    (hr : ∀ k cs', Lays P w k e cs' → cs'.length = s → ∃ m, cs' = E m ∧ F m) :
    ∃ (A : Option Addr) (ms : List M) (c : Nat), cs = [.slice A ms.length c] ∧ ms.length ≤ c ∧ Cs w A (ms.flatMap E) ∧ (∀ m ∈ ms, (E m).length = s) ∧ ∀ m ∈ ms, F m := by
  rcases h.slice ht with rfl | ⟨a, len, cap, rfl, h2, h3, h4⟩
  · exact ⟨none, [], 0, rfl, Nat.le_refl _, Cs.nil _ _, by simp, by simp⟩
  · obtain ⟨ms, h5, h6⟩ := rows_of (E := fun (m : M) cs' => cs' = E m ∧ cs'.length = s ∧ F m) (w := w) (a := a) (s := s) len 0 fun i hi => by
      obtain ⟨cs', h7, h8, j, h9⟩ := h4 i hi
      rw [he] at h7 h8
      obtain ⟨m, hm, hF⟩ := hr j cs' h9 h7
      exact ⟨cs', by simpa using h8, m, hm, h7, hF⟩
    have hlen : ∀ m ∈ ms, (E m).length = s := by
      intro m hm
      obtain ⟨i, hi⟩ := List.getElem?_of_mem hm
      obtain ⟨_, _, rfl, hl, _⟩ := h6 i m hi
      exact hl
    refine ⟨some a, ms, cap, by rw [h5], by omega, fun i v hi => ?_, hlen, fun m hm => ?_⟩
    · obtain ⟨k, m, j, h7, h8, rfl, h9⟩ := row_find h0 ms hlen i v hi
      obtain ⟨cs', h10, rfl, _⟩ := h6 k m h7
      refine ⟨a, rfl, ?_⟩
      have := h10 j v h9
      simpa using this
    · obtain ⟨i, hi⟩ := List.getElem?_of_mem hm
      obtain ⟨_, _, _, _, hr⟩ := h6 i m hi
      exact hr
theorem row_set : ∀ (ms : List M), (∀ m ∈ ms, (E m).length = s) → ∀ (i : Nat) (m' : M), (E m').length = s → i < ms.length → splice (ms.flatMap E) (i * s) (E m') = (ms.set i m').flatMap E
  | [], _, i, m', _, hi => by simp at hi
  | x :: ms, h, 0, m', hm, _ => by
    have hx := h x (by simp)
    rw [Nat.zero_mul, splice_eq _ _ _ (by simp [hx, hm])]
    simp [hm]
    rw [List.drop_append_of_le_length (by omega), List.drop_of_length_le (by omega)]
    rfl
  | x :: ms, h, i + 1, m', hm, hi => by
    have hx := h x (by simp)
    have ih := row_set ms (fun y hy => h y (by simp [hy])) i m' hm (by simpa using hi)
    have hl := row_len ms (fun y hy => h y (by simp [hy]))
    have hi' : i < ms.length := by simpa using hi
    have hle : i * s + s ≤ ms.length * s := by rw [← Nat.succ_mul]; exact Nat.mul_le_mul_right _ hi'
    rw [splice_eq _ _ _ (by rw [hl]; omega)] at ih
    rw [splice_eq _ _ _ (by rw [List.flatMap_cons, List.length_append, hx, hl, hm, Nat.succ_mul]; omega)]
    rw [List.set_cons_succ, List.flatMap_cons, List.flatMap_cons, ← ih, hm, Nat.succ_mul, List.take_append, List.drop_append, hx]
    rw [List.take_of_length_le (by omega), List.drop_eq_nil_of_le (by omega), List.nil_append, show i * s + s - s = i * s by omega, show i * s + s + s - s = i * s + s by omega]
    simp
end
def IsV (u : Value) (v : Value) (_ : World) : Prop := v = u
def BsF (l : List UInt8) (v : Value) (w : World) : Prop := ∃ A c, v = .slice A l.length c ∧ Bs w A l
theorem keepsV (u : Value) : Keeps (IsV u) := fun _ _ _ _ h => h
theorem keepsB (l : List UInt8) : Keeps (BsF l) := fun _ _ _ h ⟨A, c, e, hB⟩ => ⟨A, c, e, hB.more h⟩
theorem draw_name {P : Program} {id : Nat} {ops : Array Oper} {e : Env} {w : World} {K : Env → World → Prop} (h : ∀ K' : Env → World → Prop, (∀ e w, K e w → K' e w) → drawP P id ops e w K') : drawP P id ops e w K := h K fun _ _ h => h
def structOk (P : Program) (T : TypeId) : Bool := match P.underlying T with | some (.struct fs) => fs.toList.all fun f => decide (P.cellsOf f.type ≠ 0) | _ => false
def placeOf (P : Program) (T : TypeId) : Nat → Option (Nat × Nat) := match P.underlying T with | some (.struct fs) => fun i => (fs[i]?).map fun f => (f.offset, P.cellsOf f.type) | _ => fun _ => none
theorem build_of {P : Program} {T : TypeId} {z : Value} {parts : Array (Nat × Value)} (out : List Value) (hc : structOk P T = true) (hz : zer P T = some z) (hf : laid (placeOf P T) z.cells.toList parts.toList = some out) (w0 : World) (K : Value → Prop) :
    pureP P (Instr.build T parts) K = K (.agg out.toArray) := by
  unfold structOk at hc
  unfold placeOf at hf
  cases hT : P.underlying T with
  | none => rw [hT] at hc; cases hc
  | some d =>
    rw [hT] at hc hf
    cases d with
    | struct fs =>
      refine build_eq hT hz (fun f hfm => ?_) hf w0 K
      simp only [List.all_eq_true, decide_eq_true_eq] at hc
      exact hc f (by simpa using hfm)
    | _ => cases hc
theorem mk_slice2 {P : Program} {t e : TypeId} {z : Value} {size bytes n c : Nat} {kl kc : IntKind} {w : World} {K : Value → World → Prop} (ht : P.underlying t = some (.slice e)) (hE : ElemT P e z size bytes) (hbytes : bytes * c ≤ 281474976710656) (h63 : c ≤ maxLen) (hn : n ≤ c)
    (hK : K (.slice (some ⟨w.heap.size, 0, none⟩) n c) (w.alloc (.cells (madeCells z.cells (c * size)) e))) : runP P (Instr.makeSlice t (.int kl (n : Int)) (.int kc (c : Int))) w K := by
  obtain ⟨i, hi, hz, hs, hby⟩ := info_parts hE
  have hr := run_make (P := P) (w := w) t e i z ht hi hz kl kc n c (by omega) (by omega) (by rw [hby, ← Int.natCast_mul]; omega) (by simp only [maxLen] at h63; omega)
  rw [hs, Int.toNat_natCast, Int.toNat_natCast] at hr
  exact ⟨_, _, hr, hK⟩
theorem made_row {M : Type} {E : M → List Value} {s : Nat} (m0 : M) (h : (E m0).length = s) (h0 : 0 < s) (z : Array Value) (hz : z = (E m0).toArray) (c : Nat) : (madeCells z (c * s)).toList = (List.replicate c m0).flatMap E := by
  have hall : ∀ m ∈ List.replicate c m0, (E m).length = s := fun m hm => by rw [List.eq_of_mem_replicate hm]; exact h
  apply List.ext_getElem?
  intro k
  have hl : ((List.replicate c m0).flatMap E).length = c * s := by rw [row_len _ hall, List.length_replicate]
  rcases Nat.lt_or_ge k (c * s) with h1 | h1
  · have hq : k / s < c := Nat.div_lt_of_lt_mul (by rw [Nat.mul_comm]; exact h1)
    have hm : k % s < s := Nat.mod_lt _ h0
    have e : k = k / s * s + k % s := by rw [Nat.mul_comm]; exact (Nat.div_add_mod k s).symm
    have r := row_cell (List.replicate c m0) hall (k / s) m0 (k % s) (by simp [hq]) hm
    rw [← e] at r
    rw [r]
    subst hz
    simp only [madeCells, Array.toList_map, Array.toList_range, List.getElem?_map, List.getElem?_range h1, Option.map_some, List.size_toArray, h]
    rw [List.getElem?_eq_getElem (by rw [h]; exact hm)]
    simp [h, hm]
  · rw [List.getElem?_eq_none (by simp [madeCells]; exact h1), List.getElem?_eq_none (by omega)]
def Puts (B p : Nat) (e : TypeId) (T : Nat → Option Value) (a b : World) : Prop := Below B a b ∧ ∀ cs, Blk a p e cs → ∃ cs', Blk b p e cs' ∧ cs'.length = cs.length ∧ ∀ i : Nat, cs'[i]? = cs[i]? ∨ (T i ≠ none ∧ cs'[i]? = T i)
def PutF (p : Nat) (e : TypeId) (T : Nat → Option Value) (i : Nat) (_ : Value) (w : World) : Prop := ∃ cs, Blk w p e cs ∧ cs[i]? = T i
section
variable {B p : Nat} {e : TypeId} {T : Nat → Option Value} {a b c : World}
theorem Puts.st {i : Nat} {v : Value} {cs : List Value} {K : World → Prop} (hb : Blk a p e cs) (hi : i < cs.length) (hv : v.oneCell' = true) (hB : B ≤ p) (hT : T i = some v)
    (hK : ∀ w', Wr p a w' → Puts B p e T a w' → PutF p e T i undef w' → K w') : stCell v ⟨p, i, none⟩ a K :=
  st_cell hb hi hv fun w' h1 h2 => hK w' h1 ⟨h1.below (Below.refl _ _) hB, fun cs' hc => ⟨cs.set i v, h2, by rw [hc.inj hb]; simp, fun j => by
    rw [hc.inj hb]
    by_cases hij : i = j
    · subst hij
      exact .inr ⟨by rw [hT]; simp, by rw [List.getElem?_set_self hi, hT]⟩
    · exact .inl (List.getElem?_set_ne hij)⟩⟩ ⟨_, h2, by rw [List.getElem?_set_self hi, hT]⟩
end

section
variable {P : Program} {B : Nat} {ops : Array Oper} {w0 : World}
theorem Ends.mono {r : Result Next} {K K' : Value → World → Prop} (h : Ends P r K) (hk : ∀ v w, K v w → K' v w) : Ends P r K' := by
  unfold Ends at *
  split at h
  · exact hk _ _ h
  · exact hk _ _ h
  · exact h.mono fun en w'' ⟨v, he, h1⟩ => ⟨v, he, hk _ _ h1⟩
  · exact h.elim
theorem Ends.exists {r : Result Next} {K : Value → World → Prop} (h : Ends P r K) : ∃ v w', K v w' := by
  unfold Ends at h
  split at h
  · exact ⟨_, _, h⟩
  · exact ⟨_, _, h⟩
  · obtain ⟨en, w', v, _, hk⟩ := calls_exists h
    exact ⟨v, w', hk⟩
  · exact h.elim
def stepS (P : Program) (B : Nat) (ops : Array Oper) (w0 : World) (f : Bool) (o : Oper) (e : Env) (w : World) (N : Env → World → Prop) : Prop :=
  if wants o.guard ops e = true then
    (if f = true then Ends P ((execOp (ev e) o).run P w) (fun v w' => Below B w0 w' ∧ N (upO e o.dst v) w') else ∃ v, Val P B o (ev e) w0 v ∧ N (upO e o.dst v) w)
  else N (upO e o.dst undef) w
theorem stepS_mono {f : Bool} {o : Oper} {e : Env} {w : World} {N N' : Env → World → Prop} (h : stepS P B ops w0 f o e w N) (hN : ∀ e w, N e w → N' e w) : stepS P B ops w0 f o e w N' := by
  unfold stepS at *
  split at h
  · rename_i hw
    rw [if_pos hw]
    split at h
    · rename_i hf
      rw [if_pos hf]
      exact h.mono fun v w' ⟨h1, h2⟩ => ⟨h1, hN _ _ h2⟩
    · rename_i hf
      rw [if_neg hf]
      obtain ⟨v, h1, h2⟩ := h
      exact ⟨v, h1, hN _ _ h2⟩
  · rename_i hw
    rw [if_neg hw]
    exact hN _ _ h
def sqS (P : Program) (B : Nat) (ops : Array Oper) (w0 : World) : List (Bool × Nat × Oper) → Env → World → (Env → World → Prop) → Prop
  | [], e, w, K => K e w
  | (f, _, o) :: r, e, w, K => stepS P B ops w0 f o e w fun e w => sqS P B ops w0 r e w K
structure Indep (ops : Array Oper) (o q : Oper) : Prop where
  ro : ∀ s ∈ slotsOf o ++ guardSlot ops o, q.dst ≠ some s
  rq : ∀ s ∈ slotsOf q ++ guardSlot ops q, o.dst ≠ some s
  dd : ∀ s, o.dst = some s → q.dst ≠ some s
  so : isSelect o.op = false
  sq : isSelect q.op = false
theorem upO_ne {e : Env} {d : Option Nat} {v : Value} {s : Nat} (h : d ≠ some s) : upO e d v s = e s := by
  cases d with
  | none => rfl
  | some t =>
    simp only [upO, up]
    rw [if_neg (fun hh => h (by rw [hh]))]
theorem upO_comm {e : Env} {d d' : Option Nat} {v v' : Value} (h : ∀ s, d = some s → d' ≠ some s) : upO (upO e d v) d' v' = upO (upO e d' v') d v := by
  funext s
  by_cases h1 : d = some s
  · have h2 := h s h1
    rw [upO_ne h2]
    subst h1
    simp [upO, up]
  · rw [upO_ne h1]
    by_cases h2 : d' = some s
    · subst h2
      simp [upO, up]
    · rw [upO_ne h2, upO_ne h2, upO_ne h1]
theorem Indep.symm {o q : Oper} (h : Indep ops o q) : Indep ops q o := ⟨h.rq, h.ro, fun s h1 h2 => h.dd s h2 h1, h.sq, h.so⟩
theorem Indep.exec {o q : Oper} (h : Indep ops o q) (e : Env) (v : Value) : execOp (ev (upO e q.dst v)) o = execOp (ev e) o :=
  execOp_congr h.so (ev_congr (ops := ops) fun s hs => upO_ne (h.ro s hs))
theorem Indep.wants {o q : Oper} (h : Indep ops o q) (e : Env) (v : Value) : wants o.guard ops (upO e q.dst v) = wants o.guard ops e :=
  wants_of fun s hs => upO_ne (h.ro s hs)
theorem Indep.val {o q : Oper} (h : Indep ops o q) (e : Env) (v u : Value) : Val P B o (ev (upO e q.dst v)) w0 u ↔ Val P B o (ev e) w0 u := by
  unfold Val
  rw [h.exec e v]
theorem swap {o q : Oper} (h : Indep ops o q) {f g : Bool} (hfg : ¬ (f = true ∧ g = true)) {e : Env} {w : World} {N : Env → World → Prop}
    (hs : stepS P B ops w0 g q e w fun e w => stepS P B ops w0 f o e w N) : stepS P B ops w0 f o e w fun e w => stepS P B ops w0 g q e w N := by
  have h' := h.symm
  have comm : ∀ a b, upO (upO e q.dst a) o.dst b = upO (upO e o.dst b) q.dst a := fun a b => upO_comm h'.dd
  unfold stepS at *
  simp only [h.wants, h'.wants, h.exec, h'.exec, h.val, h'.val] at *
  by_cases wq : wants q.guard ops e = true
  · simp only [wq, if_true] at *
    by_cases wo : wants o.guard ops e = true
    · simp only [wo, if_true] at *
      cases g with
      | true =>
        cases f with
        | true => exact absurd ⟨rfl, rfl⟩ hfg
        | false =>
          simp only [if_true, Bool.false_eq_true, if_false] at *
          obtain ⟨_, _, _, vo, hvo, _⟩ := hs.exists
          refine ⟨vo, hvo, hs.mono ?_⟩
          rintro v w' ⟨h1, vo', hvo', h2⟩
          rw [val_unique hvo hvo', ← comm]
          exact ⟨h1, h2⟩
      | false =>
        cases f with
        | true =>
          simp only [if_true, Bool.false_eq_true, if_false] at *
          obtain ⟨vq, hvq, h2⟩ := hs
          refine h2.mono ?_
          rintro v w' ⟨h3, h4⟩
          refine ⟨h3, vq, hvq, ?_⟩
          rw [← comm]
          exact h4
        | false =>
          simp only [Bool.false_eq_true, if_false] at *
          obtain ⟨vq, hvq, vo, hvo, h2⟩ := hs
          refine ⟨vo, hvo, vq, hvq, ?_⟩
          rw [← comm]
          exact h2
    · simp only [wo, Bool.false_eq_true, if_false] at *
      cases g with
      | true =>
        simp only [if_true] at *
        refine hs.mono ?_
        rintro v w' ⟨h1, h2⟩
        rw [← comm]
        exact ⟨h1, h2⟩
      | false =>
        simp only [Bool.false_eq_true, if_false] at *
        obtain ⟨vq, hvq, h2⟩ := hs
        refine ⟨vq, hvq, ?_⟩
        rw [← comm]
        exact h2
  · simp only [wq, Bool.false_eq_true, if_false] at *
    by_cases wo : wants o.guard ops e = true
    · simp only [wo, if_true] at *
      cases f with
      | true =>
        simp only [if_true] at *
        refine hs.mono ?_
        rintro v w' ⟨h1, h2⟩
        rw [← comm]
        exact ⟨h1, h2⟩
      | false =>
        simp only [Bool.false_eq_true, if_false] at *
        obtain ⟨vo, hvo, h2⟩ := hs
        refine ⟨vo, hvo, ?_⟩
        rw [← comm]
        exact h2
    · simp only [wo, Bool.false_eq_true, if_false] at *
      rw [← comm]
      exact hs
theorem front {f : Bool} {i : Nat} {o : Oper} {post : List (Bool × Nat × Oper)} {K : Env → World → Prop} : ∀ (pre : List (Bool × Nat × Oper)), (∀ x ∈ pre, Indep ops o x.2.2 ∧ ¬ (f = true ∧ x.1 = true)) → ∀ (e : Env) (w : World),
    sqS P B ops w0 (pre ++ (f, i, o) :: post) e w K → sqS P B ops w0 ((f, i, o) :: (pre ++ post)) e w K
  | [], _, e, w, hs => hs
  | (g, j, q) :: pre, h, e, w, hs => by
    have h0 := h (g, j, q) (List.mem_cons_self ..)
    have hs' : stepS P B ops w0 g q e w fun e w => stepS P B ops w0 f o e w fun e w => sqS P B ops w0 (pre ++ post) e w K :=
      stepS_mono (N := fun e w => sqS P B ops w0 (pre ++ (f, i, o) :: post) e w K) hs fun e w hh => front pre (fun x hx => h x (List.mem_cons_of_mem _ hx)) e w hh
    exact swap h0.1 h0.2 hs'
def rems (F : List Bool) (listed : Array Bool) (l : List (Oper × Nat)) : List (Bool × Nat × Oper) := (l.filter fun x => !listed.getD x.2 false).map fun x => (F.getD x.2 false, x.2, x.1)
def okF (D : List (List Nat)) (F : List Bool) : Bool := (List.range F.length).all fun j => !(F.getD j false) || (List.range j).all fun i => !(F.getD i false) || (D.getD j []).contains i
theorem okF_spec {D : List (List Nat)} {F : List Bool} (h : okF D F = true) {i j : Nat} (hi : F.getD i false = true) (hj : F.getD j false = true) (hij : i < j) : i ∈ D.getD j [] := by
  unfold okF at h
  rw [List.all_eq_true] at h
  have hjl : j < F.length := by
    rcases Nat.lt_or_ge j F.length with h1 | h1
    · exact h1
    · rw [List.getD_eq_getElem?_getD, List.getElem?_eq_none h1] at hj; cases hj
  have h1 := h j (List.mem_range.2 hjl)
  rw [hj] at h1
  simp only [Bool.not_true, Bool.false_or, List.all_eq_true] at h1
  have h2 := h1 i (List.mem_range.2 hij)
  rw [hi] at h2
  simpa using h2
theorem rems_listed {F : List Bool} {listed : Array Bool} {i : Nat} (hi : i < listed.size) : ∀ l : List (Oper × Nat), (∀ x ∈ l, x.2 ≠ i) → rems F (listed.setIfInBounds i true) l = rems F listed l := by
  intro l hl
  unfold rems
  congr 1
  refine List.filter_congr fun x hx => ?_
  rw [set_get hi, if_neg (hl x hx)]
variable {D : List (List Nat)}
end
section
variable (P : Program) (B : Nat) (ops : Array Oper) (w0 : World) (e : Env) (w : World) (K : Env → World → Prop)
end
def MoreD (a b : World) : Prop := More a b ∧ a.drawn ≤ b.drawn
theorem MoreD.refl (a : World) : MoreD a a := ⟨More.refl a, Nat.le_refl _⟩
theorem MoreD.trans {a b c : World} (h : MoreD a b) (k : MoreD b c) : MoreD a c := ⟨h.1.trans k.1, Nat.le_trans h.2 k.2⟩
theorem MoreD.alloc (w : World) (o : Obj) : MoreD w (w.alloc o) := ⟨more_alloc w o, Nat.le_refl _⟩
theorem app_fullD {P : Program} {t ty e : TypeId} {z : Value} {bytes n m c2 : Nat} {a : Addr} {A2 : Option Addr} {xs news : List Value} {w : World} {K : Value → World → Prop} (ht : P.underlying t = some (.slice e)) (hE : ElemT P e z 1 bytes) (hzs : z.cells.size = 1)
    (hxs : Cs w (some a) xs) (hxl : xs.length = n) (ha : a.spot = none) (hsrc : Cs w A2 news) (hl : news.length = m) (h1 : ∀ u ∈ news, u.oneCell' = true) (h63 : n + m ≤ maxLen) (hbytes : (n + m) * bytes ≤ 140737488355328)
    (hK0 : m = 0 → K (.slice (some a) (n + m) n) w)
    (hK : ∀ c' w', 0 < m → Own w' w.heap.size e 1 (some ⟨w.heap.size, 0, none⟩) (n + m) c' (xs ++ news) → More w w' → w.drawn ≤ w'.drawn → K (.slice (some ⟨w.heap.size, 0, none⟩) (n + m) c') w') :
    runP P (Builtin.append_ #[t, t] ty #[.slice (some a) n n, .slice A2 m c2]) w K := by
  obtain ⟨i, hi, hz, hs, hby⟩ := info_parts hE
  have zero : m = 0 → runP P (Builtin.append_ #[t, t] ty #[.slice (some a) n n, .slice A2 m c2]) w K := by
    intro hm
    have hk := hK0 hm
    subst hm
    have hn : news = [] := List.eq_nil_of_length_eq_zero hl
    subst hn
    refine ⟨_, w, ?_, hk⟩
    obtain ⟨ab, ao, asv⟩ := a
    simp only at ha
    subst ha
    cases A2 with
    | none => simp [Builtin.append_, run_underlying ht, sizeOf, typeInfo, hi, Builtin.lenOf, Builtin.firstCells, storeCells]
    | some ad =>
      have := run_append_room_cells (P := P) (w := w) t ty e i ht hi ab ao n n ad 0 c2 [] (by simp) (by simp) (by simp) (by omega) (by simp) (by simp)
      rw [this]
      rfl
  rcases Nat.eq_zero_or_pos m with hm | hm
  · exact zero hm
  · rcases A2 with _ | ad
    · cases news with
      | nil => simp at hl; omega
      | cons u r =>
        obtain ⟨x, hx, _⟩ := hsrc 0 u rfl
        cases hx
    · have holds : ∀ j u, xs[j]? = some u → w.cell? (a.add j) = some u := by
        intro j u hu
        obtain ⟨x, hx, hc⟩ := hxs j u hu
        cases hx
        exact hc
      have hnews : ∀ (j : Nat) (u : Value), news[j]? = some u → w.cell? (ad.add j) = some u := by
        intro j u hu
        obtain ⟨x, hx, hc⟩ := hsrc j u hu
        cases hx
        exact hc
      have hr := run_append_grow (P := P) w t ty e i z ht hi hz a n n xs (by rw [hs]; omega) holds ad m c2 news (by rw [hs]; omega) hnews (by omega) (by simp only [maxLen] at h63; omega) (growslice_fits (by omega) (by rw [hby]; exact hbytes))
      have hge := grownCap_ge w (n + m) n e
      have hcm : grownCap w (n + m) n e ≤ maxLen := grownCap_le_maxLen w (n + m) n e h63
      refine ⟨_, _, hr, hK _ _ hm ⟨?_, .inr ⟨w.heap.size, _, _, rfl, Nat.le_refl _, heap_alloc_new w.drew _, hge, hcm, ?_, ?_⟩⟩ ⟨rfl, rfl, rfl, by simp, fun k hk => heap_alloc_old w.drew _ (by simpa using hk)⟩ (by simp)⟩
      · rw [List.length_append]; omega
      · simp only [Array.size_append, List.size_toArray, size_zeroCells, hzs]
        omega
      · simp only [Array.toList_append, List.append_assoc]
        rw [← List.append_assoc, show (n + m) * 1 = (xs ++ news).length by rw [List.length_append]; omega]
        exact List.take_left
theorem draw_seenD {P : Program} {id : Nat} {l : List Oper} {e0 : Env} {w0 : World} {K : Env → World → Prop} (m : Nat) (D : List (List Nat)) (fs : List (Nat × (Value → World → Prop))) (hm : P.follows .mixedOrders = true) (hD : okD l.toArray D = true) (hT : okT l.toArray D m = true)
    (hst : ∀ x ∈ fs, ∀ v a b, MoreD a b → x.2 v a → x.2 v b)
    (hv : vc P w0.heap.size MoreD l.toArray D (look fs) w0 0 (l.take m) e0 [] (Stop (fun e w => opsP P l.toArray (l.drop m) e w K) .mk)) : drawP P id l.toArray e0 w0 K :=
  draw_rg w0.heap.size MoreD D _ hm hD (fun _ _ _ h k => h.trans k) MoreD.refl ⟨below_drawn _ _, Nat.le_succ _⟩ (fun _ h => h.1) (look_all fs hst) m hT (by simpa [Stop] using hv)
theorem keepsBD (l : List UInt8) (v : Value) (a b : World) (h : MoreD a b) (k : BsF l v a) : BsF l v b := keepsB l v a b h.1 k
end Go.Proofs.RV

