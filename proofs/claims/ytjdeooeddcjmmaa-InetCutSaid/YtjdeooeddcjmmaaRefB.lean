/-
  Layer 9: two heads compared.
-/
import Derived.Test.YtjdeooeddcjmmaaRefA
import Derived.Test.YtjdeooeddcjmmaaRz
namespace Go.Proofs.Ytjdeooeddcjmmaa
open Go Go.RowKit Go.Proofs.RV
set_option linter.unusedSimpArgs false
set_option linter.unusedVariables false

/-- what makes a head's fields fit their types -/
structure NetM.Fit (n : NetM) : Prop where
  p0 : 0 ≤ n.proto
  p1 : n.proto < 256
  src : n.src.length = 16
  dst : n.dst.length = 16
theorem NetM.ext' {n m : NetM} (h : n.proto = m.proto ∧ n.src = m.src ∧ n.dst = m.dst ∧ n.body = m.body ∧ n.first = m.first) : n = m := by
  cases n; cases m; simp_all
def sameNet (n m : NetM) : Bool := decide (n.proto = m.proto) && decide (n.src = m.src) && decide (n.dst = m.dst) && decide (n.body = m.body) && (n.first == m.first)
theorem sameNet_self (n : NetM) : sameNet n n = true := by simp [sameNet]
theorem NetM.cells_len {n : NetM} (h : n.Fit) (A : Option Addr) (c : Nat) : (n.cells A c).length = 35 := by
  simp [NetM.cells, h.src, h.dst]
theorem NetM.c0 (n : NetM) (A : Option Addr) (c : Nat) : (n.cells A c)[0]? = some (.int .u8 n.proto) := rfl
theorem NetM.cSrc {n : NetM} (h : n.Fit) (A : Option Addr) (c : Nat) : ((n.cells A c).drop 1).take 16 = n.src.map byteV := by
  simp [NetM.cells, List.take_append, h.src]
theorem NetM.cDst {n : NetM} (h : n.Fit) (A : Option Addr) (c : Nat) : ((n.cells A c).drop 17).take 16 = n.dst.map byteV := by
  simp [NetM.cells, List.drop_append, List.take_append, h.src, h.dst]
theorem NetM.cBody {n : NetM} (h : n.Fit) (A : Option Addr) (c : Nat) : (n.cells A c)[33]? = some (.slice A n.body.length c) := by
  simp [NetM.cells, List.getElem?_append, h.src, h.dst]
theorem NetM.cFirst {n : NetM} (h : n.Fit) (A : Option Addr) (c : Nat) : (n.cells A c)[34]? = some (.bool n.first) := by
  simp [NetM.cells, List.getElem?_append, h.src, h.dst]
set_option maxRecDepth 10000 in
set_option maxHeartbeats 2000000 in
theorem ref_same (w : World) (n m : NetM) (A A' : Option Addr) (c c' : Nat) (hn : n.Fit) (hm : m.Fit) (hA : Bs w A n.body) (hA' : Bs w A' m.body) :
    Ret Try.prog 16 #[.agg (n.cells A c).toArray, .agg (m.cells A' c').toArray] w fun v w' => v = .bool (sameNet n m) ∧ More w w' := by
  refine ret_of Try.func16 rfl (by kernel_rfl) (by show 2 ≤ 40; omega) ?_
  have e1 := more_alloc w (.cells (n.cells A c).toArray 30)
  have b1 := Blk.new w 30 (n.cells A c).toArray
  generalize hw1 : w.alloc (.cells (n.cells A c).toArray 30) = w1 at e1 b1
  have e2 := more_alloc w1 (.cells (m.cells A' c').toArray 30)
  have b2 := Blk.new w1 30 (m.cells A' c').toArray
  generalize hw2 : w1.alloc (.cells (m.cells A' c').toArray 30) = w2 at e2 b2
  have b1 := b1.more e2
  have l1 := NetM.cells_len hn A c
  have l2 := NetM.cells_len hm A' c'
  have hg : Try.prog.eqGuardType Try.prog.depth 24 = false := by kernel_rfl
  have q1 := fun K => b1.row_eq 1 16 (by simp [l1]) K
  have q2 := fun K => b2.row_eq 1 16 (by simp [l2]) K
  have q3 := fun K => b1.row_eq 17 16 (by simp [l1]) K
  have q4 := fun K => b2.row_eq 17 16 (by simp [l2]) K
  have z1 := eql_bytes_eq (P := Try.prog) Try.underlying24 cells5 Try.underlying5 hg hn.src hm.src w
  have z2 := eql_bytes_eq (P := Try.prog) Try.underlying24 cells5 Try.underlying5 hg hn.dst hm.dst w
  have y1 := conv_eq (P := Try.prog) (w := w2) Try.underlying22 Try.underlying5 Try.underlying9 ((hA.more e1).more e2) c
  have y2 := conv_eq (P := Try.prog) (w := w2) Try.underlying22 Try.underlying5 Try.underlying9 ((hA'.more e1).more e2) c'
  simp (config := {maxSteps := 1000000}) only [↓c_loop, ↓c_skip, ↓c_draw, ↓c_seq, ↓c_block, ↓c_exit, ↓c_ret, ↓n_normal, ↓n_exit, ↓n_ret, ↓b_normal, ↓b_exit, ↓b_ret, ↓dx, dx, ↓f_normal, ↓f_ret, ↓l_nil, ↓l_tmp, ↓l_cell, ↓g_some, ↓g_slot, ↓gx_t, ↓gx_f, gx_t, gx_f, cx_true, cx_false, cx_decide, cx_not, cx_beq, cx_none, ↓g_undef, ↓o_move, ↓o_assign, ↓o_pick, ↓o_binOp, ↓o_unOp, ↓o_convert, ↓o_load, ↓o_store, ↓o_alloc, ↓o_box, ↓o_build, ↓o_buildSlice, ↓o_nilCheck, ↓o_fieldAddr, ↓o_indexAddr, ↓o_slice, ↓o_extract, ↓o_field, ↓o_index, ↓o_makeSlice, ↓o_makeInterface, ↓o_makeFunc, ↓o_makeMap, ↓o_lookup, ↓o_mapUpdate, ↓o_call, ↓o_blt, ↓i_add, ↓i_sub, ↓i_mul, ↓i_and, ↓i_or, ↓i_xor, ↓i_eql, ↓i_neq, ↓i_lss, ↓i_leq, ↓i_gtr, ↓i_geq, ↓i_quo, ↓i_rem, ↓i_shl, ↓i_shr, ↓b_eql, ↓b_neq, ↓t_eql, ↓t_neq, ↓t_add, ↓p_eql, ↓p_neq, ↓l_eql, ↓l_neq, ↓a_bin, ↓u_not, ↓u_neg, ↓kx, kx, px_true, px_false, ↓v_int, ↓vq_int, ↓v_ok, ↓v_slice, ↓vq_slice, ↓v_agg, ↓m_load, ↓m_loadq, ↓hc_int, ↓lc_int, lc_int, ↓e_int, ↓hc_bool, ↓lc_bool, lc_bool, ↓e_bool, ↓hc_string, ↓lc_string, lc_string, ↓e_string, ↓hc_pointer, ↓lc_pointer, lc_pointer, ↓e_pointer, ↓hc_slice, ↓lc_slice, lc_slice, ↓e_slice, ↓h_struct, ↓e_struct, ↓h_array, ↓e_array, ↓h_map, ↓e_map, ↓h_func, ↓e_func, ↓h_iface, ↓e_iface, ↓m_store, ↓m_alloc, ↓m_new, ↓m_nil, ↓m_field, ↓m_faO, ↓m_faF, ↓x_slice, ↓x_array, ↓x_ixO, ↓x_iyO, ↓s_slice, ↓s_array, ↓s_slO, ↓s_spO, ↓n_none, ↓n_int, ↓x_tuple, ↓x_some, ↓z_len, ↓z_cap, ↓z_min, ↓z_max, ↓z_append, ↓z_copy, ↓z_clear, ↓z_delete, ↓zq_len, ↓zq_lens, ↓zq_min, ↓zq_max, ↓y_slice, ↓y_ok, ↓y_min, ↓y_max, ↓s1_int, ↓s2_int, ↓s1_bool, ↓s2_bool, ↓s1_string, ↓s2_string, ↓s1_pointer, ↓s2_pointer, ↓s1_slice, ↓s2_slice, ↓s1_agg, ↓s2_agg, ↓s1_tuple, ↓s2_tuple, ↓s1_undef, ↓s2_undef, ↓s1_map, ↓s2_map, ↓s1_func, ↓s2_func, ↓s1_nilFunc, ↓s2_nilFunc, ↓s1_iface, ↓s2_iface, ↓s1_nilIface, ↓s2_nilIface, ↓s1_up, ↓s2_up, ↓s1_hv, ↓s2_hv, ↓s1_init, ↓s2_init, ↓s3_any, ↓zp_cons, ↓zp_none, ↓zp_guard, ↓zp_guardN, ↓zp_nil, ↓zc_cond, ↓zc_bool, ↓zc_region, ↓up_apply, ↓hv_apply, ↓upO_some, ↓upO_none, ↓ev_tmp, ↓ev_const, ↓ev_func, ↓ev_global, init, Nat.reduceEqDiff, Nat.reduceAdd, Nat.reduceMul, Nat.reduceSub, ↓reduceIte, List.getElem?_toArray, List.getElem?_cons_zero, List.getElem?_cons_succ, Option.bind_some, Option.map_some, Option.map_none, List.map_toArray, List.map_cons, List.map_nil, decide_true, decide_false, not_true_eq_false, not_false_eq_true, Int.reduceEq, Int.reduceNe, Nat.reduceLeDiff, Nat.reduceEqDiff, Bool.not_true, Bool.not_false, Bool.true_eq_false, implies_true, one, Value.cells, Nat.mul_one, Nat.le_refl, or_true, true_or, or_false, false_or, true_and, and_true, ne_eq, Nat.one_ne_zero, not_false_eq_true, Int.reduceLE, Int.reduceLT, Int.reduceToNat, add_mk, Nat.zero_add, Nat.sub_zero, Nat.add_zero, adv_zero, Option.isSome_some, Option.isSome_none, Bool.false_eq_true, false_implies, true_implies, forall_const, Option.some.injEq, exists_eq', exists_eq_left', TypeDesc.slice.injEq, TypeDesc.pointer.injEq, decide_eq_true_eq, decide_eq_false_iff_not, Bool.not_eq_true', Bool.not_eq_false', Int.not_lt, Int.not_le, List.mem_cons, List.not_mem_nil, reduceCtorEq, List.nil_append, List.cons_append, List.mem_append, forall_eq_or_imp, forall_eq, List.getD_cons_zero, List.getD_cons_succ,  List.take_succ_cons, List.take_zero, List.drop_succ_cons, List.drop_zero, Try.underlying22, Try.underlying5, Try.underlying3, Try.underlying4, Try.underlying24, Try.underlying30, Try.underlying9, cells30, cells5, cells3, cells4, cells24, cells22, Try.results16, hw1, hw2, b1.cell, b2.cell, NetM.c0, NetM.cSrc hn, NetM.cDst hn, NetM.cBody hn, NetM.cFirst hn, NetM.cSrc hm, NetM.cDst hm, NetM.cBody hm, NetM.cFirst hm, q1, q2, q3, q4, z1, z2, y1, y2, str_eq]
  have em := e1.trans e2
  refine ⟨fun h1 => ⟨fun h2 => ⟨fun h3 => ⟨fun h4 => ⟨?_, em⟩, fun h4 => ⟨?_, em⟩⟩, fun h3 => ⟨?_, em⟩⟩, fun h2 => ⟨?_, em⟩⟩, fun h1 => ⟨?_, em⟩⟩
  · simp [sameNet, h1, h2, h3, h4]
  · simp [sameNet, h4]
  · simp [sameNet, h3]
  · simp [sameNet, h2]
  · simp [sameNet, h1]
end Go.Proofs.Ytjdeooeddcjmmaa
