/-
  Texts that the law stands on, part 21.
-/
import Derived.Test.YtofhbonnojooeaaGreatKPoliceBoxed20
namespace Go.Proofs.YtofhbonnojooeaaGreat
open Go Go.RowKit Go.Proofs.RV
set_option linter.unusedSimpArgs false
set_option linter.unusedVariables false
set_option maxRecDepth 10000
set_option maxHeartbeats 4000000
def verC (seq no cl vic : Int) (b1 b2 : Bool) : List Value := [.int .i64 seq, .int .i64 no, .int .i64 cl, .int .i64 vic, .bool b1, .bool b2]
def PolR.gen (r : PolR) (f : FlowM) : Nat := (r.g.whereM f).1.toNat
def PolR.cla (r : PolR) (f : FlowM) : Nat := (r.g.whereM f).2.toNat
noncomputable def PolR.met (r : PolR) (x : PackM) (d0 : Int) : Option Nat := if r.c.getD 12 0 ≤ bytesM (r.cls.getD (r.cla x.flow) []) then matchM d0 (flowsM (r.cls.getD (r.cla x.flow) [])) x.flow else none
def PolR.touched (r : PolR) (f : FlowM) (now : Int) : PolR := r.bump (r.gen f) (r.bins (r.gen f) f) (touchM (blueK r.c) now)
def PolR.mark (r : PolR) (f : FlowM) : Int := markM (blueK r.c) (r.bins (r.gen f) f) (r.blue (r.gen f)) (blueK r.c).levels
structure FreeO where
  r : PolR
  no : Int
  cl : Int
  vic : Int
noncomputable def PolR.free (r : PolR) (x : PackM) (now d0 d1 : Int) : FreeO :=
  match r.met x d0 with
  | some k => ⟨r.leave (r.cla x.flow) (r.cls.getD (r.cla x.flow) []) k ((r.cls.getD (r.cla x.flow) []).getD k packZ), 10, -1, ((r.cls.getD (r.cla x.flow) []).getD k packZ).seq⟩
  | none => if d1.tmod 65536 < (r.touched x.flow now).mark x.flow then ⟨r.touched x.flow now, 12, -1, -1⟩
    else ⟨(r.touched x.flow now).join (r.cla x.flow) x, (r.touched x.flow now).joinNo (r.cla x.flow) x, r.cla x.flow, -1⟩
theorem gen_cla {r : PolR} (ho : PolOk r) (f : FlowM) : r.g.whereM f = ((r.gen f : Int), (r.cla f : Int)) ∧ r.cla f < r.pen ∧ r.cla f / r.B = r.gen f ∧ r.g.live (r.gen f) ∧ r.gen f < 2 := by
  obtain ⟨gen, class_, h1, h2, h3, h4, h5⟩ := where_in ho f
  have e1 : r.gen f = gen := by unfold PolR.gen; rw [h1]; rfl
  have e2 : r.cla f = class_ := by unfold PolR.cla; rw [h1]; rfl
  rw [e1, e2]
  exact ⟨h1, h2, h3, h4, h5⟩
def FlowsF (l : List FlowM) (v : Value) (w : World) : Prop := ∃ A c, v = .slice A l.length c ∧ Cs w A (l.flatMap FlowM.cells)
theorem keepsFl (l : List FlowM) (v : Value) (x y : World) (h : More x y) (k : FlowsF l v x) : FlowsF l v y := by
  obtain ⟨A, c, h1, h2⟩ := k
  exact ⟨A, c, h1, h2.more h⟩
theorem match_at {d : Int} {cl : List PackM} {f : FlowM} {k : Nat} (h : matchM d (flowsM cl) f = some k) : ∃ pk, cl[k]? = some pk := by
  unfold matchM at h
  split at h
  · cases h
  · split at h
    · rename_i h1
      cases h
      unfold flowsM at h1
      rw [List.getElem?_map] at h1
      cases hc : cl[(d.tmod ((cl.map PackM.flow).length : Int)).toNat]? with
      | none => unfold flowsM; rw [hc] at h1; cases h1
      | some pk => exact ⟨pk, by unfold flowsM; exact hc⟩
    · cases h
def mtV : Option Nat → Value
  | some k => .tuple #[.int .i64 k, .bool true]
  | none => .tuple #[.int .i64 0, .bool false]
theorem match_any (w : World) (draw : Int) (A : Option Addr) (c : Nat) (cl : List PackM) (hf : ∀ p ∈ cl, p.Ok) (f : FlowM) (hff : f.Fit) (hd : 0 ≤ draw ∧ draw < 18446744073709551616) (hA : Cs w A ((flowsM cl).flatMap FlowM.cells)) (hn : cl.length ≤ 4096) :
    Ret Tryz.prog 143 #[.int .u64 draw, .slice A (flowsM cl).length c, .agg f.cells.toArray] w fun v w' => v = mtV (matchM draw (flowsM cl) f) ∧ More w w' := by
  have hlen : (flowsM cl).length = cl.length := by simp [flowsM]
  by_cases hnil : flowsM cl = []
  · have e : matchM draw (flowsM cl) f = none := by unfold matchM; rw [if_pos hnil]
    rw [e, hnil]
    exact choke_match_nil w draw A c f
  · have hpos : 1 ≤ (flowsM cl).length := by
      cases h : flowsM cl with
      | nil => exact absurd h hnil
      | cons a l => simp
    have hr : 0 ≤ draw.tmod (flowsM cl).length ∧ draw.tmod (flowsM cl).length < (flowsM cl).length := by
      rw [Int.tmod_eq_emod_of_nonneg hd.1]
      exact ⟨Int.emod_nonneg _ (by omega), Int.emod_lt_of_pos _ (by omega)⟩
    obtain ⟨k, hk⟩ := Int.eq_ofNat_of_zero_le hr.1
    have hkl : k < (flowsM cl).length := by omega
    have hx : (flowsM cl)[k]? = some ((flowsM cl)[k]) := List.getElem?_eq_getElem hkl
    refine Calls.mono (choke_match w draw A c (flowsM cl) f hd hA (fun y hy => by
      obtain ⟨p, hp, rfl⟩ := List.mem_map.1 hy
      exact (hf p hp).1) hff (by omega) hk hx) ?_
    rintro e w' ⟨v, rfl, h1, h2, hm⟩
    refine ⟨v, rfl, ?_, hm⟩
    have e : (draw.tmod ((flowsM cl).length : Int)).toNat = k := by rw [hk]; rfl
    by_cases heq : (flowsM cl)[k] = f
    · have em : matchM draw (flowsM cl) f = some k := by
        unfold matchM
        rw [if_neg hnil, e, if_pos (by rw [hx, heq])]
      rw [em]
      exact h1 heq
    · have em : matchM draw (flowsM cl) f = none := by
        unfold matchM
        rw [if_neg hnil, e, if_neg (fun h => heq (Option.some.inj (hx.symm.trans h)))]
      rw [em]
      exact h2 heq
theorem police_free (w : World) (a : PolA) (f : Nat → Nat) (r : PolR) (h : PolMem w a f r) (hi : PolI r) (x : PackM) (hx : x.Ok) (now d0 d1 : Int) (hd0 : 0 ≤ d0 ∧ d0 < 18446744073709551616) (hd1 : 0 ≤ d1 ∧ d1 < 18446744073709551616)
    (vp : Nat) (seq : Int) (b1 b2 : Bool) (hv : Blk w vp 46 (verC seq 0 (-1) (-1) b1 b2)) (hvf : ¬ own f vp) :
    Ret Tryz.prog 59 #[.pointer (some ⟨a.p, 0, none⟩), .agg x.cells.toArray, .int .i64 now, .agg #[.int .u64 d0, .int .u64 d1], .pointer (some ⟨vp, 0, none⟩)] w fun v w' =>
      v = .int .i64 (r.free x now d0 d1).no ∧ PolMem w' a f (r.free x now d0 d1).r ∧ Blk w' vp 46 (verC seq 0 (r.free x now d0 d1).cl (r.free x now d0 d1).vic b1 b2) ∧ Mod (fun k => own f k ∨ k = vp) w w' := by
  refine ret_of Tryz.func59 rfl (by kernel_rfl) (Nat.le_of_ble_eq_true (by kernel_rfl)) ?_
  have ho := hi.ok
  obtain ⟨hwh, hcl1, hcl2, hlive, hg2⟩ := gen_cla ho x.flow
  have hm1 := more_alloc w (.cells x.cells.toArray 39)
  have hb1 := Blk.new w 39 x.cells.toArray
  simp -implicitDefEqProofs (maxSteps := 1000000) only [↓zvN, zvU, ↓zvE, zvM, init, one, Value.cells, simprocAttr, tyF]
  obtain ⟨w1, hw1⟩ : ∃ w1, w.alloc (.cells x.cells.toArray 39) = w1 := ⟨_, rfl⟩
  rw [hw1] at hm1 hb1 ⊢
  clear hw1
  rw [List.toList_toArray] at hb1
  obtain ⟨z, hz⟩ : ∃ z, w.heap.size = z := ⟨_, rfl⟩
  have hfz : ¬ own f z := h.new_free (by omega)
  have hvz : vp < z := by rw [← hz]; exact hv.lt
  rw [hz] at hb1 ⊢
  have hm2 := more_alloc w1 (.cells #[.int .u64 d0, .int .u64 d1] 41)
  have hb2 := Blk.new w1 41 #[.int .u64 d0, .int .u64 d1]
  obtain ⟨w2, hw2⟩ : ∃ w2, w1.alloc (.cells #[.int .u64 d0, .int .u64 d1] 41) = w2 := ⟨_, rfl⟩
  rw [hw2] at hm2 hb2 ⊢
  clear hw2
  obtain ⟨y, hy⟩ : ∃ y, w1.heap.size = y := ⟨_, rfl⟩
  have hzy : z < y := by rw [← hy]; exact hb1.lt
  have hfy : ¬ own f y := (h.more hm1).new_free (by omega)
  rw [hy] at hb2 ⊢
  have hm02 := hm1.trans hm2
  have h2 := h.more hm02
  have p2 := hb1.more hm2
  have v2 := hv.more hm02
  have lf : ∀ {w' : World}, Blk w' z 39 x.cells → ∀ K : Value → Prop, ldRow 36 ⟨z, 1, none⟩ w' K = K (.agg x.flow.cells.toArray) := fun hb => pack_flowAt hx.1 hx.2.1 hb
  have lp := h2.pol.lt
  have lz := p2.lt
  have ly := hb2.lt
  obtain ⟨gen, hgen⟩ : ∃ gen, r.gen x.flow = gen := ⟨_, rfl⟩
  obtain ⟨class_, hcla⟩ : ∃ class_, r.cla x.flow = class_ := ⟨_, rfl⟩
  rw [hgen, hcla] at hwh
  rw [hcla] at hcl1 hcl2
  rw [hgen] at hcl2 hlive hg2
  obtain ⟨cl, hcl⟩ := hi.at_c (c := class_) (by omega)
  obtain ⟨t, ht, hta⟩ := hi.at_t hcl
  obtain ⟨hq, hq0, hq1⟩ := hi.at_q hcl
  have hin : r.inC class_ := .inr ⟨hcl1, by rw [hcl2]; exact hlive⟩
  have hcg : r.cls.getD class_ [] = cl := by rw [List.getD_eq_getElem?_getD, hcl]; rfl
  refine draw_seen 11 [[], [0], [0, 1], [0, 1, 2], [], [4], [0, 1, 2, 3, 4, 5], [0, 1, 2, 3, 4, 5, 6], [0, 1, 2, 3, 4, 5, 6, 7], [0, 1, 2, 3, 4, 5, 6, 7], [0, 1, 2, 3, 4, 5, 6, 7, 8], [0, 1, 2, 3, 4, 5, 6, 7, 8, 9, 10]] (RV.look [(6, IsV (.tuple #[.int .i64 gen, .int .i64 class_]))]) mixed (by kernel_rfl) (by kernel_rfl) (look_keeps _ (by
    intro y hy
    simp only [List.mem_cons, List.not_mem_nil, or_false] at hy
    rcases hy with rfl
    exact keepsV _)) ?_
  simp -implicitDefEqProofs (maxSteps := 1000000) only [↓zvN, zvU, ↓zqD, ↓zvE, zvM, init, one, Value.cells, simprocAttr, tyF, h2.cg ho.cl, lf p2, lp, lz]
  refine ⟨fun w3 hm3 => ?_, ?_⟩
  · refine call_ok Tryz.call82 (gens_where w3 a.g r.g ho.gok (h2.gens.more hm3) x.flow hx.1) ?_
    rintro _ w4 ⟨rfl, hm4⟩
    rw [hwh]
    simp -implicitDefEqProofs (maxSteps := 1000000) only [↓zvN, zvU, ↓zqD, ↓zvE, zvM, init, one, Value.cells, simprocAttr, tyF]
    exact ⟨hm4, rfl⟩
  rintro _ ⟨w3, hm3, rfl⟩
  simp -implicitDefEqProofs (maxSteps := 1000000) only [↓zvN, zvU, ↓zqD, ↓zvE, zvM, init, one, Value.cells, simprocAttr, tyF, h2.cg ho.cl, lf p2, lp, lz]
  intro w4 hm4 _
  try simp -implicitDefEqProofs (maxSteps := 1000000) only [↓zvN, zvU, ↓zvE, zvM, init, one, Value.cells, simprocAttr, tyF, p_nil]
  have h4 := h2.more hm4
  have p4 := p2.more hm4
  have y4 := hb2.more hm4
  have v4 := v2.more hm4
  have lp4 := h4.pol.lt
  have lz4 := p4.lt
  have ly4 := y4.lt
  refine draw_seen 11 [[], [0], [0, 1], [0, 1, 2], [], [0, 1, 2, 3, 4], [], [6], [6, 7], [6, 7, 8], [6, 7, 8, 9], [0, 1, 2, 3, 4, 5, 6, 7, 8, 9, 10]] (RV.look [(5, IsV (.int .i64 (bytesM cl)))]) mixed (by kernel_rfl) (by kernel_rfl) (look_keeps _ (by
    intro y hy
    simp only [List.mem_cons, List.not_mem_nil, or_false] at hy
    rcases hy with rfl
    exact keepsV _)) ?_
  simp -implicitDefEqProofs (maxSteps := 1000000) only [↓zvN, zvU, ↓zqD, ↓zvE, zvM, init, one, Value.cells, simprocAttr, tyF, h4.cs ho.cl, h4.cfg ho.cl (k := 12) (by decide), lp4, lz4]
  refine ⟨fun w5 hm5 => ?_, ?_⟩
  · refine call_ok Tryz.call142 (store_bytes w5 a.st r.cls r.m (h4.more hm5).st hcl) ?_
    rintro _ w6 ⟨rfl, rfl⟩
    simp -implicitDefEqProofs (maxSteps := 1000000) only [↓zvN, zvU, ↓zqD, ↓zvE, zvM, init, one, Value.cells, simprocAttr, tyF]
    exact ⟨More.refl _, rfl⟩
  rintro _ ⟨w5, hm5, rfl⟩
  simp -implicitDefEqProofs (maxSteps := 1000000) only [↓zvN, zvU, ↓zqD, ↓zvE, zvM, init, one, Value.cells, simprocAttr, tyF, h4.cs ho.cl, h4.cfg ho.cl (k := 12) (by decide), lp4, lz4]
  intro w6 hm6 _
  have h6 := h4.more hm6
  have p6 := p4.more hm6
  have y6 := y4.more hm6
  have v6 := v4.more hm6
  have hm06 : More w w6 := ((hm02.trans hm4)).trans hm6
  have lp6 := h6.pol.lt
  have lz6 := p6.lt
  have ly6 := y6.lt
  have hd0c : ∀ {w' : World}, Blk w' y 41 [.int .u64 d0, .int .u64 d1] → w'.cell? ⟨y, 0, none⟩ = some (.int .u64 d0) ∧ w'.cell? ⟨y, 1, none⟩ = some (.int .u64 d1) := fun hb => by
    constructor <;> rw [hb.cell] <;> rfl
  have hmet : r.met x d0 = if r.c.getD 12 0 ≤ bytesM cl then matchM d0 (flowsM cl) x.flow else none := by unfold PolR.met; rw [hcla, hcg]
  refine ⟨fun hch => ?_, fun hch => ?_⟩
  · rw [if_pos hch] at hmet
    cases hmt : matchM d0 (flowsM cl) x.flow with
    | some k =>
      rw [hmt] at hmet
      obtain ⟨pk, hk⟩ := match_at hmt
      have hfree : r.free x now d0 d1 = ⟨r.leave class_ cl k pk, 10, -1, pk.seq⟩ := by
        unfold PolR.free
        rw [hmet]
        simp only [hcla, hcg]
        rw [List.getD_eq_getElem?_getD, hk]
        rfl
      rw [hfree]
      refine draw_seen 15 [[], [0], [], [2], [2, 3], [2, 3, 4], [], [2, 3, 4, 5, 6], [], [8], [0, 1, 2, 3, 4, 5, 6, 7, 8, 9], [0, 1, 2, 3, 4, 5, 6, 7, 8, 9, 10], [0, 1, 2, 3, 4, 5, 6, 7, 8, 9, 10, 11], [0, 1, 2, 3, 4, 5, 6, 7, 8, 9, 10, 11], [0, 1, 2, 3, 4, 5, 6, 7, 8, 9, 10, 11, 12], [0, 1, 2, 3, 4, 5, 6, 7, 8, 9, 10, 11, 12, 13, 14]] (RV.look [(7, FlowsF (flowsM cl)), (10, IsV (.tuple #[.int .i64 (k : Int), .bool true]))]) mixed (by kernel_rfl) (by kernel_rfl) (look_keeps _ (by
        intro y hy
        simp only [List.mem_cons, List.not_mem_nil, or_false] at hy
        rcases hy with rfl | rfl
        · exact keepsFl _
        · exact keepsV _)) ?_
      simp -implicitDefEqProofs (maxSteps := 1000000) only [↓zvN, zvU, ↓zqD, ↓zvE, zvM, init, one, Value.cells, simprocAttr, tyF, h6.cs ho.cl, (hd0c y6).1, lf p6, lp6, lz6, ly6]
      refine ⟨fun w7 hm7 => ?_, ?_⟩
      · refine call_ok Tryz.call144 (store_flows w7 a.st r.cls r.m (h6.more hm7).st hcl) ?_
        rintro _ w8 ⟨A, c, rfl, hA, hm8⟩
        simp -implicitDefEqProofs (maxSteps := 1000000) only [↓zvN, zvU, ↓zqD, ↓zvE, zvM, init, one, Value.cells, simprocAttr, tyF]
        exact ⟨hm8, A, c, by simp [flowsM], hA⟩
      rintro _ ⟨w7, hm7, A, c, rfl, hA⟩
      simp -implicitDefEqProofs (maxSteps := 1000000) only [↓zvN, zvU, ↓zqD, ↓zvE, zvM, init, one, Value.cells, simprocAttr, tyF, h6.cs ho.cl, (hd0c y6).1, lf p6, lp6, lz6, ly6]
      refine ⟨fun w8 hm8 hh => ?_, ?_⟩
      · obtain ⟨A', c', e, hA'⟩ := hh
        cases e
        refine call_ok Tryz.call143 (match_any w8 d0 A c cl (hi.fit cl (List.mem_of_getElem? hcl)) x.flow hx.1 hd0 hA' (hi.cl_len hcl)) ?_
        rintro _ w9 ⟨rfl, hm9⟩
        rw [hmt]
        unfold mtV
        simp -implicitDefEqProofs (maxSteps := 1000000) only [↓zvN, zvU, ↓zqD, ↓zvE, zvM, init, one, Value.cells, simprocAttr, tyF]
        exact ⟨hm9, rfl⟩
      rintro _ ⟨w8, hm8, _, rfl⟩
      simp -implicitDefEqProofs (maxSteps := 1000000) only [↓zvN, zvU, ↓zqD, ↓zvE, zvM, init, one, Value.cells, simprocAttr, tyF, h6.cs ho.cl, (hd0c y6).1, lf p6, lp6, lz6, ly6]
      intro w9 hm9 _
      have h9 := h6.more hm9
      have p9 := p6.more hm9
      have y9 := y6.more hm9
      have v9 := v6.more hm9
      have hm09 := hm06.trans hm9
      try simp -implicitDefEqProofs (maxSteps := 1000000) only [↓zvN, zvU, ↓zvE, zvM, init, one, Value.cells, simprocAttr, tyF, p_nil]
      have hpk := hi.fit cl (List.mem_of_getElem? hcl) pk (List.mem_of_getElem? hk)
      refine call_ok Tryz.call62 (police_leave w9 a f r h9 ho class_ k hcl hk hin hq (bytes_ge (hi.fit cl (List.mem_of_getElem? hcl)) hk) ht (hta.2 (by rintro rfl; cases hk))) ?_
      rintro _ w10 ⟨rfl, h10, m10⟩
      have v10 := m10.blk v9 hvf
      simp -implicitDefEqProofs (maxSteps := 1000000) only [↓zvN, zvU, ↓zvE, zvM, init, one, Value.cells, simprocAttr, tyF, zerPack]
      refine pack_var2 hpk.1 hpk.2.1 fun w11 hm11 hb11 _ => ?_
      rw [s2_undef]
      have c11 : w11.cell? ⟨w10.heap.size, 0, none⟩ = some (.int .i64 pk.seq) := by rw [hb11.cell]; rfl
      simp -implicitDefEqProofs (maxSteps := 1000000) only [↓zvN, zvU, ↓zvE, zvM, init, one, Value.cells, simprocAttr, tyF, c11]
      refine st_cell (i := 3) (v := .int .i64 pk.seq) (v10.more hm11) (by simp [verC]) rfl fun w12 i12 k12 => ?_
      rw [s2_undef]
      simp -implicitDefEqProofs (maxSteps := 1000000) only [↓zvN, zvU, ↓zvE, zvM, init, one, Value.cells, simprocAttr, tyF]
      refine ⟨rfl, (h10.more hm11).keep (S := fun k => k = vp) (Mod.of_wr i12 rfl) (fun k hk => by subst hk; exact Classical.byContradiction hvf), k12, ?_⟩
      exact (((Mod.of_more hm09).trans (m10.mono fun k _ hk => .inl hk)).trans (Mod.of_more hm11)).trans (Mod.of_wr i12 (.inr rfl))
    | none =>
      rw [hmt] at hmet
      refine draw_seen 15 [[], [0], [], [2], [2, 3], [2, 3, 4], [], [2, 3, 4, 5, 6], [], [8], [0, 1, 2, 3, 4, 5, 6, 7, 8, 9], [0, 1, 2, 3, 4, 5, 6, 7, 8, 9, 10], [0, 1, 2, 3, 4, 5, 6, 7, 8, 9, 10, 11], [0, 1, 2, 3, 4, 5, 6, 7, 8, 9, 10, 11], [0, 1, 2, 3, 4, 5, 6, 7, 8, 9, 10, 11, 12], [0, 1, 2, 3, 4, 5, 6, 7, 8, 9, 10, 11, 12, 13, 14]] (RV.look [(7, FlowsF (flowsM cl)), (10, IsV (.tuple #[.int .i64 (0 : Int), .bool false]))]) mixed (by kernel_rfl) (by kernel_rfl) (look_keeps _ (by
        intro y hy
        simp only [List.mem_cons, List.not_mem_nil, or_false] at hy
        rcases hy with rfl | rfl
        · exact keepsFl _
        · exact keepsV _)) ?_
      simp -implicitDefEqProofs (maxSteps := 1000000) only [↓zvN, zvU, ↓zqD, ↓zvE, zvM, init, one, Value.cells, simprocAttr, tyF, h6.cs ho.cl, (hd0c y6).1, lf p6, lp6, lz6, ly6]
      refine ⟨fun w7 hm7 => ?_, ?_⟩
      · refine call_ok Tryz.call144 (store_flows w7 a.st r.cls r.m (h6.more hm7).st hcl) ?_
        rintro _ w8 ⟨A, c, rfl, hA, hm8⟩
        simp -implicitDefEqProofs (maxSteps := 1000000) only [↓zvN, zvU, ↓zqD, ↓zvE, zvM, init, one, Value.cells, simprocAttr, tyF]
        exact ⟨hm8, A, c, by simp [flowsM], hA⟩
      rintro _ ⟨w7, hm7, A, c, rfl, hA⟩
      simp -implicitDefEqProofs (maxSteps := 1000000) only [↓zvN, zvU, ↓zqD, ↓zvE, zvM, init, one, Value.cells, simprocAttr, tyF, h6.cs ho.cl, (hd0c y6).1, lf p6, lp6, lz6, ly6]
      refine ⟨fun w8 hm8 hh => ?_, ?_⟩
      · obtain ⟨A', c', e, hA'⟩ := hh
        cases e
        refine call_ok Tryz.call143 (match_any w8 d0 A c cl (hi.fit cl (List.mem_of_getElem? hcl)) x.flow hx.1 hd0 hA' (hi.cl_len hcl)) ?_
        rintro _ w9 ⟨rfl, hm9⟩
        rw [hmt]
        unfold mtV
        simp -implicitDefEqProofs (maxSteps := 1000000) only [↓zvN, zvU, ↓zqD, ↓zvE, zvM, init, one, Value.cells, simprocAttr, tyF]
        exact ⟨hm9, rfl⟩
      rintro _ ⟨w8, hm8, _, rfl⟩
      simp -implicitDefEqProofs (maxSteps := 1000000) only [↓zvN, zvU, ↓zqD, ↓zvE, zvM, init, one, Value.cells, simprocAttr, tyF, h6.cs ho.cl, (hd0c y6).1, lf p6, lp6, lz6, ly6]
      intro w9 hm9 _
      have h9 := h6.more hm9
      have p9 := p6.more hm9
      have y9 := y6.more hm9
      have v9 := v6.more hm9
      have hm09 := hm06.trans hm9
      try simp -implicitDefEqProofs (maxSteps := 1000000) only [↓zvN, zvU, ↓zvE, zvM, init, one, Value.cells, simprocAttr, tyF, p_nil]
      have hgk := (h9).bl hg2
      try simp -implicitDefEqProofs (maxSteps := 1000000) only [↓zvN, zvU, ↓zvE, zvM, init, one, Value.cells, simprocAttr, tyF, lf p9]
      refine call_ok Tryz.call64 (police_bins w9 a f r h9 ho gen hlive x.flow hx.1) ?_
      rintro _ w10 ⟨⟨A, c, rfl, hA, hAg⟩, hm10⟩
      have h10 := (h9).more hm10
      have g0 : (0 : Int) ≤ (gen : Int) := by omega
      have g1 : (gen : Int) < 2 := by omega
      have hbk := binsM_ok r ho (r.g.key gen) x.flow
      simp -implicitDefEqProofs (maxSteps := 1000000) only [↓zvN, zvU, ↓zvE, zvM, init, one, Value.cells, simprocAttr, tyF, h10.cx ho.cl hg2, g0, g1, Int.toNat_natCast]
      have hAy : ∀ q, A = some q → q.block ≠ a.y gen := fun q hq e => by
        have e1 := hAg q hq
        have e2 := hgk.row.lt
        omega
      refine call_ok Tryz.call63 (blue_touch w10 (a.x gen) (a.y gen) (blueK r.c) (r.blue gen) (h10.bl hg2) (ho.blue gen) A c (r.bins gen x.flow) hA hAy hbk now) ?_
      rintro _ w11 ⟨rfl, hB11, hm11⟩
      obtain ⟨h11, m11⟩ := h10.setB hg2 hm11 hB11
      have htch : r.touched x.flow now = r.bump gen (r.bins gen x.flow) (touchM (blueK r.c) now) := by unfold PolR.touched; rw [hgen]
      have hi11 : PolI (r.touched x.flow now) := by rw [htch]; exact hi.bump _ _ (fun y hy => touch_ok h10.b0.ok hy now)
      replace h11 : PolMem w11 a f (r.touched x.flow now) := by rw [htch]; exact h11
      have f_c : (r.touched x.flow now).c = r.c := by rw [htch]; simp
      have f_g : (r.touched x.flow now).g = r.g := by rw [htch]; simp
      have f_cls : (r.touched x.flow now).cls = r.cls := by rw [htch]; simp
      have f_tl : (r.touched x.flow now).tl = r.tl := by rw [htch]; simp
      have f_pen : (r.touched x.flow now).pen = r.pen := by rw [htch]; simp
      have hA11 := hm11.cs hA hAy
      have p11 := m11.blk ((p9).more hm10) hfz
      have y11 := m11.blk ((y9).more hm10) hfy
      have v11 := m11.blk ((v9).more hm10) hvf
      have lp11 := h11.pol.lt
      have lz11 := p11.lt
      have ly11 := y11.lt
      have hmark : (r.touched x.flow now).mark x.flow = markM (blueK r.c) (r.bins gen x.flow) ((r.touched x.flow now).blue gen) (blueK r.c).levels := by
        have e1 : (r.touched x.flow now).gen x.flow = gen := by unfold PolR.gen at hgen ⊢; rw [f_g]; exact hgen
        have e2 : (r.touched x.flow now).bins gen x.flow = r.bins gen x.flow := by unfold PolR.bins; rw [f_g, f_c]
        unfold PolR.mark
        rw [e1, e2, f_c]
      have hfree : r.free x now d0 d1 = if d1.tmod 65536 < (r.touched x.flow now).mark x.flow then ⟨r.touched x.flow now, 12, -1, -1⟩ else ⟨(r.touched x.flow now).join class_ x, (r.touched x.flow now).joinNo class_ x, class_, -1⟩ := by
        unfold PolR.free
        rw [hmet, hcla]
      have hcx11 : w11.cell? ⟨a.p, 24 + gen, none⟩ = some (.pointer (some ⟨a.x gen, 0, none⟩)) := h11.cx (by rw [f_c]; exact ho.cl) hg2
      obtain ⟨mk, hmk⟩ : ∃ mk, (r.touched x.flow now).mark x.flow = mk := ⟨_, rfl⟩
      have hbl11 : BlueW w11 (a.x gen) (a.y gen) (blueK r.c) ((r.touched x.flow now).blue gen) := by have := h11.bl hg2; rw [f_c] at this; exact this
      have hr : 0 ≤ d1.tmod 65536 ∧ d1.tmod 65536 < 65536 := by
        rw [Int.tmod_eq_emod_of_nonneg hd1.1]
        exact ⟨Int.emod_nonneg _ (by decide), Int.emod_lt_of_pos _ (by decide)⟩
      have e2 : IntKind.u64.wrap (d1.tmod 65536) = d1.tmod 65536 := wu64 (by omega) (by omega)
      have e3 : IntKind.i64.wrap (d1.tmod 65536) = d1.tmod 65536 := w64 (by omega) (by omega)
      rw [hmk] at hfree
      simp -implicitDefEqProofs (maxSteps := 1000000) only [↓zvN, zvU, ↓zvE, zvM, init, one, Value.cells, simprocAttr, tyF]
      refine draw_seen 12 [[], [0], [0, 1], [0, 1, 2], [], [], [4], [4, 6], [4, 5, 6, 7], [4, 5, 6, 7, 8], [], [4, 5, 6, 7, 8, 9, 10], [0, 1, 2, 3, 4, 5, 6, 7, 8, 9, 10, 11]] (RV.look [(11, IsV (.int .i64 mk))]) mixed (by kernel_rfl) (by kernel_rfl) (look_keeps _ (by
        intro y hy
        simp only [List.mem_cons, List.not_mem_nil, or_false] at hy
        rcases hy with rfl
        exact keepsV _)) ?_
      simp -implicitDefEqProofs (maxSteps := 1000000) only [↓zvN, zvU, ↓zqD, ↓zvE, zvM, init, one, Value.cells, simprocAttr, tyF, (hd0c y11).2, e2, e3, hcx11, g0, g1, lp11, ly11, Int.toNat_natCast]
      refine ⟨fun w12 hm12 => ?_, ?_⟩
      · refine call_ok Tryz.call145 (blue_mark w12 (a.x gen) (a.y gen) (blueK r.c) _ (hbl11.more hm12) A c (r.bins gen x.flow) (hA11.more hm12) hbk) ?_
        rintro _ w13 ⟨rfl, hm13⟩
        rw [← hmark, hmk]
        simp -implicitDefEqProofs (maxSteps := 1000000) only [↓zvN, zvU, ↓zqD, ↓zvE, zvM, init, one, Value.cells, simprocAttr, tyF]
        exact ⟨hm13, rfl⟩
      rintro _ ⟨w12, hm12, rfl⟩
      simp -implicitDefEqProofs (maxSteps := 1000000) only [↓zvN, zvU, ↓zqD, ↓zvE, zvM, init, one, Value.cells, simprocAttr, tyF, (hd0c y11).2, e2, e3, hcx11, g0, g1, lp11, ly11, Int.toNat_natCast]
      intro w13 hm13 _
      have h13 := h11.more hm13
      have p13 := p11.more hm13
      have v13 := v11.more hm13
      have m13 : Mod (fun k => own f k ∨ k = vp) w w13 := (((Mod.of_more hm09).trans (Mod.of_more hm10)).trans (m11.mono fun k _ hk => .inl hk)).trans (Mod.of_more hm13)
      refine ⟨fun hlt => ?_, fun hlt => ?_⟩
      · rw [if_pos hlt] at hfree
        rw [hfree]
        try simp -implicitDefEqProofs (maxSteps := 1000000) only [↓zvN, zvU, ↓zvE, zvM, init, one, Value.cells, simprocAttr, tyF, p_nil]
        exact ⟨rfl, h13, v13, m13⟩
      · rw [if_neg (by omega)] at hfree
        rw [hfree]
        try simp -implicitDefEqProofs (maxSteps := 1000000) only [↓zvN, zvU, ↓zvE, zvM, init, one, Value.cells, simprocAttr, tyF, p_nil]
        refine st_cell (i := 2) (v := .int .i64 class_) v13 (by simp [verC]) rfl fun w14 i14 k14 => ?_
        rw [s2_undef]
        have h14 := h13.keep (S := fun k => k = vp) (Mod.of_wr i14 rfl) (fun k hk => by subst hk; exact Classical.byContradiction hvf)
        have p14 := i14.blk p13 (by omega)
        simp -implicitDefEqProofs (maxSteps := 1000000) only [↓zvN, zvU, ↓zvE, zvM, init, one, Value.cells, simprocAttr, tyF, p14.all_eq 46 (pack_len hx.1 hx.2.1)]
        refine call_ok Tryz.call141 (police_join w14 a f _ h14 hi11.ok class_ x hx (by rw [f_cls]; exact hcl) (by
          rcases hin with h | ⟨h1, h2⟩
          · exact .inl (by rw [f_pen]; exact h)
          · exact .inr ⟨by rw [f_pen]; exact h1, by unfold PolR.B at h2 ⊢; rw [f_g, f_c]; exact h2⟩) (hi11.at_q (by rw [f_cls]; exact hcl)).1 (hi11.at_q (by rw [f_cls]; exact hcl)).2 (by rw [f_tl]; exact ht)) ?_
        rintro _ w15 ⟨rfl, h15, m15⟩
        simp -implicitDefEqProofs (maxSteps := 1000000) only [↓zvN, zvU, ↓zvE, zvM, init, one, Value.cells, simprocAttr, tyF]
        exact ⟨rfl, h15, m15.blk k14 hvf, (m13.trans (Mod.of_wr i14 (.inr rfl))).trans (m15.mono fun k _ hk => .inl hk)⟩
  · rw [if_neg (by omega)] at hmet
    have hgk := (h6).bl hg2
    try simp -implicitDefEqProofs (maxSteps := 1000000) only [↓zvN, zvU, ↓zvE, zvM, init, one, Value.cells, simprocAttr, tyF, lf p6]
    refine call_ok Tryz.call64 (police_bins w6 a f r h6 ho gen hlive x.flow hx.1) ?_
    rintro _ w10 ⟨⟨A, c, rfl, hA, hAg⟩, hm10⟩
    have h10 := (h6).more hm10
    have g0 : (0 : Int) ≤ (gen : Int) := by omega
    have g1 : (gen : Int) < 2 := by omega
    have hbk := binsM_ok r ho (r.g.key gen) x.flow
    simp -implicitDefEqProofs (maxSteps := 1000000) only [↓zvN, zvU, ↓zvE, zvM, init, one, Value.cells, simprocAttr, tyF, h10.cx ho.cl hg2, g0, g1, Int.toNat_natCast]
    have hAy : ∀ q, A = some q → q.block ≠ a.y gen := fun q hq e => by
      have e1 := hAg q hq
      have e2 := hgk.row.lt
      omega
    refine call_ok Tryz.call63 (blue_touch w10 (a.x gen) (a.y gen) (blueK r.c) (r.blue gen) (h10.bl hg2) (ho.blue gen) A c (r.bins gen x.flow) hA hAy hbk now) ?_
    rintro _ w11 ⟨rfl, hB11, hm11⟩
    obtain ⟨h11, m11⟩ := h10.setB hg2 hm11 hB11
    have htch : r.touched x.flow now = r.bump gen (r.bins gen x.flow) (touchM (blueK r.c) now) := by unfold PolR.touched; rw [hgen]
    have hi11 : PolI (r.touched x.flow now) := by rw [htch]; exact hi.bump _ _ (fun y hy => touch_ok h10.b0.ok hy now)
    replace h11 : PolMem w11 a f (r.touched x.flow now) := by rw [htch]; exact h11
    have f_c : (r.touched x.flow now).c = r.c := by rw [htch]; simp
    have f_g : (r.touched x.flow now).g = r.g := by rw [htch]; simp
    have f_cls : (r.touched x.flow now).cls = r.cls := by rw [htch]; simp
    have f_tl : (r.touched x.flow now).tl = r.tl := by rw [htch]; simp
    have f_pen : (r.touched x.flow now).pen = r.pen := by rw [htch]; simp
    have hA11 := hm11.cs hA hAy
    have p11 := m11.blk ((p6).more hm10) hfz
    have y11 := m11.blk ((y6).more hm10) hfy
    have v11 := m11.blk ((v6).more hm10) hvf
    have lp11 := h11.pol.lt
    have lz11 := p11.lt
    have ly11 := y11.lt
    have hmark : (r.touched x.flow now).mark x.flow = markM (blueK r.c) (r.bins gen x.flow) ((r.touched x.flow now).blue gen) (blueK r.c).levels := by
      have e1 : (r.touched x.flow now).gen x.flow = gen := by unfold PolR.gen at hgen ⊢; rw [f_g]; exact hgen
      have e2 : (r.touched x.flow now).bins gen x.flow = r.bins gen x.flow := by unfold PolR.bins; rw [f_g, f_c]
      unfold PolR.mark
      rw [e1, e2, f_c]
    have hfree : r.free x now d0 d1 = if d1.tmod 65536 < (r.touched x.flow now).mark x.flow then ⟨r.touched x.flow now, 12, -1, -1⟩ else ⟨(r.touched x.flow now).join class_ x, (r.touched x.flow now).joinNo class_ x, class_, -1⟩ := by
      unfold PolR.free
      rw [hmet, hcla]
    have hcx11 : w11.cell? ⟨a.p, 24 + gen, none⟩ = some (.pointer (some ⟨a.x gen, 0, none⟩)) := h11.cx (by rw [f_c]; exact ho.cl) hg2
    obtain ⟨mk, hmk⟩ : ∃ mk, (r.touched x.flow now).mark x.flow = mk := ⟨_, rfl⟩
    have hbl11 : BlueW w11 (a.x gen) (a.y gen) (blueK r.c) ((r.touched x.flow now).blue gen) := by have := h11.bl hg2; rw [f_c] at this; exact this
    have hr : 0 ≤ d1.tmod 65536 ∧ d1.tmod 65536 < 65536 := by
      rw [Int.tmod_eq_emod_of_nonneg hd1.1]
      exact ⟨Int.emod_nonneg _ (by decide), Int.emod_lt_of_pos _ (by decide)⟩
    have e2 : IntKind.u64.wrap (d1.tmod 65536) = d1.tmod 65536 := wu64 (by omega) (by omega)
    have e3 : IntKind.i64.wrap (d1.tmod 65536) = d1.tmod 65536 := w64 (by omega) (by omega)
    rw [hmk] at hfree
    simp -implicitDefEqProofs (maxSteps := 1000000) only [↓zvN, zvU, ↓zvE, zvM, init, one, Value.cells, simprocAttr, tyF]
    refine draw_seen 12 [[], [0], [0, 1], [0, 1, 2], [], [], [4], [4, 6], [4, 5, 6, 7], [4, 5, 6, 7, 8], [], [4, 5, 6, 7, 8, 9, 10], [0, 1, 2, 3, 4, 5, 6, 7, 8, 9, 10, 11]] (RV.look [(11, IsV (.int .i64 mk))]) mixed (by kernel_rfl) (by kernel_rfl) (look_keeps _ (by
      intro y hy
      simp only [List.mem_cons, List.not_mem_nil, or_false] at hy
      rcases hy with rfl
      exact keepsV _)) ?_
    simp -implicitDefEqProofs (maxSteps := 1000000) only [↓zvN, zvU, ↓zqD, ↓zvE, zvM, init, one, Value.cells, simprocAttr, tyF, (hd0c y11).2, e2, e3, hcx11, g0, g1, lp11, ly11, Int.toNat_natCast]
    refine ⟨fun w12 hm12 => ?_, ?_⟩
    · refine call_ok Tryz.call145 (blue_mark w12 (a.x gen) (a.y gen) (blueK r.c) _ (hbl11.more hm12) A c (r.bins gen x.flow) (hA11.more hm12) hbk) ?_
      rintro _ w13 ⟨rfl, hm13⟩
      rw [← hmark, hmk]
      simp -implicitDefEqProofs (maxSteps := 1000000) only [↓zvN, zvU, ↓zqD, ↓zvE, zvM, init, one, Value.cells, simprocAttr, tyF]
      exact ⟨hm13, rfl⟩
    rintro _ ⟨w12, hm12, rfl⟩
    simp -implicitDefEqProofs (maxSteps := 1000000) only [↓zvN, zvU, ↓zqD, ↓zvE, zvM, init, one, Value.cells, simprocAttr, tyF, (hd0c y11).2, e2, e3, hcx11, g0, g1, lp11, ly11, Int.toNat_natCast]
    intro w13 hm13 _
    have h13 := h11.more hm13
    have p13 := p11.more hm13
    have v13 := v11.more hm13
    have m13 : Mod (fun k => own f k ∨ k = vp) w w13 := (((Mod.of_more hm06).trans (Mod.of_more hm10)).trans (m11.mono fun k _ hk => .inl hk)).trans (Mod.of_more hm13)
    refine ⟨fun hlt => ?_, fun hlt => ?_⟩
    · rw [if_pos hlt] at hfree
      rw [hfree]
      try simp -implicitDefEqProofs (maxSteps := 1000000) only [↓zvN, zvU, ↓zvE, zvM, init, one, Value.cells, simprocAttr, tyF, p_nil]
      exact ⟨rfl, h13, v13, m13⟩
    · rw [if_neg (by omega)] at hfree
      rw [hfree]
      try simp -implicitDefEqProofs (maxSteps := 1000000) only [↓zvN, zvU, ↓zvE, zvM, init, one, Value.cells, simprocAttr, tyF, p_nil]
      refine st_cell (i := 2) (v := .int .i64 class_) v13 (by simp [verC]) rfl fun w14 i14 k14 => ?_
      rw [s2_undef]
      have h14 := h13.keep (S := fun k => k = vp) (Mod.of_wr i14 rfl) (fun k hk => by subst hk; exact Classical.byContradiction hvf)
      have p14 := i14.blk p13 (by omega)
      simp -implicitDefEqProofs (maxSteps := 1000000) only [↓zvN, zvU, ↓zvE, zvM, init, one, Value.cells, simprocAttr, tyF, p14.all_eq 46 (pack_len hx.1 hx.2.1)]
      refine call_ok Tryz.call141 (police_join w14 a f _ h14 hi11.ok class_ x hx (by rw [f_cls]; exact hcl) (by
        rcases hin with h | ⟨h1, h2⟩
        · exact .inl (by rw [f_pen]; exact h)
        · exact .inr ⟨by rw [f_pen]; exact h1, by unfold PolR.B at h2 ⊢; rw [f_g, f_c]; exact h2⟩) (hi11.at_q (by rw [f_cls]; exact hcl)).1 (hi11.at_q (by rw [f_cls]; exact hcl)).2 (by rw [f_tl]; exact ht)) ?_
      rintro _ w15 ⟨rfl, h15, m15⟩
      simp -implicitDefEqProofs (maxSteps := 1000000) only [↓zvN, zvU, ↓zvE, zvM, init, one, Value.cells, simprocAttr, tyF]
      exact ⟨rfl, h15, m15.blk k14 hvf, (m13.trans (Mod.of_wr i14 (.inr rfl))).trans (m15.mono fun k _ hk => .inl hk)⟩
structure Frm (w : World) (f : Nat → Nat) (w' : World) (f' : Nat → Nat) : Prop where
  mod : Mod (own f) w w'
  tag : ∀ k, k < w.heap.size → f' k = f k
theorem Frm.of_mod {w w' : World} {f : Nat → Nat} (h : Mod (own f) w w') : Frm w f w' f := ⟨h, fun _ _ => rfl⟩
theorem Frm.trans {w w' w'' : World} {f f' f'' : Nat → Nat} (h : Frm w f w' f') (k : Frm w' f' w'' f'') : Frm w f w'' f'' :=
  ⟨h.mod.next k.mod fun j hj hs => by
    have := h.tag j hj
    show f j ≠ 0
    rw [← this]
    exact hs, fun j hj => by
    rw [k.tag j (Nat.lt_of_lt_of_le hj h.mod.size), h.tag j hj]⟩
theorem Frm.next {w w' w'' : World} {f f' : Nat → Nat} {S : Nat → Prop} (h : Frm w f w' f') (m : Mod S w' w'') (hS : ∀ k, k < w.heap.size → S k → own f' k) : Frm w f w'' f' :=
  ⟨h.mod.next m fun k hk hs => by
    have := hS k hk hs
    unfold own at this ⊢
    rw [h.tag k hk] at this
    exact this, h.tag⟩
theorem Frm.free {w w' : World} {f f' : Nat → Nat} (h : Frm w f w' f') {k : Nat} (hk : k < w.heap.size) (hf : ¬ own f k) : ¬ own f' k := by
  unfold own at *
  rw [h.tag k hk]
  exact hf
theorem Frm.blk {w w' : World} {f f' : Nat → Nat} (h : Frm w f w' f') {k e : Nat} {cs : List Value} (hb : Blk w k e cs) (hf : ¬ own f k) : Blk w' k e cs := h.mod.blk hb hf
def PolR.put (r : PolR) (p : PrefM) (now : Int) (q : Nat) : PolR := { r with L := putB now r.L r.room p (newE now (r.c.getD 17 0) (r.c.getD 18 0) (r.c.getD 19 0) q) }
theorem mem_putE {now : Int} {L : BoxL} {room : Nat} {p : PrefM} {v : BoxE} {e : PrefM × BoxE} (h : e ∈ putB now L room p v) : e ∈ L ∨ e.2 = v := by
  unfold putB at h
  split at h
  · exact .inl (List.mem_filter.1 h).1
  · split at h
    · obtain ⟨a, u⟩ := e
      rcases mem_putL.1 h with ⟨_, h3⟩ | ⟨_, h3⟩
      · exact .inr h3
      · exact .inl (List.mem_filter.1 h3).1
    · exact .inl (List.mem_filter.1 h).1
open Classical in
theorem police_put (w : World) (a : PolA) (f : Nat → Nat) (r : PolR) (h : PolMem w a f r) (p : PrefM) (hp : p.addr.length = 7) (now : Int) (hnow : now ≤ 9223372036854775807) :
    Ret Tryz.prog 56 #[.pointer (some ⟨a.bx, 0, none⟩), .agg p.cells.toArray, .int .i64 now] w fun v w' => v = .int .i64 (putCode now r.L r.room p) ∧ ∃ q f', PolMem w' a f' (r.put p now q) ∧ Frm w f w' f' := by
  refine Calls.mono (box_put w a.bx a.bb a.bt r.room _ _ _ r.L p now hp h.bx hnow) ?_
  rintro e w' ⟨v, rfl, q, hq, rfl, hB, hm⟩
  have t := h.tag
  have hS : ∀ k, duoT a.bb a.bt k → f k = 9 := fun k hk => t.bx k (.inr hk)
  have hno : ∀ k j, f k = j → j ≠ 9 → ¬ duoT a.bb a.bt k := fun k j hk hj hs => hj (by rw [← hk]; exact hS k hs)
  obtain ⟨L', hL'⟩ : ∃ L', putB now r.L r.room p (newE now (r.c.getD 17 0) (r.c.getD 18 0) (r.c.getD 19 0) q) = L' := ⟨_, rfl⟩
  have hmem : ∀ e ∈ L', e ∈ r.L ∨ e.2.q = q := fun e he => by
    rw [← hL'] at he
    rcases mem_putE he with h1 | h1
    · exact .inl h1
    · rw [h1]; exact .inr rfl
  rw [hL'] at hB
  refine ⟨_, rfl, rfl, q, fun k => if k = q ∧ ∃ e ∈ L', e.2.q = q then 9 else f k, ?_, hm.mono fun k _ hk => by show f k ≠ 0; rw [hS k hk]; decide, fun k hk => if_neg (fun e => by omega)⟩
  have hf : ∀ k, f k ≠ 0 → (if k = q ∧ ∃ e ∈ L', e.2.q = q then 9 else f k) = f k := fun k hk => if_neg (fun e => by have := h.lim k hk; omega)
  have hf' : ∀ k j, f k = j + 1 → (if k = q ∧ ∃ e ∈ L', e.2.q = q then 9 else f k) = j + 1 := fun k j hk => by rw [hf k (by omega), hk]
  unfold PolR.put
  rw [hL']
  refine ⟨hm.blk h.pol (hno _ 1 t.p (by decide)), hm.blk h.gens (hno _ 2 t.g (by decide)), h.st.mod hm (hno _ 3 (t.st _ (.inl rfl)) (by decide)) (hno _ 3 (t.st _ (.inr (.inl rfl))) (by decide)) (fun k hk => hno _ 3 (t.st _ (.inr (.inr hk))) (by decide)),
    h.qu.mod hm (hno _ 4 (t.qu _ (.inl rfl)) (by decide)) (hno _ 4 (t.qu _ (.inr rfl)) (by decide)), h.tu.mod hm (fun k hk => hno _ 5 (t.tu _ hk) (by decide)), h.b0.mod hm (hno _ 6 (t.b0 _ (.inl rfl)) (by decide)) (hno _ 6 (t.b0 _ (.inr rfl)) (by decide)), h.b1.mod hm (hno _ 7 (t.b1 _ (.inl rfl)) (by decide)) (hno _ 7 (t.b1 _ (.inr rfl)) (by decide)),
    h.wi.mod hm (hno _ 8 (t.wi _ (.inl rfl)) (by decide)) (hno _ 8 (t.wi _ (.inr (.inl rfl))) (by decide)) (hno _ 8 (t.wi _ (.inr (.inr rfl))) (by decide)), hB, ⟨hf' _ _ t.p, hf' _ _ t.g, fun k hk => hf' _ _ (t.st k hk), fun k hk => hf' _ _ (t.qu k hk), fun k hk => hf' _ _ (t.tu k hk), fun k hk => hf' _ _ (t.b0 k hk), fun k hk => hf' _ _ (t.b1 k hk), fun k hk => hf' _ _ (t.wi k hk), fun k hk => hf' _ _ (t.bx k hk), fun e he => ?_⟩, fun k hk => ?_⟩
  · rcases hmem e he with h1 | h1
    · exact hf' _ 8 (t.tk e h1)
    · exact if_pos ⟨h1, e, he, h1⟩
  · by_cases hc : k = q ∧ ∃ e ∈ L', e.2.q = q
    · obtain ⟨rfl, e, he, hqe⟩ := hc
      have := (hB.own.tok e he).1.lt
      rw [hqe] at this
      exact this
    · rw [if_neg hc] at hk
      exact Nat.lt_of_lt_of_le (h.lim k hk) hm.size
noncomputable def PolR.win (r : PolR) (x : PackM) (now : Int) : PolR := { r with wn := (winAt now (r.c.getD 15 0) r.wn r.sl r.tot).1, sl := addS r.cap (winAt now (r.c.getD 15 0) r.wn r.sl r.tot).2.1 x.pref x.len, tot := addM (winAt now (r.c.getD 15 0) r.wn r.sl r.tot).2.2 (countM x.len) }
noncomputable def PolR.heavy (r : PolR) (x : PackM) (now : Int) : Bool := heavyM r.cap (r.c.getD 16 0) (winAt now (r.c.getD 15 0) r.wn r.sl r.tot).2.1 x.pref x.len
structure AskO where
  r : PolR
  boxed : Bool
  full : Bool
noncomputable def PolR.ask (r : PolR) (x : PackM) (now : Int) (heavy : Bool) (q : Nat) : AskO :=
  if heavy = true then (if inB now r.L x.pref = true then ⟨r.sweep now, false, false⟩ else ⟨(r.sweep now).put x.pref now q, decide (putCode now (r.sweep now).L r.room x.pref = 0), !decide (putCode now (r.sweep now).L r.room x.pref = 0)⟩) else ⟨r, false, false⟩
structure ArrO where
  r : PolR
  no : Int
  cl : Int
  vic : Int
  boxed : Bool
  full : Bool
noncomputable def PolR.road (r : PolR) (x : PackM) (now d0 d1 : Int) : FreeO := if inB now r.L x.pref = true then ⟨(r.sweep now).boxed x now, (r.sweep now).boxedNo x now, r.pen, -1⟩ else (r.sweep now).free x now d0 d1
def PolR.next (r : PolR) : PolR := { r with n := r.n + 1 }
def PolR.named (r : PolR) (x : PackM) : PackM := { x with seq := r.n }
noncomputable def PolR.asked (r : PolR) (x : PackM) (now : Int) (q : Nat) : AskO := (r.next.win x now).ask x now (r.next.heavy x now) q
noncomputable def PolR.arrive (r : PolR) (x : PackM) (now d0 d1 : Int) (q : Nat) : ArrO :=
  ⟨((r.asked x now q).r.road (r.named x) now d0 d1).r, ((r.asked x now q).r.road (r.named x) now d0 d1).no, if ((r.asked x now q).r.road (r.named x) now d0 d1).no = 0 then ((r.asked x now q).r.road (r.named x) now d0 d1).cl else -1, ((r.asked x now q).r.road (r.named x) now d0 d1).vic, (r.asked x now q).boxed, (r.asked x now q).full⟩
theorem PolI.of {r r' : PolR} (h : PolI r) (h1 : r'.c = r.c) (h2 : r'.g = r.g) (h3 : r'.cls = r.cls) (h4 : r'.m = r.m) (h5 : r'.qs = r.qs) (h6 : r'.tl = r.tl) (h7 : r'.b0 = r.b0) (h8 : r'.b1 = r.b1) (h9 : r.n ≤ r'.n) : PolI r' := by
  have hp : r'.pen = r.pen := by unfold PolR.pen PolR.B; rw [h1]
  refine ⟨⟨by rw [h1]; exact h.ok.cl, by rw [h1]; exact h.ok.rt, by rw [h2]; exact h.ok.gok, by rw [h1, h2]; exact h.ok.gb, by rw [h7]; exact h.ok.k0, by rw [h8]; exact h.ok.k1⟩, by rw [h5, h3]; exact h.qs, by rw [h3, hp]; exact h.lc, by rw [h6, h3]; exact h.lt, by rw [h6, h3]; exact h.aw, by rw [h3]; exact h.fit, by rw [h3, h4]; exact h.cnt, by rw [h4]; exact h.m, by rw [hp, h3, h2]; exact h.place, by rw [h3]; exact h.nd, fun s hs => ?_⟩
  rw [h3] at hs
  have := h.lo s hs
  omega
theorem PolI.ask {r : PolR} (h : PolI r) (x : PackM) (now : Int) (hv : Bool) (q : Nat) : PolI (r.ask x now hv q).r := by
  unfold PolR.ask
  split
  · split
    · exact h.of rfl rfl rfl rfl rfl rfl rfl rfl (Int.le_refl _)
    · exact h.of rfl rfl rfl rfl rfl rfl rfl rfl (Int.le_refl _)
  · exact h
theorem ask_f (r : PolR) (x : PackM) (now : Int) (hv : Bool) (q : Nat) : (r.ask x now hv q).r.c = r.c ∧ (r.ask x now hv q).r.g = r.g ∧ (r.ask x now hv q).r.cls = r.cls ∧ (r.ask x now hv q).r.n = r.n ∧ (r.ask x now hv q).r.m = r.m := by
  unfold PolR.ask
  split
  · split <;> exact ⟨rfl, rfl, rfl, rfl, rfl⟩
  · exact ⟨rfl, rfl, rfl, rfl, rfl⟩
theorem asked_f (r : PolR) (x : PackM) (now : Int) (q : Nat) : (r.asked x now q).r.c = r.c ∧ (r.asked x now q).r.g = r.g ∧ (r.asked x now q).r.cls = r.cls ∧ (r.asked x now q).r.n = r.n + 1 ∧ (r.asked x now q).r.m = r.m := ask_f _ _ _ _ _
theorem PolI.asked {r : PolR} (h : PolI r) (x : PackM) (now : Int) (q : Nat) : PolI (r.asked x now q).r := by
  have h1 : PolI (r.next.win x now) := h.of rfl rfl rfl rfl rfl rfl rfl rfl (by show r.n ≤ r.n + 1; omega)
  exact h1.ask x now _ q
theorem PolI.boxed {r : PolR} (h : PolI r) {x : PackM} (hx : x.Ok) (now : Int) (hs : x.seq ∉ seqsM r.cls) (hn : 0 ≤ x.seq ∧ x.seq < r.n) : PolI (r.boxed x now) := by
  have h1 : PolI (r.takeT x now) := h.of rfl rfl rfl rfl rfl rfl rfl rfl (Int.le_refl _)
  unfold PolR.boxed
  split
  · obtain ⟨cl, hcl⟩ := h1.at_c (c := r.pen) (Nat.le_refl _)
    exact h1.join hcl hx (fun e => absurd e (Nat.lt_irrefl _)) hs hn
  · exact h1
theorem PolI.free {r : PolR} (h : PolI r) {x : PackM} (hx : x.Ok) (now d0 d1 : Int) (hk : (blueK r.c).Ok) (hs : x.seq ∉ seqsM r.cls) (hn : 0 ≤ x.seq ∧ x.seq < r.n) : PolI (r.free x now d0 d1).r := by
  obtain ⟨hwh, hcl1, hcl2, hlive, hg2⟩ := gen_cla h.ok x.flow
  obtain ⟨cl, hcl⟩ := h.at_c (c := r.cla x.flow) (by omega)
  have hcg : r.cls.getD (r.cla x.flow) [] = cl := by rw [List.getD_eq_getElem?_getD, hcl]; rfl
  have ht : PolI (r.touched x.flow now) := h.bump _ _ (fun y hy => touch_ok hk hy now)
  have tc : (r.touched x.flow now).cls = r.cls := by unfold PolR.touched; simp
  unfold PolR.free
  split
  · rename_i k hm
    unfold PolR.met at hm
    rw [hcg] at hm ⊢
    split at hm
    · obtain ⟨pk, hpk⟩ := match_at hm
      have : cl.getD k packZ = pk := by rw [List.getD_eq_getElem?_getD, hpk]; rfl
      rw [this]
      exact h.leave hcl hpk
    · cases hm
  · split
    · exact ht
    · refine ht.join (by rw [tc]; exact hcl) hx (fun _ => ?_) (by rw [tc]; exact hs) ?_
      · have : (r.touched x.flow now).g = r.g := by unfold PolR.touched; simp
        rw [this, hwh]
      · have : (r.touched x.flow now).n = r.n := by unfold PolR.touched; simp
        rw [this]
        exact hn
theorem PolI.arrive {r : PolR} (h : PolI r) {x : PackM} (hx : x.Ok) (now d0 d1 : Int) (q : Nat) (hk : (blueK r.c).Ok) (hn : 0 ≤ r.n) : PolI (r.arrive x now d0 d1 q).r := by
  have h1 := h.asked x now q
  obtain ⟨f1, f2, f3, f4, f5⟩ := asked_f r x now q
  have hx' : (r.named x).Ok := hx
  have hs : (r.named x).seq ∉ seqsM (r.asked x now q).r.cls := by
    rw [f3]
    intro hh
    have := h.lo _ hh
    have e : (r.named x).seq = r.n := rfl
    omega
  have hnn : 0 ≤ (r.named x).seq ∧ (r.named x).seq < (r.asked x now q).r.n := by rw [f4]; exact ⟨hn, by show r.n < r.n + 1; omega⟩
  have h2 : PolI ((r.asked x now q).r.sweep now) := h1.of rfl rfl rfl rfl rfl rfl rfl rfl (Int.le_refl _)
  show PolI ((r.asked x now q).r.road (r.named x) now d0 d1).r
  unfold PolR.road
  split
  · exact h2.boxed hx' now hs hnn
  · exact h2.free hx' now d0 d1 (by show (blueK (r.asked x now q).r.c).Ok; rw [f1]; exact hk) hs hnn
end Go.Proofs.YtofhbonnojooeaaGreat

