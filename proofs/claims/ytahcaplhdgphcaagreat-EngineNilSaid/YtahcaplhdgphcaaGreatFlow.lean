/-
  Flows, prefixes and packets: the models, and how they lie in memory.
-/
import Derived.Test.YtahcaplhdgphcaaGreatBut
import Derived.Test.YtahcaplhdgphcaaGreatEq
import Derived.Test.YtahcaplhdgphcaaGreatFi
namespace Go.Proofs.YtahcaplhdgphcaaGreat
open Go Go.RowKit Go.Proofs.RV
set_option linter.unusedSimpArgs false
set_option linter.unusedVariables false
set_option maxRecDepth 10000
set_option maxHeartbeats 4000000

structure FlowM where
  v6 : Bool
  proto : Int
  src : List UInt8
  dst : List UInt8
  sp : Int
  dp : Int
structure FlowM.Fit (f : FlowM) : Prop where
  p0 : 0 ≤ f.proto
  p1 : f.proto < 256
  src : f.src.length = 16
  dst : f.dst.length = 16
  s0 : 0 ≤ f.sp
  s1 : f.sp < 65536
  d0 : 0 ≤ f.dp
  d1 : f.dp < 65536
def FlowM.cells (f : FlowM) : List Value := .bool f.v6 :: .int .u8 f.proto :: (f.src.map byteV ++ (f.dst.map byteV ++ [.int .u16 f.sp, .int .u16 f.dp]))
structure PrefM where
  v6 : Bool
  addr : List UInt8
def PrefM.cells (p : PrefM) : List Value := .bool p.v6 :: p.addr.map byteV
structure PackM where
  seq : Int
  flow : FlowM
  pref : PrefM
  len : Int
def PackM.cells (p : PackM) : List Value := .int .i64 p.seq :: (p.flow.cells ++ (p.pref.cells ++ [.int .i64 p.len]))
theorem FlowM.ext' {a b : FlowM} (h : a.v6 = b.v6 ∧ a.proto = b.proto ∧ a.src = b.src ∧ a.dst = b.dst ∧ a.sp = b.sp ∧ a.dp = b.dp) : a = b := by
  cases a; cases b; simp_all
theorem byteV_inj : ∀ {a b : List UInt8}, a.map byteV = b.map byteV → a = b
  | [], [], _ => rfl
  | [], _ :: _, h => by simp at h
  | _ :: _, [], h => by simp at h
  | x :: a, y :: b, h => by
    simp only [List.map_cons, List.cons.injEq] at h
    have hx : x = y := by
      have := h.1
      unfold byteV at this
      injection this with _ this
      exact UInt8.toNat_inj.1 (by omega)
    rw [hx, byteV_inj h.2]
theorem FlowM.cells_len {f : FlowM} (h : f.Fit) : f.cells.length = 36 := by simp [FlowM.cells, h.src, h.dst]
theorem FlowM.cells_inj {a b : FlowM} (ha : a.Fit) (hb : b.Fit) : a.cells = b.cells ↔ a = b := by
  refine ⟨fun h => ?_, fun h => by rw [h]⟩
  unfold FlowM.cells at h
  simp only [List.cons.injEq, Value.bool.injEq, Value.int.injEq, true_and] at h
  obtain ⟨h1, h2, h3⟩ := h
  obtain ⟨h4, h5⟩ := List.append_inj h3 (by simp [ha.src, hb.src])
  obtain ⟨h6, h7⟩ := List.append_inj h5 (by simp [ha.dst, hb.dst])
  simp only [List.cons.injEq, Value.int.injEq, true_and, and_true] at h7
  exact FlowM.ext' ⟨h1, h2, byteV_inj h4, byteV_inj h6, h7.1, h7.2⟩
theorem PrefM.cells_inj {a b : PrefM} : a.cells = b.cells ↔ a = b := by
  refine ⟨fun h => ?_, fun h => by rw [h]⟩
  unfold PrefM.cells at h
  simp only [List.cons.injEq, Value.bool.injEq] at h
  cases a; cases b
  simp only [PrefM.mk.injEq]
  exact ⟨h.1, byteV_inj h.2⟩
theorem PackM.cells_inj {a b : PackM} (ha : a.flow.Fit) (hb : b.flow.Fit) (hpa : a.pref.addr.length = 7) (hpb : b.pref.addr.length = 7) : a.cells = b.cells ↔ a = b := by
  refine ⟨fun h => ?_, fun h => by rw [h]⟩
  unfold PackM.cells at h
  simp only [List.cons.injEq, Value.int.injEq, true_and] at h
  obtain ⟨h1, h2⟩ := h
  obtain ⟨h3, h4⟩ := List.append_inj h2 (by rw [FlowM.cells_len ha, FlowM.cells_len hb])
  obtain ⟨h5, h6⟩ := List.append_inj h4 (by simp [PrefM.cells, hpa, hpb])
  simp only [List.cons.injEq, Value.int.injEq, true_and, and_true] at h6
  cases a; cases b
  simp only [PackM.mk.injEq]
  exact ⟨h1, (FlowM.cells_inj ha hb).1 h3, PrefM.cells_inj.1 h5, h6⟩
theorem FlowM.c0 (f : FlowM) : f.cells[0]? = some (.bool f.v6) := rfl
theorem FlowM.c1 (f : FlowM) : f.cells[1]? = some (.int .u8 f.proto) := rfl
theorem FlowM.cSrc {f : FlowM} (h : f.Fit) : (f.cells.drop 2).take 16 = f.src.map byteV := by
  simp [FlowM.cells, List.take_append, h.src]
theorem FlowM.cDst {f : FlowM} (h : f.Fit) : (f.cells.drop 18).take 16 = f.dst.map byteV := by
  simp [FlowM.cells, List.drop_append, List.take_append, h.src, h.dst]
theorem FlowM.cS {f : FlowM} (h : f.Fit) : f.cells[34]? = some (.int .u16 f.sp) := by
  simp [FlowM.cells, List.getElem?_append, h.src, h.dst]
theorem FlowM.cD {f : FlowM} (h : f.Fit) : f.cells[35]? = some (.int .u16 f.dp) := by
  simp [FlowM.cells, List.getElem?_append, h.src, h.dst]
theorem FlowM.srcAt {f : FlowM} (h : f.Fit) {k : Nat} (hk : k < 16) : f.cells[2 + k]? = some (.int .u8 (bt f.src k)) := by
  have := congrArg (fun l => l[k]?) (FlowM.cSrc h)
  simp only [List.getElem?_take_of_lt hk, List.getElem?_drop] at this
  rw [this, byteV_bt (by rw [h.src]; exact hk)]
theorem FlowM.dstAt {f : FlowM} (h : f.Fit) {k : Nat} (hk : k < 16) : f.cells[18 + k]? = some (.int .u8 (bt f.dst k)) := by
  have := congrArg (fun l => l[k]?) (FlowM.cDst h)
  simp only [List.getElem?_take_of_lt hk, List.getElem?_drop] at this
  rw [this, byteV_bt (by rw [h.dst]; exact hk)]
theorem FlowM.one (f : FlowM) : ∀ u ∈ f.cells, u.oneCell' = true := by
  intro u hu
  simp only [FlowM.cells, List.mem_cons, List.mem_append, List.not_mem_nil, or_false] at hu
  rcases hu with rfl | rfl | hu | hu | rfl | rfl
  · rfl
  · rfl
  · exact byteV_one _ u hu
  · exact byteV_one _ u hu
  · rfl
  · rfl
theorem PrefM.one (p : PrefM) : ∀ u ∈ p.cells, u.oneCell' = true := by
  intro u hu
  simp only [PrefM.cells, List.mem_cons] at hu
  rcases hu with rfl | hu
  · rfl
  · exact byteV_one _ u hu
theorem PackM.one (p : PackM) : ∀ u ∈ p.cells, u.oneCell' = true := by
  intro u hu
  simp only [PackM.cells, List.mem_cons, List.mem_append, List.not_mem_nil, or_false] at hu
  rcases hu with rfl | hu | hu | rfl
  · rfl
  · exact FlowM.one _ u hu
  · exact PrefM.one _ u hu
  · rfl
theorem blk_bs {w : World} {b e i : Nat} {cs : List Value} {x : List UInt8} (h : Blk w b e cs) (hx : (cs.drop i).take x.length = x.map byteV) : Bs w (some ⟨b, i, none⟩) x := by
  intro j v hj
  refine ⟨_, rfl, ?_⟩
  rw [add_mk, h.cell]
  rw [← hx, List.getElem?_take] at hj
  split at hj
  · rw [List.getElem?_drop] at hj
    exact hj
  · cases hj
def flowZ : FlowM := ⟨false, 0, noBytes 16, noBytes 16, 0, 0⟩
def prefZ : PrefM := ⟨false, noBytes 7⟩
def packZ : PackM := ⟨0, flowZ, prefZ, 0⟩
theorem zerFlow : zer Tryz.prog 81 = some (.agg flowZ.cells.toArray) := by rw [zer81]; rfl
theorem zerPref : zer Tryz.prog 45 = some (.agg prefZ.cells.toArray) := by rw [zer45]; rfl
theorem zerPack : zer Tryz.prog 83 = some (.agg packZ.cells.toArray) := by rw [zer83]; rfl
theorem flowZ_fit : flowZ.Fit := ⟨by decide, by decide, rfl, rfl, by decide, by decide, by decide, by decide⟩
theorem flow_flat {f : FlowM} (h : f.Fit) (n : Nat) : Flat Tryz.prog (n + 4) 81 f.cells :=
  flat_struct Tryz.underlying81 (by kernel_rfl)
    ⟨by decide, rfl, [.bool f.v6], _, rfl, cells4.symm, flat_bool Tryz.underlying4 _,
     by decide, rfl, [.int .u8 f.proto], _, rfl, cells5.symm, flat_int Tryz.underlying5 _,
     by decide, rfl, f.src.map byteV, _, rfl, by rw [List.length_map, h.src, cells31], flat_bytes Tryz.underlying31 Tryz.underlying5 cells5 h.src,
     by decide, by rw [List.length_map, h.src]; rfl, f.dst.map byteV, _, rfl, by rw [List.length_map, h.dst, cells31], flat_bytes Tryz.underlying31 Tryz.underlying5 cells5 h.dst,
     by decide, by rw [List.length_map, List.length_map, h.src, h.dst]; rfl, [.int .u16 f.sp], _, rfl, cells79.symm, flat_int Tryz.underlying79 _,
     by decide, by rw [List.length_map, List.length_map, h.src, h.dst]; rfl, [.int .u16 f.dp], [], rfl, cells79.symm, flat_int Tryz.underlying79 _, rfl⟩
theorem pref_flat {p : PrefM} (h : p.addr.length = 7) (n : Nat) : Flat Tryz.prog (n + 4) 45 p.cells :=
  flat_struct Tryz.underlying45 (by kernel_rfl)
    ⟨by decide, rfl, [.bool p.v6], _, rfl, cells4.symm, flat_bool Tryz.underlying4 _,
     by decide, rfl, p.addr.map byteV, [], by rw [List.append_nil], by rw [List.length_map, h, cells43], flat_bytes Tryz.underlying43 Tryz.underlying5 cells5 h, rfl⟩
theorem pack_flat {p : PackM} (h : p.flow.Fit) (hp : p.pref.addr.length = 7) : Flat Tryz.prog 5 83 p.cells :=
  flat_struct Tryz.underlying83 (by kernel_rfl)
    ⟨by decide, rfl, [.int .i64 p.seq], _, rfl, cells2.symm, flat_int Tryz.underlying2 _,
     by decide, rfl, p.flow.cells, _, rfl, by rw [FlowM.cells_len h, cells81], flow_flat h 0,
     by decide, by rw [FlowM.cells_len h]; rfl, p.pref.cells, _, rfl, by simp [PrefM.cells, hp, cells45], pref_flat hp 0,
     by decide, by rw [FlowM.cells_len h]; simp [PrefM.cells, hp], [.int .i64 p.len], [], rfl, cells3.symm, flat_int Tryz.underlying3 _, rfl⟩
theorem flow_g : Tryz.prog.eqGuardType Tryz.prog.depth 81 = false := by kernel_rfl
theorem pref_g : Tryz.prog.eqGuardType Tryz.prog.depth 45 = false := by kernel_rfl
theorem pack_g : Tryz.prog.eqGuardType Tryz.prog.depth 83 = false := by kernel_rfl
theorem flow_tv (cs : List Value) : tv Tryz.prog 81 cs = .agg cs.toArray := by unfold tv; rw [Tryz.underlying81]
theorem pref_tv (cs : List Value) : tv Tryz.prog 45 cs = .agg cs.toArray := by unfold tv; rw [Tryz.underlying45]
theorem pack_tv (cs : List Value) : tv Tryz.prog 83 cs = .agg cs.toArray := by unfold tv; rw [Tryz.underlying83]
open Classical in
theorem flow_eq {a b : FlowM} (ha : a.Fit) (hb : b.Fit) (w0 : World) (ox oy : Operand) (K : Value → Prop) :
    pureP Tryz.prog (do eqGuard .eql 81 ox oy (.agg a.cells.toArray) (.agg b.cells.toArray); binOp .eql 81 (.agg a.cells.toArray) (.agg b.cells.toArray)) K = K (.bool (decide (a = b))) := by
  rw [eql_flat (n := 4) flow_g ⟨flow_tv _, flow_tv _⟩ (flow_flat ha 0) (flow_flat hb 0) (by omega) w0 ox oy K]
  simp only [FlowM.cells_inj ha hb]
open Classical in
theorem pref_eq {a b : PrefM} (ha : a.addr.length = 7) (hb : b.addr.length = 7) (w0 : World) (ox oy : Operand) (K : Value → Prop) :
    pureP Tryz.prog (do eqGuard .eql 45 ox oy (.agg a.cells.toArray) (.agg b.cells.toArray); binOp .eql 45 (.agg a.cells.toArray) (.agg b.cells.toArray)) K = K (.bool (decide (a = b))) := by
  rw [eql_flat (n := 4) pref_g ⟨pref_tv _, pref_tv _⟩ (pref_flat ha 0) (pref_flat hb 0) (by omega) w0 ox oy K]
  simp only [PrefM.cells_inj]
open Classical in
theorem pack_eq {a b : PackM} (ha : a.flow.Fit) (hb : b.flow.Fit) (hpa : a.pref.addr.length = 7) (hpb : b.pref.addr.length = 7) (w0 : World) (ox oy : Operand) (K : Value → Prop) :
    pureP Tryz.prog (do eqGuard .eql 83 ox oy (.agg a.cells.toArray) (.agg b.cells.toArray); binOp .eql 83 (.agg a.cells.toArray) (.agg b.cells.toArray)) K = K (.bool (decide (a = b))) := by
  rw [eql_flat (n := 5) pack_g ⟨pack_tv _, pack_tv _⟩ (pack_flat ha hpa) (pack_flat hb hpb) (by omega) w0 ox oy K]
  simp only [PackM.cells_inj ha hb hpa hpb]
end Go.Proofs.YtahcaplhdgphcaaGreat
