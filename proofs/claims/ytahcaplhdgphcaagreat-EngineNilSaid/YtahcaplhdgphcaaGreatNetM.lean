/-
  What a packet's head tells: the model, and how it lies in memory.
-/
import Derived.Test.YtahcaplhdgphcaaGreatCopy
namespace Go.Proofs.YtahcaplhdgphcaaGreat
open Go Go.RowKit Go.Proofs.RV
set_option linter.unusedSimpArgs false
set_option linter.unusedVariables false

/-- two bytes as a number -/
def two (l : List UInt8) (i : Nat) : Int := bt l i * 256 + bt l (i + 1)
theorem two_range (l : List UInt8) (i : Nat) : 0 ≤ two l i ∧ two l i < 65536 := by
  have := bt_nonneg l i; have := bt_lt l i; have := bt_nonneg l (i + 1); have := bt_lt l (i + 1)
  unfold two; omega
theorem bt_drop (l : List UInt8) (k i : Nat) : bt (l.drop k) i = bt l (k + i) := by
  simp [bt, List.getD_eq_getElem?_getD, List.getElem?_drop]
/-- what a head tells -/
structure NetM where
  proto : Int
  src : List UInt8
  dst : List UInt8
  body : List UInt8
  first : Bool
def NetM.cells (n : NetM) (A : Option Addr) (c : Nat) : List Value := .int .u8 n.proto :: (n.src.map byteV ++ (n.dst.map byteV ++ [.slice A n.body.length c, .bool n.first]))
def netNone : NetM := ⟨0, noBytes 16, noBytes 16, [], false⟩
def netZ : List Value := netNone.cells none 0
theorem netZ_eq : netZ = [.int .u8 0, .int .u8 0, .int .u8 0, .int .u8 0, .int .u8 0, .int .u8 0, .int .u8 0, .int .u8 0, .int .u8 0, .int .u8 0, .int .u8 0, .int .u8 0, .int .u8 0, .int .u8 0, .int .u8 0, .int .u8 0, .int .u8 0, .int .u8 0, .int .u8 0, .int .u8 0, .int .u8 0, .int .u8 0, .int .u8 0, .int .u8 0, .int .u8 0, .int .u8 0, .int .u8 0, .int .u8 0, .int .u8 0, .int .u8 0, .int .u8 0, .int .u8 0, .int .u8 0, .slice none 0 0, .bool false] := rfl
theorem zerNet : zer Tryz.prog 127 = some (.agg netZ.toArray) := by rw [zer127, netZ_eq]
theorem netZ_len : netZ.length = 35 := rfl
theorem netFields (f : Field) (h : f ∈ (#[{ name := "Proto", type := 5, offset := 0, embedded := false, tag := "", pkgPath := "", byteOffset := 0 },
        { name := "Src", type := 31, offset := 1, embedded := false, tag := "", pkgPath := "", byteOffset := 1 },
        { name := "Dst", type := 31, offset := 17, embedded := false, tag := "", pkgPath := "", byteOffset := 17 },
        { name := "Body", type := 40, offset := 33, embedded := false, tag := "", pkgPath := "", byteOffset := 40 },
        { name := "First", type := 4, offset := 34, embedded := false, tag := "", pkgPath := "", byteOffset := 64 }] : Array Field)) : Tryz.prog.cellsOf f.type ≠ 0 := by
  simp only [List.mem_toArray, List.mem_cons, List.not_mem_nil, or_false] at h
  rcases h with rfl | rfl | rfl | rfl | rfl <;> simp [cells5, cells31, cells40, cells4]

theorem netZ_one : ∀ u ∈ netZ, u.oneCell' = true := by
  intro u hu
  have : netZ.all (fun u => u.oneCell') = true := by rw [netZ_eq]; rfl
  exact List.all_eq_true.1 this u hu
theorem four {s : List UInt8} (h : s.length = 4) : ∃ a b c d, s = [a, b, c, d] := by
  match s, h with
  | [a, b, c, d], _ => exact ⟨a, b, c, d, rfl⟩
/-- what makes a head's fields fit their types -/
structure NetM.Fit (n : NetM) : Prop where
  p0 : 0 ≤ n.proto
  p1 : n.proto < 256
  src : n.src.length = 16
  dst : n.dst.length = 16
theorem NetM.ext' {n m : NetM} (h : n.proto = m.proto ∧ n.src = m.src ∧ n.dst = m.dst ∧ n.body = m.body ∧ n.first = m.first) : n = m := by
  cases n; cases m; simp_all
def sameNet (n m : NetM) : Bool := decide (n.proto = m.proto) && decide (n.src = m.src) && decide (n.dst = m.dst) && decide (n.body = m.body) && (n.first == m.first)
theorem sameNet_self (n : NetM) : sameNet n n = true := by simp [sameNet]
theorem NetM.cells_len {n : NetM} (h : n.Fit) (A : Option Addr) (c : Nat) : (n.cells A c).length = 35 := by
  simp [NetM.cells, h.src, h.dst]
theorem NetM.c0 (n : NetM) (A : Option Addr) (c : Nat) : (n.cells A c)[0]? = some (.int .u8 n.proto) := rfl
theorem NetM.cSrc {n : NetM} (h : n.Fit) (A : Option Addr) (c : Nat) : ((n.cells A c).drop 1).take 16 = n.src.map byteV := by
  simp [NetM.cells, List.take_append, h.src]
theorem NetM.cDst {n : NetM} (h : n.Fit) (A : Option Addr) (c : Nat) : ((n.cells A c).drop 17).take 16 = n.dst.map byteV := by
  simp [NetM.cells, List.drop_append, List.take_append, h.src, h.dst]
theorem NetM.cBody {n : NetM} (h : n.Fit) (A : Option Addr) (c : Nat) : (n.cells A c)[33]? = some (.slice A n.body.length c) := by
  simp [NetM.cells, List.getElem?_append, h.src, h.dst]
theorem NetM.cFirst {n : NetM} (h : n.Fit) (A : Option Addr) (c : Nat) : (n.cells A c)[34]? = some (.bool n.first) := by
  simp [NetM.cells, List.getElem?_append, h.src, h.dst]
theorem netNone_fit : netNone.Fit := ⟨by decide, by decide, rfl, rfl⟩
theorem NetM.one (n : NetM) (A : Option Addr) (c : Nat) : ∀ u ∈ n.cells A c, u.oneCell' = true := by
  intro u hu
  simp only [NetM.cells, List.mem_cons, List.mem_append, List.not_mem_nil, or_false] at hu
  rcases hu with rfl | hu | hu | rfl | rfl
  · rfl
  · exact byteV_one _ u hu
  · exact byteV_one _ u hu
  · rfl
  · rfl
/-- what is stored in a fresh variable of this type -/
theorem net_var {T : TypeId} {w : World} {n : NetM} {A : Option Addr} {c : Nat} {K : World → Prop} (hn : n.Fit) (hK : ∀ w', More w w' → Blk w' w.heap.size T (n.cells A c) → w'.heap.size = w.heap.size + 1 → K w') :
    stRow 35 (n.cells A c).toArray ⟨w.heap.size, 0, none⟩ (w.alloc (.cells netZ.toArray T)) K := by
  have hm := more_alloc w (.cells netZ.toArray T)
  have hb := Blk.new w T netZ.toArray
  refine st_all hb (by simpa using NetM.cells_len hn A c) rfl (by simpa using NetM.one n A c) fun w' h1 h2 => hK w' (h1.below hm (Nat.le_refl _)) (by simpa using h2) ?_
  rw [h1.size, size_alloc]
theorem NetM.split {n : NetM} (A : Option Addr) (c : Nat) : n.cells A c = ([.int .u8 n.proto] ++ n.src.map byteV ++ n.dst.map byteV) ++ [.slice A n.body.length c, .bool n.first] := by simp [NetM.cells]
theorem NetM.setFirst {n : NetM} (h : n.Fit) (A : Option Addr) (c : Nat) (b : Bool) : (n.cells A c).set 34 (.bool b) = ({ n with first := b } : NetM).cells A c := by
  rw [NetM.split, NetM.split]
  have hl : ([Value.int .u8 n.proto] ++ n.src.map byteV ++ n.dst.map byteV).length = 33 := by simp [h.src, h.dst]
  rw [List.set_append_right _ _ (by omega), hl]
  rfl
theorem NetM.setBody {n : NetM} (h : n.Fit) (A A' : Option Addr) (c c' : Nat) (m : List UInt8) : (n.cells A c).set 33 (.slice A' m.length c') = ({ n with body := m } : NetM).cells A' c' := by
  rw [NetM.split, NetM.split]
  have hl : ([Value.int .u8 n.proto] ++ n.src.map byteV ++ n.dst.map byteV).length = 33 := by simp [h.src, h.dst]
  rw [List.set_append_right _ _ (by omega), hl]
  rfl
theorem NetM.setProto {n : NetM} (A : Option Addr) (c : Nat) (p : Int) : (n.cells A c).set 0 (.int .u8 p) = ({ n with proto := p } : NetM).cells A c := rfl
theorem sp16 (a : Value) (xs ys zs : List Value) (hx : xs.length = ys.length) : splice (a :: (xs ++ zs)) 1 ys = a :: (ys ++ zs) := by
  rw [splice_eq _ _ _ (by simp; omega)]
  rw [← hx, Nat.add_comm 1]
  simp [List.drop_append]
theorem NetM.setSrc {n : NetM} (h : n.Fit) (A : Option Addr) (c : Nat) (s : List UInt8) (hs : s.length = 16) : splice (n.cells A c) 1 (s.map byteV) = ({ n with src := s } : NetM).cells A c := by
  unfold NetM.cells
  exact sp16 _ _ _ _ (by simp [h.src, hs])
theorem NetM.setDst {n : NetM} (h : n.Fit) (A : Option Addr) (c : Nat) (s : List UInt8) (hs : s.length = 16) : splice (n.cells A c) 17 (s.map byteV) = ({ n with dst := s } : NetM).cells A c := by
  unfold NetM.cells
  rw [splice_eq _ _ _ (by simp [h.src, h.dst, hs])]
  simp [h.src, h.dst, hs, List.take_append, List.drop_append]
end Go.Proofs.YtahcaplhdgphcaaGreat
