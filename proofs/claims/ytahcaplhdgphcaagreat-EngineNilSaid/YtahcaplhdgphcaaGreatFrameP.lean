/-
  Layer 12: frame.Parse.
-/
import Derived.Test.YtahcaplhdgphcaaGreatFrame
import Derived.Test.YtahcaplhdgphcaaGreatEtherR
import Derived.Test.YtahcaplhdgphcaaGreatInet6P
import Derived.Test.YtahcaplhdgphcaaGreatInet
import Derived.Test.YtahcaplhdgphcaaGreatNet
import Derived.Test.YtahcaplhdgphcaaGreatPorts
namespace Go.Proofs.YtahcaplhdgphcaaGreat
open Go Go.RowKit Go.Proofs.RV
set_option linter.unusedSimpArgs false
set_option linter.unusedVariables false
set_option maxRecDepth 10000
set_option maxHeartbeats 4000000

def whyIp (v6 : Bool) (l : List UInt8) : Int := if v6 = true then why6 l else why4 l
def parseIp (v6 : Bool) (l : List UInt8) : NetM := if v6 = true then parse6 l else parse4 l
/-- the packet's part of a frame -/
def ipOf (l : List UInt8) : List UInt8 := l.drop (etherM l).2.1.toNat
def netOf (l : List UInt8) : NetM := parseIp (etherM l).1 (ipOf l)
def flowOf (l : List UInt8) : FlowM :=
  ⟨(etherM l).1, (netOf l).proto, (netOf l).src, (netOf l).dst, (portsM (etherM l).1 (netOf l)).1, (portsM (etherM l).1 (netOf l)).2.1⟩
/-- why a frame has no packet -/
def frameWhy (l : List UInt8) : Int :=
  if 9216 < l.length then 7 else
  if (etherM l).2.2 ≠ 0 then (etherM l).2.2 else
  if whyIp (etherM l).1 (ipOf l) ≠ 0 then whyIp (etherM l).1 (ipOf l) else (portsM (etherM l).1 (netOf l)).2.2
def frameM (l : List UInt8) : PackM := if frameWhy l = 0 then ⟨0, flowOf l, prefM (flowOf l), l.length⟩ else packZ
theorem ethGo_at : ∀ (r k : Nat) (l : List UInt8), (ethGo l r k).2.2 = 0 → 0 ≤ (ethGo l r k).2.1 ∧ (ethGo l r k).2.1 ≤ l.length
  | r, k, l, h => by
    unfold ethGo at h ⊢
    split at h
    · simp at h
    rename_i h1
    rw [if_neg h1]
    split at h
    · rename_i h2
      rw [if_pos h2]
      cases r with
      | zero => simp at h
      | succ r => exact ethGo_at r (k + 4) l h
    · rename_i h2
      rw [if_neg h2]
      split at h
      · simp at h
      · rename_i h3
        rw [if_neg h3]
        simp only
        omega
theorem portsM_rng (v6 : Bool) (n : NetM) : 0 ≤ (portsM v6 n).1 ∧ (portsM v6 n).1 < 65536 ∧ 0 ≤ (portsM v6 n).2.1 ∧ (portsM v6 n).2.1 < 65536 := by
  have h0 := two_range n.body 0
  have h2 := two_range n.body 2
  unfold portsM
  split
  · simp
  split
  · split
    · simp
    · exact ⟨h0.1, h0.2, h2.1, h2.2⟩
  split
  · split
    · simp
    · exact ⟨h0.1, h0.2, by simp, by simp⟩
  · simp
theorem n4_fit (l : List UInt8) (h : 20 ≤ l.length) : (net4 l).Fit := by
  refine ⟨bt_nonneg _ _, bt_lt _ _, ?_, ?_⟩
  · simp [net4, noBytes]; omega
  · simp [net4, noBytes]; omega
theorem p4_fit (l : List UInt8) : (parse4 l).Fit := by
  unfold parse4
  split
  · rename_i h
    refine n4_fit l ?_
    rcases Nat.lt_or_ge l.length 20 with h1 | h1
    · unfold why4 at h
      rw [if_pos (by omega)] at h
      cases h
    · exact h1
  · exact netNone_fit
set_option maxRecDepth 10000 in
set_option maxHeartbeats 2000000 in
theorem parseIp_fit (v6 : Bool) (l : List UInt8) : (parseIp v6 l).Fit := by
  unfold parseIp
  split
  · exact parse6_fit l
  · exact p4_fit l
theorem flowOf_fit (l : List UInt8) : (flowOf l).Fit := by
  have h := parseIp_fit (etherM l).1 (ipOf l)
  have hp := portsM_rng (etherM l).1 (netOf l)
  exact ⟨h.p0, h.p1, h.src, h.dst, hp.1, hp.2.1, hp.2.2.1, hp.2.2.2⟩
def FrameR (l : List UInt8) (w : World) (v : Value) (w' : World) : Prop := v = .tuple #[.agg (frameM l).cells.toArray, .int .i64 (frameWhy l)] ∧ More w w'
theorem PackM.cells_len {p : PackM} (h : p.flow.Fit) (hp : p.pref.addr.length = 7) : p.cells.length = 46 := by
  simp [PackM.cells, FlowM.cells_len h, PrefM.cells, hp]
theorem packFields (f : Field) (h : f ∈ (#[{ name := "Seq", type := 2, offset := 0, embedded := false, tag := "", pkgPath := "", byteOffset := 0 }, { name := "Flow", type := 81, offset := 1, embedded := false, tag := "", pkgPath := "", byteOffset := 8 }, { name := "Prefix", type := 45, offset := 37, embedded := false, tag := "", pkgPath := "", byteOffset := 46 }, { name := "Len", type := 3, offset := 45, embedded := false, tag := "", pkgPath := "", byteOffset := 56 }] : Array Field)) : Tryz.prog.cellsOf f.type ≠ 0 := by
  simp only [List.mem_toArray, List.mem_cons, List.not_mem_nil, or_false] at h
  rcases h with rfl | rfl | rfl | rfl <;> simp [cells3, cells2, cells81, cells45]
theorem pack_build0 (w0 : World) (K : Value → Prop) : pureP Tryz.prog (Instr.build 83 #[]) K = K (.agg packZ.cells.toArray) :=
  build0_eq Tryz.underlying83 zerPack packFields w0 K
theorem lst16 {s : List UInt8} (h : s.length = 16) : ∃ a b c d e f g i j k l m n o p q, s = [a, b, c, d, e, f, g, i, j, k, l, m, n, o, p, q] := by
  match s, h with
  | [a, b, c, d, e, f, g, i, j, k, l, m, n, o, p, q], _ => exact ⟨a, b, c, d, e, f, g, i, j, k, l, m, n, o, p, q, rfl⟩
theorem flowFields (f : Field) (h : f ∈ (#[{ name := "V6", type := 4, offset := 0, embedded := false, tag := "", pkgPath := "", byteOffset := 0 }, { name := "Proto", type := 5, offset := 1, embedded := false, tag := "", pkgPath := "", byteOffset := 1 }, { name := "Src", type := 31, offset := 2, embedded := false, tag := "", pkgPath := "", byteOffset := 2 }, { name := "Dst", type := 31, offset := 18, embedded := false, tag := "", pkgPath := "", byteOffset := 18 }, { name := "SPort", type := 79, offset := 34, embedded := false, tag := "", pkgPath := "", byteOffset := 34 }, { name := "DPort", type := 79, offset := 35, embedded := false, tag := "", pkgPath := "", byteOffset := 36 }] : Array Field)) : Tryz.prog.cellsOf f.type ≠ 0 := by
  simp only [List.mem_toArray, List.mem_cons, List.not_mem_nil, or_false] at h
  rcases h with rfl | rfl | rfl | rfl | rfl | rfl <;> simp [cells4, cells5, cells31, cells79]
theorem flow_build {f : FlowM} (h : f.Fit) (w0 : World) (K : Value → Prop) : pureP Tryz.prog (Instr.build 81 #[(0, .bool f.v6), (1, .int .u8 f.proto), (2, .agg (f.src.map byteV).toArray), (3, .agg (f.dst.map byteV).toArray), (4, .int .u16 f.sp), (5, .int .u16 f.dp)]) K = K (.agg f.cells.toArray) := by
  have hs := h.src
  have hd := h.dst
  refine build_eq (out := f.cells) Tryz.underlying81 zerFlow flowFields ?_ w0 K
  simp only [List.getElem?_toArray]
  have z : (Value.agg flowZ.cells.toArray).cells.toList = [] ++ ([.bool false] ++ ([.int .u8 0] ++ ((noBytes 16).map byteV ++ ((noBytes 16).map byteV ++ [.int .u16 0, .int .u16 0])))) := rfl
  refine laid_step (a := []) (vs := [.bool f.v6]) rfl z (by simp [cells4]) rfl ?_
  refine laid_step (a := [.bool f.v6]) (b := [.int .u8 0]) (vs := [.int .u8 f.proto]) rfl rfl (by simp [cells5]) rfl ?_
  refine laid_step (a := [.bool f.v6, .int .u8 f.proto]) (b := (noBytes 16).map byteV) (vs := f.src.map byteV) rfl rfl (by simp [cells31, noBytes]) (by simp [hs, noBytes]) ?_
  refine laid_step (a := [.bool f.v6, .int .u8 f.proto] ++ f.src.map byteV) (b := (noBytes 16).map byteV) (c := [.int .u16 0, .int .u16 0]) (vs := f.dst.map byteV) rfl (by simp) (by simp [cells31, noBytes, hs]) (by simp [hd, noBytes]) ?_
  refine laid_step (a := [.bool f.v6, .int .u8 f.proto] ++ f.src.map byteV ++ f.dst.map byteV) (b := [.int .u16 0]) (c := [.int .u16 0]) (vs := [.int .u16 f.sp]) rfl (by simp) (by simp [cells79, hs, hd]) rfl ?_
  refine laid_step (a := [.bool f.v6, .int .u8 f.proto] ++ f.src.map byteV ++ f.dst.map byteV ++ [.int .u16 f.sp]) (b := [.int .u16 0]) (c := []) (vs := [.int .u16 f.dp]) rfl (by simp) (by simp [cells79, hs, hd]) rfl ?_
  simp [laid, FlowM.cells]
theorem flow_var {w : World} {f : FlowM} {K : World → Prop} (hn : f.Fit) (hK : ∀ w', More w w' → Blk w' w.heap.size 81 f.cells → w'.heap.size = w.heap.size + 1 → K w') :
    stRow 36 f.cells.toArray ⟨w.heap.size, 0, none⟩ (w.alloc (.cells flowZ.cells.toArray 81)) K := by
  have hm := more_alloc w (.cells flowZ.cells.toArray 81)
  have hb := Blk.new w 81 flowZ.cells.toArray
  refine st_all hb (by simpa using FlowM.cells_len hn) (by simpa using FlowM.cells_len flowZ_fit) (by simpa using FlowM.one f) fun w' h1 h2 => hK w' (h1.below hm (Nat.le_refl _)) (by simpa using h2) ?_
  rw [h1.size, size_alloc]
theorem pack_var {w : World} {p : PackM} {K : World → Prop} (hn : p.flow.Fit) (hp : p.pref.addr.length = 7) (hK : ∀ w', More w w' → Blk w' w.heap.size 83 p.cells → w'.heap.size = w.heap.size + 1 → K w') :
    stRow 46 p.cells.toArray ⟨w.heap.size, 0, none⟩ (w.alloc (.cells packZ.cells.toArray 83)) K := by
  have hm := more_alloc w (.cells packZ.cells.toArray 83)
  have hb := Blk.new w 83 packZ.cells.toArray
  refine st_all hb (by simpa using PackM.cells_len hn hp) rfl (by simpa using PackM.one p) fun w' h1 h2 => hK w' (h1.below hm (Nat.le_refl _)) (by simpa using h2) ?_
  rw [h1.size, size_alloc]
theorem pack_build {f : FlowM} {p : PrefM} {n : Int} (h : f.Fit) (hp : p.addr.length = 7) (w0 : World) (K : Value → Prop) : pureP Tryz.prog (Instr.build 83 #[(1, .agg f.cells.toArray), (2, .agg p.cells.toArray), (3, .int .i64 n)]) K = K (.agg (PackM.cells ⟨0, f, p, n⟩).toArray) := by
  refine build_eq (out := PackM.cells ⟨0, f, p, n⟩) Tryz.underlying83 zerPack packFields ?_ w0 K
  simp only [List.getElem?_toArray]
  have z : (Value.agg packZ.cells.toArray).cells.toList = [.int .i64 0] ++ (flowZ.cells ++ (prefZ.cells ++ [.int .i64 0])) := rfl
  have l1 := FlowM.cells_len h
  have l2 := FlowM.cells_len flowZ_fit
  have l3 : prefZ.cells.length = 8 := rfl
  have l4 := PrefM.cells_len hp
  refine laid_step (vs := f.cells) rfl z (by simp [cells81, l2]) (by rw [l1, l2]) ?_
  refine laid_step (a := [.int .i64 0] ++ f.cells) (b := prefZ.cells) (c := [.int .i64 0]) (vs := p.cells) rfl (by simp) (by simp [cells45, l1, l3]) (by rw [l3, l4]) ?_
  refine laid_step (a := [.int .i64 0] ++ f.cells ++ p.cells) (b := [.int .i64 0]) (c := []) (vs := [.int .i64 n]) rfl (by simp) (by simp [cells3, l1, l4]) rfl ?_
  simp [laid, PackM.cells]
theorem parseIp_len (v6 : Bool) (l : List UInt8) : (parseIp v6 l).body.length ≤ l.length := by
  have hg : ∀ (r : Nat) (p : Int) (x : List UInt8) (b : Bool), (go6 r p x b).2.2.1.length ≤ x.length := by
    intro r
    induction r with
    | zero =>
      intro p x b
      unfold go6
      split <;> simp
    | succ r ih =>
      intro p x b
      unfold go6
      split
      · split
        · simp
        · rename_i y is hy
          refine Nat.le_trans (ih _ _ _) ?_
          unfold pass6 at hy
          split at hy
          · cases hy
          split at hy
          · cases hy
          · cases hy
            rw [List.length_drop]
            omega
      · simp
  unfold parseIp
  split
  · unfold parse6
    split
    · show (walk6 l).2.2.1.length ≤ l.length
      unfold walk6
      split
      · simp
      split
      · simp
      split
      · simp
      · refine Nat.le_trans (hg _ _ _ _) ?_
        rw [List.length_drop, List.length_take]
        omega
    · simp [netNone]
  · unfold parse4
    split
    · simp only [net4, List.length_drop, List.length_take]
      omega
    · simp [netNone]
theorem frame_parse (w : World) (A : Option Addr) (l : List UInt8) (c : Nat) (hA : Bs w A l) (hc : l.length ≤ c) (hl : l.length ≤ 1000000) :
    Ret Tryz.prog 29 #[.slice A l.length c] w (FrameR l w) := by
  refine ret_of Tryz.func29 rfl (by kernel_rfl) (Nat.le_of_ble_eq_true (by kernel_rfl)) ?_
  have bad : ∀ r, frameWhy l = r → r ≠ 0 → ∀ w', More w w' → FrameR l w (.tuple #[.agg packZ.cells.toArray, .int .i64 r]) w' := by
    intro r hr hr0 w' hm
    have : frameM l = packZ := by unfold frameM; rw [if_neg (by rw [hr]; exact hr0)]
    unfold FrameR
    rw [this, hr]
    exact ⟨rfl, hm⟩
  have hm1 := more_alloc w (.cells packZ.cells.toArray 83)
  have hb1 := Blk.new w 83 packZ.cells.toArray
  have s1 := size_alloc w (.cells packZ.cells.toArray 83)
  simp (config := {maxSteps := 1000000, implicitDefEqProofs := false}) only [↓zvD, zvU, ↓up_apply, ↓hv_apply, ↓upO_some, ↓upO_none, ↓ev_tmp, ↓ev_const, ↓ev_func, ↓ev_global, init, Nat.reduceEqDiff, Nat.reduceAdd, Nat.reduceMul, Nat.reduceSub, ↓reduceIte, Int.reduceEq, Int.reduceNe, Nat.reduceLeDiff, one, Value.cells, Int.reduceLE, Int.reduceLT, Int.reduceToNat, add_mk, reduceCtorEq, List.mem_range'_1, true_and, and_true, and_false, false_and, Nat.reduceLT, Nat.reduceLeDiff, tyF, zerPack]
  generalize w.alloc (.cells packZ.cells.toArray 83) = w1 at hm1 hb1 s1 ⊢
  have bn := pack_build0 w
  have sz := fun (w' : World) (hm : More w1 w') => st_same_eq (hb1.more hm) (n := 46) rfl (by simpa using PackM.one packZ)
  have rd := fun (w' : World) (hm : More w1 w') => (hb1.more hm).all_eq 46 rfl
  simp only [List.toList_toArray] at sz rd hb1
  have sz1 := sz w1 (More.refl w1)
  have rd1 := rd w1 (More.refl w1)
  refine ⟨fun h1 => ?_, fun h1 => ?_⟩
  · simp (config := {maxSteps := 1000000, implicitDefEqProofs := false}) only [↓zvD, zvU, ↓up_apply, ↓hv_apply, ↓upO_some, ↓upO_none, ↓ev_tmp, ↓ev_const, ↓ev_func, ↓ev_global, init, Nat.reduceEqDiff, Nat.reduceAdd, Nat.reduceMul, Nat.reduceSub, ↓reduceIte, Int.reduceEq, Int.reduceNe, Nat.reduceLeDiff, one, Value.cells, Int.reduceLE, Int.reduceLT, Int.reduceToNat, add_mk, reduceCtorEq, List.mem_range'_1, true_and, and_true, and_false, false_and, Nat.reduceLT, Nat.reduceLeDiff, tyF, bn, sz1, rd1]
    exact bad 7 (by unfold frameWhy; rw [if_pos (by omega)]) (by omega) _ hm1
  have w0 : ¬ 9216 < l.length := by omega
  refine call_ok Tryz.call57 (ether_parse w1 A l c (hA.more hm1) (by omega)) ?_
  rintro _ w2 ⟨rfl, hm2⟩
  have hat : (etherM l).2.2 = 0 → 0 ≤ (etherM l).2.1 ∧ (etherM l).2.1 ≤ l.length := ethGo_at 2 12 l
  have hw2 : (etherM l).2.2 ≠ 0 → frameWhy l = (etherM l).2.2 := fun h => by unfold frameWhy; rw [if_neg w0, if_pos h]
  have hw3 : (etherM l).2.2 = 0 → whyIp (etherM l).1 (ipOf l) ≠ 0 → frameWhy l = whyIp (etherM l).1 (ipOf l) := fun h h' => by unfold frameWhy; rw [if_neg w0, if_neg (by omega), if_pos h']
  have hw4 : (etherM l).2.2 = 0 → whyIp (etherM l).1 (ipOf l) = 0 → frameWhy l = (portsM (etherM l).1 (netOf l)).2.2 := fun h h' => by unfold frameWhy; rw [if_neg w0, if_neg (by omega), if_neg (by omega)]
  have hfl : flowOf l = ⟨(etherM l).1, (netOf l).proto, (netOf l).src, (netOf l).dst, (portsM (etherM l).1 (netOf l)).1, (portsM (etherM l).1 (netOf l)).2.1⟩ := rfl
  have hip : ipOf l = l.drop (etherM l).2.1.toNat := rfl
  have hno : netOf l = parseIp (etherM l).1 (ipOf l) := rfl
  generalize ipOf l = x at hw3 hw4 hip hno
  generalize netOf l = n at hw4 hfl hno
  generalize (etherM l).1 = v6 at *
  generalize (etherM l).2.1 = at_ at *
  generalize (etherM l).2.2 = r1 at *
  simp (config := {maxSteps := 1000000, implicitDefEqProofs := false}) only [↓zvD, zvU, ↓up_apply, ↓hv_apply, ↓upO_some, ↓upO_none, ↓ev_tmp, ↓ev_const, ↓ev_func, ↓ev_global, init, Nat.reduceEqDiff, Nat.reduceAdd, Nat.reduceMul, Nat.reduceSub, ↓reduceIte, Int.reduceEq, Int.reduceNe, Nat.reduceLeDiff, one, Value.cells, Int.reduceLE, Int.reduceLT, Int.reduceToNat, add_mk, reduceCtorEq, List.mem_range'_1, true_and, and_true, and_false, false_and, Nat.reduceLT, Nat.reduceLeDiff, tyF, zerLink]
  refine link_var fun w3 hm3 hb3 hs3 => ?_
  have hm13 : More w1 w3 := hm2.trans hm3
  have sz3 := sz w3 hm13
  have rd3 := rd w3 hm13
  have hc3 := hb3.cell
  simp (config := {maxSteps := 1000000, implicitDefEqProofs := false}) only [↓zvD, zvU, ↓up_apply, ↓hv_apply, ↓upO_some, ↓upO_none, ↓ev_tmp, ↓ev_const, ↓ev_func, ↓ev_global, init, Nat.reduceEqDiff, Nat.reduceAdd, Nat.reduceMul, Nat.reduceSub, ↓reduceIte, Int.reduceEq, Int.reduceNe, Nat.reduceLeDiff, one, Value.cells, Int.reduceLE, Int.reduceLT, Int.reduceToNat, add_mk, reduceCtorEq, List.mem_range'_1, true_and, and_true, and_false, false_and, Nat.reduceLT, Nat.reduceLeDiff, tyF, bn, sz3, rd3, hc3]
  refine ⟨fun h3 => ?_, fun h3 => bad r1 (hw2 h3) h3 _ (hm1.trans hm13)⟩
  obtain ⟨h4, h5⟩ := hat h3
  obtain ⟨k, rfl⟩ := Int.eq_ofNat_of_zero_le h4
  rw [Int.toNat_natCast] at hip
  have hkl : k ≤ l.length := by omega
  have hkc : k ≤ c := by omega
  have hA3 := (hA.more hm1).more hm13
  have hx : Bs w3 (adv A c k 1) x := by rw [hip]; exact Cs.advB hA3 hc
  have hxl : x.length = l.length - k := by rw [hip, List.length_drop]
  have hnf : n.Fit := by rw [hno]; exact parseIp_fit v6 x
  have hnb : n.body.length ≤ x.length := by rw [hno]; exact parseIp_len v6 x
  cases v6 with
  | true =>
    have hno6 : parse6 x = n := by rw [hno]; rfl
    have hwh : whyIp true x = why6 x := rfl
    simp (config := {maxSteps := 1000000, implicitDefEqProofs := false}) only [↓zvD, zvU, ↓up_apply, ↓hv_apply, ↓upO_some, ↓upO_none, ↓ev_tmp, ↓ev_const, ↓ev_func, ↓ev_global, init, Nat.reduceEqDiff, Nat.reduceAdd, Nat.reduceMul, Nat.reduceSub, ↓reduceIte, Int.reduceEq, Int.reduceNe, Nat.reduceLeDiff, one, Value.cells, Int.reduceLE, Int.reduceLT, Int.reduceToNat, add_mk, reduceCtorEq, List.mem_range'_1, true_and, and_true, and_false, false_and, Nat.reduceLT, Nat.reduceLeDiff, tyF, hc3, hkc, hkl]
    refine ⟨h4, by omega, ?_⟩
    rw [Int.toNat_natCast, ← hxl]
    refine call_ok Tryz.call59 (inet6_parse w3 (adv A c k 1) x (c - k) hx (by omega) (by omega)) ?_
    rintro _ w4 ⟨A4, c4, rfl, ho4, hm4⟩
    rw [hno6] at ho4 ⊢
    rw [← hwh]
    simp (config := {maxSteps := 1000000, implicitDefEqProofs := false}) only [↓zvD, zvU, ↓up_apply, ↓hv_apply, ↓upO_some, ↓upO_none, ↓ev_tmp, ↓ev_const, ↓ev_func, ↓ev_global, init, Nat.reduceEqDiff, Nat.reduceAdd, Nat.reduceMul, Nat.reduceSub, ↓reduceIte, Int.reduceEq, Int.reduceNe, Nat.reduceLeDiff, one, Value.cells, Int.reduceLE, Int.reduceLT, Int.reduceToNat, add_mk, reduceCtorEq, List.mem_range'_1, true_and, and_true, and_false, false_and, Nat.reduceLT, Nat.reduceLeDiff, tyF, zerNet]
    refine net_var hnf fun w5 hm5 hb5 hs5 => ?_
    have hm15 : More w1 w5 := (hm13.trans hm4).trans hm5
    have sz5 := sz w5 hm15
    have rd5 := rd w5 hm15
    have hc5 := (hb3.more hm4).more hm5 |>.cell
    have rn5 := hb5.all_eq 35 (NetM.cells_len hnf _ _)
    simp (config := {maxSteps := 1000000, implicitDefEqProofs := false}) only [↓zvD, zvU, ↓up_apply, ↓hv_apply, ↓upO_some, ↓upO_none, ↓ev_tmp, ↓ev_const, ↓ev_func, ↓ev_global, init, Nat.reduceEqDiff, Nat.reduceAdd, Nat.reduceMul, Nat.reduceSub, ↓reduceIte, Int.reduceEq, Int.reduceNe, Nat.reduceLeDiff, one, Value.cells, Int.reduceLE, Int.reduceLT, Int.reduceToNat, add_mk, reduceCtorEq, List.mem_range'_1, true_and, and_true, and_false, false_and, Nat.reduceLT, Nat.reduceLeDiff, tyF, bn, sz5, rd5, hc5, rn5]
    refine ⟨fun h6 => ?_, fun h6 => bad _ (hw3 h3 h6) h6 _ (hm1.trans hm15)⟩
    refine call_ok Tryz.call60 (ports_parse w5 _ n A4 c4 hnf (ho4.cs.more hm5) (by omega)) ?_
    rintro _ w6 ⟨rfl, hm6⟩
    have hm16 := hm15.trans hm6
    have sz6 := sz w6 hm16
    have rd6 := rd w6 hm16
    have hc6 := (hb3.more ((hm4.trans hm5).trans hm6)).cell
    have hn6 := (hb5.more hm6).cell
    simp (config := {maxSteps := 1000000, implicitDefEqProofs := false}) only [↓zvD, zvU, ↓up_apply, ↓hv_apply, ↓upO_some, ↓upO_none, ↓ev_tmp, ↓ev_const, ↓ev_func, ↓ev_global, init, Nat.reduceEqDiff, Nat.reduceAdd, Nat.reduceMul, Nat.reduceSub, ↓reduceIte, Int.reduceEq, Int.reduceNe, Nat.reduceLeDiff, one, Value.cells, Int.reduceLE, Int.reduceLT, Int.reduceToNat, add_mk, reduceCtorEq, List.mem_range'_1, true_and, and_true, and_false, false_and, Nat.reduceLT, Nat.reduceLeDiff, tyF, bn, sz6, rd6, hc6, hn6, NetM.c0]
    refine ⟨fun h7 => ?_, fun h7 => bad _ (hw4 h3 h6) h7 _ (hm1.trans hm16)⟩
    have re1 := (hb5.more hm6).row_eq 1 16 (by rw [NetM.cells_len hnf]; omega)
    have re2 := (hb5.more hm6).row_eq 17 16 (by rw [NetM.cells_len hnf]; omega)
    simp only [NetM.cSrc hnf, NetM.cDst hnf] at re1 re2
    have fb := flow_build (flowOf_fit l) w
    rw [hfl] at fb
    have hff := flowOf_fit l
    simp (config := {maxSteps := 1000000, implicitDefEqProofs := false}) only [↓zvD, zvU, ↓up_apply, ↓hv_apply, ↓upO_some, ↓upO_none, ↓ev_tmp, ↓ev_const, ↓ev_func, ↓ev_global, init, Nat.reduceEqDiff, Nat.reduceAdd, Nat.reduceMul, Nat.reduceSub, ↓reduceIte, Int.reduceEq, Int.reduceNe, Nat.reduceLeDiff, one, Value.cells, Int.reduceLE, Int.reduceLT, Int.reduceToNat, add_mk, reduceCtorEq, List.mem_range'_1, true_and, and_true, and_false, false_and, Nat.reduceLT, Nat.reduceLeDiff, tyF, re1, re2, hc6, hn6, NetM.c0, fb, zerFlow]
    rw [← hfl]
    refine flow_var hff fun w7 hm7 hb7 hs7 => ?_
    have hm17 := hm16.trans hm7
    have r7 := hb7.all_eq 36 (FlowM.cells_len hff)
    have pb := pack_build (n := (l.length : Int)) hff (prefM_len hff) w
    refine draw_seen 5 [[], [], [1], [], [3], [0, 1, 2, 3, 4], [0, 1, 2, 3, 4, 5], [0, 1, 2, 3, 4, 5, 6]] (RV.look [(2, fun v _ => v = .agg (prefM (flowOf l)).cells.toArray)]) mixed (by kernel_rfl) (by kernel_rfl) (look_keeps _ (by
        intro z hz
        simp only [List.mem_cons, List.not_mem_nil, or_false] at hz
        subst hz
        rintro v a b hab rfl
        rfl)) ?_
    simp (config := {maxSteps := 1000000, implicitDefEqProofs := false}) only [↓zvD, zvU, ↓zqD, ↓up_apply, ↓hv_apply, ↓upO_some, ↓upO_none, ↓ev_tmp, ↓ev_const, ↓ev_func, ↓ev_global, init, Nat.reduceEqDiff, Nat.reduceAdd, Nat.reduceMul, Nat.reduceSub, ↓reduceIte, Int.reduceEq, Int.reduceNe, Nat.reduceLeDiff, one, Value.cells, Int.reduceLE, Int.reduceLT, Int.reduceToNat, add_mk, reduceCtorEq, List.mem_range'_1, true_and, and_true, and_false, false_and, Nat.reduceLT, Nat.reduceLeDiff, tyF, r7]
    refine ⟨fun w8 hm8 => call_ok Tryz.call61 (frame_prefix w8 _ hff) ?_, ?_⟩
    · rintro _ w9 ⟨rfl, hm9⟩
      simp (config := {maxSteps := 1000000, implicitDefEqProofs := false}) only [↓zvD, zvU, ↓zqD, ↓up_apply, ↓hv_apply, ↓upO_some, ↓upO_none, ↓ev_tmp, ↓ev_const, ↓ev_func, ↓ev_global, init, Nat.reduceEqDiff, Nat.reduceAdd, Nat.reduceMul, Nat.reduceSub, ↓reduceIte, Int.reduceEq, Int.reduceNe, Nat.reduceLeDiff, one, Value.cells, Int.reduceLE, Int.reduceLT, Int.reduceToNat, add_mk, reduceCtorEq, List.mem_range'_1, true_and, and_true, and_false, false_and, Nat.reduceLT, Nat.reduceLeDiff]
      exact hm9
    rintro _ ⟨w8, hm8, rfl⟩
    simp (config := {maxSteps := 1000000, implicitDefEqProofs := false}) only [↓zvD, zvU, ↓zqD, ↓up_apply, ↓hv_apply, ↓upO_some, ↓upO_none, ↓ev_tmp, ↓ev_const, ↓ev_func, ↓ev_global, init, Nat.reduceEqDiff, Nat.reduceAdd, Nat.reduceMul, Nat.reduceSub, ↓reduceIte, Int.reduceEq, Int.reduceNe, Nat.reduceLeDiff, one, Value.cells, Int.reduceLE, Int.reduceLT, Int.reduceToNat, add_mk, reduceCtorEq, List.mem_range'_1, true_and, and_true, and_false, false_and, Nat.reduceLT, Nat.reduceLeDiff, tyF, r7, pb]
    intro w9 hm9
    have hfull : frameM l = ⟨0, flowOf l, prefM (flowOf l), l.length⟩ := by unfold frameM; rw [if_pos (by rw [hw4 h3 h6]; exact h7)]
    rw [← hfull]
    have hmf : (frameM l).flow.Fit := by rw [hfull]; exact hff
    have hmp : (frameM l).pref.addr.length = 7 := by rw [hfull]; exact prefM_len hff
    refine st_all (hb1.more (hm17.trans hm9)) (by simpa using PackM.cells_len hmf hmp) rfl (by simpa using PackM.one (frameM l)) fun w10 k1 k2 => ?_
    have r10 := k2.all_eq 46 (by simpa using PackM.cells_len hmf hmp)
    simp (config := {maxSteps := 1000000, implicitDefEqProofs := false}) only [↓zvD, zvU, ↓up_apply, ↓hv_apply, ↓upO_some, ↓upO_none, ↓ev_tmp, ↓ev_const, ↓ev_func, ↓ev_global, init, Nat.reduceEqDiff, Nat.reduceAdd, Nat.reduceMul, Nat.reduceSub, ↓reduceIte, Int.reduceEq, Int.reduceNe, Nat.reduceLeDiff, one, Value.cells, Int.reduceLE, Int.reduceLT, Int.reduceToNat, add_mk, reduceCtorEq, List.mem_range'_1, true_and, and_true, and_false, false_and, Nat.reduceLT, Nat.reduceLeDiff, tyF, r10]
    unfold FrameR
    rw [hw4 h3 h6, h7]
    exact ⟨by simp, k1.below (hm1.trans (hm17.trans hm9)) (Nat.le_refl _)⟩
  | false =>
    have hno4 : parse4 x = n := by rw [hno]; rfl
    have hwh : whyIp false x = why4 x := rfl
    simp (config := {maxSteps := 1000000, implicitDefEqProofs := false}) only [↓zvD, zvU, ↓up_apply, ↓hv_apply, ↓upO_some, ↓upO_none, ↓ev_tmp, ↓ev_const, ↓ev_func, ↓ev_global, init, Nat.reduceEqDiff, Nat.reduceAdd, Nat.reduceMul, Nat.reduceSub, ↓reduceIte, Int.reduceEq, Int.reduceNe, Nat.reduceLeDiff, one, Value.cells, Int.reduceLE, Int.reduceLT, Int.reduceToNat, add_mk, reduceCtorEq, List.mem_range'_1, true_and, and_true, and_false, false_and, Nat.reduceLT, Nat.reduceLeDiff, tyF, hc3, hkc, hkl]
    refine ⟨h4, by omega, ?_⟩
    rw [Int.toNat_natCast, ← hxl]
    refine call_ok Tryz.call58 (inet_parse w3 (adv A c k 1) x (c - k) hx (by omega) (by omega)) ?_
    rintro _ w4 ⟨A4, c4, rfl, ho4, hm4⟩
    rw [hno4] at ho4 ⊢
    rw [← hwh]
    simp (config := {maxSteps := 1000000, implicitDefEqProofs := false}) only [↓zvD, zvU, ↓up_apply, ↓hv_apply, ↓upO_some, ↓upO_none, ↓ev_tmp, ↓ev_const, ↓ev_func, ↓ev_global, init, Nat.reduceEqDiff, Nat.reduceAdd, Nat.reduceMul, Nat.reduceSub, ↓reduceIte, Int.reduceEq, Int.reduceNe, Nat.reduceLeDiff, one, Value.cells, Int.reduceLE, Int.reduceLT, Int.reduceToNat, add_mk, reduceCtorEq, List.mem_range'_1, true_and, and_true, and_false, false_and, Nat.reduceLT, Nat.reduceLeDiff, tyF, zerNet]
    refine net_var hnf fun w5 hm5 hb5 hs5 => ?_
    have hm15 : More w1 w5 := (hm13.trans hm4).trans hm5
    have sz5 := sz w5 hm15
    have rd5 := rd w5 hm15
    have hc5 := (hb3.more hm4).more hm5 |>.cell
    have rn5 := hb5.all_eq 35 (NetM.cells_len hnf _ _)
    simp (config := {maxSteps := 1000000, implicitDefEqProofs := false}) only [↓zvD, zvU, ↓up_apply, ↓hv_apply, ↓upO_some, ↓upO_none, ↓ev_tmp, ↓ev_const, ↓ev_func, ↓ev_global, init, Nat.reduceEqDiff, Nat.reduceAdd, Nat.reduceMul, Nat.reduceSub, ↓reduceIte, Int.reduceEq, Int.reduceNe, Nat.reduceLeDiff, one, Value.cells, Int.reduceLE, Int.reduceLT, Int.reduceToNat, add_mk, reduceCtorEq, List.mem_range'_1, true_and, and_true, and_false, false_and, Nat.reduceLT, Nat.reduceLeDiff, tyF, bn, sz5, rd5, hc5, rn5]
    refine ⟨fun h6 => ?_, fun h6 => bad _ (hw3 h3 h6) h6 _ (hm1.trans hm15)⟩
    refine call_ok Tryz.call60 (ports_parse w5 _ n A4 c4 hnf (ho4.cs.more hm5) (by omega)) ?_
    rintro _ w6 ⟨rfl, hm6⟩
    have hm16 := hm15.trans hm6
    have sz6 := sz w6 hm16
    have rd6 := rd w6 hm16
    have hc6 := (hb3.more ((hm4.trans hm5).trans hm6)).cell
    have hn6 := (hb5.more hm6).cell
    simp (config := {maxSteps := 1000000, implicitDefEqProofs := false}) only [↓zvD, zvU, ↓up_apply, ↓hv_apply, ↓upO_some, ↓upO_none, ↓ev_tmp, ↓ev_const, ↓ev_func, ↓ev_global, init, Nat.reduceEqDiff, Nat.reduceAdd, Nat.reduceMul, Nat.reduceSub, ↓reduceIte, Int.reduceEq, Int.reduceNe, Nat.reduceLeDiff, one, Value.cells, Int.reduceLE, Int.reduceLT, Int.reduceToNat, add_mk, reduceCtorEq, List.mem_range'_1, true_and, and_true, and_false, false_and, Nat.reduceLT, Nat.reduceLeDiff, tyF, bn, sz6, rd6, hc6, hn6, NetM.c0]
    refine ⟨fun h7 => ?_, fun h7 => bad _ (hw4 h3 h6) h7 _ (hm1.trans hm16)⟩
    have re1 := (hb5.more hm6).row_eq 1 16 (by rw [NetM.cells_len hnf]; omega)
    have re2 := (hb5.more hm6).row_eq 17 16 (by rw [NetM.cells_len hnf]; omega)
    simp only [NetM.cSrc hnf, NetM.cDst hnf] at re1 re2
    have fb := flow_build (flowOf_fit l) w
    rw [hfl] at fb
    have hff := flowOf_fit l
    simp (config := {maxSteps := 1000000, implicitDefEqProofs := false}) only [↓zvD, zvU, ↓up_apply, ↓hv_apply, ↓upO_some, ↓upO_none, ↓ev_tmp, ↓ev_const, ↓ev_func, ↓ev_global, init, Nat.reduceEqDiff, Nat.reduceAdd, Nat.reduceMul, Nat.reduceSub, ↓reduceIte, Int.reduceEq, Int.reduceNe, Nat.reduceLeDiff, one, Value.cells, Int.reduceLE, Int.reduceLT, Int.reduceToNat, add_mk, reduceCtorEq, List.mem_range'_1, true_and, and_true, and_false, false_and, Nat.reduceLT, Nat.reduceLeDiff, tyF, re1, re2, hc6, hn6, NetM.c0, fb, zerFlow]
    rw [← hfl]
    refine flow_var hff fun w7 hm7 hb7 hs7 => ?_
    have hm17 := hm16.trans hm7
    have r7 := hb7.all_eq 36 (FlowM.cells_len hff)
    have pb := pack_build (n := (l.length : Int)) hff (prefM_len hff) w
    refine draw_seen 5 [[], [], [1], [], [3], [0, 1, 2, 3, 4], [0, 1, 2, 3, 4, 5], [0, 1, 2, 3, 4, 5, 6]] (RV.look [(2, fun v _ => v = .agg (prefM (flowOf l)).cells.toArray)]) mixed (by kernel_rfl) (by kernel_rfl) (look_keeps _ (by
        intro z hz
        simp only [List.mem_cons, List.not_mem_nil, or_false] at hz
        subst hz
        rintro v a b hab rfl
        rfl)) ?_
    simp (config := {maxSteps := 1000000, implicitDefEqProofs := false}) only [↓zvD, zvU, ↓zqD, ↓up_apply, ↓hv_apply, ↓upO_some, ↓upO_none, ↓ev_tmp, ↓ev_const, ↓ev_func, ↓ev_global, init, Nat.reduceEqDiff, Nat.reduceAdd, Nat.reduceMul, Nat.reduceSub, ↓reduceIte, Int.reduceEq, Int.reduceNe, Nat.reduceLeDiff, one, Value.cells, Int.reduceLE, Int.reduceLT, Int.reduceToNat, add_mk, reduceCtorEq, List.mem_range'_1, true_and, and_true, and_false, false_and, Nat.reduceLT, Nat.reduceLeDiff, tyF, r7]
    refine ⟨fun w8 hm8 => call_ok Tryz.call61 (frame_prefix w8 _ hff) ?_, ?_⟩
    · rintro _ w9 ⟨rfl, hm9⟩
      simp (config := {maxSteps := 1000000, implicitDefEqProofs := false}) only [↓zvD, zvU, ↓zqD, ↓up_apply, ↓hv_apply, ↓upO_some, ↓upO_none, ↓ev_tmp, ↓ev_const, ↓ev_func, ↓ev_global, init, Nat.reduceEqDiff, Nat.reduceAdd, Nat.reduceMul, Nat.reduceSub, ↓reduceIte, Int.reduceEq, Int.reduceNe, Nat.reduceLeDiff, one, Value.cells, Int.reduceLE, Int.reduceLT, Int.reduceToNat, add_mk, reduceCtorEq, List.mem_range'_1, true_and, and_true, and_false, false_and, Nat.reduceLT, Nat.reduceLeDiff]
      exact hm9
    rintro _ ⟨w8, hm8, rfl⟩
    simp (config := {maxSteps := 1000000, implicitDefEqProofs := false}) only [↓zvD, zvU, ↓zqD, ↓up_apply, ↓hv_apply, ↓upO_some, ↓upO_none, ↓ev_tmp, ↓ev_const, ↓ev_func, ↓ev_global, init, Nat.reduceEqDiff, Nat.reduceAdd, Nat.reduceMul, Nat.reduceSub, ↓reduceIte, Int.reduceEq, Int.reduceNe, Nat.reduceLeDiff, one, Value.cells, Int.reduceLE, Int.reduceLT, Int.reduceToNat, add_mk, reduceCtorEq, List.mem_range'_1, true_and, and_true, and_false, false_and, Nat.reduceLT, Nat.reduceLeDiff, tyF, r7, pb]
    intro w9 hm9
    have hfull : frameM l = ⟨0, flowOf l, prefM (flowOf l), l.length⟩ := by unfold frameM; rw [if_pos (by rw [hw4 h3 h6]; exact h7)]
    rw [← hfull]
    have hmf : (frameM l).flow.Fit := by rw [hfull]; exact hff
    have hmp : (frameM l).pref.addr.length = 7 := by rw [hfull]; exact prefM_len hff
    refine st_all (hb1.more (hm17.trans hm9)) (by simpa using PackM.cells_len hmf hmp) rfl (by simpa using PackM.one (frameM l)) fun w10 k1 k2 => ?_
    have r10 := k2.all_eq 46 (by simpa using PackM.cells_len hmf hmp)
    simp (config := {maxSteps := 1000000, implicitDefEqProofs := false}) only [↓zvD, zvU, ↓up_apply, ↓hv_apply, ↓upO_some, ↓upO_none, ↓ev_tmp, ↓ev_const, ↓ev_func, ↓ev_global, init, Nat.reduceEqDiff, Nat.reduceAdd, Nat.reduceMul, Nat.reduceSub, ↓reduceIte, Int.reduceEq, Int.reduceNe, Nat.reduceLeDiff, one, Value.cells, Int.reduceLE, Int.reduceLT, Int.reduceToNat, add_mk, reduceCtorEq, List.mem_range'_1, true_and, and_true, and_false, false_and, Nat.reduceLT, Nat.reduceLeDiff, tyF, r10]
    unfold FrameR
    rw [hw4 h3 h6, h7]
    exact ⟨by simp, k1.below (hm1.trans (hm17.trans hm9)) (Nat.le_refl _)⟩
end Go.Proofs.YtahcaplhdgphcaaGreat
