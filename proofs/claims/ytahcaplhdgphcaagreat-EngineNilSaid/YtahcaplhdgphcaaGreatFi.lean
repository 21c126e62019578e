/-
  A variable that is made and written amid a drawn region; an append to a slice without spare room.
-/
import Derived.Test.YtahcaplhdgphcaaGreatEq
import Derived.Laws.MakeOwn
namespace Go.Proofs.RV
open Go Go.RowKit
set_option linter.unusedSimpArgs false
set_option linter.unusedVariables false

/-- nothing below B turns, nor any block but those of type T, and these turn to V at most -/
structure Fin (B : Nat) (T : TypeId) (V : List Value) (a b : World) : Prop where
  below : Below B a b
  blk : ∀ p e cs, e ≠ T → Blk a p e cs → Blk b p e cs
  fin : ∀ p cs, Blk a p T cs → Blk b p T cs ∨ (B ≤ p ∧ Blk b p T V)
section
variable {B : Nat} {T : TypeId} {V : List Value} {a b c : World}
theorem Fin.refl (B : Nat) (T : TypeId) (V : List Value) (a : World) : Fin B T V a a := ⟨Below.refl _ _, fun _ _ _ _ h => h, fun _ _ h => .inl h⟩
theorem Fin.trans (h : Fin B T V a b) (k : Fin B T V b c) : Fin B T V a c :=
  ⟨h.below.trans k.below, fun p e cs hn hb => k.blk p e cs hn (h.blk p e cs hn hb), fun p cs hb => by
    rcases h.fin p cs hb with h1 | ⟨h1, h2⟩
    · exact k.fin p cs h1
    · rcases k.fin p V h2 with h3 | h3
      · exact .inr ⟨h1, h3⟩
      · exact .inr h3⟩
theorem Fin.of_more (h : More a b) (hB : B ≤ a.heap.size) : Fin B T V a b := ⟨h.mono hB, fun _ _ _ _ hb => hb.more h, fun _ _ hb => .inl (hb.more h)⟩
theorem Fin.more (h : Fin B T V a b) (hB : B = a.heap.size) : More a b := by
  subst hB
  exact h.below
theorem Fin.of_wr {p : Nat} {cs : List Value} (hw : Wr p a b) (hb : Blk a p T cs) (hv : Blk b p T V) (hB : B ≤ p) : Fin B T V a b :=
  ⟨hw.below (Below.refl _ _) hB, fun p' e cs' hn hb' => hw.blk hb' (hb'.ne hb hn), fun p' cs' hb' => by
    by_cases h : p' = p
    · subst h
      exact .inr ⟨hB, hv⟩
    · exact .inl (hw.blk hb' h)⟩
/-- a block of type T has as many cells as V -/
theorem Fin.some (h : Fin B T V a b) {p : Nat} (hp : ∃ cs, Blk a p T cs ∧ cs.length = V.length) : ∃ cs, Blk b p T cs ∧ cs.length = V.length := by
  obtain ⟨cs, h1, h2⟩ := hp
  rcases h.fin p cs h1 with h3 | ⟨_, h3⟩
  · exact ⟨cs, h3, h2⟩
  · exact ⟨V, h3, rfl⟩
theorem Fin.done (h : Fin B T V a b) {p : Nat} (hp : Blk a p T V) : Blk b p T V := by
  rcases h.fin p V hp with h3 | ⟨_, h3⟩ <;> exact h3
theorem Fin.cs (h : Fin B T V a b) {A : Option Addr} {xs : List Value} (hc : Cs a A xs) (hp : ∀ x, A = Option.some x → ∃ e cur, e ≠ T ∧ Blk a x.block e cur) : Cs b A xs := by
  intro i v hi
  obtain ⟨x, rfl, hx⟩ := hc i v hi
  obtain ⟨e, cur, hn, hb⟩ := hp x rfl
  refine ⟨x, rfl, ?_⟩
  rw [← hx]
  refine World.cell?_of_block ?_
  rw [add_block]
  have h1 := h.blk _ _ _ hn hb
  unfold Blk at h1 hb
  rw [h1, hb]
theorem Fin.own (h : Fin B T V a b) {A : Option Addr} {xs : List Value} {B' e s n c : Nat} (ho : Own a B' e s A n c xs) (hn : e ≠ T) : Own b B' e s A n c xs := by
  refine ho.keep fun g hA hg => ?_
  rcases ho.blk with ⟨h1, _⟩ | ⟨g', h1, _, _, cur, hb⟩
  · rw [h1] at hA; cases hA
  · rw [h1] at hA
    cases hA
    have h2 := h.blk _ _ _ hn hb
    unfold Blk at h2 hb
    rw [h2, hb]
end
theorem draw_fin {P : Program} {id : Nat} {l : List Oper} {e0 : Env} {w0 : World} {K : Env → World → Prop} (T : TypeId) (V : List Value) (m : Nat) (D : List (List Nat)) (Phi : Nat → Option (Value → World → Prop)) (hm : P.follows .mixedOrders = true) (hD : okD l.toArray D = true) (hT : okT l.toArray D m = true)
    (hst : ∀ k Φ, Phi k = some Φ → ∀ v a b, Fin w0.heap.size T V a b → Φ v a → Φ v b)
    (hv : vc P w0.heap.size (Fin w0.heap.size T V) l.toArray D Phi w0 0 (l.take m) e0 [] (Stop (fun e w => opsP P l.toArray (l.drop m) e w K) .mk)) : drawP P id l.toArray e0 w0 K :=
  draw_rg w0.heap.size (Fin w0.heap.size T V) D Phi hm hD (fun _ _ _ h k => h.trans k) (Fin.refl _ T V) (Fin.of_more (below_drawn _ _) (Nat.le_refl _)) (fun _ h => h.below) hst m hT (by simpa [Stop] using hv)
theorem look_all {E : World → World → Prop} : ∀ (l : List (Nat × (Value → World → Prop))), (∀ x ∈ l, ∀ v a b, E a b → x.2 v a → x.2 v b) → ∀ k Φ, look l k = some Φ → ∀ v a b, E a b → Φ v a → Φ v b
  | [], _, k, Φ, h => by cases h
  | (j, Ψ) :: r, hl, k, Φ, h => by
    unfold look at h
    split at h
    · injection h with h
      subst h
      exact hl _ (List.mem_cons_self ..)
    · exact look_all r (fun x hx => hl x (List.mem_cons_of_mem _ hx)) k Φ h
/-- 'append(v, x...)' where v has no room left -/
theorem app_full {P : Program} {t ty e : TypeId} {z : Value} {bytes n m c2 : Nat} {a : Addr} {A2 : Option Addr} {xs news : List Value} {w : World} {K : Value → World → Prop} (ht : P.underlying t = some (.slice e)) (hE : ElemT P e z 1 bytes) (hzs : z.cells.size = 1)
    (hxs : Cs w (some a) xs) (hxl : xs.length = n) (ha : a.spot = none) (hsrc : Cs w A2 news) (hl : news.length = m) (h1 : ∀ u ∈ news, u.oneCell' = true) (h63 : n + m ≤ maxLen) (hbytes : (n + m) * bytes ≤ 140737488355328)
    (hK0 : m = 0 → K (.slice (some a) (n + m) n) w)
    (hK : ∀ c' w', 0 < m → Own w' w.heap.size e 1 (some ⟨w.heap.size, 0, none⟩) (n + m) c' (xs ++ news) → More w w' → K (.slice (some ⟨w.heap.size, 0, none⟩) (n + m) c') w') :
    runP P (Builtin.append_ #[t, t] ty #[.slice (some a) n n, .slice A2 m c2]) w K := by
  obtain ⟨i, hi, hz, hs, hby⟩ := info_parts hE
  have zero : m = 0 → runP P (Builtin.append_ #[t, t] ty #[.slice (some a) n n, .slice A2 m c2]) w K := by
    intro hm
    have hk := hK0 hm
    subst hm
    have hn : news = [] := List.eq_nil_of_length_eq_zero hl
    subst hn
    refine ⟨_, w, ?_, hk⟩
    obtain ⟨ab, ao, as⟩ := a
    simp only at ha
    subst ha
    cases A2 with
    | none => simp [Builtin.append_, run_underlying ht, sizeOf, typeInfo, hi, Builtin.lenOf, Builtin.firstCells, storeCells]
    | some ad =>
      have := run_append_room_cells (P := P) (w := w) t ty e i ht hi ab ao n n ad 0 c2 [] (by simp) (by simp) (by simp) (by omega) (by simp) (by simp)
      rw [this]
      rfl
  rcases Nat.eq_zero_or_pos m with hm | hm
  · exact zero hm
  · rcases A2 with _ | ad
    · cases news with
      | nil => simp at hl; omega
      | cons u r =>
        obtain ⟨x, hx, _⟩ := hsrc 0 u rfl
        cases hx
    · have holds : ∀ j u, xs[j]? = some u → w.cell? (a.add j) = some u := by
        intro j u hu
        obtain ⟨x, hx, hc⟩ := hxs j u hu
        cases hx
        exact hc
      have hnews : ∀ (j : Nat) (u : Value), news[j]? = some u → w.cell? (ad.add j) = some u := by
        intro j u hu
        obtain ⟨x, hx, hc⟩ := hsrc j u hu
        cases hx
        exact hc
      have hr := run_append_grow (P := P) w t ty e i z ht hi hz a n n xs (by rw [hs]; omega) holds ad m c2 news (by rw [hs]; omega) hnews (by omega) (by simp only [maxLen] at h63; omega) (growslice_fits (by omega) (by rw [hby]; exact hbytes))
      have hge := grownCap_ge w (n + m) n e
      have hcm : grownCap w (n + m) n e ≤ maxLen := grownCap_le_maxLen w (n + m) n e h63
      refine ⟨_, _, hr, hK _ _ hm ⟨?_, .inr ⟨w.heap.size, _, _, rfl, Nat.le_refl _, heap_alloc_new w.drew _, hge, hcm, ?_, ?_⟩⟩ ⟨rfl, rfl, rfl, by simp, fun k hk => heap_alloc_old w.drew _ (by simpa using hk)⟩⟩
      · rw [List.length_append]; omega
      · simp only [Array.size_append, List.size_toArray, size_zeroCells, hzs]
        omega
      · simp only [Array.toList_append, List.append_assoc]
        rw [← List.append_assoc, show (n + m) * 1 = (xs ++ news).length by rw [List.length_append]; omega]
        exact List.take_left
/-- 'make([]T, n)' -/
theorem mk_slice {P : Program} {t e : TypeId} {z : Value} {size bytes n : Nat} {kl kc : IntKind} {w : World} {K : Value → World → Prop} (ht : P.underlying t = some (.slice e)) (hE : ElemT P e z size bytes) (hbytes : bytes * n ≤ 281474976710656) (h63 : n ≤ maxLen)
    (hK : K (.slice (some ⟨w.heap.size, 0, none⟩) n n) (w.alloc (.cells (madeCells z.cells (n * size)) e))) : runP P (Instr.makeSlice t (.int kl (n : Int)) (.int kc (n : Int))) w K := by
  obtain ⟨i, hi, hz, hs, hby⟩ := info_parts hE
  have hr := run_make (P := P) (w := w) t e i z ht hi hz kl kc n n (by omega) (by omega) (by rw [hby, ← Int.natCast_mul]; omega) (by simp only [maxLen] at h63; omega)
  rw [hs, Int.toNat_natCast] at hr
  exact ⟨_, _, hr, hK⟩
/-- 'string(b)' amid a drawn region -/
theorem readstr_eq {P : Program} {B : Nat} {S D e : TypeId} (hs : P.underlying S = some (.slice e)) (he : P.underlying e = some (.int .u8)) (hd : P.underlying D = some .string) {w : World} {A : Option Addr} {l : List UInt8} (hA : Bs w A l) (c : Nat) (hB : w.heap.size ≤ B) (K : Value → Prop) :
    readP P B (convert S D (.slice A l.length c)) w K = K (.string (bstr l)) :=
  propext ⟨fun ⟨v, h1, h2⟩ => by
    have h3 := h1 w (Below.refl _ _)
    rw [run_bytes_str hs he hd hA] at h3
    injection h3 with h3
    subst h3
    exact h2, fun hk => read_str hs he hd hA hB hk⟩
end Go.Proofs.RV
