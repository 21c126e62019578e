/-
  Appends of rows amid a drawn region: what they leave of rows that hold the beginning of what is put together, and of blocks of one row.
-/
import Derived.Test.YtimhcjakpdebjaaXt
namespace Go.Proofs.RV
open Go Go.RowKit
set_option linter.unusedSimpArgs false
set_option linter.unusedVariables false
/-- nothing below B turns, nor rows that hold a beginning of L, nor a block of one row, nor a block of other elements -/
structure PreS (B : Nat) (e : TypeId) (s : Nat) (L : List Value) (a b : World) : Prop where
  below : Below B a b
  own : ∀ A k c, Own a B e s A k c (L.take (k * s)) → Own b B e s A k c (L.take (k * s))
  one : ∀ p cs, cs.length = s → Blk a p e cs → Blk b p e cs
  blk : ∀ p e' cs, e' ≠ e → Blk a p e' cs → Blk b p e' cs
section
variable {B s : Nat} {e : TypeId} {L : List Value} {a b c w : World}
theorem PreS.refl (B : Nat) (e : TypeId) (s : Nat) (L : List Value) (a : World) : PreS B e s L a a := ⟨Below.refl _ _, fun _ _ _ h => h, fun _ _ _ h => h, fun _ _ _ _ h => h⟩
theorem PreS.trans (h : PreS B e s L a b) (k : PreS B e s L b c) : PreS B e s L a c := ⟨h.below.trans k.below, fun A n m ho => k.own A n m (h.own A n m ho), fun p cs hn hb => k.one p cs hn (h.one p cs hn hb), fun p e' cs hn hb => k.blk p e' cs hn (h.blk p e' cs hn hb)⟩
theorem PreS.of_more (h : More a b) (hB : B ≤ a.heap.size) : PreS B e s L a b := ⟨h.mono hB, fun _ _ _ ho => ho.more h, fun _ _ _ hb => hb.more h, fun _ _ _ _ hb => hb.more h⟩
theorem PreS.more (h : PreS B e s L a b) (hB : B = a.heap.size) : More a b := by
  subst hB
  exact h.below
variable {P : Program}
theorem app_preS {t ty : TypeId} {z : Value} {bytes n c m c2 : Nat} {A A2 : Option Addr} {xs news : List Value} {K : Value → World → Prop} (ht : P.underlying t = some (.slice e)) (hE : ElemT P e z s bytes) (hzs : z.cells.size = s) (hsz : 0 < s)
    (hown : Own w B e s A n c xs) (hn0 : n = 0 → c = 0) (hsrc : Cs w A2 news) (hl : news.length = m * s) (h1 : ∀ u ∈ news, u.oneCell' = true) (h63 : n + m ≤ maxLen) (hbytes : (n + m) * bytes ≤ 140737488355328) (hB : B ≤ w.heap.size) (hL : xs ++ news = L.take ((n + m) * s))
    (hK : ∀ A' c' w', Own w' B e s A' (n + m) c' (xs ++ news) → (n + m = 0 → c' = 0) → PreS B e s L w w' → Mod (atB A) w w' → (∀ k, atB A' k → atB A k ∨ k = w.heap.size) → K (.slice A' (n + m) c') w') :
    runP P (Builtin.append_ #[t, t] ty #[.slice A n c, .slice A2 m c2]) w K := by
  obtain ⟨i, hi, hz, hs, hby⟩ := info_parts hE
  subst hs
  obtain ⟨_, w1, hrun, A1, c1, rfl, ho1, hm1, hat1⟩ : ∃ v' w', (Builtin.append_ #[t, t] ty #[.slice A n c, .slice A2 m c2]).run P w = .ok v' w' ∧ ∃ A' c', v' = .slice A' (n + m) c' ∧ Own w' B e i.size A' (n + m) c' (xs ++ news) ∧ Mod (atB A) w w' ∧ (∀ k, atB A' k → atB A k ∨ k = w.heap.size) := by
    obtain ⟨v', w', h2, h3⟩ := app_mod (P := P) (ty := ty) (c2 := c2) (K := fun v' w' => ∃ A' c', v' = .slice A' (n + m) c' ∧ Own w' B e i.size A' (n + m) c' (xs ++ news) ∧ Mod (atB A) w w' ∧ (∀ k, atB A' k → atB A k ∨ k = w.heap.size)) ht hE hzs hsz hown hsrc hl h1 h63 hbytes hB fun A' c' w' g1 g2 g3 => ⟨A', c', rfl, g1, g2, g3⟩
    exact ⟨v', w', h2, h3⟩
  suffices hh : (n + m = 0 → c1 = 0) ∧ PreS B e i.size L w w1 from ⟨_, w1, hrun, hK A1 c1 w1 ho1 hh.1 hh.2 hm1 hat1⟩
  have same : More w w1 → PreS B e i.size L w w1 := fun h => PreS.of_more h hB
  have nil0 : A2 = none → news = [] ∧ m = 0 := by
    rintro rfl
    have hn : news = [] := by
      cases news with
      | nil => rfl
      | cons u r =>
        obtain ⟨x, ha, _⟩ := hsrc 0 u rfl
        cases ha
    subst hn
    refine ⟨rfl, ?_⟩
    rcases Nat.eq_zero_or_pos m with h | h
    · exact h
    · have := Nat.mul_pos h hsz
      simp at hl
      omega
  rcases A2 with _ | ad
  · obtain ⟨rfl, rfl⟩ := nil0 rfl
    have h5 := run_app_none (P := P) (c2 := c2) (ty := ty) ht hi hown
    rw [h5] at hrun
    injection hrun with hv hw
    injection hv with _ _ hc
    subst hw hc
    exact ⟨fun h => hn0 (by omega), PreS.refl _ _ _ _ _⟩
  have hnews : ∀ (j : Nat) (u : Value), news[j]? = some u → w.cell? (ad.add j) = some u := by
    intro j u hu
    obtain ⟨x, ha, hc⟩ := hsrc j u hu
    cases ha
    exact hc
  rcases hown.2 with ⟨hv, hn⟩ | ⟨g, cap, cur, hv, hbg, hg, hnc, hcm, hcs, htake⟩
  · injection hv with hA hn' hc
    subst hA
    refine ⟨fun h => ?_, same (hm1.below (fun k _ => atB_none k) (Nat.le_refl _))⟩
    have hm0 : m = 0 := by omega
    subst hm0 hn' hc
    have h5 : (Builtin.append_ #[t, t] ty #[.slice none 0 0, .slice (some ad) 0 c2]).run P w = .ok (.slice none 0 0) w := by
      simp [Builtin.append_, run_underlying ht, sizeOf, typeInfo, hi, Builtin.lenOf, Builtin.firstCells, loadCells, loadCellsFrom]
    rw [h5] at hrun
    injection hrun with hv2 _
    injection hv2 with _ _ hc2
    exact hc2.symm
  injection hv with hA _ hcap
  subst hA hcap
  have hnx : xs.length = n * i.size := hown.1
  have hns : (n + m) * i.size = n * i.size + news.length := by rw [hl, Nat.add_mul]
  by_cases hroom : n + m ≤ c
  · have hfit : n * i.size + news.length ≤ cur.size := by rw [hcs, ← hns]; exact Nat.mul_le_mul_right _ hroom
    have hr := run_append_room (P := P) w t ty e i ht hi g n c cur hg ad m c2 news hl hnews h1 hroom hfit
    rw [hr] at hrun
    injection hrun with hv' hw'
    injection hv' with _ _ hc'
    have hwr : Wr g w w1 := by
      subst hw'
      exact ⟨rfl, rfl, rfl, by simp, fun k hk => setRow_other w g k _ hk⟩
    have hblk : Blk w1 g e (cur.toList.take (n * i.size) ++ news ++ cur.toList.drop (n * i.size + news.length)) := by
      subst hw'
      unfold Blk
      simpa using setRow_heap w g cur (cur.toList.take (n * i.size) ++ news ++ cur.toList.drop (n * i.size + news.length)).toArray e _ hg
    have hgb : Blk w g e cur.toList := by unfold Blk; simpa using hg
    refine ⟨fun h => by rw [← hc']; exact hn0 (by omega), hwr.below (Below.refl _ _) hbg, fun A k c' ho => ?_, fun p cs hn1 hb => ?_, fun p e' cs hne hb => hwr.blk hb fun hp => ?_⟩
    · by_cases hAg : A = some ⟨g, 0, none⟩
      · subst hAg
        rcases ho.2 with ⟨hv2, _⟩ | ⟨g2, cap2, cur2, hv2, hbg2, hg2, hnc2, hcm2, hcs2, htake2⟩
        · cases hv2
        · injection hv2 with hA2 _ hcap2
          injection hA2 with hA2
          injection hA2 with hA2
          subst hA2 hcap2
          rw [hg] at hg2
          injection hg2 with hg2
          injection hg2 with hg2
          subst hg2
          refine ⟨ho.1, .inr ⟨g, c', (cur.toList.take (n * i.size) ++ news ++ cur.toList.drop (n * i.size + news.length)).toArray, rfl, hbg, hblk, hnc2, hcm2, ?_, ?_⟩⟩
          · simp only [List.size_toArray, List.length_append, List.length_take, List.length_drop, Array.length_toList]
            omega
          · rw [htake, hL]
            have hLl : (L.take ((n + m) * i.size)).length = n * i.size + news.length := by rw [← hL, List.length_append, hnx]
            rw [hns] at hLl ⊢
            rcases Nat.le_total (k * i.size) (n * i.size + news.length) with hk | hk
            · rw [List.take_append_of_le_length (by omega), List.take_take, Nat.min_eq_left hk]
            · rw [List.take_append, hLl, List.take_of_length_le (by omega), List.take_drop, show n * i.size + news.length + (k * i.size - (n * i.size + news.length)) = k * i.size by omega, htake2]
              conv => rhs; rw [← List.take_append_drop (n * i.size + news.length) (L.take (k * i.size)), List.take_take, Nat.min_eq_left hk]
      · exact ho.wr hwr fun g' hg' hh => hAg (by rw [hg', hh])
    · by_cases hp : p = g
      · subst hp
        have hcur : cs = cur.toList := by
          unfold Blk at hb hgb
          rw [hgb] at hb
          injection hb with hb
          injection hb with hb
          have := congrArg Array.toList hb
          simpa using this.symm
        subst hcur
        have hc1 : c * i.size = i.size := by rw [← hcs]; simpa using hn1
        have hc2 : c = 1 := Nat.eq_of_mul_eq_mul_right hsz (by rw [hc1, Nat.one_mul])
        have hm0 : m = 0 := by
          rcases Nat.eq_zero_or_pos n with h | h
          · have := hn0 h; omega
          · omega
        subst hm0
        have hnil : news = [] := List.eq_nil_of_length_eq_zero (by simpa using hl)
        subst hnil
        simpa using hblk
      · exact hwr.blk hb hp
    · subst hp
      exact hb.ne hgb hne rfl
  · refine ⟨fun h => by omega, same ?_⟩
    have holds : ∀ j u, xs[j]? = some u → w.cell? ((⟨g, 0, none⟩ : Addr).add j) = some u := by
      intro j u hu
      obtain ⟨x, hx, hc⟩ := hown.cs j u hu
      cases hx
      exact hc
    have hr := run_append_grow (P := P) w t ty e i z ht hi hz ⟨g, 0, none⟩ n c xs hown.1 holds ad m c2 news hl hnews (by omega) (by simp only [maxLen] at h63; omega) (growslice_fits (by omega) (by rw [hby]; exact hbytes))
    rw [hr] at hrun
    injection hrun with _ hw'
    subst hw'
    exact ⟨rfl, rfl, rfl, by simp, fun k hk => heap_alloc_old w.drew _ (by simpa using hk)⟩
end
/-- the first n rows of what is put together -/
def HoldsS (B : Nat) (e : TypeId) (s : Nat) (L : List Value) (n : Nat) (v : Value) (w : World) : Prop := ∃ A c, v = .slice A n c ∧ Own w B e s A n c (L.take (n * s)) ∧ (n = 0 → c = 0)
/-- a slice of one row -/
def OneS (e : TypeId) (row : List Value) (v : Value) (w : World) : Prop := ∃ q : Nat, v = .slice (some ⟨q, 0, none⟩) 1 1 ∧ Blk w q e row
theorem draw_preS {P : Program} {id : Nat} {l : List Oper} {e0 : Env} {w0 : World} {K : Env → World → Prop} (e : TypeId) (s : Nat) (L : List Value) (m : Nat) (D : List (List Nat)) (fs : List (Nat × (Value → World → Prop))) (hm : P.follows .mixedOrders = true) (hD : okD l.toArray D = true) (hT : okT l.toArray D m = true)
    (hst : ∀ x ∈ fs, (∃ n, x.2 = HoldsS w0.heap.size e s L n) ∨ ∃ row : List Value, row.length = s ∧ x.2 = OneS e row)
    (hv : vc P w0.heap.size (PreS w0.heap.size e s L) l.toArray D (RV.look fs) w0 0 (l.take m) e0 [] (Stop (fun e w => opsP P l.toArray (l.drop m) e w K) .mk)) : drawP P id l.toArray e0 w0 K :=
  draw_rg w0.heap.size (PreS w0.heap.size e s L) D _ hm hD (fun _ _ _ h k => h.trans k) (PreS.refl _ e s L) (PreS.of_more (below_drawn _ _) (Nat.le_refl _)) (fun _ h => h.below) (look_all fs fun x hx v a b hab hv => by
    rcases hst x hx with ⟨n, h⟩ | ⟨row, hr, h⟩
    · rw [h] at hv ⊢
      obtain ⟨A, c, h1, h2, h3⟩ := hv
      exact ⟨A, c, h1, hab.own A n c h2, h3⟩
    · rw [h] at hv ⊢
      obtain ⟨q, h1, h2⟩ := hv
      exact ⟨q, h1, hab.one q row hr h2⟩) m hT (by simpa [Stop] using hv)
end Go.Proofs.RV
