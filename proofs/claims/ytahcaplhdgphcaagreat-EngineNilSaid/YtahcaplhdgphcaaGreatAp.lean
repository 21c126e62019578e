/-
  Appends amid a drawn region: what they leave of rows that hold the beginning of what is put together.
-/
import Derived.Test.YtahcaplhdgphcaaGreatFr
namespace Go.Proofs.RV
open Go Go.RowKit
set_option linter.unusedSimpArgs false
set_option linter.unusedVariables false

/-- nothing below B turns, nor a row of N elements or fewer, nor one that holds a beginning of L, nor a block of other elements -/
structure Pre (B : Nat) (e : TypeId) (N : Nat) (L : List Value) (a b : World) : Prop where
  below : Below B a b
  low : ∀ A k c xs, k ≤ N → Own a B e 1 A k c xs → Own b B e 1 A k c xs
  own : ∀ A k c, Own a B e 1 A k c (L.take k) → Own b B e 1 A k c (L.take k)
  blk : ∀ p e' cs, e' ≠ e → Blk a p e' cs → Blk b p e' cs
section
variable {B : Nat} {e : TypeId} {N : Nat} {L : List Value} {a b c w : World}
theorem Pre.refl (B : Nat) (e : TypeId) (N : Nat) (L : List Value) (a : World) : Pre B e N L a a := ⟨Below.refl _ _, fun _ _ _ _ _ h => h, fun _ _ _ h => h, fun _ _ _ _ h => h⟩
theorem Pre.trans (h : Pre B e N L a b) (k : Pre B e N L b c) : Pre B e N L a c := ⟨h.below.trans k.below, fun A n m xs hn ho => k.low A n m xs hn (h.low A n m xs hn ho), fun A n m ho => k.own A n m (h.own A n m ho), fun p e' cs hn hb => k.blk p e' cs hn (h.blk p e' cs hn hb)⟩
theorem Pre.of_more (h : More a b) (hB : B ≤ a.heap.size) : Pre B e N L a b := ⟨h.mono hB, fun _ _ _ _ _ ho => ho.more h, fun _ _ _ ho => ho.more h, fun _ _ _ _ hb => hb.more h⟩
theorem Pre.more (h : Pre B e N L a b) (hB : B = a.heap.size) : More a b := by
  subst hB
  exact h.below
variable {P : Program}
theorem app_pre {t ty : TypeId} {z : Value} {bytes n c m c2 : Nat} {A A2 : Option Addr} {xs news : List Value} {K : Value → World → Prop} (ht : P.underlying t = some (.slice e)) (hE : ElemT P e z 1 bytes) (hzs : z.cells.size = 1)
    (hown : Own w B e 1 A n c xs) (hsrc : Cs w A2 news) (hl : news.length = m) (h1 : ∀ u ∈ news, u.oneCell' = true) (h63 : n + m ≤ maxLen) (hbytes : (n + m) * bytes ≤ 140737488355328) (hB : B ≤ w.heap.size) (hL : xs ++ news = L.take (n + m)) (hN : N ≤ n)
    (hK : ∀ A' c' w', Own w' B e 1 A' (n + m) c' (xs ++ news) → Pre B e N L w w' → Mod (atB A) w w' → (∀ k, atB A' k → atB A k ∨ k = w.heap.size) → K (.slice A' (n + m) c') w') :
    runP P (Builtin.append_ #[t, t] ty #[.slice A n c, .slice A2 m c2]) w K := by
  obtain ⟨i, hi, hz, hs, hby⟩ := info_parts hE
  obtain ⟨_, w1, hrun, A1, c1, rfl, ho1, hm1, hat1⟩ : ∃ v' w', (Builtin.append_ #[t, t] ty #[.slice A n c, .slice A2 m c2]).run P w = .ok v' w' ∧ ∃ A' c', v' = .slice A' (n + m) c' ∧ Own w' B e 1 A' (n + m) c' (xs ++ news) ∧ Mod (atB A) w w' ∧ (∀ k, atB A' k → atB A k ∨ k = w.heap.size) := by
    obtain ⟨v', w', h2, h3⟩ := app_mod (P := P) (ty := ty) (c2 := c2) (K := fun v' w' => ∃ A' c', v' = .slice A' (n + m) c' ∧ Own w' B e 1 A' (n + m) c' (xs ++ news) ∧ Mod (atB A) w w' ∧ (∀ k, atB A' k → atB A k ∨ k = w.heap.size)) ht hE hzs (by omega) hown hsrc (by omega) h1 h63 hbytes hB fun A' c' w' g1 g2 g3 => ⟨A', c', rfl, g1, g2, g3⟩
    exact ⟨v', w', h2, h3⟩
  refine ⟨_, w1, hrun, hK A1 c1 w1 ho1 ?_ hm1 hat1⟩
  have same : More w w1 → Pre B e N L w w1 := fun h => Pre.of_more h hB
  -- nobody's row, or nothing to be put
  rcases hown.2 with ⟨hv, hn⟩ | ⟨g, cap, cur, hv, hbg, hg, hnc, hcm, hcs, htake⟩
  · injection hv with hA
    subst hA
    exact same (hm1.below (fun k _ => atB_none k) (Nat.le_refl _))
  injection hv with hA _ hcap
  subst hA hcap
  rcases A2 with _ | ad
  · have hn : news = [] := by
      cases news with
      | nil => rfl
      | cons u r =>
        obtain ⟨x, ha, _⟩ := hsrc 0 u rfl
        cases ha
    subst hn
    have hm : m = 0 := by simpa using hl.symm
    subst hm
    have h5 := run_app_none (P := P) (c2 := c2) (ty := ty) ht hi hown
    rw [h5] at hrun
    injection hrun with _ hrun
    subst hrun
    exact Pre.refl _ _ _ _ _
  have hnews : ∀ (j : Nat) (u : Value), news[j]? = some u → w.cell? (ad.add j) = some u := by
    intro j u hu
    obtain ⟨x, ha, hc⟩ := hsrc j u hu
    cases ha
    exact hc
  by_cases hroom : n + m ≤ c
  · have hfit : n * i.size + news.length ≤ cur.size := by rw [hs, hcs]; omega
    have hr := run_append_room (P := P) w t ty e i ht hi g n c cur hg ad m c2 news (by rw [hs]; omega) hnews h1 hroom hfit
    rw [hr] at hrun
    injection hrun with hv' hw'
    have hwr : Wr g w w1 := by
      subst hw'
      exact ⟨rfl, rfl, rfl, by simp, fun k hk => setRow_other w g k _ hk⟩
    have hblk : Blk w1 g e (cur.toList.take n ++ news ++ cur.toList.drop (n + news.length)) := by
      subst hw'
      unfold Blk
      rw [hs]
      simpa using setRow_heap w g cur (cur.toList.take (n * 1) ++ news ++ cur.toList.drop (n * 1 + news.length)).toArray e _ hg
    refine ⟨hwr.below (Below.refl _ _) hbg, fun A k c' xs' hkN ho => ?_, fun A k c' ho => ?_, fun p e' cs hne hb => hwr.blk hb fun hp => ?_⟩
    · by_cases hAg : A = some ⟨g, 0, none⟩
      · subst hAg
        rcases ho.2 with ⟨hv2, _⟩ | ⟨g2, cap2, cur2, hv2, hbg2, hg2, hnc2, hcm2, hcs2, htake2⟩
        · cases hv2
        · injection hv2 with hA2 _ hcap2
          injection hA2 with hA2
          injection hA2 with hA2
          subst hA2 hcap2
          rw [hg] at hg2
          injection hg2 with hg2
          injection hg2 with hg2
          subst hg2
          refine ⟨ho.1, .inr ⟨g, c', (cur.toList.take n ++ news ++ cur.toList.drop (n + news.length)).toArray, rfl, hbg, hblk, hnc2, hcm2, ?_, ?_⟩⟩
          · simp only [List.size_toArray, List.length_append, List.length_take, List.length_drop, Array.length_toList]
            omega
          · rw [Nat.mul_one] at htake2 ⊢
            have hcl : (cur.toList.take n).length = n := by rw [List.length_take, Array.length_toList]; omega
            rw [List.append_assoc, List.take_append_of_le_length (by omega), List.take_take, Nat.min_eq_left (by omega)]
            exact htake2
      · exact ho.wr hwr fun g' hg' hh => hAg (by rw [hg', hh])
    · by_cases hAg : A = some ⟨g, 0, none⟩
      · subst hAg
        rcases ho.2 with ⟨hv2, _⟩ | ⟨g2, cap2, cur2, hv2, hbg2, hg2, hnc2, hcm2, hcs2, htake2⟩
        · cases hv2
        · injection hv2 with hA2 _ hcap2
          injection hA2 with hA2
          injection hA2 with hA2
          subst hA2 hcap2
          rw [hg] at hg2
          injection hg2 with hg2
          injection hg2 with hg2
          subst hg2
          refine ⟨ho.1, .inr ⟨g, c', (cur.toList.take n ++ news ++ cur.toList.drop (n + news.length)).toArray, rfl, hbg, hblk, hnc2, hcm2, ?_, ?_⟩⟩
          · simp only [List.size_toArray, List.length_append, List.length_take, List.length_drop, Array.length_toList]
            omega
          · rw [Nat.mul_one] at htake htake2 ⊢
            rw [htake, hL, hl]
            have hLl : (L.take (n + m)).length = n + m := by rw [← hL, List.length_append, hl]; have := hown.1; omega
            rcases Nat.le_total k (n + m) with hk | hk
            · rw [List.take_append_of_le_length (by omega), List.take_take, Nat.min_eq_left hk]
            · rw [List.take_append, hLl, List.take_of_length_le (by omega), List.take_drop, show n + m + (k - (n + m)) = k by omega, htake2]
              conv => rhs; rw [← List.take_append_drop (n + m) (L.take k), List.take_take, Nat.min_eq_left hk]
      · exact ho.wr hwr fun g' hg' hh => hAg (by rw [hg', hh])
    · subst hp
      exact hb.ne (show Blk w p e cur.toList by unfold Blk; simpa using hg) hne rfl
  · have holds : ∀ j u, xs[j]? = some u → w.cell? ((⟨g, 0, none⟩ : Addr).add j) = some u := by
      intro j u hu
      obtain ⟨x, hx, hc⟩ := hown.cs j u hu
      cases hx
      exact hc
    have hr := run_append_grow (P := P) w t ty e i z ht hi hz ⟨g, 0, none⟩ n c xs (by rw [hs]; exact hown.1) holds ad m c2 news (by rw [hs]; omega) hnews (by omega) (by simp only [maxLen] at h63; omega) (growslice_fits (by omega) (by rw [hby]; exact hbytes))
    rw [hr] at hrun
    injection hrun with _ hw'
    refine same ?_
    subst hw'
    exact ⟨rfl, rfl, rfl, by simp, fun k hk => heap_alloc_old w.drew _ (by simpa using hk)⟩
end
/-- a drawn region in which rows are put together -/
theorem draw_pre {P : Program} {id : Nat} {l : List Oper} {e0 : Env} {w0 : World} {K : Env → World → Prop} (e : TypeId) (N : Nat) (L : List Value) (m : Nat) (D : List (List Nat)) (Phi : Nat → Option (Value → World → Prop)) (hm : P.follows .mixedOrders = true) (hD : okD l.toArray D = true) (hT : okT l.toArray D m = true)
    (hst : ∀ k Φ, Phi k = some Φ → ∀ v a b, Pre w0.heap.size e N L a b → Φ v a → Φ v b)
    (hv : vc P w0.heap.size (Pre w0.heap.size e N L) l.toArray D Phi w0 0 (l.take m) e0 [] (Stop (fun e w => opsP P l.toArray (l.drop m) e w K) .mk)) : drawP P id l.toArray e0 w0 K :=
  draw_rg w0.heap.size (Pre w0.heap.size e N L) D Phi hm hD (fun _ _ _ h k => h.trans k) (Pre.refl _ e N L) (Pre.of_more (below_drawn _ _) (Nat.le_refl _)) (fun _ h => h.below) hst m hT (by simpa [Stop] using hv)
/-- the same, where what may turn begins further down -/
theorem draw_preB {P : Program} {id : Nat} {l : List Oper} {e0 : Env} {w0 : World} {K : Env → World → Prop} (B : Nat) (e : TypeId) (N : Nat) (L : List Value) (m : Nat) (D : List (List Nat)) (Phi : Nat → Option (Value → World → Prop)) (hB : B ≤ w0.heap.size) (hm : P.follows .mixedOrders = true) (hD : okD l.toArray D = true) (hT : okT l.toArray D m = true)
    (hst : ∀ k Φ, Phi k = some Φ → ∀ v a b, Pre B e N L a b → Φ v a → Φ v b)
    (hv : vc P B (Pre B e N L) l.toArray D Phi w0 0 (l.take m) e0 [] (Stop (fun e w => opsP P l.toArray (l.drop m) e w K) .mk)) : drawP P id l.toArray e0 w0 K :=
  draw_rg B (Pre B e N L) D Phi hm hD (fun _ _ _ h k => h.trans k) (Pre.refl _ e N L) (Pre.of_more (below_drawn _ _) hB) (fun _ h => h.below) hst m hT (by simpa [Stop] using hv)
theorem look_pre {B : Nat} {e : TypeId} {N : Nat} {L : List Value} : ∀ (l : List (Nat × (Value → World → Prop))), (∀ x ∈ l, ∀ v a b, Pre B e N L a b → x.2 v a → x.2 v b) → ∀ k Φ, look l k = some Φ → ∀ v a b, Pre B e N L a b → Φ v a → Φ v b
  | [], _, k, Φ, h => by cases h
  | (j, Ψ) :: r, hl, k, Φ, h => by
    unfold look at h
    split at h
    · injection h with h
      subst h
      exact hl _ (List.mem_cons_self ..)
    · exact look_pre r (fun x hx => hl x (List.mem_cons_of_mem _ hx)) k Φ h
/-- the value holds the first k of L -/
def Holds (B : Nat) (e : TypeId) (L : List Value) (k : Nat) (v : Value) (w : World) : Prop := ∃ A c, v = .slice A k c ∧ Own w B e 1 A k c (L.take k)
theorem Holds.pre {B : Nat} {e : TypeId} {N : Nat} {L : List Value} {k : Nat} {v : Value} {a b : World} (hp : Pre B e N L a b) (h : Holds B e L k v a) : Holds B e L k v b := by
  obtain ⟨A, c, rfl, ho⟩ := h
  exact ⟨A, c, rfl, hp.own A k c ho⟩
theorem Holds.own {B : Nat} {e : TypeId} {L : List Value} {k n c : Nat} {A : Option Addr} {w : World} (h : Holds B e L k (.slice A n c) w) : n = k ∧ Own w B e 1 A k c (L.take k) := by
  obtain ⟨A', c', hv, ho⟩ := h
  injection hv with h1 h2 h3
  subst h1 h2 h3
  exact ⟨rfl, ho⟩
theorem app_holds {P : Program} {t ty e : TypeId} {z : Value} {bytes B N k k' n c m c2 : Nat} {A A2 : Option Addr} {L news : List Value} {w : World} {K : Value → World → Prop} (ht : P.underlying t = some (.slice e)) (hE : ElemT P e z 1 bytes) (hzs : z.cells.size = 1)
    (hv : Holds B e L k (.slice A n c) w) (hsrc : Cs w A2 news) (hl : news.length = m) (h1 : ∀ u ∈ news, u.oneCell' = true) (h63 : k + m ≤ maxLen) (hbytes : (k + m) * bytes ≤ 140737488355328) (hB : B ≤ w.heap.size) (hL : L.take k ++ news = L.take (k + m)) (hk : k' = k + m) (hN : N ≤ k)
    (hK : ∀ A' c' w', Holds B e L k' (.slice A' k' c') w' → Pre B e N L w w' → K (.slice A' k' c') w') :
    runP P (Builtin.append_ #[t, t] ty #[.slice A n c, .slice A2 m c2]) w K := by
  obtain ⟨hn, ho⟩ := hv.own
  subst hn hk
  refine app_pre ht hE hzs ho hsrc hl h1 h63 hbytes hB hL hN fun A' c' w' g1 g2 _ _ => hK A' c' w' ⟨A', c', rfl, ?_⟩ g2
  rw [← hL]
  exact g1
theorem Holds.made {B : Nat} {e : TypeId} (L : List Value) (w : World) (cs : Array Value) (k : Nat) (hk : cs.size = k) (hL : cs.toList = L.take k) (hm : k ≤ maxLen) (hB : B ≤ w.heap.size) : Holds B e L k (.slice (some ⟨w.heap.size, 0, none⟩) k k) (w.alloc (.cells cs e)) :=
  ⟨_, _, rfl, hL ▸ Own.made w e 1 cs k (by omega) hm hB⟩
end Go.Proofs.RV
