/- Terms of kinds: their form, number, kids; how high they grow; what is known as a map and as two lists. -/
import Derived.Test.YtkjahcegjplbnaaKinT
import Derived.Test.YtkjahcegjplbnaaKinM
set_option linter.unusedVariables false
set_option linter.unusedSimpArgs false
namespace Go.Kn
open Go Go.Eng Go.RowKit
namespace Tm
def form : Tm → Int
  | var _ => 1
  | star => 2
  | arr _ _ => 3
def num : Tm → Int
  | var n => n
  | star => 0
  | arr _ _ => 0
def kids : Tm → List Tm
  | var _ => []
  | star => []
  | arr a b => [a, b]
def ht : Tm → Nat
  | var _ => 0
  | star => 0
  | arr a b => max a.ht b.ht + 1
/-- Its kind: of what is not known, the kind of types. -/
def kd : Tm → Kd
  | var _ => .nil
  | star => .nil
  | arr a b => .cons a.kd b.kd
theorem ht_put {n : Int} {u : Tm} : ∀ t : Tm, (put n u t).ht ≤ t.ht + u.ht
  | var m => by unfold put; split <;> simp [ht]
  | star => by simp [put, ht]
  | arr a b => by
    have h1 := ht_put (n := n) (u := u) a
    have h2 := ht_put (n := n) (u := u) b
    simp only [put, ht]; omega
theorem kd_len : ∀ t : Tm, t.kd.len ≤ t.ht
  | var _ => Nat.zero_le _
  | star => Nat.zero_le _
  | arr a b => by
    have := kd_len b
    simp only [kd, ht, Kd.len]; omega
theorem kd_bind : ∀ t : Tm, (bind (fun _ => star) t).kd = t.kd
  | var _ => rfl
  | star => rfl
  | arr a b => by simp only [bind, kd, kd_bind a, kd_bind b]
theorem kids_ht {t x : Tm} (h : x ∈ t.kids) : x.ht < t.ht := by
  cases t with
  | var _ => cases h
  | star => cases h
  | arr a b =>
    simp only [kids, List.mem_cons, List.not_mem_nil, or_false] at h
    simp only [ht]
    rcases h with rfl | rfl <;> omega
theorem kids_len (t : Tm) : t.kids.length ≤ 2 := by cases t <;> simp [kids]
theorem eq_of {t u : Tm} (hf : t.form = u.form) (hn : t.num = u.num) (hk : t.kids = u.kids) : t = u := by
  cases t <;> cases u <;> simp_all [form, num, kids]
end Tm
/-- How wide a kind is, at its widest. -/
def Kd.wide : Kd → Nat
  | .nil => 0
  | .cons a r => max (r.len + 1) (max a.wide r.wide)
theorem Kd.len_le_wide : ∀ k : Kd, k.len ≤ k.wide
  | .nil => Nat.le_refl _
  | .cons a r => by simp only [Kd.len, Kd.wide]; omega
theorem Kd.nth_wide : ∀ {k : Kd} {i : Nat} {a : Kd}, k.nth i = some a → a.wide ≤ k.wide
  | .nil, i, a, h => by simp [Kd.nth] at h
  | .cons b r, 0, a, h => by simp [Kd.nth] at h; subst h; simp only [Kd.wide]; omega
  | .cons b r, i + 1, a, h => by
    have := nth_wide (k := r) (i := i) (a := a) (by simpa [Kd.nth] using h)
    simp only [Kd.wide]; omega
theorem Tm.kd_wide : ∀ t : Tm, t.kd.wide ≤ t.ht
  | .var _ => Nat.zero_le _
  | .star => Nat.zero_le _
  | .arr a b => by
    have h1 := kd_wide a
    have h2 := kd_wide b
    have h3 := kd_len b
    simp only [Tm.kd, Tm.ht, Kd.wide]; omega
/-! ## What is made one has its bounds -/
theorem Sol.hts {st : St1} {a b : Tm} {r : Except Er St1} (h : Sol st a b r) : ∀ (st' : St1) (B : Nat), r = .ok st' → Idem st → (ap st a).ht ≤ B → (ap st b).ht ≤ B → st.length ≤ st'.length ∧ ∀ t, (ap st t).ht ≤ B → (ap st' t).ht ≤ B * 2 ^ (st'.length - st.length) := by
  induction h with
  | same h1 h2 => rintro _ B ⟨rfl⟩ _ _ _; exact ⟨Nat.le_refl _, fun t ht => by rw [Nat.sub_self]; omega⟩
  | @bindL st a b n u h1 h2 h3 h4 =>
    rintro _ B ⟨rfl⟩ _ _ hb
    refine ⟨by simp, fun t ht => ?_⟩
    rw [ap_snoc, List.length_append, List.length_singleton, show st.length + 1 - st.length = 1 by omega]
    have := Tm.ht_put (n := n) (u := u) (ap st t)
    rw [h2] at hb; omega
  | @bindR st a b n u h1 h2 h3 h4 =>
    rintro _ B ⟨rfl⟩ _ ha _
    refine ⟨by simp, fun t ht => ?_⟩
    rw [ap_snoc, List.length_append, List.length_singleton, show st.length + 1 - st.length = 1 by omega]
    have := Tm.ht_put (n := n) (u := u) (ap st t)
    rw [h2] at ha; omega
  | loopL _ _ _ _ => intro _ _ h; cases h
  | loopR _ _ _ _ => intro _ _ h; cases h
  | star h1 h2 => rintro _ B ⟨rfl⟩ _ _ _; exact ⟨Nat.le_refl _, fun t ht => by rw [Nat.sub_self]; omega⟩
  | kindL _ _ => intro _ _ h; cases h
  | kindR _ _ => intro _ _ h; cases h
  | @arr st st1 a b a1 a2 b1 b2 r h1 h2 s1 s2 ih1 ih2 =>
    intro st' B hr hi ha hb
    obtain ⟨p1, p2⟩ := hi.part h1
    obtain ⟨q1, q2⟩ := hi.part h2
    rw [h1] at ha; rw [h2] at hb
    simp only [Tm.ht] at ha hb
    obtain ⟨l1, k1⟩ := ih1 _ B rfl hi (by rw [p1]; omega) (by rw [q1]; omega)
    obtain ⟨i1, _, _⟩ := s1.made hi _ rfl
    obtain ⟨l2, k2⟩ := ih2 st' (B * 2 ^ (st1.length - st.length)) hr i1 (k1 a2 (by rw [p2]; omega)) (k1 b2 (by rw [q2]; omega))
    refine ⟨by omega, fun t ht => ?_⟩
    have := k2 t (k1 t ht)
    rw [Nat.mul_assoc, ← Nat.pow_add, show st1.length - st.length + (st'.length - st1.length) = st'.length - st.length by omega] at this
    exact this
  | arrE _ _ _ _ => intro _ _ h; cases h
theorem Sol.symm {st : St1} {a b : Tm} {r : Except Er St1} (h : Sol st a b r) : Sol st b a r := by
  induction h with
  | same h1 h2 => exact .same h2 h1
  | bindL h1 h2 h3 h4 => exact .bindR h1 h2 h3 h4
  | bindR h1 h2 h3 h4 => exact .bindL h1 h2 h3 h4
  | loopL h1 h2 h3 h4 => exact .loopR h1 h2 h3 h4
  | loopR h1 h2 h3 h4 => exact .loopL h1 h2 h3 h4
  | star h1 h2 => exact .star h2 h1
  | kindL h1 h2 => exact .kindR h2 h1
  | kindR h1 h2 => exact .kindL h2 h1
  | arr h1 h2 _ _ ih1 ih2 => exact .arr h2 h1 ih1 ih2
  | arrE h1 h2 _ ih => exact .arrE h2 h1 ih
theorem Sol.congr {st : St1} {a b a' b' : Tm} {r : Except Er St1} (h : Sol st a b r) (ha : ap st a' = ap st a) (hb : ap st b' = ap st b) : Sol st a' b' r := by
  cases h with
  | same h1 h2 => exact .same (ha.trans h1) (hb.trans h2)
  | bindL h1 h2 h3 h4 => exact .bindL (ha.trans h1) (hb.trans h2) h3 h4
  | bindR h1 h2 h3 h4 => exact .bindR (hb.trans h1) (ha.trans h2) h3 h4
  | loopL h1 h2 h3 h4 => exact .loopL (ha.trans h1) (hb.trans h2) h3 h4
  | loopR h1 h2 h3 h4 => exact .loopR (hb.trans h1) (ha.trans h2) h3 h4
  | star h1 h2 => exact .star (ha.trans h1) (hb.trans h2)
  | kindL h1 h2 => exact .kindL (ha.trans h1) (hb.trans h2)
  | kindR h1 h2 => exact .kindR (ha.trans h1) (hb.trans h2)
  | arr h1 h2 h3 h4 => exact .arr (ha.trans h1) (hb.trans h2) h3 h4
  | arrE h1 h2 h3 => exact .arrE (ha.trans h1) (hb.trans h2) h3
/-- Each variable that is known is one of these. -/
def Keys (U : List Int) (st : St1) : Prop := ∀ p ∈ st, p.1 ∈ U
theorem Sol.keys {U : List Int} {st : St1} {a b : Tm} {r : Except Er St1} (h : Sol st a b r) (hi : Idem st) (hw : Within U st) (ha : ∀ m ∈ a.vars, m ∈ U) (hb : ∀ m ∈ b.vars, m ∈ U) (hk : Keys U st) : ∀ st', r = .ok st' → Keys U st' := by
  induction h with
  | same _ _ => rintro _ ⟨rfl⟩; exact hk
  | @bindL st a b n u h1 h2 h3 h4 =>
    rintro _ ⟨rfl⟩ p hp
    rcases List.mem_append.1 hp with hp | hp
    · exact hk p hp
    · simp at hp; subst hp
      exact within_ap hw ha n (by rw [h1]; simp [Tm.vars])
  | @bindR st a b n u h1 h2 h3 h4 =>
    rintro _ ⟨rfl⟩ p hp
    rcases List.mem_append.1 hp with hp | hp
    · exact hk p hp
    · simp at hp; subst hp
      exact within_ap hw hb n (by rw [h1]; simp [Tm.vars])
  | loopL _ _ _ _ => intro _ h; cases h
  | loopR _ _ _ _ => intro _ h; cases h
  | star _ _ => rintro _ ⟨rfl⟩; exact hk
  | kindL _ _ => intro _ h; cases h
  | kindR _ _ => intro _ h; cases h
  | @arr st st1 a b a1 a2 b1 b2 r h1 h2 s1 _ ih1 ih2 =>
    intro st' hr
    have va := within_ap hw ha
    have vb := within_ap hw hb
    rw [h1] at va; rw [h2] at vb
    simp only [Tm.vars, List.mem_append] at va vb
    have k1 := ih1 hi hw (fun m hm => va m (.inl hm)) (fun m hm => vb m (.inl hm)) hk _ rfl
    obtain ⟨w1, _⟩ := s1.keeps hi hw (fun m hm => va m (.inl hm)) (fun m hm => vb m (.inl hm)) _ rfl
    obtain ⟨i1, _, _⟩ := s1.made hi _ rfl
    exact ih2 i1 w1 (fun m hm => va m (.inr hm)) (fun m hm => vb m (.inr hm)) k1 _ hr
  | arrE _ _ _ _ => intro _ h; cases h
theorem nodup_len : ∀ (k : Nat) (l : List Int), l.Nodup → (∀ x ∈ l, 1 ≤ x ∧ x ≤ k) → l.length ≤ k
  | 0, l, _, h => by
    cases l with
    | nil => simp
    | cons x l => have := h x (.head _); omega
  | k + 1, l, hn, h => by
    by_cases hm : ((k + 1 : Nat) : Int) ∈ l
    · have h1 := nodup_len k (l.erase ((k + 1 : Nat) : Int)) (hn.erase _) (fun x hx => by
        have h2 := h x (List.mem_of_mem_erase hx)
        have h3 : x ≠ ((k + 1 : Nat) : Int) := (hn.mem_erase_iff.1 hx).1
        omega)
      rw [List.length_erase_of_mem hm] at h1
      have := List.length_pos_of_mem hm
      omega
    · have := nodup_len k l hn (fun x hx => by
        have h2 := h x hx
        have h3 : x ≠ ((k + 1 : Nat) : Int) := fun e => hm (e ▸ hx)
        omega)
      omega
abbrev U5 : List Int := [1, 2, 3, 4, 5]
theorem Kw.len {M : List (Int × Tm)} {st : St1} (h : Kw M st) : M.map (·.1) = st.map (·.1) := by
  induction h with
  | nil => rfl
  | snoc _ _ _ _ _ ih => simp [ih]
theorem Kw.few {M : List (Int × Tm)} {st : St1} (h : Kw M st) (hk : Keys U5 st) : st.length ≤ 5 := by
  have h1 := h.once
  rw [h.len] at h1
  have := nodup_len 5 _ h1 (fun x hx => by
    obtain ⟨p, hp, rfl⟩ := List.mem_map.1 hx
    have := hk p hp
    simp only [U5, List.mem_cons, List.not_mem_nil, or_false] at this
    omega)
  simpa using this
/-- What is known, laid as it was found: of itself. -/
theorem Sol.kw {st : St1} {a b : Tm} {r : Except Er St1} (h : Sol st a b r) (hk : Kw st st) : ∀ st', r = .ok st' → Kw st' st' := by
  induction h with
  | same _ _ => rintro _ ⟨rfl⟩; exact hk
  | @bindL st a b n u h1 h2 h3 h4 =>
    rintro _ ⟨rfl⟩
    have hi := hk.idem
    have f1 : ap st (.var n) = .var n := by have := hi a; rw [h1] at this; exact this
    have f2 : ap st u = u := by have := hi b; rw [h2] at this; exact this
    exact .snoc hk f1 f2 h4 (fun k e => by subst e; exact f2)
  | @bindR st a b n u h1 h2 h3 h4 =>
    rintro _ ⟨rfl⟩
    have hi := hk.idem
    have f1 : ap st (.var n) = .var n := by have := hi b; rw [h1] at this; exact this
    have f2 : ap st u = u := by have := hi a; rw [h2] at this; exact this
    exact .snoc hk f1 f2 h4 (fun k e => by subst e; exact f2)
  | loopL _ _ _ _ => intro _ h; cases h
  | loopR _ _ _ _ => intro _ h; cases h
  | star _ _ => rintro _ ⟨rfl⟩; exact hk
  | kindL _ _ => intro _ h; cases h
  | kindR _ _ => intro _ h; cases h
  | arr h1 h2 _ _ ih1 ih2 => intro st' hr; exact ih2 (ih1 hk _ rfl) _ hr
  | arrE _ _ _ _ => intro _ h; cases h
def code : Except Er St1 → Int
  | .ok _ => 0
  | .error .kind => 30
  | .error .loop => 32
/-! ## In memory -/
/-- A slice of n terms. -/
def TmSl (V : Vw) (v : Value) (ts : List Tm) : Prop := ∃ a c b off, v = .slice a ts.length c ∧ ts.length ≤ c ∧ c ≤ maxLen ∧ (0 < ts.length → a = some ⟨b, off, none⟩) ∧ ∀ (i : Nat) x, ts[i]? = some x → ∃ xs, VRow V b (off + i * 3) xs ∧ TmV V x xs
theorem TmSl.le {V V' : Vw} {v : Value} {ts : List Tm} (h : TmSl V v ts) (hv : VLe V V') : TmSl V' v ts := by
  obtain ⟨a, c, b, off, h1, h2, h3, h4, h5⟩ := h
  exact ⟨a, c, b, off, h1, h2, h3, h4, fun i x hx => by obtain ⟨xs, g1, g2⟩ := h5 i x hx; exact ⟨xs, g1.le hv, g2.le hv⟩⟩
theorem TmV.open {V : Vw} {t : Tm} {cs : List Value} (h : TmV V t cs) : ∃ v, cs = [.int .i64 t.form, .int .i64 t.num, v] ∧ TmSl V v t.kids ∧ (I64 t.form ∧ I64 t.num) := by
  cases t with
  | var n =>
    obtain ⟨a, c, rfl, hc, hn⟩ := h
    exact ⟨_, rfl, ⟨a, c, 0, 0, rfl, Nat.zero_le _, hc, fun h => absurd h (by simp [Tm.kids]), fun i x hx => by simp [Tm.kids] at hx⟩, by simp [Tm.form, I64], hn⟩
  | star =>
    obtain ⟨a, c, rfl, hc⟩ := h
    exact ⟨_, rfl, ⟨a, c, 0, 0, rfl, Nat.zero_le _, hc, fun h => absurd h (by simp [Tm.kids]), fun i x hx => by simp [Tm.kids] at hx⟩, by simp [Tm.form, I64], by simp [Tm.num, I64]⟩
  | arr x y =>
    obtain ⟨b, off, c, xs, ys, rfl, h2, h3, h4, h5, h6, h7⟩ := h
    refine ⟨_, rfl, ⟨_, c, b, off, rfl, h2, h3, fun _ => rfl, fun i z hz => ?_⟩, by simp [Tm.form, I64], by simp [Tm.num, I64]⟩
    match i, hz with
    | 0, hz => simp [Tm.kids] at hz; subst hz; exact ⟨xs, h4, h6⟩
    | 1, hz => simp [Tm.kids] at hz; subst hz; exact ⟨ys, h5, h7⟩
theorem TmV.of {V : Vw} {t : Tm} {v : Value} (h : TmSl V v t.kids) (hn : I64 t.num) : TmV V t [.int .i64 t.form, .int .i64 t.num, v] := by
  obtain ⟨a, c, b, off, rfl, h2, h3, h4, h5⟩ := h
  cases t with
  | var n => exact ⟨a, c, rfl, h3, hn⟩
  | star => exact ⟨a, c, rfl, h3⟩
  | arr x y =>
    obtain ⟨xs, g1, g2⟩ := h5 0 x rfl
    obtain ⟨ys, g3, g4⟩ := h5 1 y rfl
    have h4 := h4 (by simp [Tm.kids])
    subst h4
    exact ⟨b, off, c, xs, ys, rfl, h2, h3, g1, g3, g2, g4⟩
/-- These cells are these terms, one behind the other. -/
def TmsO (V : Vw) (ts : List Tm) (xs : List Value) : Prop := xs.length = ts.length * 3 ∧ ∀ (i : Nat) x, ts[i]? = some x → ∃ ys, ORow xs (i * 3) ys ∧ TmV V x ys
theorem TmsO.nil (V : Vw) : TmsO V [] [] := ⟨rfl, fun i x h => by simp at h⟩
theorem TmsO.le {V V' : Vw} {ts : List Tm} {xs : List Value} (h : TmsO V ts xs) (hv : VLe V V') : TmsO V' ts xs := ⟨h.1, fun i x hx => by obtain ⟨ys, g1, g2⟩ := h.2 i x hx; exact ⟨ys, g1, g2.le hv⟩⟩
theorem TmsO.snoc {V : Vw} {ts : List Tm} {xs ys : List Value} {x : Tm} (h : TmsO V ts xs) (hx : TmV V x ys) : TmsO V (ts ++ [x]) (xs ++ ys) := by
  refine ⟨by have := h.1; have := hx.len; simp; omega, fun i z hz => ?_⟩
  rcases Nat.lt_trichotomy i ts.length with hi | hi | hi
  · rw [List.getElem?_append_left hi] at hz
    obtain ⟨zs, g1, g2⟩ := h.2 i z hz
    refine ⟨zs, fun j u hj => ?_, g2⟩
    have h1 := g1 j u hj
    rw [List.getElem?_append_left (List.getElem?_eq_some_iff.1 h1).1]; exact h1
  · subst hi
    rw [List.getElem?_append_right (Nat.le_refl _)] at hz
    simp at hz; subst hz
    refine ⟨ys, fun j u hj => ?_, hx⟩
    rw [List.getElem?_append_right (by rw [h.1]; omega), h.1, Nat.add_sub_cancel_left]; exact hj
  · have := (List.getElem?_eq_some_iff.1 hz).1
    simp at this; omega
/-- A slice of the call's own, frozen. -/
theorem TmsO.frozen {V V' : Vw} {ts : List Tm} {xs : List Value} {a : Option Addr} {n c b : Nat} (h : TmsO V ts xs) (hv : VLe V V') (hn : n = ts.length) (h2 : n ≤ c) (h3 : c ≤ maxLen) (h4 : 0 < n → a = some ⟨b, 0, none⟩) (h5 : ∀ (i : Nat) u, xs[i]? = some u → V' ⟨b, 0 + i, none⟩ = some u) : TmSl V' (.slice a n c) ts := by
  subst hn
  refine ⟨a, c, b, 0, rfl, h2, h3, h4, fun i x hx => ?_⟩
  obtain ⟨ys, g1, g2⟩ := h.2 i x hx
  refine ⟨ys, fun j u hj => ?_, g2.le hv⟩
  rw [Nat.add_assoc]
  exact h5 _ u (g1 j u hj)
theorem TmsO.one {V : Vw} {ts : List Tm} {xs : List Value} (h : TmsO V ts xs) : ∀ u ∈ xs, u.oneCell' = true := by
  intro u hu
  obtain ⟨k, hk⟩ := List.mem_iff_getElem?.1 hu
  have hlt := (List.getElem?_eq_some_iff.1 hk).1
  have hd : k / 3 < ts.length := by have := h.1; omega
  obtain ⟨ys, g1, g2⟩ := h.2 (k / 3) _ (List.getElem?_eq_getElem hd)
  have hl := g2.len
  have hm : k % 3 < ys.length := by omega
  have h2 := g1 (k % 3) _ (List.getElem?_eq_getElem hm)
  rw [show k / 3 * 3 + k % 3 = k by omega, hk] at h2
  cases h2
  exact List.all_eq_true.1 g2.one _ (List.getElem_mem hm)
/-- The cells of a slice of terms, as a list. -/
theorem TmSl.cells {V : Vw} : ∀ {ts : List Tm} {b off : Nat}, (∀ (i : Nat) x, ts[i]? = some x → ∃ xs, VRow V b (off + i * 3) xs ∧ TmV V x xs) → ∃ us, TmsO V ts us ∧ ∀ (j : Nat) u, us[j]? = some u → V ⟨b, off + j, none⟩ = some u
  | [], b, off, _ => ⟨[], TmsO.nil V, fun j u h => by simp at h⟩
  | t :: ts, b, off, h => by
    obtain ⟨xs, g1, g2⟩ := h 0 t rfl
    obtain ⟨us, k1, k2⟩ := TmSl.cells (ts := ts) (b := b) (off := off + 3) (fun i x hx => by
      obtain ⟨ys, e1, e2⟩ := h (i + 1) x (by simpa using hx)
      exact ⟨ys, by rw [show off + 3 + i * 3 = off + (i + 1) * 3 by omega]; exact e1, e2⟩)
    have hl := g2.len
    refine ⟨xs ++ us, ⟨by have := k1.1; simp; omega, fun i x hx => ?_⟩, fun j u hj => ?_⟩
    · cases i with
      | zero =>
        simp at hx; subst hx
        refine ⟨xs, fun j u hj => ?_, g2⟩
        rw [Nat.zero_mul, Nat.zero_add, List.getElem?_append_left (List.getElem?_eq_some_iff.1 hj).1]; exact hj
      | succ i =>
        obtain ⟨ys, e1, e2⟩ := k1.2 i x (by simpa using hx)
        refine ⟨ys, fun j u hj => ?_, e2⟩
        rw [List.getElem?_append_right (by omega), show (i + 1) * 3 + j - xs.length = i * 3 + j by omega]
        exact e1 j u hj
    · rcases Nat.lt_or_ge j 3 with h3 | h3
      · rw [List.getElem?_append_left (by omega)] at hj
        have := g1 j u hj
        rwa [Nat.zero_mul, Nat.add_zero] at this
      · rw [List.getElem?_append_right (by omega), hl] at hj
        have := k2 (j - 3) u hj
        rwa [show off + 3 + (j - 3) = off + j by omega] at this
theorem TmSl.ofO {V : Vw} {ts : List Tm} {us : List Value} {a : Option Addr} {n c b off : Nat} (h : TmsO V ts us) (hn : n = ts.length) (h2 : n ≤ c) (h3 : c ≤ maxLen) (h4 : 0 < n → a = some ⟨b, off, none⟩) (h5 : ∀ (j : Nat) u, us[j]? = some u → V ⟨b, off + j, none⟩ = some u) : TmSl V (.slice a n c) ts := by
  subst hn
  refine ⟨a, c, b, off, rfl, h2, h3, h4, fun i x hx => ?_⟩
  obtain ⟨ys, g1, g2⟩ := h.2 i x hx
  refine ⟨ys, fun j u hj => ?_, g2⟩
  rw [Nat.add_assoc]
  exact h5 _ u (g1 j u hj)
end Go.Kn
