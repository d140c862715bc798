/- What the groups are: each thing in just one, those that use one another together, what is used ahead. No program in sight. -/
import Derived.Test.YtgiifodmbckbmaaSccS
set_option linter.unusedVariables false
set_option linter.unusedSimpArgs false
namespace Go.Scc
theorem mem_grp {n : Int} {ls : List (List Int)} {i : Nat} {x : Int} : x ∈ grpTo n ls i n.toNat ↔ ∃ y : Nat, x = y ∧ y < n.toNat ∧ both n ls i y = true := by
  unfold grpTo
  simp only [List.mem_map, List.mem_filter, List.mem_range]
  constructor
  · rintro ⟨a, ⟨h1, h2⟩, rfl⟩; exact ⟨a, rfl, h1, h2⟩
  · rintro ⟨a, rfl, h1, h2⟩; exact ⟨a, ⟨h1, h2⟩, rfl⟩
theorem grp_nodup (n : Int) (ls : List (List Int)) (i k : Nat) : (grpTo n ls i k).Nodup := by
  unfold grpTo
  refine List.Pairwise.map Int.ofNat (fun a b h => ?_) ((List.nodup_range).filter _)
  intro e; exact h (Int.ofNat.inj e)
theorem rB_refl {n : Int} {ls : List (List Int)} {i : Nat} (hi : i < n.toNat) : rB n ls i i = true := rB_iff.2 ⟨by omega, by omega, by omega, by omega, .refl _⟩
def reachC (n : Int) (ls : List (List Int)) (i : Nat) : Nat := ((List.range n.toNat).filter fun k : Nat => rB n ls (i : Int) (k : Int)).length
theorem filter_lt {α : Type} {p q : α → Bool} : ∀ {l : List α}, (∀ a ∈ l, p a = true → q a = true) → (∃ a ∈ l, p a = false ∧ q a = true) → (l.filter p).length < (l.filter q).length
  | [], _, h => by obtain ⟨a, ha, _⟩ := h; cases ha
  | b :: l, h, h' => by
    have hle : (l.filter p).length ≤ (l.filter q).length := by
      clear h'
      induction l with
      | nil => simp
      | cons c l ih =>
        have ih' := ih (fun a ha => h a (by simp at ha ⊢; rcases ha with rfl | ha; exact .inl rfl; exact .inr (.inr ha)))
        have hc := h c (by simp)
        cases hp : p c <;> cases hq : q c <;> simp_all <;> omega
    obtain ⟨a, ha, h1, h2⟩ := h'
    have hb := h b (by simp)
    rcases List.mem_cons.1 ha with rfl | ha'
    · simp [h1, h2]; omega
    · have := filter_lt (l := l) (fun a ha => h a (by simp [ha])) ⟨a, ha', h1, h2⟩
      cases hp : p b <;> cases hq : q b <;> simp_all <;> omega
/-- Where something is not told yet, something can be told. -/
theorem nextG_some {n : Int} {ls : List (List Int)} {T : List Bool} : ∀ (m i : Nat), reachC n ls i ≤ m → i < n.toNat → T.getD i false = false → ∃ j, nextG n ls T = some j
  | m, i, hm, hi, hT => by
    by_cases hr : readyB n ls T i = true
    · unfold nextG
      cases hf : (List.range n.toNat).find? (pickB n ls T) with
      | some j => exact ⟨j, rfl⟩
      | none =>
        rw [List.find?_eq_none] at hf
        have := hf i (by simpa using hi)
        unfold pickB at this
        rw [hT, hr] at this
        simp at this
    · have : ∃ k, k < n.toNat ∧ keeps n ls T i k = true := by
        apply Classical.byContradiction
        intro h
        apply hr
        rw [readyB_iff]
        intro k hk
        cases hkk : keeps n ls T i k with
        | false => rfl
        | true => exact absurd ⟨k, hk, hkk⟩ h
      obtain ⟨k, hk, hkk⟩ := this
      unfold keeps at hkk
      simp only [Bool.and_eq_true, Bool.not_eq_true'] at hkk
      obtain ⟨⟨h1, h2⟩, h3⟩ := hkk
      have hlt : reachC n ls k < reachC n ls i := by
        unfold reachC
        refine filter_lt (fun a _ ha => rB_trans h1 ha) ⟨i, by simpa using hi, h3, rB_refl hi⟩
      cases m with
      | zero => omega
      | succ m => exact nextG_some m k (by omega) hk h2
structure Told (n : Int) (ls : List (List Int)) (T : List Bool) : Prop where
  len : T.length = n.toNat
  whole : Whole n ls T
  closed : ∀ i k : Nat, i < n.toNat → k < n.toNat → T.getD i false = true → rB n ls i k = true → T.getD k false = true
theorem mark_getD {n : Int} {ls : List (List Int)} {i x : Nat} {T : List Bool} (hx : x < n.toNat) : (markTo n ls i n.toNat T).getD x false = (T.getD x false || both n ls i x) := by
  rw [List.getD_eq_getElem?_getD, markTo_get hx]; simp [hx]
theorem pick_of {n : Int} {ls : List (List Int)} {T : List Bool} {i : Nat} (h : nextG n ls T = some i) : i < n.toNat ∧ T.getD i false = false ∧ readyB n ls T i = true := by
  unfold nextG at h
  have h1 := List.find?_some h
  have h2 := List.mem_of_find?_eq_some h
  unfold pickB at h1
  simp only [Bool.and_eq_true, Bool.not_eq_true'] at h1
  exact ⟨by simpa using h2, h1.1, h1.2⟩
theorem ready_get {n : Int} {ls : List (List Int)} {T : List Bool} {i y : Nat} (h : readyB n ls T i = true) (hy : y < n.toNat) (hr : rB n ls i y = true) : T.getD y false = true ∨ both n ls i y = true := by
  have := readyB_iff.1 h y hy
  unfold keeps at this
  unfold both
  rw [hr] at this ⊢
  cases h1 : T.getD y false with
  | true => exact .inl rfl
  | false =>
    rw [h1] at this
    right
    cases h2 : rB n ls y i with
    | true => rfl
    | false => rw [h2] at this; simp at this
theorem told_mark {n : Int} {ls : List (List Int)} {T : List Bool} {i : Nat} (h : Told n ls T) (hi : nextG n ls T = some i) : Told n ls (markTo n ls i n.toNat T) := by
  obtain ⟨h1, h2, h3⟩ := pick_of hi
  refine ⟨markTo_len _ _ _ _ _, whole_mark h.whole h1, fun a k ha hk hT hr => ?_⟩
  rw [mark_getD hk]
  rw [mark_getD ha] at hT
  rw [Bool.or_eq_true] at hT ⊢
  rcases hT with hT | hT
  · exact .inl (h.closed a k ha hk hT hr)
  · refine ready_get h3 hk (rB_trans ?_ hr)
    unfold both at hT; rw [Bool.and_eq_true] at hT; exact hT.1
theorem gs_spec {n : Int} {ls : List (List Int)} : ∀ (f : Nat) (T : List Bool), Told n ls T → n.toNat - T.count true < f →
    (∀ (j : Nat) g, (gs n ls f T)[j]? = some g → ∃ i, i < n.toNat ∧ T.getD i false = false ∧ g = grpTo n ls i n.toNat) ∧
    (∀ x : Nat, x < n.toNat → T.getD x false = false → ∃ (j : Nat) (g : List Int), (gs n ls f T)[j]? = some g ∧ (x : Int) ∈ g) ∧
    (∀ (j k : Nat) (g h : List Int) (x : Int), (gs n ls f T)[j]? = some g → (gs n ls f T)[k]? = some h → x ∈ g → x ∈ h → j = k) ∧
    (∀ (j : Nat) (g : List Int) (x y : Nat), (gs n ls f T)[j]? = some g → (x : Int) ∈ g → y < n.toNat → rB n ls x y = true → T.getD y false = true ∨ ∃ (k : Nat) (h : List Int), k ≤ j ∧ (gs n ls f T)[k]? = some h ∧ (y : Int) ∈ h)
  | 0, T, hT, hf => by omega
  | f + 1, T, hT, hf => by
    cases hn : nextG n ls T with
    | none =>
      have e : gs n ls (f + 1) T = [] := by simp only [gs, hn]
      rw [e]
      refine ⟨fun j g h => by simp at h, fun x hx hTx => ?_, fun j k g h x h1 => by simp at h1, fun j g x y h => by simp at h⟩
      obtain ⟨j, hj⟩ := nextG_some (T := T) _ x (Nat.le_refl (reachC n ls x)) hx hTx
      rw [hn] at hj; cases hj
    | some i =>
      obtain ⟨h1, h2, h3⟩ := pick_of hn
      have e : gs n ls (f + 1) T = grpTo n ls i n.toNat :: gs n ls f (markTo n ls i n.toNat T) := by simp only [gs, hn]
      have hT' := told_mark hT hn
      have hcnt := markTo_count (ls := ls) hT.len h1 h2
      have hcl := count_le (markTo n ls i n.toNat T)
      rw [hT'.len] at hcl
      obtain ⟨i1, i2, i3, i4⟩ := gs_spec f (markTo n ls i n.toNat T) hT' (by omega)
      rw [e]
      have hap : ∀ (j : Nat) (h : List Int) (x : Int), (gs n ls f (markTo n ls i n.toNat T))[j]? = some h → x ∈ grpTo n ls i n.toNat → x ∈ h → False := by
        intro j h x hj hx hh
        obtain ⟨i', e1, e2, rfl⟩ := i1 j h hj
        obtain ⟨y, rfl, hy, hb⟩ := mem_grp.1 hx
        obtain ⟨y', hyy, hy', hb'⟩ := mem_grp.1 hh
        have : y' = y := by omega
        subst this
        have hw := hT'.whole i' y' e1 hy hb'
        rw [e2, mark_getD hy, hb] at hw
        simp at hw
      refine ⟨fun j g h => ?_, fun x hx hTx => ?_, fun j k g h x hj hk hg hh => ?_, fun j g x y hj hg hy hr => ?_⟩
      · cases j with
        | zero => simp at h; exact ⟨i, h1, h2, h.symm⟩
        | succ j =>
          obtain ⟨i', e1, e2, e3⟩ := i1 j g (by simpa using h)
          rw [mark_getD e1] at e2
          simp only [Bool.or_eq_false_iff] at e2
          exact ⟨i', e1, e2.1, e3⟩
      · cases hb : both n ls i x with
        | true => exact ⟨0, _, rfl, mem_grp.2 ⟨x, rfl, hx, hb⟩⟩
        | false =>
          obtain ⟨j, g, e1, e2⟩ := i2 x hx (by rw [mark_getD hx, hTx, hb]; rfl)
          exact ⟨j + 1, g, by simpa using e1, e2⟩
      · cases j with
        | zero =>
          cases k with
          | zero => rfl
          | succ k => simp at hj; subst hj; exact (hap k h x (by simpa using hk) hg hh).elim
        | succ j =>
          cases k with
          | zero => simp at hk; subst hk; exact (hap j g x (by simpa using hj) hh hg).elim
          | succ k => rw [i3 j k g h x (by simpa using hj) (by simpa using hk) hg hh]
      · cases j with
        | zero =>
          simp at hj; subst hj
          obtain ⟨x', hx', hx2, hb⟩ := mem_grp.1 hg
          have : x = x' := by omega
          subst this
          have hb1 := hb
          unfold both at hb1; rw [Bool.and_eq_true] at hb1
          rcases ready_get h3 hy (rB_trans hb1.1 hr) with h | h
          · exact .inl h
          · exact .inr ⟨0, _, Nat.le_refl _, rfl, mem_grp.2 ⟨y, rfl, hy, h⟩⟩
        | succ j =>
          rcases i4 j g x y (by simpa using hj) hg hy hr with h | ⟨k, h, e1, e2, e3⟩
          · rw [mark_getD hy, Bool.or_eq_true] at h
            rcases h with h | h
            · exact .inl h
            · exact .inr ⟨0, _, by omega, rfl, mem_grp.2 ⟨y, rfl, hy, h⟩⟩
          · exact .inr ⟨k + 1, h, by omega, by simpa using e2, e3⟩
theorem told_none (n : Int) (ls : List (List Int)) : Told n ls (List.replicate n.toNat false) := by
  have h : ∀ i, (List.replicate n.toNat false).getD i false = false := fun i => by
    rw [List.getD_eq_getElem?_getD, List.getElem?_replicate]; split <;> rfl
  exact ⟨by simp, fun a b _ _ _ => by rw [h, h], fun a b _ _ hT => by rw [h] at hT; cases hT⟩
theorem groups_spec (n : Int) (ls : List (List Int)) :
    (∀ (j : Nat) g, (groups n ls)[j]? = some g → ∃ i, i < n.toNat ∧ g = grpTo n ls i n.toNat) ∧
    (∀ x : Nat, x < n.toNat → ∃ (j : Nat) (g : List Int), (groups n ls)[j]? = some g ∧ (x : Int) ∈ g) ∧
    (∀ (j k : Nat) (g h : List Int) (x : Int), (groups n ls)[j]? = some g → (groups n ls)[k]? = some h → x ∈ g → x ∈ h → j = k) ∧
    (∀ (j : Nat) (g : List Int) (x y : Nat), (groups n ls)[j]? = some g → (x : Int) ∈ g → y < n.toNat → rB n ls x y = true → ∃ (k : Nat) (h : List Int), k ≤ j ∧ (groups n ls)[k]? = some h ∧ (y : Int) ∈ h) := by
  have h : ∀ i, (List.replicate n.toNat false).getD i false = false := fun i => by
    rw [List.getD_eq_getElem?_getD, List.getElem?_replicate]; split <;> rfl
  obtain ⟨h1, h2, h3, h4⟩ := gs_spec (n.toNat + 1) _ (told_none n ls) (by omega)
  refine ⟨fun j g hg => ?_, fun x hx => h2 x hx (h x), h3, fun j g x y a b c d => ?_⟩
  · obtain ⟨i, e1, _, e3⟩ := h1 j g hg; exact ⟨i, e1, e3⟩
  · rcases h4 j g x y a b c d with e | e
    · rw [h] at e; cases e
    · exact e
theorem groups_range {n : Int} {ls : List (List Int)} {j : Nat} {g : List Int} {x : Int} (h : (groups n ls)[j]? = some g) (hx : x ∈ g) : 0 ≤ x ∧ x < n := by
  obtain ⟨i, hi, rfl⟩ := (groups_spec n ls).1 j g h
  obtain ⟨y, rfl, hy, _⟩ := mem_grp.1 hx
  omega
theorem groups_all {n : Int} (ls : List (List Int)) {x : Int} (h0 : 0 ≤ x) (h1 : x < n) : ∃ (j : Nat) (g : List Int), (groups n ls)[j]? = some g ∧ x ∈ g := by
  obtain ⟨j, g, e1, e2⟩ := (groups_spec n ls).2.1 x.toNat (by omega)
  rw [show ((x.toNat : Nat) : Int) = x by omega] at e2
  exact ⟨j, g, e1, e2⟩
theorem groups_nodup {n : Int} {ls : List (List Int)} {j : Nat} {g : List Int} (h : (groups n ls)[j]? = some g) : g.Nodup := by
  obtain ⟨i, hi, rfl⟩ := (groups_spec n ls).1 j g h
  exact grp_nodup _ _ _ _
theorem groups_both {n : Int} {ls : List (List Int)} {j : Nat} {g : List Int} {x y : Int} (h : (groups n ls)[j]? = some g) (hx : x ∈ g) : y ∈ g ↔ rB n ls x y = true ∧ rB n ls y x = true := by
  obtain ⟨i, hi, rfl⟩ := (groups_spec n ls).1 j g h
  obtain ⟨a, rfl, ha, hab⟩ := mem_grp.1 hx
  constructor
  · intro hy
    obtain ⟨b, rfl, hb, hbb⟩ := mem_grp.1 hy
    have := both_trans (both_symm hab) hbb
    unfold both at this
    rwa [Bool.and_eq_true] at this
  · rintro ⟨h1, h2⟩
    have hr := rB_iff.1 h1
    refine mem_grp.2 ⟨y.toNat, by omega, by omega, both_trans hab ?_⟩
    unfold both
    rw [show ((y.toNat : Nat) : Int) = y by omega, h1, h2]; rfl
theorem groups_ahead {n : Int} {ls : List (List Int)} {j k : Nat} {g h : List Int} {x y : Int} (hj : (groups n ls)[j]? = some g) (hx : x ∈ g) (hr : rB n ls x y = true) (hk : (groups n ls)[k]? = some h) (hy : y ∈ h) : k ≤ j := by
  have h1 := groups_range hj hx
  have h2 := groups_range hk hy
  obtain ⟨k', h', e1, e2, e3⟩ := (groups_spec n ls).2.2.2 j g x.toNat y.toNat hj (by rwa [show ((x.toNat : Nat) : Int) = x by omega]) (by omega) (by rwa [show ((x.toNat : Nat) : Int) = x by omega, show ((y.toNat : Nat) : Int) = y by omega])
  rw [show ((y.toNat : Nat) : Int) = y by omega] at e3
  have := (groups_spec n ls).2.2.1 k k' h h' y hk e2 hy e3
  omega
theorem groups_one {n : Int} {ls : List (List Int)} {j k : Nat} {g h : List Int} {x : Int} (hj : (groups n ls)[j]? = some g) (hk : (groups n ls)[k]? = some h) (hx : x ∈ g) (hy : x ∈ h) : j = k :=
  (groups_spec n ls).2.2.1 j k g h x hj hk hx hy
/-- The groups are told by who leads to whom alone. -/
theorem groups_congr {n : Int} {ls ls' : List (List Int)} (h : ∀ i k : Int, rB n ls i k = rB n ls' i k) : groups n ls = groups n ls' := by
  have hk : keeps n ls = keeps n ls' := by funext T i k; unfold keeps; rw [h, h]
  have hb : both n ls = both n ls' := by funext i k; unfold both; rw [h, h]
  have hr : readyB n ls = readyB n ls' := by funext T i; unfold readyB; rw [hk]
  have hp : pickB n ls = pickB n ls' := by funext T i; unfold pickB; rw [hr]
  have hg : grpTo n ls = grpTo n ls' := by funext i k; unfold grpTo; rw [hb]
  have hm : markTo n ls = markTo n ls' := by funext i k T; unfold markTo; rw [hb]
  have hn : nextG n ls = nextG n ls' := by funext T; unfold nextG; rw [hp]
  have hgs : ∀ f T, gs n ls f T = gs n ls' f T := by
    intro f
    induction f with
    | zero => intro T; rfl
    | succ f ih => intro T; simp only [gs, hn, hg, hm, ih]
  unfold groups; rw [hgs]
end Go.Scc
