/- How kinds read in memory; strings.Builder's methods. -/
import Derived.Test.YtkjahcegjplbnaaKinW1
import Derived.Test.YtkjahcegjplbnaaKinG
set_option linter.unusedVariables false
set_option linter.unusedSimpArgs false
namespace Go.Kn
open Go Go.Eng Go.RowKit
/-- From place off of block b on stand the lists of these kinds. -/
def KEls (V : Vw) : Kd → Nat → Nat → Prop
  | .nil, _, _ => True
  | .cons a r, b, off => (∃ A c b' o', V ⟨b, off, none⟩ = some (.slice A a.len c) ∧ a.len ≤ c ∧ c ≤ maxLen ∧ (0 < a.len → A = some ⟨b', o', none⟩) ∧ KEls V a b' o') ∧ KEls V r b (off + 1)
/-- v is a slice of these kinds. -/
def KSl (V : Vw) (v : Value) (k : Kd) : Prop := ∃ A c b off, v = .slice A k.len c ∧ k.len ≤ c ∧ c ≤ maxLen ∧ (0 < k.len → A = some ⟨b, off, none⟩) ∧ KEls V k b off
theorem KEls.mono {V V' : Vw} (hm : ∀ a x, V a = some x → V' a = some x) : ∀ {k : Kd} {b off : Nat}, KEls V k b off → KEls V' k b off
  | .nil, _, _, _ => trivial
  | .cons a r, b, off, h => by
    obtain ⟨⟨A, c, b', o', h1, h2, h3, h4, h5⟩, h6⟩ := h
    exact ⟨⟨A, c, b', o', hm _ _ h1, h2, h3, h4, h5.mono hm⟩, h6.mono hm⟩
theorem KSl.mono {V V' : Vw} {v : Value} {k : Kd} (h : KSl V v k) (hm : ∀ a x, V a = some x → V' a = some x) : KSl V' v k := by
  obtain ⟨A, c, b, off, h1, h2, h3, h4, h5⟩ := h
  exact ⟨A, c, b, off, h1, h2, h3, h4, h5.mono hm⟩
theorem KEls.get {V : Vw} : ∀ {k : Kd} {b off i : Nat} {a : Kd}, KEls V k b off → k.nth i = some a → ∃ u, V ⟨b, off + i, none⟩ = some u ∧ KSl V u a
  | .nil, b, off, i, a, _, hn => by simp [Kd.nth] at hn
  | .cons x r, b, off, 0, a, h, hn => by
    simp [Kd.nth] at hn
    subst hn
    obtain ⟨⟨A, c, b', o', h1, h2, h3, h4, h5⟩, _⟩ := h
    exact ⟨_, h1, A, c, b', o', rfl, h2, h3, h4, h5⟩
  | .cons x r, b, off, i + 1, a, h, hn => by
    obtain ⟨u, h1, h2⟩ := KEls.get (k := r) (i := i) h.2 hn
    exact ⟨u, by rw [show off + (i + 1) = off + 1 + i by omega]; exact h1, h2⟩
theorem KEls.of {V : Vw} : ∀ {k : Kd} {b off : Nat}, (∀ (i : Nat) a, k.nth i = some a → ∃ u, V ⟨b, off + i, none⟩ = some u ∧ KSl V u a) → KEls V k b off
  | .nil, _, _, _ => trivial
  | .cons x r, b, off, h => by
    obtain ⟨u, h1, A, c, b', o', rfl, h2, h3, h4, h5⟩ := h 0 x rfl
    refine ⟨⟨A, c, b', o', h1, h2, h3, h4, h5⟩, KEls.of fun i a hi => ?_⟩
    rw [show off + 1 + i = off + (i + 1) by omega]
    exact h (i + 1) a (by simpa [Kd.nth] using hi)
theorem KSl.nil (V : Vw) {c : Nat} (A : Option Addr) (hc : c ≤ maxLen) : KSl V (.slice A 0 c) .nil := ⟨A, c, 0, 0, rfl, Nat.zero_le _, hc, fun h => absurd h (by simp [Kd.len]), trivial⟩
theorem KSl.shape {V : Vw} {v : Value} {k : Kd} (h : KSl V v k) : ∃ A c, v = .slice A k.len c := by
  obtain ⟨A, c, _, _, h1, _⟩ := h
  exact ⟨A, c, h1⟩
theorem KSl.open {V : Vw} {v : Value} {k : Kd} (h : KSl V v k) :
    ∃ A c b off, v = .slice A k.len c ∧ k.len ≤ c ∧ c ≤ maxLen ∧ (0 < k.len → A = some ⟨b, off, none⟩) ∧ (∀ (i : Nat) a, k.nth i = some a → ∃ u, V ⟨b, off + i, none⟩ = some u ∧ KSl V u a) := by
  obtain ⟨A, c, b, off, h1, h2, h3, h4, h5⟩ := h
  exact ⟨A, c, b, off, h1, h2, h3, h4, fun i a hi => h5.get hi⟩
theorem KSl.of {V : Vw} {A : Option Addr} {n c b off : Nat} {k : Kd} (hn : n = k.len) (h2 : k.len ≤ c) (h3 : c ≤ maxLen) (h4 : 0 < k.len → A = some ⟨b, off, none⟩) (h5 : ∀ (i : Nat) a, k.nth i = some a → ∃ u, V ⟨b, off + i, none⟩ = some u ∧ KSl V u a) : KSl V (.slice A n c) k := by
  subst hn
  exact ⟨A, c, b, off, rfl, h2, h3, h4, KEls.of h5⟩
end Go.Kn
namespace Go.Kn
/-- The elements, as a list. -/
theorem KEls.list {V : Eng.Vw} : ∀ {k : Kd} {b off : Nat}, KEls V k b off → ∃ us : List Value, us.length = k.len ∧ (∀ (j : Nat) u, us[j]? = some u → V ⟨b, off + j, none⟩ = some u ∧ u.oneCell' = true) ∧ ∀ (j : Nat) a, k.nth j = some a → ∃ u, us[j]? = some u ∧ KSl V u a
  | .nil, _, _, _ => ⟨[], rfl, fun j u h => by simp at h, fun j a h => by simp [Kd.nth] at h⟩
  | .cons x r, b, off, h => by
    obtain ⟨⟨A, c, b', o', h1, h2, h3, h4, h5⟩, h6⟩ := h
    obtain ⟨us, e1, e2, e3⟩ := KEls.list h6
    refine ⟨.slice A x.len c :: us, by simp [Kd.len, e1], fun j u hj => ?_, fun j a hj => ?_⟩
    · cases j with
      | zero => simp at hj; subst hj; exact ⟨h1, rfl⟩
      | succ j =>
        rw [show off + (j + 1) = off + 1 + j by omega]
        exact e2 j u (by simpa using hj)
    · cases j with
      | zero => simp [Kd.nth] at hj; subst hj; exact ⟨_, rfl, A, c, b', o', rfl, h2, h3, h4, h5⟩
      | succ j =>
        obtain ⟨u, f1, f2⟩ := e3 j a (by simpa [Kd.nth] using hj)
        exact ⟨u, by simpa using f1, f2⟩
theorem KEls.le {V V' : Eng.Vw} {k : Kd} {b off : Nat} (h : KEls V k b off) (hv : Eng.VLe V V') : KEls V' k b off := h.mono hv
theorem KSl.le {V V' : Eng.Vw} {v : Value} {k : Kd} (h : KSl V v k) (hv : Eng.VLe V V') : KSl V' v k := h.mono hv
end Go.Kn
namespace Go.Proofs.Ytkjahcegjplbnaa.Kin
open Go Go.Eng Go.RowKit Go.Kn
attribute [local irreducible] RL RX KQ SQ Exit.inBlock Exit.then BP NP CallsOk IsSl IsRows IsInts IsBools Own Blk Code.wp Calls wpList
/-! ## strings.Builder -/
/-- A builder in block b that holds these bytes. -/
abbrev bld (b : Nat) (p v : Value) (bs : List UInt8) (L : List Ent) : List Ent := .blk b [p, v] 75 :: .own v 5 1 bs.length (by8 bs) :: L
theorem copyCheck_ok (w0 w : World) (L : List Ent) (V : Vw) (b : Nat) (p v : Value) (bs : List UInt8) (hM : Mem w0 w (bld b p v bs L) V) (hp : p = .pointer none ∨ p = .pointer (some ⟨b, 0, none⟩)) :
    CallsOk Try.prog 47 #[.pointer (some ⟨b, 0, none⟩)] w fun r w' => r = .tuple #[] ∧ Mem w0 w' (bld b (.pointer (some ⟨b, 0, none⟩)) v bs L) V := by
  refine enter_ (N := 20) Try.func47 rfl rfl rfl ?_
  rcases hp with rfl | rfl
  · (repeat (first | refine seq_ ?_ | refine sq_normal ?_ | refine rl_nil ?_ | refine cond_t rfl ?_ | (refine region_ (id := 0) ?_; (try (refine rl_move (v := (Value.pointer _ : Value)) rfl rfl ?_; (try (refine rl_nilck rfl rfl ?_; (try (refine rl_fld fd75_0 rfl rfl ?_; (try ((first | refine rl_loadV hM vt73 rfl rfl (by first | assumption | exact VRow.get (by assumption) rfl | exact VRow.get0 (by assumption) rfl) ?_ | refine rl_loadM 0 hM vt73 rfl rfl rfl (by first | rfl | assumption) ?_ | refine rl_loadM 1 hM vt73 rfl rfl rfl (by first | rfl | assumption) ?_ | refine rl_loadM 2 hM vt73 rfl rfl rfl (by first | rfl | assumption) ?_ | refine rl_loadM 3 hM vt73 rfl rfl rfl (by first | rfl | assumption) ?_ | refine rl_loadM 4 hM vt73 rfl rfl rfl (by first | rfl | assumption) ?_ | refine rl_loadM 5 hM vt73 rfl rfl rfl (by first | rfl | assumption) ?_ | refine rl_loadM 6 hM vt73 rfl rfl rfl (by first | rfl | assumption) ?_ | refine rl_loadM 7 hM vt73 rfl rfl rfl (by first | rfl | assumption) ?_); (try (refine rl_peqnil up73 rfl rfl rfl ?_))))))))))) | (refine region_ (id := 1) ?_; (try (refine rl_move (v := (Value.pointer _ : Value)) rfl rfl ?_; (try (refine rl_move (v := (Value.pointer _ : Value)) rfl rfl ?_)))))))
    refine rl_toUns up73 (by kernel_rfl) (by kernel_rfl) rfl rfl (hM.get (i := 0) rfl) (by simp) ?_
    refine rl_extern Try.func52 (by kernel_rfl) (by kernel_rfl) (by kernel_rfl) (e := Extern.AbiNoEscape.same) (by kernel_rfl) rfl rfl (Lib.run_noEscape _ _) ?_
    refine rl_fromUns (by kernel_rfl) up73 (by kernel_rfl) rfl rfl (hM.get (i := 0) rfl) (by kernel_rfl) ?_
    (repeat (first | refine rl_nil ?_ | refine rl_nilck rfl rfl ?_ | refine rl_fld fd75_0 rfl rfl ?_ | (first | (refine rl_storeM 0 hM vt73 rfl rfl rfl rfl rfl (by first | (simp; done) | (simp; omega) | omega) ?_; clear hM; intro w hM) | (refine rl_storeM 1 hM vt73 rfl rfl rfl rfl rfl (by first | (simp; done) | (simp; omega) | omega) ?_; clear hM; intro w hM) | (refine rl_storeM 2 hM vt73 rfl rfl rfl rfl rfl (by first | (simp; done) | (simp; omega) | omega) ?_; clear hM; intro w hM) | (refine rl_storeM 3 hM vt73 rfl rfl rfl rfl rfl (by first | (simp; done) | (simp; omega) | omega) ?_; clear hM; intro w hM) | (refine rl_storeM 4 hM vt73 rfl rfl rfl rfl rfl (by first | (simp; done) | (simp; omega) | omega) ?_; clear hM; intro w hM) | (refine rl_storeM 5 hM vt73 rfl rfl rfl rfl rfl (by first | (simp; done) | (simp; omega) | omega) ?_; clear hM; intro w hM) | (refine rl_storeM 6 hM vt73 rfl rfl rfl rfl rfl (by first | (simp; done) | (simp; omega) | omega) ?_; clear hM; intro w hM) | (refine rl_storeM 7 hM vt73 rfl rfl rfl rfl rfl (by first | (simp; done) | (simp; omega) | omega) ?_; clear hM; intro w hM))))
    exact bp_end0 rfl ⟨rfl, hM⟩
  · (repeat (first | refine seq_ ?_ | refine sq_normal ?_ | refine rl_nil ?_ | refine cond_f rfl ?_ | (refine region_ (id := 0) ?_; (try (refine rl_move (v := (Value.pointer _ : Value)) rfl rfl ?_; (try (refine rl_nilck rfl rfl ?_; (try (refine rl_fld fd75_0 rfl rfl ?_; (try ((first | refine rl_loadV hM vt73 rfl rfl (by first | assumption | exact VRow.get (by assumption) rfl | exact VRow.get0 (by assumption) rfl) ?_ | refine rl_loadM 0 hM vt73 rfl rfl rfl (by first | rfl | assumption) ?_ | refine rl_loadM 1 hM vt73 rfl rfl rfl (by first | rfl | assumption) ?_ | refine rl_loadM 2 hM vt73 rfl rfl rfl (by first | rfl | assumption) ?_ | refine rl_loadM 3 hM vt73 rfl rfl rfl (by first | rfl | assumption) ?_ | refine rl_loadM 4 hM vt73 rfl rfl rfl (by first | rfl | assumption) ?_ | refine rl_loadM 5 hM vt73 rfl rfl rfl (by first | rfl | assumption) ?_ | refine rl_loadM 6 hM vt73 rfl rfl rfl (by first | rfl | assumption) ?_ | refine rl_loadM 7 hM vt73 rfl rfl rfl (by first | rfl | assumption) ?_); (try (refine rl_peqnil up73 rfl rfl rfl ?_))))))))))) | (refine region_ (id := 2) ?_; (try (refine rl_move (v := (Value.pointer _ : Value)) rfl rfl ?_; (try (refine rl_nilck rfl rfl ?_; (try (refine rl_fld fd75_0 rfl rfl ?_; (try ((first | refine rl_loadV hM vt73 rfl rfl (by first | assumption | exact VRow.get (by assumption) rfl | exact VRow.get0 (by assumption) rfl) ?_ | refine rl_loadM 0 hM vt73 rfl rfl rfl (by first | rfl | assumption) ?_ | refine rl_loadM 1 hM vt73 rfl rfl rfl (by first | rfl | assumption) ?_ | refine rl_loadM 2 hM vt73 rfl rfl rfl (by first | rfl | assumption) ?_ | refine rl_loadM 3 hM vt73 rfl rfl rfl (by first | rfl | assumption) ?_ | refine rl_loadM 4 hM vt73 rfl rfl rfl (by first | rfl | assumption) ?_ | refine rl_loadM 5 hM vt73 rfl rfl rfl (by first | rfl | assumption) ?_ | refine rl_loadM 6 hM vt73 rfl rfl rfl (by first | rfl | assumption) ?_ | refine rl_loadM 7 hM vt73 rfl rfl rfl (by first | rfl | assumption) ?_); (try (refine rl_move (v := (Value.pointer _ : Value)) rfl rfl ?_)))))))))))))
    refine rl_pneqsame up73 (by kernel_rfl) rfl rfl rfl ?_
    (repeat (first | refine sq_normal ?_ | refine rl_nil ?_ | refine cond_f rfl ?_ | refine skip_ ?_))
    exact bp_end0 rfl ⟨rfl, hM⟩
theorem write_ok (w0 w : World) (L : List Ent) (V : Vw) (b : Nat) (p v : Value) (bs l : List UInt8) (hM : Mem w0 w (bld b p v bs L) V) (hp : p = .pointer none ∨ p = .pointer (some ⟨b, 0, none⟩)) (hl : bs.length + l.length ≤ 1000000000) :
    CallsOk Try.prog 36 #[.pointer (some ⟨b, 0, none⟩), St l] w fun r w' => ∃ v', Mem w0 w' (bld b (.pointer (some ⟨b, 0, none⟩)) v' (bs ++ l) L) V := by
  refine enter_ (N := 19) Try.func36 rfl rfl rfl ?_
  (repeat (first | refine seq_ ?_ | refine sq_normal ?_ | refine rl_nil ?_ | (refine region_ (id := 0) ?_; (try (refine rl_assign (v := (Value.int _ _ : Value)) rfl rfl ?_; (try ((first | refine rl_assign (v := (Value.iface _ _ : Value)) rfl rfl ?_ | refine rl_assign (v := (Value.nilIface : Value)) rfl rfl ?_)))))) | (refine region_ (id := 1) ?_; (try (refine rl_move (v := (Value.pointer _ : Value)) rfl rfl ?_)))))
  refine rl_callf fn47 (copyCheck_ok w0 w L V b p v bs hM hp) rfl rfl ?_
  clear hM
  rintro _ w ⟨rfl, hM⟩
  (repeat (first | refine seq_ ?_ | refine sq_normal ?_ | refine rl_nil ?_ | (refine region_ (id := 2) ?_; (try (refine rl_move (v := (Value.pointer _ : Value)) rfl rfl ?_; (try (refine rl_move (v := (Value.pointer _ : Value)) rfl rfl ?_; (try (refine rl_nilck rfl rfl ?_; (try (refine rl_fld fd75_1 rfl rfl ?_; (try ((first | refine rl_loadV hM vt34 rfl rfl (by first | assumption | exact VRow.get (by assumption) rfl | exact VRow.get0 (by assumption) rfl) ?_ | refine rl_loadM 0 hM vt34 rfl rfl rfl (by first | rfl | assumption) ?_ | refine rl_loadM 1 hM vt34 rfl rfl rfl (by first | rfl | assumption) ?_ | refine rl_loadM 2 hM vt34 rfl rfl rfl (by first | rfl | assumption) ?_ | refine rl_loadM 3 hM vt34 rfl rfl rfl (by first | rfl | assumption) ?_ | refine rl_loadM 4 hM vt34 rfl rfl rfl (by first | rfl | assumption) ?_ | refine rl_loadM 5 hM vt34 rfl rfl rfl (by first | rfl | assumption) ?_ | refine rl_loadM 6 hM vt34 rfl rfl rfl (by first | rfl | assumption) ?_ | refine rl_loadM 7 hM vt34 rfl rfl rfl (by first | rfl | assumption) ?_); (try (refine rl_move (v := (Value.string _ : Value)) rfl rfl ?_)))))))))))))))
  refine rl_appendSM 1 hM sl34 us9 rfl rfl rfl rfl ?_ ?_ ?_
  · unfold maxLen; omega
  · omega
  clear hM
  intro w a c _ _ hM
  (repeat (first | refine seq_ ?_ | refine sq_normal ?_ | refine rl_nil ?_ | refine ret_ ?_ | (refine region_ (id := 3) ?_; (try (refine rl_move (v := (Value.string _ : Value)) rfl rfl ?_; (try (refine rl_slen us9 rfl rfl ?_; (try (refine rl_assign (v := (Value.int _ _ : Value)) rfl rfl ?_; (try ((first | refine rl_assign (v := (Value.iface _ _ : Value)) rfl rfl ?_ | refine rl_assign (v := (Value.nilIface : Value)) rfl rfl ?_)))))))))) | refine rl_nilck rfl rfl ?_ | refine rl_fld fd75_1 rfl rfl ?_ | (first | (refine rl_storeM 0 hM vt34 rfl rfl rfl rfl rfl (by first | (simp; done) | (simp; omega) | omega) ?_; clear hM; intro w hM) | (refine rl_storeM 1 hM vt34 rfl rfl rfl rfl rfl (by first | (simp; done) | (simp; omega) | omega) ?_; clear hM; intro w hM) | (refine rl_storeM 2 hM vt34 rfl rfl rfl rfl rfl (by first | (simp; done) | (simp; omega) | omega) ?_; clear hM; intro w hM) | (refine rl_storeM 3 hM vt34 rfl rfl rfl rfl rfl (by first | (simp; done) | (simp; omega) | omega) ?_; clear hM; intro w hM) | (refine rl_storeM 4 hM vt34 rfl rfl rfl rfl rfl (by first | (simp; done) | (simp; omega) | omega) ?_; clear hM; intro w hM) | (refine rl_storeM 5 hM vt34 rfl rfl rfl rfl rfl (by first | (simp; done) | (simp; omega) | omega) ?_; clear hM; intro w hM) | (refine rl_storeM 6 hM vt34 rfl rfl rfl rfl rfl (by first | (simp; done) | (simp; omega) | omega) ?_; clear hM; intro w hM) | (refine rl_storeM 7 hM vt34 rfl rfl rfl rfl rfl (by first | (simp; done) | (simp; omega) | omega) ?_; clear hM; intro w hM))))
  rw [← by8_append, ← List.length_append] at hM
  exact bp_ret2 rfl rfl rfl ⟨_, hM⟩
theorem string_ok (w0 w : World) (L : List Ent) (V : Vw) (b : Nat) (p v : Value) (bs : List UInt8) (hM : Mem w0 w (bld b p v bs L) V) (hl : bs.length ≤ 1000000000) (hv : bs = [] → v = .slice none 0 0) :
    CallsOk Try.prog 37 #[.pointer (some ⟨b, 0, none⟩)] w fun r w' => r = St bs ∧ Mem w0 w' L V := by
  refine enter_ (N := 14) Try.func37 rfl rfl rfl ?_
  (repeat (first | refine seq_ ?_ | refine sq_normal ?_ | refine rl_nil ?_ | (refine region_ (id := 0) ?_; (try (refine rl_assign (v := (Value.string _ : Value)) rfl rfl ?_)))))
  have hac : ∃ a c, v = .slice a bs.length c ∧ (a = none ∨ c ≠ 0) := by
    by_cases h : bs = []
    · subst h
      exact ⟨none, 0, hv rfl, .inl rfl⟩
    · obtain ⟨a, c, h1, h2, _⟩ := hM.ownShape (i := 1) rfl
      have := List.length_pos_iff.2 h
      exact ⟨a, c, h1, .inr (by omega)⟩
  obtain ⟨a, c, rfl, hac⟩ := hac
  refine drawnM_ 11 [(0, false), (1, false), (2, false), (3, false), (4, false), (5, false), (6, false), (7, false), (8, false), (9, false), (10, true)] (fun w => Mem w0 w (.blk b [p, .slice a bs.length c] 75 :: L) V) hM mo (by kernel_rfl) (fun _ h => h.erase 1) ?_
  clear hM
  intro w hM
  (try (refine rx_move (v := (Value.pointer _ : Value)) rfl rfl rfl ?_; (try (refine rx_nilck rfl rfl rfl ?_; (try (refine rx_fld rfl fd75_1 rfl rfl ?_; (try ((first | refine rx_loadV rfl (fun _ h => h) vt34 rfl rfl (by first | assumption | exact VRow.get (by assumption) rfl | exact VRow.get0 (by assumption) rfl) ?_ | refine rx_loadM 0 rfl (fun _ h => h) vt34 rfl rfl rfl (by first | rfl | assumption) ?_ | refine rx_loadM 1 rfl (fun _ h => h) vt34 rfl rfl rfl (by first | rfl | assumption) ?_ | refine rx_loadM 2 rfl (fun _ h => h) vt34 rfl rfl rfl (by first | rfl | assumption) ?_ | refine rx_loadM 3 rfl (fun _ h => h) vt34 rfl rfl rfl (by first | rfl | assumption) ?_ | refine rx_loadM 4 rfl (fun _ h => h) vt34 rfl rfl rfl (by first | rfl | assumption) ?_ | refine rx_loadM 5 rfl (fun _ h => h) vt34 rfl rfl rfl (by first | rfl | assumption) ?_ | refine rx_loadM 6 rfl (fun _ h => h) vt34 rfl rfl rfl (by first | rfl | assumption) ?_ | refine rx_loadM 7 rfl (fun _ h => h) vt34 rfl rfl rfl (by first | rfl | assumption) ?_)))))))))
  refine rx_usd rfl rfl rfl hac ?_
  (try (refine rx_move (v := (Value.pointer _ : Value)) rfl rfl rfl ?_; (try (refine rx_nilck rfl rfl rfl ?_; (try (refine rx_fld rfl fd75_1 rfl rfl ?_; (try ((first | refine rx_loadV rfl (fun _ h => h) vt34 rfl rfl (by first | assumption | exact VRow.get (by assumption) rfl | exact VRow.get0 (by assumption) rfl) ?_ | refine rx_loadM 0 rfl (fun _ h => h) vt34 rfl rfl rfl (by first | rfl | assumption) ?_ | refine rx_loadM 1 rfl (fun _ h => h) vt34 rfl rfl rfl (by first | rfl | assumption) ?_ | refine rx_loadM 2 rfl (fun _ h => h) vt34 rfl rfl rfl (by first | rfl | assumption) ?_ | refine rx_loadM 3 rfl (fun _ h => h) vt34 rfl rfl rfl (by first | rfl | assumption) ?_ | refine rx_loadM 4 rfl (fun _ h => h) vt34 rfl rfl rfl (by first | rfl | assumption) ?_ | refine rx_loadM 5 rfl (fun _ h => h) vt34 rfl rfl rfl (by first | rfl | assumption) ?_ | refine rx_loadM 6 rfl (fun _ h => h) vt34 rfl rfl rfl (by first | rfl | assumption) ?_ | refine rx_loadM 7 rfl (fun _ h => h) vt34 rfl rfl rfl (by first | rfl | assumption) ?_); (try (refine rx_len rfl sl34 rfl rfl ?_))))))))))
  refine rx_eff rfl (fun K hK => ?_)
  refine rl_ustringM 1 hM up93 (by kernel_rfl) rfl rfl rfl rfl rfl ?_
  clear hM
  intro w hM
  refine rl_nil (kq_normal (hK _ _ hM ?_))
  refine rx_nil rfl ?_
  (repeat (first | refine sq_normal ?_ | refine rl_nil ?_ | refine ret_ ?_ | refine np_normal ?_ | refine rl_assign (v := (Value.string _ : Value)) rfl rfl ?_))
  exact bp_ret1 rfl rfl ⟨rfl, hM.dropn 1⟩
end Go.Proofs.Ytkjahcegjplbnaa.Kin
