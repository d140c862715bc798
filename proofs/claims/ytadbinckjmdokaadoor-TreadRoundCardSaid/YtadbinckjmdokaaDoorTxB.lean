/- Types as trees, in memory: form, number, name, and a slice of none or two. Types, predicates and schemes out of tokens. No program in sight. Predicates in memory. How many variables stand in what is read out of tokens. No program in sight. What a lexer tells may be read: behind each token but the end stands another one. A type, a scheme of a source. No program in sight. The print of a type. No program in sight. Lengths of prints. No program in sight. Types made of numbers: how great they are, what stands in them. No program in sight. Predicates in print. No program in sight. Prints are lexed into tokens: signs alone. No program in sight. Reading out of tokens, without fuel. No program in sight. A type is read of its print. No program in sight. A scheme is read of predicates in print and a type's print. No program in sight. A scheme's variables are those that are free in it, each once. No program in sight. -/
import Derived.Test.YtadbinckjmdokaaDoorLxA
import Derived.Test.YtadbinckjmdokaaDoorEnC
set_option linter.unusedVariables false
set_option linter.unusedSimpArgs false
namespace Go.Tr
open Go Go.Eng Go.RowKit
abbrev B := List UInt8
inductive Ty where
  | lf (f n : Int) (s : List UInt8)
  | app (x y : Ty)
  deriving DecidableEq
namespace Ty
abbrev z : Ty := .lf 0 0 []
abbrev var (s : List UInt8) : Ty := .lf 2 0 s
abbrev con (s : List UInt8) : Ty := .lf 3 0 s
abbrev arrow : List UInt8 := [45, 62]
abbrev fn (x y : Ty) : Ty := .app (.app (.con arrow) x) y
def form : Ty → Int
  | lf f _ _ => f
  | app _ _ => 4
def num : Ty → Int
  | lf _ n _ => n
  | app _ _ => 0
def name : Ty → List UInt8
  | lf _ _ s => s
  | app _ _ => []
def kids : Ty → List Ty
  | lf _ _ _ => []
  | app x y => [x, y]
def ht : Ty → Nat
  | lf _ _ _ => 0
  | app x y => max x.ht y.ht + 1
theorem kids_ht {t x : Ty} (h : x ∈ t.kids) : x.ht < t.ht := by
  cases t with
  | lf _ _ _ => cases h
  | app a b =>
    simp only [kids, List.mem_cons, List.not_mem_nil, or_false] at h
    simp only [ht]
    rcases h with rfl | rfl <;> omega
theorem kids_len (t : Ty) : t.kids.length ≤ 2 := by cases t <;> simp [kids]
end Ty
/-- These four cells are the type t. -/
def TyV (V : Vw) : Ty → List Value → Prop
  | .lf f n s, cs => ∃ a c, cs = [.int .i64 f, .int .i64 n, St s, .slice a 0 c] ∧ c ≤ maxLen ∧ (0 ≤ f ∧ f ≤ 3 ∧ I64 n ∧ s.length ≤ 1000000)
  | .app x y, cs => ∃ b off c xs ys, cs = [.int .i64 4, .int .i64 0, St [], .slice (some ⟨b, off, none⟩) 2 c] ∧ 2 ≤ c ∧ c ≤ maxLen ∧ VRow V b (off + 0 * 4) xs ∧ VRow V b (off + 1 * 4) ys ∧ TyV V x xs ∧ TyV V y ys
theorem TyV.le {V V' : Vw} (hv : VLe V V') : ∀ {t : Ty} {cs : List Value}, TyV V t cs → TyV V' t cs
  | .lf _ _ _, _, h => h
  | .app x y, _, h => by
    obtain ⟨b, off, c, xs, ys, h1, h2, h3, h4, h5, h6, h7⟩ := h
    exact ⟨b, off, c, xs, ys, h1, h2, h3, h4.le hv, h5.le hv, h6.le hv, h7.le hv⟩
theorem TyV.shape {V : Vw} {t : Ty} {cs : List Value} (h : TyV V t cs) : ∃ f n s a k c, cs = [.int .i64 f, .int .i64 n, St s, .slice a k c] ∧ k ≤ c ∧ c ≤ maxLen := by
  cases t with
  | lf f n s => obtain ⟨a, c, rfl, h2, _⟩ := h; exact ⟨_, _, _, _, _, _, rfl, Nat.zero_le _, h2⟩
  | app x y => obtain ⟨b, off, c, xs, ys, rfl, h2, h3, _⟩ := h; exact ⟨_, _, _, _, _, _, rfl, h2, h3⟩
theorem TyV.len {V : Vw} {t : Ty} {cs : List Value} (h : TyV V t cs) : cs.length = 4 := by
  obtain ⟨_, _, _, _, _, _, rfl, _⟩ := h.shape; rfl
theorem TyV.one {V : Vw} {t : Ty} {cs : List Value} (h : TyV V t cs) : cs.all (·.oneCell') = true := by
  obtain ⟨_, _, _, _, _, _, rfl, _⟩ := h.shape; rfl
/-! ## In memory -/
/-- A slice of n terms. -/
def TySl (V : Vw) (v : Value) (ts : List Ty) : Prop := ∃ a c b off, v = .slice a ts.length c ∧ ts.length ≤ c ∧ c ≤ maxLen ∧ (0 < ts.length → a = some ⟨b, off, none⟩) ∧ ∀ (i : Nat) x, ts[i]? = some x → ∃ xs, VRow V b (off + i * 4) xs ∧ TyV V x xs
theorem TySl.le {V V' : Vw} {v : Value} {ts : List Ty} (h : TySl V v ts) (hv : VLe V V') : TySl V' v ts := by
  obtain ⟨a, c, b, off, h1, h2, h3, h4, h5⟩ := h
  exact ⟨a, c, b, off, h1, h2, h3, h4, fun i x hx => by obtain ⟨xs, g1, g2⟩ := h5 i x hx; exact ⟨xs, g1.le hv, g2.le hv⟩⟩
/-- What a type is besides its kids is in its bounds. -/
def Fit (t : Ty) : Prop := 0 ≤ t.form ∧ t.form ≤ 4 ∧ I64 t.num ∧ t.name.length ≤ 1000000
theorem TyV.open {V : Vw} {t : Ty} {cs : List Value} (h : TyV V t cs) : ∃ v, cs = [.int .i64 t.form, .int .i64 t.num, St t.name, v] ∧ TySl V v t.kids ∧ Fit t := by
  cases t with
  | lf f n s =>
    obtain ⟨a, c, rfl, hc, hf1, hf2, hn, hs⟩ := h
    exact ⟨_, rfl, ⟨a, c, 0, 0, rfl, Nat.zero_le _, hc, fun h => absurd h (by simp [Ty.kids]), fun i x hx => by simp [Ty.kids] at hx⟩, hf1, by simp only [Ty.form]; omega, hn, hs⟩
  | app x y =>
    obtain ⟨b, off, c, xs, ys, rfl, h2, h3, h4, h5, h6, h7⟩ := h
    refine ⟨_, rfl, ⟨_, c, b, off, rfl, h2, h3, fun _ => rfl, fun i z hz => ?_⟩, by simp [Ty.form], by simp [Ty.form], by simp [Ty.num, I64], by simp [Ty.name]⟩
    match i, hz with
    | 0, hz => simp [Ty.kids] at hz; subst hz; exact ⟨xs, h4, h6⟩
    | 1, hz => simp [Ty.kids] at hz; subst hz; exact ⟨ys, h5, h7⟩
theorem TyV.of {V V0 : Vw} {t : Ty} {cs0 : List Value} {v : Value} (h0 : TyV V0 t cs0) (h : TySl V v t.kids) : TyV V t [.int .i64 t.form, .int .i64 t.num, St t.name, v] := by
  obtain ⟨a, c, b, off, rfl, h2, h3, h4, h5⟩ := h
  cases t with
  | lf f n s => obtain ⟨_, _, _, _, hb⟩ := h0; exact ⟨a, c, rfl, h3, hb⟩
  | app x y =>
    obtain ⟨xs, g1, g2⟩ := h5 0 x rfl
    obtain ⟨ys, g3, g4⟩ := h5 1 y rfl
    have h4 := h4 (by simp [Ty.kids])
    subst h4
    exact ⟨b, off, c, xs, ys, rfl, h2, h3, g1, g3, g2, g4⟩
/-- These cells are these terms, one behind the other. -/
def TysO (V : Vw) (ts : List Ty) (xs : List Value) : Prop := xs.length = ts.length * 4 ∧ ∀ (i : Nat) x, ts[i]? = some x → ∃ ys, ORow xs (i * 4) ys ∧ TyV V x ys
theorem TysO.nil (V : Vw) : TysO V [] [] := ⟨rfl, fun i x h => by simp at h⟩
theorem TysO.le {V V' : Vw} {ts : List Ty} {xs : List Value} (h : TysO V ts xs) (hv : VLe V V') : TysO V' ts xs := ⟨h.1, fun i x hx => by obtain ⟨ys, g1, g2⟩ := h.2 i x hx; exact ⟨ys, g1, g2.le hv⟩⟩
theorem TysO.snoc {V : Vw} {ts : List Ty} {xs ys : List Value} {x : Ty} (h : TysO V ts xs) (hx : TyV V x ys) : TysO V (ts ++ [x]) (xs ++ ys) := by
  refine ⟨by have := h.1; have := hx.len; simp; omega, fun i z hz => ?_⟩
  rcases Nat.lt_trichotomy i ts.length with hi | hi | hi
  · rw [List.getElem?_append_left hi] at hz
    obtain ⟨zs, g1, g2⟩ := h.2 i z hz
    refine ⟨zs, fun j u hj => ?_, g2⟩
    have h1 := g1 j u hj
    rw [List.getElem?_append_left (List.getElem?_eq_some_iff.1 h1).1]; exact h1
  · subst hi
    rw [List.getElem?_append_right (Nat.le_refl _)] at hz
    simp at hz; subst hz
    refine ⟨ys, fun j u hj => ?_, hx⟩
    rw [List.getElem?_append_right (by rw [h.1]; omega), h.1, Nat.add_sub_cancel_left]; exact hj
  · have := (List.getElem?_eq_some_iff.1 hz).1
    simp at this; omega
/-- A slice of the call's own, frozen. -/
theorem TysO.frozen {V V' : Vw} {ts : List Ty} {xs : List Value} {a : Option Addr} {n c b : Nat} (h : TysO V ts xs) (hv : VLe V V') (hn : n = ts.length) (h2 : n ≤ c) (h3 : c ≤ maxLen) (h4 : 0 < n → a = some ⟨b, 0, none⟩) (h5 : ∀ (i : Nat) u, xs[i]? = some u → V' ⟨b, 0 + i, none⟩ = some u) : TySl V' (.slice a n c) ts := by
  subst hn
  refine ⟨a, c, b, 0, rfl, h2, h3, h4, fun i x hx => ?_⟩
  obtain ⟨ys, g1, g2⟩ := h.2 i x hx
  refine ⟨ys, fun j u hj => ?_, g2.le hv⟩
  rw [Nat.add_assoc]
  exact h5 _ u (g1 j u hj)
theorem TysO.one {V : Vw} {ts : List Ty} {xs : List Value} (h : TysO V ts xs) : ∀ u ∈ xs, u.oneCell' = true := by
  intro u hu
  obtain ⟨k, hk⟩ := List.mem_iff_getElem?.1 hu
  have hlt := (List.getElem?_eq_some_iff.1 hk).1
  have hd : k / 4 < ts.length := by have := h.1; omega
  obtain ⟨ys, g1, g2⟩ := h.2 (k / 4) _ (List.getElem?_eq_getElem hd)
  have hl := g2.len
  have hm : k % 4 < ys.length := by omega
  have h2 := g1 (k % 4) _ (List.getElem?_eq_getElem hm)
  rw [show k / 4 * 4 + k % 4 = k by omega, hk] at h2
  cases h2
  exact List.all_eq_true.1 g2.one _ (List.getElem_mem hm)
/-- The cells of a slice of terms, as a list. -/
theorem TySl.cells {V : Vw} : ∀ {ts : List Ty} {b off : Nat}, (∀ (i : Nat) x, ts[i]? = some x → ∃ xs, VRow V b (off + i * 4) xs ∧ TyV V x xs) → ∃ us, TysO V ts us ∧ ∀ (j : Nat) u, us[j]? = some u → V ⟨b, off + j, none⟩ = some u
  | [], b, off, _ => ⟨[], TysO.nil V, fun j u h => by simp at h⟩
  | t :: ts, b, off, h => by
    obtain ⟨xs, g1, g2⟩ := h 0 t rfl
    obtain ⟨us, k1, k2⟩ := TySl.cells (ts := ts) (b := b) (off := off + 4) (fun i x hx => by
      obtain ⟨ys, e1, e2⟩ := h (i + 1) x (by simpa using hx)
      exact ⟨ys, by rw [show off + 4 + i * 4 = off + (i + 1) * 4 by omega]; exact e1, e2⟩)
    have hl := g2.len
    refine ⟨xs ++ us, ⟨by have := k1.1; simp; omega, fun i x hx => ?_⟩, fun j u hj => ?_⟩
    · cases i with
      | zero =>
        simp at hx; subst hx
        refine ⟨xs, fun j u hj => ?_, g2⟩
        rw [Nat.zero_mul, Nat.zero_add, List.getElem?_append_left (List.getElem?_eq_some_iff.1 hj).1]; exact hj
      | succ i =>
        obtain ⟨ys, e1, e2⟩ := k1.2 i x (by simpa using hx)
        refine ⟨ys, fun j u hj => ?_, e2⟩
        rw [List.getElem?_append_right (by omega), show (i + 1) * 4 + j - xs.length = i * 4 + j by omega]
        exact e1 j u hj
    · rcases Nat.lt_or_ge j 4 with h3 | h3
      · rw [List.getElem?_append_left (by omega)] at hj
        have := g1 j u hj
        rwa [Nat.zero_mul, Nat.add_zero] at this
      · rw [List.getElem?_append_right (by omega), hl] at hj
        have := k2 (j - 4) u hj
        rwa [show off + 4 + (j - 4) = off + j by omega] at this
theorem TySl.ofO {V : Vw} {ts : List Ty} {us : List Value} {a : Option Addr} {n c b off : Nat} (h : TysO V ts us) (hn : n = ts.length) (h2 : n ≤ c) (h3 : c ≤ maxLen) (h4 : 0 < n → a = some ⟨b, off, none⟩) (h5 : ∀ (j : Nat) u, us[j]? = some u → V ⟨b, off + j, none⟩ = some u) : TySl V (.slice a n c) ts := by
  subst hn
  refine ⟨a, c, b, off, rfl, h2, h3, h4, fun i x hx => ?_⟩
  obtain ⟨ys, g1, g2⟩ := h.2 i x hx
  refine ⟨ys, fun j u hj => ?_, g2⟩
  rw [Nat.add_assoc]
  exact h5 _ u (g1 j u hj)
end Go.Tr
set_option linter.unusedVariables false
set_option linter.unusedSimpArgs false
namespace Go.Tr
open Go Go.Lx Go.Eng
def sym (x : B) (t : Tok) : Bool := decide (t.k = 4) && decide (t.s = x)
def begins (t : Tok) : Bool := decide (t.k = 2) || decide (t.k = 1) || sym [40] t
/-- Tokens as a lexer tells them: behind each but the end stands another one. -/
structure TOk (l : List Tok) : Prop where
  more : ∀ i t, l[i]? = some t → t.k ≠ 6 → i + 1 < l.length
  sane : ∀ t ∈ l, (t.k = 4 → t.n = 0) ∧ I64 t.k ∧ I64 t.n ∧ I64 t.a ∧ t.s.length ≤ 1000000
  few : l.length ≤ 1000000
inductive Md where
  | atom
  | whole
  | more (x : Ty)
abbrev Rs := Except (Int × Int) (Ty × Nat)
/-- What stands from a place on, where so many brackets are open: an atom, a whole type, the rest of one. -/
def rd (l : List Tok) : Nat → Md → Nat → Nat → Rs
  | 0, _, _, _ => .error (0, 0)
  | f + 1, .atom, i, op => match l[i]? with
    | none => .error (0, 0)
    | some t => if t.k = 2 then .ok (.con t.s, i + 1) else if t.k = 1 then .ok (.var t.s, i + 1) else if sym [40] t = false then .error (12, t.a) else if op = 40 then .error (13, t.a) else
      match rd l f .whole (i + 1) (op + 1) with
      | .error e => .error e
      | .ok (x, j) => match l[j]? with
        | none => .error (0, 0)
        | some u => if sym [41] u then .ok (x, j + 1) else .error (12, u.a)
  | f + 1, .whole, i, op => match rd l f .atom i op with
    | .error e => .error e
    | .ok (x, j) => rd l f (.more x) j op
  | f + 1, .more x, i, op => match l[i]? with
    | none => .error (0, 0)
    | some t => if begins t then
        match rd l f .atom i op with
        | .error e => .error e
        | .ok (a, j) => rd l f (.more (.app x a)) j op
      else if sym Ty.arrow t then
        match rd l f .whole (i + 1) op with
        | .error e => .error e
        | .ok (y, j) => .ok (.fn x y, j)
      else .ok (x, i)
section
variable {l : List Tok} {f i op : Nat} {t : Tok}
theorem rd_con (h : l[i]? = some t) (h2 : t.k = 2) : rd l (f + 1) .atom i op = .ok (.con t.s, i + 1) := by simp only [rd, h, h2, if_true]
theorem rd_var (h : l[i]? = some t) (h2 : t.k = 1) : rd l (f + 1) .atom i op = .ok (.var t.s, i + 1) := by simp [rd, h, h2]
theorem rd_not (h : l[i]? = some t) (h2 : t.k ≠ 2) (h1 : t.k ≠ 1) (h3 : sym [40] t = false) : rd l (f + 1) .atom i op = .error (12, t.a) := by simp [rd, h, h2, h1, h3]
theorem rd_deep (h : l[i]? = some t) (h2 : t.k ≠ 2) (h1 : t.k ≠ 1) (h3 : sym [40] t = true) (ho : op = 40) : rd l (f + 1) .atom i op = .error (13, t.a) := by simp [rd, h, h2, h1, h3, ho]
theorem rd_inE (h : l[i]? = some t) (h2 : t.k ≠ 2) (h1 : t.k ≠ 1) (h3 : sym [40] t = true) (ho : op ≠ 40) {e} (hr : rd l f .whole (i + 1) (op + 1) = .error e) : rd l (f + 1) .atom i op = .error e := by simp [rd, h, h2, h1, h3, ho, hr]
theorem rd_in (h : l[i]? = some t) (h2 : t.k ≠ 2) (h1 : t.k ≠ 1) (h3 : sym [40] t = true) (ho : op ≠ 40) {x j u} (hr : rd l f .whole (i + 1) (op + 1) = .ok (x, j)) (hu : l[j]? = some u) : rd l (f + 1) .atom i op = if sym [41] u then .ok (x, j + 1) else .error (12, u.a) := by simp [rd, h, h2, h1, h3, ho, hr, hu]
theorem rd_wholeE {e} (h : rd l f .atom i op = .error e) : rd l (f + 1) .whole i op = .error e := by simp [rd, h]
theorem rd_whole {x j} (h : rd l f .atom i op = .ok (x, j)) : rd l (f + 1) .whole i op = rd l f (.more x) j op := by simp [rd, h]
theorem rd_moreE {x e} (h : l[i]? = some t) (hb : begins t = true) (hr : rd l f .atom i op = .error e) : rd l (f + 1) (.more x) i op = .error e := by simp [rd, h, hb, hr]
theorem rd_more {x a j} (h : l[i]? = some t) (hb : begins t = true) (hr : rd l f .atom i op = .ok (a, j)) : rd l (f + 1) (.more x) i op = rd l f (.more (.app x a)) j op := by simp [rd, h, hb, hr]
theorem rd_fnE {x e} (h : l[i]? = some t) (hb : begins t = false) (ha : sym Ty.arrow t = true) (hr : rd l f .whole (i + 1) op = .error e) : rd l (f + 1) (.more x) i op = .error e := by simp [rd, h, hb, ha, hr]
theorem rd_fn {x y j} (h : l[i]? = some t) (hb : begins t = false) (ha : sym Ty.arrow t = true) (hr : rd l f .whole (i + 1) op = .ok (y, j)) : rd l (f + 1) (.more x) i op = .ok (.fn x y, j) := by simp [rd, h, hb, ha, hr]
theorem rd_end {x} (h : l[i]? = some t) (hb : begins t = false) (ha : sym Ty.arrow t = false) : rd l (f + 1) (.more x) i op = .ok (x, i) := by simp [rd, h, hb, ha]
end
theorem rd_adv (l : List Tok) : ∀ (f : Nat) (m : Md) (i op : Nat) (t : Ty) (j : Nat), rd l f m i op = .ok (t, j) → i ≤ j ∧ ((∀ x, m ≠ .more x) → i < j)
  | 0, _, _, _, _, _, h => by simp [rd] at h
  | f + 1, .atom, i, op, t, j, h => by
    simp only [rd] at h
    split at h
    · cases h
    split at h
    · cases h; exact ⟨by omega, fun _ => by omega⟩
    split at h
    · cases h; exact ⟨by omega, fun _ => by omega⟩
    split at h
    · cases h
    split at h
    · cases h
    split at h
    · cases h
    rename_i x j' hr
    split at h
    · cases h
    split at h
    · cases h
      have := (rd_adv l f _ _ _ _ _ hr).1
      exact ⟨by omega, fun _ => by omega⟩
    · cases h
  | f + 1, .whole, i, op, t, j, h => by
    simp only [rd] at h
    split at h
    · cases h
    rename_i x j' hr
    have h1 := (rd_adv l f _ _ _ _ _ hr).2 (fun x e => by cases e)
    have h2 := (rd_adv l f _ _ _ _ _ h).1
    exact ⟨by omega, fun _ => by omega⟩
  | f + 1, .more x, i, op, t, j, h => by
    refine ⟨?_, fun h => absurd rfl (h x)⟩
    simp only [rd] at h
    split at h
    · cases h
    split at h
    · split at h
      · cases h
      rename_i a j' hr
      have h1 := (rd_adv l f _ _ _ _ _ hr).1
      have h2 := (rd_adv l f _ _ _ _ _ h).1
      omega
    · split at h
      · split at h
        · cases h
        rename_i y j' hr
        cases h
        have h1 := (rd_adv l f _ _ _ _ _ hr).1
        omega
      · cases h; exact Nat.le_refl _
theorem sym_k {x : B} {t : Tok} (h : sym x t = true) : t.k = 4 := by
  simp only [sym, Bool.and_eq_true, decide_eq_true_eq] at h; exact h.1
abbrev Pd := B × Ty
def fuel (l : List Tok) : Nat := 3 * l.length + 5
def pred (l : List Tok) (i op : Nat) : Option (Pd × Nat) := match l[i]? with
  | none => none
  | some t => if t.k = 2 then
      match rd l (fuel l) .atom (i + 1) op with
      | .error _ => none
      | .ok (x, j) => some ((t.s, x), j)
    else none
/-- Predicates with commas between, up to what shuts them. -/
def plist (l : List Tok) : Nat → Nat → Option (List Pd × Nat)
  | 0, _ => none
  | f + 1, i => match pred l i 1 with
    | none => none
    | some (p, j) => match l[j]? with
      | none => none
      | some t => if sym [41] t then some ([p], j + 1) else if sym [44] t then (plist l f (j + 1)).map (fun r => (p :: r.1, r.2)) else none
def predsR (l : List Tok) (i : Nat) : Option (List Pd × Nat) := match l[i]? with
  | none => none
  | some t => if sym [40] t then plist l l.length (i + 1) else (pred l i 0).map (fun r => ([r.1], r.2))
def preds (l : List Tok) (i : Nat) : Except (Int × Int) (List Pd × Nat) := match predsR l i with
  | none => .ok ([], i)
  | some (ps, j) => match l[j]?, l[i]? with
    | some t, some t0 => if sym [61, 62] t then (if 16 < ps.length then .error (2, t0.a) else .ok (ps, j + 1)) else .ok ([], i)
    | _, _ => .ok ([], i)
def add (a : List B) (s : B) : List B := if s ∈ a then a else a ++ [s]
def addAll (a l : List B) : List B := l.foldl add a
def freeA : Ty → List B → List B
  | .lf f _ s, out => if f = 2 then add out s else out
  | .app x y, out => freeA y (freeA x out)
def free (t : Ty) : List B := freeA t []
def varsOf (ts : List Ty) : List B := ts.foldl (fun a t => addAll a (free t)) []
structure Sch where
  vars : List B
  preds : List Pd
  ty : Ty
def scheme (l : List Tok) (i : Nat) : Except (Int × Int) (Sch × Nat) := match preds l i with
  | .error e => .error e
  | .ok (ps, j) => match rd l (fuel l) .whole j 0 with
    | .error e => .error e
    | .ok (t, n) => .ok (⟨varsOf (ps.map (·.2) ++ [t]), ps, t⟩, n)
/-! ## What is free -/
def occ : Ty → List B
  | .lf f _ s => if f = 2 then [s] else []
  | .app x y => occ x ++ occ y
theorem freeA_occ : ∀ (t : Ty) (out : List B), freeA t out = addAll out (occ t)
  | .lf f n s, out => by
    unfold freeA occ
    split <;> rfl
  | .app x y, out => by
    rw [freeA, freeA_occ x, freeA_occ y, occ, addAll, addAll, addAll, List.foldl_append]
theorem add_mem {a : List B} {s : B} (h : s ∈ a) : add a s = a := by unfold add; rw [if_pos h]
theorem mem_add {a : List B} {s u : B} : u ∈ add a s ↔ u ∈ a ∨ u = s := by
  unfold add
  split
  · rename_i h
    constructor
    · exact .inl
    · rintro (h1 | rfl)
      · exact h1
      · exact h
  · simp
theorem mem_addAll {u : B} : ∀ (l a : List B), u ∈ addAll a l ↔ u ∈ a ∨ u ∈ l
  | [], a => by simp [addAll]
  | s :: l, a => by
    have h := mem_addAll (u := u) l (add a s)
    unfold addAll at h ⊢
    rw [List.foldl_cons, h, mem_add, List.mem_cons, or_assoc]
/-- What is added once more adds nothing. -/
theorem addAll_out : ∀ (l a out : List B), addAll out (addAll a l) = addAll (addAll out a) l
  | [], a, out => rfl
  | s :: l, a, out => by
    have ih := addAll_out l (add a s) out
    show addAll out (addAll (add a s) l) = addAll (add (addAll out a) s) l
    rw [ih]
    congr 1
    unfold add
    by_cases h : s ∈ a
    · rw [if_pos h, if_pos ((mem_addAll a out).2 (.inr h))]
    · rw [if_neg h]
      show addAll out (a ++ [s]) = _
      unfold addAll
      rw [List.foldl_append]
      rfl
theorem addAll_free (t : Ty) (out : List B) : addAll out (free t) = freeA t out := by
  rw [free, freeA_occ, freeA_occ, addAll_out]; rfl
end Go.Tr
namespace Go.Tr
open Go Go.Eng
theorem add_len (a : List B) (s : B) : (add a s).length ≤ a.length + 1 := by
  unfold add; split
  · omega
  · simp
theorem addAll_len : ∀ (l a : List B), (addAll a l).length ≤ a.length + l.length
  | [], a => by simp [addAll]
  | s :: l, a => by
    have h1 := addAll_len l (add a s)
    have h2 := add_len a s
    show (addAll (add a s) l).length ≤ _
    rw [List.length_cons]; omega
theorem freeA_len (t : Ty) (out : List B) : (freeA t out).length ≤ out.length + (occ t).length := by
  rw [freeA_occ]; exact addAll_len _ _
theorem free_len (t : Ty) : (free t).length ≤ (occ t).length := by
  have := freeA_len t []
  simpa [free] using this
def kidsA (ks : List Ty) (o : List B) : List B := ks.foldl (fun o x => freeA x o) o
theorem kidsA_len : ∀ (ks : List Ty) (o : List B), (kidsA ks o).length ≤ o.length + (ks.flatMap occ).length
  | [], o => by simp [kidsA]
  | x :: ks, o => by
    have h1 := kidsA_len ks (freeA x o)
    have h2 := freeA_len x o
    show (kidsA ks (freeA x o)).length ≤ _
    rw [List.flatMap_cons, List.length_append]; omega
theorem occ_kids (t : Ty) (h : t.form ≠ 2) : t.kids.flatMap occ = occ t := by
  cases t with
  | lf f n s => simp only [Ty.form] at h; simp [Ty.kids, occ, h]
  | app x y => simp [Ty.kids, occ]
theorem kidsA_all (t : Ty) (h : t.form ≠ 2) (o : List B) : kidsA t.kids o = freeA t o := by
  cases t with
  | lf f n s => simp only [Ty.form] at h; simp [Ty.kids, kidsA, freeA, h]
  | app x y => rfl
theorem kidsA_take {ks : List Ty} {q : Nat} {x : Ty} (h : ks[q]? = some x) (o : List B) : kidsA (ks.take (q + 1)) o = freeA x (kidsA (ks.take q) o) := by
  rw [List.take_add_one, h, kidsA, List.foldl_append]; rfl
theorem kids_occ {t x : Ty} (h : x ∈ t.kids) : (occ x).length ≤ (occ t).length := by
  cases t with
  | lf f n s => cases h
  | app a b =>
    simp only [Ty.kids, List.mem_cons, List.not_mem_nil, or_false] at h
    simp only [occ, List.length_append]
    rcases h with rfl | rfl <;> omega
theorem take_occ {ks : List Ty} {q : Nat} : ((ks.take q).flatMap occ).length ≤ (ks.flatMap occ).length := by
  conv => rhs; rw [← List.take_append_drop q ks, List.flatMap_append, List.length_append]
  omega
theorem freeA_var {f n : Int} {s : B} (h : f = 2) (o : List B) : freeA (.lf f n s) o = add o s := by simp [freeA, h]
theorem form2 {t : Ty} (h : t.form = 2) : ∃ n s, t = .lf 2 n s := by
  cases t with
  | lf f n s => simp only [Ty.form] at h; subst h; exact ⟨n, s, rfl⟩
  | app x y => simp [Ty.form] at h
theorem addAll_take {l : List B} {p : Nat} {s : B} (h : l[p]? = some s) (a : List B) : addAll a (l.take (p + 1)) = add (addAll a (l.take p)) s := by
  rw [List.take_add_one, h, addAll, List.foldl_append]; rfl
end Go.Tr
set_option linter.unusedVariables false
set_option linter.unusedSimpArgs false
namespace Go.Tr
open Go Go.Eng Go.RowKit Go.Lx
/-- These five cells are the predicate. -/
def PdV (V : Vw) (p : Pd) (cs : List Value) : Prop := ∃ ts, cs = St p.1 :: ts ∧ TyV V p.2 ts
theorem PdV.le {V V' : Vw} (hv : VLe V V') {p : Pd} {cs : List Value} (h : PdV V p cs) : PdV V' p cs := by
  obtain ⟨ts, h1, h2⟩ := h; exact ⟨ts, h1, h2.le hv⟩
theorem PdV.shape {V : Vw} {p : Pd} {cs : List Value} (h : PdV V p cs) : ∃ f n s a k c, cs = [St p.1, .int .i64 f, .int .i64 n, St s, .slice a k c] ∧ k ≤ c ∧ c ≤ maxLen := by
  obtain ⟨ts, rfl, h⟩ := h
  obtain ⟨f, n, s, a, k, c, rfl, h1, h2⟩ := h.shape
  exact ⟨f, n, s, a, k, c, rfl, h1, h2⟩
theorem PdV.len {V : Vw} {t : Pd} {cs : List Value} (h : PdV V t cs) : cs.length = 5 := by
  obtain ⟨_, _, _, _, _, _, rfl, _⟩ := h.shape; rfl
theorem PdV.one {V : Vw} {t : Pd} {cs : List Value} (h : PdV V t cs) : cs.all (·.oneCell') = true := by
  obtain ⟨_, _, _, _, _, _, rfl, _⟩ := h.shape; rfl
theorem PdV.ty {V : Vw} {p : Pd} {x : Value} {ts : List Value} (h : PdV V p (x :: ts)) : TyV V p.2 ts := by
  obtain ⟨us, h1, h2⟩ := h; cases h1; exact h2
/-- A slice of n predicates. -/
def PdSl (V : Vw) (v : Value) (ts : List Pd) : Prop := ∃ a c b off, v = .slice a ts.length c ∧ ts.length ≤ c ∧ c ≤ maxLen ∧ (0 < ts.length → a = some ⟨b, off, none⟩) ∧ ∀ (i : Nat) x, ts[i]? = some x → ∃ xs, VRow V b (off + i * 5) xs ∧ PdV V x xs
theorem PdSl.le {V V' : Vw} {v : Value} {ts : List Pd} (h : PdSl V v ts) (hv : VLe V V') : PdSl V' v ts := by
  obtain ⟨a, c, b, off, h1, h2, h3, h4, h5⟩ := h
  exact ⟨a, c, b, off, h1, h2, h3, h4, fun i x hx => by obtain ⟨xs, g1, g2⟩ := h5 i x hx; exact ⟨xs, g1.le hv, g2.le hv⟩⟩
/-- These cells are these predicates, one behind the other. -/
def PdsO (V : Vw) (ts : List Pd) (xs : List Value) : Prop := xs.length = ts.length * 5 ∧ ∀ (i : Nat) x, ts[i]? = some x → ∃ ys, ORow xs (i * 5) ys ∧ PdV V x ys
theorem PdsO.nil (V : Vw) : PdsO V [] [] := ⟨rfl, fun i x h => by simp at h⟩
theorem PdsO.le {V V' : Vw} {ts : List Pd} {xs : List Value} (h : PdsO V ts xs) (hv : VLe V V') : PdsO V' ts xs := ⟨h.1, fun i x hx => by obtain ⟨ys, g1, g2⟩ := h.2 i x hx; exact ⟨ys, g1, g2.le hv⟩⟩
theorem PdsO.snoc {V : Vw} {ts : List Pd} {xs ys : List Value} {x : Pd} (h : PdsO V ts xs) (hx : PdV V x ys) : PdsO V (ts ++ [x]) (xs ++ ys) := by
  refine ⟨by have := h.1; have := hx.len; simp; omega, fun i z hz => ?_⟩
  rcases Nat.lt_trichotomy i ts.length with hi | hi | hi
  · rw [List.getElem?_append_left hi] at hz
    obtain ⟨zs, g1, g2⟩ := h.2 i z hz
    refine ⟨zs, fun j u hj => ?_, g2⟩
    have h1 := g1 j u hj
    rw [List.getElem?_append_left (List.getElem?_eq_some_iff.1 h1).1]; exact h1
  · subst hi
    rw [List.getElem?_append_right (Nat.le_refl _)] at hz
    simp at hz; subst hz
    refine ⟨ys, fun j u hj => ?_, hx⟩
    rw [List.getElem?_append_right (by rw [h.1]; omega), h.1, Nat.add_sub_cancel_left]; exact hj
  · have := (List.getElem?_eq_some_iff.1 hz).1
    simp at this; omega
/-- A slice of the call's own, frozen. -/
theorem PdsO.frozen {V V' : Vw} {ts : List Pd} {xs : List Value} {a : Option Addr} {n c b : Nat} (h : PdsO V ts xs) (hv : VLe V V') (hn : n = ts.length) (h2 : n ≤ c) (h3 : c ≤ maxLen) (h4 : 0 < n → a = some ⟨b, 0, none⟩) (h5 : ∀ (i : Nat) u, xs[i]? = some u → V' ⟨b, 0 + i, none⟩ = some u) : PdSl V' (.slice a n c) ts := by
  subst hn
  refine ⟨a, c, b, 0, rfl, h2, h3, h4, fun i x hx => ?_⟩
  obtain ⟨ys, g1, g2⟩ := h.2 i x hx
  refine ⟨ys, fun j u hj => ?_, g2.le hv⟩
  rw [Nat.add_assoc]
  exact h5 _ u (g1 j u hj)
theorem PdsO.one {V : Vw} {ts : List Pd} {xs : List Value} (h : PdsO V ts xs) : ∀ u ∈ xs, u.oneCell' = true := by
  intro u hu
  obtain ⟨k, hk⟩ := List.mem_iff_getElem?.1 hu
  have hlt := (List.getElem?_eq_some_iff.1 hk).1
  have hd : k / 5 < ts.length := by have := h.1; omega
  obtain ⟨ys, g1, g2⟩ := h.2 (k / 5) _ (List.getElem?_eq_getElem hd)
  have hl := g2.len
  have hm : k % 5 < ys.length := by omega
  have h2 := g1 (k % 5) _ (List.getElem?_eq_getElem hm)
  rw [show k / 5 * 5 + k % 5 = k by omega, hk] at h2
  cases h2
  exact List.all_eq_true.1 g2.one _ (List.getElem_mem hm)
/-- The cells of a slice of predicates, as a list. -/
theorem PdSl.cells {V : Vw} : ∀ {ts : List Pd} {b off : Nat}, (∀ (i : Nat) x, ts[i]? = some x → ∃ xs, VRow V b (off + i * 5) xs ∧ PdV V x xs) → ∃ us, PdsO V ts us ∧ ∀ (j : Nat) u, us[j]? = some u → V ⟨b, off + j, none⟩ = some u
  | [], b, off, _ => ⟨[], PdsO.nil V, fun j u h => by simp at h⟩
  | t :: ts, b, off, h => by
    obtain ⟨xs, g1, g2⟩ := h 0 t rfl
    obtain ⟨us, k1, k2⟩ := PdSl.cells (ts := ts) (b := b) (off := off + 5) (fun i x hx => by
      obtain ⟨ys, e1, e2⟩ := h (i + 1) x (by simpa using hx)
      exact ⟨ys, by rw [show off + 5 + i * 5 = off + (i + 1) * 5 by omega]; exact e1, e2⟩)
    have hl := g2.len
    refine ⟨xs ++ us, ⟨by have := k1.1; simp; omega, fun i x hx => ?_⟩, fun j u hj => ?_⟩
    · cases i with
      | zero =>
        simp at hx; subst hx
        refine ⟨xs, fun j u hj => ?_, g2⟩
        rw [Nat.zero_mul, Nat.zero_add, List.getElem?_append_left (List.getElem?_eq_some_iff.1 hj).1]; exact hj
      | succ i =>
        obtain ⟨ys, e1, e2⟩ := k1.2 i x (by simpa using hx)
        refine ⟨ys, fun j u hj => ?_, e2⟩
        rw [List.getElem?_append_right (by omega), show (i + 1) * 5 + j - xs.length = i * 5 + j by omega]
        exact e1 j u hj
    · rcases Nat.lt_or_ge j 5 with h3 | h3
      · rw [List.getElem?_append_left (by omega)] at hj
        have := g1 j u hj
        rwa [Nat.zero_mul, Nat.add_zero] at this
      · rw [List.getElem?_append_right (by omega), hl] at hj
        have := k2 (j - 5) u hj
        rwa [show off + 5 + (j - 5) = off + j by omega] at this
theorem PdSl.ofO {V : Vw} {ts : List Pd} {us : List Value} {a : Option Addr} {n c b off : Nat} (h : PdsO V ts us) (hn : n = ts.length) (h2 : n ≤ c) (h3 : c ≤ maxLen) (h4 : 0 < n → a = some ⟨b, off, none⟩) (h5 : ∀ (j : Nat) u, us[j]? = some u → V ⟨b, off + j, none⟩ = some u) : PdSl V (.slice a n c) ts := by
  subst hn
  refine ⟨a, c, b, off, rfl, h2, h3, h4, fun i x hx => ?_⟩
  obtain ⟨ys, g1, g2⟩ := h.2 i x hx
  refine ⟨ys, fun j u hj => ?_, g2⟩
  rw [Nat.add_assoc]
  exact h5 _ u (g1 j u hj)
section
variable {l : List Tok} {f i j : Nat} {p : Pd} {t : Tok}
theorem plist_none (h : pred l i 1 = none) : plist l (f + 1) i = none := by simp [plist, h]
theorem plist_shut (h : pred l i 1 = some (p, j)) (ht : l[j]? = some t) (hs : sym [41] t = true) : plist l (f + 1) i = some ([p], j + 1) := by simp [plist, h, ht, hs]
theorem plist_stop (h : pred l i 1 = some (p, j)) (ht : l[j]? = some t) (hs : sym [41] t = false) (hc : sym [44] t = false) : plist l (f + 1) i = none := by simp [plist, h, ht, hs, hc]
theorem plist_next (h : pred l i 1 = some (p, j)) (ht : l[j]? = some t) (hs : sym [41] t = false) (hc : sym [44] t = true) : plist l (f + 1) i = (plist l f (j + 1)).map (fun r => (p :: r.1, r.2)) := by simp [plist, h, ht, hs, hc]
theorem pred_not (ht : l[i]? = some t) (h : t.k ≠ 2) {op : Nat} : pred l i op = none := by simp [pred, ht, h]
theorem pred_err (ht : l[i]? = some t) {op : Nat} {e} (h : rd l (fuel l) .atom (i + 1) op = .error e) : pred l i op = none := by
  unfold pred
  rw [ht]
  show (if t.k = 2 then _ else none) = none
  split
  · rw [h]
  · rfl
theorem pred_some (ht : l[i]? = some t) (h2 : t.k = 2) {op : Nat} {x : Ty} (h : rd l (fuel l) .atom (i + 1) op = .ok (x, j)) : pred l i op = some ((t.s, x), j) := by simp [pred, ht, h2, h]
theorem pred_adv {op : Nat} (h : pred l i op = some (p, j)) : i < j := by
  unfold pred at h
  split at h
  · cases h
  · split at h
    · split at h
      · cases h
      · rename_i x j' hr
        cases h
        have := (rd_adv l _ _ _ _ _ _ hr).1
        omega
    · cases h
theorem sym_two {x y : B} {t : Tok} (h : sym x t = true) (hn : x ≠ y) : sym y t = false := by
  simp only [sym, Bool.and_eq_true, decide_eq_true_eq] at h
  simp [sym, h.1, h.2, hn]
end
end Go.Tr
namespace Go.Tr
open Go Go.Eng Go.RowKit Go.Lx
theorem preds_none {l : List Tok} {i : Nat} (h : predsR l i = none) : preds l i = .ok ([], i) := by simp [preds, h]
theorem preds_some {l : List Tok} {i j : Nat} {ps : List Pd} {t t0 : Tok} (h : predsR l i = some (ps, j)) (ht : l[j]? = some t) (h0 : l[i]? = some t0) : preds l i = if sym [61, 62] t then (if 16 < ps.length then .error (2, t0.a) else .ok (ps, j + 1)) else .ok ([], i) := by simp [preds, h, ht, h0]
theorem predsR_in {l : List Tok} {i : Nat} {t : Tok} (ht : l[i]? = some t) (h : sym [40] t = true) : predsR l i = plist l l.length (i + 1) := by simp [predsR, ht, h]
theorem predsR_one {l : List Tok} {i : Nat} {t : Tok} (ht : l[i]? = some t) (h : sym [40] t = false) : predsR l i = (pred l i 0).map (fun r => ([r.1], r.2)) := by simp [predsR, ht, h]
theorem PdSl.one {V : Vw} {p : Pd} {cs : List Value} {b : Nat} (h : PdV V p cs) (hc : ∀ (i : Nat) u, cs[i]? = some u → V ⟨b, i, none⟩ = some u) : PdSl V (.slice (some ⟨b, 0, none⟩) 1 1) [p] := by
  refine ⟨_, 1, b, 0, rfl, Nat.le_refl _, by unfold maxLen; omega, fun _ => rfl, fun i x hx => ?_⟩
  cases i with
  | zero =>
    simp at hx; subst hx
    refine ⟨cs, fun j u hj => ?_, h⟩
    rw [show 0 + 0 * 5 + j = j by omega]; exact hc j u hj
  | succ i => simp at hx
theorem PdSl.nil (V : Vw) : PdSl V (.slice none 0 0) [] := ⟨none, 0, 0, 0, rfl, Nat.le_refl _, by unfold maxLen; omega, fun h => absurd h (by simp), fun i x hx => by simp at hx⟩
theorem PdSl.open' {V : Vw} {v : Value} {ps : List Pd} (h : PdSl V v ps) : ∃ a c, v = .slice a ps.length c ∧ ps.length ≤ c ∧ c ≤ maxLen := by
  obtain ⟨a, c, b, off, h1, h2, h3, _⟩ := h; exact ⟨a, c, h1, h2, h3⟩
theorem plist_len {l : List Tok} : ∀ (f i : Nat) (ps : List Pd) (j : Nat), plist l f i = some (ps, j) → ps.length + i ≤ j
  | 0, _, _, _, h => by simp [plist] at h
  | f + 1, i, ps, j, h => by
    unfold plist at h
    split at h
    · cases h
    · rename_i p k hp
      have hk := pred_adv hp
      split at h
      · cases h
      · split at h
        · cases h; simp; omega
        · split at h
          · cases hr : plist l f (k + 1) with
            | none => rw [hr] at h; cases h
            | some r =>
              rw [hr] at h
              obtain ⟨qs, q⟩ := r
              cases h
              have := plist_len f (k + 1) _ _ hr
              simp only [List.length_cons]; omega
          · cases h
end Go.Tr
set_option linter.unusedVariables false
set_option linter.unusedSimpArgs false
namespace Go.Tr
open Go Go.Lx Go.Eng
def mdOcc : Md → Nat
  | .more x => (occ x).length
  | _ => 0
theorem rd_occ (l : List Tok) : ∀ (f : Nat) (m : Md) (i op : Nat) (t : Ty) (j : Nat), rd l f m i op = .ok (t, j) → (occ t).length + i ≤ j + mdOcc m
  | 0, _, _, _, _, _, h => by simp [rd] at h
  | f + 1, .atom, i, op, t, j, h => by
    simp only [rd] at h
    split at h
    · cases h
    split at h
    · cases h; simp [occ, mdOcc]
    split at h
    · cases h; simp [occ, mdOcc]; omega
    split at h
    · cases h
    split at h
    · cases h
    split at h
    · cases h
    rename_i x j' hr
    split at h
    · cases h
    split at h
    · cases h
      have := rd_occ l f _ _ _ _ _ hr
      simp only [mdOcc] at this ⊢
      omega
    · cases h
  | f + 1, .whole, i, op, t, j, h => by
    simp only [rd] at h
    split at h
    · cases h
    rename_i x j' hr
    have h1 := rd_occ l f _ _ _ _ _ hr
    have h2 := rd_occ l f _ _ _ _ _ h
    simp only [mdOcc] at h1 h2 ⊢
    omega
  | f + 1, .more x, i, op, t, j, h => by
    simp only [rd] at h
    split at h
    · cases h
    split at h
    · split at h
      · cases h
      rename_i a j' hr
      have h1 := rd_occ l f _ _ _ _ _ hr
      have h2 := rd_occ l f _ _ _ _ _ h
      simp only [mdOcc, occ, List.length_append] at h1 h2 ⊢
      omega
    · split at h
      · split at h
        · cases h
        rename_i y j' hr
        cases h
        have h1 := rd_occ l f _ _ _ _ _ hr
        simp only [mdOcc, occ, List.length_append] at h1 ⊢
        simp
        omega
      · cases h; simp [mdOcc]; omega
def pOcc (ps : List Pd) : Nat := (ps.flatMap fun p => occ p.2).length
theorem pred_occ {l : List Tok} {i op j : Nat} {p : Pd} (h : pred l i op = some (p, j)) : (occ p.2).length + i ≤ j := by
  unfold pred at h
  split at h
  · cases h
  · split at h
    · split at h
      · cases h
      · rename_i x j' hr
        cases h
        have := rd_occ l _ _ _ _ _ _ hr
        simp only [mdOcc] at this
        simp only; omega
    · cases h
theorem plist_occ {l : List Tok} : ∀ (f i : Nat) (ps : List Pd) (j : Nat), plist l f i = some (ps, j) → pOcc ps + i ≤ j
  | 0, _, _, _, h => by simp [plist] at h
  | f + 1, i, ps, j, h => by
    unfold plist at h
    split at h
    · cases h
    · rename_i p k hp
      have hk := pred_occ hp
      split at h
      · cases h
      · split at h
        · cases h
          simp only [pOcc, List.flatMap_cons, List.flatMap_nil, List.append_nil]
          omega
        · split at h
          · cases hr : plist l f (k + 1) with
            | none => rw [hr] at h; cases h
            | some r =>
              rw [hr] at h
              obtain ⟨qs, q⟩ := r
              cases h
              have := plist_occ f (k + 1) _ _ hr
              simp only [pOcc, List.flatMap_cons, List.length_append] at this ⊢
              omega
          · cases h
theorem preds_occ {l : List Tok} {i j : Nat} {ps : List Pd} (h : preds l i = .ok (ps, j)) : pOcc ps + i ≤ j ∧ ps.length ≤ 16 := by
  unfold preds at h
  cases hr : predsR l i with
  | none => rw [hr] at h; cases h; simp [pOcc]
  | some r =>
    obtain ⟨qs, q⟩ := r
    rw [hr] at h
    have hq : pOcc qs + i ≤ q := by
      unfold predsR at hr
      split at hr
      · cases hr
      · split at hr
        · have := plist_occ _ _ _ _ hr
          omega
        · cases hp : pred l i 0 with
          | none => rw [hp] at hr; cases hr
          | some s =>
            obtain ⟨p, k⟩ := s
            rw [hp] at hr
            cases hr
            have := pred_occ hp
            simp only [pOcc, List.flatMap_cons, List.flatMap_nil, List.append_nil]
            omega
    simp only at h
    split at h
    · split at h
      · split at h
        · cases h
        · cases h; exact ⟨by omega, by omega⟩
      · cases h; simp [pOcc]
    · cases h; simp [pOcc]
theorem addAll_len' (a l : List B) : (addAll a l).length ≤ a.length + l.length := addAll_len l a
theorem varsOf_snoc (ts : List Ty) (t : Ty) : varsOf (ts ++ [t]) = addAll (varsOf ts) (free t) := by simp [varsOf, List.foldl_append]
theorem varsOf_take {ts : List Ty} {q : Nat} {t : Ty} (h : ts[q]? = some t) : varsOf (ts.take (q + 1)) = addAll (varsOf (ts.take q)) (free t) := by
  rw [List.take_add_one, h]; exact varsOf_snoc _ _
theorem varsOf_len : ∀ (ts : List Ty), (varsOf ts).length ≤ (ts.flatMap occ).length := by
  intro ts
  have : ∀ (ts : List Ty) (a : List B), (ts.foldl (fun a t => addAll a (free t)) a).length ≤ a.length + (ts.flatMap occ).length := by
    intro ts
    induction ts with
    | nil => intro a; simp
    | cons t ts ih =>
      intro a
      have h1 := ih (addAll a (free t))
      have h2 := addAll_len (free t) a
      have h3 := free_len t
      rw [List.foldl_cons, List.flatMap_cons, List.length_append]
      omega
  have := this ts []
  simpa [varsOf] using this
theorem pd_take {ps : List Pd} {q : Nat} {p : Pd} (h : ps[q]? = some p) : (ps.map (·.2))[q]? = some p.2 := by simp [h]
theorem flatMap_map_occ (ps : List Pd) : ((ps.map (·.2)).flatMap occ).length = pOcc ps := by
  rw [pOcc, List.flatMap_map]
theorem mem_occ {ts : List Ty} {t : Ty} (h : t ∈ ts) : (occ t).length ≤ (ts.flatMap occ).length := by
  induction ts with
  | nil => cases h
  | cons a ts ih =>
    rw [List.flatMap_cons, List.length_append]
    rcases List.mem_cons.1 h with rfl | h
    · omega
    · have := ih h; omega
theorem take_occ' (ts : List Ty) (q : Nat) : ((ts.take q).flatMap occ).length ≤ (ts.flatMap occ).length := take_occ
theorem scheme_pe {l : List Tok} {i : Nat} {e} (h : preds l i = .error e) : scheme l i = .error e := by simp [scheme, h]
theorem scheme_te {l : List Tok} {i j : Nat} {ps} {e} (h : preds l i = .ok (ps, j)) (h2 : rd l (fuel l) .whole j 0 = .error e) : scheme l i = .error e := by simp [scheme, h, h2]
theorem scheme_ok' {l : List Tok} {i j n : Nat} {ps} {t : Ty} (h : preds l i = .ok (ps, j)) (h2 : rd l (fuel l) .whole j 0 = .ok (t, n)) : scheme l i = .ok (⟨varsOf (ps.map (·.2) ++ [t]), ps, t⟩, n) := by simp [scheme, h, h2]
theorem rd_occ0 {l : List Tok} {f i op j : Nat} {t : Ty} (h : rd l f .whole i op = .ok (t, j)) : (occ t).length + i ≤ j := by
  have := rd_occ l _ _ _ _ _ _ h
  simpa [mdOcc] using this
end Go.Tr
set_option linter.unusedVariables false
set_option linter.unusedSimpArgs false
namespace Go.Tr
open Go Go.Lx Go.Eng
def sane1 (t : Tok) : Prop := (t.k = 4 → t.n = 0) ∧ I64 t.k ∧ I64 t.n ∧ I64 t.a ∧ t.s.length ≤ 1000000
structure LOk (l : List Tok) : Prop where
  ne : l ≠ []
  last : ∀ t, l.getLast? = some t → t.k = 6
  sane : ∀ t ∈ l, sane1 t
theorem LOk.end {i : Nat} (h : i ≤ 1000000) : LOk [⟨6, [], 0, i⟩] := by
  refine ⟨by simp, fun t ht => by simp at ht; subst ht; rfl, fun t ht => ?_⟩
  simp only [List.mem_cons, List.not_mem_nil, or_false] at ht
  subst ht
  refine ⟨fun h => absurd (show (6 : Int) = 4 from h) (by decide), ?_, ?_, ?_, by simp⟩ <;> unfold I64 <;> simp only <;> omega
theorem LOk.cons {l : List Tok} {t : Tok} (h : LOk l) (ht : sane1 t) : LOk (t :: l) := by
  refine ⟨by simp, fun u hu => ?_, fun u hu => ?_⟩
  · cases l with
    | nil => exact absurd rfl h.ne
    | cons a l => rw [List.getLast?_cons_cons] at hu; exact h.last u hu
  · rcases List.mem_cons.1 hu with rfl | hu
    · exact ht
    · exact h.sane u hu
theorem one_sane {s : List UInt8} {t : Tok} (h : one s = .ok t) : (t.k = 4 → t.n = 0) ∧ 1 ≤ t.k ∧ t.k ≤ 5 ∧ 0 ≤ t.n ∧ t.n ≤ 2147483647 := by
  unfold one at h
  split at h
  · split at h
    · cases h; refine ⟨fun h => absurd (show (3 : Int) = 4 from h) (by decide), ?_⟩; simp only; omega
    · cases h
  · split at h
    · split at h
      · cases h
      · cases h
        refine ⟨fun _ => rfl, ?_⟩
        simp only
        split
        · omega
        · split <;> omega
    · split at h
      · cases h; refine ⟨fun _ => rfl, ?_⟩; simp only; omega
      · cases h
theorem lexF_tok : ∀ (f : Nat) (s : List UInt8) (i : Nat) (l : List Tok), lexF f s i = .ok l → i + s.length ≤ 1000000 → LOk l ∧ l.length ≤ s.length + 1
  | 0, s, i, l, h, hi => by
    have : l = [⟨6, [], 0, i⟩] := by cases s <;> (simp only [lexF] at h; cases h; rfl)
    subst this
    exact ⟨LOk.end (by omega), by simp⟩
  | f + 1, [], i, l, h, hi => by
    simp only [lexF] at h
    cases h
    exact ⟨LOk.end (by simpa using hi), by simp⟩
  | f + 1, c :: r, i, l, h, hi => by
    simp only [lexF] at h
    simp only [List.length_cons] at hi ⊢
    split at h
    · have := lexF_tok f r (i + 1) l h (by omega)
      exact ⟨this.1, by omega⟩
    · split at h
      · have ht := tw_le noNl (c :: r)
        rw [List.length_cons] at ht
        have := lexF_tok f _ _ l h (by rw [List.length_drop, List.length_cons]; omega)
        rw [List.length_drop, List.length_cons] at this
        exact ⟨this.1, by omega⟩
      · split at h
        · cases h
        · rename_i t ho
          have h1 := one_len ho
          have h2 := one_sane ho
          rw [List.length_cons] at h1
          split at h
          · cases h
          · rename_i l' hl'
            cases h
            have := lexF_tok f _ _ l' hl' (by rw [List.length_drop, List.length_cons]; omega)
            rw [List.length_drop, List.length_cons] at this
            refine ⟨this.1.cons ⟨h2.1, ?_, ?_, ?_, ?_⟩, ?_⟩
            · unfold I64; simp only; omega
            · unfold I64; simp only; omega
            · unfold I64; simp only; omega
            · simp only; omega
            · rw [List.length_cons]; omega
theorem LOk.tok {l : List Tok} (h : LOk l) (hl : l.length ≤ 1000000) : TOk l := by
  refine ⟨fun i t ht hk => ?_, h.sane, hl⟩
  have hlt := (List.getElem?_eq_some_iff.1 ht).1
  rcases Nat.lt_or_ge (i + 1) l.length with h1 | h1
  · exact h1
  · exact absurd (h.last t (by rw [List.getLast?_eq_getElem?, ← ht]; congr 1; omega)) hk
theorem lexA_tok {s : List UInt8} {l : List Tok} (h : lexA s = .ok l) : TOk l ∧ 0 < l.length ∧ l.length ≤ 4001 := by
  unfold lexA at h
  split at h
  · have := lexF_tok _ _ _ _ h (by omega)
    refine ⟨this.1.tok (by omega), ?_, by omega⟩
    exact List.length_pos_iff.2 this.1.ne
  · cases h
def readT (s : List UInt8) : Except (Int × Int) Ty := match lexA s with
  | .error (e, n) => .error (e, n)
  | .ok l => match rd l (fuel l) .whole 0 0 with
    | .error e => .error e
    | .ok (t, k) => match l[k]? with
      | none => .error (0, 0)
      | some u => if u.k = 6 then .ok t else .error (12, u.a)
def readS (s : List UInt8) : Except (Int × Int) Sch := match lexA s with
  | .error (e, n) => .error (e, n)
  | .ok l => match scheme l 0 with
    | .error e => .error e
    | .ok (t, k) => match l[k]? with
      | none => .error (0, 0)
      | some u => if u.k = 6 then .ok t else .error (12, u.a)
theorem readT_l {s : List UInt8} {e : Int} {n : Nat} (h : lexA s = .error (e, n)) : readT s = .error (e, n) := by simp [readT, h]
theorem readS_l {s : List UInt8} {e : Int} {n : Nat} (h : lexA s = .error (e, n)) : readS s = .error (e, n) := by simp [readS, h]
theorem readT_e {s : List UInt8} {l : List Tok} {e} (h : lexA s = .ok l) (h2 : rd l (fuel l) .whole 0 0 = .error e) : readT s = .error e := by simp [readT, h, h2]
theorem readS_e {s : List UInt8} {l : List Tok} {e} (h : lexA s = .ok l) (h2 : scheme l 0 = .error e) : readS s = .error e := by simp [readS, h, h2]
theorem readT_k {s : List UInt8} {l : List Tok} {t : Ty} {k : Nat} {u : Tok} (h : lexA s = .ok l) (h2 : rd l (fuel l) .whole 0 0 = .ok (t, k)) (h3 : l[k]? = some u) : readT s = if u.k = 6 then .ok t else .error (12, u.a) := by simp [readT, h, h2, h3]
theorem readS_k {s : List UInt8} {l : List Tok} {t : Sch} {k : Nat} {u : Tok} (h : lexA s = .ok l) (h2 : scheme l 0 = .ok (t, k)) (h3 : l[k]? = some u) : readS s = if u.k = 6 then .ok t else .error (12, u.a) := by simp [readS, h, h2, h3]
end Go.Tr
set_option linter.unusedVariables false
set_option linter.unusedSimpArgs false
namespace Go.Tr
open Go Go.Lx Go.Eng
def isFn : Ty → Bool
  | .app (.app (.lf f _ s) _) _ => decide (f = 3) && decide (s = Ty.arrow)
  | _ => false
def brk (b : Bool) (s : B) : B := if b then 40 :: (s ++ [41]) else s
def pr : Ty → Nat → B
  | .lf f n s, _ => brk (decide (f = 3) && decide (s = Ty.arrow)) s
  | .app (.app (.lf f n s) a) b, h => if (decide (f = 3) && decide (s = Ty.arrow)) = true then brk (decide (h ≠ 0)) (pr a 1 ++ [32, 45, 62, 32] ++ pr b 0) else brk (decide (h = 3)) (brk false (pr (.lf f n s) 2 ++ [32] ++ pr a 3) ++ [32] ++ pr b 3)
  | .app x y, h => brk (decide (h = 3)) (pr x 2 ++ [32] ++ pr y 3)
/-- Names and constructors alone, numbers 0. -/
def Nm : Ty → Prop
  | .lf f n s => (f = 2 ∨ f = 3) ∧ n = 0
  | .app x y => Nm x ∧ Nm y
theorem pr_lf {f n : Int} {s : B} {h : Nat} : pr (.lf f n s) h = brk (decide (f = 3) && decide (s = Ty.arrow)) s := by simp [pr]
theorem pr_app {x y : Ty} (hn : isFn (.app x y) = false) (h : Nat) : pr (.app x y) h = brk (decide (h = 3)) (pr x 2 ++ [32] ++ pr y 3) := by
  cases x with
  | lf f n s => simp [pr]
  | app u v =>
    cases u with
    | lf f n s =>
      simp only [isFn] at hn
      rw [pr, hn]
      simp only [Bool.false_eq_true, if_false]
      congr 3
    | app u1 u2 => rw [pr]; intro f n s a hh; cases hh
theorem pr_fn {f n : Int} {s : B} {a b : Ty} (hn : isFn (.app (.app (.lf f n s) a) b) = true) (h : Nat) : pr (.app (.app (.lf f n s) a) b) h = brk (decide (h ≠ 0)) (pr a 1 ++ [32, 45, 62, 32] ++ pr b 0) := by
  simp only [isFn] at hn
  rw [pr, if_pos hn]
theorem brk_false (s : B) : brk false s = s := rfl
theorem isFn_cases (t : Ty) : (∃ f n s, t = .lf f n s) ∨ (∃ f n s a b, t = .app (.app (.lf f n s) a) b ∧ isFn t = true) ∨ (∃ x y, t = .app x y ∧ isFn t = false) := by
  cases t with
  | lf f n s => exact .inl ⟨f, n, s, rfl⟩
  | app x y =>
    cases h : isFn (.app x y) with
    | false => exact .inr (.inr ⟨x, y, rfl, rfl⟩)
    | true =>
      cases x with
      | lf f n s => simp [isFn] at h
      | app u v =>
        cases u with
        | lf f n s => exact .inr (.inl ⟨f, n, s, v, y, rfl, rfl⟩)
        | app _ _ => simp [isFn] at h
theorem pr_one (t : Ty) : pr t 1 = brk (isFn t) (pr t 0) := by
  rcases isFn_cases t with ⟨f, n, s, rfl⟩ | ⟨f, n, s, a, b, rfl, h⟩ | ⟨x, y, rfl, h⟩
  · rw [pr_lf, pr_lf]; rfl
  · rw [pr_fn h, pr_fn h, h]; rfl
  · rw [pr_app h, pr_app h, h]; rfl
theorem pr_two (t : Ty) : pr t 2 = brk (isFn t) (pr t 0) := by
  rcases isFn_cases t with ⟨f, n, s, rfl⟩ | ⟨f, n, s, a, b, rfl, h⟩ | ⟨x, y, rfl, h⟩
  · rw [pr_lf, pr_lf]; rfl
  · rw [pr_fn h, pr_fn h, h]; rfl
  · rw [pr_app h, pr_app h, h]; rfl
theorem pr_three (t : Ty) (hf : t.kids = [] → t.form ≠ 4) : pr t 3 = brk (decide (t.form = 4)) (pr t 0) := by
  rcases isFn_cases t with ⟨f, n, s, rfl⟩ | ⟨f, n, s, a, b, rfl, h⟩ | ⟨x, y, rfl, h⟩
  · rw [pr_lf, pr_lf]
    have : f ≠ 4 := hf rfl
    simp [Ty.form, this, brk_false]
  · rw [pr_fn h, pr_fn h]; rfl
  · rw [pr_app h, pr_app h]; rfl
theorem brk_len (b : Bool) (s : B) : s.length ≤ (brk b s).length := by cases b <;> simp [brk] <;> omega
theorem pr0_le (t : Ty) (h : Nat) : (pr t 0).length ≤ (pr t h).length := by
  rcases isFn_cases t with ⟨f, n, s, rfl⟩ | ⟨f, n, s, a, b, rfl, hf⟩ | ⟨x, y, rfl, hf⟩
  · rw [pr_lf, pr_lf]; exact Nat.le_refl _
  · rw [pr_fn hf, pr_fn hf]; exact brk_len _ _
  · rw [pr_app hf, pr_app hf]; exact brk_len _ _
end Go.Tr
set_option linter.unusedVariables false
set_option linter.unusedSimpArgs false
namespace Go.Tr
open Go Go.Lx Go.Eng
theorem brk_le (b : Bool) (s : B) : (brk b s).length ≤ s.length + 2 := by cases b <;> simp [brk]
theorem pr_fn_len {f n : Int} {s : B} {a b : Ty} (hn : isFn (.app (.app (.lf f n s) a) b) = true) (h : Nat) : (pr a 0).length + (pr b 0).length + 4 ≤ (pr (.app (.app (.lf f n s) a) b) h).length ∧ (brk (isFn a) (pr a 0)).length ≤ (pr (.app (.app (.lf f n s) a) b) h).length := by
  rw [pr_fn hn, pr_one]
  have h1 := brk_len (decide (h ≠ 0)) (brk (isFn a) (pr a 0) ++ [32, 45, 62, 32] ++ pr b 0)
  have h2 := brk_len (isFn a) (pr a 0)
  simp only [List.length_append, List.length_cons, List.length_nil] at h1
  omega
theorem pr_app_len {x y : Ty} (hn : isFn (.app x y) = false) (h : Nat) : (pr x 0).length + (pr y 3).length + 1 ≤ (pr (.app x y) h).length ∧ (brk (isFn x) (pr x 0)).length + 1 ≤ (pr (.app x y) h).length := by
  rw [pr_app hn, pr_two]
  have h1 := brk_len (decide (h = 3)) (brk (isFn x) (pr x 0) ++ [32] ++ pr y 3)
  have h2 := brk_len (isFn x) (pr x 0)
  simp only [List.length_append, List.length_cons, List.length_nil] at h1
  omega
theorem pr3 {t : Ty} (h : Nm t) : pr t 3 = brk (decide (t.form = 4)) (pr t 0) := by
  refine pr_three t fun hk => ?_
  cases t with
  | lf f n s => simp only [Nm] at h; simp only [Ty.form]; omega
  | app x y => cases hk
theorem fn_eq {f n : Int} {s : B} {a b : Ty} (hn : isFn (.app (.app (.lf f n s) a) b) = true) (h : Nm (.app (.app (.lf f n s) a) b)) : Ty.app (.app (.lf f n s) a) b = .fn a b := by
  simp only [isFn, Bool.and_eq_true, decide_eq_true_eq] at hn
  simp only [Nm] at h
  rw [hn.1, hn.2, h.1.1.2]
end Go.Tr
set_option linter.unusedVariables false
set_option linter.unusedSimpArgs false
namespace Go.Tr
open Go Go.Lx Go.Eng
def names4 : List B := [[97], [98], [99], [120]]
def cons6 : List B := [[73, 110, 116], [66, 111, 111, 108], [76], [80], [70], [45, 62]]
/-- How many leaves and applications. -/
def sz : Ty → Nat
  | .lf _ _ _ => 1
  | .app x y => sz x + sz y + 1
def Lfs : Ty → Prop
  | .lf f n s => (f = 1 ∧ 0 ≤ n ∧ n ≤ 4 ∧ s = []) ∨ (f = 2 ∧ n = 0 ∧ s ∈ names4) ∨ (f = 3 ∧ n = 0 ∧ s ∈ cons6)
  | .app x y => Lfs x ∧ Lfs y
/-- What is made where so many levels are left. -/
def Bd (k : Nat) (t : Ty) : Prop := Lfs t ∧ sz t + 3 ≤ 4 * 2 ^ k ∧ t.ht ≤ 2 * k
theorem Bd.leaf {k : Nat} {f n : Int} {s : B} (h : Lfs (.lf f n s)) : Bd k (.lf f n s) := by
  refine ⟨h, ?_, Nat.zero_le _⟩
  have : 1 ≤ 2 ^ k := Nat.one_le_two_pow
  simp only [sz]; omega
theorem arrow_lf : Lfs (.con Ty.arrow) := .inr (.inr ⟨rfl, rfl, by decide⟩)
theorem Bd.fn {k : Nat} {a b : Ty} (ha : Bd k a) (hb : Bd k b) : Bd (k + 1) (.fn a b) := by
  obtain ⟨a1, a2, a3⟩ := ha
  obtain ⟨b1, b2, b3⟩ := hb
  refine ⟨⟨⟨arrow_lf, a1⟩, b1⟩, ?_, ?_⟩
  · simp only [sz]; rw [Nat.pow_succ]; omega
  · simp only [Ty.ht]; omega
theorem Bd.app {k : Nat} {a b : Ty} (ha : Bd k a) (hb : Bd k b) : Bd (k + 1) (.app a b) := by
  obtain ⟨a1, a2, a3⟩ := ha
  obtain ⟨b1, b2, b3⟩ := hb
  refine ⟨⟨a1, b1⟩, ?_, ?_⟩
  · simp only [sz]; rw [Nat.pow_succ]; omega
  · simp only [Ty.ht]; omega
def vars5 : List B := [[97], [98], [99], [120], [109]]
def cons7 : List B := [[73, 110, 116], [66, 111, 111, 108], [76], [80], [70], [70, 117, 110]]
/-- Types that are read of their print. -/
inductive Gd : Ty → Prop
  | var {s : B} (h : s ∈ vars5) : Gd (.lf 2 0 s)
  | con {s : B} (h : s ∈ cons7) : Gd (.lf 3 0 s)
  | fn {a b : Ty} (ha : Gd a) (hb : Gd b) : Gd (.fn a b)
  | app {a b : Ty} (ha : Gd a) (hb : Gd b) : Gd (.app a b)
theorem Gd.nm {t : Ty} (h : Gd t) : Nm t := by
  induction h with
  | var h => exact ⟨.inl rfl, rfl⟩
  | con h => exact ⟨.inr rfl, rfl⟩
  | fn ha hb i1 i2 => exact ⟨⟨⟨.inr rfl, rfl⟩, i1⟩, i2⟩
  | app ha hb i1 i2 => exact ⟨i1, i2⟩
theorem Gd.notArrow {n : Int} (h : Gd (.lf 3 n Ty.arrow)) : False := by
  cases h with
  | con h => revert h; decide
theorem Gd.notFn {x y : Ty} (h : Gd x) : isFn (.app x y) = false := by
  cases h with
  | var h => rfl
  | con h => rfl
  | fn ha hb => rfl
  | @app a b ha hb =>
    cases a with
    | app _ _ => rfl
    | lf f n s =>
      simp only [isFn, Bool.and_eq_false_iff, decide_eq_false_iff_not]
      by_cases h3 : f = 3
      · refine .inr fun hs => ?_
        subst h3 hs
        exact ha.notArrow
      · exact .inl h3
theorem Gd.isFn_fn (a b : Ty) : isFn (.fn a b) = true := rfl
theorem vars5_len {s : B} (h : s ∈ vars5) : s.length ≤ 4 ∧ s ≠ Ty.arrow := by
  have : ∀ s ∈ vars5, s.length ≤ 4 ∧ s ≠ Ty.arrow := by decide
  exact this s h
theorem cons7_len {s : B} (h : s ∈ cons7) : s.length ≤ 4 ∧ s ≠ Ty.arrow := by
  have : ∀ s ∈ cons7, s.length ≤ 4 ∧ s ≠ Ty.arrow := by decide
  exact this s h
theorem Gd.pr_len {t : Ty} (h : Gd t) : ∀ k, (pr t k).length ≤ 9 * sz t := by
  induction h with
  | var h =>
    intro k
    have := vars5_len h
    rw [pr_lf, decide_eq_false this.2, Bool.and_false, brk_false]
    simp only [sz]; omega
  | con h =>
    intro k
    have := cons7_len h
    rw [pr_lf, decide_eq_false this.2, Bool.and_false, brk_false]
    simp only [sz]; omega
  | @fn a b ha hb i1 i2 =>
    intro k
    have h1 := i1 1
    have h2 := i2 0
    rw [pr_fn (Gd.isFn_fn a b)]
    have h3 := brk_le (decide (k ≠ 0)) (pr a 1 ++ [32, 45, 62, 32] ++ pr b 0)
    simp only [sz]
    simp only [List.length_append, List.length_cons, List.length_nil] at h3
    omega
  | @app a b ha hb i1 i2 =>
    intro k
    have h1 := i1 2
    have h2 := i2 3
    rw [pr_app ha.notFn]
    have h3 := brk_le (decide (k = 3)) (pr a 2 ++ [32] ++ pr b 3)
    simp only [sz]
    simp only [List.length_append, List.length_cons, List.length_nil] at h3
    omega
theorem names_sub {s : B} (h : s ∈ names4) : s ∈ vars5 := by
  have : ∀ s ∈ names4, s ∈ vars5 := by decide
  exact this s h
theorem cons_sub {s : B} (h : s ∈ cons6) (ha : s ≠ Ty.arrow) : s ∈ cons7 := by
  have : ∀ s ∈ cons6, s ≠ Ty.arrow → s ∈ cons7 := by decide
  exact this s h ha
end Go.Tr
set_option linter.unusedVariables false
set_option linter.unusedSimpArgs false
namespace Go.Tr
open Go Go.Lx Go.Eng
def cls3 : List B := [[69], [79], [83]]
def item (p : B × B) : B := p.1 ++ [32] ++ p.2
def sepd (p : B × B) : B := [44, 32] ++ item p
def ctxIn : List (B × B) → B
  | [] => []
  | p :: ps => item p ++ ps.flatMap sepd
def ctxPre (ps : List (B × B)) : B := if ps = [] then [] else ctxIn ps ++ [44, 32]
theorem ctxIn_snoc (ps : List (B × B)) (p : B × B) : ctxIn (ps ++ [p]) = ctxPre ps ++ item p := by
  cases ps with
  | nil => simp [ctxIn, ctxPre]
  | cons q ps => simp [ctxIn, ctxPre, sepd, List.flatMap_append]
/-- Predicates with their sign. -/
def ctx (b : Bool) (ps : List (B × B)) : B := if ps = [] then [] else if b then [40] ++ ctxIn ps ++ [41, 32, 61, 62, 32] else ctxIn ps ++ [32, 61, 62, 32]
def PsOk (ps : List (B × B)) : Prop := ∀ p ∈ ps, p.1 ∈ cls3 ∧ p.2 ∈ names4
theorem PsOk.snoc {ps : List (B × B)} {p : B × B} (h : PsOk ps) (h1 : p.1 ∈ cls3) (h2 : p.2 ∈ names4) : PsOk (ps ++ [p]) := by
  intro q hq
  rcases List.mem_append.1 hq with hq | hq
  · exact h q hq
  · simp only [List.mem_cons, List.not_mem_nil, or_false] at hq
    subst hq; exact ⟨h1, h2⟩
theorem cls3_len {s : B} (h : s ∈ cls3) : s.length = 1 := by
  have : ∀ s ∈ cls3, s.length = 1 := by decide
  exact this s h
theorem names4_len1 {s : B} (h : s ∈ names4) : s.length = 1 := by
  have : ∀ s ∈ names4, s.length = 1 := by decide
  exact this s h
theorem item_len {p : B × B} (h : p.1 ∈ cls3 ∧ p.2 ∈ names4) : (item p).length = 3 := by
  simp [item, cls3_len h.1, names4_len1 h.2]
theorem ctxIn_len : ∀ {ps : List (B × B)}, PsOk ps → (ctxIn ps).length ≤ 5 * ps.length
  | [], _ => by simp [ctxIn]
  | p :: ps, h => by
    have h1 := item_len (h p (by simp))
    have : ∀ (qs : List (B × B)), (∀ q ∈ qs, q.1 ∈ cls3 ∧ q.2 ∈ names4) → (qs.flatMap sepd).length = 5 * qs.length := by
      intro qs
      induction qs with
      | nil => intro _; simp
      | cons q qs ih =>
        intro hq
        have e1 := item_len (hq q (by simp))
        have e2 := ih (fun q hq' => hq q (by simp [hq']))
        simp only [List.flatMap_cons, List.length_append, sepd, List.length_cons, List.length_nil, e1, e2]
        omega
    have h2 := this ps (fun q hq => h q (by simp [hq]))
    simp only [ctxIn, List.length_append, List.length_cons, h1, h2]
    omega
theorem ctxPre_len {ps : List (B × B)} (h : PsOk ps) : (ctxPre ps).length ≤ 5 * ps.length + 2 := by
  have := ctxIn_len h
  unfold ctxPre
  split
  · simp
  · simp; omega
theorem ctx_len {b : Bool} {ps : List (B × B)} (h : PsOk ps) : (ctx b ps).length ≤ 5 * ps.length + 6 := by
  have := ctxIn_len h
  unfold ctx
  split
  · simp
  · cases b <;> simp <;> omega
end Go.Tr
set_option linter.unusedVariables false
set_option linter.unusedSimpArgs false
namespace Go.Tr
open Go Go.Lx Go.Eng
abbrev KS := Int × B
def ks (t : Tok) : KS := (t.k, t.s)
/-- What may stand behind a word. -/
def Sep (r : B) : Prop := r = [] ∨ ∃ c r', r = c :: r' ∧ c ∈ ([32, 41, 44] : B)
theorem Sep.c {c : UInt8} {r : B} (h : c ∈ ([32, 41, 44] : B)) : Sep (c :: r) := .inr ⟨c, r, rfl, h⟩
/-- s, ahead of r, is lexed into these tokens. -/
def LT (s : B) (ts : List KS) (r : B) : Prop := ∀ i, ∃ l, lexR (s ++ r) i = pre l (lexR r (i + s.length)) ∧ l.map ks = ts
theorem LT.nil (r : B) : LT [] [] r := fun i => ⟨[], by cases h : lexR r i <;> simp [pre, h], rfl⟩
theorem LT.app {s1 s2 r : B} {t1 t2 : List KS} (h1 : LT s1 t1 (s2 ++ r)) (h2 : LT s2 t2 r) : LT (s1 ++ s2) (t1 ++ t2) r := fun i => by
  obtain ⟨l1, e1, m1⟩ := h1 i
  obtain ⟨l2, e2, m2⟩ := h2 (i + s1.length)
  refine ⟨l1 ++ l2, ?_, by rw [List.map_append, m1, m2]⟩
  rw [List.append_assoc, e1, e2, pre_pre, List.length_append, Nat.add_assoc]
theorem pre_nil (x : Except (Int × Nat) (List Tok)) : pre [] x = x := by cases x <;> rfl
theorem lt_blank (r : B) : LT [32] [] r := fun i => ⟨[], by rw [pre_nil]; exact lexR_blank rfl, rfl⟩
theorem lt_one {c : UInt8} {r : B} (hb : Lx.blank c = false) (hp : isPre (c :: r) [45, 45] = false) (ho : one (c :: r) = .ok ⟨4, [c], 0, 0⟩) : LT [c] [(4, [c])] r := fun i =>
  ⟨[⟨4, [c], 0, i⟩], lexR_tok hb hp ho, rfl⟩
theorem lt_two {c d : UInt8} {r : B} (hb : Lx.blank c = false) (hp : isPre (c :: d :: r) [45, 45] = false) (ho : one (c :: d :: r) = .ok ⟨4, [c, d], 0, 0⟩) : LT [c, d] [(4, [c, d])] r := fun i =>
  ⟨[⟨4, [c, d], 0, i⟩], lexR_tok hb hp ho, rfl⟩
theorem lt_lp (r : B) : LT [40] [(4, [40])] r := lt_one rfl (by cases r <;> rfl) rfl
theorem lt_rp (r : B) : LT [41] [(4, [41])] r := lt_one rfl (by cases r <;> rfl) rfl
theorem lt_comma (r : B) : LT [44] [(4, [44])] r := lt_one rfl (by cases r <;> rfl) rfl
theorem lt_arr (r : B) : LT [45, 62] [(4, [45, 62])] r := lt_two rfl (by cases r <;> rfl) rfl
theorem lt_imp (r : B) : LT [61, 62] [(4, [61, 62])] r := lt_two rfl (by cases r <;> rfl) rfl
theorem lt_arrow (r : B) : LT [32, 45, 62, 32] [(4, [45, 62])] r := LT.app (lt_blank _) (LT.app (lt_arr _) (lt_blank _))
theorem lt_imp1 (r : B) : LT [32, 61, 62, 32] [(4, [61, 62])] r := LT.app (lt_blank _) (LT.app (lt_imp _) (lt_blank _))
theorem lt_imp2 (r : B) : LT [41, 32, 61, 62, 32] [(4, [41]), (4, [61, 62])] r := LT.app (lt_rp _) (lt_imp1 _)
theorem lt_sep (r : B) : LT [44, 32] [(4, [44])] r := LT.app (lt_comma _) (lt_blank _)
theorem lt_brk {s : B} {ts : List KS} {r : B} (h : LT s ts (41 :: r)) : LT (brk true s) ((4, [40]) :: (ts ++ [(4, [41])])) r := LT.app (s1 := [40]) (lt_lp _) (LT.app h (lt_rp _))
def lows : List B := vars5
def upps : List B := cons7 ++ cls3
theorem low_one {t : B} (ht : t ∈ lows) {r : B} (hr : Sep r) : one (t ++ r) = .ok ⟨1, t, 0, 0⟩ := by
  simp only [lows, vars5, List.mem_cons, List.not_mem_nil, or_false] at ht
  rcases hr with rfl | ⟨c, r', rfl, hc⟩
  · rcases ht with rfl | rfl | rfl | rfl | rfl <;> rfl
  · simp only [List.mem_cons, List.not_mem_nil, or_false] at hc
    rcases hc with rfl | rfl | rfl <;> rcases ht with rfl | rfl | rfl | rfl | rfl <;> rfl
theorem upp_one {t : B} (ht : t ∈ upps) {r : B} (hr : Sep r) : one (t ++ r) = .ok ⟨2, t, 0, 0⟩ := by
  simp only [upps, cons7, cls3, List.mem_append, List.mem_cons, List.not_mem_nil, or_false] at ht
  rcases hr with rfl | ⟨c, r', rfl, hc⟩
  · rcases ht with (rfl | rfl | rfl | rfl | rfl | rfl) | rfl | rfl | rfl <;> rfl
  · simp only [List.mem_cons, List.not_mem_nil, or_false] at hc
    rcases hc with rfl | rfl | rfl <;> rcases ht with (rfl | rfl | rfl | rfl | rfl | rfl) | rfl | rfl | rfl <;> rfl
def headB' (t : B) : Bool := match t with | c :: r => !Lx.blank c && decide (c ≠ 45) | [] => false
theorem words_head {t : B} (ht : t ∈ lows ∨ t ∈ upps) : ∃ c t', t = c :: t' ∧ Lx.blank c = false ∧ c ≠ 45 := by
  have h1 : ∀ t ∈ lows, headB' t = true := by decide
  have h2 : ∀ t ∈ upps, headB' t = true := by decide
  have h : headB' t = true := ht.elim (h1 t) (h2 t)
  cases t with
  | nil => cases h
  | cons c t' =>
    simp only [headB', Bool.and_eq_true, Bool.not_eq_true', decide_eq_true_eq] at h
    exact ⟨c, t', rfl, h.1, h.2⟩
theorem lt_word {t : B} {k : Int} {r : B} (ht : t ∈ lows ∨ t ∈ upps) (ho : one (t ++ r) = .ok ⟨k, t, 0, 0⟩) : LT t [(k, t)] r := fun i => by
  obtain ⟨c, t', rfl, hb, hc⟩ := words_head ht
  have h2 := lexR_tok (i := i) (r := t' ++ r) hb (decide_eq_false (by
    intro h
    have := congrArg List.head? h
    simp at this
    exact hc this)) ho
  refine ⟨[⟨k, c :: t', 0, i⟩], ?_, rfl⟩
  simp only [List.cons_append] at h2 ⊢
  rw [h2]
  have : c :: (t' ++ r) = (c :: t') ++ r := rfl
  rw [this, List.drop_left]
theorem lt_low {t r : B} (ht : t ∈ lows) (hr : Sep r) : LT t [(1, t)] r := lt_word (.inl ht) (low_one ht hr)
theorem lt_upp {t r : B} (ht : t ∈ upps) (hr : Sep r) : LT t [(2, t)] r := lt_word (.inr ht) (upp_one ht hr)
end Go.Tr
set_option linter.unusedVariables false
set_option linter.unusedSimpArgs false
namespace Go.Tr
open Go Go.Lx Go.Eng
theorem rd_mono (l : List Tok) : ∀ (f : Nat) (m : Md) (i op : Nat) (r : Ty × Nat), rd l f m i op = .ok r → rd l (f + 1) m i op = .ok r
  | 0, _, _, _, _, h => by simp [rd] at h
  | f + 1, .atom, i, op, r, h => by
    cases ht : l[i]? with
    | none => simp [rd, ht] at h
    | some t =>
      by_cases h2 : t.k = 2
      · rw [rd_con ht h2] at h ⊢; exact h
      by_cases h1 : t.k = 1
      · rw [rd_var ht h1] at h ⊢; exact h
      cases h3 : sym [40] t with
      | false => rw [rd_not ht h2 h1 h3] at h; cases h
      | true =>
        by_cases ho : op = 40
        · rw [rd_deep ht h2 h1 h3 ho] at h; cases h
        cases hr : rd l f .whole (i + 1) (op + 1) with
        | error e => rw [rd_inE ht h2 h1 h3 ho hr] at h; cases h
        | ok x =>
          obtain ⟨x, j⟩ := x
          have ih := rd_mono l f _ _ _ _ hr
          cases hu : l[j]? with
          | none => simp [rd, ht, h2, h1, h3, ho, hr, hu] at h
          | some u => rw [rd_in ht h2 h1 h3 ho hr hu] at h; rw [rd_in ht h2 h1 h3 ho ih hu]; exact h
  | f + 1, .whole, i, op, r, h => by
    cases hr : rd l f .atom i op with
    | error e => rw [rd_wholeE hr] at h; cases h
    | ok x =>
      obtain ⟨x, j⟩ := x
      rw [rd_whole hr] at h
      rw [rd_whole (rd_mono l f _ _ _ _ hr)]
      exact rd_mono l f _ _ _ _ h
  | f + 1, .more x, i, op, r, h => by
    cases ht : l[i]? with
    | none => simp [rd, ht] at h
    | some t =>
      cases hb : begins t with
      | true =>
        cases hr : rd l f .atom i op with
        | error e => rw [rd_moreE ht hb hr] at h; cases h
        | ok a =>
          obtain ⟨a, j⟩ := a
          rw [rd_more ht hb hr] at h
          rw [rd_more ht hb (rd_mono l f _ _ _ _ hr)]
          exact rd_mono l f _ _ _ _ h
      | false =>
        cases ha : sym Ty.arrow t with
        | true =>
          cases hr : rd l f .whole (i + 1) op with
          | error e => rw [rd_fnE ht hb ha hr] at h; cases h
          | ok y =>
            obtain ⟨y, j⟩ := y
            rw [rd_fn ht hb ha hr] at h
            rw [rd_fn ht hb ha (rd_mono l f _ _ _ _ hr)]
            exact h
        | false => rw [rd_end ht hb ha] at h ⊢; exact h
theorem rd_le {l : List Tok} {f g : Nat} {m : Md} {i op : Nat} {r : Ty × Nat} (hfg : f ≤ g) (h : rd l f m i op = .ok r) : rd l g m i op = .ok r := by
  induction g with
  | zero => obtain rfl : f = 0 := by omega
            exact h
  | succ g ih =>
    by_cases hf : f = g + 1
    · subst hf; exact h
    · exact rd_mono l g _ _ _ _ (ih (by omega))
/-- With fuel enough, more fuel is no matter. -/
theorem rd_fuel (l : List Tok) : ∀ (f : Nat) (m : Md) (i op : Nat), 3 * (l.length - i) + (match m with | .atom => 1 | _ => 2) ≤ f → rd l (f + 1) m i op = rd l f m i op
  | 0, m, i, op, h => by cases m <;> simp at h
  | f + 1, .atom, i, op, h => by
    cases ht : l[i]? with
    | none => simp [rd, ht]
    | some t =>
      have hi := (List.getElem?_eq_some_iff.1 ht).1
      simp only at h
      have ih := rd_fuel l f .whole (i + 1) (op + 1) (by simp only; omega)
      rw [rd, ht, rd, ht, ih]
  | f + 1, .whole, i, op, h => by
    simp only at h
    have ih := rd_fuel l f .atom i op (by simp only; omega)
    rw [rd, ih]
    conv => rhs; rw [rd]
    cases hr : rd l f .atom i op with
    | error e => rfl
    | ok x =>
      obtain ⟨x, j⟩ := x
      have hij := (rd_adv l _ _ _ _ _ _ hr).2 (fun x e => by cases e)
      simp only
      by_cases hi : i < l.length
      · exact rd_fuel l f (.more x) j op (by simp only; omega)
      · have : l[i]? = none := List.getElem?_eq_none (by omega)
        cases f with
        | zero => simp [rd] at hr
        | succ f => simp [rd, this] at hr
  | f + 1, .more x, i, op, h => by
    simp only at h
    cases ht : l[i]? with
    | none => simp [rd, ht]
    | some t =>
      have hi := (List.getElem?_eq_some_iff.1 ht).1
      have ih1 := rd_fuel l f .atom i op (by simp only; omega)
      have ih2 := rd_fuel l f .whole (i + 1) op (by simp only; omega)
      rw [rd, ht]
      conv => rhs; rw [rd, ht]
      simp only [ih1, ih2]
      cases hr : rd l f .atom i op with
      | error e => rfl
      | ok a =>
        obtain ⟨a, j⟩ := a
        have hij := (rd_adv l _ _ _ _ _ _ hr).2 (fun x e => by cases e)
        have ih3 := rd_fuel l f (.more (.app x a)) j op (by simp only; omega)
        simp only [ih3]
/-- What is read with some fuel. -/
def Rd (l : List Tok) (m : Md) (i op : Nat) (r : Ty × Nat) : Prop := ∃ f, rd l f m i op = .ok r
theorem Rd.full {l : List Tok} {m : Md} {i op : Nat} {r : Ty × Nat} (h : Rd l m i op r) : rd l (fuel l) m i op = .ok r := by
  obtain ⟨f, h⟩ := h
  have key : ∀ k, rd l (fuel l + k) m i op = rd l (fuel l) m i op := by
    intro k
    induction k with
    | zero => rfl
    | succ k ih =>
      rw [← Nat.add_assoc, rd_fuel l (fuel l + k) m i op (by unfold fuel; cases m <;> simp only <;> omega), ih]
  have h2 := rd_le (g := fuel l + f) (by omega) h
  rw [key] at h2
  exact h2
section
variable {l : List Tok} {i op j : Nat} {t : Tok}
theorem Rd.con (h : l[i]? = some t) (h2 : t.k = 2) : Rd l .atom i op (.con t.s, i + 1) := ⟨1, rd_con h h2⟩
theorem Rd.var (h : l[i]? = some t) (h2 : t.k = 1) : Rd l .atom i op (.var t.s, i + 1) := ⟨1, rd_var h h2⟩
theorem Rd.in {x : Ty} {u : Tok} (h : l[i]? = some t) (h3 : sym [40] t = true) (ho : op ≠ 40) (hr : Rd l .whole (i + 1) (op + 1) (x, j)) (hu : l[j]? = some u) (h4 : sym [41] u = true) : Rd l .atom i op (x, j + 1) := by
  obtain ⟨f, hr⟩ := hr
  have hk := sym_k h3
  exact ⟨f + 1, by rw [rd_in h (by omega) (by omega) h3 ho hr hu, if_pos h4]⟩
theorem Rd.whole {x : Ty} {r : Ty × Nat} (h : Rd l .atom i op (x, j)) (h2 : Rd l (.more x) j op r) : Rd l .whole i op r := by
  obtain ⟨f, h⟩ := h
  obtain ⟨g, h2⟩ := h2
  exact ⟨(f + g) + 1, by rw [rd_whole (rd_le (by omega) h)]; exact rd_le (by omega) h2⟩
theorem Rd.more {x a : Ty} {r : Ty × Nat} (h : l[i]? = some t) (hb : begins t = true) (hr : Rd l .atom i op (a, j)) (h2 : Rd l (.more (.app x a)) j op r) : Rd l (.more x) i op r := by
  obtain ⟨f, hr⟩ := hr
  obtain ⟨g, h2⟩ := h2
  exact ⟨(f + g) + 1, by rw [rd_more h hb (rd_le (by omega) hr)]; exact rd_le (by omega) h2⟩
theorem Rd.fn {x y : Ty} (h : l[i]? = some t) (hb : begins t = false) (ha : sym Ty.arrow t = true) (hr : Rd l .whole (i + 1) op (y, j)) : Rd l (.more x) i op (.fn x y, j) := by
  obtain ⟨f, hr⟩ := hr
  exact ⟨f + 1, rd_fn h hb ha hr⟩
theorem Rd.end {x : Ty} (h : l[i]? = some t) (hb : begins t = false) (ha : sym Ty.arrow t = false) : Rd l (.more x) i op (x, i) := ⟨1, rd_end h hb ha⟩
end
end Go.Tr
set_option linter.unusedVariables false
set_option linter.unusedSimpArgs false
namespace Go.Tr
open Go Go.Lx Go.Eng
/-- From the place on these tokens stand. -/
def At (l : List Tok) (i : Nat) (ts : List KS) : Prop := ∀ (k : Nat) x, ts[k]? = some x → ∃ t, l[i + k]? = some t ∧ ks t = x
theorem At.left {l : List Tok} {i : Nat} {a b : List KS} (h : At l i (a ++ b)) : At l i a := fun k x hx => h k x (by rw [List.getElem?_append_left (List.getElem?_eq_some_iff.1 hx).1]; exact hx)
theorem At.right {l : List Tok} {i : Nat} {a b : List KS} (h : At l i (a ++ b)) : At l (i + a.length) b := fun k x hx => by
  rw [Nat.add_assoc]
  exact h (a.length + k) x (by rw [List.getElem?_append_right (by omega), Nat.add_sub_cancel_left]; exact hx)
theorem At.head {l : List Tok} {i : Nat} {k : Int} {s : B} {b : List KS} (h : At l i ((k, s) :: b)) : ∃ t, l[i]? = some t ∧ t.k = k ∧ t.s = s := by
  obtain ⟨t, ht, he⟩ := h 0 _ rfl
  cases he
  exact ⟨t, ht, rfl, rfl⟩
theorem At.tail {l : List Tok} {i : Nat} {x : KS} {b : List KS} (h : At l i (x :: b)) : At l (i + 1) b := At.right (a := [x]) h
theorem sym_of {x : B} {t : Tok} (h1 : t.k = 4) (h2 : t.s = x) : sym x t = true := by simp [sym, h1, h2]
theorem sym_no {x : B} {t : Tok} (h : t.s ≠ x) : sym x t = false := by simp [sym, h]
theorem sym_nk {x : B} {t : Tok} (h : t.k ≠ 4) : sym x t = false := by simp [sym, h]
/-- May an atom begin so? -/
def Beg (ts : List KS) : Prop := ∃ x r, ts = x :: r ∧ (x.1 = 1 ∨ x.1 = 2 ∨ x = (4, [40]))
theorem Beg.at {l : List Tok} {i : Nat} {ts : List KS} (h : Beg ts) (ha : At l i ts) : ∃ t, l[i]? = some t ∧ begins t = true := by
  obtain ⟨x, r, rfl, hx⟩ := h
  obtain ⟨t, ht, he⟩ := ha 0 x rfl
  refine ⟨t, ht, ?_⟩
  rcases hx with h1 | h1 | h1
  · have : t.k = 1 := by rw [← h1, ← he]; rfl
    simp [begins, this]
  · have : t.k = 2 := by rw [← h1, ← he]; rfl
    simp [begins, this]
  · rw [h1] at he
    have h2 : t.k = 4 := congrArg Prod.fst he
    have h3 : t.s = [40] := congrArg Prod.snd he
    simp [begins, sym, h2, h3]
structure PR (t : Ty) (t0 t1 t3 : List KS) : Prop where
  lt0 : ∀ r, Sep r → LT (pr t 0) t0 r
  lt1 : ∀ r, Sep r → LT (pr t 1) t1 r
  lt3 : ∀ r, Sep r → LT (pr t 3) t3 r
  no0 : ∀ x ∈ t0, x ≠ (4, [61, 62])
  beg1 : Beg t1
  beg3 : Beg t3
  beg0 : Beg t0
  w : ∀ l i op u, At l i t0 → op + t.ht ≤ 41 → l[i + t0.length]? = some u → begins u = false → sym Ty.arrow u = false → Rd l .whole i op (t, i + t0.length)
  s : ∀ l i op, At l i t1 → op + t.ht ≤ 40 → ∀ r, Rd l (.more t) (i + t1.length) op r → Rd l .whole i op r
  a : ∀ l i op, At l i t3 → op + t.ht ≤ 40 → Rd l .atom i op (t, i + t3.length)
theorem PR.leaf {t : Ty} {x : KS} (hk : x.1 = 1 ∨ x.1 = 2) (hl : ∀ h r, Sep r → LT (pr t h) [x] r) (ha : ∀ l i op, At l i [x] → Rd l .atom i op (t, i + 1)) : PR t [x] [x] [x] := by
  have hb : Beg [x] := ⟨x, [], rfl, hk.elim .inl (fun h => .inr (.inl h))⟩
  refine ⟨hl 0, hl 1, hl 3, fun y hy => ?_, hb, hb, hb, fun l i op u h1 _ h3 h4 h5 => ?_, fun l i op h1 _ r h2 => ?_, fun l i op h1 _ => ha l i op h1⟩
  · simp only [List.mem_cons, List.not_mem_nil, or_false] at hy
    subst hy
    intro he
    rw [he] at hk
    rcases hk with h | h <;> exact absurd h (by decide)
  · exact Rd.whole (ha l i op h1) (Rd.end h3 h4 h5)
  · exact Rd.whole (ha l i op h1) h2
/-- What stands in brackets. -/
theorem brk_a {t : Ty} {t0 : List KS} (hw : ∀ l i op u, At l i t0 → op + t.ht ≤ 41 → l[i + t0.length]? = some u → begins u = false → sym Ty.arrow u = false → Rd l .whole i op (t, i + t0.length)) (h1 : 1 ≤ t.ht) :
    ∀ l i op, At l i ((4, [40]) :: (t0 ++ [(4, [41])])) → op + t.ht ≤ 40 → Rd l .atom i op (t, i + ((4, [40]) :: (t0 ++ [(4, [41])])).length) := by
  intro l i op h ho
  obtain ⟨t1, e1, e2, e3⟩ := h.head
  obtain ⟨u, e4, e5, e6⟩ := h.tail.right.head
  have hu1 : begins u = false := by simp [begins, sym, e5, e6]
  have hu2 : sym Ty.arrow u = false := sym_no (by rw [e6]; decide)
  have := Rd.in e1 (sym_of e2 e3) (by omega) (hw l (i + 1) (op + 1) u h.tail.left (by omega) e4 hu1 hu2) e4 (sym_of e5 e6)
  have hl : i + ((4, [40]) :: (t0 ++ [(4, [41])]) : List KS).length = i + 1 + t0.length + 1 := by simp; omega
  rw [hl]; exact this
theorem no_app {a b : List KS} (h1 : ∀ x ∈ a, x ≠ (4, [61, 62])) (h2 : ∀ x ∈ b, x ≠ (4, [61, 62])) : ∀ x ∈ a ++ b, x ≠ (4, [61, 62]) := fun x hx => (List.mem_append.1 hx).elim (h1 x) (h2 x)
theorem Beg.app {a b : List KS} (h : Beg a) : Beg (a ++ b) := by
  obtain ⟨x, r, rfl, hx⟩ := h
  exact ⟨x, r ++ b, rfl, hx⟩
theorem beg_lp (b : List KS) : Beg ((4, [40]) :: b) := ⟨_, b, rfl, .inr (.inr rfl)⟩
theorem Gd.pr2 {t : Ty} : pr t 2 = pr t 1 := by rw [pr_one, pr_two]
/-- Every good type has its tokens, and they are read as that type. -/
theorem Gd.read {t : Ty} (h : Gd t) : ∃ t0 t1 t3, PR t t0 t1 t3 ∧ (∀ x ∈ t1, x ≠ (4, [61, 62])) ∧ (∀ x ∈ t3, x ≠ (4, [61, 62])) := by
  induction h with
  | @var s h =>
    have hp : ∀ k, pr (.lf 2 0 s) k = s := fun k => by rw [pr_lf]; rfl
    refine ⟨_, _, _, PR.leaf (x := (1, s)) (.inl rfl) (fun k r hr => by rw [hp]; exact lt_low h hr) (fun l i op ha => ?_), ?_, ?_⟩
    · obtain ⟨u, e1, e2, e3⟩ := ha.head
      rw [← e3]; exact Rd.var e1 e2
    all_goals
      intro x hx he
      simp only [List.mem_cons, List.not_mem_nil, or_false] at hx
      rw [hx] at he; cases he
  | @con s h =>
    have hn := (cons7_len h).2
    have hp : ∀ k, pr (.lf 3 0 s) k = s := fun k => by rw [pr_lf, decide_eq_false hn]; rfl
    refine ⟨_, _, _, PR.leaf (x := (2, s)) (.inr rfl) (fun k r hr => by rw [hp]; exact lt_upp (List.mem_append_left _ h) hr) (fun l i op ha => ?_), ?_, ?_⟩
    · obtain ⟨u, e1, e2, e3⟩ := ha.head
      rw [← e3]; exact Rd.con e1 e2
    all_goals
      intro x hx he
      simp only [List.mem_cons, List.not_mem_nil, or_false] at hx
      rw [hx] at he; cases he
  | @fn a b ha hb ia ib =>
    obtain ⟨a0, a1, a3, pa, na1, na3⟩ := ia
    obtain ⟨b0, b1, b3, pb, nb1, nb3⟩ := ib
    have hlt : ∀ r, Sep r → LT (pr a 1 ++ [32, 45, 62, 32] ++ pr b 0) (a1 ++ [(4, [45, 62])] ++ b0) r := fun r hr => by
      refine LT.app (LT.app (pa.lt1 _ ?_) (lt_arrow _)) (pb.lt0 r hr)
      exact Sep.c (by decide)
    have hp0 : pr (.fn a b) 0 = pr a 1 ++ [32, 45, 62, 32] ++ pr b 0 := by rw [pr_fn (Gd.isFn_fn a b)]; rfl
    have hpk : ∀ k, k ≠ 0 → pr (.fn a b) k = brk true (pr a 1 ++ [32, 45, 62, 32] ++ pr b 0) := fun k hk => by rw [pr_fn (Gd.isFn_fn a b), decide_eq_true hk]
    have hht : a.ht + 1 ≤ (Ty.fn a b).ht ∧ b.ht + 1 ≤ (Ty.fn a b).ht := by simp only [Ty.ht]; omega
    have hw : ∀ l i op u, At l i (a1 ++ [(4, [45, 62])] ++ b0) → op + (Ty.fn a b).ht ≤ 41 → l[i + (a1 ++ [(4, [45, 62])] ++ b0).length]? = some u → begins u = false → sym Ty.arrow u = false → Rd l .whole i op (.fn a b, i + (a1 ++ [(4, [45, 62])] ++ b0).length) := by
      intro l i op u h ho hu hu1 hu2
      obtain ⟨t, e1, e2, e3⟩ := h.left.right.head
      have hbe : begins t = false := by simp [begins, sym, e2, e3]
      have hl : i + (a1 ++ [(4, [45, 62])] ++ b0).length = i + a1.length + 1 + b0.length := by simp; omega
      have hr := h.right
      rw [show i + (a1 ++ [(4, [45, 62])] : List KS).length = i + a1.length + 1 by simp; omega] at hr
      rw [hl] at hu ⊢
      exact pa.s l i op h.left.left (by omega) _ (Rd.fn e1 hbe (sym_of e2 e3) (pb.w l _ op u hr (by omega) hu hu1 hu2))
    have hno : ∀ x ∈ a1 ++ [((4 : Int), ([45, 62] : B))] ++ b0, x ≠ (4, [61, 62]) := no_app (no_app na1 (fun x hx he => by
      simp only [List.mem_cons, List.not_mem_nil, or_false] at hx
      rw [hx] at he; cases he)) pb.no0
    have hA := brk_a hw (by omega)
    have hnob : ∀ x ∈ ((4 : Int), ([40] : B)) :: (a1 ++ [((4 : Int), ([45, 62] : B))] ++ b0 ++ [((4 : Int), ([41] : B))]), x ≠ (4, [61, 62]) := no_app (a := [((4 : Int), ([40] : B))]) (fun x hx he => by
      simp only [List.mem_cons, List.not_mem_nil, or_false] at hx
      rw [hx] at he; cases he) (no_app hno (fun x hx he => by
      simp only [List.mem_cons, List.not_mem_nil, or_false] at hx
      rw [hx] at he; cases he))
    refine ⟨_, _, _, ⟨fun r hr => by rw [hp0]; exact hlt r hr, fun r hr => by rw [hpk 1 (by decide)]; exact lt_brk (hlt _ (Sep.c (by decide))), fun r hr => by rw [hpk 3 (by decide)]; exact lt_brk (hlt _ (Sep.c (by decide))), hno, beg_lp _, beg_lp _, (pa.beg1.app).app, hw, fun l i op h ho r hr => Rd.whole (hA l i op h ho) hr, hA⟩, hnob, hnob⟩
  | @app a b ha hb ia ib =>
    obtain ⟨a0, a1, a3, pa, na1, na3⟩ := ia
    obtain ⟨b0, b1, b3, pb, nb1, nb3⟩ := ib
    have hf := ha.notFn (y := b)
    have hlt : ∀ r, Sep r → LT (pr a 2 ++ [32] ++ pr b 3) (a1 ++ [] ++ b3) r := fun r hr => by
      rw [Gd.pr2]
      refine LT.app (LT.app (pa.lt1 _ ?_) (lt_blank _)) (pb.lt3 r hr)
      exact Sep.c (by decide)
    rw [List.append_nil] at hlt
    have hpk : ∀ k, k ≠ 3 → pr (.app a b) k = pr a 2 ++ [32] ++ pr b 3 := fun k hk => by rw [pr_app hf, decide_eq_false hk]; rfl
    have hp3 : pr (.app a b) 3 = brk true (pr a 2 ++ [32] ++ pr b 3) := by rw [pr_app hf]; rfl
    have hht : a.ht + 1 ≤ (Ty.app a b).ht ∧ b.ht + 1 ≤ (Ty.app a b).ht := by simp only [Ty.ht]; omega
    have hs : ∀ l i op, At l i (a1 ++ b3) → op + a.ht ≤ 40 → op + b.ht ≤ 40 → ∀ r, Rd l (.more (.app a b)) (i + (a1 ++ b3).length) op r → Rd l .whole i op r := by
      intro l i op h ho1 ho2 r hr
      obtain ⟨t, e1, e2⟩ := pb.beg3.at h.right
      rw [List.length_append, ← Nat.add_assoc] at hr
      exact pa.s l i op h.left ho1 _ (Rd.more e1 e2 (pb.a l _ op h.right ho2) hr)
    have hw : ∀ l i op u, At l i (a1 ++ b3) → op + (Ty.app a b).ht ≤ 41 → l[i + (a1 ++ b3).length]? = some u → begins u = false → sym Ty.arrow u = false → Rd l .whole i op (.app a b, i + (a1 ++ b3).length) :=
      fun l i op u h ho hu hu1 hu2 => hs l i op h (by omega) (by omega) _ (Rd.end hu hu1 hu2)
    have hno := no_app na1 nb3
    have hnob : ∀ x ∈ ((4 : Int), ([40] : B)) :: (a1 ++ b3 ++ [((4 : Int), ([41] : B))]), x ≠ (4, [61, 62]) := no_app (a := [((4 : Int), ([40] : B))]) (fun x hx he => by
      simp only [List.mem_cons, List.not_mem_nil, or_false] at hx
      rw [hx] at he; cases he) (no_app hno (fun x hx he => by
      simp only [List.mem_cons, List.not_mem_nil, or_false] at hx
      rw [hx] at he; cases he))
    refine ⟨_, _, _, ⟨fun r hr => by rw [hpk 0 (by decide)]; exact hlt r hr, fun r hr => by rw [hpk 1 (by decide)]; exact hlt r hr, fun r hr => by rw [hp3]; exact lt_brk (hlt _ (Sep.c (by decide))), hno, pa.beg1.app, beg_lp _, pa.beg1.app, hw, fun l i op h ho r hr => hs l i op h (by omega) (by omega) r hr, brk_a hw (by omega)⟩, hno, hnob⟩
end Go.Tr
set_option linter.unusedVariables false
set_option linter.unusedSimpArgs false
namespace Go.Tr
open Go Go.Lx Go.Eng
def itT (p : B × B) : List KS := [(2, p.1), (1, p.2)]
def sepT (p : B × B) : List KS := (4, [44]) :: itT p
def inT : List (B × B) → List KS
  | [] => []
  | p :: ps => itT p ++ ps.flatMap sepT
def pd (p : B × B) : Pd := (p.1, .var p.2)
theorem lt_item {p : B × B} (h : p.1 ∈ cls3 ∧ p.2 ∈ names4) {r : B} (hr : Sep r) : LT (item p) (itT p) r :=
  LT.app (t1 := [(2, p.1)] ++ []) (LT.app (lt_upp (List.mem_append_right _ h.1) (Sep.c (by decide))) (lt_blank _)) (lt_low (names_sub h.2) hr)
theorem sep_more {ps : List (B × B)} {r : B} (hr : Sep r) : Sep (ps.flatMap sepd ++ r) := by
  cases ps with
  | nil => exact hr
  | cons p ps =>
    refine .inr ⟨44, [32] ++ item p ++ ps.flatMap sepd ++ r, ?_, by decide⟩
    simp [sepd]
theorem lt_more : ∀ (ps : List (B × B)), PsOk ps → ∀ r, Sep r → LT (ps.flatMap sepd) (ps.flatMap sepT) r
  | [], _, r, _ => LT.nil r
  | p :: ps, h, r, hr => by
    have h1 := lt_item (h p (by simp)) (sep_more (ps := ps) hr)
    have h2 := lt_more ps (fun q hq => h q (by simp [hq])) r hr
    rw [List.flatMap_cons, List.flatMap_cons]
    refine LT.app ?_ h2
    show LT ([44, 32] ++ item p) ([(4, [44])] ++ itT p) _
    exact LT.app (lt_sep _) h1
theorem lt_in {ps : List (B × B)} (h : PsOk ps) {r : B} (hr : Sep r) : LT (ctxIn ps) (inT ps) r := by
  cases ps with
  | nil => exact LT.nil r
  | cons p ps =>
    exact LT.app (lt_item (h p (by simp)) (sep_more hr)) (lt_more ps (fun q hq => h q (by simp [hq])) r hr)
theorem pred_it {l : List Tok} {i op : Nat} {p : B × B} {r : List KS} (h : At l i (itT p ++ r)) : pred l i op = some (pd p, i + 2) := by
  obtain ⟨t, e1, e2, e3⟩ := At.head (b := (1, p.2) :: r) h
  obtain ⟨u, e4, e5, e6⟩ := At.head (b := r) (At.tail h)
  have := (Rd.var (op := op) e4 e5).full
  rw [pred_some e1 e2 this, e3, e6]
  rfl
theorem plist_in {l : List Tok} : ∀ (ps : List (B × B)) (p : B × B) (f i : Nat) (r : List KS), ps.length < f → At l i (inT (p :: ps) ++ (4, [41]) :: r) → plist l f i = some ((p :: ps).map pd, i + (inT (p :: ps)).length + 1)
  | [], p, 0, i, r, hf, _ => by simp at hf
  | _ :: _, p, 0, i, r, hf, _ => by simp at hf
  | [], p, f + 1, i, r, _, h => by
    have h' : At l i (itT p ++ (4, [41]) :: r) := by simpa [inT] using h
    obtain ⟨u, e1, e2, e3⟩ := h'.right.head
    rw [plist_shut (pred_it h') e1 (sym_of e2 e3)]
    simp [inT, itT]
  | q :: ps, p, f + 1, i, r, hf, h => by
    have h' : At l i (itT p ++ (4, [44]) :: (inT (q :: ps) ++ (4, [41]) :: r)) := by
      have : inT (p :: q :: ps) ++ (4, [41]) :: r = itT p ++ (4, [44]) :: (inT (q :: ps) ++ (4, [41]) :: r) := by simp [inT, sepT]
      rw [← this]; exact h
    obtain ⟨u, e1, e2, e3⟩ := h'.right.head
    have ih := plist_in ps q f (i + 2 + 1) r (by simp at hf; omega) h'.right.tail
    rw [plist_next (pred_it h') e1 (sym_no (by rw [e3]; decide)) (sym_of e2 e3), ih]
    simp [inT, sepT, itT]
    omega
/-- The signs of predicates with their sign. -/
def ctxT (b : Bool) (ps : List (B × B)) : List KS := if ps = [] then [] else if b then (4, [40]) :: (inT ps ++ [(4, [41]), (4, [61, 62])]) else inT ps ++ [(4, [61, 62])]
theorem lt_ctx {b : Bool} {ps : List (B × B)} (h : PsOk ps) (r : B) : LT (ctx b ps) (ctxT b ps) r := by
  unfold ctx ctxT
  by_cases h0 : ps = []
  · rw [if_pos h0, if_pos h0]; exact LT.nil r
  rw [if_neg h0, if_neg h0]
  cases b with
  | true =>
    simp only [if_true]
    show LT ([40] ++ ctxIn ps ++ [41, 32, 61, 62, 32]) ([(4, [40])] ++ inT ps ++ [(4, [41]), (4, [61, 62])]) r
    exact LT.app (LT.app (lt_lp _) (lt_in h (Sep.c (by decide)))) (lt_imp2 r)
  | false =>
    simp only [Bool.false_eq_true, if_false]
    exact LT.app (lt_in h (Sep.c (by decide))) (lt_imp1 r)
theorem inT_len : ∀ (ps : List (B × B)), ps.length ≤ (inT ps).length
  | [] => Nat.le_refl _
  | p :: ps => by
    have : ∀ (qs : List (B × B)), qs.length ≤ (qs.flatMap sepT).length := by
      intro qs
      induction qs with
      | nil => simp
      | cons q qs ih => simp only [List.flatMap_cons, List.length_append, List.length_cons, sepT, itT, List.length_nil] at ih ⊢; omega
    have h := this ps
    simp only [inT, List.length_append, List.length_cons, itT, List.length_nil]
    omega
theorem At.fit {l : List Tok} {i : Nat} {ts : List KS} (h : At l i ts) : ts = [] ∨ i + ts.length ≤ l.length := by
  rcases Nat.eq_zero_or_pos ts.length with h0 | h0
  · exact .inl (List.eq_nil_of_length_eq_zero h0)
  · right
    obtain ⟨t, ht, _⟩ := h (ts.length - 1) _ (List.getElem?_eq_getElem (by omega))
    have := (List.getElem?_eq_some_iff.1 ht).1
    omega
theorem preds_ctx {l : List Tok} {b : Bool} {ps : List (B × B)} {t0 : Tok} (hne : ps ≠ []) (hb : b = false → ps.length ≤ 1) (h : At l 0 (ctxT b ps)) (h0 : l[0]? = some t0) :
    preds l 0 = if 16 < ps.length then .error (2, t0.a) else .ok (ps.map pd, (ctxT b ps).length) := by
  unfold ctxT at h ⊢
  rw [if_neg hne] at h ⊢
  cases b with
  | true =>
    simp only [if_true] at h ⊢
    obtain ⟨t, e1, e2, e3⟩ := h.head
    cases ps with
    | nil => exact absurd rfl hne
    | cons p ps =>
      have h2 : At l (0 + 1) (inT (p :: ps) ++ (4, [41]) :: [(4, [61, 62])]) := h.tail
      have hlen := inT_len (p :: ps)
      have hfit := h2.fit
      have hpl := plist_in ps p l.length (0 + 1) _ (by
        rcases hfit with hf | hf
        · simp at hf
        · simp only [List.length_append, List.length_cons] at hf hlen
          omega) h2
      obtain ⟨u, e4, e5, e6⟩ := h2.right.tail.head
      rw [preds_some ((predsR_in e1 (sym_of e2 e3)).trans hpl) e4 h0, sym_of e5 e6, if_pos rfl, List.length_map]
      have : 0 + 1 + (inT (p :: ps)).length + 1 + 1 = ((4, [40]) :: (inT (p :: ps) ++ [(4, [41]), (4, [61, 62])]) : List KS).length := by simp; omega
      rw [this]
  | false =>
    simp only [Bool.false_eq_true, if_false] at h ⊢
    have hl := hb rfl
    match ps, hne, hl, h with
    | [p], _, _, h =>
      have h' : At l 0 (itT p ++ [(4, [61, 62])]) := by simpa [inT] using h
      obtain ⟨t, e1, e2, e3⟩ := At.head (b := (1, p.2) :: [(4, [61, 62])]) h'
      obtain ⟨u, e4, e5, e6⟩ := h'.right.head
      have hp : predsR l 0 = some ([pd p], 2) := by rw [predsR_one e1 (sym_nk (by omega)), pred_it h']; rfl
      rw [preds_some hp e4 h0, sym_of e5 e6, if_pos rfl]
      rfl
theorem preds_no {l : List Tok} {i : Nat} (h : ∀ u ∈ l, sym [61, 62] u = false) : preds l i = .ok ([], i) := by
  unfold preds
  cases hr : predsR l i with
  | none => rfl
  | some r =>
    obtain ⟨ps, j⟩ := r
    simp only
    cases h1 : l[j]? with
    | none => rfl
    | some t =>
      cases h2 : l[i]? with
      | none => rfl
      | some t0 =>
        simp only
        rw [h t (List.mem_of_getElem? h1), if_neg (by decide)]
theorem lexed {s : B} {ts : List KS} (h : LT s ts []) (hl : s.length ≤ 4000) : ∃ l e, lexA s = .ok (l ++ [e]) ∧ l.map ks = ts ∧ e.k = 6 ∧ e.s = [] := by
  obtain ⟨l, h1, h2⟩ := h 0
  rw [List.append_nil, lexR_nil] at h1
  exact ⟨l, _, by unfold lexA; rw [if_pos hl]; exact h1, h2, rfl, rfl⟩
theorem at_of {l l' : List Tok} {ts : List KS} (h : l.map ks = ts) : At (l ++ l') 0 ts := fun k x hx => by
  subst h
  rw [List.getElem?_map, Option.map_eq_some_iff] at hx
  obtain ⟨t, ht, he⟩ := hx
  exact ⟨t, by rw [Nat.zero_add, List.getElem?_append_left (List.getElem?_eq_some_iff.1 ht).1]; exact ht, he⟩
theorem end_begins {e : Tok} (h6 : e.k = 6) : begins e = false := by simp [begins, sym, h6]
/-- A type is read of its print. -/
theorem readT_print {t : Ty} (h : Gd t) (hh : t.ht ≤ 40) (hl : (pr t 0).length ≤ 4000) : readT (pr t 0) = .ok t := by
  obtain ⟨t0, t1, t3, hp, _⟩ := h.read
  obtain ⟨l, e, h1, h2, h6, hs⟩ := lexed (hp.lt0 [] (.inl rfl)) hl
  have hlen : t0.length = l.length := by rw [← h2]; simp
  have hu : (l ++ [e])[t0.length]? = some e := by rw [hlen]; simp
  have hr := (hp.w (l ++ [e]) 0 0 e (at_of h2) (by omega) (by rw [Nat.zero_add]; exact hu) (end_begins h6) (sym_nk (by omega))).full
  rw [Nat.zero_add] at hr
  rw [readT_k h1 hr hu, if_pos h6]
theorem readS_ctx {t : Ty} {b : Bool} {ps : List (B × B)} (h : Gd t) (hh : t.ht ≤ 40) (hps : PsOk ps) (hb : b = false → ps.length ≤ 1) (h16 : ps.length ≤ 16) (hl : (ctx b ps ++ pr t 0).length ≤ 4000) :
    readS (ctx b ps ++ pr t 0) = .ok ⟨varsOf ((ps.map pd).map (·.2) ++ [t]), ps.map pd, t⟩ := by
  obtain ⟨t0, t1, t3, hp, _⟩ := h.read
  have hlt : LT (ctx b ps ++ pr t 0) (ctxT b ps ++ t0) [] := LT.app (lt_ctx hps _) (hp.lt0 [] (.inl rfl))
  obtain ⟨l, e, h1, h2, h6, hs⟩ := lexed hlt hl
  have hlen : (ctxT b ps).length + t0.length = l.length := by rw [← List.length_append, ← h2]; simp
  have hat := at_of (l' := [e]) h2
  have hu : (l ++ [e])[(ctxT b ps).length + t0.length]? = some e := by rw [hlen]; simp
  have hpr : preds (l ++ [e]) 0 = .ok (ps.map pd, (ctxT b ps).length) := by
    by_cases h0 : ps = []
    · subst h0
      have hct : ctxT b [] = [] := rfl
      rw [hct] at h2 ⊢
      rw [List.nil_append] at h2
      refine preds_no fun u hu => ?_
      rcases List.mem_append.1 hu with hu | hu
      · have hm : ks u ∈ t0 := by rw [← h2]; exact List.mem_map_of_mem hu
        have := hp.no0 _ hm
        cases hsy : sym [61, 62] u with
        | false => rfl
        | true =>
          simp only [sym, Bool.and_eq_true, decide_eq_true_eq] at hsy
          exact absurd (Prod.ext hsy.1 hsy.2) this
      · simp only [List.mem_cons, List.not_mem_nil, or_false] at hu
        subst hu
        exact sym_nk (by omega)
    · obtain ⟨x0, hx0⟩ : ∃ x0, (l ++ [e])[0]? = some x0 := ⟨_, List.getElem?_eq_getElem (by simp)⟩
      rw [preds_ctx h0 hb hat.left hx0, if_neg (by omega)]
  have hr := (hp.w (l ++ [e]) (0 + (ctxT b ps).length) 0 e hat.right (by omega) (by rw [Nat.zero_add]; exact hu) (end_begins h6) (sym_nk (by omega))).full
  rw [Nat.zero_add] at hr
  rw [readS_k h1 (scheme_ok' hpr hr) hu, if_pos h6]
theorem readS_many {t : Ty} {ps : List (B × B)} (h : Gd t) (hps : PsOk ps) (h16 : 16 < ps.length) (hl : (ctx true ps ++ pr t 0).length ≤ 4000) :
    readS (ctx true ps ++ pr t 0) = .error (2, 0) := by
  obtain ⟨t0, t1, t3, hp, _⟩ := h.read
  have hne : ps ≠ [] := by intro h0; subst h0; simp at h16
  have hlt : LT (ctx true ps ++ pr t 0) (ctxT true ps ++ t0) [] := LT.app (lt_ctx hps _) (hp.lt0 [] (.inl rfl))
  obtain ⟨l, e, h1, h2, h6, hs⟩ := lexed hlt hl
  have hat := at_of (l' := [e]) h2
  obtain ⟨x0, hx0⟩ : ∃ x0, (l ++ [e])[0]? = some x0 := ⟨_, List.getElem?_eq_getElem (by simp)⟩
  have hpr := preds_ctx hne (b := true) (fun h => by cases h) hat.left hx0
  rw [if_pos h16] at hpr
  have ha : x0.a = 0 := by
    have h3 := h1
    unfold lexA at h3
    rw [if_pos hl] at h3
    obtain ⟨r, hr⟩ : ∃ r, ctx true ps ++ pr t 0 = 40 :: r := by unfold ctx; rw [if_neg hne]; exact ⟨_, rfl⟩
    have h4 : lexR (40 :: r) 0 = .ok (l ++ [e]) := by rw [← hr]; exact h3
    have h5 : lexR (40 :: r) 0 = pre [⟨4, [40], 0, 0⟩] (lexR r (0 + 1)) := by
      have := lexR_tok (i := 0) (c := 40) (r := r) (t := ⟨4, [40], 0, 0⟩) rfl (by cases r <;> rfl) rfl
      exact this
    rw [h5] at h4
    cases hx : lexR r (0 + 1) with
    | error e => rw [hx] at h4; cases h4
    | ok l' =>
      rw [hx] at h4
      have h6 : (⟨4, [40], 0, 0⟩ : Tok) :: l' = l ++ [e] := Except.ok.inj h4
      rw [← h6] at hx0
      cases hx0
      rfl
  rw [ha] at hpr
  rw [readS_e h1 (scheme_pe hpr)]
end Go.Tr
set_option linter.unusedVariables false
set_option linter.unusedSimpArgs false
namespace Go.Tr
open Go Go.Lx Go.Eng
theorem mem_foldVars {u : B} : ∀ (ts : List Ty) (a : List B), u ∈ ts.foldl (fun a t => addAll a (free t)) a ↔ u ∈ a ∨ u ∈ ts.flatMap free
  | [], a => by simp
  | t :: ts, a => by
    rw [List.foldl_cons, mem_foldVars ts, mem_addAll, List.flatMap_cons, List.mem_append, or_assoc]
theorem mem_varsOf {u : B} {ts : List Ty} : u ∈ varsOf ts ↔ u ∈ ts.flatMap free := by
  unfold varsOf
  rw [mem_foldVars]; simp
theorem add_nodup {a : List B} {s : B} (h : a.Nodup) : (add a s).Nodup := by
  unfold add
  split
  · exact h
  · rename_i hn
    rw [List.nodup_append]
    refine ⟨h, by simp, ?_⟩
    intro x hx y hy he
    simp only [List.mem_cons, List.not_mem_nil, or_false] at hy
    subst hy he
    exact hn hx
theorem addAll_nodup : ∀ (l a : List B), a.Nodup → (addAll a l).Nodup
  | [], a, h => h
  | s :: l, a, h => addAll_nodup l (add a s) (add_nodup h)
theorem foldVars_nodup : ∀ (ts : List Ty) (a : List B), a.Nodup → (ts.foldl (fun a t => addAll a (free t)) a).Nodup
  | [], a, h => h
  | t :: ts, a, h => foldVars_nodup ts _ (addAll_nodup _ _ h)
theorem varsOf_nodup (ts : List Ty) : (varsOf ts).Nodup := foldVars_nodup ts [] List.nodup_nil
theorem nodup_take {α : Type} : ∀ {l : List α} {i : Nat} {s : α}, l.Nodup → l[i]? = some s → s ∉ l.take i
  | [], i, s, _, h => by simp at h
  | a :: l, 0, s, _, _ => by simp
  | a :: l, i + 1, s, hn, h => by
    rw [List.nodup_cons] at hn
    have h' : l[i]? = some s := by simpa using h
    rw [List.take_succ_cons, List.mem_cons]
    rintro (h1 | h1)
    · subst h1
      exact hn.1 (List.mem_of_getElem? h')
    · exact nodup_take hn.2 h' h1
theorem flen (ts : List Ty) : (ts.flatMap free).length ≤ (ts.flatMap occ).length := by
  induction ts with
  | nil => simp
  | cons t ts ih =>
    have := free_len t
    simp only [List.flatMap_cons, List.length_append]; omega
theorem occ_pds (ps : List (B × B)) : (((ps.map pd).map (·.2)).flatMap occ).length = ps.length := by
  induction ps with
  | nil => rfl
  | cons p ps ih =>
    simp only [List.map_cons, List.flatMap_cons, List.length_append, List.length_cons, ih]
    simp [pd, occ]; omega
theorem occ_sz (t : Ty) : (occ t).length ≤ sz t := by
  induction t with
  | lf f n s => unfold occ sz; split <;> simp
  | app x y ihx ihy => simp only [occ, sz, List.length_append]; omega
theorem flatMap_take {ts : List Ty} {q : Nat} {x : Ty} (h : ts[q]? = some x) : (ts.take (q + 1)).flatMap free = (ts.take q).flatMap free ++ free x := by
  rw [List.take_add_one, h]; simp
end Go.Tr
namespace Go.Eng
open Go Go.RowKit
theorem IsTs.take {V : Vw} {a : Option Addr} {n c : Nat} {l : List (List UInt8)} (h : IsTs V (.slice a n c) l) (i : Nat) (hi : i ≤ l.length) : IsTs V (.slice a i c) (l.take i) := by
  obtain ⟨a', c', b, off, he, h2, h3, h4, h5⟩ := h.open'
  cases he
  have hl : (l.take i).length = i := by rw [List.length_take]; omega
  refine isTs_of (b := b) (off := off) hl.symm (by omega) h3 (fun h0 => h4 (by omega)) (fun j u hj => ?_)
  rw [List.getElem?_map, Option.map_eq_some_iff] at hj
  obtain ⟨s, hs, rfl⟩ := hj
  rw [List.getElem?_take] at hs
  split at hs
  · exact h5 j s hs
  · cases hs
end Go.Eng
