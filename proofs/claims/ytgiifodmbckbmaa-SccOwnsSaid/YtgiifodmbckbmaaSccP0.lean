/- How an argument of lists of numbers reads, and small rules on bools. -/
import Derived.Test.YtgiifodmbckbmaaSccW12
import Derived.Deep.Matrix
set_option linter.unusedVariables false
set_option linter.unusedSimpArgs false
namespace Go.Eng
open Go Go.RowKit
variable {P : Program} {N : Nat} {Q : Exit → Act → World → Prop} {σ : Env} {w w' : World} {ops rest : List Oper}
  {d : Tmp} {ty : TypeId} {pos : String} {af : Array Edge} {g : Option (Nat × Bool)}
theorem rl_eqb {t t' : TypeId} {x y : Operand} {a b : Bool} (hT : P.underlying t = some .bool) (hg : want N ops σ g = true) (hx : ev N σ x = .bool a) (hy : ev N σ y = .bool b)
    (k : RL P N ops Q rest (upd σ d (.bool (a == b))) w) : RL P N ops Q (⟨some d, .binOp .eql t x y t', ty, pos, af, g⟩ :: rest) σ w :=
  rl_val hg (by
    unfold execOp
    simp only [hx, hy]
    simp [eqGuard, run_eql_bool w t a b hT]) k
theorem i64_of_wf {n : Int} (h : (Lit.int .i64 n).wf = true) : I64 n := by
  have : -9223372036854775808 ≤ n ∧ n ≤ 9223372036854775807 := by simpa [Lit.wf, IntKind.min, IntKind.max, IntKind.signed, IntKind.bits] using h
  exact this
theorem spot_none {w : World} {a : Addr} {v : Value} (h : w.cell? a = some v) : a.spot = none := by
  unfold World.cell? at h
  split at h
  · cases hs : a.spot with
    | none => rfl
    | some s => simp [hs] at h
  · cases h
theorem isSl_addr {w : World} {a : Option Addr} {n c : Nat} {us : List Value} (hl : us.length = n) (hnc : n ≤ c) (hcm : c ≤ maxLen) (h : ∀ i u, us[i]? = some u → ∃ A, a = some A ∧ w.cell? (A.add i) = some u) :
    IsSl w.cell? (.slice a n c) us := by
  subst hl
  cases us with
  | nil => exact ⟨a, c, 0, 0, rfl, hnc, hcm, fun h => absurd h (by simp), fun i u hu => by simp at hu⟩
  | cons u us =>
    obtain ⟨A, hA, h0⟩ := h 0 u rfl
    subst hA
    have hs : A.spot = none := by
      have := spot_none h0
      simpa [Addr.add] using this
    obtain ⟨b, o, s⟩ := A
    simp only at hs
    subst hs
    refine ⟨_, c, b, o, rfl, hnc, hcm, fun _ => rfl, fun i v hv => ?_⟩
    obtain ⟨A', hA', hc⟩ := h i v hv
    cases hA'
    rwa [Addr.add_lit] at hc
theorem all2_range {α β : Type} {R : α → β → Prop} {f : Nat → α} {g : Nat → β} {n : Nat} (h : ∀ i, i < n → R (f i) (g i)) : All2 R ((List.range n).map f) ((List.range n).map g) := by
  have key : ∀ l : List Nat, (∀ i ∈ l, R (f i) (g i)) → All2 R (l.map f) (l.map g) := by
    intro l
    induction l with
    | nil => intro _; trivial
    | cons i l ih => intro h; exact ⟨h i (by simp), ih fun j hj => h j (by simp [hj])⟩
  exact key _ fun i hi => h i (by simpa using hi)
end Go.Eng
namespace Go.Proofs.Ytgiifodmbckbmaa.Scc
open Go Go.Eng Go.RowKit Go.Scc
theorem laidOut : laidOutB Try.prog = true := by kernel_rfl
theorem own : ownKnob Try.prog.godebug = none := by kernel_rfl
theorem rows_open {H : Type} {enc : TypeId × Value → H} {W : World} {a : Option Addr} {len cap : Nat} {d : DataW H} {ps : List MemPlace} {base : Nat}
    (h : DataW.Trod enc Try.prog W base (fun _ => true) true 22 (.slice a len cap) d ps) : ∃ ls, IsRows W.cell? (.slice a len cap) ls := by
  obtain ⟨fuel, hf⟩ := h
  rcases Deep.open_int_rows Try.underlying22 Try.underlying29 Try.underlying3 (by kernel_rfl) (by kernel_rfl) hf with ⟨hcs, _⟩ | ⟨x, l, c, A, L, C, Z, hcs, _, hl, hm, _, hrow⟩
  · simp [Value.cells] at hcs
    obtain ⟨rfl, rfl, rfl⟩ := hcs
    exact ⟨[], rows_mk [] (isSl_addr rfl (Nat.le_refl _) (Nat.zero_le _) (fun i u hu => by simp at hu)) trivial⟩
  · simp [Value.cells] at hcs
    obtain ⟨rfl, rfl, rfl⟩ := hcs
    refine ⟨(List.range len).map fun r => (Z r).take (L r), rows_mk ((List.range len).map fun r => Value.slice (A r) (L r) (C r)) (isSl_addr (by simp) hl hm ?_) (all2_range ?_)⟩
    · intro i u hu
      rw [List.getElem?_map, Option.map_eq_some_iff] at hu
      obtain ⟨r, hr, rfl⟩ := hu
      obtain ⟨hlt, he⟩ := List.getElem?_eq_some_iff.1 hr
      rw [List.length_range] at hlt
      rw [List.getElem_range] at he
      subst he
      exact ⟨x, rfl, (hrow i (by omega)).1⟩
    · intro r hr
      obtain ⟨h1, h2, h3, h4, h5, h6, h7⟩ := hrow r (by omega)
      have hlen : ((Z r).take (L r)).length = L r := by simp; omega
      unfold IsInts
      refine ⟨isSl_addr (by simp; omega) h2 h3 ?_, fun n hn => i64_of_wf (h5 n (List.mem_of_mem_take hn))⟩
      intro i u hu
      rw [List.getElem?_map, Option.map_eq_some_iff] at hu
      obtain ⟨n, hn, rfl⟩ := hu
      have hi : i < L r := by
        have := (List.getElem?_eq_some_iff.1 hn).1
        omega
      rw [List.getElem?_take, if_pos hi] at hn
      cases hA : A r with
      | none => have := h6 hA; omega
      | some a' =>
        refine ⟨a', rfl, ?_⟩
        have := (h7 a' hA).2 i (by omega)
        rw [this]
        simp [hn]
theorem few_len (ls : List (List Int)) : ∀ xs ∈ few ls, xs.length ≤ 1000000 := by
  intro xs hx
  unfold few at hx
  obtain ⟨ys, _, rfl⟩ := List.mem_map.1 hx
  simp; omega
theorem around_lt (n m : Int) (hm : 0 < m) : 0 ≤ around n m ∧ around n m < m := by
  unfold around
  exact ⟨Int.emod_nonneg _ (by omega), Int.emod_lt_of_pos _ hm⟩
end Go.Proofs.Ytgiifodmbckbmaa.Scc
