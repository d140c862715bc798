/- A region whose order is drawn, in whose head two operations that act may come up at once: both orders are walked. Nothing here names a program. -/
import Derived.Test.YtbcplbkjeinplaaDoorEng19
set_option linter.unusedVariables false
set_option linter.unusedSimpArgs false
namespace Go.Eng
open Go Go.RowKit
section
variable {P : Program} {ops : Array Oper} {md : Region.Mode} {Q : Exit → Act → World → Prop} {S : World → Prop}
def head2B (md : Region.Mode) (ops : Array Oper) (n g : Nat) (i j : Nat) (r1 r2 : List (Nat × Bool)) : List (Nat × Bool) → Array Bool → Bool
  | [], listed => decide (i < n) && decide (j < n) && decide (Region.ready md ops listed = [i, j]) && decide (r1.length = r2.length) && headB md ops n g r1 (listed.setIfInBounds i true) && headB md ops n g r2 (listed.setIfInBounds j true)
  | (k, false) :: r, listed => decide (k < n) && (Region.ready md ops listed).contains k && Region.free md ops listed k && head2B md ops n g i j r1 r2 r (listed.setIfInBounds k true)
  | (k, true) :: r, listed => false
theorem yieldsIf_det {o : Oper} {v v' : Value} {a : Act} {w : World} (h : YieldsIf P ops S o v a) (h' : YieldsIf P ops S o v' a) (hS : S w) : v = v' := by
  rcases h with ⟨h1, h2⟩ | ⟨h1, h2⟩ <;> rcases h' with ⟨h3, h4⟩ | ⟨h3, h4⟩
  · have e1 := h2 w hS
    rw [h4 w hS] at e1
    injection e1 with e2
    injection e2 with e3
    exact e3.symm
  · rw [h1] at h3; cases h3
  · rw [h1] at h3; cases h3
  · rw [h2, h4]
theorem wpAnyLS_order2 {n g : Nat} {Lq : Act → World → Prop} {i j : Nat} {r1 r2 : List (Nat × Bool)} (hsel : Region.noSelect ops = true) (hQ : ∀ c a w, ¬ Q (.panic c) a w) (hs : Region.sinkB md ops n = true) (hc : Region.chainB md ops n = true) (hn : n < ops.size) :
    ∀ (p : List (Nat × Bool)) (listed : Array Bool) (a : Act) (w : World), HeadInv md ops n listed → head2B md ops n g i j r1 r2 p listed = true → S w → HW P ops Q S Lq (p ++ (i, true) :: r1) a w → HW P ops Q S Lq (p ++ (j, true) :: r2) a w →
    wpAnyLS P md ops Q S n (fun listed' a' w' => Region.seqB md ops g n listed' = true ∧ Lq a' w') (p.length + (r1.length + 1)) listed a w
  | [], listed, a, w, inv, hB, hS, h1, h2 => by
    simp only [head2B, Bool.and_eq_true, decide_eq_true_eq] at hB
    obtain ⟨⟨⟨⟨⟨hi, hj⟩, hr⟩, hl⟩, hB1⟩, hB2⟩ := hB
    rw [show ([] : List (Nat × Bool)).length + (r1.length + 1) = r1.length + 1 by simp]
    refine ⟨fun h0 => (by rw [h0] at hr; cases hr), fun k hk => ?_⟩
    have hri : i ∈ Region.ready md ops listed := by rw [hr]; simp
    have hrj : j ∈ Region.ready md ops listed := by rw [hr]; simp
    rw [hr] at hk
    have hkk : k = i ∨ k = j := by simpa using hk
    by_cases hki : k = i
    · subst hki
      exact ⟨hi, wpOp_mono (fun a' w' h' => by
        obtain ⟨S', hsub, hS', hK⟩ := h'
        exact ⟨hsub _ hS', wpAnyLS_mono hsub _ _ _ _ (wpAnyLS_order hsel hQ hs hc hn r1 S' _ _ _ (inv.set hri hi) hB1 hS' hK)⟩) h1⟩
    · have hkj : k = j := hkk.resolve_left hki
      subst hkj
      rw [hl]
      exact ⟨hj, wpOp_mono (fun a' w' h' => by
        obtain ⟨S', hsub, hS', hK⟩ := h'
        exact ⟨hsub _ hS', wpAnyLS_mono hsub _ _ _ _ (wpAnyLS_order hsel hQ hs hc hn r2 S' _ _ _ (inv.set hrj hj) hB2 hS' hK)⟩) h2⟩
  | (k, false) :: p, listed, a, w, inv, hB, hS, h1, h2 => by
    simp only [head2B, Bool.and_eq_true, decide_eq_true_eq] at hB
    obtain ⟨⟨⟨hin, hr⟩, hf⟩, hB'⟩ := hB
    have hr' : k ∈ Region.ready md ops listed := by simpa using hr
    obtain ⟨o, v, ho, hy, hK⟩ := h1
    obtain ⟨o', v', ho', hy', hK'⟩ := h2
    rw [ho] at ho'
    cases ho'
    have := yieldsIf_det hy hy' hS
    subst this
    rw [show ((k, false) :: p).length + (r1.length + 1) = (p.length + (r1.length + 1)) + 1 by simp; omega]
    exact wpAnyLS_first ho (Region.noSelect_spec hsel) (fun c a w hh => absurd hh (hQ _ _ _)) hs hc hn hin (fun listed' a' w' hL => seqB_ready hL.1) _ listed a w inv (Region.free_spec ho hf) hr' hy hS
      (wpAnyLS_order2 hsel hQ hs hc hn p _ _ _ (inv.set hr' hin) hB' hS hK hK')
  | (k, true) :: p, listed, a, w, inv, hB, hS, h1, h2 => by cases hB
def held2B (md : Region.Mode) (ops : Array Oper) (n : Nat) (p : List (Nat × Bool)) (i j : Nat) (r1 r2 : List (Nat × Bool)) : Bool :=
  Region.noSelect ops && decide (n < ops.size) && decide (p.length + (r1.length + 1) = n) && Region.sinkB md ops n && Region.chainB md ops n && head2B md ops n (ops.size - n) i j r1 r2 p (Array.replicate ops.size false)
theorem wp_region_held2 {id : Nat} {a : Act} {w : World} {l : List Oper} (n : Nat) (p : List (Nat × Bool)) (i j : Nat) (r1 r2 : List (Nat × Bool)) (S : World → Prop) (hm : P.follows .mixedOrders = true) (hB : held2B .any l.toArray n p i j r1 r2 = true)
    (hS : S { w with drawn := w.drawn + 1 })
    (h1 : HW P l.toArray (NP Q) S (fun a' w' => wpList P l.toArray (NP Q) (l.drop n) a' w') (p ++ (i, true) :: r1) a { w with drawn := w.drawn + 1 })
    (h2 : HW P l.toArray (NP Q) S (fun a' w' => wpList P l.toArray (NP Q) (l.drop n) a' w') (p ++ (j, true) :: r2) a { w with drawn := w.drawn + 1 }) : (Code.region id l.toArray true).wp P Q a w := by
  refine Code.wp_mono NP.weak ?_
  simp only [held2B, Bool.and_eq_true, decide_eq_true_eq] at hB
  obtain ⟨⟨⟨⟨⟨hsel, hn⟩, hol⟩, hs⟩, hc⟩, hlex⟩ := hB
  have hn' : n < l.length := by simpa using hn
  have hdl : (l.drop n).length = l.toArray.size - n := by simp
  have inv0 : HeadInv .any l.toArray n (Array.replicate l.toArray.size false) :=
    ⟨by simp, fun j oj _ hl => (by rw [getD_replicate_false] at hl; cases hl), fun t _ ht => getD_in (by simpa using ht) (getD_replicate_false _ _)⟩
  have H := wpAnyLS_order2 (md := .any) (Q := NP Q) (g := l.toArray.size - n) hsel (fun c a w hh => hh) hs hc hn p _ a _ inv0 hlex hS h1 h2
  refine wp_region_any hm ?_
  have := wpAny_of_headS (Q := NP Q) (g := l.toArray.size - n) (fun listed a' w' hL => by
    have := wpAny_of_seq (md := .any) (Q' := NP Q) (l.drop n) n listed a' w' (fun j => by simp [List.getElem?_drop]) (by rw [hdl]; exact hL.1) hL.2
    rwa [hdl] at this) _ _ _ _ H
  rw [hol, show n + (l.toArray.size - n) = l.toArray.size by omega] at this
  exact this
end
variable {P : Program} {N : NN} {Q : Exit → Act → World → Prop} {σ : Env} {w0 w : World} {L : List Ent} {V : Vw}
theorem drawn2M_ {id : Nat} {l : List Oper} (n : Nat) (p : List (Nat × Bool)) (i j : Nat) (r1 r2 o1 o2 : List (Nat × Bool)) (e1 : p ++ (i, true) :: r1 = o1) (e2 : p ++ (j, true) :: r2 = o2) (hM : Mem w0 w L V) (hm : P.follows .mixedOrders = true) (hB : held2B .any l.toArray n p i j r1 r2 = true)
    (h1 : ∀ w', Mem w0 w' L V → RX P N l (NP Q) (fun w => Mem w0 w L V) n o1 σ w') (h2 : ∀ w', Mem w0 w' L V → RX P N l (NP Q) (fun w => Mem w0 w L V) n o2 σ w') : (Code.region id l.toArray true).wp P Q (Fr N σ) w := by
  subst e1 e2
  have hw : Mem w0 { w with drawn := w.drawn + 1 } L V := hM.ext ⟨rfl, rfl, rfl, Nat.le_refl _, fun _ _ => rfl⟩
  exact wp_region_held2 n p i j r1 r2 _ hm hB hw (h1 _ hw) (h2 _ hw)
end Go.Eng
