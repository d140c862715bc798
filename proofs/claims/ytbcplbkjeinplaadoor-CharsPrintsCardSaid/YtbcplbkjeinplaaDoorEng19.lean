/- Numbers of any kind, conversions, struct equality, a range over a string, IndexByte. Nothing here names a program. -/
import Derived.Test.YtbcplbkjeinplaaDoorEng18
import Derived.Laws.StructEq
import Derived.Laws.RangeAny
import Derived.Laws.Externs
set_option linter.unusedVariables false
set_option linter.unusedSimpArgs false
namespace Go.Eng
open Go Go.RowKit
variable {P : Program} {N : NN} {Q : Exit → Act → World → Prop} {S : World → Prop} {σ : Env} {w0 w w' : World} {ops rest : List Oper} {r : List (Nat × Bool)}
  {d : Tmp} {ty : TypeId} {pos : String} {af : Array Edge} {g : Option (Nat × Bool)} {io nt : Nat} {L : List Ent} {V : Vw}
/-! ## Numbers of any kind -/
section
variable {x y : Operand} {m n : Int} {t t' : TypeId} {kd : IntKind}
theorem run_intK (op : BinOp) (hx : ev N σ x = .int kd m) (hy : ev N σ y = .int kd n) (o : Oper) (ho : o.op = .binOp op t x y ty) :
    (execOp (ev N σ) o).run P w = ((do pure (.value (← binOp op t (.int kd m) (.int kd n))) : Sem Next)).run P w := by
  unfold execOp
  rw [ho]
  simp only [hx, hy]
  simp [eqGuard]
theorem rl_kcmp {b : Bool} (op : BinOp) (hg : want N ops σ g = true) (hx : ev N σ x = .int kd m) (hy : ev N σ y = .int kd n)
    (hb : ∀ w : World, (binOp op t (.int kd m) (.int kd n)).run P w = .ok (.bool b) w)
    (k : RL P N ops Q rest (upd σ d (.bool b)) w) : RL P N ops Q (⟨some d, .binOp op t x y t', ty, pos, af, g⟩ :: rest) σ w :=
  rl_val hg (by rw [run_intK op hx hy _ rfl]; simp [hb]) k
theorem rl_klss_t (hg : want N ops σ g = true) (hx : ev N σ x = .int kd m) (hy : ev N σ y = .int kd n) (h : m < n)
    (k : RL P N ops Q rest (upd σ d (.bool true)) w) : RL P N ops Q (⟨some d, .binOp .lss t x y t', ty, pos, af, g⟩ :: rest) σ w :=
  rl_kcmp .lss hg hx hy (fun _ => by simp [binOp, Op.intCmp, h]) k
theorem rl_klss_f (hg : want N ops σ g = true) (hx : ev N σ x = .int kd m) (hy : ev N σ y = .int kd n) (h : n ≤ m)
    (k : RL P N ops Q rest (upd σ d (.bool false)) w) : RL P N ops Q (⟨some d, .binOp .lss t x y t', ty, pos, af, g⟩ :: rest) σ w :=
  rl_kcmp .lss hg hx hy (fun _ => by simp [binOp, Op.intCmp]; omega) k
theorem rl_kleq_t (hg : want N ops σ g = true) (hx : ev N σ x = .int kd m) (hy : ev N σ y = .int kd n) (h : m ≤ n)
    (k : RL P N ops Q rest (upd σ d (.bool true)) w) : RL P N ops Q (⟨some d, .binOp .leq t x y t', ty, pos, af, g⟩ :: rest) σ w :=
  rl_kcmp .leq hg hx hy (fun _ => by simp [binOp, Op.intCmp, h]) k
theorem rl_kleq_f (hg : want N ops σ g = true) (hx : ev N σ x = .int kd m) (hy : ev N σ y = .int kd n) (h : n < m)
    (k : RL P N ops Q rest (upd σ d (.bool false)) w) : RL P N ops Q (⟨some d, .binOp .leq t x y t', ty, pos, af, g⟩ :: rest) σ w :=
  rl_kcmp .leq hg hx hy (fun _ => by simp [binOp, Op.intCmp]; omega) k
theorem rl_kgtr_t (hg : want N ops σ g = true) (hx : ev N σ x = .int kd m) (hy : ev N σ y = .int kd n) (h : n < m)
    (k : RL P N ops Q rest (upd σ d (.bool true)) w) : RL P N ops Q (⟨some d, .binOp .gtr t x y t', ty, pos, af, g⟩ :: rest) σ w :=
  rl_kcmp .gtr hg hx hy (fun _ => by simp [binOp, Op.intCmp, h]) k
theorem rl_kgtr_f (hg : want N ops σ g = true) (hx : ev N σ x = .int kd m) (hy : ev N σ y = .int kd n) (h : m ≤ n)
    (k : RL P N ops Q rest (upd σ d (.bool false)) w) : RL P N ops Q (⟨some d, .binOp .gtr t x y t', ty, pos, af, g⟩ :: rest) σ w :=
  rl_kcmp .gtr hg hx hy (fun _ => by simp [binOp, Op.intCmp]; omega) k
theorem rl_kgeq_t (hg : want N ops σ g = true) (hx : ev N σ x = .int kd m) (hy : ev N σ y = .int kd n) (h : n ≤ m)
    (k : RL P N ops Q rest (upd σ d (.bool true)) w) : RL P N ops Q (⟨some d, .binOp .geq t x y t', ty, pos, af, g⟩ :: rest) σ w :=
  rl_kcmp .geq hg hx hy (fun _ => by simp [binOp, Op.intCmp, h]) k
theorem rl_kgeq_f (hg : want N ops σ g = true) (hx : ev N σ x = .int kd m) (hy : ev N σ y = .int kd n) (h : m < n)
    (k : RL P N ops Q rest (upd σ d (.bool false)) w) : RL P N ops Q (⟨some d, .binOp .geq t x y t', ty, pos, af, g⟩ :: rest) σ w :=
  rl_kcmp .geq hg hx hy (fun _ => by simp [binOp, Op.intCmp]; omega) k
theorem rl_keql_t (hg : want N ops σ g = true) (hx : ev N σ x = .int kd m) (hy : ev N σ y = .int kd n) (h : m = n)
    (k : RL P N ops Q rest (upd σ d (.bool true)) w) : RL P N ops Q (⟨some d, .binOp .eql t x y t', ty, pos, af, g⟩ :: rest) σ w :=
  rl_kcmp .eql hg hx hy (fun _ => by simp [binOp, Op.intCmp, h]) k
theorem rl_keql_f (hg : want N ops σ g = true) (hx : ev N σ x = .int kd m) (hy : ev N σ y = .int kd n) (h : m ≠ n)
    (k : RL P N ops Q rest (upd σ d (.bool false)) w) : RL P N ops Q (⟨some d, .binOp .eql t x y t', ty, pos, af, g⟩ :: rest) σ w :=
  rl_kcmp .eql hg hx hy (fun _ => by simp [binOp, Op.intCmp, h]) k
theorem rl_kneq_t (hg : want N ops σ g = true) (hx : ev N σ x = .int kd m) (hy : ev N σ y = .int kd n) (h : m ≠ n)
    (k : RL P N ops Q rest (upd σ d (.bool true)) w) : RL P N ops Q (⟨some d, .binOp .neq t x y t', ty, pos, af, g⟩ :: rest) σ w :=
  rl_kcmp .neq hg hx hy (fun _ => by simp [binOp, Op.intCmp, h]) k
theorem rl_kneq_f (hg : want N ops σ g = true) (hx : ev N σ x = .int kd m) (hy : ev N σ y = .int kd n) (h : m = n)
    (k : RL P N ops Q rest (upd σ d (.bool false)) w) : RL P N ops Q (⟨some d, .binOp .neq t x y t', ty, pos, af, g⟩ :: rest) σ w :=
  rl_kcmp .neq hg hx hy (fun _ => by simp [binOp, Op.intCmp, h]) k
theorem wrap_u8 {z : Int} (h1 : 0 ≤ z) (h2 : z ≤ 255) : IntKind.u8.wrap z = z := by
  have : z % 256 = z := Int.emod_eq_of_lt h1 (by omega)
  simp [IntKind.wrap, IntKind.bits, IntKind.signed, this]
theorem rl_usub (hg : want N ops σ g = true) (hx : ev N σ x = .int .u8 m) (hy : ev N σ y = .int .u8 n) (h1 : 0 ≤ m - n) (h2 : m - n ≤ 255)
    (k : RL P N ops Q rest (upd σ d (.int .u8 (m - n))) w) : RL P N ops Q (⟨some d, .binOp .sub t x y t', ty, pos, af, g⟩ :: rest) σ w :=
  rl_val hg (by rw [run_intK .sub hx hy _ rfl]; simp [binOp, Op.intArith, wrap_u8 h1 h2]) k
theorem rl_neqbool {t t' : TypeId} {x y : Operand} {a b : Bool} (hT : P.underlying t = some .bool) (hg : want N ops σ g = true) (hx : ev N σ x = .bool a) (hy : ev N σ y = .bool b)
    (k : RL P N ops Q rest (upd σ d (.bool (!(a == b)))) w) : RL P N ops Q (⟨some d, .binOp .neq t x y t', ty, pos, af, g⟩ :: rest) σ w :=
  rl_val hg (by
    unfold execOp
    simp only [hx, hy]
    simp [eqGuard, run_neq_bool (w := w) t a b hT]) k
/-! ## Conversions -/
theorem rl_conv {src dst u : TypeId} {k' : IntKind} {z : Int} (hs : (P.underlying src).isSome = true) (hd : P.underlying dst = some (.int k')) (hg : want N ops σ g = true) (hx : ev N σ x = .int kd m) (hz : k'.wrap m = z)
    (k : RL P N ops Q rest (upd σ d (.int k' z)) w) : RL P N ops Q (⟨some d, .convert src dst x, ty, pos, af, g⟩ :: rest) σ w :=
  rl_val hg (by
    obtain ⟨s, hs⟩ := Option.isSome_iff_exists.1 hs
    subst hz
    simp [execOp, hx, convert, run_underlying hs, run_underlying hd, Conv.intToInt]) k
theorem rl_conv64 {src dst : TypeId} (hs : (P.underlying src).isSome = true) (hd : P.underlying dst = some (.int .i64)) (hg : want N ops σ g = true) (hx : ev N σ x = .int kd m) (h1 : -9223372036854775808 ≤ m) (h2 : m ≤ 9223372036854775807)
    (k : RL P N ops Q rest (upd σ d (.int .i64 m)) w) : RL P N ops Q (⟨some d, .convert src dst x, ty, pos, af, g⟩ :: rest) σ w :=
  rl_conv (u := 0) hs hd hg hx (wrap_id h1 h2) k
theorem rl_conv8 {src dst : TypeId} (hs : (P.underlying src).isSome = true) (hd : P.underlying dst = some (.int .u8)) (hg : want N ops σ g = true) (hx : ev N σ x = .int kd m) (h1 : 0 ≤ m) (h2 : m ≤ 255)
    (k : RL P N ops Q rest (upd σ d (.int .u8 m)) w) : RL P N ops Q (⟨some d, .convert src dst x, ty, pos, af, g⟩ :: rest) σ w :=
  rl_conv (u := 0) hs hd hg hx (wrap_u8 h1 h2) k
/-- A number as the text of its sign. -/
theorem rl_convS {src dst : TypeId} {k' : IntKind} (hs : P.underlying src = some (.int k')) (hd : P.underlying dst = some .string) (hg : want N ops σ g = true) (hx : ev N σ x = .int kd m) {l : List UInt8} (hl : (Utf8.encode m).data.toList = l)
    (k : RL P N ops Q rest (upd σ d (St l)) w) : RL P N ops Q (⟨some d, .convert src dst x, ty, pos, af, g⟩ :: rest) σ w :=
  rl_val hg (by
    subst hl
    simp [execOp, hx, convert, run_underlying hs, run_underlying hd, Conv.intToString]) k
end
/-! ## Structs that are compared -/
/-- What a cell of a struct is: a number of a kind, or a text. -/
def cellFit : Option IntKind → Value → Bool
  | some k, .int k' _ => k == k'
  | none, .string _ => true
  | _, _ => false
def cellsFit : List (Option IntKind) → List Value → Bool
  | [], [] => true
  | k :: ks, v :: vs => cellFit k v && cellsFit ks vs
  | _, _ => false
def EqF (P : Program) : Nat → List Field → List (Option IntKind) → Bool
  | _, [], [] => true
  | i, f :: fs, k :: ks => (f.name != "_") && (f.offset == i) && (match P.underlying f.type, k with | some (.int k'), some k => k == k' | some .string, none => true | _, _ => false) && EqF P (i + 1) fs ks
  | _, _, _ => false
structure EqT (P : Program) (t : TypeId) (ks : List (Option IntKind)) : Prop where
  und : P.underlying t = some (.struct (P.fieldsOf t))
  own : P.stoodInHeld t = false
  grd : P.eqGuardType P.depth t = false
  fs : EqF P 0 (P.fieldsOf t).toList ks = true
theorem eqFields_ok (D : Nat) : ∀ (fs : List Field) (ks : List (Option IntKind)) (i : Nat) (p q xs ys : List Value) (w : World), EqF P i fs ks = true → p.length = i → q.length = i → cellsFit ks xs = true → cellsFit ks ys = true →
    ∃ b : Bool, (Op.eqFields (D + 1) (p ++ xs).toArray (q ++ ys).toArray fs).run P w = .ok b w ∧ (b = true ↔ xs = ys)
  | [], [], i, p, q, xs, ys, w, _, _, _, hx, hy => by
    have hx' : xs = [] := by cases xs with | nil => rfl | cons a b => cases hx
    have hy' : ys = [] := by cases ys with | nil => rfl | cons a b => cases hy
    subst hx' hy'
    exact ⟨true, by simp [Op.eqFields], by simp⟩
  | [], _ :: _, i, p, q, xs, ys, w, h, _, _, _, _ => by cases h
  | _ :: _, [], i, p, q, xs, ys, w, h, _, _, _, _ => by cases h
  | f :: fs, k :: ks, i, p, q, xs, ys, w, h, hp, hq, hx, hy => by
    cases xs with
    | nil => cases hx
    | cons u xs =>
    cases ys with
    | nil => cases hy
    | cons v ys =>
    simp only [cellsFit, Bool.and_eq_true] at hx hy
    simp only [EqF, Bool.and_eq_true, bne_iff_ne, ne_eq, beq_iff_eq] at h
    obtain ⟨⟨⟨h1, h2⟩, h3⟩, h4⟩ := h
    obtain ⟨b, hb1, hb2⟩ := eqFields_ok D fs ks (i + 1) (p ++ [u]) (q ++ [v]) xs ys w h4 (by simp [hp]) (by simp [hq]) hx.2 hy.2
    have hpu : (p ++ u :: xs).toArray[f.offset]? = some u := by subst hp; rw [h2]; simp
    have hqv : (q ++ v :: ys).toArray[f.offset]? = some v := by subst hq; rw [h2]; simp
    rw [show p ++ [u] ++ xs = p ++ u :: xs by simp, show q ++ [v] ++ ys = q ++ v :: ys by simp] at hb1
    have key : ∃ c : Bool, (∀ w : World, (part f.type (p ++ u :: xs).toArray f.offset).run P w = .ok u w) ∧ (∀ w : World, (part f.type (q ++ v :: ys).toArray f.offset).run P w = .ok v w) ∧ (∀ w : World, (Op.equalIn (D + 1) f.type u v).run P w = .ok c w) ∧ (c = true ↔ u = v) := by
      cases hu : P.underlying f.type with
      | none => rw [hu] at h3; cases h3
      | some ud =>
        rw [hu] at h3
        cases k with
        | none =>
          cases ud with
          | string =>
            cases u <;> first | (cases hx.1; done) | skip
            cases v <;> first | (cases hy.1; done) | skip
            rename_i a b
            refine ⟨a == b, fun w => by simp [part, isAgg, run_underlying hu, hpu], fun w => by simp [part, isAgg, run_underlying hu, hqv], fun w => ?_, ?_⟩
            rotate_left
            · obtain ⟨⟨a⟩⟩ := a
              obtain ⟨⟨b⟩⟩ := b
              have := st_beq a b
              rw [beq_toListBytes, show ((ByteArray.mk ⟨a⟩).toList == (ByteArray.mk ⟨b⟩).toList) = decide (a = b) from this]
              simp
            rw [run_equalIn_string w D f.type a b hu, beq_toListBytes]
          | _ => cases h3
        | some k =>
          cases ud with
          | int k' =>
            cases u <;> first | (cases hx.1; done) | skip
            cases v <;> first | (cases hy.1; done) | skip
            rename_i ka a kb b
            have e1 : k = ka := by simpa [cellFit] using hx.1
            have e2 : k = kb := by simpa [cellFit] using hy.1
            subst e1 e2
            exact ⟨a == b, fun w => by simp [part, isAgg, run_underlying hu, hpu], fun w => by simp [part, isAgg, run_underlying hu, hqv], fun w => run_equalIn_int w D f.type k k' a b hu, by simp⟩
          | _ => cases h3
    obtain ⟨c, k1, k2, k3, k4⟩ := key
    cases c with
    | false =>
      refine ⟨false, ?_, ?_⟩
      · simp [Op.eqFields, h1, k1, k2, k3]
      · constructor
        · intro h; cases h
        · intro h; simp only [List.cons.injEq] at h; exact k4.2 h.1
    | true =>
      refine ⟨b, ?_, ?_⟩
      · simp [Op.eqFields, h1, k1, k2, k3, hb1]
      · rw [hb2]
        have := k4.1 rfl
        simp [this]
theorem run_eqT {t : TypeId} {ks : List (Option IntKind)} {xs ys : List Value} (hT : EqT P t ks) (hx : cellsFit ks xs = true) (hy : cellsFit ks ys = true) :
    ∃ b : Bool, (∀ w : World, (Op.equalIn 10000 t (.agg xs.toArray) (.agg ys.toArray)).run P w = .ok b w) ∧ (b = true ↔ xs = ys) := by
  have h : ∀ w : World, ∃ b : Bool, (Op.equalIn 10000 t (.agg xs.toArray) (.agg ys.toArray)).run P w = .ok b w ∧ (b = true ↔ xs = ys) := fun w => by
    obtain ⟨b, h1, h2⟩ := eqFields_ok (P := P) 9998 (P.fieldsOf t).toList ks 0 [] [] xs ys w hT.fs rfl rfl hx hy
    exact ⟨b, by rw [run_equalIn_struct w 9999 t _ _ hT.und hT.own]; exact h1, h2⟩
  by_cases he : xs = ys
  · refine ⟨true, fun w => ?_, by simp [he]⟩
    obtain ⟨b, h1, h2⟩ := h w
    rw [h1, h2.2 he]
  · refine ⟨false, fun w => ?_, by simp [he]⟩
    obtain ⟨b, h1, h2⟩ := h w
    cases b with
    | false => exact h1
    | true => exact absurd (h2.1 rfl) he
section
variable {x y : Operand} {t t' : TypeId} {ks : List (Option IntKind)} {xs ys : List Value}
theorem exec_eqT (o : Oper) (hx : ev N σ x = .agg xs.toArray) (hy : ev N σ y = .agg ys.toArray) (hT : EqT P t ks) (hfx : cellsFit ks xs = true) (hfy : cellsFit ks ys = true) {b : Bool} (hb : b = true ↔ xs = ys) :
    (o.op = .binOp .eql t x y t' → (execOp (ev N σ) o).run P w = .ok (.value (.bool b)) w) ∧ (o.op = .binOp .neq t x y t' → (execOp (ev N σ) o).run P w = .ok (.value (.bool (!b))) w) := by
  obtain ⟨c, h1, h2⟩ := run_eqT hT hfx hfy
  have hcb : c = b := by
    cases c <;> cases b <;> simp_all
  subst hcb
  constructor
  · intro ho
    unfold execOp
    rw [ho]
    simp only [hx, hy]
    have h3 := run_eqGuard_agg (P := P) w .eql t x y xs.toArray ys.toArray hT.grd
    have h4 := run_eql_struct (P := P) w t xs.toArray ys.toArray
    simp [h3, h4, h1]
  · intro ho
    unfold execOp
    rw [ho]
    simp only [hx, hy]
    have h3 := run_eqGuard_agg (P := P) w .neq t x y xs.toArray ys.toArray hT.grd
    have h4 := run_neq_struct (P := P) w t xs.toArray ys.toArray
    simp [h3, h4, h1]
theorem rl_aeql_t (hT : EqT P t ks) (hg : want N ops σ g = true) (hx : ev N σ x = .agg xs.toArray) (hy : ev N σ y = .agg ys.toArray) (hfx : cellsFit ks xs = true) (hfy : cellsFit ks ys = true) (h : xs = ys)
    (k : RL P N ops Q rest (upd σ d (.bool true)) w) : RL P N ops Q (⟨some d, .binOp .eql t x y t', ty, pos, af, g⟩ :: rest) σ w :=
  rl_val hg ((exec_eqT (b := true) _ hx hy hT hfx hfy (by simp [h])).1 rfl) k
theorem rl_aeql_f (hT : EqT P t ks) (hg : want N ops σ g = true) (hx : ev N σ x = .agg xs.toArray) (hy : ev N σ y = .agg ys.toArray) (hfx : cellsFit ks xs = true) (hfy : cellsFit ks ys = true) (h : xs ≠ ys)
    (k : RL P N ops Q rest (upd σ d (.bool false)) w) : RL P N ops Q (⟨some d, .binOp .eql t x y t', ty, pos, af, g⟩ :: rest) σ w :=
  rl_val hg ((exec_eqT (b := false) _ hx hy hT hfx hfy (by simp [h])).1 rfl) k
theorem rl_aneq_t (hT : EqT P t ks) (hg : want N ops σ g = true) (hx : ev N σ x = .agg xs.toArray) (hy : ev N σ y = .agg ys.toArray) (hfx : cellsFit ks xs = true) (hfy : cellsFit ks ys = true) (h : xs ≠ ys)
    (k : RL P N ops Q rest (upd σ d (.bool true)) w) : RL P N ops Q (⟨some d, .binOp .neq t x y t', ty, pos, af, g⟩ :: rest) σ w :=
  rl_val hg ((exec_eqT (b := false) _ hx hy hT hfx hfy (by simp [h])).2 rfl) k
theorem rl_aneq_f (hT : EqT P t ks) (hg : want N ops σ g = true) (hx : ev N σ x = .agg xs.toArray) (hy : ev N σ y = .agg ys.toArray) (hfx : cellsFit ks xs = true) (hfy : cellsFit ks ys = true) (h : xs = ys)
    (k : RL P N ops Q rest (upd σ d (.bool false)) w) : RL P N ops Q (⟨some d, .binOp .neq t x y t', ty, pos, af, g⟩ :: rest) σ w :=
  rl_val hg ((exec_eqT (b := true) _ hx hy hT hfx hfy (by simp [h])).2 rfl) k
theorem rx_aneq_t (ho : ops[io]? = some ⟨some d, .binOp .neq t x y t', ty, pos, af, g⟩) (hT : EqT P t ks) (hg : want N ops σ g = true) (hx : ev N σ x = .agg xs.toArray) (hy : ev N σ y = .agg ys.toArray) (hfx : cellsFit ks xs = true) (hfy : cellsFit ks ys = true) (h : xs ≠ ys)
    (k : RX P N ops Q S nt r (upd σ d (.bool true)) w) : RX P N ops Q S nt ((io, false) :: r) σ w :=
  rx_val ho hg (fun w _ => (exec_eqT (b := false) _ hx hy hT hfx hfy (by simp [h])).2 rfl) k
theorem rx_aneq_f (ho : ops[io]? = some ⟨some d, .binOp .neq t x y t', ty, pos, af, g⟩) (hT : EqT P t ks) (hg : want N ops σ g = true) (hx : ev N σ x = .agg xs.toArray) (hy : ev N σ y = .agg ys.toArray) (hfx : cellsFit ks xs = true) (hfy : cellsFit ks ys = true) (h : xs = ys)
    (k : RX P N ops Q S nt r (upd σ d (.bool false)) w) : RX P N ops Q S nt ((io, false) :: r) σ w :=
  rx_val ho hg (fun w _ => (exec_eqT (b := true) _ hx hy hT hfx hfy (by simp [h])).2 rfl) k
end
/-! ## A range over a string -/
abbrev Ent.iter (b : Nat) (l : List UInt8) (p : Nat) : Ent := .obj b (.stringIter ⟨l.toArray⟩ p)
theorem rl_rangeM {t : TypeId} {x : Operand} {l : List UInt8} (hM : Mem w0 w L V) (ht : P.underlying t = some .string) (hg : want N ops σ g = true) (hx : ev N σ x = St l)
    (k : ∀ w' b, Mem w0 w' (.iter b l 0 :: L) V → RL P N ops Q rest (upd σ d (.pointer (some ⟨b, 0, none⟩))) w') : RL P N ops Q (⟨some d, .range t x, ty, pos, af, g⟩ :: rest) σ w :=
  rl_val hg (by simp [execOp, hx, run_range_string (P := P) w t ⟨l.toArray⟩ ht]) (k (w.iter ⟨l.toArray⟩ 0) _ hM.newObj)
theorem rl_nextM {x : Operand} {l : List UInt8} {p b : Nat} (i : Nat) (hM : Mem w0 w L V) (hg : want N ops σ g = true) (hx : ev N σ x = .pointer (some ⟨b, 0, none⟩)) (hi : L[i]? = some (.iter b l p)) (hp : p < l.length)
    (k : ∀ w', Mem w0 w' (L.set i (.iter b l (p + (Utf8.decode ⟨l.toArray⟩ p).2))) V → RL P N ops Q rest (upd σ d (.tuple #[.bool true, .int .i64 p, .int .i32 (Utf8.decode ⟨l.toArray⟩ p).1])) w') : RL P N ops Q (⟨some d, .next x true, ty, pos, af, g⟩ :: rest) σ w := by
  have hob := hM.getObj hi
  have hlt : b < w.heap.size := by
    rcases Nat.lt_or_ge b w.heap.size with h | h
    · exact h
    · rw [Array.getElem?_eq_none h] at hob; cases hob
  have hsz : p < (ByteArray.mk l.toArray).size := by rw [st_size]; exact hp
  refine rl_val hg (w' := { w with heap := w.heap.setIfInBounds b (.stringIter ⟨l.toArray⟩ (p + (Utf8.decode ⟨l.toArray⟩ p).2)) }) ?_ (k _ (hM.setObj hi ⟨rfl, rfl, rfl, by simp, fun k hk hne => by simp [Array.getElem?_setIfInBounds, Ne.symm hne]⟩ (by simp [Array.getElem?_setIfInBounds, hlt])))
  simp [execOp, hx, Instr.next, getObj, setObj, Sem.run, hob, hsz, goInt]
theorem rl_nextE {x : Operand} {l : List UInt8} {p b : Nat} (i : Nat) (hM : Mem w0 w L V) (hg : want N ops σ g = true) (hx : ev N σ x = .pointer (some ⟨b, 0, none⟩)) (hi : L[i]? = some (.iter b l p)) (hp : l.length ≤ p)
    (k : RL P N ops Q rest (upd σ d (.tuple #[.bool false])) w) : RL P N ops Q (⟨some d, .next x true, ty, pos, af, g⟩ :: rest) σ w := by
  have hob := hM.getObj hi
  have hsz : ¬ p < (ByteArray.mk l.toArray).size := by rw [st_size]; omega
  refine rl_val hg ?_ k
  simp [execOp, hx, Instr.next, getObj, Sem.run, hob, hsz]
theorem decode_lo {l : List UInt8} {p : Nat} {c : UInt8} (h : l[p]? = some c) (hc : c.toNat < 128) : Utf8.decode ⟨l.toArray⟩ p = (c.toNat, 1) := by
  obtain ⟨hlt, he⟩ := List.getElem?_eq_some_iff.1 h
  have hsz : p < (ByteArray.mk l.toArray).size := by rw [st_size]; exact hlt
  have e : (ByteArray.mk l.toArray)[p]'hsz = c := he
  have := decode_ascii ⟨l.toArray⟩ p hsz (by rw [e]; exact hc)
  rw [e] at this
  exact this
theorem decode_hi {l : List UInt8} {p : Nat} {c : UInt8} (h : l[p]? = some c) (hc : 128 ≤ c.toNat) : 128 ≤ (Utf8.decode ⟨l.toArray⟩ p).1 := by
  obtain ⟨hlt, he⟩ := List.getElem?_eq_some_iff.1 h
  have hsz : p < (ByteArray.mk l.toArray).size := by rw [st_size]; exact hlt
  have e : (ByteArray.mk l.toArray)[p]'hsz = c := he
  exact (decode_high ⟨l.toArray⟩ p hsz (by rw [e]; exact hc)).1
theorem rl_nextLo {x : Operand} {l : List UInt8} {p b : Nat} {c : UInt8} (i : Nat) (hM : Mem w0 w L V) (hg : want N ops σ g = true) (hx : ev N σ x = .pointer (some ⟨b, 0, none⟩)) (hi : L[i]? = some (.iter b l p)) (hp : l[p]? = some c) (hc : c.toNat < 128)
    (k : ∀ w', Mem w0 w' (L.set i (.iter b l (p + 1))) V → RL P N ops Q rest (upd σ d (.tuple #[.bool true, .int .i64 p, .int .i32 c.toNat])) w') : RL P N ops Q (⟨some d, .next x true, ty, pos, af, g⟩ :: rest) σ w :=
  rl_nextM i hM hg hx hi (List.getElem?_eq_some_iff.1 hp).1 (by rw [decode_lo hp hc]; exact k)
theorem rl_nextHi {x : Operand} {l : List UInt8} {p b : Nat} {c : UInt8} (i : Nat) (hM : Mem w0 w L V) (hg : want N ops σ g = true) (hx : ev N σ x = .pointer (some ⟨b, 0, none⟩)) (hi : L[i]? = some (.iter b l p)) (hp : l[p]? = some c) (hc : 128 ≤ c.toNat)
    (k : ∀ w' (q n : Nat), 128 ≤ n → Mem w0 w' (L.set i (.iter b l q)) V → RL P N ops Q rest (upd σ d (.tuple #[.bool true, .int .i64 p, .int .i32 n])) w') : RL P N ops Q (⟨some d, .next x true, ty, pos, af, g⟩ :: rest) σ w :=
  rl_nextM i hM hg hx hi (List.getElem?_eq_some_iff.1 hp).1 (fun w' h => k w' _ _ (decode_hi hp hc) h)
/-! ## IndexByte -/
theorem firstIdx_nn (l : List UInt8) (c : UInt8) : firstIdx ⟨l.toArray⟩ c = -1 ∧ c ∉ l ∨ 0 ≤ firstIdx ⟨l.toArray⟩ c ∧ firstIdx ⟨l.toArray⟩ c ≤ l.length ∧ c ∈ l := by
  unfold firstIdx
  have hsz : (ByteArray.mk l.toArray).size = l.length := st_size l
  cases h : (List.range (ByteArray.mk l.toArray).size).find? fun i => (ByteArray.mk l.toArray)[i]! == c with
  | none =>
    left
    refine ⟨rfl, fun hm => ?_⟩
    obtain ⟨i, hi, he⟩ := List.mem_iff_getElem.1 hm
    rw [List.find?_eq_none] at h
    have h2 := h i (by rw [List.mem_range, hsz]; exact hi)
    apply h2
    have : (ByteArray.mk l.toArray)[i]! = (ByteArray.mk l.toArray)[i]'(by rw [hsz]; exact hi) := getElem!_pos _ _ _
    rw [this]
    have e2 : (ByteArray.mk l.toArray)[i]'(by rw [hsz]; exact hi) = c := he
    simp [e2]
  | some i =>
    right
    have h1 := List.find?_some h
    have h2 : i < l.length := by
      have := List.mem_of_find?_eq_some h
      rw [List.mem_range, hsz] at this
      exact this
    refine ⟨Int.natCast_nonneg i, by show (i : Int) ≤ l.length; omega, ?_⟩
    have : (ByteArray.mk l.toArray)[i]! = (ByteArray.mk l.toArray)[i]'(by rw [hsz]; exact h2) := getElem!_pos _ _ _
    rw [this] at h1
    have e2 : (ByteArray.mk l.toArray)[i]'(by rw [hsz]; exact h2) = l[i] := rfl
    rw [e2] at h1
    have : l[i] = c := by simpa using h1
    rw [← this]; simp
theorem rl_indexByte {f : FuncId} {fn : Func} {ts : Array TypeId} {x y : Operand} {l : List UInt8} {c : UInt8} (hf : P.funcs[f]? = some fn) (hname : (fn.name == "runtime.NumGoroutine") = false) (hb : fn.body.isNone = true) (hn : Extern.findNext fn = none) (he : Extern.find fn = some Extern.BytealgIndexByte.indexByte)
    (hg : want N ops σ g = true) (hx : ev N σ x = St l) (hy : ev N σ y = .int .u8 c.toNat)
    (k : RL P N ops Q rest (upd σ d (.int .i64 (firstIdx ⟨l.toArray⟩ c))) w) : RL P N ops Q (⟨some d, .call ⟨.value (.func f), #[x, y], ts⟩, ty, pos, af, g⟩ :: rest) σ w :=
  rl_extern (args := [x, y]) (as := [St l, .int .u8 c.toNat]) hf hname hb hn he hg (by simp [hx, hy]) (by
    have h := run_indexByte_string (P := P) ⟨l.toArray⟩ c.toNat w
    simpa using h) k
end Go.Eng
