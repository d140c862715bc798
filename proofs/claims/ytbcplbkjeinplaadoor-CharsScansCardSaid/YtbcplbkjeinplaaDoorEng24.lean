/- Reading and writing inside a slice of the call's own; maps whose keys are plainly compared; rows of own things in another order. Nothing here names a program. -/
import Derived.Test.YtbcplbkjeinplaaDoorEng21
import Derived.Test.YtbcplbkjeinplaaDoorEng23
import Derived.MapKept
import Derived.Carry
set_option linter.unusedVariables false
set_option linter.unusedSimpArgs false
namespace Go.Eng
open Go Go.RowKit Go.MapKept
variable {P : Program} {N : NN} {Q : Exit → Act → World → Prop} {S : World → Prop} {σ : Env} {w0 w w' : World} {ops rest : List Oper} {r : List (Nat × Bool)}
  {d : Tmp} {ty : TypeId} {pos : String} {af : Array Edge} {g : Option (Nat × Bool)} {io nt : Nat} {L : List Ent} {V : Vw}
/-- From place o of a row stand these cells. -/
def ORow (xs : List Value) (o : Nat) (vs : List Value) : Prop := ∀ (j : Nat) u, vs[j]? = some u → xs[o + j]? = some u
theorem ORow.get {xs vs : List Value} {o j : Nat} {u : Value} (h : ORow xs o vs) (hj : vs[j]? = some u) : xs[o + j]? = some u := h j u hj
theorem ORow.get0 {xs vs : List Value} {o : Nat} {u : Value} (h : ORow xs o vs) (hj : vs[0]? = some u) : xs[o]? = some u := h 0 u hj
theorem ORow.one {xs : List Value} {o : Nat} {u : Value} (h : xs[o]? = some u) : ORow xs o [u] := fun j v hj => by
  match j, hj with
  | 0, hj => simp at hj; subst hj; exact h
theorem ORow.fit {xs vs : List Value} {o : Nat} (h : ORow xs o vs) (h0 : 0 < vs.length) : o + vs.length ≤ xs.length := by
  have h1 : vs[vs.length - 1]? = some vs[vs.length - 1] := List.getElem?_eq_getElem (by omega)
  have := (List.getElem?_eq_some_iff.1 (h _ _ h1)).1
  omega
theorem Mem.cellO {i n e sz c b o : Nat} {xs : List Value} {v : Value} (h : Mem w0 w L V) (hi : L[i]? = some (.own (.slice (some ⟨b, 0, none⟩) n c) e sz n xs)) (ho : xs[o]? = some v) : w.cell? ⟨b, o, none⟩ = some v := by
  obtain ⟨b', hO, _⟩ := h.own hi
  have hc := hO.cell ho
  rcases hO.2 with ⟨h1, _⟩ | ⟨cap, spare, h1, _⟩
  · cases h1
  · cases h1; exact hc
theorem Mem.ownA {i n e sz : Nat} {xs : List Value} {v : Value} (h : Mem w0 w L V) (hi : L[i]? = some (.own v e sz n xs)) (h0 : 0 < n) : ∃ b c, v = .slice (some ⟨b, 0, none⟩) n c ∧ n ≤ c ∧ c ≤ maxLen := by
  obtain ⟨b, hO, _⟩ := h.own hi
  obtain ⟨a, c, h1, h2, h3, h4⟩ := hO.shape
  exact ⟨b, c, by rw [h1, h4 h0], h2, h3⟩
theorem Mem.ownLen {i n e sz : Nat} {xs : List Value} {v : Value} (h : Mem w0 w L V) (hi : L[i]? = some (.own v e sz n xs)) : xs.length = n * sz := by
  obtain ⟨b, hO, _⟩ := h.own hi
  exact hO.1
theorem rl_loadO {t : TypeId} {x : Operand} {b o n c e sz : Nat} {xs : List Value} {v : Value} (i : Nat) (hM : Mem w0 w L V) (hT : VarT P t) (hg : want N ops σ g = true) (hx : ev N σ x = .pointer (some ⟨b, o, none⟩)) (hi : L[i]? = some (.own (.slice (some ⟨b, 0, none⟩) n c) e sz n xs)) (hc : xs[o]? = some v)
    (k : RL P N ops Q rest (upd σ d v) w) : RL P N ops Q (⟨some d, .load t x, ty, pos, af, g⟩ :: rest) σ w := rl_load hT hg hx (hM.cellO hi hc) k
theorem rx_loadO {t : TypeId} {x : Operand} {b o n c e sz : Nat} {xs : List Value} {v : Value} (i : Nat) (ho : ops[io]? = some ⟨some d, .load t x, ty, pos, af, g⟩) (hS : ∀ w, S w → Mem w0 w L V) (hT : VarT P t) (hg : want N ops σ g = true) (hx : ev N σ x = .pointer (some ⟨b, o, none⟩)) (hi : L[i]? = some (.own (.slice (some ⟨b, 0, none⟩) n c) e sz n xs)) (hc : xs[o]? = some v)
    (k : RX P N ops Q S nt r (upd σ d v) w) : RX P N ops Q S nt ((io, false) :: r) σ w := rx_load ho hT hg hx (fun w h => (hS w h).cellO hi hc) k
theorem rl_loadAO {t m : Nat} {zs vs : List Value} {x : Operand} {b o n c e sz : Nat} {xs : List Value} (i : Nat) (hM : Mem w0 w L V) (hA : AgT P t m zs) (hg : want N ops σ g = true) (hx : ev N σ x = .pointer (some ⟨b, o, none⟩)) (hi : L[i]? = some (.own (.slice (some ⟨b, 0, none⟩) n c) e sz n xs)) (hc : ORow xs o vs) (hl : vs.length = m)
    (k : RL P N ops Q rest (upd σ d (.agg vs.toArray)) w) : RL P N ops Q (⟨some d, .load t x, ty, pos, af, g⟩ :: rest) σ w :=
  rl_loadA vs hA hg hx hl (fun j u hj => hM.cellO hi (hc j u hj)) k
theorem rx_loadAO {t m : Nat} {zs vs : List Value} {x : Operand} {b o n c e sz : Nat} {xs : List Value} (i : Nat) (ho : ops[io]? = some ⟨some d, .load t x, ty, pos, af, g⟩) (hS : ∀ w, S w → Mem w0 w L V) (hA : AgT P t m zs) (hg : want N ops σ g = true) (hx : ev N σ x = .pointer (some ⟨b, o, none⟩)) (hi : L[i]? = some (.own (.slice (some ⟨b, 0, none⟩) n c) e sz n xs)) (hc : ORow xs o vs) (hl : vs.length = m)
    (k : RX P N ops Q S nt r (upd σ d (.agg vs.toArray)) w) : RX P N ops Q S nt ((io, false) :: r) σ w :=
  rx_val ho hg (fun w h => by
    have h2 := run_loadAg (w := w) hA hl (fun j u hj => (hS w h).cellO hi (hc j u hj))
    simp [execOp, hx, Instr.loadAt, Instr.sureAddr, h2]) k
theorem Own.storeA {e sz n b o : Nat} {v : Value} {xs vs : List Value} (h : Own w e sz v n xs b) (ho : o + vs.length ≤ xs.length) (h0 : 0 < vs.length) :
    ∃ cs, Blk w b cs e ∧ o + vs.length ≤ cs.length ∧ ∀ (w' : World), Blk w' b (cs.take o ++ vs ++ cs.drop (o + vs.length)) e → Own w' e sz v n (xs.take o ++ vs ++ xs.drop (o + vs.length)) b := by
  obtain ⟨h1, h2⟩ := h
  rcases h2 with ⟨rfl, rfl⟩ | ⟨cap, spare, rfl, h3, h4, h5, h6⟩
  · simp at h1; subst h1; simp at ho; obtain ⟨_, rfl⟩ := ho; simp at h0
  · have e1 : (xs ++ spare).take o = xs.take o := by rw [List.take_append_of_le_length (by omega)]
    have e2 : (xs ++ spare).drop (o + vs.length) = xs.drop (o + vs.length) ++ spare := by rw [List.drop_append_of_le_length (by omega)]
    refine ⟨xs ++ spare, h6, by simp; omega, fun w' hB => ⟨by simp at h1 ⊢; omega, .inr ⟨cap, spare, rfl, h3, h4, ?_, ?_⟩⟩⟩
    · simp at h5 ⊢; omega
    · rw [e1, e2, ← List.append_assoc] at hB; exact hB
theorem rl_storeAO {t m : Nat} {zs vs xs : List Value} {x y : Operand} {b o n c e sz : Nat} (i : Nat) (hM : Mem w0 w L V) (hA : AgT P t m zs) (hg : want N ops σ g = true) (hx : ev N σ x = .pointer (some ⟨b, o, none⟩)) (hy : ev N σ y = .agg vs.toArray) (hl : vs.length = m) (h1 : vs.all (·.oneCell') = true)
    (hi : L[i]? = some (.own (.slice (some ⟨b, 0, none⟩) n c) e sz n xs)) (ho : o + m ≤ xs.length) (h0 : 0 < m)
    (k : ∀ w', Mem w0 w' (L.set i (.own (.slice (some ⟨b, 0, none⟩) n c) e sz n (xs.take o ++ vs ++ xs.drop (o + vs.length)))) V → RL P N ops Q rest σ w') : RL P N ops Q (⟨none, .store t x y, ty, pos, af, g⟩ :: rest) σ w := by
  subst hl
  obtain ⟨b', hO, hput⟩ := hM.own hi
  have hb : b' = b := by
    rcases hO.2 with ⟨h1, _⟩ | ⟨cap, spare, h1, _⟩
    · cases h1
    · cases h1; rfl
  subst hb
  obtain ⟨cs, hB, hfit, hnew⟩ := hO.storeA ho h0
  exact rl_storeA hA hg hx hy rfl (by simpa using h1) hB hfit (fun w' hB' hc _ => k w' (hput w' _ _ _ _ (hnew w' hB') (.inl rfl) hc))
theorem rl_storeO {t : Nat} {xs : List Value} {v : Value} {x y : Operand} {b o n c e sz : Nat} (i : Nat) (hM : Mem w0 w L V) (hT : VarT P t) (hg : want N ops σ g = true) (hx : ev N σ x = .pointer (some ⟨b, o, none⟩)) (hy : ev N σ y = v) (h1 : v.oneCell' = true)
    (hi : L[i]? = some (.own (.slice (some ⟨b, 0, none⟩) n c) e sz n xs)) (ho : o < xs.length)
    (k : ∀ w', Mem w0 w' (L.set i (.own (.slice (some ⟨b, 0, none⟩) n c) e sz n (xs.set o v))) V → RL P N ops Q rest σ w') : RL P N ops Q (⟨none, .store t x y, ty, pos, af, g⟩ :: rest) σ w := by
  obtain ⟨b', hO, hput⟩ := hM.own hi
  rcases hO.2 with ⟨h2, _⟩ | ⟨cap, spare, h2, h3, h4, h5, h6⟩
  · cases h2
  · cases h2
    refine rl_store hT hg hx hy h1 h6 (by simp; omega) (fun w' hB' hc _ => k w' (hput w' _ _ _ _ ⟨by have := hO.1; simpa using this, .inr ⟨c, spare, rfl, h3, h4, by simpa using h5, ?_⟩⟩ (.inl rfl) hc))
    rwa [List.set_append_left _ _ ho] at hB'
/-! ## Own things in another row -/
theorem Mem.perm' : ∀ {L L' : List Ent}, L.Perm L' → ∀ pre, Mem w0 w (pre ++ L) V → Mem w0 w (pre ++ L') V := by
  intro L L' hp
  induction hp with
  | nil => exact fun _ h => h
  | cons x _ ih => intro pre h; have := ih (pre ++ [x]) (by simpa using h); simpa using this
  | swap x y l =>
    intro pre h
    have h1 : (pre ++ y :: x :: l)[pre.length + 1]? = some x := by rw [List.getElem?_append_right (by omega)]; simp
    refine h.pick (fun i => if i = pre.length then pre.length + 1 else if i = pre.length + 1 then pre.length else i) (fun i e hi => ?_) (fun i j _ _ hij => ?_)
    · split
      · rename_i he; subst he
        rw [List.getElem?_append_right (by omega)] at hi ⊢
        simp at hi ⊢; exact hi
      · split
        · rename_i he; subst he
          rw [List.getElem?_append_right (by omega)] at hi ⊢
          simp at hi ⊢; exact hi
        · rename_i h2 h3
          rcases Nat.lt_or_ge i pre.length with hlt | hge
          · rw [List.getElem?_append_left hlt] at hi ⊢; exact hi
          · rw [List.getElem?_append_right hge] at hi ⊢
            obtain ⟨m, hm⟩ : ∃ m, i - pre.length = m + 2 := ⟨i - pre.length - 2, by omega⟩
            rw [hm] at hi ⊢
            simpa using hi
    · split at hij <;> split at hij <;> try split at hij
      all_goals (try split at hij)
      all_goals omega
  | trans _ _ ih1 ih2 => exact fun pre h => ih2 pre (ih1 pre h)
theorem Mem.perm {L L' : List Ent} (h : Mem w0 w L V) (hp : L.Perm L') : Mem w0 w L' V := h.perm' hp []
/-- What is ahead is put behind. -/
theorem Mem.behind {A B : List Ent} (h : Mem w0 w (A ++ B) V) : Mem w0 w (B ++ A) V := h.perm List.perm_append_comm
theorem Mem.newLoop {r : Loop} (h : Mem w0 w L V) : Mem w0 ((w.alloc (.deferred (some []))).alloc (.loop r)) (.obj (w.heap.size + 1) (.loop r) :: .obj w.heap.size (.deferred (some [])) :: L) V := by
  have := (h.newObj (o := .deferred (some []))).newObj (o := .loop r)
  simpa using this
/-! ## Maps -/
/-- The object of a map, its entries by the row in which they were laid. -/
def MapIs (o : Obj) (m : List (Value × Value)) : Prop := ∃ es c, o = .map es c ∧ es.toList.map (fun e => (e.key, e.val)) = m
theorem rl_makeMapM {t : TypeId} (hM : Mem w0 w L V) (hg : want N ops σ g = true)
    (k : ∀ w' b o, MapIs o [] → Mem w0 w' (.obj b o :: L) V → RL P N ops Q rest (upd σ d (.map (some b))) w') : RL P N ops Q (⟨some d, .makeMap t none, ty, pos, af, g⟩ :: rest) σ w :=
  rl_val hg (by simp [execOp, run_makeMap]) (k _ _ _ ⟨#[], 0, rfl, rfl⟩ hM.newObj)
variable {t kt et : TypeId} {kd : TypeDesc} {m : List (Value × Value)} {o : Obj} {b : Nat} {key val z : Value} {x y u : Operand}
theorem mapIs_keys {es : Array MapEntry} (h : es.toList.map (fun e => (e.key, e.val)) = m) (hk : ∀ p ∈ m, IsKey kd p.1) : ∀ e ∈ es.toList, IsKey kd e.key := fun e he => hk _ (h ▸ List.mem_map.2 ⟨e, he, rfl⟩)
theorem findNow_t {es : Array MapEntry} {j : Nat} (h : es.toList.map (fun e => (e.key, e.val)) = m) (hk : ∀ p ∈ m, IsKey kd p.1) (hkey : IsKey kd key) (hj : m[j]? = some (key, val)) (hfirst : ∀ i v, i < j → m[i]? ≠ some (key, v)) :
    ∃ e, Instr.findNow kd key es.toList 0 = some (some (j, val)) ∧ es.toList[j]? = some e ∧ e.key = key ∧ e.val = val := by
  subst h
  rw [List.getElem?_map, Option.map_eq_some_iff] at hj
  obtain ⟨e, he, hee⟩ := hj
  simp only [Prod.mk.injEq] at hee
  rcases findNow_spec hkey es.toList 0 (mapIs_keys rfl hk) with ⟨h1, h2⟩ | ⟨j', e', h1, h2, h3⟩
  · exact absurd hee.1 (h2 e (List.mem_of_getElem? he))
  · -- the first one that is found is the first one that is there
    have hmin : ∀ (l : List MapEntry) (i j' : Nat) (e' : MapEntry), (∀ x ∈ l, IsKey kd x.key) → Instr.findNow kd key l i = some (some (i + j', e'.val)) → l[j']? = some e' → ∀ q e2, q < j' → l[q]? = some e2 → e2.key ≠ key := by
      intro l
      induction l with
      | nil => intro i j' e' _ _ h; simp at h
      | cons a l ih =>
        intro i j' e' hks hf hj q e2 hq hqe heq
        obtain ⟨r, hr, hiff⟩ := sameNow_of_keys hkey (hks a (.head _))
        cases j' with
        | zero => omega
        | succ j' =>
          cases r with
          | true =>
            simp [Instr.findNow, hr] at hf
          | false =>
            simp [Instr.findNow, hr] at hf
            cases q with
            | zero =>
              simp at hqe; subst hqe
              have := hiff.2 heq.symm; cases this
            | succ q => exact ih (i + 1) j' e' (fun x hx => hks x (.tail _ hx)) (by rw [hf]; congr 3; omega) (by simpa using hj) q e2 (by omega) (by simpa using hqe) heq
    have hj' : j' = j := by
      rcases Nat.lt_trichotomy j' j with hlt | heq | hgt
      · exact absurd (by rw [List.getElem?_map, h2]; simp [h3]) (hfirst j' e'.val hlt)
      · exact heq
      · exact absurd hee.1 (hmin es.toList 0 j' e' (mapIs_keys rfl hk) h1 h2 j e hgt he)
    subst hj'
    rw [h2] at he; cases he
    exact ⟨e, by rw [h1, hee.2]; simp, h2, h3, hee.2⟩
theorem findNow_f {es : Array MapEntry} (h : es.toList.map (fun e => (e.key, e.val)) = m) (hk : ∀ p ∈ m, IsKey kd p.1) (hkey : IsKey kd key) (hno : ∀ p ∈ m, p.1 ≠ key) : Instr.findNow kd key es.toList 0 = some none := by
  subst h
  rcases findNow_spec hkey es.toList 0 (mapIs_keys rfl hk) with ⟨h1, h2⟩ | ⟨j', e', h1, h2, h3⟩
  · exact h1
  · exact absurd h3 (hno (e'.key, e'.val) (List.mem_map.2 ⟨e', List.mem_of_getElem? h2, rfl⟩))
theorem rl_lookup_t {j : Nat} (i : Nat) (hM : Mem w0 w L V) (ht : P.underlying t = some (.map kt et)) (hkt : P.underlying kt = some kd) (hg : want N ops σ g = true) (hx : ev N σ x = .map (some b)) (hy : ev N σ y = key) (hi : L[i]? = some (.obj b o)) (ho : MapIs o m)
    (hk : ∀ p ∈ m, IsKey kd p.1) (hkey : IsKey kd key) (hj : m[j]? = some (key, val)) (hfirst : ∀ i v, i < j → m[i]? ≠ some (key, v))
    (k : RL P N ops Q rest (upd σ d (.tuple #[val, .bool true])) w) : RL P N ops Q (⟨some d, .lookup t x y true, ty, pos, af, g⟩ :: rest) σ w := by
  obtain ⟨es, c, rfl, hm⟩ := ho
  obtain ⟨e, h1, _, _, _⟩ := findNow_t hm hk hkey hj hfirst
  have hb := hM.getObj hi
  exact rl_val hg (by simp [execOp, hx, hy, Instr.lookup, run_underlying ht, MapKept.run_getObj_map hb, run_checkKey hkt hkey, run_findKey hkt h1, Result.andThen]) k
theorem rl_lookup_f (i : Nat) (hM : Mem w0 w L V) (ht : P.underlying t = some (.map kt et)) (hkt : P.underlying kt = some kd) (hz : (P.info? et).map (·.zero) = some (some z)) (hg : want N ops σ g = true) (hx : ev N σ x = .map (some b)) (hy : ev N σ y = key) (hi : L[i]? = some (.obj b o)) (ho : MapIs o m)
    (hk : ∀ p ∈ m, IsKey kd p.1) (hkey : IsKey kd key) (hno : ∀ p ∈ m, p.1 ≠ key)
    (k : RL P N ops Q rest (upd σ d (.tuple #[z, .bool false])) w) : RL P N ops Q (⟨some d, .lookup t x y true, ty, pos, af, g⟩ :: rest) σ w := by
  obtain ⟨es, c, rfl, hm⟩ := ho
  have h1 := findNow_f hm hk hkey hno
  have hb := hM.getObj hi
  simp only [Option.map_eq_some_iff] at hz
  obtain ⟨inf, hi1, hi2⟩ := hz
  exact rl_val hg (by simp [execOp, hx, hy, Instr.lookup, run_underlying ht, MapKept.run_getObj_map hb, run_checkKey hkt hkey, run_findKey hkt h1, Result.andThen, zeroValue, typeInfo, hi1, hi2]) k
theorem rl_mapPut (i : Nat) (hM : Mem w0 w L V) (ht : P.underlying t = some (.map kt et)) (hkt : P.underlying kt = some kd) (hg : want N ops σ g = true) (hx : ev N σ x = .map (some b)) (hy : ev N σ y = key) (hu : ev N σ u = val) (hi : L[i]? = some (.obj b o)) (ho : MapIs o m)
    (hk : ∀ p ∈ m, IsKey kd p.1) (hkey : IsKey kd key) (hno : ∀ p ∈ m, p.1 ≠ key)
    (k : ∀ w' o', MapIs o' (m ++ [(key, val)]) → Mem w0 w' (L.set i (.obj b o')) V → RL P N ops Q rest σ w') : RL P N ops Q (⟨none, .mapUpdate t x y u, ty, pos, af, g⟩ :: rest) σ w := by
  obtain ⟨es, c, rfl, hm⟩ := ho
  have h1 := findNow_f hm hk hkey hno
  have hb := hM.getObj hi
  have hlt : b < w.heap.size := (Array.getElem?_eq_some_iff.1 hb).1
  refine rl_unit hg (w' := { w with heap := w.heap.setIfInBounds b (.map (es.push { key, val, born := c }) (c + 1)) }) (by simp [execOp, hx, hy, hu, Instr.mapUpdate, run_underlying ht, MapKept.run_getObj_map hb, run_checkKey hkt hkey, run_findKey hkt h1, MapKept.run_setObj_map _ hb, Result.andThen]) (k _ _ ⟨_, _, rfl, ?_⟩ (hM.setObj hi ⟨rfl, rfl, rfl, by simp, fun k _ hne => (heap_set hb).2 k hne⟩ (heap_set hb).1))
  simp [hm]
/-! ## What a function value has captured -/
theorem rl_mkfunc1 {f : FuncId} {c1 : Operand} {v1 : Value} (hg : want N ops σ g = true) (h1 : ev N σ c1 = v1)
    (k : RL P N ops Q rest (upd σ d (.func (.func f) #[] [v1].toArray)) w) : RL P N ops Q (⟨some d, .makeFunc (.func f) #[] #[c1], ty, pos, af, g⟩ :: rest) σ w := rl_mkfunc (cap := [c1]) hg (by simp [h1]) k
theorem rl_mkfunc2 {f : FuncId} {c1 c2 : Operand} {v1 v2 : Value} (hg : want N ops σ g = true) (h1 : ev N σ c1 = v1) (h2 : ev N σ c2 = v2)
    (k : RL P N ops Q rest (upd σ d (.func (.func f) #[] [v1, v2].toArray)) w) : RL P N ops Q (⟨some d, .makeFunc (.func f) #[] #[c1, c2], ty, pos, af, g⟩ :: rest) σ w := rl_mkfunc (cap := [c1, c2]) hg (by simp [h1, h2]) k
theorem rl_mkfunc3 {f : FuncId} {c1 c2 c3 : Operand} {v1 v2 v3 : Value} (hg : want N ops σ g = true) (h1 : ev N σ c1 = v1) (h2 : ev N σ c2 = v2) (h3 : ev N σ c3 = v3)
    (k : RL P N ops Q rest (upd σ d (.func (.func f) #[] [v1, v2, v3].toArray)) w) : RL P N ops Q (⟨some d, .makeFunc (.func f) #[] #[c1, c2, c3], ty, pos, af, g⟩ :: rest) σ w := rl_mkfunc (cap := [c1, c2, c3]) hg (by simp [h1, h2, h3]) k
end Go.Eng
