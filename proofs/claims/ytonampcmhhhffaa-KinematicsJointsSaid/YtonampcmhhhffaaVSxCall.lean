/- Calls, results, built values, forgetting: rules of the symbolic executor, for any program. No condition. -/
import Derived.Test.YtonampcmhhhffaaVSxMem
namespace Go.Sx
open Go.RowKit

/-- What a contract says: the call hands back v; it only makes new memory. -/
def Rets (v : Value) (w : World) (e : Ending) (w' : World) : Prop := e = .returned v ∧ Grow w w'
/-- .. of a result that is told by a property. -/
def RetsT (T : Value → World → Prop) (w : World) (e : Ending) (w' : World) : Prop := ∃ v, e = .returned v ∧ Grow w w' ∧ T v w'

def Enters (P : Program) (f : FuncId) : Prop := ∀ args w, (callFunc f args).run P w = .ok (.enter f args) w

theorem enters_of {P : Program} {f : FuncId} {fn : Func} (hf : P.funcs[f]? = some fn) (h1 : (fn.name == "runtime.NumGoroutine") = false) (h2 : fn.body.isNone = false) : Enters P f := by
  intro args w
  have h1' : ¬ fn.name = "runtime.NumGoroutine" := by simpa using h1
  have h2' : ¬ fn.body = none := fun e => by simp [e] at h2
  simp only [callFunc, program, Sem.run_bind]
  simp [Sem.run, hf, h1', h2']

section
variable {P : Program} {n : Nat} {w0 : Base} {ops : Array Oper} {Q : Exit → Act → World → Prop} {S : Slots} {H : Heap}
variable {d : Option Tmp} {ty : TypeId} {pos : String} {af : Array Edge} {g : Option (Nat × Bool)}

theorem evs_spec {xs : List Operand} {vs : List Value} (h : evs S xs = some vs) : xs.map (evD S) = vs ∧ ∀ x ∈ xs, (ev S x).isSome = true := by
  induction xs generalizing vs with
  | nil => simp [evs] at h; simp [h]
  | cons x xs ih =>
    simp only [evs] at h
    cases hx : ev S x with
    | none => simp [hx] at h
    | some v =>
      simp only [hx] at h
      obtain ⟨ws, hw, rfl⟩ := consO_some h
      obtain ⟨e, ha⟩ := ih hw
      refine ⟨by simp [evD_of hx, e], fun y hy => ?_⟩
      rcases List.mem_cons.1 hy with rfl | hy
      · simp [hx]
      · exact ha y hy

theorem opT_call {f : FuncId} {xs : List Operand} {ats : Array TypeId} {vs : List Value} {T : Value → World → Prop} (he : Enters P f) (ha : evs S xs = some vs)
    (hc : ∀ w, Knows w0 H w → Calls P f vs.toArray w (RetsT T w)) : OpT P w0 S H ⟨d, .call ⟨.value (.func f), xs.toArray, ats⟩, ty, pos, af, g⟩ T := by
  obtain ⟨e, hk⟩ := evs_spec ha
  refine ⟨?_, rfl, fun w k => ?_⟩
  · simp only [knownB, Op.operands, Call.operands]
    rw [Array.all_eq_true_iff_forall_mem]
    intro x hx
    simp at hx
    rcases hx with rfl | hx
    · rfl
    · exact hk x hx
  · have hrun : (execOp (evD S) ⟨d, .call ⟨.value (.func f), xs.toArray, ats⟩, ty, pos, af, g⟩).run P w = .ok (.enter f vs.toArray) w := by
      have h2 : evD S (.func f) = .func (.func f) #[] #[] := rfl
      have h3 := he vs.toArray w
      simp [execOp, resolve, h2, Deferred.ofValue, invoke, e, h3]
    rw [hrun]
    exact ⟨Grow.refl _, (hc w k).mono fun _ _ h => h⟩

theorem opV_call {f : FuncId} {xs : List Operand} {ats : Array TypeId} {vs : List Value} {v : Value} (he : Enters P f) (ha : evs S xs = some vs)
    (hc : ∀ w, Knows w0 H w → Calls P f vs.toArray w (Rets v w)) : OpV P w0 S H ⟨d, .call ⟨.value (.func f), xs.toArray, ats⟩, ty, pos, af, g⟩ v :=
  opT_call he ha fun w k => (hc w k).mono fun _ _ h => ⟨v, h.1, h.2, rfl⟩

/-- A call of a function value (a closure or a plain function held in a slot). -/
theorem opV_callV {f : FuncId} {fx : Operand} {first cap : List Value} {xs : List Operand} {ats : Array TypeId} {vs args : List Value} {v : Value} (he : Enters P f) (hf : ev S fx = some (.func (.func f) first.toArray cap.toArray)) (ha : evs S xs = some vs)
    (hargs : args = first ++ vs ++ cap) (hc : ∀ w, Knows w0 H w → Calls P f args.toArray w (Rets v w)) : OpV P w0 S H ⟨d, .call ⟨.value fx, xs.toArray, ats⟩, ty, pos, af, g⟩ v := by
  obtain ⟨e, hk⟩ := evs_spec ha
  refine ⟨?_, rfl, fun w k => ?_⟩
  · simp only [knownB, Op.operands, Call.operands]
    rw [Array.all_eq_true_iff_forall_mem]
    intro x hx
    simp at hx
    rcases hx with rfl | hx
    · simp [hf]
    · exact hk x hx
  · have hrun : (execOp (evD S) ⟨d, .call ⟨.value fx, xs.toArray, ats⟩, ty, pos, af, g⟩).run P w = .ok (.enter f args.toArray) w := by
      have h3 := he args.toArray w
      subst hargs
      simp [execOp, resolve, evD_of hf, Deferred.ofValue, invoke, e]
      simpa using h3
    rw [hrun]
    exact ⟨Grow.refl _, (hc w k).mono fun _ _ h => ⟨v, h.1, h.2, rfl⟩⟩

/-- A call whose result is told by a property, in the order of the text. -/
theorem doL_t {o : Oper} {rest : List Oper} {T : Value → World → Prop} {dd : Nat} (ho : OpT P w0 S H o T) (hw : wantedS ops S o = some true) (hd : o.dst = some dd) (hn : Nat.blt dd n = true)
    (next : ∀ v a w, Fits n ((dd, v) :: S) a → Knows w0 H w → T v w → wpList P ops Q rest a w) : DoL P n w0 ops Q (o :: rest) S H :=
  doL_op hw ho fun a w w' v f k gr ht => by
    rw [hd]
    exact next v _ _ (f.put hn _) (k.next gr) ht

/-! ### Entering a function, leaving it -/
def initS : Nat → List Value → Slots
  | _, [] => []
  | k, v :: vs => (k, v) :: initS (k + 1) vs

theorem look_initS {vs : List Value} {k t : Nat} {v : Value} (h : look (initS k vs) t = some v) : k ≤ t ∧ vs[t - k]? = some v := by
  induction vs generalizing k with
  | nil => cases h
  | cons u vs ih =>
    simp only [initS] at h
    by_cases e : k = t
    · subst e; rw [look_cons_same] at h; simpa using h
    · rw [look_cons_ne _ _ e] at h
      obtain ⟨h1, h2⟩ := ih h
      refine ⟨by omega, ?_⟩
      rw [show t - k = (t - (k + 1)) + 1 by omega]
      simpa using h2

theorem calls_of_doC {f : FuncId} {fn : Func} {c : Code} {args : List Value} {w : World} {R : Ending → World → Prop} (hf : P.funcs[f]? = some fn) (hb : fn.body = some c) (hn : fn.ntmps = n)
    (hle : Nat.ble args.length n = true) (h : DoC P n ⟨w, []⟩ (bodyPost P fn R) c (initS 0 args) []) : Calls P f args.toArray w R := by
  have hle' : args.length ≤ n := Nat.le_of_ble_eq_true hle
  refine calls_of_wp hf hb (h _ _ ⟨by simp [hn]; omega, rfl, fun t v ht => ?_⟩ (Knows.nil (Grow.refl _)))
  obtain ⟨_, h2⟩ := look_initS ht
  have hlt := (List.getElem?_eq_some_iff.1 h2).1
  simp at hlt
  simp only [Nat.sub_zero] at h2
  simp [Array.getElem?_append, hlt]
  rw [List.getElem?_eq_getElem hlt] at h2
  simpa using h2

/-- What a result variable holds. -/
def ResIs (P : Program) (S : Slots) (H : Heap) : ResultVar → Value → Prop
  | .tmp t, v => look S t = some v
  | .cell a t, v => ∃ b cs ty id, look S a = some (.pointer (some ⟨b, 0, none⟩)) ∧ lookH H id = some (b, cs, ty) ∧ tyB P t true cs.length = true ∧ v = .agg cs.toArray
def ResAre (P : Program) (S : Slots) (H : Heap) : List ResultVar → List Value → Prop
  | [], [] => True
  | r :: rs, v :: vs => ResIs P S H r v ∧ ResAre P S H rs vs
  | _, _ => False

theorem resIs_tmp {t : Nat} {v : Value} (h : look S t = some v) : ResIs P S H (.tmp t) v := h
theorem resIs_cell {a t b sz : Nat} {cs : List Value} {ty : TypeId} (id : Nat) (h : look S a = some (.pointer (some ⟨b, 0, none⟩))) (hH : lookH H id = some (b, cs, ty)) (hT : tyB P t true sz = true) (hl : Nat.beq cs.length sz = true) :
    ResIs P S H (.cell a t) (.agg cs.toArray) := ⟨b, cs, ty, id, h, hH, by rw [Nat.eq_of_beq_eq_true hl]; exact hT, rfl⟩

theorem resN : ResAre P S H [] [] := trivial
theorem resC {r : ResultVar} {rs : List ResultVar} {v : Value} {vs : List Value} (h : ResIs P S H r v) (hs : ResAre P S H rs vs) : ResAre P S H (r :: rs) (v :: vs) := ⟨h, hs⟩

def resF (tmps : Array Value) : ResultVar → Sem Value
  | .tmp t => pure (tmps.getD t undef)
  | .cell x t => do loadVar t (← asAddr (tmps.getD x undef))

theorem run_res {a : Act} {w : World} (f : Fits n S a) (k : Knows w0 H w) {r : ResultVar} {v : Value} (h : ResIs P S H r v) : (resF a.tmps r).run P w = .ok v w := by
  cases r with
  | tmp t =>
    have := f.has t v h
    simp [resF, Array.getD_eq_getD_getElem?, this]
  | cell x t =>
    obtain ⟨b, cs, ty, id, h1, h2, h3, rfl⟩ := h
    have := f.has _ _ h1
    have hr := run_load_agg (P := P) (w := w) (b := b) (off := 0) (k := cs.length) (vs := cs) (fun i _ => by rw [cell_at (k.at h2).2]; simp) rfl
    simp [resF, Array.getD_eq_getD_getElem?, this, asAddr, loadVar, tyB_agg h3, tyB_size h3, hr]

theorem run_results {a : Act} {w : World} (f : Fits n S a) (k : Knows w0 H w) : ∀ {rs : List ResultVar} {vs : List Value}, ResAre P S H rs vs →
    (rs.mapM (resF a.tmps)).run P w = .ok vs w
  | [], [], _ => by simp
  | r :: rs, v :: vs, h => by
    have h1 := run_res f k h.1
    have h2 := run_results f k h.2
    simp [List.mapM_cons, Sem.run_bind, h1, h2]
  | [], _ :: _, h => h.elim
  | _ :: _, [], h => h.elim

def valOf : List Value → Value
  | [v] => v
  | vs => .tuple vs.toArray

theorem post_ret {fn : Func} {R : Ending → World → Prop} {rs : List ResultVar} {vs : List Value} {v : Value} (hr : fn.results = rs.toArray) (hv : ResAre P S H rs vs) (hval : valOf vs = v)
    (hR : ∀ w, Knows w0 H w → R (.returned v) w) : PostAt n w0 (bodyPost P fn R) .ret S H := by
  intro a w f k
  refine ⟨f.defers, v, ?_, hR w k⟩
  have h := run_results f k hv
  unfold results
  rw [hr]
  change Sem.run P (do let us ← rs.toArray.mapM (resF a.tmps); pure (if h : us.size = 1 then us[0] else .tuple us)) w = _
  simp only [Sem.run_bind, List.mapM_toArray, Sem.run_map, h, Result.andThen_ok]
  subst hval
  match vs with
  | [] => rfl
  | [v] => rfl
  | v :: u :: vs => simp [valOf]
theorem post_end {fn : Func} {R : Ending → World → Prop} {rs : List ResultVar} {vs : List Value} {v : Value} (hr : fn.results = rs.toArray) (hv : ResAre P S H rs vs) (hval : valOf vs = v)
    (hR : ∀ w, Knows w0 H w → R (.returned v) w) : PostAt n w0 (bodyPost P fn R) .normal S H := post_ret (R := R) hr hv hval hR

theorem post_rets {fn : Func} {rs : List ResultVar} {vs : List Value} {v : Value} (hr : fn.results = rs.toArray) (hv : ResAre P S H rs vs) (hval : valOf vs = v) :
    PostAt n w0 (bodyPost P fn (Rets v w0.w)) .ret S H := post_ret hr hv hval fun _ k => ⟨rfl, k.grow⟩

/-! ### Forgetting -/
def keepS (ks : List Nat) : Slots → Option Slots
  | [] => some []
  | (k, v) :: S => bif ks.any (Nat.beq k) then consO (k, v) (keepS (ks.filter fun x => !Nat.beq k x) S) else keepS ks S

theorem keepS_spec {ks : List Nat} {S S' : Slots} (h : keepS ks S = some S') : ∀ t v, look S' t = some v → look S t = some v ∧ t ∈ ks := by
  induction S generalizing ks S' with
  | nil => simp [keepS] at h; subst h; intro t v ht; cases ht
  | cons x S ih =>
    obtain ⟨k, u⟩ := x
    intro t v ht
    simp only [keepS] at h
    cases hb : ks.any (Nat.beq k) with
    | true =>
      rw [hb] at h
      obtain ⟨S2, h2, rfl⟩ := consO_some h
      by_cases e : k = t
      · subst e
        rw [look_cons_same] at ht ⊢
        obtain ⟨y, hy, he⟩ := List.any_eq_true.1 hb
        rw [Nat.eq_of_beq_eq_true he]
        exact ⟨ht, hy⟩
      · rw [look_cons_ne _ _ e] at ht ⊢
        obtain ⟨h3, h4⟩ := ih h2 t v ht
        exact ⟨h3, (List.mem_filter.1 h4).1⟩
    | false =>
      rw [hb] at h; simp at h
      obtain ⟨h3, h4⟩ := ih h t v ht
      have e : k ≠ t := fun e => by
        subst e
        have := List.any_eq_false.1 hb k h4
        simp at this
      exact ⟨by rw [look_cons_ne _ _ e]; exact h3, h4⟩

theorem Fits.keep {ks : List Nat} {S' : Slots} {a : Act} (f : Fits n S a) (h : keepS ks S = some S') : Fits n S' a :=
  ⟨f.size, f.defers, fun t v ht => f.has t v (keepS_spec h t v ht).1⟩

theorem doC_keep {ks : List Nat} {S' : Slots} {c : Code} (h : keepS ks S = some S') (next : DoC P n w0 Q c S' H) : DoC P n w0 Q c S H := fun a w f k => next a w (f.keep h) k
theorem doL_keep {ks : List Nat} {S' : Slots} {l : List Oper} (h : keepS ks S = some S') (next : DoL P n w0 ops Q l S' H) : DoL P n w0 ops Q l S H := fun a w f k => next a w (f.keep h) k

def keepH (ks : List Nat) : Heap → Option Heap
  | [] => some []
  | (k, x) :: H => bif ks.any (Nat.beq k) then consO (k, x) (keepH ks H) else keepH ks H
theorem keepH_sub {ks : List Nat} {H H' : Heap} (h : keepH ks H = some H') : H'.Sublist H := by
  induction H generalizing H' with
  | nil => simp [keepH] at h; subst h; exact List.nil_sublist _
  | cons x H ih =>
    obtain ⟨k, x⟩ := x
    simp only [keepH] at h
    cases hb : ks.any (Nat.beq k) with
    | true =>
      rw [hb] at h
      obtain ⟨H2, h2, rfl⟩ := consO_some h
      exact (ih h2).cons_cons _
    | false => rw [hb] at h; simp at h; exact (ih h).cons _
theorem Knows.keep {ks : List Nat} {H' : Heap} {w : World} (k : Knows w0 H w) (h : keepH ks H = some H') : Knows w0 H' w :=
  ⟨k.grow, fun x hx => k.has x ((keepH_sub h).mem hx), ((keepH_sub h).map _).nodup k.nodup, fun F hF => (k.facts F hF).heap fun x hx => .inl ⟨x, (keepH_sub h).mem hx, rfl⟩, k.apart⟩
theorem doC_keepH {ks : List Nat} {H' : Heap} {c : Code} (h : keepH ks H = some H') (next : DoC P n w0 Q c S H') : DoC P n w0 Q c S H := fun a w f k => next a w f (k.keep h)

end
end Go.Sx
