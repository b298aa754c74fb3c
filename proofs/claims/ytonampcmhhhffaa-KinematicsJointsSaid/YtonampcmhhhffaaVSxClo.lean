/- Function values with captured memory: making them, calling them. For any program. No condition. -/
import Derived.Test.YtonampcmhhhffaaVSxSrc
namespace Go.Sx
open Go.RowKit
section
variable {P : Program} {n : Nat} {w0 : Base} {ops : Array Oper} {Q : Exit → Act → World → Prop} {S : Slots} {H : Heap}
variable {d : Nat} {ty : TypeId} {pos : String} {af : Array Edge} {g : Option (Nat × Bool)}

theorem opV_makeFunc {dd : Option Tmp} {fn : Fn} {xs ys : List Operand} {vs us : List Value} (h1 : evs S xs = some vs) (h2 : evs S ys = some us) :
    OpV P w0 S H ⟨dd, .makeFunc fn xs.toArray ys.toArray, ty, pos, af, g⟩ (.func fn vs.toArray us.toArray) := by
  obtain ⟨e1, k1⟩ := evs_spec h1
  obtain ⟨e2, k2⟩ := evs_spec h2
  refine opV_of ?_ rfl fun w _ => ?_
  · simp only [knownB, Op.operands]
    rw [Array.all_eq_true_iff_forall_mem]
    intro x hx
    simp at hx
    rcases hx with hx | hx
    · exact k1 x hx
    · exact k2 x hx
  · simp [execOp, Instr.makeFunc, e1, e2]

/-- reading an old block of which all is known -/
theorem opV_loadA_blk {dd : Option Tmp} {t t0 : TypeId} {x : Operand} {b off sz : Nat} {cs vs : List Value} (hb : w0.w.heap[b]? = some (.cells cs.toArray t0)) (hT : tyB P t true sz = true) (hx : ev S x = some (.pointer (some ⟨b, off, none⟩)))
    (hv : sliceV cs off sz = some vs) : OpV P w0 S H ⟨dd, .load t x, ty, pos, af, g⟩ (.agg vs.toArray) := by
  obtain ⟨e, hl⟩ := sliceV_spec hv
  have hl2 : vs.length = sz := by rw [e]; simp; omega
  refine opV_loadA_old hT hx (heap_lt hb) (by rw [hl2]; exact Nat.beq_refl _) fun i hi => ?_
  rw [cell_at hb, e, List.getElem?_take, if_pos hi, List.getElem?_drop]
theorem opV_load1_blk {dd : Option Tmp} {t t0 : TypeId} {x : Operand} {b off : Nat} {cs : List Value} {v : Value} (hb : w0.w.heap[b]? = some (.cells cs.toArray t0)) (hT : tyB P t false 1 = true) (hx : ev S x = some (.pointer (some ⟨b, off, none⟩)))
    (hv : cs[off]? = some v) : OpV P w0 S H ⟨dd, .load t x, ty, pos, af, g⟩ v :=
  opV_load1_old hT hx (heap_lt hb) (by rw [cell_at hb]; exact hv)

/-- a value over a new block that a call makes -/
def NewF (w : World) (mk : Nat → Value) (cs : List Value) (t : TypeId) : Pred := fun u w' => ∃ b, u = mk b ∧ w.heap.size ≤ b ∧ w'.heap[b]? = some (.cells cs.toArray t)
/-- .. of which its freshness does not matter -/
def HasF (mk : Nat → Value) (cs : List Value) (t : TypeId) : Pred := fun u w' => ∃ b, u = mk b ∧ w'.heap[b]? = some (.cells cs.toArray t)
theorem stable_hasF {mk : Nat → Value} {cs : List Value} {t : TypeId} : Stable (HasF mk cs t) := fun _ _ _ ⟨b, h1, h2⟩ gr => ⟨b, h1, by rw [gr.block b (heap_lt h2)]; exact h2⟩

variable {f : FuncId} {xs : List Operand} {ats : Array TypeId} {vs : List Value} {rest : List Oper}
theorem doL_callNewF {mk : Nat → Value} {cs : List Value} {t0 : TypeId} (id : Nat) (he : Enters P f) (ha : evs S xs = some vs) (hc : ∀ w', Knows w0 H w' → Calls P f vs.toArray w' (RetsT (NewF w' mk cs t0) w'))
    (hw : wantedS ops S ⟨some d, .call ⟨.value (.func f), xs.toArray, ats⟩, ty, pos, af, g⟩ = some true) (hn : Nat.blt d n = true)
    (next : ∀ b, DoL P n w0 ops Q rest ((d, mk b) :: S) ((id, b, cs, t0) :: H)) : DoL P n w0 ops Q (⟨some d, .call ⟨.value (.func f), xs.toArray, ats⟩, ty, pos, af, g⟩ :: rest) S H := by
  intro a w' fi k
  unfold wpList
  rw [wanted_fits fi hw, if_pos rfl]
  refine .inl ?_
  unfold Oper.wp
  rw [exec_fits fi (known_evs ha) rfl, call_run he ha]
  simp only [Oper.upon]
  refine (hc w' k).mono fun e w'' ⟨v, he, hg, bb, hv, hlt, hblk⟩ => ?_
  subst he; subst hv
  have k2 := k.next hg
  refine next bb _ _ (fi.put hn _) ⟨k2.grow, fun y hy => ?_, ?_, fun F hF => (k2.facts F hF).heap fun y hy => ?_, k.apart⟩
  · rcases List.mem_cons.1 hy with rfl | hy
    · exact ⟨Nat.le_trans k.grow.size hlt, hblk⟩
    · exact k2.has y hy
  · rw [List.map_cons, List.nodup_cons]
    refine ⟨fun hm => ?_, k.nodup⟩
    obtain ⟨y, hy, hye⟩ := List.mem_map.1 hm
    have := heap_lt (k.has y hy).2
    simp only at hye
    omega
  · rcases List.mem_cons.1 hy with rfl | hy
    · exact .inr fun hd => by have := ((k.facts F hF).at' _ hd).2.1; simp only at this; omega
    · exact .inl ⟨y, hy, rfl⟩

variable {K : Slots → Ghosts → Prop} {G : Ghosts}
theorem doG_callNewF {mk : Nat → Value} {cs : List Value} {t0 : TypeId} (he : Enters P f) (ha : evs S xs = some vs) (hc : ∀ w', Knows w0 H w' → Calls P f vs.toArray w' (RetsT (NewF w' mk cs t0) w'))
    (hw : wantedS ops S ⟨some d, .call ⟨.value (.func f), xs.toArray, ats⟩, ty, pos, af, g⟩ = some true) (hn : Nat.blt d n = true) (hno : look S d = none)
    (next : DoG P n w0 ops H K rest S ((d, false, HasF mk cs t0) :: G)) : DoG P n w0 ops H K (⟨some d, .call ⟨.value (.func f), xs.toArray, ats⟩, ty, pos, af, g⟩ :: rest) S G :=
  doG_t (opT_call he ha fun w' k => (hc w' k).mono fun e w'' ⟨v, h1, h2, b, h3, _, h4⟩ => ⟨v, h1, h2, b, h3, h4⟩) stable_hasF hw rfl hn hno next

/-- a call of a function value that is told by a property -/
theorem doG_callFG {α : Type} {F : α → Value} {x : α} {mk : Nat → Value} {cs : List Value} {t0 : TypeId} {first cap : Nat → List Value} (t : Nat) (hG : lookG G t = some (HasF mk cs t0)) (hmk : ∀ b, mk b = .func (.func f) (first b).toArray (cap b).toArray) (he : Enters P f)
    (ha : ∀ u, evs ((t, u) :: S) xs = some vs) (hc : ∀ b w, Knows w0 H w → w.heap[b]? = some (.cells cs.toArray t0) → Calls P f (first b ++ vs ++ cap b).toArray w (Rets (F x) w))
    (hw : ∀ u, wantedS ops ((t, u) :: S) ⟨some d, .call ⟨.value (.tmp t), xs.toArray, ats⟩, ty, pos, af, g⟩ = some true)
    (hm : t ∈ Oper.looksAt ops ⟨some d, .call ⟨.value (.tmp t), xs.toArray, ats⟩, ty, pos, af, g⟩) (hn : Nat.blt d n = true) (next : ∀ r, r = x → DoG P n w0 ops H K rest ((d, F r) :: S) G) :
    DoG P n w0 ops H K (⟨some d, .call ⟨.value (.tmp t), xs.toArray, ats⟩, ty, pos, af, g⟩ :: rest) S G :=
  doG_g1 t hG rfl (fun u => by
      simp only [knownB, Op.operands, Call.operands]
      rw [Array.all_eq_true_iff_forall_mem]
      intro y hy
      simp at hy
      rcases hy with rfl | hy
      · simp [ev, look_cons_same]
      · exact (evs_spec (ha u)).2 y hy)
    (fun u w k ⟨b, hu, hb⟩ => by
      obtain ⟨e, _⟩ := evs_spec (ha u)
      have h2 : evD ((t, u) :: S) (.tmp t) = .func (.func f) (first b).toArray (cap b).toArray := by
        rw [← hmk, ← hu]
        exact evD_of (by simp [ev, look_cons_same])
      have h3 := he (first b ++ vs ++ cap b).toArray w
      have hrun : (execOp (evD ((t, u) :: S)) ⟨some d, .call ⟨.value (.tmp t), xs.toArray, ats⟩, ty, pos, af, g⟩).run P w = .ok (.enter f (first b ++ vs ++ cap b).toArray) w := by
        simp [execOp, resolve, h2, Deferred.ofValue, invoke, e]
        simpa using h3
      rw [hrun]
      exact ⟨Grow.refl _, (hc b w k hb).mono fun _ _ h => ⟨F x, h.1, h.2, rfl⟩⟩) hw hm rfl hn (next x rfl)
end
end Go.Sx
