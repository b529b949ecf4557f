/- Append to a slice of the call's own in the drawn part of a region. -/
import Derived.Test.YtcbnehplilpidaaRowK
import Derived.ArgAppend
set_option linter.unusedVariables false
set_option linter.unusedSimpArgs false
namespace Tryst3
open Go Go.RowKit Tryst
/-- what block g holds behind an append of one element to a slice of the call's own: in place, or as it was -/
def AppC (e : TypeId) (k : Nat) (w : World) (v : Value) (l : List (List Value)) (f : List Value) (g : Nat) (C : Obj) : Prop :=
  (∃ cap cur, v = .slice (some ⟨g, 0, none⟩) l.length cap ∧ l.length < cap ∧ cur.size = cap * k ∧ w.heap[g]? = some (.cells cur e (0, 0)) ∧ C = .cells (l.flatten ++ f ++ cur.toList.drop (l.length * k + k)).toArray e (0, 0)) ∨
  ((∀ A n c, v = .slice (some A) n c → A.block = g ∧ n = c) ∧ w.heap[g]? = some C)
theorem AppC.ex {e : TypeId} {k : Nat} {w : World} {base : Nat} {v : Value} {l : List (List Value)} (h : ROwn e k w base v l) (f : List Value) (b : Nat) (hb : b < w.heap.size) :
    ∃ g C, AppC e k w v l f g C ∧ g < w.heap.size ∧ (g = b ∨ ∃ c, v = .slice (some ⟨g, 0, none⟩) l.length c) := by
  rcases h.2 with ⟨rfl, _⟩ | ⟨g, cap, cur, rfl, hg, hh, hcap, hcm, hcs, _⟩
  · exact ⟨b, w.heap[b], .inr ⟨fun A n c h => (by cases h), by rw [Array.getElem?_eq_getElem hb]⟩, hb, .inl rfl⟩
  · have hlt : g < w.heap.size := (Array.getElem?_eq_some_iff.1 hh).1
    by_cases hc : l.length < cap
    · exact ⟨g, _, .inl ⟨cap, cur, rfl, hc, hcs, hh, rfl⟩, hlt, .inr ⟨cap, rfl⟩⟩
    · exact ⟨g, _, .inr ⟨fun A n c h => by cases h; exact ⟨rfl, by omega⟩, hh⟩, hlt, .inr ⟨cap, rfl⟩⟩
/-- what came of it: stable while block g is as it was or holds C -/
def AppQ (e : TypeId) (k base : Nat) (l : List (List Value)) (g : Nat) (C : Obj) (v : Value) (w : World) : Prop :=
  ROwn e k w base v l ∧ ∀ A n c, v = .slice (some A) n c → A.block = g → w.heap[g]? = some C
theorem AppQ.at {e : TypeId} {k base : Nat} {l : List (List Value)} {g : Nat} {C : Obj} {v : Value} {w' : World} (h : ∃ w0, Ext g C w0 w' ∧ AppQ e k base l g C v w0) : ROwn e k w' base v l := by
  obtain ⟨w0, hx, h1, h2⟩ := h
  refine own_stays h1 fun A n c hv => ?_
  by_cases hA : A.block = g
  · have h3 := h2 A n c hv hA
    rw [hA]
    rcases hx.row with h4 | h4
    · exact h4
    · rw [h4, h3]
  · exact hx.block _ ((h1.lt _ (by rw [hv]; rfl)).2) hA
theorem stepApp {P : Program} {ρ : Operand → Value} {o : Oper} {w w' : World} {t e : TypeId} {k bytes : Nat} (E : SliceOf P t e k bytes) (s x : Operand)
    (ho : o.op = .call { callee := .builtin .append, args := #[s, x], argTypes := #[t, t] })
    (base : Nat) (v : Value) (l : List (List Value)) (hown : ROwn e k w base v l) (hl : ∀ x ∈ l, x.length = k) (f : List Value) (hfk : f.length = k) (h1 : ∀ u ∈ f, u.oneCell' = true)
    (g : Nat) (C : Obj) (hC : AppC e k w v l f g C) (hext : Ext g C w w') (hs : ρ s = v) (g2 : Nat) (hx : ρ x = .slice (some ⟨g2, 0, none⟩) 1 1) (hf : ∀ j, j < k → w'.cell? ⟨g2, j, none⟩ = f[j]?)
    (hn : l.length + 1 ≤ 1073741824) (hbase : base ≤ w.heap.size) (hgw : g < w.heap.size) :
    Tryst2.stepV P (fun v' w'' => Ext g C w' w'' ∧ ∃ w1, Ext g C w1 w'' ∧ AppQ e k base (l ++ [f]) g C v' w1) ((execOp ρ o).run P w') := by
  obtain ⟨inf, z, hi, hz, h2, h3, h4⟩ := E.info
  have hbw' : base ≤ w'.heap.size := Nat.le_trans hbase hext.size
  have hfl := flatten_len hl
  have hfc : ∀ (j : Nat) u, f[j]? = some u → w'.cell? ((⟨g2, 0, none⟩ : Addr).add j) = some u := fun j u hj => by
    rw [Addr.add_lit, Nat.zero_add, hf j (by rw [← hfk]; exact (List.getElem?_eq_some_iff.1 hj).1)]
    exact hj
  have hbig : (l.length + 1) * bytes ≤ 140737488355328 := by
    have := E.small
    calc (l.length + 1) * bytes ≤ 1073741824 * 65536 := Nat.mul_le_mul hn this
      _ ≤ _ := by decide
  have fin : ∀ v' w'', (Builtin.append_ #[t, t] o.type #[v, .slice (some ⟨g2, 0, none⟩) 1 1]).run P w' = .ok v' w'' → (Ext g C w' w'' ∧ ∃ w1, Ext g C w1 w'' ∧ AppQ e k base (l ++ [f]) g C v' w1) →
      Tryst2.stepV P (fun v' w'' => Ext g C w' w'' ∧ ∃ w1, Ext g C w1 w'' ∧ AppQ e k base (l ++ [f]) g C v' w1) ((execOp ρ o).run P w') := fun v' w'' hr hq => by
    unfold execOp
    simp only [ho, resolve, invoke, builtin, Sem.run_bind, Sem.run_pure, Result.andThen_ok, List.map_toArray, List.map_cons, List.map_nil, hs, hx, hr]
    rw [Tryst2.stepV_value]
    exact hq
  rcases hC with ⟨cap, cur, rfl, hcap, hcs, hh, rfl⟩ | ⟨hv, hh⟩
  · have hsz : l.length * k + k ≤ cap * k := by
      have := Nat.mul_le_mul_right k hcap
      rw [Nat.succ_mul] at this; exact this
    have hdl : (cur.toList.drop (l.length * k + k)).length = cap * k - (l.length * k + k) := by rw [List.length_drop, Array.length_toList, hcs]
    have key : ∀ cur2 : Array Value, w'.heap[g]? = some (.cells cur2 e (0, 0)) → cur2.size = cap * k → cur2.toList.take (l.length * k) = l.flatten → cur2.toList.drop (l.length * k + k) = cur.toList.drop (l.length * k + k) →
        Tryst2.stepV P (fun v' w'' => Ext g (.cells (l.flatten ++ f ++ cur.toList.drop (l.length * k + k)).toArray e (0, 0)) w' w'' ∧ ∃ w1, Ext g (.cells (l.flatten ++ f ++ cur.toList.drop (l.length * k + k)).toArray e (0, 0)) w1 w'' ∧ AppQ e k base (l ++ [f]) g (.cells (l.flatten ++ f ++ cur.toList.drop (l.length * k + k)).toArray e (0, 0)) v' w1) ((execOp ρ o).run P w') := fun cur2 hg2 hs2 ht2 hd2 => by
      have hr := run_append_room (P := P) w' t o.type e inf E.und hi g l.length cap cur2 hg2 ⟨g2, 0, none⟩ 1 1 f (by rw [h2, Nat.one_mul]; exact hfk) hfc h1 (by omega) (by rw [h2, hfk, hs2]; exact hsz)
      rw [h2, hfk, ht2, hd2] at hr
      refine fin _ _ hr ⟨setRow_ext w' g _ cur2 e hg2, _, Ext.refl _ _ _, ?_, fun A n c hv hA => setRow_at w' g _ cur2 e hg2⟩
      have hlen : (l ++ [f]).flatten = l.flatten ++ f := by simp
      refine ⟨?_, .inr ⟨g, cap, _, ?_, ?_, setRow_at w' g _ cur2 e hg2, ?_, ?_, ?_, ?_⟩⟩
      · rw [flatten_len (k := k) (fun x hx => by
          rcases List.mem_append.1 hx with h | h
          · exact hl x h
          · simp at h; subst h; exact hfk)]
      · simp
      · have := hown.lt g rfl; exact this.1
      · simp; omega
      · rcases hown.2 with ⟨h, _⟩ | ⟨_, c2, _, h, _, _, _, hm, _⟩
        · cases h
        · cases h; exact hm
      · rw [List.size_toArray, List.length_append, List.length_append, hfl, hfk, hdl]; omega
      · rw [List.toList_toArray, hlen]
        have : (l ++ [f]).length * k = (l.flatten ++ f).length := by simp [hfl, hfk, Nat.add_mul]
        rw [this, List.take_left]
    have hcur : cur.toList.take (l.length * k) = l.flatten := by
      rcases hown.2 with ⟨h, _⟩ | ⟨_, c2, cu, h, _, h5, _, _, _, h6⟩
      · cases h
      · cases h
        rw [hh] at h5
        cases h5
        exact h6
    rcases hext.row with h5 | h5
    · exact key cur (h5.trans hh) hcs hcur rfl
    · refine key _ h5 ?_ ?_ ?_
      · rw [List.size_toArray, List.length_append, List.length_append, hfl, hfk, hdl]; omega
      · rw [List.toList_toArray, List.append_assoc, ← hfl, List.take_left]
      · rw [List.toList_toArray]
        have : l.length * k + k = (l.flatten ++ f).length := by rw [List.length_append, hfl, hfk]
        rw [this, List.drop_left]
  · have hg' : w'.heap[g]? = some C := by
      rcases hext.row with h5 | h5
      · exact h5.trans hh
      · exact h5
    have hown' : ROwn e k w' base v l := own_stays hown fun A n c hv' => by
      rw [(hv A n c hv').1, hg', hh]
    have done : ∀ v' w'', (Builtin.append_ #[t, t] o.type #[v, .slice (some ⟨g2, 0, none⟩) 1 1]).run P w' = .ok v' w'' → w''.ownsRow w'.heap.size e k v' (l.length + 1) (l.flatten ++ f) → w'.grownBy w'' none →
        Tryst2.stepV P (fun v' w'' => Ext g C w' w'' ∧ ∃ w1, Ext g C w1 w'' ∧ AppQ e k base (l ++ [f]) g C v' w1) ((execOp ρ o).run P w') := fun v' w'' hr ho2 hgr => by
      have hgb : w''.heap[g]? = w'.heap[g]? := hgr.block g (Nat.lt_of_lt_of_le hgw hext.size) (by simp)
      have hx2 : Ext g C w' w'' := ⟨hgr.os, hgr.tape, hgr.output, hgr.size, fun j hj _ => hgr.block j hj (by simp), .inl hgb⟩
      refine fin _ _ hr ⟨hx2, _, Ext.refl _ _ _, ?_, fun A n c _ _ => hgb.trans hg'⟩
      have ho3 : ROwn e k w'' w'.heap.size v' (l ++ [f]) := by
        unfold ROwn
        rw [List.flatten_append, List.length_append]
        simpa using ho2
      exact ho3.lower hbw'
    rcases hown'.2 with ⟨rfl, hl0⟩ | ⟨g0, cap, cur, rfl, hg0, hh0, hcap, hcm, hcs, htk⟩
    · have hl1 : l = [] := List.eq_nil_of_length_eq_zero hl0
      subst hl1
      obtain ⟨v', w'', hr, ho2, hgr, _⟩ := run_append_own (P := P) w' w'.heap.size t o.type e inf z k bytes E.und hi hz h2 h3 h4 E.pos (.slice none 0 0) 0 [] (World.ownsRow_nil _ _ _ _) ⟨g2, 0, none⟩ 1 1 f (by rw [Nat.one_mul]; exact hfk) hfc h1 (by unfold maxLen; omega) (by simpa using hbig) (Nat.le_refl _)
      exact done v' w'' hr (by simpa using ho2) hgr
    · obtain ⟨_, hnc⟩ := hv _ _ _ rfl
      obtain ⟨v', w'', hr, ho2, hgr⟩ := run_append_arg_grows (P := P) (w := w') t o.type e inf z k bytes E.und hi hz h2 h3 h4 E.pos ⟨g0, 0, none⟩ l.length cap l.flatten hfl (fun j u hj => by
        have hj2 : j < l.length * k := by rw [← hfl]; exact (List.getElem?_eq_some_iff.1 hj).1
        rw [Addr.add_lit, Nat.zero_add, hown'.cellAt j hj2]
        exact hj) ⟨g2, 0, none⟩ 1 1 f (by rw [Nat.one_mul]; exact hfk) hfc (by omega) (by unfold maxLen; omega) hbig
      exact done v' w'' hr ho2 hgr
end Tryst3
