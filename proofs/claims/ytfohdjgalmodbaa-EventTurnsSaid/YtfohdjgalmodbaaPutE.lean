/- An append in place, as one step of a region that draws its order. -/
import Derived.Test.YtfohdjgalmodbaaDrawE
import Derived.Test.YtfohdjgalmodbaaPutB
set_option linter.unusedVariables false
set_option linter.unusedSimpArgs false
namespace Tryst3
open Go Go.RowKit Tryst
theorem setRow_at (w : World) (g : Nat) (cs cur : Array Value) (e : TypeId) (h : w.heap[g]? = some (.cells cur e (0, 0))) : (w.setRow g cs).heap[g]? = some (.cells cs e (0, 0)) := by
  have hlt : g < w.heap.size := (Array.getElem?_eq_some_iff.1 h).1
  have := (Array.getElem?_eq_some_iff.1 h).2
  simp [World.setRow, Array.getElem?_modify, h]
theorem setRow_other (w : World) (g k : Nat) (cs : Array Value) (h : k ≠ g) : (w.setRow g cs).heap[k]? = w.heap[k]? := by
  simp only [World.setRow, Array.getElem?_modify]
  rw [if_neg (by omega)]
theorem setRow_ext (w : World) (g : Nat) (cs cur : Array Value) (e : TypeId) (h : w.heap[g]? = some (.cells cur e (0, 0))) : Ext g (.cells cs e (0, 0)) w (w.setRow g cs) :=
  ⟨rfl, rfl, rfl, by simp [World.setRow], fun k _ hk => setRow_other w g k cs hk, .inr (setRow_at w g cs cur e h)⟩
theorem step_room {P : Program} {ρ : Operand → Value} {o : Oper} {w : World} {K : Value → World → Prop} {t e : TypeId} {bytes : Nat} (E : SliceOf P t e 4 bytes) (s x : Operand)
    (ho : o.op = .call { callee := .builtin .append, args := #[s, x], argTypes := #[t, t] })
    (g cap : Nat) (cur : Array Value) (hg : w.heap[g]? = some (.cells cur e (0, 0))) (hs : ρ s = .slice (some ⟨g, 0, none⟩) 0 cap)
    (r : List FB) (m b i c : Nat) (hm : r.length = m) (hx : ρ x = .slice (some ⟨b, i, none⟩) m c) (hf : ∀ (j : Nat) u, (r.flatMap FB.cells)[j]? = some u → w.cell? ((⟨b, i, none⟩ : Addr).add j) = some u)
    (hroom : m ≤ cap) (hfit : m * 4 ≤ cur.size)
    (hK : K (.slice (some ⟨g, 0, none⟩) m cap) (w.setRow g (r.flatMap FB.cells ++ cur.toList.drop (m * 4)).toArray)) : Tryst2.stepV P K ((execOp ρ o).run P w) := by
  subst hm
  obtain ⟨inf, z, hi, hz, h2, h3, h4⟩ := E.info
  have h1 : ∀ u ∈ r.flatMap FB.cells, u.oneCell' = true := by
    intro u hu
    obtain ⟨f, _, hf⟩ := List.mem_flatMap.1 hu
    simp [FB.cells] at hf
    rcases hf with rfl | rfl | rfl | rfl <;> rfl
  have hr := run_append_room (P := P) w t o.type e inf E.und hi g 0 cap cur hg ⟨b, i, none⟩ r.length c (r.flatMap FB.cells) (by rw [h2]; exact flat_len r) hf h1 (by omega) (by rw [flat_len]; omega)
  unfold execOp
  simp only [ho, resolve, invoke, builtin, Sem.run_bind, Sem.run_pure, Result.andThen_ok, List.map_toArray, List.map_cons, List.map_nil, hs, hx, hr]
  rw [Tryst2.stepV_value]
  simp only [Nat.zero_mul, List.take_zero, List.nil_append, Nat.zero_add, flat_len]
  exact hK
/-- what the row holds behind the append -/
def rowC (e : TypeId) (r : List FB) (M : Array Value) : Obj := .cells (r.flatMap FB.cells ++ M.toList.drop (r.length * 4)).toArray e (0, 0)
def App48 (e : TypeId) (g cap : Nat) (r : List FB) (M : Array Value) (v : Value) (w : World) : Prop := v = .slice (some ⟨g, 0, none⟩) r.length cap ∧ w.heap[g]? = some (rowC e r M)
theorem step48 {P : Program} {ρ : Operand → Value} {o : Oper} {w w' : World} {t e : TypeId} {bytes : Nat} (E : SliceOf P t e 4 bytes) (s x : Operand)
    (ho : o.op = .call { callee := .builtin .append, args := #[s, x], argTypes := #[t, t] })
    (g cap : Nat) (M : Array Value) (r : List FB) (hM : M.size = cap * 4) (hg : w.heap[g]? = some (.cells M e (0, 0))) (hext : Ext g (rowC e r M) w w')
    (hs : ρ s = .slice (some ⟨g, 0, none⟩) 0 cap)
    (m b i c : Nat) (hm : r.length = m) (hx : ρ x = .slice (some ⟨b, i, none⟩) m c) (hf : ∀ (j : Nat) u, (r.flatMap FB.cells)[j]? = some u → w'.cell? ((⟨b, i, none⟩ : Addr).add j) = some u) (hroom : m ≤ cap) :
    Tryst2.stepV P (fun v w'' => Ext g (rowC e r M) w' w'' ∧ ∃ w0, Ext g (rowC e r M) w0 w'' ∧ App48 e g cap r M v w0) ((execOp ρ o).run P w') := by
  subst hm
  rcases hext.row with h | h
  · rw [hg] at h
    refine step_room E s x ho g cap M h hs r r.length b i c rfl hx hf hroom (by omega) ?_
    exact ⟨setRow_ext w' g _ M e h, _, Ext.refl _ _ _, rfl, setRow_at w' g _ M e h⟩
  · have h' := h
    unfold rowC at h
    refine step_room E s x ho g cap _ h hs r r.length b i c rfl hx hf hroom (by rw [List.size_toArray, List.length_append, flat_len]; omega) ?_
    have e1 : (r.flatMap FB.cells ++ (r.flatMap FB.cells ++ M.toList.drop (r.length * 4)).toArray.toList.drop (r.length * 4)).toArray = (r.flatMap FB.cells ++ M.toList.drop (r.length * 4)).toArray := by
      rw [List.toList_toArray, ← flat_len r, List.drop_left]
    rw [e1]
    exact ⟨setRow_ext w' g _ _ e h, _, Ext.refl _ _ _, rfl, setRow_at w' g _ _ e h⟩
theorem App48.at {e : TypeId} {g cap : Nat} {r : List FB} {M : Array Value} {v : Value} {w' : World} (h : ∃ w0, Ext g (rowC e r M) w0 w' ∧ App48 e g cap r M v w0) :
    v = .slice (some ⟨g, 0, none⟩) r.length cap ∧ w'.heap[g]? = some (rowC e r M) := by
  obtain ⟨w0, h1, h2, h3⟩ := h
  refine ⟨h2, ?_⟩
  rcases h1.row with k | k
  · rw [k]; exact h3
  · exact k
theorem own48 {e : TypeId} {g cap base : Nat} {r : List FB} {M : Array Value} {w : World} (h : w.heap[g]? = some (rowC e r M)) (hM : M.size = cap * 4) (hr : r.length ≤ cap) (hb : base ≤ g) (hcap : cap ≤ maxLen) :
    FOwn e w base (.slice (some ⟨g, 0, none⟩) r.length cap) r := by
  refine ⟨flat_len r, .inr ⟨g, cap, _, rfl, hb, h, hr, hcap, ?_, ?_⟩⟩
  · rw [List.size_toArray, List.length_append, flat_len, List.length_drop, Array.length_toList (xs := M)]; omega
  · rw [List.toList_toArray, ← flat_len r, List.take_left]
def OneG (g : Nat) (f : FB) (v : Value) (w : World) : Prop := ∃ g2, v = .slice (some ⟨g2, 0, none⟩) 1 1 ∧ g2 ≠ g ∧ g2 < w.heap.size ∧ FAt w g2 0 f
theorem oneG (g : Nat) (C : Obj) (f : FB) (T : TypeId) (w : World) (hg : g < w.heap.size) : Ext g C w (w.alloc (.cells #[.string f.name, .bool f.num, .int .i64 f.n, .string f.s] T)) ∧ ∃ w0, Ext g C w0 (w.alloc (.cells #[.string f.name, .bool f.num, .int .i64 f.n, .string f.s] T)) ∧ OneG g f (.slice (some ⟨w.heap.size, 0, none⟩) 1 1) w0 :=
  ⟨Ext.alloc g C w hg _, _, Ext.refl _ _ _, _, rfl, by omega, by simp, by constructor <;> simp [go_sem]⟩
theorem OneG.at {g : Nat} {C : Obj} {f : FB} {v : Value} {w' : World} (h : ∃ w0, Ext g C w0 w' ∧ OneG g f v w0) : ∃ g2, v = .slice (some ⟨g2, 0, none⟩) 1 1 ∧ g2 < w'.heap.size ∧ FAt w' g2 0 f := by
  obtain ⟨w0, hx, g2, h1, h2, h3, h4⟩ := h
  obtain ⟨c0, c1, c2, c3⟩ := h4
  exact ⟨g2, h1, Nat.lt_of_lt_of_le h3 hx.size, by rw [hx.cell h3 h2]; exact c0, by rw [hx.cell h3 h2]; exact c1, by rw [hx.cell h3 h2]; exact c2, by rw [hx.cell h3 h2]; exact c3⟩
theorem Ext.ev {g : Nat} {C : Obj} {x y : World} (h : Ext g C x y) {b : Nat} {t p : ByteArray} {q : Int} {v : Value} (e : EAt x b t p q v) (hb : b < x.heap.size) (hn : b ≠ g) : EAt y b t p q v := by
  obtain ⟨h1, h2, h3, h4, g1, g2, g3, g4⟩ := e
  exact ⟨by rw [h.cell hb hn]; exact h1, by rw [h.cell hb hn]; exact h2, by rw [h.cell hb hn]; exact h3, by rw [h.cell hb hn]; exact h4, by rw [h.frozen hb hn]; exact g1, by rw [h.frozen hb hn]; exact g2, by rw [h.frozen hb hn]; exact g3, by rw [h.frozen hb hn]; exact g4⟩
theorem Ext.fat {g : Nat} {C : Obj} {x y : World} (h : Ext g C x y) {b o : Nat} {f : FB} (e : FAt x b o f) (hb : b < x.heap.size) (hn : b ≠ g) : FAt y b o f := by
  obtain ⟨h1, h2, h3, h4⟩ := e
  exact ⟨by rw [h.cell hb hn]; exact h1, by rw [h.cell hb hn]; exact h2, by rw [h.cell hb hn]; exact h3, by rw [h.cell hb hn]; exact h4⟩
theorem Ext.flds {g : Nat} {C : Obj} {x y : World} (h : Ext g C x y) {b o : Nat} {l : List FB} (e : Flds x (some ⟨b, o, none⟩) l) (hn : b ≠ g) : Flds y (some ⟨b, o, none⟩) l := by
  intro i hi
  obtain ⟨hb, hf⟩ := e.at hi
  exact ⟨b, o, rfl, Nat.lt_of_lt_of_le hb h.size, h.fat hf hb hn⟩
theorem Ext.flds0 {g : Nat} {C : Obj} {x y : World} (h : Ext g C x y) {b o : Nat} {l : List FB} (e : Flds x (some ⟨b, o, none⟩) l) (hn : 0 < l.length → b ≠ g) : Flds y (some ⟨b, o, none⟩) l := by
  intro i hi
  obtain ⟨hb, hf⟩ := e.at hi
  exact ⟨b, o, rfl, Nat.lt_of_lt_of_le hb h.size, h.fat hf hb (hn (by omega))⟩
theorem own_made {e : TypeId} {w : World} {g cap : Nat} {M : Array Value} (h : w.heap[g]? = some (.cells M e (0, 0))) (hM : M.size = cap * 4) (hcap : cap ≤ maxLen) : FOwn e w g (.slice (some ⟨g, 0, none⟩) 0 cap) [] :=
  ⟨rfl, .inr ⟨g, cap, M, rfl, Nat.le_refl _, h, Nat.zero_le _, hcap, hM, rfl⟩⟩
theorem flds_take {w : World} {b o : Nat} {l : List FB} (h : Flds w (some ⟨b, o, none⟩) l) (k : Nat) : Flds w (some ⟨b, o, none⟩) (l.take k) := by
  intro i hi
  have hi' : i < l.length := by rw [List.length_take] at hi; omega
  obtain ⟨hb, hf⟩ := h.at hi'
  exact ⟨b, o, rfl, hb, by rw [List.getElem_take]; exact hf⟩
theorem flds_drop {w : World} {b o : Nat} {l : List FB} (h : Flds w (some ⟨b, o, none⟩) l) (k : Nat) : Flds w (some ⟨b, o + k * 4, none⟩) (l.drop k) := by
  intro i hi
  have hi' : k + i < l.length := by rw [List.length_drop] at hi; omega
  obtain ⟨hb, hf⟩ := h.at hi'
  exact ⟨b, o + k * 4, rfl, hb, by rw [List.getElem_drop, show o + k * 4 + i * 4 = o + (k + i) * 4 by omega]; exact hf⟩
end Tryst3
