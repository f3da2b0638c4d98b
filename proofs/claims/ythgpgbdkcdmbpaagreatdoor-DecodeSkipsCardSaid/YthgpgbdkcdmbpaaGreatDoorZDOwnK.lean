/- Joined texts: DOwnK. Conditions: each part names its own. -/
import Derived.Test.YthgpgbdkcdmbpaaGreatDoorZDOwnF
/- Own rows of coded frames whose data lie in elder blocks, and how they grow. Conditions: none. -/
namespace Go.Proofs.YthgpgbdkcdmbpaaGreatDoor
open Go.RowKit
set_option linter.unusedVariables false
set_option linter.unusedSimpArgs false

/-- what the elements of a row of coded frames are: their data lie from lo on, below hi -/
def ElKD (lo hi : Nat) (w : World) (xs : List Value) (l : List Coded) : Prop :=
  (∀ u ∈ xs, u.oneCell' = true) ∧ ∀ i c, l[i]? = some c → xs[i * 2]? = some (.int .i64 c.kind) ∧ InK .i64 c.kind ∧ ∃ dv, xs[i * 2 + 1]? = some dv ∧ Ints .u8 lo hi w dv c.data
def OwnKD (lo hi base : Nat) (w : World) (v : Value) (l : List Coded) : Prop := hi ≤ base ∧ ∃ xs, w.ownsRow base 24 2 v l.length xs ∧ ElKD lo hi w xs l
section
variable {lo hi base : Nat} {w w' : World} {v v' : Value} {l m : List Coded} {S : List Nat}
theorem ElKD.only {xs : List Value} (h : ElKD lo hi w xs l) (o : Only S w w') (hS : ∀ g ∈ S, hi ≤ g) : ElKD lo hi w' xs l :=
  ⟨h.1, fun i c hc => by obtain ⟨a, b, dv, d1, d2⟩ := h.2 i c hc; exact ⟨a, b, dv, d1, d2.only o (fun g hg => .inr (hS g hg))⟩⟩
theorem OwnKD.only (h : OwnKD lo hi base w v l) (o : Only S w w') (hS : ∀ g ∈ S, hi ≤ g ∧ v.ownBlock ≠ some g) : OwnKD lo hi base w' v l := by
  obtain ⟨h0, xs, h1, h2⟩ := h
  exact ⟨h0, xs, owns_only h1 o (fun g hg => (hS g hg).2), h2.only o (fun g hg => (hS g hg).1)⟩
theorem OwnKD.quiet (h : OwnKD lo hi base w v l) (o : Only [] w w') : OwnKD lo hi base w' v l := h.only o (by simp)
theorem OwnKD.nil (h : hi ≤ base) (w : World) : OwnKD lo hi base w (.slice none 0 0) [] := ⟨h, [], World.ownsRow_nil _ _ _ _, by simp, by simp⟩
theorem OwnKD.at (h : OwnKD lo hi base w v l) : ∀ g, v.ownBlock = some g → base ≤ g ∧ g < w.heap.size := by obtain ⟨_, xs, h1, _⟩ := h; exact h1.lt
theorem OwnKD.isSlice (h : OwnKD lo hi base w v l) : ∃ a cap, v = .slice a l.length cap := by
  obtain ⟨_, xs, h1, _⟩ := h
  obtain ⟨_, a, cap, rfl, _⟩ := Cells.of_own h1
  exact ⟨a, cap, rfl⟩
theorem OwnKD.lower {base' : Nat} (h : OwnKD lo hi base w v l) (hb : base' ≤ base) (hh : hi ≤ base') : OwnKD lo hi base' w v l := by
  obtain ⟨_, xs, h1, h2⟩ := h
  exact ⟨hh, xs, owns_base h1 hb, h2⟩
theorem OwnKD.codeds (h : OwnKD lo hi base w v l) (hl : lo ≤ hi) (hb : base ≤ w.heap.size) : CodedsAt lo w.heap.size w v l := by
  obtain ⟨h0, xs, h1, _, h2⟩ := h
  have hlx := h1.1
  refine ⟨fun i j => xs.getD (i * 2 + j) undef, (Rows.of_own h1 (fun i j hi hj => ?_)).mono (by omega) (Nat.le_refl _), fun i hi => ?_⟩
  · have : i * 2 + j < xs.length := by omega
    simp [this]
  · obtain ⟨a, b, dv, c, d⟩ := h2 i (l.getD i default) (by simp [hi])
    refine ⟨?_, b, ?_⟩
    · show xs.getD (i * 2 + 0) undef = _
      rw [Nat.add_zero, List.getD_eq_getElem?_getD, a]; rfl
    · show Ints .u8 lo w.heap.size w (xs.getD (i * 2 + 1) undef) _
      rw [List.getD_eq_getElem?_getD, c]
      exact d.mono (Nat.le_refl _) (by omega)
theorem ElKD.one {k : Int} {dv : Value} {data : List Int} (hk : InK .i64 k) (hd : Ints .u8 lo hi w dv data) : ElKD lo hi w [.int .i64 k, dv] [⟨k, data⟩] := by
  have hdv : dv.oneCell' = true := by obtain ⟨a, cap, rfl, _⟩ := hd.open; rfl
  refine ⟨?_, fun i c hc => ?_⟩
  · intro u hu
    rcases List.mem_cons.1 hu with rfl | hu
    · rfl
    · rw [List.mem_singleton.1 hu]; exact hdv
  · have hlt := (List.getElem?_eq_some_iff.1 hc).1
    obtain rfl : i = 0 := by simp at hlt; omega
    simp at hc; subst hc
    exact ⟨rfl, hk, dv, rfl, hd⟩
theorem ElKD.append {xs ys : List Value} (hl : xs.length = l.length * 2) (h1 : ElKD lo hi w xs l) (h2 : ElKD lo hi w ys m) : ElKD lo hi w (xs ++ ys) (l ++ m) := by
  refine ⟨fun u hu => (List.mem_append.1 hu).elim (h1.1 u) (h2.1 u), fun i c hc => ?_⟩
  by_cases hi : i < l.length
  · rw [List.getElem?_append_left hi] at hc
    obtain ⟨a, b, dv, d1, d2⟩ := h1.2 i c hc
    exact ⟨by rw [List.getElem?_append_left (by omega)]; exact a, b, dv, by rw [List.getElem?_append_left (by omega)]; exact d1, d2⟩
  · rw [List.getElem?_append_right (by omega)] at hc
    obtain ⟨a, b, dv, d1, d2⟩ := h2.2 _ c hc
    have e1 : (xs ++ ys)[i * 2]? = ys[(i - l.length) * 2]? := by rw [List.getElem?_append_right (by omega)]; congr 1; omega
    have e2 : (xs ++ ys)[i * 2 + 1]? = ys[(i - l.length) * 2 + 1]? := by rw [List.getElem?_append_right (by omega)]; congr 1; omega
    exact ⟨by rw [e1]; exact a, b, dv, by rw [e2]; exact d1, d2⟩
end
section
variable {P : Program}
theorem wpList_append_ckD {w : World} {ops : Array Oper} {rest : List Oper} {o : Oper} {a : Act} {Q : Exit → Act → World → Prop} (hgd : o.guard = none) (s x : Operand) (t : TypeId)
    (ho : o.op = .call { callee := .builtin .append, args := #[s, x], argTypes := #[t, t] })
    {z : Value} {bytes base lo hi lo2 hi2 : Nat} {v sv : Value} {l m : List Coded} {ys : List Value} (E : Elem P t 24 z 2 bytes)
    (hown : OwnKD lo hi base w v l) (hv : a.eval s = v) (hs : Cells 2 lo2 hi2 w sv m.length ys) (hel : ElKD lo hi w ys m) (hx : a.eval x = sv)
    (hbytes : (l.length + m.length) * bytes ≤ 140737488355328) (hbase : base ≤ w.heap.size)
    (h : ∀ v' w', OwnKD lo hi base w' v' (l ++ m) → Acc v w v' w' → wpList P ops Q rest (a.put o.dst v') w') : wpList P ops Q (o :: rest) a w := by
  have hle : l.length + m.length ≤ 140737488355328 := Nat.le_trans (Nat.le_mul_of_pos_right _ E.bp) hbytes
  obtain ⟨h0, xs, h1, h2⟩ := hown
  refine wpList_append_cells hgd s x t ho E h1 hv hs hx hel.1 (by simp only [maxLen]; omega) hbytes hbase fun v' w' h2' h3' h4 => ?_
  have ha : Acc v w v' w' := ⟨h3', h4.imp id fun e g hg => by rw [e] at hg; injection hg with hg; omega⟩
  refine h v' w' ⟨h0, xs ++ ys, by rw [List.length_append]; exact h2', (h2.append h1.1 hel).only h3' (fun g hg => ?_)⟩ ha
  have := (h1.lt g (by simpa using hg)).1
  omega
end
theorem ECd : Elem Tryz.prog 30 24 (.agg #[.int .i64 0, .slice none 0 0]) 2 32 := Elem.mk' Tryz.underlying30 (by kernel_rfl) rfl (by omega) (by omega)
end Go.Proofs.YthgpgbdkcdmbpaaGreatDoor
