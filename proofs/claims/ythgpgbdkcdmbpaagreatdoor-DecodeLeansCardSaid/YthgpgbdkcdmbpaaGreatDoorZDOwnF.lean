/- Joined texts: DOwnF. Conditions: each part names its own. -/
import Derived.Test.YthgpgbdkcdmbpaaGreatDoorZDFew
import Derived.Test.YthgpgbdkcdmbpaaGreatDoorZDSep
/- Own rows of frames, how they grow; what coded frames mean, one behind the other. Conditions: none. -/
namespace Go.Proofs.YthgpgbdkcdmbpaaGreatDoor
open Go.RowKit
set_option linter.unusedVariables false
set_option linter.unusedSimpArgs false

/-- what coded frames mean, from the i-th on -/
def framesGo (W H : Int) : List Coded → Nat → FrameD → List FrameD → Except Err (List FrameD)
  | [], _, _, acc => .ok acc
  | c :: l, i, prev, acc =>
    match frameD c prev W H with
    | .error e => .error (inE sFrames i e)
    | .ok f => framesGo W H l (i + 1) f (acc ++ [f])
def framesD (l : List Coded) (W H : Int) : Except Err (List FrameD) := if 16 < l.length then .error ⟨[], 5⟩ else framesGo W H l 0 frame0 []
theorem framesGo_bad {W H : Int} {c : Coded} {l : List Coded} {i : Nat} {prev : FrameD} {acc : List FrameD} {e : Err} (h : frameD c prev W H = .error e) : framesGo W H (c :: l) i prev acc = .error (inE sFrames i e) := by rw [framesGo, h]
theorem framesGo_more {W H : Int} {c : Coded} {l : List Coded} {i : Nat} {prev f : FrameD} {acc : List FrameD} (h : frameD c prev W H = .ok f) : framesGo W H (c :: l) i prev acc = framesGo W H l (i + 1) f (acc ++ [f]) := by rw [framesGo, h]

/-- what the elements of a row of frames are: their samples lie in blocks of which B speaks -/
def ElF (B : Nat → Prop) (w : World) (xs : List Value) (l : List FrameD) : Prop :=
  (∀ u ∈ xs, u.oneCell' = true) ∧ ∀ i f, l[i]? = some f → xs[i * 3]? = some (.int .i64 f.W) ∧ xs[i * 3 + 1]? = some (.int .i64 f.H) ∧ ∃ pv b, xs[i * 3 + 2]? = some pv ∧ Ints .i64 b (b + 1) w pv f.pix ∧ B b
def OwnF (base : Nat) (w : World) (v : Value) (l : List FrameD) : Prop := ∃ xs, w.ownsRow base 27 3 v l.length xs ∧ ElF (fun b => base ≤ b ∧ b < w.heap.size ∧ v.ownBlock ≠ some b) w xs l
section
variable {base : Nat} {w w' : World} {v v' : Value} {l m : List FrameD} {S : List Nat}
theorem OwnF.only (h : OwnF base w v l) (o : Only S w w') (hS : ∀ g ∈ S, g < base) : OwnF base w' v l := by
  obtain ⟨xs, h1, h2, h3⟩ := h
  refine ⟨xs, owns_only h1 o (fun g hg e => by have := (h1.lt g e).1; have := hS g hg; omega), h2, fun i f hf => ?_⟩
  obtain ⟨a, b, pv, c, d1, d2, d3⟩ := h3 i f hf
  exact ⟨a, b, pv, c, d1, d2.only o (fun g hg => by have := hS g hg; have := d3.1; omega), d3.1, Nat.lt_of_lt_of_le d3.2.1 o.size, d3.2.2⟩
theorem OwnF.quiet (h : OwnF base w v l) (o : Only [] w w') : OwnF base w' v l := h.only o (by simp)
theorem OwnF.nil (base : Nat) (w : World) : OwnF base w (.slice none 0 0) [] := ⟨[], World.ownsRow_nil _ _ _ _, by simp, by simp⟩
theorem OwnF.at (h : OwnF base w v l) : ∀ g, v.ownBlock = some g → base ≤ g ∧ g < w.heap.size := by obtain ⟨xs, h1, _⟩ := h; exact h1.lt
theorem OwnF.isSlice (h : OwnF base w v l) : ∃ a cap, v = .slice a l.length cap := by
  obtain ⟨xs, h1, _⟩ := h
  obtain ⟨_, a, cap, rfl, _⟩ := Cells.of_own h1
  exact ⟨a, cap, rfl⟩
theorem OwnF.lower {base' : Nat} (h : OwnF base w v l) (hb : base' ≤ base) : OwnF base' w v l := by
  obtain ⟨xs, h1, h2, h3⟩ := h
  exact ⟨xs, owns_base h1 hb, h2, fun i f hf => by obtain ⟨a, b, pv, c, d1, d2, d3⟩ := h3 i f hf; exact ⟨a, b, pv, c, d1, d2, by omega, d3.2⟩⟩
theorem OwnF.frames (h : OwnF base w v l) : FramesAt base w.heap.size w v l := by
  obtain ⟨xs, h1, _, h2⟩ := h
  have hlx := h1.1
  refine ⟨fun i j => xs.getD (i * 3 + j) undef, Rows.of_own h1 (fun i j hi hj => ?_), fun i hi => ?_⟩
  · have : i * 3 + j < xs.length := by omega
    simp [this]
  · obtain ⟨a, b, pv, c, d1, d2, d3⟩ := h2 i (l.getD i default) (by simp [hi])
    refine ⟨?_, ?_, ?_⟩
    · show xs.getD (i * 3 + 0) undef = _
      rw [Nat.add_zero, List.getD_eq_getElem?_getD, a]; rfl
    · show xs.getD (i * 3 + 1) undef = _
      rw [List.getD_eq_getElem?_getD, b]; rfl
    · show Ints .i64 base w.heap.size w (xs.getD (i * 3 + 2) undef) _
      rw [List.getD_eq_getElem?_getD, d1]
      exact d2.mono d3.1 (by omega)
end
section
variable {P : Program}
theorem wpList_append_frame {w : World} {ops : Array Oper} {rest : List Oper} {o : Oper} {a : Act} {Q : Exit → Act → World → Prop} (hgd : o.guard = none) (s x : Operand) (t : TypeId)
    (ho : o.op = .call { callee := .builtin .append, args := #[s, x], argTypes := #[t, t] })
    {z : Value} {bytes base lo2 hi2 b : Nat} {v sv pv : Value} {l : List FrameD} {f : FrameD} (E : Elem P t 27 z 3 bytes)
    (hown : OwnF base w v l) (hv : a.eval s = v) (hs : Cells 3 lo2 hi2 w sv 1 [.int .i64 f.W, .int .i64 f.H, pv]) (hp : Ints .i64 b (b + 1) w pv f.pix) (hb : base ≤ b ∧ b < w.heap.size ∧ v.ownBlock ≠ some b) (hx : a.eval x = sv)
    (hbytes : (l.length + 1) * bytes ≤ 140737488355328) (hbase : base ≤ w.heap.size)
    (h : ∀ v' w', OwnF base w' v' (l ++ [f]) → Acc v w v' w' → wpList P ops Q rest (a.put o.dst v') w') : wpList P ops Q (o :: rest) a w := by
  have hle : l.length + 1 ≤ 140737488355328 := Nat.le_trans (Nat.le_mul_of_pos_right _ E.bp) hbytes
  obtain ⟨xs, h1, h2, h3⟩ := hown
  have hpv : pv.oneCell' = true := by obtain ⟨a, cap, rfl, _⟩ := hp.open; rfl
  have hone : ∀ u ∈ [Value.int .i64 f.W, .int .i64 f.H, pv], u.oneCell' = true := by
    intro u hu
    simp only [List.mem_cons, List.not_mem_nil, or_false] at hu
    rcases hu with rfl | rfl | rfl
    · rfl
    · rfl
    · exact hpv
  refine wpList_append_cells hgd s x t ho E h1 hv hs hx hone (by simp only [maxLen]; omega) hbytes hbase fun v' w' h2' h3' h4 => ?_
  have ha : Acc v w v' w' := ⟨h3', h4.imp id fun e g hg => by rw [e] at hg; injection hg with hg; omega⟩
  have hsz := h3'.size
  have hblk : ∀ c, base ≤ c ∧ c < w.heap.size ∧ v.ownBlock ≠ some c → base ≤ c ∧ c < w'.heap.size ∧ v'.ownBlock ≠ some c := fun c hc => ⟨hc.1, by omega, fun e => by
    rcases h4 with e' | e'
    · exact hc.2.2 (e'.symm.trans e)
    · rw [e'] at e; injection e with e; omega⟩
  refine h v' w' ⟨xs ++ [.int .i64 f.W, .int .i64 f.H, pv], by rw [List.length_append]; exact h2', fun u hu => (List.mem_append.1 hu).elim (h2 u) (hone u), fun i g hg => ?_⟩ ha
  have hlx := h1.1
  by_cases hi : i < l.length
  · rw [List.getElem?_append_left hi] at hg
    obtain ⟨e0, e1, q, c, d1, d2, d3⟩ := h3 i g hg
    exact ⟨by rw [List.getElem?_append_left (by omega)]; exact e0, by rw [List.getElem?_append_left (by omega)]; exact e1, q, c, by rw [List.getElem?_append_left (by omega)]; exact d1,
      d2.only h3' (fun x hx => by have hne : x ≠ c := fun e => d3.2.2 (by rw [← e]; simpa using hx); omega), hblk c d3⟩
  · rw [List.getElem?_append_right (by omega)] at hg
    have hlt := (List.getElem?_eq_some_iff.1 hg).1
    have hi0 : i = l.length := by simp at hlt; omega
    subst hi0
    simp at hg
    subst hg
    refine ⟨?_, ?_, pv, b, ?_, hp.only h3' (fun x hx => by have hne : x ≠ b := fun e => hb.2.2 (by rw [← e]; simpa using hx); omega), hblk b hb⟩
    · rw [List.getElem?_append_right (by omega), show l.length * 3 - xs.length = 0 by omega]; rfl
    · rw [List.getElem?_append_right (by omega), show l.length * 3 + 1 - xs.length = 1 by omega]; rfl
    · rw [List.getElem?_append_right (by omega), show l.length * 3 + 2 - xs.length = 2 by omega]; rfl
end
theorem EFr : Elem Tryz.prog 31 27 (.agg #[.int .i64 0, .int .i64 0, .slice none 0 0]) 3 40 := Elem.mk' Tryz.underlying31 (by kernel_rfl) rfl (by omega) (by omega)
#print axioms wpList_append_frame
end Go.Proofs.YthgpgbdkcdmbpaaGreatDoor
