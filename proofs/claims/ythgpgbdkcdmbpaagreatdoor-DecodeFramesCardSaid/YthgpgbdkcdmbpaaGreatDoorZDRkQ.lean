/- Squares told by a coder of the document's that reads: kinref20.Code. Conditions: the coder stands so. -/
import Derived.Test.YthgpgbdkcdmbpaaGreatDoorZDRkS
import Derived.Test.YthgpgbdkcdmbpaaGreatDoorR4
import Derived.Test.YthgpgbdkcdmbpaaGreatDoorZDCode
import Derived.Test.YthgpgbdkcdmbpaaGreatDoorZDSqH
namespace Go.Proofs.YthgpgbdkcdmbpaaGreatDoor
open Go.RowKit
set_option linter.unusedVariables false
set_option linter.unusedSimpArgs false
set_option maxRecDepth 100000
set_option maxHeartbeats 16000000
theorem qDRkQt0 {p : Prop} (h : p := by intro wz hSw; rw [run_load_rowQ (.tmp 10) 70 (hr := hSw.1) (hu := Tryz.underlying70) (hi := HInf.out)] <;> rfl) : p := h
theorem qDRkQt1 {p : Prop} (h : p := by intro wz hSw; obtain ⟨e0, e1, -⟩ := row2 hSw.2; go_simp; try with_reducible rfl) : p := h
section
variable {P : Program}
theorem run_load_rowQ {w : World} {o : Oper} {ev : Operand → Value} (x : Operand) (t : TypeId) (ho : o.op = .load t x) {g : Nat} {c : Array Value} {ty : TypeId} {fr : Nat × Nat} {d : TypeDesc} (hx : ev x = .pointer (some ⟨g, 0, none⟩)) (hr : w.heap[g]? = some (.cells c ty fr)) (hu : P.underlying t = some d)
  (hd : (match d with | .struct _ | .array _ _ => true | _ => false) = true) (hi : (P.info? t).map (·.size) = some c.size) : (execOp ev o).run P w = .ok (Next.value (.agg c)) w := by
 unfold execOp
 simp only [ho, hx, Instr.loadAt, Instr.sureAddr, Sem.run_bind, Sem.run_pure, Result.andThen_ok, run_loadVar_row w g ty t c fr d hr hu hd hi]
/-- the store of a whole row, the world behind it left open -/
theorem wp_store_rowQ {w : World} {o : Oper} {a : Act} {K : Act → World → Prop} {Q : Exit → Act → World → Prop} (x y : Operand) (t : TypeId) (ho : o.op = .store t x y)
  {g : Nat} {c c' : Array Value} {ty : TypeId} (hx : a.eval x = .pointer (some ⟨g, 0, none⟩)) (hy : a.eval y = .agg c') (hr : w.heap[g]? = some (.cells c ty (0, 0))) (hi : (P.info? t).map (·.size) = some c'.size) (hs : c.size = c'.size) (h1 : c'.all (·.oneCell') = true)
  (h : ∀ w', Only [g] w w' → w'.heap[g]? = some (.cells c' ty (0, 0)) → K (a.put o.dst undef) w') : o.wp P a w K Q :=
 wp_store_row x y t ho hx hy hr hi hs h1 (h _ (Only.setRow (Only.refl _ _) (fun _ => by simp) _) (setRow_heap _ _ _ _ _ _ hr))
end
/-- the document's square in its block -/
abbrev KSqRow (O : Nat) (w : World) (k mo : Int) (ms : List Int) (vx vy : Int) (lv : Value) (vs : List Value) : Prop :=
 w.heap[O]? = some (.cells (sqL k mo ms vx vy lv vs).toArray 70 (0, 0))
section
variable {O : Nat} {w : World} {k mo : Int} {ms : List Int} {vx vy : Int} {lv : Value} {vs : List Value}
theorem KSqRow.set (h : KSqRow O w k mo ms vx vy lv vs) {i : Nat} {x : Value} {k' mo' : Int} {ms' : List Int} {vx' vy' : Int} {lv' : Value} {vs' : List Value} (e : (sqL k mo ms vx vy lv vs).toArray.setIfInBounds i x = (sqL k' mo' ms' vx' vy' lv' vs').toArray) :
  KSqRow O (w.setCell ⟨O, i, none⟩ x) k' mo' ms' vx' vy' lv' vs' ∧ Only [O] w (w.setCell ⟨O, i, none⟩ x) := by
 have hr := heap_setCell_same w O i _ _ x h
 rw [e] at hr
 exact ⟨hr, (Only.refl _ _).setCell (by simp) _⟩
theorem KSqRow.cell (h : KSqRow O w k mo ms vx vy lv vs) {i : Nat} {x : Value} (e : (sqL k mo ms vx vy lv vs).toArray[i]? = some x) : w.cell? ⟨O, i, none⟩ = some x := by
 rw [cell_of_row _ _ _ _ _ _ h, e]
theorem ksq_info (hm : ms.length = 4) (hv : vs.length = 4) : (Tryz.prog.info? 70).map (·.size) = some (sqL k mo ms vx vy lv vs).toArray.size := by
 rw [List.size_toArray, sqL_size hm hv]; kernel_rfl
end
/-- what is asked of a coder that reads -/
def askZ : AskD := ⟨0, 0, [0, 0, 0, 0], 0, 0, List.replicate 64 0, [List.replicate 16 0, List.replicate 16 0, List.replicate 16 0, List.replicate 16 0]⟩
/-- what kinref20.Code hands back -/
def SquareG {R : Nat} (X : KC R) (F : List Nat) (w : World) (r : Except Err SqD × X.σ) (e : Ending) (w' : World) : Prop :=
 ∃ F', X.At F' w' r.2 ∧ Went F w F' w' ∧ match r.1 with
  | .ok s => ∃ lv vs, e = .returned (.tuple #[.agg (sqL s.kind s.mode s.modes s.vx s.vy lv vs).toArray, .agg #[.int .i64 0, .slice none 0 0]]) ∧ s.modes.length = 4 ∧ SqIn w.heap.size w'.heap.size w' lv vs s.large s.small
  | .error er => ∃ sv, e = .returned (.tuple #[.agg (sqL 0 0 [0, 0, 0, 0] 0 0 nilS [nilS, nilS, nilS, nilS]).toArray, .agg #[.int .i64 er.code, sv]]) ∧ Cells 2 w.heap.size w'.heap.size w' sv er.path.length (flat er.path)
/-- how the four parts stand behind the first k of them: all well so far, or an error -/
def QK3 {R : Nat} (X : KC R) (n O : Nat) (s1 : X.σ) (w : World) (k : Nat) (sc : X.σ) (mq : List Int) (ls : List (List Int)) (ec : Int) (ev : Value) : Prop :=
 (ec = 0 ∧ ev = .slice none 0 0 ∧ ls.length = k ∧ X.Ok (n + 6 + 2000 * k) sc ∧ smallGoG X.C askZ.modes askZ.small (4 - k) (mq.take k) ls sc = smallGoG X.C askZ.modes askZ.small 4 [] [] s1)
 ∨ ∃ (er : Err) (a2 : Option Addr) (cap2 la ha : Nat), ec = er.code ∧ ev = .slice a2 er.path.length cap2 ∧ er.code ≠ 0 ∧ er.path.length = 1 ∧ O + 1 < la ∧ Cells 2 la ha w (.slice a2 er.path.length cap2) er.path.length (flat er.path) ∧ smallGoG X.C askZ.modes askZ.small 4 [] [] s1 = (.error er, sc)
section
variable {R : Nat} {X : KC R} {n O : Nat} {s1 : X.σ} {w : World} {k : Nat} {sc : X.σ} {mq : List Int} {ls : List (List Int)}
theorem QK3.good (h1 : ls.length = k) (h2 : X.Ok (n + 6 + 2000 * k) sc) (h3 : smallGoG X.C askZ.modes askZ.small (4 - k) (mq.take k) ls sc = smallGoG X.C askZ.modes askZ.small 4 [] [] s1) : QK3 X n O s1 w k sc mq ls 0 (.slice none 0 0) := Or.inl ⟨rfl, rfl, h1, h2, h3⟩
theorem QK3.bad {er : Err} {a2 : Option Addr} {cap2 la ha : Nat} (h1 : er.code ≠ 0) (h2 : er.path.length = 1) (h3 : O + 1 < la) (h4 : Cells 2 la ha w (.slice a2 er.path.length cap2) er.path.length (flat er.path)) (h5 : smallGoG X.C askZ.modes askZ.small 4 [] [] s1 = (.error er, sc)) : QK3 X n O s1 w k sc mq ls er.code (.slice a2 er.path.length cap2) := Or.inr ⟨er, a2, cap2, la, ha, rfl, rfl, h1, h2, h3, h4, h5⟩
theorem QSm.unset {F : List Nat} {vq : List Value} (h : QSm O F w vq ls) (hk : k < 4) (hl : ls.length = k) : QSm O F w (vq.set k (.slice none 0 0)) ls := by
 refine ⟨by rw [List.length_set]; exact h.len, fun j hj => ?_⟩
 by_cases e : j = k
 ·subst e
  exact .inl ⟨by rw [List.getD_eq_getElem?_getD, List.getElem?_set_self (by rw [h.len]; exact hk)]; rfl, by rw [List.getD_eq_getElem?_getD, List.getElem?_eq_none (by omega)]; rfl⟩
 ·have e1 : (vq.set k (.slice none 0 0)).getD j nilS = vq.getD j nilS := by rw [List.getD_eq_getElem?_getD, List.getElem?_set_ne (Ne.symm e), ← List.getD_eq_getElem?_getD]
  rw [e1]
  exact h.at_ j hj
end
theorem kindKG_le {R : Nat} (X : KC R) (key : Bool) (k : Int) {n : Nat} {s : X.σ} (h : X.Ok n s) : X.Ok (n + 6) (kindKG X.C key k s).2 ∧ (kindKG X.C key k s).1 ≤ 3 := by
 unfold kindKG
 cases key with
 | true => rw [if_pos rfl]; exact ⟨X.ok_le (X.ok_flat _ h) (by omega), by simp only; split <;> omega⟩
 | false =>
  rw [if_neg (by simp)]
  obtain ⟨a, b, c⟩ := onesG_ok X (f := fun n => min n 63) (fun i => by omega) k 3 0 h
  exact ⟨a, by unfold kindG; omega⟩
theorem coefGoG_err {σ : Type} {C : CodO σ} {base last : Nat} {l : List Int} : ∀ (o : List Nat) (i : Nat) (out : List Int) (m : σ) (e : Err), (coefGoG C base last l o i out m).1 = .error e → e.code = 3 ∧ e.path.length = 1 := by
 intro o
 induction o with
 | nil => intro i out m e h; cases h
 | cons a rest ih =>
  intro i out m e h
  rw [coefGoG] at h
  repeat' split at h
  all_goals first
   | exact ih _ _ _ _ h
   | (injection h with h; subst h; exact ⟨rfl, rfl⟩)
   | cases h
theorem coefG_err {σ : Type} {C : CodO σ} {side : Nat} {l : List Int} {m : σ} {e : Err} (h : (coefG C side l m).1 = .error e) : e.code = 3 ∧ e.path.length = 1 := by
 unfold coefG at h
 split at h
 ·exact coefGoG_err _ _ _ _ _ h
 ·cases h
theorem modeG_le {R : Nat} (X : KC R) (v : Int) {n : Nat} {s : X.σ} (h : X.Ok n s) : X.Ok (n + 4) (modeG X.C v s).2 ∧ (modeG X.C v s).1 ≤ 3 := by
 have a := X.ok_bit 3 (decide (1 < min (max v 0) 3)) h (by omega)
 unfold modeG modeG2
 split
 ·exact ⟨X.ok_le (X.ok_bit 5 _ a (by omega)) (by omega), by simp only; split <;> omega⟩
 ·exact ⟨X.ok_le (X.ok_bit 4 _ a (by omega)) (by omega), by simp only; split <;> omega⟩
theorem partG_ok {R : Nat} (X : KC R) (v : Int) {n : Nat} {s : X.σ} (h : X.Ok n s) : X.Ok (n + 32) (partG X.C v s).2 := by
 have a := X.ok_bit 6 (decide (min (max v (-15)) 15 ≠ 0)) h (by omega)
 unfold partG partG2
 split
 ·unfold partG3
  exact X.ok_le (onesG_ok X (f := fun n => 7 + min n 6) (fun i => by omega) _ 14 0 (X.ok_flat _ a)).1 (by omega)
 ·exact X.ok_le a (by omega)
/-- how kinref20.Code stands behind its first steps: the coder, what is asked, the two results' cells, the square that is made (in block O) and its error (in the next) -/
structure QSt {R : Nat} (X : KC R) (F : List Nat) (w : World) (lo hi O : Nat) (lv : Value) (vs : List Value) (Fx : List Nat) (wx : World) (sx : X.σ) : Prop where
 at_ : X.At Fx wx sx
 went : Went F w Fx wx
 ask : KSqRow w.heap.size wx 0 0 [0, 0, 0, 0] 0 0 lv vs
 r1 : wx.heap[w.heap.size + 1]? = some (.cells #[.int .i64 0, .int .i64 0, .int .i64 0, .int .i64 0, .int .i64 0, .int .i64 0, .int .i64 0, .int .i64 0, .slice none 0 0, .slice none 0 0, .slice none 0 0, .slice none 0 0, .slice none 0 0] 70 (0, 0))
 r2 : wx.heap[w.heap.size + 1 + 1]? = some (.cells #[.int .i64 0, .slice none 0 0] 45 (0, 0))
 ins : SqIn lo hi wx lv vs askZ.large askZ.small
 sz : O + 1 < wx.heap.size ∧ hi ≤ O ∧ w.heap.size + 2 < lo ∧ lo ≤ hi ∧ X.base ≤ w.heap.size
 ap : ∀ x ∈ Fx, x < w.heap.size ∨ (hi ≤ x ∧ x ≠ O ∧ x ≠ O + 1)
section
variable {R : Nat} {X : KC R} {F : List Nat} {w : World} {lo hi O : Nat} {lv : Value} {vs : List Value} {Fx F' : List Nat} {wx w' : World} {sx s' : X.σ}
/-- the coder goes on -/
theorem QSt.step (h : QSt X F w lo hi O lv vs Fx wx sx) (g : Went Fx wx F' w') (a : X.At F' w' s') : QSt X F w lo hi O lv vs F' w' s' := by
 have hs := h.sz
 have ha := h.ap
 have no : ∀ b, w.heap.size ≤ b → b < hi → b ∉ Fx := fun b h1 h2 hx => by rcases ha b hx with e | e <;> omega
 refine ⟨a, h.went.trans g, g.1.rowAt h.ask (no _ (by omega) (by omega)), g.1.rowAt h.r1 (no _ (by omega) (by omega)), g.1.rowAt h.r2 (no _ (by omega) (by omega)), h.ins.only g.1 (fun x hx => by rcases ha x hx with e | e; left; omega; right; exact e.1), ⟨by have := g.1.size; omega, hs.2⟩, fun x hx => ?_⟩
 rcases g.2 x hx with e | e
 ·exact ha x e
 ·right; omega
/-- the square that is made, and its error, while the coder goes on -/
theorem QSt.row (h : QSt X F w lo hi O lv vs Fx wx sx) (g : Went Fx wx F' w') {o : Obj} {b : Nat} (hb : b = O ∨ b = O + 1) (hr : wx.heap[b]? = some o) : w'.heap[b]? = some o := by
 have hs := h.sz
 refine g.1.rowAt hr (fun hx => ?_)
 have := (Array.getElem?_eq_some_iff.1 hr).1
 rcases h.ap b hx with e | e
 ·omega
 ·rcases hb with rfl | rfl <;> omega
/-- a store into one of the two -/
theorem QSt.store (h : QSt X F w lo hi O lv vs Fx wx sx) {b : Nat} (hb : b = O ∨ b = O + 1) (g : Only [b] wx w') : QSt X F w lo hi O lv vs Fx w' sx := by
 have hs := h.sz
 have no : ∀ c, c < hi → c ∉ [b] := fun c h2 hx => by rw [mSg] at hx; omega
 refine ⟨X.only h.at_ g (fun x hx => by rw [mSg] at hx; subst hx; exact ⟨by omega, fun hx => by rcases h.ap _ hx with e | e <;> omega⟩), ⟨h.went.1.trans g (fun x hx _ => hx) (fun x hx hl => by rw [mSg] at hx; omega), h.went.2⟩, g.rowAt h.ask (no _ (by omega)), g.rowAt h.r1 (no _ (by omega)), g.rowAt h.r2 (no _ (by omega)), h.ins.only g (fun x hx => by rw [mSg] at hx; right; omega), ⟨by have := g.size; omega, hs.2⟩, h.ap⟩
theorem QSt.quiet (h : QSt X F w lo hi O lv vs Fx wx sx) (g : Only [] wx w') : QSt X F w lo hi O lv vs Fx w' sx :=
 ⟨X.quiet h.at_ g, h.went.q g, g.rowAt h.ask (by simp), g.rowAt h.r1 (by simp), g.rowAt h.r2 (by simp), h.ins.only g (by simp), ⟨by have := g.size; have := h.sz; omega, h.sz.2⟩, h.ap⟩
end
theorem qDRkQ0 {p : Prop} (h : p := by
 clear hsT hlT hvT hqT hTF
 obtain ⟨e0, e1, -⟩ := row2 TE.out
 go_wp2_with fail
 go_at_call 43
 refine (kok_any _ _ _).mono ?_
 rintro e w7 ⟨rfl, hq7⟩
 have HQ7 := lh (TQ.out.quiet hq7)
 have HR7 := lh (hq7.row TR.out)
 have HE7 := lh (hq7.row TE.out)
 have HI7 := lh (TI.out.only hq7 (by simp))
 have Hz7 := lh hq7.size
 clear hq7 e0 e1
 go_wp2_with fail
 have HInf := lh (show (Tryz.prog.info? 70).map (·.size) = some qT.size by rw [TP.out]; exact ksq_info TM.out TI.out.len)
 have HOne := lh (show qT.all (·.oneCell') = true by rw [TP.out]; exact sqL_one TI.out.one.1 TI.out.one.2)
 have HSiz := lh (show (#[.int .i64 0, .int .i64 0, .int .i64 0, .int .i64 0, .int .i64 0, .int .i64 0, .int .i64 0, .int .i64 0, .slice none 0 0, .slice none 0 0, .slice none 0 0, .slice none 0 0, .slice none 0 0] : Array Value).size = qT.size by rw [TP.out]; exact (show (sqL sT.kind sT.mode sT.modes sT.vx sT.vy lT vT).toArray.size = 13 by rw [List.size_toArray, sqL_size TM.out TI.out.len]).symm)
 refine wp_region_held_drew (S := (fun wz => wz.heap[O]? = some (.cells qT 70 (0, 0)) ∧ wz.heap[O + 1]? = some (.cells #[.int .i64 0, .slice none 0 0] 45 (0, 0)))) (by kernel_rfl) ?_ (fun hHeld => ?_)
 ·exact ⟨HR7.out, HE7.out⟩
 refine tkw 0 125 ⟨rfl, qDRkQt0⟩ ?_
 refine tkw 1 126 ⟨rfl, qDRkQt1⟩ ?_
 refine rdy (rdn 2 (fun K hK => ?_) .nil)
 refine wp_store_rowQ (.tmp 6) (.tmp 125) 70 rfl (g := w.heap.size + 1) (c' := qT) rfl rfl HQ7.out.r1 HInf.out HSiz.out HOne.out (fun w8 hq8 hr8 => ?_)
 replace hq8 : Only [w.heap.size + 1] w7 w8 := by first | exact hq8 | exact ((Only.refl [] w7).drew.mono (U := [w.heap.size + 1]) (by simp)).trans hq8 (fun g h _ => h) (fun g h _ => h)
 have hsz := HQ7.out.sz
 have h8O := hq8.rowAt HR7.out (by rw [mSg]; omega)
 have h8E := hq8.rowAt HE7.out (by rw [mSg]; omega)
 have h8r := hq8.rowAt HQ7.out.r2 (by rw [mSg]; omega)
 refine hK.out _ _ ?_ (fun hHeld => ?_)
 ·exact ⟨h8O, h8E⟩
 clear hK K
 refine rdy (rdn 3 (fun K hK => ?_) .nil)
 refine wp_store_rowQ (.tmp 7) (.tmp 126) 45 rfl (g := w.heap.size + 1 + 1) (c' := #[.int .i64 0, .slice none 0 0]) rfl rfl h8r (err_info _ rfl) rfl (by first | kernel_rfl | simp [Value.oneCell']) (fun w9 hq9 hr9 => ?_)
 replace hq9 : Only [w.heap.size + 1 + 1] w8 w9 := by first | exact hq9 | exact ((Only.refl [] w8).drew.mono (U := [w.heap.size + 1 + 1]) (by simp)).trans hq9 (fun g h _ => h) (fun g h _ => h)
 have h9O := hq9.rowAt h8O (by rw [mSg]; omega)
 have h9E := hq9.rowAt h8E (by rw [mSg]; omega)
 have h9q := hq9.rowAt hr8 (by rw [mSg]; omega)
 refine hK.out _ _ ?_ (fun hHeld => ?_)
 ·exact ⟨h9O, h9E⟩
 clear hK K
 refine wpAnyH_done (by kernel_rfl) ?_ _
 go_wp2_with fail
 refine bodyPost_ret (results_cell_cell Tryz.results51 _ _ (w.heap.size + 1) (w.heap.size + 1 + 1) _ _ _ _ _ _ _ _ rfl rfl h9q hr9 Tryz.underlying70 rfl HInf.out Tryz.underlying45 rfl (err_info _ rfl)) rfl (HPost.out _ _ ?_)
 unfold SquareG
 rw [TF.out]
 have hap7 := HQ7.out.ap
 have a8 := X.only (S := [w.heap.size + 1]) HQ7.out.at_ hq8 (fun x hx => by rw [mSg] at hx; subst hx; exact ⟨by omega, fun hf => by rcases hap7 _ hf with e | e <;> omega⟩)
 have a9 := X.only (S := [w.heap.size + 1 + 1]) a8 hq9 (fun x hx => by rw [mSg] at hx; subst hx; exact ⟨by omega, fun hf => by rcases hap7 _ hf with e | e <;> omega⟩)
 refine ⟨_, a9, ⟨(HQ7.out.went.1.trans hq8 (fun x hx _ => hx) (fun x hx hl => by rw [mSg] at hx; omega)).trans hq9 (fun x hx _ => hx) (fun x hx hl => by rw [mSg] at hx; omega), HQ7.out.went.2⟩, lT, vT, by rw [TP.out], TM.out, ?_⟩
 have hin := ((HI7.out.only hq8 (fun x hx => by rw [mSg] at hx; left; omega)).only hq9 (fun x hx => by rw [mSg] at hx; left; omega))
 have hz8 := hq8.size
 have hz9 := hq9.size
 have hz7 := Hz7.out
 exact ⟨hin.large.mono (by omega) (by omega), hin.len, fun i hi => (hin.small i hi).mono (by omega) (by omega)⟩) : p := h
theorem qDRkQ1 {p : Prop} (h : p := by
 clear hkT hTF
 obtain ⟨e0, e1, -⟩ := row2 TE.out
 have hcb : (er.code == 0) = false := by rw [beq_eq_false_iff_ne]; exact Hec.out
 go_wp2_with fail
 go_at_call 43
 refine (kok_any _ _ _).mono ?_
 rintro e w7 ⟨rfl, hq7⟩
 rw [hcb]
 have HQ7 := lh (TQ.out.quiet hq7)
 have HK7 := lh (hq7.cell TK.out (by simp))
 have HE7 := lh (hq7.row TE.out)
 have HC7 := lh (TC.out.only hq7 (by simp))
 clear hq7 e0 e1 hcb
 obtain ⟨e0, e1, -⟩ := row2 HE7.out
 have c0 := HK7.out
 have HIn := lh (kin_any sSyntax kT er.code HC7.out Hec.out (by have := Hep.out; omega))
 go_wp2_with fail
 go_at_call 44
 refine HIn.out.mono ?_
 rintro e w8 ⟨kv, rfl, ⟨sv8, rfl, hcs8⟩, hq8⟩
 obtain ⟨_, a8, cap8, hsv8, _⟩ := id hcs8
 subst hsv8
 have HQ8' := lh (HQ7.out.quiet hq8)
 have Hcs8 := lh hcs8
 clear hcs8 hq8 e0 e1 c0
 have HIz := lh (show (Tryz.prog.info? 70).map (·.size) = some (#[.int .i64 0, .int .i64 0, .int .i64 0, .int .i64 0, .int .i64 0, .int .i64 0, .int .i64 0, .int .i64 0, .slice none 0 0, .slice none 0 0, .slice none 0 0, .slice none 0 0, .slice none 0 0] : Array Value).size from ksq_info (k := 0) (mo := 0) (ms := [0, 0, 0, 0]) (vx := 0) (vy := 0) (lv := nilS) (vs := [nilS, nilS, nilS, nilS]) rfl rfl)
 have HOz := lh (show (#[.int .i64 0, .int .i64 0, .int .i64 0, .int .i64 0, .int .i64 0, .int .i64 0, .int .i64 0, .int .i64 0, .slice none 0 0, .slice none 0 0, .slice none 0 0, .slice none 0 0, .slice none 0 0] : Array Value).all (·.oneCell') = true from sqL_one (k := 0) (mo := 0) (ms := [0, 0, 0, 0]) (vx := 0) (vy := 0) (lv := nilS) rfl nils_one)
 have hso := Only.setRow (S := [w.heap.size + 1]) (Only.refl _ w8) (g := w.heap.size + 1) (fun _ => by simp) #[.int .i64 0, .int .i64 0, .int .i64 0, .int .i64 0, .int .i64 0, .int .i64 0, .int .i64 0, .int .i64 0, .slice none 0 0, .slice none 0 0, .slice none 0 0, .slice none 0 0, .slice none 0 0]
 have hro := setRow_heap w8 (w.heap.size + 1) _ #[.int .i64 0, .int .i64 0, .int .i64 0, .int .i64 0, .int .i64 0, .int .i64 0, .int .i64 0, .int .i64 0, .slice none 0 0, .slice none 0 0, .slice none 0 0, .slice none 0 0, .slice none 0 0] _ _ HQ8'.out.r1
 have hr2 := hso.rowAt HQ8'.out.r2 (by simp)
 obtain ⟨z0, z1, y0, y1, -⟩ := row2 hr2
 have Hso := lh hso
 have Hro := lh hro
 have Hr2 := lh hr2
 clear hso hro hr2
 go_wp2_with (first
  | (refine wpList_store_row rfl (.tmp 6) (.tmp 120) 70 rfl rfl rfl HQ8'.out.r1 HIz.out rfl HOz.out ?_)
  | fail)
 obtain ⟨hrow, hon⟩ := row2_set (x := .int .i64 er.code) (y := .slice a8 (er.path.length + 1) cap8) Hr2.out
 have hro9 := hon.rowAt Hro.out (by simp)
 have hsz := HQ8'.out.sz
 have hap7 := HQ8'.out.ap
 refine bodyPost_ret (results_cell_cell Tryz.results51 _ _ (w.heap.size + 1) (w.heap.size + 1 + 1) _ _ _ _ _ _ _ _ rfl rfl hro9 hrow Tryz.underlying70 rfl HIz.out Tryz.underlying45 rfl (err_info _ rfl)) rfl (HPost.out _ _ ?_)
 unfold SquareG
 rw [TF.out]
 have a8' := X.only (S := [w.heap.size + 1]) HQ8'.out.at_ Hso.out (fun x hx => by rw [mSg] at hx; subst hx; exact ⟨by omega, fun hf => by rcases hap7 _ hf with e | e <;> omega⟩)
 have a9 := X.only (S := [w.heap.size + 1 + 1]) a8' hon (fun x hx => by rw [mSg] at hx; subst hx; exact ⟨by omega, fun hf => by rcases hap7 _ hf with e | e <;> omega⟩)
 refine ⟨_, a9, ⟨(HQ8'.out.went.1.trans Hso.out (fun x hx _ => hx) (fun x hx hl => by rw [mSg] at hx; omega)).trans hon (fun x hx _ => hx) (fun x hx hl => by rw [mSg] at hx; omega), HQ8'.out.went.2⟩, _, rfl, ?_⟩
 have hz7 := HQ7.out.sz
 exact ((Hcs8.out.only Hso.out (fun x hx => by rw [mSg] at hx; left; omega)).only hon (fun x hx => by rw [mSg] at hx; left; omega)).mono (by omega) (Nat.le_trans Hso.out.size hon.size)) : p := h
theorem qDRkQ2 {p : Prop} (h : p := by
 have TP : Hid (qT = (sqL sT.kind sT.mode sT.modes sT.vx sT.vy lT vT).toArray) := lh (by subst hqT; subst hsT; subst hlT; subst hvT; rfl)
 have hTF := HF.out
 rw [← hsT] at hTF
 have TF := lh hTF
 have TM : Hid (sT.modes.length = 4) := lh (by subst hsT; exact HMl.out)
 have TI : Hid (SqIn (O + 1) wT.heap.size wT lT vT sT.large sT.small) := lh (by subst hsT; subst hlT; subst hvT; exact HIn.out)
 have TR : Hid (wT.heap[O]? = some (.cells qT 70 (0, 0))) := lh (by subst hqT; exact HR8.out)
 have TE := HE8
 have TQ := HQ8
 exact qDRkQ0) : p := h
theorem gsquare_any {R : Nat} (X : KC R) (hr : X.reads = true) {F : List Nat} {w : World} {s : X.σ} {n : Nat} (h : X.At F w s) (key : Bool) {sa : Array Value} (hsa : sa.size = 13) (ok : X.Ok n s) (hn : n ≤ 600000000) :
  Calls Tryz.prog 51 #[.pointer (some ⟨R, 0, none⟩), .bool key, .agg sa] w (SquareG X F w (squareG X.C key askZ s)) := by
 refine hidQ fun Q HPost => ?_
 obtain ⟨hq1, HB0, HB1, HB2, Hz⟩ := boxes3 w (.cells sa 70) (.cells #[.int .i64 0, .int .i64 0, .int .i64 0, .int .i64 0, .int .i64 0, .int .i64 0, .int .i64 0, .int .i64 0, .slice none 0 0, .slice none 0 0, .slice none 0 0, .slice none 0 0, .slice none 0 0] 70) (.cells #[.int .i64 0, .slice none 0 0] 45)
 have c0 := X.cell (X.quiet h hq1)
 rw [hr] at c0
 have HQ1 := lh hq1
 have HX := lh h
 have HOk := lh ok
 have HFlt := lh (X.lt h)
 have HBse := lh (X.base_le h)
 have Hsa := lh hsa
 clear hq1 h ok hsa
 go_enter Tryz.func51, Tryz.ntmps51
 go_upto_region 1 with (fail)
 generalize hW1 : World.alloc (World.alloc (World.alloc w _) _) _ = W1 at *
 clear hW1
 have HMk := lh (show (Instr.makeSlice 25 (.int .i64 64) (.int .i64 64)).run Tryz.prog W1 = .ok (.slice (some ⟨W1.heap.size, 0, none⟩) 64 64) (W1.alloc (.cells (madeCells #[.int .i64 0] 64) 3)) from run_make_row' (P := Tryz.prog) 25 3 (.int .i64 0) 8 EI.ut (by kernel_rfl) rfl .i64 .i64 64 (by omega) (by omega) W1)
 have HBd := lh (show (Instr.build 70 #[(4, .slice (some ⟨W1.heap.size, 0, none⟩) 64 64)]).run Tryz.prog (W1.alloc (.cells (madeCells #[.int .i64 0] 64) 3)) = .ok (.agg (sqL 0 0 [0, 0, 0, 0] 0 0 (.slice (some ⟨W1.heap.size, 0, none⟩) 64 64) [nilS, nilS, nilS, nilS]).toArray) (W1.alloc (.cells (madeCells #[.int .i64 0] 64) 3)) by kernel_rfl)
 have hinf := ksq_info (k := 0) (mo := 0) (ms := [0, 0, 0, 0]) (vx := 0) (vy := 0) (lv := (.slice (some ⟨W1.heap.size, 0, none⟩) 64 64)) (vs := [nilS, nilS, nilS, nilS]) rfl rfl
 have h13 := sqL_one (k := 0) (mo := 0) (ms := [0, 0, 0, 0]) (vx := 0) (vy := 0) (lv := (.slice (some ⟨W1.heap.size, 0, none⟩) 64 64)) rfl nils_one
 have hszs : sa.size = ((sqL 0 0 [0, 0, 0, 0] 0 0 (.slice (some ⟨W1.heap.size, 0, none⟩) 64 64) [nilS, nilS, nilS, nilS]).toArray).size := by rw [Hsa.out, List.size_toArray, sqL_size rfl rfl]
 have HSt := lh (And.intro hinf (And.intro hszs h13))
 clear hinf h13 hszs
 have hqn := Only.new W1 (.cells (madeCells #[.int .i64 0] 64) 3)
 have H5 := lh (hqn.row HB0.out)
 go_wp2_with (first
  | (refine wpList_make rfl 25 _ _ rfl HMk.out ?_; refine wpList_build rfl 70 [(4, .tmp 17)] rfl HBd.out ?_)
  | (refine wpList_store_row rfl (.tmp 5) (.tmp 18) 70 rfl rfl rfl H5.out HSt.out.1 HSt.out.2.1 HSt.out.2.2 ?_)
  | fail)
 have hset := setRow_heap (W1.alloc (.cells (madeCells #[.int .i64 0] 64) 3)) w.heap.size _ (sqL 0 0 [0, 0, 0, 0] 0 0 (.slice (some ⟨W1.heap.size, 0, none⟩) 64 64) [nilS, nilS, nilS, nilS]).toArray _ _ H5.out
 have hso := Only.setRow (S := [w.heap.size]) (Only.refl _ (W1.alloc (.cells (madeCells #[.int .i64 0] 64) 3))) (g := w.heap.size) (fun _ => by simp) (sqL 0 0 [0, 0, 0, 0] 0 0 (.slice (some ⟨W1.heap.size, 0, none⟩) 64 64) [nilS, nilS, nilS, nilS]).toArray
 have hmade := (own_made .i64 3 W1 64 (by simp [maxLen]))
 have hz1 := Hz.out
 have HL2 := lh ((hmade.ints.only hso (by simp only [mSg]; rintro g rfl; omega)).mono (lo' := W1.heap.size) (hi' := W1.heap.size + 1) (Nat.le_refl _) (by simp))
 have HQ2 := lh ((HQ1.out.q hqn).trans hso (U := []) (by simp) (fun g hg hlt => by rw [mSg] at hg; omega))
 have H12 := lh (hso.rowAt (hqn.row HB1.out) (by simp))
 have H22 := lh (hso.rowAt (hqn.row HB2.out) (by rw [mSg]; omega))
 have H52 := lh hset
 have hz2 := hso.size
 rw [World.size_alloc] at hz2
 have Hz2 := lh hz2
 clear hset hso hmade HSt HMk HBd H5 HB0 HB1 HB2 HQ1 hqn hz2 hz1 c0
 generalize World.setRow _ _ _ = W2 at *
 go_loopw [8] (fun i wr => ∃ (k : Nat) (vs : List Value), k ≤ 4 ∧ i = .int .i64 k ∧ Hid (KSqRow w.heap.size wr 0 0 [0, 0, 0, 0] 0 0 (.slice (some ⟨W1.heap.size, 0, none⟩) 64 64) vs) ∧ Hid (vs.length = 4) ∧ Hid (∀ j, j < k → Ints .i64 W1.heap.size wr.heap.size wr (vs.getD j nilS) (List.replicate 16 0)) ∧ Hid (Only [w.heap.size] W2 wr)) (fun i _ => 4 - (intOf i).toNat)
 case atStart => exact ⟨0, _, by omega, rfl, H52, lh rfl, lh (fun j hj => absurd hj (by omega)), lh (Only.refl _ _)⟩
 case round =>
  obtain ⟨k, vs, hk, rfl, H5r, Hvl, Hins, HQr⟩ := hrel
  by_cases hlt : k < 4
  ·have hki : (k : Int) < 4 := by omega
   have hk0 : (0 : Int) ≤ (k : Int) := by omega
   have hmk : (Instr.makeSlice 25 (.int .i64 16) (.int .i64 16)).run Tryz.prog wr = .ok (.slice (some ⟨wr.heap.size, 0, none⟩) 16 16) (wr.alloc (.cells (madeCells #[.int .i64 0] 16) 3)) := run_make_row' (P := Tryz.prog) 25 3 (.int .i64 0) 8 EI.ut (by kernel_rfl) rfl .i64 .i64 16 (by omega) (by omega) wr
   have hqn := Only.new wr (.cells (madeCells #[.int .i64 0] 16) 3)
   have h5n : KSqRow w.heap.size (wr.alloc (.cells (madeCells #[.int .i64 0] 16) 3)) 0 0 [0, 0, 0, 0] 0 0 (.slice (some ⟨W1.heap.size, 0, none⟩) 64 64) vs := hqn.row H5r.out
   have cx := h5n.cell (i := 9 + k) (sqL_small rfl Hvl.out hlt)
   have fx := frozen_of_row _ _ (9 + k) _ _ h5n
   obtain ⟨hs, hso⟩ := h5n.set (sqL_setSmall rfl Hvl.out hlt (.slice (some ⟨wr.heap.size, 0, none⟩) 16 16))
   have hown := own_made .i64 3 wr 16 (by simp [maxLen])
   have hzr := HQr.out.size
   have hz1 := Hz.out
   have hz2 := Hz2.out
   have HS := lh hs
   have HOwn := lh ((hown.ints.only hso (by simp only [mSg]; rintro g rfl; omega)).mono (lo' := W1.heap.size) (by omega) hso.size)
   have HQn := lh (((HQr.out.mono (U := [w.heap.size]) (fun g h _ => h)).trans hqn (U := [w.heap.size]) (fun g h _ => h) (by simp)).trans hso (U := [w.heap.size]) (fun g h _ => h) (fun g h _ => h))
   have HQw := lh ((hqn.mono (U := [w.heap.size]) (by simp)).trans hso (U := [w.heap.size]) (fun g h _ => h) (fun g h _ => h))
   have Hlt := lh hlt
   have Hz12 := lh hz1
   clear hqn h5n hs hso hown hzr hz1 hz2
   go_wp2_with fail
   refine ⟨⟨k + 1, vs.set k _, by omega, by go_num, HS, lh (by rw [List.length_set]; exact Hvl.out), lh (fun j hj => ?_), HQn⟩, by simp [intOf]; have := Hlt.out; omega⟩
   by_cases hjk : j = k
   ·subst hjk
    rw [List.getD_eq_getElem?_getD, List.getElem?_set_self (by rw [Hvl.out]; exact Hlt.out)]
    exact HOwn.out
   ·rw [List.getD_eq_getElem?_getD, List.getElem?_set_ne (Ne.symm hjk), ← List.getD_eq_getElem?_getD]
    exact ((Hins.out j (by omega)).only HQw.out (by simp only [mSg]; rintro g rfl; have := Hz12.out; omega)).mono (Nat.le_refl _) HQw.out.size
  ·obtain rfl : k = 4 := by omega
   have hki : ¬ ((4 : Nat) : Int) < 4 := by omega
   have hz1 := Hz.out
   have HQ3 := lh (HQ2.out.trans HQr.out (U := []) (by simp) (fun g hg hlt => by rw [mSg] at hg; omega))
   have H13 := lh (HQr.out.rowAt H12.out (by simp))
   have H23 := lh (HQr.out.rowAt H22.out (by rw [mSg]; omega))
   have HL3 := lh ((HL2.out.only HQr.out (by simp only [mSg]; rintro g rfl; omega)).mono (hi' := wr.heap.size) (Nat.le_refl _) (by have := HQr.out.size; have := Hz2.out; omega))
   have HSI : Hid (SqIn W1.heap.size wr.heap.size wr (.slice (some ⟨W1.heap.size, 0, none⟩) 64 64) vs askZ.large askZ.small) := lh ⟨HL3.out, Hvl.out, fun i hi => by rcases (by omega : i = 0 ∨ i = 1 ∨ i = 2 ∨ i = 3) with rfl | rfl | rfl | rfl <;> exact Hins.out _ (by omega)⟩
   have c50 := KSqRow.cell H5r.out (i := 0) (x := .int .i64 0) rfl
   have HKd := lh (gkind20_any X (X.quiet HX.out HQ3.out) key 0 HOk.out (by omega))
   obtain ⟨HKl1, HKl2⟩ := kindKG_le X key 0 HOk.out
   have HKl := lh HKl1
   have HFin : Hid (squareG X.C key askZ s = match (partsG X.C askZ (kindKG X.C key 0 s).1 (kindKG X.C key 0 s).2).1 with
    | .error e => (.error (inD sSyntax (kindKG X.C key 0 s).1 e), (partsG X.C askZ (kindKG X.C key 0 s).1 (kindKG X.C key 0 s).2).2)
    | .ok q => (.ok q, (partsG X.C askZ (kindKG X.C key 0 s).1 (kindKG X.C key 0 s).2).2)) := lh rfl
   clear HKl1 hz1 H12 H22 HL2 HL3 Hins H52
   generalize kindKG X.C key 0 s = KD at *
   obtain ⟨kn, s1⟩ := KD
   simp only at HKl HKl2 HFin
   have HKe : Hid (Calls Tryz.prog 85 #[.pointer (some ⟨R, 0, none⟩), .bool key, .int .i64 0] wr fun e w' => e = .returned (.int .i64 (kn : Int)) ∧ ∃ F', X.At F' w' s1 ∧ Went F wr F' w') := lh HKd.out
   clear HKd
   go_wp2_with fail
   go_at_call 85
   refine HKe.out.mono ?_
   rintro e w3 ⟨rfl, F3, hk3, hg3⟩
   have Hk3 := lh hk3
   have Hg3 := lh hg3
   clear hk3 hg3 c50
   have HBk := lh (fun (wx : World) => (by kernel_rfl : (Instr.build 70 #[(0, .int .i64 (kn : Int))]).run Tryz.prog wx = .ok (.agg (sqL (kn : Int) 0 [0, 0, 0, 0] 0 0 nilS [nilS, nilS, nilS, nilS]).toArray) wx))
   have HAl : Hid ((w3.alloc (.cells #[.int .i64 0, .int .i64 0, .int .i64 0, .int .i64 0, .int .i64 0, .int .i64 0, .int .i64 0, .int .i64 0, .slice none 0 0, .slice none 0 0, .slice none 0 0, .slice none 0 0, .slice none 0 0] 70)).heap[w3.heap.size]? = some (.cells #[.int .i64 0, .int .i64 0, .int .i64 0, .int .i64 0, .int .i64 0, .int .i64 0, .int .i64 0, .int .i64 0, .slice none 0 0, .slice none 0 0, .slice none 0 0, .slice none 0 0, .slice none 0 0] 70 (0, 0))) := lh (heap_alloc_new w3 _)
   have HSk := lh (And.intro (ksq_info (k := kn) (mo := 0) (ms := [0, 0, 0, 0]) (vx := 0) (vy := 0) (lv := nilS) (vs := [nilS, nilS, nilS, nilS]) rfl rfl) (sqL_one (k := kn) (mo := 0) (ms := [0, 0, 0, 0]) (vx := 0) (vy := 0) (lv := nilS) rfl nils_one))
   rename_i K0 hK0
   simp only []
   refine hK0 _ _ ?_
   clear hK0
   refine wpList_build rfl 70 [(0, .tmp 39)] rfl (HBk.out _) ?_
   go_upto_region 12 with (first
    | (refine wpList_store_row rfl (.tmp 10) (.tmp 40) 70 rfl rfl rfl HAl.out HSk.out.1 rfl HSk.out.2 ?_)
    | fail)
   have hO4 : KSqRow w3.heap.size (((w3.alloc (.cells #[.int .i64 0, .int .i64 0, .int .i64 0, .int .i64 0, .int .i64 0, .int .i64 0, .int .i64 0, .int .i64 0, .slice none 0 0, .slice none 0 0, .slice none 0 0, .slice none 0 0, .slice none 0 0] 70)).setRow w3.heap.size (sqL (kn : Int) 0 [0, 0, 0, 0] 0 0 nilS [nilS, nilS, nilS, nilS]).toArray).alloc (.cells #[.int .i64 0, .slice none 0 0] 45)) kn 0 [0, 0, 0, 0] 0 0 nilS [nilS, nilS, nilS, nilS] := (Only.new _ _).rowAt (setRow_heap _ _ _ _ _ _ HAl.out) (by simp)
   have hE4 : (((w3.alloc (.cells #[.int .i64 0, .int .i64 0, .int .i64 0, .int .i64 0, .int .i64 0, .int .i64 0, .int .i64 0, .int .i64 0, .slice none 0 0, .slice none 0 0, .slice none 0 0, .slice none 0 0, .slice none 0 0] 70)).setRow w3.heap.size (sqL (kn : Int) 0 [0, 0, 0, 0] 0 0 nilS [nilS, nilS, nilS, nilS]).toArray).alloc (.cells #[.int .i64 0, .slice none 0 0] 45)).heap[w3.heap.size + 1]? = some (.cells #[.int .i64 0, .slice none 0 0] 45 (0, 0)) := heap_alloc_new' (by rw [size_setRow]; simp)
   have hon4 : Only [w3.heap.size] w3 (((w3.alloc (.cells #[.int .i64 0, .int .i64 0, .int .i64 0, .int .i64 0, .int .i64 0, .int .i64 0, .int .i64 0, .int .i64 0, .slice none 0 0, .slice none 0 0, .slice none 0 0, .slice none 0 0, .slice none 0 0] 70)).setRow w3.heap.size (sqL (kn : Int) 0 [0, 0, 0, 0] 0 0 nilS [nilS, nilS, nilS, nilS]).toArray).alloc (.cells #[.int .i64 0, .slice none 0 0] 45)) := (((Only.new w3 _).mono (U := [w3.heap.size]) (by simp)).setRow (fun _ => by simp) _).alloc _
   have hq4 : Only [] w3 _ := hon4.mono (U := []) (fun x hx hl => by rw [mSg] at hx; omega)
   have HO4 := lh hO4
   have HE4 := lh hE4
   have HQS : Hid (QSt X F w W1.heap.size wr.heap.size w3.heap.size (.slice (some ⟨W1.heap.size, 0, none⟩) 64 64) vs F3 (((w3.alloc (.cells #[.int .i64 0, .int .i64 0, .int .i64 0, .int .i64 0, .int .i64 0, .int .i64 0, .int .i64 0, .int .i64 0, .slice none 0 0, .slice none 0 0, .slice none 0 0, .slice none 0 0, .slice none 0 0] 70)).setRow w3.heap.size (sqL (kn : Int) 0 [0, 0, 0, 0] 0 0 nilS [nilS, nilS, nilS, nilS]).toArray).alloc (.cells #[.int .i64 0, .slice none 0 0] 45)) s1) := lh (by
    have hz1 := Hz.out
    have hz3 := HQ3.out.size
    have hw3 := Hg3.out.1.size
    have hzw : W1.heap.size ≤ wr.heap.size := by have := HQr.out.size; have := Hz2.out; omega
    have hno : ∀ b, w.heap.size ≤ b → b < wr.heap.size → b ∉ F := fun b h1 h2 hx => by have := HFlt.out b hx; omega
    refine ⟨X.quiet Hk3.out hq4, (Went.ahead HQ3.out Hg3.out).q hq4, hq4.rowAt (Hg3.out.1.rowAt H5r.out (hno _ (by omega) (by omega))) (by simp), hq4.rowAt (Hg3.out.1.rowAt H13.out (hno _ (by omega) (by omega))) (by simp), hq4.rowAt (Hg3.out.1.rowAt H23.out (hno _ (by omega) (by omega))) (by simp), (HSI.out.only Hg3.out.1 (fun x hx => .inl (by have := HFlt.out x hx; omega))).only hq4 (by simp), ⟨(Array.getElem?_eq_some_iff.1 hE4).1, hw3, by omega, hzw, HBse.out⟩, fun x hx => ?_⟩
    rcases Hg3.out.2 x hx with e | e
    ·exact .inl (HFlt.out x e)
    ·have := X.lt Hk3.out x hx
     exact .inr ⟨e, by omega, by omega⟩)
   clear hO4 hE4 hon4 hq4 HBk HAl HSk
   generalize World.alloc (World.setRow _ _ _) _ = W4 at *
   generalize w3.heap.size = O at *
   rcases (by omega : kn = 0 ∨ kn = 1 ∨ kn = 2 ∨ kn = 3) with hk0 | hk0 | hk0 | hk0
   ·subst hk0
    have c0 := KSqRow.cell HO4.out (i := 0) (x := .int .i64 ((0 : Nat) : Int)) rfl
    have HF : Hid (squareG X.C key askZ s = (.ok sq0, s1)) := lh (by rw [HFin.out]; rfl)
    have HMl : Hid (([0, 0, 0, 0] : List Int).length = 4) := lh rfl
    have HIn : Hid (SqIn (O + 1) W4.heap.size W4 nilS [nilS, nilS, nilS, nilS] sq0.large sq0.small) := lh ⟨Ints.nil _ _ _ _, rfl, fun i hi => by rcases (by omega : i = 0 ∨ i = 1 ∨ i = 2 ∨ i = 3) with rfl | rfl | rfl | rfl <;> exact Ints.nil _ _ _ _⟩
    go_wp2_with fail
    go_loopw [12] (fun i wz => i = .int .i64 0 ∧ W4 = wz) (fun i _ => 0)
    case atStart => exact ⟨rfl, rfl⟩
    case round =>
     obtain ⟨rfl, rfl⟩ := hrel
     obtain ⟨wT, rfl⟩ : ∃ z, z = W4 := ⟨_, rfl⟩
     obtain ⟨sT, hsT⟩ : ∃ z, z = (sq0 : SqD) := ⟨_, rfl⟩
     obtain ⟨lT, hlT⟩ : ∃ z, z = (nilS : Value) := ⟨_, rfl⟩
     obtain ⟨vT, hvT⟩ : ∃ z, z = ([nilS, nilS, nilS, nilS] : List Value) := ⟨_, rfl⟩
     obtain ⟨qT, hqT⟩ : ∃ z, z = (sqL ((0 : Nat) : Int) 0 [0, 0, 0, 0] 0 0 nilS [nilS, nilS, nilS, nilS]).toArray := ⟨_, rfl⟩
     have TP : Hid (qT = (sqL sT.kind sT.mode sT.modes sT.vx sT.vy lT vT).toArray) := lh (by subst hqT; subst hsT; subst hlT; subst hvT; rfl)
     have hTF := HF.out
     rw [← hsT] at hTF
     have TF := lh hTF
     have TM : Hid (sT.modes.length = 4) := lh (by subst hsT; exact HMl.out)
     have TI : Hid (SqIn (O + 1) wT.heap.size wT lT vT sT.large sT.small) := lh (by subst hsT; subst hlT; subst hvT; exact HIn.out)
     have TR : Hid (wT.heap[O]? = some (.cells qT 70 (0, 0))) := lh (by subst hqT; exact HO4.out)
     have TE := HE4
     have TQ := HQS
     exact qDRkQ0
   ·subst hk0
    have c0 := KSqRow.cell HO4.out (i := 0) (x := .int .i64 ((1 : Nat) : Int)) rfl
    have HP : Hid (partsG X.C askZ 1 s1 = match (coefG X.C 8 askZ.large (partG X.C 0 (partG X.C 0 s1).2).2).1 with
     | .error e => (.error e, (coefG X.C 8 askZ.large (partG X.C 0 (partG X.C 0 s1).2).2).2)
     | .ok l => (.ok ⟨1, 0, [0, 0, 0, 0], (partG X.C 0 s1).1, (partG X.C 0 (partG X.C 0 s1).2).1, l, [[], [], [], []]⟩, (coefG X.C 8 askZ.large (partG X.C 0 (partG X.C 0 s1).2).2).2)) := lh rfl
    have okA := partG_ok X 0 HKl.out
    have okB := partG_ok X 0 okA
    have HOkz : Hid (X.Ok (n + 200) (partG X.C 0 (partG X.C 0 s1).2).2) := lh (X.ok_le okB (by omega))
    have HPt1 := lh (fun (wx : World) (Fx : List Nat) (hx : X.At Fx wx s1) => gpart_any X hx 0 HKl.out (by omega))
    have HPt2 := lh (fun (wx : World) (Fx : List Nat) (hx : X.At Fx wx (partG X.C 0 s1).2) => gpart_any X hx 0 okA (by omega))
    clear okA okB
    generalize partG X.C 0 (partG X.C 0 s1).2 = PB at *
    obtain ⟨vy, s3⟩ := PB
    generalize partG X.C 0 s1 = PA at *
    obtain ⟨vx, s2⟩ := PA
    simp only at HP HOkz
    have c1 := KSqRow.cell HQS.out.ask (i := 6) (x := .int .i64 0) rfl
    go_wp2_with fail
    go_at_call 86
    refine (HPt1.out _ _ HQS.out.at_).mono ?_
    rintro e w5 ⟨rfl, F5, ha5, hg5⟩
    have hQ5 := HQS.out.step hg5 ha5
    have hR5 := HQS.out.row hg5 (.inl rfl) HO4.out
    have hE5 := HQS.out.row hg5 (.inr rfl) HE4.out
    have cx := KSqRow.cell hR5 (i := 6) (x := .int .i64 0) rfl
    have fx := frozen_of_row _ _ 6 _ _ hR5
    obtain ⟨hs5, ho5⟩ := KSqRow.set hR5 (i := 6) (sqL_setX rfl vx)
    have HR51 := lh hs5
    have HQ51 := lh (hQ5.store (.inl rfl) ho5)
    have hsz5 := hQ5.sz
    have HE51 := lh (ho5.rowAt hE5 (by rw [mSg]; omega))
    have c0b := KSqRow.cell hs5 (i := 0) (x := .int .i64 ((1 : Nat) : Int)) rfl
    clear c1 hs5 ho5 ha5 hg5 hQ5 hR5 hE5 hsz5
    clear c0
    go_upto_region 14 with (fail)
    generalize hW5 : World.setCell w5 _ _ = Wa at *
    clear hW5 cx fx c0b
    have c1 := KSqRow.cell HQ51.out.ask (i := 7) (x := .int .i64 0) rfl
    go_wp2_with fail
    go_at_call 86
    refine (HPt2.out _ _ HQ51.out.at_).mono ?_
    rintro e w5 ⟨rfl, F5, ha5, hg5⟩
    have hQ5 := HQ51.out.step hg5 ha5
    have hR5 := HQ51.out.row hg5 (.inl rfl) HR51.out
    have hE5 := HQ51.out.row hg5 (.inr rfl) HE51.out
    have cx := KSqRow.cell hR5 (i := 7) (x := .int .i64 0) rfl
    have fx := frozen_of_row _ _ 7 _ _ hR5
    obtain ⟨hs5, ho5⟩ := KSqRow.set hR5 (i := 7) (sqL_setY rfl vy)
    have HR52 := lh hs5
    have HQ52 := lh (hQ5.store (.inl rfl) ho5)
    have hsz5 := hQ5.sz
    have HE52 := lh (ho5.rowAt hE5 (by rw [mSg]; omega))
    have c0b := KSqRow.cell hs5 (i := 0) (x := .int .i64 ((1 : Nat) : Int)) rfl
    clear c1 hs5 ho5 ha5 hg5 hQ5 hR5 hE5 hsz5
    have HQ5b := HQ52
    go_upto_region 18 with (fail)
    generalize hW5 : World.setCell w5 _ _ = W5 at *
    clear hW5 cx fx c0b
    have HCd := lh (fun (hq : X.Ok (n + 200) s3) => gcode8_any X HQ5b.out.at_ (lo' := W1.heap.size) (hi' := wr.heap.size) HQ5b.out.ins.large (by simp [askZ]) (LevOk.zeros _) (fun x hx => by have hs := HQ5b.out.sz; rcases HQ5b.out.ap x hx with e | e; left; omega; right; exact e.1) (by have hs := HQ5b.out.sz; omega) hq (by omega))
    have c8 := KSqRow.cell HQ5b.out.ask (i := 8) (x := (.slice (some ⟨W1.heap.size, 0, none⟩) 64 64)) rfl
    go_wp2_with fail
    go_at_call 88
    refine (HCd.out HOkz.out).mono ?_
    rintro e w6 ⟨F6, ha6, hg6, hm6⟩
    have HQ6 := lh (HQ5b.out.step hg6 ha6)
    have HR6 := lh (HQ5b.out.row hg6 (.inl rfl) HR52.out)
    have HE6 := lh (HQ5b.out.row hg6 (.inr rfl) HE52.out)
    have Hz6 := lh hg6.1.size
    clear ha6 c8 HCd
    generalize hcf : coefG X.C 8 askZ.large s3 = CF at *
    obtain ⟨rc, s6⟩ := CF
    simp only at hm6 HQ6
    cases rc with
    | error er =>
     have HF : Hid (squareG X.C key askZ s = (.error (inD sSyntax ((1 : Nat) : Int) er), s6)) := lh (by rw [HFin.out, HP.out])
     obtain ⟨sv, rfl, hcs⟩ := hm6
     obtain ⟨_, a2, cap2, hsv, _⟩ := id hcs
     subst hsv
     have Hcs := lh hcs
     have hee := coefG_err (e := er) (congrArg Prod.fst hcf)
     have Hec : Hid (er.code ≠ 0) := lh (by rw [hee.1]; omega)
     have Hep : Hid (er.path.length = 1) := lh hee.2
     clear hee hcs
     have hsz6 := HQ6.out.sz
     have hsz5 := HQ5b.out.sz
     have cx := KSqRow.cell HR6.out (i := 8) (x := .slice none 0 0) rfl
     have fx := frozen_of_row _ _ 8 _ _ HR6.out
     obtain ⟨hs7, ho7⟩ := KSqRow.set HR6.out (i := 8) (sqL_setLarge rfl (.slice none 0 0))
     have hE7 := ho7.rowAt HE6.out (by rw [mSg]; omega)
     obtain ⟨z0, z1, y0, y1, -⟩ := row2 HE6.out
     obtain ⟨hrow7, hon7⟩ := row2_set (x := .int .i64 er.code) (y := .slice a2 er.path.length cap2) hE7
     have hR7 := hon7.rowAt hs7 (by rw [mSg]; omega)
     have hQ7 := (HQ6.out.store (.inl rfl) ho7).store (.inr rfl) hon7
     have hc7 := (Hcs.out.only ho7 (fun x hx => by rw [mSg] at hx; left; omega)).only hon7 (fun x hx => by rw [mSg] at hx; left; omega)
     have HR8 := lh hR7
     have HE8 := lh hrow7
     have HQ8 := lh hQ7
     have HC8 := lh hc7
     clear hsz5 hsz6 hs7 ho7 hE7 hrow7 hon7 hR7 hQ7 hc7 hg6
     go_upto_region 19 with (fail)
     generalize hW8 : World.setCell (World.setCell _ _ _) _ _ = W8 at *
     clear hW8 cx fx z0 z1 y0 y1
     have c0 := KSqRow.cell HR8.out (i := 0) (x := .int .i64 (((1 : Nat) : Int))) rfl
     go_wp2_with fail
     go_loopw [12] (fun i wz => i = .int .i64 0 ∧ W8 = wz) (fun i _ => 0)
     case atStart => exact ⟨rfl, rfl⟩
     case round =>
      obtain ⟨rfl, rfl⟩ := hrel
      obtain ⟨wT, rfl⟩ : ∃ z, z = W8 := ⟨_, rfl⟩
      obtain ⟨kT, hkT⟩ : ∃ z, z = (((1 : Nat) : Int) : Int) := ⟨_, rfl⟩
      have TK : Hid (wT.cell? ⟨O, 0, none⟩ = some (.int .i64 kT)) := lh (by subst hkT; exact KSqRow.cell HR8.out (i := 0) (x := .int .i64 (((1 : Nat) : Int))) rfl)
      have hTF := HF.out
      rw [← hkT] at hTF
      have TF := lh hTF
      have TE := HE8
      have TQ := HQ8
      have TC := HC8
      exact qDRkQ1
    | ok l =>
     have HF : Hid (squareG X.C key askZ s = (.ok ⟨1, 0, [0, 0, 0, 0], vx, vy, l, [[], [], [], []]⟩, s6)) := lh (by rw [HFin.out, HP.out])
     obtain ⟨v6, rfl, hown6, hnf6⟩ := hm6
     obtain ⟨la6, lcap6, rfl, -⟩ := hown6.ints.open
     have hsz6 := HQ6.out.sz
     have cx := KSqRow.cell HR6.out (i := 8) (x := .slice none 0 0) rfl
     have fx := frozen_of_row _ _ 8 _ _ HR6.out
     obtain ⟨hs7, ho7⟩ := KSqRow.set HR6.out (i := 8) (sqL_setLarge rfl (.slice la6 l.length lcap6))
     have hE7 := ho7.rowAt HE6.out (by rw [mSg]; omega)
     obtain ⟨z0, z1, y0, y1, -⟩ := row2 HE6.out
     obtain ⟨hrow7, hon7⟩ := row2_set (x := .int .i64 0) (y := .slice none 0 0) hE7
     have hR7 := hon7.rowAt hs7 (by rw [mSg]; omega)
     have hQ7 := (HQ6.out.store (.inl rfl) ho7).store (.inr rfl) hon7
     have hz5 := Hz6.out
     have hsz5 := HQ5b.out.sz
     have hli := ((hown6.ints.only ho7 (fun x hx => by rw [mSg] at hx; left; omega)).only hon7 (fun x hx => by rw [mSg] at hx; left; omega)).mono (lo' := O + 1) (hi' := w6.heap.size) (by omega) (Nat.le_refl _)
     have hz71 := ho7.size
     have hz72 := hon7.size
     have HR8 := lh hR7
     have HE8 := lh hrow7
     have HQ8 := lh hQ7
     have HI8 := lh (hli.mono (Nat.le_refl _) (Nat.le_trans hz71 hz72))
     clear hsz5 hsz6 hs7 ho7 hE7 hrow7 hon7 hR7 hQ7 hz5 hli hz71 hz72 hown6 hnf6 hg6
     go_upto_region 19 with (fail)
     generalize hW8 : World.setCell (World.setCell _ _ _) _ _ = W8 at *
     clear hW8 cx fx z0 z1 y0 y1
     have c0 := KSqRow.cell HR8.out (i := 0) (x := .int .i64 (((1 : Nat) : Int))) rfl
     have HMl : Hid (([0, 0, 0, 0] : List Int).length = 4) := lh rfl
     have HIn : Hid (SqIn (O + 1) W8.heap.size W8 (.slice la6 l.length lcap6) [nilS, nilS, nilS, nilS] l [[], [], [], []]) := lh ⟨HI8.out, rfl, fun i hi => by rcases (by omega : i = 0 ∨ i = 1 ∨ i = 2 ∨ i = 3) with rfl | rfl | rfl | rfl <;> exact Ints.nil _ _ _ _⟩
     go_wp2_with fail
     go_loopw [12] (fun i wz => i = .int .i64 0 ∧ W8 = wz) (fun i _ => 0)
     case atStart => exact ⟨rfl, rfl⟩
     case round =>
      obtain ⟨rfl, rfl⟩ := hrel
      obtain ⟨wT, rfl⟩ : ∃ z, z = W8 := ⟨_, rfl⟩
      obtain ⟨sT, hsT⟩ : ∃ z, z = (⟨1, 0, [0, 0, 0, 0], vx, vy, l, [[], [], [], []]⟩ : SqD) := ⟨_, rfl⟩
      obtain ⟨lT, hlT⟩ : ∃ z, z = ((.slice la6 l.length lcap6) : Value) := ⟨_, rfl⟩
      obtain ⟨vT, hvT⟩ : ∃ z, z = ([nilS, nilS, nilS, nilS] : List Value) := ⟨_, rfl⟩
      obtain ⟨qT, hqT⟩ : ∃ z, z = (sqL ((1 : Nat) : Int) 0 [0, 0, 0, 0] vx vy (.slice la6 l.length lcap6) [nilS, nilS, nilS, nilS]).toArray := ⟨_, rfl⟩
      exact qDRkQ2
   ·subst hk0
    have c0 := KSqRow.cell HO4.out (i := 0) (x := .int .i64 ((2 : Nat) : Int)) rfl
    have c1 := KSqRow.cell HQS.out.ask (i := 1) (x := .int .i64 0) rfl
    have HMd := lh (gmode_any X HQS.out.at_ 0 HKl.out (by omega))
    have hmo := modeG_le X 0 HKl.out
    have HMo := lh hmo
    have HP : Hid (partsG X.C askZ 2 s1 = match (coefG X.C 8 askZ.large (modeG X.C 0 s1).2).1 with
     | .error e => (.error e, (coefG X.C 8 askZ.large (modeG X.C 0 s1).2).2)
     | .ok l => (.ok ⟨2, (modeG X.C 0 s1).1, [0, 0, 0, 0], 0, 0, l, [[], [], [], []]⟩, (coefG X.C 8 askZ.large (modeG X.C 0 s1).2).2)) := lh rfl
    obtain ⟨MD, hMD⟩ : ∃ y, y = modeG X.C 0 s1 := ⟨_, rfl⟩
    rw [← hMD] at HP hmo
    have HMe : Hid (Calls Tryz.prog 87 #[.pointer (some ⟨R, 0, none⟩), .int .i64 0] W4 fun e w' => e = .returned (.int .i64 ((MD.1 : Nat) : Int)) ∧ ∃ F', X.At F' w' MD.2 ∧ Went F3 W4 F' w') := lh (by rw [hMD]; exact HMd.out)
    have HOkz : Hid (X.Ok (n + 200) MD.2) := lh (by rw [hMD]; exact X.ok_le HMo.out.1 (by omega))
    obtain ⟨md, s2⟩ := MD
    simp only at HP hmo HMe HOkz
    clear HMd hMD HMo hmo
    go_wp2_with fail
    go_at_call 87
    refine HMe.out.mono ?_
    rintro e w5 ⟨rfl, F5, ha5, hg5⟩
    have hQ5 := HQS.out.step hg5 ha5
    have hR5 := HQS.out.row hg5 (.inl rfl) HO4.out
    have hE5 := HQS.out.row hg5 (.inr rfl) HE4.out
    have HQ5 := lh hQ5
    have HE5 := lh hE5
    have cx := KSqRow.cell hR5 (i := 1) (x := .int .i64 0) rfl
    have fx := frozen_of_row _ _ 1 _ _ hR5
    obtain ⟨hs5, ho5⟩ := KSqRow.set hR5 (i := 1) (sqL_setMo ((md : Nat) : Int))
    have HR5 := lh hs5
    have HQ5b := lh (hQ5.store (.inl rfl) ho5)
    have hsz5 := hQ5.sz
    have HE5b := lh (ho5.rowAt hE5 (by rw [mSg]; omega))
    have c0b := KSqRow.cell hs5 (i := 0) (x := .int .i64 ((2 : Nat) : Int)) rfl
    clear c0 c1 hs5 ho5 ha5 hg5 hQ5 hR5 hE5 hsz5
    go_upto_region 18 with (fail)
    generalize hW5 : World.setCell w5 _ _ = W5 at *
    clear hW5 cx fx c0b
    have HCd := lh (fun (hq : X.Ok (n + 200) s2) => gcode8_any X HQ5b.out.at_ (lo' := W1.heap.size) (hi' := wr.heap.size) HQ5b.out.ins.large (by simp [askZ]) (LevOk.zeros _) (fun x hx => by have hs := HQ5b.out.sz; rcases HQ5b.out.ap x hx with e | e; left; omega; right; exact e.1) (by have hs := HQ5b.out.sz; omega) hq (by omega))
    have c8 := KSqRow.cell HQ5b.out.ask (i := 8) (x := (.slice (some ⟨W1.heap.size, 0, none⟩) 64 64)) rfl
    go_wp2_with fail
    go_at_call 88
    refine (HCd.out HOkz.out).mono ?_
    rintro e w6 ⟨F6, ha6, hg6, hm6⟩
    have HQ6 := lh (HQ5b.out.step hg6 ha6)
    have HR6 := lh (HQ5b.out.row hg6 (.inl rfl) HR5.out)
    have HE6 := lh (HQ5b.out.row hg6 (.inr rfl) HE5b.out)
    have Hz6 := lh hg6.1.size
    clear ha6 c8 HCd
    generalize hcf : coefG X.C 8 askZ.large s2 = CF at *
    obtain ⟨rc, s6⟩ := CF
    simp only at hm6 HQ6
    cases rc with
    | error er =>
     have HF : Hid (squareG X.C key askZ s = (.error (inD sSyntax ((2 : Nat) : Int) er), s6)) := lh (by rw [HFin.out, HP.out])
     obtain ⟨sv, rfl, hcs⟩ := hm6
     obtain ⟨_, a2, cap2, hsv, _⟩ := id hcs
     subst hsv
     have Hcs := lh hcs
     have hee := coefG_err (e := er) (congrArg Prod.fst hcf)
     have Hec : Hid (er.code ≠ 0) := lh (by rw [hee.1]; omega)
     have Hep : Hid (er.path.length = 1) := lh hee.2
     clear hee hcs
     have hsz6 := HQ6.out.sz
     have hsz5 := HQ5b.out.sz
     have cx := KSqRow.cell HR6.out (i := 8) (x := .slice none 0 0) rfl
     have fx := frozen_of_row _ _ 8 _ _ HR6.out
     obtain ⟨hs7, ho7⟩ := KSqRow.set HR6.out (i := 8) (sqL_setLarge rfl (.slice none 0 0))
     have hE7 := ho7.rowAt HE6.out (by rw [mSg]; omega)
     obtain ⟨z0, z1, y0, y1, -⟩ := row2 HE6.out
     obtain ⟨hrow7, hon7⟩ := row2_set (x := .int .i64 er.code) (y := .slice a2 er.path.length cap2) hE7
     have hR7 := hon7.rowAt hs7 (by rw [mSg]; omega)
     have hQ7 := (HQ6.out.store (.inl rfl) ho7).store (.inr rfl) hon7
     have hc7 := (Hcs.out.only ho7 (fun x hx => by rw [mSg] at hx; left; omega)).only hon7 (fun x hx => by rw [mSg] at hx; left; omega)
     have HR8 := lh hR7
     have HE8 := lh hrow7
     have HQ8 := lh hQ7
     have HC8 := lh hc7
     clear hsz5 hsz6 hs7 ho7 hE7 hrow7 hon7 hR7 hQ7 hc7 hg6
     go_upto_region 19 with (fail)
     generalize hW8 : World.setCell (World.setCell _ _ _) _ _ = W8 at *
     clear hW8 cx fx z0 z1 y0 y1
     have c0 := KSqRow.cell HR8.out (i := 0) (x := .int .i64 (((2 : Nat) : Int))) rfl
     go_wp2_with fail
     go_loopw [12] (fun i wz => i = .int .i64 0 ∧ W8 = wz) (fun i _ => 0)
     case atStart => exact ⟨rfl, rfl⟩
     case round =>
      obtain ⟨rfl, rfl⟩ := hrel
      obtain ⟨wT, rfl⟩ : ∃ z, z = W8 := ⟨_, rfl⟩
      obtain ⟨kT, hkT⟩ : ∃ z, z = (((2 : Nat) : Int) : Int) := ⟨_, rfl⟩
      have TK : Hid (wT.cell? ⟨O, 0, none⟩ = some (.int .i64 kT)) := lh (by subst hkT; exact KSqRow.cell HR8.out (i := 0) (x := .int .i64 (((2 : Nat) : Int))) rfl)
      have hTF := HF.out
      rw [← hkT] at hTF
      have TF := lh hTF
      have TE := HE8
      have TQ := HQ8
      have TC := HC8
      exact qDRkQ1
    | ok l =>
     have HF : Hid (squareG X.C key askZ s = (.ok ⟨2, md, [0, 0, 0, 0], 0, 0, l, [[], [], [], []]⟩, s6)) := lh (by rw [HFin.out, HP.out])
     obtain ⟨v6, rfl, hown6, hnf6⟩ := hm6
     obtain ⟨la6, lcap6, rfl, -⟩ := hown6.ints.open
     have hsz6 := HQ6.out.sz
     have cx := KSqRow.cell HR6.out (i := 8) (x := .slice none 0 0) rfl
     have fx := frozen_of_row _ _ 8 _ _ HR6.out
     obtain ⟨hs7, ho7⟩ := KSqRow.set HR6.out (i := 8) (sqL_setLarge rfl (.slice la6 l.length lcap6))
     have hE7 := ho7.rowAt HE6.out (by rw [mSg]; omega)
     obtain ⟨z0, z1, y0, y1, -⟩ := row2 HE6.out
     obtain ⟨hrow7, hon7⟩ := row2_set (x := .int .i64 0) (y := .slice none 0 0) hE7
     have hR7 := hon7.rowAt hs7 (by rw [mSg]; omega)
     have hQ7 := (HQ6.out.store (.inl rfl) ho7).store (.inr rfl) hon7
     have hz5 := Hz6.out
     have hsz5 := HQ5b.out.sz
     have hli := ((hown6.ints.only ho7 (fun x hx => by rw [mSg] at hx; left; omega)).only hon7 (fun x hx => by rw [mSg] at hx; left; omega)).mono (lo' := O + 1) (hi' := w6.heap.size) (by omega) (Nat.le_refl _)
     have hz71 := ho7.size
     have hz72 := hon7.size
     have HR8 := lh hR7
     have HE8 := lh hrow7
     have HQ8 := lh hQ7
     have HI8 := lh (hli.mono (Nat.le_refl _) (Nat.le_trans hz71 hz72))
     clear hsz5 hsz6 hs7 ho7 hE7 hrow7 hon7 hR7 hQ7 hz5 hli hz71 hz72 hown6 hnf6 hg6
     go_upto_region 19 with (fail)
     generalize hW8 : World.setCell (World.setCell _ _ _) _ _ = W8 at *
     clear hW8 cx fx z0 z1 y0 y1
     have c0 := KSqRow.cell HR8.out (i := 0) (x := .int .i64 (((2 : Nat) : Int))) rfl
     have HMl : Hid (([0, 0, 0, 0] : List Int).length = 4) := lh rfl
     have HIn : Hid (SqIn (O + 1) W8.heap.size W8 (.slice la6 l.length lcap6) [nilS, nilS, nilS, nilS] l [[], [], [], []]) := lh ⟨HI8.out, rfl, fun i hi => by rcases (by omega : i = 0 ∨ i = 1 ∨ i = 2 ∨ i = 3) with rfl | rfl | rfl | rfl <;> exact Ints.nil _ _ _ _⟩
     go_wp2_with fail
     go_loopw [12] (fun i wz => i = .int .i64 0 ∧ W8 = wz) (fun i _ => 0)
     case atStart => exact ⟨rfl, rfl⟩
     case round =>
      obtain ⟨rfl, rfl⟩ := hrel
      obtain ⟨wT, rfl⟩ : ∃ z, z = W8 := ⟨_, rfl⟩
      obtain ⟨sT, hsT⟩ : ∃ z, z = (⟨2, md, [0, 0, 0, 0], 0, 0, l, [[], [], [], []]⟩ : SqD) := ⟨_, rfl⟩
      obtain ⟨lT, hlT⟩ : ∃ z, z = ((.slice la6 l.length lcap6) : Value) := ⟨_, rfl⟩
      obtain ⟨vT, hvT⟩ : ∃ z, z = ([nilS, nilS, nilS, nilS] : List Value) := ⟨_, rfl⟩
      obtain ⟨qT, hqT⟩ : ∃ z, z = (sqL ((2 : Nat) : Int) ((md : Nat) : Int) [0, 0, 0, 0] 0 0 (.slice la6 l.length lcap6) [nilS, nilS, nilS, nilS]).toArray := ⟨_, rfl⟩
      exact qDRkQ2
   ·subst hk0
    obtain ⟨HI, hHI⟩ : ∃ y, y = wr.heap.size := ⟨_, rfl⟩
    rw [← hHI] at HQS
    clear hHI
    have HMl0 : Hid (([0, 0, 0, 0] : List Int).length = 4) := lh rfl
    have HP : Hid (partsG X.C askZ 3 s1 = match (smallGoG X.C askZ.modes askZ.small 4 [] [] s1).1 with
     | .error e => (.error e, (smallGoG X.C askZ.modes askZ.small 4 [] [] s1).2)
     | .ok x => (.ok ⟨3, 0, x.1, 0, 0, [], x.2⟩, (smallGoG X.C askZ.modes askZ.small 4 [] [] s1).2)) := lh rfl
    have HK0 : Hid (QK3 X n O s1 W4 0 s1 [0, 0, 0, 0] [] 0 (.slice none 0 0)) := lh (QK3.good rfl (X.ok_le HKl.out (by omega)) rfl)
    have HM0 := lh (QSm.nil O F3 W4)
    have c0 := KSqRow.cell HO4.out (i := 0) (x := .int .i64 ((3 : Nat) : Int)) rfl
    go_wp2_with fail
    go_loopw [12] (fun i wz => ∃ (k : Nat) (Fc : List Nat) (sc : X.σ) (mq : List Int) (ls : List (List Int)) (vq : List Value) (ec : Int) (ev : Value), k ≤ 4 ∧ i = .int .i64 k ∧ Hid (QSt X F w W1.heap.size HI O (.slice (some ⟨W1.heap.size, 0, none⟩) 64 64) vs Fc wz sc) ∧ Hid (KSqRow O wz ((3 : Nat) : Int) 0 mq 0 0 nilS vq) ∧ Hid (mq.length = 4) ∧ Hid (QSm O Fc wz vq ls) ∧ Hid (wz.heap[O + 1]? = some (.cells #[.int .i64 ec, ev] 45 (0, 0))) ∧ Hid (QK3 X n O s1 wz k sc mq ls ec ev)) (fun i _ => 4 - (intOf i).toNat)
    case atStart => exact ⟨0, F3, s1, _, _, _, _, _, by omega, rfl, HQS, HO4, HMl0, HM0, HE4, HK0⟩
    case round =>
     obtain ⟨k, Fc, sc, mq, ls, vq, ec, ev, hk, rfl, HQc, HRc, Hml, HMc, HEc, HKc⟩ := hrel
     clear HO4 HE4 HQS HM0 HK0 HMl0
     rcases HKc.out with ⟨rfl, rfl, hlk, hokc, hgo⟩ | ⟨er, a2, cap2, la, ha, rfl, rfl, hcode, hpl, hlo, hcs, hgo⟩
     ·have Hlk := lh hlk
      have Hokc := lh hokc
      have Hgo := lh hgo
      clear HKc hlk hokc hgo
      by_cases hlt : k < 4
      ·have hki : (k : Int) < 4 := by omega
       have hk0 : (0 : Int) ≤ (k : Int) := by omega
       have hz0 : ([0, 0, 0, 0] : List Int).getD k 0 = 0 := by rcases (by omega : k = 0 ∨ k = 1 ∨ k = 2 ∨ k = 3) with rfl | rfl | rfl | rfl <;> rfl
       have hz1 : askZ.small.getD k [] = List.replicate 16 0 := by rcases (by omega : k = 0 ∨ k = 1 ∨ k = 2 ∨ k = 3) with rfl | rfl | rfl | rfl <;> rfl
       have HI1 : Hid (Ints .i64 W1.heap.size HI wr (vs.getD k nilS) (List.replicate 16 0)) := lh (by rw [← hz1]; exact HQc.out.ins.small k hlt)
       obtain ⟨MD, hMD⟩ : ∃ y, y = modeG X.C 0 sc := ⟨_, rfl⟩
       have hmo := modeG_le X 0 Hokc.out
       rw [← hMD] at hmo
       obtain ⟨CF, hCF⟩ : ∃ y, y = coefG X.C 4 (List.replicate 16 0) MD.2 := ⟨_, rfl⟩
       have hco := coefG4_ok X (l := List.replicate 16 0) hmo.1
       rw [← hCF] at hco
       have HMd : Hid (∀ (wx : World) (Fx : List Nat), X.At Fx wx sc → Calls Tryz.prog 87 #[.pointer (some ⟨R, 0, none⟩), .int .i64 0] wx fun e w' => e = .returned (.int .i64 ((MD.1 : Nat) : Int)) ∧ ∃ F', X.At F' w' MD.2 ∧ Went Fx wx F' w') := lh (fun wx Fx hx => by rw [hMD]; exact gmode_any X hx 0 Hokc.out (by omega))
       have HCd := lh (fun (wx : World) (Fx : List Nat) (lo' hi' : Nat) (lv' : Value) (hx : X.At Fx wx MD.2) (hi1 : Ints .i64 lo' hi' wx lv' (List.replicate 16 0)) (hap : ∀ g ∈ Fx, g < lo' ∨ hi' ≤ g) (hw : hi' ≤ wx.heap.size) => gcode4_any X hx hi1 (by simp) (LevOk.zeros _) hap hw hmo.1 (by omega))
       rw [← hCF] at HCd
       have HS1 : Hid (modeG X.C (askZ.modes.getD (mq.take k).length 0) sc = MD) := lh (by rw [List.length_take, Hml.out, Nat.min_eq_left (by omega), show askZ.modes.getD k 0 = 0 from hz0]; exact hMD.symm)
       have HS2 : Hid (coefG X.C 4 (askZ.small.getD ls.length []) MD.2 = CF) := lh (by rw [Hlk.out, hz1]; exact hCF.symm)
       have Hco := lh hco
       have Hlt := lh hlt
       have HTs := lh (fun (x : Int) => take_set_snoc (l := mq) (k := k) (by rw [Hml.out]; exact hlt) x)
       clear hz1 hMD hmo hCF hco
       obtain ⟨md, s2⟩ := MD
       obtain ⟨rc, s6⟩ := CF
       simp only at HMd HCd HS1 HS2 Hco
       have c0 := KSqRow.cell HRc.out (i := 0) (x := .int .i64 ((3 : Nat) : Int)) rfl
       obtain ⟨e0, e1, -⟩ := row2 HEc.out
       go_wp2_with fail
       go_at_call 43
       refine (kok_any _ _ _).mono ?_
       rintro e w7 ⟨rfl, hq7⟩
       have HQ7 := lh (HQc.out.quiet hq7)
       have HR7 := lh (hq7.row HRc.out)
       have HE7 := lh (hq7.row HEc.out)
       have HM7 := lh (HMc.out.store hq7 (by simp))
       have HI7 := lh (HI1.out.quiet hq7)
       clear hq7 e0 e1 c0
       have c1 := KSqRow.cell HQ7.out.ask (i := 2 + k) (x := .int .i64 0) (by rw [sqL_mode rfl Hlt.out, hz0])
       go_wp2_with fail
       go_at_call 87
       refine (HMd.out _ _ HQ7.out.at_).mono ?_
       rintro e w5 ⟨rfl, F5, ha5, hg5⟩
       have hQ5 := HQ7.out.step hg5 ha5
       have hR5 := HQ7.out.row hg5 (.inl rfl) HR7.out
       have hE5 := HQ7.out.row hg5 (.inr rfl) HE7.out
       have cx := KSqRow.cell hR5 (i := 2 + k) (sqL_mode Hml.out Hlt.out)
       have fx := frozen_of_row _ _ (2 + k) _ _ hR5
       obtain ⟨hs5, ho5⟩ := KSqRow.set hR5 (sqL_setMode Hml.out Hlt.out ((md : Nat) : Int))
       have HR5 := lh hs5
       have HQ5 := lh (hQ5.store (.inl rfl) ho5)
       have HE5 := lh (ho5.rowAt hE5 (by rw [mSg]; omega))
       have HM5 := lh ((HM7.out.went hg5).store ho5 (fun x hx => by rw [mSg] at hx; omega))
       have HI5 := lh ((HI7.out.only hg5.1 (fun x hx => by have hs := HQ7.out.sz; rcases HQ7.out.ap x hx with e | e; left; omega; right; exact e.1)).only ho5 (fun x hx => by have hs := HQ7.out.sz; rw [mSg] at hx; right; omega))
       clear c1 hs5 ho5 ha5 hg5 hQ5 hR5 hE5 hz0 HMd HI1 HI7
       go_upto_region 23 with (fail)
       generalize hW5 : World.setCell w5 _ _ = W5 at *
       clear hW5 cx fx
       have c8 := KSqRow.cell HQ5.out.ask (i := 9 + k) (sqL_small rfl Hvl.out Hlt.out)
       generalize hvk : vs.getD k nilS = vk at *
       clear hvk
       obtain ⟨ka, kcap, hkv, -⟩ := HI5.out.open
       rw [List.length_replicate] at hkv
       subst hkv
       go_wp2_with fail
       go_at_call 88
       refine (HCd.out _ _ _ _ _ HQ5.out.at_ HI5.out (fun x hx => by have hs := HQ5.out.sz; rcases HQ5.out.ap x hx with e | e; left; omega; right; exact e.1) (by have hs := HQ5.out.sz; omega)).mono ?_
       rintro e w6 ⟨F6, ha6, hg6, hm6⟩
       have HQ6 := lh (HQ5.out.step hg6 ha6)
       have HR6 := lh (HQ5.out.row hg6 (.inl rfl) HR5.out)
       have HE6 := lh (HQ5.out.row hg6 (.inr rfl) HE5.out)
       have HM6 := lh (HM5.out.went hg6)
       have Hz6 := lh hg6.1.size
       clear ha6 c8 HCd
       simp only at hm6 HQ6
       cases rc with
       | ok o =>
        have hlo16 : o.length = 16 := Hco.out.2 o rfl
        obtain ⟨v6, rfl, hown6, hnf6⟩ := hm6
        obtain ⟨g6, lcap6, rfl, hg61, hg62, hin6⟩ := own_narrow hown6 (by omega)
        have hsz6 := HQ6.out.sz
        have hsz5 := HQ5.out.sz
        have hnf := hnf6 g6 rfl
        clear hlo16
        have HmS : Hid ((mq.set k ((md : Nat) : Int)).length = 4) := lh (by rw [List.length_set]; exact Hml.out)
        have cx := KSqRow.cell HR6.out (i := 9 + k) (sqL_small HmS.out HM6.out.len Hlt.out)
        have fx := frozen_of_row _ _ (9 + k) _ _ HR6.out
        obtain ⟨hs7, ho7⟩ := KSqRow.set HR6.out (sqL_setSmall HmS.out HM6.out.len Hlt.out (.slice (some ⟨g6, 0, none⟩) o.length lcap6))
        have hE7 := ho7.rowAt HE6.out (by rw [mSg]; omega)
        obtain ⟨z0, z1, y0, y1, -⟩ := row2 HE6.out
        obtain ⟨hrow7, hon7⟩ := row2_set (x := .int .i64 0) (y := .slice none 0 0) hE7
        have hR7 := hon7.rowAt hs7 (by rw [mSg]; omega)
        have hQ7 := (HQ6.out.store (.inl rfl) ho7).store (.inr rfl) hon7
        have hM7 := ((HM6.out.set Hlt.out Hlk.out (by omega) hg62 hnf hin6).store ho7 (fun x hx => by rw [mSg] at hx; omega)).store hon7 (fun x hx => by rw [mSg] at hx; omega)
        have hgo := Hgo.out
        rw [show 4 - k = (4 - (k + 1)) + 1 by omega, smallGoG_more HS1.out HS2.out, ← HTs.out] at hgo
        have HK8 : ∀ wz, Hid (QK3 X n O s1 wz (k + 1) s6 (mq.set k ((md : Nat) : Int)) (ls ++ [o]) 0 (.slice none 0 0)) := fun wz => lh (QK3.good (by rw [List.length_append, Hlk.out]; rfl) (X.ok_le Hco.out.1 (by omega)) hgo)
        have HK8' := lh HK8
        have HR8 := lh hR7
        have HE8 := lh hrow7
        have HQ8 := lh hQ7
        have HM8 := lh hM7
        clear hsz5 hsz6 hs7 ho7 hE7 hrow7 hon7 hR7 hQ7 hM7 hown6 hnf6 hg6 hin6 hnf hgo HK8 hg61 hg62
        skip
        go_upto_region 21 with (fail)
        generalize hW8 : World.setCell (World.setCell _ _ _) _ _ = W8 at *
        clear hW8 cx fx z0 z1 y0 y1
        have Hlt2 : Hid (k + 1 ≤ 4) := lh Hlt.out
        go_wp2_with fail
        refine ⟨?_, by simp [intOf]; have := Hlt.out; omega⟩
        (repeat apply Exists.intro)
        exact ⟨⟨k + 1, F6, s6, mq.set k ((md : Nat) : Int), ls ++ [o], _, _, _, Hlt2.out, by go_num, HQ8, HR8, HmS, HM8, HE8, HK8'.out _⟩, rfl⟩
       | error er =>
        obtain ⟨sv, rfl, hcs⟩ := hm6
        obtain ⟨_, a2, cap2, hsv, _⟩ := id hcs
        subst hsv
        have hee := coefG_err (e := er) (congrArg Prod.fst HS2.out)
        have hsz6 := HQ6.out.sz
        have hsz5 := HQ5.out.sz
        have HmS : Hid ((mq.set k ((md : Nat) : Int)).length = 4) := lh (by rw [List.length_set]; exact Hml.out)
        have cx := KSqRow.cell HR6.out (i := 9 + k) (sqL_small HmS.out HM6.out.len Hlt.out)
        have fx := frozen_of_row _ _ (9 + k) _ _ HR6.out
        obtain ⟨hs7, ho7⟩ := KSqRow.set HR6.out (sqL_setSmall HmS.out HM6.out.len Hlt.out (.slice none 0 0))
        have hE7 := ho7.rowAt HE6.out (by rw [mSg]; omega)
        obtain ⟨z0, z1, y0, y1, -⟩ := row2 HE6.out
        obtain ⟨hrow7, hon7⟩ := row2_set (x := .int .i64 er.code) (y := .slice a2 er.path.length cap2) hE7
        have hR7 := hon7.rowAt hs7 (by rw [mSg]; omega)
        have hQ7 := (HQ6.out.store (.inl rfl) ho7).store (.inr rfl) hon7
        have hM7 := ((HM6.out.unset Hlt.out Hlk.out).store ho7 (fun x hx => by rw [mSg] at hx; omega)).store hon7 (fun x hx => by rw [mSg] at hx; omega)
        have hgo := Hgo.out
        rw [show 4 - k = (4 - (k + 1)) + 1 by omega, smallGoG_bad HS1.out HS2.out] at hgo
        have hc7 := (hcs.only ho7 (fun x hx => by rw [mSg] at hx; left; omega)).only hon7 (fun x hx => by rw [mSg] at hx; left; omega)
        have hK8 := QK3.bad (X := X) (n := n) (O := O) (k := k + 1) (mq := mq.set k ((md : Nat) : Int)) (ls := ls) (by rw [hee.1]; omega) hee.2 (by omega) hc7 hgo.symm
        have HK8 := lh hK8
        have HR8 := lh hR7
        have HE8 := lh hrow7
        have HQ8 := lh hQ7
        have HM8 := lh hM7
        clear hsz5 hsz6 hs7 ho7 hE7 hrow7 hon7 hR7 hQ7 hM7 hg6 hgo hK8 hc7 hcs hee
        go_upto_region 21 with (fail)
        generalize hW8 : World.setCell (World.setCell _ _ _) _ _ = W8 at *
        clear hW8 cx fx z0 z1 y0 y1
        have Hlt2 : Hid (k + 1 ≤ 4) := lh Hlt.out
        go_wp2_with fail
        refine ⟨?_, by simp [intOf]; have := Hlt.out; omega⟩
        (repeat apply Exists.intro)
        exact ⟨⟨k + 1, F6, s6, mq.set k ((md : Nat) : Int), ls, _, _, _, Hlt2.out, by go_num, HQ8, HR8, HmS, HM8, HE8, HK8⟩, rfl⟩
      ·obtain rfl : k = 4 := by omega
       have hki : ¬ ((4 : Nat) : Int) < 4 := by omega
       have hgo := Hgo.out
       rw [Nat.sub_self, smallGoG, List.take_of_length_le (by rw [Hml.out]; omega)] at hgo
       have HF : Hid (squareG X.C key askZ s = (.ok ⟨3, 0, mq, 0, 0, [], ls⟩, sc)) := lh (by rw [HFin.out, HP.out, ← hgo])
       have HIn := lh (HMc.out.ins [] rfl)
       clear hgo
       have c0 := KSqRow.cell HRc.out (i := 0) (x := .int .i64 ((3 : Nat) : Int)) rfl
       obtain ⟨wT, rfl⟩ : ∃ z, z = wr := ⟨_, rfl⟩
       obtain ⟨sT, hsT⟩ : ∃ z, z = (⟨3, 0, mq, 0, 0, [], ls⟩ : SqD) := ⟨_, rfl⟩
       obtain ⟨lT, hlT⟩ : ∃ z, z = (nilS : Value) := ⟨_, rfl⟩
       obtain ⟨vT, hvT⟩ : ∃ z, z = (vq : List Value) := ⟨_, rfl⟩
       obtain ⟨qT, hqT⟩ : ∃ z, z = (sqL ((3 : Nat) : Int) 0 mq 0 0 nilS vq).toArray := ⟨_, rfl⟩
       have TP : Hid (qT = (sqL sT.kind sT.mode sT.modes sT.vx sT.vy lT vT).toArray) := lh (by subst hqT; subst hsT; subst hlT; subst hvT; rfl)
       have hTF := HF.out
       rw [← hsT] at hTF
       have TF := lh hTF
       have TM : Hid (sT.modes.length = 4) := lh (by subst hsT; exact Hml.out)
       have TI : Hid (SqIn (O + 1) wT.heap.size wT lT vT sT.large sT.small) := lh (by subst hsT; subst hlT; subst hvT; exact HIn.out)
       have TR : Hid (wT.heap[O]? = some (.cells qT 70 (0, 0))) := lh (by subst hqT; exact HRc.out)
       have TE := HEc
       have TQ := HQc
       exact qDRkQ0
     ·have Hec : Hid (er.code ≠ 0) := lh hcode
      have Hep : Hid (er.path.length = 1) := lh hpl
      have Hcs := lh hcs
      have HF : Hid (squareG X.C key askZ s = (.error (inD sSyntax ((3 : Nat) : Int) er), sc)) := lh (by rw [HFin.out, HP.out, hgo])
      have Hlo := lh hlo
      clear HKc hcode hpl hcs hgo hlo
      have c0 := KSqRow.cell HRc.out (i := 0) (x := .int .i64 ((3 : Nat) : Int)) rfl
      by_cases hlt : k < 4
      ·have hki : (k : Int) < 4 := by omega
       obtain ⟨e0, e1, -⟩ := row2 HEc.out
       have hcb : (er.code == 0) = false := by rw [beq_eq_false_iff_ne]; exact Hec.out
       go_wp2_with fail
       go_at_call 43
       refine (kok_any _ _ _).mono ?_
       rintro e w4 ⟨rfl, hq4⟩
       rw [hcb]
       have HQx := lh (HQc.out.quiet hq4)
       have HRx := lh (hq4.row HRc.out)
       have HEx := lh (hq4.row HEc.out)
       have HCx := lh (Hcs.out.only hq4 (by simp))
       clear hq4 e0 e1 hcb c0
       obtain ⟨wT, rfl⟩ : ∃ z, z = w4 := ⟨_, rfl⟩
       obtain ⟨kT, hkT⟩ : ∃ z, z = (((3 : Nat) : Int) : Int) := ⟨_, rfl⟩
       have TK : Hid (wT.cell? ⟨O, 0, none⟩ = some (.int .i64 kT)) := lh (by subst hkT; exact KSqRow.cell HRx.out (i := 0) (x := .int .i64 (((3 : Nat) : Int))) rfl)
       have hTF := HF.out
       rw [← hkT] at hTF
       have TF := lh hTF
       have TE := HEx
       have TQ := HQx
       have TC := HCx
       exact qDRkQ1
      ·obtain rfl : k = 4 := by omega
       have hki : ¬ ((4 : Nat) : Int) < 4 := by omega
       obtain ⟨wT, rfl⟩ : ∃ z, z = wr := ⟨_, rfl⟩
       obtain ⟨kT, hkT⟩ : ∃ z, z = (((3 : Nat) : Int) : Int) := ⟨_, rfl⟩
       have TK : Hid (wT.cell? ⟨O, 0, none⟩ = some (.int .i64 kT)) := lh (by subst hkT; exact KSqRow.cell HRc.out (i := 0) (x := .int .i64 (((3 : Nat) : Int))) rfl)
       have hTF := HF.out
       rw [← hkT] at hTF
       have TF := lh hTF
       have TE := HEc
       have TQ := HQc
       have TC := Hcs
       exact qDRkQ1
end Go.Proofs.YthgpgbdkcdmbpaaGreatDoor
