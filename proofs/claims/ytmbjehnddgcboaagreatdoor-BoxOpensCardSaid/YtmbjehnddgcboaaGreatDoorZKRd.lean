/- Joined texts: KRd. Conditions: each part names its own. -/
import Derived.Test.YtmbjehnddgcboaaGreatDoorZSplG
import Derived.Test.YtmbjehnddgcboaaGreatDoorC6
import Derived.StillTailTactics
import Derived.BigRegion
/- The document's reader of units: take, end, fills, at, at2. Conditions: the reader lies in a block behind its units. -/
namespace Go.Proofs.YtmbjehnddgcboaaGreatDoor
open Go.RowKit
set_option linter.unusedVariables false
set_option linter.unusedSimpArgs false

/-- what a reader reads: the bytes, their units, the error behind them; where they lie -/
structure KS where
  l : List Int
  U : List UnitD
  E : Option Err
  uv : Value
  sv : Value
  lo : Nat
  hi : Nat
/-- the reader in block R, at place p of the bytes, n units behind it -/
structure KRd (K : KS) (R : Nat) (w : World) (p n : Nat) : Prop where
  row : w.heap[R]? = some (.cells #[K.uv, .int .i64 n, .int .i64 (codeE K.E), K.sv] 69 (0, 0))
  units : UnitsAt K.lo K.hi w K.uv K.U
  err : Cells 2 K.lo K.hi w K.sv (pathE K.E).length (flat (pathE K.E))
  spl : SplAt K.l K.E p (K.U.drop n)
  le : n ≤ K.U.length
  hiR : K.hi ≤ R
  zero : n = 0 → p = 0
  last : ∀ u, 0 < n → K.U[n - 1]? = some u → u.end_ = p
  r8 : ∀ x ∈ K.l, InK .u8 x
  small : K.l.length ≤ 1000000000000
  ple : p ≤ K.l.length
  nle : K.U.length ≤ K.l.length
theorem KRd.lt {K : KS} {R p n : Nat} {w : World} (h : KRd K R w p n) : R < w.heap.size := (Array.getElem?_eq_some_iff.1 h.row).1
theorem KRd.only {K : KS} {R p n : Nat} {w w' : World} {S : List Nat} (h : KRd K R w p n) (o : Only S w w') (hS : ∀ g ∈ S, K.hi ≤ g ∧ g ≠ R) : KRd K R w' p n :=
  { h with
    row := o.rowAt h.row (fun hm => (hS R hm).2 rfl)
    units := h.units.only o (fun g hg => .inr (hS g hg).1)
    err := h.err.only o (fun g hg => .inr (hS g hg).1) }
theorem KRd.quiet {K : KS} {R p n : Nat} {w w' : World} (h : KRd K R w p n) (o : Only [] w w') : KRd K R w' p n := h.only o (by simp)
theorem KRd.c1 {K : KS} {R p n : Nat} {w : World} (h : KRd K R w p n) : w.cell? ⟨R, 1, none⟩ = some (.int .i64 n) := (row4_cells h.row).2.1
theorem KRd.set {K : KS} {R p n p' n' : Nat} {w : World} (h : KRd K R w p n) (hs : SplAt K.l K.E p' (K.U.drop n')) (hl : n' ≤ K.U.length) (hz : n' = 0 → p' = 0) (hla : ∀ u, 0 < n' → K.U[n' - 1]? = some u → u.end_ = p') (hp : p' ≤ K.l.length) :
    KRd K R (w.setCell ⟨R, 1, none⟩ (.int .i64 n')) p' n' := by
  have o : Only [R] w (w.setCell ⟨R, 1, none⟩ (.int .i64 n')) := (Only.refl _ _).setCell (by simp) _
  have hhi := h.hiR
  exact ⟨heap_setCell_same w R 1 _ _ _ h.row, h.units.only o (by intro g hg; rw [List.mem_singleton] at hg; subst hg; exact .inr hhi), h.err.only o (by intro g hg; rw [List.mem_singleton] at hg; subst hg; exact .inr hhi), hs, hl, h.hiR, hz, hla, h.r8, h.small, hp, h.nle⟩
/-- a next unit -/
theorem KRd.next {K : KS} {R p n : Nat} {w : World} (h : KRd K R w p n) (hn : n < K.U.length) : ∃ u, K.U[n]? = some u ∧ K.U.drop n = u :: K.U.drop (n + 1) ∧ p < K.l.length ∧ peekR K.l p = .ok u ∧ SplAt K.l K.E u.end_ (K.U.drop (n + 1)) ∧ u.at_ = p ∧ p < u.end_ ∧ u.end_ ≤ K.l.length ∧ 0 ≤ u.kind ∧ u.kind ≤ 255 := by
  have hd := List.drop_eq_getElem_cons hn
  have hs := h.spl
  rw [hd] at hs
  obtain ⟨h1, h2, h3⟩ := hs.peek_cons
  have h4 := peekR_ok h2 h.ple h.r8
  exact ⟨K.U[n], List.getElem?_eq_getElem hn, hd, h1, h2, h3, h4.1, h4.2.1, h4.2.2.1, h4.2.2.2.1, h4.2.2.2.2.1⟩
theorem KRd.no {K : KS} {R p n : Nat} {w : World} (h : KRd K R w p n) (hn : ¬ n < K.U.length) : n = K.U.length ∧ ((p = K.l.length ∧ K.E = none ∧ peekR K.l p = .error ⟨[], 1⟩) ∨ (p < K.l.length ∧ ∃ er, K.E = some er ∧ peekR K.l p = .error er)) := by
  have hs := h.spl
  rw [List.drop_eq_nil_of_le (by omega)] at hs
  exact ⟨by have := h.le; omega, hs.peek_nil⟩
/-- what take hands back -/
def KTakeP (K : KS) (R : Nat) (w : World) (p n : Nat) (e : Ending) (w' : World) : Prop :=
  Only [R] w w' ∧ match peekR K.l p with
    | .ok u => ∃ dv, e = .returned (.tuple #[.agg #[.int .i64 u.kind, dv, .int .i64 u.at_, .int .i64 u.end_], .agg #[.int .i64 0, .slice none 0 0]]) ∧ Ints .u8 K.lo K.hi w' dv u.data ∧ KRd K R w' u.end_ (n + 1)
    | .error er => ∃ sa scap, e = .returned (.tuple #[.agg #[.int .i64 0, .slice none 0 0, .int .i64 0, .int .i64 0], .agg #[.int .i64 er.code, .slice sa er.path.length scap]]) ∧ Cells 2 K.lo K.hi w' (.slice sa er.path.length scap) er.path.length (flat er.path) ∧ KRd K R w' p n

/-- the six result cells, written -/
theorem set6 {w wf : World} {A B : Nat} {x0 x1 x2 x3 y0 y1 a0 a1 a2 a3 b0 b1 : Value} {t s : TypeId} (hA : w.heap[A]? = some (.cells #[a0, a1, a2, a3] t (0, 0))) (hB : w.heap[B]? = some (.cells #[b0, b1] s (0, 0))) (hAB : A ≠ B)
    (hw : ((((((w.setCell ⟨A, 0, none⟩ x0).setCell ⟨A, 1, none⟩ x1).setCell ⟨A, 2, none⟩ x2).setCell ⟨A, 3, none⟩ x3).setCell ⟨B, 0, none⟩ y0).setCell ⟨B, 1, none⟩ y1) = wf) :
    (wf.cell? ⟨A, 0, none⟩ = some x0 ∧ wf.cell? ⟨A, 1, none⟩ = some x1 ∧ wf.cell? ⟨A, 2, none⟩ = some x2 ∧ wf.cell? ⟨A, 3, none⟩ = some x3) ∧ (wf.cell? ⟨B, 0, none⟩ = some y0 ∧ wf.cell? ⟨B, 1, none⟩ = some y1) ∧ Only [A, B] w wf := by
  have o4 : Only [A] w ((((w.setCell ⟨A, 0, none⟩ x0).setCell ⟨A, 1, none⟩ x1).setCell ⟨A, 2, none⟩ x2).setCell ⟨A, 3, none⟩ x3) := ((((Only.refl _ _).setCell (by simp) _).setCell (by simp) _).setCell (by simp) _).setCell (by simp) _
  have r4 := row4 (v0 := x0) (v1 := x1) (v2 := x2) (v3 := x3) hA
  have rB := o4.rowAt hB (by simpa using fun h => hAB h.symm)
  generalize ((((w.setCell ⟨A, 0, none⟩ x0).setCell ⟨A, 1, none⟩ x1).setCell ⟨A, 2, none⟩ x2).setCell ⟨A, 3, none⟩ x3) = w4 at *
  have o2 : Only [B] w4 wf := by rw [← hw]; exact ((Only.refl _ _).setCell (by simp) _).setCell (by simp) _
  have r2 : wf.heap[B]? = some (.cells #[y0, y1] s (0, 0)) := by
    rw [← hw]; exact heap_setCell_same _ B 1 _ _ y1 (heap_setCell_same _ B 0 _ _ y0 rB)
  have r4' := o2.rowAt r4 (by simpa using hAB)
  obtain ⟨k0, k1, _⟩ := row2 r2
  exact ⟨row4_cells r4', ⟨k0, k1⟩, o4.trans o2 (by simp) (by simp)⟩

theorem Only.tail2 {S : List Nat} {A B : Nat} {w a b : World} (h : Only S w a) (o : Only [A, B] a b) (hA : w.heap.size ≤ A) (hB : w.heap.size ≤ B) : Only S w b :=
  h.trans o (fun g h _ => h) (fun g hg hlt => by simp only [List.mem_cons, List.not_mem_nil, or_false] at hg; omega)
theorem KRd.tail2 {K : KS} {R p n A B : Nat} {a b : World} (h : KRd K R a p n) (o : Only [A, B] a b) (hA : R < A) (hB : R < B) : KRd K R b p n :=
  h.only o (fun g hg => by have := h.hiR; simp only [List.mem_cons, List.not_mem_nil, or_false] at hg; omega)
theorem Ints.tail2 {k : IntKind} {lo hi A B : Nat} {a b : World} {v : Value} {l : List Int} (h : Ints k lo hi a v l) (o : Only [A, B] a b) (hA : hi ≤ A) (hB : hi ≤ B) : Ints k lo hi b v l :=
  h.only o (fun g hg => by simp only [List.mem_cons, List.not_mem_nil, or_false] at hg; omega)
theorem Cells.tail2 {size lo hi n A B : Nat} {a b : World} {v : Value} {xs : List Value} (h : Cells size lo hi a v n xs) (o : Only [A, B] a b) (hA : hi ≤ A) (hB : hi ≤ B) : Cells size lo hi b v n xs :=
  h.only o (fun g hg => by simp only [List.mem_cons, List.not_mem_nil, or_false] at hg; omega)
theorem KRd.drew {K : KS} {R p n : Nat} {w : World} (h : KRd K R w p n) : KRd K R w.drew p n := h.quiet (Only.refl _ _).drew

set_option maxRecDepth 100000 in
set_option maxHeartbeats 8000000 in
theorem ktake_any {K : KS} {R p n : Nat} {w : World} (h : KRd K R w p n) :
    Calls Tryz.prog 40 #[.pointer (some ⟨R, 0, none⟩)] w (KTakeP K R w p n) := by
  suffices key : ∀ Q : Ending → World → Prop, Hid (∀ e w', KTakeP K R w p n e w' → Q e w') → Calls Tryz.prog 40 #[.pointer (some ⟨R, 0, none⟩)] w Q from key _ (Lib.hid fun _ _ h => h)
  intro Q HPost
  have hRl := h.lt
  obtain ⟨ua, ucap, huv, hulc, hum, hat⟩ := h.units.open
  have huc := h.row
  rw [huv] at huc
  obtain ⟨_, sa, scap, hsv, _⟩ := h.err
  rw [hsv] at huc
  have hnl := h.le
  have hul : K.U.length ≤ 1000000000000 := Nat.le_trans h.nle h.small
  have hO : ∀ o o', Only [] w ((w.alloc o).alloc o') := fun o o' => (Only.new _ _).q (Only.new _ _)
  have HK := Lib.hid h
  by_cases hlt : n < K.U.length
  · obtain ⟨u, hu, _, hpl, hpk, hsp, huat, hue, hule, huk0, huk1⟩ := h.next hlt
    obtain ⟨b, off, dv, rfl, hb1, hb2, m0, m1, m2, m3, hdv⟩ := hat n u hu
    obtain ⟨da, dcap, rfl, _⟩ := hdv.open
    have Hpk := Lib.hid hpk
    have Hsp := Lib.hid hsp
    have Hdv := Lib.hid hdv
    have Hu := Lib.hid hu
    have Hule := Lib.hid hule
    have Hue := Lib.hid hue
    have Huat := Lib.hid huat
    have hhiR := h.hiR
    generalize hpe : (pathE K.E).length = pe at *
    generalize hcd : codeE K.E = ec at *
    obtain ⟨uk, ud, uat, uend⟩ := u
    have hlti : (n : Int) < (K.U.length : Int) := by omega
    have hn0 : (0 : Int) ≤ (n : Int) := by omega
    have c0 := fun o o' => (hO o o').cell (row4_cells huc).1 (by simp)
    have c1 := fun o o' => (hO o o').cell (row4_cells huc).2.1 (by simp)
    have Huv := Lib.hid huv
    have hbR : b ≠ R := by omega
    have hrow := Lib.hid huc
    have hset : ∀ W N1, Only [] w W → N1 = ((n : Int) + 1) → KRd K R (W.setCell ⟨R, 1, none⟩ (.int .i64 N1)) uend (n + 1) := by
      rintro W N1 hOW rfl
      exact (h.quiet hOW).set (n' := n + 1) hsp (by omega) (by omega) (fun u _ h => by rw [Nat.add_sub_cancel, hu] at h; injection h with h; rw [← h]) hule
    have Hset := Lib.hid hset
    simp only at m0 m1 m2 m3
    have M := Lib.hid (And.intro (And.intro m0 m1) (And.intro m2 m3))
    clear h hat hpk hsp hdv hu hule hue huat huc hpe hcd huv hsv m0 m1 m2 m3 hset
    generalize K.U.length = ul at *
    go_enter Tryz.func40, Tryz.ntmps40
    go_wp2_with fail
    go_quiet (fail)
    generalize hW : World.drewN _ _ = W
    have hOW : Only [] w W := by rw [← hW]; exact (hO _ _).drewN _
    have rA : W.heap[w.heap.size]? = some (.cells #[.int .i64 0, .slice none 0 0, .int .i64 0, .int .i64 0] 106 (0, 0)) := by
      rw [← hW]; show ((w.alloc _).alloc _).heap[_]? = _; rw [Below.heap_alloc _ _ _ (by simp)]; exact heap_alloc_new _ _
    have rB : W.heap[w.heap.size + 1]? = some (.cells #[.int .i64 0, .slice none 0 0] 42 (0, 0)) := by
      rw [← hW]; exact heap_alloc_new' (w := w.alloc _) (by simp)
    have rR := hOW.row hrow.out
    obtain ⟨k0, k1, _, _⟩ := row4_cells rR
    have kf := frozen_of_row W R 1 _ _ rR
    clear c0 c1 hW
    have hw1 : IntKind.i64.wrap ((n : Int) + 1) = n + 1 := by rw [IntKind.wrap_i64]; omega
    go_wp2_with fail
    have oW4 : Only [R] W (W.setCell ⟨R, 1, none⟩ (.int .i64 ((n : Int) + 1))) := (Only.refl _ _).setCell (by simp) _
    have rA4 := oW4.rowAt rA (by simp; omega)
    have rB4 := oW4.rowAt rB (by simp; omega)
    have hK4 : KRd K R (W.setCell ⟨R, 1, none⟩ (.int .i64 ((n : Int) + 1))) uend (n + 1) :=
      Hset.out _ _ hOW rfl
    have rR4 : (W.setCell ⟨R, 1, none⟩ (.int .i64 ((n : Int) + 1))).heap[R]? = _ := heap_setCell_same W R 1 _ _ _ rR
    have hw2 : IntKind.i64.wrap (((n : Int) + 1) - 1) = n := by rw [IntKind.wrap_i64]; omega
    generalize ((n : Int) + 1) = N1 at *
    obtain ⟨⟨m0, m1⟩, m2, m3⟩ := M.out
    have q0 := oW4.cell (hOW.cell m0 (by simp)) (by simpa using hbR)
    have q1 := oW4.cell (hOW.cell m1 (by simp)) (by simpa using hbR)
    have q2 := oW4.cell (hOW.cell m2 (by simp)) (by simpa using hbR)
    have q3 := oW4.cell (hOW.cell m3 (by simp)) (by simpa using hbR)
    have hdv4 := (Hdv.out.quiet hOW).only oW4 (by intro g hg; rw [List.mem_singleton] at hg; subst hg; exact .inr hhiR)
    generalize hW4 : World.setCell W _ _ = W4 at *
    obtain ⟨d0, d1, _, _⟩ := row4_cells rR4
    obtain ⟨a0, a1, a2, a3⟩ := row4_cells rA4
    obtain ⟨b0, b1, bf0, bf1, _⟩ := row2 rB4
    have f0 := frozen_of_row _ _ 0 _ _ rA4
    have f1 := frozen_of_row _ _ 1 _ _ rA4
    have f2 := frozen_of_row _ _ 2 _ _ rA4
    have f3 := frozen_of_row _ _ 3 _ _ rA4
    have HF := Lib.hid (And.intro (And.intro rA4 rB4) (And.intro hOW oW4))
    have HK4 := Lib.hid hK4
    have Hdv4 := Lib.hid hdv4
    clear rA rB rR k0 k1 kf hw1 hW4 rR4 rA4 rB4 m0 m1 m2 m3 oW4 hOW hK4 hdv4
    go_region
    go_wp2_with fail
    generalize hWf : World.setCell _ _ _ = Wf
    obtain ⟨⟨rA4, rB4⟩, hOW, oW4⟩ := HF.out
    obtain ⟨⟨t0, t1, t2, t3⟩, ⟨s0, s1⟩, oF⟩ := set6 rA4 rB4 (by omega) hWf
    refine bodyPost_ret (v := .tuple #[.agg #[.int .i64 uk, .slice da ud.length dcap, .int .i64 uat, .int .i64 uend], .agg #[.int .i64 0, .slice none 0 0]]) (by simp [results, Tryz.results40, go_sem, t0, t1, t2, t3, s0, s1]) rfl (HPost.out _ _ ?_)
    unfold KTakeP
    rw [Hpk.out]
    have hA : Only [R] w W4 := (hOW.mono (by simp)).trans oW4 (fun g h _ => h) (fun g h _ => h)
    exact ⟨(hA.tail2 oF (by omega) (by omega)).drew, _, rfl, (Hdv4.out.tail2 oF (by omega) (by omega)).quiet (Only.refl _ _).drew, (HK4.out.tail2 oF (by omega) (by omega)).drew⟩
  · obtain ⟨hne, hno⟩ := h.no hlt
    obtain ⟨er, hpk, hE⟩ : ∃ er, peekR K.l p = .error er ∧ ((K.E = none ∧ er = ⟨[], 1⟩) ∨ K.E = some er) := by
      rcases hno with ⟨_, h2, h3⟩ | ⟨_, er, h2, h3⟩
      · exact ⟨_, h3, .inl ⟨h2, rfl⟩⟩
      · exact ⟨er, h3, .inr h2⟩
    have hlti : ¬ (n : Int) < (K.U.length : Int) := by omega
    have c0 := fun o o' => (hO o o').cell (row4_cells huc).1 (by simp)
    have c1 := fun o o' => (hO o o').cell (row4_cells huc).2.1 (by simp)
    have Hpk := Lib.hid hpk
    have hrow := Lib.hid huc
    have hhiR := h.hiR
    have herr := h.err
    rw [hsv] at herr
    have Herr := Lib.hid herr
    have hne2 := kpeekR_err hpk
    clear h hat hpk huc huv hsv hno hne herr
    generalize K.U.length = ul at *
    rcases hE with ⟨hE, rfl⟩ | hE
    · have hcd : codeE K.E = 0 := by rw [hE]; rfl
      rw [hcd] at hrow
      clear hcd hE hne2 Herr
      generalize (pathE K.E).length = pe at *
      go_enter Tryz.func40, Tryz.ntmps40
      go_wp2_with fail
      go_quiet (fail)
      generalize hW : World.drewN _ _ = W
      have hOW : Only [] w W := by rw [← hW]; exact (hO _ _).drewN _
      have rA : W.heap[w.heap.size]? = some zUnit := by
        rw [← hW]; show ((w.alloc _).alloc _).heap[_]? = _; rw [Below.heap_alloc _ _ _ (by simp)]; exact heap_alloc_new _ _
      have rB : W.heap[w.heap.size + 1]? = some zErr := by
        rw [← hW]; exact heap_alloc_new' (w := w.alloc _) (by simp)
      obtain ⟨k0, k1, k2, k3⟩ := row4_cells (hOW.row hrow.out)
      clear c0 c1 hW
      go_wp2_with fail
      go_at_call 20
      refine (ok_any _ _ _).mono ?_
      rintro e w1 ⟨rfl, hq1⟩
      simp only [BEq.rfl]
      go_wp2_with fail
      go_at_call 36
      refine (fail_any _ _).mono ?_
      rintro e w2 ⟨rfl, hq2⟩
      have rA2 := hq2.row (hq1.row rA)
      have rB2 := hq2.row (hq1.row rB)
      obtain ⟨⟨a0, a1, a2, a3⟩, ⟨f0, f1, f2, f3⟩, b0, b1, bf0, bf1⟩ := res6 rA2 rB2
      have hO2 := (hOW.q hq1).q hq2
      clear rA rB hq1 hq2 k0 k1 k2 k3 hOW
      go_wp2_with fail
      generalize hWf : World.setCell _ _ _ = Wf
      obtain ⟨⟨t0, t1, t2, t3⟩, ⟨s0, s1⟩, oF⟩ := set6 rA2 rB2 (by omega) hWf
      refine bodyPost_ret (v := .tuple #[.agg #[.int .i64 0, .slice none 0 0, .int .i64 0, .int .i64 0], .agg #[.int .i64 1, .slice none 0 0]]) (by simp [results, Tryz.results40, go_sem, t0, t1, t2, t3, s0, s1]) rfl (HPost.out _ _ ?_)
      unfold KTakeP
      rw [Hpk.out]
      exact ⟨(hO2.mono (S := []) (U := [R]) (by simp)).tail2 oF (by omega) (by omega), none, 0, rfl, Cells.nil _ _ _ _, (HK.out.quiet hO2).tail2 oF (by omega) (by omega)⟩
    · have hcd : codeE K.E = er.code := by rw [hE]; rfl
      have hpe : pathE K.E = er.path := by rw [hE]; rfl
      rw [hpe] at Herr
      rw [hcd, hpe] at hrow
      have hcb : (er.code == 0) = false := by rw [beq_eq_false_iff_ne]; exact hne2.1
      clear hcd hpe hE hne2
      generalize hec : er.code = ec at *
      generalize her : er.path.length = pe at *
      have Hec := Lib.hid hec
      have Her := Lib.hid her
      clear hec her
      go_enter Tryz.func40, Tryz.ntmps40
      go_wp2_with fail
      go_quiet (fail)
      generalize hW : World.drewN _ _ = W
      have hOW : Only [] w W := by rw [← hW]; exact (hO _ _).drewN _
      have rA : W.heap[w.heap.size]? = some zUnit := by
        rw [← hW]; show ((w.alloc _).alloc _).heap[_]? = _; rw [Below.heap_alloc _ _ _ (by simp)]; exact heap_alloc_new _ _
      have rB : W.heap[w.heap.size + 1]? = some zErr := by
        rw [← hW]; exact heap_alloc_new' (w := w.alloc _) (by simp)
      obtain ⟨k0, k1, k2, k3⟩ := row4_cells (hOW.row hrow.out)
      clear c0 c1 hW
      go_wp2_with fail
      go_at_call 20
      refine (ok_any _ _ _).mono ?_
      rintro e w1 ⟨rfl, hq1⟩
      rw [hcb]
      have rA2 := hq1.row rA
      have rB2 := hq1.row rB
      have hO2 := hOW.q hq1
      obtain ⟨_, _, k2, k3⟩ := row4_cells (hO2.row hrow.out)
      obtain ⟨⟨a0, a1, a2, a3⟩, ⟨f0, f1, f2, f3⟩, b0, b1, bf0, bf1⟩ := res6 rA2 rB2
      have HRA := Lib.hid rA2
      have HRB := Lib.hid rB2
      have HO2 := Lib.hid hO2
      clear rA rB hq1 hOW rA2 rB2 hO2
      go_wp2_with fail
      go_region
      go_wp2_with fail
      generalize hWf : World.setCell _ _ _ = Wf
      obtain ⟨⟨t0, t1, t2, t3⟩, ⟨s0, s1⟩, oF⟩ := set6 HRA.out HRB.out (by omega) hWf
      refine bodyPost_ret (v := .tuple #[.agg #[.int .i64 0, .slice none 0 0, .int .i64 0, .int .i64 0], .agg #[.int .i64 ec, .slice sa pe scap]]) (by simp [results, Tryz.results40, go_sem, t0, t1, t2, t3, s0, s1]) rfl (HPost.out _ _ ?_)
      have hO2 := HO2.out
      unfold KTakeP
      rw [Hpk.out]
      simp only
      rw [Her.out, Hec.out]
      exact ⟨((hO2.mono (S := []) (U := [R]) (by simp)).tail2 oF (by omega) (by omega)).drew, sa, scap, rfl, ((Herr.out.only hO2 (by simp)).tail2 oF (by omega) (by omega)).only (Only.refl [] _).drew (by simp), ((HK.out.quiet hO2).tail2 oF (by omega) (by omega)).drew⟩
#print axioms ktake_any
end Go.Proofs.YtmbjehnddgcboaaGreatDoor
