/- Joined texts: EEnQ, EFitC. Conditions: each part names its own. -/
import Derived.Test.YtmgbbgffkakcaaaGreatDoorF1
import Derived.Test.YtmgbbgffkakcaaaGreatDoorF2
namespace Go.Proofs.YtmgbbgffkakcaaaGreatDoor
open Go.RowKit
set_option linter.unusedVariables false
set_option linter.unusedSimpArgs false
set_option maxRecDepth 100000
set_option maxHeartbeats 16000000
/-- a coded frame's bytes and a built frame's samples -/
def EncK (lo hi : Nat) (w : World) (dv : Value) (D : List Int) (fv : Value) (P : List Int) : Prop := Ints .u8 lo hi w dv D ∧ Ints .i64 lo hi w fv P
theorem EncK.only {lo hi : Nat} {w w' : World} {dv fv : Value} {D P : List Int} {S : List Nat} (h : EncK lo hi w dv D fv P) (o : Only S w w') (hS : ∀ g ∈ S, g < lo ∨ hi ≤ g) : EncK lo hi w' dv D fv P := ⟨h.1.only o hS, h.2.only o hS⟩
/-- what a coder of frames hands back: a coded frame, a built one, an error -/
def EncQ (c : Coded) (f : FrameD) (v : Value) (w : World) (e : Ending) (w' : World) : Prop :=
 Only [] w w' ∧ ∃ d n f0 n0, e = .returned (.tuple #[.agg #[.int .i64 c.kind, .slice d c.data.length n], .agg #[.int .i64 f.W, .int .i64 f.H, .slice f0 f.pix.length n0], v]) ∧ EncK w.heap.size w'.heap.size w' (.slice d c.data.length n) c.data (.slice f0 f.pix.length n0) f.pix
def qCod (src prev : FrameD) (key : Bool) (qp reach : Int) : Coded := match checkE src prev key qp reach with
 | some _ => ⟨0, []⟩
 | none => codedE src prev key qp reach.toNat
def qBlt (src prev : FrameD) (key : Bool) (qp reach : Int) : FrameD := match checkE src prev key qp reach with
 | some _ => frame0
 | none => (encF src prev key qp reach.toNat).1
theorem enc_at {src prev : FrameD} {key : Bool} {qp reach : Int} (h : checkE src prev key qp reach = none) : qCod src prev key qp reach = codedE src prev key qp reach.toNat ∧ qBlt src prev key qp reach = (encF src prev key qp reach.toNat).1 := by
 unfold qCod qBlt; rw [h]; exact ⟨rfl, rfl⟩
theorem enc_no {src prev : FrameD} {key : Bool} {qp reach k : Int} (h : checkE src prev key qp reach = some k) : qCod src prev key qp reach = ⟨0, []⟩ ∧ qBlt src prev key qp reach = frame0 := by
 unfold qCod qBlt; rw [h]; exact ⟨rfl, rfl⟩
theorem enc_side {src prev : FrameD} {key : Bool} {qp reach : Int} (h : checkE src prev key qp reach = none) : FrOk (encF src prev key qp reach.toNat).1 ∧ (encF src prev key qp reach.toNat).1.W = src.W ∧ (encF src prev key qp reach.toNat).1.H = src.H := by
 obtain ⟨hsf, hmt, hq0, hq1, hr0, hr1⟩ := checkE_none h
 have hpe := enc_peak (q := qp.toNat) (reach := reach.toNat) hsf (fun h => mates_ok (hmt h)) (by omega) (by omega)
 rw [Int.toNat_of_nonneg hq0] at hpe
 exact ⟨hpe.1, hpe.2.1, hpe.2.2.1⟩
theorem checkE_key (src p p' : FrameD) (qp reach : Int) : checkE src p true qp reach = checkE src p' true qp reach := by unfold checkE; simp
/-- a key frame hangs on nothing ahead -/
theorem enc_key (src p p' : FrameD) (qp reach : Int) : qCod src p true qp reach = qCod src p' true qp reach ∧ qBlt src p true qp reach = qBlt src p' true qp reach := by
 cases h : checkE src p true qp reach with
 | some k =>
  have h' : checkE src p' true qp reach = some k := by rw [checkE_key src p' p]; exact h
  rw [(enc_no h).1, (enc_no h).2, (enc_no h').1, (enc_no h').2]; exact ⟨rfl, rfl⟩
 | none =>
  have h' : checkE src p' true qp reach = none := by rw [checkE_key src p' p]; exact h
  obtain ⟨hsf, -, hq0, hq1, hr0, hr1⟩ := checkE_none h
  have hk := enc_keys (p := p) (p' := p') (q := qp.toNat) (reach := reach.toNat) hsf (by omega) (by omega)
  rw [Int.toNat_of_nonneg hq0] at hk
  rw [(enc_at h).1, (enc_at h).2, (enc_at h').1, (enc_at h').2]
  unfold codedE
  rw [hk]; exact ⟨rfl, rfl⟩
theorem encq_any {lo hi lo' hi' : Nat} {sv pv : Value} {src prev : FrameD} {w : World} (key : Bool) (qp reach : Int) (hs : Ints .i64 lo hi w sv src.pix) (hp : Ints .i64 lo' hi' w pv prev.pix) (hh : hi ≤ w.heap.size) (hh' : hi' ≤ w.heap.size) :
  Calls Tryz.prog 14 #[.agg #[.int .i64 src.W, .int .i64 src.H, sv], .agg #[.int .i64 prev.W, .int .i64 prev.H, pv], .bool key, .int .i64 qp, .int .i64 reach] w (EncQ (qCod src prev key qp reach) (qBlt src prev key qp reach) (codeV (checkE src prev key qp reach)) w) := by
 refine (eframe_any key qp reach hs hp hh hh').mono ?_
 rintro e w' ⟨hq, hm⟩
 cases h : checkE src prev key qp reach with
 | some k =>
  rw [h] at hm
  rw [(enc_no h).1, (enc_no h).2]
  exact ⟨hq, none, 0, none, 0, hm, Ints.nil _ _ _ _, Ints.nil _ _ _ _⟩
 | none =>
  rw [h] at hm
  obtain ⟨dv, fv, rfl, hd, hf⟩ := hm
  rw [(enc_at h).1, (enc_at h).2]
  obtain ⟨d, n, rfl, -⟩ := hd.open
  obtain ⟨f0, n0, rfl, -⟩ := hf.open
  exact ⟨hq, d, n, f0, n0, by rw [(enc_side h).2.1, (enc_side h).2.2]; rfl, hd, hf⟩
def fitC (src prev : FrameD) (key : Bool) (c : Cfg) (most : Int) : Coded := match fitE src prev key c most with
 | .error _ => ⟨0, []⟩
 | .ok x => x.1
def fitB (src prev : FrameD) (key : Bool) (c : Cfg) (most : Int) : FrameD := match fitE src prev key c most with
 | .error _ => frame0
 | .ok x => x.2
def fitV (src prev : FrameD) (key : Bool) (c : Cfg) (most : Int) : Value := match fitE src prev key c most with
 | .error k => codeV (some k)
 | .ok _ => codeV none
theorem fitq_any {lo hi lo' hi' : Nat} {sv pv : Value} {src prev : FrameD} {w : World} (key : Bool) (c : Cfg) (most : Int) (hs : Ints .i64 lo hi w sv src.pix) (hp : Ints .i64 lo' hi' w pv prev.pix) (hh : hi ≤ w.heap.size) (hh' : hi' ≤ w.heap.size) :
  Calls Tryz.prog 21 #[.agg #[.int .i64 src.W, .int .i64 src.H, sv], .agg #[.int .i64 prev.W, .int .i64 prev.H, pv], .bool key, c.v, .int .i64 most] w (EncQ (fitC src prev key c most) (fitB src prev key c most) (fitV src prev key c most) w) := by
 refine (efit_any key c most hs hp hh hh').mono ?_
 rintro e w' ⟨hq, hm⟩
 unfold fitC fitB fitV
 cases h : fitE src prev key c most with
 | error k =>
  rw [h] at hm
  exact ⟨hq, none, 0, none, 0, hm, Ints.nil _ _ _ _, Ints.nil _ _ _ _⟩
 | ok x =>
  rw [h] at hm
  obtain ⟨dv, fv, rfl, hd, hf⟩ := hm
  obtain ⟨d, n, rfl, -⟩ := hd.open
  obtain ⟨f0, n0, rfl, -⟩ := hf.open
  exact ⟨hq, d, n, f0, n0, rfl, hd, hf⟩
theorem frames_two {W : World} {f p : FrameD} {pv pu : Value} {lo hi lo' hi' : Nat} (hp : Ints .i64 lo hi W pv f.pix) (hu : Ints .i64 lo' hi' W pu p.pix) :
  FramesAt 0 (max (max hi hi') (W.heap.size + 1)) (W.alloc (.cells #[.int .i64 f.W, .int .i64 f.H, pv, .int .i64 p.W, .int .i64 p.H, pu] 24)) (.slice (some ⟨W.heap.size, 0, none⟩) 2 2) [f, p] := by
 have hr := heap_alloc_new W (.cells #[.int .i64 f.W, .int .i64 f.H, pv, .int .i64 p.W, .int .i64 p.H, pu] 24)
 refine ⟨fun i j => if i = 0 then (if j = 0 then .int .i64 f.W else if j = 1 then .int .i64 f.H else pv) else (if j = 0 then .int .i64 p.W else if j = 1 then .int .i64 p.H else pu), ⟨some ⟨W.heap.size, 0, none⟩, 2, rfl, Nat.le_refl _, by simp [maxLen], fun _ => ⟨W.heap.size, 0, rfl, by omega, by omega, fun i j hi hj => ?_⟩⟩, fun i hi => ?_⟩
 ·have hi0 : i = 0 ∨ i = 1 := by simp at hi; omega
  rw [cell_of_row _ _ _ _ _ _ hr]
  rcases hi0 with rfl | rfl <;> rcases (by omega : j = 0 ∨ j = 1 ∨ j = 2) with rfl | rfl | rfl <;> rfl
 ·have hi0 : i = 0 ∨ i = 1 := by simp at hi; omega
  rcases hi0 with rfl | rfl
  ·exact ⟨rfl, rfl, (hp.quiet (Only.new W _)).mono (by omega) (by omega)⟩
  ·exact ⟨rfl, rfl, (hu.quiet (Only.new W _)).mono (by omega) (by omega)⟩
theorem frames_three {W : World} {f p o : FrameD} {pv pu po : Value} {hi hi' hi2 : Nat} (hp : Ints .i64 0 hi W pv f.pix) (hu : Ints .i64 0 hi' W pu p.pix) (hv : Ints .i64 0 hi2 W po o.pix) :
  FramesAt 0 (max (max hi (max hi' hi2)) (W.heap.size + 1)) (W.alloc (.cells #[.int .i64 f.W, .int .i64 f.H, pv, .int .i64 p.W, .int .i64 p.H, pu, .int .i64 o.W, .int .i64 o.H, po] 24)) (.slice (some ⟨W.heap.size, 0, none⟩) 3 3) [f, p, o] := by
 have hr := heap_alloc_new W (.cells #[.int .i64 f.W, .int .i64 f.H, pv, .int .i64 p.W, .int .i64 p.H, pu, .int .i64 o.W, .int .i64 o.H, po] 24)
 refine ⟨fun i j => if i = 0 then (if j = 0 then .int .i64 f.W else if j = 1 then .int .i64 f.H else pv) else if i = 1 then (if j = 0 then .int .i64 p.W else if j = 1 then .int .i64 p.H else pu) else (if j = 0 then .int .i64 o.W else if j = 1 then .int .i64 o.H else po), ⟨some ⟨W.heap.size, 0, none⟩, 3, rfl, Nat.le_refl _, by simp [maxLen], fun _ => ⟨W.heap.size, 0, rfl, by omega, by omega, fun i j hi hj => ?_⟩⟩, fun i hi => ?_⟩
 ·have hi0 : i = 0 ∨ i = 1 ∨ i = 2 := by simp at hi; omega
  rw [cell_of_row _ _ _ _ _ _ hr]
  rcases hi0 with rfl | rfl | rfl <;> rcases (by omega : j = 0 ∨ j = 1 ∨ j = 2) with rfl | rfl | rfl <;> rfl
 ·have hi0 : i = 0 ∨ i = 1 ∨ i = 2 := by simp at hi; omega
  rcases hi0 with rfl | rfl | rfl
  ·exact ⟨rfl, rfl, (hp.quiet (Only.new W _)).mono (by omega) (by omega)⟩
  ·exact ⟨rfl, rfl, (hu.quiet (Only.new W _)).mono (by omega) (by omega)⟩
  ·exact ⟨rfl, rfl, (hv.quiet (Only.new W _)).mono (by omega) (by omega)⟩
structure FitOk (src prev : FrameD) (key : Bool) (c : Cfg) (most : Int) (C : Coded) (B : FrameD) : Prop where
 may : mayB c = true
 fok : FrOk src
 prv : key = false → matesB prev src.W src.H = true
 fit : (C.data.length : Int) + 8 ≤ most
 len : C.data.length ≤ 65000
 ok : FrOk B
 how : (∃ q, c.qmin ≤ q ∧ q ≤ c.qmax ∧ checkE src prev key q c.reach = none ∧ C = codedE src prev key q c.reach.toNat ∧ B = (encF src prev key q c.reach.toNat).1) ∨
  (((key = true ∧ C = ⟨4, []⟩ ∧ B = newF src.W src.H 128) ∨ (key = false ∧ C = ⟨3, []⟩ ∧ B = prev)) ∧ ∀ q, c.qmin ≤ q → q ≤ c.qmax → checkE src prev key q c.reach = none ∧ most < ((codedE src prev key q c.reach.toNat).data.length : Int) + 8)
theorem fitGo_error {src prev : FrameD} {key : Bool} {reach most : Int} {k : Int} : ∀ (n : Nat) (q : Int), fitGo src prev key reach most n q = .error k → ∃ p, q ≤ p ∧ p < q + n ∧ checkE src prev key p reach = some k
 | 0, q, h => by cases h
 | n + 1, q, h => by
  cases hc : checkE src prev key q reach with
  | some c =>
   rw [fitGo_err hc] at h
   cases h
   exact ⟨q, by omega, by omega, hc⟩
  | none =>
   by_cases hb : ((codedE src prev key q reach.toNat).data.length : Int) + 8 ≤ most
   ·rw [fitGo_ok hc hb] at h; cases h
   ·rw [fitGo_step hc hb] at h
    obtain ⟨p, h1, h2, h3⟩ := fitGo_error n (q + 1) h
    exact ⟨p, by omega, by omega, h3⟩
theorem fitGo_good {src prev : FrameD} {key : Bool} {reach most : Int} {x : Coded × FrameD} : ∀ (n : Nat) (q : Int), fitGo src prev key reach most n q = .ok x →
  (∃ p, q ≤ p ∧ p < q + n ∧ checkE src prev key p reach = none ∧ ((codedE src prev key p reach.toNat).data.length : Int) + 8 ≤ most ∧ x = (codedE src prev key p reach.toNat, (encF src prev key p reach.toNat).1)) ∨
  (x = (if key then (⟨4, []⟩, newF src.W src.H 128) else (⟨3, []⟩, prev)) ∧ ∀ p, q ≤ p → p < q + n → checkE src prev key p reach = none ∧ most < ((codedE src prev key p reach.toNat).data.length : Int) + 8)
 | 0, q, h => .inr ⟨by injection h with h; exact h.symm, fun p h1 h2 => by omega⟩
 | n + 1, q, h => by
  cases hc : checkE src prev key q reach with
  | some c => rw [fitGo_err hc] at h; cases h
  | none =>
   by_cases hb : ((codedE src prev key q reach.toNat).data.length : Int) + 8 ≤ most
   ·rw [fitGo_ok hc hb] at h
    injection h with h
    exact .inl ⟨q, by omega, by omega, hc, hb, h.symm⟩
   ·rw [fitGo_step hc hb] at h
    rcases fitGo_good n (q + 1) h with ⟨p, h1, h2, h3⟩ | ⟨h1, h2⟩
    ·exact .inl ⟨p, by omega, by omega, h3⟩
    ·refine .inr ⟨h1, fun p p1 p2 => ?_⟩
     by_cases hp : p = q
     ·subst hp; exact ⟨hc, by omega⟩
     ·exact h2 p (by omega) (by omega)
theorem mayB_in {c : Cfg} (h : mayB c = true) : 0 ≤ c.qmin ∧ c.qmin ≤ c.qmax ∧ c.qmax ≤ 15 ∧ 0 ≤ c.reach ∧ c.reach ≤ 7 := by
 unfold mayB at h
 rw [decide_eq_true_eq] at h
 exact ⟨h.1, h.2.1, h.2.2.1, h.2.2.2.1, h.2.2.2.2.1⟩
theorem coded_len {src prev : FrameD} {key : Bool} {q reach : Int} (h : checkE src prev key q reach = none) : (codedE src prev key q reach.toNat).data.length ≤ 65000 := by
 obtain ⟨hsf, hmt, hq0, hq1, hr0, hr1⟩ := checkE_none h
 have h5 := (enc_drift (q := q.toNat) (reach := reach.toNat) hsf hmt (by omega) (by omega)).2
 rwa [Int.toNat_of_nonneg hq0] at h5
theorem grey_ok {src : FrameD} (h : FrOk src) : FrOk (newF src.W src.H 128) := newF_ok (newB_iff.2 ⟨⟨h.w0, h.w1, h.w8⟩, ⟨h.h0, h.h1, h.h8⟩, by decide, by decide⟩)
theorem fit_cases (src prev : FrameD) (key : Bool) (c : Cfg) (most : Int) :
  (∃ k, fitV src prev key c most = .iface 36 (.int .i64 k) ∧ fitC src prev key c most = ⟨0, []⟩ ∧ fitB src prev key c most = frame0 ∧ (mayB c = false ∨ most < 8 ∨ mayF src = false ∨ key = false)) ∨
  (fitV src prev key c most = .nilIface ∧ FitOk src prev key c most (fitC src prev key c most) (fitB src prev key c most)) := by
 unfold fitV fitC fitB
 cases h : fitE src prev key c most with
 | error k =>
  refine .inl ⟨k, rfl, rfl, rfl, ?_⟩
  unfold fitE at h
  by_cases hm : mayB c = false
  ·exact .inl hm
  rw [if_neg hm] at h
  by_cases h8 : most < 8
  ·exact .inr (.inl h8)
  rw [if_neg h8] at h
  obtain ⟨p, p0, p1, hp⟩ := fitGo_error _ _ h
  have hi := mayB_in (by simpa using hm)
  unfold checkE at hp
  by_cases hf : mayF src = false
  ·exact .inr (.inr (.inl hf))
  rw [if_neg hf] at hp
  cases key with
  | false => exact .inr (.inr (.inr rfl))
  | true =>
   simp only [Bool.not_true, Bool.false_and, Bool.false_eq_true, if_false] at hp
   rw [if_neg (by omega)] at hp
   cases hp
 | ok x =>
  refine .inr ⟨rfl, ?_⟩
  unfold fitE at h
  by_cases hm : mayB c = false
  ·rw [if_pos hm] at h; cases h
  rw [if_neg hm] at h
  by_cases h8 : most < 8
  ·rw [if_pos h8] at h; cases h
  rw [if_neg h8] at h
  have hm' : mayB c = true := by simpa using hm
  have hi := mayB_in hm'
  rcases fitGo_good _ _ h with ⟨p, p0, p1, hp, hb, rfl⟩ | ⟨hx, hall⟩
  ·obtain ⟨hsf, hmt, -⟩ := checkE_none hp
   exact ⟨hm', hsf, hmt, hb, coded_len hp, (enc_side hp).1, .inl ⟨p, p0, by omega, hp, rfl, rfl⟩⟩
  ·obtain ⟨hsf, hmt, -⟩ := checkE_none (hall c.qmin (by omega) (by omega)).1
   have hall' : ∀ q, c.qmin ≤ q → q ≤ c.qmax → checkE src prev key q c.reach = none ∧ most < ((codedE src prev key q c.reach.toNat).data.length : Int) + 8 := fun q q0 q1 => hall q q0 (by omega)
   cases key with
   | true =>
    rw [if_pos rfl] at hx
    subst hx
    exact ⟨hm', hsf, hmt, by simp; omega, by simp, grey_ok hsf, .inr ⟨.inl ⟨rfl, rfl, rfl⟩, hall'⟩⟩
   | false =>
    rw [if_neg (by simp)] at hx
    subst hx
    exact ⟨hm', hsf, hmt, by simp; omega, by simp, (mates_ok (hmt rfl)).1, .inr ⟨.inr ⟨rfl, rfl, rfl⟩, hall'⟩⟩
/-- what was told of a frame is what was built of it -/
theorem fit_drift {src prev : FrameD} {key : Bool} {c : Cfg} {most : Int} {C : Coded} {B : FrameD} (h : FitOk src prev key c most C B) : frameD C prev src.W src.H = .ok B := by
 have hn : newB src.W src.H 128 = true := newB_iff.2 ⟨⟨h.fok.w0, h.fok.w1, h.fok.w8⟩, ⟨h.fok.h0, h.fok.h1, h.fok.h8⟩, by decide, by decide⟩
 rcases h.how with ⟨q, -, -, hc, rfl, rfl⟩ | ⟨⟨hk, rfl, rfl⟩ | ⟨hk, rfl, rfl⟩, -⟩
 ·obtain ⟨hsf, hmt, hq0, hq1, hr0, hr1⟩ := checkE_none hc
  have h5 := (enc_drift (q := q.toNat) (reach := c.reach.toNat) hsf hmt (by omega) (by omega)).1
  rwa [Int.toNat_of_nonneg hq0] at h5
 ·unfold frameD
  rw [if_neg (by rw [hn]; decide), show readB ⟨4, []⟩ = none by kernel_rfl]
  simp
 ·unfold frameD
  have hm := h.prv hk
  rw [if_neg (by rw [hn]; decide), show readB ⟨3, []⟩ = none by kernel_rfl]
  obtain ⟨-, e1, e2⟩ := mates_ok hm
  obtain ⟨BW, BH, BP⟩ := B
  simp only at e1 e2
  subst e1; subst e2
  simp [hm]
end Go.Proofs.YtmgbbgffkakcaaaGreatDoor
