/- encode.Frame's and encode.Fit's answers, told alike whether they fail or not; lists of two and of three frames. Conditions: the frames read. -/
import Derived.Test.YtmgbbgffkakcaaaGreatDoorF1
import Derived.Test.YtmgbbgffkakcaaaGreatDoorF2
namespace Go.Proofs.YtmgbbgffkakcaaaGreatDoor
open Go.RowKit
set_option linter.unusedVariables false
set_option linter.unusedSimpArgs false
set_option maxRecDepth 100000
set_option maxHeartbeats 16000000
/-- a coded frame's bytes and a built frame's samples -/
def EncK (lo hi : Nat) (w : World) (dv : Value) (D : List Int) (fv : Value) (P : List Int) : Prop := Ints .u8 lo hi w dv D ∧ Ints .i64 lo hi w fv P
theorem EncK.only {lo hi : Nat} {w w' : World} {dv fv : Value} {D P : List Int} {S : List Nat} (h : EncK lo hi w dv D fv P) (o : Only S w w') (hS : ∀ g ∈ S, g < lo ∨ hi ≤ g) : EncK lo hi w' dv D fv P := ⟨h.1.only o hS, h.2.only o hS⟩
/-- what a coder of frames hands back: a coded frame, a built one, an error -/
def EncQ (c : Coded) (f : FrameD) (v : Value) (w : World) (e : Ending) (w' : World) : Prop :=
 Only [] w w' ∧ ∃ d n f0 n0, e = .returned (.tuple #[.agg #[.int .i64 c.kind, .slice d c.data.length n], .agg #[.int .i64 f.W, .int .i64 f.H, .slice f0 f.pix.length n0], v]) ∧ EncK w.heap.size w'.heap.size w' (.slice d c.data.length n) c.data (.slice f0 f.pix.length n0) f.pix
def qCod (src prev : FrameD) (key : Bool) (qp reach : Int) : Coded := match checkE src prev key qp reach with
 | some _ => ⟨0, []⟩
 | none => codedE src prev key qp reach.toNat
def qBlt (src prev : FrameD) (key : Bool) (qp reach : Int) : FrameD := match checkE src prev key qp reach with
 | some _ => frame0
 | none => (encF src prev key qp reach.toNat).1
theorem enc_at {src prev : FrameD} {key : Bool} {qp reach : Int} (h : checkE src prev key qp reach = none) : qCod src prev key qp reach = codedE src prev key qp reach.toNat ∧ qBlt src prev key qp reach = (encF src prev key qp reach.toNat).1 := by
 unfold qCod qBlt; rw [h]; exact ⟨rfl, rfl⟩
theorem enc_no {src prev : FrameD} {key : Bool} {qp reach k : Int} (h : checkE src prev key qp reach = some k) : qCod src prev key qp reach = ⟨0, []⟩ ∧ qBlt src prev key qp reach = frame0 := by
 unfold qCod qBlt; rw [h]; exact ⟨rfl, rfl⟩
theorem enc_side {src prev : FrameD} {key : Bool} {qp reach : Int} (h : checkE src prev key qp reach = none) : FrOk (encF src prev key qp reach.toNat).1 ∧ (encF src prev key qp reach.toNat).1.W = src.W ∧ (encF src prev key qp reach.toNat).1.H = src.H := by
 obtain ⟨hsf, hmt, hq0, hq1, hr0, hr1⟩ := checkE_none h
 have hpe := enc_peak (q := qp.toNat) (reach := reach.toNat) hsf (fun h => mates_ok (hmt h)) (by omega) (by omega)
 rw [Int.toNat_of_nonneg hq0] at hpe
 exact ⟨hpe.1, hpe.2.1, hpe.2.2.1⟩
theorem checkE_key (src p p' : FrameD) (qp reach : Int) : checkE src p true qp reach = checkE src p' true qp reach := by unfold checkE; simp
/-- a key frame hangs on nothing ahead -/
theorem enc_key (src p p' : FrameD) (qp reach : Int) : qCod src p true qp reach = qCod src p' true qp reach ∧ qBlt src p true qp reach = qBlt src p' true qp reach := by
 cases h : checkE src p true qp reach with
 | some k =>
  have h' : checkE src p' true qp reach = some k := by rw [checkE_key src p' p]; exact h
  rw [(enc_no h).1, (enc_no h).2, (enc_no h').1, (enc_no h').2]; exact ⟨rfl, rfl⟩
 | none =>
  have h' : checkE src p' true qp reach = none := by rw [checkE_key src p' p]; exact h
  obtain ⟨hsf, -, hq0, hq1, hr0, hr1⟩ := checkE_none h
  have hk := enc_keys (p := p) (p' := p') (q := qp.toNat) (reach := reach.toNat) hsf (by omega) (by omega)
  rw [Int.toNat_of_nonneg hq0] at hk
  rw [(enc_at h).1, (enc_at h).2, (enc_at h').1, (enc_at h').2]
  unfold codedE
  rw [hk]; exact ⟨rfl, rfl⟩
theorem encq_any {lo hi lo' hi' : Nat} {sv pv : Value} {src prev : FrameD} {w : World} (key : Bool) (qp reach : Int) (hs : Ints .i64 lo hi w sv src.pix) (hp : Ints .i64 lo' hi' w pv prev.pix) (hh : hi ≤ w.heap.size) (hh' : hi' ≤ w.heap.size) :
  Calls Tryz.prog 14 #[.agg #[.int .i64 src.W, .int .i64 src.H, sv], .agg #[.int .i64 prev.W, .int .i64 prev.H, pv], .bool key, .int .i64 qp, .int .i64 reach] w (EncQ (qCod src prev key qp reach) (qBlt src prev key qp reach) (codeV (checkE src prev key qp reach)) w) := by
 refine (eframe_any key qp reach hs hp hh hh').mono ?_
 rintro e w' ⟨hq, hm⟩
 cases h : checkE src prev key qp reach with
 | some k =>
  rw [h] at hm
  rw [(enc_no h).1, (enc_no h).2]
  exact ⟨hq, none, 0, none, 0, hm, Ints.nil _ _ _ _, Ints.nil _ _ _ _⟩
 | none =>
  rw [h] at hm
  obtain ⟨dv, fv, rfl, hd, hf⟩ := hm
  rw [(enc_at h).1, (enc_at h).2]
  obtain ⟨d, n, rfl, -⟩ := hd.open
  obtain ⟨f0, n0, rfl, -⟩ := hf.open
  exact ⟨hq, d, n, f0, n0, by rw [(enc_side h).2.1, (enc_side h).2.2]; rfl, hd, hf⟩
theorem frames_three {W : World} {f p o : FrameD} {pv pu po : Value} {hi hi' hi2 : Nat} (hp : Ints .i64 0 hi W pv f.pix) (hu : Ints .i64 0 hi' W pu p.pix) (hv : Ints .i64 0 hi2 W po o.pix) :
  FramesAt 0 (max (max hi (max hi' hi2)) (W.heap.size + 1)) (W.alloc (.cells #[.int .i64 f.W, .int .i64 f.H, pv, .int .i64 p.W, .int .i64 p.H, pu, .int .i64 o.W, .int .i64 o.H, po] 24)) (.slice (some ⟨W.heap.size, 0, none⟩) 3 3) [f, p, o] := by
 have hr := heap_alloc_new W (.cells #[.int .i64 f.W, .int .i64 f.H, pv, .int .i64 p.W, .int .i64 p.H, pu, .int .i64 o.W, .int .i64 o.H, po] 24)
 refine ⟨fun i j => if i = 0 then (if j = 0 then .int .i64 f.W else if j = 1 then .int .i64 f.H else pv) else if i = 1 then (if j = 0 then .int .i64 p.W else if j = 1 then .int .i64 p.H else pu) else (if j = 0 then .int .i64 o.W else if j = 1 then .int .i64 o.H else po), ⟨some ⟨W.heap.size, 0, none⟩, 3, rfl, Nat.le_refl _, by simp [maxLen], fun _ => ⟨W.heap.size, 0, rfl, by omega, by omega, fun i j hi hj => ?_⟩⟩, fun i hi => ?_⟩
 ·have hi0 : i = 0 ∨ i = 1 ∨ i = 2 := by simp at hi; omega
  rw [cell_of_row _ _ _ _ _ _ hr]
  rcases hi0 with rfl | rfl | rfl <;> rcases (by omega : j = 0 ∨ j = 1 ∨ j = 2) with rfl | rfl | rfl <;> rfl
 ·have hi0 : i = 0 ∨ i = 1 ∨ i = 2 := by simp at hi; omega
  rcases hi0 with rfl | rfl | rfl
  ·exact ⟨rfl, rfl, (hp.quiet (Only.new W _)).mono (by omega) (by omega)⟩
  ·exact ⟨rfl, rfl, (hu.quiet (Only.new W _)).mono (by omega) (by omega)⟩
  ·exact ⟨rfl, rfl, (hv.quiet (Only.new W _)).mono (by omega) (by omega)⟩
end Go.Proofs.YtmgbbgffkakcaaaGreatDoor
