/- Joined texts: EStW, EStC. Conditions: each part names its own. -/
import Derived.Test.YtmgbbgffkakcaaaGreatDoorT1
import Derived.Test.YtmgbbgffkakcaaaGreatDoorZEFs2
import Derived.Test.YtmgbbgffkakcaaaGreatDoorW2
import Derived.Test.YtmgbbgffkakcaaaGreatDoorF3
import Derived.Test.YtmgbbgffkakcaaaGreatDoorTie
import Derived.Test.YtmgbbgffkakcaaaGreatDoorCards
import Derived.SevenTiedAt
set_option maxRecDepth 100000
set_option maxHeartbeats 16000000
namespace Go.Proofs.YtmgbbgffkakcaaaGreatDoor
open Go.RowKit
set_option linter.unusedVariables false
set_option linter.unusedSimpArgs false
theorem qEStWt0 {p : Prop} (h : p := by intro wz hSw; obtain ⟨hS0, hS1, hS2⟩ := hSw; obtain ⟨p0, p1, p2⟩ := frame_cells hS0; obtain ⟨c0, c1, -⟩ := row2 hS1; obtain ⟨q0, q1, q2⟩ := frame_cells hS2; go_simp; try with_reducible rfl) : p := h
theorem frames_one {W : World} {f : FrameD} {pv : Value} {lo hi B : Nat} (hB : B = W.heap.size) (hp : Ints .i64 lo hi W pv f.pix) :
  FramesAt (min lo B) (max hi (B + 1)) (W.alloc (.cells #[.int .i64 f.W, .int .i64 f.H, pv] 24)) (.slice (some ⟨B, 0, none⟩) 1 1) [f] := by
 subst hB
 have hr := heap_alloc_new W (.cells #[.int .i64 f.W, .int .i64 f.H, pv] 24)
 refine ⟨fun i j => if j = 0 then .int .i64 f.W else if j = 1 then .int .i64 f.H else pv, ⟨some ⟨W.heap.size, 0, none⟩, 1, rfl, Nat.le_refl _, by simp [maxLen], fun _ => ⟨W.heap.size, 0, rfl, by omega, by omega, fun i j hi hj => ?_⟩⟩, fun i hi => ?_⟩
 ·have hi0 : i = 0 := by simp at hi; omega
  subst hi0
  rw [cell_of_row _ _ _ _ _ _ hr]
  rcases (by omega : j = 0 ∨ j = 1 ∨ j = 2) with rfl | rfl | rfl <;> rfl
 ·have hi0 : i = 0 := by simp at hi; omega
  subst hi0
  exact ⟨rfl, rfl, (hp.quiet (Only.new W _)).mono (by omega) (by omega)⟩
section
theorem estill_any {lo hi : Nat} {pv : Value} {f : FrameD} {w : World} (qp reach : Int) (hp : Ints .i64 lo hi w pv f.pix) (hh : hi ≤ w.heap.size) (hE : ErrT w) :
  Calls Tryz.prog 6 #[.agg #[.int .i64 f.W, .int .i64 f.H, pv], .int .i64 qp, .int .i64 reach] w fun e w' => e = .returned (.bool true) ∧ Only [] w w' := by
 refine hidQ fun Q HPost => ?_
 have HFi := lh (fun (W : World) (o : Only [] w W) => first_any W (hE.quiet o))
 have HP := lh hp
 have HMa := lh (fun (W : World) (o : Only [] w W) => pmay_any f.W f.H (hp.quiet o))
 rw [show (⟨f.W, f.H, f.pix⟩ : FrameD) = f from rfl] at HMa
 have HFr := lh (fun (W : World) (o : Only [] w W) => eframe_any (src := f) (prev := f) false qp reach (hp.quiet o) (hp.quiet o) (Nat.le_trans hh o.size) (Nat.le_trans hh o.size))
 have HHi := lh hh
 obtain ⟨pa, pc, rfl, -⟩ := hp.open
 have HQ1 := lh (Only.new w (.cells #[.int .i64 f.W, .int .i64 f.H, .slice pa f.pix.length pc] 24))
 have HR1 := lh (heap_alloc_new w (.cells #[.int .i64 f.W, .int .i64 f.H, .slice pa f.pix.length pc] 24))
 clear hp hh hE
 go_enter Tryz.func6, Tryz.ntmps6
 go_wp2_with fail
 generalize hW1 : World.alloc w _ = W1 at *
 clear hW1
 go_at_call 11
 refine (HFi.out _ HQ1.out).mono ?_
 rintro e w2 ⟨rfl, hq2⟩
 have HQ2 := lh (HQ1.out.q hq2)
 have HR2 := lh (hq2.row HR1.out)
 clear hq2
 obtain ⟨p0, p1, p2⟩ := frame_cells HR2.out
 have HOn := lh (Only.new w2 (.cells #[.int .i64 f.W, .int .i64 f.H, .slice pa f.pix.length pc] 24))
 have HPx := lh (pix_any (frames_one rfl (HP.out.quiet HQ2.out)))
 go_wp2_with fail
 generalize hW3 : World.alloc w2 _ = W3 at *
 clear hW3 p0 p1 p2
 have HQ3 := lh (HQ2.out.q HOn.out)
 have HR3 := lh (HOn.out.row HR2.out)
 generalize hPB : pixB [f] = PB at *
 clear hPB
 go_at_call 19
 refine HPx.out.mono ?_
 rintro e w4 ⟨rfl, hw4⟩
 subst hw4
 cases PB with
 | false =>
  go_wp2_with fail
  go_at_call 11
  refine (HFi.out _ HQ3.out).mono ?_
  rintro e w5 ⟨rfl, hq5⟩
  have HQ5 := lh (HQ3.out.q hq5)
  clear hq5
  go_wp2_with fail
  exact HPost.out _ _ ⟨rfl, HQ5.out⟩
 | true =>
  obtain ⟨p0, p1, p2⟩ := frame_cells HR3.out
  go_wp2_with fail
  clear p0 p1 p2
  go_at_call 24
  refine (HMa.out _ HQ3.out).mono ?_
  rintro e w5 ⟨rfl, hq5⟩
  have HQ5 := lh (HQ3.out.q hq5)
  have HR5 := lh (hq5.row HR3.out)
  clear hq5
  cases hmf : mayF f with
  | false =>
   clear hmf
   go_wp2_with fail
   go_at_call 11
   refine (HFi.out _ HQ5.out).mono ?_
   rintro e w6 ⟨rfl, hq6⟩
   have HQ6 := lh (HQ5.out.q hq6)
   clear hq6
   go_wp2_with fail
   exact HPost.out _ _ ⟨rfl, HQ6.out⟩
  | true =>
   have HOk := lh (mayF_iff.1 hmf)
   have Hmf := lh hmf
   clear hmf
   obtain ⟨p0, p1, p2⟩ := frame_cells HR5.out
   go_wp2_with fail
   clear p0 p1 p2
   go_at_call 14
   refine (HFr.out _ HQ5.out).mono ?_
   rintro e w6 ⟨hq6, hm6⟩
   have HQ6 := lh hq6
   have HR6 := lh (hq6.row HR5.out)
   clear hq6
   cases hck : checkE f f false qp reach with
   | some k =>
    rw [hck] at hm6
    obtain rfl := hm6
    have hbad : qp < 0 ∨ 15 < qp ∨ reach < 0 ∨ 7 < reach := by
     by_cases hb : qp < 0 ∨ 15 < qp ∨ reach < 0 ∨ 7 < reach
     ·exact hb
     ·rw [checkE_of Hmf.out (by unfold matesB; rw [Hmf.out]; simp) (by omega) (by omega)] at hck; cases hck
    clear hck
    go_upto_region 6 with (fail)
    have HQn := lh ((Only.new w6 (.cells #[.int .i64 0, .slice none 0 0] 31)).alloc (.cells #[.int .i64 0, .int .i64 0, .slice none 0 0] 24))
    generalize hW8 : World.alloc (World.alloc w6 _) _ = W8 at *
    clear hW8
    have HQ8 := lh ((HQ5.out.q HQ6.out).q HQn.out)
    have HBad := lh hbad
    clear hbad
    go_wp2_with fail
    go_at_call 11
    refine (HFi.out _ HQ8.out).mono ?_
    rintro e w9 ⟨rfl, hq9⟩
    have HQ9 := lh (HQ8.out.q hq9)
    clear hq9
    go_wp2_with fail
    all_goals first
     | exact HPost.out _ _ ⟨rfl, HQ9.out⟩
     | (refine HPost.out _ _ ⟨?_, HQ9.out⟩; have hb := HBad.out; apply congrArg; first | (show Value.bool _ = Value.bool true; congr 1; simp; omega) | (simp; omega))
   | none =>
    rw [hck] at hm6
    obtain ⟨dv, fv, rfl, hid, hif⟩ := hm6
    obtain ⟨-, -, hq0, hq1, hr0, hr1⟩ := checkE_none hck
    have hsb := still_bytes (f := f) (q := qp.toNat) (reach := reach.toNat) HOk.out (by omega)
    have hst := still_built (f := f) (q := qp.toNat) (reach := reach.toNat) HOk.out (by omega) (by omega)
    rw [Int.toNat_of_nonneg hq0] at hsb hst
    rw [hsb] at hid ⊢
    rw [hst] at hif
    simp only at hid
    have HD := lh hid
    have HY := lh hif
    obtain ⟨d4, c4, rfl, -⟩ := hid.open
    obtain ⟨f4, e4, rfl, -⟩ := hif.open
    clear hck hid hif hsb hst hq0 hq1 hr0 hr1
    have HQn := lh ((Only.new w6 (.cells #[.int .i64 2, .slice d4 1 c4] 31)).alloc (.cells #[.int .i64 f.W, .int .i64 f.H, .slice f4 f.pix.length e4] 24))
    have HVc : Hid (((w6.alloc (.cells #[.int .i64 2, .slice d4 1 c4] 31)).alloc (.cells #[.int .i64 f.W, .int .i64 f.H, .slice f4 f.pix.length e4] 24)).heap[w6.heap.size]? = some (.cells #[.int .i64 2, .slice d4 1 c4] 31 (0, 0))) := lh ((Only.new (w6.alloc _) _).row (heap_alloc_new w6 _))
    have HVf : Hid (((w6.alloc (.cells #[.int .i64 2, .slice d4 1 c4] 31)).alloc (.cells #[.int .i64 f.W, .int .i64 f.H, .slice f4 f.pix.length e4] 24)).heap[w6.heap.size + 1]? = some (.cells #[.int .i64 f.W, .int .i64 f.H, .slice f4 f.pix.length e4] 24 (0, 0))) := lh (heap_alloc_new' (by simp))
    go_upto_region 6 with (fail)
    simp only [List.length_singleton] at *
    generalize hW8 : World.alloc (World.alloc w6 _) _ = W8 at *
    clear hW8
    have HQ8 := lh ((HQ5.out.q HQ6.out).q HQn.out)
    have HR8 := lh (HQn.out.row HR6.out)
    obtain ⟨VC, hVC⟩ : ∃ z, z = w6.heap.size := ⟨_, rfl⟩
    rw [← hVC] at HVc HVf ⊢
    clear hVC
    have HFi8 := lh (fun (W : World) (o : Only [] W8 W) => HFi.out W (HQ8.out.q o))
    have hkf := fun (W : World) (o : Only [] W8 W) => kframe_any (A := f) (B := f) (HP.out.quiet (HQ8.out.q o)) (HY.out.quiet (HQn.out.q o))
    rw [show frEq f f = true by unfold frEq; simp [eqB]] at hkf
    have HKf := lh hkf
    have HCo := lh (fun (W : World) (o : Only [] W8 W) => cost_any (k := 2) (HD.out.quiet (HQn.out.q o)) (by simp))
    have HS8 : Hid (∀ wz : World, Only [] W8 wz → wz.heap[w.heap.size]? = some (.cells #[.int .i64 f.W, .int .i64 f.H, .slice pa f.pix.length pc] 24 (0, 0)) ∧ wz.heap[VC]? = some (.cells #[.int .i64 2, .slice d4 1 c4] 31 (0, 0)) ∧ wz.heap[VC + 1]? = some (.cells #[.int .i64 f.W, .int .i64 f.H, .slice f4 f.pix.length e4] 24 (0, 0))) := lh (fun wz o => ⟨o.row HR8.out, o.row HVc.out, o.row HVf.out⟩)
    clear hkf
    go_wp2_with fail
    have x0 := lh (Only.refl [] W8)
    refine wp_region_held_drew (S := (fun wz => wz.heap[w.heap.size]? = some (.cells #[.int .i64 f.W, .int .i64 f.H, .slice pa f.pix.length pc] 24 (0, 0)) ∧ wz.heap[VC]? = some (.cells #[.int .i64 2, .slice d4 1 c4] 31 (0, 0)) ∧ wz.heap[VC + 1]? = some (.cells #[.int .i64 f.W, .int .i64 f.H, .slice f4 f.pix.length e4] 24 (0, 0)))) (by kernel_rfl) ?_ (fun hHeld => ?_)
    ·exact HS8.out _ (by first | exact x0.out | exact x0.out.drew)
    refine rdy (rdc 0 50 (fun K hK => ?_) .nil)
    go_simp
    go_at_call 11
    refine (HFi8.out _ (by first | exact x0.out | exact x0.out.drew)).mono ?_
    rintro e y1 ⟨rfl, hq⟩
    have x1 : Hid (Only [] W8 y1) := lh (by first | exact x0.out.q hq | exact x0.out.drew.q hq)
    clear hq
    refine hK.out _ _ ?_ (fun hHeld => ?_)
    ·exact HS8.out _ (by first | exact x1.out | exact x1.out.drew)
    clear hK K
    try simp only [Act.put, List.setIfInBounds_toArray, List.set_cons_zero, List.set_cons_succ]
    refine tkw 1 51 ⟨rfl, qEStWt0⟩ ?_
    refine tkw 2 52 ⟨rfl, qEStWt0⟩ ?_
    refine tkw 3 53 ⟨rfl, qEStWt0⟩ ?_
    refine rdy (rdc 4 54 (fun K hK => ?_) .nil)
    go_simp
    go_at_call 17
    refine (HKf.out _ (by first | exact x1.out | exact x1.out.drew)).mono ?_
    rintro e y2 ⟨rfl, hq⟩
    have x2 : Hid (Only [] W8 y2) := lh (by first | exact x1.out.q hq | exact x1.out.drew.q hq)
    clear hq
    refine hK.out _ _ ?_ (fun hHeld => ?_)
    ·exact HS8.out _ (by first | exact x2.out | exact x2.out.drew)
    clear hK K
    try simp only [Act.put, List.setIfInBounds_toArray, List.set_cons_zero, List.set_cons_succ]
    refine tkw 5 55 ⟨rfl, qEStWt0⟩ ?_
    refine tkw 6 56 ⟨rfl, qEStWt0⟩ ?_
    refine tkw 7 57 ⟨rfl, qEStWt0⟩ ?_
    refine tkw 8 58 ⟨rfl, qEStWt0⟩ ?_
    refine tkw 9 59 ⟨rfl, qEStWt0⟩ ?_
    refine tkw 10 60 ⟨rfl, qEStWt0⟩ ?_
    refine tkw 11 61 ⟨rfl, qEStWt0⟩ ?_
    refine tkw 12 62 ⟨rfl, qEStWt0⟩ ?_
    refine tkw 14 64 ⟨rfl, qEStWt0⟩ ?_
    refine tkw 15 65 ⟨rfl, qEStWt0⟩ ?_
    refine tkw 16 66 ⟨rfl, qEStWt0⟩ ?_
    refine tkw 17 67 ⟨rfl, qEStWt0⟩ ?_
    refine tkw 18 68 ⟨rfl, qEStWt0⟩ ?_
    refine tkw 19 69 ⟨rfl, qEStWt0⟩ ?_
    refine tkw 20 70 ⟨rfl, qEStWt0⟩ ?_
    refine rdy (rdc 13 63 (fun K hK => ?_) .nil)
    go_simp
    go_at_call 25
    refine (HCo.out _ (by first | exact x2.out | exact x2.out.drew)).mono ?_
    rintro e y3 ⟨rfl, hq⟩
    have x3 : Hid (Only [] W8 y3) := lh (by first | exact x2.out.q hq | exact x2.out.drew.q hq)
    clear hq
    refine hK.out _ _ ?_ (fun hHeld => ?_)
    ·exact HS8.out _ (by first | exact x3.out | exact x3.out.drew)
    clear hK K
    try simp only [Act.put, List.setIfInBounds_toArray, List.set_cons_zero, List.set_cons_succ]
    refine tkw 21 71 ⟨rfl, qEStWt0⟩ ?_
    refine tkw 22 72 ⟨rfl, qEStWt0⟩ ?_
    refine tkw 23 6 ⟨rfl, qEStWt0⟩ ?_
    refine wpAnyH_done (by kernel_rfl) ?_ _
    go_wp2_with fail
    refine HPost.out _ _ ⟨?_, by first | exact HQ8.out.q x3.out | exact HQ8.out.q x3.out.drew⟩
    apply congrArg
    show Value.bool _ = Value.bool true
    apply congrArg
    have hf := HOk.out
    have h1 : 0 ≤ f.W * f.H := Int.mul_nonneg (by have := hf.w0; omega) (by have := hf.h0; omega)
    have h2 : f.W * f.H ≤ 32 * 32 := Int.mul_le_mul hf.w1 hf.h1 (by have := hf.h0; omega) (by omega)
    generalize f.W * f.H = A at h1 h2 ⊢
    have e1 : IntKind.i64.wrap A = A := by rw [IntKind.wrap_i64]; omega
    rw [e1, Int.tdiv_eq_ediv_of_nonneg h1]
    have e2 : IntKind.i64.wrap (A / 32) = A / 32 := by rw [IntKind.wrap_i64]; omega
    have e3 : IntKind.i64.wrap (9 + A / 32) = 9 + A / 32 := by rw [IntKind.wrap_i64]; omega
    rw [e2, e3, decide_eq_true_eq]
    omega
end
theorem estill_card {w : World} {pv : Value} {f : FrameD} (hp : Ints .i64 0 w.heap.size w pv f.pix) (hk : InK .i64 f.W ∧ InK .i64 f.H) (qp reach : Int) (_ : w.heap.size ≤ w.heap.size) (hE : ErrT w) :
  Calls Tryz.prog 6 #[.agg #[.int .i64 f.W, .int .i64 f.H, pv], .int .i64 qp, .int .i64 reach] w fun e w' => e = .returned (.bool true) ∧ Only [] w w' := estill_any qp reach hp (Nat.le_refl _) hE
end Go.Proofs.YtmgbbgffkakcaaaGreatDoor
/- EncodeStill of the encoder: for any arguments the law kinlaw22.EncodeStill answers true and leaves its arguments as they were (a frame that is the one ahead: built as it is, no dearer than 9 and two a square). Conditions: errors.errorType is laid as the program's text lays it (the card ties it). -/
namespace Go.Proofs.YtmgbbgffkakcaaaGreatDoor
open Go.ChangeShapes Go.WideShapes Go.ChangeAt Go.RowKit
set_option linter.unusedVariables false
set_option linter.unusedSimpArgs false
theorem encodeStill_lifted (os : Os) (started : os.Started) (H : Type) (enc : TypeId × Value → H) :
  ReturnsInHanded {} Tryz.checked os 6 .any (fun w args => (Rows.encodeStillSpec.pre enc Tryz.prog Tryz.f6 [] false w args ∧ laidMetH Tryz.prog laid1 w) ∧ sizedMet enc Tryz.prog Tryz.f6 (OpenSpec.ofChange Rows.encodeStillSpec) false w args)
   (Rows.encodeStillSpec.post enc Tryz.prog Tryz.f6 false true false false) := by
 refine returnsInHanded_of_change_and (C := Tryz.checked) (X := fun w _ => laidMetH Tryz.prog laid1 w) (fun _ _ _ hh h => h.of_heap hh) own_ started (by kernel_rfl) Tryz.func6
  (ChangeSpec.witness_at (enc := enc) (C := Tryz.checked) (os := os) (X := fun w _ => laidMetH Tryz.prog laid1 w) false (laidWorld os) #[.agg #[.int .i64 0, .int .i64 0, .slice none 0 0], .int .i64 0, .int .i64 0] 8 rfl (by kernel_rfl) (by kernel_rfl) (by kernel_rfl) (by kernel_rfl) (by kernel_rfl) (laidWorld_met os _)) ?_
 intro W base args ds gs before hval0 hW _ _ hL _
 have hval : ∀ (j : Nat) t v, Tryz.f6.params[j]? = some t → args[j]? = some v → Value.okWide Tryz.prog W .any base t v := hval0
 have hW' := hW
 obtain ⟨p, q, hA0, hV, rfl, hfz, hnd⟩ := hW
 have hA : DataW.TrodAll enc Tryz.prog W 0 (fun _ => true) true Tryz.f6.params.toList args.toList ds p := hA0
 rw [Tryz.params6] at hA hval
 obtain ⟨v0, vs0, d0, ds0, p0, q0, hargs, rfl, rfl, h0, r0⟩ := trodAll_cons hA
 obtain ⟨v1, vs1, d1, ds1, p1, q1, rfl, rfl, rfl, h1, r1⟩ := trodAll_cons r0
 obtain ⟨v2, vs2, d2, ds2, p2, q2, rfl, rfl, rfl, h2, r2⟩ := trodAll_cons r1
 obtain ⟨rfl, rfl, rfl⟩ := trodAll_nil r2
 obtain rfl : args = #[v0, v1, v2] := by cases args; simp_all
 obtain ⟨rfl, rfl⟩ := trodVars_none hV
 have k0 := h0
 have lt0 : ∀ x ∈ p0, x.block < W.heap.size := by obtain ⟨m, hm⟩ := k0; exact DataW.trod_lt m _ _ _ hm
 obtain ⟨f0, pv0, rfl, hk0, hd0⟩ := frame_in (hval 0 24 v0 rfl rfl) h0
 obtain ⟨n1, rfl, rfl, rfl, w1⟩ := open_int Tryz.underlying3 (hval 1 3 v1 rfl rfl) h1
 obtain ⟨n2, rfl, rfl, rfl, w2⟩ := open_int Tryz.underlying3 (hval 2 3 v2 rfl rfl) h2
 clear hA0 hval0
 simp only [List.append_nil] at hW'
 refine (estill_card hd0 hk0 n1 n2 (Nat.le_refl _) (errT_of_laid hL)).mono fun e W' ⟨he, hq⟩ => ?_
 subst he
 have bel := hq.quiet
 exact ⟨_, rfl, _, _, _, [], _, [], hW', trodAll_mk1 (shut_bool Tryz.underlying4 _), (trodAll_cons_mk (Below.trod laidOut_ (by kernel_rfl) (of_decide_eq_true (by kernel_rfl)) k0 bel lt0) (trodAll_cons_mk (shut_int Tryz.underlying3 w1) (trodAll_cons_mk (shut_int Tryz.underlying3 w2) trodAll_mk0))), rfl, bel.frame _, fun h => by cases h⟩
theorem encodeStill_row : Rows.EncodeStillSaid :=
 OpenClaim.holds_of_wide 6 Tryz.f6 rfl rfl rfl rfl rfl rfl rfl ⟨rfl, rfl, rfl, rfl, rfl⟩ rfl rfl rfl rfl rfl (by kernel_rfl) Tryz.func6 (by kernel_rfl)
  (of_decide_eq_true (by kernel_rfl)) (by unfold Func.isWrapper; first | (rw [if_pos (by decide +kernel)]; kernel_rfl) | (rw [if_neg (by decide +kernel)]; exact ⟨rfl, rfl⟩))
  (fun os started H enc _ => encodeStill_lifted os started H enc)
theorem encodeStill_holds : Rows.EncodeStillCardSaid :=
 Claim7.holds_tied_plain_at .later [] [.handle] true _ true
  encodeStill_row (fun _ h => by cases h) (by kernel_rfl) (fun _ h => by cases h) encodeStill_row_tie rfl ⟨rfl, rfl⟩ (by kernel_rfl) rfl
  (fun f fn hf hfn => by
   obtain rfl : f = 6 := Option.some.inj ((show Tryz.prog.funcNamed "kinescope/kinlaw22.EncodeStill" = some 6 by kernel_rfl).symm.trans hf) |>.symm
   obtain rfl : fn = Tryz.f6 := (Option.some.inj (Tryz.func6.symm.trans hfn)).symm
   exact ⟨by kernel_rfl, fun j t ht => by
    rw [Tryz.params6] at ht
    have hm : t ∈ [24, 3, 3] := by simpa using Array.mem_of_getElem? ht
    have hall : ([24, 3, 3].all fun u => !Tryz.prog.wantsStandIn u) = true := by kernel_rfl
    exact (show Tryz.prog.wantsStandIn t = false by simpa using List.all_eq_true.1 hall t hm)⟩)
  (by kernel_rfl)
end Go.Proofs.YtmgbbgffkakcaaaGreatDoor
