/- Joined texts: EKeyW, EKeyC. Conditions: each part names its own. -/
import Derived.Test.YtmgbbgffkakcaaaGreatDoorT1
import Derived.Test.YtmgbbgffkakcaaaGreatDoorZEFs2
import Derived.Test.YtmgbbgffkakcaaaGreatDoorF4
import Derived.Test.YtmgbbgffkakcaaaGreatDoorZEGrey
import Derived.Deep.DeepCutAuto
import Derived.Test.YtmgbbgffkakcaaaGreatDoorF3
import Derived.Test.YtmgbbgffkakcaaaGreatDoorTie
import Derived.Test.YtmgbbgffkakcaaaGreatDoorCards
import Derived.SevenTiedAt
set_option maxRecDepth 100000
set_option maxHeartbeats 16000000
namespace Go.Proofs.YtmgbbgffkakcaaaGreatDoor
open Go.RowKit
set_option linter.unusedVariables false
set_option linter.unusedSimpArgs false
theorem qEKeyWt0 {p : Prop} (h : p := by intro wz hSw; obtain ⟨hS0, hS1, hS2, hS3⟩ := hSw; obtain ⟨c0, c1, -⟩ := row2 hS0; obtain ⟨p0, p1, p2⟩ := frame_cells hS1; obtain ⟨c2, c3, -⟩ := row2 hS2; obtain ⟨q0, q1, q2⟩ := frame_cells hS3; go_simp; try with_reducible rfl) : p := h
theorem qEKeyWt1 {p : Prop} (h : p := by intro wz hSw; obtain ⟨p0, p1, p2⟩ := frame_cells hSw; go_simp; try with_reducible rfl) : p := h
theorem qEKeyWt2 {p : Prop} (h : p := by intro wz hSw; obtain ⟨hS0, hS1⟩ := hSw; obtain ⟨c0, c1, -⟩ := row2 hS0; obtain ⟨p0, p1, p2⟩ := frame_cells hS1; go_simp; try with_reducible rfl) : p := h
section
theorem grey_q {prev : FrameD} {qp reach : Int} (h : checkE (plainF 128) prev true qp reach = none) : qCod (plainF 128) prev true qp reach = ⟨1, [qp]⟩ ∧ qBlt (plainF 128) prev true qp reach = plainF 128 := by
 obtain ⟨-, -, hq0, hq1, hr0, hr1⟩ := checkE_none h
 have hg := grey_enc (prev := prev) (q := qp.toNat) (reach := reach.toNat) (by omega) (by omega)
 rw [Int.toNat_of_nonneg hq0] at hg
 rw [(enc_at h).1, (enc_at h).2]
 exact hg
theorem qEKeyW11 {p : Prop} (h : p := by
 exact HS9.out _ (by first | exact o.out | exact o.out.drew)) : p := h
theorem qEKeyW6 {p : Prop} (h : p := by
 replace HK : Hid (EncK l1 h1 v' (.slice d3 CG.data.length n3) CG.data (.slice f3 BG.pix.length m3) BG.pix) := lh (HK.out.only q (fun g hg => by rw [mSg] at hg; subst hg; exact HkE.out.2))
 replace HKb : Hid (W11.heap.size ≤ l1 ∧ h1 ≤ v'.heap.size) := lh ⟨HKb.out.1, Nat.le_trans HKb.out.2 q.size⟩
 replace o : Hid (Only [] W11 v') := lh (o.out.trans q (by simp) (fun g hg hlt => by rw [mSg] at hg; have := HkE.out.1; omega))
 clear hq hr q
 obtain ⟨v, rfl⟩ : ∃ z, z = v' := ⟨_, rfl⟩
 refine hK.out _ _ ?_ (fun hHeld => ?_)
 ·exact qEKeyW11
 clear hK K
 refine tkw 13 19 ⟨rfl, qEKeyWt1⟩ ?_
 refine wpAnyH_done (by kernel_rfl) ?_ _
 go_wp2_with fail
 go_meet
 exact ⟨bC, bE, l1, h1, d3, n3, f3, m3, rfl, rfl, rfl, o, HC, HE, HKb, HK, HkC, HkE⟩) : p := h
theorem qEKeyW0 {p : Prop} (h : p := by
 refine rdy (rdn 11 (fun K hK => ?_) .nil)
 refine wp_store_rowQ (.tmp 17) (.tmp 71) 31 rfl (g := bC) (c' := #[.int .i64 CG.kind, .slice d3 CG.data.length n3]) rfl rfl HC.out (cd_info _ _) rfl (by first | kernel_rfl | simp [Value.oneCell']) (fun v' hq hr => ?_)
 have q : Only [bC] v v' := by first | exact hq | exact ((Only.refl _ _).drew.mono (U := [bC]) (by simp)).trans hq (fun g h _ => h) (fun g h _ => h)
 replace HC := lh hr
 replace HE := lh (q.rowAt HE.out (by rw [mSg]; have := HnCE.out; omega))
 replace HK : Hid (EncK l1 h1 v' (.slice d3 CG.data.length n3) CG.data (.slice f3 BG.pix.length m3) BG.pix) := lh (HK.out.only q (fun g hg => by rw [mSg] at hg; subst hg; exact HkC.out.2))
 replace HKb : Hid (W11.heap.size ≤ l1 ∧ h1 ≤ v'.heap.size) := lh ⟨HKb.out.1, Nat.le_trans HKb.out.2 q.size⟩
 replace o : Hid (Only [] W11 v') := lh (o.out.trans q (by simp) (fun g hg hlt => by rw [mSg] at hg; have := HkC.out.1; omega))
 clear hq hr q
 obtain ⟨v, rfl⟩ : ∃ z, z = v' := ⟨_, rfl⟩
 refine hK.out _ _ ?_ (fun hHeld => ?_)
 ·exact qEKeyW11
 clear hK K
 refine rdy (rdn 12 (fun K hK => ?_) .nil)
 refine wp_store_rowQ (.tmp 18) (.tmp 72) 24 rfl (g := bE) (c' := #[.int .i64 BG.W, .int .i64 BG.H, .slice f3 BG.pix.length m3]) rfl rfl HE.out (fr_info _ _ _) rfl (by first | kernel_rfl | simp [Value.oneCell']) (fun v' hq hr => ?_)
 have q : Only [bE] v v' := by first | exact hq | exact ((Only.refl _ _).drew.mono (U := [bE]) (by simp)).trans hq (fun g h _ => h) (fun g h _ => h)
 replace HE := lh hr
 replace HC := lh (q.rowAt HC.out (by rw [mSg]; have := HnCE.out; omega))
 exact qEKeyW6) : p := h
theorem qEKeyW1 {p : Prop} (h : p := by
 refine rdy (rdn 11 (fun K hK => ?_) .nil)
 refine wp_store_rowQ (.tmp 17) (.tmp 71) 31 rfl (g := bC) (c' := #[.int .i64 CG.kind, .slice d3 CG.data.length n3]) rfl rfl HC.out (cd_info _ _) rfl (by first | kernel_rfl | simp [Value.oneCell']) (fun v' hq hr => ?_)
 have q : Only [bC] v v' := by first | exact hq | exact ((Only.refl _ _).drew.mono (U := [bC]) (by simp)).trans hq (fun g h _ => h) (fun g h _ => h)
 replace HC := lh hr
 replace HE := lh (q.rowAt HE.out (by rw [mSg]; have := HnEC.out; omega))
 replace HK : Hid (EncK l1 h1 v' (.slice d3 CG.data.length n3) CG.data (.slice f3 BG.pix.length m3) BG.pix) := lh (HK.out.only q (fun g hg => by rw [mSg] at hg; subst hg; exact HkC.out.2))
 replace HKb : Hid (W11.heap.size ≤ l1 ∧ h1 ≤ v'.heap.size) := lh ⟨HKb.out.1, Nat.le_trans HKb.out.2 q.size⟩
 replace o : Hid (Only [] W11 v') := lh (o.out.trans q (by simp) (fun g hg hlt => by rw [mSg] at hg; have := HkC.out.1; omega))
 clear hq hr q
 obtain ⟨v, rfl⟩ : ∃ z, z = v' := ⟨_, rfl⟩
 refine hK.out _ _ ?_ (fun hHeld => ?_)
 ·exact qEKeyW11
 clear hK K
 refine rdy (rdn 12 (fun K hK => ?_) .nil)
 refine wp_store_rowQ (.tmp 18) (.tmp 72) 24 rfl (g := bE) (c' := #[.int .i64 BG.W, .int .i64 BG.H, .slice f3 BG.pix.length m3]) rfl rfl HE.out (fr_info _ _ _) rfl (by first | kernel_rfl | simp [Value.oneCell']) (fun v' hq hr => ?_)
 have q : Only [bE] v v' := by first | exact hq | exact ((Only.refl _ _).drew.mono (U := [bE]) (by simp)).trans hq (fun g h _ => h) (fun g h _ => h)
 replace HE := lh hr
 replace HC := lh (q.rowAt HC.out (by rw [mSg]; have := HnEC.out; omega))
 exact qEKeyW6) : p := h
theorem qEKeyW2 {p : Prop} (h : p := by
 exact qEKeyW11) : p := h
theorem qEKeyW3 {p : Prop} (h : p := by
 simp only [codeV]
 refine wp_region_held_drew (S := (fun wz => wz.heap[VC]? = some (.cells #[.int .i64 C.kind, .slice d1 C.data.length n1] 31 (0, 0)) ∧ wz.heap[VC + 1]? = some (.cells #[.int .i64 B.W, .int .i64 B.H, .slice f1 B.pix.length m1] 24 (0, 0)) ∧ wz.heap[VD]? = some (.cells #[.int .i64 C.kind, .slice d2 C.data.length n2] 31 (0, 0)) ∧ wz.heap[VD + 1]? = some (.cells #[.int .i64 B.W, .int .i64 B.H, .slice f2 B.pix.length m2] 24 (0, 0)))) (by kernel_rfl) ?_ (fun hHeld => ?_)
 ·exact HS7.out _ (by first | exact x0.out | exact x0.out.drew)
 refine tkw 0 48 ⟨rfl, qEKeyWt0⟩ ?_
 refine tkw 1 49 ⟨rfl, qEKeyWt0⟩ ?_
 refine tkw 2 50 ⟨rfl, qEKeyWt0⟩ ?_
 refine tkw 3 51 ⟨rfl, qEKeyWt0⟩ ?_
 refine tkw 4 52 ⟨rfl, qEKeyWt0⟩ ?_
 refine tkw 5 53 ⟨rfl, qEKeyWt0⟩ ?_
 refine tkw 6 54 ⟨rfl, qEKeyWt0⟩ ?_
 refine tkw 7 55 ⟨rfl, qEKeyWt0⟩ ?_
 refine rdy (rdc 8 56 (fun K hK => ?_) .nil)
 go_simp
 go_at_call 16
 refine (HKc.out _ (by first | exact x0.out | exact x0.out.drew)).mono ?_
 rintro e y1 ⟨rfl, hq⟩
 have x1 : Hid (Only [] W10 y1) := lh (by first | exact x0.out.q hq | exact x0.out.drew.q hq)
 clear hq
 refine hK.out _ _ ?_ (fun hHeld => ?_)
 ·exact HS7.out _ (by first | exact x1.out | exact x1.out.drew)
 clear hK K
 try simp only [Act.put, List.setIfInBounds_toArray, List.set_cons_zero, List.set_cons_succ]
 refine tkw 9 57 ⟨rfl, qEKeyWt0⟩ ?_
 refine tkw 10 58 ⟨rfl, qEKeyWt0⟩ ?_
 refine tkw 11 59 ⟨rfl, qEKeyWt0⟩ ?_
 refine tkw 12 60 ⟨rfl, qEKeyWt0⟩ ?_
 refine tkw 13 61 ⟨rfl, qEKeyWt0⟩ ?_
 refine rdy (rdc 14 62 (fun K hK => ?_) .nil)
 go_simp
 go_at_call 17
 refine (HKf.out _ (by first | exact x1.out | exact x1.out.drew)).mono ?_
 rintro e y2 ⟨rfl, hq⟩
 have x2 : Hid (Only [] W10 y2) := lh (by first | exact x1.out.q hq | exact x1.out.drew.q hq)
 clear hq
 refine hK.out _ _ ?_ (fun hHeld => ?_)
 ·exact HS7.out _ (by first | exact x2.out | exact x2.out.drew)
 clear hK K
 try simp only [Act.put, List.setIfInBounds_toArray, List.set_cons_zero, List.set_cons_succ]
 refine tkw 15 63 ⟨rfl, qEKeyWt0⟩ ?_
 refine tkw 16 64 ⟨rfl, qEKeyWt0⟩ ?_
 refine wpAnyH_done (by kernel_rfl) ?_ _
 go_wp2_with fail
 go_meet
 exact ⟨rfl, by first | exact x2 | exact lh x2.out.drew⟩) : p := h
theorem qEKeyW7 {p : Prop} (h : p := by
 obtain ⟨v, rfl⟩ : ∃ z, z = v' := ⟨_, rfl⟩
 refine hK.out _ _ ?_ (fun hHeld => ?_)
 ·exact qEKeyW2
 clear hK K
 refine rdy (rdc 4 70 (fun K hK => ?_) .nil)
 go_simp
 go_at_call 14
 refine (HGr.out _ (by first | exact o.out | exact o.out.drew) _ (by first | exact HPa.out | exact HPa.out.quiet (Only.refl _ _).drew)).mono ?_
 rintro e v' ⟨hq, d3, n3, f3, m3, rfl, hi9⟩
 obtain ⟨l1, hl1⟩ : ∃ z, z = v.heap.size := ⟨_, rfl⟩
 obtain ⟨h1, hh1⟩ : ∃ z, z = v'.heap.size := ⟨_, rfl⟩
 have hKf : EncK l1 h1 v' (.slice d3 CG.data.length n3) CG.data (.slice f3 BG.pix.length m3) BG.pix := by rw [hl1, hh1]; exact hi9
 have hKl : v.heap.size ≤ l1 := by omega
 have hKh : h1 ≤ v'.heap.size := by omega
 clear hi9 hl1 hh1
 have q : Only [] v v' := by first | exact hq | exact ((Only.refl _ _).drew).q hq
 have hVl : W11.heap.size ≤ v.heap.size := o.out.size
 have HkC : Hid (W11.heap.size ≤ bC ∧ (bC < l1 ∨ h1 ≤ bC)) := lh (by have := (Array.getElem?_eq_some_iff.1 HC.out).1; have := HzC.out; exact ⟨by omega, .inl (by omega)⟩)
 have HkE : Hid (W11.heap.size ≤ bE ∧ (bE < l1 ∨ h1 ≤ bE)) := lh (by have := (Array.getElem?_eq_some_iff.1 HE.out).1; have := HzE.out; exact ⟨by omega, .inl (by omega)⟩)
 replace HC := lh (q.row HC.out)
 replace HE := lh (q.row HE.out)
 replace HPa : Hid (Ints .i64 0 v'.heap.size v' (.slice (some ⟨ga, 0, none⟩) 64 ca) (plainF 128).pix) := lh ((HPa.out.quiet q).mono (Nat.le_refl _) q.size)
 have HK := lh hKf
 have HKb : Hid (W11.heap.size ≤ l1 ∧ h1 ≤ v'.heap.size) := lh ⟨by omega, hKh⟩
 replace o := lh (o.out.q q)
 clear hq q hKf hKl hKh hVl
 obtain ⟨v, rfl⟩ : ∃ z, z = v' := ⟨_, rfl⟩
 refine hK.out _ _ ?_ (fun hHeld => ?_)
 ·exact qEKeyW2
 clear hK K
 refine tkw 5 65 ⟨rfl, qEKeyWt1⟩ ?_
 refine tkw 6 71 ⟨rfl, qEKeyWt1⟩ ?_
 refine tkw 7 72 ⟨rfl, qEKeyWt1⟩ ?_
 refine tkw 8 73 ⟨rfl, qEKeyWt1⟩ ?_
 exact qEKeyW0) : p := h
theorem qEKeyW9 {p : Prop} (h : p := by
 refine rdy (rdc 10 18 (fun K hK => ?_) .nil)
 go_simp
 generalize hW : World.alloc _ _ = v'
 have q : Only [] v v' := by rw [← hW]; first | exact Only.new _ _ | exact ((Only.refl _ _).drew).q (Only.new _ _)
 have HE : Hid (v'.heap[v.heap.size]? = some (.cells #[.int .i64 0, .int .i64 0, .slice none 0 0] 24 (0, 0))) := lh (by rw [← hW]; exact heap_alloc_new _ _)
 have hz : W11.heap.size ≤ v.heap.size := o.out.size
 have HkE : Hid (W11.heap.size ≤ v.heap.size ∧ (v.heap.size < l1 ∨ h1 ≤ v.heap.size)) := lh ⟨hz, .inr HKb.out.2⟩
 have HnCE : Hid (bC ≠ v.heap.size) := lh (by have := (Array.getElem?_eq_some_iff.1 HC.out).1; omega)
 replace HC := lh (q.row HC.out)
 replace HK : Hid (EncK l1 h1 v' (.slice d3 CG.data.length n3) CG.data (.slice f3 BG.pix.length m3) BG.pix) := lh (HK.out.only q (by simp))
 replace HKb : Hid (W11.heap.size ≤ l1 ∧ h1 ≤ v'.heap.size) := lh ⟨HKb.out.1, Nat.le_trans HKb.out.2 q.size⟩
 replace HPa : Hid (Ints .i64 0 v'.heap.size v' (.slice (some ⟨ga, 0, none⟩) 64 ca) (plainF 128).pix) := lh ((HPa.out.quiet q).mono (Nat.le_refl _) q.size)
 replace o := lh (o.out.q q)
 clear hW q
 generalize hb : v.heap.size = bE at HE HkE HnCE ⊢
 have HzE : Hid (W11.heap.size ≤ bE) := lh (by rw [← hb]; exact hz)
 clear hb hz
 obtain ⟨v, rfl⟩ : ∃ z, z = v' := ⟨_, rfl⟩
 refine hK.out _ _ ?_ (fun hHeld => ?_)
 ·exact qEKeyW2
 clear hK K
 exact qEKeyW0) : p := h
theorem qEKeyW4 {p : Prop} (h : p := by
 obtain ⟨v, rfl⟩ : ∃ z, z = v' := ⟨_, rfl⟩
 refine hK.out _ _ ?_ (fun hHeld => ?_)
 ·exact qEKeyW2
 clear hK K
 refine rdy (rdc 4 70 (fun K hK => ?_) (rdc 10 18 (fun K hK => ?_) .nil))
 ·go_simp
  go_at_call 14
  refine (HGr.out _ (by first | exact o.out | exact o.out.drew) _ (by first | exact HPa.out | exact HPa.out.quiet (Only.refl _ _).drew)).mono ?_
  rintro e v' ⟨hq, d3, n3, f3, m3, rfl, hi9⟩
  obtain ⟨l1, hl1⟩ : ∃ z, z = v.heap.size := ⟨_, rfl⟩
  obtain ⟨h1, hh1⟩ : ∃ z, z = v'.heap.size := ⟨_, rfl⟩
  have hKf : EncK l1 h1 v' (.slice d3 CG.data.length n3) CG.data (.slice f3 BG.pix.length m3) BG.pix := by rw [hl1, hh1]; exact hi9
  have hKl : v.heap.size ≤ l1 := by omega
  have hKh : h1 ≤ v'.heap.size := by omega
  clear hi9 hl1 hh1
  have q : Only [] v v' := by first | exact hq | exact ((Only.refl _ _).drew).q hq
  have hVl : W11.heap.size ≤ v.heap.size := o.out.size
  have HkC : Hid (W11.heap.size ≤ bC ∧ (bC < l1 ∨ h1 ≤ bC)) := lh (by have := (Array.getElem?_eq_some_iff.1 HC.out).1; have := HzC.out; exact ⟨by omega, .inl (by omega)⟩)
  replace HC := lh (q.row HC.out)
  replace HPa : Hid (Ints .i64 0 v'.heap.size v' (.slice (some ⟨ga, 0, none⟩) 64 ca) (plainF 128).pix) := lh ((HPa.out.quiet q).mono (Nat.le_refl _) q.size)
  have HK := lh hKf
  have HKb : Hid (W11.heap.size ≤ l1 ∧ h1 ≤ v'.heap.size) := lh ⟨by omega, hKh⟩
  replace o := lh (o.out.q q)
  clear hq q hKf hKl hKh hVl
  obtain ⟨v, rfl⟩ : ∃ z, z = v' := ⟨_, rfl⟩
  refine hK.out _ _ ?_ (fun hHeld => ?_)
  ·exact qEKeyW2
  clear hK K
  refine tkw 5 65 ⟨rfl, qEKeyWt1⟩ ?_
  refine tkw 6 71 ⟨rfl, qEKeyWt1⟩ ?_
  refine tkw 7 72 ⟨rfl, qEKeyWt1⟩ ?_
  refine tkw 8 73 ⟨rfl, qEKeyWt1⟩ ?_
  exact qEKeyW9
 ·go_simp
  generalize hW : World.alloc _ _ = v'
  have q : Only [] v v' := by rw [← hW]; first | exact Only.new _ _ | exact ((Only.refl _ _).drew).q (Only.new _ _)
  have HE : Hid (v'.heap[v.heap.size]? = some (.cells #[.int .i64 0, .int .i64 0, .slice none 0 0] 24 (0, 0))) := lh (by rw [← hW]; exact heap_alloc_new _ _)
  have hz : W11.heap.size ≤ v.heap.size := o.out.size
  have HnCE : Hid (bC ≠ v.heap.size) := lh (by have := (Array.getElem?_eq_some_iff.1 HC.out).1; omega)
  replace HC := lh (q.row HC.out)
  replace HPa : Hid (Ints .i64 0 v'.heap.size v' (.slice (some ⟨ga, 0, none⟩) 64 ca) (plainF 128).pix) := lh ((HPa.out.quiet q).mono (Nat.le_refl _) q.size)
  replace o := lh (o.out.q q)
  clear hW q
  generalize hb : v.heap.size = bE at HE HnCE ⊢
  have HzE : Hid (W11.heap.size ≤ bE) := lh (by rw [← hb]; exact hz)
  clear hb hz
  exact qEKeyW7) : p := h
theorem qEKeyW8 {p : Prop} (h : p := by
 obtain ⟨v, rfl⟩ : ∃ z, z = v' := ⟨_, rfl⟩
 refine hK.out _ _ ?_ (fun hHeld => ?_)
 ·exact qEKeyW2
 clear hK K
 refine rdy (rdc 4 70 (fun K hK => ?_) .nil)
 go_simp
 go_at_call 14
 refine (HGr.out _ (by first | exact o.out | exact o.out.drew) _ (by first | exact HPa.out | exact HPa.out.quiet (Only.refl _ _).drew)).mono ?_
 rintro e v' ⟨hq, d3, n3, f3, m3, rfl, hi9⟩
 obtain ⟨l1, hl1⟩ : ∃ z, z = v.heap.size := ⟨_, rfl⟩
 obtain ⟨h1, hh1⟩ : ∃ z, z = v'.heap.size := ⟨_, rfl⟩
 have hKf : EncK l1 h1 v' (.slice d3 CG.data.length n3) CG.data (.slice f3 BG.pix.length m3) BG.pix := by rw [hl1, hh1]; exact hi9
 have hKl : v.heap.size ≤ l1 := by omega
 have hKh : h1 ≤ v'.heap.size := by omega
 clear hi9 hl1 hh1
 have q : Only [] v v' := by first | exact hq | exact ((Only.refl _ _).drew).q hq
 have hVl : W11.heap.size ≤ v.heap.size := o.out.size
 have HkC : Hid (W11.heap.size ≤ bC ∧ (bC < l1 ∨ h1 ≤ bC)) := lh (by have := (Array.getElem?_eq_some_iff.1 HC.out).1; have := HzC.out; exact ⟨by omega, .inl (by omega)⟩)
 have HkE : Hid (W11.heap.size ≤ bE ∧ (bE < l1 ∨ h1 ≤ bE)) := lh (by have := (Array.getElem?_eq_some_iff.1 HE.out).1; have := HzE.out; exact ⟨by omega, .inl (by omega)⟩)
 replace HC := lh (q.row HC.out)
 replace HE := lh (q.row HE.out)
 replace HPa : Hid (Ints .i64 0 v'.heap.size v' (.slice (some ⟨ga, 0, none⟩) 64 ca) (plainF 128).pix) := lh ((HPa.out.quiet q).mono (Nat.le_refl _) q.size)
 have HK := lh hKf
 have HKb : Hid (W11.heap.size ≤ l1 ∧ h1 ≤ v'.heap.size) := lh ⟨by omega, hKh⟩
 replace o := lh (o.out.q q)
 clear hq q hKf hKl hKh hVl
 obtain ⟨v, rfl⟩ : ∃ z, z = v' := ⟨_, rfl⟩
 refine hK.out _ _ ?_ (fun hHeld => ?_)
 ·exact qEKeyW2
 clear hK K
 refine tkw 5 65 ⟨rfl, qEKeyWt1⟩ ?_
 refine tkw 6 71 ⟨rfl, qEKeyWt1⟩ ?_
 refine tkw 7 72 ⟨rfl, qEKeyWt1⟩ ?_
 refine tkw 8 73 ⟨rfl, qEKeyWt1⟩ ?_
 exact qEKeyW1) : p := h
theorem qEKeyW10 {p : Prop} (h : p := by
 refine rdy (rdc 9 17 (fun K hK => ?_) .nil)
 go_simp
 generalize hW : World.alloc _ _ = v'
 have q : Only [] v v' := by rw [← hW]; first | exact Only.new _ _ | exact ((Only.refl _ _).drew).q (Only.new _ _)
 have HC : Hid (v'.heap[v.heap.size]? = some (.cells #[.int .i64 0, .slice none 0 0] 31 (0, 0))) := lh (by rw [← hW]; exact heap_alloc_new _ _)
 have hz : W11.heap.size ≤ v.heap.size := o.out.size
 have HkC : Hid (W11.heap.size ≤ v.heap.size ∧ (v.heap.size < l1 ∨ h1 ≤ v.heap.size)) := lh ⟨hz, .inr HKb.out.2⟩
 have HnEC : Hid (bE ≠ v.heap.size) := lh (by have := (Array.getElem?_eq_some_iff.1 HE.out).1; omega)
 replace HE := lh (q.row HE.out)
 replace HK : Hid (EncK l1 h1 v' (.slice d3 CG.data.length n3) CG.data (.slice f3 BG.pix.length m3) BG.pix) := lh (HK.out.only q (by simp))
 replace HKb : Hid (W11.heap.size ≤ l1 ∧ h1 ≤ v'.heap.size) := lh ⟨HKb.out.1, Nat.le_trans HKb.out.2 q.size⟩
 replace HPa : Hid (Ints .i64 0 v'.heap.size v' (.slice (some ⟨ga, 0, none⟩) 64 ca) (plainF 128).pix) := lh ((HPa.out.quiet q).mono (Nat.le_refl _) q.size)
 replace o := lh (o.out.q q)
 clear hW q
 generalize hb : v.heap.size = bC at HC HkC HnEC ⊢
 have HzC : Hid (W11.heap.size ≤ bC) := lh (by rw [← hb]; exact hz)
 clear hb hz
 obtain ⟨v, rfl⟩ : ∃ z, z = v' := ⟨_, rfl⟩
 refine hK.out _ _ ?_ (fun hHeld => ?_)
 ·exact qEKeyW2
 clear hK K
 exact qEKeyW1) : p := h
theorem qEKeyW5 {p : Prop} (h : p := by
 obtain ⟨v, rfl⟩ : ∃ z, z = v' := ⟨_, rfl⟩
 refine hK.out _ _ ?_ (fun hHeld => ?_)
 ·exact qEKeyW2
 clear hK K
 refine rdy (rdc 4 70 (fun K hK => ?_) (rdc 9 17 (fun K hK => ?_) .nil))
 ·go_simp
  go_at_call 14
  refine (HGr.out _ (by first | exact o.out | exact o.out.drew) _ (by first | exact HPa.out | exact HPa.out.quiet (Only.refl _ _).drew)).mono ?_
  rintro e v' ⟨hq, d3, n3, f3, m3, rfl, hi9⟩
  obtain ⟨l1, hl1⟩ : ∃ z, z = v.heap.size := ⟨_, rfl⟩
  obtain ⟨h1, hh1⟩ : ∃ z, z = v'.heap.size := ⟨_, rfl⟩
  have hKf : EncK l1 h1 v' (.slice d3 CG.data.length n3) CG.data (.slice f3 BG.pix.length m3) BG.pix := by rw [hl1, hh1]; exact hi9
  have hKl : v.heap.size ≤ l1 := by omega
  have hKh : h1 ≤ v'.heap.size := by omega
  clear hi9 hl1 hh1
  have q : Only [] v v' := by first | exact hq | exact ((Only.refl _ _).drew).q hq
  have hVl : W11.heap.size ≤ v.heap.size := o.out.size
  have HkE : Hid (W11.heap.size ≤ bE ∧ (bE < l1 ∨ h1 ≤ bE)) := lh (by have := (Array.getElem?_eq_some_iff.1 HE.out).1; have := HzE.out; exact ⟨by omega, .inl (by omega)⟩)
  replace HE := lh (q.row HE.out)
  replace HPa : Hid (Ints .i64 0 v'.heap.size v' (.slice (some ⟨ga, 0, none⟩) 64 ca) (plainF 128).pix) := lh ((HPa.out.quiet q).mono (Nat.le_refl _) q.size)
  have HK := lh hKf
  have HKb : Hid (W11.heap.size ≤ l1 ∧ h1 ≤ v'.heap.size) := lh ⟨by omega, hKh⟩
  replace o := lh (o.out.q q)
  clear hq q hKf hKl hKh hVl
  obtain ⟨v, rfl⟩ : ∃ z, z = v' := ⟨_, rfl⟩
  refine hK.out _ _ ?_ (fun hHeld => ?_)
  ·exact qEKeyW2
  clear hK K
  refine tkw 5 65 ⟨rfl, qEKeyWt1⟩ ?_
  refine tkw 6 71 ⟨rfl, qEKeyWt1⟩ ?_
  refine tkw 7 72 ⟨rfl, qEKeyWt1⟩ ?_
  refine tkw 8 73 ⟨rfl, qEKeyWt1⟩ ?_
  exact qEKeyW10
 ·go_simp
  generalize hW : World.alloc _ _ = v'
  have q : Only [] v v' := by rw [← hW]; first | exact Only.new _ _ | exact ((Only.refl _ _).drew).q (Only.new _ _)
  have HC : Hid (v'.heap[v.heap.size]? = some (.cells #[.int .i64 0, .slice none 0 0] 31 (0, 0))) := lh (by rw [← hW]; exact heap_alloc_new _ _)
  have hz : W11.heap.size ≤ v.heap.size := o.out.size
  have HnEC : Hid (bE ≠ v.heap.size) := lh (by have := (Array.getElem?_eq_some_iff.1 HE.out).1; omega)
  replace HE := lh (q.row HE.out)
  replace HPa : Hid (Ints .i64 0 v'.heap.size v' (.slice (some ⟨ga, 0, none⟩) 64 ca) (plainF 128).pix) := lh ((HPa.out.quiet q).mono (Nat.le_refl _) q.size)
  replace o := lh (o.out.q q)
  clear hW q
  generalize hb : v.heap.size = bC at HC HnEC ⊢
  have HzC : Hid (W11.heap.size ≤ bC) := lh (by rw [← hb]; exact hz)
  clear hb hz
  exact qEKeyW8) : p := h
theorem ekeys_any {sv pv ov : Value} {src prev oth : FrameD} {w : World} (hs : Ints .i64 0 w.heap.size w sv src.pix) (hp : Ints .i64 0 w.heap.size w pv prev.pix) (ho : Ints .i64 0 w.heap.size w ov oth.pix) (qp reach : Int) (hE : ErrT w) :
  Calls Tryz.prog 7 #[.agg #[.int .i64 src.W, .int .i64 src.H, sv], .agg #[.int .i64 prev.W, .int .i64 prev.H, pv], .agg #[.int .i64 oth.W, .int .i64 oth.H, ov], .int .i64 qp, .int .i64 reach] w fun e w' => e = .returned (.bool true) ∧ Only [] w w' := by
 refine hidQ fun Q HPost => ?_
 have HFi := lh (fun (W : World) (o : Only [] w W) => first_any W (hE.quiet o))
 have HFr := lh (fun (W : World) (o : Only [] w W) => encq_any (src := src) (prev := prev) true qp reach (hs.quiet o) (hp.quiet o) o.size o.size)
 have HFo : Hid (∀ (W : World) (o : Only [] w W), Calls Tryz.prog 14 #[.agg #[.int .i64 src.W, .int .i64 src.H, sv], .agg #[.int .i64 oth.W, .int .i64 oth.H, ov], .bool true, .int .i64 qp, .int .i64 reach] W (EncQ (qCod src prev true qp reach) (qBlt src prev true qp reach) (codeV (checkE src prev true qp reach)) W)) := lh (fun W o => by
  have h := encq_any (src := src) (prev := oth) true qp reach (hs.quiet o) (ho.quiet o) o.size o.size
  rwa [(enc_key src oth prev qp reach).1, (enc_key src oth prev qp reach).2, checkE_key src oth prev] at h)
 have HGr' : Hid (∀ (W : World) (o : Only [] w W) (gv : Value) (h : Ints .i64 0 W.heap.size W gv (plainF 128).pix), Calls Tryz.prog 14 #[.agg #[.int .i64 8, .int .i64 8, gv], .agg #[.int .i64 prev.W, .int .i64 prev.H, pv], .bool true, .int .i64 qp, .int .i64 reach] W (EncQ (qCod (plainF 128) prev true qp reach) (qBlt (plainF 128) prev true qp reach) (codeV (checkE (plainF 128) prev true qp reach)) W)) := lh (fun W o gv h => encq_any (src := plainF 128) (prev := prev) true qp reach h (hp.quiet o) (Nat.le_refl _) o.size)
 have HGN : Hid (checkE (plainF 128) prev true qp reach = none → qCod (plainF 128) prev true qp reach = ⟨1, [qp]⟩ ∧ qBlt (plainF 128) prev true qp reach = plainF 128) := lh grey_q
 have HFw := lh (fun (W : World) (o : Only [] w W) => few_any (l := [src, prev, oth]) reach (frames_three (hs.quiet o) (hp.quiet o) (ho.quiet o)) (by simp))
 have HPl := lh (fun W : World => plain_any 128 W (show (-9223372036854775808 : Int) ≤ 128 ∧ (128 : Int) ≤ 9223372036854775807 by decide))
 generalize qCod src prev true qp reach = C at *
 generalize qBlt src prev true qp reach = B at *
 generalize checkE src prev true qp reach = CK at *
 generalize qCod (plainF 128) prev true qp reach = CG at *
 generalize qBlt (plainF 128) prev true qp reach = BG at *
 generalize checkE (plainF 128) prev true qp reach = CKG at *
 obtain ⟨sa, sc, rfl, -⟩ := hs.open
 obtain ⟨pa, pc, rfl, -⟩ := hp.open
 obtain ⟨oa, oc, rfl, -⟩ := ho.open
 clear hs hp ho hE
 have HQ1 : Hid (Only [] w (((w.alloc (.cells #[.int .i64 src.W, .int .i64 src.H, .slice sa src.pix.length sc] 24)).alloc (.cells #[.int .i64 prev.W, .int .i64 prev.H, .slice pa prev.pix.length pc] 24)).alloc (.cells #[.int .i64 oth.W, .int .i64 oth.H, .slice oa oth.pix.length oc] 24))) := lh (((Only.new w _).alloc _).alloc _)
 have HS1 : Hid ((((w.alloc (.cells #[.int .i64 src.W, .int .i64 src.H, .slice sa src.pix.length sc] 24)).alloc (.cells #[.int .i64 prev.W, .int .i64 prev.H, .slice pa prev.pix.length pc] 24)).alloc (.cells #[.int .i64 oth.W, .int .i64 oth.H, .slice oa oth.pix.length oc] 24)).heap[w.heap.size]? = some (.cells #[.int .i64 src.W, .int .i64 src.H, .slice sa src.pix.length sc] 24 (0, 0))) := lh (((Only.new (w.alloc _) _).alloc _).row (heap_alloc_new w _))
 have HP1 : Hid ((((w.alloc (.cells #[.int .i64 src.W, .int .i64 src.H, .slice sa src.pix.length sc] 24)).alloc (.cells #[.int .i64 prev.W, .int .i64 prev.H, .slice pa prev.pix.length pc] 24)).alloc (.cells #[.int .i64 oth.W, .int .i64 oth.H, .slice oa oth.pix.length oc] 24)).heap[w.heap.size + 1]? = some (.cells #[.int .i64 prev.W, .int .i64 prev.H, .slice pa prev.pix.length pc] 24 (0, 0))) := lh ((Only.new ((w.alloc _).alloc _) _).row (heap_alloc_new' (by simp)))
 have HO1 : Hid ((((w.alloc (.cells #[.int .i64 src.W, .int .i64 src.H, .slice sa src.pix.length sc] 24)).alloc (.cells #[.int .i64 prev.W, .int .i64 prev.H, .slice pa prev.pix.length pc] 24)).alloc (.cells #[.int .i64 oth.W, .int .i64 oth.H, .slice oa oth.pix.length oc] 24)).heap[w.heap.size + 1 + 1]? = some (.cells #[.int .i64 oth.W, .int .i64 oth.H, .slice oa oth.pix.length oc] 24 (0, 0))) := lh (heap_alloc_new' (by simp))
 go_enter Tryz.func7, Tryz.ntmps7
 go_wp2_with fail
 generalize hW1 : World.alloc (World.alloc (World.alloc w _) _) _ = W1 at *
 clear hW1
 go_at_call 11
 refine (HFi.out _ HQ1.out).mono ?_
 rintro e w2 ⟨rfl, hq2⟩
 have HQ2 := lh hq2
 clear hq2
 obtain ⟨s0, s1, s2⟩ := frame_cells (HQ2.out.row HS1.out)
 obtain ⟨p0, p1, p2⟩ := frame_cells (HQ2.out.row HP1.out)
 obtain ⟨o0, o1, o2⟩ := frame_cells (HQ2.out.row HO1.out)
 have HOn := lh (Only.new w2 (.cells #[.int .i64 src.W, .int .i64 src.H, .slice sa src.pix.length sc, .int .i64 prev.W, .int .i64 prev.H, .slice pa prev.pix.length pc, .int .i64 oth.W, .int .i64 oth.H, .slice oa oth.pix.length oc] 24))
 have HFx := lh (HFw.out _ (HQ1.out.q HQ2.out))
 go_wp2_with fail
 generalize hW3 : World.alloc w2 _ = W3 at *
 clear hW3 s0 s1 s2 p0 p1 p2 o0 o1 o2
 have HQ3 := lh (HQ2.out.q HOn.out)
 go_at_call 12
 refine HFx.out.mono ?_
 rintro e w4 ⟨⟨b, rfl, -⟩, hq4⟩
 have HQ4 := lh (HQ3.out.q hq4)
 clear hq4
 cases b with
 | false =>
  go_wp2_with fail
  go_at_call 11
  refine (HFi.out _ (HQ1.out.q HQ4.out)).mono ?_
  rintro e w5 ⟨rfl, hq5⟩
  have HQ5 := lh (HQ4.out.q hq5)
  clear hq5
  go_wp2_with fail
  exact HPost.out _ _ ⟨rfl, HQ1.out.q HQ5.out⟩
 | true =>
  obtain ⟨s0, s1, s2⟩ := frame_cells (HQ4.out.row HS1.out)
  obtain ⟨p0, p1, p2⟩ := frame_cells (HQ4.out.row HP1.out)
  go_wp2_with fail
  clear s0 s1 s2 p0 p1 p2
  go_at_call 14
  refine (HFr.out _ (HQ1.out.q HQ4.out)).mono ?_
  rintro e w6 ⟨hq6, d1, n1, f1, m1, rfl, hk1⟩
  have HQ6 := lh (HQ4.out.q hq6)
  have HK1 := lh hk1
  clear hq6 hk1
  generalize hEV : codeV CK = EV at *
  have HEV := lh hEV
  clear hEV
  obtain ⟨hb8, HVc, HVf, -⟩ := boxes2 w6 (.cells #[.int .i64 C.kind, .slice d1 C.data.length n1] 31) (.cells #[.int .i64 B.W, .int .i64 B.H, .slice f1 B.pix.length m1] 24)
  have HA8 := lh hb8
  clear hb8
  go_upto_region 6 with (fail)
  generalize hW8 : World.alloc (World.alloc w6 _) _ = W8 at *
  clear hW8
  obtain ⟨VC, hVC⟩ : ∃ z, z = w6.heap.size := ⟨_, rfl⟩
  rw [← hVC] at HVc HVf ⊢
  clear hVC
  have HQ8 := lh (HQ6.out.q HA8.out)
  obtain ⟨s0, s1, s2⟩ := frame_cells (HQ8.out.row HS1.out)
  obtain ⟨o0, o1, o2⟩ := frame_cells (HQ8.out.row HO1.out)
  go_wp2_with fail
  clear s0 s1 s2 o0 o1 o2
  go_at_call 14
  refine (HFo.out _ (HQ1.out.q HQ8.out)).mono ?_
  rintro e w9 ⟨hq9, d2, n2, f2, m2, rfl, hk2⟩
  have HQ89 := lh hq9
  have HQ9 := lh (HQ8.out.q hq9)
  have HK2 := lh hk2
  clear hq9 hk2
  obtain ⟨hb10, HVd, HVg, -⟩ := boxes2 w9 (.cells #[.int .i64 C.kind, .slice d2 C.data.length n2] 31) (.cells #[.int .i64 B.W, .int .i64 B.H, .slice f2 B.pix.length m2] 24)
  have HA10 := lh hb10
  clear hb10
  go_upto_region 7 with (fail)
  generalize hW10 : World.alloc (World.alloc w9 _) _ = W10 at *
  clear hW10
  obtain ⟨VD, hVD⟩ : ∃ z, z = w9.heap.size := ⟨_, rfl⟩
  rw [← hVD] at HVd HVg ⊢
  clear hVD
  have HQ10 := lh (HQ9.out.q HA10.out)
  have HQ810 := lh (HQ89.out.q HA10.out)
  have HQ610 := lh (HA8.out.q HQ810.out)
  have HS7 : Hid (∀ wx : World, Only [] W10 wx → wx.heap[VC]? = some (.cells #[.int .i64 C.kind, .slice d1 C.data.length n1] 31 (0, 0)) ∧ wx.heap[VC + 1]? = some (.cells #[.int .i64 B.W, .int .i64 B.H, .slice f1 B.pix.length m1] 24 (0, 0)) ∧ wx.heap[VD]? = some (.cells #[.int .i64 C.kind, .slice d2 C.data.length n2] 31 (0, 0)) ∧ wx.heap[VD + 1]? = some (.cells #[.int .i64 B.W, .int .i64 B.H, .slice f2 B.pix.length m2] 24 (0, 0))) := lh (fun wx o => ⟨(HQ810.out.q o).row HVc.out, (HQ810.out.q o).row HVf.out, o.row HVd.out, o.row HVg.out⟩)
  have HKc := lh (fun (W : World) (o : Only [] W10 W) => coded_any (j := C.kind) (k := C.kind) (HK1.out.1.quiet (HQ610.out.q o)) (HK2.out.1.quiet (HA10.out.q o)))
  rw [show eqB (⟨C.kind, C.data⟩ : Coded) ⟨C.kind, C.data⟩ = true by simp [eqB]] at HKc
  have HKf := lh (fun (W : World) (o : Only [] W10 W) => kframe_any (A := B) (B := B) (HK1.out.2.quiet (HQ610.out.q o)) (HK2.out.2.quiet (HA10.out.q o)))
  rw [show frEq B B = true by unfold frEq; simp [eqB]] at HKf
  go_cut [64] (fun s64 wx => s64 = .bool false ∧ Hid (Only [] W10 wx))
  case first =>
   have x0 := lh (Only.refl [] W10)
   obtain rfl := HEV.out
   cases CK with
   | none =>
    exact qEKeyW3
   | some kk =>
    exact qEKeyW3
  case rest =>
   obtain ⟨rfl, HOc⟩ := hcut
   obtain ⟨W11, hW11⟩ : ∃ z, z = wc := ⟨_, rfl⟩
   subst hW11
   have HQ11 := lh (HQ10.out.q HOc.out)
   clear HVc HVf HVd HVg HS7 HKc HKf HK1 HK2 HA8 HA10 HQ810 HQ610 HQ89
   go_upto_region 9 with (fail)
   have HS9 : Hid (∀ wx : World, Only [] W11 wx → wx.heap[w.heap.size + 1]? = some (.cells #[.int .i64 prev.W, .int .i64 prev.H, .slice pa prev.pix.length pc] 24 (0, 0))) := lh (fun wx o => (HQ11.out.q o).row HP1.out)
   have HGr := lh (fun (W : World) (o : Only [] W11 W) => HGr'.out W (HQ1.out.q (HQ11.out.q o)))
   generalize hEG : codeV CKG = EG at *
   have HEG := lh hEG
   clear hEG HGr'
   go_cut [17, 18, 19] (fun sC sE s19 wx => ∃ (bC : Nat) (bE : Nat) (l1 : Nat) (h1 : Nat) (d3 : Option Addr) (n3 : Nat) (f3 : Option Addr) (m3 : Nat), sC = .pointer (some ⟨bC, 0, none⟩) ∧ sE = .pointer (some ⟨bE, 0, none⟩) ∧ s19 = EG ∧ Hid (Only [] W11 wx) ∧ Hid (wx.heap[bC]? = some (.cells #[.int .i64 CG.kind, .slice d3 CG.data.length n3] 31 (0, 0))) ∧ Hid (wx.heap[bE]? = some (.cells #[.int .i64 BG.W, .int .i64 BG.H, .slice f3 BG.pix.length m3] 24 (0, 0))) ∧ Hid (W11.heap.size ≤ l1 ∧ h1 ≤ wx.heap.size) ∧ Hid (EncK l1 h1 wx (.slice d3 CG.data.length n3) CG.data (.slice f3 BG.pix.length m3) BG.pix) ∧ Hid (W11.heap.size ≤ bC ∧ (bC < l1 ∨ h1 ≤ bC)) ∧ Hid (W11.heap.size ≤ bE ∧ (bE < l1 ∨ h1 ≤ bE)))
   case first =>
    have o := lh (Only.refl [] W11)
    refine wp_region_held_drew (S := (fun wz => wz.heap[w.heap.size + 1]? = some (.cells #[.int .i64 prev.W, .int .i64 prev.H, .slice pa prev.pix.length pc] 24 (0, 0)))) (by kernel_rfl) ?_ (fun hHeld => ?_)
    ·first | exact HS9.out _ (Only.refl _ _) | exact HS9.out _ (Only.refl _ _).drew
    refine tkw 1 67 ⟨rfl, qEKeyWt1⟩ ?_
    refine tkw 2 68 ⟨rfl, qEKeyWt1⟩ ?_
    refine tkw 3 69 ⟨rfl, qEKeyWt1⟩ ?_
    refine rdy (rdc 0 66 (fun K hK => ?_) (rdc 9 17 (fun K hK => ?_) (rdc 10 18 (fun K hK => ?_) .nil)))
    ·go_simp
     go_at_call 27
     refine (HPl.out _).mono ?_
     rintro e v' ⟨ga, ca, rfl, ho9, hq⟩
     have hP : Ints .i64 0 v'.heap.size v' (.slice (some ⟨ga, 0, none⟩) 64 ca) (plainF 128).pix := ho9.ints.mono (Nat.zero_le _) (Nat.le_refl _)
     clear ho9
     have q : Only [] W11 v' := by first | exact hq | exact ((Only.refl _ _).drew).q hq
     have HPa := lh hP
     replace o := lh (o.out.q q)
     clear hq q hP
     obtain ⟨v, rfl⟩ : ∃ z, z = v' := ⟨_, rfl⟩
     refine hK.out _ _ ?_ (fun hHeld => ?_)
     ·exact qEKeyW2
     clear hK K
     refine rdy (rdc 4 70 (fun K hK => ?_) (rdc 9 17 (fun K hK => ?_) (rdc 10 18 (fun K hK => ?_) .nil)))
     ·go_simp
      go_at_call 14
      refine (HGr.out _ (by first | exact o.out | exact o.out.drew) _ (by first | exact HPa.out | exact HPa.out.quiet (Only.refl _ _).drew)).mono ?_
      rintro e v' ⟨hq, d3, n3, f3, m3, rfl, hi9⟩
      obtain ⟨l1, hl1⟩ : ∃ z, z = v.heap.size := ⟨_, rfl⟩
      obtain ⟨h1, hh1⟩ : ∃ z, z = v'.heap.size := ⟨_, rfl⟩
      have hKf : EncK l1 h1 v' (.slice d3 CG.data.length n3) CG.data (.slice f3 BG.pix.length m3) BG.pix := by rw [hl1, hh1]; exact hi9
      have hKl : v.heap.size ≤ l1 := by omega
      have hKh : h1 ≤ v'.heap.size := by omega
      clear hi9 hl1 hh1
      have q : Only [] v v' := by first | exact hq | exact ((Only.refl _ _).drew).q hq
      have hVl : W11.heap.size ≤ v.heap.size := o.out.size
      replace HPa : Hid (Ints .i64 0 v'.heap.size v' (.slice (some ⟨ga, 0, none⟩) 64 ca) (plainF 128).pix) := lh ((HPa.out.quiet q).mono (Nat.le_refl _) q.size)
      have HK := lh hKf
      have HKb : Hid (W11.heap.size ≤ l1 ∧ h1 ≤ v'.heap.size) := lh ⟨by omega, hKh⟩
      replace o := lh (o.out.q q)
      clear hq q hKf hKl hKh hVl
      obtain ⟨v, rfl⟩ : ∃ z, z = v' := ⟨_, rfl⟩
      refine hK.out _ _ ?_ (fun hHeld => ?_)
      ·exact qEKeyW2
      clear hK K
      refine tkw 5 65 ⟨rfl, qEKeyWt1⟩ ?_
      refine tkw 6 71 ⟨rfl, qEKeyWt1⟩ ?_
      refine tkw 7 72 ⟨rfl, qEKeyWt1⟩ ?_
      refine tkw 8 73 ⟨rfl, qEKeyWt1⟩ ?_
      refine rdy (rdc 9 17 (fun K hK => ?_) (rdc 10 18 (fun K hK => ?_) .nil))
      ·go_simp
       generalize hW : World.alloc _ _ = v'
       have q : Only [] v v' := by rw [← hW]; first | exact Only.new _ _ | exact ((Only.refl _ _).drew).q (Only.new _ _)
       have HC : Hid (v'.heap[v.heap.size]? = some (.cells #[.int .i64 0, .slice none 0 0] 31 (0, 0))) := lh (by rw [← hW]; exact heap_alloc_new _ _)
       have hz : W11.heap.size ≤ v.heap.size := o.out.size
       have HkC : Hid (W11.heap.size ≤ v.heap.size ∧ (v.heap.size < l1 ∨ h1 ≤ v.heap.size)) := lh ⟨hz, .inr HKb.out.2⟩
       replace HK : Hid (EncK l1 h1 v' (.slice d3 CG.data.length n3) CG.data (.slice f3 BG.pix.length m3) BG.pix) := lh (HK.out.only q (by simp))
       replace HKb : Hid (W11.heap.size ≤ l1 ∧ h1 ≤ v'.heap.size) := lh ⟨HKb.out.1, Nat.le_trans HKb.out.2 q.size⟩
       replace HPa : Hid (Ints .i64 0 v'.heap.size v' (.slice (some ⟨ga, 0, none⟩) 64 ca) (plainF 128).pix) := lh ((HPa.out.quiet q).mono (Nat.le_refl _) q.size)
       replace o := lh (o.out.q q)
       clear hW q
       generalize hb : v.heap.size = bC at HC HkC ⊢
       have HzC : Hid (W11.heap.size ≤ bC) := lh (by rw [← hb]; exact hz)
       clear hb hz
       obtain ⟨v, rfl⟩ : ∃ z, z = v' := ⟨_, rfl⟩
       refine hK.out _ _ ?_ (fun hHeld => ?_)
       ·exact qEKeyW2
       clear hK K
       exact qEKeyW9
      ·go_simp
       generalize hW : World.alloc _ _ = v'
       have q : Only [] v v' := by rw [← hW]; first | exact Only.new _ _ | exact ((Only.refl _ _).drew).q (Only.new _ _)
       have HE : Hid (v'.heap[v.heap.size]? = some (.cells #[.int .i64 0, .int .i64 0, .slice none 0 0] 24 (0, 0))) := lh (by rw [← hW]; exact heap_alloc_new _ _)
       have hz : W11.heap.size ≤ v.heap.size := o.out.size
       have HkE : Hid (W11.heap.size ≤ v.heap.size ∧ (v.heap.size < l1 ∨ h1 ≤ v.heap.size)) := lh ⟨hz, .inr HKb.out.2⟩
       replace HK : Hid (EncK l1 h1 v' (.slice d3 CG.data.length n3) CG.data (.slice f3 BG.pix.length m3) BG.pix) := lh (HK.out.only q (by simp))
       replace HKb : Hid (W11.heap.size ≤ l1 ∧ h1 ≤ v'.heap.size) := lh ⟨HKb.out.1, Nat.le_trans HKb.out.2 q.size⟩
       replace HPa : Hid (Ints .i64 0 v'.heap.size v' (.slice (some ⟨ga, 0, none⟩) 64 ca) (plainF 128).pix) := lh ((HPa.out.quiet q).mono (Nat.le_refl _) q.size)
       replace o := lh (o.out.q q)
       clear hW q
       generalize hb : v.heap.size = bE at HE HkE ⊢
       have HzE : Hid (W11.heap.size ≤ bE) := lh (by rw [← hb]; exact hz)
       clear hb hz
       obtain ⟨v, rfl⟩ : ∃ z, z = v' := ⟨_, rfl⟩
       refine hK.out _ _ ?_ (fun hHeld => ?_)
       ·exact qEKeyW2
       clear hK K
       exact qEKeyW10
     ·go_simp
      generalize hW : World.alloc _ _ = v'
      have q : Only [] v v' := by rw [← hW]; first | exact Only.new _ _ | exact ((Only.refl _ _).drew).q (Only.new _ _)
      have HC : Hid (v'.heap[v.heap.size]? = some (.cells #[.int .i64 0, .slice none 0 0] 31 (0, 0))) := lh (by rw [← hW]; exact heap_alloc_new _ _)
      have hz : W11.heap.size ≤ v.heap.size := o.out.size
      replace HPa : Hid (Ints .i64 0 v'.heap.size v' (.slice (some ⟨ga, 0, none⟩) 64 ca) (plainF 128).pix) := lh ((HPa.out.quiet q).mono (Nat.le_refl _) q.size)
      replace o := lh (o.out.q q)
      clear hW q
      generalize hb : v.heap.size = bC at HC ⊢
      have HzC : Hid (W11.heap.size ≤ bC) := lh (by rw [← hb]; exact hz)
      clear hb hz
      exact qEKeyW4
     ·go_simp
      generalize hW : World.alloc _ _ = v'
      have q : Only [] v v' := by rw [← hW]; first | exact Only.new _ _ | exact ((Only.refl _ _).drew).q (Only.new _ _)
      have HE : Hid (v'.heap[v.heap.size]? = some (.cells #[.int .i64 0, .int .i64 0, .slice none 0 0] 24 (0, 0))) := lh (by rw [← hW]; exact heap_alloc_new _ _)
      have hz : W11.heap.size ≤ v.heap.size := o.out.size
      replace HPa : Hid (Ints .i64 0 v'.heap.size v' (.slice (some ⟨ga, 0, none⟩) 64 ca) (plainF 128).pix) := lh ((HPa.out.quiet q).mono (Nat.le_refl _) q.size)
      replace o := lh (o.out.q q)
      clear hW q
      generalize hb : v.heap.size = bE at HE ⊢
      have HzE : Hid (W11.heap.size ≤ bE) := lh (by rw [← hb]; exact hz)
      clear hb hz
      exact qEKeyW5
    ·go_simp
     generalize hW : World.alloc _ _ = v'
     have q : Only [] W11 v' := by rw [← hW]; first | exact Only.new _ _ | exact ((Only.refl _ _).drew).q (Only.new _ _)
     have HC : Hid (v'.heap[W11.heap.size]? = some (.cells #[.int .i64 0, .slice none 0 0] 31 (0, 0))) := lh (by rw [← hW]; exact heap_alloc_new _ _)
     have hz : W11.heap.size ≤ W11.heap.size := o.out.size
     replace o := lh (o.out.q q)
     clear hW q
     generalize hb : W11.heap.size = bC at HC ⊢
     have HzC : Hid (W11.heap.size ≤ bC) := lh (by rw [← hb]; exact hz)
     clear hb hz
     obtain ⟨v, rfl⟩ : ∃ z, z = v' := ⟨_, rfl⟩
     refine hK.out _ _ ?_ (fun hHeld => ?_)
     ·exact qEKeyW2
     clear hK K
     refine rdy (rdc 0 66 (fun K hK => ?_) (rdc 10 18 (fun K hK => ?_) .nil))
     ·go_simp
      go_at_call 27
      refine (HPl.out _).mono ?_
      rintro e v' ⟨ga, ca, rfl, ho9, hq⟩
      have hP : Ints .i64 0 v'.heap.size v' (.slice (some ⟨ga, 0, none⟩) 64 ca) (plainF 128).pix := ho9.ints.mono (Nat.zero_le _) (Nat.le_refl _)
      clear ho9
      have q : Only [] v v' := by first | exact hq | exact ((Only.refl _ _).drew).q hq
      replace HC := lh (q.row HC.out)
      have HPa := lh hP
      replace o := lh (o.out.q q)
      clear hq q hP
      exact qEKeyW4
     ·go_simp
      generalize hW : World.alloc _ _ = v'
      have q : Only [] v v' := by rw [← hW]; first | exact Only.new _ _ | exact ((Only.refl _ _).drew).q (Only.new _ _)
      have HE : Hid (v'.heap[v.heap.size]? = some (.cells #[.int .i64 0, .int .i64 0, .slice none 0 0] 24 (0, 0))) := lh (by rw [← hW]; exact heap_alloc_new _ _)
      have hz : W11.heap.size ≤ v.heap.size := o.out.size
      have HnCE : Hid (bC ≠ v.heap.size) := lh (by have := (Array.getElem?_eq_some_iff.1 HC.out).1; omega)
      replace HC := lh (q.row HC.out)
      replace o := lh (o.out.q q)
      clear hW q
      generalize hb : v.heap.size = bE at HE HnCE ⊢
      have HzE : Hid (W11.heap.size ≤ bE) := lh (by rw [← hb]; exact hz)
      clear hb hz
      obtain ⟨v, rfl⟩ : ∃ z, z = v' := ⟨_, rfl⟩
      refine hK.out _ _ ?_ (fun hHeld => ?_)
      ·exact qEKeyW2
      clear hK K
      refine rdy (rdc 0 66 (fun K hK => ?_) .nil)
      go_simp
      go_at_call 27
      refine (HPl.out _).mono ?_
      rintro e v' ⟨ga, ca, rfl, ho9, hq⟩
      have hP : Ints .i64 0 v'.heap.size v' (.slice (some ⟨ga, 0, none⟩) 64 ca) (plainF 128).pix := ho9.ints.mono (Nat.zero_le _) (Nat.le_refl _)
      clear ho9
      have q : Only [] v v' := by first | exact hq | exact ((Only.refl _ _).drew).q hq
      replace HC := lh (q.row HC.out)
      replace HE := lh (q.row HE.out)
      have HPa := lh hP
      replace o := lh (o.out.q q)
      clear hq q hP
      exact qEKeyW7
    ·go_simp
     generalize hW : World.alloc _ _ = v'
     have q : Only [] W11 v' := by rw [← hW]; first | exact Only.new _ _ | exact ((Only.refl _ _).drew).q (Only.new _ _)
     have HE : Hid (v'.heap[W11.heap.size]? = some (.cells #[.int .i64 0, .int .i64 0, .slice none 0 0] 24 (0, 0))) := lh (by rw [← hW]; exact heap_alloc_new _ _)
     have hz : W11.heap.size ≤ W11.heap.size := o.out.size
     replace o := lh (o.out.q q)
     clear hW q
     generalize hb : W11.heap.size = bE at HE ⊢
     have HzE : Hid (W11.heap.size ≤ bE) := lh (by rw [← hb]; exact hz)
     clear hb hz
     obtain ⟨v, rfl⟩ : ∃ z, z = v' := ⟨_, rfl⟩
     refine hK.out _ _ ?_ (fun hHeld => ?_)
     ·exact qEKeyW2
     clear hK K
     refine rdy (rdc 0 66 (fun K hK => ?_) (rdc 9 17 (fun K hK => ?_) .nil))
     ·go_simp
      go_at_call 27
      refine (HPl.out _).mono ?_
      rintro e v' ⟨ga, ca, rfl, ho9, hq⟩
      have hP : Ints .i64 0 v'.heap.size v' (.slice (some ⟨ga, 0, none⟩) 64 ca) (plainF 128).pix := ho9.ints.mono (Nat.zero_le _) (Nat.le_refl _)
      clear ho9
      have q : Only [] v v' := by first | exact hq | exact ((Only.refl _ _).drew).q hq
      replace HE := lh (q.row HE.out)
      have HPa := lh hP
      replace o := lh (o.out.q q)
      clear hq q hP
      exact qEKeyW5
     ·go_simp
      generalize hW : World.alloc _ _ = v'
      have q : Only [] v v' := by rw [← hW]; first | exact Only.new _ _ | exact ((Only.refl _ _).drew).q (Only.new _ _)
      have HC : Hid (v'.heap[v.heap.size]? = some (.cells #[.int .i64 0, .slice none 0 0] 31 (0, 0))) := lh (by rw [← hW]; exact heap_alloc_new _ _)
      have hz : W11.heap.size ≤ v.heap.size := o.out.size
      have HnEC : Hid (bE ≠ v.heap.size) := lh (by have := (Array.getElem?_eq_some_iff.1 HE.out).1; omega)
      replace HE := lh (q.row HE.out)
      replace o := lh (o.out.q q)
      clear hW q
      generalize hb : v.heap.size = bC at HC HnEC ⊢
      have HzC : Hid (W11.heap.size ≤ bC) := lh (by rw [← hb]; exact hz)
      clear hb hz
      obtain ⟨v, rfl⟩ : ∃ z, z = v' := ⟨_, rfl⟩
      refine hK.out _ _ ?_ (fun hHeld => ?_)
      ·exact qEKeyW2
      clear hK K
      refine rdy (rdc 0 66 (fun K hK => ?_) .nil)
      go_simp
      go_at_call 27
      refine (HPl.out _).mono ?_
      rintro e v' ⟨ga, ca, rfl, ho9, hq⟩
      have hP : Ints .i64 0 v'.heap.size v' (.slice (some ⟨ga, 0, none⟩) 64 ca) (plainF 128).pix := ho9.ints.mono (Nat.zero_le _) (Nat.le_refl _)
      clear ho9
      have q : Only [] v v' := by first | exact hq | exact ((Only.refl _ _).drew).q hq
      replace HC := lh (q.row HC.out)
      replace HE := lh (q.row HE.out)
      have HPa := lh hP
      replace o := lh (o.out.q q)
      clear hq q hP
      exact qEKeyW8
   case rest =>
    obtain ⟨bC, bE, l1, h1, d3, n3, f3, m3, rfl, rfl, rfl, HOd, HVc, HVf, -, HKG, -, -⟩ := hcut
    obtain ⟨W12, hW12⟩ : ∃ z, z = wc := ⟨_, rfl⟩
    subst hW12
    have HQ12 := lh (HQ1.out.q (HQ11.out.q HOd.out))
    have HFi12 := lh (fun (W : World) (o : Only [] W12 W) => HFi.out W (HQ12.out.q o))
    have x0 := lh (Only.refl [] W12)
    go_upto_region 10 with (fail)
    obtain rfl := HEG.out
    cases CKG with
    | some kk =>
     simp only [codeV]
     refine wp_region_held_drew (S := (fun _ => True)) (by kernel_rfl) ?_ (fun hHeld => ?_)
     ·trivial
     refine rdy (rdc 0 74 (fun K hK => ?_) .nil)
     go_simp
     go_at_call 11
     refine (HFi12.out _ (by first | exact x0.out | exact x0.out.drew)).mono ?_
     rintro e y1 ⟨rfl, hq⟩
     have x1 : Hid (Only [] W12 y1) := lh (by first | exact x0.out.q hq | exact x0.out.drew.q hq)
     clear hq
     refine hK.out _ _ ?_ (fun hHeld => ?_)
     ·trivial
     clear hK K
     try simp only [Act.put, List.setIfInBounds_toArray, List.set_cons_zero, List.set_cons_succ]
     refine tk 1 75 ?_
     refine tk 2 76 ?_
     refine tk 3 77 ?_
     refine tk 4 78 ?_
     refine tkn 5 79 ?_
     refine tkn 6 80 ?_
     refine tkn 7 81 ?_
     refine tkn 8 82 ?_
     refine tkn 9 83 ?_
     refine tkn 10 84 ?_
     refine tkn 11 85 ?_
     refine tkn 12 86 ?_
     refine tk 13 87 ?_
     refine tk 14 88 ?_
     refine tk 15 10 ?_
     refine wpAnyH_done (by kernel_rfl) ?_ _
     go_wp2_with fail
     exact HPost.out _ _ ⟨rfl, by first | exact HQ12.out.q x1.out | exact HQ12.out.q x1.out.drew⟩
    | none =>
     obtain ⟨rfl, rfl⟩ := HGN.out rfl
     have HS10 : Hid (∀ wx : World, Only [] W12 wx → wx.heap[bC]? = some (.cells #[.int .i64 1, .slice d3 1 n3] 31 (0, 0)) ∧ wx.heap[bE]? = some (.cells #[.int .i64 8, .int .i64 8, .slice f3 64 m3] 24 (0, 0))) := lh (fun wx o => ⟨o.row HVc.out, o.row HVf.out⟩)
     have HCo : Hid (∀ (W : World) (o : Only [] W12 W), Calls Tryz.prog 25 #[.agg #[.int .i64 1, .slice d3 1 n3]] W fun e w' => e = .returned (.int .i64 9) ∧ Only [] W w') := lh (fun W o => cost_any (k := 1) (HKG.out.1.quiet o) (by simp))
     have HPlo := lh (fun (W : World) (o : Only [] W12 W) => HPl.out W)
     have HKg : Hid (∀ (W : World) (o : Only [] W12 W) (l' h' : Nat) (pu : Value) (hu : Ints .i64 l' h' W pu (plainF 128).pix), Calls Tryz.prog 17 #[.agg #[.int .i64 8, .int .i64 8, .slice f3 64 m3], .agg #[.int .i64 8, .int .i64 8, pu]] W fun e w' => e = .returned (.bool true) ∧ Only [] W w') := lh (fun W o l' h' pu hu => by
      have h := kframe_any (A := plainF 128) (B := plainF 128) (HKG.out.2.quiet o) hu
      rwa [show frEq (plainF 128) (plainF 128) = true by unfold frEq; simp [eqB]] at h)
     simp only [codeV]
     refine wp_region_held_drew (S := (fun wz => wz.heap[bC]? = some (.cells #[.int .i64 1, .slice d3 1 n3] 31 (0, 0)) ∧ wz.heap[bE]? = some (.cells #[.int .i64 8, .int .i64 8, .slice f3 64 m3] 24 (0, 0)))) (by kernel_rfl) ?_ (fun hHeld => ?_)
     ·exact HS10.out _ (by first | exact x0.out | exact x0.out.drew)
     refine rdy (rdc 0 74 (fun K hK => ?_) .nil)
     go_simp
     go_at_call 11
     refine (HFi12.out _ (by first | exact x0.out | exact x0.out.drew)).mono ?_
     rintro e y1 ⟨rfl, hq⟩
     have x1 : Hid (Only [] W12 y1) := lh (by first | exact x0.out.q hq | exact x0.out.drew.q hq)
     clear hq
     refine hK.out _ _ ?_ (fun hHeld => ?_)
     ·exact HS10.out _ (by first | exact x1.out | exact x1.out.drew)
     clear hK K
     try simp only [Act.put, List.setIfInBounds_toArray, List.set_cons_zero, List.set_cons_succ]
     refine tkw 1 75 ⟨rfl, qEKeyWt2⟩ ?_
     refine tkw 2 76 ⟨rfl, qEKeyWt2⟩ ?_
     refine tkw 3 77 ⟨rfl, qEKeyWt2⟩ ?_
     refine tkw 4 78 ⟨rfl, qEKeyWt2⟩ ?_
     refine tkw 5 79 ⟨rfl, qEKeyWt2⟩ ?_
     refine rdy (rdc 6 80 (fun K hK => ?_) .nil)
     go_simp
     go_at_call 25
     refine (HCo.out _ (by first | exact x1.out | exact x1.out.drew)).mono ?_
     rintro e y2 ⟨rfl, hq⟩
     have x2 : Hid (Only [] W12 y2) := lh (by first | exact x1.out.q hq | exact x1.out.drew.q hq)
     clear hq
     refine hK.out _ _ ?_ (fun hHeld => ?_)
     ·exact HS10.out _ (by first | exact x2.out | exact x2.out.drew)
     clear hK K
     try simp only [Act.put, List.setIfInBounds_toArray, List.set_cons_zero, List.set_cons_succ]
     refine tkw 7 81 ⟨rfl, qEKeyWt2⟩ ?_
     refine tkw 8 82 ⟨rfl, qEKeyWt2⟩ ?_
     refine tkw 9 83 ⟨rfl, qEKeyWt2⟩ ?_
     refine rdy (rdc 10 84 (fun K hK => ?_) .nil)
     go_simp
     go_at_call 27
     refine (HPlo.out _ (by first | exact x2.out | exact x2.out.drew)).mono ?_
     rintro e y3 ⟨g3, c3x, rfl, ho, hq⟩
     have HP3 := lh ho.ints
     clear ho
     have x3 : Hid (Only [] W12 y3) := lh (by first | exact x2.out.q hq | exact x2.out.drew.q hq)
     clear hq
     refine hK.out _ _ ?_ (fun hHeld => ?_)
     ·exact HS10.out _ (by first | exact x3.out | exact x3.out.drew)
     clear hK K
     try simp only [Act.put, List.setIfInBounds_toArray, List.set_cons_zero, List.set_cons_succ]
     refine rdy (rdc 11 85 (fun K hK => ?_) .nil)
     go_simp
     go_at_call 17
     refine (HKg.out _ (by first | exact x3.out | exact x3.out.drew) _ _ _ (by first | exact HP3.out | exact HP3.out.quiet (Only.refl _ _).drew)).mono ?_
     rintro e y4 ⟨rfl, hq⟩
     have x4 : Hid (Only [] W12 y4) := lh (by first | exact x3.out.q hq | exact x3.out.drew.q hq)
     clear hq
     refine hK.out _ _ ?_ (fun hHeld => ?_)
     ·exact HS10.out _ (by first | exact x4.out | exact x4.out.drew)
     clear hK K
     try simp only [Act.put, List.setIfInBounds_toArray, List.set_cons_zero, List.set_cons_succ]
     refine tkw 12 86 ⟨rfl, qEKeyWt2⟩ ?_
     refine tkw 13 87 ⟨rfl, qEKeyWt2⟩ ?_
     refine tkw 14 88 ⟨rfl, qEKeyWt2⟩ ?_
     refine tkw 15 10 ⟨rfl, qEKeyWt2⟩ ?_
     refine wpAnyH_done (by kernel_rfl) ?_ _
     go_wp2_with fail
     exact HPost.out _ _ ⟨rfl, by first | exact HQ12.out.q x4.out | exact HQ12.out.q x4.out.drew⟩
end
theorem ekeys_card {sv pv ov : Value} {src prev oth : FrameD} {w : World} (hs : Ints .i64 0 w.heap.size w sv src.pix) (_ : InK .i64 src.W ∧ InK .i64 src.H) (hp : Ints .i64 0 w.heap.size w pv prev.pix) (_ : InK .i64 prev.W ∧ InK .i64 prev.H) (ho : Ints .i64 0 w.heap.size w ov oth.pix) (_ : InK .i64 oth.W ∧ InK .i64 oth.H) (qp reach : Int) (_ : w.heap.size ≤ w.heap.size) (hE : ErrT w) :
  Calls Tryz.prog 7 #[.agg #[.int .i64 src.W, .int .i64 src.H, sv], .agg #[.int .i64 prev.W, .int .i64 prev.H, pv], .agg #[.int .i64 oth.W, .int .i64 oth.H, ov], .int .i64 qp, .int .i64 reach] w fun e w' => e = .returned (.bool true) ∧ Only [] w w' := ekeys_any hs hp ho qp reach hE
end Go.Proofs.YtmgbbgffkakcaaaGreatDoor
/- EncodeKeys of the encoder: for any arguments the law kinlaw22.EncodeKeys answers true and leaves its arguments as they were (a key frame hangs on nothing ahead; grey samples are one byte and a few). Conditions: errors.errorType is laid as the program's text lays it (the card ties it). -/
namespace Go.Proofs.YtmgbbgffkakcaaaGreatDoor
open Go.ChangeShapes Go.WideShapes Go.ChangeAt Go.RowKit
set_option linter.unusedVariables false
set_option linter.unusedSimpArgs false
theorem encodeKeys_lifted (os : Os) (started : os.Started) (H : Type) (enc : TypeId × Value → H) :
  ReturnsInHanded {} Tryz.checked os 7 .any (fun w args => (Rows.encodeKeysSpec.pre enc Tryz.prog Tryz.f7 [] false w args ∧ laidMetH Tryz.prog laid1 w) ∧ sizedMet enc Tryz.prog Tryz.f7 (OpenSpec.ofChange Rows.encodeKeysSpec) false w args)
   (Rows.encodeKeysSpec.post enc Tryz.prog Tryz.f7 false true false false) := by
 refine returnsInHanded_of_change_and (C := Tryz.checked) (X := fun w _ => laidMetH Tryz.prog laid1 w) (fun _ _ _ hh h => h.of_heap hh) own_ started (by kernel_rfl) Tryz.func7
  (ChangeSpec.witness_at (enc := enc) (C := Tryz.checked) (os := os) (X := fun w _ => laidMetH Tryz.prog laid1 w) false (laidWorld os) #[.agg #[.int .i64 0, .int .i64 0, .slice none 0 0], .agg #[.int .i64 0, .int .i64 0, .slice none 0 0], .agg #[.int .i64 0, .int .i64 0, .slice none 0 0], .int .i64 0, .int .i64 0] 8 rfl (by kernel_rfl) (by kernel_rfl) (by kernel_rfl) (by kernel_rfl) (by kernel_rfl) (laidWorld_met os _)) ?_
 intro W base args ds gs before hval0 hW _ _ hL _
 have hval : ∀ (j : Nat) t v, Tryz.f7.params[j]? = some t → args[j]? = some v → Value.okWide Tryz.prog W .any base t v := hval0
 have hW' := hW
 obtain ⟨p, q, hA0, hV, rfl, hfz, hnd⟩ := hW
 have hA : DataW.TrodAll enc Tryz.prog W 0 (fun _ => true) true Tryz.f7.params.toList args.toList ds p := hA0
 rw [Tryz.params7] at hA hval
 obtain ⟨v0, vs0, d0, ds0, p0, q0, hargs, rfl, rfl, h0, r0⟩ := trodAll_cons hA
 obtain ⟨v1, vs1, d1, ds1, p1, q1, rfl, rfl, rfl, h1, r1⟩ := trodAll_cons r0
 obtain ⟨v2, vs2, d2, ds2, p2, q2, rfl, rfl, rfl, h2, r2⟩ := trodAll_cons r1
 obtain ⟨v3, vs3, d3, ds3, p3, q3, rfl, rfl, rfl, h3, r3⟩ := trodAll_cons r2
 obtain ⟨v4, vs4, d4, ds4, p4, q4, rfl, rfl, rfl, h4, r4⟩ := trodAll_cons r3
 obtain ⟨rfl, rfl, rfl⟩ := trodAll_nil r4
 obtain rfl : args = #[v0, v1, v2, v3, v4] := by cases args; simp_all
 obtain ⟨rfl, rfl⟩ := trodVars_none hV
 have k0 := h0
 have lt0 : ∀ x ∈ p0, x.block < W.heap.size := by obtain ⟨m, hm⟩ := k0; exact DataW.trod_lt m _ _ _ hm
 obtain ⟨f0, pv0, rfl, hk0, hd0⟩ := frame_in (hval 0 24 v0 rfl rfl) h0
 have k1 := h1
 have lt1 : ∀ x ∈ p1, x.block < W.heap.size := by obtain ⟨m, hm⟩ := k1; exact DataW.trod_lt m _ _ _ hm
 obtain ⟨f1, pv1, rfl, hk1, hd1⟩ := frame_in (hval 1 24 v1 rfl rfl) h1
 have k2 := h2
 have lt2 : ∀ x ∈ p2, x.block < W.heap.size := by obtain ⟨m, hm⟩ := k2; exact DataW.trod_lt m _ _ _ hm
 obtain ⟨f2, pv2, rfl, hk2, hd2⟩ := frame_in (hval 2 24 v2 rfl rfl) h2
 obtain ⟨n3, rfl, rfl, rfl, w3⟩ := open_int Tryz.underlying3 (hval 3 3 v3 rfl rfl) h3
 obtain ⟨n4, rfl, rfl, rfl, w4⟩ := open_int Tryz.underlying3 (hval 4 3 v4 rfl rfl) h4
 clear hA0 hval0
 simp only [List.append_nil] at hW'
 refine (ekeys_card hd0 hk0 hd1 hk1 hd2 hk2 n3 n4 (Nat.le_refl _) (errT_of_laid hL)).mono fun e W' ⟨he, hq⟩ => ?_
 subst he
 have bel := hq.quiet
 exact ⟨_, rfl, _, _, _, [], _, [], hW', trodAll_mk1 (shut_bool Tryz.underlying4 _), (trodAll_cons_mk (Below.trod laidOut_ (by kernel_rfl) (of_decide_eq_true (by kernel_rfl)) k0 bel lt0) (trodAll_cons_mk (Below.trod laidOut_ (by kernel_rfl) (of_decide_eq_true (by kernel_rfl)) k1 bel lt1) (trodAll_cons_mk (Below.trod laidOut_ (by kernel_rfl) (of_decide_eq_true (by kernel_rfl)) k2 bel lt2) (trodAll_cons_mk (shut_int Tryz.underlying3 w3) (trodAll_cons_mk (shut_int Tryz.underlying3 w4) trodAll_mk0))))), rfl, bel.frame _, fun h => by cases h⟩
theorem encodeKeys_row : Rows.EncodeKeysSaid :=
 OpenClaim.holds_of_wide 7 Tryz.f7 rfl rfl rfl rfl rfl rfl rfl ⟨rfl, rfl, rfl, rfl, rfl⟩ rfl rfl rfl rfl rfl (by kernel_rfl) Tryz.func7 (by kernel_rfl)
  (of_decide_eq_true (by kernel_rfl)) (by unfold Func.isWrapper; first | (rw [if_pos (by decide +kernel)]; kernel_rfl) | (rw [if_neg (by decide +kernel)]; exact ⟨rfl, rfl⟩))
  (fun os started H enc _ => encodeKeys_lifted os started H enc)
theorem encodeKeys_holds : Rows.EncodeKeysCardSaid :=
 Claim7.holds_tied_plain_at .later [] [.handle] true _ true
  encodeKeys_row (fun _ h => by cases h) (by kernel_rfl) (fun _ h => by cases h) encodeKeys_row_tie rfl ⟨rfl, rfl⟩ (by kernel_rfl) rfl
  (fun f fn hf hfn => by
   obtain rfl : f = 7 := Option.some.inj ((show Tryz.prog.funcNamed "kinescope/kinlaw22.EncodeKeys" = some 7 by kernel_rfl).symm.trans hf) |>.symm
   obtain rfl : fn = Tryz.f7 := (Option.some.inj (Tryz.func7.symm.trans hfn)).symm
   exact ⟨by kernel_rfl, fun j t ht => by
    rw [Tryz.params7] at ht
    have hm : t ∈ [24, 24, 24, 3, 3] := by simpa using Array.mem_of_getElem? ht
    have hall : ([24, 24, 24, 3, 3].all fun u => !Tryz.prog.wantsStandIn u) = true := by kernel_rfl
    exact (show Tryz.prog.wantsStandIn t = false by simpa using List.all_eq_true.1 hall t hm)⟩)
  (by kernel_rfl)
end Go.Proofs.YtmgbbgffkakcaaaGreatDoor
