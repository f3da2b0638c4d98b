/- kinref21.Frame: what a coded frame means, by the document. Conditions: the arguments read. -/
import Derived.Test.YthgpgbdkcdmbpaaGreatDoorZDRkQ
import Derived.Test.YthgpgbdkcdmbpaaGreatDoorR1
import Derived.Test.YthgpgbdkcdmbpaaGreatDoorR6
import Derived.Test.YthgpgbdkcdmbpaaGreatDoorS7
import Derived.Test.YthgpgbdkcdmbpaaGreatDoorZDRBd
namespace Go.Proofs.YthgpgbdkcdmbpaaGreatDoor
open Go.RowKit
set_option linter.unusedVariables false
set_option linter.unusedSimpArgs false
set_option maxRecDepth 100000
set_option maxHeartbeats 16000000
theorem fr_info (a b c : Value) : (Tryz.prog.info? 27).map (·.size) = some (#[a, b, c] : Array Value).size := by show _ = some 3; kernel_rfl
theorem er_info (a b : Value) : (Tryz.prog.info? 45).map (·.size) = some (#[a, b] : Array Value).size := err_info _ rfl
theorem hd_info (a b c : Value) : (Tryz.prog.info? 100).map (·.size) = some (#[a, b, c] : Array Value).size := by show _ = some 3; kernel_rfl
/-- two fresh blocks, then a whole row into each -/
theorem fresh2 (w : World) (a a' : Array Value) (ta : TypeId) (b b' : Array Value) (tb : TypeId) :
  ((w.alloc (.cells a ta)).alloc (.cells b tb)).heap[w.heap.size]? = some (.cells a ta (0, 0)) ∧ (((w.alloc (.cells a ta)).alloc (.cells b tb)).setRow w.heap.size a').heap[w.heap.size + 1]? = some (.cells b tb (0, 0)) ∧
  Only [] w ((((w.alloc (.cells a ta)).alloc (.cells b tb)).setRow w.heap.size a').setRow (w.heap.size + 1) b') ∧ ((((w.alloc (.cells a ta)).alloc (.cells b tb)).setRow w.heap.size a').setRow (w.heap.size + 1) b').heap[w.heap.size]? = some (.cells a' ta (0, 0)) ∧
  ((((w.alloc (.cells a ta)).alloc (.cells b tb)).setRow w.heap.size a').setRow (w.heap.size + 1) b').heap[w.heap.size + 1]? = some (.cells b' tb (0, 0)) ∧ ((((w.alloc (.cells a ta)).alloc (.cells b tb)).setRow w.heap.size a').setRow (w.heap.size + 1) b').heap.size = w.heap.size + 1 + 1 := by
 have h1 : ((w.alloc (.cells a ta)).alloc (.cells b tb)).heap[w.heap.size]? = some (.cells a ta (0, 0)) := (Only.new _ _).row (heap_alloc_new w _)
 have h2 : ((w.alloc (.cells a ta)).alloc (.cells b tb)).heap[w.heap.size + 1]? = some (.cells b tb (0, 0)) := heap_alloc_new' (by simp)
 have o1 : Only [w.heap.size] ((w.alloc (.cells a ta)).alloc (.cells b tb)) (((w.alloc (.cells a ta)).alloc (.cells b tb)).setRow w.heap.size a') := Only.setRow (Only.refl _ _) (fun _ => by simp) a'
 have h3 := o1.rowAt h2 (by simp)
 have o2 : Only [w.heap.size + 1] (((w.alloc (.cells a ta)).alloc (.cells b tb)).setRow w.heap.size a') ((((w.alloc (.cells a ta)).alloc (.cells b tb)).setRow w.heap.size a').setRow (w.heap.size + 1) b') := Only.setRow (Only.refl _ _) (fun _ => by simp) b'
 refine ⟨h1, h3, ?_, o2.rowAt (setRow_heap _ _ _ _ _ _ h1) (by simp), setRow_heap _ _ _ _ _ _ h3, by rw [size_setRow, size_setRow]; simp⟩
 exact (((Only.new w _).alloc _).trans o1 (U := []) (by simp) (fun g hg hl => by rw [mSg] at hg; omega)).trans o2 (U := []) (by simp) (fun g hg hl => by rw [mSg] at hg; omega)
/-- what the document's Frame hands back -/
def KFrameP (w : World) (r : Except Err FrameD) (e : Ending) (w' : World) : Prop :=
 Only [] w w' ∧ match r with
  | .ok f => ∃ g cap, e = .returned (.tuple #[.agg #[.int .i64 f.W, .int .i64 f.H, .slice (some ⟨g, 0, none⟩) f.pix.length cap], .agg #[.int .i64 0, .slice none 0 0]]) ∧ Own .i64 3 w.heap.size w' (.slice (some ⟨g, 0, none⟩) f.pix.length cap) f.pix
  | .error er => ∃ sv, e = .returned (.tuple #[.agg #[.int .i64 0, .int .i64 0, .slice none 0 0], .agg #[.int .i64 er.code, sv]]) ∧ Cells 2 w.heap.size w'.heap.size w' sv er.path.length (flat er.path)
theorem KModAt.only2 {lo hi R D : Nat} {bv : Value} {w w' : World} {m : Mod} {S : List Nat} (h : KModAt lo hi R D bv w m) (o : Only S w w') (hS : ∀ g ∈ S, (g < lo ∨ hi ≤ g) ∧ g ≠ R ∧ g ≠ D) : KModAt lo hi R D bv w' m :=
 ⟨h.row.only o (fun hm => (hS R hm).2.1 rfl), h.dec.imp (fun y k => ⟨⟨o.rowAt k.row.row (fun hm => (hS D hm).2.2 rfl), k.row.bytes.only o (fun g hg => (hS g hg).1), k.row.hD⟩, k.off, k.x0, k.x1⟩), h.ok, h.hR, h.hD, h.ne⟩
theorem SqOk.may {s : SqD} (h : SqOk s) : SqMay s := ⟨h.kind, fun _ => h.mode, h.large, fun _ => h.vec, h.small⟩
section
variable {lo hi lo' hi' : Nat} {dv pv : Value} {w : World} {prev : FrameD} {l : List Int} {K W H : Int}
theorem head_cells {W : World} {b : Nat} {x y z : Value} (h : W.heap[b]? = some (.cells #[x, y, z] 100 (0, 0))) : W.cell? ⟨b, 0, none⟩ = some x ∧ W.cell? ⟨b, 1, none⟩ = some y ∧ W.cell? ⟨b, 2, none⟩ = some z := ⟨cat h rfl, cat h rfl, cat h rfl⟩
theorem readB_ne {c : Coded} {k : Int} (h : readB c = some k) : k ≠ 0 := by
 unfold readB at h
 repeat' split at h
 all_goals first | (injection h with h; omega) | cases h
theorem qDRF2 {p : Prop} (h : p := by
 refine bodyPost_ret (results_cell_cell Tryz.results20 _ _ (w.heap.size + 1 + 1) (w.heap.size + 1 + 1 + 1) _ _ _ _ _ _ _ _ rfl rfl h9q hr9 Tryz.underlying27 rfl (fr_info _ _ _) Tryz.underlying45 rfl (er_info _ _)) rfl (HPost.out _ _ ?_)
 refine ⟨hall, _, rfl, Cells.nil _ _ _ _⟩) : p := h
theorem qDRF1 {p : Prop} (h : p := by
 exact qDRF2) : p := h
theorem kframe_sides (hd : Ints .u8 lo hi w dv l) (hp : Ints .i64 lo' hi' w pv prev.pix) (hn : newB W H 128 = false) :
  Calls Tryz.prog 20 #[.agg #[.int .i64 K, dv], .agg #[.int .i64 prev.W, .int .i64 prev.H, pv], .int .i64 W, .int .i64 H] w (KFrameP w (.error ⟨[], 3⟩)) := by
 refine hidQ fun Q HPost => ?_
 obtain ⟨da, dcap, rfl, -⟩ := hd.open
 obtain ⟨pa, pcap, rfl, -⟩ := hp.open
 obtain ⟨hq1, HB01, HB11, HB21, HB31, HZ1⟩ := boxes4 w (.cells #[.int .i64 K, .slice da l.length dcap] 24) (.cells #[.int .i64 prev.W, .int .i64 prev.H, .slice pa prev.pix.length pcap] 27) (.cells #[.int .i64 0, .int .i64 0, .slice none 0 0] 27) (.cells #[.int .i64 0, .slice none 0 0] 45)
 have HQ1 := lh hq1
 have HD := lh hd
 have HP := lh hp
 clear hq1 hd hp
 go_enter Tryz.func20, Tryz.ntmps20
 go_wp2_with fail
 generalize hW1 : World.alloc (World.alloc (World.alloc (World.alloc w _) _) _) _ = W1 at *
 clear hW1
 go_at_call 47
 refine (knew_any W H 128 W1).mono ?_
 rintro e w2 ⟨hq2, hm2⟩
 rw [hn] at hm2
 simp only at hm2
 obtain rfl := hm2
 have HB02 := lh (hq2.row HB01.out)
 have HB12 := lh (hq2.row HB11.out)
 have HB22 := lh (hq2.row HB21.out)
 have HB32 := lh (hq2.row HB31.out)
 have HQ2 := lh (HQ1.out.q hq2)
 have HS2 := lh hq2
 clear hq2 hn
 obtain ⟨f1, f2, f3, f4, f5, f6⟩ := fresh2 w2 #[.int .i64 0, .int .i64 0, .slice none 0 0] #[.int .i64 0, .int .i64 0, .slice none 0 0] 27 #[.int .i64 0, .slice none 0 0] #[.int .i64 3, .slice none 0 0] 45
 have F1 := lh f1
 have F2 := lh f2
 have F3 := lh f3
 have HA3 := lh f4
 have HE3 := lh f5
 have HZ3 := lh f6
 clear f1 f2 f3 f4 f5 f6
 go_upto_region 2 with (first
  | (refine wpList_store_row rfl (.tmp 10) (.tmp 23) 27 rfl rfl rfl F1.out (fr_info _ _ _) (rfl) (by first | kernel_rfl | simp [Value.oneCell']) ?_)
  | (refine wpList_store_row rfl (.tmp 11) (.tmp 24) 45 rfl rfl rfl F2.out (er_info _ _) rfl (by first | kernel_rfl | simp [Value.oneCell']) ?_)
  | fail)
 generalize hW3 : World.setRow (World.setRow _ _ _) _ _ = W3 at *
 clear hW3 F1 F2
 have HB03 := lh (F3.out.row HB02.out)
 have HB13 := lh (F3.out.row HB12.out)
 have HB23 := lh (F3.out.row HB22.out)
 have HB33 := lh (F3.out.row HB32.out)
 have HQ3 := lh (HQ2.out.q F3.out)
 have HS3 := F3
 clear F3
 obtain ⟨e0, e1, -⟩ := row2 HE3.out
 go_wp2_with fail
 go_at_call 43
 refine (kok_any _ _ _).mono ?_
 rintro e w4 ⟨rfl, hq4⟩
 have HB04 := lh (hq4.row HB03.out)
 have HB14 := lh (hq4.row HB13.out)
 have HB24 := lh (hq4.row HB23.out)
 have HB34 := lh (hq4.row HB33.out)
 have HA4 := lh (hq4.row HA3.out)
 have HE4 := lh (hq4.row HE3.out)
 have HQ4 := lh (HQ3.out.q hq4)
 have HS4 := lh hq4
 clear hq4 e0 e1
 have HZx : Hid (w.heap.size + 1 + 1 + 1 < w2.heap.size) := lh (by have h1 := HZ1.out; have h2 := HS2.out.size; omega)
 go_wp2_with fail
 refine wp_region_held_drew (S := (fun wz => wz.heap[(w2.heap.size + 1)]? = some (.cells #[.int .i64 3, .slice none 0 0] 45 (0, 0)))) (by kernel_rfl) ?_ (fun hHeld => ?_)
 ·exact HE4.out
 refine tkw 0 28 ⟨rfl, by intro wz hSw; go_simp; try with_reducible rfl⟩ ?_
 refine tkw 1 29 ⟨rfl, by intro wz hSw; obtain ⟨e0, e1, -⟩ := row2 hSw; go_simp; try with_reducible rfl⟩ ?_
 refine rdy (rdn 2 (fun K hK => ?_) .nil)
 refine wp_store_rowQ (.tmp 8) (.tmp 28) 27 rfl (g := (w.heap.size + 1 + 1)) (c' := #[.int .i64 0, .int .i64 0, .slice none 0 0]) rfl rfl HB24.out (fr_info _ _ _) rfl (by first | kernel_rfl | simp [Value.oneCell']) (fun wy8 hq8 hr8 => ?_)
 replace hq8 : Only [(w.heap.size + 1 + 1)] w4 wy8 := by first | exact hq8 | exact ((Only.refl [] w4).drew.mono (U := [(w.heap.size + 1 + 1)]) (by simp)).trans hq8 (fun g h _ => h) (fun g h _ => h)
 have h8E := hq8.rowAt HE4.out (by rw [mSg]; have := HZx.out; omega)
 have h8r := hq8.rowAt HB34.out (by rw [mSg]; omega)
 refine hK.out _ _ ?_ (fun hHeld => ?_)
 ·exact h8E
 clear hK K
 refine rdy (rdn 3 (fun K hK => ?_) .nil)
 refine wp_store_rowQ (.tmp 9) (.tmp 29) 45 rfl (g := (w.heap.size + 1 + 1 + 1)) (c' := #[.int .i64 3, .slice none 0 0]) rfl rfl h8r (er_info _ _) rfl (by first | kernel_rfl | simp [Value.oneCell']) (fun wy9 hq9 hr9 => ?_)
 replace hq9 : Only [(w.heap.size + 1 + 1 + 1)] wy8 wy9 := by first | exact hq9 | exact ((Only.refl [] wy8).drew.mono (U := [(w.heap.size + 1 + 1 + 1)]) (by simp)).trans hq9 (fun g h _ => h) (fun g h _ => h)
 have h9E := hq9.rowAt h8E (by rw [mSg]; have := HZx.out; omega)
 have h9q := hq9.rowAt hr8 (by rw [mSg]; omega)
 refine hK.out _ _ ?_ (fun hHeld => ?_)
 ·exact h9E
 clear hK K
 refine wpAnyH_done (by kernel_rfl) ?_ _
 go_wp2_with fail
 have hall : Only [] w _ := (HQ4.out.trans hq8 (U := []) (by simp) (fun g hg hl => by rw [mSg] at hg; omega)).trans hq9 (U := []) (by simp) (fun g hg hl => by rw [mSg] at hg; omega)
 exact qDRF1
theorem frok_area {f : FrameD} (h : FrOk f) : 64 ≤ f.pix.length ∧ f.pix.length ≤ 1024 := by
 have h1 := h.len
 have h2 : 8 * 8 ≤ f.W * f.H := Int.mul_le_mul h.w0 h.h0 (by omega) (by have := h.w0; omega)
 have h3 : f.W * f.H ≤ 32 * 32 := Int.mul_le_mul h.w1 h.h1 (by have := h.h0; omega) (by omega)
 omega
theorem frok_pos {f : FrameD} (h : FrOk f) : 0 < f.pix.length := by have := frok_area h; omega
theorem frok_le {f : FrameD} (h : FrOk f) : f.pix.length ≤ 1000000000 := by have := frok_area h; omega
theorem qDRF0 {p : Prop} (h : p := by
 have HPost := lh (HAll.out.2.1 Hk.out (by omega) Hma.out)
 clear HAll
 obtain ⟨a0, a1, a2⟩ := frame_cells HA7.out
 obtain ⟨p0, p1, p2⟩ := frame_cells HB17.out
 have hle := leans_any prev.W prev.H W H (.slice (some ⟨g, 0, none⟩) F0.pix.length gcap) (HP.out.quiet HQ7.out)
 rw [show matesB ⟨prev.W, prev.H, prev.pix⟩ W H = false from Hma.out] at hle
 have Hle := lh hle
 clear hle
 go_wp2_with fail
 go_at_call 49
 refine Hle.out.mono ?_
 rintro e w8 ⟨rfl, hq8⟩
 have HB08 := lh (hq8.row HB07.out)
 have HB18 := lh (hq8.row HB17.out)
 have HB28 := lh (hq8.row HB27.out)
 have HB38 := lh (hq8.row HB37.out)
 have HA8 := lh (hq8.row HA7.out)
 have HE8 := lh (hq8.row HE7.out)
 have HT8 := lh (hq8.row HT7.out)
 have HG8 := lh (hq8.row HG7.out)
 have HQ8 := lh (HQ7.out.q hq8)
 have HS8 := lh hq8
 have HO8 := lh (HO7.out.quiet hq8)
 have HI8 := lh (HI7.out.quiet hq8)
 clear hq8 a0 a1 a2 p0 p1 p2 t0 t1 t2
 go_wp2_with fail
 go_at_call 22
 refine (fail_any _ _).mono ?_
 rintro e w9 ⟨rfl, hq9⟩
 have HB09 := lh (hq9.row HB08.out)
 have HB19 := lh (hq9.row HB18.out)
 have HB29 := lh (hq9.row HB28.out)
 have HB39 := lh (hq9.row HB38.out)
 have HQ9 := lh (HQ8.out.q hq9)
 clear hq9
 obtain ⟨z0, z1, z2⟩ := frame_cells HB29.out
 obtain ⟨y0, y1, y2, y3, -⟩ := row2 HB39.out
 have hso := Only.setRow (S := [(w.heap.size + 1 + 1)]) (Only.refl _ w9) (g := (w.heap.size + 1 + 1)) (fun _ => by simp) #[.int .i64 0, .int .i64 0, .slice none 0 0]
 have hro := setRow_heap w9 (w.heap.size + 1 + 1) _ #[.int .i64 0, .int .i64 0, .slice none 0 0] _ _ HB29.out
 have hr3 := hso.rowAt HB39.out (by simp)
 have Hso := lh hso
 have Hro := lh hro
 have Hr3 := lh hr3
 clear hso hro hr3 y0 y1 y2 y3 z0 z1 z2
 go_wp2_with (first
  | (refine wpList_store_row rfl (.tmp 8) (.tmp 54) 27 rfl rfl rfl HB29.out (fr_info _ _ _) rfl (by first | kernel_rfl | simp [Value.oneCell']) ?_)
  | (refine wpList_store_row rfl (.tmp 9) (.tmp 55) 45 rfl rfl rfl Hr3.out (er_info _ _) rfl (by first | kernel_rfl | simp [Value.oneCell']) ?_)
  | fail)
 have hs9 := Only.setRow (S := [(w.heap.size + 1 + 1 + 1)]) (Only.refl _ (w9.setRow (w.heap.size + 1 + 1) #[.int .i64 0, .int .i64 0, .slice none 0 0])) (g := (w.heap.size + 1 + 1 + 1)) (fun _ => by simp) #[.int .i64 12, .slice none 0 0]
 have hr9 := setRow_heap (w9.setRow (w.heap.size + 1 + 1) #[.int .i64 0, .int .i64 0, .slice none 0 0]) (w.heap.size + 1 + 1 + 1) _ #[.int .i64 12, .slice none 0 0] _ _ Hr3.out
 have h9q := hs9.rowAt Hro.out (by simp)
 have hall : Only [] w _ := (HQ9.out.trans Hso.out (U := []) (by simp) (fun g hg hl => by rw [mSg] at hg; omega)).trans hs9 (U := []) (by simp) (fun g hg hl => by rw [mSg] at hg; omega)
 exact qDRF2) : p := h
theorem kframe_good (hd : Ints .u8 lo hi w dv l) (hp : Ints .i64 lo' hi' w pv prev.pix) (hn : newB W H 128 = true) (hl : l.length ≤ 140737488355328) (hx : (readB ⟨K, l⟩ = none → K = 2 ∨ K = 3 ∨ K = 4) ∧ (readB ⟨K, l⟩ = none → K = 2 → matesB prev W H = false)) :
  Calls Tryz.prog 20 #[.agg #[.int .i64 K, dv], .agg #[.int .i64 prev.W, .int .i64 prev.H, pv], .int .i64 W, .int .i64 H] w (KFrameP w (frameD ⟨K, l⟩ prev W H)) := by
 refine hidQ fun Q HPost => ?_
 have HLl := lh hl
 have Hx := lh hx
 have HAll : Hid ((∀ c, readB ⟨K, l⟩ = some c → Hid (∀ e w', KFrameP w (.error ⟨[], c⟩) e w' → Q e w')) ∧ (readB ⟨K, l⟩ = none → (K = 2 ∨ K = 3) → matesB prev W H = false → ∀ e w', KFrameP w (.error ⟨[], 12⟩) e w' → Q e w') ∧ (readB ⟨K, l⟩ = none → K = 4 → ∀ e w', KFrameP w (.ok (newF W H 128)) e w' → Q e w') ∧ (readB ⟨K, l⟩ = none → K = 3 → matesB prev W H = true → ∀ e w', KFrameP w (.ok ⟨W, H, prev.pix⟩) e w' → Q e w')) := lh (by
  have hp := HPost.out
  unfold frameD at hp
  rw [if_neg (by rw [hn]; simp)] at hp
  refine ⟨fun c hc => lh (by rw [hc] at hp; exact hp), fun hc hk hm => ?_, fun hc hk => ?_, fun hc hk hm => ?_⟩
  ·rw [hc] at hp; simp only at hp; rw [if_pos ⟨hk, hm⟩] at hp; exact hp
  ·subst hk; rw [hc] at hp; simp only at hp; rw [if_neg (by omega)] at hp; first | (rw [if_pos trivial] at hp; exact hp) | (rw [if_pos rfl] at hp; exact hp)
  ·subst hk; rw [hc] at hp; simp only at hp; rw [if_neg (fun h => by rw [hm] at h; cases h.2), if_neg (by omega)] at hp; first | (rw [if_pos trivial] at hp; exact hp) | (rw [if_pos rfl] at hp; exact hp))
 clear hl hx HPost
 obtain ⟨da, dcap, rfl, -⟩ := hd.open
 obtain ⟨pa, pcap, rfl, -⟩ := hp.open
 obtain ⟨hq1, HB01, HB11, HB21, HB31, HZ1⟩ := boxes4 w (.cells #[.int .i64 K, .slice da l.length dcap] 24) (.cells #[.int .i64 prev.W, .int .i64 prev.H, .slice pa prev.pix.length pcap] 27) (.cells #[.int .i64 0, .int .i64 0, .slice none 0 0] 27) (.cells #[.int .i64 0, .slice none 0 0] 45)
 have HQ1 := lh hq1
 have HD := lh hd
 have HP := lh hp
 clear hq1 hd hp
 go_enter Tryz.func20, Tryz.ntmps20
 go_wp2_with fail
 generalize hW1 : World.alloc (World.alloc (World.alloc (World.alloc w _) _) _) _ = W1 at *
 clear hW1
 go_at_call 47
 refine (knew_any W H 128 W1).mono ?_
 rintro e w2 ⟨hq2, hm2⟩
 rw [hn] at hm2
 obtain ⟨g, gcap, rfl, hown2⟩ := hm2
 have HF0 := lh (newF_ok hn)
 have HFW : Hid ((newF W H 128).W = W ∧ (newF W H 128).H = H) := lh ⟨rfl, rfl⟩
 have HO2 := lh hown2
 have HB02 := lh (hq2.row HB01.out)
 have HB12 := lh (hq2.row HB11.out)
 have HB22 := lh (hq2.row HB21.out)
 have HB32 := lh (hq2.row HB31.out)
 have HQ2 := lh (HQ1.out.q hq2)
 have HS2 := lh hq2
 have HBd := lh (newB_iff.1 hn)
 clear hq2 hn hown2
 generalize hF0 : newF W H 128 = F0 at *
 clear hF0
 obtain ⟨f1, f2, f3, f4, f5, f6⟩ := fresh2 w2 #[.int .i64 0, .int .i64 0, .slice none 0 0] #[.int .i64 W, .int .i64 H, .slice (some ⟨g, 0, none⟩) F0.pix.length gcap] 27 #[.int .i64 0, .slice none 0 0] #[.int .i64 0, .slice none 0 0] 45
 have F1 := lh f1
 have F2 := lh f2
 have F3 := lh f3
 have HA3 := lh f4
 have HE3 := lh f5
 have HZ3 := lh f6
 clear f1 f2 f3 f4 f5 f6
 go_upto_region 2 with (first
  | (refine wpList_store_row rfl (.tmp 10) (.tmp 23) 27 rfl rfl rfl F1.out (fr_info _ _ _) (rfl) (by first | kernel_rfl | simp [Value.oneCell']) ?_)
  | (refine wpList_store_row rfl (.tmp 11) (.tmp 24) 45 rfl rfl rfl F2.out (er_info _ _) rfl (by first | kernel_rfl | simp [Value.oneCell']) ?_)
  | fail)
 generalize hW3 : World.setRow (World.setRow _ _ _) _ _ = W3 at *
 clear hW3 F1 F2
 have HB03 := lh (F3.out.row HB02.out)
 have HB13 := lh (F3.out.row HB12.out)
 have HB23 := lh (F3.out.row HB22.out)
 have HB33 := lh (F3.out.row HB32.out)
 have HQ3 := lh (HQ2.out.q F3.out)
 have HS3 := F3
 clear F3
 have HO3 := lh (HO2.out.quiet HS3.out)
 obtain ⟨e0, e1, -⟩ := row2 HE3.out
 go_wp2_with fail
 go_at_call 43
 refine (kok_any _ _ _).mono ?_
 rintro e w4 ⟨rfl, hq4⟩
 have HB04 := lh (hq4.row HB03.out)
 have HB14 := lh (hq4.row HB13.out)
 have HB24 := lh (hq4.row HB23.out)
 have HB34 := lh (hq4.row HB33.out)
 have HA4 := lh (hq4.row HA3.out)
 have HE4 := lh (hq4.row HE3.out)
 have HQ4 := lh (HQ3.out.q hq4)
 have HS4 := lh hq4
 clear hq4 e0 e1
 have HO4 := lh (HO3.out.quiet HS4.out)
 have HZx : Hid (w.heap.size + 1 + 1 + 1 < w2.heap.size) := lh (by have h1 := HZ1.out; have h2 := HS2.out.size; omega)
 obtain ⟨c0, c1, -⟩ := row2 HB04.out
 have hrd := kread_any (k := K) (HD.out.quiet HQ4.out) HLl.out
 have HRd := lh hrd
 clear hrd
 go_wp2_with fail
 go_at_call 48
 refine HRd.out.mono ?_
 rintro e w5 ⟨hq5, hm5⟩
 have HB05 := lh (hq5.row HB04.out)
 have HB15 := lh (hq5.row HB14.out)
 have HB25 := lh (hq5.row HB24.out)
 have HB35 := lh (hq5.row HB34.out)
 have HA5 := lh (hq5.row HA4.out)
 have HE5 := lh (hq5.row HE4.out)
 have HQ5 := lh (HQ4.out.q hq5)
 have HS5 := lh hq5
 have HO5 := lh (HO4.out.quiet hq5)
 clear hq5 c0 c1
 cases hr : readB ⟨K, l⟩ with
 | some c =>
  rw [hr] at hm5
  have HPost := HAll.out.1 c hr
  clear HAll
  have Hk := lh hr
  clear hr
  obtain rfl := hm5
  have Hkc : Hid (c ≠ 0) := lh (readB_ne Hk.out)
  obtain ⟨f1, f2, f3, f4, f5, f6⟩ := fresh2 w5 #[.int .i64 0, .int .i64 0, .slice none 0 0] #[.int .i64 0, .int .i64 0, .slice none 0 0] 100 #[.int .i64 0, .slice none 0 0] #[.int .i64 c, .slice none 0 0] 45
  have F1 := lh f1
  have F2 := lh f2
  have F3 := lh f3
  have HT6 := lh f4
  have HG6 := lh f5
  have HZ6 := lh f6
  clear f1 f2 f3 f4 f5 f6
  go_upto_region 5 with (first
   | (refine wpList_store_row rfl (.tmp 12) (.tmp 33) 100 rfl rfl rfl F1.out (hd_info _ _ _) (rfl) (by first | kernel_rfl | simp [Value.oneCell']) ?_)
   | (refine wpList_store_row rfl (.tmp 13) (.tmp 34) 45 rfl rfl rfl F2.out (er_info _ _) rfl (by first | kernel_rfl | simp [Value.oneCell']) ?_)
   | fail)
  generalize hW6 : World.setRow (World.setRow _ _ _) _ _ = W6 at *
  clear hW6 F1 F2
  have HB06 := lh (F3.out.row HB05.out)
  have HB16 := lh (F3.out.row HB15.out)
  have HB26 := lh (F3.out.row HB25.out)
  have HB36 := lh (F3.out.row HB35.out)
  have HA6 := lh (F3.out.row HA5.out)
  have HE6 := lh (F3.out.row HE5.out)
  have HQ6 := lh (HQ5.out.q F3.out)
  have HS6 := F3
  clear F3
  have hcb : (c == 0) = false := by rw [beq_eq_false_iff_ne]; exact Hkc.out
  have Hcb := lh hcb
  clear hcb
  obtain ⟨e0, e1, -⟩ := row2 HG6.out
  go_wp2_with fail
  go_at_call 43
  refine (kok_any _ _ _).mono ?_
  rintro e w7 ⟨rfl, hq7⟩
  rw [Hcb.out]
  have HB07 := lh (hq7.row HB06.out)
  have HB17 := lh (hq7.row HB16.out)
  have HB27 := lh (hq7.row HB26.out)
  have HB37 := lh (hq7.row HB36.out)
  have HA7 := lh (hq7.row HA6.out)
  have HE7 := lh (hq7.row HE6.out)
  have HT7 := lh (hq7.row HT6.out)
  have HG7 := lh (hq7.row HG6.out)
  have HQ7 := lh (HQ6.out.q hq7)
  have HS7 := lh hq7
  clear hq7 e0 e1
  have HZ5x : Hid (w2.heap.size ≤ w5.heap.size) := lh (by have h1 := HS3.out.size; have h2 := HS4.out.size; have h3 := HS5.out.size; omega)
  go_wp2_with fail
  refine wp_region_held_drew (S := (fun wz => wz.heap[(w5.heap.size + 1)]? = some (.cells #[.int .i64 c, .slice none 0 0] 45 (0, 0)))) (by kernel_rfl) ?_ (fun hHeld => ?_)
  ·exact HG7.out
  refine tkw 0 38 ⟨rfl, by intro wz hSw; go_simp; try with_reducible rfl⟩ ?_
  refine tkw 1 39 ⟨rfl, by intro wz hSw; obtain ⟨e0, e1, -⟩ := row2 hSw; go_simp; try with_reducible rfl⟩ ?_
  refine rdy (rdn 2 (fun K hK => ?_) .nil)
  refine wp_store_rowQ (.tmp 8) (.tmp 38) 27 rfl (g := (w.heap.size + 1 + 1)) (c' := #[.int .i64 0, .int .i64 0, .slice none 0 0]) rfl rfl HB27.out (fr_info _ _ _) rfl (by first | kernel_rfl | simp [Value.oneCell']) (fun wy8 hq8 hr8 => ?_)
  replace hq8 : Only [(w.heap.size + 1 + 1)] w7 wy8 := by first | exact hq8 | exact ((Only.refl [] w7).drew.mono (U := [(w.heap.size + 1 + 1)]) (by simp)).trans hq8 (fun g h _ => h) (fun g h _ => h)
  have h8E := hq8.rowAt HG7.out (by rw [mSg]; have := HZx.out; have := HZ5x.out; omega)
  have h8r := hq8.rowAt HB37.out (by rw [mSg]; omega)
  refine hK.out _ _ ?_ (fun hHeld => ?_)
  ·exact h8E
  clear hK K
  refine rdy (rdn 3 (fun K hK => ?_) .nil)
  refine wp_store_rowQ (.tmp 9) (.tmp 39) 45 rfl (g := (w.heap.size + 1 + 1 + 1)) (c' := #[.int .i64 c, .slice none 0 0]) rfl rfl h8r (er_info _ _) rfl (by first | kernel_rfl | simp [Value.oneCell']) (fun wy9 hq9 hr9 => ?_)
  replace hq9 : Only [(w.heap.size + 1 + 1 + 1)] wy8 wy9 := by first | exact hq9 | exact ((Only.refl [] wy8).drew.mono (U := [(w.heap.size + 1 + 1 + 1)]) (by simp)).trans hq9 (fun g h _ => h) (fun g h _ => h)
  have h9E := hq9.rowAt h8E (by rw [mSg]; have := HZx.out; have := HZ5x.out; omega)
  have h9q := hq9.rowAt hr8 (by rw [mSg]; omega)
  refine hK.out _ _ ?_ (fun hHeld => ?_)
  ·exact h9E
  clear hK K
  refine wpAnyH_done (by kernel_rfl) ?_ _
  go_wp2_with fail
  have hall : Only [] w _ := (HQ7.out.trans hq8 (U := []) (by simp) (fun g hg hl => by rw [mSg] at hg; omega)).trans hq9 (U := []) (by simp) (fun g hg hl => by rw [mSg] at hg; omega)
  exact qDRF1
 | none =>
  rw [hr] at hm5
  have Hk := lh hr
  clear hr
  simp only at hm5
  obtain ⟨tv, rfl, hin5⟩ := hm5
  obtain ⟨ta, tcap, rfl, -⟩ := hin5.open
  obtain ⟨tl, htl⟩ : ∃ n, n = (l.drop 1).length := ⟨_, rfl⟩
  rw [← htl] at hin5 ⊢
  have HTl := lh htl
  have HI5 := lh hin5
  clear hin5 htl
  generalize hq0 : l.getD 0 0 = q0 at *
  have Hq0 := lh hq0
  clear hq0
  obtain ⟨f1, f2, f3, f4, f5, f6⟩ := fresh2 w5 #[.int .i64 0, .int .i64 0, .slice none 0 0] #[.int .i64 K, .int .i64 q0, .slice ta tl tcap] 100 #[.int .i64 0, .slice none 0 0] #[.int .i64 0, .slice none 0 0] 45
  have F1 := lh f1
  have F2 := lh f2
  have F3 := lh f3
  have HT6 := lh f4
  have HG6 := lh f5
  have HZ6 := lh f6
  clear f1 f2 f3 f4 f5 f6
  go_upto_region 5 with (first
   | (refine wpList_store_row rfl (.tmp 12) (.tmp 33) 100 rfl rfl rfl F1.out (hd_info _ _ _) (rfl) (by first | kernel_rfl | simp [Value.oneCell']) ?_)
   | (refine wpList_store_row rfl (.tmp 13) (.tmp 34) 45 rfl rfl rfl F2.out (er_info _ _) rfl (by first | kernel_rfl | simp [Value.oneCell']) ?_)
   | fail)
  generalize hW6 : World.setRow (World.setRow _ _ _) _ _ = W6 at *
  clear hW6 F1 F2
  have HB06 := lh (F3.out.row HB05.out)
  have HB16 := lh (F3.out.row HB15.out)
  have HB26 := lh (F3.out.row HB25.out)
  have HB36 := lh (F3.out.row HB35.out)
  have HA6 := lh (F3.out.row HA5.out)
  have HE6 := lh (F3.out.row HE5.out)
  have HQ6 := lh (HQ5.out.q F3.out)
  have HS6 := F3
  clear F3
  have HO6 := lh (HO5.out.quiet HS6.out)
  have HI6 := lh (HI5.out.quiet HS6.out)
  obtain ⟨e0, e1, -⟩ := row2 HG6.out
  go_wp2_with fail
  go_at_call 43
  refine (kok_any _ _ _).mono ?_
  rintro e w7 ⟨rfl, hq7⟩
  have HB07 := lh (hq7.row HB06.out)
  have HB17 := lh (hq7.row HB16.out)
  have HB27 := lh (hq7.row HB26.out)
  have HB37 := lh (hq7.row HB36.out)
  have HA7 := lh (hq7.row HA6.out)
  have HE7 := lh (hq7.row HE6.out)
  have HT7 := lh (hq7.row HT6.out)
  have HG7 := lh (hq7.row HG6.out)
  have HQ7 := lh (HQ6.out.q hq7)
  have HS7 := lh hq7
  clear hq7 e0 e1
  have HO7 := lh (HO6.out.quiet HS7.out)
  have HI7 := lh (HI6.out.quiet HS7.out)
  have HZ5x : Hid (w2.heap.size + 1 < w5.heap.size) := lh (by have h1 := HZ3.out; have h2 := HS4.out.size; have h3 := HS5.out.size; omega)
  have HZ7x : Hid (w5.heap.size + 1 < w7.heap.size) := lh (by have h1 := HZ6.out; have h2 := HS7.out.size; omega)
  skip
  rcases Hx.out.1 Hk.out with rfl | rfl | rfl
  ·obtain ⟨t0, t1, t2⟩ := head_cells HT7.out
   have Hma := lh (Hx.out.2 Hk.out rfl)
   exact qDRF0
  ·obtain ⟨t0, t1, t2⟩ := head_cells HT7.out
   cases hma : matesB prev W H with
   | false =>
    have Hma := lh hma
    clear hma
    exact qDRF0
   | true =>
    have HPost := lh (HAll.out.2.2.2 Hk.out rfl hma)
    clear HAll
    have HPF : Hid (FrOk prev ∧ prev.W = W ∧ prev.H = H) := lh (by
     unfold matesB at hma
     rw [Bool.and_eq_true, Bool.and_eq_true, mayF_iff, decide_eq_true_iff, decide_eq_true_iff] at hma
     exact ⟨hma.1.1, hma.1.2, hma.2⟩)
    have HPz : Hid (0 < prev.pix.length) := lh (frok_pos HPF.out.1)
    have HPl : Hid (prev.pix.length ≤ 1000000000) := lh (frok_le HPF.out.1)
    have Hma := lh hma
    clear hma
    obtain ⟨a0, a1, a2⟩ := frame_cells HA7.out
    obtain ⟨p0, p1, p2⟩ := frame_cells HB17.out
    have hle := leans_any prev.W prev.H W H (.slice (some ⟨g, 0, none⟩) F0.pix.length gcap) (HP.out.quiet HQ7.out)
    rw [show matesB ⟨prev.W, prev.H, prev.pix⟩ W H = true from Hma.out] at hle
    have Hle := lh hle
    clear hle
    go_wp2_with fail
    go_at_call 49
    refine Hle.out.mono ?_
    rintro e w8 ⟨rfl, hq8⟩
    have HB08 := lh (hq8.row HB07.out)
    have HB18 := lh (hq8.row HB17.out)
    have HB28 := lh (hq8.row HB27.out)
    have HB38 := lh (hq8.row HB37.out)
    have HA8 := lh (hq8.row HA7.out)
    have HE8 := lh (hq8.row HE7.out)
    have HT8 := lh (hq8.row HT7.out)
    have HG8 := lh (hq8.row HG7.out)
    have HQ8 := lh (HQ7.out.q hq8)
    have HS8 := lh hq8
    have HO8 := lh (HO7.out.quiet hq8)
    have HI8 := lh (HI7.out.quiet hq8)
    clear hq8 a0 a1 a2 p0 p1 p2 t0 t1 t2
    obtain ⟨t0, t1, t2⟩ := head_cells HT8.out
    go_wp2_with fail
    clear t0 t1 t2
    have Hcp := lh (fun (wx : World) (o : Only [] w8 wx) => kcopyf_any ((HP.out.quiet HQ8.out).quiet o) HPl.out)
    refine wp_region_held_drew (S := (fun wz => wz.heap[(w2.heap.size + 1)]? = some (.cells #[.int .i64 0, .slice none 0 0] 45 (0, 0)) ∧ wz.heap[(w.heap.size + 1)]? = some (.cells #[.int .i64 prev.W, .int .i64 prev.H, .slice pa prev.pix.length pcap] 27 (0, 0)))) (by kernel_rfl) ?_ (fun hHeld => ?_)
    ·exact ⟨HE8.out, HB18.out⟩
    refine tkw 0 64 ⟨rfl, by intro wz hSw; obtain ⟨p0, p1, p2⟩ := frame_cells hSw.2; go_simp; try with_reducible rfl⟩ ?_
    refine tkw 2 66 ⟨rfl, by intro wz hSw; obtain ⟨e0, e1, -⟩ := row2 hSw.1; go_simp; try with_reducible rfl⟩ ?_
    refine rdy (rdc 1 65 (fun K hK => ?_) .nil)
    go_simp
    go_at_call 26
    refine (Hcp.out _ (by first | exact Only.refl _ _ | exact (Only.refl _ _).drew)).mono ?_
    rintro e w6 ⟨nv, rfl, hown6, hq6⟩
    replace hq6 : Only [] w8 w6 := by first | exact hq6 | exact ((Only.refl _ _).drew).q hq6
    obtain ⟨ng, ncap, rfl, hng1, hng2⟩ := hown6.form HPz.out
    have HB06n := lh (hq6.row HB08.out)
    have HB16n := lh (hq6.row HB18.out)
    have HB26n := lh (hq6.row HB28.out)
    have HB36n := lh (hq6.row HB38.out)
    have HA6n := lh (hq6.row HA8.out)
    have HE6n := lh (hq6.row HE8.out)
    have HT6n := lh (hq6.row HT8.out)
    have HG6n := lh (hq6.row HG8.out)
    have HQ6n := lh (HQ8.out.q hq6)
    have HO6n := lh hown6
    refine hK.out _ _ ?_ (fun hHeld => ?_)
    ·exact ⟨HE6n.out, HB16n.out⟩
    clear hK K
    refine rdy (rdn 3 (fun K hK => ?_) .nil)
    refine wp_store_rowQ (.tmp 8) (.tmp 65) 27 rfl (g := (w.heap.size + 1 + 1)) (c' := #[.int .i64 prev.W, .int .i64 prev.H, .slice (some ⟨ng, 0, none⟩) prev.pix.length ncap]) rfl rfl HB26n.out (fr_info _ _ _) rfl (by first | kernel_rfl | simp [Value.oneCell']) (fun wy8 hq8 hr8 => ?_)
    replace hq8 : Only [(w.heap.size + 1 + 1)] w6 wy8 := by first | exact hq8 | exact ((Only.refl [] w6).drew.mono (U := [(w.heap.size + 1 + 1)]) (by simp)).trans hq8 (fun g h _ => h) (fun g h _ => h)
    have h8E := hq8.rowAt HE6n.out (by rw [mSg]; have := HZx.out; have := HZ5x.out; have := HZ7x.out; omega)
    have h8r := hq8.rowAt HB36n.out (by rw [mSg]; omega)
    refine hK.out _ _ ?_ (fun hHeld => ?_)
    ·exact ⟨h8E, hq8.rowAt HB16n.out (by rw [mSg]; omega)⟩
    clear hK K
    refine rdy (rdn 4 (fun K hK => ?_) .nil)
    refine wp_store_rowQ (.tmp 9) (.tmp 66) 45 rfl (g := (w.heap.size + 1 + 1 + 1)) (c' := #[.int .i64 0, .slice none 0 0]) rfl rfl h8r (er_info _ _) rfl (by first | kernel_rfl | simp [Value.oneCell']) (fun wy9 hq9 hr9 => ?_)
    replace hq9 : Only [(w.heap.size + 1 + 1 + 1)] wy8 wy9 := by first | exact hq9 | exact ((Only.refl [] wy8).drew.mono (U := [(w.heap.size + 1 + 1 + 1)]) (by simp)).trans hq9 (fun g h _ => h) (fun g h _ => h)
    have h9E := hq9.rowAt h8E (by rw [mSg]; have := HZx.out; have := HZ5x.out; have := HZ7x.out; omega)
    have h9q := hq9.rowAt hr8 (by rw [mSg]; omega)
    refine hK.out _ _ ?_ (fun hHeld => ?_)
    ·exact ⟨h9E, hq9.rowAt (hq8.rowAt HB16n.out (by rw [mSg]; omega)) (by rw [mSg]; omega)⟩
    clear hK K
    refine wpAnyH_done (by kernel_rfl) ?_ _
    go_wp2_with fail
    have hall : Only [] w _ := (HQ6n.out.trans hq8 (U := []) (by simp) (fun g hg hl => by rw [mSg] at hg; omega)).trans hq9 (U := []) (by simp) (fun g hg hl => by rw [mSg] at hg; omega)
    refine bodyPost_ret (results_cell_cell Tryz.results20 _ _ (w.heap.size + 1 + 1) (w.heap.size + 1 + 1 + 1) _ _ _ _ _ _ _ _ rfl rfl h9q hr9 Tryz.underlying27 rfl (fr_info _ _ _) Tryz.underlying45 rfl (er_info _ _)) rfl (HPost.out _ _ ?_)
    refine ⟨hall, ng, ncap, by rw [HPF.out.2.1, HPF.out.2.2], ?_⟩
    have hnz : w.heap.size + 1 + 1 + 1 < ng := by have h1 := HZx.out; have h2 := HS3.out.size; have h3 := HS4.out.size; have h4 := HS5.out.size; have h5 := HS6.out.size; have h6 := HS7.out.size; have h7 := HS8.out.size; have h8 := hng1; first | omega | (have := (Only.refl [] w8).drew.size; omega)
    exact ((HO6n.out.only hq8 (fun x hx e => by rw [mSg] at hx; simp only [Value.ownBlock] at e; injection e with e; omega)).only hq9 (fun x hx e => by rw [mSg] at hx; simp only [Value.ownBlock] at e; injection e with e; omega)).lower (Nat.le_trans HQ8.out.size (by first | exact Nat.le_refl _ | exact (Only.refl [] w8).drew.size))
  ·obtain ⟨t0, t1, t2⟩ := head_cells HT7.out
   have HPost := lh (HAll.out.2.2.1 Hk.out rfl)
   clear HAll
   go_wp2_with fail
   refine wp_region_held_drew (S := (fun wz => wz.heap[(w2.heap.size + 1)]? = some (.cells #[.int .i64 0, .slice none 0 0] 45 (0, 0)) ∧ wz.heap[w2.heap.size]? = some (.cells #[.int .i64 W, .int .i64 H, .slice (some ⟨g, 0, none⟩) F0.pix.length gcap] 27 (0, 0)))) (by kernel_rfl) ?_ (fun hHeld => ?_)
   ·exact ⟨HE7.out, HA7.out⟩
   refine tkw 0 59 ⟨rfl, by intro wz hSw; obtain ⟨p0, p1, p2⟩ := frame_cells hSw.2; go_simp; try with_reducible rfl⟩ ?_
   refine tkw 1 60 ⟨rfl, by intro wz hSw; obtain ⟨e0, e1, -⟩ := row2 hSw.1; go_simp; try with_reducible rfl⟩ ?_
   refine rdy (rdn 2 (fun K hK => ?_) .nil)
   refine wp_store_rowQ (.tmp 8) (.tmp 59) 27 rfl (g := (w.heap.size + 1 + 1)) (c' := #[.int .i64 W, .int .i64 H, .slice (some ⟨g, 0, none⟩) F0.pix.length gcap]) rfl rfl HB27.out (fr_info _ _ _) rfl (by first | kernel_rfl | simp [Value.oneCell']) (fun wy8 hq8 hr8 => ?_)
   replace hq8 : Only [(w.heap.size + 1 + 1)] w7 wy8 := by first | exact hq8 | exact ((Only.refl [] w7).drew.mono (U := [(w.heap.size + 1 + 1)]) (by simp)).trans hq8 (fun g h _ => h) (fun g h _ => h)
   have h8E := hq8.rowAt HE7.out (by rw [mSg]; have := HZx.out; have := HZ5x.out; have := HZ7x.out; omega)
   have h8A := hq8.rowAt HA7.out (by rw [mSg]; have := HZx.out; have := HZ5x.out; have := HZ7x.out; omega)
   have h8r := hq8.rowAt HB37.out (by rw [mSg]; omega)
   refine hK.out _ _ ?_ (fun hHeld => ?_)
   ·exact ⟨h8E, h8A⟩
   clear hK K
   refine rdy (rdn 3 (fun K hK => ?_) .nil)
   refine wp_store_rowQ (.tmp 9) (.tmp 60) 45 rfl (g := (w.heap.size + 1 + 1 + 1)) (c' := #[.int .i64 0, .slice none 0 0]) rfl rfl h8r (er_info _ _) rfl (by first | kernel_rfl | simp [Value.oneCell']) (fun wy9 hq9 hr9 => ?_)
   replace hq9 : Only [(w.heap.size + 1 + 1 + 1)] wy8 wy9 := by first | exact hq9 | exact ((Only.refl [] wy8).drew.mono (U := [(w.heap.size + 1 + 1 + 1)]) (by simp)).trans hq9 (fun g h _ => h) (fun g h _ => h)
   have h9E := hq9.rowAt h8E (by rw [mSg]; have := HZx.out; have := HZ5x.out; have := HZ7x.out; omega)
   have h9A := hq9.rowAt h8A (by rw [mSg]; have := HZx.out; have := HZ5x.out; have := HZ7x.out; omega)
   have h9q := hq9.rowAt hr8 (by rw [mSg]; omega)
   refine hK.out _ _ ?_ (fun hHeld => ?_)
   ·exact ⟨h9E, h9A⟩
   clear hK K
   refine wpAnyH_done (by kernel_rfl) ?_ _
   go_wp2_with fail
   have hall : Only [] w _ := (HQ7.out.trans hq8 (U := []) (by simp) (fun g hg hl => by rw [mSg] at hg; omega)).trans hq9 (U := []) (by simp) (fun g hg hl => by rw [mSg] at hg; omega)
   refine bodyPost_ret (results_cell_cell Tryz.results20 _ _ (w.heap.size + 1 + 1) (w.heap.size + 1 + 1 + 1) _ _ _ _ _ _ _ _ rfl rfl h9q hr9 Tryz.underlying27 rfl (fr_info _ _ _) Tryz.underlying45 rfl (er_info _ _)) rfl (HPost.out _ _ ?_)
   refine ⟨hall, g, gcap, by rw [HFW.out.1, HFW.out.2], ?_⟩
   exact ((HO7.out.only hq8 (fun x hx e => by rw [mSg] at hx; simp only [Value.ownBlock] at e; injection e with e; have := HZx.out; have := (HO2.out.at g rfl).1; have := HQ1.out.size; have := HZ1.out; omega)).only hq9 (fun x hx e => by rw [mSg] at hx; simp only [Value.ownBlock] at e; injection e with e; have := HZx.out; have := (HO2.out.at g rfl).1; have := HQ1.out.size; have := HZ1.out; omega)).lower HQ1.out.size
theorem ksquare_any {lo hi R D : Nat} {bv : Value} {w : World} {m : Mod} (h : KModAt lo hi R D bv w m) (key : Bool) {sa : Array Value} (hsa : sa.size = 13) (hp : m.d.pos ≤ 600000000) :
  Calls Tryz.prog 51 #[.pointer (some ⟨R, 0, none⟩), .bool key, .agg sa] w fun e w' => KModAt lo hi R D bv w' (squareD key m).2 ∧ Only [R, D] w w' ∧ match (squareD key m).1 with
   | .ok s => ∃ lv vs, e = .returned (.tuple #[.agg (sqL s.kind s.mode s.modes s.vx s.vy lv vs).toArray, .agg #[.int .i64 0, .slice none 0 0]]) ∧ s.modes.length = 4 ∧ SqIn w.heap.size w'.heap.size w' lv vs s.large s.small
   | .error er => ∃ sv, e = .returned (.tuple #[.agg #[.int .i64 0, .int .i64 0, .int .i64 0, .int .i64 0, .int .i64 0, .int .i64 0, .int .i64 0, .int .i64 0, .slice none 0 0, .slice none 0 0, .slice none 0 0, .slice none 0 0, .slice none 0 0], .agg #[.int .i64 er.code, sv]]) ∧ Cells 2 w.heap.size w'.heap.size w' sv er.path.length (flat er.path) := by
 refine (gsquare_any (kcRead lo hi R D bv) rfl (F := [R, D]) (s := m) (n := m.d.pos) ⟨rfl, h⟩ key hsa ⟨h.ok, Nat.le_refl _⟩ hp).mono ?_
 rintro e w' ⟨F', ⟨rfl, hk⟩, hg, hm⟩
 rw [show squareG (kcRead lo hi R D bv).C key askZ m = squareD key m from squareG_rd key askZ m] at hk hm
 exact ⟨hk, hg.1, hm⟩
end
end Go.Proofs.YthgpgbdkcdmbpaaGreatDoor
