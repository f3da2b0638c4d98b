/- Joined texts: DSquares. Conditions: each part names its own. -/
import Derived.Test.YthgpgbdkcdmbpaaGreatDoorZDBuildL
import Derived.Test.YthgpgbdkcdmbpaaGreatDoorZDKMay
import Derived.Test.YthgpgbdkcdmbpaaGreatDoorZDFirst
import Derived.Test.YthgpgbdkcdmbpaaGreatDoorZDFew
import Derived.Deep.DeepCutAuto
import Derived.Deep.QuietTactic
import Derived.BigQuiet
/- The law kinlaw21.DecodeSquares answers true. Conditions: the arguments read; errors.errorType holds error's type. -/
namespace Go.Proofs.YthgpgbdkcdmbpaaGreatDoor
open Go.RowKit
set_option linter.unusedVariables false
set_option linter.unusedSimpArgs false

theorem frames_two {W : World} {f p : FrameD} {pv pu : Value} {lo hi lo' hi' : Nat} (hp : Ints .i64 lo hi W pv f.pix) (hu : Ints .i64 lo' hi' W pu p.pix) :
    FramesAt 0 (max (max hi hi') (W.heap.size + 1)) (W.alloc (.cells #[.int .i64 f.W, .int .i64 f.H, pv, .int .i64 p.W, .int .i64 p.H, pu] 27)) (.slice (some ⟨W.heap.size, 0, none⟩) 2 2) [f, p] := by
  have hr := heap_alloc_new W (.cells #[.int .i64 f.W, .int .i64 f.H, pv, .int .i64 p.W, .int .i64 p.H, pu] 27)
  refine ⟨fun i j => if i = 0 then (if j = 0 then .int .i64 f.W else if j = 1 then .int .i64 f.H else pv) else (if j = 0 then .int .i64 p.W else if j = 1 then .int .i64 p.H else pu), ⟨some ⟨W.heap.size, 0, none⟩, 2, rfl, Nat.le_refl _, by simp [maxLen], fun _ => ⟨W.heap.size, 0, rfl, by omega, by omega, fun i j hi hj => ?_⟩⟩, fun i hi => ?_⟩
  · have hi0 : i = 0 ∨ i = 1 := by simp at hi; omega
    rw [cell_of_row _ _ _ _ _ _ hr]
    rcases hi0 with rfl | rfl <;> rcases (by omega : j = 0 ∨ j = 1 ∨ j = 2) with rfl | rfl | rfl <;> rfl
  · have hi0 : i = 0 ∨ i = 1 := by simp at hi; omega
    rcases hi0 with rfl | rfl
    · exact ⟨rfl, rfl, (hp.quiet (Only.new W _)).mono (by omega) (by omega)⟩
    · exact ⟨rfl, rfl, (hu.quiet (Only.new W _)).mono (by omega) (by omega)⟩
theorem weigh_lens {L : List Int} {S : List (List Int)} (h : weighD L S ≤ 20000) : L.length ≤ 1000000000 ∧ ∀ i, i < 4 → (S.getD i []).length ≤ 1000000000 := by
  simp only [weighD, wsum] at h
  refine ⟨by omega, fun i hi => ?_⟩
  rcases (by omega : i = 0 ∨ i = 1 ∨ i = 2 ∨ i = 3) with rfl | rfl | rfl | rfl <;> omega
/-- the load of a whole row, where its guard is met -/
theorem wpList_load_row_on {P : Program} {w : World} {ops : Array Oper} {rest : List Oper} {o : Oper} {a : Act} {Q : Exit → Act → World → Prop} (hgd : Region.wanted o (yielded ops a.tmps) = true) (x : Operand) (t : TypeId) (ho : o.op = .load t x)
    {g : Nat} {c : Array Value} {ty : TypeId} {fr : Nat × Nat} {d : TypeDesc} (hx : a.eval x = .pointer (some ⟨g, 0, none⟩)) (hr : w.heap[g]? = some (.cells c ty fr)) (hu : P.underlying t = some d) (hd : (match d with | .struct _ | .array _ _ => true | _ => false) = true)
    (hi : (P.info? t).map (·.size) = some c.size) (h : wpList P ops Q rest (a.put o.dst (.agg c)) w) : wpList P ops Q (o :: rest) a w :=
  wpList_step fun _ hK => by
    rw [if_pos hgd]
    unfold Oper.wp execOp
    simp only [ho, hx, Instr.loadAt, Instr.sureAddr, Sem.run_bind, Sem.run_pure, Result.andThen_ok, run_loadVar_row w g ty t c fr d hr hu hd hi]
    exact hK _ _ h
theorem stepD_pos {n : Nat} (hn : n ≤ 15) : (0 : Int) < stepD n := by
  rcases upto15 hn with rfl | rfl | rfl | rfl | rfl | rfl | rfl | rfl | rfl | rfl | rfl | rfl | rfl | rfl | rfl | rfl <;> decide
set_option maxRecDepth 100000 in
theorem build_zero {lo1 hi1 lo2 hi2 hi : Nat} {fv pv lv : Value} {vs : List Value} {w : World} {f prev a : FrameD} {x y qp k mo vx vy : Int} {ms : List Int} (hf : Ints .i64 lo1 hi1 w fv f.pix) (hp : Ints .i64 lo2 hi2 w pv prev.pix) (h : SqIn 0 hi w lv vs zL zS) (hm : ms.length = 4) (hhi : hi ≤ w.heap.size) (hmk : ∀ x ∈ ms, InK .i64 x) (hz : buildD f prev x y qp k mo ms vx vy zL zS = .ok a) :
    Calls Tryz.prog 27 #[.agg #[.int .i64 f.W, .int .i64 f.H, fv], .agg #[.int .i64 prev.W, .int .i64 prev.H, pv], .int .i64 x, .int .i64 y, .int .i64 qp, .agg (sqL k mo ms vx vy lv vs).toArray] w (BuildP w (.ok a)) := by
  have h1 : zL.length ≤ 1000000000 := by rw [List.length_replicate]; omega
  have h2 : ∀ i, i < 4 → (zS.getD i []).length ≤ 1000000000 := fun i hi => by rw [zS_at i hi, List.length_replicate]; omega
  have := build_any (x := x) (y := y) (qp := qp) (k := k) (mo := mo) (vx := vx) (vy := vy) hf hp h hm hhi hmk h1 h2 rfl
  rw [hz] at this
  exact this
theorem wp_make {P : Program} {w w' : World} {o : Oper} {a : Act} {K : Act → World → Prop} {Q : Exit → Act → World → Prop} (t : TypeId) (l c : Operand) (ho : o.op = .makeSlice t l c) {v : Value}
    (hr : (Instr.makeSlice t (a.eval l) (a.eval c)).run P w = .ok v w') (h : K (a.put o.dst v) w') : o.wp P a w K Q := by
  unfold Oper.wp execOp
  simp only [ho, Sem.run_bind, Sem.run_pure, Result.andThen_ok, hr]
  exact h
theorem wp_store_row {P : Program} {w : World} {o : Oper} {a : Act} {K : Act → World → Prop} {Q : Exit → Act → World → Prop} (x y : Operand) (t : TypeId) (ho : o.op = .store t x y)
    {g : Nat} {c c' : Array Value} {ty : TypeId} (hx : a.eval x = .pointer (some ⟨g, 0, none⟩)) (hy : a.eval y = .agg c') (hr : w.heap[g]? = some (.cells c ty (0, 0))) (hi : (P.info? t).map (·.size) = some c'.size) (hs : c.size = c'.size) (h1 : c'.all (·.oneCell') = true)
    (h : K (a.put o.dst undef) (w.setRow g c')) : o.wp P a w K Q := by
  unfold Oper.wp execOp
  simp only [ho, hx, hy, Instr.storeAt, Instr.sureAddr, Sem.run_bind, Sem.run_pure, Result.andThen_ok, run_storeVar_row w g ty t c c' hr hi hs h1]
  exact h
set_option maxRecDepth 100000 in
set_option maxHeartbeats 8000000 in
theorem dsquares_any {fv pv lv : Value} {vs : List Value} {w : World} {f prev : FrameD} {k mo vx vy : Int} {ms L : List Int} {S : List (List Int)} (x y qp : Int) (hf : Ints .i64 0 w.heap.size w fv f.pix) (hp : Ints .i64 0 w.heap.size w pv prev.pix) (h : SqIn 0 w.heap.size w lv vs L S) (hm : ms.length = 4) (hmk : ∀ x ∈ ms, InK .i64 x) (hls : S.length = 4) (hE : ErrT w) :
    Calls Tryz.prog 8 #[.agg #[.int .i64 f.W, .int .i64 f.H, fv], .agg #[.int .i64 prev.W, .int .i64 prev.H, pv], .int .i64 x, .int .i64 y, .int .i64 qp, .agg (sqL k mo ms vx vy lv vs).toArray] w fun e w' => (e = .returned (.bool true) ∧ Only [] w w') := by
  suffices key : ∀ Q : Ending → World → Prop, Hid (∀ e w', (e = .returned (.bool true) ∧ Only [] w w') → Q e w') → Calls Tryz.prog 8 #[.agg #[.int .i64 f.W, .int .i64 f.H, fv], .agg #[.int .i64 prev.W, .int .i64 prev.H, pv], .int .i64 x, .int .i64 y, .int .i64 qp, .agg (sqL k mo ms vx vy lv vs).toArray] w Q from key _ (Lib.hid fun _ _ h => h)
  intro Q HPost
  obtain ⟨fa, fcap, rfl, -, fmax, -⟩ := hf.open
  obtain ⟨pa, pcap, rfl, -, -⟩ := hp.open
  have hfl : (f.pix.length : Int) ≤ 9223372036854775807 := by have := hf.1.len_le; unfold maxLen at this; omega
  have hinf : (Tryz.prog.info? 64).map (·.size) = some (sqL k mo ms vx vy lv vs).toArray.size := sqL_info hm h.len
  have HBu : Hid (weighD L S ≤ 20000 → ∀ wx, Only [] w wx → Calls Tryz.prog 27 #[.agg #[.int .i64 f.W, .int .i64 f.H, .slice fa f.pix.length fcap], .agg #[.int .i64 prev.W, .int .i64 prev.H, .slice pa prev.pix.length pcap], .int .i64 x, .int .i64 y, .int .i64 qp, .agg (sqL k mo ms vx vy lv vs).toArray] wx (BuildP wx (buildD f prev x y qp k mo ms vx vy L S))) := Lib.hid (fun hw wx o => build_any (hf.quiet o) (hp.quiet o) (h.only o (by simp)) hm o.size hmk (weigh_lens hw).1 (weigh_lens hw).2 hls)
  have HWe : Hid (∀ wx, Only [] w wx → Calls Tryz.prog 25 #[.agg (sqL k mo ms vx vy lv vs).toArray] wx fun e w' => e = .returned (.int .i64 ((weighD L S : Nat) : Int)) ∧ Only [] wx w') := Lib.hid (fun wx o => weighs_any hm (h.only o (by simp)))

  obtain ⟨sa, hsa⟩ : ∃ sa, sa = (sqL k mo ms vx vy lv vs).toArray := ⟨_, rfl⟩
  rw [← hsa] at hinf HBu HWe ⊢
  have Hsa := Lib.hid hsa
  have Hinf := Lib.hid hinf
  have hq1 : Only [] w (((w.alloc (.cells #[.int .i64 f.W, .int .i64 f.H, .slice fa f.pix.length fcap] 27)).alloc (.cells #[.int .i64 prev.W, .int .i64 prev.H, .slice pa prev.pix.length pcap] 27)).alloc (.cells sa 64)) := ((Only.new w _).alloc _).alloc _
  have HB01 : Hid ((((w.alloc (.cells #[.int .i64 f.W, .int .i64 f.H, .slice fa f.pix.length fcap] 27)).alloc (.cells #[.int .i64 prev.W, .int .i64 prev.H, .slice pa prev.pix.length pcap] 27)).alloc (.cells sa 64)).heap[w.heap.size]? = some (.cells #[.int .i64 f.W, .int .i64 f.H, .slice fa f.pix.length fcap] 27 (0, 0))) := Lib.hid (((Only.new (w.alloc _) _).alloc _).row (heap_alloc_new w _))
  have HB11 : Hid ((((w.alloc (.cells #[.int .i64 f.W, .int .i64 f.H, .slice fa f.pix.length fcap] 27)).alloc (.cells #[.int .i64 prev.W, .int .i64 prev.H, .slice pa prev.pix.length pcap] 27)).alloc (.cells sa 64)).heap[w.heap.size + 1]? = some (.cells #[.int .i64 prev.W, .int .i64 prev.H, .slice pa prev.pix.length pcap] 27 (0, 0))) := Lib.hid ((Only.new ((w.alloc _).alloc _) _).row (heap_alloc_new' (by simp)))
  have HB21 : Hid ((((w.alloc (.cells #[.int .i64 f.W, .int .i64 f.H, .slice fa f.pix.length fcap] 27)).alloc (.cells #[.int .i64 prev.W, .int .i64 prev.H, .slice pa prev.pix.length pcap] 27)).alloc (.cells sa 64)).heap[w.heap.size + 1 + 1]? = some (.cells sa 64 (0, 0))) := Lib.hid (heap_alloc_new' (by simp))
  have HQ1 := Lib.hid hq1
  have HF := Lib.hid hf
  have HP := Lib.hid hp
  have HE := Lib.hid hE
  have Hm := Lib.hid hm
  have Hmk := Lib.hid hmk
  have Hls := Lib.hid hls
  clear hf hp h hm hmk hls hE hinf hsa hq1 fmax
  go_enter Tryz.func8, Tryz.ntmps8
  go_wp2_with fail
  generalize hW1 : World.alloc (World.alloc (World.alloc w _) _) _ = W1 at *
  clear hW1
  go_at_call 9
  refine (dfirst_any W1 (HE.out.quiet HQ1.out)).mono ?_
  rintro e W2 ⟨rfl, hq2⟩
  have HB02 := Lib.hid (hq2.row HB01.out)
  have HB12 := Lib.hid (hq2.row HB11.out)
  have HB22 := Lib.hid (hq2.row HB21.out)
  have HQ2 := Lib.hid (HQ1.out.q hq2)
  clear hq2
  obtain ⟨f0, f1, f2⟩ := frame_cells HB02.out
  obtain ⟨p0, p1, p2⟩ := frame_cells HB12.out
  have n0 := block_lt_of_cell f0
  simp only at n0
  go_wp2_with fail
  clear f0 f1 f2 p0 p1 p2 n0
  have hn1 := Only.new W2 (.cells #[.int .i64 f.W, .int .i64 f.H, .slice fa f.pix.length fcap, .int .i64 prev.W, .int .i64 prev.H, .slice pa prev.pix.length pcap] 27)
  have HPx := Lib.hid (pix_any (frames_two (HF.out.quiet HQ2.out) (HP.out.quiet HQ2.out)))
  have HB03 := Lib.hid (hn1.row HB02.out)
  have HB13 := Lib.hid (hn1.row HB12.out)
  have HB23 := Lib.hid (hn1.row HB22.out)
  have HQ3 := Lib.hid (HQ2.out.q hn1)
  clear hn1
  generalize hW3 : World.alloc W2 _ = W3 at *
  clear hW3
  go_at_call 24
  refine HPx.out.mono ?_
  rintro e w' ⟨rfl, rfl⟩
  generalize pixB [f, prev] = bb at *
  cases bb with
  | false =>
    go_wp2_with fail
    go_at_call 9
    refine (dfirst_any _ (HE.out.quiet HQ3.out)).mono ?_
    rintro e W4 ⟨rfl, hq4⟩
    have HQ4 := Lib.hid (HQ3.out.q hq4)
    clear hq4
    go_wp2_with fail
    exact HPost.out _ _ ⟨rfl, HQ4.out⟩
  | true =>
    go_wp2_with (first | (refine wpList_load_row_on (by rfl) (.tmp 11) 64 rfl rfl HB23.out Tryz.underlying64 rfl Hinf.out ?_) | fail)
    go_at_call 25
    refine (HWe.out W3 HQ3.out).mono ?_
    rintro e W4 ⟨rfl, hq4⟩
    have HB04 := Lib.hid (hq4.row HB03.out)
    have HB14 := Lib.hid (hq4.row HB13.out)
    have HB24 := Lib.hid (hq4.row HB23.out)
    have HQ4 := Lib.hid (HQ3.out.q hq4)
    clear hq4
    by_cases hwd : 20000 < weighD L S
    · have hwi : (20000 : Int) < ((weighD L S : Nat) : Int) := by omega
      generalize weighD L S = wd at *
      go_wp2_with fail
      go_at_call 9
      refine (dfirst_any _ (HE.out.quiet HQ4.out)).mono ?_
      rintro e W5 ⟨rfl, hq5⟩
      have HQ5 := Lib.hid (HQ4.out.q hq5)
      clear hq5
      go_wp2_with fail
      exact HPost.out _ _ ⟨rfl, HQ5.out⟩
    · have hwi : ¬ (20000 : Int) < ((weighD L S : Nat) : Int) := by omega
      have HBd := Lib.hid (HBu.out (by omega))
      clear HBu HWe
      generalize weighD L S = wd at *
      obtain ⟨f0, f1, f2⟩ := frame_cells HB04.out
      obtain ⟨p0, p1, p2⟩ := frame_cells HB14.out
      go_wp2_with (first | (refine wpList_load_row rfl (.tmp 11) 64 rfl rfl HB24.out Tryz.underlying64 rfl Hinf.out ?_) | fail)
      clear f0 f1 f2 p0 p1 p2 hwi hwd
      go_at_call 27
      refine (HBd.out W4 HQ4.out).mono ?_
      rintro e W5 ⟨hq5, hm⟩
      have HB05 := Lib.hid (hq5.row HB04.out)
      have HB15 := Lib.hid (hq5.row HB14.out)
      have HB25 := Lib.hid (hq5.row HB24.out)
      have HQ5 := Lib.hid (HQ4.out.q hq5)
      cases hbd : buildD f prev x y qp k mo ms vx vy L S with
      | error c =>
        rw [hbd] at hm
        subst hm
        have hn6 := Only.new W5 (.cells #[.int .i64 0, .int .i64 0, .slice none 0 0] 27)
        have HG6 : Hid ((W5.alloc (.cells #[.int .i64 0, .int .i64 0, .slice none 0 0] 27)).heap[W5.heap.size]? = some (.cells #[.int .i64 0, .int .i64 0, .slice none 0 0] 27 (0, 0))) := Lib.hid (heap_alloc_new W5 _)
        have HB06 := Lib.hid (hn6.row HB05.out)
        have HB16 := Lib.hid (hn6.row HB15.out)
        have HB26 := Lib.hid (hn6.row HB25.out)
        have HQ6 := Lib.hid (HQ5.out.q hn6)
        clear hn6 hq5 hbd
        go_wp2_with fail
        generalize hW6 : World.alloc W5 _ = W6 at *
        clear hW6
        go_at_call 9
        refine (dfirst_any W6 (HE.out.quiet HQ6.out)).mono ?_
        rintro e W7 ⟨rfl, hq7⟩
        have HQ7 := Lib.hid (HQ6.out.q hq7)
        obtain ⟨z0, z1, z2⟩ := frame_cells (hq7.row HG6.out)
        clear hq7
        go_wp2_with fail
        exact HPost.out _ _ ⟨rfl, HQ7.out⟩
      | ok g =>
        rw [hbd] at hm
        obtain ⟨gb, gcap, rfl, hown⟩ := hm
        obtain ⟨hfo, hgo, hgw, hgh, hgl, hpk⟩ := buildD_may Hm.out Hls.out hbd
        obtain ⟨hbs, hpc, -⟩ := buildD_open hbd
        rw [hgw, hgh, hgl]
        rw [hgl] at hown
        have hn6 := Only.new W5 (.cells #[.int .i64 f.W, .int .i64 f.H, .slice (some ⟨gb, 0, none⟩) f.pix.length gcap] 27)
        have HG6 : Hid ((W5.alloc (.cells #[.int .i64 f.W, .int .i64 f.H, .slice (some ⟨gb, 0, none⟩) f.pix.length gcap] 27)).heap[W5.heap.size]? = some (.cells #[.int .i64 f.W, .int .i64 f.H, .slice (some ⟨gb, 0, none⟩) f.pix.length gcap] 27 (0, 0))) := Lib.hid (heap_alloc_new W5 _)
        have HB06 := Lib.hid (hn6.row HB05.out)
        have HB16 := Lib.hid (hn6.row HB15.out)
        have HB26 := Lib.hid (hn6.row HB25.out)
        have HQ6 := Lib.hid (HQ5.out.q hn6)
        have HOg : Hid (Ints .i64 w.heap.size (W5.heap.size + 1) (W5.alloc (.cells #[.int .i64 f.W, .int .i64 f.H, .slice (some ⟨gb, 0, none⟩) f.pix.length gcap] 27)) (.slice (some ⟨gb, 0, none⟩) f.pix.length gcap) g.pix) := Lib.hid ((hown.ints.quiet hn6).mono HQ4.out.size (by omega))
        have Hbd := Lib.hid hbd
        have Hfo := Lib.hid hfo
        have Hgl := Lib.hid hgl
        have Hpk := Lib.hid hpk
        have Hbs := Lib.hid hbs
        have HMg := Lib.hid (fun (wx : World) (o : Only [] (W5.alloc (.cells #[.int .i64 f.W, .int .i64 f.H, .slice (some ⟨gb, 0, none⟩) f.pix.length gcap] 27)) wx) => by have := pmay_any f.W f.H (HOg.out.quiet o); rw [show mayF ⟨f.W, f.H, g.pix⟩ = true from mayF_iff.2 (by rw [← hgw, ← hgh]; exact hgo)] at this; exact this)
        have HMf := Lib.hid (fun (wx : World) (o : Only [] w wx) => by have := kmay_any f.W f.H (HF.out.quiet o); rw [show mayF ⟨f.W, f.H, f.pix⟩ = true from mayF_iff.2 hfo] at this; exact this)
        clear hn6 hq5 hbd hown hfo hgo hgw hgh hgl hpk hbs hpc
        have gc := frame_cells HG6.out
        obtain ⟨g0, g1, g2⟩ := gc
        go_wp2_with fail
        generalize hW6 : World.alloc W5 _ = W6 at *
        clear hW6
        go_at_call 12
        refine (HMg.out W6 (Only.refl _ _)).mono ?_
        rintro e W7 ⟨rfl, hq7⟩
        have HB07 := Lib.hid (hq7.row HB06.out)
        have HB17 := Lib.hid (hq7.row HB16.out)
        have HB27 := Lib.hid (hq7.row HB26.out)
        have HQ7 := Lib.hid (HQ6.out.q hq7)
        have HG7 := Lib.hid (hq7.row HG6.out)
        have HOg7 := Lib.hid (HOg.out.quiet hq7)
        clear hq7 g0 g1 g2
        obtain ⟨f0, f1, f2⟩ := frame_cells HB07.out
        go_wp2_with fail
        go_at_call 30
        refine (HMf.out W7 HQ7.out).mono ?_
        rintro e W8 ⟨rfl, hq8⟩
        have HB08 := Lib.hid (hq8.row HB07.out)
        have HB18 := Lib.hid (hq8.row HB17.out)
        have HB28 := Lib.hid (hq8.row HB27.out)
        have HQ8 := Lib.hid (HQ7.out.q hq8)
        have HG8 := Lib.hid (hq8.row HG7.out)
        have HOg8 := Lib.hid (HOg7.out.quiet hq8)
        clear hq8 f0 f1 f2
        obtain ⟨f0, f1, f2⟩ := frame_cells HB08.out
        obtain ⟨g0, g1, g2⟩ := frame_cells HG8.out
        go_wp2_with fail
        clear f0 f1 f2 g0 g1 g2 HOg7 HG7 HG6 HOg HMg HMf
        obtain ⟨Wn, hWn⟩ := Int.eq_ofNat_of_zero_le (show 0 ≤ f.W by have := Hfo.out.w0; omega)
        obtain ⟨Hn, hHn⟩ := Int.eq_ofNat_of_zero_le (show 0 ≤ f.H by have := Hfo.out.h0; omega)
        obtain ⟨lx0, lx1, ly0, ly1⟩ := lies_iff Hbs.out.lies
        obtain ⟨xn, rfl⟩ := Int.eq_ofNat_of_zero_le lx0
        obtain ⟨yn, rfl⟩ := Int.eq_ofNat_of_zero_le ly0
        have HPo := Lib.hid (fun i => (buildD_pix (i := i) Hm.out Hls.out hWn hHn Hbd.out).1)
        have HPz := Lib.hid (fun i => (buildD_pix (i := i) Hm.out Hls.out hWn hHn Hbd.out).2)
        have hb1 : 8 ≤ Wn ∧ Wn ≤ 32 ∧ 8 ≤ Hn ∧ Hn ≤ 32 ∧ xn ≤ 32 ∧ yn ≤ 32 := by have := Hfo.out.w0; have := Hfo.out.w1; have := Hfo.out.h0; have := Hfo.out.h1; omega
        have hN : 0 < f.pix.length ∧ f.pix.length ≤ 1024 := by
          have e1 := Hfo.out.len
          rw [hWn, hHn, ← Int.natCast_mul] at e1
          have e2 : 8 * 8 ≤ Wn * Hn := Nat.mul_le_mul hb1.1 hb1.2.2.1
          have e3 : Wn * Hn ≤ 32 * 32 := Nat.mul_le_mul hb1.2.1 hb1.2.2.2.1
          omega
        have HWn := Lib.hid hWn
        have HN := Lib.hid hN
        have Hb1 := Lib.hid hb1
        obtain ⟨fb, foff, fcap', he, -, -, -⟩ := HF.out.at hN.1
        injection he with e1 e2 e3
        subst e1; subst e3
        clear hWn hHn lx0 lx1 ly0 ly1 hb1 hN e2
        go_wp2_with fail
        go_loopw [15, 16] (fun i b wr => ∃ (j : Nat), j ≤ f.pix.length ∧ i = .int .i64 j ∧ Hid (Only [] W8 wr)) (fun i _ _ => f.pix.length - (intOf i).toNat)
        case atStart => exact ⟨0, by omega, rfl, Lib.hid (Only.refl _ _)⟩
        case round =>
          obtain ⟨j, hj, rfl, HQr⟩ := hrel
          have HB0r := Lib.hid (HQr.out.row HB08.out)
          have HB1r := Lib.hid (HQr.out.row HB18.out)
          have HB2r := Lib.hid (HQr.out.row HB28.out)
          have HGr := Lib.hid (HQr.out.row HG8.out)
          obtain ⟨f0, f1, f2⟩ := frame_cells HB0r.out
          obtain ⟨g0, g1, g2⟩ := frame_cells HGr.out
          by_cases hlt : j < f.pix.length
          · have hji : (j : Int) < (f.pix.length : Int) := by omega
            have hj0 : (0 : Int) ≤ (j : Int) := by omega
            have Hj := Lib.hid hlt
            have eM : (j : Int).tmod f.W = ((j % Wn : Nat) : Int) := by rw [HWn.out, Int.tmod_eq_emod_of_nonneg hj0]; rfl
            have eD : (j : Int).tdiv f.W = ((j / Wn : Nat) : Int) := by rw [HWn.out, Int.tdiv_eq_ediv_of_nonneg hj0]; rfl
            have hDl : j / Wn ≤ j := Nat.div_le_self _ _
            have hMl : j % Wn < Wn := Nat.mod_lt _ (by have := Hb1.out.1; omega)
            have HPoj := Lib.hid (HPo.out j)
            have HPzj := Lib.hid (HPz.out j)
            generalize j / Wn = D at *
            generalize j % Wn = M at *
            have eW : IntKind.i64.wrap (D : Int) = (D : Int) := by rw [IntKind.wrap_i64]; have := HN.out.2; omega
            have hbd := Hb1.out
            have ex8 : IntKind.i64.wrap ((xn : Int) + 8) = (xn : Int) + 8 := by rw [IntKind.wrap_i64]; omega
            have ey8 : IntKind.i64.wrap ((yn : Int) + 8) = (yn : Int) + 8 := by rw [IntKind.wrap_i64]; omega
            have hW0 : ¬ f.W = 0 := by have := HWn.out; omega
            have hWb : (f.W == 0) = false := by rw [beq_eq_false_iff_ne]; exact hW0
            obtain ⟨ga', gcap', e, -, -, -, hgc⟩ := (HOg8.out.quiet HQr.out).open
            injection e with e1 e2 e3
            have cG := hgc gb 0 e1.symm j (by rw [Hgl.out]; exact hlt)
            rw [Nat.zero_add] at cG
            obtain ⟨fa', fcap2, e', -, -, -, hfc⟩ := (HF.out.quiet (HQ8.out.q HQr.out)).open
            injection e' with e4 e5 e6
            have cF := hfc fb foff e4.symm j hlt
            clear e1 e2 e3 e4 e5 e6 hgc hfc hlt hDl
            have hcs : (¬ xn ≤ M) ∨ (xn ≤ M ∧ ¬ M < xn + 8) ∨ (xn ≤ M ∧ M < xn + 8 ∧ ¬ yn ≤ D) ∨ (xn ≤ M ∧ M < xn + 8 ∧ yn ≤ D ∧ ¬ D < yn + 8) ∨ (xn ≤ M ∧ M < xn + 8 ∧ yn ≤ D ∧ D < yn + 8) := by omega
            clear hbd hMl
            rcases hcs with hcn | hcn | hcn | hcn | hcn
            · have h0 : ¬ (xn : Int) ≤ (M : Int) := by omega
              have hv := HPoj.out (by omega)
              rw [hv] at cG
              clear hv hcn
              generalize f.pix.getD j 0 = v at *
              go_wp2_with fail
              go_quiet (fail)
              go_wp2_with fail
              refine ⟨?_, by simp [intOf]; have := Hj.out; omega⟩
              exact ⟨j + 1, by have := Hj.out; omega, by go_num, Lib.hid (HQr.out.drewN _)⟩
            · have h0 : (xn : Int) ≤ (M : Int) := by omega
              have h1 : ¬ (M : Int) < (xn : Int) + 8 := by omega
              have hv := HPoj.out (by omega)
              rw [hv] at cG
              clear hv hcn
              generalize f.pix.getD j 0 = v at *
              go_wp2_with fail
              go_quiet (fail)
              go_wp2_with fail
              refine ⟨?_, by simp [intOf]; have := Hj.out; omega⟩
              exact ⟨j + 1, by have := Hj.out; omega, by go_num, Lib.hid (HQr.out.drewN _)⟩
            · have h0 : (xn : Int) ≤ (M : Int) := by omega
              have h1 : (M : Int) < (xn : Int) + 8 := by omega
              have h2 : ¬ (yn : Int) ≤ (D : Int) := by omega
              have hv := HPoj.out (by omega)
              rw [hv] at cG
              clear hv hcn
              generalize f.pix.getD j 0 = v at *
              go_wp2_with fail
              go_quiet (fail)
              go_wp2_with fail
              refine ⟨?_, by simp [intOf]; have := Hj.out; omega⟩
              exact ⟨j + 1, by have := Hj.out; omega, by go_num, Lib.hid (HQr.out.drewN _)⟩
            · have h0 : (xn : Int) ≤ (M : Int) := by omega
              have h1 : (M : Int) < (xn : Int) + 8 := by omega
              have h2 : (yn : Int) ≤ (D : Int) := by omega
              have h3 : ¬ (D : Int) < (yn : Int) + 8 := by omega
              have hv := HPoj.out (by omega)
              rw [hv] at cG
              clear hv hcn
              generalize f.pix.getD j 0 = v at *
              go_wp2_with fail
              go_quiet (fail)
              go_wp2_with fail
              refine ⟨?_, by simp [intOf]; have := Hj.out; omega⟩
              exact ⟨j + 1, by have := Hj.out; omega, by go_num, Lib.hid (HQr.out.drewN _)⟩
            · have h0 : (xn : Int) ≤ (M : Int) := by omega
              have h1 : (M : Int) < (xn : Int) + 8 := by omega
              have h2 : (yn : Int) ≤ (D : Int) := by omega
              have h3 : (D : Int) < (yn : Int) + 8 := by omega
              by_cases hk0 : k = 0
              · subst hk0
                have hv := HPzj.out rfl (by omega)
                rw [hv] at cG
                have hkc : W8.cell? ⟨w.heap.size + 1 + 1, 0, none⟩ = some (.int .i64 0) := by rw [cell_of_row _ _ _ _ _ _ HB28.out, Hsa.out]; rfl
                have c0 := HQr.out.cell hkc (by simp)
                obtain ⟨pl, -, -, -⟩ := Hpk.out (by omega)
                obtain ⟨pa', pcap2, e', -, -, hpd, hpc⟩ := (HP.out.quiet (HQ8.out.q HQr.out)).open
                injection e' with e4 e5 e6
                obtain ⟨pb, poff, e7, -, -⟩ := hpd j (by rw [pl]; exact Hj.out)
                rw [e7] at e4
                subst e4
                have cP := hpc pb poff e7 j (by rw [pl]; exact Hj.out)
                obtain ⟨p0, p1, p2⟩ := frame_cells HB1r.out
                rw [pl] at p2
                clear hv hcn e5 e6 e7 hpd hpc pl hkc cF
                generalize prev.pix.getD j 0 = v at *
                go_wp2_with fail
                go_quiet (fail)
                go_wp2_with fail
                refine ⟨?_, by simp [intOf]; have := Hj.out; omega⟩
                exact ⟨j + 1, by have := Hj.out; omega, by go_num, Lib.hid (HQr.out.drewN _)⟩
              · have hkb : (k == 0) = false := by rw [beq_eq_false_iff_ne]; exact hk0
                have hkc : W8.cell? ⟨w.heap.size + 1 + 1, 0, none⟩ = some (.int .i64 k) := by rw [cell_of_row _ _ _ _ _ _ HB28.out, Hsa.out]; exact sqL_kind
                have c0 := HQr.out.cell hkc (by simp)
                clear hcn hkc cF cG hk0
                go_wp2_with fail
                go_quiet (fail)
                go_wp2_with fail
                refine ⟨?_, by simp [intOf]; have := Hj.out; omega⟩
                exact ⟨j + 1, by have := Hj.out; omega, by go_num, Lib.hid (HQr.out.drewN _)⟩
          · obtain rfl : j = f.pix.length := by omega
            have hji : ¬ ((f.pix.length : Nat) : Int) < ((f.pix.length : Nat) : Int) := by omega
            have HQ9 := Lib.hid (HQ8.out.q HQr.out)
            clear HPo HPz HOg8 HG8 HGr g0 g1 g2
            go_upto_region 16 with (fail)
            clear hji f0 f1 f2
            go_cut [17] (fun s17 wx => ∃ (B LB : Nat), s17 = .pointer (some ⟨B, 0, none⟩) ∧ Hid (Only [] wr wx) ∧ Hid (SqRow B wx k mo ms vx vy (.slice (some ⟨LB, 0, none⟩) 64 64) [nilS, nilS, nilS, nilS]) ∧ Hid (Ints .i64 LB (LB + 1) wx (.slice (some ⟨LB, 0, none⟩) 64 64) zL) ∧ Hid (wr.heap.size ≤ B ∧ B ≠ LB))
            case first =>
              obtain ⟨m0, m1, m2, m3, rfl⟩ := len4 Hm.out
              have hsr : wr.heap[w.heap.size + 1 + 1]? = some (.cells (sqL k mo [m0, m1, m2, m3] vx vy lv vs).toArray 64 (0, 0)) := by rw [← Hsa.out]; exact HB2r.out
              have s0 : wr.cell? ⟨w.heap.size + 1 + 1, 0, none⟩ = some (.int .i64 k) := by rw [cell_of_row _ _ _ _ _ _ hsr]; rfl
              have s1 : wr.cell? ⟨w.heap.size + 1 + 1, 1, none⟩ = some (.int .i64 mo) := by rw [cell_of_row _ _ _ _ _ _ hsr]; rfl
              have s2 : wr.cell? ⟨w.heap.size + 1 + 1, 2, none⟩ = some (.int .i64 m0) := by rw [cell_of_row _ _ _ _ _ _ hsr]; rfl
              have s3 : wr.cell? ⟨w.heap.size + 1 + 1, 3, none⟩ = some (.int .i64 m1) := by rw [cell_of_row _ _ _ _ _ _ hsr]; rfl
              have s4 : wr.cell? ⟨w.heap.size + 1 + 1, 4, none⟩ = some (.int .i64 m2) := by rw [cell_of_row _ _ _ _ _ _ hsr]; rfl
              have s5 : wr.cell? ⟨w.heap.size + 1 + 1, 5, none⟩ = some (.int .i64 m3) := by rw [cell_of_row _ _ _ _ _ _ hsr]; rfl
              have s6 : wr.cell? ⟨w.heap.size + 1 + 1, 6, none⟩ = some (.int .i64 vx) := by rw [cell_of_row _ _ _ _ _ _ hsr]; rfl
              have s7 : wr.cell? ⟨w.heap.size + 1 + 1, 7, none⟩ = some (.int .i64 vy) := by rw [cell_of_row _ _ _ _ _ _ hsr]; rfl
              have hmk := fun wz => run_make_row' (P := Tryz.prog) 25 3 (.int .i64 0) 8 EI.ut (by kernel_rfl) rfl .i64 .i64 64 (by omega) (by omega) wz
              clear hsr
              have hOB := block_lt_of_cell s0
              simp only at hOB
              have hzA : (((wr.alloc (.cells (madeCells #[.int .i64 0] 64) 3)).alloc (.cells #[.int .i64 0, .int .i64 0, .int .i64 0, .int .i64 0, .int .i64 0, .int .i64 0, .int .i64 0, .int .i64 0, .slice none 0 0, .slice none 0 0, .slice none 0 0, .slice none 0 0, .slice none 0 0] 64)).drew).heap[wr.heap.size + 1]? = some (.cells #[.int .i64 0, .int .i64 0, .int .i64 0, .int .i64 0, .int .i64 0, .int .i64 0, .int .i64 0, .int .i64 0, .slice none 0 0, .slice none 0 0, .slice none 0 0, .slice none 0 0, .slice none 0 0] 64 (0, 0)) := (heap_alloc_new' (w := wr.alloc (.cells (madeCells #[.int .i64 0] 64) 3)) (o := .cells #[.int .i64 0, .int .i64 0, .int .i64 0, .int .i64 0, .int .i64 0, .int .i64 0, .int .i64 0, .int .i64 0, .slice none 0 0, .slice none 0 0, .slice none 0 0, .slice none 0 0, .slice none 0 0] 64) (g := wr.heap.size + 1) (by simp))
              have hoA : Only [] wr (((wr.alloc (.cells (madeCells #[.int .i64 0] 64) 3)).alloc (.cells #[.int .i64 0, .int .i64 0, .int .i64 0, .int .i64 0, .int .i64 0, .int .i64 0, .int .i64 0, .int .i64 0, .slice none 0 0, .slice none 0 0, .slice none 0 0, .slice none 0 0, .slice none 0 0] 64)).drew) := ((Only.new wr _).alloc _).drew
              have hsA := Only.setRow (S := [wr.heap.size + 1]) (Only.refl _ (((wr.alloc (.cells (madeCells #[.int .i64 0] 64) 3)).alloc (.cells #[.int .i64 0, .int .i64 0, .int .i64 0, .int .i64 0, .int .i64 0, .int .i64 0, .int .i64 0, .int .i64 0, .slice none 0 0, .slice none 0 0, .slice none 0 0, .slice none 0 0, .slice none 0 0] 64)).drew)) (g := wr.heap.size + 1) (fun _ => by simp) (sqL k mo [m0, m1, m2, m3] vx vy (.slice (some ⟨wr.heap.size, 0, none⟩) 64 64) [nilS, nilS, nilS, nilS]).toArray
              have hrA := setRow_heap (((wr.alloc (.cells (madeCells #[.int .i64 0] 64) 3)).alloc (.cells #[.int .i64 0, .int .i64 0, .int .i64 0, .int .i64 0, .int .i64 0, .int .i64 0, .int .i64 0, .int .i64 0, .slice none 0 0, .slice none 0 0, .slice none 0 0, .slice none 0 0, .slice none 0 0] 64)).drew) (wr.heap.size + 1) _ (sqL k mo [m0, m1, m2, m3] vx vy (.slice (some ⟨wr.heap.size, 0, none⟩) 64 64) [nilS, nilS, nilS, nilS]).toArray _ _ hzA
              have hIA : Ints .i64 (wr.heap.size) (wr.heap.size + 1) ((((wr.alloc (.cells (madeCells #[.int .i64 0] 64) 3)).alloc (.cells #[.int .i64 0, .int .i64 0, .int .i64 0, .int .i64 0, .int .i64 0, .int .i64 0, .int .i64 0, .int .i64 0, .slice none 0 0, .slice none 0 0, .slice none 0 0, .slice none 0 0, .slice none 0 0] 64)).drew).setRow (wr.heap.size + 1) (sqL k mo [m0, m1, m2, m3] vx vy (.slice (some ⟨wr.heap.size, 0, none⟩) 64 64) [nilS, nilS, nilS, nilS]).toArray) (.slice (some ⟨wr.heap.size, 0, none⟩) 64 64) zL := ((((own_made .i64 3 wr 64 (by simp [maxLen])).ints.quiet (Only.new (wr.alloc (.cells (madeCells #[.int .i64 0] 64) 3)) (.cells #[.int .i64 0, .int .i64 0, .int .i64 0, .int .i64 0, .int .i64 0, .int .i64 0, .int .i64 0, .int .i64 0, .slice none 0 0, .slice none 0 0, .slice none 0 0, .slice none 0 0, .slice none 0 0] 64)).drew).only hsA (by simp only [List.mem_singleton]; rintro g rfl; simp)).mono (Nat.le_refl _) (by rw [World.size_alloc]; exact Nat.le_refl _))
              have hqA := hoA.trans hsA (U := []) (by simp) (fun x hx hl => by rw [List.mem_singleton] at hx; omega)
              have hsz : (wr.alloc (.cells #[.int .i64 0, .int .i64 0, .int .i64 0, .int .i64 0, .int .i64 0, .int .i64 0, .int .i64 0, .int .i64 0, .slice none 0 0, .slice none 0 0, .slice none 0 0, .slice none 0 0, .slice none 0 0] 64)).drew.heap.size = wr.heap.size + 1 := by
                show (wr.alloc (.cells #[.int .i64 0, .int .i64 0, .int .i64 0, .int .i64 0, .int .i64 0, .int .i64 0, .int .i64 0, .int .i64 0, .slice none 0 0, .slice none 0 0, .slice none 0 0, .slice none 0 0, .slice none 0 0] 64)).heap.size = wr.heap.size + 1
                rw [World.size_alloc]
              have hzB : ((wr.alloc (.cells #[.int .i64 0, .int .i64 0, .int .i64 0, .int .i64 0, .int .i64 0, .int .i64 0, .int .i64 0, .int .i64 0, .slice none 0 0, .slice none 0 0, .slice none 0 0, .slice none 0 0, .slice none 0 0] 64)).drew.alloc (.cells (madeCells #[.int .i64 0] 64) 3)).heap[wr.heap.size]? = some (.cells #[.int .i64 0, .int .i64 0, .int .i64 0, .int .i64 0, .int .i64 0, .int .i64 0, .int .i64 0, .int .i64 0, .slice none 0 0, .slice none 0 0, .slice none 0 0, .slice none 0 0, .slice none 0 0] 64 (0, 0)) := (Only.new (wr.alloc (.cells #[.int .i64 0, .int .i64 0, .int .i64 0, .int .i64 0, .int .i64 0, .int .i64 0, .int .i64 0, .int .i64 0, .slice none 0 0, .slice none 0 0, .slice none 0 0, .slice none 0 0, .slice none 0 0] 64)).drew (.cells (madeCells #[.int .i64 0] 64) 3)).row (heap_alloc_new wr (.cells #[.int .i64 0, .int .i64 0, .int .i64 0, .int .i64 0, .int .i64 0, .int .i64 0, .int .i64 0, .int .i64 0, .slice none 0 0, .slice none 0 0, .slice none 0 0, .slice none 0 0, .slice none 0 0] 64))
              have hoB : Only [] wr ((wr.alloc (.cells #[.int .i64 0, .int .i64 0, .int .i64 0, .int .i64 0, .int .i64 0, .int .i64 0, .int .i64 0, .int .i64 0, .slice none 0 0, .slice none 0 0, .slice none 0 0, .slice none 0 0, .slice none 0 0] 64)).drew.alloc (.cells (madeCells #[.int .i64 0] 64) 3)) := ((Only.new wr _).drew).alloc _
              have hsB := Only.setRow (S := [wr.heap.size]) (Only.refl _ ((wr.alloc (.cells #[.int .i64 0, .int .i64 0, .int .i64 0, .int .i64 0, .int .i64 0, .int .i64 0, .int .i64 0, .int .i64 0, .slice none 0 0, .slice none 0 0, .slice none 0 0, .slice none 0 0, .slice none 0 0] 64)).drew.alloc (.cells (madeCells #[.int .i64 0] 64) 3))) (g := wr.heap.size) (fun _ => by simp) (sqL k mo [m0, m1, m2, m3] vx vy (.slice (some ⟨wr.heap.size + 1, 0, none⟩) 64 64) [nilS, nilS, nilS, nilS]).toArray
              have hrB := setRow_heap ((wr.alloc (.cells #[.int .i64 0, .int .i64 0, .int .i64 0, .int .i64 0, .int .i64 0, .int .i64 0, .int .i64 0, .int .i64 0, .slice none 0 0, .slice none 0 0, .slice none 0 0, .slice none 0 0, .slice none 0 0] 64)).drew.alloc (.cells (madeCells #[.int .i64 0] 64) 3)) (wr.heap.size) _ (sqL k mo [m0, m1, m2, m3] vx vy (.slice (some ⟨wr.heap.size + 1, 0, none⟩) 64 64) [nilS, nilS, nilS, nilS]).toArray _ _ hzB
              have hIB : Ints .i64 (wr.heap.size + 1) (wr.heap.size + 1 + 1) (((wr.alloc (.cells #[.int .i64 0, .int .i64 0, .int .i64 0, .int .i64 0, .int .i64 0, .int .i64 0, .int .i64 0, .int .i64 0, .slice none 0 0, .slice none 0 0, .slice none 0 0, .slice none 0 0, .slice none 0 0] 64)).drew.alloc (.cells (madeCells #[.int .i64 0] 64) 3)).setRow (wr.heap.size) (sqL k mo [m0, m1, m2, m3] vx vy (.slice (some ⟨wr.heap.size + 1, 0, none⟩) 64 64) [nilS, nilS, nilS, nilS]).toArray) (.slice (some ⟨wr.heap.size + 1, 0, none⟩) 64 64) zL := ((Ints.only (by have := (own_made .i64 3 ((wr.alloc (.cells #[.int .i64 0, .int .i64 0, .int .i64 0, .int .i64 0, .int .i64 0, .int .i64 0, .int .i64 0, .int .i64 0, .slice none 0 0, .slice none 0 0, .slice none 0 0, .slice none 0 0, .slice none 0 0] 64)).drew) 64 (by simp [maxLen])).ints; rw [hsz] at this; exact this) hsB (by simp only [List.mem_singleton]; rintro g rfl; omega)).mono (Nat.le_refl _) (by rw [World.size_alloc, hsz]; exact Nat.le_refl _))
              have hqB := hoB.trans hsB (U := []) (by simp) (fun x hx hl => by rw [List.mem_singleton] at hx; omega)
              refine wp_region_held_drew (S := (fun w' => w'.cell? ⟨w.heap.size + 1 + 1, 0, none⟩ = some (.int .i64 k) ∧ w'.cell? ⟨w.heap.size + 1 + 1, 1, none⟩ = some (.int .i64 mo) ∧ w'.cell? ⟨w.heap.size + 1 + 1, 2, none⟩ = some (.int .i64 m0) ∧ w'.cell? ⟨w.heap.size + 1 + 1, 3, none⟩ = some (.int .i64 m1) ∧ w'.cell? ⟨w.heap.size + 1 + 1, 4, none⟩ = some (.int .i64 m2) ∧ w'.cell? ⟨w.heap.size + 1 + 1, 5, none⟩ = some (.int .i64 m3) ∧ w'.cell? ⟨w.heap.size + 1 + 1, 6, none⟩ = some (.int .i64 vx) ∧ w'.cell? ⟨w.heap.size + 1 + 1, 7, none⟩ = some (.int .i64 vy))) (by kernel_rfl) ?_ (fun hHeld => ?_)
              · exact ⟨s0, s1, s2, s3, s4, s5, s6, s7⟩
              refine wpAnyH_take (i := 0) (oi := ⟨some 154, _, _, _, _, _⟩) (v := ?_) rfl (by kernel_rfl) (by kernel_rfl) (by kernel_rfl) (fun _ _ _ h => h) (Or.inl ⟨by rfl, ?_⟩) (by assumption) ?_
              rotate_left
              · (intro wz hSw; (try dsimp only at hSw); obtain ⟨hS0, hS1, hS2, hS3, hS4, hS5, hS6, hS7⟩ := hSw; go_simp; try with_reducible rfl)
              try simp only [Act.put, List.setIfInBounds_toArray, List.set_cons_zero, List.set_cons_succ]
              refine wpAnyH_take (i := 1) (oi := ⟨some 155, _, _, _, _, _⟩) (v := ?_) rfl (by kernel_rfl) (by kernel_rfl) (by kernel_rfl) (fun _ _ _ h => h) (Or.inl ⟨by rfl, ?_⟩) (by assumption) ?_
              rotate_left
              · (intro wz hSw; (try dsimp only at hSw); obtain ⟨hS0, hS1, hS2, hS3, hS4, hS5, hS6, hS7⟩ := hSw; go_simp; try with_reducible rfl)
              try simp only [Act.put, List.setIfInBounds_toArray, List.set_cons_zero, List.set_cons_succ]
              refine wpAnyH_take (i := 2) (oi := ⟨some 156, _, _, _, _, _⟩) (v := ?_) rfl (by kernel_rfl) (by kernel_rfl) (by kernel_rfl) (fun _ _ _ h => h) (Or.inl ⟨by rfl, ?_⟩) (by assumption) ?_
              rotate_left
              · (intro wz hSw; (try dsimp only at hSw); obtain ⟨hS0, hS1, hS2, hS3, hS4, hS5, hS6, hS7⟩ := hSw; go_simp; try with_reducible rfl)
              try simp only [Act.put, List.setIfInBounds_toArray, List.set_cons_zero, List.set_cons_succ]
              refine wpAnyH_take (i := 3) (oi := ⟨some 157, _, _, _, _, _⟩) (v := ?_) rfl (by kernel_rfl) (by kernel_rfl) (by kernel_rfl) (fun _ _ _ h => h) (Or.inl ⟨by rfl, ?_⟩) (by assumption) ?_
              rotate_left
              · (intro wz hSw; (try dsimp only at hSw); obtain ⟨hS0, hS1, hS2, hS3, hS4, hS5, hS6, hS7⟩ := hSw; go_simp; try with_reducible rfl)
              try simp only [Act.put, List.setIfInBounds_toArray, List.set_cons_zero, List.set_cons_succ]
              refine wpAnyH_take (i := 4) (oi := ⟨some 158, _, _, _, _, _⟩) (v := ?_) rfl (by kernel_rfl) (by kernel_rfl) (by kernel_rfl) (fun _ _ _ h => h) (Or.inl ⟨by rfl, ?_⟩) (by assumption) ?_
              rotate_left
              · (intro wz hSw; (try dsimp only at hSw); obtain ⟨hS0, hS1, hS2, hS3, hS4, hS5, hS6, hS7⟩ := hSw; go_simp; try with_reducible rfl)
              try simp only [Act.put, List.setIfInBounds_toArray, List.set_cons_zero, List.set_cons_succ]
              refine wpAnyH_take (i := 5) (oi := ⟨some 159, _, _, _, _, _⟩) (v := ?_) rfl (by kernel_rfl) (by kernel_rfl) (by kernel_rfl) (fun _ _ _ h => h) (Or.inl ⟨by rfl, ?_⟩) (by assumption) ?_
              rotate_left
              · (intro wz hSw; (try dsimp only at hSw); obtain ⟨hS0, hS1, hS2, hS3, hS4, hS5, hS6, hS7⟩ := hSw; go_simp; try with_reducible rfl)
              try simp only [Act.put, List.setIfInBounds_toArray, List.set_cons_zero, List.set_cons_succ]
              refine wpAnyH_take (i := 6) (oi := ⟨some 160, _, _, _, _, _⟩) (v := ?_) rfl (by kernel_rfl) (by kernel_rfl) (by kernel_rfl) (fun _ _ _ h => h) (Or.inl ⟨by rfl, ?_⟩) (by assumption) ?_
              rotate_left
              · (intro wz hSw; (try dsimp only at hSw); obtain ⟨hS0, hS1, hS2, hS3, hS4, hS5, hS6, hS7⟩ := hSw; go_simp; try with_reducible rfl)
              try simp only [Act.put, List.setIfInBounds_toArray, List.set_cons_zero, List.set_cons_succ]
              refine wpAnyH_take (i := 7) (oi := ⟨some 161, _, _, _, _, _⟩) (v := ?_) rfl (by kernel_rfl) (by kernel_rfl) (by kernel_rfl) (fun _ _ _ h => h) (Or.inl ⟨by rfl, ?_⟩) (by assumption) ?_
              rotate_left
              · (intro wz hSw; (try dsimp only at hSw); obtain ⟨hS0, hS1, hS2, hS3, hS4, hS5, hS6, hS7⟩ := hSw; go_simp; try with_reducible rfl)
              try simp only [Act.put, List.setIfInBounds_toArray, List.set_cons_zero, List.set_cons_succ]
              refine wpAnyH_ready (rs := [8, 10]) (by kernel_rfl) (by simp) (AllReadyH.cons (o := ⟨some 162, _, _, _, _, _⟩) rfl (fun K hK => ?_) (AllReadyH.cons (o := ⟨some 17, _, _, _, _, _⟩) rfl (fun K hK => ?_) AllReadyH.nil))
              · refine wp_make 25 _ _ rfl (hmk _) ?_
                refine hK.out _ _ ?_ (fun hHeld => ?_)
                · exact ⟨(Only.new wr (.cells (madeCells #[.int .i64 0] 64) 3)).cell s0 (by simp), (Only.new wr (.cells (madeCells #[.int .i64 0] 64) 3)).cell s1 (by simp), (Only.new wr (.cells (madeCells #[.int .i64 0] 64) 3)).cell s2 (by simp), (Only.new wr (.cells (madeCells #[.int .i64 0] 64) 3)).cell s3 (by simp), (Only.new wr (.cells (madeCells #[.int .i64 0] 64) 3)).cell s4 (by simp), (Only.new wr (.cells (madeCells #[.int .i64 0] 64) 3)).cell s5 (by simp), (Only.new wr (.cells (madeCells #[.int .i64 0] 64) 3)).cell s6 (by simp), (Only.new wr (.cells (madeCells #[.int .i64 0] 64) 3)).cell s7 (by simp)⟩
                clear hK K
                try simp only [Act.put, List.setIfInBounds_toArray, List.set_cons_zero, List.set_cons_succ]
                refine wpAnyH_take (i := 9) (oi := ⟨some 163, _, _, _, _, _⟩) (v := ?_) rfl (by kernel_rfl) (by kernel_rfl) (by kernel_rfl) (fun _ _ _ h => h) (Or.inl ⟨by rfl, ?_⟩) (by assumption) ?_
                rotate_left
                · (intro wz hSw; (try dsimp only at hSw); obtain ⟨hS0, hS1, hS2, hS3, hS4, hS5, hS6, hS7⟩ := hSw; go_simp; try with_reducible rfl)
                try simp only [Act.put, List.setIfInBounds_toArray, List.set_cons_zero, List.set_cons_succ]
                refine wpAnyH_ready (rs := [10]) (by kernel_rfl) (by simp) (AllReadyH.cons (o := ⟨some 17, _, _, _, _, _⟩) rfl (fun K hK => ?_) AllReadyH.nil)
                go_simp
                refine hK.out _ _ ?_ (fun hHeld => ?_)
                · exact ⟨(hoA).cell s0 (by simp), (hoA).cell s1 (by simp), (hoA).cell s2 (by simp), (hoA).cell s3 (by simp), (hoA).cell s4 (by simp), (hoA).cell s5 (by simp), (hoA).cell s6 (by simp), (hoA).cell s7 (by simp)⟩
                clear hK K
                try simp only [Act.put, List.setIfInBounds_toArray, List.set_cons_zero, List.set_cons_succ]
                refine wpAnyH_ready (rs := [11]) (by kernel_rfl) (by simp) (AllReadyH.cons (o := ⟨none, _, _, _, _, _⟩) rfl (fun K hK => ?_) AllReadyH.nil)
                refine wp_store_row (.tmp 17) (.tmp 163) 64 rfl (g := wr.heap.size + 1) (c' := (sqL k mo [m0, m1, m2, m3] vx vy (.slice (some ⟨wr.heap.size, 0, none⟩) 64 64) [nilS, nilS, nilS, nilS]).toArray) rfl rfl hzA (sqL_info rfl rfl) rfl (sqL_one rfl nils_one) ?_
                refine hK.out _ _ ?_ (fun hHeld => ?_)
                · exact ⟨(hqA).cell s0 (by simp), (hqA).cell s1 (by simp), (hqA).cell s2 (by simp), (hqA).cell s3 (by simp), (hqA).cell s4 (by simp), (hqA).cell s5 (by simp), (hqA).cell s6 (by simp), (hqA).cell s7 (by simp)⟩
                clear hK K
                try simp only [Act.put, List.setIfInBounds_toArray, List.set_cons_zero, List.set_cons_succ]
                refine wpAnyH_done (by kernel_rfl) ?_ _
                go_wp2_with fail
                go_meet
                exact ⟨wr.heap.size + 1, wr.heap.size, rfl, Lib.hid hqA, Lib.hid hrA, Lib.hid hIA, Lib.hid (by omega)⟩
              · go_simp
                refine hK.out _ _ ?_ (fun hHeld => ?_)
                · exact ⟨(Only.new wr (.cells #[.int .i64 0, .int .i64 0, .int .i64 0, .int .i64 0, .int .i64 0, .int .i64 0, .int .i64 0, .int .i64 0, .slice none 0 0, .slice none 0 0, .slice none 0 0, .slice none 0 0, .slice none 0 0] 64)).cell s0 (by simp), (Only.new wr (.cells #[.int .i64 0, .int .i64 0, .int .i64 0, .int .i64 0, .int .i64 0, .int .i64 0, .int .i64 0, .int .i64 0, .slice none 0 0, .slice none 0 0, .slice none 0 0, .slice none 0 0, .slice none 0 0] 64)).cell s1 (by simp), (Only.new wr (.cells #[.int .i64 0, .int .i64 0, .int .i64 0, .int .i64 0, .int .i64 0, .int .i64 0, .int .i64 0, .int .i64 0, .slice none 0 0, .slice none 0 0, .slice none 0 0, .slice none 0 0, .slice none 0 0] 64)).cell s2 (by simp), (Only.new wr (.cells #[.int .i64 0, .int .i64 0, .int .i64 0, .int .i64 0, .int .i64 0, .int .i64 0, .int .i64 0, .int .i64 0, .slice none 0 0, .slice none 0 0, .slice none 0 0, .slice none 0 0, .slice none 0 0] 64)).cell s3 (by simp), (Only.new wr (.cells #[.int .i64 0, .int .i64 0, .int .i64 0, .int .i64 0, .int .i64 0, .int .i64 0, .int .i64 0, .int .i64 0, .slice none 0 0, .slice none 0 0, .slice none 0 0, .slice none 0 0, .slice none 0 0] 64)).cell s4 (by simp), (Only.new wr (.cells #[.int .i64 0, .int .i64 0, .int .i64 0, .int .i64 0, .int .i64 0, .int .i64 0, .int .i64 0, .int .i64 0, .slice none 0 0, .slice none 0 0, .slice none 0 0, .slice none 0 0, .slice none 0 0] 64)).cell s5 (by simp), (Only.new wr (.cells #[.int .i64 0, .int .i64 0, .int .i64 0, .int .i64 0, .int .i64 0, .int .i64 0, .int .i64 0, .int .i64 0, .slice none 0 0, .slice none 0 0, .slice none 0 0, .slice none 0 0, .slice none 0 0] 64)).cell s6 (by simp), (Only.new wr (.cells #[.int .i64 0, .int .i64 0, .int .i64 0, .int .i64 0, .int .i64 0, .int .i64 0, .int .i64 0, .int .i64 0, .slice none 0 0, .slice none 0 0, .slice none 0 0, .slice none 0 0, .slice none 0 0] 64)).cell s7 (by simp)⟩
                clear hK K
                try simp only [Act.put, List.setIfInBounds_toArray, List.set_cons_zero, List.set_cons_succ]
                refine wpAnyH_ready (rs := [8]) (by kernel_rfl) (by simp) (AllReadyH.cons (o := ⟨some 162, _, _, _, _, _⟩) rfl (fun K hK => ?_) AllReadyH.nil)
                refine wp_make 25 _ _ rfl (hmk _) ?_
                refine hK.out _ _ ?_ (fun hHeld => ?_)
                · exact ⟨(hoB).cell s0 (by simp), (hoB).cell s1 (by simp), (hoB).cell s2 (by simp), (hoB).cell s3 (by simp), (hoB).cell s4 (by simp), (hoB).cell s5 (by simp), (hoB).cell s6 (by simp), (hoB).cell s7 (by simp)⟩
                clear hK K
                try simp only [Act.put, List.setIfInBounds_toArray, List.set_cons_zero, List.set_cons_succ]
                refine wpAnyH_take (i := 9) (oi := ⟨some 163, _, _, _, _, _⟩) (v := ?_) rfl (by kernel_rfl) (by kernel_rfl) (by kernel_rfl) (fun _ _ _ h => h) (Or.inl ⟨by rfl, ?_⟩) (by assumption) ?_
                rotate_left
                · (intro wz hSw; (try dsimp only at hSw); obtain ⟨hS0, hS1, hS2, hS3, hS4, hS5, hS6, hS7⟩ := hSw; go_simp; try with_reducible rfl)
                try simp only [Act.put, List.setIfInBounds_toArray, List.set_cons_zero, List.set_cons_succ]
                refine wpAnyH_ready (rs := [11]) (by kernel_rfl) (by simp) (AllReadyH.cons (o := ⟨none, _, _, _, _, _⟩) rfl (fun K hK => ?_) AllReadyH.nil)
                refine wp_store_row (.tmp 17) (.tmp 163) 64 rfl (g := wr.heap.size) (c' := (sqL k mo [m0, m1, m2, m3] vx vy (.slice (some ⟨wr.heap.size + 1, 0, none⟩) 64 64) [nilS, nilS, nilS, nilS]).toArray) rfl rfl hzB (sqL_info rfl rfl) rfl (sqL_one rfl nils_one) ?_
                refine hK.out _ _ ?_ (fun hHeld => ?_)
                · exact ⟨(hqB).cell s0 (by simp), (hqB).cell s1 (by simp), (hqB).cell s2 (by simp), (hqB).cell s3 (by simp), (hqB).cell s4 (by simp), (hqB).cell s5 (by simp), (hqB).cell s6 (by simp), (hqB).cell s7 (by simp)⟩
                clear hK K
                try simp only [Act.put, List.setIfInBounds_toArray, List.set_cons_zero, List.set_cons_succ]
                refine wpAnyH_done (by kernel_rfl) ?_ _
                go_wp2_with fail
                go_meet
                exact ⟨wr.heap.size, wr.heap.size + 1, rfl, Lib.hid hqB, Lib.hid hrB, Lib.hid hIB, Lib.hid (by omega)⟩
            case rest =>
              obtain ⟨B, LB, rfl, HQc, HRc, HIc, HZc⟩ := hcut
              have HB0c := Lib.hid (HQc.out.row HB0r.out)
              have HB1c := Lib.hid (HQc.out.row HB1r.out)
              have HQ10 := Lib.hid (HQ9.out.q HQc.out)
              have HWB : Hid (w.heap.size + 1 < B ∧ B < wc.heap.size) := Lib.hid ⟨by have := block_lt_of_cell (frame_cells HB1r.out).1; have := HZc.out.1; simp only at *; omega, (Array.getElem?_eq_some_iff.1 HRc.out).1⟩
              clear HB0r HB1r HB2r
              go_wp2_with fail
              go_loopw [18] (fun i wz => ∃ (n : Nat) (vz : List Value), n ≤ 4 ∧ i = .int .i64 n ∧ Hid (SqRow B wz k mo ms vx vy (.slice (some ⟨LB, 0, none⟩) 64 64) vz) ∧ Hid (vz.length = 4) ∧ Hid (∀ q, q < n → Ints .i64 wc.heap.size wz.heap.size wz (vz.getD q nilS) (List.replicate 16 0)) ∧ Hid (Ints .i64 LB (LB + 1) wz (.slice (some ⟨LB, 0, none⟩) 64 64) zL) ∧ Hid (Only [B] wc wz)) (fun i _ => 4 - (intOf i).toNat)
              case atStart => exact ⟨0, _, by omega, rfl, HRc, Lib.hid rfl, Lib.hid (fun q hq => absurd hq (by omega)), HIc, Lib.hid (Only.refl _ _)⟩
              case round =>
                obtain ⟨n, vz, hn, rfl, HRn, Hvl, Hins, HIn, HQn⟩ := hrel
                by_cases hlt : n < 4
                · have hki : (n : Int) < 4 := by omega
                  have hk0 : (0 : Int) ≤ (n : Int) := by omega
                  have hmk : (Instr.makeSlice 25 (.int .i64 16) (.int .i64 16)).run Tryz.prog wr = .ok (.slice (some ⟨wr.heap.size, 0, none⟩) 16 16) (wr.alloc (.cells (madeCells #[.int .i64 0] 16) 3)) := run_make_row' (P := Tryz.prog) 25 3 (.int .i64 0) 8 EI.ut (by kernel_rfl) rfl .i64 .i64 16 (by omega) (by omega) wr
                  have hqn := Only.new wr (.cells (madeCells #[.int .i64 0] 16) 3)
                  have h5n : SqRow B (wr.alloc (.cells (madeCells #[.int .i64 0] 16) 3)) k mo ms vx vy (.slice (some ⟨LB, 0, none⟩) 64 64) vz := hqn.rowAt HRn.out (by simp)
                  have cx := h5n.cell (i := 9 + n) (sqL_small Hm.out Hvl.out hlt)
                  have fx := frozen_of_row _ _ (9 + n) _ _ h5n
                  obtain ⟨hs, hso⟩ := h5n.set (sqL_setSmall Hm.out Hvl.out hlt (.slice (some ⟨wr.heap.size, 0, none⟩) 16 16))
                  have hown := own_made .i64 3 wr 16 (by simp [maxLen])
                  have hzr := HQn.out.size
                  have hwb := HWB.out.2
                  have HS := Lib.hid hs
                  have HOwn := Lib.hid (hown.ints.only hso (by simp only [List.mem_singleton]; rintro g rfl; omega))
                  have HInn := Lib.hid ((HIn.out.quiet hqn).only hso (by simp only [List.mem_singleton]; rintro g rfl; have := HZc.out.2; omega))
                  have HQnn := Lib.hid (((HQn.out.mono (U := [B]) (fun g h _ => h)).trans hqn (U := [B]) (fun g h _ => h) (by simp)).trans hso (U := [B]) (fun g h _ => h) (fun g h _ => h))
                  have HQw := Lib.hid ((hqn.mono (U := [B]) (by simp)).trans hso (U := [B]) (fun g h _ => h) (fun g h _ => h))
                  have Hlt := Lib.hid (And.intro hlt (And.intro hzr hwb))
                  clear hqn h5n hs hso hown hzr hwb hlt
                  go_wp2_with fail
                  exact ⟨⟨n + 1, vz.set n _, by omega, by go_num, HS, Lib.hid (by rw [List.length_set]; exact Hvl.out), Lib.hid (fun q hq => by
                    have hlt := Hlt.out.1
                    have hz1 := Hlt.out.2.1
                    have hz2 := Hlt.out.2.2
                    by_cases hqn : q = n
                    · subst hqn
                      rw [List.getD_eq_getElem?_getD, List.getElem?_set_self (by rw [Hvl.out]; exact hlt)]
                      exact HOwn.out.mono (by omega) (Nat.le_of_eq (by simp))
                    · rw [List.getD_eq_getElem?_getD, List.getElem?_set_ne (Ne.symm hqn), ← List.getD_eq_getElem?_getD]
                      exact ((Hins.out q (by omega)).only HQw.out (fun g hg => .inl (by rw [List.mem_singleton] at hg; omega))).mono (Nat.le_refl _) (by have := HQw.out.size; omega)), HInn, HQnn⟩, by simp [intOf]; have := Hlt.out.1; omega⟩
                · obtain rfl : n = 4 := by omega
                  have hki : ¬ ((4 : Nat) : Int) < 4 := by omega
                  obtain ⟨qn, rfl⟩ := Int.eq_ofNat_of_zero_le Hbs.out.q0
                  have hq15 := Hbs.out.q1
                  have hzz := HQn.out.size
                  have hwb := HWB.out
                  have HQ11 := Lib.hid (HQ10.out.trans HQn.out (U := []) (by simp) (fun g hg hlt => by rw [List.mem_singleton] at hg; omega))
                  have HB0d := Lib.hid (HQn.out.rowAt HB0c.out (by simp; omega))
                  have HB1d := Lib.hid (HQn.out.rowAt HB1c.out (by simp; omega))
                  have hilb : LB < wr.heap.size := by
                    obtain ⟨b, off, cap, e, -, -, hc⟩ := HIn.out.at (i := 0) (by simp)
                    injection e with e1 e2 e3
                    injection e1 with e1
                    injection e1 with e1 e2
                    subst e1
                    exact block_lt_of_cell hc
                  have hsi : SqIn 0 wr.heap.size wr (.slice (some ⟨LB, 0, none⟩) 64 64) vz zL zS := ⟨HIn.out.mono (Nat.zero_le _) (by omega), Hvl.out, fun i hi => by rw [zS_at i hi]; exact (Hins.out i hi).mono (Nat.zero_le _) (Nat.le_refl _)⟩
                  obtain ⟨za, hz1, hz2⟩ := buildD_zeros Hbd.out
                  have HZ1 := Lib.hid (fun (wx : World) (o : Only [] wr wx) => build_zero (x := (xn : Int)) (y := (yn : Int)) (HF.out.quiet (HQ11.out.q o)) (HP.out.quiet (HQ11.out.q o)) (hsi.only o (by simp)) Hm.out o.size Hmk.out hz1)
                  have HZ2 := Lib.hid (fun (wx : World) (o : Only [] wr wx) => build_zero (x := (xn : Int)) (y := (yn : Int)) (HF.out.quiet (HQ11.out.q o)) (HP.out.quiet (HQ11.out.q o)) (hsi.only o (by simp)) Hm.out o.size Hmk.out hz2)
                  have hinz : (Tryz.prog.info? 64).map (·.size) = some (sqL k mo ms vx vy (.slice (some ⟨LB, 0, none⟩) 64 64) vz).toArray.size := sqL_info Hm.out Hvl.out
                  generalize hsz : (sqL k mo ms vx vy (.slice (some ⟨LB, 0, none⟩) 64 64) vz).toArray = sz at *
                  have Hinz := Lib.hid hinz
                  have hst := stepD_in (n := qn) (by omega)
                  have HSt := Lib.hid (step_any qn (by omega))
                  have HRz : Hid (wr.heap[B]? = some (.cells sz 64 (0, 0))) := Lib.hid (by rw [← hsz]; exact HRn.out)
                  obtain ⟨f0, f1, f2⟩ := frame_cells HB0d.out
                  obtain ⟨p0, p1, p2⟩ := frame_cells HB1d.out
                  clear hzz hwb hsi hz1 hz2 hinz hsz hilb hq15 HRn Hins HIn HQn HB0c HB1c hn hlt
                  go_wp2_with (first | (refine wpList_load_row rfl (.tmp 17) 64 rfl rfl HRz.out Tryz.underlying64 rfl Hinz.out ?_) | fail)
                  clear f0 f1 f2 p0 p1 p2 hki
                  go_at_call 27
                  refine (HZ1.out wr (Only.refl _ _)).mono ?_
                  rintro e W12 ⟨hq12, ga, gacap, rfl, hown⟩
                  have hn13 := Only.new W12 (.cells #[.int .i64 za.W, .int .i64 za.H, .slice (some ⟨ga, 0, none⟩) za.pix.length gacap] 27)
                  have hq13 := hq12.q hn13
                  have HA13 : Hid ((W12.alloc (.cells #[.int .i64 za.W, .int .i64 za.H, .slice (some ⟨ga, 0, none⟩) za.pix.length gacap] 27)).heap[W12.heap.size]? = some (.cells #[.int .i64 za.W, .int .i64 za.H, .slice (some ⟨ga, 0, none⟩) za.pix.length gacap] 27 (0, 0))) := Lib.hid (heap_alloc_new W12 _)
                  have HIa := Lib.hid (hown.ints.quiet hn13)
                  have HQ13 := Lib.hid hq13
                  obtain ⟨f0, f1, f2⟩ := frame_cells (hq13.row HB0d.out)
                  obtain ⟨p0, p1, p2⟩ := frame_cells (hq13.row HB1d.out)
                  have HRz13 := Lib.hid (hq13.row HRz.out)
                  clear hn13 hq13 hq12 hown
                  go_wp2_with (first | (refine wpList_load_row rfl (.tmp 17) 64 rfl rfl HRz13.out Tryz.underlying64 rfl Hinz.out ?_) | fail)
                  generalize hW13 : World.alloc W12 _ = W13 at *
                  clear hW13 f0 f1 f2 p0 p1 p2
                  go_at_call 27
                  refine (HZ2.out W13 HQ13.out).mono ?_
                  rintro e W14 ⟨hq14, gd, gdcap, rfl, hown⟩
                  have hn15 := Only.new W14 (.cells #[.int .i64 za.W, .int .i64 za.H, .slice (some ⟨gd, 0, none⟩) za.pix.length gdcap] 27)
                  have hq15 := hq14.q hn15
                  have HD15 : Hid ((W14.alloc (.cells #[.int .i64 za.W, .int .i64 za.H, .slice (some ⟨gd, 0, none⟩) za.pix.length gdcap] 27)).heap[W14.heap.size]? = some (.cells #[.int .i64 za.W, .int .i64 za.H, .slice (some ⟨gd, 0, none⟩) za.pix.length gdcap] 27 (0, 0))) := Lib.hid (heap_alloc_new W14 _)
                  have HId := Lib.hid (hown.ints.quiet hn15)
                  have HA15 := Lib.hid (hq15.row HA13.out)
                  have HIa15 := Lib.hid (HIa.out.quiet hq15)
                  have HQ15 := Lib.hid ((HQ11.out.q HQ13.out).q hq15)
                  clear hn15 hq14 hq15 hown HZ1 HZ2 HQ13 HA13 HIa HRz13
                  go_wp2_with fail
                  generalize hW15 : World.alloc W14 _ = W15 at *
                  clear hW15
                  go_at_call 31
                  refine (HSt.out W15).mono ?_
                  rintro e W16 ⟨rfl, hq16⟩
                  have HQ16 := Lib.hid (HQ15.out.q hq16)
                  have HD16 := Lib.hid (hq16.row HD15.out)
                  have HA16 := Lib.hid (hq16.row HA15.out)
                  have HId16 := Lib.hid (HId.out.quiet hq16)
                  have HIa16 := Lib.hid (HIa15.out.quiet hq16)
                  clear hq16
                  go_wp2_with fail
                  go_at_call 9
                  refine (dfirst_any _ (HE.out.quiet HQ16.out)).mono ?_
                  rintro e W17 ⟨rfl, hq17⟩
                  have HQ17 := Lib.hid (HQ16.out.q hq17)
                  obtain ⟨d0, d1, d2⟩ := frame_cells (hq17.row HD16.out)
                  obtain ⟨a0, a1, a2⟩ := frame_cells (hq17.row HA16.out)
                  have hkf := kframe_any (A := za) (B := za) (HIa16.out.quiet hq17) (HId16.out.quiet hq17)
                  rw [show frEq za za = true by simp [frEq, eqB]] at hkf
                  have HKf := Lib.hid hkf
                  clear hkf hq17
                  have hs0 := stepD_pos (n := qn) (by have := Hbs.out.q1; omega)
                  generalize stepD qn = st at *
                  clear hst
                  go_wp2_with fail
                  go_at_call 21
                  refine HKf.out.mono ?_
                  rintro e W18 ⟨rfl, hq18⟩
                  have HQ18 := Lib.hid (HQ17.out.q hq18)
                  clear hq18
                  go_wp2_with fail
                  exact HPost.out _ _ ⟨rfl, HQ18.out⟩
theorem dsquares_card {fv pv lv : Value} {vs : List Value} {w : World} {f prev : FrameD} {k mo vx vy : Int} {ms L : List Int} {S : List (List Int)} (hf : Ints .i64 0 w.heap.size w fv f.pix) (_ : InK .i64 f.W ∧ InK .i64 f.H) (hp : Ints .i64 0 w.heap.size w pv prev.pix) (_ : InK .i64 prev.W ∧ InK .i64 prev.H) (x y qp : Int) (h : SqIn 0 w.heap.size w lv vs L S) (hm : ms.length = 4) (hmk : ∀ x ∈ ms, InK .i64 x) (hls : S.length = 4) (_ : w.heap.size ≤ w.heap.size) (hE : ErrT w) :
    Calls Tryz.prog 8 #[.agg #[.int .i64 f.W, .int .i64 f.H, fv], .agg #[.int .i64 prev.W, .int .i64 prev.H, pv], .int .i64 x, .int .i64 y, .int .i64 qp, .agg (sqL k mo ms vx vy lv vs).toArray] w fun e w' => (e = .returned (.bool true) ∧ Only [] w w') := dsquares_any x y qp hf hp h hm hmk hls hE
#print axioms dsquares_any
end Go.Proofs.YthgpgbdkcdmbpaaGreatDoor
