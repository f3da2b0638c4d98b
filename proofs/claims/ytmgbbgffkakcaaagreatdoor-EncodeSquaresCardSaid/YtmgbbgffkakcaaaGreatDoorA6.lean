/- Joined texts: DSqJ, DRkSe. Conditions: each part names its own. -/
import Derived.Test.YtmgbbgffkakcaaaGreatDoorT1
import Derived.Test.YtmgbbgffkakcaaaGreatDoorS1
import Derived.Test.YtmgbbgffkakcaaaGreatDoorA5
import Derived.Test.YtmgbbgffkakcaaaGreatDoorW6
import Derived.Test.YtmgbbgffkakcaaaGreatDoorA1
import Derived.Test.YtmgbbgffkakcaaaGreatDoorA3
import Derived.WalkMore
import Derived.Deep.CutBlock
namespace Go.Proofs.YtmgbbgffkakcaaaGreatDoor
open Go.RowKit
set_option linter.unusedVariables false
set_option linter.unusedSimpArgs false
set_option maxRecDepth 100000
set_option maxHeartbeats 16000000
/-- the load of a whole row, where its guard is met -/
theorem wpList_load_row_on {P:Program} {w:World} {ops:Array Oper} {rest:List Oper} {o:Oper} {a:Act} {Q:Exit→Act→World→Prop} (hgd:Region.wanted o (yielded ops a.tmps)=true) (x:Operand) (t:TypeId) (ho:o.op=.load t x)
  {g:Nat} {c:Array Value} {ty:TypeId} {fr:Nat×Nat} {d:TypeDesc} (hx:a.eval x=.pointer (some ⟨g,0,none⟩)) (hr:w.heap[g]?=some (.cells c ty fr)) (hu:P.underlying t=some d) (hd:(match d with | .struct _ | .array _ _=>true | _=>false)=true)
  (hi:(P.info? t).map (·.size)=some c.size) (h:wpList P ops Q rest (a.put o.dst (.agg c)) w):wpList P ops Q (o :: rest) a w :=
 wpList_step fun _ hK=>by
  rw [if_pos hgd]
  unfold Oper.wp execOp
  simp only [ho,hx,Instr.loadAt,Instr.sureAddr,Sem.run_bind,Sem.run_pure,Result.andThen_ok,run_loadVar_row w g ty t c fr d hr hu hd hi]
  exact hK _ _ h
theorem wp_store_row {P:Program} {w:World} {o:Oper} {a:Act} {K:Act→World→Prop} {Q:Exit→Act→World→Prop} (x y:Operand) (t:TypeId) (ho:o.op=.store t x y)
  {g:Nat} {c c':Array Value} {ty:TypeId} (hx:a.eval x=.pointer (some ⟨g,0,none⟩)) (hy:a.eval y=.agg c') (hr:w.heap[g]?=some (.cells c ty (0,0))) (hi:(P.info? t).map (·.size)=some c'.size) (hs:c.size=c'.size) (h1:c'.all (·.oneCell')=true)
  (h:K (a.put o.dst undef) (w.setRow g c')):o.wp P a w K Q:=by
 unfold Oper.wp execOp
 simp only [ho,hx,hy,Instr.storeAt,Instr.sureAddr,Sem.run_bind,Sem.run_pure,Result.andThen_ok,run_storeVar_row w g ty t c c' hr hi hs h1]
 exact h
theorem qDRkSet0 {p:Prop} (h:p:=by intro wz hSw;obtain ⟨hS0,hS1⟩:=hSw;obtain ⟨a0,a1,a2⟩:=frame_cells hS0;obtain ⟨c0,c1,-⟩:=row2 hS1;go_simp;try with_reducible rfl):p:=h
def Triv (_ _:Nat) (_:World):Prop:=True
theorem Triv.only {l h:Nat} {w w':World} {S:List Nat} (_:Triv l h w) (_:Only S w w') (_:∀ g∈S,g<l∨h≤g):Triv l h w':=trivial
theorem err_size (a b:Value):(Tryz.prog.info? 39).map (·.size)=some (#[a,b]:Array Value).size:=err_info _ rfl
section
variable {P:Program}
/-- the store of a whole row, the world behind it left open -/
theorem wp_store_rowK {w:World} {o:Oper} {a:Act} {K:Act→World→Prop} {Q:Exit→Act→World→Prop} (x y:Operand) (t:TypeId) (ho:o.op=.store t x y)
  {g:Nat} {c c':Array Value} {ty:TypeId} (hx:a.eval x=.pointer (some ⟨g,0,none⟩)) (hy:a.eval y=.agg c') (hr:w.heap[g]?=some (.cells c ty (0,0))) (hi:(P.info? t).map (·.size)=some c'.size) (hs:c.size=c'.size) (h1:c'.all (·.oneCell')=true)
  (h:∀ w',Only [g] w w'→w'.heap[g]?=some (.cells c' ty (0,0))→K (a.put o.dst undef) w'):o.wp P a w K Q :=
 wp_store_row x y t ho hx hy hr hi hs h1 (h _ (Only.setRow (Only.refl _ _) (fun _=>by simp) _) (setRow_heap _ _ _ _ _ _ hr))
end
section
theorem qDRkSe8 {p:Prop} (h:p:=by
 go_enter Tryz.func153,Tryz.ntmps153
 go_wp2_with fail
 go_ret
 exact ⟨ret_bool (by rw [HM.out];simp [h1,h2,h3] <;> (intros;omega)),HQ.out⟩):p:=h
theorem kvm_any (vx vy:Int) (w:World):Calls Tryz.prog 153 #[.agg #[.int .i64 vx,.int .i64 vy]] w fun e w'=>e=.returned (.bool (mayV (vx,vy)))∧Only [] w w':=by
 have HQ:=lh (Only.new w (.cells #[.int .i64 vx,.int .i64 vy] 62))
 have HM:Hid (mayV (vx,vy)=(decide (-15≤vx) && decide (vx≤15) && decide (-15≤vy) && decide (vy≤15))):=lh rfl
 by_cases h1:-15≤vx
 ·by_cases h2:vx≤15
  ·by_cases h3:-15≤vy
   ·exact qDRkSe8
   ·exact qDRkSe8
  ·go_enter Tryz.func153,Tryz.ntmps153
   go_wp2_with fail
   go_ret
   exact ⟨ret_bool (by rw [HM.out];simp [h1,h2] <;> (intros;omega)),HQ.out⟩
 ·go_enter Tryz.func153,Tryz.ntmps153
  go_wp2_with fail
  go_ret
  exact ⟨ret_bool (by rw [HM.out];simp [h1] <;> (intros;omega)),HQ.out⟩
theorem qDRkSe9 {p:Prop} (h:p:=by
 clear hK K
 refine wpAnyH_done (by kernel_rfl) ?_ _
 go_wp2_with fail
 go_meet
 exact ⟨bE,l1,rfl,rfl,o,HE,HKb,HK,HkE⟩):p:=h
theorem qDRkSe10 {p:Prop} (h:p:=by
 exact HS2.out _ (by first | exact o.out | exact o.out.drew)):p:=h
theorem qDRkSe0 {p:Prop} (h:p:=by
 obtain ⟨v,rfl⟩:∃ z,z=v':=⟨_,rfl⟩
 refine hK.out _ _ ?_ (fun hHeld=>?_)
 ·exact qDRkSe10
 clear hK K
 refine rdy (rdc 7 136 (fun K hK=>?_) .nil)
 go_simp
 go_at_call 105
 refine (HCo2.out _ (by first | exact o.out | exact o.out.drew) _ (by first | exact HPp2.out | exact HPp2.out.quiet (Only.refl _ _).drew)).mono ?_
 rintro e v' ⟨rfl,hq⟩
 obtain ⟨l1,hl1⟩:∃ z,z=v.heap.size:=⟨_,rfl⟩
 have hKf:Triv l1 l1 v':=trivial
 have hKl:v.heap.size≤l1:=by omega
 have hKh:l1≤v'.heap.size:=by rw [hl1];first | exact hq.size | exact ((Only.refl _ _).drew.q hq).size
 clear hl1
 have q:Only [] v v':=by first | exact hq | exact ((Only.refl _ _).drew).q hq
 have hVl:Wm.heap.size≤v.heap.size:=o.out.size
 have HkE:Hid (Wm.heap.size≤bE∧(bE<l1∨l1≤bE)):=lh (by have:=(Array.getElem?_eq_some_iff.1 HE.out).1;have:=HzE.out;exact ⟨by omega,.inl (by omega)⟩)
 replace HE:=lh (q.row HE.out)
 replace HPp2:Hid (Ints .i64 0 v'.heap.size v' (.slice (some ⟨g2,0,none⟩) (blockD f x y 8 X Y).length c2) (blockD f x y 8 X Y)):=lh ((HPp2.out.quiet q).mono (Nat.le_refl _) q.size)
 have HK:=lh hKf
 have HKb:Hid (Wm.heap.size≤l1∧l1≤v'.heap.size):=lh ⟨by omega,hKh⟩
 replace o:=lh (o.out.q q)
 clear hq q hKf hKl hKh hVl
 obtain ⟨v,rfl⟩:∃ z,z=v':=⟨_,rfl⟩
 refine hK.out _ _ ?_ (fun hHeld=>?_)
 ·exact qDRkSe10
 clear hK K
 refine tkw 8 128 ⟨rfl,qDRkSet0⟩ ?_
 refine tkw 9 137 ⟨rfl,qDRkSet0⟩ ?_
 refine tkw 10 138 ⟨rfl,qDRkSet0⟩ ?_
 refine tkw 12 24 ⟨rfl,qDRkSet0⟩ ?_
 refine rdy (rdn 13 (fun K hK=>?_) .nil)
 refine wp_store_rowK (.tmp 25) (.tmp 138) 39 rfl (g:=bE) (c':=#[.int .i64 0,.slice none 0 0]) rfl rfl HE.out (err_size _ _) rfl (by first | kernel_rfl | simp [Value.oneCell']) (fun v' hq hr=>?_)
 have q:Only [bE] v v':=by first | exact hq | exact ((Only.refl _ _).drew.mono (U:=[bE]) (by simp)).trans hq (fun g h _=>h) (fun g h _=>h)
 replace HE:=lh hr
 replace HK:Hid (Triv l1 l1 v'):=lh (HK.out.only q (fun g hg=>by rw [mSg] at hg;subst hg;exact HkE.out.2))
 replace HKb:Hid (Wm.heap.size≤l1∧l1≤v'.heap.size):=lh ⟨HKb.out.1,Nat.le_trans HKb.out.2 q.size⟩
 replace o:Hid (Only [] Wm v'):=lh (o.out.trans q (by simp) (fun g hg hlt=>by rw [mSg] at hg;have:=HkE.out.1;omega))
 clear hq hr q
 obtain ⟨v,rfl⟩:∃ z,z=v':=⟨_,rfl⟩
 refine hK.out _ _ ?_ (fun hHeld=>?_)
 ·exact qDRkSe10
 exact qDRkSe9):p:=h
theorem qDRkSe11 {p:Prop} (h:p:=by
 exact HS1.out _ (by first | exact o.out | exact o.out.drew)):p:=h
theorem qDRkSe1 {p:Prop} (h:p:=by
 obtain ⟨v,rfl⟩:∃ z,z=v':=⟨_,rfl⟩
 refine hK.out _ _ ?_ (fun hHeld=>?_)
 ·exact qDRkSe11
 clear hK K
 refine rdy (rdc 7 99 (fun K hK=>?_) .nil)
 go_simp
 go_at_call 105
 refine (HCo1.out _ (by first | exact o.out | exact o.out.drew) _ (by first | exact HPp1.out | exact HPp1.out.quiet (Only.refl _ _).drew)).mono ?_
 rintro e v' ⟨rfl,hq⟩
 obtain ⟨l1,hl1⟩:∃ z,z=v.heap.size:=⟨_,rfl⟩
 have hKf:Triv l1 l1 v':=trivial
 have hKl:v.heap.size≤l1:=by omega
 have hKh:l1≤v'.heap.size:=by rw [hl1];first | exact hq.size | exact ((Only.refl _ _).drew.q hq).size
 clear hl1
 have q:Only [] v v':=by first | exact hq | exact ((Only.refl _ _).drew).q hq
 have hVl:Wv.heap.size≤v.heap.size:=o.out.size
 have HkE:Hid (Wv.heap.size≤bE∧(bE<l1∨l1≤bE)):=lh (by have:=(Array.getElem?_eq_some_iff.1 HE.out).1;have:=HzE.out;exact ⟨by omega,.inl (by omega)⟩)
 replace HE:=lh (q.row HE.out)
 replace HPp1:Hid (Ints .i64 0 v'.heap.size v' (.slice (some ⟨g1,0,none⟩) (blockD f x y 8 X Y).length c1) (blockD f x y 8 X Y)):=lh ((HPp1.out.quiet q).mono (Nat.le_refl _) q.size)
 have HK:=lh hKf
 have HKb:Hid (Wv.heap.size≤l1∧l1≤v'.heap.size):=lh ⟨by omega,hKh⟩
 replace o:=lh (o.out.q q)
 clear hq q hKf hKl hKh hVl
 obtain ⟨v,rfl⟩:∃ z,z=v':=⟨_,rfl⟩
 refine hK.out _ _ ?_ (fun hHeld=>?_)
 ·exact qDRkSe11
 clear hK K
 refine tkw 8 91 ⟨rfl,qDRkSet0⟩ ?_
 refine tkw 9 100 ⟨rfl,qDRkSet0⟩ ?_
 refine tkw 10 101 ⟨rfl,qDRkSet0⟩ ?_
 refine tkw 12 18 ⟨rfl,qDRkSet0⟩ ?_
 refine rdy (rdn 13 (fun K hK=>?_) .nil)
 refine wp_store_rowK (.tmp 19) (.tmp 101) 39 rfl (g:=bE) (c':=#[.int .i64 0,.slice none 0 0]) rfl rfl HE.out (err_size _ _) rfl (by first | kernel_rfl | simp [Value.oneCell']) (fun v' hq hr=>?_)
 have q:Only [bE] v v':=by first | exact hq | exact ((Only.refl _ _).drew.mono (U:=[bE]) (by simp)).trans hq (fun g h _=>h) (fun g h _=>h)
 replace HE:=lh hr
 replace HK:Hid (Triv l1 l1 v'):=lh (HK.out.only q (fun g hg=>by rw [mSg] at hg;subst hg;exact HkE.out.2))
 replace HKb:Hid (Wv.heap.size≤l1∧l1≤v'.heap.size):=lh ⟨HKb.out.1,Nat.le_trans HKb.out.2 q.size⟩
 replace o:Hid (Only [] Wv v'):=lh (o.out.trans q (by simp) (fun g hg hlt=>by rw [mSg] at hg;have:=HkE.out.1;omega))
 clear hq hr q
 obtain ⟨v,rfl⟩:∃ z,z=v':=⟨_,rfl⟩
 refine hK.out _ _ ?_ (fun hHeld=>?_)
 ·exact qDRkSe11
 exact qDRkSe9):p:=h
theorem qDRkSe12 {p:Prop} (h:p:=by
 exact HS0.out _ (by first | exact o.out | exact o.out.drew)):p:=h
theorem qDRkSe2 {p:Prop} (h:p:=by
 obtain ⟨v,rfl⟩:∃ z,z=v':=⟨_,rfl⟩
 refine hK.out _ _ ?_ (fun hHeld=>?_)
 ·exact qDRkSe12
 clear hK K
 refine rdy (rdc 7 69 (fun K hK=>?_) .nil)
 go_simp
 go_at_call 105
 refine (HCo0.out _ (by first | exact o.out | exact o.out.drew) _ (by first | exact HPp0.out | exact HPp0.out.quiet (Only.refl _ _).drew)).mono ?_
 rintro e v' ⟨rfl,hq⟩
 obtain ⟨l1,hl1⟩:∃ z,z=v.heap.size:=⟨_,rfl⟩
 have hKf:Triv l1 l1 v':=trivial
 have hKl:v.heap.size≤l1:=by omega
 have hKh:l1≤v'.heap.size:=by rw [hl1];first | exact hq.size | exact ((Only.refl _ _).drew.q hq).size
 clear hl1
 have q:Only [] v v':=by first | exact hq | exact ((Only.refl _ _).drew).q hq
 have hVl:W6.heap.size≤v.heap.size:=o.out.size
 have HkE:Hid (W6.heap.size≤bE∧(bE<l1∨l1≤bE)):=lh (by have:=(Array.getElem?_eq_some_iff.1 HE.out).1;have:=HzE.out;exact ⟨by omega,.inl (by omega)⟩)
 replace HE:=lh (q.row HE.out)
 replace HPp0:Hid (Ints .i64 0 v'.heap.size v' (.slice (some ⟨g0,0,none⟩) (blockD f x y 8 0 0).length c0) (blockD f x y 8 0 0)):=lh ((HPp0.out.quiet q).mono (Nat.le_refl _) q.size)
 have HK:=lh hKf
 have HKb:Hid (W6.heap.size≤l1∧l1≤v'.heap.size):=lh ⟨by omega,hKh⟩
 replace o:=lh (o.out.q q)
 clear hq q hKf hKl hKh hVl
 obtain ⟨v,rfl⟩:∃ z,z=v':=⟨_,rfl⟩
 refine hK.out _ _ ?_ (fun hHeld=>?_)
 ·exact qDRkSe12
 clear hK K
 refine tkw 8 61 ⟨rfl,qDRkSet0⟩ ?_
 refine tkw 9 70 ⟨rfl,qDRkSet0⟩ ?_
 refine tkw 10 71 ⟨rfl,qDRkSet0⟩ ?_
 refine tkw 12 13 ⟨rfl,qDRkSet0⟩ ?_
 refine rdy (rdn 13 (fun K hK=>?_) .nil)
 refine wp_store_rowK (.tmp 14) (.tmp 71) 39 rfl (g:=bE) (c':=#[.int .i64 0,.slice none 0 0]) rfl rfl HE.out (err_size _ _) rfl (by first | kernel_rfl | simp [Value.oneCell']) (fun v' hq hr=>?_)
 have q:Only [bE] v v':=by first | exact hq | exact ((Only.refl _ _).drew.mono (U:=[bE]) (by simp)).trans hq (fun g h _=>h) (fun g h _=>h)
 replace HE:=lh hr
 replace HK:Hid (Triv l1 l1 v'):=lh (HK.out.only q (fun g hg=>by rw [mSg] at hg;subst hg;exact HkE.out.2))
 replace HKb:Hid (W6.heap.size≤l1∧l1≤v'.heap.size):=lh ⟨HKb.out.1,Nat.le_trans HKb.out.2 q.size⟩
 replace o:Hid (Only [] W6 v'):=lh (o.out.trans q (by simp) (fun g hg hlt=>by rw [mSg] at hg;have:=HkE.out.1;omega))
 clear hq hr q
 obtain ⟨v,rfl⟩:∃ z,z=v':=⟨_,rfl⟩
 refine hK.out _ _ ?_ (fun hHeld=>?_)
 ·exact qDRkSe12
 exact qDRkSe9):p:=h
theorem qDRkSe3 {p:Prop} (h:p:=by
 exact qDRkSe9):p:=h
theorem qDRkSe4 {p:Prop} (h:p:=by
 exact qDRkSe12):p:=h
theorem qDRkSe5 {p:Prop} (h:p:=by
 exact qDRkSe11):p:=h
theorem qDRkSe6 {p:Prop} (h:p:=by
 exact qDRkSe10):p:=h
theorem qDRkSe7 {p:Prop} (h:p:=by
 have HSt:=lh hst
 clear hst
 go_wp2_with fail
 exact ⟨⟨n+1,s,by omega,by go_num,rfl,lh (by rw [Hmore.out,HSt.out]),HBn,HQw⟩,by simp [intOf];omega⟩):p:=h
theorem ksearch_any {lo hi lo' hi' r:Nat} {pv bv:Value} {w:World} {f:FrameD} {b:List Int} (hok:FrOk f) (h:Ints .i64 lo hi w pv f.pix) (hb:Ints .i64 lo' hi' w bv b) (lb:b.length=64) (sb:SamOk b) (x y:Int) (hx:0≤x∧x+8≤f.W) (hy:0≤y∧y+8≤f.H) (hr:r≤7) (hhi:hi≤w.heap.size) (hhi':hi'≤w.heap.size) :
  Calls Tryz.prog 104 #[.agg #[.int .i64 f.W,.int .i64 f.H,pv],bv,.int .i64 x,.int .i64 y,.int .i64 r] w fun e w'=>(e=.returned (.tuple #[.agg #[.int .i64 (searchE f b x y r).vx,.int .i64 (searchE f b x y r).vy],.agg #[.int .i64 0,.slice none 0 0]])∧Only [] w w'):=by
 refine hidQ fun Q HPost=>?_
 have HF:=lh (And.intro hok (And.intro (show 0≤x∧x≤32 by have:=hok.w1;omega) (show 0≤y∧y≤32 by have:=hok.h1;omega)))
 have HB:=lh (And.intro lb (And.intro sb (fun vx vy:Int=>blockD_in hok.sam x y 8 vx vy)))
 have HM:=lh (fun (W:World) (o:Only [] w W)=>by have:=kmay_any f.W f.H (h.quiet o);rw [show mayF ⟨f.W,f.H,f.pix⟩=true from mayF_iff.2 hok] at this;exact this)
 have HIn:=lh (fun (W:World)=>by have:=klies_any f.W f.H x y 8 pv W ⟨hok.w0,hok.w1⟩ ⟨hok.h0,hok.h1⟩ (by omega);rw [show liesD f.W f.H x y 8=true by unfold liesD;simp;omega] at this;exact this)
 have HSa:=lh (fun (W:World) (o:Only [] w W)=>by have:=within_any 0 255 (hb.quiet o);rw [show withinB b 0 255=true from samOk_iff.2 sb] at this;exact this)
 have HP:=lh (And.intro h hb)
 have HE:Hid (searchE f b x y r=(nearE (seek1 f b x y r).vx (seek1 f b x y r).vy).foldl (tryE f b x y) (seek1 f b x y r)):=lh rfl
 have H1:Hid (seek1 f b x y r=(gridE r).foldl (tryE f b x y) (seek0 f b x y)):=lh rfl
 have H1ok:Hid (SeekOk (seek1 f b x y r)):=lh (by
  rw [H1.out]
  refine fold_ok _ _ (fun v hv=>?_) (by simp [seek0,SeekOk])
  unfold gridE at hv
  obtain ⟨j,hj,hv⟩:=List.mem_flatMap.1 hv
  obtain ⟨i,hi,rfl⟩:=List.mem_map.1 hv
  rw [List.mem_range] at hi hj
  simp only
  omega)
 have H0:Hid (seek0 f b x y=⟨0,0,costE (blockD f x y 8 0 0) b 0 0⟩):=lh rfl
 obtain ⟨pa,pc,rfl,-⟩:=h.open
 obtain ⟨qa,qc,rfl,-⟩:=hb.open
 rw [lb] at HP HSa ⊢
 obtain ⟨S0,hS0⟩:∃ z,z=seek0 f b x y:=⟨_,rfl⟩
 obtain ⟨S1,hS1⟩:∃ z,z=seek1 f b x y r:=⟨_,rfl⟩
 obtain ⟨S2,hS2⟩:∃ z,z=searchE f b x y r:=⟨_,rfl⟩
 rw [← hS0] at H0 H1
 rw [← hS1] at H1 H1ok HE
 rw [← hS2] at HE HPost
 have r0:(0:Int)≤(r:Int):=by omega
 have r1:(r:Int)≤7:=by omega
 have r2:¬ (r:Int)<0:=by omega
 have r3:¬ (7:Int)<(r:Int):=by omega
 have nr:IntKind.i64.wrap (-(r:Int))=-(r:Int):=by rw [IntKind.wrap_i64];omega
 obtain ⟨hb1,HF1,HR1,HE1,HZ1⟩:=boxes3 w (.cells #[.int .i64 f.W,.int .i64 f.H,.slice pa f.pix.length pc] 24) (.cells #[.int .i64 0,.int .i64 0] 62) (.cells #[.int .i64 0,.slice none 0 0] 39)
 have HQ1:=lh hb1
 have HHi:=lh (And.intro hhi hhi')
 clear h hb lb sb hok hx hy hhi hhi' hS0 hS1 hS2 hb1 hr
 obtain ⟨a0,a1,a2⟩:=frame_cells HF1.out
 go_enter Tryz.func104,Tryz.ntmps104
 go_wp2_with fail
 generalize hW1:World.alloc (World.alloc (World.alloc w _) _) _=W1 at *
 clear hW1 a0 a1 a2
 go_at_call 66
 refine (HM.out W1 HQ1.out).mono ?_
 rintro e w3 ⟨rfl,hq3⟩
 obtain ⟨a0,a1,a2⟩:=frame_cells (hq3.row HF1.out)
 have HX3:=lh hq3
 clear hq3 HM
 go_wp2_with fail
 go_at_call 124
 refine (HIn.out w3).mono ?_
 rintro e w4 ⟨rfl,hq4⟩
 have HX4:=lh (HX3.out.q hq4)
 clear hq4 HIn a0 a1 a2
 go_wp2_with fail
 go_at_call 26
 refine (HSa.out w4 (HQ1.out.q HX4.out)).mono ?_
 rintro e w5 ⟨rfl,hw5⟩
 subst hw5
 clear HSa
 have HB6:=lh (heap_alloc_new w4 (.cells #[.int .i64 0,.int .i64 0] 62))
 have HX6:=lh (HX4.out.q (Only.new w4 (.cells #[.int .i64 0,.int .i64 0] 62)))
 have HBv:Hid (w.heap.size+1+1<w4.heap.size):=lh (by have:=HX4.out.size;have:=HZ1.out;omega)
 go_upto_region 10 with (fail)
 generalize hW6:World.alloc w4 _=W6 at *
 clear hW6
 obtain ⟨BV,hBV⟩:∃ z,z=w4.heap.size:=⟨_,rfl⟩
 rw [← hBV] at HB6 HBv ⊢
 clear hBV
 have HQ6:=lh (HQ1.out.q HX6.out)
 have HPW:Hid (∀ W,Only [BV] W6 W→Ints .i64 lo hi W (.slice pa f.pix.length pc) f.pix∧Ints .i64 lo' hi' W (.slice qa 64 qc) b):=lh (fun W o=>by
  have z1:=HBv.out
  have z2:=HHi.out
  exact ⟨(HP.out.1.quiet HQ6.out).only o (fun g hg=>by rw [mSg] at hg;omega),(HP.out.2.quiet HQ6.out).only o (fun g hg=>by rw [mSg] at hg;omega)⟩)
 have HPW6:=lh (fun (W:World) (o:Only [] W6 W)=>HPW.out W (o.mono (by simp)))
 obtain ⟨k0,hk0⟩:∃ z,z=costE (blockD f x y 8 0 0) b 0 0:=⟨_,rfl⟩
 have HBl0:=lh (fun (W:World) (o:Only [] W6 W)=>kblock_any HF.out.1 (HPW6.out W o).1 x y (0) (0) HF.out.2.1 HF.out.2.2 (by omega) (by omega))
 have HCo0:=lh (fun (W:World) (o:Only [] W6 W) (gv:Value) (hv:Ints .i64 0 W.heap.size W gv (blockD f x y 8 0 0))=>kcost_any (vx:=0) (vy:=0) hv (HPW6.out W o).2 (by rw [blockD_len];exact HB.out.1) (by rw [blockD_len];omega) (HB.out.2.2 (0) (0)) HB.out.2.1 (by omega) (by omega))
 rw [← hk0] at HCo0
 have Hk0:=lh hk0
 clear hk0
 have HS0:Hid (∀ wx:World,Only [] W6 wx→wx.heap[w.heap.size]?=some (.cells #[.int .i64 f.W,.int .i64 f.H,.slice pa f.pix.length pc] 24 (0,0))∧wx.heap[BV]?=some (.cells #[.int .i64 0,.int .i64 0] 62 (0,0))):=lh (fun wx o=>⟨o.row (HX6.out.row HF1.out),o.row (HB6.out)⟩)
 go_cut [14,13] (fun sE s13 wx=>∃ (bE:Nat) (l1:Nat),sE=.pointer (some ⟨bE,0,none⟩)∧s13=.int .i64 k0∧Hid (Only [] W6 wx)∧Hid (wx.heap[bE]?=some (.cells #[.int .i64 0,.slice none 0 0] 39 (0,0)))∧Hid (W6.heap.size≤l1∧l1≤wx.heap.size)∧Hid (Triv l1 l1 wx)∧Hid (W6.heap.size≤bE∧(bE<l1∨l1≤bE)))
 case first =>
  have o:=lh (Only.refl [] W6)
  refine wp_region_held_drew (S:=(fun wz=>wz.heap[w.heap.size]?=some (.cells #[.int .i64 f.W,.int .i64 f.H,.slice pa f.pix.length pc] 24 (0,0))∧wz.heap[BV]?=some (.cells #[.int .i64 0,.int .i64 0] 62 (0,0)))) (by kernel_rfl) ?_ (fun hHeld=>?_)
  ·first | exact HS0.out _ (Only.refl _ _) | exact HS0.out _ (Only.refl _ _).drew
  refine tkw 0 62 ⟨rfl,qDRkSet0⟩ ?_
  refine tkw 1 63 ⟨rfl,qDRkSet0⟩ ?_
  refine tkw 2 64 ⟨rfl,qDRkSet0⟩ ?_
  refine tkw 3 65 ⟨rfl,qDRkSet0⟩ ?_
  refine tkw 5 67 ⟨rfl,qDRkSet0⟩ ?_
  refine tkw 6 68 ⟨rfl,qDRkSet0⟩ ?_
  refine rdy (rdc 4 66 (fun K hK=>?_) (rdc 11 14 (fun K hK=>?_) .nil))
  ·go_simp
   go_at_call 103
   refine (HBl0.out _ (by first | exact o.out | exact o.out.drew)).mono ?_
   rintro e v' ⟨vv,rfl,ho9,hq⟩
   obtain ⟨g0,c0,rfl,-,-⟩:=ho9.form (by rw [blockD_len];omega)
   have hP:Ints .i64 0 v'.heap.size v' (.slice (some ⟨g0,0,none⟩) (blockD f x y 8 0 0).length c0) (blockD f x y 8 0 0):=ho9.ints.mono (Nat.zero_le _) (Nat.le_refl _)
   clear ho9
   have q:Only [] W6 v':=by first | exact hq | exact ((Only.refl _ _).drew).q hq
   have HPp0:=lh hP
   replace o:=lh (o.out.q q)
   clear hq q hP
   obtain ⟨v,rfl⟩:∃ z,z=v':=⟨_,rfl⟩
   refine hK.out _ _ ?_ (fun hHeld=>?_)
   ·exact qDRkSe4
   clear hK K
   refine rdy (rdc 7 69 (fun K hK=>?_) (rdc 11 14 (fun K hK=>?_) .nil))
   ·go_simp
    go_at_call 105
    refine (HCo0.out _ (by first | exact o.out | exact o.out.drew) _ (by first | exact HPp0.out | exact HPp0.out.quiet (Only.refl _ _).drew)).mono ?_
    rintro e v' ⟨rfl,hq⟩
    obtain ⟨l1,hl1⟩:∃ z,z=v.heap.size:=⟨_,rfl⟩
    have hKf:Triv l1 l1 v':=trivial
    have hKl:v.heap.size≤l1:=by omega
    have hKh:l1≤v'.heap.size:=by rw [hl1];first | exact hq.size | exact ((Only.refl _ _).drew.q hq).size
    clear hl1
    have q:Only [] v v':=by first | exact hq | exact ((Only.refl _ _).drew).q hq
    have hVl:W6.heap.size≤v.heap.size:=o.out.size
    replace HPp0:Hid (Ints .i64 0 v'.heap.size v' (.slice (some ⟨g0,0,none⟩) (blockD f x y 8 0 0).length c0) (blockD f x y 8 0 0)):=lh ((HPp0.out.quiet q).mono (Nat.le_refl _) q.size)
    have HK:=lh hKf
    have HKb:Hid (W6.heap.size≤l1∧l1≤v'.heap.size):=lh ⟨by omega,hKh⟩
    replace o:=lh (o.out.q q)
    clear hq q hKf hKl hKh hVl
    obtain ⟨v,rfl⟩:∃ z,z=v':=⟨_,rfl⟩
    refine hK.out _ _ ?_ (fun hHeld=>?_)
    ·exact qDRkSe4
    clear hK K
    refine tkw 8 61 ⟨rfl,qDRkSet0⟩ ?_
    refine tkw 9 70 ⟨rfl,qDRkSet0⟩ ?_
    refine tkw 10 71 ⟨rfl,qDRkSet0⟩ ?_
    refine rdy (rdc 11 14 (fun K hK=>?_) .nil)
    go_simp
    generalize hW:World.alloc _ _=v'
    have q:Only [] v v':=by rw [← hW];first | exact Only.new _ _ | exact ((Only.refl _ _).drew).q (Only.new _ _)
    have HE:Hid (v'.heap[v.heap.size]?=some (.cells #[.int .i64 0,.slice none 0 0] 39 (0,0))):=lh (by rw [← hW];exact heap_alloc_new _ _)
    have hz:W6.heap.size≤v.heap.size:=o.out.size
    have HkE:Hid (W6.heap.size≤v.heap.size∧(v.heap.size<l1∨l1≤v.heap.size)):=lh ⟨hz,.inr HKb.out.2⟩
    replace HK:Hid (Triv l1 l1 v'):=lh (HK.out.only q (by simp))
    replace HKb:Hid (W6.heap.size≤l1∧l1≤v'.heap.size):=lh ⟨HKb.out.1,Nat.le_trans HKb.out.2 q.size⟩
    replace HPp0:Hid (Ints .i64 0 v'.heap.size v' (.slice (some ⟨g0,0,none⟩) (blockD f x y 8 0 0).length c0) (blockD f x y 8 0 0)):=lh ((HPp0.out.quiet q).mono (Nat.le_refl _) q.size)
    replace o:=lh (o.out.q q)
    clear hW q
    generalize hb:v.heap.size=bE at HE HkE ⊢
    have HzE:Hid (W6.heap.size≤bE):=lh (by rw [← hb];exact hz)
    clear hb hz
    obtain ⟨v,rfl⟩:∃ z,z=v':=⟨_,rfl⟩
    refine hK.out _ _ ?_ (fun hHeld=>?_)
    ·exact qDRkSe4
    clear hK K
    refine tkw 12 13 ⟨rfl,qDRkSet0⟩ ?_
    refine rdy (rdn 13 (fun K hK=>?_) .nil)
    refine wp_store_rowK (.tmp 14) (.tmp 71) 39 rfl (g:=bE) (c':=#[.int .i64 0,.slice none 0 0]) rfl rfl HE.out (err_size _ _) rfl (by first | kernel_rfl | simp [Value.oneCell']) (fun v' hq hr=>?_)
    have q:Only [bE] v v':=by first | exact hq | exact ((Only.refl _ _).drew.mono (U:=[bE]) (by simp)).trans hq (fun g h _=>h) (fun g h _=>h)
    replace HE:=lh hr
    replace HK:Hid (Triv l1 l1 v'):=lh (HK.out.only q (fun g hg=>by rw [mSg] at hg;subst hg;exact HkE.out.2))
    replace HKb:Hid (W6.heap.size≤l1∧l1≤v'.heap.size):=lh ⟨HKb.out.1,Nat.le_trans HKb.out.2 q.size⟩
    replace o:Hid (Only [] W6 v'):=lh (o.out.trans q (by simp) (fun g hg hlt=>by rw [mSg] at hg;have:=HkE.out.1;omega))
    clear hq hr q
    obtain ⟨v,rfl⟩:∃ z,z=v':=⟨_,rfl⟩
    refine hK.out _ _ ?_ (fun hHeld=>?_)
    ·exact qDRkSe4
    exact qDRkSe3
   ·go_simp
    generalize hW:World.alloc _ _=v'
    have q:Only [] v v':=by rw [← hW];first | exact Only.new _ _ | exact ((Only.refl _ _).drew).q (Only.new _ _)
    have HE:Hid (v'.heap[v.heap.size]?=some (.cells #[.int .i64 0,.slice none 0 0] 39 (0,0))):=lh (by rw [← hW];exact heap_alloc_new _ _)
    have hz:W6.heap.size≤v.heap.size:=o.out.size
    replace HPp0:Hid (Ints .i64 0 v'.heap.size v' (.slice (some ⟨g0,0,none⟩) (blockD f x y 8 0 0).length c0) (blockD f x y 8 0 0)):=lh ((HPp0.out.quiet q).mono (Nat.le_refl _) q.size)
    replace o:=lh (o.out.q q)
    clear hW q
    generalize hb:v.heap.size=bE at HE ⊢
    have HzE:Hid (W6.heap.size≤bE):=lh (by rw [← hb];exact hz)
    clear hb hz
    exact qDRkSe2
  ·go_simp
   generalize hW:World.alloc _ _=v'
   have q:Only [] W6 v':=by rw [← hW];first | exact Only.new _ _ | exact ((Only.refl _ _).drew).q (Only.new _ _)
   have HE:Hid (v'.heap[W6.heap.size]?=some (.cells #[.int .i64 0,.slice none 0 0] 39 (0,0))):=lh (by rw [← hW];exact heap_alloc_new _ _)
   have hz:W6.heap.size≤W6.heap.size:=o.out.size
   replace o:=lh (o.out.q q)
   clear hW q
   generalize hb:W6.heap.size=bE at HE ⊢
   have HzE:Hid (W6.heap.size≤bE):=lh (by rw [← hb];exact hz)
   clear hb hz
   obtain ⟨v,rfl⟩:∃ z,z=v':=⟨_,rfl⟩
   refine hK.out _ _ ?_ (fun hHeld=>?_)
   ·exact qDRkSe4
   clear hK K
   refine rdy (rdc 4 66 (fun K hK=>?_) .nil)
   go_simp
   go_at_call 103
   refine (HBl0.out _ (by first | exact o.out | exact o.out.drew)).mono ?_
   rintro e v' ⟨vv,rfl,ho9,hq⟩
   obtain ⟨g0,c0,rfl,-,-⟩:=ho9.form (by rw [blockD_len];omega)
   have hP:Ints .i64 0 v'.heap.size v' (.slice (some ⟨g0,0,none⟩) (blockD f x y 8 0 0).length c0) (blockD f x y 8 0 0):=ho9.ints.mono (Nat.zero_le _) (Nat.le_refl _)
   clear ho9
   have q:Only [] v v':=by first | exact hq | exact ((Only.refl _ _).drew).q hq
   replace HE:=lh (q.row HE.out)
   have HPp0:=lh hP
   replace o:=lh (o.out.q q)
   clear hq q hP
   exact qDRkSe2
 case rest =>
  obtain ⟨bE,l1,rfl,rfl,HO7,-,-,-,-⟩:=hcut
  obtain ⟨W7,hW7⟩:∃ z,z=wc:=⟨_,rfl⟩
  subst hW7
  have HS0:Hid (W7.heap[BV]?=some (.cells #[.int .i64 S0.vx,.int .i64 S0.vy] 62 (0,0))):=lh (by rw [H0.out];exact HO7.out.row HB6.out)
  have HC0:Hid (k0=S0.cost):=lh (by rw [H0.out,Hk0.out])
  rw [HC0.out]
  have HF7:=lh (HO7.out.row (HX6.out.row HF1.out))
  have HPW7:=lh (fun (W:World) (o:Only [BV] W7 W)=>HPW.out W (HO7.out.trans o (by simp) (fun _ h _=>h)))
  clear Hk0 HBl0 HCo0 HPW6
  go_upto_block 1 with (fail)
  go_cut [13] (fun s13 wx=>s13=.int .i64 S1.cost∧Hid (wx.heap[BV]?=some (.cells #[.int .i64 S1.vx,.int .i64 S1.vy] 62 (0,0)))∧Hid (Only [BV] W7 wx))
  case first =>
   go_wp2_with fail
   go_loopw [15,13,16,17,18,19] (fun a c _ _ _ _ wr=>∃ (k:Nat) (s:Seek),k≤2*r+1∧a=.int .i64 ((k:Int)-r)∧c=.int .i64 s.cost∧Hid (s=(gridPre r k 0).foldl (tryE f b x y) S0)∧Hid (wr.heap[BV]?=some (.cells #[.int .i64 s.vx,.int .i64 s.vy] 62 (0,0)))∧Hid (Only [BV] W7 wr)) (fun a _ _ _ _ _ _=>((r:Int)+1-intOf a).toNat)
   case atStart=>exact ⟨0,S0,by omega,by first | rfl | go_num,rfl,lh (by simp [gridPre]),HS0,lh (Only.refl _ _)⟩
   case round =>
    obtain ⟨k,s,hk,rfl,rfl,HSs,HBk,HQk⟩:=hrel
    by_cases hlt:k<2*r+1
    ·have hki:(k:Int)-r≤r:=by omega
     go_wp2_with fail
     go_loopw [16,13,17,18,19] (fun a c _ _ _ wr=>∃ (n:Nat) (s:Seek),n≤2*r+1∧a=.int .i64 ((n:Int)-r)∧c=.int .i64 s.cost∧Hid (s=(gridPre r k n).foldl (tryE f b x y) S0)∧Hid (wr.heap[BV]?=some (.cells #[.int .i64 s.vx,.int .i64 s.vy] 62 (0,0)))∧Hid (Only [BV] W7 wr)) (fun a _ _ _ _ _=>((r:Int)+1-intOf a).toNat)
     case atStart=>exact ⟨0,s,by omega,by first | rfl | go_num,rfl,HSs,HBk,HQk⟩
     case round =>
      obtain ⟨n,s,hn,rfl,rfl,HSn,HBn0,HQn⟩:=hrel
      by_cases hnlt:n<2*r+1
      ·have hni:(n:Int)-r≤r:=by omega
       have Hmore:Hid ((gridPre r k (n+1)).foldl (tryE f b x y) S0=tryE f b x y s (2*((n:Int)-r),2*((k:Int)-r))):=lh (by rw [gridPre_more,List.foldl_append,← HSn.out];rfl)
       have hXY:(-15≤2*((n:Int)-r)∧2*((n:Int)-r)≤15)∧(-15≤2*((k:Int)-r)∧2*((k:Int)-r)≤15):=by omega
       have HXY:=lh hXY
       have HVv:=lh (heap_alloc_new wr (.cells #[.int .i64 (2*((n:Int)-r)),.int .i64 (2*((k:Int)-r))] 62))
       have HQv:=lh (Only.new wr (.cells #[.int .i64 (2*((n:Int)-r)),.int .i64 (2*((k:Int)-r))] 62))
       clear hXY HSn
       go_upto_region 18 with (fail)
       generalize hWv:World.alloc wr _=Wv at *
       clear hWv
       generalize 2*((n:Int)-r)=X at *
       generalize 2*((k:Int)-r)=Y at *
       generalize wr.heap.size=G at *
       have HQnv:=lh (HQn.out.trans HQv.out (U:=[BV]) (fun _ h _=>h) (by simp))
       have HFv:=lh (HQnv.out.rowAt HF7.out (by rw [mSg];have:=HBv.out;omega))
       have HBnv:=lh (HQv.out.row HBn0.out)
       have HPWv:=lh (fun (W:World) (o:Only [] Wv W)=>HPW7.out W (HQnv.out.trans o (U:=[BV]) (fun _ h _=>h) (by simp)))
       obtain ⟨k1,hk1⟩:∃ z,z=costE (blockD f x y 8 X Y) b X Y:=⟨_,rfl⟩
       have HBl1:=lh (fun (W:World) (o:Only [] Wv W)=>kblock_any HF.out.1 (HPWv.out W o).1 x y (X) (Y) HF.out.2.1 HF.out.2.2 HXY.out.1 HXY.out.2)
       have HCo1:=lh (fun (W:World) (o:Only [] Wv W) (gv:Value) (hv:Ints .i64 0 W.heap.size W gv (blockD f x y 8 X Y))=>kcost_any (vx:=X) (vy:=Y) hv (HPWv.out W o).2 (by rw [blockD_len];exact HB.out.1) (by rw [blockD_len];omega) (HB.out.2.2 (X) (Y)) HB.out.2.1 HXY.out.1 HXY.out.2)
       rw [← hk1] at HCo1
       have Hk1:=lh hk1
       clear hk1
       have HS1:Hid (∀ wx:World,Only [] Wv wx→wx.heap[w.heap.size]?=some (.cells #[.int .i64 f.W,.int .i64 f.H,.slice pa f.pix.length pc] 24 (0,0))∧wx.heap[G]?=some (.cells #[.int .i64 X,.int .i64 Y] 62 (0,0))):=lh (fun wx o=>⟨o.row (HFv.out),o.row (HVv.out)⟩)
       go_cut [19,18] (fun sE s18 wx=>∃ (bE:Nat) (l1:Nat),sE=.pointer (some ⟨bE,0,none⟩)∧s18=.int .i64 k1∧Hid (Only [] Wv wx)∧Hid (wx.heap[bE]?=some (.cells #[.int .i64 0,.slice none 0 0] 39 (0,0)))∧Hid (Wv.heap.size≤l1∧l1≤wx.heap.size)∧Hid (Triv l1 l1 wx)∧Hid (Wv.heap.size≤bE∧(bE<l1∨l1≤bE)))
       case first =>
        have o:=lh (Only.refl [] Wv)
        refine wp_region_held_drew (S:=(fun wz=>wz.heap[w.heap.size]?=some (.cells #[.int .i64 f.W,.int .i64 f.H,.slice pa f.pix.length pc] 24 (0,0))∧wz.heap[G]?=some (.cells #[.int .i64 X,.int .i64 Y] 62 (0,0)))) (by kernel_rfl) ?_ (fun hHeld=>?_)
        ·first | exact HS1.out _ (Only.refl _ _) | exact HS1.out _ (Only.refl _ _).drew
        refine tkw 0 92 ⟨rfl,qDRkSet0⟩ ?_
        refine tkw 1 93 ⟨rfl,qDRkSet0⟩ ?_
        refine tkw 2 94 ⟨rfl,qDRkSet0⟩ ?_
        refine tkw 3 95 ⟨rfl,qDRkSet0⟩ ?_
        refine tkw 5 97 ⟨rfl,qDRkSet0⟩ ?_
        refine tkw 6 98 ⟨rfl,qDRkSet0⟩ ?_
        refine rdy (rdc 4 96 (fun K hK=>?_) (rdc 11 19 (fun K hK=>?_) .nil))
        ·go_simp
         go_at_call 103
         refine (HBl1.out _ (by first | exact o.out | exact o.out.drew)).mono ?_
         rintro e v' ⟨vv,rfl,ho9,hq⟩
         obtain ⟨g1,c1,rfl,-,-⟩:=ho9.form (by rw [blockD_len];omega)
         have hP:Ints .i64 0 v'.heap.size v' (.slice (some ⟨g1,0,none⟩) (blockD f x y 8 X Y).length c1) (blockD f x y 8 X Y):=ho9.ints.mono (Nat.zero_le _) (Nat.le_refl _)
         clear ho9
         have q:Only [] Wv v':=by first | exact hq | exact ((Only.refl _ _).drew).q hq
         have HPp1:=lh hP
         replace o:=lh (o.out.q q)
         clear hq q hP
         obtain ⟨v,rfl⟩:∃ z,z=v':=⟨_,rfl⟩
         refine hK.out _ _ ?_ (fun hHeld=>?_)
         ·exact qDRkSe5
         clear hK K
         refine rdy (rdc 7 99 (fun K hK=>?_) (rdc 11 19 (fun K hK=>?_) .nil))
         ·go_simp
          go_at_call 105
          refine (HCo1.out _ (by first | exact o.out | exact o.out.drew) _ (by first | exact HPp1.out | exact HPp1.out.quiet (Only.refl _ _).drew)).mono ?_
          rintro e v' ⟨rfl,hq⟩
          obtain ⟨l1,hl1⟩:∃ z,z=v.heap.size:=⟨_,rfl⟩
          have hKf:Triv l1 l1 v':=trivial
          have hKl:v.heap.size≤l1:=by omega
          have hKh:l1≤v'.heap.size:=by rw [hl1];first | exact hq.size | exact ((Only.refl _ _).drew.q hq).size
          clear hl1
          have q:Only [] v v':=by first | exact hq | exact ((Only.refl _ _).drew).q hq
          have hVl:Wv.heap.size≤v.heap.size:=o.out.size
          replace HPp1:Hid (Ints .i64 0 v'.heap.size v' (.slice (some ⟨g1,0,none⟩) (blockD f x y 8 X Y).length c1) (blockD f x y 8 X Y)):=lh ((HPp1.out.quiet q).mono (Nat.le_refl _) q.size)
          have HK:=lh hKf
          have HKb:Hid (Wv.heap.size≤l1∧l1≤v'.heap.size):=lh ⟨by omega,hKh⟩
          replace o:=lh (o.out.q q)
          clear hq q hKf hKl hKh hVl
          obtain ⟨v,rfl⟩:∃ z,z=v':=⟨_,rfl⟩
          refine hK.out _ _ ?_ (fun hHeld=>?_)
          ·exact qDRkSe5
          clear hK K
          refine tkw 8 91 ⟨rfl,qDRkSet0⟩ ?_
          refine tkw 9 100 ⟨rfl,qDRkSet0⟩ ?_
          refine tkw 10 101 ⟨rfl,qDRkSet0⟩ ?_
          refine rdy (rdc 11 19 (fun K hK=>?_) .nil)
          go_simp
          generalize hW:World.alloc _ _=v'
          have q:Only [] v v':=by rw [← hW];first | exact Only.new _ _ | exact ((Only.refl _ _).drew).q (Only.new _ _)
          have HE:Hid (v'.heap[v.heap.size]?=some (.cells #[.int .i64 0,.slice none 0 0] 39 (0,0))):=lh (by rw [← hW];exact heap_alloc_new _ _)
          have hz:Wv.heap.size≤v.heap.size:=o.out.size
          have HkE:Hid (Wv.heap.size≤v.heap.size∧(v.heap.size<l1∨l1≤v.heap.size)):=lh ⟨hz,.inr HKb.out.2⟩
          replace HK:Hid (Triv l1 l1 v'):=lh (HK.out.only q (by simp))
          replace HKb:Hid (Wv.heap.size≤l1∧l1≤v'.heap.size):=lh ⟨HKb.out.1,Nat.le_trans HKb.out.2 q.size⟩
          replace HPp1:Hid (Ints .i64 0 v'.heap.size v' (.slice (some ⟨g1,0,none⟩) (blockD f x y 8 X Y).length c1) (blockD f x y 8 X Y)):=lh ((HPp1.out.quiet q).mono (Nat.le_refl _) q.size)
          replace o:=lh (o.out.q q)
          clear hW q
          generalize hb:v.heap.size=bE at HE HkE ⊢
          have HzE:Hid (Wv.heap.size≤bE):=lh (by rw [← hb];exact hz)
          clear hb hz
          obtain ⟨v,rfl⟩:∃ z,z=v':=⟨_,rfl⟩
          refine hK.out _ _ ?_ (fun hHeld=>?_)
          ·exact qDRkSe5
          clear hK K
          refine tkw 12 18 ⟨rfl,qDRkSet0⟩ ?_
          refine rdy (rdn 13 (fun K hK=>?_) .nil)
          refine wp_store_rowK (.tmp 19) (.tmp 101) 39 rfl (g:=bE) (c':=#[.int .i64 0,.slice none 0 0]) rfl rfl HE.out (err_size _ _) rfl (by first | kernel_rfl | simp [Value.oneCell']) (fun v' hq hr=>?_)
          have q:Only [bE] v v':=by first | exact hq | exact ((Only.refl _ _).drew.mono (U:=[bE]) (by simp)).trans hq (fun g h _=>h) (fun g h _=>h)
          replace HE:=lh hr
          replace HK:Hid (Triv l1 l1 v'):=lh (HK.out.only q (fun g hg=>by rw [mSg] at hg;subst hg;exact HkE.out.2))
          replace HKb:Hid (Wv.heap.size≤l1∧l1≤v'.heap.size):=lh ⟨HKb.out.1,Nat.le_trans HKb.out.2 q.size⟩
          replace o:Hid (Only [] Wv v'):=lh (o.out.trans q (by simp) (fun g hg hlt=>by rw [mSg] at hg;have:=HkE.out.1;omega))
          clear hq hr q
          obtain ⟨v,rfl⟩:∃ z,z=v':=⟨_,rfl⟩
          refine hK.out _ _ ?_ (fun hHeld=>?_)
          ·exact qDRkSe5
          exact qDRkSe3
         ·go_simp
          generalize hW:World.alloc _ _=v'
          have q:Only [] v v':=by rw [← hW];first | exact Only.new _ _ | exact ((Only.refl _ _).drew).q (Only.new _ _)
          have HE:Hid (v'.heap[v.heap.size]?=some (.cells #[.int .i64 0,.slice none 0 0] 39 (0,0))):=lh (by rw [← hW];exact heap_alloc_new _ _)
          have hz:Wv.heap.size≤v.heap.size:=o.out.size
          replace HPp1:Hid (Ints .i64 0 v'.heap.size v' (.slice (some ⟨g1,0,none⟩) (blockD f x y 8 X Y).length c1) (blockD f x y 8 X Y)):=lh ((HPp1.out.quiet q).mono (Nat.le_refl _) q.size)
          replace o:=lh (o.out.q q)
          clear hW q
          generalize hb:v.heap.size=bE at HE ⊢
          have HzE:Hid (Wv.heap.size≤bE):=lh (by rw [← hb];exact hz)
          clear hb hz
          exact qDRkSe1
        ·go_simp
         generalize hW:World.alloc _ _=v'
         have q:Only [] Wv v':=by rw [← hW];first | exact Only.new _ _ | exact ((Only.refl _ _).drew).q (Only.new _ _)
         have HE:Hid (v'.heap[Wv.heap.size]?=some (.cells #[.int .i64 0,.slice none 0 0] 39 (0,0))):=lh (by rw [← hW];exact heap_alloc_new _ _)
         have hz:Wv.heap.size≤Wv.heap.size:=o.out.size
         replace o:=lh (o.out.q q)
         clear hW q
         generalize hb:Wv.heap.size=bE at HE ⊢
         have HzE:Hid (Wv.heap.size≤bE):=lh (by rw [← hb];exact hz)
         clear hb hz
         obtain ⟨v,rfl⟩:∃ z,z=v':=⟨_,rfl⟩
         refine hK.out _ _ ?_ (fun hHeld=>?_)
         ·exact qDRkSe5
         clear hK K
         refine rdy (rdc 4 96 (fun K hK=>?_) .nil)
         go_simp
         go_at_call 103
         refine (HBl1.out _ (by first | exact o.out | exact o.out.drew)).mono ?_
         rintro e v' ⟨vv,rfl,ho9,hq⟩
         obtain ⟨g1,c1,rfl,-,-⟩:=ho9.form (by rw [blockD_len];omega)
         have hP:Ints .i64 0 v'.heap.size v' (.slice (some ⟨g1,0,none⟩) (blockD f x y 8 X Y).length c1) (blockD f x y 8 X Y):=ho9.ints.mono (Nat.zero_le _) (Nat.le_refl _)
         clear ho9
         have q:Only [] v v':=by first | exact hq | exact ((Only.refl _ _).drew).q hq
         replace HE:=lh (q.row HE.out)
         have HPp1:=lh hP
         replace o:=lh (o.out.q q)
         clear hq q hP
         exact qDRkSe1
       case rest =>
        obtain ⟨bE,l1,rfl,rfl,HOr,-,-,-,-⟩:=hcut
        have HVn:=lh (HOr.out.row HVv.out)
        have HBn:=lh (HOr.out.row HBnv.out)
        have HQw:=lh (HQnv.out.trans HOr.out (U:=[BV]) (fun _ h _=>h) (by simp))
        by_cases hbt:k1<s.cost
        ·have hst:tryE f b x y s (X,Y)=⟨X,Y,k1⟩:=by unfold tryE;simp only;rw [← Hk1.out,if_pos hbt]
         have HSt:=lh hst
         clear hst
         obtain ⟨b0,b1,bf0,bf1,-⟩:=row2 HBn.out
         obtain ⟨v0,v1,-⟩:=row2 HVn.out
         obtain ⟨hrow,hon⟩:=row2_set (x:=.int .i64 (X)) (y:=.int .i64 (Y)) HBn.out
         have HRow:=lh hrow
         have HOn:=lh hon
         clear hrow hon
         go_wp2_with fail
         refine ⟨⟨n+1,⟨X,Y,k1⟩,by omega,by go_num,rfl,lh (by rw [Hmore.out,HSt.out]),HRow,lh (HQw.out.trans HOn.out (U:=[BV]) (fun _ h _=>h) (fun _ h _=>h))⟩,by simp [intOf];omega⟩
        ·have hst:tryE f b x y s (X,Y)=s:=by unfold tryE;simp only;rw [← Hk1.out,if_neg hbt]
         exact qDRkSe7
      ·obtain rfl:n=2*r+1:=by omega
       have hni:¬ (((2*r+1:Nat):Int)-r)≤r:=by omega
       have Hrow:=lh (gridPre_row r k)
       rw [Hrow.out] at HSn
       go_wp2_with fail
       exact ⟨⟨k+1,s,by omega,by go_num,rfl,HSn,HBn0,HQn⟩,by simp [intOf];omega⟩
    ·obtain rfl:k=2*r+1:=by omega
     have hki:¬ (((2*r+1:Nat):Int)-r)≤r:=by omega
     have Hall:=lh (gridPre_all r)
     rw [Hall.out,← H1.out] at HSs
     have hs1:=HSs.out
     subst hs1
     go_wp2_with fail
     go_meet
     exact ⟨rfl,HBk,HQk⟩
  case rest =>
   obtain ⟨rfl,HS1,HQ10⟩:=hcut
   obtain ⟨W10,hW10⟩:∃ z,z=wc:=⟨_,rfl⟩
   subst hW10
   obtain ⟨o1,o2,o3,o4⟩:=H1ok.out
   obtain ⟨b0,b1,-⟩:=row2 HS1.out
   have HVr:=lh (heap_alloc_new W10 (.cells #[.int .i64 S1.vx,.int .i64 S1.vy] 62))
   have HQ11:=lh (HQ10.out.trans (Only.new W10 (.cells #[.int .i64 S1.vx,.int .i64 S1.vy] 62)) (U:=[BV]) (fun _ h _=>h) (by simp))
   have HB11:=lh ((Only.new W10 (.cells #[.int .i64 S1.vx,.int .i64 S1.vy] 62)).row HS1.out)
   have HBW:Hid (BV<W10.heap.size):=lh (Array.getElem?_eq_some_iff.1 HS1.out).1
   go_wp2_with fail
   generalize hW11:World.alloc W10 _=W11 at *
   clear hW11 b0 b1
   generalize W10.heap.size=V at *
   go_loopw [21,13,22,23,24,25] (fun a c _ _ _ _ wr=>∃ (k:Nat) (s:Seek),k≤3∧a=.int .i64 ((k:Int)-1)∧c=.int .i64 s.cost∧Hid (s=(nearPre S1.vx S1.vy k 0).foldl (tryE f b x y) S1)∧Hid (wr.heap[BV]?=some (.cells #[.int .i64 s.vx,.int .i64 s.vy] 62 (0,0)))∧Hid (Only [BV] W11 wr)) (fun a _ _ _ _ _ _=>((2:Int)-intOf a).toNat)
   case atStart=>exact ⟨0,S1,by omega,by first | rfl | go_num,rfl,lh (by simp [nearPre]),HB11,lh (Only.refl _ _)⟩
   case round =>
    obtain ⟨k,s,hk,rfl,rfl,HSs,HBk,HQk⟩:=hrel
    by_cases hlt:k<3
    ·have hki:(k:Int)-1≤1:=by omega
     go_wp2_with fail
     go_loopw [22,13,23,24,25] (fun a c _ _ _ wr=>∃ (n:Nat) (s:Seek),n≤3∧a=.int .i64 ((n:Int)-1)∧c=.int .i64 s.cost∧Hid (s=(nearPre S1.vx S1.vy k n).foldl (tryE f b x y) S1)∧Hid (wr.heap[BV]?=some (.cells #[.int .i64 s.vx,.int .i64 s.vy] 62 (0,0)))∧Hid (Only [BV] W11 wr)) (fun a _ _ _ _ _=>((2:Int)-intOf a).toNat)
     case atStart=>exact ⟨0,s,by omega,by first | rfl | go_num,rfl,HSs,HBk,HQk⟩
     case round =>
      obtain ⟨n,s,hn,rfl,rfl,HSn,HBn0,HQn⟩:=hrel
      by_cases hnlt:n<3
      ·have hni:(n:Int)-1≤1:=by omega
       obtain ⟨v0,v1,-⟩:=row2 (HQn.out.rowAt HVr.out (by rw [mSg];have:=HBW.out;omega))
       obtain ⟨X,hX⟩:∃ z,z=S1.vx+((n:Int)-1):=⟨_,rfl⟩
       obtain ⟨Y,hY⟩:∃ z,z=S1.vy+((k:Int)-1):=⟨_,rfl⟩
       have m1:IntKind.i64.wrap (S1.vx+((n:Int)-1))=X:=by rw [IntKind.wrap_i64];omega
       have m2:IntKind.i64.wrap (S1.vy+((k:Int)-1))=Y:=by rw [IntKind.wrap_i64];omega
       have Hyes:=lh (fun h=>by rw [nearPre_yes S1.vx S1.vy k n h,List.foldl_append,← HSn.out];rfl:mayV (S1.vx+((n:Int)-1),S1.vy+((k:Int)-1))=true→(nearPre S1.vx S1.vy k (n+1)).foldl (tryE f b x y) S1=tryE f b x y s (S1.vx+((n:Int)-1),S1.vy+((k:Int)-1)))
       have Hno:=lh (fun h=>by rw [nearPre_no S1.vx S1.vy k n h];exact HSn.out:mayV (S1.vx+((n:Int)-1),S1.vy+((k:Int)-1))=false→s=(nearPre S1.vx S1.vy k (n+1)).foldl (tryE f b x y) S1)
       rw [← hX,← hY] at Hyes Hno
       have HXYm:Hid (mayV (X,Y)=true→(-15≤X∧X≤15)∧(-15≤Y∧Y≤15)):=lh (fun h=>by unfold mayV at h;simp only [Bool.and_eq_true,decide_eq_true_eq] at h;omega)
       have HVX:=lh (fun W=>kvm_any X Y W)
       have HVv:=lh (heap_alloc_new wr (.cells #[.int .i64 X,.int .i64 Y] 62))
       have HQv:=lh (Only.new wr (.cells #[.int .i64 X,.int .i64 Y] 62))
       clear hX hY
       go_upto_region 29 with (fail)
       clear v0 v1 m1 m2
       generalize hWv:World.alloc wr _=Wv at *
       clear hWv
       generalize wr.heap.size=G at *
       obtain ⟨v0,v1,-⟩:=row2 HVv.out
       go_wp2_with fail
       clear v0 v1
       go_at_call 153
       refine (HVX.out Wv).mono ?_
       rintro e Wm ⟨rfl,hqm⟩
       have HVm:=lh (hqm.row HVv.out)
       have HQnm:=lh (HQn.out.trans (HQv.out.q hqm) (U:=[BV]) (fun _ h _=>h) (by simp))
       have HBnm:=lh ((HQv.out.q hqm).row HBn0.out)
       clear hqm HVX
       cases hm:mayV (X,Y) with
       | true =>
        have HXY:=lh (HXYm.out hm)
        have Hmore:=lh (Hyes.out hm)
        have HFm:=lh (HQnm.out.rowAt (HQ11.out.rowAt HF7.out (by rw [mSg];have:=HBv.out;omega)) (by rw [mSg];have:=HBv.out;omega))
        have HPWm:=lh (fun (W:World) (o:Only [] Wm W)=>HPW7.out W ((HQ11.out.trans HQnm.out (U:=[BV]) (fun _ h _=>h) (fun _ h _=>h)).trans o (U:=[BV]) (fun _ h _=>h) (by simp)))
        clear hm Hyes Hno HXYm
        go_upto_region 30 with (fail)
        obtain ⟨k2,hk2⟩:∃ z,z=costE (blockD f x y 8 X Y) b X Y:=⟨_,rfl⟩
        have HBl2:=lh (fun (W:World) (o:Only [] Wm W)=>kblock_any HF.out.1 (HPWm.out W o).1 x y (X) (Y) HF.out.2.1 HF.out.2.2 HXY.out.1 HXY.out.2)
        have HCo2:=lh (fun (W:World) (o:Only [] Wm W) (gv:Value) (hv:Ints .i64 0 W.heap.size W gv (blockD f x y 8 X Y))=>kcost_any (vx:=X) (vy:=Y) hv (HPWm.out W o).2 (by rw [blockD_len];exact HB.out.1) (by rw [blockD_len];omega) (HB.out.2.2 (X) (Y)) HB.out.2.1 HXY.out.1 HXY.out.2)
        rw [← hk2] at HCo2
        have Hk2:=lh hk2
        clear hk2
        have HS2:Hid (∀ wx:World,Only [] Wm wx→wx.heap[w.heap.size]?=some (.cells #[.int .i64 f.W,.int .i64 f.H,.slice pa f.pix.length pc] 24 (0,0))∧wx.heap[G]?=some (.cells #[.int .i64 X,.int .i64 Y] 62 (0,0))):=lh (fun wx o=>⟨o.row (HFm.out),o.row (HVm.out)⟩)
        go_cut [25,24] (fun sE s24 wx=>∃ (bE:Nat) (l1:Nat),sE=.pointer (some ⟨bE,0,none⟩)∧s24=.int .i64 k2∧Hid (Only [] Wm wx)∧Hid (wx.heap[bE]?=some (.cells #[.int .i64 0,.slice none 0 0] 39 (0,0)))∧Hid (Wm.heap.size≤l1∧l1≤wx.heap.size)∧Hid (Triv l1 l1 wx)∧Hid (Wm.heap.size≤bE∧(bE<l1∨l1≤bE)))
        case first =>
         have o:=lh (Only.refl [] Wm)
         refine wp_region_held_drew (S:=(fun wz=>wz.heap[w.heap.size]?=some (.cells #[.int .i64 f.W,.int .i64 f.H,.slice pa f.pix.length pc] 24 (0,0))∧wz.heap[G]?=some (.cells #[.int .i64 X,.int .i64 Y] 62 (0,0)))) (by kernel_rfl) ?_ (fun hHeld=>?_)
         ·first | exact HS2.out _ (Only.refl _ _) | exact HS2.out _ (Only.refl _ _).drew
         refine tkw 0 129 ⟨rfl,qDRkSet0⟩ ?_
         refine tkw 1 130 ⟨rfl,qDRkSet0⟩ ?_
         refine tkw 2 131 ⟨rfl,qDRkSet0⟩ ?_
         refine tkw 3 132 ⟨rfl,qDRkSet0⟩ ?_
         refine tkw 5 134 ⟨rfl,qDRkSet0⟩ ?_
         refine tkw 6 135 ⟨rfl,qDRkSet0⟩ ?_
         refine rdy (rdc 4 133 (fun K hK=>?_) (rdc 11 25 (fun K hK=>?_) .nil))
         ·go_simp
          go_at_call 103
          refine (HBl2.out _ (by first | exact o.out | exact o.out.drew)).mono ?_
          rintro e v' ⟨vv,rfl,ho9,hq⟩
          obtain ⟨g2,c2,rfl,-,-⟩:=ho9.form (by rw [blockD_len];omega)
          have hP:Ints .i64 0 v'.heap.size v' (.slice (some ⟨g2,0,none⟩) (blockD f x y 8 X Y).length c2) (blockD f x y 8 X Y):=ho9.ints.mono (Nat.zero_le _) (Nat.le_refl _)
          clear ho9
          have q:Only [] Wm v':=by first | exact hq | exact ((Only.refl _ _).drew).q hq
          have HPp2:=lh hP
          replace o:=lh (o.out.q q)
          clear hq q hP
          obtain ⟨v,rfl⟩:∃ z,z=v':=⟨_,rfl⟩
          refine hK.out _ _ ?_ (fun hHeld=>?_)
          ·exact qDRkSe6
          clear hK K
          refine rdy (rdc 7 136 (fun K hK=>?_) (rdc 11 25 (fun K hK=>?_) .nil))
          ·go_simp
           go_at_call 105
           refine (HCo2.out _ (by first | exact o.out | exact o.out.drew) _ (by first | exact HPp2.out | exact HPp2.out.quiet (Only.refl _ _).drew)).mono ?_
           rintro e v' ⟨rfl,hq⟩
           obtain ⟨l1,hl1⟩:∃ z,z=v.heap.size:=⟨_,rfl⟩
           have hKf:Triv l1 l1 v':=trivial
           have hKl:v.heap.size≤l1:=by omega
           have hKh:l1≤v'.heap.size:=by rw [hl1];first | exact hq.size | exact ((Only.refl _ _).drew.q hq).size
           clear hl1
           have q:Only [] v v':=by first | exact hq | exact ((Only.refl _ _).drew).q hq
           have hVl:Wm.heap.size≤v.heap.size:=o.out.size
           replace HPp2:Hid (Ints .i64 0 v'.heap.size v' (.slice (some ⟨g2,0,none⟩) (blockD f x y 8 X Y).length c2) (blockD f x y 8 X Y)):=lh ((HPp2.out.quiet q).mono (Nat.le_refl _) q.size)
           have HK:=lh hKf
           have HKb:Hid (Wm.heap.size≤l1∧l1≤v'.heap.size):=lh ⟨by omega,hKh⟩
           replace o:=lh (o.out.q q)
           clear hq q hKf hKl hKh hVl
           obtain ⟨v,rfl⟩:∃ z,z=v':=⟨_,rfl⟩
           refine hK.out _ _ ?_ (fun hHeld=>?_)
           ·exact qDRkSe6
           clear hK K
           refine tkw 8 128 ⟨rfl,qDRkSet0⟩ ?_
           refine tkw 9 137 ⟨rfl,qDRkSet0⟩ ?_
           refine tkw 10 138 ⟨rfl,qDRkSet0⟩ ?_
           refine rdy (rdc 11 25 (fun K hK=>?_) .nil)
           go_simp
           generalize hW:World.alloc _ _=v'
           have q:Only [] v v':=by rw [← hW];first | exact Only.new _ _ | exact ((Only.refl _ _).drew).q (Only.new _ _)
           have HE:Hid (v'.heap[v.heap.size]?=some (.cells #[.int .i64 0,.slice none 0 0] 39 (0,0))):=lh (by rw [← hW];exact heap_alloc_new _ _)
           have hz:Wm.heap.size≤v.heap.size:=o.out.size
           have HkE:Hid (Wm.heap.size≤v.heap.size∧(v.heap.size<l1∨l1≤v.heap.size)):=lh ⟨hz,.inr HKb.out.2⟩
           replace HK:Hid (Triv l1 l1 v'):=lh (HK.out.only q (by simp))
           replace HKb:Hid (Wm.heap.size≤l1∧l1≤v'.heap.size):=lh ⟨HKb.out.1,Nat.le_trans HKb.out.2 q.size⟩
           replace HPp2:Hid (Ints .i64 0 v'.heap.size v' (.slice (some ⟨g2,0,none⟩) (blockD f x y 8 X Y).length c2) (blockD f x y 8 X Y)):=lh ((HPp2.out.quiet q).mono (Nat.le_refl _) q.size)
           replace o:=lh (o.out.q q)
           clear hW q
           generalize hb:v.heap.size=bE at HE HkE ⊢
           have HzE:Hid (Wm.heap.size≤bE):=lh (by rw [← hb];exact hz)
           clear hb hz
           obtain ⟨v,rfl⟩:∃ z,z=v':=⟨_,rfl⟩
           refine hK.out _ _ ?_ (fun hHeld=>?_)
           ·exact qDRkSe6
           clear hK K
           refine tkw 12 24 ⟨rfl,qDRkSet0⟩ ?_
           refine rdy (rdn 13 (fun K hK=>?_) .nil)
           refine wp_store_rowK (.tmp 25) (.tmp 138) 39 rfl (g:=bE) (c':=#[.int .i64 0,.slice none 0 0]) rfl rfl HE.out (err_size _ _) rfl (by first | kernel_rfl | simp [Value.oneCell']) (fun v' hq hr=>?_)
           have q:Only [bE] v v':=by first | exact hq | exact ((Only.refl _ _).drew.mono (U:=[bE]) (by simp)).trans hq (fun g h _=>h) (fun g h _=>h)
           replace HE:=lh hr
           replace HK:Hid (Triv l1 l1 v'):=lh (HK.out.only q (fun g hg=>by rw [mSg] at hg;subst hg;exact HkE.out.2))
           replace HKb:Hid (Wm.heap.size≤l1∧l1≤v'.heap.size):=lh ⟨HKb.out.1,Nat.le_trans HKb.out.2 q.size⟩
           replace o:Hid (Only [] Wm v'):=lh (o.out.trans q (by simp) (fun g hg hlt=>by rw [mSg] at hg;have:=HkE.out.1;omega))
           clear hq hr q
           obtain ⟨v,rfl⟩:∃ z,z=v':=⟨_,rfl⟩
           refine hK.out _ _ ?_ (fun hHeld=>?_)
           ·exact qDRkSe6
           exact qDRkSe3
          ·go_simp
           generalize hW:World.alloc _ _=v'
           have q:Only [] v v':=by rw [← hW];first | exact Only.new _ _ | exact ((Only.refl _ _).drew).q (Only.new _ _)
           have HE:Hid (v'.heap[v.heap.size]?=some (.cells #[.int .i64 0,.slice none 0 0] 39 (0,0))):=lh (by rw [← hW];exact heap_alloc_new _ _)
           have hz:Wm.heap.size≤v.heap.size:=o.out.size
           replace HPp2:Hid (Ints .i64 0 v'.heap.size v' (.slice (some ⟨g2,0,none⟩) (blockD f x y 8 X Y).length c2) (blockD f x y 8 X Y)):=lh ((HPp2.out.quiet q).mono (Nat.le_refl _) q.size)
           replace o:=lh (o.out.q q)
           clear hW q
           generalize hb:v.heap.size=bE at HE ⊢
           have HzE:Hid (Wm.heap.size≤bE):=lh (by rw [← hb];exact hz)
           clear hb hz
           exact qDRkSe0
         ·go_simp
          generalize hW:World.alloc _ _=v'
          have q:Only [] Wm v':=by rw [← hW];first | exact Only.new _ _ | exact ((Only.refl _ _).drew).q (Only.new _ _)
          have HE:Hid (v'.heap[Wm.heap.size]?=some (.cells #[.int .i64 0,.slice none 0 0] 39 (0,0))):=lh (by rw [← hW];exact heap_alloc_new _ _)
          have hz:Wm.heap.size≤Wm.heap.size:=o.out.size
          replace o:=lh (o.out.q q)
          clear hW q
          generalize hb:Wm.heap.size=bE at HE ⊢
          have HzE:Hid (Wm.heap.size≤bE):=lh (by rw [← hb];exact hz)
          clear hb hz
          obtain ⟨v,rfl⟩:∃ z,z=v':=⟨_,rfl⟩
          refine hK.out _ _ ?_ (fun hHeld=>?_)
          ·exact qDRkSe6
          clear hK K
          refine rdy (rdc 4 133 (fun K hK=>?_) .nil)
          go_simp
          go_at_call 103
          refine (HBl2.out _ (by first | exact o.out | exact o.out.drew)).mono ?_
          rintro e v' ⟨vv,rfl,ho9,hq⟩
          obtain ⟨g2,c2,rfl,-,-⟩:=ho9.form (by rw [blockD_len];omega)
          have hP:Ints .i64 0 v'.heap.size v' (.slice (some ⟨g2,0,none⟩) (blockD f x y 8 X Y).length c2) (blockD f x y 8 X Y):=ho9.ints.mono (Nat.zero_le _) (Nat.le_refl _)
          clear ho9
          have q:Only [] v v':=by first | exact hq | exact ((Only.refl _ _).drew).q hq
          replace HE:=lh (q.row HE.out)
          have HPp2:=lh hP
          replace o:=lh (o.out.q q)
          clear hq q hP
          exact qDRkSe0
        case rest =>
         obtain ⟨bE,l1,rfl,rfl,HOr,-,-,-,-⟩:=hcut
         have HVn:=lh (HOr.out.row HVm.out)
         have HBn:=lh (HOr.out.row HBnm.out)
         have HQw:=lh (HQnm.out.trans HOr.out (U:=[BV]) (fun _ h _=>h) (by simp))
         by_cases hbt:k2<s.cost
         ·have hst:tryE f b x y s (X,Y)=⟨X,Y,k2⟩:=by unfold tryE;simp only;rw [← Hk2.out,if_pos hbt]
          have HSt:=lh hst
          clear hst
          obtain ⟨b0,b1,bf0,bf1,-⟩:=row2 HBn.out
          obtain ⟨v0,v1,-⟩:=row2 HVn.out
          obtain ⟨hrow,hon⟩:=row2_set (x:=.int .i64 (X)) (y:=.int .i64 (Y)) HBn.out
          have HRow:=lh hrow
          have HOn:=lh hon
          clear hrow hon
          go_wp2_with fail
          refine ⟨⟨n+1,⟨X,Y,k2⟩,by omega,by go_num,rfl,lh (by rw [Hmore.out,HSt.out]),HRow,lh (HQw.out.trans HOn.out (U:=[BV]) (fun _ h _=>h) (fun _ h _=>h))⟩,by simp [intOf];omega⟩
         ·have hst:tryE f b x y s (X,Y)=s:=by unfold tryE;simp only;rw [← Hk2.out,if_neg hbt]
          exact qDRkSe7
       | false =>
        have Hsame:=lh (Hno.out hm)
        clear hm Hyes Hno HXYm
        go_wp2_with fail
        exact ⟨⟨n+1,s,by omega,by go_num,rfl,Hsame,HBnm,HQnm⟩,by simp [intOf];omega⟩
      ·obtain rfl:n=3:=by omega
       have hni:¬ (((3:Nat):Int)-1)≤1:=by omega
       have Hrow:=lh (nearPre_row S1.vx S1.vy k)
       rw [Hrow.out] at HSn
       go_wp2_with fail
       exact ⟨⟨k+1,s,by omega,by go_num,rfl,HSn,HBn0,HQn⟩,by simp [intOf];omega⟩
    ·obtain rfl:k=3:=by omega
     have hki:¬ (((3:Nat):Int)-1)≤1:=by omega
     have Hall:=lh (nearPre_all S1.vx S1.vy)
     rw [Hall.out,← HE.out] at HSs
     have hs2:=HSs.out
     subst hs2
     have HQe:=lh (HQ11.out.trans HQk.out (U:=[BV]) (fun _ h _=>h) (fun _ h _=>h))
     have hre:=HQe.out.rowAt (HO7.out.row (HX6.out.row HE1.out)) (by rw [mSg];have:=HBv.out;omega)
     have hrr:=HQe.out.rowAt (HO7.out.row (HX6.out.row HR1.out)) (by rw [mSg];have:=HBv.out;omega)
     obtain ⟨b0,b1,-⟩:=row2 HBk.out
     obtain ⟨v0,v1,y0,y1,-⟩:=row2 hrr
     obtain ⟨hrow,hon⟩:=row2_set (x:=.int .i64 s.vx) (y:=.int .i64 s.vy) hrr
     have hre2:=hon.rowAt hre (by rw [mSg];omega)
     obtain ⟨t0,t1,u0,u1,-⟩:=row2 hre2
     obtain ⟨hrow2,hon2⟩:=row2_set (x:=.int .i64 0) (y:=.slice none 0 0) hre2
     have hrow3:=hon2.rowAt hrow (by rw [mSg];omega)
     have HRow:=lh (And.intro hrow3 hrow2)
     have HOn:=lh (hon.trans hon2 (U:=[w.heap.size+1,w.heap.size+1+1]) (by simp) (by simp))
     clear hrow hon hrow2 hon2 hrow3 hre hrr
     go_wp2_with fail
     refine bodyPost_ret (v:=.tuple #[.agg #[.int .i64 s.vx,.int .i64 s.vy],.agg #[.int .i64 0,.slice none 0 0]]) (results_cell_cell Tryz.results104 _ _ (w.heap.size+1) (w.heap.size+1+1) _ _ _ _ _ _ _ _ rfl rfl HRow.out.1 HRow.out.2 Tryz.underlying62 rfl (by kernel_rfl) Tryz.underlying39 rfl (err_info _ rfl)) rfl (HPost.out _ _ ⟨rfl,?_⟩)
     exact ((HQ6.out.q HO7.out).trans HQe.out (U:=[]) (by simp) (fun g hg hlt=>by rw [mSg] at hg;have:=HBv.out;omega)).trans HOn.out (U:=[]) (by simp) (fun g hg hlt=>by simp only [List.mem_cons,List.not_mem_nil,or_false] at hg;omega)
end
end Go.Proofs.YtmgbbgffkakcaaaGreatDoor
