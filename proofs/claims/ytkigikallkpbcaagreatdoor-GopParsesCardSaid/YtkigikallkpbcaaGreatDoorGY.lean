/- Joined texts: GKPr, GKPa. Conditions: each part names its own. -/
import Derived.Test.YtkigikallkpbcaaGreatDoorT1
import Derived.Test.YtkigikallkpbcaaGreatDoorH2
import Derived.Test.YtkigikallkpbcaaGreatDoorG5
import Derived.Deep.DeepCutAuto
namespace Go.Proofs.YtkigikallkpbcaaGreatDoor
open Go.RowKit
set_option linter.unusedVariables false
set_option linter.unusedSimpArgs false
set_option maxRecDepth 100000
set_option maxHeartbeats 16000000
/-- what parse hands back -/
def KParseP (K:KS) (R:Nat) (w:World) (e:Ending) (w':World):Prop :=
 JOnly R w.heap.size w w'∧match kparseR K.l with
  | .error x=>∃ (z0 z1 z2:Int) (za:Option Addr) (zn zc:Nat) (sa:Option Addr) (sc:Nat),e=.returned (.tuple #[.agg #[.int .i64 z0,.int .i64 z1,.int .i64 z2,.slice za zn zc],.agg #[.int .i64 x.1.code,.slice sa x.1.path.length sc]])∧Cells 2 K.lo K.hi w' (.slice sa x.1.path.length sc) x.1.path.length (flat x.1.path)∧w'.cell? ⟨R,1,none⟩=some (.int .i64 x.2)∧x.1.code≠0∧x.1.path.length≤1
  | .ok k=>∃ (a:Option Addr) (cap:Nat) (sa:Option Addr) (sc:Nat),e=.returned (.tuple #[.agg #[.int .i64 k.number,.int .i64 k.first,.int .i64 k.count,.slice a k.coded.length cap],.agg #[.int .i64 0,.slice sa 0 sc]])∧CodedsAt K.lo w'.heap.size w' (.slice a k.coded.length cap) k.coded∧Cells 2 K.lo K.hi w' (.slice sa 0 sc) 0 []
theorem KParseP.bad {K:KS} {R:Nat} {w w':World} {e:Ending} {er:Err} {m:Nat} {z0 z1 z2:Int} {za:Option Addr} {zn zc:Nat} {sa:Option Addr} {sc:Nat} (h:kparseR K.l=.error (er,m)) (o:JOnly R w.heap.size w w')
  (he:e=.returned (.tuple #[.agg #[.int .i64 z0,.int .i64 z1,.int .i64 z2,.slice za zn zc],.agg #[.int .i64 er.code,.slice sa er.path.length sc]])) (hc:Cells 2 K.lo K.hi w' (.slice sa er.path.length sc) er.path.length (flat er.path)) (hr:w'.cell? ⟨R,1,none⟩=some (.int .i64 m)) (h0:er.code≠0) (h1:er.path.length≤1):KParseP K R w e w':=by
 refine ⟨o,?_⟩
 rw [h]
 exact ⟨z0,z1,z2,za,zn,zc,sa,sc,he,hc,hr,h0,h1⟩
theorem KParseP.good {K:KS} {R:Nat} {w w':World} {e:Ending} {k:Chunk} {a:Option Addr} {cap:Nat} {sa:Option Addr} {sc:Nat} (h:kparseR K.l=.ok k) (o:JOnly R w.heap.size w w')
  (he:e=.returned (.tuple #[.agg #[.int .i64 k.number,.int .i64 k.first,.int .i64 k.count,.slice a k.coded.length cap],.agg #[.int .i64 0,.slice sa 0 sc]])) (hc:CodedsAt K.lo w'.heap.size w' (.slice a k.coded.length cap) k.coded) (hz:Cells 2 K.lo K.hi w' (.slice sa 0 sc) 0 []):KParseP K R w e w':=by
 refine ⟨o,?_⟩
 rw [h]
 exact ⟨a,cap,sa,sc,he,hc,hz⟩
theorem endR_err {l:List Int} {p:Nat} {er:Err} (h:endR l p=some er):er.code≠0∧er.path.length≤1:=by
 unfold endR at h
 split at h
 ·split at h
  ·rename_i e he;cases h;exact kpeekR_err he
  ·cases h;exact ⟨by simp,by simp⟩
 ·cases h
section
theorem qGKPr0 {p:Prop} (h:p:=by
 go_wp2_with fail
 clear hw1
 generalize hW3:World.setCell _ _ _=W3 at *
 clear hW3
 go_at_call 40
 refine (fail_any _ _).mono ?_
 rintro e w4 ⟨rfl,hq4⟩
 have HC2:=lh (hq4.row (HO3.out.rowAt HC2.out (by have:=HB2.out;have:=HRw.out;simp;omega)))
 have HE3:=lh (hq4.row (HO3.out.rowAt HE2.out (by have:=HB2.out;have:=HRw.out;simp;omega)))
 have HQ4:=lh hq4
 clear hq4
 obtain ⟨z0,z1,z2,z3⟩:=row4_cells HC2.out
 have f0:=frozen_of_row _ _ 0 _ _ HC2.out
 have f1:=frozen_of_row _ _ 1 _ _ HC2.out
 have f2:=frozen_of_row _ _ 2 _ _ HC2.out
 have f3:=frozen_of_row _ _ 3 _ _ HC2.out
 obtain ⟨y0,y1,g0,g1,-⟩:=row2 HE3.out
 go_wp2_with fail
 generalize hWf:World.setCell _ _ _=Wf
 obtain ⟨⟨t0,t1,t2,t3⟩,⟨s0,s1⟩,oF⟩:=set6 HC2.out HE3.out (by omega) hWf
 refine bodyPost_ret (v:=.tuple #[.agg #[.int .i64 0,.int .i64 0,.int .i64 0,.slice none 0 0],.agg #[.int .i64 2,.slice none 0 0]]) (by simp [results,Tryz.results55,go_sem,t0,t1,t2,t3,s0,s1]) rfl (HPost.out _ _ ?_)
 have hge:∀ g,g∈[B2,B2+1]→w.heap.size≤g∧K.hi≤g∧g≠R:=fun g hg=>by have:=HB2.out;have:=HRw.out;simp at hg;omega
 refine KParseP.bad HEr.out (((HJ2.out.trans (JOnly.mk' HO3.out (fun g hg=>.inl (by simpa using hg)))).trans (JOnly.of HQ4.out)).trans (JOnly.mk' oF (fun g hg=>.inr (hge g hg).1))) rfl (Cells.nil _ _ _ _) ?_ (by simp) (by simp)
 exact ((HSet.out.quiet HQ4.out).only oF (fun g hg=>⟨(hge g hg).2.1,(hge g hg).2.2⟩)).c1):p:=h
theorem kparse_any {K:KS} {R:Nat} {w:World} (h:KRd K R w 0 0) (hlo:K.lo≤K.hi) :
  Calls Tryz.prog 55 #[.pointer (some ⟨R,0,none⟩)] w (KParseP K R w):=by
 refine hidQ fun Q HPost=>?_
 obtain ⟨hb,HC0,HE0,HZ0⟩:=boxes2 w (.cells #[.int .i64 0,.int .i64 0,.int .i64 0,.slice none 0 0] 41) (.cells #[.int .i64 0,.slice none 0 0] 38)
 have HRw:Hid (K.hi≤R∧R<w.heap.size):=lh ⟨h.hiR,h.lt⟩
 have HQ0:=lh hb
 have HLo:=lh hlo
 have HTk:=lh (ktake_any (h.quiet hb))
 have HIn:=lh h.r8
 have HSm:=lh h.small
 have HK:=lh h
 clear h hb hlo
 go_enter Tryz.func55,Tryz.ntmps55
 go_wp2_with fail
 generalize hW0:World.alloc (World.alloc w _) _=W0 at *
 clear hW0
 obtain ⟨B2,hB2⟩:∃ z,z=w.heap.size:=⟨_,rfl⟩
 rw [← hB2] at HC0 HE0 ⊢
 have HB2:=lh hB2
 clear hB2
 go_at_call 73
 refine HTk.out.mono ?_
 rintro e w1 ⟨hq1,hm⟩
 have HJ1:Hid (JOnly R w.heap.size w w1):=lh ((JOnly.of HQ0.out).trans (JOnly.mk' hq1 (fun g hg=>.inl (by simpa using hg))))
 have hneR:∀ g,B2≤g→g∉[R]:=fun g hg hm=>by rw [mSg] at hm;have:=HRw.out;have:=HB2.out;omega
 have HC1:=lh (hq1.rowAt HC0.out (hneR _ (Nat.le_refl _)))
 have HE1:=lh (hq1.rowAt HE0.out (hneR _ (Nat.le_succ _)))
 have HZ1:Hid (B2+1<w1.heap.size):=lh (by have:=hq1.size;have:=HZ0.out;have:=HB2.out;omega)
 clear hq1 hneR
 cases hpk:peekR K.l 0 with
 | error er =>
  rw [hpk] at hm
  obtain ⟨sa,sc,rfl,hcs,hkr⟩:=hm
  obtain ⟨hne,hpl⟩:=kpeekR_err hpk
  have HEr:Hid (kparseR K.l=.error (er,0)):=lh (by unfold kparseR;rw [hpk])
  have HNe:=lh (And.intro hne hpl)
  have HCs:=lh hcs
  have HKr:=lh hkr
  have hcb:(er.code == 0)=false:=by rw [beq_eq_false_iff_ne];exact hne
  clear hpk hcs hkr hne hpl
  go_wp2_with fail
  go_at_call 47
  refine (ok_any _ _ _).mono ?_
  rintro e w2 ⟨rfl,hq2⟩
  rw [hcb]
  have hqA:=((Only.new w1 zUnit).q (Only.new _ (.cells #[.int .i64 er.code,.slice sa er.path.length sc] 38))).q hq2
  have rX:=hq2.row (heap_alloc_new' (w:=w1.alloc zUnit) (o:=.cells #[.int .i64 er.code,.slice sa er.path.length sc] 38) (g:=w1.heap.size+1) (by simp))
  have HC2:=lh (hqA.row HC1.out)
  have HE3:=lh (hqA.row HE1.out)
  have HQ2:=lh hqA
  obtain ⟨x0,x1,-⟩:=row2 rX
  obtain ⟨z0,z1,z2,z3⟩:=row4_cells HC2.out
  have f0:=frozen_of_row _ _ 0 _ _ HC2.out
  have f1:=frozen_of_row _ _ 1 _ _ HC2.out
  have f2:=frozen_of_row _ _ 2 _ _ HC2.out
  have f3:=frozen_of_row _ _ 3 _ _ HC2.out
  obtain ⟨y0,y1,g0,g1,-⟩:=row2 HE3.out
  have hn1:¬ B2=w1.heap.size+1:=by have:=HZ1.out;omega
  have hn2:¬ B2+1=w1.heap.size+1:=by have:=HZ1.out;omega
  clear rX hq2 hqA
  go_wp2_with fail
  go_region
  go_wp2_with fail
  generalize hWf:World.setCell _ _ _=Wf
  obtain ⟨⟨t0,t1,t2,t3⟩,⟨s0,s1⟩,oF⟩:=set6 HC2.out HE3.out (by omega) hWf
  refine bodyPost_ret (v:=.tuple #[.agg #[.int .i64 0,.int .i64 0,.int .i64 0,.slice none 0 0],.agg #[.int .i64 er.code,.slice sa er.path.length sc]]) (by simp [results,Tryz.results55,go_sem,t0,t1,t2,t3,s0,s1]) rfl (HPost.out _ _ ?_)
  have hge:∀ g,g∈[B2,B2+1]→w.heap.size≤g∧K.hi≤g∧g≠R:=fun g hg=>by have:=HB2.out;have:=HRw.out;simp at hg;omega
  refine KParseP.bad HEr.out (((HJ1.out.trans (JOnly.of HQ2.out)).trans (JOnly.mk' oF (fun g hg=>.inr (hge g hg).1))).trans (JOnly.of (Only.refl [] _).drew)) rfl ?_ ?_ HNe.out.1 HNe.out.2
  ·exact ((HCs.out.only HQ2.out (by simp)).only oF (fun g hg=>.inr (hge g hg).2.1)).only (Only.refl [] _).drew (by simp)
  ·exact (((HKr.out.quiet HQ2.out).only oF (fun g hg=>⟨(hge g hg).2.1,(hge g hg).2.2⟩)).quiet (Only.refl _ _).drew).c1
 | ok u =>
  rw [hpk] at hm
  obtain ⟨dv,rfl,hd,hkr⟩:=hm
  obtain ⟨uk,ud,ua,ue⟩:=u
  simp only at hd hkr
  have hpo:=peekR_ok hpk HK.out.ple HK.out.r8
  simp only at hpo
  obtain ⟨huat,hue,hule,huk0,huk1,hud⟩:=hpo
  have hdl:(ud.length:Int)≤9223372036854775807:=by have:=hd.1.len_le;unfold maxLen at this;omega
  have HUk:Hid (0≤uk∧uk≤255):=lh ⟨huk0,huk1⟩
  have HPs0:Hid (kparseR K.l=if headU ⟨uk,ud,ua,ue⟩=true then (match kframesGo K.l (ud.getD 2 0).toNat 0 ue [] with
   | .error x=>.error x
   | .ok x=>match endR K.l x.2.1 with
    | some e=>.error (e,x.2.2)
    | none=>.ok ⟨ud.getD 0 0,ud.getD 1 0,ud.getD 2 0,x.1⟩) else .error (⟨[],2⟩,0)):=lh (by unfold kparseR;rw [hpk];rfl)
  obtain ⟨da,dc,rfl,-,-,hda,hdc⟩:=hd.open
  have HD:=lh hd
  have HDa:=lh hda
  have HDc:=lh hdc
  have HKr:=lh hkr
  clear hpk huat hue hule huk0 huk1 hud hd hda hdc hkr
  go_wp2_with fail
  go_at_call 47
  refine (ok_any _ _ _).mono ?_
  rintro e w2 ⟨rfl,hq2⟩
  simp only [BEq.rfl]
  have hqA:=((Only.new w1 (.cells #[.int .i64 uk,.slice da ud.length dc,.int .i64 ua,.int .i64 ue] 105)).q (Only.new _ zErr)).q hq2
  have HX2:=lh (hq2.row ((Only.new _ zErr).row (heap_alloc_new w1 (.cells #[.int .i64 uk,.slice da ud.length dc,.int .i64 ua,.int .i64 ue] 105))))
  have HC2:=lh (hqA.row HC1.out)
  have HE2:=lh (hqA.row HE1.out)
  have HQ2:=lh hqA
  have HJ2:Hid (JOnly R w.heap.size w w2):=lh (HJ1.out.trans (JOnly.of hqA))
  have HK2:=lh (HKr.out.quiet hqA)
  have HZ2:Hid (B2+1<w1.heap.size∧w1.heap.size+2≤w2.heap.size):=lh ⟨HZ1.out,by have:=hqA.size;have:=hq2.size;simp at this;omega⟩
  clear hq2 hqA
  obtain ⟨X,hX⟩:∃ z,z=w1.heap.size:=⟨_,rfl⟩
  rw [← hX] at HX2 HZ2 ⊢
  have HXe:=lh hX
  clear hX
  cases hh:headU ⟨uk,ud,ua,ue⟩ with
  | false =>
   have HEr:Hid (kparseR K.l=.error (⟨[],2⟩,0)):=lh (by rw [HPs0.out,if_neg (by rw [hh];decide)])
   have hx8:ud.length=3→InK .u8 (ud.getD 0 0)∧InK .u8 (ud.getD 1 0)∧InK .u8 (ud.getD 2 0):=fun h=>⟨HD.out.range (i:=0) (by omega),HD.out.range (i:=1) (by omega),HD.out.range (i:=2) (by omega)⟩
   have hcl:ud.length=3→∃ db doff,da=some ⟨db,doff,none⟩∧w2.cell? ⟨db,doff,none⟩=some (.int .u8 (ud.getD 0 0))∧w2.cell? ⟨db,doff+1,none⟩=some (.int .u8 (ud.getD 1 0))∧w2.cell? ⟨db,doff+2,none⟩=some (.int .u8 (ud.getD 2 0)):=fun h=>by
    obtain ⟨db,doff,e,-,-⟩:=HDa.out 0 (by omega)
    have d0:=HDc.out db doff e 0 (by omega)
    rw [Nat.add_zero] at d0
    exact ⟨db,doff,e,HQ2.out.cell d0 (by simp),HQ2.out.cell (HDc.out db doff e 1 (by omega)) (by simp),HQ2.out.cell (HDc.out db doff e 2 (by omega)) (by simp)⟩
   have hways:(¬ uk=32)∨(uk=32∧¬ (ud.length:Int)=3)∨(uk=32∧ud.length=3∧(15<ud.getD 0 0∨(¬ 15<ud.getD 0 0∧(15<ud.getD 1 0∨(¬ 15<ud.getD 1 0∧(ud.getD 2 0<1∨(¬ ud.getD 2 0<1∧16<ud.getD 2 0))))))):=by
    unfold headU at hh
    by_cases h1:uk=32
    ·by_cases h2:ud.length=3
     ·refine .inr (.inr ⟨h1,h2,?_⟩)
      have h8:=hx8 h2
      unfold InK at h8
      simp only [h1,h2,decide_true,Bool.true_and] at hh
      unfold headB at hh
      rw [decide_eq_false_iff_not] at hh
      generalize ud.getD 0 0=y0 at *
      generalize ud.getD 1 0=y1 at *
      generalize ud.getD 2 0=y2 at *
      simp only at h8
      omega
     ·exact .inr (.inl ⟨h1,by omega⟩)
    ·exact .inl h1
   have c1:=HK2.out.c1
   obtain ⟨N1,hN1⟩:∃ N1:Int,(((0:Nat)+1:Nat):Int)=N1:=⟨_,rfl⟩
   rw [hN1] at c1
   have hw1:IntKind.i64.wrap (N1-1)=0:=by rw [IntKind.wrap_i64];omega
   have kf:=frozen_of_row w2 R 1 _ _ HK2.out.row
   have hset:KRd K R (w2.setCell ⟨R,1,none⟩ (.int .i64 ((0:Nat):Int))) 0 0:=HK2.out.set HK.out.spl HK.out.le HK.out.zero HK.out.last HK.out.ple
   have o3:Only [R] w2 (w2.setCell ⟨R,1,none⟩ (.int .i64 ((0:Nat):Int))):=(Only.refl _ _).setCell (by simp) _
   have HSet:=lh hset
   have HO3:=lh o3
   obtain ⟨x0,x1,x2,x3⟩:=row4_cells HX2.out
   clear hN1 hset o3 hh HPs0 HD HDa HDc HTk
   rcases hways with hb | ⟨rfl,hb⟩ | ⟨rfl,h3,hb⟩
   ·clear hx8 hcl
    exact qGKPr0
   ·clear hx8 hcl
    exact qGKPr0
   ·obtain ⟨i0,i1,i2⟩:=hx8 h3
    obtain ⟨db,doff,rfl,d0,d1,d2⟩:=hcl h3
    generalize ud.getD 0 0=v0 at *
    generalize ud.getD 1 0=v1 at *
    generalize ud.getD 2 0=v2 at *
    clear hx8 hcl hdl
    generalize ud.length=m at *
    subst h3
    rcases hb with hb | ⟨hb0,hb | ⟨hb1,hb | ⟨hb2,hb⟩⟩⟩
    ·exact qGKPr0
    ·exact qGKPr0
    ·exact qGKPr0
    ·exact qGKPr0
  | true =>
   have HPs:Hid (kparseR K.l=(match kframesGo K.l (ud.getD 2 0).toNat 0 ue [] with
    | .error x=>.error x
    | .ok x=>match endR K.l x.2.1 with
     | some e=>.error (e,x.2.2)
     | none=>.ok ⟨ud.getD 0 0,ud.getD 1 0,ud.getD 2 0,x.1⟩)):=lh (by rw [HPs0.out,if_pos hh])
   unfold headU at hh
   simp only [Bool.and_eq_true,decide_eq_true_eq] at hh
   obtain ⟨⟨h1,h3⟩,hb⟩:=hh
   obtain ⟨db,doff,rfl,-,-⟩:=HDa.out 0 (by omega)
   have d0:=HDc.out db doff rfl 0 (by omega)
   rw [Nat.add_zero] at d0
   have d0:=HQ2.out.cell d0 (by simp)
   have d1:=HQ2.out.cell (HDc.out db doff rfl 1 (by omega)) (by simp)
   have d2:=HQ2.out.cell (HDc.out db doff rfl 2 (by omega)) (by simp)
   unfold headB at hb
   rw [decide_eq_true_eq] at hb
   obtain ⟨x0,x1,x2,x3⟩:=row4_cells HX2.out
   clear HPs0 HDa HDc HTk HD hdl
   generalize ud.getD 0 0=v0 at *
   generalize ud.getD 1 0=v1 at *
   obtain ⟨N,hN⟩:∃ N:Nat,ud.getD 2 0=(N:Int):=⟨(ud.getD 2 0).toNat,by omega⟩
   rw [hN] at HPs hb d2
   clear hN
   rw [Int.toNat_natCast] at HPs
   have w0:IntKind.i64.wrap v0=v0:=by rw [IntKind.wrap_i64];omega
   have w1':IntKind.i64.wrap v1=v1:=by rw [IntKind.wrap_i64];omega
   have w2':IntKind.i64.wrap (N:Int)=N:=by rw [IntKind.wrap_i64];omega
   have g0:¬ 15<v0:=by omega
   have g1:¬ 15<v1:=by omega
   have g2:¬ (N:Int)<1:=by omega
   have g3:¬ (16:Int)<N:=by omega
   have HN:Hid (1≤N∧N≤16):=lh (by omega)
   have HV:Hid (0≤v0∧v0≤15∧0≤v1∧v1≤15):=lh (by omega)
   clear hb
   generalize ud.length=m at *
   subst h3
   subst h1
   have HS8:Hid (∀ wx:World,Only [] w2 wx→wx.cell? ⟨db,doff,none⟩=some (.int .u8 v0)∧wx.cell? ⟨db,doff+1,none⟩=some (.int .u8 v1)∧wx.cell? ⟨db,doff+2,none⟩=some (.int .u8 (N:Int))):=lh (fun wx o=>⟨o.cell d0 (by simp),o.cell d1 (by simp),o.cell d2 (by simp)⟩)
   go_upto_region 8 with (fail)
   clear x0 x1 x2 x3 d0 d1 d2
   refine wp_region_held_drew (S:=(fun wz=>wz.cell? ⟨db,doff,none⟩=some (.int .u8 v0)∧wz.cell? ⟨db,doff+1,none⟩=some (.int .u8 v1)∧wz.cell? ⟨db,doff+2,none⟩=some (.int .u8 (N:Int)))) (by kernel_rfl) ?_ (fun hHeld=>?_)
   ·first | exact HS8.out _ (Only.refl _ _) | exact HS8.out _ (Only.refl _ _).drew
   refine tk 0 64 ?_
   refine tk 1 65 ?_
   refine tk 2 66 ?_
   refine tk 3 67 ?_
   refine tk 4 68 ?_
   refine tk 5 69 ?_
   refine tk 6 70 ?_
   refine tk 7 71 ?_
   refine tk 8 72 ?_
   refine tk 9 73 ?_
   refine tk 10 74 ?_
   refine tk 11 75 ?_
   refine tk 12 76 ?_
   refine tk 13 77 ?_
   refine rdy (rdc 14 7 (fun K hK=>?_) .nil)
   go_simp
   generalize hW:World.alloc _ _=w3
   have q3:Only [] w2 w3:=by rw [← hW];first | exact Only.new _ _ | exact ((Only.refl _ _).drew).q (Only.new _ _)
   have HT3:Hid (w3.heap[w2.heap.size]?=some (.cells #[.int .i64 0,.int .i64 0,.int .i64 0,.slice none 0 0] 41 (0,0))):=lh (by rw [← hW];exact heap_alloc_new _ _)
   have HQ3:=lh q3
   clear hW q3
   refine hK.out _ _ ?_ (fun hHeld=>?_)
   ·first | exact HS8.out _ HQ3.out | exact HS8.out _ HQ3.out.drew
   clear hK K
   try simp only [Act.put,List.setIfInBounds_toArray,List.set_cons_zero,List.set_cons_succ]
   obtain ⟨z0,z1,z2,z3⟩:=row4_cells HT3.out
   have f0:=frozen_of_row _ _ 0 _ _ HT3.out
   have f1:=frozen_of_row _ _ 1 _ _ HT3.out
   have f2:=frozen_of_row _ _ 2 _ _ HT3.out
   have f3:=frozen_of_row _ _ 3 _ _ HT3.out
   refine rdy (rdn 15 (fun K hK=>?_) .nil)
   go_simp
   generalize hW:World.setCell _ _ _=w4
   have hr4:w4.heap[w2.heap.size]?=some (.cells #[.int .i64 v0,.int .i64 v1,.int .i64 (N:Int),.slice none 0 0] 41 (0,0)):=by rw [← hW];first | exact (row4_set HT3.out).1 | exact (row4_set (jdrew HT3.out)).1
   have ho4:Only [w2.heap.size] w3 w4:=by rw [← hW];first | exact (row4_set HT3.out).2 | exact (((Only.refl [] _).drew).mono (by simp)).trans (row4_set (jdrew HT3.out)).2 (fun _ h _=>h) (fun _ h _=>h)
   have HQ4:Hid (Only [] w2 w4):=lh (HQ3.out.trans ho4 (by simp) (fun g hg hlt=>by rw [mSg] at hg;omega))
   have HR4:=lh hr4
   clear hW hr4 ho4 z0 z1 z2 z3 f0 f1 f2 f3
   refine hK.out _ _ ?_ (fun hHeld=>?_)
   ·first | exact HS8.out _ HQ4.out | exact HS8.out _ HQ4.out.drew
   clear hK K
   try simp only [Act.put,List.setIfInBounds_toArray,List.set_cons_zero,List.set_cons_succ]
   refine wpAnyH_done (by kernel_rfl) ?_ _
   clear w0 w1' w2' g0 g1 g2 g3
   obtain ⟨T,hT⟩:∃ z,z=w2.heap.size:=⟨_,rfl⟩
   rw [← hT] at HR4 ⊢
   have HT:=lh hT
   clear hT
   have HR5:=lh (jdrew HR4.out)
   have HQ5:Hid (Only [] w2 w4.drew):=lh HQ4.out.drew
   generalize hW5:World.drew w4=w5 at *
   clear hW5 HR4 HQ4 HQ3 HT3
   have HCw:=lh (HQ5.out.row HC2.out)
   have HEw:=lh (HQ5.out.row HE2.out)
   have HTT:Hid (w.heap.size+2≤T∧T<w5.heap.size):=lh ⟨by have:=HT.out;have:=HZ2.out;have:=HB2.out;omega,block_lt_of_cell (row4_cells HR5.out).1⟩
   have HJ5:Hid (JOnly R w.heap.size w w5):=lh (HJ2.out.trans (JOnly.of HQ5.out))
   have HKw:=lh (HK2.out.quiet HQ5.out)
   clear HC1 HE1 HC2 HE2 HJ1 HJ2 HK2 HX2 HS8 HQ2 HKr HQ5 HIn HC0 HE0 HZ0
   go_wp2_with fail
   go_loopw [8,9,10] (fun i _ _ wr=>∃ (k c:Nat) (cs:List Coded) (cv:Value) (p:Nat),k+c=N∧i=.int .i64 k∧Hid (kframesGo K.l N 0 ue []=kframesGo K.l c k p cs)∧Hid (KRd K R wr p (k+1))∧Hid (wr.heap[T]?=some (.cells #[.int .i64 v0,.int .i64 v1,.int .i64 (N:Int),cv] 41 (0,0)))∧Hid (OwnKD K.lo K.hi (T+1) wr cv cs)∧Hid (wr.heap[B2]?=some (.cells #[.int .i64 0,.int .i64 0,.int .i64 0,.slice none 0 0] 41 (0,0)))∧Hid (wr.heap[B2+1]?=some (.cells #[.int .i64 0,.slice none 0 0] 38 (0,0)))∧Hid (JOnly R w.heap.size w wr)∧Hid (cs.length=k)) (fun i _ _ _=>N-(intOf i).toNat)
   case atStart=>exact ⟨0,N,[],.slice none 0 0,ue,by omega,rfl,lh rfl,HKw,HR5,lh (OwnKD.nil (by have:=HRw.out;have:=HTT.out;omega) _),HCw,HEw,HJ5,lh rfl⟩
   case round =>
    obtain ⟨k,c,cs,cv,p,hkc,rfl,HGo,HKr,HTr,HO,HC,HE,HJ,HL⟩:=hrel
    have HZ:Hid (T<wr.heap.size):=lh (block_lt_of_cell (row4_cells HTr.out).1)
    obtain ⟨t0,t1,t2,t3⟩:=row4_cells HTr.out
    cases c with
    | zero =>
     have hkN:¬ (k:Int)<(N:Int):=by omega
     have HPf:Hid (kparseR K.l=match endR K.l p with
      | some e=>.error (e,k+1)
      | none=>.ok ⟨v0,v1,N,cs⟩):=lh (by rw [HPs.out,HGo.out,kframesGo])
     have HEe:Hid (∀ er,endR K.l p=some er→er.code≠0∧er.path.length≤1):=lh (fun _ h=>endR_err h)
     have HEn:=lh (fun (W:World) (o:Only [] wr W)=>kend_any (HKr.out.quiet o))
     have HSn:Hid (∀ wx:World,Only [] wr wx→wx.heap[T]?=some (.cells #[.int .i64 v0,.int .i64 v1,.int .i64 (N:Int),cv] 41 (0,0))):=lh (fun wx o=>o.row HTr.out)
     obtain ⟨ca,cc,rfl⟩:=HO.out.isSlice
     generalize endR K.l p=eE at *
     go_upto_region 16 with (fail)
     clear t0 t1 t2 t3
     refine wp_region_held_drew (S:=(fun wz=>wz.heap[T]?=some (.cells #[.int .i64 v0,.int .i64 v1,.int .i64 (N:Int),(.slice ca cs.length cc)] 41 (0,0)))) (by kernel_rfl) ?_ (fun hHeld=>?_)
     ·first | exact HSn.out _ (Only.refl _ _) | exact HSn.out _ (Only.refl _ _).drew
     refine tkw 0 103 ⟨rfl,by intro wz hSw;obtain ⟨r0,r1,r2,r3⟩:=row4_cells hSw;go_simp;try with_reducible rfl⟩ ?_
     refine tkw 1 104 ⟨rfl,by intro wz hSw;obtain ⟨r0,r1,r2,r3⟩:=row4_cells hSw;go_simp;try with_reducible rfl⟩ ?_
     refine rdy (rdc 2 105 (fun K hK=>?_) .nil)
     go_simp
     go_at_call 75
     refine (HEn.out _ (by first | exact Only.refl _ _ | exact (Only.refl _ _).drew)).mono ?_
     rintro e w6 ⟨hq,sa,sc,rfl,hcs⟩
     have HQ6:Hid (Only [] wr w6):=lh (by first | exact hq | exact ((Only.refl _ _).drew).q hq)
     have HCs:=lh hcs
     clear hq hcs
     refine hK.out _ _ ?_ (fun hHeld=>?_)
     ·first | exact HSn.out _ HQ6.out | exact jdrew (HSn.out _ HQ6.out)
     clear hK K
     try simp only [Act.put,List.setIfInBounds_toArray,List.set_cons_zero,List.set_cons_succ]
     have HC6:=lh (HQ6.out.row HC.out)
     obtain ⟨z0,z1,z2,z3⟩:=row4_cells HC6.out
     have f0:=frozen_of_row _ _ 0 _ _ HC6.out
     have f1:=frozen_of_row _ _ 1 _ _ HC6.out
     have f2:=frozen_of_row _ _ 2 _ _ HC6.out
     have f3:=frozen_of_row _ _ 3 _ _ HC6.out
     refine rdy (rdn 3 (fun K hK=>?_) .nil)
     go_simp
     generalize hW:World.setCell _ _ _=w7
     have hr7:w7.heap[B2]?=some (.cells #[.int .i64 v0,.int .i64 v1,.int .i64 (N:Int),.slice ca cs.length cc] 41 (0,0)):=by rw [← hW];first | exact (row4_set HC6.out).1 | exact (row4_set (jdrew HC6.out)).1
     have ho7:Only [B2] w6 w7:=by rw [← hW];first | exact (row4_set HC6.out).2 | exact (((Only.refl [] _).drew).mono (by simp)).trans (row4_set (jdrew HC6.out)).2 (fun _ h _=>h) (fun _ h _=>h)
     have HC7:=lh hr7
     have HO7:=lh ho7
     have HE7:=lh (ho7.rowAt (HQ6.out.row HE.out) (by simp))
     have HT7:Hid (w7.heap[T]?=some (.cells #[.int .i64 v0,.int .i64 v1,.int .i64 (N:Int),(.slice ca cs.length cc)] 41 (0,0))):=lh (ho7.rowAt (HSn.out _ HQ6.out) (by rw [mSg];have:=HTT.out;have:=HB2.out;omega))
     clear hW hr7 ho7 z0 z1 z2 z3 f0 f1 f2 f3
     refine hK.out _ _ ?_ (fun hHeld=>?_)
     ·first | exact HT7.out | exact jdrew (HT7.out)
     clear hK K
     try simp only [Act.put,List.setIfInBounds_toArray,List.set_cons_zero,List.set_cons_succ]
     obtain ⟨y0,y1,g0,g1,-⟩:=row2 HE7.out
     refine rdy (rdn 4 (fun K hK=>?_) .nil)
     go_simp
     generalize hW:World.setCell _ _ _=w8
     have hr8:w8.heap[B2+1]?=some (.cells #[.int .i64 (codeE eE),.slice sa (pathE eE).length sc] 38 (0,0)):=by rw [← hW];first | exact heap_setCell_same _ _ 1 _ _ _ (heap_setCell_same _ _ 0 _ _ _ HE7.out) | exact heap_setCell_same _ _ 1 _ _ _ (heap_setCell_same _ _ 0 _ _ _ (jdrew HE7.out))
     have ho8:Only [B2+1] w7 w8:=by rw [← hW];first | exact ((Only.refl _ _).setCell (by simp) _).setCell (by simp) _ | exact (((Only.refl [] _).drew).mono (by simp)).trans (((Only.refl [B2+1] _).setCell (by simp) _).setCell (by simp) _) (fun _ h _=>h) (fun _ h _=>h)
     have HE8:=lh hr8
     have HO8:=lh ho8
     have HC8:=lh (ho8.rowAt HC7.out (by simp))
     have HT8:Hid (w8.heap[T]?=some (.cells #[.int .i64 v0,.int .i64 v1,.int .i64 (N:Int),(.slice ca cs.length cc)] 41 (0,0))):=lh (ho8.rowAt HT7.out (by rw [mSg];have:=HTT.out;have:=HB2.out;omega))
     clear hW hr8 ho8 y0 y1 g0 g1
     refine hK.out _ _ ?_ (fun hHeld=>?_)
     ·first | exact HT8.out | exact jdrew (HT8.out)
     clear hK K
     try simp only [Act.put,List.setIfInBounds_toArray,List.set_cons_zero,List.set_cons_succ]
     refine wpAnyH_done (by kernel_rfl) ?_ _
     go_wp2_with fail
     obtain ⟨t0,t1,t2,t3⟩:=row4_cells HC8.out
     obtain ⟨s0,s1,-⟩:=row2 HE8.out
     have HO9:Hid (OwnKD K.lo K.hi (T+1) w8 (.slice ca cs.length cc) cs):=lh (by
      refine (((HO.out.quiet HQ6.out).only' HO7.out (fun g hg=>?_)).only' HO8.out (fun g hg=>?_))
      ·rw [mSg] at hg
       exact ⟨.inr (by have:=HB2.out;have:=HRw.out;omega),fun e=>by have:=(HO.out.at _ e).1;have:=HTT.out;have:=HB2.out;omega⟩
      ·rw [mSg] at hg
       exact ⟨.inr (by have:=HB2.out;have:=HRw.out;omega),fun e=>by have:=(HO.out.at _ e).1;have:=HTT.out;have:=HB2.out;omega⟩)
     have HJ9:Hid (JOnly R w.heap.size w w8):=lh (by
      exact ((HJ.out.trans (JOnly.of HQ6.out)).trans (JOnly.mk' HO7.out (fun g hg=>.inr (by rw [mSg] at hg;have:=HB2.out;omega)))).trans (JOnly.mk' HO8.out (fun g hg=>.inr (by rw [mSg] at hg;have:=HB2.out;omega))))
     have hge:∀ g,g∈[B2]∨g∈[B2+1]→K.hi≤g∧g≠R:=fun g hg=>by have:=HB2.out;have:=HRw.out;simp at hg;omega
     have HK9:Hid (KRd K R w8 p (k+1)):=lh (by
      exact (((HKr.out.quiet HQ6.out).only HO7.out (fun g hg=>hge g (.inl hg))).only HO8.out (fun g hg=>hge g (.inr hg))))
     have HC5:Hid (Cells 2 K.lo K.hi w8 (.slice sa (pathE eE).length sc) (pathE eE).length (flat (pathE eE))):=lh (by
      exact ((HCs.out.only HO7.out (fun g hg=>.inr (hge g (.inl hg)).1)).only HO8.out (fun g hg=>.inr (hge g (.inr hg)).1)))
     have hz9:T+1≤w8.heap.size:=by have:=HQ6.out.size;have:=HO7.out.size;have:=HO8.out.size;have:=HZ.out;omega
     refine bodyPost_ret (v:=.tuple #[.agg #[.int .i64 v0,.int .i64 v1,.int .i64 (N:Int),.slice ca cs.length cc],.agg #[.int .i64 (codeE eE),.slice sa (pathE eE).length sc]]) (by simp [results,Tryz.results55,go_sem,t0,t1,t2,t3,s0,s1]) rfl (HPost.out _ _ ?_)
     cases eE with
     | some er =>
      obtain ⟨hne,hpl⟩:=HEe.out er rfl
      exact KParseP.bad (er:=er) (m:=k+1) (by rw [HPf.out]) HJ9.out rfl HC5.out HK9.out.c1 hne hpl
     | none=>exact KParseP.good (k:=⟨v0,v1,N,cs⟩) (by rw [HPf.out]) HJ9.out rfl (HO9.out.codeds HLo.out hz9) HC5.out
    | succ c =>
     have hkN:(k:Int)<(N:Int):=by omega
     obtain ⟨kb,hkb⟩:∃ kb:Bool,((k:Int) == 0)=kb:=⟨_,rfl⟩
     have HKb:Hid ((k == 0)=kb):=lh (by
      rw [← hkb]
      by_cases h:k=0
      ·subst h;rfl
      ·have h1:(k == 0)=false:=by simpa using h
       have h2:((k:Int) == 0)=false:=by rw [beq_eq_false_iff_ne];omega
       rw [h1,h2])
     have HFr:=lh (krframe_any kb false HKr.out)
     have HGo2:Hid (kframesGo K.l N 0 ue []=match frameR K.l p kb false with
      | .error e=>.error (e,k+1)
      | .ok u=>kframesGo K.l c (k+1) u.end_ (cs ++ [⟨u.kind,u.data⟩])):=lh (by rw [HGo.out,kframesGo,HKb.out];rfl)
     go_wp2_with fail
     go_at_call 74
     refine HFr.out.mono ?_
     rintro e w6 ⟨hq6,hm⟩
     have HJ6:Hid (JOnly R w.heap.size w w6):=lh (HJ.out.trans (JOnly.mk' hq6 (fun g hg=>.inl (by simpa using hg))))
     have hneR:∀ g,w.heap.size≤g→g∉[R]:=fun g hg hm=>by rw [mSg] at hm;have:=HRw.out;omega
     have HT6:=lh (hq6.rowAt HTr.out (hneR _ (by have:=HTT.out;omega)))
     have HC6:=lh (hq6.rowAt HC.out (hneR _ (by have:=HB2.out;omega)))
     have HE6:=lh (hq6.rowAt HE.out (hneR _ (by have:=HB2.out;omega)))
     have HO6:=lh (HO.out.only' hq6 (fun g hg=>by rw [mSg] at hg;subst hg;exact ⟨.inr HRw.out.1,fun e=>by have:=(HO.out.at _ e).1;have:=HRw.out;have:=HTT.out;omega⟩))
     have HZ6:Hid (T<w6.heap.size):=lh (by have:=hq6.size;have:=HZ.out;omega)
     clear hq6 hneR t0 t1 t2 t3
     cases hfr:frameR K.l p kb false with
     | error er =>
      rw [hfr] at hm
      obtain ⟨sa,sc,rfl,hcs,hkr⟩:=hm
      obtain ⟨hne,hpl⟩:=frameR_err hfr
      have HEr:Hid (kparseR K.l=.error (er,k+1)):=lh (by rw [HPs.out,HGo2.out,hfr])
      have HNe:=lh (And.intro hne hpl)
      have HCs:=lh hcs
      have HKr:=lh hkr
      have hcb:(er.code == 0)=false:=by rw [beq_eq_false_iff_ne];exact hne
      clear hfr hcs hkr hne hpl hkb hkN
      go_wp2_with fail
      go_at_call 47
      refine (ok_any _ _ _).mono ?_
      rintro e w7 ⟨rfl,hq2⟩
      rw [hcb]
      have hqA:=((Only.new w6 zCoded).q (Only.new _ (.cells #[.int .i64 er.code,.slice sa er.path.length sc] 38))).q hq2
      have rX:=hq2.row (heap_alloc_new' (w:=w6.alloc zCoded) (o:=.cells #[.int .i64 er.code,.slice sa er.path.length sc] 38) (g:=w6.heap.size+1) (by simp))
      have HC2:=lh (hqA.row HC6.out)
      have HE3:=lh (hqA.row HE6.out)
      have HQ2:=lh hqA
      obtain ⟨x0,x1,-⟩:=row2 rX
      obtain ⟨z0,z1,z2,z3⟩:=row4_cells HC2.out
      have f0:=frozen_of_row _ _ 0 _ _ HC2.out
      have f1:=frozen_of_row _ _ 1 _ _ HC2.out
      have f2:=frozen_of_row _ _ 2 _ _ HC2.out
      have f3:=frozen_of_row _ _ 3 _ _ HC2.out
      obtain ⟨y0,y1,g0,g1,-⟩:=row2 HE3.out
      have hn1:¬ B2=w6.heap.size+1:=by have:=HZ6.out;have:=HTT.out;have:=HB2.out;omega
      have hn2:¬ B2+1=w6.heap.size+1:=by have:=HZ6.out;have:=HTT.out;have:=HB2.out;omega
      clear rX hq2 hqA
      go_wp2_with fail
      go_region
      go_wp2_with fail
      generalize hWf:World.setCell _ _ _=Wf
      obtain ⟨⟨t0,t1,t2,t3⟩,⟨s0,s1⟩,oF⟩:=set6 HC2.out HE3.out (by omega) hWf
      refine bodyPost_ret (v:=.tuple #[.agg #[.int .i64 0,.int .i64 0,.int .i64 0,.slice none 0 0],.agg #[.int .i64 er.code,.slice sa er.path.length sc]]) (by simp [results,Tryz.results55,go_sem,t0,t1,t2,t3,s0,s1]) rfl (HPost.out _ _ ?_)
      have hge:∀ g,g∈[B2,B2+1]→w.heap.size≤g∧K.hi≤g∧g≠R:=fun g hg=>by have:=HB2.out;have:=HRw.out;simp at hg;omega
      refine KParseP.bad HEr.out (((HJ6.out.trans (JOnly.of HQ2.out)).trans (JOnly.mk' oF (fun g hg=>.inr (hge g hg).1))).trans (JOnly.of (Only.refl [] _).drew)) rfl ?_ ?_ HNe.out.1 HNe.out.2
      ·exact ((HCs.out.only HQ2.out (by simp)).only oF (fun g hg=>.inr (hge g hg).2.1)).only (Only.refl [] _).drew (by simp)
      ·exact (((HKr.out.quiet HQ2.out).only oF (fun g hg=>⟨(hge g hg).2.1,(hge g hg).2.2⟩)).quiet (Only.refl _ _).drew).c1
     | ok u =>
      rw [hfr] at hm
      obtain ⟨dv,rfl,hd,hkr⟩:=hm
      obtain ⟨fk,fd,fa,fe⟩:=u
      simp only at hd hkr
      have HGo3:Hid (kframesGo K.l N 0 ue []=kframesGo K.l c (k+1) fe (cs ++ [⟨fk,fd⟩])):=lh (by rw [HGo2.out,hfr])
      have hpo:=peekR_ok (frameR_ok hfr).1 HKr.out.ple HKr.out.r8
      simp only at hpo
      have Hfk:Hid (InK .i64 fk):=lh ⟨by omega,by omega⟩
      obtain ⟨fda,fdc,rfl,-⟩:=hd.open
      have HDf:=lh hd
      have HKr2:=lh hkr
      have hk16:(k:Int)<16:=by have:=HN.out;omega
      clear hfr hpo hd hkr hkb HGo2 HFr
      go_wp2_with fail
      go_at_call 47
      refine (ok_any _ _ _).mono ?_
      rintro e w7 ⟨rfl,hq7⟩
      simp only [BEq.rfl]
      have hqA:=((Only.new w6 (.cells #[.int .i64 fk,.slice fda fd.length fdc] 69)).q (Only.new _ zErr)).q hq7
      have HX7:=lh (hq7.row ((Only.new _ zErr).row (heap_alloc_new w6 (.cells #[.int .i64 fk,.slice fda fd.length fdc] 69))))
      have hn8:=Only.new w7 (.cells #[.int .i64 fk,.slice fda fd.length fdc] 69)
      have HT7:=lh (hqA.row HT6.out)
      have HT8:=lh (hn8.row HT7.out)
      have HX8:=lh (hn8.row HX7.out)
      have HO8:=lh ((HO6.out.quiet hqA).quiet hn8)
      have HJ8:Hid (JOnly R w.heap.size w (w7.alloc (.cells #[.int .i64 fk,.slice fda fd.length fdc] 69))):=lh (HJ6.out.trans (JOnly.of (hqA.q hn8)))
      have HC8:=lh (hn8.row (hqA.row HC6.out))
      have HE8:=lh (hn8.row (hqA.row HE6.out))
      have HK8:=lh ((HKr2.out.quiet hqA).quiet hn8)
      have HCs:Hid (Cells 2 w7.heap.size (w7.heap.size+1) (w7.alloc (.cells #[.int .i64 fk,.slice fda fd.length fdc] 69)) (.slice (some ⟨w7.heap.size,0,none⟩) 1 1) 1 [.int .i64 fk,.slice fda fd.length fdc]):=lh (cells_newG rfl rfl (by simp [maxLen]) (by simp))
      have HEl:Hid (ElKD K.lo K.hi (w7.alloc (.cells #[.int .i64 fk,.slice fda fd.length fdc] 69)) [.int .i64 fk,.slice fda fd.length fdc] [⟨fk,fd⟩]):=lh (ElKD.one Hfk.out ((HDf.out.quiet hqA).quiet hn8))
      have HZ8:Hid (T+1≤(w7.alloc (.cells #[.int .i64 fk,.slice fda fd.length fdc] 69)).heap.size):=lh (by have:=hn8.size;have:=hqA.size;have:=HZ6.out;omega)
      have Hby:Hid ((cs.length+[(⟨fk,fd⟩:Coded)].length)*32≤140737488355328):=lh (by have:=HL.out;have:=HN.out;simp;omega)
      have HL1:Hid ((cs ++ [(⟨fk,fd⟩:Coded)]).length=k+1):=lh (by simp [HL.out])
      have HTf:Hid (∀ vz w8,Acc cv (w7.alloc (.cells #[.int .i64 fk,.slice fda fd.length fdc] 69)) vz w8→w8.heap[T]?=some (.cells #[.int .i64 v0,.int .i64 v1,.int .i64 (N:Int),cv] 41 (0,0))):=lh (fun vz w8 ho=>ho.only.rowAt HT8.out (fun hm=>by have:=(HO8.out.at _ (by simpa using hm)).1;omega))
      obtain ⟨y0,y1,-⟩:=row2 HX7.out
      obtain ⟨t0,t1,t2,t3⟩:=row4_cells HT7.out
      clear hqA hq7 hn8
      go_wp2_with (first
       | (at_builtin;refine wpList_append_ckD rfl (.tmp 98) (.tmp 100) _ rfl ECd HO8.out rfl (m:=[⟨fk,fd⟩]) HCs.out HEl.out rfl Hby.out HZ8.out (fun vz w8 hown1 ho1=>?_);obtain ⟨x1,x1c,hx1⟩:=hown1.isSlice;subst hx1;rw [HL1.out] at hown1 ho1 ⊢;obtain ⟨q0,q1,q2,q3⟩:=row4_cells (HTf.out _ _ ho1);have fq3:=frozen_of_row _ _ 3 _ _ (HTf.out _ _ ho1);have HO9:=lh hown1;have HA9:=lh ho1;clear hown1 ho1)
       | fail)
      have hr10:=heap_setCell_same _ T 3 _ _ (.slice x1 (k+1) x1c) (HTf.out _ _ HA9.out)
      have ho10:=(Only.refl [T] w8).setCell (p:=⟨T,3,none⟩) (by simp) (.slice x1 (k+1) x1c)
      have hge:∀ g,g∈cv.ownBlock.toList→T+1≤g:=fun g hg=>(HO8.out.at g (by simpa using hg)).1
      refine ⟨⟨k+1,c,cs ++ [⟨fk,fd⟩],.slice x1 (k+1) x1c,fe,by omega,by go_num,HGo3,lh ?_,lh hr10,lh ?_,lh ?_,lh ?_,lh ?_,HL1⟩,by simp [intOf];omega⟩
      ·exact (HK8.out.only HA9.out.only (fun g hg=>by have:=hge g hg;have:=HTT.out;have:=HRw.out;omega)).only ho10 (fun g hg=>by rw [mSg] at hg;have:=HTT.out;have:=HRw.out;omega)
      ·exact HO9.out.only' ho10 (fun g hg=>by rw [mSg] at hg;subst hg;exact ⟨.inr (by have:=HTT.out;have:=HRw.out;omega),fun e=>by have:=(HO9.out.at _ e).1;omega⟩)
      ·exact ho10.rowAt (HA9.out.only.rowAt HC8.out (fun hm=>by have:=hge _ hm;have:=HTT.out;have:=HB2.out;omega)) (by rw [mSg];have:=HTT.out;have:=HB2.out;omega)
      ·exact ho10.rowAt (HA9.out.only.rowAt HE8.out (fun hm=>by have:=hge _ hm;have:=HTT.out;have:=HB2.out;omega)) (by rw [mSg];have:=HTT.out;have:=HB2.out;omega)
      ·exact (HJ8.out.trans (JOnly.mk' HA9.out.only (fun g hg=>.inr (by have:=hge g hg;have:=HTT.out;omega)))).trans (JOnly.mk' ho10 (fun g hg=>.inr (by rw [mSg] at hg;have:=HTT.out;omega)))
end
theorem qGKPat0 {p:Prop} (h:p:=by intro wz hSw;obtain ⟨e1,hS1⟩:=hSw;obtain ⟨r0,r1,-⟩:=row2 hS1;go_simp;try with_reducible rfl):p:=h
/-- what Parse hands back -/
def KParsedP (l:List Int) (w:World) (e:Ending) (w':World):Prop :=
 Only [] w w'∧match kparseE l with
  | .error er=>∃ sv:Value,e=.returned (.tuple #[.agg #[.int .i64 0,.int .i64 0,.int .i64 0,.slice none 0 0],.agg #[.int .i64 er.code,sv]])∧Cells 2 w.heap.size w'.heap.size w' sv er.path.length (flat er.path)∧er.code≠0∧er.path.length≤2
  | .ok k=>∃ (a:Option Addr) (cap:Nat) (sa:Option Addr) (sc:Nat),e=.returned (.tuple #[.agg #[.int .i64 k.number,.int .i64 k.first,.int .i64 k.count,.slice a k.coded.length cap],.agg #[.int .i64 0,.slice sa 0 sc]])∧CodedsAt w.heap.size w'.heap.size w' (.slice a k.coded.length cap) k.coded∧Cells 2 w.heap.size w'.heap.size w' (.slice sa 0 sc) 0 []
section
theorem kgparse_any {lo hi:Nat} {v:Value} {l:List Int} {w:World} (h:Ints .u8 lo hi w v l) (hl:l.length≤100000000) :
  Calls Tryz.prog 24 #[v] w (KParsedP l w):=by
 refine hidQ fun Q HPost=>?_
 have HRe:=lh (fun (W:World) (o:Only [] w W)=>kreader_any (h.quiet o) hl)
 obtain ⟨va,vc,rfl,-⟩:=h.open
 obtain ⟨hb,HC2,HE2,HZ2⟩:=boxes2 w (.cells #[.int .i64 0,.int .i64 0,.int .i64 0,.slice none 0 0] 41) (.cells #[.int .i64 0,.slice none 0 0] 38)
 have HQ2:=lh hb
 clear h hb hl
 go_enter Tryz.func24,Tryz.ntmps24
 go_wp2_with fail
 generalize hW2:World.alloc (World.alloc w _) _=W2 at *
 clear hW2
 go_at_call 54
 refine (HRe.out _ HQ2.out).mono ?_
 rintro e w3 ⟨K,R,rfl,hKl,hkr,hq3,hlo1,hlo2⟩
 subst hKl
 obtain ⟨B2,hB2⟩:∃ z,z=w.heap.size:=⟨_,rfl⟩
 have HHi:=lh hkr.hiR
 have hRl:=hkr.lt
 have HB2:Hid (B2=w.heap.size∧B2+2≤R∧R<w3.heap.size∧B2+2≤K.lo∧W2.heap.size=B2+2):=lh (by have:=hkr.hiR;have:=HZ2.out;omega)
 rw [← hB2] at HC2 HE2 ⊢
 have HC3:=lh (hq3.row HC2.out)
 have HE3:=lh (hq3.row HE2.out)
 have HQ3:=lh (HQ2.out.q hq3)
 have HPa:=lh (kparse_any hkr hlo2)
 clear hkr hlo1 hlo2 hq3 hB2 hRl HZ2 HRe
 go_wp2_with fail
 go_at_call 55
 refine HPa.out.mono ?_
 rintro e w4 ⟨hj,hm⟩
 have HQ4:Hid (Only [] w w4):=lh (JOnly.out HQ3.out hj (by have:=HB2.out;omega) (by have:=HQ3.out.size;omega))
 have HC4:=lh (hj.row HC3.out (by have:=HB2.out;omega) (by have:=HB2.out;omega))
 have HE4:=lh (hj.row HE3.out (by have:=HB2.out;omega) (by have:=HB2.out;omega))
 have HZ4:Hid (w3.heap.size≤w4.heap.size∧B2+2≤w3.heap.size):=lh ⟨hj.size,by have:=HB2.out;omega⟩
 clear hj HPa
 cases hk:kparseR K.l with
 | error x =>
  obtain ⟨er,m⟩:=x
  rw [hk] at hm
  obtain ⟨z0,z1,z2,za,zn,zc,sa,sc,rfl,hcs,hcm,hne,hpl⟩:=hm
  have HK:Hid (kparseE K.l=.error (inE sGop m er)):=lh (by unfold kparseE;rw [hk])
  have HNe:=lh (And.intro hne hpl)
  have hcb:(er.code == 0)=false:=by rw [beq_eq_false_iff_ne];exact hne
  have HCm:=lh hcm
  have HCs0:=lh hcs
  clear hk hne hpl hcm hcs
  go_wp2_with fail
  go_at_call 47
  refine (ok_any _ _ _).mono ?_
  rintro e w6 ⟨rfl,hq6⟩
  rw [hcb]
  have hqA:=((Only.new w4 (.cells #[.int .i64 z0,.int .i64 z1,.int .i64 z2,.slice za zn zc] 41)).q (Only.new _ (.cells #[.int .i64 er.code,.slice sa er.path.length sc] 38))).q hq6
  have HX6:=lh (hq6.row (heap_alloc_new' (w:=w4.alloc (.cells #[.int .i64 z0,.int .i64 z1,.int .i64 z2,.slice za zn zc] 41)) (o:=.cells #[.int .i64 er.code,.slice sa er.path.length sc] 38) (g:=w4.heap.size+1) (by simp)))
  have HC6:=lh (hqA.row HC4.out)
  have HE6:=lh (hqA.row HE4.out)
  have HQ6:=lh (HQ4.out.q hqA)
  have HQ46:=lh hqA
  clear hq6 hqA
  obtain ⟨X,hX⟩:∃ z,z=w4.heap.size+1:=⟨_,rfl⟩
  rw [← hX] at HX6 ⊢
  have HB2:Hid (B2=w.heap.size∧B2+2≤R∧B2+2≤X∧B2+2≤K.lo∧K.hi≤R):=lh (by have:=HB2.out;have:=HZ4.out;have:=HHi.out;omega)
  clear hX
  have HS6:Hid (∀ wx:World,Only [] w6 wx→wx.cell? ⟨R,1,none⟩=some (.int .i64 m)∧wx.heap[X]?=some (.cells #[.int .i64 er.code,.slice sa er.path.length sc] 38 (0,0))):=lh (fun wx o=>⟨o.cell (HQ46.out.cell HCm.out (by simp)) (by simp),o.row HX6.out⟩)
  have HIn:=lh (fun (W:World) (o:Only [] w6 W)=>kin_any (w:=W) sGop m er.code (HCs0.out.only (HQ46.out.q o) (by simp)) HNe.out.1 (by have:=HNe.out.2;omega))
  go_upto_region 4 with (fail)
  refine wp_region_held_drew (S:=(fun wz=>wz.cell? ⟨R,1,none⟩=some (.int .i64 m)∧wz.heap[X]?=some (.cells #[.int .i64 er.code,.slice sa er.path.length sc] 38 (0,0)))) (by kernel_rfl) ?_ (fun hHeld=>?_)
  ·first | exact HS6.out _ (Only.refl _ _) | exact HS6.out _ (Only.refl _ _).drew
  refine tkw 0 17 ⟨rfl,qGKPat0⟩ ?_
  refine tkw 1 18 ⟨rfl,qGKPat0⟩ ?_
  refine tkw 2 19 ⟨rfl,qGKPat0⟩ ?_
  refine tkw 3 20 ⟨rfl,qGKPat0⟩ ?_
  refine tkw 4 21 ⟨rfl,qGKPat0⟩ ?_
  refine tkw 5 22 ⟨rfl,qGKPat0⟩ ?_
  refine rdy (rdc 6 23 (fun K hK=>?_) .nil)
  go_simp
  go_at_call 56
  refine (HIn.out _ (by first | exact Only.refl _ _ | exact (Only.refl _ _).drew)).mono ?_
  rintro e w7 ⟨kv,rfl,⟨sv7,rfl,hcs7⟩,hq⟩
  obtain ⟨_,a7,c7,hsv,_⟩:=id hcs7
  subst hsv
  obtain ⟨LN,hLN⟩:∃ z,z=((sGop,(m:Int)) :: er.path).length:=⟨_,rfl⟩
  rw [← hLN] at hcs7 ⊢
  have HLN:=lh hLN
  clear hLN
  have HQ7:Hid (Only [] w6 w7):=lh (by first | exact hq | exact ((Only.refl _ _).drew).q hq)
  have HCs:=lh hcs7
  clear hq hcs7
  refine hK.out _ _ ?_ (fun hHeld=>?_)
  ·first | exact HS6.out _ HQ7.out | exact HS6.out _ HQ7.out.drew
  clear hK K
  try simp only [Act.put,List.setIfInBounds_toArray,List.set_cons_zero,List.set_cons_succ]
  have HC7:=lh (HQ7.out.row HC6.out)
  obtain ⟨z0,z1,z2,z3⟩:=row4_cells HC7.out
  have f0:=frozen_of_row _ _ 0 _ _ HC7.out
  have f1:=frozen_of_row _ _ 1 _ _ HC7.out
  have f2:=frozen_of_row _ _ 2 _ _ HC7.out
  have f3:=frozen_of_row _ _ 3 _ _ HC7.out
  refine rdy (rdn 7 (fun K hK=>?_) .nil)
  go_simp
  generalize hW:World.setCell _ _ _=w8
  have hr8:w8.heap[B2]?=some (.cells #[.int .i64 0,.int .i64 0,.int .i64 0,.slice none 0 0] 41 (0,0)):=by rw [← hW];first | exact (row4_set HC7.out).1 | exact (row4_set (jdrew HC7.out)).1
  have ho8:Only [B2] w7 w8:=by rw [← hW];first | exact (row4_set HC7.out).2 | exact (((Only.refl [] _).drew).mono (by simp)).trans (row4_set (jdrew HC7.out)).2 (fun _ h _=>h) (fun _ h _=>h)
  have HC8:=lh hr8
  have HO8:=lh ho8
  have HE8:=lh (ho8.rowAt (HQ7.out.row HE6.out) (by simp))
  have HS8:=lh (And.intro (ho8.cell (HS6.out _ HQ7.out).1 (by have:=HB2.out;simp;omega)) (ho8.rowAt (HS6.out _ HQ7.out).2 (by rw [mSg];have:=HB2.out;omega)))
  clear hW hr8 ho8 z0 z1 z2 z3 f0 f1 f2 f3
  refine hK.out _ _ ?_ (fun hHeld=>?_)
  ·first | exact HS8.out | exact ⟨HS8.out.1,jdrew HS8.out.2⟩
  clear hK K
  try simp only [Act.put,List.setIfInBounds_toArray,List.set_cons_zero,List.set_cons_succ]
  obtain ⟨y0,y1,g0,g1,-⟩:=row2 HE8.out
  refine rdy (rdn 8 (fun K hK=>?_) .nil)
  go_simp
  generalize hW:World.setCell _ _ _=w9
  have hr9:w9.heap[B2+1]?=some (.cells #[.int .i64 er.code,.slice a7 LN c7] 38 (0,0)):=by rw [← hW];first | exact heap_setCell_same _ _ 1 _ _ _ (heap_setCell_same _ _ 0 _ _ _ HE8.out) | exact heap_setCell_same _ _ 1 _ _ _ (heap_setCell_same _ _ 0 _ _ _ (jdrew HE8.out))
  have ho9:Only [B2+1] w8 w9:=by rw [← hW];first | exact ((Only.refl _ _).setCell (by simp) _).setCell (by simp) _ | exact (((Only.refl [] _).drew).mono (by simp)).trans (((Only.refl [B2+1] _).setCell (by simp) _).setCell (by simp) _) (fun _ h _=>h) (fun _ h _=>h)
  have HE9:=lh hr9
  have HO9:=lh ho9
  have HC9:=lh (ho9.rowAt HC8.out (by simp))
  have HS9:=lh (And.intro (ho9.cell HS8.out.1 (by have:=HB2.out;simp;omega)) (ho9.rowAt HS8.out.2 (by rw [mSg];have:=HB2.out;omega)))
  clear hW hr9 ho9 y0 y1 g0 g1
  refine hK.out _ _ ?_ (fun hHeld=>?_)
  ·first | exact HS9.out | exact ⟨HS9.out.1,jdrew HS9.out.2⟩
  clear hK K
  try simp only [Act.put,List.setIfInBounds_toArray,List.set_cons_zero,List.set_cons_succ]
  refine wpAnyH_done (by kernel_rfl) ?_ _
  go_wp2_with fail
  obtain ⟨t0,t1,t2,t3⟩:=row4_cells HC9.out
  obtain ⟨s0,s1,-⟩:=row2 HE9.out
  refine bodyPost_ret (v:=.tuple #[.agg #[.int .i64 0,.int .i64 0,.int .i64 0,.slice none 0 0],.agg #[.int .i64 er.code,.slice a7 LN c7]]) (by simp [results,Tryz.results24,go_sem,t0,t1,t2,t3,s0,s1]) rfl (HPost.out _ _ ?_)
  have hge:∀ g,g∈[B2]∨g∈[B2+1]→w.heap.size≤g∧g<B2+2:=fun g hg=>by have:=HB2.out;simp at hg;omega
  have hz6:B2+2≤w6.heap.size:=by have:=HQ46.out.size;have:=HZ4.out;omega
  have hz6':B2+2≤w6.drew.heap.size:=hz6
  have hO8:Only [] w w8:=(HQ6.out.q HQ7.out).trans HO8.out (by simp) (fun g hg hlt=>by have:=hge g (.inl hg);omega)
  have hO:Only [] w w9:=hO8.trans HO9.out (by simp) (fun g hg hlt=>by have:=hge g (.inr hg);omega)
  refine ⟨hO,?_⟩
  rw [HK.out]
  refine ⟨_,rfl,?_,HNe.out.1,by have:=HNe.out.2;simp [inE];omega⟩
  have h1:=(HCs.out.only HO8.out (fun g hg=>.inl (by have:=hge g (.inl hg);omega))).only HO9.out (fun g hg=>.inl (by have:=hge g (.inr hg);omega))
  rw [HLN.out] at h1 ⊢
  exact h1.mono (by have:=HB2.out;omega) (by have:=HO8.out.size;have:=HO9.out.size;omega)
 | ok k =>
  rw [hk] at hm
  obtain ⟨a,cap,sa,sc,rfl,hcd,hcz⟩:=hm
  have HCz:=lh hcz
  have HK:Hid (kparseE K.l=.ok k):=lh (by unfold kparseE;rw [hk])
  have HCd:=lh hcd
  clear hk hcd hcz
  go_wp2_with fail
  go_at_call 47
  refine (ok_any _ _ _).mono ?_
  rintro e w6 ⟨rfl,hq6⟩
  simp only [BEq.rfl]
  have hqA:=((Only.new w4 (.cells #[.int .i64 k.number,.int .i64 k.first,.int .i64 k.count,.slice a k.coded.length cap] 41)).q (Only.new _ (.cells #[.int .i64 0,.slice sa 0 sc] 38))).q hq6
  have HX6:=lh (hq6.row (heap_alloc_new' (w:=w4.alloc (.cells #[.int .i64 k.number,.int .i64 k.first,.int .i64 k.count,.slice a k.coded.length cap] 41)) (o:=.cells #[.int .i64 0,.slice sa 0 sc] 38) (g:=w4.heap.size+1) (by simp)))
  have HY6:=lh (hq6.row ((Only.new _ (.cells #[.int .i64 0,.slice sa 0 sc] 38)).row (heap_alloc_new w4 (.cells #[.int .i64 k.number,.int .i64 k.first,.int .i64 k.count,.slice a k.coded.length cap] 41))))
  have HC2:=lh (hqA.row HC4.out)
  have HE3:=lh (hqA.row HE4.out)
  have HQ6:=lh (HQ4.out.q hqA)
  have HCd6:=lh (HCd.out.only hqA (by simp))
  have HQ46:=lh hqA
  clear hq6 hqA
  obtain ⟨x0,x1,-⟩:=row2 HX6.out
  obtain ⟨r0,r1,r2,r3⟩:=row4_cells HY6.out
  obtain ⟨z0,z1,z2,z3⟩:=row4_cells HC2.out
  have f0:=frozen_of_row _ _ 0 _ _ HC2.out
  have f1:=frozen_of_row _ _ 1 _ _ HC2.out
  have f2:=frozen_of_row _ _ 2 _ _ HC2.out
  have f3:=frozen_of_row _ _ 3 _ _ HC2.out
  obtain ⟨y0,y1,g0,g1,-⟩:=row2 HE3.out
  have hn1:¬ B2=w4.heap.size+1:=by have:=HZ4.out;omega
  have hn2:¬ B2+1=w4.heap.size+1:=by have:=HZ4.out;omega
  have hn3:¬ B2=w4.heap.size:=by have:=HZ4.out;omega
  have hn4:¬ B2+1=w4.heap.size:=by have:=HZ4.out;omega
  go_upto_region 5 with (fail)
  go_region
  go_wp2_with fail
  generalize hWf:World.setCell _ _ _=Wf
  obtain ⟨⟨t0,t1,t2,t3⟩,⟨s0,s1⟩,oF⟩:=set6 HC2.out HE3.out (by omega) hWf
  refine bodyPost_ret (v:=.tuple #[.agg #[.int .i64 k.number,.int .i64 k.first,.int .i64 k.count,.slice a k.coded.length cap],.agg #[.int .i64 0,.slice sa 0 sc]]) (by simp [results,Tryz.results24,go_sem,t0,t1,t2,t3,s0,s1]) rfl (HPost.out _ _ ?_)
  have hge:∀ g,g∈[B2,B2+1]→w.heap.size≤g∧g<K.lo:=fun g hg=>by have:=HB2.out;simp at hg;omega
  refine ⟨(HQ6.out.trans oF (by simp) (fun g hg hlt=>by have:=hge g hg;omega)).drew,?_⟩
  rw [HK.out]
  refine ⟨a,cap,sa,sc,rfl,?_,?_⟩
  ·exact (((HCd6.out.only oF (fun g hg=>.inl (hge g hg).2)).only (Only.refl [] _).drew (by simp)).mono (by have:=HB2.out;omega) (by have:=oF.size;have:=HQ46.out.size;show w4.heap.size≤Wf.heap.size;omega))
  ·exact ((((HCz.out.only HQ46.out (by simp)).only oF (fun g hg=>.inl (hge g hg).2)).only (Only.refl [] _).drew (by simp)).mono (by have:=HB2.out;omega) (by have:=oF.size;have:=HQ46.out.size;have:=HHi.out;have:=HB2.out;have:=HZ4.out;show K.hi≤Wf.heap.size;omega))
end
end Go.Proofs.YtkigikallkpbcaaGreatDoor
