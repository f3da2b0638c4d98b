/- Joined texts: BxF, Total, BAlW, BAlC. Conditions: each part names its own. -/
import Derived.Test.YtmdobcffijnaoaaGreatDoorT1
import Derived.Test.YtmdobcffijnaoaaGreatDoorB3
import Derived.Test.YtmdobcffijnaoaaGreatDoorG7
import Derived.Test.YtmdobcffijnaoaaGreatDoorB7
import Derived.Test.YtmdobcffijnaoaaGreatDoorB8
import Derived.Test.YtmdobcffijnaoaaGreatDoorC4
import Derived.Test.YtmdobcffijnaoaaGreatDoorF3
import Derived.Test.YtmdobcffijnaoaaGreatDoorTie
import Derived.Test.YtmdobcffijnaoaaGreatDoorCards
import Derived.SevenTiedAt
set_option maxRecDepth 100000
set_option maxHeartbeats 16000000
namespace Go.Proofs.YtmdobcffijnaoaaGreatDoor
open Go.RowKit
set_option linter.unusedVariables false
set_option linter.unusedSimpArgs false
def bframesR (l:List Int):Except Err (List FrameD) :=
 match openR l with
 | .error e=>.error e
 | .ok x=>framesD x.coded x.head.W x.head.H
theorem bframes_any {lo hi:Nat} {bv:Value} {l:List Int} {w:World} (h:Ints .u8 lo hi w bv l) (hh:hi≤w.heap.size) (hl:l.length≤100000000) :
  Calls Tryz.prog 6 #[bv] w (FramesP w (bframesR l)):=by
 refine hidQ fun Q HPost=>?_
 have H:=lh (open_any h hh (by omega))
 clear h
 unfold bframesR at HPost
 cases hres:openR l with
 | error er =>
  rw [hres] at H HPost
  clear hres
  go_enter Tryz.func6,Tryz.ntmps6
  go_wp2_with (first
   | (go_at_call 18;refine H.out.mono ?_;rintro e w2 hP;unfold OpenP at hP;simp only at hP;obtain ⟨hq2,ev,rfl,hev⟩:=hP;obtain ⟨et,eu,rfl⟩:=id hev.held;unfold infoV cfg0;simp only;have HEv:=lh hev;have HQ2:=lh hq2;clear hev hq2)
   | fail)
  exact HPost.out _ _ ⟨HQ2.out.alloc _,_,rfl,(HEv.out.quiet (Only.new _ _)).mono (Nat.le_refl _) (by simp)⟩
 | ok x =>
  rw [hres] at H HPost
  clear hres
  obtain ⟨⟨hW,hH,hF,⟨c0,c1,c2,c3,c4,c5,c6,c7⟩,np⟩,es,cs,fs⟩:=x
  simp only at HPost
  go_enter Tryz.func6,Tryz.ntmps6
  go_wp2_with (first
   | (go_at_call 18;refine H.out.mono ?_;rintro e w2 hP;unfold OpenP at hP;simp only at hP;obtain ⟨hq2,pv,cv,fv,rfl,hoe,hoc,-⟩:=hP;obtain ⟨pa,pcap,hpv,-⟩:=hoe.open;subst hpv;unfold infoV;simp only;have HC:=lh hoc;have HQ2:=lh hq2;clear hoc hq2)
   | fail)
  generalize hWg:World.alloc _ _=W0
  have hqN:Only [] w2 W0:=by rw [← hWg];exact Only.new _ _
  have HFr:=lh (frames_any hW hH (HC.out.quiet hqN))
  have HQ0:=lh (HQ2.out.q hqN)
  clear hWg hqN
  go_at_call 12
  refine HFr.out.mono ?_
  rintro e w3 ⟨hq3,hm⟩
  have HQ3:=lh (HQ0.out.q hq3)
  have HZ:Hid (w.heap.size≤W0.heap.size):=lh HQ0.out.size
  clear hq3
  cases hfr:framesD cs hW hH with
  | error er =>
   rw [hfr] at hm HPost
   obtain ⟨ev,rfl,hev⟩:=hm
   obtain ⟨et,eu,rfl⟩:=hev.held
   have HEv:=lh hev
   clear hfr hev
   go_wp2_with fail
   exact HPost.out _ _ ⟨HQ3.out,_,rfl,HEv.out.mono HZ.out (Nat.le_refl _)⟩
  | ok gs =>
   rw [hfr] at hm HPost
   obtain ⟨a,cap,rfl,hfs⟩:=hm
   have HFs:=lh hfs
   clear hfr hfs
   go_wp2_with fail
   exact HPost.out _ _ ⟨HQ3.out,_,_,rfl,HFs.out.mono HZ.out (Nat.le_refl _)⟩
theorem part_ok {l:List Int} {e:Entry} {x:List Coded×List Int} (h:Part_R l e=.ok x):partOk l e:=by
 unfold Part_R at h
 split at h
 ·assumption
 ·cases h
theorem part_pos {l:List Int} {e:Entry} {x:List Coded×List Int} (h:Part_R l e=.ok x):1≤e.length:=by
 have hok:=part_ok h
 obtain ⟨_,_,_,_,h5,h6,_⟩:=hok
 by_cases h0:e.length=0
 ·unfold Part_R at h
  rw [if_pos (part_ok ‹_›)] at h
  rw [h0] at h
  simp only [Int.toNat_zero,List.take_zero] at h
  have:aloneR [] 0 0 e.first e.count=(.error ⟨[],1⟩,0,0):=by
   unfold aloneR nextR peekR
   simp
  rw [this] at h
  cases h
 ·omega
theorem drop_of_drop {α:Type} {l a b:List α} {n:Nat} (h:l.drop n=a ++ b):l.drop (n+a.length)=b:=by
 rw [← List.drop_drop,h,List.drop_left]
theorem Segs.nil_cs {l:List Int} {cs:List Coded} {fs:List Int} (h:Segs l [] cs fs):cs=[]:=by cases h;rfl
theorem ent_drop {l:List Entry} {k:Nat} (h:k<l.length):l.drop k=l.getD k default :: l.drop (k+1):=by
 rw [List.drop_eq_getElem_cons h];simp [h]
/-- the frames from n on, m of them -/
theorem frames_part {lo hi:Nat} {w:World} {b off cap:Nat} {l:List FrameD} (h:FramesAt lo hi w (.slice (some ⟨b,off,none⟩) l.length cap) l) {n m:Nat} (hn:n<l.length) (hm:n+m≤l.length):FramesAt lo hi w (.slice (some ⟨b,off+n*3,none⟩) m (cap-n)) ((l.drop n).take m):=by
 have h1:=h.drop hn
 have e:(l.drop n).length=l.length-n:=by rw [List.length_drop]
 rw [← e] at h1
 exact h1.take (by omega)
theorem alone_any {lo hi:Nat} {bv:Value} {l:List Int} {w:World} (h:Ints .u8 lo hi w bv l) (hhi:hi≤w.heap.size) (hE:ErrT w) :
  Calls Tryz.prog 4 #[bv] w fun e w'=>e=.returned (.bool true)∧Only [] w w':=by
 refine hidQ fun Q HPost=>?_
 have hr8:=h.2
 obtain ⟨ba,bcap,rfl,hbc1,hbc2,hbat,_⟩:=h.open
 have HFi:=lh (fun (W:World) (o:Only [] w W)=>first_any (hE.quiet o))
 have Hh:=lh h
 have HF0:=lh (Only.refl [] w)
 have hlm:(l.length:Int)≤9223372036854775807:=by unfold maxLen at hbc2;omega
 clear hE
 by_cases hbig:40000<l.length
 ·have hb1:(40000:Int)<(l.length:Int):=by omega
  clear h hbat
  go_enter Tryz.func4,Tryz.ntmps4
  go_wp2_with (first
   | (have t:=HF1;go_at_call 5;refine (HFi.out _ HF1.out).mono ?_;rintro e w2 ⟨rfl,hq2⟩;have HF2:=lh (HF1.out.q hq2);clear t hq2)
   | (go_at_call 5;refine (HFi.out _ HF0.out).mono ?_;rintro e w1 ⟨rfl,hq1⟩;have HF1:=lh hq1;clear hq1)
   | fail)
  exact HPost.out _ _ ⟨rfl,HF2.out⟩
 have hb1:¬ (40000:Int)<(l.length:Int):=by omega
 have HOp:=lh (fun (W:World) (o:Only [] w W)=>Open_any (h.quiet o) (by have:=o.size;omega) (by omega))
 have HBf:=lh (fun (W:World) (o:Only [] w W)=>bframes_any (h.quiet o) (by have:=o.size;omega) (by omega))
 unfold OpensP at HOp
 unfold FramesP at HBf
 cases hop:openR l with
 | error er =>
  have hbf:bframesR l=.error er:=by unfold bframesR;rw [hop]
  rw [hop] at HOp
  rw [hbf] at HBf
  clear h hbat hop hbf
  go_enter Tryz.func4,Tryz.ntmps4
  go_wp2_with (first
   | (have t:=HF3;go_at_call 5;refine (HFi.out _ HF3.out).mono ?_;rintro e w4 ⟨rfl,hq4⟩;have HF4:=lh (HF3.out.q hq4);clear t hq4)
   | (have t:=HF2;go_at_call 6;refine (HBf.out _ (HF2.out.q (Only.new _ _))).mono ?_;rintro e w3 ⟨hq3,ev,rfl,hev⟩;obtain ⟨et3,eu3,rfl⟩:=id hev.held;have HF3:=lh (HF2.out.q ((Only.new _ _).q hq3));clear t hev hq3)
   | (have t:=HF1;go_at_call 10;refine (HOp.out _ HF1.out).mono ?_;rintro e w2 ⟨hq2,ev,rfl,hev⟩;obtain ⟨et,eu,rfl⟩:=id hev.held;unfold infoV cfg0;simp only;have HF2:=lh (HF1.out.q hq2);clear t hev hq2)
   | (go_at_call 5;refine (HFi.out _ HF0.out).mono ?_;rintro e w1 ⟨rfl,hq1⟩;have HF1:=lh hq1;clear hq1)
   | fail)
  exact HPost.out _ _ ⟨rfl,HF4.out⟩
 | ok x =>
  obtain ⟨hok,⟨hf1,hf2,hf3⟩,hpl,hcl⟩:=openR_ok hr8 hop
  have hseg:=openR_segs hr8 hop
  have hfst:=openR_firsts hr8 hop
  have hCsO:=openR_in hr8 hop
  rw [hop] at HOp
  obtain ⟨⟨W,H,F,⟨c0,c1,c2,c3,c4,c5,c6,c7⟩,np⟩,es,cs,fs⟩:=x
  obtain ⟨_,hF1,hF2,hp1,hp2,hmay⟩:=hok
  simp only at hf1 hf2 hf3 hpl hcl hseg hfst hCsO hF1 hF2 hp1 hp2 hmay
  have hbf:bframesR l=framesD cs W H:=by unfold bframesR;rw [hop]
  rw [hbf] at HBf
  have hl0:0<l.length:=by
   rcases Nat.eq_zero_or_pos l.length with h0 | h0
   ·have:l=[]:=List.eq_nil_of_length_eq_zero h0
    subst this
    rw [isErr_eq first_nil] at hop
    cases hop
   ·exact h0
  have hF3:(cs.length:Int)≤16:=by omega
  have Hes:Hid (es.length≤16):=lh (by omega)
  clear hop hbf hmay hp1 hp2
  cases hfr:framesD cs W H with
  | error er =>
   rw [hfr] at HBf
   clear h hbat hfr hseg hfst hf1 hf2 hf3 hpl hcl hCsO hF1 hF2 hF3
   go_enter Tryz.func4,Tryz.ntmps4
   go_wp2_with (first
    | (have t:=HF3;go_at_call 5;refine (HFi.out _ HF3.out).mono ?_;rintro e w4 ⟨rfl,hq4⟩;have HF4:=lh (HF3.out.q hq4);clear t hq4)
    | (have t:=HF2;go_at_call 6;refine (HBf.out _ (HF2.out.q (Only.new _ _))).mono ?_;rintro e w3 ⟨hq3,ev,rfl,hev⟩;obtain ⟨et3,eu3,rfl⟩:=id hev.held;have HF3:=lh (HF2.out.q ((Only.new _ _).q hq3));clear t hev hq3)
    | (have t:=HF1;go_at_call 10;refine (HOp.out _ HF1.out).mono ?_;rintro e w2 ⟨hq2,pv,rfl,hoe⟩;obtain ⟨pa,pcap,hpv,_⟩:=hoe.open;subst hpv;unfold infoV;simp only;have HF2:=lh (HF1.out.q hq2);clear t hq2)
    | (go_at_call 5;refine (HFi.out _ HF0.out).mono ?_;rintro e w1 ⟨rfl,hq1⟩;have HF1:=lh hq1;clear hq1)
    | fail)
   exact HPost.out _ _ ⟨rfl,HF4.out⟩
  | ok all =>
   rw [hfr] at HBf
   have hal:=all_len hfr
   have HAl:=lh hal
   have HFr:=lh hfr
   obtain ⟨bb,boff,rfl,_,_⟩:=hbat 0 hl0
   have HF1':=lh hF1
   have HCs:=lh hCsO
   have Hf1:=lh hf1
   have Hcl:=lh hcl
   have Hseg:=lh hseg
   have Hfst:=lh hfst
   have Hbc1:=lh hbc1
   have Hbc2:=lh hbc2
   have HF3':=lh hF3
   have Hla:Hid ((all.length:Int)=F):=lh (by rw [hal];exact hcl)
   clear h hbat hfr hf1 hf2 hf3 hpl hcl hseg hfst hal hF1 hF2 hF3 hr8 hbc1 hbc2 hCsO
   go_enter Tryz.func4,Tryz.ntmps4
   go_wp2_with (first
    | (have t:=HF2;go_at_call 6;refine (HBf.out _ (HF2.out.q (Only.new _ _))).mono ?_;rintro e w3 ⟨hq3,aa,acap,rfl,haf⟩;have rI:=hq3.rowAt (heap_alloc_new w2 _) (by simp);have HI3:=lh rI;have HAF:=lh haf;have HF3:=lh (HF2.out.q ((Only.new _ _).q hq3));have HQ23:=lh ((Only.new _ _).q hq3);have i4:w3.cell? ⟨w2.heap.size,11,none⟩=some (.slice pa es.length pcap):=(by rw [cell_of_row _ _ _ _ _ _ rI];rfl);clear t haf hq3 rI)
    | (have t:=HF1;go_at_call 10;refine (HOp.out _ HF1.out).mono ?_;rintro e w2 ⟨hq2,pv,rfl,hoe⟩;obtain ⟨pa,pcap,hpv,_⟩:=id hoe.open;subst hpv;unfold infoV;simp only;have HOE:=lh hoe;have HF2:=lh (HF1.out.q hq2);clear t hoe hq2)
    | (go_at_call 5;refine (HFi.out _ HF0.out).mono ?_;rintro e w1 ⟨rfl,hq1⟩;have HF1:=lh hq1;clear hq1)
    | fail)
   clear i4
   obtain ⟨pa2,pcap2,hpae,_,_,hel⟩:=HOE.out.open
   cases hpae
   have HEL:=lh hel
   clear hel HOp HBf
   go_loopw [8,7] (fun i y wt=>∃ (p n:Nat),p≤es.length∧i=.int .i64 p∧y=.int .i64 n∧n≤cs.length∧Hid (Segs l (es.drop p) (cs.drop n) (fs.drop n))∧Hid (Firsts n (es.drop p))∧Hid (Only [] w3 wt)) (fun i _ _=>es.length-(intOf i).toNat)
   case atStart=>exact ⟨0,0,by omega,rfl,rfl,by omega,Hseg,Hfst,lh (Only.refl _ _)⟩
   case round =>
    obtain ⟨p,n,hp,rfl,rfl,hn,HSEG,HFST,HO⟩:=hrel
    have rIr:=HO.out.rowAt HI3.out (by simp)
    have HIr:=lh rIr
    have i11:wr.cell? ⟨w2.heap.size,11,none⟩=some (.slice pa es.length pcap):=by rw [cell_of_row _ _ _ _ _ _ rIr];rfl
    have hqW:Only [] w wr:=HF3.out.q HO.out
    have HQW:=lh hqW
    clear rIr
    by_cases hlt:p<es.length
    ·have hx:(0:Int)≤(p:Int):=by omega
     have hx1:(p:Int)<(es.length:Int):=by omega
     have hx2:(p:Int)<16:=by have:=Hes.out;omega
     obtain ⟨eb,eoff,rfl,_,_,hc0,hc1,hc2,hc3⟩:=HEL.out p hlt
     have c0:=HO.out.cell (HQ23.out.cell hc0 (by simp)) (by simp)
     have c1:=HO.out.cell (HQ23.out.cell hc1 (by simp)) (by simp)
     have c2:=HO.out.cell (HQ23.out.cell hc2 (by simp)) (by simp)
     have c3:=HO.out.cell (HQ23.out.cell hc3 (by simp)) (by simp)
     have hs:=HSEG.out
     have hfi:=HFST.out
     rw [ent_drop hlt] at hs hfi
     generalize hcd:cs.drop n=CD at hs
     generalize hfd:fs.drop n=FD at hs
     generalize hde:es.drop (p+1)=ED at hs hfi
     generalize es.getD p default=e at *
     obtain ⟨ef,ec,eo,el⟩:=e
     obtain ⟨hf0,hf1,hf2⟩:=hfi
     simp only at hf0 hf1 hf2
     cases hs with
     | @cons _ _ cs1 cs2 fs1 fs2 hpart hcnt hfl1 hrest =>
     have hpok:=part_ok hpart
     have hppos:=part_pos hpart
     have hkin:=part_first hpart
     obtain ⟨q1,q2,q3,q4,q5,q6,q7,q8⟩:=id hpok
     simp only at q1 q2 q3 q4 q5 q6 q7 q8 hcnt c0 c1 c2 c3 hppos
     subst hcnt
     subst hf0
     have hc1p:0<cs1.length:=by omega
     obtain ⟨hpf,hlen⟩:=part_frames HCs.out HFr.out hcd hc1p hkin
     have hnl:n<all.length:=by omega
     have hnm:n+cs1.length≤all.length:=by omega
     have hal:=HAl.out
     have hac:all.length≤16:=by have:=HF3'.out;omega
     obtain ⟨O,rfl⟩:=Int.eq_ofNat_of_zero_le q5
     obtain ⟨N,rfl⟩:=Int.eq_ofNat_of_zero_le q6
     have hbc1:=Hbc1.out
     have hbc2:=Hbc2.out
     have HP:=lh (Part_ok (n:Int) cs1.length O N (Hh.out.quiet (hqW.q (Only.new wr (.cells #[.int .i64 (n:Int),.int .i64 (cs1.length:Int),.int .i64 (O:Int),.int .i64 (N:Int)] 46)))) (by have:=hqW.size;simp;omega) hpok (by omega) (by omega) (by omega) (by unfold maxLen at hbc2;omega))
     have Hpart:=lh hpart
     have Hcd:=lh hcd
     have Hfd:=lh hfd
     have Hde:=lh hde
     have Hrest:=lh hrest
     have Hfl1:=lh hfl1
     have Hf2:=lh hf2
     have Hpf:=lh hpf
     have Hlen:=lh hlen
     have Hnl:=lh hnl
     have Hnm:=lh hnm
     have Hac:=lh hac
     clear hc0 hc1 hc2 hc3 hpok hpart hcd hfd hde hrest hfl1 hf2 hbc1 hbc2 hqW hpf hlen hnl hnm hal hac hkin hf1 q1 q2 q3 q4 q5 q6 q7 q8 hppos
     go_upto_region 14 with (fail)
     clear c0 c1 c2 c3 i11
     have HN:=lh (Only.new wr (.cells #[.int .i64 (n:Int),.int .i64 (cs1.length:Int),.int .i64 (O:Int),.int .i64 (N:Int)] 46))
     have HRe:=lh (heap_alloc_new wr (.cells #[.int .i64 (n:Int),.int .i64 (cs1.length:Int),.int .i64 (O:Int),.int .i64 (N:Int)] 46))
     generalize hW4:World.alloc wr _=W4 at *
     clear hW4
     obtain ⟨BE,hBE⟩:∃ z,z=wr.heap.size:=⟨_,rfl⟩
     rw [← hBE] at HRe ⊢
     clear hBE
     obtain ⟨e0,e1,e2,e3⟩:=row4_cells HRe.out
     go_wp2_with fail
     clear e0 e1 e2 e3
     go_at_call 11
     refine HP.out.mono ?_
     rintro e w5 hPP
     unfold PartP2 at hPP
     rw [Hpart.out] at hPP
     obtain ⟨hq5,cv,fv,rfl,hcv,hfv⟩:=hPP
     simp only at hcv hfv
     have HQ5:=lh (HN.out.q hq5)
     have HR5:=lh (hq5.row HRe.out)
     have HFa:=lh (frames_any W H hcv)
     unfold FramesP at HFa
     rw [Hpf.out] at HFa
     have hI5:=HQ5.out.rowAt HIr.out (by simp)
     have HI5:=lh hI5
     have i0:w5.cell? ⟨w2.heap.size,0,none⟩=some (.int .i64 W):=by rw [cell_of_row _ _ _ _ _ _ hI5];rfl
     have i1:w5.cell? ⟨w2.heap.size,1,none⟩=some (.int .i64 H):=by rw [cell_of_row _ _ _ _ _ _ hI5];rfl
     clear hq5 hcv hfv hI5 HP HRe
     go_wp2_with fail
     clear i0 i1
     go_at_call 12
     refine HFa.out.mono ?_
     rintro e w6 ⟨hq6,ga,gcap,rfl,hgf⟩
     have HQ6:=lh (HQ5.out.q hq6)
     have HR6:=lh (hq6.row HR5.out)
     have hlt6:((all.drop n).take cs1.length).length=cs1.length:=by rw [List.length_take,List.length_drop];have:=Hnm.out;omega
     rw [hlt6] at hgf ⊢
     have HGF:=lh hgf
     obtain ⟨ab,aoff,rfl⟩:∃ ab aoff,aa=some ⟨ab,aoff,none⟩:=by
      obtain ⟨f,⟨a',c',e',_,_,h5⟩,_⟩:=HAF.out
      obtain ⟨b',off',e2,_,_,_⟩:=h5 (by have:=Hnl.out;omega)
      injection e' with q1
      exact ⟨b',off',by rw [q1,e2]⟩
     have hacap:all.length≤acap:=by
      obtain ⟨f,⟨a',c',e',h3,_,_⟩,_⟩:=HAF.out
      injection e' with _ _ q1
      omega
     have HAp:=lh (frames_part HAF.out Hnl.out Hnm.out)
     have HKf:=lh (kframes_same HGF.out ((HAp.out.quiet HO.out).quiet HQ6.out))
     obtain ⟨e0,e1,e2,e3⟩:=row4_cells HR6.out
     have hnl:=Hnl.out
     have hnm:=Hnm.out
     have hac:=Hac.out
     have hs1:(0:Int)≤(n:Int):=by omega
     have hs2:(0:Int)≤(n:Int)+(cs1.length:Int):=by omega
     have hs3:(n:Int)≤(n:Int)+(cs1.length:Int):=by omega
     have hs4:((n:Int)+(cs1.length:Int)).toNat=n+cs1.length:=by omega
     have hs5:n+cs1.length≤acap:=by omega
     have hs6:¬ acap=n:=by omega
     have hs7:n+cs1.length-n=cs1.length:=by omega
     have hs8:n≤n+cs1.length:=by omega
     have hs9:IntKind.i64.wrap ((n:Int)+(cs1.length:Int))=(n:Int)+(cs1.length:Int):=by rw [IntKind.wrap_i64];omega
     have hs10:IntKind.i64.wrap ((all.length:Int)-(n:Int))=(all.length:Int)-(n:Int):=by rw [IntKind.wrap_i64];omega
     have hs11:¬ (all.length:Int)-(n:Int)<(cs1.length:Int):=by omega
     clear hq6 hgf hlt6 HFa hac hnl
     go_wp2_with fail
     clear e0 e1 e2 e3
     go_at_call 8
     refine HKf.out.mono ?_
     rintro e w7 ⟨rfl,hq7⟩
     have HQ7:=lh (HQ6.out.q hq7)
     have HR7:=lh (hq7.row HR6.out)
     clear hq7
     obtain ⟨e0,e1,e2,e3⟩:=row4_cells HR7.out
     go_wp2_with fail
     go_roundw
     case rel=>exact ⟨p+1,n+cs1.length,by omega,by go_num,congrArg (Value.int .i64) (by push_cast;omega),by have:=Hnm.out;have:=HAl.out;omega,lh (by rw [drop_of_drop Hcd.out,show n+cs1.length=n+fs1.length by rw [Hfl1.out],drop_of_drop Hfd.out,Hde.out];exact Hrest.out),lh (by rw [Hde.out];have:=Hf2.out;rw [Int.natCast_add];exact this),lh (HO.out.q HQ7.out)⟩
     case measure=>simp [intOf];omega
    ·obtain rfl:p=es.length:=by omega
     have hx:¬ (es.length:Int)<(es.length:Int):=by omega
     have hs:=HSEG.out
     rw [List.drop_length] at hs
     have hnil:=congrArg List.length (Segs.nil_cs hs)
     rw [List.length_drop,List.length_nil] at hnil
     obtain rfl:n=cs.length:=by omega
     have hbe:((cs.length:Int) == F)=true:=by simpa using Hcl.out
     have hbe2:((cs.length:Int) == (all.length:Int))=true:=by have:=HAl.out;simp;omega
     clear hs hqW
     go_wp2_with (first
      | (go_at_call 5;refine (HFi.out _ HQW.out).mono ?_;rintro e w9 ⟨rfl,hq9⟩;have rI9:=hq9.rowAt HIr.out (by simp);have y2:w9.cell? ⟨w2.heap.size,2,none⟩=some (.int .i64 F):=(by rw [cell_of_row _ _ _ _ _ _ rI9];rfl))
      | fail)
     exact HPost.out _ _ ⟨rfl,HQW.out.q hq9⟩
end Go.Proofs.YtmdobcffijnaoaaGreatDoor
/- BoxAlone of the groups: for any arguments the law kinlaw24.BoxAlone answers true and leaves its arguments as they were (each part of a container by itself has the frames that all of it has there). Conditions: errors.errorType is laid as the program's text lays it (the card ties it). -/
namespace Go.Proofs.YtmdobcffijnaoaaGreatDoor
open Go.ChangeShapes Go.WideShapes Go.ChangeAt Go.RowKit
set_option linter.unusedVariables false
set_option linter.unusedSimpArgs false
theorem boxAlone_lifted (os:Os) (started:os.Started) (H:Type) (enc:TypeId×Value→H) :
  ReturnsInHanded {} Tryz.checked os 4 .any (fun w args=>(Rows.boxAloneSpec.pre enc Tryz.prog Tryz.f4 [] false w args∧laidMetH Tryz.prog laid1 w)∧sizedMet enc Tryz.prog Tryz.f4 (OpenSpec.ofChange Rows.boxAloneSpec) false w args)
   (Rows.boxAloneSpec.post enc Tryz.prog Tryz.f4 false true false false):=by
 refine returnsInHanded_of_change_and (C:=Tryz.checked) (X:=fun w _=>laidMetH Tryz.prog laid1 w) (fun _ _ _ hh h=>h.of_heap hh) own_ started (by kernel_rfl) Tryz.func4
  (ChangeSpec.witness_at (enc:=enc) (C:=Tryz.checked) (os:=os) (X:=fun w _=>laidMetH Tryz.prog laid1 w) false (laidWorld os) #[.slice none 0 0] 8 rfl (by kernel_rfl) (by kernel_rfl) (by kernel_rfl) (by kernel_rfl) (by kernel_rfl) (laidWorld_met os _)) ?_
 intro W base args ds gs before hval0 hW _ _ hL _
 have hval:∀ (j:Nat) t v,Tryz.f4.params[j]?=some t→args[j]?=some v→Value.okWide Tryz.prog W .any base t v:=hval0
 have hW':=hW
 obtain ⟨p,q,hA0,hV,rfl,hfz,hnd⟩:=hW
 have hA:DataW.TrodAll enc Tryz.prog W 0 (fun _=>true) true Tryz.f4.params.toList args.toList ds p:=hA0
 rw [Tryz.params4] at hA hval
 obtain ⟨v0,vs0,d0,ds0,p0,q0,hargs,rfl,rfl,h0,r0⟩:=trodAll_cons hA
 obtain ⟨rfl,rfl,rfl⟩:=trodAll_nil r0
 obtain rfl:args=#[v0]:=by cases args;simp_all
 obtain ⟨rfl,rfl⟩:=trodVars_none hV
 have k0:=h0
 have lt0:∀ x∈p0,x.block<W.heap.size:=by obtain ⟨m,hm⟩:=k0;exact DataW.trod_lt m _ _ _ hm
 obtain ⟨a0,len0,cap0,rfl⟩:=okWide_slice Tryz.underlying22 (hval 0 22 v0 rfl rfl)
 obtain ⟨l0,hd0⟩:∃ l,Ints .u8 0 W.heap.size W (.slice a0 len0 cap0) l:=by
  obtain ⟨fuel,hf⟩:=h0
  exact bytes_in hf
 clear hA0 hval0
 simp only [List.append_nil] at hW'
 refine (alone_any hd0 (Nat.le_refl _) (errT_of_laid hL)).mono fun e W' ⟨he,hq⟩=>?_
 subst he
 have bel:=hq.quiet
 exact ⟨_,rfl,_,_,_,[],_,[],hW',trodAll_mk1 (shut_bool Tryz.underlying4 _),(trodAll_cons_mk (Below.trod laidOut_ (by kernel_rfl) (of_decide_eq_true (by kernel_rfl)) k0 bel lt0) trodAll_mk0),rfl,bel.frame _,fun h=>by cases h⟩
theorem boxAlone_row:Rows.BoxAloneSaid :=
 OpenClaim.holds_of_wide 4 Tryz.f4 rfl rfl rfl rfl rfl rfl rfl ⟨rfl,rfl,rfl,rfl,rfl⟩ rfl rfl rfl rfl rfl (by kernel_rfl) Tryz.func4 (by kernel_rfl)
  (of_decide_eq_true (by kernel_rfl)) (by unfold Func.isWrapper;first | (rw [if_pos (by decide +kernel)];kernel_rfl) | (rw [if_neg (by decide +kernel)];exact ⟨rfl,rfl⟩))
  (fun os started H enc _=>boxAlone_lifted os started H enc)
theorem boxAlone_holds:Rows.BoxAloneCardSaid :=
 Claim7.holds_tied_plain_at .later [] [.handle] true _ true
  boxAlone_row (fun _ h=>by cases h) (by kernel_rfl) (fun _ h=>by cases h) boxAlone_row_tie rfl ⟨rfl,rfl⟩ (by kernel_rfl) rfl
  (fun f fn hf hfn=>by
   obtain rfl:f=4:=Option.some.inj ((show Tryz.prog.funcNamed "kinescope/kinlaw24.BoxAlone"=some 4 by kernel_rfl).symm.trans hf) |>.symm
   obtain rfl:fn=Tryz.f4:=(Option.some.inj (Tryz.func4.symm.trans hfn)).symm
   exact ⟨by kernel_rfl,fun j t ht=>by
    rw [Tryz.params4] at ht
    have hm:t∈[22]:=by simpa using Array.mem_of_getElem? ht
    have hall:([22].all fun u=>!Tryz.prog.wantsStandIn u)=true:=by kernel_rfl
    exact (show Tryz.prog.wantsStandIn t=false by simpa using List.all_eq_true.1 hall t hm)⟩)
  (by kernel_rfl)
end Go.Proofs.YtmdobcffijnaoaaGreatDoor
