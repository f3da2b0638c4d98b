/- Joined texts: Vbv, Fills, Sizes, Check. Conditions: each part names its own. -/
import Derived.Test.YtmdobcffijnaoaaGreatDoorC1
import Derived.Test.YtmdobcffijnaoaaGreatDoorB3
import Derived.Test.YtmdobcffijnaoaaGreatDoorG3
import Derived.Test.YtmdobcffijnaoaaGreatDoorBH
namespace Go.Proofs.YtmdobcffijnaoaaGreatDoor
open Go.RowKit
set_option linter.unusedVariables false
set_option linter.unusedSimpArgs false
set_option maxRecDepth 100000
set_option maxHeartbeats 16000000
def sVbv:ByteArray:=⟨#[118,98,118]⟩
def sizesB (l:List Int):Bool:=l.all fun n=>fromB n 0 1073741824
def vcheck (c:Cfg) (l:List Int):Option Int:=if mayB c=false then some 11 else if 4096<l.length then some 3 else if sizesB l=false then some 3 else none
theorem sizesB_false {l:List Int} {k:Nat} (hk:k<l.length) (h:fromB (l.getD k 0) 0 1073741824=false):sizesB l=false:=by
 rw [← Bool.not_eq_true,sizesB,List.all_eq_true]
 intro ha
 have:=ha (l.getD k 0) (by simp [hk])
 rw [h] at this;cases this
theorem sizesB_true {l:List Int} (h:∀ i,i<l.length→fromB (l.getD i 0) 0 1073741824=true):sizesB l=true:=by
 rw [sizesB,List.all_eq_true]
 intro x hx
 obtain ⟨i,hi,rfl⟩:=List.getElem_of_mem hx
 have:=h i hi
 simpa [hi] using this
theorem sizesB_at {l:List Int} (h:sizesB l=true) {i:Nat} (hi:i<l.length):0≤l.getD i 0∧l.getD i 0≤1073741824:=by
 rw [sizesB,List.all_eq_true] at h
 have:=h (l.getD i 0) (by simp [hi])
 simp only [fromB,Bool.and_eq_true,decide_eq_true_eq] at this
 omega
theorem vcheck_any {lo hi:Nat} (c:Cfg) {v:Value} {l:List Int} {w:World} (h:Ints .i64 lo hi w v l) :
  Calls Tryz.prog 60 #[c.v,v] w fun e w'=>e=.returned (codeV (vcheck c l))∧Only [] w w':=by
 obtain ⟨a,cap,rfl,hcap,hmax,hat,hcell⟩:=h.open
 have hll:l.length≤9223372036854775807:=by unfold maxLen at hmax;omega
 have Hat:=lh hat
 have Hcell:=lh hcell
 clear hat hcell h hcap hmax
 obtain ⟨a0,a1,a2,a3,a4,a5,a6,a7⟩:=c
 have hchk:=fun W=>check_any ⟨a0,a1,a2,a3,a4,a5,a6,a7⟩ W
 unfold Cfg.v at hchk ⊢
 by_cases hm:mayB ⟨a0,a1,a2,a3,a4,a5,a6,a7⟩=true
 ·have Hm:=lh hm
  rw [hm] at hchk
  simp only [if_true,codeV] at hchk
  have Hchk:=lh hchk
  clear hm hchk
  by_cases hlen:4096<l.length
  ·go_enter Tryz.func60,Tryz.ntmps60
   go_wp2_with (go_at_call 28;refine (Hchk.out _).mono ?_;rintro e w' ⟨rfl,ho⟩)
   go_ret
   exact ⟨by simp [vcheck,Hm.out,hlen,codeV],(Only.new _ _).q ho⟩
  ·go_enter Tryz.func60,Tryz.ntmps60
   go_wp2_with (go_at_call 28;refine (Hchk.out _).mono ?_;rintro e w' ⟨rfl,ho⟩)
   have hq:Only [] w w':=(Only.new _ _).q ho
   clear ho
   go_loop [19,7] (fun i _=>∃ k:Nat,k≤l.length∧i=.int .i64 k∧∀ j,j<k→fromB (l.getD j 0) 0 1073741824=true) (fun i _=>l.length-(intOf i).toNat)
   case atStart=>exact ⟨0,by omega,rfl,fun j hj=>absurd hj (by omega)⟩
   case round =>
    obtain ⟨k,hk,rfl,hall⟩:=hrel
    have Hall:=lh hall
    clear hall
    by_cases hlt:k<l.length
    ·obtain ⟨b,off,rfl,_,_⟩:=Hat.out k hlt
     have hc:=hq.cell (Hcell.out b off rfl k hlt) (by simp)
     generalize hx:l.getD k 0=x at *
     have Hx:=lh hx
     clear hx
     cases hf:fromB x 0 1073741824
     ·go_wp2_with (go_at_call 104;refine (from_any _ _ _ _).mono ?_;rintro e w' ⟨rfl,rfl⟩)
      go_ret
      refine ⟨?_,hq⟩
      have:sizesB l=false:=sizesB_false hlt (by rw [Hx.out];exact hf)
      simp [vcheck,Hm.out,hlen,this,codeV]
     ·go_wp2_with (go_at_call 104;refine (from_any _ _ _ _).mono ?_;rintro e w' ⟨rfl,rfl⟩)
      go_round
      case rel =>
       refine ⟨k+1,by omega,by go_num,fun j hj=>?_⟩
       rcases Nat.lt_or_ge j k with h1 | h1
       ·exact Hall.out j h1
       ·obtain rfl:j=k:=by omega
        rw [Hx.out];exact hf
      case measure=>simp [intOf];omega
    ·obtain rfl:k=l.length:=by omega
     go_wp2
     go_ret
     refine ⟨?_,hq⟩
     have:=sizesB_true Hall.out
     simp [vcheck,Hm.out,hlen,this,codeV]
 ·have hm':mayB ⟨a0,a1,a2,a3,a4,a5,a6,a7⟩=false:=by simpa using hm
  have Hm:=lh hm'
  rw [hm'] at hchk
  simp only [Bool.false_eq_true,if_false,codeV] at hchk
  have Hchk:=lh hchk
  clear hm hm' hchk
  go_enter Tryz.func60,Tryz.ntmps60
  go_wp2_with (go_at_call 28;refine (Hchk.out _).mono ?_;rintro e w' ⟨rfl,ho⟩)
  go_ret
  exact ⟨by simp [vcheck,Hm.out,codeV],(Only.new _ _).q ho⟩
def fillsGo (rate room:Int):Nat→Int→List Int→Except Err (List Int)
 | _,_,[]=>.ok []
 | i,has,n :: r =>
  if has<n then .error ⟨[(sVbv,i)],14⟩ else
   match fillsGo rate room (i+1) (min (has+(rate-n)) room) r with
   | .ok l=>.ok (max (has+(rate-n)-room) 0 :: l)
   | .error e=>.error e
def fills (c:Cfg) (l:List Int):Except Err (List Int) :=
 match vcheck c l with
 | some k=>.error ⟨[],k⟩
 | none=>fillsGo c.rate c.room 0 c.fill l
def pre (out:List Int):Except Err (List Int)→Except Err (List Int)
 | .ok r=>.ok (out ++ r)
 | .error e=>.error e
theorem pre_nil (r:Except Err (List Int)):pre [] r=r:=by cases r <;> rfl
theorem drop_cons {l:List Int} {k:Nat} (h:k<l.length):l.drop k=l.getD k 0 :: l.drop (k+1):=by
 rw [List.drop_eq_getElem_cons h];simp [h]
/-- a list of ints, or an error -/
def ListOr (w:World) (r:Except Err (List Int)) (e:Ending) (w':World):Prop :=
 Only [] w w'∧match r with
  | .ok l=>∃ v,e=.returned (.tuple #[v,.nilIface])∧Own .i64 3 w.heap.size w' v l
  | .error er=>∃ ev,e=.returned (.tuple #[.slice none 0 0,ev])∧ErrV w.heap.size w'.heap.size w' ev er
theorem fills_any {lo hi:Nat} (c:Cfg) {v:Value} {l:List Int} {w:World} (h:Ints .i64 lo hi w v l) :
  Calls Tryz.prog 32 #[c.v,v] w (ListOr w (fills c l)):=by
 obtain ⟨a,cap,rfl,hcap,hmax,hat,hcell⟩:=h.open
 have hll:l.length≤9223372036854775807:=by unfold maxLen at hmax;omega
 have Hat:=lh hat
 have Hcell:=lh hcell
 have Hh:=lh h
 clear hat hcell h hcap hmax
 have hb:=fun (h:mayB c=true)=>may_bounds h
 have hS:=fun (h:sizesB l=true) i (hi:i<l.length)=>sizesB_at h hi
 obtain ⟨a0,a1,a2,a3,a4,a5,a6,a7⟩:=c
 have hchk:=fun (W:World) (hI:Ints .i64 lo hi W (.slice a l.length cap) l)=>vcheck_any (w:=W) ⟨a0,a1,a2,a3,a4,a5,a6,a7⟩ hI
 unfold Cfg.v at hchk ⊢
 by_cases hm:vcheck ⟨a0,a1,a2,a3,a4,a5,a6,a7⟩ l=none
 ·rw [hm] at hchk
  have hm0:mayB ⟨a0,a1,a2,a3,a4,a5,a6,a7⟩=true∧l.length≤4096∧sizesB l=true:=by
   unfold vcheck at hm
   split at hm <;> try (cases hm;done)
   split at hm <;> try (cases hm;done)
   split at hm <;> try (cases hm;done)
   exact ⟨by simpa using ‹¬ mayB _=false›,by omega,by simpa using ‹¬ sizesB l=false›⟩
  obtain ⟨m0,m1,m2⟩:=hm0
  obtain ⟨_,_,_,_,_,_,_,_,_,_,q10,q11,q12,q13,q14,q15,_,q17⟩:=hb m0
  have hS':=hS m2
  have hR:fills ⟨a0,a1,a2,a3,a4,a5,a6,a7⟩ l=fillsGo a5 a6 0 a7 l:=by simp [fills,hm]
  simp only at q10 q11 q12 q13 q14 q15 q17
  have HR:=lh hR
  have HS:=lh hS'
  simp only [codeV] at hchk
  have Hchk:=lh hchk
  clear hm hchk hR hS' hS hb m0 m2
  go_enter Tryz.func32,Tryz.ntmps32
  go_wp2_with (go_at_call 60;refine (Hchk.out _ (Hh.out.quiet (Only.new _ _))).mono ?_;rintro e w2 ⟨rfl,ho⟩;have k5:=ho.cell (p:=⟨w.heap.size,5,none⟩) (v:=.int .i64 a5) (by simp) (by simp);have k6:=ho.cell (p:=⟨w.heap.size,6,none⟩) (v:=.int .i64 a6) (by simp) (by simp); have k7:=ho.cell (p:=⟨w.heap.size,7,none⟩) (v:=.int .i64 a7) (by simp) (by simp))
  have hq:Only [] w w2:=(Only.new _ _).q ho
  have hz2:w.heap.size+1≤w2.heap.size:=by have:=ho.size;simp at this;omega
  clear ho
  have K5:=lh k5
  have K6:=lh k6
  clear k5 k6 k7
  go_loopw [21,7,8,9,10] (fun i x y _ _ wr=>∃ (k:Nat) (has:Int) (out:List Int),k≤l.length∧i=.int .i64 k∧x=.int .i64 has∧0≤has∧has≤a6∧out.length=k ∧
    pre out (fillsGo a5 a6 k has (l.drop k))=fillsGo a5 a6 0 a7 l∧Own .i64 3 w2.heap.size wr y out∧From w2.heap.size y∧Only [] w2 wr) (fun i _ _ _ _ _=>l.length-(intOf i).toNat)
  case atStart=>exact ⟨0,a7,[],by omega,rfl,rfl,by omega,by omega,rfl,pre_nil _,Own.nil _ _ _ _,From.nil _,Only.refl _ _⟩
  case round =>
   obtain ⟨k,has,out,hk,rfl,rfl,h0,h1,hout,hpre,hown,hfrom,hqr⟩:=hrel
   have Hpre:=lh hpre
   have Hout:=lh hout
   clear hpre hout
   by_cases hlt:k<l.length
   ·obtain ⟨b,off,rfl,_,_⟩:=Hat.out k hlt
    have hc:=(hq.q hqr).cell (Hcell.out b off rfl k hlt) (by simp)
    have k5:=hqr.cell K5.out (by simp)
    have k6:=hqr.cell K6.out (by simp)
    obtain ⟨n0,n1⟩:=HS.out k hlt
    have hd:=drop_cons hlt
    generalize l.getD k 0=n at *
    have Hd:=lh hd
    clear hd
    by_cases hn:has<n
    ·go_wp2_with (go_at_call 26;refine (inc_any _ _ _ _).mono ?_;rintro e w3 ⟨ev,rfl,hev,ho3⟩)
     go_ret2
     rw [HR.out,← Hpre.out,Hd.out,fillsGo,if_pos hn]
     exact ⟨hq.q (hqr.q ho3),ev,rfl,hev.mono (by have:=hqr.size;omega) (Nat.le_refl _)⟩
    ·have hk6:∀ o,(wr.alloc o).cell? ⟨w.heap.size,6,none⟩=some (.int .i64 a6):=fun o=>(Only.new _ _).cell k6 (by simp)
     have HK6:=lh hk6
     clear hk6
     by_cases hov:has+(a5-n)-a6<0
     ·have hov2:has+(a5-n)<a6:=by omega
      have hstep:fillsGo a5 a6 k has (n :: l.drop (k+1))=match fillsGo a5 a6 (k+1) (has+(a5-n)) (l.drop (k+1)) with | .ok l=>.ok (0 :: l) | .error e=>.error e:=by
       rw [fillsGo,if_neg hn]
       rw [show max (has+(a5-n)-a6) 0=0 by omega,show min (has+(a5-n)) a6=has+(a5-n) by omega]
      have Hstep:=lh hstep
      clear hstep
      go_wp2_with (at_builtin;refine wpList_append_ints rfl (.tmp 38) (.tmp 44) _ rfl EI (hown.quiet (Only.new _ _)) rfl (ints_newG (l:=[0]) rfl (by simp [maxLen]) ?c0 1 rfl rfl) rfl ?c1 ?c2 (fun v1 w1 hown1 ho1=>have k6':=ho1.cell hfrom (HK6.out _) hz2;?_))
      case c0=>simp only [List.mem_cons,List.not_mem_nil,or_false,forall_eq,InK];omega
      case c1=>have:=Hout.out;simp;omega
      case c2=>have:=hqr.size;simp;omega
      go_roundw
      case rel =>
       refine ⟨k+1,has+(a5-n),out ++ [0],by omega,by go_num,by first | rfl | exact congrArg (Value.int .i64) (by split <;> omega),by omega,by omega,by have:=Hout.out;simp;omega,?_,hown1,ho1.from_ hfrom (by have:=hqr.size;simp;omega),(hqr.q (Only.new _ _)).acc ho1 hfrom⟩
       rw [← Hpre.out,Hd.out,Hstep.out]
       cases fillsGo a5 a6 (k+1) (has+(a5-n)) (l.drop (k+1)) with
       | ok r=>simp [pre]
       | error e=>rfl
      case measure=>simp [intOf];omega
     ·have hov2:a6≤has+(a5-n):=by omega
      have hstep:fillsGo a5 a6 k has (n :: l.drop (k+1))=match fillsGo a5 a6 (k+1) (a6) (l.drop (k+1)) with | .ok l=>.ok ((has+(a5-n)-a6) :: l) | .error e=>.error e:=by
       rw [fillsGo,if_neg hn]
       rw [show max (has+(a5-n)-a6) 0=(has+(a5-n)-a6) by omega,show min (has+(a5-n)) a6=a6 by omega]
      have Hstep:=lh hstep
      clear hstep
      go_wp2_with (at_builtin;refine wpList_append_ints rfl (.tmp 38) (.tmp 44) _ rfl EI (hown.quiet (Only.new _ _)) rfl (ints_newG (l:=[(has+(a5-n)-a6)]) rfl (by simp [maxLen]) ?c0 1 rfl rfl) rfl ?c1 ?c2 (fun v1 w1 hown1 ho1=>have k6':=ho1.cell hfrom (HK6.out _) hz2;?_))
      case c0=>simp only [List.mem_cons,List.not_mem_nil,or_false,forall_eq,InK];omega
      case c1=>have:=Hout.out;simp;omega
      case c2=>have:=hqr.size;simp;omega
      go_roundw
      case rel =>
       refine ⟨k+1,a6,out ++ [(has+(a5-n)-a6)],by omega,by go_num,by first | rfl | exact congrArg (Value.int .i64) (by split <;> omega),by omega,by omega,by have:=Hout.out;simp;omega,?_,hown1,ho1.from_ hfrom (by have:=hqr.size;simp;omega),(hqr.q (Only.new _ _)).acc ho1 hfrom⟩
       rw [← Hpre.out,Hd.out,Hstep.out]
       cases fillsGo a5 a6 (k+1) (a6) (l.drop (k+1)) with
       | ok r=>simp [pre]
       | error e=>rfl
      case measure=>simp [intOf];omega
   ·obtain rfl:k=l.length:=by omega
    go_wp2
    go_ret2
    rw [HR.out,← Hpre.out,List.drop_length,fillsGo,pre,List.append_nil]
    exact ⟨hq.q hqr,_,rfl,hown.lower (by omega)⟩
 ·obtain ⟨code,hc⟩:∃ code,vcheck ⟨a0,a1,a2,a3,a4,a5,a6,a7⟩ l=some code:=by
   cases hx:vcheck ⟨a0,a1,a2,a3,a4,a5,a6,a7⟩ l with
   | none=>exact absurd hx hm
   | some k=>exact ⟨k,rfl⟩
  rw [hc] at hchk
  have hR:fills ⟨a0,a1,a2,a3,a4,a5,a6,a7⟩ l=.error ⟨[],code⟩:=by simp [fills,hc]
  have HR:=lh hR
  simp only [codeV] at hchk
  have Hchk:=lh hchk
  clear hm hchk hR hS hb hc
  go_enter Tryz.func32,Tryz.ntmps32
  go_wp2_with (go_at_call 60;refine (Hchk.out _ (Hh.out.quiet (Only.new _ _))).mono ?_;rintro e w2 ⟨rfl,ho⟩)
  go_ret2
  rw [HR.out]
  exact ⟨(Only.new _ _).q ho,_,rfl,ErrV.code _ _ _ _⟩
def takenR (cs:List Coded) (fs:List Int):List Int:=List.zipWith (fun c f=>costOf c+f) cs fs
def sizesR (l:List Int):Except Err (List Int) :=
 match openR l with
 | .error e=>.error e
 | .ok x=>.ok (takenR x.coded x.fills)
theorem takenR_take {cs:List Coded} {fs:List Int} {k:Nat} (h:k<cs.length) (h2:k<fs.length):takenR (cs.take (k+1)) (fs.take (k+1))=takenR (cs.take k) (fs.take k) ++ [((cs.getD k default).data.length:Int)+8+fs.getD k 0]:=by
 rw [List.take_succ_eq_append_getElem h,List.take_succ_eq_append_getElem h2,takenR,List.zipWith_append (by simp;omega)]
 simp [takenR,costOf,h,h2]
theorem Sizes_any {lo hi:Nat} {bv:Value} {l:List Int} {w:World} (h:Ints .u8 lo hi w bv l) (hh:hi≤w.heap.size) (hl:l.length≤100000000) :
  Calls Tryz.prog 15 #[bv] w (ListOr w (sizesR l)):=by
 have H:=lh (open_any h hh (by omega))
 have hr8:=h.2
 clear h
 cases hres:openR l with
 | error er =>
  have hfin:sizesR l=.error er:=by unfold sizesR;rw [hres]
  have Hfin:=lh hfin
  rw [hres] at H
  clear hres hfin
  go_enter Tryz.func15,Tryz.ntmps15
  go_wp2_with (first
   | (go_at_call 18;refine H.out.mono ?_;rintro e w2 hP;unfold OpenP at hP;simp only at hP;obtain ⟨hq2,ev,rfl,hev⟩:=hP;obtain ⟨et,eu,rfl⟩:=id hev.held;unfold infoV cfg0;simp only;have HEv:=lh hev;clear hev)
   | fail)
  go_ret2
  rw [Hfin.out]
  exact ⟨hq2.alloc _,_,rfl,(HEv.out.quiet (Only.new _ _)).mono (Nat.le_refl _) (by simp)⟩
 | ok x =>
  have hfin:sizesR l=.ok (takenR x.coded x.fills):=by unfold sizesR;rw [hres]
  have hok:=openR_ok hr8 hres
  obtain ⟨hok1,⟨hf1,hf2,hf3⟩,_,hok2⟩:=hok
  have hcm3:x.coded.length≤16:=by obtain ⟨_,_,h16,_⟩:=hok1;omega
  clear hok1 hok2
  have Hfin:=lh hfin
  rw [hres] at H
  clear hres hfin
  obtain ⟨⟨hW,hH,hF,⟨c0,c1,c2,c3,c4,c5,c6,c7⟩,np⟩,es,cs,fs⟩:=x
  simp only at hf1 hf2 hf3 hcm3
  go_enter Tryz.func15,Tryz.ntmps15
  go_wp2_with (first
   | (go_at_call 18;refine H.out.mono ?_;rintro e w2 hP;unfold OpenP at hP;simp only at hP;obtain ⟨hq2,pv,cv,fv,rfl,hoe,hoc,hof⟩:=hP;obtain ⟨pa,pcap,hpv,_⟩:=id hoe.open;subst hpv;unfold infoV;simp only;obtain ⟨ca,ccap,hcv,hcc,hcm,hcel⟩:=id hoc.open;subst hcv;obtain ⟨fa,fcap,hfv,hfc,hfm,hfat,hfcell⟩:=id hof.open;subst hfv;have Hcel:=lh hcel;have Hfat:=lh hfat;have Hfcell:=lh hfcell;clear hoe hoc hof hcel hfat hfcell)
   | fail)
  generalize hWg:World.alloc _ _=W0
  have hqN:Only [] w2 W0:=by rw [← hWg];exact Only.new _ _
  have hq0:Only [] w W0:=hq2.q hqN
  have Hf1:=lh hf1
  have Hf2:=lh hf2
  have Hf3:=lh hf3
  have HqN:=lh hqN
  have hcl:(cs.length:Int)≤9223372036854775807:=by unfold maxLen at hcm;omega
  have hfl:(fs.length:Int)≤9223372036854775807:=by unfold maxLen at hfm;omega
  have hcm2:cs.length≤9223372036854775807:=by unfold maxLen at hcm;omega
  clear hWg hqN hf1 hf2 hf3 hcm hfm
  go_loopw [23,8] (fun i y wr=>∃ k:Nat,k≤cs.length∧i=.int .i64 k∧Own .i64 3 W0.heap.size wr y (takenR (cs.take k) (fs.take k))∧From W0.heap.size y∧Only [] W0 wr) (fun i _ _=>cs.length-(intOf i).toNat)
  case atStart=>exact ⟨0,by omega,rfl,Own.nil _ _ _ _,From.nil _,Only.refl _ _⟩
  case round =>
   obtain ⟨k,hk,rfl,hown,hfrom,hq⟩:=hrel
   by_cases hlt:k<cs.length
   ·have hlf:k<fs.length:=by have:=Hf1.out;omega
    obtain ⟨b,off,dv,hca,_,_,hc1,hc2,hkind,hd⟩:=Hcel.out k hlt
    obtain ⟨fb,foff,hfa,hfb1,hfb2⟩:=Hfat.out k hlf
    subst hca;subst hfa
    have c1:=hq.cell (HqN.out.cell hc1 (by simp)) (by simp)
    have c2:=hq.cell (HqN.out.cell hc2 (by simp)) (by simp)
    have f1:=hq.cell (HqN.out.cell (Hfcell.out fb foff rfl k hlf) (by simp)) (by simp)
    have hd':=hd.quiet (HqN.out.q hq)
    obtain ⟨da,dcap,rfl,_⟩:=hd.open
    have hdl:=(Hf2.out (cs.getD k default) (by simp [hlt])).1
    have hz:=Hf3.out (fs.getD k 0) (by simp [hlf])
    have hs:=takenR_take hlt hlf
    have Hs:=lh hs
    have Hd:=lh hd'
    clear hc1 hc2 hd hd' hs hkind
    have hx:(0:Int)≤(k:Int):=by omega
    have hx1:(k:Int)<(cs.length:Int):=by omega
    have hx2:(k:Int)<(fs.length:Int):=by omega
    have hlen:(takenR (cs.take k) (fs.take k)).length≤k:=by simp [takenR];omega
    have Hlen:=lh hlen
    generalize takenR (cs.take k) (fs.take k)=S0 at *
    generalize cs.getD k default=x at *
    generalize fs.getD k 0=z at *
    obtain ⟨xk,xd⟩:=x
    simp only at c1 c2 hdl
    clear hlen
    go_wp2_with fail
    generalize hW3:World.alloc wr _=W3
    have hqU:Only [] wr W3:=by rw [← hW3];exact Only.new _ _
    have rC:W3.heap[wr.heap.size]?=some (.cells #[.int .i64 xk,.slice da xd.length dcap] 83 (0,0)):=by rw [← hW3];exact heap_alloc_new _ _
    have a0:W3.cell? ⟨wr.heap.size,0,none⟩=some (.int .i64 xk):=by rw [cell_of_row _ _ _ _ _ _ rC];rfl
    have a1:W3.cell? ⟨wr.heap.size,1,none⟩=some (.slice da xd.length dcap):=by rw [cell_of_row _ _ _ _ _ _ rC];rfl
    have f3:=hqU.cell f1 (by simp)
    have hd3:=Hd.out.quiet hqU.drew
    have hcost:=cost_any (k:=xk) hd3 (by omega)
    have HC:=lh hcost
    have hqz:=hq.size
    have hq0z:=hq0.size
    have hwv:IntKind.i64.wrap ((xd.length:Int)+8+z)=(xd.length:Int)+8+z:=by rw [IntKind.wrap_i64];omega
    have HQU:=lh hqU
    have hap:u8.ownBlock≠some wr.heap.size:=fun e=>by have:=(hown.at _ e).2;omega
    have hap2:u8.ownBlock≠some fb:=fun e=>by have:=hfrom _ e;have:=HqN.out.size;omega
    clear hW3 rC hd3 hcost hqU c1 c2 f1
    go_region_held3 (fun w'=>w'.cell? ⟨wr.heap.size,0,none⟩=some (.int .i64 xk)∧w'.cell? ⟨wr.heap.size,1,none⟩=some (.slice da xd.length dcap)∧w'.cell? ⟨fb,foff+k,none⟩=some (.int .i64 z))
     (first
      | (go_split_ands;refine ⟨hacc4.keep (by assumption) hap,hacc4.keep (by assumption) hap,hacc4.keep (by assumption) hap2⟩)
      | (go_split_ands;refine ⟨hq3.cell (by assumption) (by simp),hq3.cell (by assumption) (by simp),hq3.cell (by assumption) (by simp)⟩)
      | (simp [*,World.cell?_alloc_some,World.cell?_setCell_far,frozen?_alloc_cells,frozen_drew,World.frozen?_setCell])
      | fail)
     (first
      | (go_at_call 37;refine HC.out.mono ?_;rintro e w3 ⟨rfl,hq3⟩;have hq3':Only [] wr w3:=(HQU.out.drew).q hq3;have hz3:=hq3'.size;have hown3:=hown.quiet (hq3'.q (Only.new _ (.cells #[.int .i64 ((xd.length:Int)+8+z)] 3)));have hsrc:=ints_newG (k:=.i64) (w:=w3) (t:=3) (l:=[(xd.length:Int)+8+z]) rfl (by simp [maxLen]) (by simp only [mSg,forall_eq,InK];omega) 1 rfl rfl;have hby:(S0.length+[(xd.length:Int)+8+z].length)*8≤140737488355328:=(by have:=Hlen.out;have:=hcm3;simp only [List.length_singleton];omega);have hba:W0.heap.size≤(w3.alloc (.cells #[.int .i64 ((xd.length:Int)+8+z)] 3)).heap.size:=(by simp;omega))
      | (refine step_append_ints rfl (.tmp 28) (.tmp 36) 48 rfl EI hown3 rfl hsrc rfl hby hba (fun v1 w4 hown4 hacc4=>?_))
      | fail)
    go_wp2_with fail
    have hq3w:Only [] wr (w3.alloc (.cells #[.int .i64 ((xd.length:Int)+8+z)] 3)):=hq3'.q (Only.new _ _)
    go_roundw
    case rel=>exact ⟨k+1,by omega,by go_num,by rw [Hs.out];exact hown4,hacc4.from_ hfrom hba,(hq.q hq3w).acc hacc4 hfrom⟩
    case measure=>simp [intOf];omega
   ·obtain rfl:k=cs.length:=by omega
    have hx:¬ (cs.length:Int)<(cs.length:Int):=by omega
    go_wp2
    go_ret2
    rw [Hfin.out]
    refine ⟨hq0.q hq,_,rfl,?_⟩
    have e1:cs.take cs.length=cs:=List.take_length
    have e2:fs.take cs.length=fs:=by rw [← Hf1.out];exact List.take_length
    rw [e1,e2] at hown
    exact hown.lower hq0.size
theorem CodedsAt.isSlice {lo hi:Nat} {w:World} {v:Value} {l:List Coded} (h:CodedsAt lo hi w v l):∃ a n cap,v=.slice a n cap:=by
 obtain ⟨a,cap,rfl,_⟩:=h.open;exact ⟨a,_,cap,rfl⟩
theorem check1_any {lo hi:Nat} {cv:Value} {c:Chunk} {w:World} (h:CodedsAt lo hi w cv c.coded) (hc:ChunkOk c) :
  Calls Tryz.prog 58 #[.agg #[.int .i64 c.number,.int .i64 c.first,.int .i64 c.count,cv]] w fun e w'=>e=.returned (.bool (!chunkB c))∧Only [] w w':=by
 have H:=lh (fun w' (o:Only [] w w')=>gmay_any (h.quiet o) hc)
 obtain ⟨a,n,cap,rfl⟩:=h.isSlice
 clear h hc
 go_enter Tryz.func58,Tryz.ntmps58
 go_wp2_with (first | (go_at_call 59;refine (H.out _ (Only.new _ _)).mono ?_;rintro e w1 ⟨rfl,hq1⟩) | fail)
 go_ret
 exact ⟨rfl,(Only.new _ _).q hq1⟩
def badB (l:List Chunk):Bool:=l.any fun c=>!chunkB c
theorem any_drop_succ {α:Type} [Inhabited α] (f:α→Bool) {l:List α} {k:Nat} (h:k<l.length):(l.drop k).any f=(f (l.getD k default) || (l.drop (k+1)).any f):=by
 rw [List.drop_eq_getElem_cons h,List.any_cons]
 congr 2
 simp [h]
theorem badB_drop {l:List Chunk} {k:Nat} (h:k<l.length):badB (l.drop k)=(!chunkB (l.getD k default) || badB (l.drop (k+1))):=any_drop_succ _ h
theorem indexFunc_any {lo hi:Nat} {v:Value} {l:List Chunk} {w:World} (h:ChunksAt lo hi w v l) (hl:l.length≤1000000) :
  Calls Tryz.prog 105 #[v,.func (.func 58) #[] #[]] w fun e w'=>(∃ i:Int,e=.returned (.int .i64 i)∧(0≤i↔badB l=true)∧-1≤i∧i≤1000000)∧Only [] w w':=by
 obtain ⟨a,cap,rfl,hcap,hmax,hel⟩:=h.open
 have Hel:=lh hel
 have Hl:=lh hl
 have hll:(l.length:Int)≤9223372036854775807:=by omega
 clear h hel hmax hcap hl
 go_enter Tryz.func105,Tryz.ntmps105
 go_wp2
 go_loopw [8] (fun i wr=>∃ k:Nat,k≤l.length∧i=.int .i64 k∧Hid (badB (l.drop k)=badB l)∧Only [] w wr) (fun i _=>l.length-(intOf i).toNat)
 case atStart=>exact ⟨0,by omega,rfl,lh rfl,Only.refl _ _⟩
 case round =>
  obtain ⟨k,hk,rfl,Hk,hq⟩:=hrel
  by_cases hlt:k<l.length
  ·obtain ⟨b,off,cv,rfl,_,_,hc0,hc1,hc2,hc3,hok,hcd⟩:=Hel.out k hlt
   have c0:=hq.cell hc0 (by simp)
   have c1:=hq.cell hc1 (by simp)
   have c2:=hq.cell hc2 (by simp)
   have c3:=hq.cell hc3 (by simp)
   obtain ⟨ca,cn,ccap,rfl⟩:=hcd.isSlice
   have Hd:=lh (fun w' (o:Only [] wr w')=>check1_any (hcd.quiet (hq.q o)) hok)
   have hx:(0:Int)≤(k:Int):=by omega
   have hx1:(k:Int)<(l.length:Int):=by omega
   have hdrop:=badB_drop hlt
   have Hdrop:=lh hdrop
   clear hc0 hc1 hc2 hc3 hcd hdrop hok
   generalize l.getD k default=x at *
   cases hxx:chunkB x with
   | false =>
    have Hx:=lh hxx
    clear hxx
    go_wp2_with (first | (go_at_call 58;refine (Hd.out _ (Only.refl _ _)).mono ?_;rintro e w2 ⟨rfl,hq2⟩;rw [Hx.out]) | fail)
    go_ret
    refine ⟨⟨k,rfl,?_,by omega,by have:=Hl.out;omega⟩,hq.q hq2⟩
    rw [← Hk.out,Hdrop.out,Hx.out]
    simp
   | true =>
    have Hx:=lh hxx
    clear hxx
    go_wp2_with (first | (go_at_call 58;refine (Hd.out _ (Only.refl _ _)).mono ?_;rintro e w2 ⟨rfl,hq2⟩;rw [Hx.out]) | fail)
    go_roundw
    case rel =>
     have hfin:Hid (badB (l.drop (k+1))=badB l):=lh (by rw [← Hk.out,Hdrop.out,Hx.out];rfl)
     first | exact ⟨k+1,by omega,by go_num,hfin,hq.q hq2⟩ | ((repeat apply Exists.intro);exact ⟨⟨k+1,by omega,by go_num,hfin,hq.q hq2⟩,rfl⟩)
    case measure=>simp [intOf];omega
  ·obtain rfl:k=l.length:=by omega
   have hx:¬ (l.length:Int)<(l.length:Int):=by omega
   go_wp2
   go_ret
   refine ⟨⟨-1,rfl,?_,by omega,by omega⟩,hq⟩
   rw [← Hk.out,List.drop_length]
   simp [badB]
theorem contains_any {lo hi:Nat} {v:Value} {l:List Chunk} {w:World} (h:ChunksAt lo hi w v l) (hl:l.length≤1000000) :
  Calls Tryz.prog 57 #[v,.func (.func 58) #[] #[]] w fun e w'=>e=.returned (.bool (badB l))∧Only [] w w':=by
 have H:=lh (indexFunc_any h hl)
 clear h hl
 go_enter Tryz.func57,Tryz.ntmps57
 go_wp2_with (first | (go_at_call 105;refine H.out.mono ?_;rintro e w1 ⟨⟨i,rfl,hi1,hi2,hi3⟩,hq1⟩) | fail)
 go_ret
 exact ⟨ret_bool (by rw [Bool.eq_iff_iff,← hi1];try simp),hq1⟩
/-- do the chunks' numbers and firsts run on -/
def runsOn (i a:Int):List Chunk→Bool
 | []=>true
 | c :: l=>if c.number≠i∨c.first≠a∨16-a<c.count then false else runsOn (i+1) (a+c.count) l
def checkB (l:List Chunk):Option Int:=if l=[]∨badB l=true then some 2 else if runsOn 0 0 l then none else some 14
def CodeOr (v:Value):Option Int→Prop
 | none=>v=.nilIface
 | some k=>v=.iface 29 (.int .i64 k)
theorem runsOn_drop {l:List Chunk} {k:Nat} {i a:Int} (h:k<l.length):runsOn i a (l.drop k)=(if (l.getD k default).number≠i∨(l.getD k default).first≠a∨16-a<(l.getD k default).count then false else runsOn (i+1) (a+(l.getD k default).count) (l.drop (k+1))):=by
 rw [List.drop_eq_getElem_cons h]
 have:l.getD k default=l[k]:=by simp [h]
 rw [this];rfl
theorem chunk_of_badB {l:List Chunk} {k:Nat} (h:badB l=false) (hk:k<l.length):1≤(l.getD k default).count∧(l.getD k default).count≤16:=by
 have h2:=List.any_eq_false.1 h (l.getD k default) (by simp [hk])
 have h3:chunkB (l.getD k default)=true:=by simpa using h2
 simp only [chunkB,Bool.and_eq_true,headB,decide_eq_true_eq] at h3
 omega
theorem bcheck_any {lo hi:Nat} {v:Value} {l:List Chunk} {w:World} (h:ChunksAt lo hi w v l) (hl:l.length≤1000000) :
  Calls Tryz.prog 30 #[v] w fun e w'=>(∃ u,e=.returned u∧CodeOr u (checkB l))∧Only [] w w':=by
 have Hc:=lh (contains_any h hl)
 obtain ⟨a,cap,rfl,hcap,hmax,hel⟩:=h.open
 have Hel:=lh hel
 have Hl:=lh hl
 have hll:(l.length:Int)≤9223372036854775807:=by omega
 clear h hel hmax hcap hl
 by_cases hz:l.length=0
 ·have hz':l=[]:=List.eq_nil_of_length_eq_zero hz
  have h0:((l.length:Nat):Int)=0:=by omega
  have hb:checkB l=some 2:=by simp [checkB,hz']
  have Hb:=lh hb
  clear hb hz hz'
  go_enter Tryz.func30,Tryz.ntmps30
  go_wp2_with fail
  go_ret
  exact ⟨⟨_,rfl,by rw [Hb.out];rfl⟩,Only.refl _ _⟩
 ·have hz0:((l.length:Int) == 0)=false:=by rw [beq_eq_false_iff_ne];omega
  have hne:l≠[]:=by rintro rfl;exact hz rfl
  cases hbad:badB l with
  | true =>
   have hb:checkB l=some 2:=by simp [checkB,hbad]
   have Hb:=lh hb
   have Hbad:=lh hbad
   clear hb hbad hne
   go_enter Tryz.func30,Tryz.ntmps30
   go_wp2_with (first | (go_at_call 57;refine Hc.out.mono ?_;rintro e w1 ⟨rfl,hq1⟩;rw [Hbad.out]) | fail)
   go_ret
   exact ⟨⟨_,rfl,by rw [Hb.out];rfl⟩,hq1⟩
  | false =>
   have hb:checkB l=if runsOn 0 0 l then none else some 14:=by simp [checkB,hbad,hne]
   have Hb:=lh hb
   have Hbad:=lh hbad
   clear hb hbad hne
   go_enter Tryz.func30,Tryz.ntmps30
   go_wp2_with (first | (go_at_call 57;refine Hc.out.mono ?_;rintro e w1 ⟨rfl,hq1⟩;rw [Hbad.out]) | fail)
   go_loopw [16,3] (fun i y wr=>∃ (k:Nat) (a:Int),k≤l.length∧i=.int .i64 k∧y=.int .i64 a∧0≤a∧a≤16∧Hid (runsOn k a (l.drop k)=runsOn 0 0 l)∧Only [] w wr) (fun i _ _=>l.length-(intOf i).toNat)
   case atStart=>exact ⟨0,0,by omega,rfl,rfl,by omega,by omega,lh rfl,hq1⟩
   case round =>
    obtain ⟨k,m,hk,rfl,rfl,hm0,hm1,Hk,hq⟩:=hrel
    by_cases hlt:k<l.length
    ·obtain ⟨b,off,cv,rfl,_,_,hc0,hc1,hc2,hc3,hok,hcd⟩:=Hel.out k hlt
     have c0:=hq.cell hc0 (by simp)
     have c1:=hq.cell hc1 (by simp)
     have c2:=hq.cell hc2 (by simp)
     have c3:=hq.cell hc3 (by simp)
     obtain ⟨ca,cn,ccap,rfl⟩:=hcd.isSlice
     have hx:(0:Int)≤(k:Int):=by omega
     have hx1:(k:Int)<(l.length:Int):=by omega
     have hgood:=chunk_of_badB Hbad.out hlt
     have Hdrop:=lh (runsOn_drop (i:=k) (a:=m) hlt)
     clear hc0 hc1 hc2 hc3 hcd hok
     generalize l.getD k default=x at *
     obtain ⟨xn,xf,xc,xl⟩:=x
     simp only at c0 c1 c2 hgood
     by_cases hbr:xn≠k∨xf≠m∨16-m<xc
     ·have hr:runsOn 0 0 l=false:=by rw [← Hk.out,Hdrop.out];exact if_pos hbr
      have Hr:=lh hr
      clear hr
      go_wp2_with fail
      all_goals
       go_ret
       exact ⟨⟨_,rfl,by rw [Hb.out,Hr.out];rfl⟩,hq.q (Only.new _ _)⟩
     ·have hr:runsOn k m (l.drop k)=runsOn (k+1) (m+xc) (l.drop (k+1)):=by rw [Hdrop.out];exact if_neg hbr
      have Hr:=lh hr
      obtain ⟨rfl,rfl,hle⟩:xn=(k:Int)∧xf=m∧xc≤16-m:=by omega
      clear hr hbr
      go_wp2_with fail
      go_roundw
      case rel =>
       have hfin:Hid (runsOn ((k+1:Nat):Int) (xf+xc) (l.drop (k+1))=runsOn 0 0 l):=lh (by rw [← Hk.out,Hr.out];rfl)
       first | exact ⟨k+1,xf+xc,by omega,by go_num,by go_num,by omega,by omega,hfin,hq.q (Only.new _ _)⟩ | ((repeat apply Exists.intro);exact ⟨⟨k+1,xf+xc,by omega,by go_num,by go_num,by omega,by omega,hfin,hq.q (Only.new _ _)⟩,rfl⟩)
      case measure=>simp [intOf];omega
    ·obtain rfl:k=l.length:=by omega
     have hx:¬ (l.length:Int)<(l.length:Int):=by omega
     have hr:runsOn 0 0 l=true:=by rw [← Hk.out,List.drop_length];rfl
     have Hr:=lh hr
     clear hr
     go_wp2
     go_ret
     exact ⟨⟨_,rfl,by rw [Hb.out,Hr.out];rfl⟩,hq⟩
end Go.Proofs.YtmdobcffijnaoaaGreatDoor
