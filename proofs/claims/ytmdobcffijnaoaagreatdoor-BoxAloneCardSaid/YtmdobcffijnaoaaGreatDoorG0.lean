/- Joined texts: Sum, Make. Conditions: each part names its own. -/
import Derived.Test.YtmdobcffijnaoaaGreatDoorC1
namespace Go.Proofs.YtmdobcffijnaoaaGreatDoor
open Go.RowKit
set_option linter.unusedVariables false
set_option linter.unusedSimpArgs false
set_option maxRecDepth 100000
set_option maxHeartbeats 16000000
def crcBit (c:Nat):Nat:=if c % 2=1 then (c / 2) ^^^ 3988292384 else c / 2
def crcBits:Nat→Nat→Nat
 | 0,c=>c
 | n+1,c=>crcBit (crcBits n c)
def crcIn (c:Nat) (x:Int):Nat:=crcBits 8 (c ^^^ x.toNat)
def crcGo (c:Nat) (l:List Int):Nat:=l.foldl crcIn c
def crc (l:List Int):Nat:=crcGo 4294967295 l ^^^ 4294967295
theorem crcBit_lt {c:Nat} (h:c<4294967296):crcBit c<4294967296:=by
 unfold crcBit
 split
 ·exact Nat.xor_lt_two_pow (n:=32) (by omega) (by omega)
 ·omega
theorem crcBits_lt:∀ (n:Nat) {c:Nat},c<4294967296→crcBits n c<4294967296
 | 0,_,h=>h
 | n+1,_,h=>crcBit_lt (crcBits_lt n h)
theorem crcIn_lt {c:Nat} {x:Int} (h:c<4294967296) (hx:InK .u8 x):crcIn c x<4294967296:=by
 unfold InK at hx
 exact crcBits_lt 8 (Nat.xor_lt_two_pow (n:=32) h (by omega))
theorem crcGo_lt:∀ (l:List Int) {c:Nat},c<4294967296→(∀ x∈l,InK .u8 x)→crcGo c l<4294967296
 | [],_,h,_=>h
 | x :: l,_,h,hl=>crcGo_lt l (crcIn_lt h (hl x (by simp))) (fun y hy=>hl y (by simp [hy]))
theorem crc_lt (l:List Int) (hl:∀ x∈l,InK .u8 x):crc l<4294967296 :=
 Nat.xor_lt_two_pow (n:=32) (crcGo_lt l (by omega) hl) (by omega)
theorem crcGo_snoc (c:Nat) (l:List Int) (x:Int):crcGo c (l ++ [x])=crcIn (crcGo c l) x:=by simp [crcGo]
theorem take_snoc {l:List Int} {k:Nat} (h:k<l.length):l.take (k+1)=l.take k ++ [l.getD k 0]:=by
 rw [List.take_succ_eq_append_getElem h];simp [h]
theorem crc_odd {c:Nat} (hc:c<4294967296) (h:c % 2=1):bits .and .u32 (c:Int) 1=1:=by
 have:=u32_and_nat c 1 hc (by omega)
 rw [Nat.and_one_is_mod,h] at this
 exact this
theorem crc_even {c:Nat} (hc:c<4294967296) (h:c % 2=0):bits .and .u32 (c:Int) 1=0:=by
 have:=u32_and_nat c 1 hc (by omega)
 rw [Nat.and_one_is_mod,h] at this
 exact this
theorem crc_fold {c:Nat} (hc:c<4294967296):bits .xor .u32 ((c:Int) / 2) 3988292384=((c / 2 ^^^ 3988292384:Nat):Int):=by
 have:=u32_xor_nat (c / 2) 3988292384 (by omega) (by omega)
 simpa using this
theorem u32_xor_nat' (c:Nat) (x:Int) (hc:c<4294967296) (hx:0≤x∧x≤255):bits .xor .u32 (c:Int) x=((c ^^^ x.toNat:Nat):Int):=by
 obtain ⟨X,rfl⟩:=Int.eq_ofNat_of_zero_le hx.1
 exact u32_xor_nat c X hc (by omega)
theorem crc_in {c:Nat} {x:Int} (hc:c<4294967296) (hx:InK .u8 x):bits .xor .u32 (c:Int) x=((c ^^^ x.toNat:Nat):Int):=by
 unfold InK at hx
 exact u32_xor_nat' c x hc hx
theorem qSum0 {p:Prop} (h:p:=by
 have Ho:=lh hodd
 clear hodd
 go_wp2
 go_round
 case rel=>exact ⟨j+1,by omega,by go_num,by show _=Value.int .u32 ((crcBit (crcBits j q):Nat):Int);rw [Hcq.out];simp [crcBit,Ho.out]⟩
 case measure=>simp [intOf];omega):p:=h
theorem sum_any {lo hi:Nat} {v:Value} {l:List Int} {w:World} (h:Ints .u8 lo hi w v l) :
  Calls Tryz.prog 63 #[v] w fun e w'=>e=.returned (.int .u32 (crc l:Nat))∧w=w':=by
 have hlen:=h.1.len_le
 unfold maxLen at hlen
 have hr:=h.2
 obtain ⟨a,cap,rfl,hcap,hm,hat,hcell⟩:=h.open
 go_enter Tryz.func63,Tryz.ntmps63
 go_wp2
 go_loop [8,3,5,16] (fun i c _ _=>∃ k:Nat,k≤l.length∧i=.int .i64 k∧c=.int .u32 (crcGo 4294967295 (l.take k):Nat)) (fun i _ _ _=>l.length-(intOf i).toNat)
 case atStart=>exact ⟨0,by omega,rfl,rfl⟩
 case round =>
  obtain ⟨k,hk,rfl,rfl⟩:=hrel
  have hs:=crcGo_lt (l.take k) (c:=4294967295) (by omega) (fun x hx=>hr x (List.mem_of_mem_take hx))
  by_cases hlt:k<l.length
  ·obtain ⟨b,off,rfl,_,_⟩:=hat k hlt
   have hc':=hcell b off rfl k hlt
   have hx:InK .u8 (l.getD k 0):=by refine hr _ ?_;simp [hlt]
   have hnext:crcGo 4294967295 (l.take (k+1))=crcBits 8 (crcGo 4294967295 (l.take k) ^^^ (l.getD k 0).toNat):=by
    rw [take_snoc hlt,crcGo_snoc];rfl
   have hin:=crc_in hs hx
   have hs':crcGo 4294967295 (l.take k) ^^^ (l.getD k 0).toNat<4294967296:=Nat.xor_lt_two_pow (n:=32) hs (by unfold InK at hx;omega)
   have hx0:(l.getD k 0) % 4294967296=l.getD k 0:=by unfold InK at hx;omega
   generalize crcGo 4294967295 (l.take k)=s at *
   generalize l.getD k 0=x at *
   have Hn:=lh hnext
   clear hnext hat hcell hr
   generalize hq:s ^^^ x.toNat=q at *
   clear hq
   go_wp2
   go_loop [16,3] (fun i c=>∃ j:Nat,j≤8∧i=.int .i64 j∧c=.int .u32 (crcBits j q:Nat)) (fun i _=>8-(intOf i).toNat)
   case atStart=>exact ⟨0,by omega,rfl,rfl⟩
   case round =>
    obtain ⟨j,hj,rfl,rfl⟩:=hrel
    have hb:=crcBits_lt j hs'
    by_cases hjl:j<8
    ·generalize hcq:crcBits j q=c at *
     have Hcq:=lh hcq
     clear hcq
     by_cases hodd:c % 2=1
     ·have e1:=crc_odd hb hodd
      have e2:=crc_fold hb
      exact qSum0
     ·have e1:=crc_even hb (by omega)
      exact qSum0
    ·obtain rfl:j=8:=by omega
     go_wp2
     go_round
     case rel=>exact ⟨k+1,by omega,by go_num,by rw [Hn.out]⟩
     case measure=>simp [intOf];omega
  ·obtain rfl:k=l.length:=by omega
   have e3:bits .xor .u32 IntKind.u32.max (crcGo 4294967295 l:Int)=((crc l:Nat):Int):=by
    rw [List.take_length] at hs
    have:=u32_xor_nat 4294967295 (crcGo 4294967295 l) (by omega) hs
    rw [crc,Nat.xor_comm];exact this
   have E3:=lh e3
   clear e3
   go_wp2
   go_ret
   exact ⟨by show Ending.returned (.int .u32 (bits .xor .u32 IntKind.u32.max _))=_;rw [E3.out],rfl⟩
/-- The bytes of a unit that is no fill. -/
def unitHead (kind:Int) (l:List Int):List Int:=[kind,(l.length:Int) / 65536,(l.length:Int) / 256 % 256,(l.length:Int) % 256] ++ l
def unitB (kind:Int) (l:List Int):List Int:=unitHead kind l ++ be (crc (unitHead kind l)) 4
/-- unit.Make: the bytes, or a code. -/
def makeU (kind:Int) (l:List Int):Except Int (List Int) :=
 if kind<0∨255<kind∨(kind=0∧0<l.length) then .error 13
 else if 65536<l.length then .error 5
 else if kind=0 then .ok [0]
 else .ok (unitB kind l)
theorem unitB_length (kind:Int) (l:List Int):(unitB kind l).length=l.length+8:=by simp [unitB,unitHead,be_length]
theorem makeU_kind {kind:Int} {l:List Int} (h:kind<0∨255<kind∨(kind=0∧0<l.length)):makeU kind l=.error 13:=by simp [makeU,h]
def be4 (c:Nat):List Int:=[(c:Int) / 16777216,(c:Int) / 65536 % 256,(c:Int) / 256 % 256,(c:Int) % 256]
theorem be4_eq {c:Nat} (h:c<4294967296):be c 4=be4 c:=by
 have e:be c 4=[(c:Int) / 16777216 % 256,(c:Int) / 65536 % 256,(c:Int) / 256 % 256,(c:Int) / 1 % 256]:=rfl
 rw [e,be4]
 simp only [List.cons.injEq,and_true,Int.ediv_one]
 omega
theorem be4_range {c:Nat} (h:c<4294967296):∀ x∈be4 c,InK .u8 x:=by rw [← be4_eq h];exact be_range _ _
/-- what Make hands back -/
def MadeU (w:World) (r:Except Int (List Int)) (e:Ending) (w':World):Prop :=
 Only [] w w'∧match r with
  | .ok b=>∃ v,e=.returned (.tuple #[v,.nilIface])∧Own .u8 5 w.heap.size w' v b
  | .error c=>e=.returned (.tuple #[.slice none 0 0,.iface 29 (.int .i64 c)])
theorem make_any {lo hi:Nat} (kind:Int) {v:Value} {l:List Int} {w:World} (h:Ints .u8 lo hi w v l) :
  Calls Tryz.prog 61 #[.int .i64 kind,v] w (MadeU w (makeU kind l)):=by
 have hlen:=h.1.len_le
 unfold maxLen at hlen
 obtain ⟨a,cap,rfl,hcap,hm,hat,hcell⟩:=h.open
 clear hat hcell
 have Hm:=lh hm
 clear hm
 by_cases hk1:kind<0
 ·go_enter Tryz.func61,Tryz.ntmps61
  go_wp2
  go_ret2
  rw [makeU_kind (.inl hk1)]
  exact ⟨Only.refl _ _,rfl⟩
 by_cases hk2:255<kind
 ·go_enter Tryz.func61,Tryz.ntmps61
  go_wp2
  go_ret2
  rw [makeU_kind (.inr (.inl hk2))]
  exact ⟨Only.refl _ _,rfl⟩
 by_cases hk0:kind=0
 ·subst hk0
  by_cases hl0:0<l.length
  ·go_enter Tryz.func61,Tryz.ntmps61
   go_wp2
   go_ret2
   rw [makeU_kind (.inr (.inr ⟨rfl,hl0⟩))]
   exact ⟨Only.refl _ _,rfl⟩
  ·have hz:l=[]:=List.eq_nil_of_length_eq_zero (by omega)
   have hfin:makeU 0 l=.ok [0]:=by subst hz;simp [makeU]
   have Hz:=lh hz
   have Hfin:=lh hfin
   clear hz hfin
   go_enter Tryz.func61,Tryz.ntmps61
   go_wp2
   go_ret2
   rw [Hfin.out]
   exact ⟨(Only.refl _ _).alloc _,_,rfl,own_new rfl (by simp [maxLen]) (by simp [InK]) 1 rfl⟩
 ·have hk0':(kind == 0)=false:=by simpa using hk0
  by_cases hl:65536<l.length
  ·have hfin:makeU kind l=.error 5:=by simp [makeU,hl,hk0];omega
   have Hfin:=lh hfin
   clear hfin
   go_enter Tryz.func61,Tryz.ntmps61
   go_wp2
   go_ret2
   rw [Hfin.out]
   exact ⟨Only.refl _ _,rfl⟩
  ·have hfin:makeU kind l=.ok (unitB kind l):=by simp [makeU,hl,hk0];omega
   have Hfin:=lh hfin
   clear hfin
   go_enter Tryz.func61,Tryz.ntmps61
   have hin:∀ x∈[kind,(l.length:Int) / 65536,(l.length:Int) / 256 % 256,(l.length:Int) % 256],InK .u8 x:=by
    simp only [List.mem_cons,List.not_mem_nil,or_false,forall_eq_or_imp,forall_eq,InK];omega
   have hlen4:([kind,(l.length:Int) / 65536,(l.length:Int) / 256 % 256,(l.length:Int) % 256] ++ l).length≤70000:=by simp;omega
   have Hlen4:=lh hlen4
   clear hlen4
   go_wp2_with (first
    | (at_builtin;refine wpList_append_ints rfl (.tmp 47) (.tmp 48) _ rfl E8 (own_new (l:=[kind,(l.length:Int) / 65536,(l.length:Int) / 256 % 256,(l.length:Int) % 256]) rfl (by simp [maxLen]) hin 4 rfl) rfl (h.quiet ((Only.refl _ _).alloc _)) rfl ?c1 ?c2 (fun v1 w1 hown1 ho1=>?_))
    | (go_at_call 63;refine (sum_any hown1.ints).mono ?_;rintro e w' ⟨rfl,rfl⟩;have hcl:=crc_lt _ hown1.2;generalize hcq:crc _=c at *;have Hcq:=lh hcq;clear hcq)
    | (at_builtin;refine wpList_append_ints rfl (.tmp 52) (.tmp 64) _ rfl E8 (hown1.quiet ((Only.refl _ _).alloc _)) rfl (ints_new (l:=be4 c) rfl (by simp [maxLen,be4]) (be4_range hcl) 4 rfl) rfl ?c3 ?c4 (fun v2 w2 hown2 ho2=>?_)))
   case c1=>have:=Hlen4.out;simp only [List.length_append] at this;omega
   case c3=>have:=Hlen4.out;simp only [List.length_append,List.length_cons,List.length_nil,be4] at this ⊢;omega
   case c4=>have:=ho1.only.size;simp at this ⊢;omega
   go_ret2
   rw [Hfin.out]
   have hs1:=ho1.only.size
   simp only [World.size_alloc] at hs1
   have hb1:∀ g,v1.ownBlock=some g→w.heap.size≤g:=ho1.base (by simp [Value.ownBlock]) (by simp)
   have hA:Only [] w w1:=((Only.refl [] w).alloc _).trans ho1.only (by simp) (by simp [Value.ownBlock])
   have hB:Only [] w w2:=(hA.alloc _).trans ho2.only (by simp) (by intro g hg hlt;have:=hb1 g (by simpa using hg);omega)
   refine ⟨hB,v2,rfl,?_⟩
   have e:unitB kind l=([kind,(l.length:Int) / 65536,(l.length:Int) / 256 % 256,(l.length:Int) % 256] ++ l) ++ be4 c:=by
    rw [unitB,be4_eq (crc_lt _ ?_)]
    ·rw [← Hcq.out];rfl
    ·exact hown1.2
   rw [e]
   exact hown2
end Go.Proofs.YtmdobcffijnaoaaGreatDoor
