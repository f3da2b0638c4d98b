/- Joined texts: DHalf, DHalfB. Conditions: each part names its own. -/
import Derived.Test.YtmdobcffijnaoaaGreatDoorT1
import Derived.Test.YtmdobcffijnaoaaGreatDoorK2
import Derived.Test.YtmdobcffijnaoaaGreatDoorC4
namespace Go.Proofs.YtmdobcffijnaoaaGreatDoor
open Go.RowKit
set_option linter.unusedVariables false
set_option linter.unusedSimpArgs false
set_option maxRecDepth 100000
set_option maxHeartbeats 16000000
/-- a frame that may be, in its box -/
structure BoxF (B lo hi:Nat) (w:World) (f:FrameD):Prop where
 ok:FrOk f
 row:∃ a cap,w.heap[B]?=some (.cells #[.int .i64 f.W,.int .i64 f.H,.slice a f.pix.length cap] 70 (0,0))∧Ints .i64 lo hi w (.slice a f.pix.length cap) f.pix
theorem atD_idx {W H:Int} (hW:8≤W∧W≤32) (hH:8≤H∧H≤32) (x y:Int):0≤min (max y 0) (H-1)*W∧min (max y 0) (H-1)*W+min (max x 0) (W-1)<W*H∧0≤min (max x 0) (W-1)∧W*H≤1024:=by
 have hm:0≤min (max y 0) (H-1)∧min (max y 0) (H-1)≤H-1:=by omega
 have hx:0≤min (max x 0) (W-1)∧min (max x 0) (W-1)≤W-1:=by omega
 have h1:min (max y 0) (H-1)*W≤(H-1)*W:=Int.mul_le_mul_of_nonneg_right hm.2 (by omega)
 have h2:0≤min (max y 0) (H-1)*W:=Int.mul_nonneg hm.1 (by omega)
 have h3:W*H≤32*32:=Int.mul_le_mul hW.2 hH.2 (by omega) (by omega)
 rw [Int.sub_mul,Int.one_mul,Int.mul_comm H W] at h1
 refine ⟨h2,by omega,hx.1,by omega⟩
theorem qDHalf2 {p:Prop} (h:p:=by
 clear em ex hlen i2 i3 i4
 go_enter Tryz.func209,Tryz.ntmps209
 go_wp2_with fail
 go_ret
 exact ⟨ret_int HR.out.symm,rfl⟩):p:=h
theorem qDHalf0 {p:Prop} (h:p:=by
 rw [← hMe] at i1 i2 hc
 clear hMe
 rcases (by omega:x<0∨(0≤x∧x≤W-1)∨(0≤x∧W-1<x)) with hx | ⟨hx,hx1⟩ | ⟨hx,hx1⟩
 ·have ex:min (max x 0) (W-1)=0:=by omega
  rw [ex] at i2 hc
  rw [Int.add_zero] at i2 hc
  have t0:0≤M:=by omega
  have t1:M<(N:Int):=by omega
  have hS:wrap64 (M)=M:=by unfold wrap64;omega
  exact qDHalf2
 ·have ex:min (max x 0) (W-1)=x:=by omega
  rw [ex] at i2 hc
  have t0:0≤M+x:=by omega
  have t1:M+x<(N:Int):=by omega
  have hS:wrap64 (M+x)=M+x:=by unfold wrap64;omega
  exact qDHalf2
 ·have ex:min (max x 0) (W-1)=(W-1):=by omega
  rw [ex] at i2 hc
  have t0:0≤M+(W-1):=by omega
  have t1:M+(W-1)<(N:Int):=by omega
  have hS:wrap64 (M+(W-1))=M+(W-1):=by unfold wrap64;omega
  exact qDHalf2):p:=h
theorem qDHalf1 {p:Prop} (h:p:=by
 exact qDHalf2):p:=h
theorem half1_any {B lo hi:Nat} {w:World} {f:FrameD} (h:BoxF B lo hi w f) (x y:Int) :
  Calls Tryz.prog 209 #[.int .i64 x,.int .i64 y,.pointer (some ⟨B,0,none⟩)] w fun e w'=>e=.returned (.int .i64 (atD f x y))∧w=w':=by
 obtain ⟨hok,a,cap,hrow,hI⟩:=h
 obtain ⟨c0,c1,c2⟩:=frame_cells hrow
 have hW:8≤f.W∧f.W≤32:=⟨hok.w0,hok.w1⟩
 have hH:8≤f.H∧f.H≤32:=⟨hok.h0,hok.h1⟩
 obtain ⟨i1,i2,i3,i4⟩:=atD_idx hW hH x y
 have hlen:=hok.len
 obtain ⟨b,off,cap',hv,-,-,hc⟩:=hI.at (i:=(min (max y 0) (f.H-1)*f.W+min (max x 0) (f.W-1)).toNat) (by omega)
 injection hv with e1 e2 e3
 subst e1;subst e3
 have HR:Hid (atD f x y=f.pix.getD (min (max y 0) (f.H-1)*f.W+min (max x 0) (f.W-1)).toNat 0):=lh rfl
 generalize f.pix.getD (min (max y 0) (f.H-1)*f.W+min (max x 0) (f.W-1)).toNat 0=v at *
 generalize f.pix.length=N at *
 generalize f.W=W at *
 generalize f.H=H at *
 clear hrow hI hok
 have hH0:0≤H-1:=by omega
 have hW0:0≤W-1:=by omega
 have hw0:wrap64 0=0:=by unfold wrap64;omega
 obtain ⟨hW1,hW2⟩:=hW
 obtain ⟨hH1,hH2⟩:=hH
 rcases (by omega:y<0∨(0≤y∧y≤H-1)∨(0≤y∧H-1<y)) with hy | ⟨hy,hy1⟩ | ⟨hy,hy1⟩
 ·have em:min (max y 0) (H-1)=0:=by omega
  rw [em] at i1 i2 hc
  rw [Int.zero_mul] at i1 i2 hc
  simp only [Int.zero_add] at i2 hc
  rcases (by omega:x<0∨(0≤x∧x≤W-1)∨(0≤x∧W-1<x)) with hx | ⟨hx,hx1⟩ | ⟨hx,hx1⟩
  ·have ex:min (max x 0) (W-1)=0:=by omega
   rw [ex] at i2 hc
   rw [Int.toNat_zero,Nat.add_zero] at hc
   have t0:0≤0:=by omega
   have t1:0<(N:Int):=by omega
   exact qDHalf1
  ·have ex:min (max x 0) (W-1)=x:=by omega
   rw [ex] at i2 hc
   have t0:0≤x:=by omega
   have t1:x<(N:Int):=by omega
   exact qDHalf1
  ·have ex:min (max x 0) (W-1)=(W-1):=by omega
   rw [ex] at i2 hc
   rw [show (W-1).toNat=W.toNat-1 by omega] at hc
   have t0:0≤(W-1):=by omega
   have t1:(W-1)<(N:Int):=by omega
   exact qDHalf1
 ·have em:min (max y 0) (H-1)=y:=by omega
  rw [em] at i1 i2 hc
  obtain ⟨M,hMe⟩:∃ M,M=y*W:=⟨_,rfl⟩
  have hM:wrap64 (y*W)=M:=by rw [← hMe] at i1 i2 ⊢;unfold wrap64;omega
  exact qDHalf0
 ·have em:min (max y 0) (H-1)=(H-1):=by omega
  rw [em] at i1 i2 hc
  obtain ⟨M,hMe⟩:∃ M,M=(H-1)*W:=⟨_,rfl⟩
  have hM:wrap64 ((H-1)*W)=M:=by rw [← hMe] at i1 i2 ⊢;unfold wrap64;omega
  exact qDHalf0
theorem bits_and_one (a:Int):bits BinOp.and .i64 a 1=a % 2:=by
 show IntKind.i64.wrap ((BitVec.ofInt 64 a &&& BitVec.ofInt 64 1).toNat:Int)=_
 have h1:(BitVec.ofInt 64 1).toNat=1:=by decide
 rw [BitVec.toNat_and,h1,Nat.and_one_is_mod,BitVec.toNat_ofInt,IntKind.wrap_i64]
 omega
theorem qDHalfB0 {p:Prop} (h:p:=by
 refine HPost.out _ _ ⟨ret_int (by rw [HR.out];first | rfl | simp),HQ.out⟩):p:=h
theorem half_any {lo hi:Nat} {pv:Value} {w:World} {f:FrameD} (hok:FrOk f) (h:Ints .i64 lo hi w pv f.pix) (hx hy:Int) (hx0:-1000≤hx∧hx≤1000) (hy0:-1000≤hy∧hy≤1000) :
  Calls Tryz.prog 184 #[.agg #[.int .i64 f.W,.int .i64 f.H,pv],.int .i64 hx,.int .i64 hy] w fun e w'=>e=.returned (.int .i64 (halfD f hx hy))∧Only [] w w':=by
 refine hidQ fun Q HPost=>?_
 obtain ⟨a,cap,rfl,-⟩:=h.open
 have hq:=Only.new w (.cells #[.int .i64 f.W,.int .i64 f.H,.slice a f.pix.length cap] 70)
 have HB:Hid (BoxF w.heap.size lo hi (w.alloc (.cells #[.int .i64 f.W,.int .i64 f.H,.slice a f.pix.length cap] 70)) f):=lh ⟨hok,a,cap,heap_alloc_new _ _,h.quiet hq⟩
 have H1:=lh (fun x y=>half1_any HB.out x y)
 have HQ:=lh hq
 have hmf:∀ (fn:Fn) (first cap:Array Value) (W:World),(Instr.makeFunc fn first cap).run Tryz.prog W=.ok (.func fn first cap) W:=fun _ _ _ _=>rfl
 obtain ⟨X,hX⟩:∃ X,X=hx / 2:=⟨_,rfl⟩
 obtain ⟨Y,hY⟩:∃ Y,Y=hy / 2:=⟨_,rfl⟩
 have eX:hx / 2=X:=hX.symm
 have eY:hy / 2=Y:=hY.symm
 have HR:Hid (halfD f hx hy=if hx % 2=0∧hy % 2=0 then atD f X Y
  else if hy % 2=0 then (atD f X Y+atD f (X+1) Y+1) / 2
  else if hx % 2=0 then (atD f X Y+atD f X (Y+1)+1) / 2
  else (atD f X Y+atD f (X+1) Y+atD f X (Y+1)+atD f (X+1) (Y+1)+2) / 4):=lh (by rw [hX,hY];rfl)
 have i00:=atD_in hok.sam X Y
 have i10:=atD_in hok.sam (X+1) Y
 have i01:=atD_in hok.sam X (Y+1)
 have i11:=atD_in hok.sam (X+1) (Y+1)
 have c00:=lh (H1.out X Y)
 have c10:=lh (H1.out (X+1) Y)
 have c01:=lh (H1.out X (Y+1))
 have c11:=lh (H1.out (X+1) (Y+1))
 have bX:-500≤X∧X≤500:=by omega
 have bY:-500≤Y∧Y≤500:=by omega
 generalize atD f X Y=v00 at *
 generalize atD f (X+1) Y=v10 at *
 generalize atD f X (Y+1)=v01 at *
 generalize atD f (X+1) (Y+1)=v11 at *
 obtain ⟨a00,b00⟩:=i00
 obtain ⟨a10,b10⟩:=i10
 obtain ⟨a01,b01⟩:=i01
 obtain ⟨a11,b11⟩:=i11
 obtain ⟨bX0,bX1⟩:=bX
 obtain ⟨bY0,bY1⟩:=bY
 have ax:=bits_and_one hx
 have ay:=bits_and_one hy
 have hx2:hx % 2=0∨hx % 2=1:=by omega
 have hy2:hy % 2=0∨hy % 2=1:=by omega
 clear h hq hX hY H1 hx0 hy0
 rcases hx2 with ex | ex <;> rcases hy2 with ey | ey
 ·rw [ex,ey] at HR
  rw [ex] at ax
  rw [ey] at ay
  clear ex ey
  go_enter Tryz.func184,Tryz.ntmps184
  go_wp2_with (first | (go_at_call 209;((with_reducible refine c00.out.mono ?_);rintro e w' ⟨rfl,rfl⟩)) | fail)
  exact qDHalfB0
 ·rw [ex,ey] at HR
  rw [ex] at ax
  rw [ey] at ay
  clear ex ey
  go_enter Tryz.func184,Tryz.ntmps184
  go_wp2_with (first | (go_at_call 209;((with_reducible refine c00.out.mono ?_);rintro e w' ⟨rfl,rfl⟩)) | (go_at_call 209;((with_reducible refine c01.out.mono ?_);rintro e w' ⟨rfl,rfl⟩)) | fail)
  exact qDHalfB0
 ·rw [ex,ey] at HR
  rw [ex] at ax
  rw [ey] at ay
  clear ex ey
  go_enter Tryz.func184,Tryz.ntmps184
  go_wp2_with (first | (go_at_call 209;((with_reducible refine c00.out.mono ?_);rintro e w' ⟨rfl,rfl⟩)) | (go_at_call 209;((with_reducible refine c10.out.mono ?_);rintro e w' ⟨rfl,rfl⟩)) | fail)
  exact qDHalfB0
 ·rw [ex,ey] at HR
  rw [ex] at ax
  rw [ey] at ay
  clear ex ey
  go_enter Tryz.func184,Tryz.ntmps184
  go_wp2_with (first | (go_at_call 209;((with_reducible refine c00.out.mono ?_);rintro e w' ⟨rfl,rfl⟩)) | (go_at_call 209;((with_reducible refine c10.out.mono ?_);rintro e w' ⟨rfl,rfl⟩)) | (go_at_call 209;((with_reducible refine c01.out.mono ?_);rintro e w' ⟨rfl,rfl⟩)) | (go_at_call 209;((with_reducible refine c11.out.mono ?_);rintro e w' ⟨rfl,rfl⟩)) | fail)
  exact qDHalfB0
end Go.Proofs.YtmdobcffijnaoaaGreatDoor
