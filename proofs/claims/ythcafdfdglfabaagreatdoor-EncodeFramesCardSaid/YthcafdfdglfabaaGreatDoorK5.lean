/- Joined texts: DHalf, DHalfB. Conditions: each part names its own. -/
import Derived.Test.YthcafdfdglfabaaGreatDoorK2
namespace Go.Proofs.YthcafdfdglfabaaGreatDoor
open Go.RowKit
set_option linter.unusedVariables false
set_option linter.unusedSimpArgs false
set_option maxRecDepth 100000
set_option maxHeartbeats 16000000
structure JO (B lo hi:Nat) (w:World) (f:ai):Prop where
 ok:FrOk f
 row:∃ a cap,w.heap[B]?=some (.cells #[f.W,f.H,.slice a f.pix.length cap] 24 (0,0))/\ah .i64 lo hi w (.slice a f.pix.length cap) f.pix
theorem qh {W H:Int} (hW:8<=W/\W<=32) (hH:8<=H/\H<=32) (x y:Int):0<=min (max y 0) (H-1)*W/\min (max y 0) (H-1)*W+min (max x 0) (W-1)<W*H/\0<=min (max x 0) (W-1)/\W*H<=1024:=by
 have hm:0<=min (max y 0) (H-1)/\min (max y 0) (H-1)<=H-1:=Mf;have hx:0<=min (max x 0) (W-1)/\min (max x 0) (W-1)<=W-1:=Mf;have h1:min (max y 0) (H-1)*W<=(H-1)*W:=Int.mul_le_mul_of_nonneg_right hm.2 Mf;have h2:0<=min (max y 0) (H-1)*W:=Int.mul_nonneg hm.1 Mf;have h3:W*H<=32*32:=Int.mul_le_mul hW.2 hH.2 Mf Mf;rw [Int.sub_mul,Int.one_mul,Int.mul_comm H W] at h1;refine ⟨h2,Mf,hx.1,Mf⟩
theorem qw {p:Prop} (h:p:=by
 clear em ex MR i2 i3 i4;go_enter Tryz.func223,Tryz.ntmps223;go_wp2_with fail;go_ret;exact ⟨dN HR.symm,rfl⟩):p:=h
theorem Bz {p:Prop} (h:p:=by
 rw [<- hMe] at i1 i2 hc;clear hMe;rcases (by omega:x<0\/(0<=x/\x<=W-1)\/(0<=x/\W-1<x)) with hx | ⟨hx,OB⟩ | ⟨hx,OB⟩
 ·have ex:min (max x 0) (W-1)=0:=Mf
  rw [ex] at i2 hc;rw [Int.add_zero] at i2 hc;have t0:0<=M:=Mf;have t1:M<(N:Int):=Mf;have hS:wrap64 (M)=M:=by unfold wrap64;omega
  exact qw
 ·have ex:min (max x 0) (W-1)=x:=Mf
  rw [ex] at i2 hc;have t0:0<=M+x:=Mf;have t1:M+x<(N:Int):=Mf;have hS:wrap64 (M+x)=M+x:=by unfold wrap64;omega
  exact qw
 ·have ex:min (max x 0) (W-1)=(W-1):=Mf
  rw [ex] at i2 hc;have t0:0<=M+(W-1):=Mf;have t1:M+(W-1)<(N:Int):=Mf;have hS:wrap64 (M+(W-1))=M+(W-1):=by unfold wrap64;omega
  exact qw):p:=h
theorem vF {p:Prop} (h:p:=by
 exact qw):p:=h
theorem Do {B lo hi:Nat} {w:World} {f:ai} (h:JO B lo hi w f) (x y:Int) :
  Calls Tryz.prog 223 #[x,y,.pointer (some ⟨B,0,none⟩)] w fun e w'=>e=.returned (.int .i64 (atD f x y))/\w=w':=by
 obtain ⟨MU,a,cap,MS,hI⟩:=h;obtain ⟨c0,c1,c2⟩:=ag MS;have hW:8<=f.W/\f.W<=32:=⟨MU.w0,MU.w1⟩
 have hH:8<=f.H/\f.H<=32:=⟨MU.h0,MU.h1⟩
 obtain ⟨i1,i2,i3,i4⟩:=qh hW hH x y;have MR:=MU.len;obtain ⟨b,off,Te,hv,-,-,hc⟩:=hI.at (i:=(min (max y 0) (f.H-1)*f.W+min (max x 0) (f.W-1)).toNat) Mf;injection hv with e1 e2 e3
 subst e1;subst e3;have HR:Hid (atD f x y=f.pix.getD (min (max y 0) (f.H-1)*f.W+min (max x 0) (f.W-1)).toNat 0):=lh rfl;generalize f.pix.getD (min (max y 0) (f.H-1)*f.W+min (max x 0) (f.W-1)).toNat 0=v at *
 generalize f.pix.length=N at *
 generalize f.W=W at *
 generalize f.H=H at *
 clear MS hI MU;have hH0:0<=H-1:=Mf;have hW0:0<=W-1:=Mf;have hw0:wrap64 0=0:=by unfold wrap64;omega
 obtain ⟨NB,Tg⟩:=hW;obtain ⟨hH1,hH2⟩:=hH;rcases (by omega:y<0\/(0<=y/\y<=H-1)\/(0<=y/\H-1<y)) with hy | ⟨hy,YX⟩ | ⟨hy,YX⟩
 ·have em:min (max y 0) (H-1)=0:=Mf
  rw [em] at i1 i2 hc;rw [Int.zero_mul] at i1 i2 hc;simp only [Int.zero_add] at i2 hc;rcases (by omega:x<0\/(0<=x/\x<=W-1)\/(0<=x/\W-1<x)) with hx | ⟨hx,OB⟩ | ⟨hx,OB⟩
  ·have ex:min (max x 0) (W-1)=0:=Mf
   rw [ex] at i2 hc;rw [Int.toNat_zero,Nat.add_zero] at hc;have t0:0<=0:=Mf;have t1:0<(N:Int):=Mf;exact vF
  ·have ex:min (max x 0) (W-1)=x:=Mf
   rw [ex] at i2 hc;have t0:0<=x:=Mf;have t1:x<(N:Int):=Mf;exact vF
  ·have ex:min (max x 0) (W-1)=(W-1):=Mf
   rw [ex] at i2 hc;rw [show (W-1).toNat=W.toNat-1 by omega] at hc;have t0:0<=(W-1):=Mf;have t1:(W-1)<(N:Int):=Mf;exact vF
 ·have em:min (max y 0) (H-1)=y:=Mf
  rw [em] at i1 i2 hc;obtain ⟨M,hMe⟩:∃ M,M=y*W:=⟨_,rfl⟩
  have hM:wrap64 (y*W)=M:=by rw [<- hMe] at i1 i2 |-;unfold wrap64;omega
  exact Bz
 ·have em:min (max y 0) (H-1)=(H-1):=Mf
  rw [em] at i1 i2 hc;obtain ⟨M,hMe⟩:∃ M,M=(H-1)*W:=⟨_,rfl⟩
  have hM:wrap64 ((H-1)*W)=M:=by rw [<- hMe] at i1 i2 |-;unfold wrap64;omega
  exact Bz
theorem bJ (a:Int):bits BinOp.and .i64 a 1=a % 2:=by
 show IntKind.i64.wrap ((BitVec.ofInt 64 a &&& BitVec.ofInt 64 1).toNat:Int)=_;have h1:(BitVec.ofInt 64 1).toNat=1:=Mn;rw [BitVec.toNat_and,h1,Nat.and_one_is_mod,BitVec.toNat_ofInt,Ll];omega
theorem oo {p:Prop} (h:p:=by
 refine MM.out _ _ ⟨dN (by rw [HR.out];first | rfl | simp),HQ.out⟩):p:=h
theorem Fo {lo hi:Nat} {pv:Value} {w:World} {f:ai} (MU:FrOk f) (h:ah .i64 lo hi w pv f.pix) (hx hy:Int) (Ue:-1000<=hx/\hx<=1000) (Sr:-1000<=hy/\hy<=1000) :
  Calls Tryz.prog 190 #[.agg #[f.W,f.H,pv],hx,hy] w fun e w'=>e=.returned (.int .i64 (ja f hx hy))/\ae [] w w':=by
 refine aN fun Q MM=>?_
 obtain ⟨a,cap,rfl,-⟩:=h.open;have hq:=ae.new w (.cells #[f.W,f.H,.slice a f.pix.length cap] 24);have HB:Hid (JO w.heap.size lo hi (w.alloc (.cells #[f.W,f.H,.slice a f.pix.length cap] 24)) f):=lh ⟨MU,a,cap,heap_alloc_new _ _,h.quiet hq⟩;have H1:=lh (fun x y=>Do HB x y);have HQ:=lh hq;have hmf:∀ (fn:Fn) (first cap:Array Value) (W:World),(Instr.makeFunc fn first cap).run Tryz.prog W=.ok (.func fn first cap) W:=fun _ _ _ _=>rfl
 obtain ⟨X,hX⟩:∃ X,X=hx / 2:=⟨_,rfl⟩
 obtain ⟨Y,hY⟩:∃ Y,Y=hy / 2:=⟨_,rfl⟩
 have eX:hx / 2=X:=hX.symm;have eY:hy / 2=Y:=hY.symm;have HR:Hid (ja f hx hy=if hx % 2=0/\hy % 2=0 then atD f X Y
  else if hy % 2=0 then (atD f X Y+atD f (X+1) Y+1) / 2
  else if hx % 2=0 then (atD f X Y+atD f X (Y+1)+1) / 2
  else (atD f X Y+atD f (X+1) Y+atD f X (Y+1)+atD f (X+1) (Y+1)+2) / 4):=lh (by rw [hX,hY];rfl)
 have i00:=ii MU.sam X Y;have i10:=ii MU.sam (X+1) Y;have i01:=ii MU.sam X (Y+1);have i11:=ii MU.sam (X+1) (Y+1);have c00:=lh (H1.out X Y);have c10:=lh (H1.out (X+1) Y);have c01:=lh (H1.out X (Y+1));have c11:=lh (H1.out (X+1) (Y+1));have bX:-500<=X/\X<=500:=Mf;have bY:-500<=Y/\Y<=500:=Mf;generalize atD f X Y=v00 at *
 generalize atD f (X+1) Y=Zu at *
 generalize atD f X (Y+1)=v01 at *
 generalize atD f (X+1) (Y+1)=v11 at *
 obtain ⟨a00,b00⟩:=i00;obtain ⟨a10,b10⟩:=i10;obtain ⟨a01,b01⟩:=i01;obtain ⟨a11,b11⟩:=i11;obtain ⟨bX0,bX1⟩:=bX;obtain ⟨bY0,bY1⟩:=bY;have ax:=bJ hx;have ay:=bJ hy;have hx2:hx % 2=0\/hx % 2=1:=Mf;have hy2:hy % 2=0\/hy % 2=1:=Mf;clear h hq hX hY H1 Ue Sr;rcases hx2 with ex | ex <;> rcases hy2 with ey | ey
 ·rw [ex,ey] at HR
  rw [ex] at ax;rw [ey] at ay;clear ex ey;go_enter Tryz.func190,Tryz.ntmps190
  go_wp2_with (first | (go_at_call 223;((with_reducible refine c00.out.mono ?_);rintro e w' ⟨rfl,rfl⟩)) | fail)
  exact oo
 ·rw [ex,ey] at HR
  rw [ex] at ax;rw [ey] at ay;clear ex ey;go_enter Tryz.func190,Tryz.ntmps190
  go_wp2_with (first | (go_at_call 223;((with_reducible refine c00.out.mono ?_);rintro e w' ⟨rfl,rfl⟩)) | (go_at_call 223;((with_reducible refine c01.out.mono ?_);rintro e w' ⟨rfl,rfl⟩)) | fail)
  exact oo
 ·rw [ex,ey] at HR
  rw [ex] at ax;rw [ey] at ay;clear ex ey;go_enter Tryz.func190,Tryz.ntmps190
  go_wp2_with (first | (go_at_call 223;((with_reducible refine c00.out.mono ?_);rintro e w' ⟨rfl,rfl⟩)) | (go_at_call 223;((with_reducible refine c10.out.mono ?_);rintro e w' ⟨rfl,rfl⟩)) | fail)
  exact oo
 ·rw [ex,ey] at HR
  rw [ex] at ax;rw [ey] at ay;clear ex ey;go_enter Tryz.func190,Tryz.ntmps190
  go_wp2_with (first | (go_at_call 223;((with_reducible refine c00.out.mono ?_);rintro e w' ⟨rfl,rfl⟩)) | (go_at_call 223;((with_reducible refine c10.out.mono ?_);rintro e w' ⟨rfl,rfl⟩)) | (go_at_call 223;((with_reducible refine c01.out.mono ?_);rintro e w' ⟨rfl,rfl⟩)) | (go_at_call 223;((with_reducible refine c11.out.mono ?_);rintro e w' ⟨rfl,rfl⟩)) | fail)
  exact oo
end Go.Proofs.YthcafdfdglfabaaGreatDoor
