/- hachuretop.WholeFlat: a part of the proof that the law returns true at every input (Ray, Dir, WordG, WordH, SmoothB, Skip); no condition of its own. -/
import Derived.Test.YtipnifjmhlcehaaGreatDoorKI
import Derived.Test.YtipnifjmhlcehaaGreatDoorKE
import Derived.Test.YtipnifjmhlcehaaGreatDoorKG
import Derived.Test.YtipnifjmhlcehaaGreatDoorKC
import Derived.Test.YtipnifjmhlcehaaGreatDoorKD
import Derived.Lib.SlBytesConst
import Derived.Test.YtipnifjmhlcehaaGreatDoorKN
import Derived.Test.YtipnifjmhlcehaaGreatDoorKH
import Derived.Test.YtipnifjmhlcehaaGreatDoorKJ
set_option linter.unusedVariables false
set_option linter.unusedSimpArgs false
set_option maxRecDepth 100000
set_option maxHeartbeats 16000000
namespace Go.Proofs.YtipnifjmhlcehaaGreatDoor
section
open Go.RowKit
def wL (n:Int):Int:=if n < 0 then -n else n
def sgZ (n:Int):Int:=if n < 0 then -1 else 1
structure jll where
 n:Int
 m:Int
 ux:Int
 uy:Int
 vx:Int
 vy:Int
def rR (ax ay bx cy:Int):jll :=
 if wL (bx - ax) < wL (cy - ay) then ⟨wL (cy - ay),wL (bx - ax),0,sgZ (cy - ay),sgZ (bx - ax),0⟩ else ⟨wL (bx - ax),wL (cy - ay),sgZ (bx - ax),0,0,sgZ (cy - ay)⟩
theorem pY (n:Int):(sgZ n=1/\wL n=n/\0<=n)\/(sgZ n=-1/\wL n=-n/\n < 0):=by
 unfold sgZ wL
 by_cases h:n < 0
 ·rw [if_pos h,if_pos h]; exact .inr ⟨rfl,rfl,h⟩
 ·rw [if_neg h,if_neg h]; exact .inl ⟨rfl,rfl,by omega⟩
theorem jkb {gw gh:Nat} {ax ay bx cy:Int} (ha:inG gw gh (ax,ay)=true) (hb:inG gw gh (bx,cy)=true) {r:jll} (hr:rR ax ay bx cy=r):∃ N M:Nat,r.n=N/\r.m=M/\M<=N/\(N < gw\/N < gh)/\(-1<=r.ux/\r.ux<=1/\-1<=r.uy/\r.uy<=1/\-1<=r.vx/\r.vx<=1/\-1<=r.vy/\r.vy<=1) /\
  ∀ i j:Nat,i<=N->j<=M->inG gw gh (ax+i * r.ux+j * r.vx,ay+i * r.uy+j * r.vy)=true:=by
 rw [uM] at ha hb
 dsimp only at ha hb
 have h1:=pY (bx - ax)
 have h2:=pY (cy - ay)
 unfold rR at hr
 split at hr
 ·subst hr
  refine ⟨(wL (cy - ay)).toNat,(wL (bx - ax)).toNat,by dsimp only; omega,by dsimp only; omega,by omega,by omega,by dsimp only; omega,fun i j hi hj=>?_⟩
  rw [uM]
  dsimp only
  rcases h1 with ⟨e1,h1,_⟩ | ⟨e1,h1,_⟩ <;> rcases h2 with ⟨e2,h2,_⟩ | ⟨e2,h2,_⟩ <;> rw [e1,e2] <;> rw [h1] at hj <;> rw [h2] at hi <;> omega
 ·subst hr
  refine ⟨(wL (bx - ax)).toNat,(wL (cy - ay)).toNat,by dsimp only; omega,by dsimp only; omega,by omega,by omega,by dsimp only; omega,fun i j hi hj=>?_⟩
  rw [uM]
  dsimp only
  rcases h1 with ⟨e1,h1,_⟩ | ⟨e1,h1,_⟩ <;> rcases h2 with ⟨e2,h2,_⟩ | ⟨e2,h2,_⟩ <;> rw [e1,e2] <;> rw [h1] at hi <;> rw [h2] at hj <;> omega
theorem wW (l:List (Int × Int)) (x y:Int):qB l ++ [ii x,ii y]=qB (l ++ [(x,y)]):=by simp [qB]
section
variable {W : World} {gw gh : Nat}
theorem rX (n:Int) (h:-2000<=n/\n<=2000):Fn Tryz.prog 253 [ii n] W (yK (.tuple #[ii (sgZ n),ii (wL n)]) W):=by
 have hs:=pY n
 have S:=St.start W
 refine zn Tryz.func253 Tryz.results253 Tryz.ntmps253 ?_
 by_cases hn:n < 0
 ·skip
  (iterate 3 refine z ?_); refine zt ?_; refine z ?_; refine zr ?_; refine z ?_; refine z ?_
  refine zq ?_
  exact kY rfl rfl ⟨by rw [show sgZ n=-1 by omega,show wL n=0 - n by omega],S.out⟩
 ·skip
  (iterate 3 refine z ?_); refine zf ?_; iterate 3 refine z ?_
  refine zq ?_
  exact kY rfl rfl ⟨by rw [show sgZ n=1 by omega,show wL n=n by omega],S.out⟩
theorem jgK (x y:Int) (hx:0<=x/\x < 1024) (hy:0<=y/\y < 1024):Fn Tryz.prog 252 [.agg #[ii x,ii y]] W (yK (.bool true) W):=by
 have S:=St.start W
 refine zn Tryz.func252 Tryz.results252 Tryz.ntmps252 ?_
 refine zs ?_
 refine jF (jO rfl) S ?_
 intro b_c w2_ g2_ S
 (iterate 3 refine z ?_); refine zt ?_; (iterate 3 refine z ?_); refine zt ?_; (iterate 4 refine z ?_); refine zt ?_; (iterate 4 refine z ?_); refine zt ?_; refine z ?_; refine z ?_
 refine zq ?_
 exact yD rfl ⟨rfl,S.out⟩
theorem jd4 (ax ay bx cy:Int) (hx:0<=ax/\ax < 1024) (hy:0<=ay/\ay < 1024) (hu:0<=bx/\bx < 1024) (hv:0<=cy/\cy < 1024) :
  Fn Tryz.prog 214 [.agg #[ii ax,ii ay],.agg #[ii bx,ii cy]] W (yK (.agg #[ii (rR ax ay bx cy).n,ii (rR ax ay bx cy).m,ii (rR ax ay bx cy).ux,ii (rR ax ay bx cy).uy,ii (rR ax ay bx cy).vx,ii (rR ax ay bx cy).vy]) W):=by
 have S:=St.start W
 refine zn Tryz.func214 Tryz.results214 Tryz.ntmps214 ?_
 by_cases h:wL (bx - ax) < wL (cy - ay)
 ·have e:rR ax ay bx cy=⟨wL (cy - ay),wL (bx - ax),0,sgZ (cy - ay),sgZ (bx - ax),0⟩:=if_pos h
  refine zs ?_
  refine jF (jO rfl) S ?_
  intro b_a w2_ g2_ S
  refine jF (jO rfl) S ?_
  intro b_b w4_ g4_ S
  refine jF (jL Tryz.zeroValue357 rfl) S ?_
  intro b_o w6_ g6_ S
  (iterate 4 refine z ?_); refine zr ?_
  refine jC rfl (rX (bx - ax) (by omega)) ?_
  rintro _ w7_ ⟨rfl,g7_⟩
  have S:=S.gr g7_
  (iterate 9 refine z ?_); refine zr ?_
  refine jC rfl (rX (cy - ay) (by omega)) ?_
  rintro _ w8_ ⟨rfl,g8_⟩
  have S:=S.gr g8_
  (iterate 7 refine z ?_); refine zt ?_; iterate 3 refine z ?_
  refine jE (jN (pl:=[(0,1),(1,1)]) q23 kL (fun w=>by kernel_rfl) rfl rfl) ?_
  refine z ?_
  refine jE (jN (pl:=[(0,1),(1,1)]) q23 kL (fun w=>by kernel_rfl) rfl rfl) ?_
  refine jE (jN (pl:=[(0,1),(1,1),(2,2),(4,2)]) jgP Tryz.zeroValue357 (fun w=>by kernel_rfl) rfl rfl) ?_
  refine jH (i:=0) S rfl (Tryz.sizeOf357 _) rfl rfl rfl rfl rfl rfl ?_
  intro w9_ S
  refine zq ?_
  exact v8 jgP rfl (Tryz.sizeOf357 _) rfl (S.blk (i:=0) rfl) rfl rfl ⟨by rw [e],S.out⟩
 ·have e:rR ax ay bx cy=⟨wL (bx - ax),wL (cy - ay),sgZ (bx - ax),0,0,sgZ (cy - ay)⟩:=if_neg h
  refine zs ?_
  refine jF (jO rfl) S ?_
  intro b_a w11_ g11_ S
  refine jF (jO rfl) S ?_
  intro b_b w13_ g13_ S
  refine jF (jL Tryz.zeroValue357 rfl) S ?_
  intro b_o w15_ g15_ S
  (iterate 4 refine z ?_); refine zr ?_
  refine jC rfl (rX (bx - ax) (by omega)) ?_
  rintro _ w16_ ⟨rfl,g16_⟩
  have S:=S.gr g16_
  (iterate 9 refine z ?_); refine zr ?_
  refine jC rfl (rX (cy - ay) (by omega)) ?_
  rintro _ w17_ ⟨rfl,g17_⟩
  have S:=S.gr g17_
  (iterate 7 refine z ?_); refine zf ?_; iterate 3 refine z ?_
  refine jE (jN (pl:=[(0,1),(1,1)]) q23 kL (fun w=>by kernel_rfl) rfl rfl) ?_
  refine z ?_
  refine jE (jN (pl:=[(0,1),(1,1)]) q23 kL (fun w=>by kernel_rfl) rfl rfl) ?_
  refine jE (jN (pl:=[(0,1),(1,1),(2,2),(4,2)]) jgP Tryz.zeroValue357 (fun w=>by kernel_rfl) rfl rfl) ?_
  refine jH (i:=0) S rfl (Tryz.sizeOf357 _) rfl rfl rfl rfl rfl rfl ?_
  intro w18_ S
  refine zq ?_
  exact v8 jgP rfl (Tryz.sizeOf357 _) rfl (S.blk (i:=0) rfl) rfl rfl ⟨by rw [e],S.out⟩
theorem jgM (ax ay bx cy:Int) (hx:0<=ax/\ax < 1024) (hy:0<=ay/\ay < 1024) (hu:0<=bx/\bx < 1024) (hv:0<=cy/\cy < 1024) :
  Fn Tryz.prog 213 [.agg #[ii ax,ii ay],.agg #[ii bx,ii cy]] W (yK (.tuple #[ii (rR ax ay bx cy).n,ii 0]) W):=by
 have S:=St.start W
 refine zn Tryz.func213 Tryz.results213 Tryz.ntmps213 ?_
 refine zs ?_
 refine jF (jO rfl) S ?_
 intro b_a w2_ g2_ S
 refine jF (jO rfl) S ?_
 intro b_b w4_ g4_ S
 iterate 3 refine z ?_
 refine jC rfl (jgK ax ay hx hy) ?_
 rintro _ w5_ ⟨rfl,g5_⟩
 have S:=S.gr g5_
 iterate 3 refine z ?_
 refine jQ rfl ?_
 refine jC rfl (jgK bx cy hu hv) ?_
 rintro _ w6_ ⟨rfl,g6_⟩
 have S:=S.gr g6_
 iterate 4 refine z ?_
 refine jC rfl (jd4 ax ay bx cy hx hy hu hv) ?_
 rintro _ w7_ ⟨rfl,g7_⟩
 have S:=S.gr g7_
 refine jE (jhi jgP rfl q2 rfl rfl rfl) ?_
 refine z ?_; refine z ?_
 refine zq ?_
 exact kY rfl rfl ⟨rfl,S.out⟩
theorem jaY (x y sx sy:Int) (hx:-5000<=x/\x<=5000) (hy:-5000<=y/\y<=5000) (hs:-1<=sx/\sx<=1) (ht:-1<=sy/\sy<=1) :
  Fn Tryz.prog 215 [.agg #[ii x,ii y],.agg #[ii sx,ii sy],ii 1] W (yK (.agg #[ii (x+sx),ii (y+sy)]) W):=by
 have S:=St.start W
 refine zn Tryz.func215 Tryz.results215 Tryz.ntmps215 ?_
 refine zs ?_
 refine jF (jO rfl) S ?_
 intro b_a w2_ g2_ S
 refine jF (jO rfl) S ?_
 intro b_b w4_ g4_ S
 refine jF (jL kL rfl) S ?_
 intro b_o w6_ g6_ S
 (iterate 5 refine z ?_); (iterate 2 refine zr ?_); (iterate 5 refine z ?_); iterate 2 refine zr ?_
 refine jE (jN (pl:=[(0,1),(1,1)]) q23 kL (fun w=>by kernel_rfl) rfl rfl) ?_
 refine jH (i:=0) S rfl (qI _) rfl rfl rfl rfl rfl rfl ?_
 intro w7_ S
 refine zq ?_
 exact v8 q23 rfl (qI _) rfl (S.blk (i:=0) rfl) rfl rfl ⟨by rw [Int.one_mul,Int.one_mul],S.out⟩
theorem jgL (ax ay bx cy:Int) (hg:gw<=1024/\gh<=1024) (ha:inG gw gh (ax,ay)=true) (hb:inG gw gh (bx,cy)=true) :
  Fn Tryz.prog 144 [.agg #[ii ax,ii ay],.agg #[ii bx,ii cy]] W (fun v w'=>∃ l:List (Int × Int),l.length<=1024/\1<=l.length/\(∀ c ∈ l,inG gw gh c=true)/\qR (fun s=>.tuple #[s,ii 0]) 23 2 l.length (qB l) W v w'):=by
 have ha':=uM.1 ha
 have hb':=uM.1 hb
 dsimp only at ha' hb'
 have hlen:=fun w=>jgM (W:=w) ax ay bx cy (by omega) (by omega) (by omega) (by omega)
 have hof:=fun w=>jd4 (W:=w) ax ay bx cy (by omega) (by omega) (by omega) (by omega)
 obtain ⟨r,hr⟩:∃ r,rR ax ay bx cy=r:=⟨_,rfl⟩
 obtain ⟨N,M,eN,eM,hMN,hN,hd,hin⟩:=jkb ha hb hr
 rw [hr] at hlen hof
 obtain ⟨n,m,ux,uy,vx,vy⟩:=r
 dsimp only at *
 subst eN eM
 have S:=St.start W
 refine zn Tryz.func144 Tryz.results144 Tryz.ntmps144 ?_
 refine zs ?_
 refine jF (jO rfl) S ?_
 intro b_a w2_ g2_ S
 refine jF (jO rfl) S ?_
 intro b_b w4_ g4_ S
 iterate 4 refine z ?_
 refine jC rfl (hlen _) ?_
 rintro _ w5_ ⟨rfl,g5_⟩
 have S:=S.gr g5_
 (iterate 6 refine z ?_); refine zf ?_; refine z ?_; refine z ?_
 refine jC rfl (hof _) ?_
 rintro _ w6_ ⟨rfl,g6_⟩
 have S:=S.gr g6_
 refine jF (jL Tryz.zeroValue357 rfl) S ?_
 intro b_wk w8_ g8_ S
 refine jH (i:=0) S rfl (Tryz.sizeOf357 _) rfl rfl rfl rfl rfl rfl ?_
 intro w9_ S
 refine z ?_
 refine yF q37 qI kL rfl rfl rfl rfl rfl rfl S ?_
 intro A_out w11_ g11_ S sa_out
 iterate 5 refine z ?_
 refine zc ?_
 refine jS ?_
 refine zc ?_
 refine j9 (fun m e w=>∃ (i j rest:Nat) (l:List (Int × Int)) (A_out:Option Addr) (c_out:Nat),i+m=N/\j<=M/\rest+2 * (N * j)=N+2 * (M * i)/\l.length=i+1/\(∀ c ∈ l,inG gw gh c=true) /\
   SL e [(2,pt b_a),(6,ii N),(8,pt b_wk),(9,.slice A_out (i+1) c_out),(10,ii rest),(26,ii N),(27,ii i)] /\
   St No W w [.row 23 2 A_out (i+1) c_out (qB l),.blk b_wk 357 [ii N,ii M,ii ux,ii uy,ii vx,ii vy],.blk b_b 23 [ii bx,ii cy],.blk b_a 23 [ii (ax+i * ux+j * vx),ii (ay+i * uy+j * vy)]]) N
  ⟨0,0,N,[(ax,ay)],A_out,1,by omega,by omega,by omega,rfl,by simpa using ha,⟨rfl,rfl,rfl,rfl,rfl,rfl,rfl,trivial⟩,by simpa [qB] using S⟩ ?_
 clear S
 rintro m e w ⟨i,j,rest,l,A_out,c_out,hi,hj,hrest,hl,hall,hsl,S⟩
 rw [hsl.fold]
 by_cases hiN:i < N
 ·have hle:M * (i+1)<=M * N:=Nat.mul_le_mul_left _ hiN
  rw [Nat.mul_succ] at hle
  have hc1:=uM.1 (hin i j (by omega) hj)
  have hc2':=hin (i+1) j hiN hj
  have hc2:=uM.1 hc2'
  dsimp only at hc1 hc2
  have hrb:rest<=4096 * 1024:=by
   have h1:M * i<=1024 * 1024:=Nat.mul_le_mul (by omega) (by omega)
   omega
  have ex:ax+(i:Int) * ux+j * vx+ux=ax+((i+1:Nat):Int) * ux+j * vx:=by rw [Int.natCast_add,Int.add_mul]; omega
  have ey:ay+(i:Int) * uy+j * vy+uy=ay+((i+1:Nat):Int) * uy+j * vy:=by rw [Int.natCast_add,Int.add_mul]; omega
  by_cases hcar:2 * N<=rest+2 * M
  ·have hjM:j+1<=M:=by
    rcases Nat.lt_or_ge j M with h | h
    ·exact h
    ·exfalso
     have e:j=M:=by omega
     subst e
     rw [Nat.mul_comm N j] at hrest
     omega
   have ex2:ax+((i+1:Nat):Int) * ux+j * vx+vx=ax+((i+1:Nat):Int) * ux+((j+1:Nat):Int) * vx:=by rw [show ((j+1:Nat):Int)=(j:Int)+1 from rfl,Int.add_mul (j:Int)]; omega
   have ey2:ay+((i+1:Nat):Int) * uy+j * vy+vy=ay+((i+1:Nat):Int) * uy+((j+1:Nat):Int) * vy:=by rw [show ((j+1:Nat):Int)=(j:Int)+1 from rfl,Int.add_mul (j:Int)]; omega
   have hc3:=hin (i+1) (j+1) hiN hjM
   have er:(rest:Int)+2 * (M:Int) - 2 * (N:Int)=((rest+2 * M - 2 * N:Nat):Int):=by omega
   refine zt ?_; iterate 3 refine z ?_
   refine jC rfl (jaY (W:=w) _ _ ux uy (by omega) (by omega) (by omega) (by omega)) ?_
   rintro _ w12_ ⟨rfl,g12_⟩
   have S:=S.gr g12_
   rw [ex,ey]
   refine jH (i:=3) S rfl (qI _) rfl rfl rfl rfl rfl rfl ?_
   intro w13_ S
   (iterate 3 refine z ?_); (iterate 2 refine zr ?_); (iterate 3 refine z ?_); refine zr ?_; refine zt ?_; refine z ?_; refine z ?_; iterate 2 refine zr ?_
   rw [er]
   iterate 4 refine z ?_
   refine jC rfl (jaY (W:=w13_) _ _ vx vy (by omega) (by omega) (by omega) (by omega)) ?_
   rintro _ w14_ ⟨rfl,g14_⟩
   have S:=S.gr g14_
   rw [ex2,ey2]
   refine jH (i:=3) S rfl (qI _) rfl rfl rfl rfl rfl rfl ?_
   intro w15_ S
   refine z ?_; refine z ?_
   refine yF q37 qI kL rfl rfl rfl rfl rfl rfl S ?_
   intro A_one w17_ g17_ S sa_one
   refine qA (i:=1) S rfl (fun h=>rfl) q37 dE rfl rfl rfl rfl (by simp) (by omega) (S.rd (i:=0) rfl) rfl (by omega) ?_
   intro A_o2 c_o2 w18_ S sa_out
   refine z ?_; refine zr ?_; refine z ?_
   refine ze ?_
   have S:=S.drop 1
   rw [wW] at S
   exact ⟨m - 1,by omega,i+1,j+1,rest+2 * M - 2 * N,_,A_o2,c_o2,by omega,hjM,by rw [Nat.mul_succ,Nat.mul_succ]; omega,by simp [hl],fun c hc=>(List.mem_append.1 hc).elim (hall c) (fun h=>by rw [List.mem_singleton.1 h]; exact hc3),⟨rfl,rfl,rfl,rfl,rfl,rfl,rfl,trivial⟩,S⟩
  ·have er:(rest:Int)+2 * (M:Int)=((rest+2 * M:Nat):Int):=by omega
   refine zt ?_; iterate 3 refine z ?_
   refine jC rfl (jaY (W:=w) _ _ ux uy (by omega) (by omega) (by omega) (by omega)) ?_
   rintro _ w19_ ⟨rfl,g19_⟩
   have S:=S.gr g19_
   rw [ex,ey]
   refine jH (i:=3) S rfl (qI _) rfl rfl rfl rfl rfl rfl ?_
   intro w20_ S
   (iterate 3 refine z ?_); iterate 2 refine zr ?_
   rw [er]
   (iterate 3 refine z ?_); refine zr ?_; refine zf ?_; refine z ?_; refine z ?_
   refine yF q37 qI kL rfl rfl rfl rfl rfl rfl S ?_
   intro A_one w22_ g22_ S sa_one
   refine qA (i:=1) S rfl (fun h=>rfl) q37 dE rfl rfl rfl rfl (by simp) (by omega) (S.rd (i:=0) rfl) rfl (by omega) ?_
   intro A_o2 c_o2 w23_ S sa_out
   refine z ?_; refine zr ?_; refine z ?_
   refine ze ?_
   have S:=S.drop 1
   rw [wW] at S
   exact ⟨m - 1,by omega,i+1,j,rest+2 * M,_,A_o2,c_o2,by omega,hj,by rw [Nat.mul_succ]; omega,by simp [hl],fun c hc=>(List.mem_append.1 hc).elim (hall c) (fun h=>by rw [List.mem_singleton.1 h]; exact hc2'),⟨rfl,rfl,rfl,rfl,rfl,rfl,rfl,trivial⟩,S⟩
 ·obtain rfl:i=N:=by omega
  refine zf ?_
  refine zc ?_
  refine jM rfl ?_
  refine zc ?_
  refine jY ?_
  repeat first | refine jP ?_ | refine jU ?_
  show CW _ _ _ _ _ _
  iterate 3 refine z ?_
  refine zq ?_
  rw [<-hl] at S
  exact kY rfl rfl ⟨l,by omega,by omega,hall,by rw [<-hl]; exact S.retNew (i:=0) (mk:=fun s=>.tuple #[s,ii 0]) rfl⟩
theorem jaL (n:Int) (h:-1099511627776<=n/\n<=1099511627776):Fn Tryz.prog 147 [ii n] W (yK (.bool true) W):=by
 have S:=St.start W
 refine zn Tryz.func147 Tryz.results147 Tryz.ntmps147 ?_
 refine z ?_; refine z ?_; refine zt ?_; refine z ?_; refine z ?_; refine zt ?_; refine z ?_; refine z ?_
 refine zq ?_
 exact yD rfl ⟨rfl,S.out⟩
theorem mO (v i n:Int) (hv:-4294967296<=v/\v<=4294967296) (hn:1<=n/\n<=1024) (hi:0<=i/\i<=n):Fn Tryz.prog 83 [ii v,ii v,ii v,ii i,ii n] W (yK (.tuple #[.bool false,ii 0]) W):=by
 have e0:v - v=0:=by omega
 have S:=St.start W
 refine zn Tryz.func83 Tryz.results83 Tryz.ntmps83 ?_
 (iterate 3 refine z ?_); refine zf ?_; refine z ?_; refine z ?_; refine zf ?_; (iterate 3 refine z ?_); refine zf ?_; (iterate 4 refine z ?_); refine zf ?_; iterate 3 refine z ?_
 refine jC rfl (jaL v (by omega)) ?_
 rintro _ w1_ ⟨rfl,g1_⟩
 have S:=S.gr g1_
 iterate 3 refine z ?_
 refine jQ rfl ?_
 refine jC rfl (jaL v (by omega)) ?_
 rintro _ w2_ ⟨rfl,g2_⟩
 have S:=S.gr g2_
 iterate 4 refine z ?_
 refine jQ rfl ?_
 refine jC rfl (jaL v (by omega)) ?_
 rintro _ w3_ ⟨rfl,g3_⟩
 have S:=S.gr g3_
 (iterate 5 refine z ?_); refine zr ?_
 rw [e0]
 refine z ?_
 refine jE (yI rfl (by rw [Int.zero_mul]; omega)) ?_
 rw [Int.zero_mul]
 refine z ?_; refine z ?_; refine zr ?_
 rw [e0]
 refine z ?_
 refine jE (yI rfl (by rw [Int.zero_mul]; omega)) ?_
 rw [Int.zero_mul]
 refine zw1 ⟨?_⟩
 refine z ?_; refine z ?_
 refine zq ?_
 exact kY rfl rfl ⟨rfl,S.out⟩
def jkC (x0 y0 x1 y1 x y:Int):Bool:=decide (x0<=x) && (decide (x<=x1) && (decide (y0<=y) && decide (y<=y1)))
theorem jgD (x0 y0 x1 y1 x y:Int) (hr:uQ x0 y0 x1 y1=true) :
  Fn Tryz.prog 217 [.agg #[ii x0,ii y0,ii x1,ii y1],.agg #[ii x,ii y]] W (yK (.bool (jkC x0 y0 x1 y1 x y)) W):=by
 unfold jkC
 have hri:=fun w=>vW x0 y0 x1 y1 w
 rw [hr] at hri
 have S:=St.start W
 refine zn Tryz.func217 Tryz.results217 Tryz.ntmps217 ?_
 by_cases h1:x0<=x
 ·by_cases h2:x<=x1
  ·by_cases h3:y0<=y
   ·by_cases h4:y<=y1
    ·skip
     refine zs ?_
     refine jF (jO rfl) S ?_
     intro b_r w2_ g2_ S
     refine jF (jO rfl) S ?_
     intro b_c w4_ g4_ S
     refine z ?_; refine z ?_
     refine jC rfl (hri w4_) ?_
     rintro _ w5_ ⟨rfl,g5_⟩
     have S:=S.gr g5_
     (iterate 5 refine z ?_); refine zt ?_; (iterate 6 refine z ?_); refine zt ?_; (iterate 6 refine z ?_); refine zt ?_; (iterate 6 refine z ?_); refine zt ?_; refine z ?_; refine z ?_
     refine zq ?_
     exact yD rfl ⟨be (by simp [h1,h2,h3,h4]),S.out⟩
    ·skip
     refine zs ?_
     refine jF (jO rfl) S ?_
     intro b_r w7_ g7_ S
     refine jF (jO rfl) S ?_
     intro b_c w9_ g9_ S
     refine z ?_; refine z ?_
     refine jC rfl (hri w9_) ?_
     rintro _ w10_ ⟨rfl,g10_⟩
     have S:=S.gr g10_
     (iterate 5 refine z ?_); refine zt ?_; (iterate 6 refine z ?_); refine zt ?_; (iterate 6 refine z ?_); refine zt ?_; (iterate 6 refine z ?_); refine zf ?_; refine z ?_; refine z ?_
     refine zq ?_
     exact yD rfl ⟨be (by simp [h1,h2,h3,h4]),S.out⟩
   ·skip
    refine zs ?_
    refine jF (jO rfl) S ?_
    intro b_r w12_ g12_ S
    refine jF (jO rfl) S ?_
    intro b_c w14_ g14_ S
    refine z ?_; refine z ?_
    refine jC rfl (hri w14_) ?_
    rintro _ w15_ ⟨rfl,g15_⟩
    have S:=S.gr g15_
    (iterate 5 refine z ?_); refine zt ?_; (iterate 6 refine z ?_); refine zt ?_; (iterate 6 refine z ?_); refine zf ?_; iterate 6 refine z ?_
    refine zw2 ⟨?_⟩
    refine z ?_; refine z ?_
    refine zq ?_
    exact yD rfl ⟨be (by simp [h1,h2,h3]),S.out⟩
  ·skip
   refine zs ?_
   refine jF (jO rfl) S ?_
   intro b_r w17_ g17_ S
   refine jF (jO rfl) S ?_
   intro b_c w19_ g19_ S
   refine z ?_; refine z ?_
   refine jC rfl (hri w19_) ?_
   rintro _ w20_ ⟨rfl,g20_⟩
   have S:=S.gr g20_
   (iterate 5 refine z ?_); refine zt ?_; (iterate 6 refine z ?_); refine zf ?_; iterate 6 refine z ?_
   refine zw2 ⟨?_⟩
   iterate 6 refine z ?_
   refine zw2 ⟨?_⟩
   refine z ?_; refine z ?_
   refine zq ?_
   exact yD rfl ⟨be (by simp [h1,h2]),S.out⟩
 ·skip
  refine zs ?_
  refine jF (jO rfl) S ?_
  intro b_r w22_ g22_ S
  refine jF (jO rfl) S ?_
  intro b_c w24_ g24_ S
  refine z ?_; refine z ?_
  refine jC rfl (hri w24_) ?_
  rintro _ w25_ ⟨rfl,g25_⟩
  have S:=S.gr g25_
  (iterate 5 refine z ?_); refine zf ?_; iterate 6 refine z ?_
  refine zw2 ⟨?_⟩
  iterate 6 refine z ?_
  refine zw2 ⟨?_⟩
  iterate 6 refine z ?_
  refine zw2 ⟨?_⟩
  refine z ?_; refine z ?_
  refine zq ?_
  exact yD rfl ⟨be (by simp [h1]),S.out⟩
end
end
section
open Go.RowKit
theorem jiI {P:Program} {e:Nat->Value} {w:World} {ops:Array Oper} {rest:List Oper} {Q:(Nat->Value)->World->Prop} {F:Nat->Prop} {W:World} {L:List HA} {d1 d2:Option Tmp} {ty1 ty2:TypeId} {ps1 ps2:String} {af1 af2:Array Edge} {t el:TypeId} {x:Operand} {n k:Nat} {parts:List (Nat × Operand)} {z:Value} {l0 l:List Value} (S:St F W w L) (hu:P.underlying t=some (.slice el)) (he:P.underlying el=some (.int .u8)) (hs:∀ w,(sizeOf el).run P w=.ok k w) (hz:∀ w,(zeroValue el).run P w=.ok z w) (hk:z.cells.toList.length=k) (hk0:Nat.beq (n * k) 0=false) (hn:Nat.ble (n * k) 16777216=true)
  (h1:lay (fun i=>some (i * k,k)) ((List.replicate n z.cells.toList).flatten) (evp e parts)=some l0) (h2:fzl l0=some l) (hx:∀ A,ev (yU e d1 (.slice A n n)) x=.slice A n n)
  (hr:∀ A w',Gr w w'->Rd w' A l->St F W w' L->RW P ops Q rest (yU (yU e d1 (.slice A n n)) d2 (.slice A n n)) w') :
  RW P ops Q (⟨d1,.buildSlice t n parts.toArray,ty1,ps1,af1,none⟩::⟨d2,.convert t t x,ty2,ps2,af2,none⟩::rest) e w:=by
 refine rQ (k8 hu hs hz hk hk0 hn h1 h2) (rQ (v:=.slice (some ⟨w.heap.size,0,none⟩) n n) (w':=w.alloc (.cells l.toArray el (l.toArray.size,l.toArray.size+1))) ?_ (hr _ _ (Gr.alloc _ _) (.inr ⟨w.heap.size,0,rfl,by show w.heap.size < (w.heap.push _).size; simp,fun j v hj=>?_⟩) (S.gr (Gr.alloc _ _))))
 ·have hc:=Lib.run_convert_bytes_const w t el l.toArray n n hu he
  simp only [execOp,hx,Sem.run_bind,hc,Result.andThen_ok,Sem.run_pure]
 ·have hb:(w.alloc (.cells l.toArray el (l.toArray.size,l.toArray.size+1))).heap[w.heap.size]?=some (.cells l.toArray el (l.toArray.size,l.toArray.size+1)):=heap_alloc_new w _
  unfold World.cell?
  simp only [hb]
  simp [hj]
def CQL (F:Nat->Prop) (W:World) (L:List HA) (T:List Value->List HA->Prop) (σ:List Value) (w:World):Prop:=∃ Q,T σ Q/\St F W w (Q ++ L)
section
variable {F : Nat → Prop} {W w w' : World} {L : List HA} {T : List Value → List HA → Prop} {σ : List Value}
theorem CQL.start (h:T [] []) (S:St F W w L):CQL F W L T [] w:=⟨[],h,S⟩
theorem CQL.st (h:CQL F W L T σ w):St F W w L:=by
 obtain ⟨Q,_,S⟩:=h
 have:=S.drop Q.length
 rwa [List.drop_left] at this
theorem sG {P:Program} {e:Nat->Value} {d:Option Tmp} {ty:TypeId} {ps:String} {af:Array Edge} {f:FuncId} {args:List Operand} {tys:Array TypeId} {vs:List Value} (h:CQL F W L T σ w) (hv:fzl (args.map (ev e))=some vs)
  (hc:∀ Q,T σ Q->St F W w (Q ++ L)->Fn P f vs w (fun v w'=>∃ Q',T (v::σ) Q'/\St F W w' (Q' ++ L))):qM P e ⟨d,.call ⟨.value (.func f),args.toArray,tys⟩,ty,ps,af,none⟩ w (fun v w'=>CQL F W L T (v::σ) w'):=by
 obtain ⟨Q,hT,S⟩:=h
 exact uW hv (hc Q hT S)
end
section
variable {W : World} {A B : Option Addr} {n c cB gw gh : Nat} {ls : List Nat}
theorem jfv:(Tryz.prog.info? 208).map (fun i=>(i.zero,i.size,i.bytes))=some (some (.agg #[ii 0,ii 0]),2,16):=by kernel_rfl
theorem lS (n:Nat) (h:n<=1024):Fn Tryz.prog 224 [ii n] W (yK (ii (acr n)) W):=by
 have e1:((n:Int)+16 - 1) / 16=((acr n:Nat):Int):=by unfold acr; omega
 have S:=St.start W
 refine zn Tryz.func224 Tryz.results224 Tryz.ntmps224 ?_
 refine z ?_; refine z ?_; iterate 2 refine zr ?_
 refine jE (vP rfl rfl (by omega) (by omega)) ?_
 rw [e1]
 refine z ?_
 refine zq ?_
 exact yD rfl ⟨rfl,S.out⟩
theorem jcH (hw:1<=gw/\gw<=1024) (hh:1<=gh/\gh<=1024):Fn Tryz.prog 171 [ii gw,ii gh] W (yK (.tuple #[ii (acr gw * acr gh:Nat),ii 0]) W):=by
 have hwi:kD 0 0 0 0 gw gh=0:=qW (by omega) (by omega) (by omega) (by omega)
 have h1:=vT hw.2
 have h2:=vT hh.2
 have hm:acr gw * acr gh<=64 * 64:=Nat.mul_le_mul h1 h2
 have e1:((acr gw:Nat):Int) * (acr gh:Nat)=((acr gw * acr gh:Nat):Int):=by push_cast; rfl
 have S:=St.start W
 refine zn Tryz.func171 Tryz.results171 Tryz.ntmps171 ?_
 refine z ?_; refine z ?_
 refine zs ?_
 refine jE (jN (pl:=[(0,1),(1,1),(2,1),(3,1)]) q27 qX (fun w=>by kernel_rfl) rfl rfl) ?_
 refine z ?_; refine z ?_
 refine jC rfl (zI _ _ _ _ _ _ (by omega) (by omega) W) ?_
 rintro _ w1_ ⟨rfl,g1_⟩
 have S:=S.gr g1_
 rw [hwi]
 refine z ?_; refine z ?_; refine zf ?_; iterate 3 refine z ?_
 refine zJ rfl rfl (lS gw hw.2) ?_
 rintro _ w2_ ⟨rfl,g2_⟩
 have S:=S.gr g2_
 refine z ?_; refine z ?_
 refine zJ rfl rfl (lS gh hh.2) ?_
 rintro _ w3_ ⟨rfl,g3_⟩
 have S:=S.gr g3_
 refine jE (yI rfl (by rw [e1]; omega)) ?_
 rw [e1]
 refine z ?_; refine z ?_
 refine zq ?_
 exact kY rfl rfl ⟨rfl,S.out⟩
theorem jjt (hw:1<=gw/\gw<=1024) (hh:1<=gh/\gh<=1024):Fn Tryz.prog 172 [ii gw,ii gh] W (yK (.tuple #[ii (13+acr gw * acr gh * 8:Nat),ii 0]) W):=by
 have h1:=vT hw.2
 have h2:=vT hh.2
 have hm:acr gw * acr gh<=64 * 64:=Nat.mul_le_mul h1 h2
 have hti:=fun W=>jcH (W:=W) hw hh
 generalize acr gw * acr gh=q at *
 have S:=St.start W
 refine zn Tryz.func172 Tryz.results172 Tryz.ntmps172 ?_
 iterate 4 refine z ?_
 refine jC rfl (hti W) ?_
 rintro _ w1_ ⟨rfl,g1_⟩
 have S:=S.gr g1_
 (iterate 6 refine z ?_); refine zf ?_; refine z ?_; (iterate 2 refine zr ?_); refine z ?_; refine z ?_
 refine zq ?_
 exact kY rfl rfl ⟨rfl,S.out⟩
theorem jdK (at0:Nat) (h0:at0<=65536) (hls:∀ x ∈ ls,1<=x/\x<=1024) (hn:ls.length<=4096) (hB:Rd W B (yC (ls.map fun x:Nat=>(x:Int)))) :
  Fn Tryz.prog 238 [ii at0,.slice B ls.length cB] W (fun v w'=>∃ es:List (Int × Int),es.length=ls.length/\(∀ e ∈ es,(0<=e.1/\e.1 < 4294967296)/\0<=e.2/\e.2 < 4294967296)/\qR (fun s=>.tuple #[s,.bool true]) 208 2 ls.length (qB es) W v w'):=by
 have hget:∀ j (hj:j < ls.length),(yC (ls.map fun x:Nat=>(x:Int)))[(j:Int).toNat * 1]?=some (ii (ls[j]:Nat)):=fun j hj=>by
  rw [Nat.mul_one,Int.toNat_natCast]
  exact qO (by rw [List.getElem?_map,List.getElem?_eq_getElem hj]; rfl)
 have S:=St.start W
 refine zn Tryz.func238 Tryz.results238 Tryz.ntmps238 ?_
 iterate 6 refine z ?_
 refine zc ?_
 refine jS ?_
 refine zc ?_
 have S:=S.pushNil 208 2
 refine j9 (fun m e w'=>∃ (i q:Nat) (es:List (Int × Int)) (A_o:Option Addr) (c_o:Nat),i+m=ls.length/\q<=65536+i * 1024/\es.length=i/\(∀ e ∈ es,(0<=e.1/\e.1 < 4294967296)/\0<=e.2/\e.2 < 4294967296) /\
   SL e [(0,ii q),(6,.slice A_o i c_o),(9,.slice B ls.length cB),(10,ii ls.length),(11,ii i)]/\St No W w' [.row 208 2 A_o i c_o (qB es)]) ls.length
  ⟨0,at0,[],none,0,by omega,by omega,rfl,(fun _ h=>by cases h),⟨rfl,rfl,rfl,rfl,rfl,trivial⟩,S⟩ ?_
 clear S
 rintro m e w2 ⟨i,q,es,A_o,c_o,hi,hq,hes,hall,hsl,S⟩
 rw [hsl.fold]
 by_cases hlt:i < ls.length
 ·have sa_B:yH B:=hB.someA (by rw [qY,List.length_map]; omega)
  have hx:=hls _ (List.getElem_mem hlt)
  have g1:=hget i hlt
  generalize ls[i]=x at *
  refine zt ?_; refine zx ?_
  refine j3 (j7 q2 rfl rfl (hB.gr S.out) g1) ?_
  refine z ?_; refine z ?_; refine zf ?_; refine z ?_; refine z ?_; refine zf ?_; iterate 4 refine z ?_
  refine jE (jN (pl:=[(0,1),(1,1)]) Tryz.underlying208 Tryz.zeroValue208 (fun w=>by kernel_rfl) rfl rfl) ?_
  refine yF Tryz.underlying204 Tryz.sizeOf208 Tryz.zeroValue208 rfl rfl rfl rfl rfl rfl S ?_
  intro A_one w2_ g2_ S sa_one
  refine qA (i:=1) S rfl (fun h=>rfl) Tryz.underlying204 jfv rfl rfl rfl rfl (by simp) (by omega) (S.rd (i:=0) rfl) rfl (by omega) ?_
  intro A_o2 c_o2 w3_ S sa_o
  (iterate 3 refine z ?_); refine zr ?_; refine z ?_; refine zr ?_; refine z ?_
  refine ze ?_
  have S:=S.drop 1
  rw [wW] at S
  exact ⟨m - 1,by omega,i+1,q+x,es ++ [((q:Int),(x:Int))],A_o2,c_o2,by omega,by omega,by simp [hes],fun e he=>by
   rcases List.mem_append.1 he with h | h
   ·exact hall e h
   ·rw [List.mem_singleton.1 h]
    dsimp only
    omega,⟨rfl,rfl,rfl,rfl,rfl,trivial⟩,S⟩
 ·obtain rfl:i=ls.length:=by omega
  refine zf ?_
  refine zc ?_
  refine jM rfl ?_
  refine zc ?_
  refine jY ?_
  repeat first | refine jP ?_ | refine jU ?_
  show CW _ _ _ _ _ _
  iterate 3 refine z ?_
  refine zq ?_
  exact kY rfl rfl ⟨es,hes,hall,S.retNew (i:=0) (mk:=fun s=>.tuple #[s,.bool true]) rfl⟩
def jlK (n:Nat) (W:World) (v:Value) (w:World):Prop:=∃ (l:List Int) (A:Option Addr) (c:Nat),l.length=n/\v=.slice A l.length c/\Row w 5 1 A l.length c (u8s l)/\xS W A/\Gr W w
theorem r7 {w:World} {l:List Int} {A:Option Addr} {c:Nat} (k u:Nat) (hR:Rd w A (u8s l)) (hk:1<=k/\k < 8) (hu:u < 2 ^ (8 * k)) (hl:0 < l.length/\l.length<=1099511627776):Fn Tryz.prog 239 [.slice A l.length c,ii k,ii u] w (jlK (l.length+k) w) :=
 (jkp k u hk hu hl hR).mono fun v w' ⟨l2,hl2,A2,c2,hv,h2,h3,g⟩=>⟨l2,A2,c2,hl2,by rw [hv,<-hl2]; rfl,hl2 ▸ h2,h3,g⟩
theorem jkG (hw:1<=gw/\gw<=1024) (hh:1<=gh/\gh<=1024) (hls:∀ x ∈ ls,1<=x/\x<=1024) (hn:ls.length=acr gw * acr gh) (hB:Rd W B (yC (ls.map fun x:Nat=>(x:Int)))) :
  Fn Tryz.prog 189 [ii gw,ii gh,.slice B ls.length cB] W (jbx (fun s=>.tuple #[s,ii 0]) (13+8 * ls.length) W):=by
 have h1:=vT hw.2
 have h2:=vT hh.2
 have hm:acr gw * acr gh<=64 * 64:=Nat.mul_le_mul h1 h2
 have hti:=fun W=>jcH (W:=W) hw hh
 have hsi:=fun W=>jjt (W:=W) hw hh
 rw [<-hn] at hti hsi hm
 have hen:=fun W hB=>jdK (W:=W) (B:=B) (cB:=cB) (ls:=ls) (13+ls.length * 8) (by omega) hls (by omega) hB
 have ew:(gw:Int) - 1=((gw - 1:Nat):Int):=by omega
 have eh:(gh:Int) - 1=((gh - 1:Nat):Int):=by omega
 have S:=St.start W
 refine zn Tryz.func189 Tryz.results189 Tryz.ntmps189 ?_
 iterate 4 refine z ?_
 refine jC rfl (hti W) ?_
 rintro _ w1_ ⟨rfl,g1_⟩
 have S:=S.gr g1_
 (iterate 6 refine z ?_); refine zf ?_; (iterate 3 refine z ?_); refine zf ?_; refine z ?_; refine z ?_
 refine jC rfl (hsi w1_) ?_
 rintro _ w2_ ⟨rfl,g2_⟩
 have S:=S.gr g2_
 iterate 7 refine z ?_
 refine jC rfl (hen w2_ (hB.gr S.out)) ?_
 rintro _ w3_ ⟨es,hes,hall,A_en,c_en,rfl,hR_en,hf_en,g3_⟩
 have S:=S.pushRow hR_en hf_en g3_
 iterate 7 refine z ?_
 refine zs ?_
 refine jiI S q31 q5 qz5 qv5 rfl rfl rfl rfl rfl (fun _=>rfl) ?_
 intro A5 w5 g5 hR5 S
 skip
 refine z ?_; refine zr ?_
 rw [ew]
 refine jC rfl (r7 (l:=[72,65,67,72,1]) (c:=5) 2 (gw - 1) hR5 (by decide) (by omega) (by decide)) ?_
 rintro _ w4_ ⟨l6,A6,c6,hl6,rfl,hR6,hf6,g4_⟩
 have S:=S.pushRow hR6 hf6 g4_
 refine z ?_; refine zr ?_
 rw [eh]
 refine jC rfl (r7 (l:=l6) 2 (gh - 1) (S.rd (i:=0) rfl) (by decide) (by omega) (by rw [hl6]; decide)) ?_
 rintro _ w5_ ⟨l7,A7,c7,hl7,rfl,hR7,hf7,g5_⟩
 have S:=S.pushRow hR7 hf7 g5_
 refine z ?_
 refine jC rfl (r7 (l:=l7) 4 ls.length (S.rd (i:=0) rfl) (by decide) (by omega) (by rw [hl7,hl6]; decide)) ?_
 rintro _ w6_ ⟨l8,A8,c8,hl8,rfl,hR8,hf8,g6_⟩
 have S:=S.pushRow hR8 hf8 g6_
 iterate 4 refine z ?_
 refine zc ?_
 refine jS ?_
 refine zc ?_
 have h13:l8.length=13:=by rw [hl8,hl7,hl6]; rfl
 have S:=S.sub (.cons_cons _ (.cons _ (.cons _ (.cons_cons _ (.slnil)))))
 refine j9 (fun m e w'=>∃ (k:Nat) (lb:List Int) (A_b:Option Addr) (c_b:Nat),k+m=ls.length/\lb.length=13+8 * k/\SL e [(14,.slice A_b lb.length c_b),(54,.slice A_en ls.length c_en),(55,ii ls.length),(56,ii k)] /\
   St No W w' [.row 5 1 A_b lb.length c_b (u8s lb),.row 208 2 A_en ls.length c_en (qB es)]) ls.length
  ⟨0,l8,A8,c8,by omega,h13,⟨rfl,rfl,rfl,rfl,trivial⟩,S⟩ ?_
 clear S
 have hmu:∀ {wq:World} {l:List Int} {A:Option Addr} {c:Nat} {L:List HA} (u:Nat),Rd wq A (u8s l)->(u:Int) < 4294967296->0 < l.length/\l.length<=1099511627776->St No W wq L ->
   Fn Tryz.prog 239 [.slice A l.length c,ii (4:Nat),ii u] wq (fun v w'=>∃ (l':List Int) (A':Option Addr) (c':Nat),l'.length=l.length+4/\v=.slice A' l'.length c'/\St No W w' (.row 5 1 A' l'.length c' (u8s l')::L)):=fun u hR hu hl S =>
  (r7 4 u hR (by decide) (by omega) hl).mono fun v w' ⟨l2,A2,c2,hl2,hv,h2,h3,g⟩=>⟨l2,A2,c2,hl2,hv,S.pushRow h2 h3 g⟩
 rintro m e w2 ⟨k,lb,A_b,c_b,hk,hlb,hsl,S⟩
 rw [hsl.fold]
 by_cases hlt:k < ls.length
 ·have sa_en:yH A_en:=(S.row (i:=1) rfl).someA (by omega)
  have hek:k < es.length:=by omega
  obtain ⟨hx,hy⟩:=hall _ (List.getElem_mem hek)
  have g1:=xZ (List.getElem?_eq_getElem hek)
  obtain ⟨x,ex⟩:=Int.eq_ofNat_of_zero_le hx.1
  obtain ⟨y,ey⟩:=Int.eq_ofNat_of_zero_le hy.1
  rw [ex,ey] at g1
  rw [ex] at hx
  rw [ey] at hy
  have g1':((qB es).drop ((k:Int).toNat * 2)).take 2=[ii x,ii y]:=by rw [Int.toNat_natCast]; exact g1
  refine zt ?_; refine zx ?_
  refine j3 (yY Tryz.underlying208 rfl (Tryz.sizeOf208 _) rfl (S.rd (i:=1) rfl) g1' rfl rfl) ?_
  refine jF (jL Tryz.zeroValue208 rfl) S ?_
  intro b_en1 w8_ g8_ S
  refine jH (i:=0) S rfl (Tryz.sizeOf208 _) rfl rfl rfl rfl rfl rfl ?_
  intro w9_ S
  refine zc ?_
  refine qQ (C:=(CQL No W [.blk b_en1 208 [ii x,ii y],.row 5 1 A_b lb.length c_b (u8s lb),.row 208 2 A_en ls.length c_en (qB es)] (fun σ Q=>match σ with | []=>Q=[] | [v]=>∃ (l:List Int) (A:Option Addr) (c:Nat),l.length=lb.length+4/\v=.slice A l.length c/\Q=[.row 5 1 A l.length c (u8s l)] | v::_=>∃ (l:List Int) (A:Option Addr) (c:Nat),l.length=lb.length+8/\v=.slice A l.length c/\Q=[.row 5 1 A l.length c (u8s l)]))) [3,6] [0,1,2,4,5,3,6] [7] (by kernel_rfl) (by kernel_rfl) (CQL.start rfl (S.gr (Gr.drew _))) ?_
  simp only [yT,j6,List.drop_succ_cons,List.drop_zero]
  refine jX rfl (jA rfl) ?_
  refine jX rfl (jD Tryz.underlying208 rfl qz2 rfl rfl) ?_
  refine qF rfl (fun τ wq hq=>jB q2 rfl rfl ((CQL.st hq).blk (i:=0) rfl) rfl) ?_
  refine jX rfl (jD Tryz.underlying208 rfl qz2 rfl rfl) ?_
  refine qF rfl (fun τ wq hq=>jB q2 rfl rfl ((CQL.st hq).blk (i:=0) rfl) rfl) ?_
  refine jZ rfl rfl (fun wq hq=>sG hq rfl (fun Q hQ S=>?_)) ?_
  ·cases hQ; exact (hmu x (S.rd (i:=1) rfl) hx.2 (by omega) S).mono fun v w' ⟨l',A',c',h1,h2,S'⟩=>⟨_,⟨l',A',c',h1,h2,rfl⟩,S'⟩
  rintro v3 w3 ⟨_,⟨l3,A3,c3,hl3,rfl,_⟩,_⟩
  refine jZ rfl rfl (fun wq hq=>sG hq rfl (fun Q hQ S=>?_)) ?_
  ·obtain ⟨l,A,c,hl,hv,rfl⟩:=hQ; injection hv with h1 h2 h3; subst h1 h3; rw [h2]; exact (hmu y (S.rd (i:=0) rfl) hy.2 (by omega) S).mono fun v w' ⟨l',A',c',h1,h2,S'⟩=>⟨_,⟨l',A',c',by omega,h2,rfl⟩,S'.sub (.cons_cons _ (.cons _ (List.Sublist.refl _)))⟩
  rintro v6 w6 ⟨_,⟨l6,A6,c6,hl6,rfl,_⟩,_⟩
  refine yV ?_
  rintro wz hz
  obtain ⟨_,⟨l9,A9,c9,hl9,e9,rfl⟩,S⟩:=hz
  injection e9 with q1 q2 q3
  subst q1 q3
  refine z ?_; refine zr ?_; refine z ?_
  refine ze ?_
  exact ⟨m - 1,by omega,k+1,l9,A6,c6,by omega,by omega,⟨se q2 rfl,rfl,rfl,rfl,trivial⟩,by simpa using S.sub (.cons_cons _ (.cons _ (.cons _ (.cons_cons _ .slnil))))⟩
 ·obtain rfl:k=ls.length:=by omega
  refine zf ?_
  refine zc ?_
  refine jM rfl ?_
  refine zc ?_
  refine jY ?_
  repeat first | refine jP ?_ | refine jU ?_
  show CW _ _ _ _ _ _
  iterate 3 refine z ?_
  refine zq ?_
  rw [<-hlb]
  exact kY rfl rfl ⟨lb,rfl,S.retNew (i:=0) (mk:=fun s=>.tuple #[s,ii 0]) rfl⟩
end
end
section
open Go.RowKit
theorem jk6 {a b:HA} {Q M T:List HA}:(a::(Q ++ (b::(M ++ T)))).Perm ((Q ++ M) ++ (a::b::T)):=by
 refine List.Perm.trans ?_ List.perm_middle.symm
 refine List.Perm.cons a ?_
 rw [List.append_assoc]
 exact (List.perm_middle.symm).append_left Q
section
variable {W w : World} {T M : List HA}
theorem jk5 (hG:GL W):Fn Tryz.prog 210 [.string ⟨#[99,114,101,97,116,101,32,50,32,49]⟩] W (fun v w'=>∃ x:Unit,v=OpS.v ⟨1,0,0,0,0,0,0,0,0,2,1,.nil,.nil,.nil⟩/\St No W w' []) :=
 ja4 (k:=1) (vb:=⟨#[99,114,101,97,116,101]⟩) (rest:=[⟨#[50]⟩,⟨#[49]⟩]) (oF:=fun _:Unit=>⟨1,0,0,0,0,0,0,0,0,2,1,.nil,.nil,.nil⟩) (Q:=fun _=>[]) hG (by decide) (by decide +kernel) (by decide +kernel) (by decide) (by decide +kernel) (fun _=>rfl)
  (fun w lb b o c ob T hc S=>(jha (zs:=[(⟨#[50]⟩,2),(⟨#[49]⟩,1)]) (ws:=[]) rfl rfl hc (by
   intro z hz; simp only [List.mem_cons,List.not_mem_nil,or_false] at hz; rcases hz with rfl | rfl <;> first | exact dg0 | exact dg1 | exact dg2 | exact dg5 | exact dg7) (by
   intro q hq; simp only [List.mem_cons,List.not_mem_nil,or_false] at hq; rcases hq with rfl | rfl <;> exact ⟨_,0,dg0,rfl⟩) S).mono fun v w' ⟨o',c',hv,_,S⟩=>⟨o',c',(),hv,S⟩)
theorem jk4 (hG:GL W):Fn Tryz.prog 210 [.string ⟨#[112,97,115,116,101,32,48,32,48,32,49,32,48,32,53,44,55]⟩] W (fun v w'=>∃ x:Option Addr × Nat,v=OpS.v ⟨4,0,0,1,0,0,0,0,0,0,0,⟨x.1,2,x.2⟩,.nil,.nil⟩/\St No W w' [.row 2 1 x.1 2 x.2 (yC [5,7])]) :=
 ja4 (k:=4) (vb:=⟨#[112,97,115,116,101]⟩) (rest:=[⟨#[48]⟩,⟨#[48]⟩,⟨#[49]⟩,⟨#[48]⟩,⟨#[53,44,55]⟩]) (oF:=fun x:Option Addr × Nat=>⟨4,0,0,1,0,0,0,0,0,0,0,⟨x.1,2,x.2⟩,.nil,.nil⟩) (Q:=fun x=>[.row 2 1 x.1 2 x.2 (yC [5,7])]) hG (by decide) (by decide +kernel) (by decide +kernel) (by decide) (by decide +kernel) (fun _=>rfl)
  (fun w lb b o c ob T hc S=>(jg9 (zs:=[(⟨#[48]⟩,0),(⟨#[48]⟩,0),(⟨#[49]⟩,1),(⟨#[48]⟩,0)]) (zl:=[(⟨#[53]⟩,5),(⟨#[55]⟩,7)]) (x:=⟨#[53,44,55]⟩) (ws:=[]) hG (by decide +kernel) (by decide +kernel) (by decide) (by decide) (by
   intro z hz; simp only [List.mem_cons,List.not_mem_nil,or_false] at hz; rcases hz with rfl | rfl <;> first | exact dg0 | exact dg1 | exact dg2 | exact dg5 | exact dg7) rfl rfl rfl hc (by
   intro z hz; simp only [List.mem_cons,List.not_mem_nil,or_false] at hz; rcases hz with rfl | rfl | rfl | rfl <;> first | exact dg0 | exact dg1 | exact dg2 | exact dg5 | exact dg7) (by
   intro q hq; simp only [List.mem_cons,List.not_mem_nil,or_false] at hq; rcases hq with rfl | rfl | rfl | rfl <;> exact ⟨_,0,dg0,rfl⟩) S).mono fun v w' ⟨o',c',A,cA,hv,_,S⟩=>⟨o',c',(A,cA),hv,S⟩)
theorem jk3 (hG:GL W):Fn Tryz.prog 210 [.string ⟨#[115,117,109,32,48,32,48,32,49,32,48]⟩] W (fun v w'=>∃ x:Unit,v=OpS.v ⟨7,0,0,1,0,0,0,0,0,0,0,.nil,.nil,.nil⟩/\St No W w' []) :=
 ja4 (k:=7) (vb:=⟨#[115,117,109]⟩) (rest:=[⟨#[48]⟩,⟨#[48]⟩,⟨#[49]⟩,⟨#[48]⟩]) (oF:=fun _:Unit=>⟨7,0,0,1,0,0,0,0,0,0,0,.nil,.nil,.nil⟩) (Q:=fun _=>[]) hG (by decide) (by decide +kernel) (by decide +kernel) (by decide) (by decide +kernel) (fun _=>rfl)
  (fun w lb b o c ob T hc S=>(jg8 (zs:=[(⟨#[48]⟩,0),(⟨#[48]⟩,0),(⟨#[49]⟩,1),(⟨#[48]⟩,0)]) (ws:=[]) rfl rfl hc (by
   intro z hz; simp only [List.mem_cons,List.not_mem_nil,or_false] at hz; rcases hz with rfl | rfl | rfl | rfl <;> first | exact dg0 | exact dg1 | exact dg2 | exact dg5 | exact dg7) (by
   intro q hq; simp only [List.mem_cons,List.not_mem_nil,or_false] at hq; rcases hq with rfl | rfl | rfl | rfl <;> exact ⟨_,0,dg0,rfl⟩) S).mono fun v w' ⟨o',c',hv,_,S⟩=>⟨o',c',(),hv,S⟩)
theorem jhW {α β:Type} {s an:ByteArray} {oF:α->OpS} {Q:α->List HA} {r:RpS} {M':β->List HA} {cb sb:Nat} (hG:GL W) (hpar:∀ W,GL W->Fn Tryz.prog 210 [.string s] W (fun v w'=>∃ x,v=(oF x).v/\St No W w' (Q x)))
  (hdo:∀ x w L,St No W w ((Q x ++ M) ++ L)->Fn Tryz.prog 7 [pt sb,(oF x).v] w (fun v w'=>∃ y,v=r.v/\St No W w' (M' y ++ L)))
  (hans:∀ x W,Fn Tryz.prog 125 [ii (oF x).k,r.v] W (fun v w'=>∃ A c,v=.slice A 1 c/\1<=c/\St No W w' [.row 9 1 A 1 c [.string an]]))
  (S:St No W w (.blk cb 129 [pt sb]::(M ++ T))) :
  Fn Tryz.prog (60) [pt cb,.string s] w (fun v w'=>∃ A c y,v=.slice A 1 c/\St No W w' (.row 9 1 A 1 c [.string an]::.blk cb 129 [pt sb]::(M' y ++ T))):=by
 refine zn Tryz.func60 Tryz.results60 Tryz.ntmps60 ?_
 iterate 4 refine z ?_
 refine jC rfl (jjJ (hG.gr S.out) hpar) ?_
 rintro _ w1_ ⟨x,rfl,S2⟩
 have S:=S.app S2
 iterate 3 refine z ?_
 refine jF (jL nH rfl) S ?_
 intro b_op w3_ g3_ S
 refine jH (i:=0) (cs:=(oF x).cs) S rfl (rS _) rfl rfl rfl rfl rfl rfl ?_
 intro w9 S
 refine z ?_; refine z ?_; refine zf ?_
 refine zc ?_
 refine jM rfl ?_
 refine zc ?_
 refine j5 ?_
 try show CW _ _ _ _ _ _
 refine zc ?_
 refine qQ (C:=(CQL No W (.blk b_op 34 (oF x).cs::.blk cb 129 [pt sb]::T) (fun σ Qs=>match σ with | []=>Qs=Q x ++ M | v::_=>∃ y,v=r.v/\Qs=M' y))) [7] [0,1,2,3,4,5,6,7] [8,9] (by kernel_rfl) (by kernel_rfl) ⟨_,rfl,(S.perm_ (jk6 (T:=T))).gr (Gr.drew _)⟩ ?_
 simp only [yT,j6,List.drop_succ_cons,List.drop_zero]
 refine jX rfl (jD q34 rfl qz3 rfl rfl) ?_
 refine qF rfl (fun τ wq hq=>jB q3 rfl rfl ((CQL.st hq).blk (i:=0) rfl) rfl) ?_
 refine jX rfl (jA rfl) ?_
 refine jX rfl (jA rfl) ?_
 refine jX rfl (jD Tryz.underlying129 rfl Tryz.sizeOf28 rfl rfl) ?_
 refine qF rfl (fun τ wq hq=>jB Tryz.underlying28 rfl rfl ((CQL.st hq).blk (i:=1) rfl) rfl) ?_
 refine qF rfl (fun τ wq hq=>jT (cs:=(oF x).cs) q34 rfl (rS _) rfl ((CQL.st hq).blk (i:=0) rfl) rfl rfl) ?_
 refine jZ rfl rfl (fun wq hq=>sG hq rfl (fun Qs hQ S=>?_)) ?_
 ·cases hQ; exact (hdo x wq _ S).mono fun v w' ⟨y,hv,S'⟩=>⟨_,⟨y,hv,rfl⟩,S'⟩
 rintro v7 w7 ⟨_,⟨y7,rfl,_⟩,_⟩
 refine yV ?_
 rintro wz hz
 obtain ⟨_,⟨y,_,rfl⟩,S⟩:=hz
 refine jC rfl (hans x _) ?_
 rintro _ w5_ ⟨A9,c9,rfl,hc9,S2⟩
 have S:=S.app S2
 refine z ?_
 refine zq ?_
 exact yD rfl ⟨A9,c9,y,rfl,by
  have S:=St.mid (A:=.row 9 1 A9 1 c9 [.string an]::M' y) (B:=[_,_]) (C:=T) S
  exact (S.drop 1).pick 2 [1,0] rfl rfl rfl⟩
theorem jkJ {n cb c_ls sb:Nat} {A_ls:Option Addr} {ln an:List ByteArray} {SP:Nat->List HA->Prop} (sa_ls:yH A_ls) (hG:GL W) (hn:n<=100) (h1:ln.length=n) (h2:an.length=n)
  (hstep:∀ k s a M w T,ln[k]?=some s->an[k]?=some a->SP k M->St No W w (.blk cb 129 [pt sb]::(M ++ T)) ->
   Fn Tryz.prog (60) [pt cb,.string s] w (fun v w'=>∃ A c M',v=.slice A 1 c/\SP (k+1) M'/\St No W w' (.row 9 1 A 1 c [.string a]::.blk cb 129 [pt sb]::(M' ++ T))))
  (h0:SP 0 M) (S:St No W w (.row 9 1 A_ls n c_ls (ln.map .string)::.blk cb 129 [pt sb]::M)) :
  Fn Tryz.prog (23) [pt cb,.slice A_ls n c_ls] w (fun v w'=>∃ A c,v=.slice A n c/\St No W w' [.row 9 1 A n c (an.map .string)]):=by
 refine zn Tryz.func23 Tryz.results23 Tryz.ntmps23 ?_
 iterate 5 refine z ?_
 refine zc ?_
 refine jS ?_
 refine zc ?_
 have S:=S.pushNil 9 1
 refine j9 (fun m e w'=>∃ (k:Nat) (A_o:Option Addr) (c_o:Nat) (M:List HA),k+m=n/\SP k M/\SL e [(0,pt cb),(5,.slice A_o k c_o),(8,.slice A_ls n c_ls),(9,ii n),(10,ii k)] /\
   St No W w' (.row 9 1 A_o k c_o ((an.take k).map .string)::.row 9 1 A_ls n c_ls (ln.map .string)::.blk cb 129 [pt sb]::M)) n
  ⟨0,none,0,M,by omega,h0,⟨rfl,rfl,rfl,rfl,rfl,trivial⟩,S⟩ ?_
 clear S h0
 rintro m e w2 ⟨k,A_o,c_o,M,hk,hP,hsl,S⟩
 rw [hsl.fold]
 by_cases hlt:k < n
 ·obtain ⟨s,hs⟩:∃ s,ln[k]?=some s:=⟨_,List.getElem?_eq_getElem (by omega)⟩
  obtain ⟨a,ha⟩:∃ a,an[k]?=some a:=⟨_,List.getElem?_eq_getElem (by omega)⟩
  have hls:(ln.map Value.string)[(k:Int).toNat * 1]?=some (.string s):=by rw [Nat.mul_one,Int.toNat_natCast,List.getElem?_map,hs]; rfl
  have htk:(an.take k).map Value.string ++ [.string a]=(an.take (k+1)).map Value.string:=by rw [List.take_add_one,ha]; simp
  refine zt ?_; refine zx ?_
  refine j3 (j7 q9 rfl rfl (S.rd (i:=1) rfl) hls) ?_
  iterate 4 refine z ?_
  have S:=St.mid (A:=[_,_]) (B:=_::M) (C:=[]) (by rw [List.append_nil]; exact S)
  refine jC rfl (hstep k s a M _ _ hs ha hP S) ?_
  rintro _ w1_ ⟨A_r,c_r,M',rfl,hP2,S⟩
  have S:=St.mid (A:=_::_::M') (B:=[_,_]) (C:=[]) S
  have S:=S.pick 4 [2,0,1,3] rfl rfl rfl
  refine qA (i:=1) S rfl (fun h=>rfl) q39 pB rfl rfl rfl rfl (by simp) (by omega) (S.rd (i:=0) rfl) rfl (by omega) ?_
  intro A_o2 c_o2 w2_ S sa_o
  refine z ?_; refine zr ?_; refine z ?_
  refine ze ?_
  rw [htk] at S
  exact ⟨m - 1,by omega,k+1,_,_,M',by omega,hP2,⟨rfl,rfl,rfl,rfl,rfl,trivial⟩,by simpa using S.drop 1⟩
 ·obtain rfl:k=n:=by omega
  refine zf ?_
  refine zc ?_
  refine jM rfl ?_
  refine zc ?_
  refine jY ?_
  repeat first | refine jP ?_ | refine jU ?_
  show CW _ _ _ _ _ _
  refine z ?_; refine z ?_
  refine zq ?_
  rw [List.take_of_length_le (by omega)] at S
  exact yD rfl ⟨_,_,rfl,S.sub (.cons_cons _ (List.nil_sublist _))⟩
theorem jiF:Fn Tryz.prog 22 [] W (fun v w'=>∃ cb sb pp,v=pt cb/\St No W w' [.blk cb 129 [pt sb],.blk sb 60 [.pointer none,.pointer none,.pointer none,ii 0,pt pp],.blk pp 76 [.slice none 0 0,ii 0]]):=by
 have S:=St.start W
 refine zn Tryz.func22 Tryz.results22 Tryz.ntmps22 ?_
 refine z ?_
 refine zs ?_
 refine jC rfl (jaJ) ?_
 rintro _ w1_ ⟨sb,pp,rfl,S2⟩
 have S:=S.app S2
 refine jE (jN (pl:=[(0,1)]) Tryz.underlying129 Tryz.zeroValue129 (fun w=>by kernel_rfl) rfl rfl) ?_
 refine jF (jO rfl) S ?_
 intro b_con w3_ g3_ S
 refine z ?_
 refine zq ?_
 exact yD rfl ⟨_,_,_,rfl,S⟩
end
end
section
open Go.RowKit
def SP3 (sb:Nat):Nat->List HA->Prop
 | 0,M=>∃ pp,M=[.blk sb 60 [.pointer none,.pointer none,.pointer none,.int .i64 0,.pointer (some ⟨pp,0,none⟩)],.blk pp 76 [.slice none 0 0,.int .i64 0]]
 | 1,M=>∃ (s:StS) (Q:List HA),(s.ok/\s.sb=sb/\s.gw=2/\s.gh=1/\s.ov=none/\s.l=[]/\s.stamp=0)/\M=s.L ++ Q
 | 2,M=>∃ (s:StS) (Q:List HA),(s.ok/\s.sb=sb/\s.gw=2/\s.gh=1/\s.ov=none/\s.V=[5,7])/\M=s.L ++ Q
 | _,_=>True
section
variable {W w : World} {T M : List HA}
def lnL:List ByteArray:=[⟨#[99,114,101,97,116,101,32,50,32,49]⟩,⟨#[112,97,115,116,101,32,48,32,48,32,49,32,48,32,53,44,55]⟩,⟨#[115,117,109,32,48,32,48,32,49,32,48]⟩]
def anL:List ByteArray:=[⟨#[111,107]⟩,⟨#[111,107]⟩,⟨#[111,107,32,49,50]⟩]
theorem jiw {cb sb k:Nat} {s a:ByteArray} (hG:GL W) (hs:lnL[k]?=some s) (ha:anL[k]?=some a) (hP:SP3 sb k M) (S:St No W w (.blk cb 129 [pt sb]::(M ++ T))) :
  Fn Tryz.prog (60) [pt cb,.string s] w (fun v w'=>∃ A c M',v=.slice A 1 c/\SP3 sb (k+1) M'/\St No W w' (.row 9 1 A 1 c [.string a]::.blk cb 129 [pt sb]::(M' ++ T))):=by
 match k,hs,ha,hP with
 | 0,hs,ha,⟨pp,hM⟩ =>
  cases hs
  cases ha
  subst hM
  refine (jhW (α:=Unit) (β:={ s:StS // s.ok/\s.sb=sb/\s.gw=2/\s.gh=1/\s.ov=none/\s.l=[]/\s.stamp=0 }) (M':=fun y=>y.1.L ++ [.blk pp 76 [.slice none 0 0,ii 0]]) (r:={ code:=0 }) hG (fun W h=>jk5 h) (fun x w L S=>?_) (fun x W=>jaE (k:=1) (.inl rfl)) S).mono fun v w' ⟨A,c,y,hv,S⟩=>⟨A,c,_,hv,⟨y.1,_,y.2,rfl⟩,S⟩
  exact (cZ (gw:=2) (gh:=1) rfl (by decide) (by decide) rfl rfl S).mono fun v w' ⟨s',hv,⟨h1,h2,h3,h4,h5,_,h6,_,h7⟩,S'⟩=>⟨⟨s',h1,h2,h3,h4,h5,h6,h7⟩,hv,S'.csa⟩
 | 1,hs,ha,⟨s1,Q1,⟨h1,h2,h3,h4,h5,h6,h7⟩,hM⟩ =>
  cases hs
  cases ha
  subst hM
  refine (jhW (α:=Option Addr × Nat) (β:={ y:(Option Addr × Nat) × StS // y.2.ok/\y.2.sb=sb/\y.2.gw=2/\y.2.gh=1/\y.2.ov=none/\y.2.V=[5,7] }) (M':=fun y=>y.1.2.L ++ (.row 2 1 y.1.1.1 2 y.1.1.2 (yC [5,7])::Q1)) (r:={ code:=0 }) hG (fun W h=>jk4 h) (fun x w L S=>?_) (fun x W=>jaE (k:=4) (.inr rfl)) S).mono fun v w' ⟨A,c,y,hv,S⟩=>⟨A,c,_,hv,⟨y.1.2,_,y.2,rfl⟩,S⟩
  have S1:=(St.mid (A:=[_]) (B:=s1.L) (C:=Q1 ++ L) (by rw [<-List.append_assoc s1.L]; exact S)).csa
  refine (cE (s:=s1) (M:=[.row 2 1 x.1 2 x.2 (yC [5,7])]) (x0:=0) (y0:=0) (x1:=1) (y1:=0) (V:=[5,7]) h2 (dX (k:=4) (by decide) (by decide)) h1 (by omega) (by rw [h6]; decide) (by omega) (by omega) (by simp) (by simp [kN]) (fun _=>jkQ h3 h4) (jg6 (mm:=x.2) (by omega) (by omega) ⟨rfl,rfl,rfl,rfl,rfl⟩ rfl (by simp)) S1).mono fun v w' ⟨s2,hv,⟨hok2,hp2⟩,S'⟩=>⟨⟨(x,s2),hok2,hp2.sb.trans h2,hp2.gw.trans h3,hp2.gh.trans h4,hp2.ov.trans h5,?_⟩,hv,?_⟩
  ·rw [hp2.V,h3,h4]; rfl
  ·have S2:=S'.asc
   show St No W w' ((s2.L ++ _::Q1) ++ L)
   rw [List.append_assoc]
   exact S2
 | 2,hs,ha,⟨s2,Q2,⟨h1,h2,h3,h4,h5,h6⟩,hM⟩ =>
  cases hs
  cases ha
  subst hM
  have hsum:fO s2.V s2.gw 0 0 1 0=12:=by rw [h6,h3]; rfl
  refine (jhW (α:=Unit) (β:=Unit) (M':=fun y=>s2.L ++ Q2) (r:={ code:=0,n:=12 }) hG (fun W h=>jk3 h) (fun x w L S=>?_) (fun x W=>jf2) S).mono fun v w' ⟨A,c,y,hv,S⟩=>⟨A,c,_,hv,trivial,S⟩
  have S1:St No W w ((s2.L ++ []) ++ (Q2 ++ L)):=by rw [List.append_nil,<-List.append_assoc]; exact S
  refine (zW (s:=s2) (M:=[]) h2 true (cU (by decide) (by decide)) (jcU (x0:=0) (y0:=0) (x1:=1) (y1:=0) h1 (by omega) (by omega) (fun w tl S=>.inl h5) ⟨rfl,rfl,rfl,rfl,rfl⟩) S1).mono fun v w' ⟨_,hv,S'⟩=>⟨(),by rw [hv]; show RpS.v _=_; rw [hsum],?_⟩
  rw [List.append_nil,<-List.append_assoc] at S'
  exact S'
 | k+3,hs,_,_=>cases hs
theorem jf0 (hG:GL W):Fn Tryz.prog 15 [] W (yK (.bool true) W):=by
 have S:=St.start W
 refine zn Tryz.func15 Tryz.results15 Tryz.ntmps15 ?_
 refine z ?_
 refine zs ?_
 refine jC rfl (jiF) ?_
 rintro _ w1_ ⟨cb,sb,pp,rfl,S2⟩
 have S:=S.app S2
 refine yF q39 qz9 qv9 rfl rfl rfl rfl rfl rfl S ?_
 intro A_ls w3_ g3_ S sa_ls
 refine jC rfl (jkJ (SP:=SP3 sb) (ln:=lnL) (an:=anL) sa_ls hG (by decide) rfl rfl (fun k s a M w T hs ha hP S=>jiw hG hs ha hP S) ⟨pp,rfl⟩ S) ?_
 rintro _ w4_ ⟨A_o,c_o,rfl,S⟩
 refine z ?_
 refine ze ?_
 have sa_o:=(S.row (i:=0) rfl).someA (by decide)
 refine z ?_; refine z ?_; refine zt ?_; refine z ?_; refine z ?_; refine zx ?_
 first | refine jK rfl ?_ | (refine jQ rfl ?_; refine j3 (j7 q9 rfl rfl (S.rd (i:=0) rfl) (v:=.string ⟨#[111,107]⟩) rfl) ?_)
 refine jQ rfl ?_
 refine jE (sR (B:=true) rfl rfl (by simp)) ?_
 (iterate 3 refine z ?_); refine zx ?_
 first | refine jK rfl ?_ | (refine jQ rfl ?_; refine j3 (j7 q9 rfl rfl (S.rd (i:=0) rfl) (v:=.string ⟨#[111,107]⟩) rfl) ?_)
 refine jQ rfl ?_
 refine jE (sR (B:=true) rfl rfl (by simp)) ?_
 (iterate 3 refine z ?_); refine zx ?_
 first | refine jK rfl ?_ | (refine jQ rfl ?_; refine j3 (j7 q9 rfl rfl (S.rd (i:=0) rfl) (v:=.string ⟨#[111,107,32,49,50]⟩) rfl) ?_)
 refine jQ rfl ?_
 refine jE (sR (B:=true) rfl rfl (by simp)) ?_
 refine z ?_; refine z ?_
 refine zq ?_
 exact yD rfl ⟨rfl,S.out⟩
theorem jf9 (hG:GL W):Fn Tryz.prog 10 [] W (yK (.bool true) W):=by
 have S:=St.start W
 refine zn Tryz.func10 Tryz.results10 Tryz.ntmps10 ?_
 refine z ?_
 refine zs ?_
 refine jC rfl (jf0 (hG.gr S.out)) ?_
 rintro _ w1_ ⟨rfl,g1_⟩
 have S:=S.gr g1_
 refine z ?_
 refine zq ?_
 exact yD rfl ⟨rfl,S.out⟩
theorem jga:Fn Tryz.prog 9 [] W (yK (.bool true) W):=by
 have S:=St.start W
 refine zn Tryz.func9 Tryz.results9 Tryz.ntmps9 ?_
 refine z ?_
 refine zs ?_
 refine jC rfl (jf1) ?_
 rintro _ w1_ ⟨rfl,g1_⟩
 have S:=S.gr g1_
 refine z ?_
 refine zq ?_
 exact yD rfl ⟨rfl,S.out⟩
theorem x8 (hG:GL W):Fn Tryz.prog 4 [] W (yK (.bool true) W):=by
 have S:=St.start W
 refine zn Tryz.func4 Tryz.results4 Tryz.ntmps4 ?_
 refine z ?_
 refine zs ?_
 refine jC rfl (jga) ?_
 rintro _ w1_ ⟨rfl,g1_⟩
 have S:=S.gr g1_
 refine z ?_
 refine jQ rfl ?_
 refine jC rfl (jf9 (hG.gr S.out)) ?_
 rintro _ w2_ ⟨rfl,g2_⟩
 have S:=S.gr g2_
 refine z ?_; refine z ?_
 refine zq ?_
 exact yD rfl ⟨rfl,S.out⟩
end
end
section
open Go.RowKit
def CA (F:Nat->Prop) (W:World) (L:List HA) (t:TypeId) (z l:List Value) (σ:List Value) (w:World):Prop:=match σ with
 | []=>St F W w L
 | [v]=>∃ b,v=.pointer (some ⟨b,0,none⟩)/\St F W w (.blk b t z::L)
 | _::v::_=>∃ b,v=.pointer (some ⟨b,0,none⟩)/\St F W w (.blk b t l::L)
section
variable {F : Nat → Prop} {W w w' : World} {L : List HA} {t : TypeId} {z l : List Value} {σ : List Value}
theorem CA.start (S:St F W w L):CA F W L t z l [] w:=S
theorem CA.gr (h:CA F W L t z l σ w) (g:Gr w w'):CA F W L t z l σ w':=by
 match σ,h with
 | [],h=>exact St.gr h g
 | [v],⟨b,e,S⟩=>exact ⟨b,e,S.gr g⟩
 | _::v::_,⟨b,e,S⟩=>exact ⟨b,e,S.gr g⟩
theorem CA.st (h:CA F W L t z l σ w):St F W w L:=by
 match σ,h with
 | [],h=>exact h
 | [v],⟨b,e,S⟩=>exact S.drop 1
 | _::v::_,⟨b,e,S⟩=>exact S.drop 1
theorem CA.fin {a v:Value} {σ:List Value} (h:CA F W L t z l (a::v::σ) w):∃ b,v=pt b/\St F W w (.blk b t l::L):=h
section
variable {P : Program} {e : Nat → Value} {d : Option Tmp} {ty : TypeId} {ps : String} {af : Array Edge}
theorem x7 {zv:Value} (h:CA F W L t z l [] w) (hz:∀ w,(zeroValue t).run P w=.ok zv w) (hl:zv.cells.toList=z):qM P e ⟨d,.alloc t,ty,ps,af,none⟩ w (fun v w'=>CA F W L t z l [v] w') :=
 q7 rfl (jF (jL hz hl) h (fun b w' g S=>⟨b,rfl,S⟩))
theorem x6 {b n:Nat} {x y:Operand} {cs:List Value} (h:CA F W L t z l [pt b] w) (hz:(sizeOf t).run P w=.ok n w) (hx:ev e x=pt b) (hy:ev e y=.agg cs.toArray) (hn:cs.length=n)
  (hl':fzl (z.take 0 ++ cs ++ z.drop (0+n))=some l) (ho:((cs.all fun v=>v.oneCell') && Nat.ble (0+n) z.length)=true):qM P e ⟨d,.store t x y,ty,ps,af,none⟩ w (fun v w'=>CA F W L t z l [v,pt b] w'):=by
 obtain ⟨b',e',S⟩:=h
 cases e'
 exact q7 rfl (jH (i:=0) S rfl hz hx hy hn hl' ho rfl (fun w' S'=>⟨b,rfl,S'⟩))
end
end
structure Win where
 x0:Nat
 y0:Nat
 x1:Nat
 y1:Nat
def Win.val (r:Win):Value:=.agg #[ii r.x0,ii r.y0,ii r.x1,ii r.y1]
def jij (gw gh i n:Nat):Win:=⟨i % gw - n,i / gw - n,min (i % gw+n) (gw - 1),min (i / gw+n) (gh - 1)⟩
def Win.ok (r:Win) (gw gh:Nat):Prop:=(r.x0<=r.x1/\r.x1 < gw)/\r.y0<=r.y1/\r.y1 < gh
section
variable {W : World} {gw gh : Nat}
theorem jh6 (i n:Nat) (hw:1<=gw/\gw<=1024) (hh:1<=gh/\gh<=1024) (hi:i < gw * gh) (hn:n<=1024) :
  Fn Tryz.prog 148 [.agg #[ii (i % gw:Nat),ii (i / gw:Nat)],ii n,ii gw,ii gh] W (yK (.tuple #[(jij gw gh i n).val,ii 0]) W):=by
 have h1:=Nat.mod_lt i hw.1
 have h2:i / gw < gh:=Nat.div_lt_of_lt_mul hi
 have hwi:kD (i % gw:Nat) (i / gw:Nat) (i % gw:Nat) (i / gw:Nat) gw gh=0:=by
  generalize i % gw=X at *
  generalize i / gw=Y at *
  exact qW (by omega) (by omega) (by omega) (by omega)
 unfold jij Win.val
 dsimp only
 generalize i % gw=X at *
 generalize i / gw=Y at *
 have e0:max ((X:Int) - n) 0=((X - n:Nat):Int):=by omega
 have e1:max ((Y:Int) - n) 0=((Y - n:Nat):Int):=by omega
 have e2:min ((X:Int)+n) ((gw:Int) - 1)=((min (X+n) (gw - 1):Nat):Int):=by omega
 have e3:min ((Y:Int)+n) ((gh:Int) - 1)=((min (Y+n) (gh - 1):Nat):Int):=by omega
 have S:=St.start W
 refine zn Tryz.func148 Tryz.results148 Tryz.ntmps148 ?_
 refine zs ?_
 refine jF (jO rfl) S ?_
 intro b_c w2_ g2_ S
 refine jF (jL qX rfl) S ?_
 intro b_res w4_ g4_ S
 iterate 9 refine z ?_
 refine jE (jN (pl:=[(0,1),(1,1),(2,1),(3,1)]) q27 qX (fun w=>by kernel_rfl) rfl rfl) ?_
 refine z ?_; refine z ?_
 refine jC rfl (zI _ _ _ _ _ _ (by omega) (by omega) w4_) ?_
 rintro _ w5_ ⟨rfl,g5_⟩
 have S:=S.gr g5_
 rw [hwi]
 refine z ?_; refine z ?_; refine zf ?_; refine z ?_; refine zf ?_; refine z ?_; refine z ?_; refine zf ?_; (iterate 4 refine z ?_); refine zr ?_; refine z ?_
 rw [e0]
 (iterate 3 refine z ?_); refine zr ?_; refine z ?_
 rw [e1]
 (iterate 3 refine z ?_); refine zr ?_; refine z ?_; refine zr ?_; refine z ?_
 rw [e2]
 (iterate 3 refine z ?_); refine zr ?_; refine z ?_; refine zr ?_; refine z ?_
 rw [e3]
 refine jE (jN (pl:=[(0,1),(1,1),(2,1),(3,1)]) q27 qX (fun w=>by kernel_rfl) rfl rfl) ?_
 refine jH (i:=0) S rfl (y6 _) rfl rfl rfl rfl rfl rfl ?_
 intro w6_ S
 refine z ?_
 refine zq ?_
 exact wQ q27 rfl (y6 _) rfl (S.blk (i:=0) rfl) rfl rfl rfl ⟨rfl,S.out⟩
end
section
variable {W : World} {A : Option Addr} {p gw gh cap fid : Nat} {cc : Nat → Int} {bs : Nat → Nat} {Rs : Nat → Option Nat} {caps : List Value} {q : Nat → Int}
end
end
section
open Go.RowKit
structure WayAt (w:World) (xb yb gw gh:Nat) (v:Int) (l:List (Int × Int)):Prop where
 blk:∃ lA lc,Blk w xb 160 [pt yb,ii gw,ii gh,.slice lA l.length lc]/\Rd w lA (qB l)
 pyr:PyrAt w yb gw gh (qS gw gh v)
 hin:∀ c ∈ l,inG gw gh c=true
 hw:1<=gw/\gw<=1024
 hh:1<=gh/\gh<=1024
 len:l.length<=1024
section
variable {W w' : World} {xb yb gw gh : Nat} {v : Int} {l : List (Int × Int)}
theorem WayAt.gr (h:WayAt W xb yb gw gh v l) (g:Gr W w'):WayAt w' xb yb gw gh v l:=by
 obtain ⟨⟨lA,lc,h1,h2⟩,h3,h4,h5,h6,h7⟩:=h
 exact ⟨⟨lA,lc,h1.gr g,h2.gr g⟩,h3.gr g,h4,h5,h6,h7⟩
theorem WayAt.cell (h:WayAt W xb yb gw gh v l) {i:Nat} (hi:i < l.length):∃ x y:Nat,l[i]?=some ((x:Int),(y:Int))/\x < gw/\y < gh:=by
 have hc:=uM.1 (h.hin _ (List.getElem_mem hi))
 obtain ⟨x,hx⟩:=Int.eq_ofNat_of_zero_le hc.1
 obtain ⟨y,hy⟩:=Int.eq_ofNat_of_zero_le hc.2.2.1
 refine ⟨x,y,?_,by omega,by omega⟩
 rw [List.getElem?_eq_getElem hi]
 congr 1
 exact Prod.ext hx hy
theorem nO (k x y:Nat) (hw:1<=gw/\gw<=1024) (hh:1<=gh/\gh<=1024) (hk:k < nLv gw gh) (hx:x < hfN gw k) (hy:y < hfN gh k) (hP:PyrAt W yb gw gh (qS gw gh v)) :
  Fn Tryz.prog 142 [pt yb,ii k,.agg #[ii x,ii y]] W (yK (.tuple #[.agg #[ii v,ii v],ii 0]) W):=by
 have h:=jg2 (v:=v) hw.1 hh.1 hx hy
 have:=jkf k x y hw hh hk hx hy hP
 unfold RG.cells at this
 rw [h.1,h.2] at this
 exact this
theorem jdZ (n:Int) (h:0<=n/\n<=1048576):Fn Tryz.prog 79 [ii n] W (yK (.bool true) W):=by
 have S:=St.start W
 refine zn Tryz.func79 Tryz.results79 Tryz.ntmps79 ?_
 refine z ?_; refine z ?_; refine zt ?_; refine z ?_; refine z ?_; refine zt ?_; refine z ?_; refine z ?_
 refine zq ?_
 exact yD rfl ⟨rfl,S.out⟩
theorem jdY (i:Nat) (hi:i < l.length) (h:WayAt W xb yb gw gh v l):Fn Tryz.prog (80) [pt xb,ii i] W (yK (ii v) W):=by
 obtain ⟨x,y,hc,hx,hy⟩:=h.cell hi
 have hlen:=h.len
 have hlv:=xR h.hw.2 h.hh.2
 have hpy:=fun w (g:Gr W w)=>nO (v:=v) 0 x y h.hw h.hh (by omega) (by rw [qG h.hw.1]; exact hx) (by rw [qG h.hh.1]; exact hy) (h.pyr.gr g)
 obtain ⟨lA,lc,hX,hL⟩:=h.blk
 have sa_lA:yH lA:=hL.someA (by rw [fI]; omega)
 have hget:((qB l).drop ((i:Int).toNat * 2)).take 2=[ii x,ii y]:=by rw [Int.toNat_natCast]; exact xZ hc
 have S:=St.start W
 refine zn Tryz.func80 Tryz.results80 Tryz.ntmps80 ?_
 refine z ?_
 refine zc ?_
 refine qQ (C:=(CA No W [] 124 [ii 0,ii 0] [ii v,ii v])) [15,16] [0,1,2,3,4,5,6,7,8,9,10,11,12,13,14,15,16] [17] (by kernel_rfl) (by kernel_rfl) (CA.start (S.gr (Gr.drew _))) ?_
 simp only [yT,j6,List.drop_succ_cons,List.drop_zero]
 refine jX rfl (jA rfl) ?_
 refine jX rfl (jA rfl) ?_
 refine jX rfl (jD cG rfl Tryz.sizeOf82 rfl rfl) ?_
 refine qF rfl (fun τ wq hq=>jB Tryz.underlying82 rfl rfl (hX.gr hq.st.out) rfl) ?_
 refine jX rfl (jA rfl) ?_
 refine jX rfl (jA rfl) ?_
 refine jX rfl (jD cG rfl sM rfl rfl) ?_
 refine qF rfl (fun τ wq hq=>jB q37 rfl rfl (hX.gr hq.st.out) rfl) ?_
 refine jX rfl (jA rfl) ?_
 refine jX rfl (kV q37 qI rfl rfl sa_lA (by omega) (by omega)) ?_
 refine qF rfl (fun τ wq hq=>yY q23 rfl (qI _) rfl (hL.gr hq.st.out) hget rfl rfl) ?_
 refine vV rfl rfl (fun τ wq hq=>(hpy wq hq.st.out).mono (fun _ _ ⟨hv,hg⟩=>⟨hv,hq.gr hg⟩)) ?_
 refine jX rfl (jA rfl) ?_
 refine jX rfl (jA rfl) ?_
 refine jX rfl (jA rfl) ?_
 refine jZ rfl rfl (fun wq hq=>x7 hq wR rfl) ?_
 rintro v14 w14 ⟨b_r,rfl,_⟩
 refine jZ rfl rfl (fun wq hq=>x6 hq (vI _) rfl rfl rfl rfl rfl) ?_
 rintro v15 w15 _
 refine yV ?_
 rintro wz hz
 obtain ⟨b_r2,e_r2,S⟩:=hz.fin
 cases e_r2
 iterate 4 refine z ?_
 refine zq ?_
 exact yD rfl ⟨rfl,S.out⟩
theorem jgn (k i:Nat) (hk:k < nLv gw gh) (hi:i < l.length) (h:WayAt W xb yb gw gh v l):Fn Tryz.prog (146) [pt xb,ii k,ii i] W (yK (ii v) W):=by
 obtain ⟨x,y,hc,hx,hy⟩:=h.cell hi
 have hlen:=h.len
 have hlv:=xR h.hw.2 h.hh.2
 have hab:=fun w=>jbH (W:=w) k x y h.hw h.hh hk hx hy
 have hpy:=fun w (g:Gr W w)=>nO (v:=v) k (x / 2 ^ k) (y / 2 ^ k) h.hw h.hh hk (mQ k hx) (mQ k hy) (h.pyr.gr g)
 generalize x / 2 ^ k=X at *
 generalize y / 2 ^ k=Y at *
 obtain ⟨lA,lc,hX,hL⟩:=h.blk
 have sa_lA:yH lA:=hL.someA (by rw [fI]; omega)
 have hget:((qB l).drop ((i:Int).toNat * 2)).take 2=[ii x,ii y]:=by rw [Int.toNat_natCast]; exact xZ hc
 have S:=St.start W
 refine zn Tryz.func146 Tryz.results146 Tryz.ntmps146 ?_
 refine z ?_
 refine zc ?_
 refine qQ (C:=(CA No W [] 23 [ii 0,ii 0] [ii X,ii Y])) [20,21] [0,1,2,3,4,5,6,7,8,9,10,11,12,13,14,15,16,17,18,19,20,21] [22] (by kernel_rfl) (by kernel_rfl) (CA.start (S.gr (Gr.drew _))) ?_
 simp only [yT,j6,List.drop_succ_cons,List.drop_zero]
 refine jX rfl (jA rfl) ?_
 refine jX rfl (jA rfl) ?_
 refine jX rfl (jD cG rfl qz2 rfl rfl) ?_
 refine qF rfl (fun τ wq hq=>jB q2 rfl rfl (hX.gr hq.st.out) rfl) ?_
 refine jX rfl (jA rfl) ?_
 refine jX rfl (jA rfl) ?_
 refine jX rfl (jD cG rfl qz2 rfl rfl) ?_
 refine qF rfl (fun τ wq hq=>jB q2 rfl rfl (hX.gr hq.st.out) rfl) ?_
 refine jX rfl (jA rfl) ?_
 refine jX rfl (jA rfl) ?_
 refine jX rfl (jA rfl) ?_
 refine jX rfl (jD cG rfl sM rfl rfl) ?_
 refine qF rfl (fun τ wq hq=>jB q37 rfl rfl (hX.gr hq.st.out) rfl) ?_
 refine jX rfl (jA rfl) ?_
 refine jX rfl (kV q37 qI rfl rfl sa_lA (by omega) (by omega)) ?_
 refine qF rfl (fun τ wq hq=>yY q23 rfl (qI _) rfl (hL.gr hq.st.out) hget rfl rfl) ?_
 refine vV rfl rfl (fun τ wq hq=>(hab wq).mono (fun _ _ ⟨hv,hg⟩=>⟨hv,hq.gr hg⟩)) ?_
 refine jX rfl (jA rfl) ?_
 refine jX rfl (jA rfl) ?_
 refine jX rfl (jA rfl) ?_
 refine jZ rfl rfl (fun wq hq=>x7 hq kL rfl) ?_
 rintro v14 w14 ⟨b_c,rfl,_⟩
 refine jZ rfl rfl (fun wq hq=>x6 hq (qI _) rfl rfl rfl rfl rfl) ?_
 rintro v15 w15 _
 refine yV ?_
 rintro wz hz
 obtain ⟨b_c2,e_c2,S⟩:=hz.fin
 cases e_c2
 refine z ?_
 refine zc ?_
 refine qQ (C:=(CA No W [.blk b_c 23 [ii X,ii Y]] 124 [ii 0,ii 0] [ii v,ii v])) [10,11] [0,1,2,3,4,5,6,7,8,9,10,11] [12] (by kernel_rfl) (by kernel_rfl) (CA.start (S.gr (Gr.drew _))) ?_
 simp only [yT,j6,List.drop_succ_cons,List.drop_zero]
 refine jX rfl (jA rfl) ?_
 refine jX rfl (jA rfl) ?_
 refine jX rfl (jD cG rfl Tryz.sizeOf82 rfl rfl) ?_
 refine qF rfl (fun τ wq hq=>jB Tryz.underlying82 rfl rfl (hX.gr hq.st.out) rfl) ?_
 refine jX rfl (jA rfl) ?_
 refine qF rfl (fun τ wq hq=>jT q23 rfl (qI _) rfl (hq.st.blk (i:=0) rfl) rfl rfl) ?_
 refine vV rfl rfl (fun τ wq hq=>(hpy wq hq.st.out).mono (fun _ _ ⟨hv,hg⟩=>⟨hv,hq.gr hg⟩)) ?_
 refine jX rfl (jA rfl) ?_
 refine jX rfl (jA rfl) ?_
 refine jX rfl (jA rfl) ?_
 refine jZ rfl rfl (fun wq hq=>x7 hq wR rfl) ?_
 rintro v16 w16 ⟨b_r,rfl,_⟩
 refine jZ rfl rfl (fun wq hq=>x6 hq (vI _) rfl rfl rfl rfl rfl) ?_
 rintro v17 w17 _
 refine yV ?_
 rintro wz2 hz2
 obtain ⟨b_r2,e_r2,S⟩:=hz2.fin
 cases e_r2
 iterate 4 refine z ?_
 refine zq ?_
 exact yD rfl ⟨rfl,S.out⟩
end
end
end Go.Proofs.YtipnifjmhlcehaaGreatDoor
