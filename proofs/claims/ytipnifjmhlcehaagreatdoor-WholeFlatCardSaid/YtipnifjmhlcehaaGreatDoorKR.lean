/- hachuretop.WholeFlat: a part of the proof that the law returns true at every input (TileB, Tiles, Any, WholeA, Crc, File, FileB, WholeC); no condition of its own. -/
import Derived.Test.YtipnifjmhlcehaaGreatDoorKQ
import Derived.Test.YtipnifjmhlcehaaGreatDoorKC
import Derived.Test.YtipnifjmhlcehaaGreatDoorKD
import Derived.Test.YtipnifjmhlcehaaGreatDoorKN
import Derived.Test.YtipnifjmhlcehaaGreatDoorKH
import Derived.Test.YtipnifjmhlcehaaGreatDoorKO
import Derived.Test.YtipnifjmhlcehaaGreatDoorKK
import Derived.Test.YtipnifjmhlcehaaGreatDoorKJ
import Derived.Test.YtipnifjmhlcehaaGreatDoorKM
import Derived.Test.YtipnifjmhlcehaaGreatDoorKL
set_option linter.unusedVariables false
set_option linter.unusedSimpArgs false
set_option maxRecDepth 100000
set_option maxHeartbeats 16000000
namespace Go.Proofs.YtipnifjmhlcehaaGreatDoor
section
open Go.RowKit
def bst (f:Nat->Nat):Nat->Nat
 | 0=>0
 | k+1=>if k=0\/f k < f (bst f k) then k else bst f k
theorem jfY (V:List Int) (w:Nat):b8 V w=bst (fun k=>tN 0 (kT k V w)) 3:=by
 unfold b8
 simp only [bst]
 simp
section
variable {W : World} {A : Option Addr} {c w h : Nat} {V : List Int}
theorem vM.rests {kind:Nat} (hw:1<=w) (hV:vM V):vR (kT kind V w):=fun x hx=>by
 have:=jc2 (kind:=kind) hw hV x hx
 omega
theorem jgk {kind:Nat} (hw:1<=w) (hV:vM V) (hn:V.length<=256):tN 0 (kT kind V w)<=3840:=by
 have hle:=jbI (B:=5) (kT kind V w) 0 (fun x hx=>by have:=gQ (vM.rests hw hV x hx); exact zT 4 _ (by omega)) (by omega) (by rw [z1]; omega)
 rw [if_pos rfl,z1] at hle
 omega
theorem lR (hw:1<=w/\w<=16) (hh:1<=h/\h<=16):Fn Tryz.prog 163 [ii w,ii h] W (yK (.bool true) W):=by
 have S:=St.start W
 refine zn Tryz.func163 Tryz.results163 Tryz.ntmps163 ?_
 refine z ?_; refine z ?_; refine zt ?_; refine z ?_; refine z ?_; refine zt ?_; (iterate 3 refine z ?_); refine zt ?_; (iterate 3 refine z ?_); refine zt ?_; refine z ?_; refine z ?_
 refine zq ?_
 exact yD rfl ⟨rfl,S.out⟩
theorem lT (hw:1<=w/\w<=16) (hh:1<=h/\h<=16) (hl:V.length=w * h) (hV:vM V) (hA:Rd W A (yC V)):Fn Tryz.prog 231 [.slice A V.length c,ii w,ii h] W (yK (ii 0) W):=by
 have hm:w * h<=16 * 16:=Nat.mul_le_mul hw.2 hh.2
 have e1:(w:Int) * h=((V.length:Nat):Int):=by rw [hl]; push_cast; rfl
 have hr:=fun W hA=>sP (W:=W) (A:=A) (c:=c) (w:=w) (V:=V) 0 (by omega) hw.1 (by rw [hl,Nat.mul_mod_right]) (by omega) hV hA
 have S:=St.start W
 refine zn Tryz.func231 Tryz.results231 Tryz.ntmps231 ?_
 iterate 5 refine z ?_
 refine jE (yI rfl (by rw [e1]; omega)) ?_
 rw [e1]
 refine zf ?_; refine z ?_; refine z ?_
 refine jC rfl (hr _ (hA.gr S.out)) ?_
 rintro _ w1_ ⟨A_r,c_r,rfl,hR_r,hf_r,g1_⟩
 have S:=S.pushRow hR_r hf_r g1_
 iterate 7 refine z ?_
 refine zq ?_
 exact yD rfl ⟨rfl,S.out⟩
theorem jgj (hw:1<=w/\w<=16) (hh:1<=h/\h<=16) (hl:V.length=w * h) (hV:vM V) (hA:Rd W A (yC V)):Fn Tryz.prog 184 [.slice A V.length c,ii w,ii h] W (yK (.tuple #[ii (b8 V w),ii 0]) W):=by
 have hm:w * h<=16 * 16:=Nat.mul_le_mul hw.2 hh.2
 have hr:=fun W k hk hA=>sP (W:=W) (A:=A) (c:=c) (w:=w) (V:=V) k hk hw.1 (by rw [hl,Nat.mul_mod_right]) (by omega) hV hA
 have hlen:=fun W A c k hA=>jeT (W:=W) (A:=A) (c:=c) (V:=kT k V w) (by rw [z1]; omega) (vM.rests hw.1 hV) hA
 have hf:∀ k,tN 0 (kT k V w)<=3840:=fun k=>jgk hw.1 hV (by omega)
 rw [jfY]
 generalize hff:(fun k=>tN 0 (kT k V w))=f at *
 have hfk:∀ k,tN 0 (kT k V w)=f k:=fun k=>by rw [<-hff]
 have S:=St.start W
 refine zn Tryz.func184 Tryz.results184 Tryz.ntmps184 ?_
 iterate 4 refine z ?_
 refine jC rfl (lR hw hh) ?_
 rintro _ w1_ ⟨rfl,g1_⟩
 have S:=S.gr g1_
 iterate 4 refine z ?_
 refine jC rfl (lT (W:=w1_) (c:=c) hw hh hl hV (hA.gr S.out)) ?_
 rintro _ w2_ ⟨rfl,g2_⟩
 have S:=S.gr g2_
 refine z ?_; refine z ?_; refine zf ?_; iterate 3 refine z ?_
 refine zc ?_
 refine jS ?_
 refine zc ?_
 refine j9 (fun m e w'=>∃ k:Nat,k+m=3/\SL e [(0,.slice A V.length c),(1,ii w),(9,ii (bst f k)),(10,ii ((if k=0 then 0 else f (bst f k):Nat):Int)),(26,ii k)]/\St No W w' []) 3
  ⟨0,rfl,⟨rfl,rfl,rfl,rfl,rfl,trivial⟩,S⟩ ?_
 clear S
 rintro m e w2 ⟨k,hk,hsl,S⟩
 rw [hsl.fold]
 by_cases hlt:k < 3
 ·have hfk':=hfk k
  have hf':=hf k
  have hf2:=hf (bst f k)
  have hlk:=fun W A c hA=>hlen W A c k hA
  rw [z1,hfk'] at hlk
  rw [hfk'] at hf'
  rw [hfk] at hf2
  by_cases h0:k=0
  ·subst h0
   refine zt ?_; iterate 5 refine z ?_
   refine jC rfl (hr _ 0 (by omega) (hA.gr S.out)) ?_
   rintro _ w3_ ⟨A_r,c_r,rfl,hR_r,hf_r,g3_⟩
   have S:=S.pushRow hR_r hf_r g3_
   iterate 6 refine z ?_
   refine jC rfl (hlk _ _ _ (S.rd (i:=0) rfl)) ?_
   rintro _ w4_ ⟨rfl,g4_⟩
   have S:=S.gr g4_
   refine z ?_; refine z ?_; refine zt ?_; iterate 3 refine z ?_
   refine zw2 ⟨?_⟩
   (iterate 5 refine z ?_); refine zr ?_; refine z ?_
   refine ze ?_
   exact ⟨2,by omega,1,rfl,⟨rfl,rfl,rfl,rfl,rfl,trivial⟩,S.drop 1⟩
  ·by_cases h1:f k < f (bst f k)
   ·have hb:bst f (k+1)=k:=if_pos (.inr h1)
    rw [if_neg h0]
    refine zt ?_; iterate 5 refine z ?_
    refine jC rfl (hr _ k (by omega) (hA.gr S.out)) ?_
    rintro _ w5_ ⟨A_r,c_r,rfl,hR_r,hf_r,g5_⟩
    have S:=S.pushRow hR_r hf_r g5_
    iterate 6 refine z ?_
    refine jC rfl (hlk _ _ _ (S.rd (i:=0) rfl)) ?_
    rintro _ w6_ ⟨rfl,g6_⟩
    have S:=S.gr g6_
    refine z ?_; refine z ?_; refine zf ?_; (iterate 3 refine z ?_); refine zt ?_; (iterate 5 refine z ?_); refine zr ?_; refine z ?_
    refine ze ?_
    exact ⟨m - 1,by omega,k+1,by omega,⟨rfl,rfl,ie (by rw [hb]),ie (by rw [if_neg (by omega),hb]),rfl,trivial⟩,S.drop 1⟩
   ·have hb:bst f (k+1)=bst f k:=if_neg (by rintro (h | h); exact h0 h; exact h1 h)
    rw [if_neg h0]
    refine zt ?_; iterate 5 refine z ?_
    refine jC rfl (hr _ k (by omega) (hA.gr S.out)) ?_
    rintro _ w7_ ⟨A_r,c_r,rfl,hR_r,hf_r,g7_⟩
    have S:=S.pushRow hR_r hf_r g7_
    iterate 6 refine z ?_
    refine jC rfl (hlk _ _ _ (S.rd (i:=0) rfl)) ?_
    rintro _ w8_ ⟨rfl,g8_⟩
    have S:=S.gr g8_
    refine z ?_; refine z ?_; refine zf ?_; (iterate 3 refine z ?_); refine zf ?_; refine z ?_; refine zr ?_; refine z ?_
    refine ze ?_
    exact ⟨m - 1,by omega,k+1,by omega,⟨rfl,rfl,ie (by rw [hb]),ie (by rw [if_neg (by omega),hb]),rfl,trivial⟩,S.drop 1⟩
 ·obtain rfl:k=3:=by omega
  refine zf ?_
  refine zc ?_
  refine jM rfl ?_
  refine zc ?_
  refine jY ?_
  repeat first | refine jP ?_ | refine jU ?_
  show CW _ _ _ _ _ _
  iterate 3 refine z ?_
  refine zq ?_
  exact kY rfl rfl ⟨rfl,S.out⟩
theorem jir (kind:Nat) (hk:kind<=2) (hw:1<=w/\w<=16) (hh:1<=h/\h<=16) (hl:V.length=w * h) (hV:vM V) (hA:Rd W A (yC V)) :
  Fn Tryz.prog 188 [ii kind,.slice A V.length c,ii w,ii h] W (jbx (fun s=>.tuple #[s,ii 0]) (1+tN 0 (kT kind V w)) W):=by
 have hm:w * h<=16 * 16:=Nat.mul_le_mul hw.2 hh.2
 have hr:=fun W hA=>sP (W:=W) (A:=A) (c:=c) (w:=w) (V:=V) kind hk hw.1 (by rw [hl,Nat.mul_mod_right]) (by omega) hV hA
 have hp:=fun W A c B hA hB=>jeS (W:=W) (A:=A) (c:=c) (V:=kT kind V w) (B:=B) (cB:=1) (l:=[(kind:Int)]) (by rw [z1]; omega) (vM.rests hw.1 hV) hA (by simp) hB
 rw [z1] at hp
 have hc:IntKind.u8.wrap (kind:Int)=kind:=by rw [IntKind.wrap_u8]; omega
 have S:=St.start W
 refine zn Tryz.func188 Tryz.results188 Tryz.ntmps188 ?_
 iterate 4 refine z ?_
 refine jC rfl (lR hw hh) ?_
 rintro _ w1_ ⟨rfl,g1_⟩
 have S:=S.gr g1_
 iterate 3 refine z ?_
 refine jC rfl (sO kind 1 0 hk (by omega) (by omega)) ?_
 rintro _ w2_ ⟨rfl,g2_⟩
 have S:=S.gr g2_
 iterate 5 refine z ?_
 refine jC rfl (lT (W:=w2_) (c:=c) hw hh hl hV (hA.gr S.out)) ?_
 rintro _ w3_ ⟨rfl,g3_⟩
 have S:=S.gr g3_
 refine z ?_; refine z ?_; refine zf ?_; iterate 3 refine z ?_
 refine jC rfl (hr _ (hA.gr S.out)) ?_
 rintro _ w4_ ⟨A_r,c_r,rfl,hR_r,hf_r,g4_⟩
 have S:=S.pushRow hR_r hf_r g4_
 iterate 6 refine z ?_
 refine jE (yR (ks:=.i64) (n:=kind) (kd:=.u8) (m:=kind) q3 q5 rfl hc) ?_
 refine yF q31 qz5 qv5 rfl rfl rfl rfl rfl rfl S ?_
 intro A_k w6_ g6_ S sa_k
 refine z ?_
 refine jC rfl (hp _ _ _ _ (S.rd (i:=1) rfl) (S.rd (i:=0) rfl)) ?_
 rintro _ w7_ ⟨l2,hl2,A2,c2,rfl,hR2,hf2,g7_⟩
 have S:=S.pushRow hR2 hf2 g7_
 refine z ?_; refine z ?_
 refine zq ?_
 exact kY rfl rfl ⟨l2,hl2,S.retNew (i:=0) (mk:=fun s=>.tuple #[s,ii 0]) rfl⟩
end
end
section
open Go.RowKit
theorem l5 (x0 y0 x1 y1:Nat) (hx:x0<=x1/\x1 < 1024) (hy:y0<=y1/\y1 < 1024) (W:World):Fn Tryz.prog 59 [.agg #[ii x0,ii y0,ii x1,ii y1]] W (yK (.bool true) W):=by
 have S:=St.start W
 refine zn Tryz.func59 Tryz.results59 Tryz.ntmps59 ?_
 refine zs ?_
 refine jF (jO rfl) S ?_
 intro b_a w2_ g2_ S
 iterate 3 refine z ?_
 refine zw1 ⟨?_⟩
 iterate 5 refine z ?_
 refine zw2 ⟨?_⟩
 iterate 4 refine z ?_
 refine zw2 ⟨?_⟩
 iterate 4 refine z ?_
 refine zw2 ⟨?_⟩
 iterate 6 refine z ?_
 refine zw2 ⟨?_⟩
 iterate 4 refine z ?_
 refine zw2 ⟨?_⟩
 refine z ?_; refine z ?_
 refine zq ?_
 exact yD rfl ⟨rfl,S.out⟩
theorem jho (b0 b1 b2 b3 w1 h1:Nat) (hw:w1 < 1024) (hh:h1 < 1024) (hx:b0<=b2/\b2 < 1024) (hy:b1<=b3/\b3 < 1024) (W:World) :
  Fn Tryz.prog 21 [.agg #[ii 0,ii 0,ii w1,ii h1],.agg #[ii b0,ii b1,ii b2,ii b3]] W
  (fun v w'=>∃ p q r s:Int,v=.tuple #[.agg #[ii p,ii q,ii r,ii s],.bool (decide (b0<=w1/\b1<=h1))]/\Gr W w'):=by
 have hr0:=fun w=>l5 0 0 w1 h1 (by omega) (by omega) w
 have hr1:=fun w=>l5 b0 b1 b2 b3 (by omega) (by omega) w
 have S:=St.start W
 refine zn Tryz.func21 Tryz.results21 Tryz.ntmps21 ?_
 refine zs ?_
 refine jF (jO rfl) S ?_
 intro b_ra w2_ g2_ S
 refine jF (jO rfl) S ?_
 intro b_rb w4_ g4_ S
 refine jF (jL qX rfl) S ?_
 intro b_res w6_ g6_ S
 refine z ?_; refine z ?_
 refine jC rfl (hr0 w6_) ?_
 rintro _ w7_ ⟨rfl,g7_⟩
 have S:=S.gr g7_
 iterate 3 refine z ?_
 refine jQ rfl ?_
 refine jC rfl (hr1 w7_) ?_
 rintro _ w8_ ⟨rfl,g8_⟩
 have S:=S.gr g8_
 iterate 7 refine z ?_
 refine zc ?_
 refine qL (M:=fun e w=>SL e [(2,pt b_ra),(3,pt b_rb),(4,pt b_res),(5,.bool false)]/\St No W w [.blk b_res 27 [ii 0,ii 0,ii 0,ii 0],.blk b_rb 27 [ii b0,ii b1,ii b2,ii b3],.blk b_ra 27 [ii b0,ii 0,ii w1,ii h1]]) ?_ ?_
 ·skip
  refine zk ?_ ?_
  ·intro c0
   iterate 3 refine z ?_
   refine j8 (i:=2) S rfl (qz2 _) rfl rfl rfl rfl rfl rfl ?_
   intro w9_ S
   refine ze ?_
   exact ⟨⟨rfl,rfl,rfl,rfl,trivial⟩,S⟩
  ·intro c0
   have e0:(b0:Int)=0:=by omega
   refine zc ?_
   refine j5 ?_
   try show CW _ _ _ _ _ _
   rw [e0] at S ⊢
   exact ⟨⟨rfl,rfl,rfl,rfl,trivial⟩,S⟩
 ·rintro e0 w0_ ⟨hsl,S⟩
  rw [hsl.fold]
  iterate 5 refine z ?_
  refine zc ?_
  refine qL (M:=fun e w=>SL e [(2,pt b_ra),(3,pt b_rb),(4,pt b_res),(5,.bool false)]/\St No W w [.blk b_res 27 [ii 0,ii 0,ii 0,ii 0],.blk b_rb 27 [ii b0,ii b1,ii b2,ii b3],.blk b_ra 27 [ii b0,ii b1,ii w1,ii h1]]) ?_ ?_
  ·skip
   refine zk ?_ ?_
   ·intro c1
    iterate 3 refine z ?_
    refine j8 (i:=2) S rfl (qz2 _) rfl rfl rfl rfl rfl rfl ?_
    intro w10_ S
    refine ze ?_
    exact ⟨⟨rfl,rfl,rfl,rfl,trivial⟩,S⟩
   ·intro c1
    have e0:(b1:Int)=0:=by omega
    refine zc ?_
    refine j5 ?_
    try show CW _ _ _ _ _ _
    rw [e0] at S ⊢
    exact ⟨⟨rfl,rfl,rfl,rfl,trivial⟩,S⟩
  ·rintro e1 w1_ ⟨hsl,S⟩
   rw [hsl.fold]
   iterate 5 refine z ?_
   refine zc ?_
   refine qL (M:=fun e w=>SL e [(2,pt b_ra),(3,pt b_rb),(4,pt b_res),(5,.bool false)]/\St No W w [.blk b_res 27 [ii 0,ii 0,ii 0,ii 0],.blk b_rb 27 [ii b0,ii b1,ii b2,ii b3],.blk b_ra 27 [ii b0,ii b1,ii (min w1 b2:Nat),ii h1]]) ?_ ?_
   ·skip
    refine zk ?_ ?_
    ·intro c2
     have e0:min w1 b2=b2:=by omega
     iterate 3 refine z ?_
     refine j8 (i:=2) S rfl (qz2 _) rfl rfl rfl rfl rfl rfl ?_
     intro w11_ S
     refine ze ?_
     rw [e0]
     exact ⟨⟨rfl,rfl,rfl,rfl,trivial⟩,S⟩
    ·intro c2
     have e0:min w1 b2=w1:=by omega
     refine zc ?_
     refine j5 ?_
     try show CW _ _ _ _ _ _
     rw [e0]
     exact ⟨⟨rfl,rfl,rfl,rfl,trivial⟩,S⟩
   ·rintro e2 w2_ ⟨hsl,S⟩
    rw [hsl.fold]
    iterate 5 refine z ?_
    refine zc ?_
    refine qL (M:=fun e w=>SL e [(2,pt b_ra),(3,pt b_rb),(4,pt b_res),(5,.bool false)]/\St No W w [.blk b_res 27 [ii 0,ii 0,ii 0,ii 0],.blk b_rb 27 [ii b0,ii b1,ii b2,ii b3],.blk b_ra 27 [ii b0,ii b1,ii (min w1 b2:Nat),ii (min h1 b3:Nat)]]) ?_ ?_
    ·skip
     refine zk ?_ ?_
     ·intro c3
      have e0:min h1 b3=b3:=by omega
      iterate 3 refine z ?_
      refine j8 (i:=2) S rfl (qz2 _) rfl rfl rfl rfl rfl rfl ?_
      intro w12_ S
      refine ze ?_
      rw [e0]
      exact ⟨⟨rfl,rfl,rfl,rfl,trivial⟩,S⟩
     ·intro c3
      have e0:min h1 b3=h1:=by omega
      refine zc ?_
      refine j5 ?_
      try show CW _ _ _ _ _ _
      rw [e0]
      exact ⟨⟨rfl,rfl,rfl,rfl,trivial⟩,S⟩
    ·rintro e3 w3_ ⟨hsl,S⟩
     rw [hsl.fold]
     by_cases h0:b0<=w1
     ·by_cases h1':b1<=h1
      ·rw [decide_eq_true ⟨h0,h1'⟩]
       (iterate 4 refine z ?_); refine zf ?_; (iterate 5 refine z ?_); refine zf ?_; refine z ?_; refine z ?_
       refine jH (i:=0) S rfl (y6 _) rfl rfl rfl rfl rfl rfl ?_
       intro w13_ S
       refine z ?_
       refine zq ?_
       exact wQ q27 rfl (y6 _) rfl (S.blk (i:=0) rfl) rfl rfl rfl ⟨_,_,_,_,rfl,S.out⟩
      ·rw [decide_eq_false (fun h=>h1' h.2)]
       (iterate 4 refine z ?_); refine zf ?_; (iterate 5 refine z ?_); refine zt ?_; refine z ?_
       refine zs ?_
       refine jE (jN (pl:=[(0,1),(1,1),(2,1),(3,1)]) q27 qX (fun w=>by kernel_rfl) rfl rfl) ?_
       refine jH (i:=0) S rfl (y6 _) rfl rfl rfl rfl rfl rfl ?_
       intro w14_ S
       refine z ?_
       refine zq ?_
       exact wQ q27 rfl (y6 _) rfl (S.blk (i:=0) rfl) rfl rfl rfl ⟨_,_,_,_,rfl,S.out⟩
     ·rw [decide_eq_false (fun h=>h0 h.1)]
      (iterate 4 refine z ?_); refine zt ?_; iterate 5 refine z ?_
      refine zw2 ⟨?_⟩
      refine z ?_
      refine zs ?_
      refine jE (jN (pl:=[(0,1),(1,1),(2,1),(3,1)]) q27 qX (fun w=>by kernel_rfl) rfl rfl) ?_
      refine jH (i:=0) S rfl (y6 _) rfl rfl rfl rfl rfl rfl ?_
      intro w15_ S
      refine z ?_
      refine zq ?_
      exact wQ q27 rfl (y6 _) rfl (S.blk (i:=0) rfl) rfl rfl rfl ⟨_,_,_,_,rfl,S.out⟩
theorem jdg (w1 h1 aw ah:Nat) (hw:w1 < 1024) (hh:h1 < 1024) (ea:aw=w1 / 16+1) (eh:ah=h1 / 16+1) (W:World) :
  Fn Tryz.prog 13 [.agg #[ii 0,ii 0,ii w1,ii h1]] W (fun v w'=>∃ A c,v=.slice A (ah * aw) c/\Gr W w'):=by
 have hN:ah * aw<=64 * 64:=Nat.mul_le_mul (by omega) (by omega)
 have S:=St.start W
 refine zn Tryz.func13 Tryz.results13 Tryz.ntmps13 ?_
 refine zs ?_
 refine jF (jO rfl) S ?_
 intro b_r w2_ g2_ S
 refine z ?_
 refine zs ?_
 refine x9 Tryz.underlying66 y6 S ?_
 intro A_o w4_ g4_ S sa_o
 refine z ?_; refine z ?_
 refine zc ?_
 refine jS ?_
 refine zc ?_
 refine j9 (fun m e w=>∃ (y n:Nat) (A_o:Option Addr) (c_o:Nat) (xs:List Value),y+m=64/\n=min y ah * aw/\SL e [(1,pt b_r),(3,.slice A_o n c_o),(4,ii y)]/\St No W w [.row 27 4 A_o n c_o xs,.blk b_r 27 [ii 0,ii 0,ii w1,ii h1]]) 64
  ⟨0,0,_,_,_,rfl,by simp,⟨rfl,rfl,rfl,trivial⟩,S⟩ ?_
 clear S sa_o
 rintro m e w ⟨y,n,A_o,c_o,xs,hy,hn,hsl,S⟩
 rw [hsl.fold]
 by_cases hlt:y < 64
 ·have hq:min y ah * aw<=ah * aw:=Nat.mul_le_mul_right aw (Nat.min_le_right y ah)
  have hq2:min (y+1) ah * aw=min y ah * aw+(if y < ah then aw else 0):=by
   by_cases h:y < ah
   ·rw [if_pos h,show min (y+1) ah=min y ah+1 by omega,Nat.succ_mul]
   ·rw [if_neg h,show min (y+1) ah=min y ah by omega]; rfl
  generalize hqe:min y ah * aw=q at *
  refine z ?_; refine zt ?_; refine z ?_
  refine zc ?_
  refine jS ?_
  refine zc ?_
  refine j9 (fun m2 e w=>∃ (x n:Nat) (A_o:Option Addr) (c_o:Nat) (xs:List Value),x+m2=64/\n=q+(if y < ah then min x aw else 0)/\SL e [(1,pt b_r),(3,.slice A_o n c_o),(4,ii y),(5,ii x)]/\St No W w [.row 27 4 A_o n c_o xs,.blk b_r 27 [ii 0,ii 0,ii w1,ii h1]]) 64
   ⟨0,n,_,_,_,rfl,by rw [hn]; simp,⟨rfl,rfl,rfl,rfl,trivial⟩,S⟩ ?_
  clear S
  rintro m2 e w ⟨x,n,A_o,c_o,xs,hx,hn,hsl,S⟩
  rw [hsl.fold]
  by_cases hxl:x < 64
  ·have hmt:=fun w=>jho (16 * x) (16 * y) (16 * x+15) (16 * y+15) w1 h1 hw hh ⟨by omega,by omega⟩ ⟨by omega,by omega⟩ w
   have ed:decide (16 * x<=w1/\16 * y<=h1)=decide (x < aw/\y < ah):=decide_eq_decide.2 (by omega)
   rw [ed] at hmt
   push_cast at hmt
   have hn2:n<=5000:=by split at hn <;> omega
   by_cases hin:x < aw/\y < ah
   ·rw [decide_eq_true hin] at hmt
    refine z ?_; refine zt ?_; refine z ?_; refine z ?_; refine zr ?_; refine z ?_; refine zr ?_; refine z ?_; (iterate 2 refine zr ?_); refine z ?_; iterate 2 refine zr ?_
    refine jE (jN (pl:=[(0,1),(1,1),(2,1),(3,1)]) q27 qX (fun w=>by kernel_rfl) rfl rfl) ?_
    refine jC rfl (hmt w) ?_
    rintro _ w5_ ⟨p1,p2,p3,p4,rfl,g5_⟩
    have S:=S.gr g5_
    iterate 3 refine z ?_
    refine jF (jL qX rfl) S ?_
    intro b_p w7_ g7_ S
    refine jH (i:=0) S rfl (y6 _) rfl rfl rfl rfl rfl rfl ?_
    intro w8_ S
    iterate 4 refine z ?_
    refine yF Tryz.underlying66 y6 qX rfl rfl rfl rfl rfl rfl S ?_
    intro A_lit w10_ g10_ S sa_lit
    refine qA (i:=2) S rfl (fun h=>rfl) Tryz.underlying66 jhA rfl rfl rfl rfl (by simp) (by omega) (S.rd (i:=0) rfl) rfl (by omega) ?_
    intro A_o11 c_o11 w11_ S sa_o
    refine z ?_; refine z ?_; refine zr ?_; refine z ?_
    refine ze ?_
    exact ⟨m2 - 1,by omega,x+1,_,_,_,_,by omega,by rw [if_pos hin.2] at hn ⊢; omega,⟨rfl,rfl,rfl,ie (by omega),trivial⟩,S.sub (.cons _ (.cons _ (List.Sublist.refl _)))⟩
   ·rw [decide_eq_false hin] at hmt
    refine z ?_; refine zt ?_; refine z ?_; refine z ?_; refine zr ?_; refine z ?_; refine zr ?_; refine z ?_; (iterate 2 refine zr ?_); refine z ?_; iterate 2 refine zr ?_
    refine jE (jN (pl:=[(0,1),(1,1),(2,1),(3,1)]) q27 qX (fun w=>by kernel_rfl) rfl rfl) ?_
    refine jC rfl (hmt w) ?_
    rintro _ w12_ ⟨p1,p2,p3,p4,rfl,g12_⟩
    have S:=S.gr g12_
    iterate 3 refine z ?_
    refine jF (jL qX rfl) S ?_
    intro b_p w14_ g14_ S
    refine jH (i:=0) S rfl (y6 _) rfl rfl rfl rfl rfl rfl ?_
    intro w15_ S
    (iterate 3 refine z ?_); refine zr ?_; refine z ?_
    refine ze ?_
    exact ⟨m2 - 1,by omega,x+1,n,_,_,_,by omega,by by_cases h:y < ah <;> simp only [h,if_true,if_false] at hn ⊢ <;> omega,⟨rfl,rfl,rfl,ie (by omega),trivial⟩,S.drop 1⟩
  ·obtain rfl:x=64:=by omega
   refine z ?_; refine zf ?_
   refine zc ?_
   refine jM rfl ?_
   refine zc ?_
   refine jY ?_
   repeat first | refine jP ?_ | refine jU ?_
   show CW _ _ _ _ _ _
   refine z ?_; refine zr ?_; refine z ?_
   refine ze ?_
   exact ⟨m - 1,by omega,y+1,n,_,_,_,by omega,by rw [hn,hq2]; by_cases h:y < ah <;> simp only [h,if_true,if_false] <;> omega,⟨rfl,rfl,ie (by omega),trivial⟩,S⟩
 ·obtain rfl:y=64:=by omega
  refine z ?_; refine zf ?_
  refine zc ?_
  refine jM rfl ?_
  refine zc ?_
  refine jY ?_
  repeat first | refine jP ?_ | refine jU ?_
  show CW _ _ _ _ _ _
  refine z ?_; refine z ?_
  refine zq ?_
  exact yD rfl ⟨_,_,by rw [hn,show min 64 ah=ah by omega],S.out⟩
theorem jeG (w h:Nat) (hw:1<=w/\w<=1024) (hh:1<=h/\h<=1024) (W:World):Fn Tryz.prog 8 [ii w,ii h] W (yK (.tuple #[ii (acr h * acr w:Nat),ii 0]) W):=by
 have e1:(w:Int) - 1=((w - 1:Nat):Int):=by omega
 have e2:(h:Int) - 1=((h - 1:Nat):Int):=by omega
 have hp:=fun W=>jdg (w - 1) (h - 1) (acr w) (acr h) (by omega) (by omega) (by unfold acr; omega) (by unfold acr; omega) W
 rw [<-e1,<-e2] at hp
 have S:=St.start W
 refine zn Tryz.func8 Tryz.results8 Tryz.ntmps8 ?_
 (iterate 3 refine z ?_); refine zf ?_; refine z ?_; refine z ?_; refine zf ?_; (iterate 3 refine z ?_); refine zf ?_; (iterate 3 refine z ?_); refine zf ?_; refine z ?_; refine z ?_; refine zr ?_; refine z ?_; refine zr ?_
 refine jE (jN (pl:=[(0,1),(1,1),(2,1),(3,1)]) q27 qX (fun w=>by kernel_rfl) rfl rfl) ?_
 refine jC rfl (hp W) ?_
 rintro _ w1_ ⟨A1,c1,rfl,g1_⟩
 have S:=S.gr g1_
 iterate 3 refine z ?_
 refine zq ?_
 exact kY rfl rfl ⟨rfl,S.out⟩
end
namespace TI
open Go.RowKit
section
variable {P : Program} {ops : Array Oper} {C : List (Nat × Value) → World → Prop} {sp : Nat → Bool}
def jh7 (ops:Array Oper) (tl S:List Nat) (pre:Nat->List Nat):Nat->Array Bool->List Nat->Bool
 | 0,listed,_=>kE ops tl listed
 | f+1,listed,done=>!(Region.ready .any ops listed).isEmpty && (Region.ready .any ops listed).all fun j=>S.contains j && !done.contains j && (pre j).all (fun i=>done.contains i) && jh7 ops tl S pre f (listed.setIfInBounds j true) (j::done)
structure jln (qs:List (Nat × Oper)) (e:Nat->Value) (σ:List (Nat × Value)) (e':Nat->Value):Prop where
 old:∀ k,(∀ p ∈ qs,p.2.dst ≠ some k)->e' k=e k
 new:∀ p ∈ qs,∀ k,p.2.dst=some k->∀ v,σ.lookup p.1=some v->e' k=v
def AnyS (P:Program) (ops:Array Oper) (C:List (Nat × Value)->World->Prop) (pre:Nat->List Nat) (e:Nat->Value):List (Nat × Oper)->Prop
 | []=>True
 | p::r=>(wE ops e p.2=true/\∀ σ w,C σ w->σ.lookup p.1=none->(∀ i ∈ pre p.1,(σ.lookup i).isSome=true)->qM P e p.2 w fun v w'=>C ((p.1,v)::σ) w')/\AnyS P ops C pre e r
theorem AnyS.mem {pre:Nat->List Nat} {e:Nat->Value}:∀ {qs:List (Nat × Oper)},AnyS P ops C pre e qs->∀ p ∈ qs,wE ops e p.2=true/\∀ σ w,C σ w->σ.lookup p.1=none->(∀ i ∈ pre p.1,(σ.lookup i).isSome=true)->qM P e p.2 w fun v w'=>C ((p.1,v)::σ) w'
 | [],_,p,hp=>by cases hp
 | q::r,h,p,hp=>(List.mem_cons.1 hp).elim (fun e=>e ▸ h.1) (fun e=>h.2.mem p e)
theorem mC {σ:List (Nat × Value)} {i:Nat} (h:i ∉ σ.map Prod.fst):σ.lookup i=none:=by
 induction σ with
 | nil=>rfl
 | cons p r ih =>
  obtain ⟨j,v⟩:=p
  simp only [List.map_cons,List.mem_cons,not_or] at h
  rw [List.lookup_cons,show (i == j)=false by simpa using h.1]
  exact ih h.2
theorem dC {σ:List (Nat × Value)} {i:Nat} (h:i ∈ σ.map Prod.fst):(σ.lookup i).isSome=true:=by
 induction σ with
 | nil=>cases h
 | cons p r ih =>
  obtain ⟨j,v⟩:=p
  rw [List.lookup_cons]
  by_cases e:i=j
  ·subst e; simp
  ·rw [show (i == j)=false by simpa using e]
   exact ih ((List.mem_cons.1 h).resolve_left e)
theorem jav {hd tl:List Nat} {Lq:List (Nat × Value)->Act->Prop} {N:Nat} {df:List Deferred} {qs:List (Nat × Oper)} {pre:Nat->List Nat} {e:Nat->Value} {a0:Act} (hr0:Rep N df e a0)
  (hqs:∀ p ∈ qs,ops[p.1]?=some p.2/\sp p.1=true/\p.1 ∈ hd/\vE N p.2.dst=true) (hsel:Region.noSelect ops=true)
  (hap:∀ p ∈ qs,∀ q ∈ qs,p.1 ≠ q.1->p.2.apart ops q.2=true) (hstep:AnyS P ops C pre e qs)
  (hfin:∀ σ e' a,(∀ p ∈ qs,(σ.lookup p.1).isSome=true)->jln qs e σ e'->Rep N df e' a->Lq σ a) (hall:∀ σ:List (Nat × Value),(∀ i ∈ σ.map Prod.fst,i ∈ qs.map Prod.fst)->(σ.map Prod.fst).Nodup->σ.length=qs.length->∀ p ∈ qs,p.1 ∈ σ.map Prod.fst) :
  ∀ (f:Nat) (listed:Array Bool) (σ:List (Nat × Value)) (e':Nat->Value) (a:Act),σ.length+f=qs.length->(∀ i ∈ σ.map Prod.fst,i ∈ qs.map Prod.fst)->(σ.map Prod.fst).Nodup->jln qs e σ e'->Rep N df e' a ->
   (∀ p ∈ qs,p.1 ∉ σ.map Prod.fst->execOp a.eval p.2=execOp a0.eval p.2/\Region.wanted p.2 (yielded ops a.tmps)=Region.wanted p.2 (yielded ops a0.tmps))->jh7 ops tl (qs.map Prod.fst) pre f listed (σ.map Prod.fst)=true ->
   vJ P ops C sp hd (fun listed' σ' a'=>kE ops tl listed'=true/\Lq σ' a') f listed σ a
 | 0,listed,σ,e',a,hl,hsub,hnd,hE,hr,_,hB=>⟨by simpa [jh7] using hB,hfin σ e' a (fun p hp=>dC (hall σ hsub hnd (by omega) p hp)) hE hr⟩
 | f+1,listed,σ,e',a,hl,hsub,hnd,hE,hr,hsame,hB=>by
  simp only [jh7,Bool.and_eq_true,Bool.not_eq_true',List.isEmpty_eq_false_iff,List.all_eq_true] at hB
  refine ⟨hB.1,fun j hj=>?_⟩
  obtain ⟨⟨⟨hS,hdn⟩,hpre⟩,hB2⟩:=by have:=hB.2 j hj; simpa only [Bool.and_eq_true,Bool.not_eq_true',List.all_eq_true] using this
  have hS:j ∈ qs.map Prod.fst:=by simpa using hS
  have hdn:j ∉ σ.map Prod.fst:=by simpa using hdn
  obtain ⟨p,hp,rfl⟩:=List.mem_map.1 hS
  obtain ⟨h0,hs,hin,hd⟩:=hqs p hp
  refine ⟨hin,?_⟩
  obtain ⟨hex,hwn⟩:=hsame p hp hdn
  obtain ⟨hw,hst⟩:=hstep.mem p hp
  unfold sOp
  rw [h0]
  dsimp only
  rw [hwn,hr0.wanted,if_pos hw,hs]
  refine ⟨fun w hC=>?_,fun v w' hC=>?_⟩
  ·have:=hst σ w hC (mC hdn) (fun i hi=>dC (by have:=hpre i hi; simpa using this))
   unfold yZ
   rw [hex,hr0.eval]
   exact this
  ·refine jav hr0 hqs hsel hap hstep hfin hall f _ ((p.1,v)::σ) (yU e' p.2.dst v) _ (by simp only [List.length_cons]; omega) (fun i hi=>(List.mem_cons.1 hi).elim (fun h=>h ▸ hS) (hsub i)) (List.nodup_cons.2 ⟨hdn,hnd⟩) ?_ (hr.put hd v) ?_ hB2
   ·have hne:∀ k,p.2.dst ≠ some k->yU e' p.2.dst v k=e' k:=fun k hk=>by
     cases hd':p.2.dst with
     | none=>rfl
     | some d =>
      show upd e' d v k=e' k
      rw [cN,if_neg (fun h=>hk (by rw [hd',h]))]
    refine ⟨fun k hk=>(hne k (hk p hp)).trans (hE.old k hk),fun q hq k hk u hu=>?_⟩
    by_cases hqp:q.1=p.1
    ·rw [List.lookup_cons,show (q.1 == p.1)=true by simpa using hqp] at hu
     have hqo:q.2=p.2:=by
      have h1:=(hqs q hq).1
      rw [hqp,h0] at h1
      exact (Option.some.inj h1).symm
     cases hu
     rw [hqo] at hk
     show yU e' p.2.dst v k=v
     rw [hk]
     show upd e' k v k=v
     rw [cN,if_pos rfl]
    ·rw [List.lookup_cons,show (q.1 == p.1)=false by simpa using hqp] at hu
     obtain ⟨_,h2,_⟩:=Oper.apart_spec (hap p hp q hq (Ne.symm hqp))
     rw [hne k (fun h=>h2 k h hk)]
     exact hE.new q hq k hk u hu
   ·intro q hq hnq
    simp only [List.map_cons,List.mem_cons,not_or] at hnq
    obtain ⟨h1,_,_⟩:=Oper.apart_spec (hap p hp q hq (Ne.symm hnq.1))
    have hsl:=fun cs b=>Region.noSelect_spec hsel q.1 q.2 cs b (hqs q hq).1
    obtain ⟨g1,g2⟩:=hsame q hq hnq.2
    exact ⟨(execOp_put q.2 hsl a p.2.dst v h1).trans g1,(wanted_put q.2 a p.2.dst v h1).trans g2⟩
def xB (ops:Array Oper) (B:Array Bool->Bool):List Nat->Array Bool->Bool
 | [],listed=>B listed
 | i::r,listed=>(Region.ready .any ops listed).contains i && Region.free .any ops listed i && xB ops B r (listed.setIfInBounds i true)
theorem bU {hd tl:List Nat} {Lq:List (Nat × Value)->Act->Prop} {N n:Nat} {df:List Deferred} {B:Array Bool->Bool} {Qs:List (Nat × Value)->(Nat->Value)->Prop} (hsel:Region.noSelect ops=true)
  (hcov:∀ i,i < ops.size->i ∈ hd\/i ∈ tl) (hanc:∀ t ∈ tl,∀ i ∈ hd,i ∈ uH ops ops.size t) (hdis:∀ t ∈ tl,t ∉ hd)
  (hleaf:∀ listed e a,Rep N df e a->Qs [] e->B listed=true->vJ P ops C sp hd (fun listed' σ' a'=>kE ops tl listed'=true/\Lq σ' a') n listed [] a) :
  ∀ (ps:List (Nat × Oper)) (listed:Array Bool) (e:Nat->Value) (a:Act),(∀ p ∈ ps,ops[p.1]?=some p.2/\sp p.1=false/\p.1 ∈ hd/\vE N p.2.dst=true)->ClosedL ops listed->Rep N df e a->RS P ops C sp Qs ps [] e->xB ops B (ps.map Prod.fst) listed=true ->
   vJ P ops C sp hd (fun listed' σ' a'=>kE ops tl listed'=true/\Lq σ' a') (ps.length+n) listed [] a
 | [],listed,e,a,_,_,hr,h,hB=>by
  rw [List.length_nil,Nat.zero_add]
  exact hleaf listed e a hr h hB
 | (i,o)::r,listed,e,a,hps,hcl,hr,h,hB=>by
  obtain ⟨h0,hs,hin,hd⟩:=hps (i,o) (by simp)
  simp only [List.map_cons,xB,Bool.and_eq_true] at hB
  have hri:i ∈ Region.ready .any ops listed:=by simpa using hB.1.1
  rw [show ((i,o)::r).length+n=(r.length+n)+1 by simp only [List.length_cons]; omega]
  have h1:R1P P ops C sp i o (fun σ e=>σ=[]/\RS P ops C sp Qs r [] e) [] e:=by
   unfold R1P
   have hs:sp i=false:=hs
   unfold RS at h
   rw [hs] at h ⊢
   split
   ·rename_i hw
    rw [if_pos hw] at h
    obtain ⟨v,g1,g2⟩:=h
    exact ⟨v,g1,rfl,g2⟩
   ·rename_i hw
    rw [if_neg hw] at h
    exact ⟨rfl,h⟩
  refine wT hsel hcov hanc hdis h0 hs hin hcl hri hB.1.2 (kQ (K':=fun σ a=>σ=[]/\∃ e,Rep N df e a/\RS P ops C sp Qs r [] e) hd hr (fun σ e a hr ⟨h1,h2⟩=>⟨h1,e,hr,h2⟩) h1) ?_
  rintro σ a' ⟨rfl,e',hr',h'⟩
  exact bU hsel hcov hanc hdis hleaf r _ e' a' (fun p hp=>hps p (List.mem_cons_of_mem _ hp)) (hcl.set hri) hr' h' hB.2
def jcO (V:Nat->Value):List (Nat × Oper)->(Nat->Value)->Nat->Value
 | [],e=>e
 | p::r,e=>jcO V r (yU e p.2.dst (V p.1))
theorem mZ {V:Nat->Value}:∀ {qs:List (Nat × Oper)} {e:Nat->Value} {k:Nat},(∀ p ∈ qs,p.2.dst ≠ some k)->jcO V qs e k=e k
 | [],_,_,_=>rfl
 | p::r,e,k,h=>by
  show jcO V r _ k=e k
  rw [mZ (fun q hq=>h q (List.mem_cons_of_mem _ hq))]
  have h1:=h p (by simp)
  cases hd:p.2.dst with
  | none=>rfl
  | some d=>show upd e d _ k=e k; rw [cN,if_neg (fun e=>h1 (by rw [hd,e]))]
theorem jcN {V:Nat->Value}:∀ {qs:List (Nat × Oper)} {e:Nat->Value} {k:Nat} (p:Nat × Oper),p ∈ qs->p.2.dst=some k->qs.Pairwise (fun p q=>∀ d,p.2.dst=some d->q.2.dst ≠ some d)->jcO V qs e k=V p.1
 | [],_,_,p,hp,_,_=>by cases hp
 | q::r,e,k,p,hp,hk,hpw=>by
  obtain ⟨h1,h2⟩:=List.pairwise_cons.1 hpw
  rcases List.mem_cons.1 hp with rfl | hp'
  ·show jcO V r _ k=_
   rw [mZ (fun q hq=>h1 q hq k hk),hk]
   show upd e k _ k=_
   rw [cN,if_pos rfl]
  ·show jcO V r _ k=_
   exact jcN p hp' hk h2
theorem n4:∀ (l1 l2:List Nat),l1.Nodup->(∀ x ∈ l1,x ∈ l2)->l2.length<=l1.length->∀ x ∈ l2,x ∈ l1
 | [],l2,_,_,hl,x,hx=>by
  rw [List.eq_nil_of_length_eq_zero (Nat.le_zero.1 hl)] at hx
  cases hx
 | a::r,l2,hn,hs,hl,x,hx=>by
  by_cases e:x=a
  ·simp [e]
  ·obtain ⟨h1,h2⟩:=List.nodup_cons.1 hn
   have ha:=hs a (by simp)
   refine List.mem_cons_of_mem _ (n4 r (l2.erase a) h2 (fun y hy=>(List.mem_erase_of_ne (fun (h:y=a)=>h1 (h ▸ hy))).2 (hs y (List.mem_cons_of_mem _ hy))) ?_ x ((List.mem_erase_of_ne e).2 hx))
   rw [List.length_erase_of_mem ha]
   simp only [List.length_cons] at hl
   omega
theorem jag {l:List Oper} {is:List Nat} (h:(is.all fun i=>decide (i < l.length))=true) {p:Nat × Oper} (hp:p ∈ yT l is):p.1 ∈ is/\l.toArray[p.1]?=some p.2:=by
 have h1:=z8 l is h
 have h2:(p.1,some p.2) ∈ (yT l is).map fun p=>(p.1,some p.2):=List.mem_map.2 ⟨p,hp,rfl⟩
 rw [<-h1] at h2
 obtain ⟨i,hi,e⟩:=List.mem_map.1 h2
 obtain ⟨rfl,h4⟩:=Prod.mk.inj e
 exact ⟨hi,h4⟩
theorem nR {l:List Oper} {is:List Nat} (h:(is.all fun i=>decide (i < l.length))=true):(yT l is).map Prod.fst=is:=by
 have h1:=congrArg (List.map Prod.fst) (z8 l is h)
 simpa [Function.comp_def] using h1.symm
def jjU (ops:Array Oper) (sp:List Nat) (hd0 tl:List Nat) (pre:Nat->List Nat):Bool :=
 Region.noSelect ops && decide (hd0.length+sp.length+tl.length=ops.size) && ((List.range ops.size).all fun i=>hd0.contains i || sp.contains i || tl.contains i) && (hd0.all fun i=>!sp.contains i) &&
 (tl.all fun x=>(hd0 ++ sp).all fun i=>(uH ops ops.size x).contains i) && (tl.all fun x=>!(hd0 ++ sp).contains x) && decide sp.Nodup && xB ops (fun l=>jh7 ops tl sp pre sp.length l []) hd0 (Array.replicate ops.size false)
def jd7:List (Nat × Oper)->Bool
 | []=>true
 | p::r=>(r.all fun q=>match p.2.dst with | some d=>q.2.dst != some d | none=>true) && jd7 r
theorem nV:∀ {qs:List (Nat × Oper)},jd7 qs=true->qs.Pairwise (fun p q=>∀ d,p.2.dst=some d->q.2.dst ≠ some d)
 | [],_=>.nil
 | p::r,h=>by
  simp only [jd7,Bool.and_eq_true,List.all_eq_true] at h
  refine .cons (fun q hq d hd=>?_) (nV h.2)
  have:=h.1 q hq
  rw [hd] at this
  simpa using this
theorem jlI {N:Nat} {Q:Exit->(Nat->Value)->World->Prop} {e:Nat->Value} {w:World} {id:Nat} {l:List Oper} (sl hd0 tl:List Nat) (pre:Nat->List Nat) (hm:P.follows .mixedOrders=true)
  (hB:(jjU l.toArray sl hd0 tl pre && ((sl ++ hd0 ++ tl).all fun i=>decide (i < l.length)) && ((yT l sl).all fun p=>(yT l sl).all fun q=>p.1 == q.1 || p.2.apart l.toArray q.2) && jd7 (yT l sl))=true) (hC:C [] w.drew)
  (h:RS P l.toArray C (fun i=>sl.contains i) (fun _ e'=>AnyS P l.toArray C pre e' (yT l sl)/\∀ σ V,(∀ p ∈ yT l sl,σ.lookup p.1=some (V p.1))->∀ w',C σ w'->RW P l.toArray (fun e w=>Q .normal e w) (j6 l tl) (jcO V (yT l sl) e') w') (yT l hd0) [] e) :
  CW P N (.region id l.toArray true) Q e w:=fun hk df a hr ro=>by
 simp only [Bool.and_eq_true] at hB
 obtain ⟨⟨⟨hO,hlt⟩,hap⟩,hpr⟩:=hB
 simp only [jjU,Bool.and_eq_true,decide_eq_true_eq] at hO
 obtain ⟨⟨⟨⟨⟨⟨⟨hsel,hlen⟩,hcov⟩,hds⟩,hanc⟩,hdis⟩,hnd⟩,hhd⟩:=hO
 simp only [q8,Bool.and_eq_true] at hk
 have hlt':∀ i ∈ sl ++ hd0 ++ tl,i < l.length:=fun i hi=>by have:=List.all_eq_true.1 hlt i hi; simpa using this
 have hls:(sl.all fun i=>decide (i < l.length))=true:=List.all_eq_true.2 fun i hi=>decide_eq_true (hlt' i (by simp [hi]))
 have hlh:(hd0.all fun i=>decide (i < l.length))=true:=List.all_eq_true.2 fun i hi=>decide_eq_true (hlt' i (by simp [hi]))
 have hlT:(tl.all fun i=>decide (i < l.length))=true:=List.all_eq_true.2 fun i hi=>decide_eq_true (hlt' i (by simp [hi]))
 have hdst:∀ (i:Nat) (o:Oper),l.toArray[i]?=some o->vE N o.dst=true:=fun i o h3=>List.all_eq_true.1 hk.1 o (List.mem_of_getElem? (by simpa using h3))
 have hsub:((j6 l tl).all fun o=>vE N o.dst)=true:=by
  have h1:=qJ l tl hlT
  refine List.all_eq_true.2 fun o ho=>?_
  have h2:some o ∈ (j6 l tl).map some:=List.mem_map.2 ⟨o,ho,rfl⟩
  rw [<-h1] at h2
  obtain ⟨i,_,hi⟩:=List.mem_map.1 h2
  exact hdst i o hi
 have hsubd:((j6 l tl).all fun o=>!kX o.op)=true:=by
  have h1:=qJ l tl hlT
  refine List.all_eq_true.2 fun o ho=>?_
  have h2:some o ∈ (j6 l tl).map some:=List.mem_map.2 ⟨o,ho,rfl⟩
  rw [<-h1] at h2
  obtain ⟨i,_,hi⟩:=List.mem_map.1 h2
  have h3:l[i]?=some o:=by simpa using hi
  exact List.all_eq_true.1 hk.2 o (List.mem_of_getElem? h3)
 have hkS:=nR hls
 have hkH:=nR hlh
 have hcov':∀ i,i < l.toArray.size->i ∈ hd0 ++ sl\/i ∈ tl:=fun i hi=>by
  have:=List.all_eq_true.1 hcov i (List.mem_range.2 hi)
  simp only [Bool.or_eq_true,List.contains_iff_mem] at this
  simp only [List.mem_append]
  exact this
 have hanc':∀ t ∈ tl,∀ i ∈ hd0 ++ sl,i ∈ uH l.toArray l.toArray.size t:=fun t ht i hi=>by
  have:=List.all_eq_true.1 (List.all_eq_true.1 hanc t ht) i hi
  simpa using this
 have hdis':∀ t ∈ tl,t ∉ hd0 ++ sl:=fun t ht=>by have:=List.all_eq_true.1 hdis t ht; simpa using this
 have hpw:=nV hpr
 have hlS:(yT l sl).length=sl.length:=by have:=congrArg List.length hkS; simpa using this
 have hlH:(yT l hd0).length=hd0.length:=by have:=congrArg List.length hkH; simpa using this
 have H:=bU (P:=P) (C:=C) (sp:=fun i=>sl.contains i) (Lq:=fun σ a'=>∀ w',C σ w'->wpListIn (wF ro) 0 P l.toArray (fun x a w=>∃ e,Rep N df e a/\Q x e w) (j6 l tl) a' w') (N:=N) (n:=sl.length) (df:=df) (hd:=hd0 ++ sl) (tl:=tl) hsel hcov' hanc' hdis'
  (fun listed e1 a1 hr1 hq hBl=>jav (qs:=yT l sl) (pre:=pre) (e:=e1) (a0:=a1) hr1
   (fun p hp=>by obtain ⟨h1,h2⟩:=jag hls hp; exact ⟨h2,by simpa using h1,by simp [h1],hdst _ _ h2⟩) hsel
   (fun p hp q hq hne=>by
    have:=List.all_eq_true.1 (List.all_eq_true.1 hap p hp) q hq
    simp only [Bool.or_eq_true,beq_iff_eq] at this
    exact this.resolve_left hne) hq.1
   (fun σ e' a' hsome hE hr' w' hC'=>by
    have hV:∀ p ∈ yT l sl,σ.lookup p.1=some ((fun i=>(σ.lookup i).getD undef) p.1):=fun p hp=>by
     obtain ⟨v,hv⟩:=Option.isSome_iff_exists.1 (hsome p hp)
     simp [hv]
    have hrw:=hq.2 σ (fun i=>(σ.lookup i).getD undef) hV w' hC'
    have hre:Rep N df (jcO (fun i=>(σ.lookup i).getD undef) (yT l sl) e1) a':=⟨hr'.defers,hr'.size,fun k=>(hr'.get k).trans (by
     by_cases hx:∃ p ∈ yT l sl,p.2.dst=some k
     ·obtain ⟨p,hp,hk'⟩:=hx
      rw [hE.new p hp k hk' _ (hV p hp),jcN p hp hk' hpw]
     ·have hx':∀ p ∈ yT l sl,p.2.dst ≠ some k:=fun p hp h=>hx ⟨p,hp,h⟩
      rw [hE.old k hx',mZ hx'])⟩
    exact k4 (fun e a w hr h=>⟨e,hr,h⟩) _ _ a' w' hsub hsubd hre hrw)
   (fun σ h1 h2 h3 p hp=>n4 _ ((yT l sl).map Prod.fst) h2 h1 (by rw [List.length_map,List.length_map,h3]; exact Nat.le_refl _) p.1 (List.mem_map.2 ⟨p,hp,rfl⟩))
   sl.length listed [] e1 a1 (by rw [hlS]; simp) (fun i hi=>by cases hi) List.nodup_nil ⟨fun _ _=>rfl,fun p _ k _ v hv=>by cases hv⟩ hr1 (fun _ _ _=>⟨rfl,rfl⟩) (by rw [hkS]; exact hBl))
  (yT l hd0) (Array.replicate l.toArray.size false) e a (fun p hp=>by
   obtain ⟨h1,h2⟩:=jag hlh hp
   have h3:=List.all_eq_true.1 hds p.1 h1
   exact ⟨h2,by simpa using h3,by simp [h1],hdst _ _ h2⟩)
  (fun i hi=>by
   have h0:∀ m j:Nat,(Array.replicate m false).getD j false=false:=fun m j=>by
    rcases Nat.lt_or_ge j m with h' | h'
    ·simp [h']
    ·simp [h']
   rw [h0] at hi
   cases hi) hr h (by rw [hkH]; exact hhd)
 refine wpIn_region_any hm ?_
 have:=kP (Q':=fun x a w=>∃ e,Rep N df e a/\Q x e w) (ro:=ro) (by simpa using hk.2) (g:=tl.length) (fun listed σ a' w' hw' hL=>k3 tl _ listed a' w' (qJ l tl hlT) hL.1 (hL.2 w' hw')) _ _ _ _ _ hC H
 rw [hlH,hlen] at this
 exact this
end
end TI
section
open Go.RowKit
section
variable {gw gh : Nat} {v : Int}
theorem jcD {y:Nat} (hy:y < gh):∀ x,x<=gw->wJ (qS gw gh v) (y * gw) x=v * (x:Nat)
 | 0,_=>by simp [wJ]
 | x+1,h=>by
  show wJ _ _ x+_=_
  rw [jcD hy x (by omega),kI (wH (by omega) hy)]
  push_cast
  rw [Int.mul_add,Int.mul_one]
theorem gR {x:Nat} (hx:x<=gw):∀ y,y<=gh->vH (qS gw gh v) gw y x=v * ((y * x:Nat):Int)
 | 0,_=>by simp [vH]
 | y+1,h=>by
  show wJ _ _ x+vH _ _ y x=_
  rw [jcD (by omega) x hx,gR hx y (by omega),Nat.succ_mul,<-Int.mul_add]
  congr 1
  push_cast
  omega
theorem jfG (hw:1<=gw) (hh:1<=gh):fO (qS gw gh v) gw 0 0 (gw - 1) (gh - 1)=v * gw * gh:=by
 unfold fO
 rw [show gw - 1+1=gw by omega,show gh - 1+1=gh by omega,gR (Nat.le_refl _) gh (Nat.le_refl _),gR (Nat.zero_le _) gh (Nat.le_refl _),gR (Nat.le_refl _) 0 (Nat.zero_le _),gR (Nat.zero_le _) 0 (Nat.zero_le _)]
 push_cast
 rw [Int.mul_comm (gh:Int) gw,<-Int.mul_assoc]
 simp
theorem jbo (hw:1<=gw) (hh:1<=gh) (c:Nat->Int) {i:Nat} (hi:i < gw * gh):yW gw (List.replicate ((gh - 1+1 - 0) * (gw - 1+1 - 0)) v) 0 0 (gw - 1) (gh - 1) c i=v:=by
 have h1:=Nat.mod_lt i (show gw > 0 by omega)
 have h2:i / gw < gh:=Nat.div_lt_of_lt_mul hi
 have h3:=Nat.div_add_mod i gw
 have h4:(i / gw) * gw+i % gw < gh * gw:=by rw [Nat.mul_comm gh,Nat.mul_comm (i / gw),h3]; exact hi
 unfold yW
 rw [if_pos ⟨⟨Nat.zero_le _,Nat.le_sub_one_of_lt h1⟩,Nat.zero_le _,Nat.le_sub_one_of_lt h2⟩,show gw - 1+1 - 0=gw by omega,show gh - 1+1 - 0=gh by omega,Nat.sub_zero,Nat.sub_zero,List.getD_eq_getElem?_getD,List.getElem?_replicate,if_pos h4]
 rfl
theorem jfH (hw:1<=gw) (hh:1<=gh) (c:Nat->Int):yA gw gh (yW gw (List.replicate ((gh - 1+1 - 0) * (gw - 1+1 - 0)) v) 0 0 (gw - 1) (gh - 1) c)=qS gw gh v:=mT fun i hi=>jbo hw hh c hi
end
def jdo:List OpS->List Value
 | []=>[]
 | o::r=>o.cs ++ jdo r
theorem jd8:∀ {ops:List OpS} {k:Nat} {o:OpS},ops[k]?=some o->((jdo ops).drop (k * 14)).take 14=o.cs
 | [],k,o,h=>by simp at h
 | a::r,0,o,h=>by
  simp only [List.getElem?_cons_zero,Option.some.injEq] at h
  subst h
  rfl
 | a::r,k+1,o,h=>by
  rw [Nat.succ_mul]
  have h1:(jdo (a::r)).drop (k * 14+14)=(jdo r).drop (k * 14):=by
   show (a.cs ++ jdo r).drop (k * 14+14)=_
   rw [Nat.add_comm,<-List.drop_drop]
   rfl
  rw [h1]
  exact jd8 (by simpa using h)
section
variable {W w : World} {T M : List HA}
theorem jiK {n c_ls:Nat} {A_ls:Option Addr} {ops:List OpS} {SP:Nat->Nat->List HA->Prop} (sa_ls:yH A_ls) (hn:ops.length=n) (hmx:n<=100)
  (h0:∀ sb pp,SP sb 0 [.blk sb 60 [.pointer none,.pointer none,.pointer none,ii 0,pt pp],.blk pp 76 [.slice none 0 0,ii 0]])
  (hstep:∀ sb k o M w T,ops[k]?=some o->SP sb k M->St No W w (M ++ T)->Fn Tryz.prog 7 [pt sb,o.v] w (fun v w'=>∃ M',SP sb (k+1) M'/\St No W w' (M' ++ T)))
  (S:St No W w (.row 34 14 A_ls n c_ls (jdo ops)::T)) :
  Fn Tryz.prog 6 [.slice A_ls n c_ls] w (fun v w'=>∃ sb M,v=pt sb/\SP sb n M/\St No W w' (M ++ T)):=by
 refine zn Tryz.func6 Tryz.results6 Tryz.ntmps6 ?_
 refine z ?_
 refine zs ?_
 refine jC rfl (jaJ) ?_
 rintro _ w1_ ⟨sb,pp,rfl,S2⟩
 have S:=S.app S2
 refine z ?_; refine z ?_
 refine zc ?_
 refine jS ?_
 refine zc ?_
 have S:=St.mid (A:=[_,_]) (B:=[_]) (C:=T) S
 refine j9 (fun m e w'=>∃ (k:Nat) (M:List HA),k+m=n/\SP sb k M/\SL e [(0,.slice A_ls n c_ls),(3,pt sb),(4,ii k)]/\St No W w' (.row 34 14 A_ls n c_ls (jdo ops)::(M ++ T))) n
  ⟨0,_,by omega,h0 sb pp,⟨rfl,rfl,rfl,trivial⟩,S⟩ ?_
 clear S
 rintro m e w2 ⟨k,M,hk,hP,hsl,S⟩
 rw [hsl.fold]
 by_cases hlt:k < n
 ·obtain ⟨o,ho⟩:∃ o,ops[k]?=some o:=⟨_,List.getElem?_eq_getElem (by omega)⟩
  have hls:=jd8 ho
  (iterate 3 refine z ?_); refine zt ?_; (iterate 3 refine z ?_); refine zx ?_
  refine j3 (yY q34 rfl (rS _) rfl (S.rd (i:=0) rfl) hls rfl rfl) ?_
  refine jC rfl (hstep sb k o M _ _ ho hP (St.mid (A:=[_]) (B:=M) (C:=T) S)) ?_
  rintro _ w2_ ⟨M',hP2,S⟩
  have S:=St.mid (A:=M') (B:=[_]) (C:=T) S
  refine z ?_; refine zr ?_; refine z ?_
  refine ze ?_
  exact ⟨m - 1,by omega,k+1,M',by omega,hP2,⟨rfl,rfl,ie (by omega),trivial⟩,S⟩
 ·obtain rfl:k=n:=by omega
  (iterate 3 refine z ?_); refine zf ?_
  refine zc ?_
  refine jM rfl ?_
  refine zc ?_
  refine jY ?_
  repeat first | refine jP ?_ | refine jU ?_
  show CW _ _ _ _ _ _
  refine z ?_; refine z ?_
  refine zq ?_
  exact yD rfl ⟨sb,M,rfl,hP,S.drop 1⟩
def SPw (gw gh:Nat) (v:Int) (sb:Nat):Nat->List HA->Prop
 | 0,M=>∃ pp,M=[.blk sb 60 [.pointer none,.pointer none,.pointer none,.int .i64 0,.pointer (some ⟨pp,0,none⟩)],.blk pp 76 [.slice none 0 0,.int .i64 0]]
 | 1,M=>∃ (s:StS) (Q:List HA),(s.ok/\s.sb=sb/\s.gw=gw/\s.gh=gh/\s.ov=none/\s.V=yA gw gh (fun _=>0)/\s.l=[]/\s.stamp=0)/\M=s.L ++ Q
 | _,M=>∃ (s:StS) (Q:List HA),(s.ok/\s.sb=sb/\s.gw=gw/\s.gh=gh/\s.ov=none/\s.V=qS gw gh v)/\M=s.L ++ Q
theorem jiv {gw gh:Nat} {v:Int} (hw:1<=gw/\gw<=40) (hh:1<=gh/\gh<=40) (hv:kN v=true) {sb k:Nat} {o:OpS} (ho:[(⟨1,0,0,0,0,0,0,0,0,gw,gh,.nil,.nil,.nil⟩:OpS),⟨3,0,0,(gw:Int) - 1,(gh:Int) - 1,0,0,0,0,v,0,.nil,.nil,.nil⟩][k]?=some o) (hP:SPw gw gh v sb k M) (S:St No W w (M ++ T)) :
  Fn Tryz.prog 7 [pt sb,o.v] w (fun v' w'=>∃ M',SPw gw gh v sb (k+1) M'/\St No W w' (M' ++ T)):=by
 match k,ho,hP with
 | 0,ho,⟨pp,hM⟩ =>
  cases ho
  subst hM
  exact (cZ (gw:=gw) (gh:=gh) rfl ⟨hw.1,by omega⟩ ⟨hh.1,by omega⟩ rfl rfl S).mono fun v w' ⟨s',hv,⟨h1,h2,h3,h4,h5,h8,h6,_,h7⟩,S'⟩=>⟨_,⟨s',_,⟨h1,h2,h3,h4,h5,h8,h6,h7⟩,rfl⟩,S'.csa⟩
 | 1,ho,⟨s,Q,⟨h1,h2,h3,h4,h5,h8,h6,h7⟩,hM⟩ =>
  cases ho
  subst hM
  have S1:St No W w ((s.L ++ []) ++ (Q ++ T)):=by rw [List.append_nil,<-List.append_assoc]; exact S
  have hc0:∀ i,i < gw * gh->s.cc i=0:=fun i hi=>by
   have h:yA s.gw s.gh s.cc=yA gw gh (fun _=>0):=h8
   rw [h3,h4] at h
   exact dH h hi
  refine (cE (s:=s) (M:=[]) (x0:=0) (y0:=0) (x1:=gw - 1) (y1:=gh - 1) (V:=List.replicate ((gh - 1+1 - 0) * (gw - 1+1 - 0)) v) h2 (dX (k:=3) (by decide) (by decide)) h1 (by omega) (by rw [h6]; decide) (by omega) (by omega) (by simp) (fun x hx=>by rw [(List.mem_replicate.1 hx).2]; exact hv) ?_
   (jbp (by omega) (by omega) hv (.inr ⟨rfl,rfl,rfl,by show (gw:Int) - 1=_; omega,by show (gh:Int) - 1=_; omega⟩)) S1).mono fun v' w' ⟨s2,_,⟨hok2,hp2⟩,S'⟩=>⟨_,⟨s2,Q,⟨hok2,hp2.sb.trans h2,hp2.gw.trans h3,hp2.gh.trans h4,hp2.ov.trans h5,?_⟩,rfl⟩,?_⟩
  ·rintro ⟨cx,cy,hcx,hcy,hne⟩ a b d e ha hb hin
   rw [h3] at hcx hne ha hin ⊢
   rw [h4] at hcy hb hin ⊢
   have hv0:v ≠ 0:=fun h0=>hne (by rw [jbo hw.1 hh.1 s.cc (wH hcx hcy),hc0 _ (wH hcx hcy),h0])
   have hall:=fun x y (hx:x < gw) (hy:y < gh)=>hin x y hx hy (by rw [jbo hw.1 hh.1 s.cc (wH hx hy),hc0 _ (wH hx hy)]; exact fun h=>hv0 h.symm)
   have c0:=hall 0 0 (by omega) (by omega)
   have c1:=hall (gw - 1) (gh - 1) (by omega) (by omega)
   rw [show e+1 - b=gh by omega,show d+1 - a=gw by omega,Nat.mul_comm gh gw]
   have:=Nat.mul_le_mul hw.1 hh.1
   omega
  ·rw [hp2.V,h3,h4]; exact jfH hw.1 hh.1 s.cc
  ·rw [List.append_nil,<-List.append_assoc] at S'
   exact S'
def C22 (F:Nat->Prop) (W:World) (L:List HA) (i1 i2 j1 j2:Nat) (R1 R2:Value->Prop) (t:TypeId) (z:List Value) (σ:List (Nat × Value)) (w:World):Prop :=
 ∃ Q1 Q2,(match σ.lookup j1 with | none=>Q1=[] | some u=>∃ b,u=.pointer (some ⟨b,0,none⟩)/\Q1=[.blk b t z])/\(match σ.lookup j2 with | none=>Q2=[] | some u=>∃ b,u=.pointer (some ⟨b,0,none⟩)/\Q2=[.blk b t z]) /\
  (∀ v,σ.lookup i1=some v->R1 v)/\(∀ v,σ.lookup i2=some v->R2 v)/\St F W w (Q1 ++ (Q2 ++ L))
section
variable {F : Nat → Prop} {L : List HA} {i1 i2 j1 j2 : Nat} {R1 R2 : Value → Prop} {t : TypeId} {z : List Value} {σ : List (Nat × Value)} {P : Program} {e : Nat → Value} {d : Option Tmp} {ty : TypeId} {ps : String} {af : Array Edge}
theorem C22.start (S:St F W w L):C22 F W L i1 i2 j1 j2 R1 R2 t z [] w:=⟨[],[],rfl,rfl,fun _ h=>(by cases h),fun _ h=>(by cases h),S⟩
theorem C22.st (h:C22 F W L i1 i2 j1 j2 R1 R2 t z σ w):St F W w L:=by
 obtain ⟨Q1,Q2,_,_,_,_,S⟩:=h
 have:=S.drop (Q1 ++ Q2).length
 rwa [<-List.append_assoc,List.drop_left] at this
theorem dP (i:Nat) (hi:i=i1\/i=i2) (h12:(i1 == i2)=false) (h11:(j1 == i1)=false) (h21:(j2 == i1)=false) (h13:(j1 == i2)=false) (h23:(j2 == i2)=false) {f:FuncId} {args:List Operand} {tys:Array TypeId} {vs:List Value} (h:C22 F W L i1 i2 j1 j2 R1 R2 t z σ w) (hv:fzl (args.map (ev e))=some vs)
  (hc:∀ Q,St F W w (Q ++ L)->Fn P f vs w (fun v w'=>(i=i1->R1 v)/\(i=i2->R2 v)/\St F W w' (Q ++ L))):qM P e ⟨d,.call ⟨.value (.func f),args.toArray,tys⟩,ty,ps,af,none⟩ w (fun v w'=>C22 F W L i1 i2 j1 j2 R1 R2 t z ((i,v)::σ) w'):=by
 obtain ⟨Q1,Q2,h1,h2,h3,h4,S⟩:=h
 have g1:(j1 == i)=false:=by rcases hi with rfl | rfl <;> assumption
 have g2:(j2 == i)=false:=by rcases hi with rfl | rfl <;> assumption
 refine uW hv ((hc (Q1 ++ Q2) (by rw [List.append_assoc]; exact S)).mono fun v w' ⟨r1,r2,S'⟩=>⟨Q1,Q2,?_,?_,fun u hu=>?_,fun u hu=>?_,by rw [List.append_assoc] at S'; exact S'⟩)
 ·rw [List.lookup_cons,g1]; exact h1
 ·rw [List.lookup_cons,g2]; exact h2
 ·rw [List.lookup_cons] at hu
  by_cases e:i1=i
  ·rw [e,beq_self_eq_true] at hu; cases hu; exact r1 e.symm
  ·rw [show (i1 == i)=false by simpa using e] at hu; exact h3 u hu
 ·rw [List.lookup_cons] at hu
  by_cases e:i2=i
  ·rw [e,beq_self_eq_true] at hu; cases hu; exact r2 e.symm
  ·rw [show (i2 == i)=false by simpa using e] at hu; exact h4 u hu
theorem rF {zv:Value} (h:C22 F W L i1 i2 j1 j2 R1 R2 t z σ w) (hj:σ.lookup j1=none) (h1j:(i1 == j1)=false) (h2j:(i2 == j1)=false) (hjj:(j2 == j1)=false) (hz:∀ w,(zeroValue t).run P w=.ok zv w) (hl:zv.cells.toList=z):qM P e ⟨d,.alloc t,ty,ps,af,none⟩ w (fun v w'=>C22 F W L i1 i2 j1 j2 R1 R2 t z ((j1,v)::σ) w'):=by
 obtain ⟨Q1,Q2,h1,h2,h3,h4,S⟩:=h
 rw [hj] at h1
 subst h1
 refine q7 rfl (jF (jL hz hl) S (fun b w' g S=>⟨[.blk b t z],Q2,?_,?_,fun u hu=>h3 u ?_,fun u hu=>h4 u ?_,S⟩))
 ·rw [List.lookup_cons,beq_self_eq_true]; exact ⟨b,rfl,rfl⟩
 ·rw [List.lookup_cons,hjj]; exact h2
 ·rwa [List.lookup_cons,h1j] at hu
 ·rwa [List.lookup_cons,h2j] at hu
theorem rE {zv:Value} (h:C22 F W L i1 i2 j1 j2 R1 R2 t z σ w) (hj:σ.lookup j2=none) (h1j:(i1 == j2)=false) (h2j:(i2 == j2)=false) (hjj:(j1 == j2)=false) (hz:∀ w,(zeroValue t).run P w=.ok zv w) (hl:zv.cells.toList=z):qM P e ⟨d,.alloc t,ty,ps,af,none⟩ w (fun v w'=>C22 F W L i1 i2 j1 j2 R1 R2 t z ((j2,v)::σ) w'):=by
 obtain ⟨Q1,Q2,h1,h2,h3,h4,S⟩:=h
 rw [hj] at h2
 subst h2
 refine q7 rfl (jF (jL hz hl) S (fun b w' g S=>⟨Q1,[.blk b t z],?_,?_,fun u hu=>h3 u ?_,fun u hu=>h4 u ?_,St.mid (A:=[_]) S⟩))
 ·rw [List.lookup_cons,hjj]; exact h1
 ·rw [List.lookup_cons,beq_self_eq_true]; exact ⟨b,rfl,rfl⟩
 ·rwa [List.lookup_cons,h1j] at hu
 ·rwa [List.lookup_cons,h2j] at hu
theorem C22.fin {v1 v2 u1 u2:Value} (h:C22 F W L i1 i2 j1 j2 R1 R2 t z σ w) (h1:σ.lookup i1=some v1) (h2:σ.lookup i2=some v2) (g1:σ.lookup j1=some u1) (g2:σ.lookup j2=some u2) :
  ∃ b1 b2,u1=pt b1/\u2=pt b2/\R1 v1/\R2 v2/\St F W w (.blk b1 t z::.blk b2 t z::L):=by
 obtain ⟨Q1,Q2,k1,k2,h3,h4,S⟩:=h
 rw [g1] at k1
 rw [g2] at k2
 obtain ⟨b1,e1,rfl⟩:=k1
 obtain ⟨b2,e2,rfl⟩:=k2
 exact ⟨b1,b2,e1,e2,h3 v1 h1,h4 v2 h2,S⟩
end
end
end
section
open Go.RowKit
section
variable {P : Program} {e : Nat → Value} {w : World} {d : Option Tmp} {ty : TypeId} {ps : String} {af : Array Edge}
theorem bL {t t':TypeId} {x y:Operand} {a:Int} {k:Nat} {kx kd:IntKind} (hx:ev e x=.int kx a) (hy:ev e y=.int kd k) (hk:k<=kx.bits) (h0:0<=a):OpV P e ⟨d,.binOp .shr t x y t',ty,ps,af,none⟩ (.int kx (a / 2 ^ k)):=by
 obtain ⟨n,rfl⟩:=Int.eq_ofNat_of_zero_le h0
 have h:=dV (P:=P) (d:=d) (ty:=ty) (ps:=ps) (af:=af) (t:=t) (t':=t') (kx:=kx) (a:=n) (k:=k) hx hy hk
 rwa [show ((n / 2 ^ k:Nat):Int)=(n:Int) / 2 ^ k by push_cast; rfl] at h
end
def HalvesAt (w:World):Prop:=∃ tb:List Int,tb.length=16/\Rd w (some ⟨1,0,none⟩) (tb.map fun n=>Value.int .u32 n)
theorem HalvesAt.gr {w w':World} (h:HalvesAt w) (g:Gr w w'):HalvesAt w':=by
 obtain ⟨tb,h1,h2⟩:=h
 exact ⟨tb,h1,h2.gr g⟩
theorem jaw {tb:List Int} (h:tb.length=16) {w:World} (hR:Rd w (some ⟨1,0,none⟩) (tb.map fun n=>Value.int .u32 n)) {k:Nat} (hk:k < 16):∃ n:Int,w.cell? ⟨1,0+k * 1,none⟩=some (.int .u32 n):=by
 have hk':k < tb.length:=by omega
 refine ⟨tb[k],?_⟩
 rw [Nat.mul_one]
 exact hR.cell rfl (by rw [List.getElem?_map,List.getElem?_eq_getElem hk']; rfl)
section
variable {W : World} {A : Option Addr} {n c : Nat} {l : List Int}
theorem jfS (hT:HalvesAt W) (h0:0 < l.length) (hm:l.length<=1073741824) (hA:Rd W A (u8s l)):Fn Tryz.prog 222 [.int .u32 0,.slice A l.length c] W (fun v w'=>∃ s:Int,(0<=s/\s < 4294967296)/\v=.int .u32 s/\Gr W w'):=by
 have hb:∀ op a b,0<=bits op .u32 a b/\bits op .u32 a b < 4294967296:=fun op a b=>jh0 (k:=.u32) rfl op a b
 have sa_A:yH A:=hA.someA (by rw [gU]; omega)
 obtain ⟨tb,ht1,ht2⟩:=hT
 have S:=St.start W
 refine zn Tryz.func222 Tryz.results222 Tryz.ntmps222 ?_
 refine z ?_; refine z ?_
 refine jE (jhf rfl rfl) ?_
 iterate 4 refine z ?_
 refine zc ?_
 refine jS ?_
 refine zc ?_
 refine j9 (fun m e w=>∃ (i:Nat) (s:Int),i+m=l.length/\(0<=s/\s < 4294967296)/\SL e [(0,.int .u32 s),(9,.slice A l.length c),(10,ii l.length),(11,ii i)]/\St No W w []) l.length
  ⟨0,_,by omega,hb .xor IntKind.u32.max 0,⟨rfl,rfl,rfl,rfl,trivial⟩,S⟩ ?_
 clear S
 rintro m e w ⟨i,s,hi,hs,hsl,S⟩
 rw [hsl.fold]
 by_cases hlt:i < l.length
 ·have hg:(u8s l)[(i:Int).toNat * 1]?=some (.int .u8 l[i]):=by
   rw [Int.toNat_natCast,Nat.mul_one]
   unfold u8s
   rw [List.getElem?_map,List.getElem?_eq_getElem hlt]
   rfl
  generalize l[i]=b at hg
  have hr1:=hb .xor s (IntKind.u32.wrap b)
  generalize hs1:bits .xor .u32 s (IntKind.u32.wrap b)=s1 at hr1
  have hi1:=m4 s1
  obtain ⟨t1,hc1⟩:=jaw ht1 (ht2.gr S.out) (k:=(bits .and .u32 s1 15).toNat) (by omega)
  have hr2:=hb .xor (s1 / 2 ^ 4) t1
  generalize hs2:bits .xor .u32 (s1 / 2 ^ 4) t1=s2 at hr2
  have hi2:=m4 s2
  obtain ⟨t2,hc2⟩:=jaw ht1 (ht2.gr S.out) (k:=(bits .and .u32 s2 15).toNat) (by omega)
  have hr3:=hb .xor (s2 / 2 ^ 4) t2
  refine zt ?_; refine zx ?_
  refine j3 (j7 q5 rfl rfl (hA.gr S.out) hg) ?_
  iterate 3 refine z ?_
  refine jE (yR (ks:=.u8) (n:=b) (kd:=.u32) q5 nK rfl rfl) ?_
  refine jE (xT (op:=.xor) rfl rfl rfl) ?_
  rw [hs1]
  refine z ?_; refine z ?_
  refine jE (bL (k:=4) rfl rfl (by decide) (by omega)) ?_
  refine z ?_
  refine jE (xT (op:=.and) rfl rfl rfl) ?_
  refine jE (cL Tryz.underlying411 Tryz.sizeOf294 rfl rfl hi1.1 hi1.2) ?_
  refine j3 (dW nK rfl rfl hc1) ?_
  refine jE (xT (op:=.xor) rfl rfl rfl) ?_
  rw [hs2]
  refine z ?_; refine z ?_
  refine jE (bL (k:=4) rfl rfl (by decide) (by omega)) ?_
  refine z ?_
  refine jE (xT (op:=.and) rfl rfl rfl) ?_
  refine jE (cL Tryz.underlying411 Tryz.sizeOf294 rfl rfl hi2.1 hi2.2) ?_
  refine j3 (dW nK rfl rfl hc2) ?_
  refine jE (xT (op:=.xor) rfl rfl rfl) ?_
  refine z ?_; refine zr ?_; refine z ?_
  refine ze ?_
  exact ⟨m - 1,by omega,i+1,_,by omega,hr3,⟨rfl,rfl,rfl,rfl,trivial⟩,S⟩
 ·obtain rfl:i=l.length:=by omega
  refine zf ?_
  refine zc ?_
  refine jM rfl ?_
  refine zc ?_
  refine jY ?_
  repeat first | refine jP ?_ | refine jU ?_
  show CW _ _ _ _ _ _
  refine z ?_
  refine jE (jhf rfl rfl) ?_
  refine z ?_
  refine zq ?_
  exact yD rfl ⟨_,hb _ _ _,rfl,S.out⟩
theorem jhU (hT:HalvesAt W) (h0:0 < l.length) (hm:l.length<=1073741824) (hA:Rd W A (u8s l)):Fn Tryz.prog 167 [.slice A l.length c] W (fun v w'=>∃ s:Int,(0<=s/\s < 4294967296)/\v=.int .u32 s/\Gr W w'):=by
 have S:=St.start W
 refine zn Tryz.func167 Tryz.results167 Tryz.ntmps167 ?_
 refine z ?_; refine z ?_
 refine jC rfl (jfS (c:=c) (hT.gr S.out) h0 hm (hA.gr S.out)) ?_
 rintro _ w1_ ⟨s,hs,rfl,g1_⟩
 have S:=S.gr g1_
 refine z ?_
 refine zq ?_
 exact yD rfl ⟨s,hs,rfl,S.out⟩
theorem jfQ (s:Int) (hs:0<=s/\s < 4294967296):Fn Tryz.prog 166 [.int .u32 s] W (jbx id 4 W):=by
 have S:=St.start W
 refine zn Tryz.func166 Tryz.results166 Tryz.ntmps166 ?_
 refine z ?_; refine z ?_
 refine jE (yR (ks:=.u32) (n:=s) (kd:=.u8) nK q5 rfl rfl) ?_
 refine z ?_
 refine jE (bL (k:=8) rfl rfl (by decide) hs.1) ?_
 refine jE (yR (ks:=.u32) (kd:=.u8) nK q5 rfl rfl) ?_
 refine z ?_
 refine jE (bL (k:=16) rfl rfl (by decide) hs.1) ?_
 refine jE (yR (ks:=.u32) (kd:=.u8) nK q5 rfl rfl) ?_
 refine z ?_
 refine jE (bL (k:=24) rfl rfl (by decide) hs.1) ?_
 refine jE (yR (ks:=.u32) (kd:=.u8) nK q5 rfl rfl) ?_
 refine yF q31 qz5 qv5 rfl rfl rfl rfl rfl rfl S ?_
 intro A_b w2_ g2_ S sa_b
 refine z ?_
 refine zq ?_
 exact yD rfl ⟨[_,_,_,_],rfl,S.retNew (i:=0) rfl⟩
theorem jli {w:World} {B A1 A2:Option Addr} {c1 c2 n2:Nat} {l1 l2:List Int} (h:l2.length=n2) (hR:Rd w B [.slice A1 l1.length c1,.slice A2 n2 c2]):Rd w B (rU [⟨A1,c1,l1⟩,⟨A2,c2,l2⟩]):=by
 subst h
 exact hR
theorem jfR (hT:HalvesAt W) (h0:0 < l.length) (hm:l.length<=1073741824) (hA:Rd W A (u8s l)):Fn Tryz.prog 190 [.slice A l.length c] W (jbx id (l.length+4) W):=by
 have S:=St.start W
 refine zn Tryz.func190 Tryz.results190 Tryz.ntmps190 ?_
 iterate 3 refine z ?_
 refine jC rfl (jhU (c:=c) (hT.gr S.out) h0 hm (hA.gr S.out)) ?_
 rintro _ w1_ ⟨s,hs,rfl,g1_⟩
 have S:=S.gr g1_
 refine jC rfl (jfQ s hs) ?_
 rintro _ w2_ ⟨lt,hlt,A_t,c_t,rfl,hR_t,hf_t,g2_⟩
 have S:=S.pushRow hR_t hf_t g2_
 refine yF Tryz.underlying323 jb3 je1 rfl rfl rfl rfl rfl rfl S ?_
 intro A_ls w4_ g4_ S sa_ls
 refine jC rfl (s8 (ls:=[⟨A,c,l⟩,⟨A_t,c_t,lt⟩]) (cB:=2) (jli hlt (S.rd (i:=0) rfl)) (fun q hq=>by simp only [List.mem_cons,List.not_mem_nil,or_false] at hq; rcases hq with rfl | rfl; exact ⟨h0,hA.gr S.out⟩; exact ⟨by dsimp only; omega,S.rd (i:=1) rfl⟩) (by simp) (by simp) (by simp [uA]; omega)) ?_
 rintro _ w5_ ⟨A_o,c_o,rfl,hR_o,hf_o,g5_⟩
 have S:=S.pushRow hR_o hf_o g5_
 refine z ?_
 refine zq ?_
 have e:(uA [⟨A,c,l⟩,⟨A_t,c_t,lt⟩]).length=l.length+4:=by simp [uA]; omega
 generalize uA [⟨A,c,l⟩,⟨A_t,c_t,lt⟩]=q at *
 rw [<-e]
 exact yD rfl ⟨q,rfl,S.retNew (i:=0) rfl⟩
end
end
section
open Go.RowKit
theorem je0 {gw gh x0 y0 n m:Nat} {cc:Nat->Int} {v:Int} (hcc:∀ i,i < gw * gh->cc i=v) (hn:0 < n/\x0+n<=gw) (hm:y0+m<=gh):y9 gw cc x0 y0 n m=List.replicate (m * n) v:=by
 apply List.ext_getElem?
 intro i
 rw [List.getElem?_replicate]
 by_cases hi:i < m * n
 ·rw [dS hn.1 hi,if_pos hi]
  congr 1
  have h1:=Nat.mod_lt i hn.1
  have h2:i / n < m:=Nat.div_lt_of_lt_mul (by rw [Nat.mul_comm]; exact hi)
  have h3:=Nat.mul_le_mul_right gw (show y0+i / n+1<=gh by omega)
  rw [Nat.succ_mul,Nat.mul_comm gh] at h3
  exact hcc _ (by omega)
 ·rw [if_neg hi,List.getElem?_eq_none (by rw [z6]; omega)]
theorem jdS {n:Nat} {v:Int} (hv:-2147483648<=v/\v<=2147483647):vM (List.replicate n v):=fun x hx=>by rw [List.eq_of_mem_replicate hx]; exact hv
def tkP (gw gh:Nat) (v:Int) (i k:Nat):Prop:=k<=2/\tN 0 (kT k (List.replicate (tsz gh (i / acr gw) * tsz gw (i % acr gw)) v) (tsz gw (i % acr gw)))<=8
section
variable {W : World} {A K : Option Addr} {p gw gh cap cK : Nat} {cc : Nat → Int} {bs : Nat → Nat} {Rs : Nat → Option Nat} {v : Int} {ks : List Nat}
theorem jjl (x0 y0 x1 y1:Nat) (hx:x0<=x1/\x1 < 1024) (hy:y0<=y1/\y1 < 1024):Fn Tryz.prog 108 [.agg #[ii x0,ii y0,ii x1,ii y1]] W (yK (.tuple #[ii (x1+1 - x0:Nat),ii (y1+1 - y0:Nat)]) W):=by
 have e1:(x1:Int) - x0+1=((x1+1 - x0:Nat):Int):=by omega
 have e2:(y1:Int) - y0+1=((y1+1 - y0:Nat):Int):=by omega
 have S:=St.start W
 refine zn Tryz.func108 Tryz.results108 Tryz.ntmps108 ?_
 refine zs ?_
 refine jF (jO rfl) S ?_
 intro b_r w2_ g2_ S
 refine z ?_; refine z ?_
 refine zc ?_
 refine yB (C:=fun wq=>Gr w2_ wq) [0,1,2,3,4,5,6,7,8,9,10,11,12,13] [] (by kernel_rfl) (by kernel_rfl) (Gr.drew _) ?_
 simp only [j6,List.drop_succ_cons,List.drop_zero]
 refine y ?_
 refine jV (fun wq hq=>jB q2 rfl rfl ((S.gr hq).blk (i:=0) rfl) rfl) ?_
 refine y ?_
 refine jV (fun wq hq=>jB q2 rfl rfl ((S.gr hq).blk (i:=0) rfl) rfl) ?_
 iterate 2 refine yr ?_
 rw [e1]
 refine y ?_
 refine jV (fun wq hq=>jB q2 rfl rfl ((S.gr hq).blk (i:=0) rfl) rfl) ?_
 refine y ?_
 refine jV (fun wq hq=>jB q2 rfl rfl ((S.gr hq).blk (i:=0) rfl) rfl) ?_
 iterate 2 refine yr ?_
 rw [e2]
 refine y ?_; refine y ?_
 refine yJ ?_
 intro w3_ g3_
 have S:=S.gr g3_
 refine zq ?_
 exact kY rfl rfl ⟨rfl,S.out⟩
structure jkT (gw gh:Nat) (W:World) (p:Nat) (v:Int) (k:Nat) (tw th X0 Y0 X1 Y1:Nat):Prop where
 hw:1<=tw/\tw<=16
 hh:1<=th/\th<=16
 val:∀ w,Gr W w->Fn Tryz.prog 25 [pt p,.agg #[ii X0,ii Y0,ii X1,ii Y1]] w (qR (fun s=>.tuple #[s,ii 0]) 2 1 (th * tw) (yC (List.replicate (th * tw) v)) w)
 siz:∀ w,Fn Tryz.prog 108 [.agg #[ii X0,ii Y0,ii X1,ii Y1]] w (yK (.tuple #[ii tw,ii th]) w)
 cel:((tlV gw gh).drop ((k:Int).toNat * 4)).take 4=[ii X0,ii Y0,ii X1,ii Y1]
theorem jgi {k:Nat} (hcc:∀ i,i < gw * gh->cc i=v) (hk:k < acr gh * acr gw) (hG:GridAt W p gw gh cc A cap bs Rs):∃ X0 Y0 X1 Y1,jkT gw gh W p v k (tsz gw (k % acr gw)) (tsz gh (k / acr gw)) X0 Y0 X1 Y1:=by
 have hw:=hG.sw
 have hh:=hG.sh
 have hi:k % acr gw < acr gw:=Nat.mod_lt _ (vZ hw.1)
 have hj:k / acr gw < acr gh:=Nat.div_lt_of_lt_mul (by rw [Nat.mul_comm]; exact hk)
 have ht:=jdV (gh:=gh) hw.1 hk
 have hc:=jgh (gh:=gh) hw.1 hk
 have hz1:=vN hi
 have hz2:=vN hj
 refine ⟨tX0 gw k,tY0 gw k,tX1 gw k,tY1 gw gh k,hz1,hz2,fun w g=>?_,fun w=>?_,hc⟩
 ·have h:=qN (W:=w) (tX0 gw k) (tY0 gw k) (tX1 gw k) (tY1 gw gh k) ⟨ht.1.1,ht.1.2.1⟩ ⟨ht.2.1,ht.2.2.1⟩ (hG.gr g)
  rw [ht.1.2.2,ht.2.2.2,je0 hcc (by omega) (by omega)] at h
  exact h
 ·have h:=jjl (W:=w) (tX0 gw k) (tY0 gw k) (tX1 gw k) (tY1 gw gh k) ⟨ht.1.1,by omega⟩ ⟨ht.2.1,by omega⟩
  rw [ht.1.2.2,ht.2.2.2] at h
  exact h
theorem jjA {i:Nat} (hv:-2147483648<=v/\v<=2147483647) (h1:1<=tsz gw (i % acr gw)/\tsz gw (i % acr gw)<=16) (h2:1<=tsz gh (i / acr gw)/\tsz gh (i / acr gw)<=16):tkP gw gh v i (b8 (List.replicate (tsz gh (i / acr gw) * tsz gw (i % acr gw)) v) (tsz gw (i % acr gw))):=by
 have hb:=jh2 (List.replicate (tsz gh (i / acr gw) * tsz gw (i % acr gw)) v) (tsz gw (i % acr gw))
 have hm1:=Nat.mul_le_mul h2.1 h1.1
 have hm2:=Nat.mul_le_mul h2.2 h1.2
 have hf:=jiu (w:=tsz gw (i % acr gw)) (n:=tsz gh (i / acr gw) * tsz gw (i % acr gw)) (v:=v) h1.1 (by omega) (by omega)
 exact ⟨hb.1,by omega⟩
theorem jjq (hcc:∀ i,i < gw * gh->cc i=v) (hv:-2147483648<=v/\v<=2147483647) (hG:GridAt W p gw gh cc A cap bs Rs) :
  Fn Tryz.prog 115 [pt p] W (fun u w'=>∃ ks:List Nat,ks.length=acr gh * acr gw/\(∀ i k,ks[i]?=some k->tkP gw gh v i k)/\qR (fun s=>.tuple #[s,ii 0]) 3 1 ks.length (yC (ks.map fun x:Nat=>(x:Int))) W u w'):=by
 have h1:=vT hG.sw.2
 have h2:=vT hG.sh.2
 have hm:acr gh * acr gw<=64 * 64:=Nat.mul_le_mul h2 h1
 have hta:=fun k (hk:k < acr gh * acr gw)=>jgi (W:=W) hcc hk hG
 have hti:=fun w (g:Gr W w)=>mS (hG.gr g)
 have hbk:=fun i h1 h2=>jjA (gw:=gw) (gh:=gh) (v:=v) (i:=i) hv h1 h2
 obtain ⟨n,hn⟩:∃ n,acr gh * acr gw=n:=⟨_,rfl⟩
 rw [hn] at hm hta hti
 rw [hn]
 have S:=St.start W
 refine zn Tryz.func115 Tryz.results115 Tryz.ntmps115 ?_
 iterate 6 refine z ?_
 refine jC rfl (hti W S.out) ?_
 rintro _ w1_ ⟨A_ti,c_ti,rfl,hR_ti,hf_ti,g1_⟩
 have S:=S.pushRow hR_ti hf_ti g1_
 refine z ?_; refine z ?_
 refine zc ?_
 refine jS ?_
 refine zc ?_
 have S:=S.pushNil 3 1
 refine j9 (fun m e w=>∃ (k:Nat) (ks:List Nat) (A_o:Option Addr) (c_o:Nat),k+m=n/\ks.length=k/\(∀ i q,ks[i]?=some q->tkP gw gh v i q)/\SL e [(0,pt p),(4,.slice A_o k c_o),(16,.slice A_ti n c_ti),(17,ii n),(18,ii k)] /\
   St No W w [.row 3 1 A_o k c_o (yC (ks.map fun x:Nat=>(x:Int))),.row 27 4 A_ti n c_ti (tlV gw gh)]) n
  ⟨0,[],none,0,by omega,rfl,(fun i q h=>by simp at h),⟨rfl,rfl,rfl,rfl,rfl,trivial⟩,S⟩ ?_
 clear S
 rintro m e w ⟨k,ks,A_o,c_o,hk,hks,hall,hsl,S⟩
 rw [hsl.fold]
 by_cases hlt:k < n
 ·have sa_ti:yH A_ti:=(S.row (i:=1) rfl).someA (by omega)
  obtain ⟨X0,Y0,X1,Y1,hT⟩:=hta k hlt
  have hbk':=hbk k hT.hw hT.hh
  obtain ⟨hw1,hh1,hval,hsiz,hcel⟩:=hT
  have hV:∀ i q,(ks ++ [b8 (List.replicate (tsz gh (k / acr gw) * tsz gw (k % acr gw)) v) (tsz gw (k % acr gw))])[i]?=some q->tkP gw gh v i q:=fun i q hi=>by
   rw [List.getElem?_append] at hi
   split at hi
   ·exact hall i q hi
   ·rw [List.getElem?_singleton] at hi
    split at hi
    ·rename_i h1 h2
     injection hi with hi
     rw [<-hi,show i=k by omega]
     exact hbk'
    ·cases hi
  have hbs:=fun W A c hA=>jgj (W:=W) (A:=A) (c:=c) (w:=tsz gw (k % acr gw)) (h:=tsz gh (k / acr gw)) (V:=List.replicate (tsz gh (k / acr gw) * tsz gw (k % acr gw)) v) hw1 hh1 (by rw [List.length_replicate,Nat.mul_comm]) (jdS hv) hA
  rw [List.length_replicate] at hbs
  generalize tsz gw (k % acr gw)=tw at *
  generalize tsz gh (k / acr gw)=th at *
  generalize b8 (List.replicate (th * tw) v) tw=bk at *
  refine zt ?_; refine zx ?_
  refine j3 (yY q27 rfl (y6 _) rfl (S.rd (i:=1) rfl) hcel rfl rfl) ?_
  refine jF (jL qX rfl) S ?_
  intro b_t w3_ g3_ S
  refine jH (i:=0) S rfl (y6 _) rfl rfl rfl rfl rfl rfl ?_
  intro w4_ S
  refine z ?_; refine z ?_
  refine jC rfl (hval w4_ S.out) ?_
  rintro _ w5_ ⟨A_vs,c_vs,rfl,hR_vs,hf_vs,g5_⟩
  have S:=S.pushRow hR_vs hf_vs g5_
  iterate 6 refine z ?_
  refine jC rfl (hsiz w5_) ?_
  rintro _ w6_ ⟨rfl,g6_⟩
  have S:=S.gr g6_
  iterate 8 refine z ?_
  refine jC rfl (hbs w6_ _ _ (S.rd (i:=0) rfl)) ?_
  rintro _ w7_ ⟨rfl,g7_⟩
  have S:=S.gr g7_
  iterate 7 refine z ?_
  refine yF f7 qz3 qv3 rfl rfl rfl rfl rfl rfl S ?_
  intro A_one w9_ g9_ S sa_one
  refine qA (i:=3) S rfl (fun h=>rfl) f7 xU rfl rfl rfl rfl (by simp) (by omega) (S.rd (i:=0) rfl) rfl (by omega) ?_
  intro A_o2 c_o2 w10_ S sa_o
  refine z ?_; refine zr ?_; refine z ?_
  refine ze ?_
  have S:=S.sub (.cons _ (.cons _ (.cons _ (.cons_cons _ (.cons_cons _ .slnil)))))
  have es:yC (ks.map fun x:Nat=>(x:Int)) ++ [ii (bk:Nat)]=yC ((ks ++ [bk]).map fun x:Nat=>(x:Int)):=by simp [yC]
  rw [es] at S
  exact ⟨m - 1,by omega,k+1,ks ++ [bk],A_o2,c_o2,by omega,by simp [hks],hV,⟨rfl,rfl,rfl,rfl,rfl,trivial⟩,S⟩
 ·obtain rfl:k=n:=by omega
  subst hks
  refine zf ?_
  refine zc ?_
  refine jM rfl ?_
  refine zc ?_
  refine jY ?_
  repeat first | refine jP ?_ | refine jU ?_
  show CW _ _ _ _ _ _
  iterate 3 refine z ?_
  refine zq ?_
  exact kY rfl rfl ⟨ks,rfl,hall,S.retNew (i:=0) (mk:=fun s=>.tuple #[s,ii 0]) rfl⟩
theorem jhI (k:Nat) (hk:k<=2):Fn Tryz.prog 187 [ii k] W (yK (.bool false) W):=by
 have S:=St.start W
 refine zn Tryz.func187 Tryz.results187 Tryz.ntmps187 ?_
 refine z ?_; refine z ?_
 refine jC rfl (sO k 1 0 hk (by omega) (by omega)) ?_
 rintro _ w1_ ⟨rfl,g1_⟩
 have S:=S.gr g1_
 refine z ?_; refine z ?_
 refine zq ?_
 exact yD rfl ⟨rfl,S.out⟩
theorem jje (hks:∀ k ∈ ks,k<=2) (hn:ks.length<=1048576) (hK:Rd W K (yC (ks.map fun x:Nat=>(x:Int)))):Fn Tryz.prog 236 [.slice K ks.length cK,.func (.func 187) #[] #[]] W (yK (ii (-1)) W):=by
 have hget:∀ j (hj:j < ks.length),(yC (ks.map fun x:Nat=>(x:Int)))[(j:Int).toNat * 1]?=some (ii (ks[j]:Nat)):=fun j hj=>by
  rw [Nat.mul_one,Int.toNat_natCast]
  exact qO (by rw [List.getElem?_map,List.getElem?_eq_getElem hj]; rfl)
 have S:=St.start W
 refine zn Tryz.func236 Tryz.results236 Tryz.ntmps236 ?_
 iterate 4 refine z ?_
 refine zc ?_
 refine jS ?_
 refine zc ?_
 refine j9 (fun m e w=>∃ i:Nat,i+m=ks.length/\SL e [(0,.slice K ks.length cK),(1,.func (.func 187) #[] #[]),(7,ii ks.length),(8,ii i)]/\St No W w []) ks.length
  ⟨0,by omega,⟨rfl,rfl,rfl,rfl,trivial⟩,S⟩ ?_
 clear S
 rintro m e w ⟨i,hi,hsl,S⟩
 rw [hsl.fold]
 by_cases hlt:i < ks.length
 ·have sa_K:yH K:=hK.someA (by rw [qY,List.length_map]; omega)
  have g1:=hget i hlt
  have h2:=hks _ (List.getElem_mem hlt)
  generalize ks[i]=k at *
  refine zt ?_; (iterate 5 refine z ?_); refine zx ?_
  refine j3 (j7 q3 rfl rfl (hK.gr S.out) g1) ?_
  refine zJ rfl rfl (jhI k h2) ?_
  rintro _ w1_ ⟨rfl,g1_⟩
  have S:=S.gr g1_
  refine zr ?_; refine z ?_
  refine ze ?_
  exact ⟨m - 1,by omega,i+1,by omega,⟨rfl,rfl,rfl,rfl,trivial⟩,S⟩
 ·skip
  refine zf ?_
  refine zc ?_
  refine jM rfl ?_
  refine zc ?_
  refine jY ?_
  repeat first | refine jP ?_ | refine jU ?_
  show CW _ _ _ _ _ _
  refine z ?_
  refine zq ?_
  exact yD rfl ⟨rfl,S.out⟩
theorem jjw (hks:∀ k ∈ ks,k<=2) (hn:ks.length<=1048576) (hK:Rd W K (yC (ks.map fun x:Nat=>(x:Int)))):Fn Tryz.prog 186 [.slice K ks.length cK,.func (.func 187) #[] #[]] W (yK (.bool false) W):=by
 have S:=St.start W
 refine zn Tryz.func186 Tryz.results186 Tryz.ntmps186 ?_
 iterate 3 refine z ?_
 refine jC rfl (jje (cK:=cK) hks hn (hK.gr S.out)) ?_
 rintro _ w1_ ⟨rfl,g1_⟩
 have S:=S.gr g1_
 refine zw1 ⟨?_⟩
 refine z ?_
 refine zq ?_
 exact yD rfl ⟨rfl,S.out⟩
end
end
section
open Go.RowKit
def HA.brs (ls:List BR):HA:=⟨fun g=>∃ q ∈ ls,kZ q.A g,fun w=>∀ q ∈ ls,Row w 5 1 q.A q.l.length q.c (u8s q.l),fun _ _ h _ hR q hq=>(hR q hq).keep (fun g hg=>h g ⟨q,hq,hg⟩),fun _ hR g ⟨q,hq,hg⟩=>(hR q hq).lt hg⟩
section
variable {F : Nat → Prop} {W w : World} {L : List HA} {ls : List BR} {A : Option Addr} {c i : Nat} {l : List Int}
theorem St.brs0 (S:St F W w L):St F W w (.brs []::L):=S.push (Gr.refl w) (h:=.brs []) (fun q hq=>by cases hq) (fun g ⟨q,hq,_⟩=>by cases hq)
theorem St.brsPush (S:St F W w (.row 5 1 A l.length c (u8s l)::.brs ls::L)):St F W w (.brs (ls ++ [⟨A,c,l⟩])::L) :=
 S.two (fun h1 h2 q hq=>(List.mem_append.1 hq).elim (h2 q) (fun h=>by rw [List.mem_singleton.1 h]; exact h1)) (fun g ⟨q,hq,hg⟩=>(List.mem_append.1 hq).elim (fun h=>.inr ⟨q,h,hg⟩) (fun h=>by rw [List.mem_singleton.1 h] at hg; exact .inl hg))
theorem St.brsRd (S:St F W w L) (hi:qP L i=some (.brs ls)) {q:BR} (hq:q ∈ ls):Rd w q.A (u8s q.l):=(S.ok hi q hq).rd
end
section
variable {W : World} {A K : Option Addr} {p gw gh cap cK : Nat} {cc : Nat → Int} {bs : Nat → Nat} {Rs : Nat → Option Nat} {v : Int} {ks : List Nat}
theorem jjH {ls:List BR} {B:Nat} (h:∀ q ∈ ls,q.l.length<=B):(uA ls).length<=B * ls.length:=by
 induction ls with
 | nil=>simp [uA]
 | cons q r ih =>
  have h1:=h q (by simp)
  have h2:=ih (fun x hx=>h x (List.mem_cons_of_mem _ hx))
  unfold uA at h2 ⊢
  rw [List.flatMap_cons,List.length_append,List.length_cons,Nat.mul_succ]
  omega
theorem jh9 {ls:List BR} (h0:0 < ls.length) (h:∀ q ∈ ls,1<=q.l.length):0 < (uA ls).length:=by
 cases ls with
 | nil=>simp at h0
 | cons q r =>
  have:=h q (by simp)
  unfold uA
  rw [List.flatMap_cons,List.length_append]
  omega
theorem jhy:(Tryz.prog.info? 31).map (fun i=>(i.zero,i.size,i.bytes))=some (some (.slice none 0 0),1,24):=by kernel_rfl
theorem jjm (hT:HalvesAt W) (hcc:∀ i,i < gw * gh->cc i=v) (hv:-2147483648<=v/\v<=2147483647) (hks:ks.length=acr gh * acr gw) (hall:∀ i k,ks[i]?=some k->tkP gw gh v i k) (hK:Rd W K (yC (ks.map fun x:Nat=>(x:Int)))) (hG:GridAt W p gw gh cc A cap bs Rs) :
  Fn Tryz.prog 117 [pt p,.slice K ks.length cK] W (fun u w'=>∃ lb:List Int,lb.length<=17+17 * (acr gh * acr gw)/\qR (fun s=>.tuple #[s,ii 0]) 5 1 lb.length (u8s lb) W u w'):=by
 have h1:=vT hG.sw.2
 have h2:=vT hG.sh.2
 have hp1:=vZ hG.sw.1
 have hp2:=vZ hG.sh.1
 have hm:acr gh * acr gw<=64 * 64:=Nat.mul_le_mul h2 h1
 have hm1:1 * 1<=acr gh * acr gw:=Nat.mul_le_mul hp2 hp1
 have hta:=fun k (hk:k < acr gh * acr gw)=>jgi (W:=W) hcc hk hG
 have hti:=fun w (g:Gr W w)=>mS (hG.gr g)
 have hk2:∀ k ∈ ks,k<=2:=fun k hk=>by
  obtain ⟨i,hi⟩:=List.getElem?_of_mem hk
  exact (hall i k hi).1
 have hcon:=fun w (g:Gr W w)=>jjw (cK:=cK) hk2 (by omega) (hK.gr g)
 have hget:∀ j (hj:j < ks.length),(yC (ks.map fun x:Nat=>(x:Int)))[(j:Int).toNat * 1]?=some (ii (ks[j]:Nat)):=fun j hj=>by
  rw [Nat.mul_one,Int.toNat_natCast]
  exact qO (by rw [List.getElem?_map,List.getElem?_eq_getElem hj]; rfl)
 have hdp:=fun w (ls:List Nat) B cB h3 h4 h5=>jkG (W:=w) (gw:=gw) (gh:=gh) (ls:=ls) (B:=B) (cB:=cB) hG.sw hG.sh h3 h4 h5
 have hcomm:acr gw * acr gh=acr gh * acr gw:=Nat.mul_comm _ _
 rw [hcomm] at hdp
 obtain ⟨n,hn⟩:∃ n,acr gh * acr gw=n:=⟨_,rfl⟩
 rw [hn] at hm hm1 hta hti hks hdp
 rw [hn]
 have sa_K:yH K:=hK.someA (by rw [qY,List.length_map]; omega)
 have S:=St.start W
 refine zn Tryz.func117 Tryz.results117 Tryz.ntmps117 ?_
 iterate 3 refine z ?_
 refine jC rfl (hti W S.out) ?_
 rintro _ w1_ ⟨A_ti,c_ti,rfl,hR_ti,hf_ti,g1_⟩
 have S:=S.pushRow hR_ti hf_ti g1_
 (iterate 8 refine z ?_); refine zf ?_; refine z ?_; refine z ?_
 refine jC rfl (hcon w1_ S.out) ?_
 rintro _ w2_ ⟨rfl,g2_⟩
 have S:=S.gr g2_
 refine z ?_
 refine zc ?_
 refine jM rfl ?_
 refine zc ?_
 refine j5 ?_
 try show CW _ _ _ _ _ _
 have S:=(S.brs0.pushNil 31 1).pushNil 2 1
 iterate 5 refine z ?_
 refine zc ?_
 refine jS ?_
 refine zc ?_
 refine j9 (fun m e w=>∃ (k:Nat) (ls:List BR) (A_l A_a:Option Addr) (c_l c_a:Nat),k+m=n/\ls.length=k/\(∀ q ∈ ls,1<=q.l.length/\q.l.length<=9) /\
   SL e [(0,pt p),(1,.slice K ks.length cK),(7,.slice A_l k c_l),(8,.slice A_a k c_a),(35,.slice A_ti n c_ti),(36,ii n),(37,ii k)] /\
   St No W w [.row 2 1 A_l k c_l (yC ((ls.map fun q=>q.l.length).map fun x:Nat=>(x:Int))),.row 31 1 A_a k c_a (rU ls),.brs ls,.row 27 4 A_ti n c_ti (tlV gw gh)]) n
  ⟨0,[],none,none,0,0,by omega,rfl,(fun q h=>by cases h),⟨rfl,rfl,rfl,rfl,rfl,rfl,rfl,trivial⟩,S⟩ ?_
 clear S
 rintro m e w ⟨k,ls,A_l,A_a,c_l,c_a,hk,hls,hq,hsl,S⟩
 rw [hsl.fold]
 by_cases hlt:k < n
 ·have sa_ti:yH A_ti:=(S.row (i:=3) rfl).someA (by omega)
  obtain ⟨X0,Y0,X1,Y1,hTl⟩:=hta k hlt
  obtain ⟨hw1,hh1,hval,hsiz,hcel⟩:=hTl
  have hkk:k < ks.length:=by omega
  have g1:=hget k hkk
  have htk:=hall k _ (List.getElem?_eq_getElem hkk)
  have hpt:=fun W A c q hA hq=>jir (W:=W) (A:=A) (c:=c) (w:=tsz gw (k % acr gw)) (h:=tsz gh (k / acr gw)) (V:=List.replicate (tsz gh (k / acr gw) * tsz gw (k % acr gw)) v) q hq hw1 hh1 (by rw [List.length_replicate,Nat.mul_comm]) (jdS hv) hA
  rw [List.length_replicate] at hpt
  unfold tkP at htk
  generalize ks[k]=kd at *
  generalize tsz gw (k % acr gw)=tw at *
  generalize tsz gh (k / acr gw)=th at *
  refine zt ?_; refine z ?_; refine zx ?_
  refine j3 (yY q27 rfl (y6 _) rfl (S.rd (i:=3) rfl) hcel rfl rfl) ?_
  refine jF (jL qX rfl) S ?_
  intro b_t w4_ g4_ S
  refine z ?_
  refine jH (i:=0) S rfl (y6 _) rfl rfl rfl rfl rfl rfl ?_
  intro w5_ S
  refine z ?_; refine z ?_
  refine jC rfl (hval w5_ S.out) ?_
  rintro _ w6_ ⟨A_vs,c_vs,rfl,hR_vs,hf_vs,g6_⟩
  have S:=S.pushRow hR_vs hf_vs g6_
  iterate 6 refine z ?_
  refine jC rfl (hsiz w6_) ?_
  rintro _ w7_ ⟨rfl,g7_⟩
  have S:=S.gr g7_
  (iterate 7 refine z ?_); refine zx ?_
  refine j3 (j7 q3 rfl rfl (hK.gr S.out) g1) ?_
  iterate 3 refine z ?_
  refine jC rfl (hpt w7_ _ _ kd (S.rd (i:=0) rfl) htk.1) ?_
  rintro _ w8_ ⟨lb,hlb,A_b,c_b,rfl,hR_b,hf_b,g8_⟩
  have S:=S.pushRow hR_b hf_b g8_
  iterate 5 refine z ?_
  refine ze ?_
  rw [<-hlb] at S ⊢
  have hle:1<=lb.length/\lb.length<=9:=by omega
  iterate 3 refine z ?_
  refine yF q30 qz2 qv2 rfl rfl rfl rfl rfl rfl S ?_
  intro A_one w10_ g10_ S sa_one
  refine qA (i:=4) S rfl (fun h=>rfl) q30 uY rfl rfl rfl rfl (by simp) (by omega) (S.rd (i:=0) rfl) rfl (by omega) ?_
  intro A_l2 c_l2 w11_ S sa_l
  iterate 3 refine z ?_
  refine yF Tryz.underlying323 jb3 je1 rfl rfl rfl rfl rfl rfl S ?_
  intro A_oa w13_ g13_ S sa_oa
  refine qA (i:=6) S rfl (fun h=>rfl) Tryz.underlying323 jhy rfl rfl rfl rfl (by simp) (by omega) (S.rd (i:=0) rfl) rfl (by omega) ?_
  intro A_a2 c_a2 w14_ S sa_a
  refine z ?_; refine zr ?_; refine z ?_
  refine ze ?_
  have S:=(S.pick 9 [2,7,5,6,8,0,1,3,4] rfl rfl rfl).brsPush
  have S:=(S.pick 8 [1,2,0,3,4,5,6,7] rfl rfl rfl).sub (List.take_sublist 4 _)
  have e1:yC ((ls.map fun q=>q.l.length).map fun x:Nat=>(x:Int)) ++ [ii (lb.length:Nat)]=yC (((ls ++ [(⟨A_b,c_b,lb⟩:BR)]).map fun q:BR=>q.l.length).map fun x:Nat=>(x:Int)):=by simp [yC]
  have e2:rU ls ++ [.slice A_b lb.length c_b]=rU (ls ++ [(⟨A_b,c_b,lb⟩:BR)]):=by simp [rU,BR.v]
  rw [e1,e2] at S
  exact ⟨m - 1,by omega,k+1,ls ++ [(⟨A_b,c_b,lb⟩:BR)],A_l2,A_a2,c_l2,c_a2,by omega,by simp [hls],(fun q h=>(List.mem_append.1 h).elim (hq q) (fun h=>by rw [List.mem_singleton.1 h]; exact hle)),⟨rfl,rfl,rfl,rfl,rfl,rfl,rfl,trivial⟩,S⟩
 ·obtain rfl:k=n:=by omega
  subst hls
  have hab:=jjH (ls:=ls) (B:=9) (fun q h=>(hq q h).2)
  have hdp':=fun w B cB h5=>hdp w (ls.map fun q=>q.l.length) B cB (fun x hx=>by obtain ⟨q,h,rfl⟩:=List.mem_map.1 hx; have:=hq q h; omega) (by rw [List.length_map]) h5
  rw [List.length_map] at hdp'
  refine zf ?_
  refine zc ?_
  refine jM rfl ?_
  refine zc ?_
  refine jY ?_
  repeat first | refine jP ?_ | refine jU ?_
  show CW _ _ _ _ _ _
  refine z ?_
  refine jC rfl (xH p gw gh _ w (hG.top.gr S.out)) ?_
  rintro _ w15_ ⟨rfl,g15_⟩
  have S:=S.gr g15_
  iterate 8 refine z ?_
  refine jC rfl (hdp' w15_ _ _ (S.rd (i:=0) rfl)) ?_
  rintro _ w16_ ⟨lh,hlh,A_h,c_h,rfl,hR_h,hf_h,g16_⟩
  have S:=S.pushRow hR_h hf_h g16_
  iterate 7 refine z ?_
  rw [<-hlh] at S ⊢
  refine jC rfl (s8 (ls:=ls) (S.rd (i:=2) rfl) (fun q h=>⟨(hq q h).1,S.brsRd (i:=3) rfl h⟩) (by omega) (by omega) (by omega)) ?_
  rintro _ w17_ ⟨A_bo,c_bo,rfl,hR_bo,hf_bo,g17_⟩
  have S:=S.pushRow hR_bo hf_bo g17_
  refine yF Tryz.underlying323 jb3 je1 rfl rfl rfl rfl rfl rfl S ?_
  intro A_hb w19_ g19_ S sa_hb
  have hpos:0 < (uA ls).length:=jh9 (by omega) (fun q h=>(hq q h).1)
  generalize hab2:uA ls=lbo at S hpos ⊢
  rw [hab2] at hab
  refine jC rfl (s8 (ls:=[⟨A_h,c_h,lh⟩,⟨A_bo,c_bo,lbo⟩]) (cB:=2) (jli rfl (S.rd (i:=0) rfl)) (fun q hq=>by simp only [List.mem_cons,List.not_mem_nil,or_false] at hq; rcases hq with rfl | rfl; exact ⟨by dsimp only; omega,S.rd (i:=2) rfl⟩; exact ⟨hpos,S.rd (i:=1) rfl⟩) (by simp) (by simp) (by simp [uA]; omega)) ?_
  rintro _ w20_ ⟨A_fi,c_fi,rfl,hR_fi,hf_fi,g20_⟩
  have S:=S.pushRow hR_fi hf_fi g20_
  have hfl:(uA [(⟨A_h,c_h,lh⟩:BR),(⟨A_bo,c_bo,lbo⟩:BR)]).length=lh.length+lbo.length:=by simp [uA]
  generalize uA [(⟨A_h,c_h,lh⟩:BR),(⟨A_bo,c_bo,lbo⟩:BR)]=lfi at S hfl ⊢
  refine jC rfl (jfR (c:=c_fi) (l:=lfi) (hT.gr S.out) (by omega) (by omega) (S.rd (i:=0) rfl)) ?_
  rintro _ w21_ ⟨lo,hlo,A_o,c_o,rfl,hR_o,hf_o,g21_⟩
  have S:=S.pushRow hR_o hf_o g21_
  refine z ?_; refine z ?_
  refine zq ?_
  rw [<-hlo] at S ⊢
  exact kY rfl rfl ⟨lo,by omega,S.retNew (i:=0) (mk:=fun s=>.tuple #[s,ii 0]) rfl⟩
end
section
variable {F : Nat → Prop} {W w : World} {M tl : List HA} {o : OpS} {s : StS} {kb : Nat} {v : Int}
theorem jiG (hT:∀ w L,St F W w L->HalvesAt w) (hfl:s.V=qS s.gw s.gh v) (hv:-2147483648<=v/\v<=2147483647) (ho:o.k=23/\o.n=3) :
  lN F W (s.L ++ M) s.sb o false (52) (fun q:{ q:Sv // q.n<=17+17 * (acr s.gh * acr s.gw) }=>{ code:=0,bytes:=q.1:RpS }) (fun _=>s.L ++ M):=by
 intro kb tl w S
 have hcc:∀ i,i < s.gw * s.gh->s.cc i=v:=fun i hi=>dH (gw:=s.gw) (gh:=s.gh) (c:=s.cc) (d:=fun _=>v) hfl hi
 have hbe:=fun w G=>jjq (W:=w) (gw:=s.gw) (gh:=s.gh) (cc:=s.cc) (p:=s.p) (A:=s.A) (cap:=s.cap) (bs:=s.bs) (Rs:=s.Rs) hcc hv G
 have hsa:=fun w (ks:List Nat) K cK hH h1 h2 hK G=>jjm (W:=w) (ks:=ks) (K:=K) (cK:=cK) (gw:=s.gw) (gh:=s.gh) (cc:=s.cc) (p:=s.p) (A:=s.A) (cap:=s.cap) (bs:=s.bs) (Rs:=s.Rs) hH hcc hv h1 h2 hK G
 obtain ⟨ok,ox0,oy0,ox1,oy1,ax,ay,bx,by',n,m,vs,bs,bd⟩:=o
 dsimp only at ho
 obtain ⟨rfl,rfl⟩:=ho
 refine zn Tryz.func52 Tryz.results52 Tryz.ntmps52 ?_
 refine zs ?_
 refine jF (jO rfl) S ?_
 intro b_op w2_ g2_ S
 refine jF (jL zP rfl) S ?_
 intro b_out w4_ g4_ S
 first | refine jR ?_ | (refine jG ?_; show CW _ _ _ _ _ _) | refine jG ?_
 repeat refine jJ ?_
 refine jI ?_
 iterate 2 refine jE (jA rfl) ?_
 refine jE (jD q60 rfl Tryz.sizeOf55 rfl rfl) ?_
 refine j3 (jB q55 rfl rfl (S.blk (i:=2) rfl) rfl) ?_
 refine jC rfl (hbe w4_ (S.grid (i:=3) rfl)) ?_
 rintro _ w5_ ⟨ks,hks,hall,A_k,c_k,rfl,hR_k,hf_k,g5_⟩
 have S:=S.pushRow hR_k hf_k g5_
 iterate 7 refine z ?_
 dsimp only
 refine jE (yP (b:=false) rfl (bne_eq_false_iff_eq.2 (by omega))) ?_
 first | refine jR ?_ | (refine jG ?_; show CW _ _ _ _ _ _) | refine jG ?_
 repeat refine jJ ?_
 refine jM rfl ?_
 repeat refine jJ ?_
 refine j5 ?_
 try show CW _ _ _ _ _ _
 repeat refine jJ ?_
 refine jI ?_
 iterate 2 refine jE (jA rfl) ?_
 refine jE (jD q60 rfl Tryz.sizeOf55 rfl rfl) ?_
 refine j3 (jB q55 rfl rfl (S.blk (i:=3) rfl) rfl) ?_
 refine jE (jA rfl) ?_
 refine jC rfl (hsa w5_ ks A_k c_k (hT _ _ S) hks hall (S.rd (i:=0) rfl) (S.grid (i:=4) rfl)) ?_
 rintro _ w6_ ⟨lb,hlb,A_b,c_b,rfl,hR_b,hf_b,g6_⟩
 have S:=S.pushRow hR_b hf_b g6_
 iterate 6 refine z ?_
 refine jE (jN (pl:=[(0,1),(1,1),(2,1),(3,2),(5,1),(6,1),(7,1),(8,1),(9,1)]) q41 zP (fun w=>by kernel_rfl) rfl rfl) ?_
 refine z ?_
 refine jC rfl (fV (r:={ code:=0,bytes:=⟨A_b,lb.length,c_b⟩ })) ?_
 rintro _ w7_ ⟨rfl,g7_⟩
 have S:=S.gr g7_
 refine jH (i:=2) S rfl (uK _) rfl rfl rfl rfl rfl rfl ?_
 intro w8_ S
 refine zq ?_
 exact v8 q41 rfl (uK _) rfl (S.blk (i:=2) rfl) rfl rfl ⟨⟨⟨A_b,lb.length,c_b⟩,hlb⟩,rfl,S.drop 4⟩
end
end
section
open Go.RowKit
theorem St.sw {F:Nat->Prop} {W w:World} {A B:List HA} (S:St F W w (A ++ B)):St F W w (B ++ A):=S.perm_ List.perm_append_comm
def FSx (gw gh:Nat) (v:Int) (sb:Nat) (M:List HA):Prop:=∃ (s:StS) (Q:List HA),(s.ok/\s.sb=sb/\s.gw=gw/\s.gh=gh/\s.ov=none/\s.V=qS gw gh v)/\M=s.L ++ Q
section
variable {W w : World} {M T : List HA} {gw gh sb : Nat} {v : Int}
theorem jkS (hw:1<=gw/\gw<=40) (hh:1<=gh/\gh<=40) (hf:FSx gw gh v sb M) (S:St No W w (M ++ T)) :
  Fn Tryz.prog 7 [pt sb,OpS.v ⟨7,0,0,(gw:Int) - 1,(gh:Int) - 1,0,0,0,0,0,0,.nil,.nil,.nil⟩] w (fun v' w'=>v'=RpS.v { code:=0,n:=v * gw * gh }/\St No W w' (M ++ T)):=by
 obtain ⟨s,Q,⟨h1,h2,h3,h4,h5,h6⟩,rfl⟩:=hf
 subst h3 h4
 refine (zW (s:=s) (M:=Q) h2 true (cU (k:=7) (by decide) (by decide)) (jcU (x0:=0) (y0:=0) (x1:=s.gw - 1) (y1:=s.gh - 1) h1 (by omega) (by omega) (fun w tl S=>.inl h5) ⟨rfl,rfl,rfl,by show (s.gw:Int) - 1=_; omega,by show (s.gh:Int) - 1=_; omega⟩) S).mono fun v' w' ⟨_,hv,S'⟩=>⟨by rw [hv,h6]; show RpS.v _=_; rw [jfG hw.1 hh.1],S'⟩
theorem jh5 (hw:1<=gw/\gw<=40) (hh:1<=gh/\gh<=40) (hf:FSx gw gh v sb M) (S:St No W w (M ++ T)) :
  Fn Tryz.prog 7 [pt sb,OpS.v ⟨14,0,0,0,0,0,0,0,0,v,0,.nil,.nil,.nil⟩] w (fun v' w'=>∃ (q:Sv) (A:Option Addr) (c:Nat),v'=RpS.v { code:=0,n:=1,values:=q,parts:=⟨A,1,c⟩ } /\
   St No W w' (.row 44 8 A 1 c [ii 1,ii (gw * gh:Nat),ii 0,ii 0,ii 0,ii 0,ii ((gw:Int) - 1),ii ((gh:Int) - 1)]::(M ++ T))):=by
 obtain ⟨s,Q,⟨h1,h2,h3,h4,h5,h6⟩,rfl⟩:=hf
 subst h3 h4
 have hlen:s.V.length=s.gw * s.gh:=by rw [h6]; exact z7
 refine (zW (s:=s) (M:=Q) h2 true (zD (k:=14) (by decide) (by decide)) (jd3 v (by rw [hlen]; have:=Nat.mul_le_mul hw.2 hh.2; omega) ⟨rfl,rfl⟩) S).mono fun v' w' ⟨q,hv,S'⟩=>?_
 obtain ⟨r,A1,c1,A2,c2,n,hr,hn⟩:=q
 have hp:=jfd (t:=v) hw.1 hh.1 (by rw [<-h6]; exact hr) (Int.le_refl v)
 rw [hlen,h6,hp.1] at hn
 subst hn
 refine ⟨_,A2,c2,hv,?_⟩
 unfold RgS.row at S'
 dsimp only at S'
 rw [hlen] at S'
 have h7:=hp.2
 rw [<-h6] at h7
 rw [h7] at S'
 exact S'
theorem jh4 (hw:1<=gw/\gw<=40) (hh:1<=gh/\gh<=40) (hf:FSx gw gh v sb M) (S:St No W w (M ++ T)) :
  Fn Tryz.prog 7 [pt sb,OpS.v ⟨14,0,0,0,0,0,0,0,0,v+1,0,.nil,.nil,.nil⟩] w (fun v' w'=>∃ q1 q2:Sv,v'=RpS.v { code:=0,n:=0,values:=q1,parts:=q2 }/\St No W w' (M ++ T)):=by
 obtain ⟨s,Q,⟨h1,h2,h3,h4,h5,h6⟩,rfl⟩:=hf
 subst h3 h4
 have hlen:s.V.length=s.gw * s.gh:=by rw [h6]; exact z7
 refine (zW (s:=s) (M:=Q) h2 true (zD (k:=14) (by decide) (by decide)) (jd3 (v+1) (by rw [hlen]; have:=Nat.mul_le_mul hw.2 hh.2; omega) ⟨rfl,rfl⟩) S).mono fun v' w' ⟨q,hv,S'⟩=>?_
 obtain ⟨r,A1,c1,A2,c2,n,hr,hn⟩:=q
 have hp:=jdd (gw:=s.gw) (gh:=s.gh) (v:=v) (t:=v+1) (r:=r) (by omega)
 rw [hlen,h6,hp.1] at hn
 subst hn
 exact ⟨_,_,hv,S'.drop 1⟩
theorem jjC (hH:HalvesAt W) (hv:-2147483648<=v/\v<=2147483647) (hf:FSx gw gh v sb M) (S:St No W w (M ++ T)) :
  Fn Tryz.prog 7 [pt sb,OpS.v ⟨23,0,0,0,0,0,0,0,0,3,0,.nil,.nil,.nil⟩] w (fun v' w'=>∃ q:Sv,q.n<=17+17 * (acr gh * acr gw)/\v'=RpS.v { code:=0,bytes:=q }/\St No W w' (M ++ T)):=by
 obtain ⟨s,Q,⟨h1,h2,h3,h4,h5,h6⟩,rfl⟩:=hf
 subst h3 h4
 exact (zW (s:=s) (M:=Q) h2 false jhn (jiG (fun w L S=>hH.gr S.out) h6 hv ⟨rfl,rfl⟩) S).mono fun v' w' ⟨q,hv,S'⟩=>⟨q.1,q.2,hv,S'⟩
theorem jjG {ax ay bx cy:Nat} (hv:-2147483648<=v/\v<=2147483647) (ha:ax < gw/\ay < gh) (hb:bx < gw/\cy < gh) (hf:FSx gw gh v sb M) (S:St No W w (M ++ T)) :
  Fn Tryz.prog 7 [pt sb,OpS.v ⟨12,0,0,0,0,ax,ay,bx,cy,0,0,.nil,.nil,.nil⟩] w (fun v' w'=>v'=RpS.v { code:=0,yes:=true }/\St No W w' (M ++ T)):=by
 obtain ⟨s,Q,⟨h1,h2,h3,h4,h5,h6⟩,rfl⟩:=hf
 subst h3 h4
 exact (zW (s:=s) (M:=Q) h2 true (zD (k:=12) (by decide) (by decide)) (jgp ax ay bx cy h6 (by omega) ha hb ⟨rfl,rfl,rfl,rfl,rfl,rfl,rfl⟩) S).mono fun v' w' ⟨_,hv,S'⟩=>⟨hv,S'⟩
theorem rV {x y:Nat} (hx:x < gw) (hy:y < gh):(y * gw+x) % gw=x/\(y * gw+x) / gw=y:=kW hx
theorem jjD {ax ay bx cy:Nat} (ha:ax < gw/\ay < gh) (hb:bx < gw/\cy < gh) (hf:FSx gw gh v sb M) (S:St No W w (M ++ T)) :
  Fn Tryz.prog 7 [pt sb,OpS.v ⟨16,0,0,0,0,ax,ay,bx,cy,0,0,.nil,.nil,.nil⟩] w (fun v' w'=>∃ q:Sv,v'=RpS.v { code:=0,n:=(((ax:Int) - bx).natAbs:Int)+((ay:Int) - cy).natAbs,cells:=q }/\St No W w' (M ++ T)):=by
 obtain ⟨s,Q,⟨h1,h2,h3,h4,h5,h6⟩,rfl⟩:=hf
 subst h3 h4
 obtain ⟨e1,e2⟩:=rV ha.1 ha.2
 obtain ⟨e3,e4⟩:=rV hb.1 hb.2
 have hm:bR s.gw (cy * s.gw+bx) (ay * s.gw+ax)=(((ax:Int) - bx).natAbs:Int)+((ay:Int) - cy).natAbs:=by unfold bR; rw [e1,e2,e3,e4]
 rw [<-hm]
 exact (zW (s:=s) (M:=Q) h2 true (zD (k:=16) (by decide) (by decide)) (jgB (ay * s.gw+ax) (cy * s.gw+bx) h1 (wH ha.1 ha.2) (wH hb.1 hb.2) h6 ⟨rfl,by rw [e1],by rw [e2],by rw [e3],by rw [e4]⟩) S).mono fun v' w' ⟨q,hv,S'⟩=>⟨q,hv,S'⟩
theorem jjF {ax ay:Nat} (hv:-2147483648<=v/\v<=2147483647) (ha:ax < gw/\ay < gh) (hf:FSx gw gh v sb M) (S:St No W w (M ++ T)) :
  Fn Tryz.prog 7 [pt sb,OpS.v ⟨13,0,0,0,0,ax,ay,1024,0,0,0,.nil,.nil,.nil⟩] w (fun v' w'=>∃ q:Sv,v'=RpS.v { code:=0,n:=(gw * gh:Nat),cells:=q }/\St No W w' (M ++ T)):=by
 obtain ⟨s,Q,⟨h1,h2,h3,h4,h5,h6⟩,rfl⟩:=hf
 subst h3 h4
 obtain ⟨e1,e2⟩:=rV ha.1 ha.2
 exact (zW (s:=s) (M:=Q) h2 true (zD (k:=13) (by decide) (by decide)) (jil (ay * s.gw+ax) (wH ha.1 ha.2) h6 (by omega) ⟨rfl,by rw [e1],by rw [e2],rfl,rfl,rfl⟩) S).mono fun v' w' ⟨q,hv,S'⟩=>⟨_,hv,S'⟩
theorem jjE {ax ay:Nat} (ha:ax < gw/\ay < gh) (hf:FSx gw gh v sb M) (S:St No W w (M ++ T)) :
  Fn Tryz.prog 7 [pt sb,OpS.v ⟨15,0,0,0,0,ax,ay,0,0,0,0,.nil,.nil,.nil⟩] w (fun v' w'=>∃ (A:Option Addr) (c:Nat),v'=RpS.v { code:=0,ax:=ax,ay:=ay,cells:=⟨A,1,c⟩ }/\St No W w' (M ++ T)):=by
 obtain ⟨s,Q,⟨h1,h2,h3,h4,h5,h6⟩,rfl⟩:=hf
 subst h3 h4
 obtain ⟨e1,e2⟩:=rV ha.1 ha.2
 exact (zW (s:=s) (M:=Q) h2 true (zD (k:=15) (by decide) (by decide)) (jiA (ay * s.gw+ax) (wH ha.1 ha.2) h6 ⟨rfl,by rw [e1],by rw [e2]⟩) S).mono fun v' w' ⟨q,hv,S'⟩=>⟨q.1,q.2,by rw [hv]; show RpS.v _=_; rw [e1,e2],S'⟩
end
end
end Go.Proofs.YtipnifjmhlcehaaGreatDoor
