/- hachuretop.WholeFlat: a part of the proof that the law returns true at every input (PyrB, FenL, FenM, FenO, CellN, Smooth, FenA, FenB); no condition of its own. -/
import Derived.Test.YtipnifjmhlcehaaGreatDoorKH
import Derived.Test.YtipnifjmhlcehaaGreatDoorKC
import Derived.Test.YtipnifjmhlcehaaGreatDoorKD
import Derived.Test.YtipnifjmhlcehaaGreatDoorKB
import Derived.Test.YtipnifjmhlcehaaGreatDoorKG
import Derived.Laws.StructEq
import Derived.Test.YtipnifjmhlcehaaGreatDoorKE
set_option linter.unusedVariables false
set_option linter.unusedSimpArgs false
set_option maxRecDepth 100000
set_option maxHeartbeats 16000000
namespace Go.Proofs.YtipnifjmhlcehaaGreatDoor
section
open Go.RowKit
def mdP (uw uh lw:Nat) (qu qd:Nat->RG) (x0 y0 x1 y x i:Nat):RG :=
 if (x0<=i % lw/\i % lw<=x1)/\((y0<=i / lw/\i / lw < y)\/(i / lw=y/\i % lw < x)) then mnd (fun u d=>qu (d * uw+u)) uw uh (i % lw) (i / lw) 4 else qd i
theorem jfn (uw uh lw:Nat) (qu qd:Nat->RG) (x0 y0 x1:Nat):mdP uw uh lw qu qd x0 y0 x1 y0 x0=qd:=funext fun i=>by
 unfold mdP
 rw [if_neg (by generalize i / lw=q at *; generalize i % lw=r at *; omega)]
theorem jhp {uw uh lw:Nat} {qu qd:Nat->RG} {x0 y0 x1 y x:Nat} (hx:x0<=x/\x<=x1) (hl:x1 < lw):jeA (mdP uw uh lw qu qd x0 y0 x1 y x) (y * lw+x) (mnd (fun u d=>qu (d * uw+u)) uw uh x y 4)=mdP uw uh lw qu qd x0 y0 x1 y (x+1):=funext fun i=>by
 have hm:(y * lw+x) % lw=x:=by rw [Nat.mul_comm,Nat.mul_add_mod,Nat.mod_eq_of_lt (by omega)]
 have hd:(y * lw+x) / lw=y:=by rw [Nat.mul_comm,Nat.mul_add_div (by omega),Nat.div_eq_of_lt (by omega),Nat.add_zero]
 unfold jeA
 by_cases e:i=y * lw+x
 ·rw [if_pos e,e]
  unfold mdP
  rw [hm,hd,if_pos (by omega)]
 ·rw [if_neg e]
  unfold mdP
  have hne:¬ (i / lw=y/\i % lw=x):=fun ⟨h1,h2⟩=>e (by have:=Nat.div_add_mod i lw; rw [h1,h2,Nat.mul_comm] at this; exact this.symm)
  generalize i / lw=q at *
  generalize i % lw=r at *
  by_cases h:(x0<=r/\r<=x1)/\((y0<=q/\q < y)\/(q=y/\r < x))
  ·rw [if_pos h,if_pos (by omega)]
  ·rw [if_neg h,if_neg (by omega)]
theorem ji8 {uw uh lw:Nat} {qu qd:Nat->RG} {x0 y0 x1 y:Nat} (hy:y0<=y) (i:Nat):mdP uw uh lw qu qd x0 y0 x1 y (x1+1) i=mdP uw uh lw qu qd x0 y0 x1 (y+1) x0 i:=by
 unfold mdP
 generalize i / lw=q at *
 generalize i % lw=r at *
 by_cases h:(x0<=r/\r<=x1)/\((y0<=q/\q < y)\/(q=y/\r < x1+1))
 ·rw [if_pos h,if_pos (by omega)]
 ·rw [if_neg h,if_neg (by omega)]
section
variable {W : World} {Au Ad : Option Addr} {uw uh lw lh cu cd x0 y0 x1 y1 : Nat} {qu qd : Nat → RG}
theorem jgR (hu:1<=uw/\uw<=1024/\1<=uh/\uh<=1024) (hlw:lw=(uw - 1) / 2+1) (hlh:lh=(uh - 1) / 2+1) (hx:x0<=x1/\x1 < lw) (hy:y0<=y1/\y1 < lh)
  (hU:Rd W Au (rgF (uw * uh) qu)) (hap:∀ g,kZ Au g->¬ kZ Ad g) (hD:Row W 124 2 Ad (lw * lh) cd (rgF (lw * lh) qd)) :
  Fn Tryz.prog 370 [.agg #[ii lw,ii lh,.slice Ad (lw * lh) cd],.agg #[ii uw,ii uh,.slice Au (uw * uh) cu],.agg #[ii x0,ii y0,ii x1,ii y1]] W
   (fun v w'=>v=.tuple #[]/\Row w' 124 2 Ad (lw * lh) cd (rgF (lw * lh) (mdP uw uh lw qu qd x0 y0 x1 (y1+1) x0))/\Fr (kZ Ad) W w'):=by
 have hum:uw * uh<=1024 * 1024:=Nat.mul_le_mul hu.2.1 hu.2.2.2
 have hlm:lw * lh<=1024 * 1024:=Nat.mul_le_mul (by omega) (by omega)
 have hap':∀ a,Au=some a->¬ kZ Ad a.block:=fun a e=>hap a.block (by rw [e]; rfl)
 have hidu:∀ {u d:Nat},u < uw->d < uh->d * uw+u < uw * uh:=fun {u d} h1 h2=>by
  have:=Nat.mul_le_mul_left uw (show d+1<=uh by omega)
  rw [Nat.mul_add,Nat.mul_one,Nat.mul_comm uw d] at this
  omega
 have hidl:∀ {u d:Nat},u < lw->d < lh->d * lw+u < lw * lh:=fun {u d} h1 h2=>by
  have:=Nat.mul_le_mul_left lw (show d+1<=lh by omega)
  rw [Nat.mul_add,Nat.mul_one,Nat.mul_comm lw d] at this
  omega
 have sa_U:yH Au:=hU.someA (by rw [rY]; have:=hidu (u:=0) (d:=0) (by omega) (by omega); omega)
 have sa_D:yH Ad:=hD.someA (by have:=hidl (u:=0) (d:=0) (by omega) (by omega); omega)
 have S:=St.start1 W (HA.row 124 2 Ad (lw * lh) cd (rgF (lw * lh) qd)) hD
 refine zn Tryz.func370 Tryz.results370 Tryz.ntmps370 ?_
 refine zs ?_
 refine jF (jO rfl) S ?_
 intro b_l w2_ g2_ S
 refine jF (jO rfl) S ?_
 intro b_u w4_ g4_ S
 refine jF (jO rfl) S ?_
 intro b_r w6_ g6_ S
 iterate 3 refine z ?_
 refine zc ?_
 refine jS ?_
 refine zc ?_
 refine j9 (fun m e w=>∃ y:Nat,y+m=y1+1/\y0<=y/\SL e [(3,pt b_l),(4,pt b_u),(5,pt b_r),(6,ii y)] /\
  St (kZ Ad) W w [.blk b_r 27 [ii x0,ii y0,ii x1,ii y1],.blk b_u 354 [ii uw,ii uh,.slice Au (uw * uh) cu],.blk b_l 354 [ii lw,ii lh,.slice Ad (lw * lh) cd],.row 124 2 Ad (lw * lh) cd (rgF (lw * lh) (mdP uw uh lw qu qd x0 y0 x1 y x0))]) (y1+1 - y0)
  ⟨y0,by omega,by omega,⟨rfl,rfl,rfl,rfl,trivial⟩,by rw [jfn]; exact S⟩ ?_
 clear S
 rintro m e w ⟨y,hym,hy0,hsl,S⟩
 rw [hsl.fold]
 by_cases hyn:y<=y1
 ·skip
  (iterate 3 refine z ?_); refine zt ?_; iterate 3 refine z ?_
  refine zc ?_
  refine jS ?_
  refine zc ?_
  refine j9 (fun m2 e w=>∃ x:Nat,x+m2=x1+1/\x0<=x/\SL e [(3,pt b_l),(4,pt b_u),(5,pt b_r),(6,ii y),(7,ii x)] /\
   St (kZ Ad) W w [.blk b_r 27 [ii x0,ii y0,ii x1,ii y1],.blk b_u 354 [ii uw,ii uh,.slice Au (uw * uh) cu],.blk b_l 354 [ii lw,ii lh,.slice Ad (lw * lh) cd],.row 124 2 Ad (lw * lh) cd (rgF (lw * lh) (mdP uw uh lw qu qd x0 y0 x1 y x))]) (x1+1 - x0)
   ⟨x0,by omega,by omega,⟨rfl,rfl,rfl,rfl,rfl,trivial⟩,S⟩ ?_
  clear S
  rintro m2 e w ⟨x,hxm,hx0,hsl,S⟩
  rw [hsl.fold]
  by_cases hxn:x<=x1
  ·have hi0:=hidu (u:=2 * x) (d:=2 * y) (by omega) (by omega)
   have gu0:=jc1 (q:=qu) hi0
   have e1:(2:Int) * y=((2 * y:Nat):Int):=by push_cast; rfl
   have e2:(2:Int) * x=((2 * x:Nat):Int):=by push_cast; rfl
   have e3:((2 * y:Nat):Int) * uw=((2 * y * uw:Nat):Int):=by push_cast; rfl
   have e4:((2 * y * uw:Nat):Int)+(2 * x:Nat)=((2 * y * uw+2 * x:Nat):Int):=rfl
   (iterate 3 refine z ?_); refine zt ?_; (iterate 3 refine z ?_); refine zr ?_
   rw [e1]
   refine z ?_; refine z ?_
   refine jE (yI rfl (by rw [e3]; omega)) ?_
   rw [e3]
   refine z ?_; refine zr ?_
   rw [e2]
   refine jE (yI rfl (by rw [e4]; omega)) ?_
   rw [e4]
   refine zx ?_
   refine j3 (yY bK rfl (vI _) rfl ((hU.fr S.fr hap')) gu0 rfl rfl) ?_
   refine jF (jL wR rfl) S ?_
   intro b_v w8_ g8_ S
   refine jH (i:=0) S rfl (vI _) rfl rfl rfl rfl rfl rfl ?_
   intro w9_ S
   refine z ?_
   refine zc ?_
   refine jS ?_
   refine zc ?_
   refine j9 (fun m3 e w=>∃ i:Nat,i+m3=4/\SL e [(3,pt b_l),(4,pt b_u),(5,pt b_r),(6,ii y),(7,ii x),(8,pt b_v),(40,ii i)] /\
    St (kZ Ad) W w [.blk b_v 124 (mnd (fun u d=>qu (d * uw+u)) uw uh x y i).cells,.blk b_r 27 [ii x0,ii y0,ii x1,ii y1],.blk b_u 354 [ii uw,ii uh,.slice Au (uw * uh) cu],.blk b_l 354 [ii lw,ii lh,.slice Ad (lw * lh) cd],.row 124 2 Ad (lw * lh) cd (rgF (lw * lh) (mdP uw uh lw qu qd x0 y0 x1 y x))]) 4
    ⟨0,by omega,⟨rfl,rfl,rfl,rfl,rfl,rfl,rfl,trivial⟩,S⟩ ?_
   clear S
   rintro m3 e w ⟨i,him,hsl,S⟩
   rw [hsl.fold]
   by_cases hi4:i < 4
   ·have f1:(i:Int) % 2=((i % 2:Nat):Int):=by push_cast; rfl
    have f2:(i:Int) / 2=((i / 2:Nat):Int):=by push_cast; rfl
    have f3:((2 * x:Nat):Int)+(i % 2:Nat)=((2 * x+i % 2:Nat):Int):=rfl
    have f4:((2 * y:Nat):Int)+(i / 2:Nat)=((2 * y+i / 2:Nat):Int):=rfl
    have hmn:mnd (fun u d=>qu (d * uw+u)) uw uh x y (i+1)=if 2 * x+i % 2 < uw/\2 * y+i / 2 < uh then uU (mnd (fun u d=>qu (d * uw+u)) uw uh x y i) (qu ((2 * y+i / 2) * uw+(2 * x+i % 2))) else mnd (fun u d=>qu (d * uw+u)) uw uh x y i:=rfl
    generalize hM:mnd (fun u d=>qu (d * uw+u)) uw uh x y i=M at *
    generalize hU1:2 * x+i % 2=u1 at *
    generalize hD1:2 * y+i / 2=d1 at *
    by_cases hc:u1 < uw/\d1 < uh
    ·rw [if_pos hc] at hmn
     have hi1:=hidu hc.1 hc.2
     have gu1:=jc1 (q:=qu) hi1
     have e5:(d1:Int) * uw=((d1 * uw:Nat):Int):=by push_cast; rfl
     have e6:((d1 * uw:Nat):Int)+u1=((d1 * uw+u1:Nat):Int):=rfl
     refine zt ?_; (iterate 3 refine z ?_); refine zr ?_
     rw [e2]
     refine z ?_
     refine jE (kU rfl rfl (by omega) (by omega)) ?_
     rw [f1]
     refine zr ?_
     rw [f3]
     refine z ?_; refine zr ?_
     rw [e1]
     refine z ?_
     refine jE (vP rfl rfl (by omega) (by omega)) ?_
     rw [f2]
     refine zr ?_
     rw [f4]
     (iterate 5 refine z ?_); refine zt ?_; (iterate 4 refine z ?_); refine zt ?_; refine z ?_
     refine zc ?_
     refine yS rfl ?_
     refine zc ?_
     refine yB (C:=fun wq=>Gr w wq) [0,1,2,3,4,5,6,7,8,9,10] [11,12] (by kernel_rfl) (by kernel_rfl) (Gr.drew _) ?_
     simp only [j6,List.drop_succ_cons,List.drop_zero]
     refine jV (fun wq hq=>jT bK rfl (vI _) rfl ((S.gr hq).blk (i:=0) rfl) rfl rfl) ?_
     refine jW (jD jc5 rfl Tryz.sizeOf311 rfl rfl) ?_
     refine jV (fun wq hq=>jB nJ rfl rfl ((S.gr hq).blk (i:=2) rfl) rfl) ?_
     refine jW (jA rfl) ?_
     refine jW (jD jc5 rfl qz2 rfl rfl) ?_
     refine jV (fun wq hq=>jB q2 rfl rfl ((S.gr hq).blk (i:=2) rfl) rfl) ?_
     refine jW (yI rfl (by rw [e5]; omega)) ?_
     rw [e5]
     refine jW (jA rfl) ?_
     refine jW (yI rfl (by rw [e6]; omega)) ?_
     rw [e6]
     refine yx ?_
     refine jV (fun wq hq=>yY bK rfl (vI _) rfl ((hU.fr (S.gr hq).fr hap')) gu1 rfl rfl) ?_
     refine yJ ?_
     intro w10_ g10_
     have S:=S.gr g10_
     refine jC rfl (jgS M (qu (d1 * uw+u1))) ?_
     rintro _ w11_ ⟨rfl,g11_⟩
     have S:=S.gr g11_
     refine jH (i:=0) S rfl (vI _) rfl rfl rfl rfl rfl rfl ?_
     intro w12_ S
     refine zr ?_; refine z ?_
     refine ze ?_
     exact ⟨m3 - 1,by omega,i+1,by omega,⟨rfl,rfl,rfl,rfl,rfl,rfl,ie (by omega),trivial⟩,by rw [hmn]; exact S⟩
    ·rw [if_neg hc] at hmn
     by_cases hc1:u1 < uw
     ·skip
      refine zt ?_; (iterate 3 refine z ?_); refine zr ?_
      rw [e2]
      refine z ?_
      refine jE (kU rfl rfl (by omega) (by omega)) ?_
      rw [f1]
      refine zr ?_
      rw [f3]
      refine z ?_; refine zr ?_
      rw [e1]
      refine z ?_
      refine jE (vP rfl rfl (by omega) (by omega)) ?_
      rw [f2]
      refine zr ?_
      rw [f4]
      (iterate 5 refine z ?_); refine zt ?_; (iterate 4 refine z ?_); refine zf ?_; refine z ?_; refine zr ?_; refine z ?_
      refine ze ?_
      exact ⟨m3 - 1,by omega,i+1,by omega,⟨rfl,rfl,rfl,rfl,rfl,rfl,ie (by omega),trivial⟩,by rw [hmn]; exact S⟩
     ·skip
      refine zt ?_; (iterate 3 refine z ?_); refine zr ?_
      rw [e2]
      refine z ?_
      refine jE (kU rfl rfl (by omega) (by omega)) ?_
      rw [f1]
      refine zr ?_
      rw [f3]
      refine z ?_; refine zr ?_
      rw [e1]
      refine z ?_
      refine jE (vP rfl rfl (by omega) (by omega)) ?_
      rw [f2]
      refine zr ?_
      rw [f4]
      (iterate 5 refine z ?_); refine zf ?_; iterate 4 refine z ?_
      refine zw2 ⟨?_⟩
      refine z ?_; refine zr ?_; refine z ?_
      refine ze ?_
      exact ⟨m3 - 1,by omega,i+1,by omega,⟨rfl,rfl,rfl,rfl,rfl,rfl,ie (by omega),trivial⟩,by rw [hmn]; exact S⟩
   ·obtain rfl:i=4:=by omega
    have hil:=hidl (u:=x) (d:=y) (by omega) (by omega)
    have e5:(y:Int) * lw=((y * lw:Nat):Int):=by push_cast; rfl
    have e6:((y * lw:Nat):Int)+x=((y * lw+x:Nat):Int):=rfl
    have hst:=jhp (uw:=uw) (uh:=uh) (qu:=qu) (qd:=qd) (y0:=y0) (y:=y) ⟨hx0,hxn⟩ hx.2
    generalize hM:mnd (fun u d=>qu (d * uw+u)) uw uh x y 4=M at *
    refine zf ?_
    refine zc ?_
    refine jM rfl ?_
    refine zc ?_
    refine jY ?_
    repeat first | refine jP ?_ | refine jU ?_
    show CW _ _ _ _ _ _
    iterate 5 refine z ?_
    refine jE (yI rfl (by rw [e5]; omega)) ?_
    rw [e5]
    refine z ?_
    refine jE (yI rfl (by rw [e6]; omega)) ?_
    rw [e6]
    refine z ?_; refine zx ?_
    refine zZ (i:=4) S rfl (vI _) rfl rfl rfl rfl (by rw [rY]; omega) rfl rfl ?_
    intro w13_ S
    refine z ?_; refine zr ?_; refine z ?_
    refine ze ?_
    have hse:(rgF (lw * lh) (mdP uw uh lw qu qd x0 y0 x1 y x)).take (((y * lw+x:Nat):Int).toNat * 2) ++ M.cells ++ (rgF (lw * lh) (mdP uw uh lw qu qd x0 y0 x1 y x)).drop (((y * lw+x:Nat):Int).toNat * 2+2)=rgF (lw * lh) (mdP uw uh lw qu qd x0 y0 x1 y (x+1)):=by rw [jd2 hil,hst]
    have S:=S.drop 1
    exact ⟨m2 - 1,by omega,x+1,by omega,by omega,⟨rfl,rfl,rfl,rfl,ie (by omega),trivial⟩,by rw [<-hse]; exact S⟩
  ·obtain rfl:x=x1+1:=by omega
   rw [sK (q':=mdP uw uh lw qu qd x0 y0 x1 (y+1) x0) (fun i _=>ji8 hy0 i)] at S
   (iterate 3 refine z ?_); refine zf ?_
   refine zc ?_
   refine jM rfl ?_
   refine zc ?_
   refine jY ?_
   repeat first | refine jP ?_ | refine jU ?_
   show CW _ _ _ _ _ _
   refine z ?_; refine zr ?_; refine z ?_
   refine ze ?_
   exact ⟨m - 1,by omega,y+1,by omega,by omega,⟨rfl,rfl,rfl,ie (by omega),trivial⟩,S⟩
 ·obtain rfl:y=y1+1:=by omega
  (iterate 3 refine z ?_); refine zf ?_
  refine zc ?_
  refine jM rfl ?_
  refine zc ?_
  refine jY ?_
  repeat first | refine jP ?_ | refine jU ?_
  exact zN ⟨rfl,S.row (i:=3) rfl,S.fr⟩
end
end
section
def lb (k:Nat):Nat:=if k=0 then 0 else if k % 2=1 then 1 else 2 * lb (k / 2)
termination_by k
decreasing_by omega
theorem jej:lb 0=0:=by unfold lb; rfl
theorem dD {k:Nat} (h:k % 2=1):lb k=1:=by unfold lb; rw [if_neg (by omega),if_pos h]
theorem fD (k:Nat):lb (2 * k)=2 * lb k:=by
 by_cases h:k=0
 ·subst h; simp [jej]
 ·rw [lb,if_neg (by omega),if_neg (by omega),show 2 * k / 2=k by omega]
theorem mG:∀ {k:Nat},0 < k->0 < lb k:=by
 intro k
 induction k using Nat.strongRecOn with
 | ind k ih =>
  intro h
  by_cases ho:k % 2=1
  ·rw [dD ho]; omega
  ·have:=ih (k / 2) (by omega) (by omega)
   rw [show k=2 * (k / 2) by omega,fD]; omega
theorem mH:∀ (k:Nat),lb k<=k:=by
 intro k
 induction k using Nat.strongRecOn with
 | ind k ih =>
  by_cases h0:k=0
  ·subst h0; rw [jej]; omega
  ·by_cases ho:k % 2=1
   ·rw [dD ho]; omega
   ·have:=ih (k / 2) (by omega)
    have e:=fD (k / 2)
    rw [show 2 * (k / 2)=k by omega] at e
    omega
theorem cX (a b:Nat):a &&& b=2 * ((a / 2) &&& (b / 2))+(a % 2) * (b % 2):=by
 have h1:=Nat.and_div_two (a:=a) (b:=b)
 have h2:(a &&& b) % 2=(a % 2) * (b % 2):=by
  have:=@Nat.and_mod_two_pow a b 1
  rw [show (2:Nat) ^ 1=2 from rfl] at this
  rw [this]
  rcases Nat.mod_two_eq_zero_or_one a with ha | ha <;> rcases Nat.mod_two_eq_zero_or_one b with hb | hb <;> rw [ha,hb] <;> rfl
 omega
theorem jfq:∀ (k:Nat),0 < k->k &&& (k - 1)=k - lb k:=by
 intro k
 induction k using Nat.strongRecOn with
 | ind k ih =>
  intro h
  rw [cX]
  by_cases ho:k % 2=1
  ·rw [dD ho,show (k - 1) / 2=k / 2 by omega,Nat.and_self,ho,show (k - 1) % 2=0 by omega]; omega
  ·have h1:=ih (k / 2) (by omega) (by omega)
   have e:=fD (k / 2)
   have h2:=mH (k / 2)
   rw [show 2 * (k / 2)=k by omega] at e
   rw [show (k - 1) / 2=k / 2 - 1 by omega,h1,show k % 2=0 by omega]
   omega
theorem jct : ∀ (n a : Nat), a < 2 ^ n → a &&& (2 ^ n - 1 - a) = 0
  | 0, a, h => by have : a = 0 := by simpa using h
                  subst this; simp
  | n + 1, a, h => by
    have e : 2 ^ (n + 1) = 2 * 2 ^ n := by rw [Nat.pow_succ, Nat.mul_comm]
    have hp : 0 < 2 ^ n := Nat.pow_pos (by omega)
    have ih := jct n (a / 2) (by omega)
    rw [cX, show (2 ^ (n + 1) - 1 - a) / 2 = 2 ^ n - 1 - a / 2 by omega, ih]
    rcases Nat.mod_two_eq_zero_or_one a with ha | ha
    · simp [ha]
    · rw [show (2 ^ (n + 1) - 1 - a) % 2 = 0 by omega]; simp
theorem jcu:∀ (n k:Nat),0 < k->k < 2 ^ n->k &&& (2 ^ n - k)=lb k
 | 0,k,h0,h=>by simp at h; omega
 | n+1,k,h0,h=>by
  have e:2 ^ (n+1)=2 * 2 ^ n:=by rw [Nat.pow_succ,Nat.mul_comm]
  have hp:0 < 2 ^ n:=Nat.pow_pos (by omega)
  rw [cX]
  by_cases ho:k % 2=1
  ·have h1:=jct n (k / 2) (by omega)
   rw [dD ho,show (2 ^ (n+1) - k) / 2=2 ^ n - 1 - k / 2 by omega,h1,ho,show (2 ^ (n+1) - k) % 2=1 by omega]
  ·have h1:=jcu n (k / 2) (by omega) (by omega)
   have e2:=fD (k / 2)
   rw [show 2 * (k / 2)=k by omega] at e2
   rw [show (2 ^ (n+1) - k) / 2=2 ^ n - k / 2 by omega,h1,show k % 2=0 by omega,e2]
   omega
def psm (f:Nat->Int):Nat->Int
 | 0=>0
 | n+1=>psm f n+f (n+1)
def FW (f:Nat->Int) (k:Nat):Int:=psm f k - psm f (k - lb k)
def FA (f:Nat->Int):Nat->Nat->Int
 | 0,j=>f j
 | k+1,j=>FA f k j+if k+1+lb (k+1)=j then FW f (k+1) else 0
def hlf (f:Nat->Int) (m:Nat):Int:=f (2 * m - 1)+f (2 * m)
theorem jaV (f:Nat->Int):∀ n,psm (hlf f) n=psm f (2 * n)
 | 0=>rfl
 | n+1=>by
  show psm (hlf f) n+hlf f (n+1)=_
  rw [jaV f n,show 2 * (n+1)=2 * n+1+1 by omega]
  show _=psm f (2 * n)+f (2 * n+1)+f (2 * n+1+1)
  unfold hlf
  rw [show 2 * (n+1) - 1=2 * n+1 by omega,show 2 * (n+1)=2 * n+1+1 by omega]
  omega
theorem jif (f:Nat->Int) (m:Nat):FW (hlf f) m=FW f (2 * m):=by
 unfold FW
 rw [jaV,jaV,fD,Nat.mul_sub]
theorem jie {f:Nat->Int} {k:Nat} (h:k % 2=1):FW f k=f k:=by
 unfold FW
 obtain ⟨n,rfl⟩:∃ n,k=n+1:=⟨k - 1,by omega⟩
 rw [dD h,Nat.add_sub_cancel]
 show psm f n+f (n+1) - psm f n=_
 omega
theorem jcs {i:Nat} (h:0 < i):(i+lb i) % 2=0:=by
 by_cases ho:i % 2=1
 ·rw [dD ho]; omega
 ·have:=fD (i / 2)
  rw [show 2 * (i / 2)=i by omega] at this
  omega
theorem jig {f:Nat->Int} {j:Nat} (h:j % 2=1):∀ k,FA f k j=f j
 | 0=>rfl
 | k+1=>by
  show FA f k j+_=_
  rw [jig h k,if_neg (fun e=>by have:=jcs (i:=k+1) (by omega); omega)]
  omega
theorem jex {f:Nat->Int} {m:Nat}:∀ k,k < m->FA f (2 * k) (2 * m)+f (2 * m - 1)=FA (hlf f) k m
 | 0,_=>by show f (2 * m)+f (2 * m - 1)=f (2 * m - 1)+f (2 * m); omega
 | k+1,h=>by
  have ih:=jex (f:=f) (m:=m) k (by omega)
  rw [show 2 * (k+1)=2 * k+1+1 by omega]
  show FA f (2 * k) (2 * m)+(if 2 * k+1+lb (2 * k+1)=2 * m then FW f (2 * k+1) else 0)+(if 2 * k+1+1+lb (2 * k+1+1)=2 * m then FW f (2 * k+1+1) else 0)+f (2 * m - 1)=FA (hlf f) k m+if k+1+lb (k+1)=m then FW (hlf f) (k+1) else 0
  rw [if_neg (by rw [dD (by omega)]; omega),<-ih,jif,show 2 * k+1+1=2 * (k+1) by omega,fD]
  by_cases hc:k+1+lb (k+1)=m
  ·rw [if_pos (by omega),if_pos hc]; omega
  ·rw [if_neg (by omega),if_neg hc]; omega
theorem jjV:∀ (j:Nat) (f:Nat->Int),0 < j->FA f (j - 1) j=FW f j:=by
 intro j
 induction j using Nat.strongRecOn with
 | ind j ih =>
  intro f h
  by_cases ho:j % 2=1
  ·rw [jig ho,jie ho]
  ·obtain ⟨m,rfl⟩:∃ m,j=2 * m:=⟨j / 2,by omega⟩
   have h1:=ih m (by omega) (hlf f) (by omega)
   have h2:=jex (f:=f) (m:=m) (m - 1) (by omega)
   rw [jif] at h1
   rw [<-h1,<-h2,show 2 * m - 1=2 * (m - 1)+1 by omega]
   show FA f (2 * (m - 1)) (2 * m)+(if 2 * (m - 1)+1+lb (2 * (m - 1)+1)=2 * m then FW f (2 * (m - 1)+1) else 0)=_
   rw [if_pos (by rw [dD (by omega)]; omega),jie (by omega)]
theorem jby {f:Nat->Int} {j:Nat} (h:0 < j):∀ k,j - 1<=k->FA f k j=FW f j:=fun k hk=>by
 induction k with
 | zero=>rw [<-jjV j f h,show j - 1=0 by omega]
 | succ k ih =>
  by_cases e:j - 1=k+1
  ·rw [<-e]; exact jjV j f h
  ·show FA f k j+_=_
   rw [ih (by omega),if_neg (by have:=mG (k:=k+1) (by omega); omega)]
   omega
theorem jaU (f g:Nat->Int):∀ n,psm (fun i=>f i - g i) n=psm f n - psm g n
 | 0=>rfl
 | n+1=>by show psm (fun i=>f i - g i) n+(f (n+1) - g (n+1))=psm f n+f (n+1) - (psm g n+g (n+1)); rw [jaU f g n]; omega
theorem jkV (f g:Nat->Int) (k:Nat):FW (fun i=>f i - g i) k=FW f k - FW g k:=by unfold FW; rw [jaU,jaU]; omega
def cel (gw:Nat) (V:List Int) (y x:Nat):Int:=V.getD ((y - 1) * gw+(x - 1)) 0
def FW2 (gw:Nat) (V:List Int) (x y:Nat):Int:=FW (fun y'=>FW (cel gw V y') x) y
def rT (gw:Nat) (V:List Int) (x y:Nat):Int:=psm (fun y'=>psm (cel gw V y') x) y
end
section
section
variable {gw gh : Nat} {V : List Int}
def u7 (gw:Nat) (V:List Int) (y k i:Nat):Int :=
 if i % (gw+1)=0\/i / (gw+1)=0 then 0 else if i / (gw+1) < y then FW (cel gw V (i / (gw+1))) (i % (gw+1))
 else if i / (gw+1)=y then FA (cel gw V y) k (i % (gw+1)) else cel gw V (i / (gw+1)) (i % (gw+1))
def u6 (gw:Nat) (V:List Int) (y k i:Nat):Int :=
 if i % (gw+1)=0\/i / (gw+1)=0 then 0 else FA (fun y'=>FW (cel gw V y') (i % (gw+1))) (if i % (gw+1)<=k then y else y - 1) (i / (gw+1))
def s7 (gw:Nat) (V:List Int) (i:Nat):Int:=if i % (gw+1)=0\/i / (gw+1)=0 then 0 else FW2 gw V (i % (gw+1)) (i / (gw+1))
theorem m5 {x y:Nat} (h:x<=gw):(y * (gw+1)+x) % (gw+1)=x:=by
 rw [Nat.mul_comm,Nat.mul_add_mod,Nat.mod_eq_of_lt (by omega)]
theorem m6 {x y:Nat} (h:x<=gw):(y * (gw+1)+x) / (gw+1)=y:=by
 rw [Nat.mul_comm,Nat.mul_add_div (by omega),Nat.div_eq_of_lt (by omega),Nat.add_zero]
theorem jh3 {x y i:Nat} (h:x<=gw):i=y * (gw+1)+x ↔ i % (gw+1)=x/\i / (gw+1)=y:=by
 constructor
 ·rintro rfl; exact ⟨m5 h,m6 h⟩
 ·rintro ⟨rfl,rfl⟩; have:=Nat.div_add_mod i (gw+1); rw [Nat.mul_comm] at this; omega
theorem jbr {y k x y':Nat} (h:x<=gw):u7 gw V y k (y' * (gw+1)+x)=if x=0\/y'=0 then 0 else if y' < y then FW (cel gw V y') x else if y'=y then FA (cel gw V y) k x else cel gw V y' x:=by
 unfold u7; rw [m5 h,m6 h]
theorem jbq {y k x y':Nat} (h:x<=gw):u6 gw V y k (y' * (gw+1)+x)=if x=0\/y'=0 then 0 else FA (fun y'=>FW (cel gw V y') x) (if x<=k then y else y - 1) y':=by
 unfold u6; rw [m5 h,m6 h]
theorem jjp {x y:Nat} (h:x<=gw):s7 gw V (y * (gw+1)+x)=if x=0\/y=0 then 0 else FW2 gw V x y:=by
 unfold s7; rw [m5 h,m6 h]
theorem jfN {y x:Nat} (hy:1<=y) (hx:x < gw) (hup:x+1+lb (x+1)<=gw) :
  kR (u7 gw V y x) (y * (gw+1)+(x+1+lb (x+1))) (u7 gw V y x (y * (gw+1)+(x+1+lb (x+1)))+u7 gw V y x (y * (gw+1)+(x+1)))=u7 gw V y (x+1):=funext fun i=>by
 have h1:=jby (f:=cel gw V y) (j:=x+1) (by omega) x (by omega)
 have h2:u7 gw V y x (y * (gw+1)+(x+1+lb (x+1)))=FA (cel gw V y) x (x+1+lb (x+1)):=by rw [jbr hup,if_neg (by omega),if_neg (by omega),if_pos rfl]
 have h3:u7 gw V y x (y * (gw+1)+(x+1))=FW (cel gw V y) (x+1):=by rw [jbr (by omega),if_neg (by omega),if_neg (by omega),if_pos rfl,h1]
 unfold kR
 rw [h2,h3]
 by_cases e:i=y * (gw+1)+(x+1+lb (x+1))
 ·rw [if_pos e,e,jbr hup,if_neg (by omega),if_neg (by omega),if_pos rfl]
  show _=FA (cel gw V y) x _+_
  rw [if_pos rfl]
 ·rw [if_neg e]
  unfold u7
  split
  ·rfl
  ·split
   ·rfl
   ·split
    ·rename_i hc
     show _=FA (cel gw V y) x (i % (gw+1))+_
     rw [if_neg (fun e2=>e ((jh3 hup).2 ⟨e2.symm,hc⟩))]
     omega
    ·rfl
theorem jfO {y x i:Nat} (hx:x < gw) (hup:¬ x+1+lb (x+1)<=gw):u7 gw V y x i=u7 gw V y (x+1) i:=by
 have hm:=Nat.mod_lt i (show gw+1 > 0 by omega)
 unfold u7
 split
 ·rfl
 ·split
  ·rfl
  ·split
   ·show _=FA (cel gw V y) x (i % (gw+1))+_
    rw [if_neg (by omega)]
    omega
   ·rfl
theorem jhP {y i:Nat} (hy:1<=y):u7 gw V y gw i=u7 gw V (y+1) 0 i:=by
 have hm:=Nat.mod_lt i (show gw+1 > 0 by omega)
 unfold u7
 split
 ·rfl
 ·rename_i h0
  by_cases h1:i / (gw+1) < y
  ·rw [if_pos h1,if_pos (by omega)]
  ·rw [if_neg h1]
   by_cases h2:i / (gw+1)=y
   ·rw [if_pos h2,if_pos (by omega),jby (by omega) gw (by omega),h2]
   ·rw [if_neg h2,if_neg (by omega)]
    split
    ·rename_i h3; rw [h3]; rfl
    ·rfl
theorem jld {i:Nat} (hi:i < (gh+1) * (gw+1)):u7 gw V (gh+1) 0 i=u6 gw V 1 0 i:=by
 have hd:i / (gw+1) < gh+1:=Nat.div_lt_of_lt_mul (by rw [Nat.mul_comm]; exact hi)
 unfold u7 u6
 split
 ·rfl
 ·rename_i h0
  rw [if_neg (show ¬ i % (gw+1)<=0 by omega)]; rfl
theorem jfL {y x:Nat} (hy:1<=y) (hx:x < gw) :
  kR (u6 gw V y x) ((y+lb y) * (gw+1)+(x+1)) (u6 gw V y x ((y+lb y) * (gw+1)+(x+1))+u6 gw V y x (y * (gw+1)+(x+1)))=u6 gw V y (x+1):=funext fun i=>by
 obtain ⟨k,rfl⟩:∃ k,y=k+1:=⟨y - 1,by omega⟩
 have h1:=jby (f:=fun y'=>FW (cel gw V y') (x+1)) (j:=k+1) (by omega) k (by omega)
 have h2:u6 gw V (k+1) x ((k+1+lb (k+1)) * (gw+1)+(x+1))=FA (fun y'=>FW (cel gw V y') (x+1)) k (k+1+lb (k+1)):=by rw [jbq (by omega),if_neg (by omega),if_neg (by omega),Nat.add_sub_cancel]
 have h3:u6 gw V (k+1) x ((k+1) * (gw+1)+(x+1))=FW (fun y'=>FW (cel gw V y') (x+1)) (k+1):=by rw [jbq (by omega),if_neg (by omega),if_neg (by omega),Nat.add_sub_cancel,h1]
 unfold kR
 rw [h2,h3]
 by_cases e:i=(k+1+lb (k+1)) * (gw+1)+(x+1)
 ·rw [if_pos e,e,jbq (by omega),if_neg (by omega),if_pos (by omega)]
  show _=FA (fun y'=>FW (cel gw V y') (x+1)) k _+_
  rw [if_pos rfl]
 ·rw [if_neg e]
  unfold u6
  split
  ·rfl
  ·by_cases h2:i % (gw+1)<=x
   ·rw [if_pos h2,if_pos (by omega)]
   ·rw [if_neg h2,Nat.add_sub_cancel]
    by_cases h3:i % (gw+1)=x+1
    ·rw [if_pos (by omega)]
     show _=FA _ k (i / (gw+1))+_
     rw [if_neg (fun e2=>e ((jh3 (by omega)).2 ⟨h3,e2.symm⟩))]
     omega
    ·rw [if_neg (by omega)]
theorem jfM {y i:Nat} (hi:i < (gh+1) * (gw+1)) (hup:¬ y+lb y<=gh) (hy:1<=y):u6 gw V y 0 i=u6 gw V (y+1) 0 i:=by
 have hd:i / (gw+1) < gh+1:=Nat.div_lt_of_lt_mul (by rw [Nat.mul_comm]; exact hi)
 obtain ⟨k,rfl⟩:∃ k,y=k+1:=⟨y - 1,by omega⟩
 unfold u6
 split
 ·rfl
 ·rw [if_neg (by omega),if_neg (by omega),Nat.add_sub_cancel,Nat.add_sub_cancel]
  show _=FA _ k (i / (gw+1))+_
  rw [if_neg (by omega)]
  omega
theorem jhN {y i:Nat}:u6 gw V y gw i=u6 gw V (y+1) 0 i:=by
 have hm:=Nat.mod_lt i (show gw+1 > 0 by omega)
 unfold u6
 split
 ·rfl
 ·rw [if_pos (by omega),if_neg (by omega),Nat.add_sub_cancel]
theorem jlc {i:Nat} (hi:i < (gh+1) * (gw+1)):u6 gw V (gh+1) 0 i=s7 gw V i:=by
 have hd:i / (gw+1) < gh+1:=Nat.div_lt_of_lt_mul (by rw [Nat.mul_comm]; exact hi)
 unfold u6 s7
 split
 ·rfl
 ·rw [if_neg (by omega),Nat.add_sub_cancel]
  exact jby (Nat.pos_of_ne_zero fun e=>by rename_i h0; exact h0 (.inr e)) gh (Nat.le_trans (Nat.sub_le _ _) (Nat.le_of_lt_succ hd))
theorem jhH (gw:Nat) (V:List Int) {x y:Nat} (hx:0 < x):FW2 gw V x y=FW (fun y'=>psm (cel gw V y') x) y - FW (fun y'=>psm (cel gw V y') (x - lb x)) y:=by
 unfold FW2
 rw [<-jkV]
 rfl
theorem dI (gw:Nat) (V:List Int) {w y:Nat} (hy:0 < y):FW (fun y'=>psm (cel gw V y') w) y=rT gw V w y - rT gw V w (y - lb y):=rfl
theorem jet (gw:Nat) (V:List Int) (y:Nat):∀ x,psm (cel gw V (y+1)) x=wJ V (y * gw) x
 | 0=>rfl
 | x+1=>by
  show psm (cel gw V (y+1)) x+cel gw V (y+1) (x+1)=wJ V (y * gw) x+V.getD (y * gw+x) 0
  rw [jet gw V y x]
  rfl
theorem xW (gw:Nat) (V:List Int) (x:Nat):∀ y,rT gw V x y=vH V gw y x
 | 0=>rfl
 | y+1=>by
  show psm (fun y'=>psm (cel gw V y') x) y+psm (cel gw V (y+1)) x=wJ V (y * gw) x+vH V gw y x
  have:=xW gw V x y
  unfold rT at this
  rw [this,jet]
  omega
end
end
section
open Go.RowKit
section
variable {P : Program} {e : Nat → Value} {w : World} {d : Option Tmp} {ty : TypeId} {ps : String} {af : Array Edge}
theorem lX (a b:Nat) (ha:a < 2 ^ 64) (hb:b < 2 ^ 64) (hlt:a &&& b < 2 ^ 63) (x y:Int) (hx:x % 2 ^ 64=a) (hy:y % 2 ^ 64=b) (w:World):(Op.intBits .and .i64 x y).run P w=.ok (ii ((a &&& b:Nat):Int)) w:=by
 have e1:(BitVec.ofInt 64 x).toNat=a:=by rw [BitVec.toNat_ofInt]; omega
 have e2:(BitVec.ofInt 64 y).toNat=b:=by rw [BitVec.toNat_ofInt]; omega
 have e3:(BitVec.ofInt 64 x &&& BitVec.ofInt 64 y).toNat=a &&& b:=by rw [BitVec.toNat_and,e1,e2]
 unfold Op.intBits
 show (pure (ii (IntKind.i64.wrap ((BitVec.ofInt 64 x &&& BitVec.ofInt 64 y).toNat:Int))):Sem Value).run P w=_
 rw [e3]
 have hw:IntKind.i64.wrap ((a &&& b:Nat):Int)=((a &&& b:Nat):Int):=by
  generalize a &&& b=n at *
  exact IntWalk.i64_in _ (by omega)
 rw [hw]
 rfl
theorem jea {t t':TypeId} {x y:Operand} {n:Nat} {m:Int} (hx:ev e x=ii n) (hy:ev e y=ii m) (hm:m=-(n:Int)) (h0:0 < n) (h1:n < 2 ^ 63):OpV P e ⟨d,.binOp .and t x y t',ty,ps,af,none⟩ (ii (lb n:Nat)):=by
 intro w
 subst hm
 have hl:=jcu 64 n h0 (by omega)
 have hle:=mH n
 have:=lX (P:=P) n (2 ^ 64 - n) (by omega) (by omega) (by omega) (n:Int) (-(n:Int)) (by omega) (by omega) w
 rw [hl] at this
 simp [OpR,execOp,hx,hy,eqGuard,binOp,this]
theorem jhj {t t':TypeId} {x y:Operand} {n:Nat} (hx:ev e x=ii n) (hy:ev e y=ii ((n:Int) - 1)) (h0:0 < n) (h1:n < 2 ^ 63):OpV P e ⟨d,.binOp .and t x y t',ty,ps,af,none⟩ (ii ((n - lb n:Nat):Int)):=by
 intro w
 have hl:=jfq n h0
 have:=lX (P:=P) n (n - 1) (by omega) (by omega) (by omega) (n:Int) ((n:Int) - 1) (by omega) (by omega) w
 rw [hl] at this
 simp [OpR,execOp,hx,hy,eqGuard,binOp,this]
end
end
section
open Go.RowKit
theorem sY {P:Program} {w:World} {op:BinOp} {t:TypeId} {x y:Operand} {a b:Array Value} (h:P.eqGuardType P.depth t=false):(eqGuard op t x y (.agg a) (.agg b)).run P w=.ok () w:=by
 unfold eqGuard
 cases op <;> simp [h]
theorem jdH (a b c d:Int) (w:World):(binOp .eql 23 (.agg #[ii a,ii b]) (.agg #[ii c,ii d])).run Tryz.prog w=.ok (.bool (decide (a=c/\b=d))) w:=by
 have u3:=q2
 have a3:=Tryz.isAgg2
 have z3:=qz2
 have hS:Tryz.prog.underlying 23=some (.struct (Tryz.prog.fieldsOf 23)):=by kernel_rfl
 have hp:Tryz.prog.stoodInHeld 23=false:=by kernel_rfl
 rw [run_eql_struct,show (10000:Nat)=9999+1 from rfl,run_equalIn_agg w 9999 23 _ _ hS hp]
 simp only [Program.fieldsOf,q23]
 go_simp
 by_cases h1:a=c <;> by_cases h2:b=d <;> simp [h1,h2]
section
variable {e : Nat → Value} {dd : Option Tmp} {ty : TypeId} {ps : String} {af : Array Edge} {t' : TypeId} {x y : Operand} {a b c d : Int}
theorem jfi {r:Bool} (hx:ev e x=.agg #[ii a,ii b]) (hy:ev e y=.agg #[ii c,ii d]) (hr:decide (a=c/\b=d)=r):OpV Tryz.prog e ⟨dd,.binOp .eql 23 x y t',ty,ps,af,none⟩ (.bool r):=by
 intro w
 subst hr
 have hg:∀ w,(eqGuard .eql 23 x y (.agg #[ii a,ii b]) (.agg #[ii c,ii d])).run Tryz.prog w=.ok () w:=fun w=>sY (by kernel_rfl)
 simp [OpR,execOp,hx,hy,hg,jdH]
end
def cz (gw j:Nat):Int × Int:=(((j % gw:Nat):Int),((j / gw:Nat):Int))
theorem jjS {gw gh i:Nat} (hgw:0 < gw) (hi:i < gw * gh):inG gw gh (cz gw i)=true:=by
 have h1:=Nat.mod_lt i hgw
 have h2:i / gw < gh:=Nat.div_lt_of_lt_mul hi
 refine uM.2 ?_
 unfold cz
 dsimp only
 generalize i % gw=x at *
 generalize i / gw=y at *
 omega
theorem jkI {gw i:Nat}:(cz gw i).2.toNat * gw+(cz gw i).1.toNat=i:=by
 unfold cz
 simp only [Int.toNat_natCast]
 rw [Nat.mul_comm]
 exact Nat.div_add_mod i gw
end
section
open Go.RowKit
section
variable {P : Program} {e : Nat → Value} {d : Option Tmp} {ty : TypeId} {ps : String} {af : Array Edge}
end
def fO (V:List Int) (gw x0 y0 x1 y1:Nat):Int:=vH V gw (y1+1) (x1+1) - vH V gw (y1+1) x0 - vH V gw y0 (x1+1)+vH V gw y0 x0
section
variable {W : World} {tb gw gh : Nat} {V : List Int}
theorem jib (x0 y0 x1 y1:Nat) (hw:1<=gw/\gw<=1024) (hh:1<=gh/\gh<=1024) (hx:x0<=x1/\x1 < gw) (hy:y0<=y1/\y1 < gh) (hA:AreaAt W tb gw gh V) :
  Fn Tryz.prog 197 [pt tb,.agg #[ii x0,ii y0,ii x1,ii y1]] W (yK (ii 0) W):=by
 obtain ⟨Ao,co,As,cs,hT,hO,hF⟩:=hA
 have hwi:kD x0 y0 x1 y1 gw gh=0:=qW (by omega) (by omega) (by omega) (by omega)
 have S:=St.start W
 refine zn Tryz.func197 Tryz.results197 Tryz.ntmps197 ?_
 refine zs ?_
 refine jF (jO rfl) S ?_
 intro b_r w2_ g2_ S
 iterate 3 refine z ?_
 refine zc ?_
 refine jM rfl ?_
 refine zc ?_
 refine j5 ?_
 try show CW _ _ _ _ _ _
 refine zc ?_
 refine yB (C:=fun wq=>Gr w2_ wq) [0,1,2,3,4,5,6,7,8,9,10] [] (by kernel_rfl) (by kernel_rfl) (Gr.drew _) ?_
 simp only [j6,List.drop_succ_cons,List.drop_zero]
 refine jV (fun wq hq=>jT q27 rfl (y6 _) rfl ((S.gr hq).blk (i:=0) rfl) rfl rfl) ?_
 iterate 3 refine y ?_
 refine jV (fun wq hq=>jB q2 rfl rfl (hT.gr (S.gr hq).out) rfl) ?_
 iterate 3 refine y ?_
 refine jV (fun wq hq=>jB q2 rfl rfl (hT.gr (S.gr hq).out) rfl) ?_
 refine y8 rfl (fun wq hq=>(zI _ _ _ _ _ _ (by omega) (by omega) wq).mono (fun _ _ ⟨hv,hg⟩=>⟨hv,hq.trans hg⟩)) ?_
 refine y ?_
 refine yJ ?_
 intro w3_ g3_
 have S:=S.gr g3_
 refine zq ?_
 exact yD rfl ⟨by rw [hwi],S.out⟩
theorem jkR (x0 y0 x1 y1:Nat) (hB:vB V) (hw:1<=gw/\gw<=1024) (hh:1<=gh/\gh<=1024) (hx:x0<=x1/\x1 < gw) (hy:y0<=y1/\y1 < gh) (hA:AreaAt W tb gw gh V) :
  Fn Tryz.prog 123 [pt tb,.agg #[ii x0,ii y0,ii x1,ii y1]] W (yK (.tuple #[ii (fO V gw x0 y0 x1 y1),ii 0]) W):=by
 have hA':=hA
 obtain ⟨Ao,co,As,cs,hT,hO,hF⟩:=hA'
 have hrt:=(hF y0 (by omega)).rd
 have hrb:=(hF (y1+1) (by omega)).rd
 have hO':=hO.rd
 have sa_O:yH Ao:=hO.someA (by omega)
 have sa_rt:yH (As y0):=(hF y0 (by omega)).someA (by omega)
 have sa_rb:yH (As (y1+1)):=(hF (y1+1) (by omega)).someA (by omega)
 have g0:=jaM (As:=As) (n:=gw+1) (cs:=cs) (show y0 < gh+1 by omega)
 have g1:=jaM (As:=As) (n:=gw+1) (cs:=cs) (show y1+1 < gh+1 by omega)
 have ey:(y1:Int)+1=((y1+1:Nat):Int):=by push_cast; rfl
 have ex:(x1:Int)+1=((x1+1:Nat):Int):=by push_cast; rfl
 have b1:=qE (o:=vH V gw (y1+1)) (show x1+1 < gw+1 by omega)
 have b2:=qE (o:=vH V gw (y1+1)) (show x0 < gw+1 by omega)
 have b3:=qE (o:=vH V gw y0) (show x1+1 < gw+1 by omega)
 have b4:=qE (o:=vH V gw y0) (show x0 < gw+1 by omega)
 have h1:=wA hB gw (x:=x1+1) (by omega) (y1+1)
 have h2:=wA hB gw (x:=x0) (by omega) (y1+1)
 have h3:=wA hB gw (x:=x1+1) (by omega) y0
 have h4:=wA hB gw (x:=x0) (by omega) y0
 unfold fO
 generalize vH V gw (y1+1) (x1+1)=p1 at *
 generalize vH V gw (y1+1) x0=p2 at *
 generalize vH V gw y0 (x1+1)=p3 at *
 generalize vH V gw y0 x0=p4 at *
 have S:=St.start W
 refine zn Tryz.func123 Tryz.results123 Tryz.ntmps123 ?_
 refine zs ?_
 refine jF (jO rfl) S ?_
 intro b_r w2_ g2_ S
 iterate 4 refine z ?_
 refine jC rfl (jib x0 y0 x1 y1 hw hh hx hy (hA.gr S.out)) ?_
 rintro _ w3_ ⟨rfl,g3_⟩
 have S:=S.gr g3_
 refine z ?_; refine z ?_; refine zf ?_
 refine zc ?_
 refine jM rfl ?_
 refine zc ?_
 refine j5 ?_
 try show CW _ _ _ _ _ _
 refine zc ?_
 refine yB (C:=fun wq=>Gr w3_ wq) [0,1,2,3,4,5,6,7,8,9,10,11,12,13,14,15,16,17,18] [] (by kernel_rfl) (by kernel_rfl) (Gr.drew _) ?_
 simp only [j6,List.drop_succ_cons,List.drop_zero]
 iterate 3 refine y ?_
 refine jV (fun wq hq=>jB jgQ rfl rfl (hT.gr (S.gr hq).out) rfl) ?_
 refine y ?_
 refine jV (fun wq hq=>jB q2 rfl rfl ((S.gr hq).blk (i:=0) rfl) rfl) ?_
 refine yx ?_
 refine jV (fun wq hq=>j7 q30 rfl rfl (hO'.gr (S.gr hq).out) g0) ?_
 iterate 3 refine y ?_
 refine jV (fun wq hq=>jB jgQ rfl rfl (hT.gr (S.gr hq).out) rfl) ?_
 refine y ?_
 refine jV (fun wq hq=>jB q2 rfl rfl ((S.gr hq).blk (i:=0) rfl) rfl) ?_
 refine yr ?_
 rw [ey]
 refine yx ?_
 refine jV (fun wq hq=>j7 q30 rfl rfl (hO'.gr (S.gr hq).out) g1) ?_
 refine y ?_; refine y ?_
 refine yJ ?_
 intro w4_ g4_
 have S:=S.gr g4_
 refine zc ?_
 refine yB (C:=fun wq=>Gr w4_ wq) [0,1,2,3,4,5,6,7,8,9,10,11,12,13,14,15,16,17,18,19,20,21,22,23,24,25,26] [] (by kernel_rfl) (by kernel_rfl) (Gr.drew _) ?_
 simp only [j6,List.drop_succ_cons,List.drop_zero]
 refine y ?_; refine y ?_
 refine jV (fun wq hq=>jB q2 rfl rfl ((S.gr hq).blk (i:=0) rfl) rfl) ?_
 refine yr ?_
 rw [ex]
 refine yx ?_
 refine jV (fun wq hq=>j7 q2 rfl rfl (hrb.gr (S.gr hq).out) b1) ?_
 refine y ?_; refine y ?_
 refine jV (fun wq hq=>jB q2 rfl rfl ((S.gr hq).blk (i:=0) rfl) rfl) ?_
 refine yx ?_
 refine jV (fun wq hq=>j7 q2 rfl rfl (hrb.gr (S.gr hq).out) b2) ?_
 refine yr ?_; refine y ?_; refine y ?_
 refine jV (fun wq hq=>jB q2 rfl rfl ((S.gr hq).blk (i:=0) rfl) rfl) ?_
 refine yr ?_
 rw [ex]
 refine yx ?_
 refine jV (fun wq hq=>j7 q2 rfl rfl (hrt.gr (S.gr hq).out) b3) ?_
 refine yr ?_; refine y ?_; refine y ?_
 refine jV (fun wq hq=>jB q2 rfl rfl ((S.gr hq).blk (i:=0) rfl) rfl) ?_
 refine yx ?_
 refine jV (fun wq hq=>j7 q2 rfl rfl (hrt.gr (S.gr hq).out) b4) ?_
 refine yr ?_; refine y ?_; refine y ?_
 refine yJ ?_
 intro w5_ g5_
 have S:=S.gr g5_
 refine zq ?_
 exact kY rfl rfl ⟨rfl,S.out⟩
end
end
section
open Go.RowKit
def FenAt (w:World) (tb gw gh:Nat) (f:Nat->Int):Prop:=∃ A c,Blk w tb 250 [ii gw,ii gh,.slice A ((gh+1) * (gw+1)) c]/\Rd w A (yN ((gh+1) * (gw+1)) f)
theorem FenAt.gr {w w':World} {tb gw gh:Nat} {f:Nat->Int} (h:FenAt w tb gw gh f) (g:Gr w w'):FenAt w' tb gw gh f:=by
 obtain ⟨A,c,h1,h2⟩:=h
 exact ⟨A,c,h1.gr g,h2.gr g⟩
theorem fH {gw gh x y:Nat} (hx:x<=gw) (hy:y<=gh):y * (gw+1)+x < (gh+1) * (gw+1):=by
 have:=Nat.mul_le_mul_right (gw+1) hy
 rw [Nat.succ_mul]
 omega
theorem bX {gw gh:Nat} (hw:gw<=1024) (hh:gh<=1024):(gh+1) * (gw+1)<=1025 * 1025:=Nat.mul_le_mul (by omega) (by omega)
theorem jcc {V:List Int} {gw:Nat} (hB:vB V) {x y:Nat} (hx:x<=1024) (hy:y<=1024):-2251799813685248<=rT gw V x y/\rT gw V x y<=2251799813685248:=by
 have:=wA hB gw hx y
 rw [xW]
 omega
section
variable {W : World} {tb gw gh : Nat} {V : List Int} {f : Nat → Int}
theorem jjR (x y:Nat) (hw:gw<=1024) (hh:gh<=1024) (hx:x<=gw) (hy:y<=gh) (hF:FenAt W tb gw gh f):Fn Tryz.prog 212 [pt tb,ii x,ii y] W (yK (ii (y * (gw+1)+x:Nat)) W):=by
 obtain ⟨A,c,hT,hR⟩:=hF
 have h1:=fH hx hy
 have h2:=bX hw hh
 have e1:(y:Int) * ((gw:Int)+1)=((y * (gw+1):Nat):Int):=by push_cast; rfl
 have h3:y * (gw+1)<=1025 * 1025:=by omega
 have S:=St.start W
 refine zn Tryz.func212 Tryz.results212 Tryz.ntmps212 ?_
 iterate 5 refine z ?_
 refine j3 (jB q2 rfl rfl (hT.gr S.out) rfl) ?_
 refine zr ?_
 refine jE (yI rfl (by rw [e1]; omega)) ?_
 rw [e1]
 refine z ?_; refine zr ?_; refine z ?_
 refine zq ?_
 exact yD rfl ⟨ie (by push_cast; omega),S.out⟩
theorem cD (x0 y0:Nat) (hB:vB V) (hw:gw<=1024) (hh:gh<=1024) (hx:x0<=gw) (hy:y0<=gh) (hF:FenAt W tb gw gh (s7 gw V)):Fn Tryz.prog 133 [pt tb,ii x0,ii y0] W (yK (ii (rT gw V x0 y0)) W):=by
 have hF0:=hF
 obtain ⟨A,c,hT,hR⟩:=hF
 have hsz:=bX hw hh
 have hpb:=fun x y hx hy=>jcc (gw:=gw) hB (x:=x) (y:=y) hx hy
 have sa_A:yH A:=hR.someA (by rw [u9,Nat.succ_mul]; omega)
 have S:=St.start W
 refine zn Tryz.func133 Tryz.results133 Tryz.ntmps133 ?_
 iterate 4 refine z ?_
 refine zc ?_
 refine jS ?_
 refine zc ?_
 refine j9 (fun m e w=>m<=gh/\SL e [(0,pt tb),(1,ii x0),(7,ii (rT gw V x0 y0 - rT gw V x0 m)),(8,ii m)]/\St No W w []) y0
  ⟨hy,⟨rfl,rfl,ie (by omega),rfl,trivial⟩,S⟩ ?_
 clear S
 rintro y e w ⟨hyg,hsl,S⟩
 rw [hsl.fold]
 have b0:=hpb x0 y0 (by omega) (by omega)
 have b1:=hpb x0 y (by omega) (by omega)
 generalize hP0:rT gw V x0 y0=P0 at *
 by_cases hy0:0 < y
 ·have hly:=mH y
  have hlp:=mG hy0
  have hrow:=dI gw V (w:=x0) hy0
  refine z ?_; refine zt ?_; refine z ?_; refine z ?_
  refine zc ?_
  refine jS ?_
  refine zc ?_
  refine j9 (fun m e w=>m<=x0/\SL e [(0,pt tb),(1,ii x0),(7,ii (P0 - rT gw V x0 y+(FW (fun y'=>psm (cel gw V y') x0) y - FW (fun y'=>psm (cel gw V y') m) y))),(8,ii y),(9,ii m)]/\St No W w []) x0
   ⟨Nat.le_refl _,⟨rfl,rfl,ie (by omega),rfl,rfl,trivial⟩,S⟩ ?_
  clear S
  rintro x e2 w2 ⟨hxg,hsl2,S⟩
  rw [hsl2.fold]
  by_cases hx0:0 < x
  ·have hlx:=mH x
   have hlxp:=mG hx0
   have hidx:=fH (gw:=gw) (gh:=gh) (x:=x) (y:=y) (by omega) hyg
   have hst:=jhH gw V (y:=y) hx0
   have hget:(yN ((gh+1) * (gw+1)) (s7 gw V))[((y * (gw+1)+x:Nat):Int).toNat * 1]?=some (ii (FW2 gw V x y)):=by
    rw [qE hidx,jjp (by omega),if_neg (by omega)]
   have c1:=dI gw V (w:=x) hy0
   have c2:=dI gw V (w:=x - lb x) hy0
   have d1:=hpb x y (by omega) (by omega)
   have d2:=hpb x (y - lb y) (by omega) (by omega)
   have d3:=hpb (x - lb x) y (by omega) (by omega)
   have d4:=hpb (x - lb x) (y - lb y) (by omega) (by omega)
   have d5:=hpb x0 (y - lb y) (by omega) (by omega)
   have em:((x:Nat):Int) - 1=(x:Int) - 1:=rfl
   generalize FW (fun y'=>psm (cel gw V y') x) y=R1 at *
   generalize FW (fun y'=>psm (cel gw V y') x0) y=R0 at *
   generalize hR2:FW (fun y'=>psm (cel gw V y') (x - lb x)) y=R2 at *
   refine z ?_; refine zt ?_
   refine zc ?_
   refine yS rfl ?_
   refine zc ?_
   refine j5 ?_
   try show CW _ _ _ _ _ _
   refine zc ?_
   refine jS ?_
   refine zc ?_
   refine yB (C:=fun wq=>Gr w2 wq) [0,1,2,3,4,5,6,7,8,9,10,11,12] [] (by kernel_rfl) (by kernel_rfl) (Gr.drew _) ?_
   simp only [j6,List.drop_succ_cons,List.drop_zero]
   iterate 3 refine jW (jA rfl) ?_
   refine jW (jD Tryz.underlying250 rfl f5 rfl rfl) ?_
   refine jV (fun wq hq=>jB q30 rfl rfl (hT.gr (S.gr hq).out) rfl) ?_
   iterate 3 refine jW (jA rfl) ?_
   refine y8 rfl (fun wq hq=>(jjR x y hw hh (by omega) hyg (hF0.gr (S.gr hq).out)).mono (fun _ _ ⟨hv,hg⟩=>⟨hv,hq.trans hg⟩)) ?_
   refine yx ?_
   refine jV (fun wq hq=>j7 q2 rfl rfl (hR.gr (S.gr hq).out) hget) ?_
   refine jW (yI rfl (by omega)) ?_
   refine jW (jA rfl) ?_
   refine yJ ?_
   intro w1_ g1_
   have S:=S.gr g1_
   refine z ?_; refine z ?_; refine zr ?_
   refine jE (jhj rfl rfl hx0 (by omega)) ?_
   refine z ?_
   refine ze ?_
   exact ⟨x - lb x,by omega,by omega,⟨rfl,rfl,ie (by rw [hR2]; omega),rfl,rfl,trivial⟩,S⟩
  ·obtain rfl:x=0:=by omega
   have hz:FW (fun y'=>psm (cel gw V y') 0) y=0:=by
    have h0:∀ n,psm (fun y'=>psm (cel gw V y') 0) n=0:=fun n=>by
     induction n with
     | zero=>rfl
     | succ n ih=>show psm _ n+0=0; rw [ih]; rfl
    unfold FW; rw [h0,h0]; rfl
   rw [hz] at *
   refine z ?_; refine zf ?_
   refine zc ?_
   refine jM rfl ?_
   refine zc ?_
   refine jY ?_
   repeat first | refine jP ?_ | refine jU ?_
   show CW _ _ _ _ _ _
   refine z ?_; refine z ?_; refine zr ?_
   refine jE (jhj rfl rfl hy0 (by omega)) ?_
   refine z ?_
   refine ze ?_
   exact ⟨y - lb y,by omega,by omega,⟨rfl,rfl,ie (by omega),rfl,trivial⟩,S⟩
 ·obtain rfl:y=0:=by omega
  have hz:rT gw V x0 0=0:=rfl
  refine z ?_; refine zf ?_
  refine zc ?_
  refine jM rfl ?_
  refine zc ?_
  refine jY ?_
  repeat first | refine jP ?_ | refine jU ?_
  show CW _ _ _ _ _ _
  refine z ?_; refine z ?_
  refine zq ?_
  exact yD rfl ⟨ie (by omega),S.out⟩
theorem jkE (x0 y0 x1 y1:Nat) (hB:vB V) (hw:1<=gw/\gw<=1024) (hh:1<=gh/\gh<=1024) (hx:x0<=x1/\x1 < gw) (hy:y0<=y1/\y1 < gh) (hF:FenAt W tb gw gh (s7 gw V)) :
  Fn Tryz.prog 68 [pt tb,.agg #[ii x0,ii y0,ii x1,ii y1]] W (yK (.tuple #[ii (fO V gw x0 y0 x1 y1),ii 0]) W):=by
 have hF0:=hF
 obtain ⟨A,c,hT,hR⟩:=hF
 have hwi:kD x0 y0 x1 y1 gw gh=0:=qW (by omega) (by omega) (by omega) (by omega)
 have ey:(y1:Int)+1=((y1+1:Nat):Int):=by push_cast; rfl
 have ex:(x1:Int)+1=((x1+1:Nat):Int):=by push_cast; rfl
 have hpb:=fun x y hx hy=>jcc (gw:=gw) hB (x:=x) (y:=y) hx hy
 have d1:=hpb (x1+1) (y1+1) (by omega) (by omega)
 have d2:=hpb x0 (y1+1) (by omega) (by omega)
 have d3:=hpb (x1+1) y0 (by omega) (by omega)
 have d4:=hpb x0 y0 (by omega) (by omega)
 have S:=St.start W
 refine zn Tryz.func68 Tryz.results68 Tryz.ntmps68 ?_
 refine zs ?_
 refine jF (jO rfl) S ?_
 intro b_r w2_ g2_ S
 iterate 4 refine z ?_
 refine zc ?_
 refine jM rfl ?_
 refine zc ?_
 refine j5 ?_
 try show CW _ _ _ _ _ _
 refine zc ?_
 refine yB (C:=fun wq=>Gr w2_ wq) [0,1,2,3,4,5,6,7,8,9,10] [] (by kernel_rfl) (by kernel_rfl) (Gr.drew _) ?_
 simp only [j6,List.drop_succ_cons,List.drop_zero]
 refine jV (fun wq hq=>jT q27 rfl (y6 _) rfl ((S.gr hq).blk (i:=0) rfl) rfl rfl) ?_
 iterate 3 refine y ?_
 refine jV (fun wq hq=>jB q2 rfl rfl (hT.gr (S.gr hq).out) rfl) ?_
 iterate 3 refine y ?_
 refine jV (fun wq hq=>jB q2 rfl rfl (hT.gr (S.gr hq).out) rfl) ?_
 refine y8 rfl (fun wq hq=>(zI _ _ _ _ _ _ (by omega) (by omega) wq).mono (fun _ _ ⟨hv,hg⟩=>⟨hv,hq.trans hg⟩)) ?_
 rw [hwi]
 refine y ?_
 refine yJ ?_
 intro w3_ g3_
 have S:=S.gr g3_
 refine z ?_; refine zf ?_
 refine zc ?_
 refine jM rfl ?_
 refine zc ?_
 refine j5 ?_
 try show CW _ _ _ _ _ _
 refine zc ?_
 refine yB (C:=fun wq=>Gr w3_ wq) [0,1,2,3,4,5,6,7] [] (by kernel_rfl) (by kernel_rfl) (Gr.drew _) ?_
 simp only [j6,List.drop_succ_cons,List.drop_zero]
 refine y ?_
 refine jV (fun wq hq=>jB q2 rfl rfl ((S.gr hq).blk (i:=0) rfl) rfl) ?_
 refine yr ?_
 rw [ex]
 refine y ?_
 refine jV (fun wq hq=>jB q2 rfl rfl ((S.gr hq).blk (i:=0) rfl) rfl) ?_
 refine yr ?_
 rw [ey]
 refine y ?_; refine y ?_
 refine yJ ?_
 intro w4_ g4_
 have S:=S.gr g4_
 refine zc ?_
 refine yB (C:=fun wq=>Gr w4_ wq) [0,1,2,3,4,5,6,7,8,9,10,11,12,13,14,15,16,17,18,19,20,21,22,23,24] [] (by kernel_rfl) (by kernel_rfl) (Gr.drew _) ?_
 simp only [j6,List.drop_succ_cons,List.drop_zero]
 iterate 3 refine y ?_
 refine y8 rfl (fun wq hq=>(cD (x1+1) (y1+1) hB hw.2 hh.2 (by omega) (by omega) (hF0.gr (S.gr hq).out)).mono (fun _ _ ⟨hv,hg⟩=>⟨hv,hq.trans hg⟩)) ?_
 refine y ?_; refine y ?_
 refine jV (fun wq hq=>jB q2 rfl rfl ((S.gr hq).blk (i:=0) rfl) rfl) ?_
 refine y ?_
 refine y8 rfl (fun wq hq=>(cD x0 (y1+1) hB hw.2 hh.2 (by omega) (by omega) (hF0.gr (S.gr hq).out)).mono (fun _ _ ⟨hv,hg⟩=>⟨hv,hq.trans hg⟩)) ?_
 refine yr ?_; iterate 3 refine y ?_
 refine jV (fun wq hq=>jB q2 rfl rfl ((S.gr hq).blk (i:=0) rfl) rfl) ?_
 refine y8 rfl (fun wq hq=>(cD (x1+1) y0 hB hw.2 hh.2 (by omega) (by omega) (hF0.gr (S.gr hq).out)).mono (fun _ _ ⟨hv,hg⟩=>⟨hv,hq.trans hg⟩)) ?_
 refine yr ?_; refine y ?_; refine y ?_
 refine jV (fun wq hq=>jB q2 rfl rfl ((S.gr hq).blk (i:=0) rfl) rfl) ?_
 refine y ?_
 refine jV (fun wq hq=>jB q2 rfl rfl ((S.gr hq).blk (i:=0) rfl) rfl) ?_
 refine y8 rfl (fun wq hq=>(cD x0 y0 hB hw.2 hh.2 (by omega) (by omega) (hF0.gr (S.gr hq).out)).mono (fun _ _ ⟨hv,hg⟩=>⟨hv,hq.trans hg⟩)) ?_
 refine yr ?_; refine y ?_; refine y ?_
 refine yJ ?_
 intro w5_ g5_
 have S:=S.gr g5_
 refine zq ?_
 refine kY rfl rfl ⟨?_,S.out⟩
 unfold fO
 rw [xW,xW,xW,xW]
end
end
section
open Go.RowKit
theorem jb8 {f:Nat->Int} {M:Int} (h:∀ i,-M<=f i/\f i<=M) (b:Nat):∀ d:Nat,-(d * M)<=psm f (b+d) - psm f b/\psm f (b+d) - psm f b<=d * M
 | 0=>by simp
 | d+1=>by
  have ih:=jb8 h b d
  have:=h (b+d+1)
  have e:((d+1:Nat):Int) * M=d * M+M:=by push_cast; rw [Int.add_mul,Int.one_mul]
  show _<=psm f (b+d)+f (b+d+1) - psm f b/\psm f (b+d)+f (b+d+1) - psm f b<=_
  rw [e]
  omega
theorem jdQ {f:Nat->Int} {M:Int} (hM:0<=M) (h:∀ i,-M<=f i/\f i<=M) {k K:Nat} (hk:k<=K):-(K * M)<=FW f k/\FW f k<=K * M:=by
 have h1:=mH k
 have h2:=jb8 h (k - lb k) (lb k)
 rw [show k - lb k+lb k=k by omega] at h2
 have h4:((lb k:Nat):Int)<=(K:Int):=by omega
 have h3:((lb k:Nat):Int) * M<=(K:Int) * M:=Int.mul_le_mul_of_nonneg_right h4 hM
 unfold FW
 omega
theorem jdR {f:Nat->Int} {M:Int} (hM:0<=M) (h:∀ i,-M<=f i/\f i<=M) {K:Nat} (j:Nat):∀ k,k<=K->-(M+k * (K * M))<=FA f k j/\FA f k j<=M+k * (K * M)
 | 0,_=>by have:=h j; show _<=f j/\f j<=_; simp; omega
 | k+1,hk=>by
  have ih:=jdR (K:=K) hM h j k (by omega)
  have h1:=jdQ hM h (k:=k+1) (K:=K) hk
  have h0:0<=(K:Int) * M:=Int.mul_nonneg (by omega) hM
  have e:((k+1:Nat):Int) * (K * M)=k * (K * M)+K * M:=by push_cast; rw [Int.add_mul,Int.one_mul]
  rw [e]
  show _<=FA f k j+(if k+1+lb (k+1)=j then FW f (k+1) else 0)/\FA f k j+(if k+1+lb (k+1)=j then FW f (k+1) else 0)<=_
  split <;> omega
theorem pG {gw:Nat} {V:List Int} (hB:vB V) (y i:Nat):-2147483648<=cel gw V y i/\cel gw V y i<=2147483648:=by
 have:=hB ((y - 1) * gw+(i - 1)); unfold cel; omega
theorem jhQ {gw:Nat} {V:List Int} (hB:vB V) (hw:gw<=1024) {y k:Nat} (hk:k<=gw) (i:Nat):-4503599627370496<=u7 gw V y k i/\u7 gw V y k i<=4503599627370496:=by
 have hm:=Nat.mod_lt i (show gw+1 > 0 by omega)
 unfold u7
 split
 ·omega
 ·split
  ·have:=jdQ (by omega) (pG (gw:=gw) hB (i / (gw+1))) (k:=i % (gw+1)) (K:=1024) (by omega); omega
  ·split
   ·have h1:=jdR (by omega) (pG (gw:=gw) hB y) (K:=1024) (i % (gw+1)) k (by omega)
    have h2:(k:Int) * ((1024:Nat) * 2147483648)<=1024 * ((1024:Nat) * 2147483648):=Int.mul_le_mul_of_nonneg_right (by omega) (by omega)
    omega
   ·have:=pG (gw:=gw) hB (i / (gw+1)) (i % (gw+1)); omega
theorem jhO {gw:Nat} {V:List Int} (hB:vB V) (hw:gw<=1024) {y k:Nat} (hy:y<=1024) (i:Nat):-2310346608841064448<=u6 gw V y k i/\u6 gw V y k i<=2310346608841064448:=by
 have hm:=Nat.mod_lt i (show gw+1 > 0 by omega)
 unfold u6
 split
 ·omega
 ·have h0:∀ y',-2199023255552<=FW (cel gw V y') (i % (gw+1))/\FW (cel gw V y') (i % (gw+1))<=2199023255552:=fun y'=>by
   have:=jdQ (by omega) (pG (gw:=gw) hB y') (k:=i % (gw+1)) (K:=1024) (by omega); omega
  have h1:=jdR (by omega) h0 (K:=1024) (i / (gw+1)) (if i % (gw+1)<=k then y else y - 1) (by split <;> omega)
  have h2:((if i % (gw+1)<=k then y else y - 1:Nat):Int) * ((1024:Nat) * 2199023255552)<=1024 * ((1024:Nat) * 2199023255552):=Int.mul_le_mul_of_nonneg_right (by split <;> omega) (by omega)
  omega
def lK (gw:Nat) (V:List Int) (k i:Nat):Int:=if i % (gw+1)=0\/i / (gw+1)=0 then 0 else if (i / (gw+1) - 1) * gw+(i % (gw+1) - 1) < k then V.getD ((i / (gw+1) - 1) * gw+(i % (gw+1) - 1)) 0 else 0
theorem jfJ (gw:Nat) (V:List Int):lK gw V 0=fun _=>0:=funext fun i=>by unfold lK; split <;> simp
theorem jfK {gw k:Nat} {V:List Int} (hw:1<=gw):kR (lK gw V k) ((k / gw+1) * (gw+1)+(k % gw+1)) (V.getD k 0)=lK gw V (k+1):=funext fun i=>by
 have hm:=Nat.mod_lt k (show gw > 0 by omega)
 have hdm:=Nat.div_add_mod k gw
 rw [Nat.mul_comm] at hdm
 unfold kR
 by_cases e:i=(k / gw+1) * (gw+1)+(k % gw+1)
 ·rw [if_pos e,e]
  unfold lK
  rw [m5 (gw:=gw) (x:=k % gw+1) (by omega),m6 (gw:=gw) (x:=k % gw+1) (by omega),if_neg (fun h=>h.elim (Nat.succ_ne_zero _) (Nat.succ_ne_zero _)),Nat.add_sub_cancel,Nat.add_sub_cancel,hdm,if_pos (by omega)]
 ·rw [if_neg e]
  unfold lK
  split
  ·rfl
  ·rename_i h0
   have hmi:=Nat.mod_lt i (show gw+1 > 0 by omega)
   have hne:(i / (gw+1) - 1) * gw+(i % (gw+1) - 1) ≠ k:=fun e2=>e (by
    have a1:k % gw=i % (gw+1) - 1:=by rw [<-e2,Nat.mul_comm,Nat.mul_add_mod,Nat.mod_eq_of_lt (show i % (gw+1) - 1 < gw by omega)]
    have a2:k / gw=i / (gw+1) - 1:=by rw [<-e2,Nat.mul_comm,Nat.mul_add_div (by omega),Nat.div_eq_of_lt (show i % (gw+1) - 1 < gw by omega),Nat.add_zero]
    refine (jh3 (gw:=gw) (x:=k % gw+1) (y:=k / gw+1) (by omega)).2 ⟨by omega,?_⟩
    rw [a2]
    generalize i / (gw+1)=q at *
    omega)
   by_cases h1:(i / (gw+1) - 1) * gw+(i % (gw+1) - 1) < k
   ·rw [if_pos h1,if_pos (by omega)]
   ·rw [if_neg h1,if_neg (by omega)]
theorem jhM {gw gh:Nat} {V:List Int} (hw:1<=gw) {i:Nat} (hi:i < (gh+1) * (gw+1)):lK gw V (gw * gh) i=u7 gw V 1 0 i:=by
 have hd:i / (gw+1) < gh+1:=Nat.div_lt_of_lt_mul (by rw [Nat.mul_comm]; exact hi)
 have hm:=Nat.mod_lt i (show gw+1 > 0 by omega)
 unfold lK u7
 split
 ·rfl
 ·rename_i h0
  have h1:(i / (gw+1) - 1) * gw+gw<=gw * gh:=by
   have:(i / (gw+1) - 1+1) * gw<=gh * gw:=Nat.mul_le_mul_right _ (by generalize i / (gw+1)=q at *; omega)
   rw [Nat.add_mul,Nat.one_mul,Nat.mul_comm gh] at this
   exact this
  rw [if_pos (by omega),if_neg (by generalize i / (gw+1)=q at *; omega)]
  split
  ·rename_i h2
   show _=cel gw V 1 (i % (gw+1))
   unfold cel
   rw [h2]
  ·rfl
section
variable {W : World} {A : Option Addr} {p gw gh cap : Nat} {cc : Nat → Int} {bs : Nat → Nat} {Rs : Nat → Option Nat}
theorem jfz (hG:GridAt W p gw gh cc A cap bs Rs):∀ w,Gr W w->Fn Tryz.prog 25 [pt p,.agg #[ii 0,ii 0,ii (gw - 1),ii (gh - 1)]] w (qR (fun v=>.tuple #[v,ii 0]) 2 1 (gw * gh) (yC (yA gw gh cc)) w):=fun w g=>by
 have hw:=hG.sw
 have hh:=hG.sh
 have e1:((gw:Int) - 1)=((gw - 1:Nat):Int):=by omega
 have e2:((gh:Int) - 1)=((gh - 1:Nat):Int):=by omega
 have:=qN (W:=w) 0 0 (gw - 1) (gh - 1) (by omega) (by omega) (hG.gr g)
 rw [<-e1,<-e2,show gw - 1+1 - 0=gw by omega,show gh - 1+1 - 0=gh by omega,gK,Nat.mul_comm gh gw] at this
 exact this
theorem jkF (gw gh:Nat) (hw:1<=gw/\gw<=1024) (hh:1<=gh/\gh<=1024) (W:World):Fn Tryz.prog 369 [ii gw,ii gh] W (fun v w'=>∃ tb A,v=.tuple #[pt tb,ii 0] /\
  St No W w' [.blk tb 250 [ii gw,ii gh,.slice A ((gh+1) * (gw+1)) ((gh+1) * (gw+1))],.row 2 1 A ((gh+1) * (gw+1)) ((gh+1) * (gw+1)) (yN ((gh+1) * (gw+1)) fun _=>0)]):=by
 have hwi:kD 0 0 0 0 gw gh=0:=qW (by omega) (by omega) (by omega) (by omega)
 have hsz:=bX hw.2 hh.2
 have e1:((gw:Int)+1) * ((gh:Int)+1)=(((gh+1) * (gw+1):Nat):Int):=by push_cast; rw [Int.mul_comm]
 generalize hn:(gh+1) * (gw+1)=n at *
 have S:=St.start W
 refine zn Tryz.func369 Tryz.results369 Tryz.ntmps369 ?_
 refine z ?_; refine z ?_
 refine zs ?_
 refine jE (jN (pl:=[(0,1),(1,1),(2,1),(3,1)]) q27 qX (fun w=>by kernel_rfl) rfl rfl) ?_
 refine z ?_; refine z ?_
 refine jC rfl (zI _ _ _ _ _ _ (by omega) (by omega) W) ?_
 rintro _ w1_ ⟨rfl,g1_⟩
 have S:=S.gr g1_
 rw [hwi]
 refine z ?_; refine z ?_; refine zf ?_; (iterate 3 refine z ?_); refine zr ?_; refine z ?_; refine zr ?_
 refine jE (yI rfl (by rw [e1]; omega)) ?_
 rw [e1]
 refine vU q30 uY rfl rfl rfl (n:=n) (c:=n) (by omega) (by omega) (by omega) (by omega) S ?_
 intro A_s w3_ g3_ S sa_s
 refine jE (jN (pl:=[(0,1),(1,1),(2,1)]) Tryz.underlying250 Tryz.zeroValue250 (fun w=>by kernel_rfl) rfl rfl) ?_
 refine jF (jO rfl) S ?_
 intro b_t w5_ g5_ S
 refine z ?_; refine z ?_
 refine zq ?_
 rw [dL] at S
 exact kY rfl rfl ⟨b_t,A_s,rfl,S⟩
theorem jdD (hB:vB (yA gw gh cc)) (hG:GridAt W p gw gh cc A cap bs Rs):Fn Tryz.prog 363 [pt p] W (fun v w'=>∃ tb A' c',v=.tuple #[pt tb,ii 0] /\
  St No W w' [.blk tb 250 [ii gw,ii gh,.slice A' ((gh+1) * (gw+1)) c'],.row 2 1 A' ((gh+1) * (gw+1)) c' (yN ((gh+1) * (gw+1)) (s7 gw (yA gw gh cc)))]):=by
 have hw:=hG.sw
 have hh:=hG.sh
 have hm:gw * gh<=1024 * 1024:=Nat.mul_le_mul hw.2 hh.2
 have hV:=zE gw gh cc
 have hval:=jfz hG
 have hsz:=bX hw.2 hh.2
 have hgt:=hG.top
 generalize yA gw gh cc=V at *
 have hget:∀ i,i < gw * gh->(yC V)[(i:Int).toNat * 1]?=some (ii (V.getD i 0)):=fun i hi=>by rw [Nat.mul_one,Int.toNat_natCast]; exact qO (vX (by omega))
 generalize hn:(gh+1) * (gw+1)=n at *
 have hfat:=fun (w:World) (tb x y:Nat) (A:Option Addr) (c:Nat) (f:Nat->Int) (hx:x<=gw) (hy:y<=gh) (h1:Blk w tb 250 [ii gw,ii gh,.slice A n c]) (h2:Rd w A (yN n f))=>jjR (W:=w) (tb:=tb) (f:=f) x y hw.2 hh.2 hx hy ⟨A,c,hn ▸ h1,hn ▸ h2⟩
 have hnew:=fun w=>jkF gw gh hw hh w
 rw [hn] at hnew
 have S:=St.start W
 refine zn Tryz.func363 Tryz.results363 Tryz.ntmps363 ?_
 iterate 5 refine z ?_
 refine jC rfl (xH p gw gh _ W (hgt.gr S.out)) ?_
 rintro _ w1_ ⟨rfl,g1_⟩
 have S:=S.gr g1_
 refine z ?_; refine z ?_
 refine jC rfl (hnew w1_) ?_
 rintro _ w2_ ⟨tb,A_fr,rfl,S2⟩
 have S:=S.app S2
 iterate 7 refine z ?_
 refine jC rfl (fG p gw gh hw.2 hh.2 _ w2_ (hgt.gr S.out)) ?_
 rintro _ w3_ ⟨rfl,g3_⟩
 have S:=S.gr g3_
 refine jC rfl (hval w3_ S.out) ?_
 rintro _ w4_ ⟨A_vs,c_vs,rfl,hR_vs,hf_vs,g4_⟩
 have S:=S.pushRow hR_vs hf_vs g4_
 iterate 8 refine z ?_
 refine zc ?_
 refine jS ?_
 refine zc ?_
 rw [<-jfJ gw V] at S
 refine j9 (fun m e w=>∃ k:Nat,k+m=gw * gh/\SL e [(4,pt tb),(35,.slice A_vs (gw * gh) c_vs),(36,ii (gw * gh:Nat)),(37,ii k)] /\
  St No W w [.row 2 1 A_vs (gw * gh) c_vs (yC V),.blk tb 250 [ii gw,ii gh,.slice A_fr n n],.row 2 1 A_fr n n (yN n (lK gw V k))]) (gw * gh)
  ⟨0,by omega,⟨rfl,rfl,rfl,rfl,trivial⟩,S⟩ ?_
 clear S
 rintro m e w ⟨k,hk,hsl,S⟩
 rw [hsl.fold]
 by_cases hkn:k < gw * gh
 ·have sa_vs:yH A_vs:=(S.row (i:=0) rfl).someA (by omega)
  have sa_fr:yH A_fr:=(S.row (i:=2) rfl).someA (by rw [<-hn,Nat.succ_mul]; omega)
  have hkm:=Nat.mod_lt k (show gw > 0 by omega)
  have hkd:k / gw < gh:=Nat.div_lt_of_lt_mul hkn
  have e3:(k:Int) % gw=((k % gw:Nat):Int):=by push_cast; rfl
  have e4:(k:Int) / gw=((k / gw:Nat):Int):=by push_cast; rfl
  have hk0:(0:Int)<=(k:Int) / gw:=Int.ediv_nonneg (by omega) (by omega)
  have e1:((k % gw:Nat):Int)+1=((k % gw+1:Nat):Int):=rfl
  have e2:((k / gw:Nat):Int)+1=((k / gw+1:Nat):Int):=rfl
  have hix:=fH (gw:=gw) (gh:=gh) (x:=k % gw+1) (y:=k / gw+1) (by omega) (by omega)
  rw [hn] at hix
  have hstep:=jfK (gw:=gw) (k:=k) (V:=V) hw.1
  refine zt ?_; refine z ?_; refine zx ?_
  refine j3 (j7 q2 rfl rfl (S.rd (i:=0) rfl) (hget k hkn)) ?_
  refine z ?_; refine z ?_
  refine zc ?_
  refine yB (C:=fun wq=>Gr w wq) [0,1,2,3,4,5,6,7,8,9,10,11,12,13,14,15] [] (by kernel_rfl) (by kernel_rfl) (Gr.drew _) ?_
  simp only [j6,List.drop_succ_cons,List.drop_zero]
  iterate 4 refine y ?_
  refine jV (fun wq hq=>jB q2 rfl rfl ((S.gr hq).blk (i:=1) rfl) rfl) ?_
  refine jW (kU rfl rfl (by omega) (by omega)) ?_
  rw [e3]
  refine yr ?_
  rw [e1]
  iterate 4 refine y ?_
  refine jV (fun wq hq=>jB q2 rfl rfl ((S.gr hq).blk (i:=1) rfl) rfl) ?_
  refine jW (vP rfl rfl (by omega) (by omega)) ?_
  rw [e4]
  refine yr ?_
  rw [e2]
  refine y ?_; refine y ?_
  refine yJ ?_
  intro w5_ g5_
  have S:=S.gr g5_
  refine zc ?_
  refine yB (C:=fun wq=>Gr w5_ wq) [0,1,2,3,4,5,6,7,8] [9,10] (by kernel_rfl) (by kernel_rfl) (Gr.drew _) ?_
  simp only [j6,List.drop_succ_cons,List.drop_zero]
  iterate 3 refine y ?_
  refine jV (fun wq hq=>jB q30 rfl rfl ((S.gr hq).blk (i:=1) rfl) rfl) ?_
  iterate 3 refine y ?_
  refine y8 rfl (fun wq hq=>(hfat wq tb (k % gw+1) (k / gw+1) A_fr n (lK gw V k) (by omega) (by omega) ((S.gr hq).blk (i:=1) rfl) ((S.gr hq).rd (i:=2) rfl)).mono (fun _ _ ⟨hv,hg⟩=>⟨hv,hq.trans hg⟩)) ?_
  refine y ?_
  refine yJ ?_
  intro w6_ g6_
  have S:=S.gr g6_
  refine zx ?_
  refine qV (i:=2) S rfl (qz2 _) rfl rfl rfl rfl (by rw [u9]; omega) rfl ?_
  intro w7_ S
  refine zr ?_; refine z ?_
  refine ze ?_
  rw [xC,hstep] at S
  exact ⟨m - 1,by omega,k+1,by omega,⟨rfl,rfl,rfl,ie (by omega),trivial⟩,S⟩
 ·obtain rfl:k=gw * gh:=by omega
  rw [uO (o':=u7 gw V 1 0) (fun i hi=>jhM hw.1 (by rw [hn]; exact hi))] at S
  have S:=S.drop 1
  refine zf ?_
  refine zc ?_
  refine jM rfl ?_
  refine zc ?_
  refine jY ?_
  repeat first | refine jP ?_ | refine jU ?_
  show CW _ _ _ _ _ _
  refine z ?_
  refine zc ?_
  refine jS ?_
  refine zc ?_
  have bA:=fun {y k:Nat} (hk:k<=gw) (i:Nat)=>jhQ (y:=y) hB hw.2 hk i
  have bB:=fun {y k:Nat} (hy:y<=1024) (i:Nat)=>jhO (k:=k) hB hw.2 hy i
  have hcg:∀ {o o':Nat->Int},(∀ i,i < n->o i=o' i)->yN n o=yN n o':=fun h=>uO h
  have sa_fr:yH A_fr:=(S.row (i:=1) rfl).someA (by rw [<-hn,Nat.succ_mul]; omega)
  -- rows
  refine j9 (fun m e w=>∃ y:Nat,y+m=gh+1/\1<=y/\SL e [(4,pt tb),(12,ii y)] /\
   St No W w [.blk tb 250 [ii gw,ii gh,.slice A_fr n n],.row 2 1 A_fr n n (yN n (u7 gw V y 0))]) gh
   ⟨1,by omega,by omega,⟨rfl,rfl,trivial⟩,S⟩ ?_
  clear S
  rintro m e w ⟨y,hy,hy1,hsl,S⟩
  rw [hsl.fold]
  by_cases hyn:y<=gh
  ·skip
   (iterate 5 refine z ?_); refine zt ?_; refine z ?_
   refine zc ?_
   refine jS ?_
   refine zc ?_
   refine j9 (fun m2 e w=>∃ x:Nat,x+m2=gw/\SL e [(4,pt tb),(12,ii y),(13,ii (x+1:Nat))] /\
    St No W w [.blk tb 250 [ii gw,ii gh,.slice A_fr n n],.row 2 1 A_fr n n (yN n (u7 gw V y x))]) gw
    ⟨0,by omega,⟨rfl,rfl,rfl,trivial⟩,S⟩ ?_
   clear S
   rintro m2 e w ⟨x,hx,hsl,S⟩
   rw [hsl.fold]
   by_cases hxn:x < gw
   ·have hlb:=mH (x+1)
    have hlp:=mG (k:=x+1) (by omega)
    have ead:((x+1:Nat):Int)+(lb (x+1):Nat)=((x+1+lb (x+1):Nat):Int):=rfl
    by_cases hup:x+1+lb (x+1)<=gw
    ·have hi1:=fH (gw:=gw) (gh:=gh) (x:=x+1+lb (x+1)) (y:=y) hup hyn
     have hi2:=fH (gw:=gw) (gh:=gh) (x:=x+1) (y:=y) (by omega) hyn
     rw [hn] at hi1 hi2
     have g1:=qE (o:=u7 gw V y x) hi1
     have g2:=qE (o:=u7 gw V y x) hi2
     have b1:=bA (y:=y) (k:=x) (by omega) (y * (gw+1)+(x+1+lb (x+1)))
     have b2:=bA (y:=y) (k:=x) (by omega) (y * (gw+1)+(x+1))
     have hst:=jfN (V:=V) hy1 hxn hup
     (iterate 5 refine z ?_); refine zt ?_; (iterate 3 refine z ?_); refine zr ?_
     refine jE (jea rfl rfl (by omega) (by omega) (by omega)) ?_
     refine zr ?_
     rw [ead]
     (iterate 6 refine z ?_); refine zt ?_
     refine zc ?_
     refine yS rfl ?_
     refine zc ?_
     refine yB (C:=fun wq=>Gr w wq) [0,1,2,3,4,5,6,7,8,9,10,11,12,13,14,15,16,17,18,19] [20,21,22] (by kernel_rfl) (by kernel_rfl) (Gr.drew _) ?_
     simp only [j6,List.drop_succ_cons,List.drop_zero]
     iterate 2 refine jW (jA rfl) ?_
     refine jW (jD Tryz.underlying250 rfl f5 rfl rfl) ?_
     refine jV (fun wq hq=>jB q30 rfl rfl ((S.gr hq).blk (i:=0) rfl) rfl) ?_
     iterate 3 refine jW (jA rfl) ?_
     refine y8 rfl (fun wq hq=>(hfat wq tb (x+1+lb (x+1)) y A_fr n (u7 gw V y x) hup hyn ((S.gr hq).blk (i:=0) rfl) ((S.gr hq).rd (i:=1) rfl)).mono (fun _ _ ⟨hv,hg⟩=>⟨hv,hq.trans hg⟩)) ?_
     refine yx ?_
     refine jV (fun wq hq=>j7 q2 rfl rfl ((S.gr hq).rd (i:=1) rfl) g1) ?_
     iterate 2 refine jW (jA rfl) ?_
     refine jW (jD Tryz.underlying250 rfl f5 rfl rfl) ?_
     refine jV (fun wq hq=>jB q30 rfl rfl ((S.gr hq).blk (i:=0) rfl) rfl) ?_
     iterate 3 refine jW (jA rfl) ?_
     refine y8 rfl (fun wq hq=>(hfat wq tb (x+1) y A_fr n (u7 gw V y x) (by omega) hyn ((S.gr hq).blk (i:=0) rfl) ((S.gr hq).rd (i:=1) rfl)).mono (fun _ _ ⟨hv,hg⟩=>⟨hv,hq.trans hg⟩)) ?_
     refine yx ?_
     refine jV (fun wq hq=>j7 q2 rfl rfl ((S.gr hq).rd (i:=1) rfl) g2) ?_
     refine yJ ?_
     intro w8_ g8_
     have S:=S.gr g8_
     refine zr ?_; refine zx ?_
     refine qV (i:=1) S rfl (qz2 _) rfl rfl rfl rfl (by rw [u9]; omega) rfl ?_
     intro w9_ S
     refine z ?_; refine zr ?_; refine z ?_
     refine ze ?_
     rw [xC,hst] at S
     exact ⟨m2 - 1,by omega,x+1,by omega,⟨rfl,rfl,ie (by push_cast; omega),trivial⟩,S⟩
    ·skip
     (iterate 5 refine z ?_); refine zt ?_; (iterate 3 refine z ?_); refine zr ?_
     refine jE (jea rfl rfl (by omega) (by omega) (by omega)) ?_
     refine zr ?_
     rw [ead]
     (iterate 6 refine z ?_); refine zf ?_; refine z ?_; refine zr ?_; refine z ?_
     refine ze ?_
     rw [hcg (o':=u7 gw V y (x+1)) (fun i _=>jfO hxn hup)] at S
     exact ⟨m2 - 1,by omega,x+1,by omega,⟨rfl,rfl,ie (by push_cast; omega),trivial⟩,S⟩
   ·obtain rfl:x=gw:=by omega
    (iterate 5 refine z ?_); refine zf ?_
    refine zc ?_
    refine jM rfl ?_
    refine zc ?_
    refine jY ?_
    repeat first | refine jP ?_ | refine jU ?_
    show CW _ _ _ _ _ _
    refine z ?_; refine zr ?_; refine z ?_
    refine ze ?_
    rw [hcg (o':=u7 x V (y+1) 0) (fun i _=>jhP hy1)] at S
    exact ⟨m - 1,by omega,y+1,by omega,by omega,⟨rfl,ie (by push_cast; omega),trivial⟩,S⟩
  ·obtain rfl:y=gh+1:=by omega
   rw [hcg (o':=u6 gw V 1 0) (fun i hi=>jld (by rw [hn]; exact hi))] at S
   (iterate 5 refine z ?_); refine zf ?_
   refine zc ?_
   refine jM rfl ?_
   refine zc ?_
   refine jY ?_
   repeat first | refine jP ?_ | refine jU ?_
   show CW _ _ _ _ _ _
   refine z ?_
   refine zc ?_
   refine jS ?_
   refine zc ?_
   -- columns
   refine j9 (fun m e w=>∃ y:Nat,y+m=gh+1/\1<=y/\SL e [(4,pt tb),(15,ii y)] /\
    St No W w [.blk tb 250 [ii gw,ii gh,.slice A_fr n n],.row 2 1 A_fr n n (yN n (u6 gw V y 0))]) gh
    ⟨1,by omega,by omega,⟨rfl,rfl,trivial⟩,S⟩ ?_
   clear S
   rintro m e w ⟨y,hy,hy1,hsl,S⟩
   rw [hsl.fold]
   by_cases hyn:y<=gh
   ·have hlb:=mH y
    have hlp:=mG (k:=y) (by omega)
    have ead:((y:Nat):Int)+(lb y:Nat)=((y+lb y:Nat):Int):=rfl
    by_cases hup:y+lb y<=gh
    ·skip
     (iterate 5 refine z ?_); refine zt ?_; (iterate 3 refine z ?_); refine zr ?_
     refine jE (jea rfl rfl (by omega) (by omega) (by omega)) ?_
     refine zr ?_
     rw [ead]
     (iterate 6 refine z ?_); refine zt ?_; refine z ?_
     refine zc ?_
     refine jS ?_
     refine zc ?_
     refine j9 (fun m2 e w=>∃ x:Nat,x+m2=gw/\SL e [(4,pt tb),(15,ii y),(16,ii (y+lb y:Nat)),(17,ii (x+1:Nat))] /\
      St No W w [.blk tb 250 [ii gw,ii gh,.slice A_fr n n],.row 2 1 A_fr n n (yN n (u6 gw V y x))]) gw
      ⟨0,by omega,⟨rfl,rfl,rfl,rfl,trivial⟩,S⟩ ?_
     clear S
     rintro m2 e w ⟨x,hx,hsl,S⟩
     rw [hsl.fold]
     by_cases hxn:x < gw
     ·have hi1:=fH (gw:=gw) (gh:=gh) (x:=x+1) (y:=y+lb y) (by omega) hup
      have hi2:=fH (gw:=gw) (gh:=gh) (x:=x+1) (y:=y) (by omega) hyn
      rw [hn] at hi1 hi2
      have g1:=qE (o:=u6 gw V y x) hi1
      have g2:=qE (o:=u6 gw V y x) hi2
      have b1:=bB (y:=y) (k:=x) (by omega) ((y+lb y) * (gw+1)+(x+1))
      have b2:=bB (y:=y) (k:=x) (by omega) (y * (gw+1)+(x+1))
      have hst:=jfL (V:=V) hy1 hxn
      (iterate 5 refine z ?_); refine zt ?_
      refine zc ?_
      refine yS rfl ?_
      refine zc ?_
      refine j5 ?_
      try show CW _ _ _ _ _ _
      refine zc ?_
      refine jS ?_
      refine zc ?_
      refine yB (C:=fun wq=>Gr w wq) [0,1,2,3,4,5,6,7,8,9,10,11,12,13,14,15,16,17,18,19] [20,21,22] (by kernel_rfl) (by kernel_rfl) (Gr.drew _) ?_
      simp only [j6,List.drop_succ_cons,List.drop_zero]
      iterate 2 refine jW (jA rfl) ?_
      refine jW (jD Tryz.underlying250 rfl f5 rfl rfl) ?_
      refine jV (fun wq hq=>jB q30 rfl rfl ((S.gr hq).blk (i:=0) rfl) rfl) ?_
      iterate 3 refine jW (jA rfl) ?_
      refine y8 rfl (fun wq hq=>(hfat wq tb (x+1) (y+lb y) A_fr n (u6 gw V y x) (by omega) hup ((S.gr hq).blk (i:=0) rfl) ((S.gr hq).rd (i:=1) rfl)).mono (fun _ _ ⟨hv,hg⟩=>⟨hv,hq.trans hg⟩)) ?_
      refine yx ?_
      refine jV (fun wq hq=>j7 q2 rfl rfl ((S.gr hq).rd (i:=1) rfl) g1) ?_
      iterate 2 refine jW (jA rfl) ?_
      refine jW (jD Tryz.underlying250 rfl f5 rfl rfl) ?_
      refine jV (fun wq hq=>jB q30 rfl rfl ((S.gr hq).blk (i:=0) rfl) rfl) ?_
      iterate 3 refine jW (jA rfl) ?_
      refine y8 rfl (fun wq hq=>(hfat wq tb (x+1) y A_fr n (u6 gw V y x) (by omega) hyn ((S.gr hq).blk (i:=0) rfl) ((S.gr hq).rd (i:=1) rfl)).mono (fun _ _ ⟨hv,hg⟩=>⟨hv,hq.trans hg⟩)) ?_
      refine yx ?_
      refine jV (fun wq hq=>j7 q2 rfl rfl ((S.gr hq).rd (i:=1) rfl) g2) ?_
      refine yJ ?_
      intro w10_ g10_
      have S:=S.gr g10_
      refine zr ?_; refine zx ?_
      refine qV (i:=1) S rfl (qz2 _) rfl rfl rfl rfl (by rw [u9]; omega) rfl ?_
      intro w11_ S
      refine z ?_; refine zr ?_; refine z ?_
      refine ze ?_
      rw [xC,hst] at S
      exact ⟨m2 - 1,by omega,x+1,by omega,⟨rfl,rfl,rfl,ie (by push_cast; omega),trivial⟩,S⟩
     ·obtain rfl:x=gw:=by omega
      (iterate 5 refine z ?_); refine zf ?_
      refine zc ?_
      refine jM rfl ?_
      refine zc ?_
      refine jY ?_
      repeat first | refine jP ?_ | refine jU ?_
      show CW _ _ _ _ _ _
      refine z ?_; refine zr ?_; refine z ?_
      refine ze ?_
      rw [hcg (o':=u6 x V (y+1) 0) (fun i _=>jhN)] at S
      exact ⟨m - 1,by omega,y+1,by omega,by omega,⟨rfl,ie (by push_cast; omega),trivial⟩,S⟩
    ·skip
     (iterate 5 refine z ?_); refine zt ?_; (iterate 3 refine z ?_); refine zr ?_
     refine jE (jea rfl rfl (by omega) (by omega) (by omega)) ?_
     refine zr ?_
     rw [ead]
     (iterate 6 refine z ?_); refine zf ?_; refine z ?_; refine zr ?_; refine z ?_
     refine ze ?_
     rw [hcg (o':=u6 gw V (y+1) 0) (fun i hi=>jfM (by rw [hn]; exact hi) hup hy1)] at S
     exact ⟨m - 1,by omega,y+1,by omega,by omega,⟨rfl,ie (by push_cast; omega),trivial⟩,S⟩
   ·obtain rfl:y=gh+1:=by omega
    rw [hcg (o':=s7 gw V) (fun i hi=>jlc (by rw [hn]; exact hi))] at S
    (iterate 5 refine z ?_); refine zf ?_
    refine zc ?_
    refine jM rfl ?_
    refine zc ?_
    refine jY ?_
    repeat first | refine jP ?_ | refine jU ?_
    show CW _ _ _ _ _ _
    iterate 3 refine z ?_
    refine zq ?_
    exact kY rfl rfl ⟨tb,A_fr,n,rfl,S⟩
end
end
end Go.Proofs.YtipnifjmhlcehaaGreatDoor
