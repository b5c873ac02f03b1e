/- hachuretop.WholeFlat: a part of the proof that the law returns true at every input (PaintR, Copy, PatchA, CellR, PatchB, PatchC, PatchD, PatchE); no condition of its own. -/
import Derived.Test.YtipnifjmhlcehaaGreatDoorKE
import Derived.Test.YtipnifjmhlcehaaGreatDoorKJ
import Derived.Test.YtipnifjmhlcehaaGreatDoorKC
import Derived.Test.YtipnifjmhlcehaaGreatDoorKD
import Derived.Test.YtipnifjmhlcehaaGreatDoorKH
import Derived.Test.YtipnifjmhlcehaaGreatDoorKI
set_option linter.unusedVariables false
set_option linter.unusedSimpArgs false
set_option maxRecDepth 100000
set_option maxHeartbeats 16000000
namespace Go.Proofs.YtipnifjmhlcehaaGreatDoor
section
open Go.RowKit
def lyR (gw:Nat) (V:List Int) (x0 y0 x1 y1 k:Nat) (c:Nat->Int) (i:Nat):Int :=
 if (x0<=i % gw/\i % gw<=x1)/\(y0<=i / gw/\i / gw<=y1)/\(i / gw - y0) * (x1+1 - x0)+(i % gw - x0) < k then V.getD ((i / gw - y0) * (x1+1 - x0)+(i % gw - x0)) 0 else c i
def yW (gw:Nat) (V:List Int) (x0 y0 x1 y1:Nat) (c:Nat->Int) (i:Nat):Int :=
 if (x0<=i % gw/\i % gw<=x1)/\(y0<=i / gw/\i / gw<=y1) then V.getD ((i / gw - y0) * (x1+1 - x0)+(i % gw - x0)) 0 else c i
theorem jhq (gw:Nat) (V:List Int) (x0 y0 x1 y1:Nat) (c:Nat->Int) (i:Nat):lyR gw V x0 y0 x1 y1 0 c i=c i:=by unfold lyR; rw [if_neg (by omega)]
theorem jja {gw:Nat} {V:List Int} {x0 y0 x1 y1:Nat} {c:Nat->Int} (hx:x0<=x1) (i:Nat):lyR gw V x0 y0 x1 y1 ((y1+1 - y0) * (x1+1 - x0)) c i=yW gw V x0 y0 x1 y1 c i:=by
 unfold lyR yW
 by_cases h:(x0<=i % gw/\i % gw<=x1)/\(y0<=i / gw/\i / gw<=y1)
 ·have ha:i / gw - y0+1<=y1+1 - y0:=by have:=h.2; omega
  have h5:=Nat.mul_le_mul_right (x1+1 - x0) ha
  rw [Nat.add_mul,Nat.one_mul] at h5
  rw [if_pos h,if_pos ⟨h.1,h.2,Nat.lt_of_lt_of_le (Nat.add_lt_add_left (show i % gw - x0 < x1+1 - x0 by have:=h.1; omega) _) h5⟩]
 ·rw [if_neg h,if_neg (fun h2=>h ⟨h2.1,h2.2.1⟩)]
theorem jhr {gw k n x0 y0 x1 y1:Nat} {V:List Int} {c:Nat->Int} (hx:x0<=x1/\x1 < gw) (hn:1<=n) (hle:k % (x1+1 - x0)+n<=x1+1 - x0) (hk:y0+k / (x1+1 - x0)<=y1) (hI:∀ j,j < n->V.getD (k+j) 0=V.getD k 0) (i:Nat) :
  qH gw (x0+k % (x1+1 - x0):Nat) (y0+k / (x1+1 - x0):Nat) (x0+k % (x1+1 - x0)+n - 1:Nat) (y0+k / (x1+1 - x0):Nat) (V.getD k 0) (lyR gw V x0 y0 x1 y1 k c) i=lyR gw V x0 y0 x1 y1 (k+n) c i:=by
 have hdm:=Nat.div_add_mod k (x1+1 - x0)
 have hmi:=Nat.mod_lt i (show gw > 0 by omega)
 rw [Nat.mul_comm] at hdm
 unfold qH lyR
 generalize hwd:x1+1 - x0=wd at *
 generalize k % wd=r at *
 generalize k / wd=q at *
 have key:inR gw ((x0+r:Nat):Int) ((y0+q:Nat):Int) ((x0+r+n - 1:Nat):Int) ((y0+q:Nat):Int) i ↔ (x0+r<=i % gw/\i % gw<=x0+r+n - 1)/\i / gw=y0+q:=by
  unfold inR
  generalize i % gw=b
  generalize i / gw=a
  omega
 have hlin:∀ {q' r':Nat},r' < wd->(q' * wd+r') / wd=q'/\(q' * wd+r') % wd=r':=fun {q' r'} h=>⟨by rw [Nat.mul_comm,Nat.mul_add_div (by omega),Nat.div_eq_of_lt h,Nat.add_zero],by rw [Nat.mul_comm,Nat.mul_add_mod,Nat.mod_eq_of_lt h]⟩
 by_cases hin:inR gw ((x0+r:Nat):Int) ((y0+q:Nat):Int) ((x0+r+n - 1:Nat):Int) ((y0+q:Nat):Int) i
 ·rw [if_pos hin]
  obtain ⟨⟨h1,h2⟩,h3⟩:=key.1 hin
  clear key hin
  generalize i % gw=b at *
  generalize i / gw=a at *
  rw [show a - y0=q by omega,if_pos ⟨⟨by omega,by omega⟩,⟨by omega,by omega⟩,by omega⟩]
  have:=hI (b - x0 - r) (by omega)
  rw [<-this]
  congr 1
  omega
 ·rw [if_neg hin]
  have hno:¬ ((x0+r<=i % gw/\i % gw<=x0+r+n - 1)/\i / gw=y0+q):=fun h=>hin (key.2 h)
  clear key hin
  generalize i % gw=b at *
  generalize i / gw=a at *
  by_cases hr:(x0<=b/\b<=x1)/\(y0<=a/\a<=y1)
  ·have hb2:b - x0 < wd:=by omega
   obtain ⟨l1,l2⟩:=hlin (q':=a - y0) hb2
   generalize hlx:(a - y0) * wd+(b - x0)=lx at *
   have hne:¬ (q * wd+r<=lx/\lx < q * wd+r+n):=fun ⟨h1,h2⟩=>by
    have:=hlin (q':=q) (r':=r+(lx - (q * wd+r))) (by omega)
    rw [show q * wd+(r+(lx - (q * wd+r)))=lx by omega] at this
    exact hno ⟨⟨by omega,by omega⟩,by omega⟩
   by_cases h3:lx < k
   ·rw [if_pos ⟨hr.1,hr.2,h3⟩,if_pos ⟨hr.1,hr.2,by omega⟩]
   ·rw [if_neg (fun h=>h3 h.2.2),if_neg (fun h=>hne ⟨by omega,by have:=h.2.2; omega⟩)]
  ·rw [if_neg (fun h=>hr ⟨h.1,h.2.1⟩),if_neg (fun h=>hr ⟨h.1,h.2.1⟩)]
section
variable {W : World} {p gw gh cap x0 y0 x1 y1 : Nat} {c : Nat → Int} {A B : Option Addr} {bs : Nat → Nat} {Rs : Nat → Option Nat} {V : List Int}
theorem jkw (cp:Nat) (hx:x0<=x1/\x1 < gw) (hy:y0<=y1/\y1 < gh) (hV:V.length=(y1+1 - y0) * (x1+1 - x0)) (hmay:∀ v ∈ V,kN v=true) (hG:GridAt W p gw gh c A cap bs Rs) (hB:Rd W B (yC V)) (hap:∀ g,kZ B g->¬ uV (acr gw * acr gh) p A bs Rs g) (hlt:∀ g,kZ B g->g < W.heap.size) :
  Fn Tryz.prog 179 [pt p,.agg #[ii x0,ii y0,ii x1,ii y1],.slice B V.length cp] W
   (fun r w'=>r=.tuple #[]/\GridP W p gw gh A cap bs Rs (yW gw V x0 y0 x1 y1 c) w'):=by
 have hw:=hG.sw
 have hh:=hG.sh
 have hnn:(y1+1 - y0) * (x1+1 - x0)<=1024 * 1024:=Nat.mul_le_mul (by omega) (by omega)
 have hn1:1<=(y1+1 - y0) * (x1+1 - x0):=Nat.mul_le_mul (show 1<=y1+1 - y0 by omega) (show 1<=x1+1 - x0 by omega)
 have hend:=fun i=>jja (gw:=gw) (V:=V) (y0:=y0) (y1:=y1) (c:=c) hx.1 i
 have hstep:=fun (k n:Nat)=>jhr (gw:=gw) (k:=k) (n:=n) (x0:=x0) (y0:=y0) (x1:=x1) (y1:=y1) (V:=V) (c:=c) hx
 rw [<-hV] at hend
 generalize hwd:x1+1 - x0=wd at *
 have sa_B:yH B:=hB.someA (by rw [qY]; omega)
 have hBk:∀ {w:World},Fr (uV (acr gw * acr gh) p A bs Rs) W w->Rd w B (yC V):=fun {w} hF=>hB.fr hF (fun a ha=>hap _ (by rw [ha]; rfl))
 have S:=St.start1 W (.grid p gw gh c A cap bs Rs) hG
 refine zn Tryz.func179 Tryz.results179 Tryz.ntmps179 ?_
 refine zs ?_
 refine jF (jO rfl) S ?_
 intro b_rc w2_ g2_ S
 refine z ?_
 refine zc ?_
 refine jS ?_
 refine zc ?_
 refine j9 (fun m e w=>∃ (k:Nat) (Rs':Nat->Option Nat),k+m=V.length/\SL e [(0,pt p),(2,.slice B V.length cp),(4,pt b_rc),(6,ii k)] /\
  St (uV (acr gw * acr gh) p A bs Rs) W w [.blk b_rc 27 [ii x0,ii y0,ii x1,ii y1],.grid p gw gh (lyR gw V x0 y0 x1 y1 k c) A cap bs Rs']) V.length
  ⟨0,Rs,by omega,⟨rfl,rfl,rfl,rfl,trivial⟩,S.as_ (i:=1) rfl rfl (fun h=>h.congr (fun i _=>(jhq _ _ _ _ _ _ _ i).symm)) (fun g h=>h)⟩ ?_
 rintro m e w ⟨k,Rs1,hk,hsl,S⟩
 rw [hsl.fold]
 iterate 4 refine z ?_
 refine zk ?_ ?_
 ·intro hc
  have hkN:k < V.length:=by omega
  have hkm:k % wd < wd:=Nat.mod_lt _ (by omega)
  have hkd:k / wd < y1+1 - y0:=Nat.div_lt_of_lt_mul (by rw [Nat.mul_comm,<-hV]; exact hkN)
  have hdm:k / wd * wd+k % wd=k:=by rw [Nat.mul_comm]; exact Nat.div_add_mod _ _
  have hrow:k / wd * wd+wd<=V.length:=by
   have:(k / wd+1) * wd<=(y1+1 - y0) * wd:=Nat.mul_le_mul_right _ hkd
   rw [Nat.succ_mul] at this
   omega
  have e0:(x1:Int) - x0+1=(wd:Nat):=by omega
  have e1:(x0:Int)+(k:Int) % (wd:Nat)=((x0+k % wd:Nat):Int):=by push_cast; rfl
  have e2:(y0:Int)+(k:Int) / (wd:Nat)=((y0+k / wd:Nat):Int):=by push_cast; rfl
  have hnth:=fun w'=>jee x0 y0 x1 y1 k (by omega) (by omega) (by rw [e0,show (y1:Int) - y0+1=((y1+1 - y0:Nat):Int) by omega,Int.mul_comm,show (((y1+1 - y0:Nat):Int) * wd)=(((y1+1 - y0) * wd:Nat):Int) by push_cast; rfl,<-hV]; omega) w'
  rw [e0,e1,e2] at hnth
  have hst:=hstep k
  have hcx:x0+k % wd=x0+k % wd:=rfl
  generalize hcxe:k % wd=rx at *
  generalize hcye:k / wd=ry at *
  refine z ?_; refine z ?_
  refine jC rfl (hnth w) ?_
  rintro _ w3_ ⟨rfl,g3_⟩
  have S:=S.gr g3_
  iterate 3 refine z ?_
  refine jF (jL kL rfl) S ?_
  intro b_fr w5_ g5_ S
  refine jH (i:=0) S rfl (qI _) rfl rfl rfl rfl rfl rfl ?_
  intro w6_ S
  refine z ?_; refine z ?_
  refine zc ?_
  refine jS ?_
  refine zc ?_
  refine j9 (fun m e w=>∃ n:Nat,1<=n/\n+m=wd - rx/\SL e [(0,pt p),(2,.slice B V.length cp),(4,pt b_rc),(6,ii k),(7,pt b_fr),(9,ii n)]/\(∀ j,j < n->V.getD (k+j) 0=V.getD k 0) /\
   St (uV (acr gw * acr gh) p A bs Rs) W w [.blk b_fr 23 [ii (x0+rx:Nat),ii (y0+ry:Nat)],.blk b_rc 27 [ii x0,ii y0,ii x1,ii y1],.grid p gw gh (lyR gw V x0 y0 x1 y1 k c) A cap bs Rs1]) (wd - rx - 1)
   ⟨1,by omega,by omega,⟨rfl,rfl,rfl,rfl,rfl,rfl,trivial⟩,fun j hj=>by rw [show j=0 by omega,Nat.add_zero],S⟩ ?_
  rintro m' e w ⟨n,hn1,hn2,hsl,hI,S⟩
  rw [hsl.fold]
  have hBw:=hBk S.fr
  have hget:∀ i,i < V.length->(yC V)[i]?=some (ii (V.getD i 0)):=fun i hi=>by
   refine qO ?_
   rw [List.getD_eq_getElem?_getD,List.getElem?_eq_getElem hi]
   rfl
  have hxk:=hget k (by omega)
  have hxk':(yC V)[(k:Int).toNat * 1]?=some (ii (V.getD k 0)):=by rw [Nat.mul_one,Int.toNat_natCast]; exact hxk
  have hmk:kN (V.getD k 0)=true:=by
   rw [List.getD_eq_getElem?_getD,List.getElem?_eq_getElem (by omega)]
   exact hmay _ (List.getElem_mem _)
  have hmk:=(gO _).1 hmk
  by_cases hext:x0+rx+n<=x1/\V.getD (k+n) 0=V.getD k 0
  ·have hxn:=hget (k+n) (by omega)
   have hxn':(yC V)[((k:Int)+n).toNat * 1]?=some (ii (V.getD (k+n) 0)):=by rw [Nat.mul_one,show ((k:Int)+n).toNat=k+n by omega]; exact hxn
   obtain ⟨hx1,hx2⟩:=hext
   refine zc ?_
   refine yB (C:=fun wq=>Gr w wq) [0,1,2,3,4,5,6,7,8,9,10,11,12,13,14,15,16,17,18,19] [] (by kernel_rfl) (by kernel_rfl) (Gr.drew _) ?_
   simp only [j6,List.drop_succ_cons,List.drop_zero]
   refine y ?_
   refine jV (fun wq hq=>jB q2 rfl rfl ((S.gr hq).blk (i:=0) rfl) rfl) ?_
   refine y ?_; refine yr ?_; refine y ?_
   refine jV (fun wq hq=>jB q2 rfl rfl ((S.gr hq).blk (i:=1) rfl) rfl) ?_
   refine zw3 ⟨?_⟩
   (iterate 4 refine y ?_); refine yr ?_; refine yx ?_
   first | refine j0 rfl ?_ | (refine yG rfl ?_; refine jV (fun wq hq=>j7 q2 rfl rfl (hBk (S.gr hq).fr) hxn') ?_)
   refine y ?_; refine y ?_; refine yx ?_
   first | refine j0 rfl ?_ | (refine yG rfl ?_; refine jV (fun wq hq=>j7 q2 rfl rfl (hBk (S.gr hq).fr) hxk') ?_)
   refine zw0 ⟨?_⟩
   refine y ?_
   refine yJ ?_
   intro w7_ g7_
   have S:=S.gr g7_
   refine z ?_; refine zr ?_; refine z ?_
   refine ze ?_
   refine ⟨m' - 1,by omega,n+1,by omega,by omega,⟨rfl,rfl,rfl,rfl,rfl,ie (by omega),trivial⟩,fun j hj=>?_,S⟩
   by_cases e:j=n
   ·subst e; exact hx2
   ·exact hI j (by omega)
  ·have hcase:¬ (x0+rx+n<=x1)\/(x0+rx+n<=x1/\V.getD (k+n) 0 ≠ V.getD k 0):=by
    by_cases h:x0+rx+n<=x1
    ·exact .inr ⟨h,fun e=>hext ⟨h,e⟩⟩
    ·exact .inl h
   have e3:((x0+rx:Nat):Int)+n - 1=((x0+rx+n - 1:Nat):Int):=by omega
   rcases hcase with hcase | ⟨hc1,hc2⟩
   ·skip
    refine zc ?_
    refine yB (C:=fun wq=>Gr w wq) [0,1,2,3,4,5,6,7,8,9,10,11,12,13,14,15,16,17,18,19] [] (by kernel_rfl) (by kernel_rfl) (Gr.drew _) ?_
    simp only [j6,List.drop_succ_cons,List.drop_zero]
    refine y ?_
    refine jV (fun wq hq=>jB q2 rfl rfl ((S.gr hq).blk (i:=0) rfl) rfl) ?_
    refine y ?_; refine yr ?_; refine y ?_
    refine jV (fun wq hq=>jB q2 rfl rfl ((S.gr hq).blk (i:=1) rfl) rfl) ?_
    refine zw3 ⟨?_⟩
    refine jW (jA rfl) ?_
    first | refine j0 rfl ?_ | (refine yG rfl ?_; refine jW (jA rfl) ?_)
    first | refine j0 rfl ?_ | (refine yG rfl ?_; refine jW (jA rfl) ?_)
    first | refine j0 rfl ?_ | (refine yG rfl ?_; refine jW (jA rfl) ?_)
    first | refine j0 rfl ?_ | (refine yG rfl ?_; refine jW (yI rfl (by omega)) ?_)
    first | refine j0 rfl ?_ | (refine yG rfl ?_; refine jW (kV q30 qz2 rfl rfl sa_B (by omega) (by omega)) ?_)
    first | refine j0 rfl ?_ | (refine yG rfl ?_; refine jV (fun wq hq=>j7 q2 rfl rfl (hBk (S.gr hq).fr) (by assumption)) ?_)
    first | refine j0 rfl ?_ | (refine yG rfl ?_; refine jW (jA rfl) ?_)
    first | refine j0 rfl ?_ | (refine yG rfl ?_; refine jW (jA rfl) ?_)
    first | refine j0 rfl ?_ | (refine yG rfl ?_; refine jW (kV q30 qz2 rfl rfl sa_B (by omega) (by omega)) ?_)
    first | refine j0 rfl ?_ | (refine yG rfl ?_; refine jV (fun wq hq=>j7 q2 rfl rfl (hBk (S.gr hq).fr) (by assumption)) ?_)
    refine zw0 ⟨?_⟩
    refine y ?_
    refine yJ ?_
    intro w8_ g8_
    have S:=S.gr g8_
    refine zc ?_
    refine jM rfl ?_
    refine zc ?_
    refine jY ?_
    repeat first | refine jP ?_ | refine jU ?_
    show CW _ _ _ _ _ _
    refine zc ?_
    refine yB (C:=fun wq=>Gr w8_ wq) [0,1,2,3,4,5,6,7,8,9,10,11,12,13,14,15,16] [17] (by kernel_rfl) (by kernel_rfl) (Gr.drew _) ?_
    simp only [j6,List.drop_succ_cons,List.drop_zero]
    refine y ?_; refine y ?_
    refine jV (fun wq hq=>jB q2 rfl rfl ((S.gr hq).blk (i:=0) rfl) rfl) ?_
    refine y ?_
    refine jV (fun wq hq=>jB q2 rfl rfl ((S.gr hq).blk (i:=0) rfl) rfl) ?_
    refine y ?_
    refine jV (fun wq hq=>jB q2 rfl rfl ((S.gr hq).blk (i:=0) rfl) rfl) ?_
    refine y ?_; iterate 2 refine yr ?_
    rw [e3]
    refine y ?_
    refine jV (fun wq hq=>jB q2 rfl rfl ((S.gr hq).blk (i:=0) rfl) rfl) ?_
    refine jW (jN (pl:=[(0,1),(1,1),(2,1),(3,1)]) q27 qX (fun w=>by kernel_rfl) rfl rfl) ?_
    refine y ?_; refine y ?_; refine yx ?_
    refine jV (fun wq hq=>j7 q2 rfl rfl (hBk (S.gr hq).fr) hxk') ?_
    refine yJ ?_
    intro w9_ g9_
    have S:=S.gr g9_
    refine jC rfl (jen (x0+rx) (y0+ry) (x0+rx+n - 1) (y0+ry) (V.getD k 0) ⟨by omega,by omega⟩ ⟨Nat.le_refl _,by omega⟩ hmk (S.grid (i:=2) rfl)) ?_
    rintro _ w10_ ⟨_,Rs2,hG2,hF2,hO2⟩
    have S:=S.set (i:=2) (h':=.grid p gw gh _ A cap bs Rs2) rfl rfl hF2 (fun g h=>.inl h) hG2 hO2
    refine z ?_; refine z ?_; refine zr ?_; refine z ?_
    refine ze ?_
    have S:=S.sub (.cons _ (.cons_cons _ (.cons_cons _ .slnil)))
    exact ⟨m - n,by omega,k+n,Rs2,by omega,⟨rfl,rfl,rfl,ie (by omega),trivial⟩,S.as_ (i:=1) rfl rfl (fun h=>h.congr (fun i _=>hst n hn1 (by omega) (by omega) hI i)) (fun g h=>h)⟩
   ·have hxn:=hget (k+n) (by omega)
    have hxn':(yC V)[((k:Int)+n).toNat * 1]?=some (ii (V.getD (k+n) 0)):=by rw [Nat.mul_one,show ((k:Int)+n).toNat=k+n by omega]; exact hxn
    refine zc ?_
    refine yB (C:=fun wq=>Gr w wq) [0,1,2,3,4,5,6,7,8,9,10,11,12,13,14,15,16,17,18,19] [] (by kernel_rfl) (by kernel_rfl) (Gr.drew _) ?_
    simp only [j6,List.drop_succ_cons,List.drop_zero]
    refine y ?_
    refine jV (fun wq hq=>jB q2 rfl rfl ((S.gr hq).blk (i:=0) rfl) rfl) ?_
    refine y ?_; refine yr ?_; refine y ?_
    refine jV (fun wq hq=>jB q2 rfl rfl ((S.gr hq).blk (i:=1) rfl) rfl) ?_
    refine zw3 ⟨?_⟩
    (iterate 4 refine y ?_); refine yr ?_; refine yx ?_
    first | refine j0 rfl ?_ | (refine yG rfl ?_; refine jV (fun wq hq=>j7 q2 rfl rfl (hBk (S.gr hq).fr) hxn') ?_)
    refine y ?_; refine y ?_; refine yx ?_
    first | refine j0 rfl ?_ | (refine yG rfl ?_; refine jV (fun wq hq=>j7 q2 rfl rfl (hBk (S.gr hq).fr) hxk') ?_)
    refine zw0 ⟨?_⟩
    refine y ?_
    refine yJ ?_
    intro w11_ g11_
    have S:=S.gr g11_
    refine zc ?_
    refine jM rfl ?_
    refine zc ?_
    refine jY ?_
    repeat first | refine jP ?_ | refine jU ?_
    show CW _ _ _ _ _ _
    refine zc ?_
    refine yB (C:=fun wq=>Gr w11_ wq) [0,1,2,3,4,5,6,7,8,9,10,11,12,13,14,15,16] [17] (by kernel_rfl) (by kernel_rfl) (Gr.drew _) ?_
    simp only [j6,List.drop_succ_cons,List.drop_zero]
    refine y ?_; refine y ?_
    refine jV (fun wq hq=>jB q2 rfl rfl ((S.gr hq).blk (i:=0) rfl) rfl) ?_
    refine y ?_
    refine jV (fun wq hq=>jB q2 rfl rfl ((S.gr hq).blk (i:=0) rfl) rfl) ?_
    refine y ?_
    refine jV (fun wq hq=>jB q2 rfl rfl ((S.gr hq).blk (i:=0) rfl) rfl) ?_
    refine y ?_; iterate 2 refine yr ?_
    rw [e3]
    refine y ?_
    refine jV (fun wq hq=>jB q2 rfl rfl ((S.gr hq).blk (i:=0) rfl) rfl) ?_
    refine jW (jN (pl:=[(0,1),(1,1),(2,1),(3,1)]) q27 qX (fun w=>by kernel_rfl) rfl rfl) ?_
    refine y ?_; refine y ?_; refine yx ?_
    refine jV (fun wq hq=>j7 q2 rfl rfl (hBk (S.gr hq).fr) hxk') ?_
    refine yJ ?_
    intro w12_ g12_
    have S:=S.gr g12_
    refine jC rfl (jen (x0+rx) (y0+ry) (x0+rx+n - 1) (y0+ry) (V.getD k 0) ⟨by omega,by omega⟩ ⟨Nat.le_refl _,by omega⟩ hmk (S.grid (i:=2) rfl)) ?_
    rintro _ w13_ ⟨_,Rs2,hG2,hF2,hO2⟩
    have S:=S.set (i:=2) (h':=.grid p gw gh _ A cap bs Rs2) rfl rfl hF2 (fun g h=>.inl h) hG2 hO2
    refine z ?_; refine z ?_; refine zr ?_; refine z ?_
    refine ze ?_
    have S:=S.sub (.cons _ (.cons_cons _ (.cons_cons _ .slnil)))
    exact ⟨m - n,by omega,k+n,Rs2,by omega,⟨rfl,rfl,rfl,ie (by omega),trivial⟩,S.as_ (i:=1) rfl rfl (fun h=>h.congr (fun i _=>hst n hn1 (by omega) (by omega) hI i)) (fun g h=>h)⟩
 ·intro hc
  refine zc ?_
  refine jY ?_
  repeat first | refine jP ?_ | refine jU ?_
  obtain rfl:k=V.length:=by omega
  exact zN ⟨rfl,Rs1,(S.grid (i:=1) rfl).congr (fun i hi=>hend i),S.fr,fun g hg=>(S.sep.get (i:=1) rfl).2 g hg⟩
theorem jci (cp:Nat) (hx:x0<=x1/\x1 < gw) (hy:y0<=y1/\y1 < gh) (hV:V.length=(y1+1 - y0) * (x1+1 - x0)) (hmay:∀ v ∈ V,kN v=true) (hG:GridAt W p gw gh c A cap bs Rs) (hB:Rd W B (yC V)) (hap:∀ g,kZ B g->¬ uV (acr gw * acr gh) p A bs Rs g) (hlt:∀ g,kZ B g->g < W.heap.size) :
  Fn Tryz.prog 110 [pt p,.agg #[ii x0,ii y0,ii x1,ii y1],.slice B V.length cp] W
   (fun r w'=>r=ii 0/\GridP W p gw gh A cap bs Rs (yW gw V x0 y0 x1 y1 c) w'):=by
 have hw:=hG.sw
 have hh:=hG.sh
 have hnn:(y1+1 - y0) * (x1+1 - x0)<=1024 * 1024:=Nat.mul_le_mul (by omega) (by omega)
 have hmi:((x1:Int) - x0+1) * ((y1:Int) - y0+1)=((V.length:Nat):Int):=by
  rw [hV,show (x1:Int) - x0+1=((x1+1 - x0:Nat):Int) by omega,show (y1:Int) - y0+1=((y1+1 - y0:Nat):Int) by omega,Int.mul_comm]; push_cast; rfl
 have hBk:∀ {w:World},Fr (uV (acr gw * acr gh) p A bs Rs) W w->Rd w B (yC V):=fun {w} hF=>hB.fr hF (fun a ha=>hap _ (by rw [ha]; rfl))
 have hbad:V.any (fun v=>!kN v)=false:=List.any_eq_false.2 fun v hv=>by rw [hmay v hv]; decide
 have S:=St.start1 W (.grid p gw gh c A cap bs Rs) hG
 refine zn Tryz.func110 Tryz.results110 Tryz.ntmps110 ?_
 refine zs ?_
 refine jF (jO rfl) S ?_
 intro b_rc w2_ g2_ S
 iterate 3 refine z ?_
 refine jC rfl (qN (W:=w2_) x0 y0 x1 y1 hx hy (S.grid (i:=1) rfl)) ?_
 rintro _ w3_ ⟨A_vs,c_vs,rfl,hR_vs,hf_vs,g3_⟩
 have S:=S.pushRow hR_vs hf_vs g3_
 (iterate 6 refine z ?_); refine zf ?_; iterate 3 refine z ?_
 refine jC rfl (fK _ _ _ _ (by omega) w3_) ?_
 rintro _ w4_ ⟨rfl,g4_⟩
 have S:=S.gr g4_
 rw [hmi]
 refine zf ?_; refine z ?_; refine z ?_
 refine jC rfl (gS B V.length cp _ [] V rfl (by omega) (fun v=>!kN v) w4_ (hBk S.fr) (fun x hx w' g=>jg7 x w')) ?_
 rintro _ w5_ ⟨rfl,g5_⟩
 have S:=S.gr g5_
 rw [hbad]
 iterate 4 refine z ?_
 refine jC rfl (jkw cp hx hy hV hmay (S.grid (i:=2) rfl) (hBk S.fr) hap (fun g hg=>Nat.lt_of_lt_of_le (hlt g hg) S.le)) ?_
 rintro _ w6_ ⟨rfl,Rs2,hG2,hF2,hO2⟩
 have S:=S.set (i:=2) (h':=.grid p gw gh _ A cap bs Rs2) rfl rfl hF2 (fun g h=>.inl h) hG2 hO2
 refine z ?_
 refine zq ?_
 exact yD rfl ⟨rfl,Rs2,S.grid (i:=2) rfl,S.fr,fun g hg=>(S.sep.get (i:=2) rfl).2 g hg⟩
end
end
section
open Go.RowKit
structure jeu (w:World) (gw:Nat) (gh:Nat) (c:Nat->Int) (k:Nat) (bs:Nat->Nat) (Rs:Nat->Option Nat):Prop where
 slab:∀ t,t < k->SlabIs w (bs t) (Rs t) (tsz gw (t % acr gw)) (tsz gh (t / acr gw)) (gI gw c t)
 inj:∀ t u,t < k->u < k->bs t=bs u->t=u
 injR:∀ t u g,t < k->u < k->Rs t=some g->Rs u=some g->t=u
def HA.slbs (gw gh:Nat) (c:Nat->Int) (k:Nat) (bs:Nat->Nat) (Rs:Nat->Option Nat):HA :=
 ⟨fun g=>∃ t,t < k/\(g=bs t\/Rs t=some g),fun w=>jeu w gw gh c k bs Rs,fun _ _ h _ hS=>⟨fun t ht=>(hS.slab t ht).keep (fun g hg=>h g ⟨t,ht,hg⟩),hS.inj,hS.injR⟩,fun _ hS g ⟨t,ht,hg⟩=>(hS.slab t ht).lt hg⟩
def HA.slb (b:Nat) (R:Option Nat) (sw sh:Nat) (c:Nat->Int):HA :=
 ⟨fun g=>g=b\/R=some g,fun w=>SlabIs w b R sw sh c,fun _ _ h _ hS=>hS.keep (fun g hg=>h g hg),fun _ hS g hg=>hS.lt hg⟩
section
variable {F : Nat → Prop} {W w : World} {L : List HA} {gw gh k b : Nat} {c : Nat → Int} {bs : Nat → Nat} {Rs : Nat → Option Nat} {R : Option Nat}
theorem St.slbs0 (S:St F W w L) (gw gh:Nat) (c:Nat->Int) (bs:Nat->Nat) (Rs:Nat->Option Nat):St F W w (.slbs gw gh c 0 bs Rs::L) :=
 S.push (Gr.refl w) (h:=.slbs gw gh c 0 bs Rs) ⟨fun t ht=>by omega,fun t u ht=>by omega,fun t u g ht=>by omega⟩ (fun g ⟨t,ht,_⟩=>by omega)
theorem St.slbsPush (S:St F W w (.slb b R (tsz gw (k % acr gw)) (tsz gh (k / acr gw)) (gI gw c k)::.slbs gw gh c k bs Rs::L)):St F W w (.slbs gw gh c (k+1) (zG bs k b) (zG Rs k R)::L):=by
 have h1:=S.sep.1
 have h0:=S.sep.2.1
 have h2:=S.sep.2.2.1
 have h3:=S.sep.2.2.2
 have hno:∀ g,(g=b\/R=some g)->∀ t,t < k->¬ (g=bs t\/Rs t=some g):=fun g hg t ht h=>h0 g hg (.slbs gw gh c k bs Rs) List.mem_cons_self ⟨t,ht,h⟩
 refine ⟨S.fr,⟨⟨fun t ht=>?_,fun t u ht hu e=>?_,fun t u g ht hu e1 e2=>?_⟩,fun g ⟨t,ht,hg⟩=>?_⟩,fun g ⟨t,ht,hg⟩ h hh=>?_,h3.2⟩
 ·by_cases e:t=k
  ·subst e; rw [qC,qC]; exact h1.1
  ·rw [yX (by omega),yX (by omega)]; exact h2.1.slab t (by omega)
 ·by_cases e1:t=k
  ·by_cases e2:u=k
   ·rw [e1,e2]
   ·subst e1; rw [qC,yX (by omega)] at e; exact (hno b (.inl rfl) u (by omega) (.inl e)).elim
  ·rw [yX (by omega)] at e
   by_cases e2:u=k
   ·subst e2; rw [qC] at e; exact (hno b (.inl rfl) t (by omega) (.inl e.symm)).elim
   ·rw [yX (by omega)] at e; exact h2.1.inj t u (by omega) (by omega) e
 ·by_cases e3:t=k
  ·by_cases e4:u=k
   ·rw [e3,e4]
   ·subst e3; rw [qC] at e1; rw [yX (by omega)] at e2; exact (hno g (.inr e1) u (by omega) (.inr e2)).elim
  ·rw [yX (by omega)] at e1
   by_cases e4:u=k
   ·subst e4; rw [qC] at e2; exact (hno g (.inr e2) t (by omega) (.inr e1)).elim
   ·rw [yX (by omega)] at e2; exact h2.1.injR t u g (by omega) (by omega) e1 e2
 ·by_cases e:t=k
  ·subst e; rw [qC,qC] at hg; exact h1.2 g hg
  ·rw [yX (by omega),yX (by omega)] at hg; exact h2.2 g ⟨t,by omega,hg⟩
 ·by_cases e:t=k
  ·subst e; rw [qC,qC] at hg; exact h0 g hg h (List.mem_cons_of_mem _ hh)
  ·rw [yX (by omega),yX (by omega)] at hg; exact h3.1 g ⟨t,by omega,hg⟩ h hh
end
theorem jdM (n:Nat) (c:Nat->Int):((kA n c).all fun v=>v.oneCell')=true:=List.all_eq_true.2 fun v hv=>by
 simp only [kA,List.mem_map] at hv
 obtain ⟨i,_,rfl⟩:=hv
 rfl
theorem St.two {F:Nat->Prop} {W w:World} {L:List HA} {a b h:HA} (S:St F W w (a::b::L)) (ok:a.ok w->b.ok w->h.ok w) (own:∀ g,h.own g->a.own g\/b.own g):St F W w (h::L):=by
 have h1:=S.sep.1
 have h0:=S.sep.2.1
 have h2:=S.sep.2.2.1
 have h3:=S.sep.2.2.2
 exact ⟨S.fr,⟨ok h1.1 h2.1,fun g hg=>(own g hg).elim (h1.2 g) (h2.2 g)⟩,fun g hg x hx=>(own g hg).elim (fun e=>h0 g e x (List.mem_cons_of_mem _ hx)) (fun e=>h3.1 g e x hx),h3.2⟩
section
variable {W : World} {A : Option Addr} {n c : Nat}
theorem jbu (xs:List Value) (hn:xs.length=n) (h0:0 < n) (hm:n<=1048576) (h1:(xs.all fun v=>v.oneCell')=true) (hA:Rd W A xs):Fn Tryz.prog 367 [.slice A n c] W (qR id 21 1 n xs W):=by
 have sa_A:yH A:=hA.someA (by omega)
 obtain ⟨ab,ao,rfl⟩:=sa_A
 have S:=St.start W
 refine zn Tryz.func367 Tryz.results367 Tryz.ntmps367 ?_
 refine z ?_; refine z ?_
 refine jE (bM (B:=false) bJ rfl rfl) ?_
 refine zs ?_
 refine x9 bJ Tryz.sizeOf21 S ?_
 intro A_e w2_ g2_ S sa_e
 refine z ?_
 refine qA (i:=0) S rfl (fun h=>rfl) bJ jhB rfl rfl rfl rfl (by rw [hn,Nat.mul_one]) (by omega) (hA.gr S.out) h1 (by omega) ?_
 intro A_o c_o w3_ S sa_e
 refine z ?_
 refine zq ?_
 rw [List.nil_append] at S
 rw [Nat.zero_add] at S ⊢
 exact yD rfl (S.retNew (i:=0) rfl)
theorem jbt (xs:List Value) (hn:xs.length=n) (h0:0 < n) (hm:n<=1048576) (h1:(xs.all fun v=>v.oneCell')=true) (hA:Rd W A xs):Fn Tryz.prog 358 [.slice A n c] W (qR id 133 1 n xs W):=by
 have sa_A:yH A:=hA.someA (by omega)
 obtain ⟨ab,ao,rfl⟩:=sa_A
 have S:=St.start W
 refine zn Tryz.func358 Tryz.results358 Tryz.ntmps358 ?_
 refine z ?_; refine z ?_
 refine jE (bM (B:=false) jaT rfl rfl) ?_
 refine zs ?_
 refine x9 jaT Tryz.sizeOf133 S ?_
 intro A_e w2_ g2_ S sa_e
 refine z ?_
 refine qA (i:=0) S rfl (fun h=>rfl) jaT jas rfl rfl rfl rfl (by rw [hn,Nat.mul_one]) (by omega) (hA.gr S.out) h1 (by omega) ?_
 intro A_o c_o w3_ S sa_e
 refine z ?_
 refine zq ?_
 rw [List.nil_append] at S
 rw [Nat.zero_add] at S ⊢
 exact yD rfl (S.retNew (i:=0) rfl)
end
section
variable {W : World} {b sw sh : Nat} {R : Option Nat} {c : Nat → Int}
theorem jiE (hs:1<=sw * sh/\sw * sh<=256) (hS:SlabIs W b R sw sh c):Fn Tryz.prog 359 [pt b] W (fun v w'=>∃ b' R',v=.pointer (some ⟨b',0,none⟩)/\St No W w' [.slb b' R' sw sh c]):=by
 obtain ⟨hb,hm⟩:=hS
 cases R with
 | none =>
  obtain ⟨x,hB,hx,hc⟩:=hm
  have S:=St.start W
  refine zn Tryz.func359 Tryz.results359 Tryz.ntmps359 ?_
  iterate 5 refine z ?_
  refine j3 (jT jc8 rfl (Tryz.sizeOf247 _) rfl (hB.gr S.out) rfl rfl) ?_
  refine jF (jL Tryz.zeroValue247 rfl) S ?_
  intro b_n w2_ g2_ S
  refine jH (i:=0) S rfl (Tryz.sizeOf247 _) rfl rfl rfl rfl rfl rfl ?_
  intro w3_ S
  iterate 3 refine z ?_
  refine j3 (jB je3 rfl rfl (hB.gr S.out) rfl) ?_
  refine jE (g7 bJ rfl rfl rfl Tryz.zeroValue428) ?_
  iterate 7 refine z ?_
  refine zq ?_
  refine yD rfl ⟨b_n,none,rfl,S.as_ (i:=0) (h':=.slb b_n none sw sh c) rfl rfl (fun h=>⟨hb,x,h,hx,hc⟩) (fun g hg=>hg.elim id (fun e=>by cases e))⟩
 | some g =>
  obtain ⟨cap,hB,hR⟩:=hm
  have S:=St.start W
  refine zn Tryz.func359 Tryz.results359 Tryz.ntmps359 ?_
  iterate 5 refine z ?_
  refine j3 (jT jc8 rfl (Tryz.sizeOf247 _) rfl (hB.gr S.out) rfl rfl) ?_
  refine jF (jL Tryz.zeroValue247 rfl) S ?_
  intro b_n w2_ g2_ S
  refine jH (i:=0) S rfl (Tryz.sizeOf247 _) rfl rfl rfl rfl rfl rfl ?_
  intro w3_ S
  iterate 3 refine z ?_
  refine j3 (jB je3 rfl rfl (hB.gr S.out) rfl) ?_
  refine jE (gM bJ rfl rfl) ?_
  iterate 7 refine z ?_
  refine jC rfl (jbu (kA (sw * sh) c) (zA _ _) hs.1 (by omega) (jdM _ _) (hR.rd.gr S.out)) ?_
  rintro _ w4_ ⟨A_r,c_r,rfl,hR_r,hf_r,g4_⟩
  have S:=S.pushRow hR_r hf_r g4_
  refine jE (qU bJ rfl rfl) ?_
  refine z ?_
  refine j8 (i:=1) S rfl (nF _) rfl rfl rfl rfl rfl rfl ?_
  intro w5_ S
  refine z ?_
  refine zq ?_
  obtain ⟨g2,hg2⟩:∃ g2,A_r=some ⟨g2,0,none⟩:=by
   rcases (S.row (i:=0) rfl).form with ⟨_,h0,_⟩ | ⟨g2,l,h,_⟩
   ·omega
   ·exact ⟨g2,h⟩
  subst hg2
  exact yD rfl ⟨b_n,some g2,rfl,S.two (h:=.slb b_n (some g2) sw sh c) (fun h1 h2=>⟨hb,c_r,h2,h1⟩) (fun g hg=>hg.elim .inr (fun e=>.inl (by rw [Option.some.inj e]; rfl)))⟩
end
section
variable {W : World} {A : Option Addr} {p gw gh cap : Nat} {cc : Nat → Int} {bs : Nat → Nat} {Rs : Nat → Option Nat}
def gL (n k:Nat) (bs bs':Nat->Nat):List Value:=(List.range n).map fun t=>.pointer (some ⟨if t < k then bs' t else bs t,0,none⟩)
theorem je7 (n k:Nat) (bs bs':Nat->Nat):(gL n k bs bs').length=n:=by simp [gL]
theorem jda (n:Nat) (bs bs':Nat->Nat):cH n bs=gL n 0 bs bs':=by simp [gL,cH]
theorem je9 (n:Nat) (bs bs':Nat->Nat):gL n n bs bs'=cH n bs':=by
 unfold gL cH
 exact List.map_congr_left fun t ht=>by rw [if_pos (List.mem_range.1 ht)]
theorem je8 {n k t:Nat} {bs bs':Nat->Nat} (h:t < n) (hk:k<=t):(gL n k bs bs')[(t:Int).toNat * 1]?=some (.pointer (some ⟨bs t,0,none⟩)):=by
 rw [Nat.mul_one,Int.toNat_natCast]
 simp [gL,h]
 omega
theorem je6 {n k b:Nat} {bs bs':Nat->Nat}:(gL n k bs bs').set ((k:Int).toNat * 1) (pt b)=gL n (k+1) bs (zG bs' k b):=by
 rw [Nat.mul_one,Int.toNat_natCast]
 apply List.ext_getElem?
 intro i
 rw [List.getElem?_set]
 unfold gL
 by_cases e:k=i
 ·subst e
  rw [if_pos rfl]
  simp only [List.length_map,List.length_range,List.getElem?_map]
  split
  ·rename_i h; rw [List.getElem?_range h]; simp [zG]
  ·rename_i h; rw [List.getElem?_eq_none (by simp; omega)]; rfl
 ·rw [if_neg e]
  simp only [List.getElem?_map]
  by_cases h:i < n
  ·rw [List.getElem?_range h]
   simp only [Option.map_some,Option.some.injEq,Value.pointer.injEq,Addr.mk.injEq,and_true]
   by_cases h2:i < k
   ·rw [if_pos h2,if_pos (by omega),yX h2]
   ·rw [if_neg h2,if_neg (by omega)]
  ·rw [List.getElem?_eq_none (by simp; omega)]; rfl
theorem jgU (n:Nat) (bs:Nat->Nat):((cH n bs).all fun v=>v.oneCell')=true:=List.all_eq_true.2 fun v hv=>by
 simp only [cH,List.mem_map] at hv
 obtain ⟨i,_,rfl⟩:=hv
 rfl
def CNb (F:Nat->Prop) (W:World) (L:List HA) (T:Value->HA->Prop) (wq:World):List Value->Prop
 | []=>St F W wq L
 | v::_=>∃ h,T v h/\St F W wq (h::L)
theorem CNb.st {F:Nat->Prop} {W:World} {L:List HA} {T:Value->HA->Prop} {wq:World}:∀ {τ:List Value},CNb F W L T wq τ->St F W wq L
 | [],h=>h
 | v::_,⟨_,_,S⟩=>S.drop 1
theorem jjj (hG:GridAt W p gw gh cc A cap bs Rs):Fn Tryz.prog 351 [pt p] W (pH id gw gh cc W):=by
 have hw:=hG.sw
 have hh:=hG.sh
 have hN:acr gw * acr gh<=64 * 64:=Nat.mul_le_mul (vT hw.2) (vT hh.2)
 have hN0:0 < acr gw * acr gh:=Nat.mul_pos (vZ hw.1) (vZ hh.1)
 have hT:=hG.top
 have hR:=hG.row
 generalize hNe:acr gw * acr gh=N at *
 have S:=St.start W
 refine zn Tryz.func351 Tryz.results351 Tryz.ntmps351 ?_
 iterate 5 refine z ?_
 refine j3 (jT Tryz.underlying198 rfl (Tryz.sizeOf198 _) rfl (hT.gr S.out) rfl rfl) ?_
 refine jF (jL Tryz.zeroValue198 rfl) S ?_
 intro b_n w2_ g2_ S
 refine jH (i:=0) S rfl (Tryz.sizeOf198 _) rfl rfl rfl rfl rfl rfl ?_
 intro w3_ S
 iterate 3 refine z ?_
 refine j3 (jB jaT rfl rfl (hT.gr S.out) rfl) ?_
 refine jC rfl (jbt (cH N bs) (jgV _ _) hN0 (by omega) (jgU _ _) (hR.rd.gr S.out)) ?_
 rintro _ w4_ ⟨A_r,c_r,rfl,hR_r,hf_r,g4_⟩
 have S:=S.pushRow hR_r hf_r g4_
 refine z ?_
 refine j8 (i:=1) S rfl (Tryz.sizeOf196 _) rfl rfl rfl rfl rfl rfl ?_
 intro w5_ S
 iterate 4 refine z ?_
 refine zc ?_
 refine jS ?_
 refine zc ?_
 rw [jda N bs (fun _=>0)] at S
 have S:=S.slbs0 gw gh cc (fun _=>0) (fun _=>none)
 refine j9 (fun m e w=>∃ (k:Nat) (bs':Nat->Nat) (Rs':Nat->Option Nat),k+m=N/\SL e [(3,pt b_n),(18,.slice A_r N c_r),(19,ii N),(20,ii k)] /\
  St No W w [.slbs gw gh cc k bs' Rs',.row 133 1 A_r N c_r (gL N k bs bs'),.blk b_n 198 [ii gw,ii gh,ii (acr gw),.slice A_r N c_r]]) N
  ⟨0,fun _=>0,fun _=>none,by omega,⟨rfl,rfl,rfl,rfl,trivial⟩,S⟩ ?_
 clear S
 rintro m e w ⟨k,bs',Rs',hk,hsl,S⟩
 rw [hsl.fold]
 by_cases hkn:k < N
 ·have sa_r:yH A_r:=(S.row (i:=1) rfl).someA (by omega)
  have hSl:=hG.slab k (by rw [hNe]; exact hkn)
  have hz1:=vN (n:=gw) (k:=k % acr gw) (Nat.mod_lt _ (vZ hw.1))
  have hz2:=vN (n:=gh) (k:=k / acr gw) (Nat.div_lt_of_lt_mul (by rw [hNe]; exact hkn))
  have hcp:=fun w (g:Gr W w)=>jiE ⟨Nat.mul_le_mul (show 1<=_ by omega) (show 1<=_ by omega),Nat.mul_le_mul (show _<=16 by omega) (show _<=16 by omega)⟩ (hSl.gr g)
  refine zt ?_; refine z ?_; refine zx ?_
  refine j3 (j7 Tryz.underlying133 rfl rfl (S.rd (i:=1) rfl) (je8 hkn (Nat.le_refl k))) ?_
  refine z ?_; refine z ?_
  refine zc ?_
  refine qQ (C:=(fun σ wq=>CNb No W [.slbs gw gh cc k bs' Rs',.row 133 1 A_r N c_r (gL N k bs bs'),.blk b_n 198 [ii gw,ii gh,ii (acr gw),.slice A_r N c_r]] (fun v h=>∃ b' R',v=.pointer (some ⟨b',0,none⟩)/\h=.slb b' R' (tsz gw (k % acr gw)) (tsz gh (k / acr gw)) (gI gw cc k)) wq σ)) [4] [0,1,2,3,4,5] [6] (by kernel_rfl) (by kernel_rfl) (S.gr (Gr.drew _)) ?_
  simp only [yT,j6,List.drop_succ_cons,List.drop_zero]
  refine jX rfl (jD Tryz.underlying198 rfl Tryz.sizeOf196 rfl rfl) ?_
  refine qF rfl (fun τ wq hq=>jB jaT rfl rfl ((CNb.st hq).blk (i:=2) rfl) rfl) ?_
  refine jX rfl (jA rfl) ?_
  refine jX rfl (jA rfl) ?_
  refine jZ rfl rfl (fun wq hq=>uW rfl ((hcp wq (St.out (CNb.st hq))).mono (fun v w' ⟨b',R',hv,S2⟩=>⟨_,⟨b',R',hv,rfl⟩,St.app (CNb.st hq) S2⟩))) ?_
  rintro v4 w4 ⟨h4,⟨b4,R4,rfl,_⟩,_⟩
  refine jX rfl (kV jaT Tryz.sizeOf133 rfl rfl sa_r (by omega) (by omega)) ?_
  refine yV ?_
  rintro w8 ⟨h8,⟨b',R',e8,rfl⟩,S⟩
  cases e8
  refine qV (i:=2) S rfl (Tryz.sizeOf133 _) rfl rfl rfl rfl (by rw [je7]; omega) rfl ?_
  intro w9 S
  refine zr ?_; refine z ?_
  refine ze ?_
  rw [je6] at S
  exact ⟨m - 1,by omega,k+1,zG bs' k b4,zG Rs' k R',by omega,⟨rfl,rfl,rfl,ie (by omega),trivial⟩,S.slbsPush⟩
 ·obtain rfl:k=N:=by omega
  refine zf ?_
  refine zc ?_
  refine jM rfl ?_
  refine zc ?_
  refine jY ?_
  repeat first | refine jP ?_ | refine jU ?_
  show CW _ _ _ _ _ _
  refine z ?_
  refine zq ?_
  rw [je9] at S
  have hSl:jeu w gw gh cc k bs' Rs':=S.ok (i:=0) rfl
  have hT2:=S.blk (i:=2) rfl
  have hR2:=S.row (i:=1) rfl
  refine yD rfl ⟨b_n,A_r,c_r,bs',Rs',rfl,⟨hw,hh,by rw [hNe]; exact hT2,by rw [hNe]; exact hR2,by rw [hNe]; exact hSl.slab,by rw [hNe]; exact hSl.inj,by rw [hNe]; exact hSl.injR⟩,fun g hg=>?_,S.out⟩
  rw [hNe] at hg
  rcases hg with hg | hg | ⟨t,ht,hg⟩
  ·exact ((S.sep.get (i:=2) rfl).2 g hg).elim (fun h=>h.elim) id
  ·exact ((S.sep.get (i:=1) rfl).2 g hg).elim (fun h=>h.elim) id
  ·exact ((S.sep.get (i:=0) rfl).2 g ⟨t,ht,hg⟩).elim (fun h=>h.elim) id
end
end
section
open Go.RowKit
@[reducible] def HR:=Option (Nat × Nat × Nat × Nat)
def hpC:HR->List Value
 | none=>[ii 1,ii 0,ii 0,ii 0]
 | some (a,b,c,d)=>[ii a,ii b,ii c,ii d]
def hpU (r:HR) (x y:Nat):HR:=match r with
 | none=>some (x,y,x,y)
 | some (a,b,c,d)=>some (min a x,min b y,max c x,max d y)
def jfx (gw gh:Nat):HR->Prop
 | none=>True
 | some (a,b,c,d)=>(a<=c/\c < gw)/\b<=d/\d < gh
def jdC (r:HR) (x y:Nat):Prop:=match r with
 | none=>False
 | some (a,b,c,d)=>(a<=x/\x<=c)/\b<=y/\y<=d
theorem jkA {gw gh:Nat} {r:HR} {x y:Nat} (h:jfx gw gh r) (hx:x < gw) (hy:y < gh):jfx gw gh (hpU r x y):=by
 match r,h with
 | none,_=>exact ⟨⟨Nat.le_refl _,hx⟩,Nat.le_refl _,hy⟩
 | some (a,b,c,d),⟨⟨h1,h2⟩,h3,h4⟩=>exact ⟨⟨by omega,by omega⟩,by omega,by omega⟩
theorem jhE (r:HR) (x y:Nat):jdC (hpU r x y) x y:=by
 match r with
 | none=>exact ⟨⟨Nat.le_refl _,Nat.le_refl _⟩,Nat.le_refl _,Nat.le_refl _⟩
 | some (a,b,c,d)=>exact ⟨⟨Nat.min_le_right _ _,Nat.le_max_right _ _⟩,Nat.min_le_right _ _,Nat.le_max_right _ _⟩
theorem jkB {r:HR} {x y:Nat} (x' y':Nat) (h:jdC r x y):jdC (hpU r x' y') x y:=by
 match r,h with
 | some (a,b,c,d),⟨⟨h1,h2⟩,h3,h4⟩=>exact ⟨⟨by omega,by omega⟩,by omega,by omega⟩
section
variable {W : World}
theorem jjg (r:HR) (x y:Nat) (hr:jfx 1024 1024 r) (hx:x < 1024) (hy:y < 1024):Fn Tryz.prog 90 [.agg (hpC r).toArray,.agg #[ii x,ii y,ii x,ii y]] W (yK (.agg (hpC (hpU r x y)).toArray) W):=by
 have hb:uQ x y x y=true:=(vO _ _ _ _).2 (by omega)
 match r,hr with
 | none,_ =>
  have ha:uQ 1 0 0 0=false:=by decide
  show Fn Tryz.prog 90 [.agg #[ii 1,ii 0,ii 0,ii 0],.agg #[ii x,ii y,ii x,ii y]] W (yK (.agg #[ii x,ii y,ii x,ii y]) W)
  have S:=St.start W
  refine zn Tryz.func90 Tryz.results90 Tryz.ntmps90 ?_
  refine zs ?_
  refine jF (jO rfl) S ?_
  intro b_ra w2_ g2_ S
  refine jF (jO rfl) S ?_
  intro b_rb w4_ g4_ S
  refine jF (jL qX rfl) S ?_
  intro b_b5 w6_ g6_ S
  refine z ?_
  refine jC rfl (vW _ _ _ _ w6_) ?_
  rintro _ w7_ ⟨rfl,g7_⟩
  have S:=S.gr g7_
  rw [ha]
  iterate 3 refine z ?_
  refine jQ rfl ?_
  refine jC rfl (vW _ _ _ _ w7_) ?_
  rintro _ w8_ ⟨rfl,g8_⟩
  have S:=S.gr g8_
  rw [hb]
  iterate 4 refine z ?_
  refine jC rfl (vW _ _ _ _ w8_) ?_
  rintro _ w9_ ⟨rfl,g9_⟩
  have S:=S.gr g9_
  rw [ha]
  iterate 3 refine z ?_
  refine jH (i:=0) S rfl (y6 _) rfl rfl rfl rfl rfl rfl ?_
  intro w10_ S
  refine zq ?_
  exact v8 q27 rfl (y6 _) rfl (S.blk (i:=0) rfl) rfl rfl ⟨rfl,S.out⟩
 | some (a,b,c,d),⟨⟨h1,h2⟩,h3,h4⟩ =>
  have ha:uQ a b c d=true:=(vO _ _ _ _).2 (by omega)
  have e1:min (a:Int) x=((min a x:Nat):Int):=by omega
  have e2:min (b:Int) y=((min b y:Nat):Int):=by omega
  have e3:max (c:Int) x=((max c x:Nat):Int):=by omega
  have e4:max (d:Int) y=((max d y:Nat):Int):=by omega
  show Fn Tryz.prog 90 [.agg #[ii a,ii b,ii c,ii d],.agg #[ii x,ii y,ii x,ii y]] W (yK (.agg #[ii (min a x:Nat),ii (min b y:Nat),ii (max c x:Nat),ii (max d y:Nat)]) W)
  have S:=St.start W
  refine zn Tryz.func90 Tryz.results90 Tryz.ntmps90 ?_
  refine zs ?_
  refine jF (jO rfl) S ?_
  intro b_ra w2_ g2_ S
  refine jF (jO rfl) S ?_
  intro b_rb w4_ g4_ S
  refine jF (jL qX rfl) S ?_
  intro b_b5 w6_ g6_ S
  refine z ?_
  refine jC rfl (vW _ _ _ _ w6_) ?_
  rintro _ w7_ ⟨rfl,g7_⟩
  have S:=S.gr g7_
  rw [ha]
  iterate 3 refine z ?_
  refine jK rfl ?_
  iterate 4 refine z ?_
  refine jC rfl (vW _ _ _ _ w7_) ?_
  rintro _ w8_ ⟨rfl,g8_⟩
  have S:=S.gr g8_
  rw [ha]
  iterate 3 refine z ?_
  refine jC rfl (vW _ _ _ _ w8_) ?_
  rintro _ w9_ ⟨rfl,g9_⟩
  have S:=S.gr g9_
  rw [hb]
  iterate 7 refine z ?_
  rw [e1]
  iterate 5 refine z ?_
  rw [e2]
  iterate 5 refine z ?_
  rw [e3]
  iterate 5 refine z ?_
  rw [e4]
  refine jE (jN (pl:=[(0,1),(1,1),(2,1),(3,1)]) q27 qX (fun w=>by kernel_rfl) rfl rfl) ?_
  refine jH (i:=0) S rfl (y6 _) rfl rfl rfl rfl rfl rfl ?_
  intro w10_ S
  refine zq ?_
  exact v8 q27 rfl (y6 _) rfl (S.blk (i:=0) rfl) rfl rfl ⟨rfl,S.out⟩
end
end
section
open Go.RowKit
theorem jdG (a b c d a' b' c' d':Int) (w:World):(binOp .eql 27 (.agg #[ii a,ii b,ii c,ii d]) (.agg #[ii a',ii b',ii c',ii d'])).run Tryz.prog w=.ok (.bool (decide (a=a'/\b=b'/\c=c'/\d=d'))) w:=by
 have u3:=q2
 have a3:=Tryz.isAgg2
 have z3:=qz2
 have hS:Tryz.prog.underlying 27=some (.struct (Tryz.prog.fieldsOf 27)):=by kernel_rfl
 have hp:Tryz.prog.stoodInHeld 27=false:=by kernel_rfl
 rw [run_eql_struct,show (10000:Nat)=9999+1 from rfl,run_equalIn_agg w 9999 27 _ _ hS hp]
 simp only [Program.fieldsOf,q27]
 go_simp
 by_cases h1:a=a' <;> by_cases h2:b=b' <;> by_cases h3:c=c' <;> by_cases h4:d=d' <;> simp [h1,h2,h3,h4]
theorem jdw (a b c d a' b' c' d':Int) (w:World):(binOp .neq 27 (.agg #[ii a,ii b,ii c,ii d]) (.agg #[ii a',ii b',ii c',ii d'])).run Tryz.prog w=.ok (.bool (!decide (a=a'/\b=b'/\c=c'/\d=d'))) w:=by
 have u3:=q2
 have a3:=Tryz.isAgg2
 have z3:=qz2
 have hS:Tryz.prog.underlying 27=some (.struct (Tryz.prog.fieldsOf 27)):=by kernel_rfl
 have hp:Tryz.prog.stoodInHeld 27=false:=by kernel_rfl
 rw [run_neq_struct,show (10000:Nat)=9999+1 from rfl,run_equalIn_agg w 9999 27 _ _ hS hp]
 simp only [Program.fieldsOf,q27]
 go_simp
 by_cases h1:a=a' <;> by_cases h2:b=b' <;> by_cases h3:c=c' <;> by_cases h4:d=d' <;> simp [h1,h2,h3,h4]
section
variable {e : Nat → Value} {dd : Option Tmp} {ty : TypeId} {ps : String} {af : Array Edge} {t' : TypeId} {x y : Operand} {a b c d a' b' c' d' : Int}
theorem sS {r:Bool} (hx:ev e x=.agg #[ii a,ii b,ii c,ii d]) (hy:ev e y=.agg #[ii a',ii b',ii c',ii d']) (hr:(decide (a=a'/\b=b'/\c=c'/\d=d'))=r):OpV Tryz.prog e ⟨dd,.binOp .eql 27 x y t',ty,ps,af,none⟩ (.bool r):=by
 intro w
 subst hr
 have hg:∀ w,(eqGuard .eql 27 x y (.agg #[ii a,ii b,ii c,ii d]) (.agg #[ii a',ii b',ii c',ii d'])).run Tryz.prog w=.ok () w:=fun w=>sY (by kernel_rfl)
 simp [OpR,execOp,hx,hy,hg,jdG]
theorem jak {r:Bool} (hx:ev e x=.agg #[ii a,ii b,ii c,ii d]) (hy:ev e y=.agg #[ii a',ii b',ii c',ii d']) (hr:(!decide (a=a'/\b=b'/\c=c'/\d=d'))=r):OpV Tryz.prog e ⟨dd,.binOp .neq 27 x y t',ty,ps,af,none⟩ (.bool r):=by
 intro w
 subst hr
 have hg:∀ w,(eqGuard .neq 27 x y (.agg #[ii a,ii b,ii c,ii d]) (.agg #[ii a',ii b',ii c',ii d'])).run Tryz.prog w=.ok () w:=fun w=>sY (by kernel_rfl)
 simp [OpR,execOp,hx,hy,hg,jdw]
end
end
section
open Go.RowKit
def tlV (gw gh:Nat):List Value:=vF 0 0 ((gw:Int) - 1) ((gh:Int) - 1) (acr gh)
def tX0 (gw k:Nat):Nat:=16 * (k % acr gw)
def tY0 (gw k:Nat):Nat:=16 * (k / acr gw)
def tX1 (gw k:Nat):Nat:=tX0 gw k+tsz gw (k % acr gw) - 1
def tY1 (gw gh k:Nat):Nat:=tY0 gw k+tsz gh (k / acr gw) - 1
theorem jdV {gw gh k:Nat} (hw:1<=gw) (hk:k < acr gh * acr gw):(tX0 gw k<=tX1 gw k/\tX1 gw k < gw/\tX1 gw k+1 - tX0 gw k=tsz gw (k % acr gw))/\tY0 gw k<=tY1 gw gh k/\tY1 gw gh k < gh/\tY1 gw gh k+1 - tY0 gw k=tsz gh (k / acr gw):=by
 have hi:k % acr gw < acr gw:=Nat.mod_lt _ (vZ hw)
 have hj:k / acr gw < acr gh:=Nat.div_lt_of_lt_mul (by rw [Nat.mul_comm]; exact hk)
 unfold tX1 tY1 tX0 tY0
 generalize k % acr gw=a at *
 generalize k / acr gw=b at *
 unfold acr at hi hj
 unfold tsz
 omega
theorem jgh {gw gh k:Nat} (hw:1<=gw) (hk:k < acr gh * acr gw):((tlV gw gh).drop ((k:Int).toNat * 4)).take 4=[ii (tX0 gw k),ii (tY0 gw k),ii (tX1 gw k),ii (tY1 gw gh k)]:=by
 have hi:k % acr gw < acr gw:=Nat.mod_lt _ (vZ hw)
 have hj:k / acr gw < acr gh:=Nat.div_lt_of_lt_mul (by rw [Nat.mul_comm]; exact hk)
 have hat:=cQ 0 0 ((gw:Int) - 1) ((gh:Int) - 1) (acr gh) (k % acr gw) (k / acr gw) (by rw [k5 hw]; exact hi) hj
 rw [k5 hw,show k / acr gw * acr gw+k % acr gw=k by rw [Nat.mul_comm]; exact Nat.div_add_mod _ _] at hat
 rw [Int.toNat_natCast]
 unfold tlV
 rw [hat]
 unfold cR tX1 tY1 tX0 tY0
 generalize k % acr gw=a at *
 generalize k / acr gw=b at *
 have a1:max (0 - 0 % 16+16 * (a:Int)) 0=((16 * a:Nat):Int):=by omega
 have a2:max (0 - 0 % 16+16 * (b:Int)) 0=((16 * b:Nat):Int):=by omega
 have a3:min (0 - 0 % 16+16 * (a:Int)+16 - 1) ((gw:Int) - 1)=((16 * a+tsz gw a - 1:Nat):Int):=by unfold acr at hi; unfold tsz; omega
 have a4:min (0 - 0 % 16+16 * (b:Int)+16 - 1) ((gh:Int) - 1)=((16 * b+tsz gh b - 1:Nat):Int):=by unfold acr at hj; unfold tsz; omega
 rw [a1,a2,a3,a4]
def m7 (gw k i x y:Nat):Prop:=y / 16 * acr gw+x / 16 < k\/(y / 16 * acr gw+x / 16=k/\(y - tY0 gw k) * tsz gw (k % acr gw)+(x - tX0 gw k) < i)
theorem jeO {gw gh k i:Nat} (hw:1<=gw) (hk:k < acr gh * acr gw) {x y:Nat} (hx:x < gw) (hy:y < gh) (h:m7 gw k (i+1) x y):m7 gw k i x y\/(x=tX0 gw k+i % tsz gw (k % acr gw)/\y=tY0 gw k+i / tsz gw (k % acr gw)):=by
 rcases h with h | ⟨h1,h2⟩
 ·exact .inl (.inl h)
 ·by_cases h3:(y - tY0 gw k) * tsz gw (k % acr gw)+(x - tX0 gw k) < i
  ·exact .inl (.inr ⟨h1,h3⟩)
  ·right
   have h4:(y - tY0 gw k) * tsz gw (k % acr gw)+(x - tX0 gw k)=i:=by omega
   have hpw:=vZ hw
   have hxa:=qD hx
   have e1:k % acr gw=x / 16:=by rw [<-h1,Nat.mul_comm,Nat.mul_add_mod,Nat.mod_eq_of_lt hxa]
   have e2:k / acr gw=y / 16:=by rw [<-h1,Nat.mul_comm,Nat.mul_add_div hpw,Nat.div_eq_of_lt hxa,Nat.add_zero]
   have hlt:x - tX0 gw k < tsz gw (k % acr gw):=by unfold tX0; rw [e1]; unfold tsz; omega
   have e3:i % tsz gw (k % acr gw)=x - tX0 gw k:=by rw [<-h4,Nat.mul_comm,Nat.mul_add_mod,Nat.mod_eq_of_lt hlt]
   have e4:i / tsz gw (k % acr gw)=y - tY0 gw k:=by rw [<-h4,Nat.mul_comm,Nat.mul_add_div (by omega),Nat.div_eq_of_lt hlt,Nat.add_zero]
   rw [e3,e4]
   unfold tX0 tY0
   rw [e1,e2]
   omega
theorem jeN {gw gh k:Nat} (hw:1<=gw) (hk:k < acr gh * acr gw) {x y:Nat} (hx:x < gw) (hy:y < gh) (h:m7 gw (k+1) 0 x y):m7 gw k (tsz gh (k / acr gw) * tsz gw (k % acr gw)) x y:=by
 rcases h with h | ⟨_,h2⟩
 ·by_cases e:y / 16 * acr gw+x / 16=k
  ·have hpw:=vZ hw
   have hxa:=qD hx
   have e1:k % acr gw=x / 16:=by rw [<-e,Nat.mul_comm,Nat.mul_add_mod,Nat.mod_eq_of_lt hxa]
   have e2:k / acr gw=y / 16:=by rw [<-e,Nat.mul_comm,Nat.mul_add_div hpw,Nat.div_eq_of_lt hxa,Nat.add_zero]
   refine .inr ⟨e,?_⟩
   have h1:x - tX0 gw k < tsz gw (k % acr gw):=by unfold tX0; rw [e1]; unfold tsz; omega
   have h3:y - tY0 gw k+1<=tsz gh (k / acr gw):=by unfold tY0; rw [e2]; unfold tsz; omega
   have h5:=Nat.mul_le_mul_right (tsz gw (k % acr gw)) h3
   rw [Nat.add_mul,Nat.one_mul] at h5
   omega
  ·exact .inl (by omega)
 ·omega
theorem jgt {gw gh x y:Nat} (hx:x < gw) (hy:y < gh):m7 gw (acr gh * acr gw) 0 x y:=by
 have h1:=qD hx
 have h2:=qD hy
 have h3:=Nat.mul_le_mul_right (acr gw) (show y / 16+1<=acr gh by omega)
 rw [Nat.add_mul,Nat.one_mul] at h3
 exact .inl (by omega)
theorem jcx (r:HR):∃ a b c d:Int,hpC r=[ii a,ii b,ii c,ii d]:=by
 match r with
 | none=>exact ⟨_,_,_,_,rfl⟩
 | some (a,b,c,d)=>exact ⟨_,_,_,_,rfl⟩
section
variable {W : World} {A A2 : Option Addr} {p p2 gw gh cap cap2 : Nat} {cc c2 : Nat → Int} {bs bs2 : Nat → Nat} {Rs Rs2 : Nat → Option Nat}
theorem mS (hG:GridAt W p gw gh cc A cap bs Rs):Fn Tryz.prog 107 [pt p] W (qR id 27 4 (acr gh * acr gw) (tlV gw gh) W):=by
 have hw:=hG.sw
 have hh:=hG.sh
 have hgt:=hG.top
 have hpc:=fun w=>nP 0 0 ((gw:Int) - 1) ((gh:Int) - 1) (by omega) w
 rw [k5 hw.1,k5 hh.1] at hpc
 have S:=St.start W
 refine zn Tryz.func107 Tryz.results107 Tryz.ntmps107 ?_
 iterate 4 refine z ?_
 refine jC rfl (fG p gw gh hw.2 hh.2 _ W (hgt.gr S.out)) ?_
 rintro _ w1_ ⟨rfl,g1_⟩
 have S:=S.gr g1_
 refine jC rfl (hpc w1_) ?_
 rintro _ w2_ ⟨A_r,c_r,rfl,hR_r,hf_r,g2_⟩
 have S:=S.pushRow hR_r hf_r g2_
 refine z ?_
 refine zq ?_
 exact yD rfl (S.retNew (i:=0) rfl)
def hpE (gw gh:Nat) (c c2:Nat->Int) (r:HR):Prop:=r ≠ none->∃ x y,x < gw/\y < gh/\c (y * gw+x) ≠ c2 (y * gw+x)
def RetBtw (gw gh:Nat) (c c2:Nat->Int) (W:World) (v:Value) (w':World):Prop:=∃ r:HR,jfx gw gh r/\hpE gw gh c c2 r/\(∀ x y,x < gw->y < gh->c (y * gw+x) ≠ c2 (y * gw+x)->jdC r x y)/\match r with
 | none=>v=.tuple #[.agg #[ii 0,ii 0,ii 0,ii 0,.slice none 0 0,.slice none 0 0],ii 0]/\Gr W w'
 | some (x0,y0,x1,y1)=>∃ B1 k1 B2 k2,v=.tuple #[.agg #[ii x0,ii y0,ii x1,ii y1,.slice B1 ((y1+1 - y0) * (x1+1 - x0)) k1,.slice B2 ((y1+1 - y0) * (x1+1 - x0)) k2],ii 0] /\
  St No W w' [.row 2 1 B2 ((y1+1 - y0) * (x1+1 - x0)) k2 (yC (y9 gw c2 x0 y0 (x1+1 - x0) (y1+1 - y0))),.row 2 1 B1 ((y1+1 - y0) * (x1+1 - x0)) k1 (yC (y9 gw c x0 y0 (x1+1 - x0) (y1+1 - y0)))]
theorem jdi (hG:GridAt W p gw gh cc A cap bs Rs) (hG2:GridAt W p2 gw gh c2 A2 cap2 bs2 Rs2):Fn Tryz.prog 352 [pt p,pt p2] W (RetBtw gw gh cc c2 W):=by
 have hw:=hG.sw
 have hh:=hG.sh
 have hN:acr gh * acr gw<=64 * 64:=Nat.mul_le_mul (vT hh.2) (vT hw.2)
 have hgt:=hG.top
 have hgt2:=hG2.top
 have hti:=fun w (g:Gr W w)=>mS (hG.gr g)
 generalize hNe:acr gh * acr gw=N at *
 have S:=St.start W
 refine zn Tryz.func352 Tryz.results352 Tryz.ntmps352 ?_
 refine zs ?_
 refine jF (jL fN rfl) S ?_
 intro b_o w2_ g2_ S
 iterate 8 refine z ?_
 refine jC rfl (fG p gw gh hw.2 hh.2 _ w2_ (hgt.gr S.out)) ?_
 rintro _ w3_ ⟨rfl,g3_⟩
 have S:=S.gr g3_
 refine z ?_
 refine jC rfl (fG p2 gw gh hw.2 hh.2 _ w3_ (hgt2.gr S.out)) ?_
 rintro _ w4_ ⟨rfl,g4_⟩
 have S:=S.gr g4_
 refine jE (jak (r:=false) rfl rfl (by rw [decide_eq_true ⟨rfl,rfl,rfl,rfl⟩]; rfl)) ?_
 refine zs ?_
 refine jE (jN (pl:=[(0,1),(1,1),(2,1),(3,1)]) q27 qX (fun w=>by kernel_rfl) rfl rfl) ?_
 refine jF (jL qX rfl) S ?_
 intro b_r w6_ g6_ S
 refine jH (i:=0) S rfl (y6 _) rfl rfl rfl rfl rfl rfl ?_
 intro w7_ S
 refine z ?_
 refine jC rfl (hti w7_ S.out) ?_
 rintro _ w8_ ⟨A_ts,c_ts,rfl,hR_ts,hf_ts,g8_⟩
 have S:=S.pushRow hR_ts hf_ts g8_
 refine z ?_; refine z ?_
 refine zc ?_
 refine jS ?_
 refine zc ?_
 refine j9 (fun m e w=>∃ (k:Nat) (r:HR),k+m=N/\jfx gw gh r/\hpE gw gh cc c2 r/\(∀ x y,x < gw->y < gh->m7 gw k 0 x y->cc (y * gw+x) ≠ c2 (y * gw+x)->jdC r x y)/\SL e [(0,pt p),(1,pt p2),(4,pt b_o),(6,pt b_r),(32,.slice A_ts N c_ts),(33,ii N),(34,ii k)] /\
  St No W w [.row 27 4 A_ts N c_ts (tlV gw gh),.blk b_r 27 (hpC r),.blk b_o 216 [ii 0,ii 0,ii 0,ii 0,.slice none 0 0,.slice none 0 0]]) N
  ⟨0,none,by omega,trivial,fun h=>absurd rfl h,fun x y _ _ h=>(by rcases h with h | ⟨_,h⟩ <;> omega),⟨rfl,rfl,rfl,rfl,rfl,rfl,rfl,trivial⟩,S⟩ ?_
 clear S
 rintro m e w ⟨k,r,hk,hrok,hre,hseen,hsl,S⟩
 rw [hsl.fold]
 by_cases hkn:k < N
 ·have sa_ts:yH A_ts:=(S.row (i:=0) rfl).someA (by omega)
  have hkn':k < acr gh * acr gw:=by rw [hNe]; exact hkn
  have htl:=jgh (gh:=gh) hw.1 hkn'
  obtain ⟨⟨tx1,tx2,tx3⟩,ty1,ty2,ty3⟩:=jdV (gw:=gw) (gh:=gh) (k:=k) hw.1 hkn'
  have hsc:=fun i x y hx hy h=>jeO (gw:=gw) (gh:=gh) (k:=k) (i:=i) (x:=x) (y:=y) hw.1 hkn' hx hy h
  have hsn:=fun x y hx hy h=>jeN (gw:=gw) (gh:=gh) (k:=k) (x:=x) (y:=y) hw.1 hkn' hx hy h
  have hv1:=fun w (g:Gr W w)=>qN (W:=w) (tX0 gw k) (tY0 gw k) (tX1 gw k) (tY1 gw gh k) ⟨tx1,tx2⟩ ⟨ty1,ty2⟩ (hG.gr g)
  have hv2:=fun w (g:Gr W w)=>qN (W:=w) (tX0 gw k) (tY0 gw k) (tX1 gw k) (tY1 gw gh k) ⟨tx1,tx2⟩ ⟨ty1,ty2⟩ (hG2.gr g)
  rw [tx3,ty3] at hv1 hv2
  generalize htw:tsz gw (k % acr gw)=tw at *
  generalize hth:tsz gh (k / acr gw)=th at *
  generalize tX0 gw k=X0 at *
  generalize tY0 gw k=Y0 at *
  generalize tX1 gw k=X1 at *
  generalize tY1 gw gh k=Y1 at *
  have htt:th * tw<=1024 * 1024:=Nat.mul_le_mul (by omega) (by omega)
  have hg1:∀ (c:Nat->Int) i,i < th * tw->(yC (y9 gw c X0 Y0 tw th))[(i:Int).toNat * 1]?=some (ii (c ((Y0+i / tw) * gw+(X0+i % tw)))):=fun c i hi=>by
   rw [Nat.mul_one,Int.toNat_natCast]
   exact qO (dS (by omega) hi)
  refine zt ?_; refine zx ?_
  refine j3 (yY q27 rfl (y6 _) rfl (S.rd (i:=0) rfl) htl rfl rfl) ?_
  refine jF (jL qX rfl) S ?_
  intro b_t w10_ g10_ S
  refine jH (i:=0) S rfl (y6 _) rfl rfl rfl rfl rfl rfl ?_
  intro w11_ S
  refine z ?_; refine z ?_
  refine jC rfl (hv1 w11_ S.out) ?_
  rintro _ w12_ ⟨A_xs,c_xs,rfl,hR_xs,hf_xs,g12_⟩
  have S:=S.pushRow hR_xs hf_xs g12_
  iterate 7 refine z ?_
  refine jC rfl (hv2 w12_ S.out) ?_
  rintro _ w13_ ⟨A_ys,c_ys,rfl,hR_ys,hf_ys,g13_⟩
  have S:=S.pushRow hR_ys hf_ys g13_
  iterate 8 refine z ?_
  refine zc ?_
  refine jS ?_
  refine zc ?_
  refine j9 (fun m2 e w=>∃ (i:Nat) (r:HR),i+m2=th * tw/\jfx gw gh r/\hpE gw gh cc c2 r/\(∀ x y,x < gw->y < gh->m7 gw k i x y->cc (y * gw+x) ≠ c2 (y * gw+x)->jdC r x y)/\SL e [(0,pt p),(1,pt p2),(4,pt b_o),(6,pt b_r),(32,.slice A_ts N c_ts),(33,ii N),(34,ii k),(8,pt b_t),(9,.slice A_xs (th * tw) c_xs),(11,.slice A_ys (th * tw) c_ys),(51,ii (th * tw:Nat)),(52,ii i)] /\
   St No W w [.row 2 1 A_ys (th * tw) c_ys (yC (y9 gw c2 X0 Y0 tw th)),.row 2 1 A_xs (th * tw) c_xs (yC (y9 gw cc X0 Y0 tw th)),.blk b_t 27 [ii X0,ii Y0,ii X1,ii Y1],.row 27 4 A_ts N c_ts (tlV gw gh),.blk b_r 27 (hpC r),.blk b_o 216 [ii 0,ii 0,ii 0,ii 0,.slice none 0 0,.slice none 0 0]]) (th * tw)
   ⟨0,r,by omega,hrok,hre,hseen,⟨rfl,rfl,rfl,rfl,rfl,rfl,rfl,rfl,rfl,rfl,rfl,rfl,trivial⟩,S⟩ ?_
  clear S
  rintro m2 e w ⟨i,r,hi,hrok,hre,hseen,hsl,S⟩
  rw [hsl.fold]
  by_cases hin:i < th * tw
  ·have sa_xs:yH A_xs:=(S.row (i:=1) rfl).someA (by omega)
   have sa_ys:yH A_ys:=(S.row (i:=0) rfl).someA (by omega)
   have gx:=hg1 cc i hin
   have gy:=hg1 c2 i hin
   have him:=Nat.mod_lt i (show tw > 0 by omega)
   have hid:i / tw < th:=Nat.div_lt_of_lt_mul (by rw [Nat.mul_comm]; exact hin)
   have e0:(X1:Int) - X0+1=(tw:Nat):=by omega
   have e1:(X0:Int)+(i:Int) % (tw:Nat)=((X0+i % tw:Nat):Int):=by push_cast; rfl
   have e2:(Y0:Int)+(i:Int) / (tw:Nat)=((Y0+i / tw:Nat):Int):=by push_cast; rfl
   have hnth:=fun w'=>jee X0 Y0 X1 Y1 i (by omega) (by omega) (by rw [e0,show (Y1:Int) - Y0+1=((th:Nat):Int) by omega,Int.mul_comm,show ((th:Int) * tw)=((th * tw:Nat):Int) by push_cast; rfl]; omega) w'
   rw [e0,e1,e2] at hnth
   have hcx:X0+i % tw < gw:=by omega
   have hcy:Y0+i / tw < gh:=by omega
   have hsci:=hsc i
   generalize X0+i % tw=cx at *
   generalize Y0+i / tw=cy at *
   by_cases hd:cc (cy * gw+cx)=c2 (cy * gw+cx)
   ·skip
    refine zt ?_; refine z ?_; refine z ?_
    refine zc ?_
    refine yB (C:=fun wq=>Gr w wq) [0,1,2,3,4,5,6,7,8] [] (by kernel_rfl) (by kernel_rfl) (Gr.drew _) ?_
    simp only [j6,List.drop_succ_cons,List.drop_zero]
    refine y ?_; refine y ?_; refine yx ?_
    refine jV (fun wq hq=>j7 q2 rfl rfl ((S.gr hq).rd (i:=1) rfl) gx) ?_
    refine y ?_; refine y ?_; refine yx ?_
    refine jV (fun wq hq=>j7 q2 rfl rfl ((S.gr hq).rd (i:=0) rfl) gy) ?_
    refine yf ?_
    refine yJ ?_
    intro w14_ g14_
    have S:=S.gr g14_
    refine zr ?_; refine z ?_
    refine ze ?_
    refine ⟨m2 - 1,by omega,i+1,r,by omega,hrok,hre,fun x y hx hy h hne=>?_,⟨rfl,rfl,rfl,rfl,rfl,rfl,rfl,rfl,rfl,rfl,rfl,ie (by omega),trivial⟩,S⟩
    rcases hsci x y hx hy h with h | ⟨e1,e2⟩
    ·exact hseen x y hx hy h hne
    ·exact absurd (by rw [e1,e2]; exact hd) hne
   ·have hok2:=jkA hrok hcx hcy
    have hhu:=fun w=>jjg (W:=w) r cx cy (match r,hrok with | none,_=>trivial | some (a,b,c,d),⟨⟨h1,h2⟩,h3,h4⟩=>⟨⟨h1,by omega⟩,h3,by omega⟩) (by omega) (by omega)
    obtain ⟨r1,r2,r3,r4,hec⟩:=jcx r
    obtain ⟨u1,u2,u3,u4,heu⟩:=jcx (hpU r cx cy)
    simp only [hec,heu] at hhu
    rw [hec] at S
    refine zt ?_; refine z ?_; refine z ?_
    refine zc ?_
    refine yB (C:=fun wq=>Gr w wq) [0,1,2,3,4,5,6,7,8] [] (by kernel_rfl) (by kernel_rfl) (Gr.drew _) ?_
    simp only [j6,List.drop_succ_cons,List.drop_zero]
    refine y ?_; refine y ?_; refine yx ?_
    refine jV (fun wq hq=>j7 q2 rfl rfl ((S.gr hq).rd (i:=1) rfl) gx) ?_
    refine y ?_; refine y ?_; refine yx ?_
    refine jV (fun wq hq=>j7 q2 rfl rfl ((S.gr hq).rd (i:=0) rfl) gy) ?_
    refine yt ?_
    refine yJ ?_
    intro w15_ g15_
    have S:=S.gr g15_
    refine z ?_; refine z ?_
    refine jC rfl (hnth w15_) ?_
    rintro _ w16_ ⟨rfl,g16_⟩
    have S:=S.gr g16_
    iterate 3 refine z ?_
    refine jF (jL kL rfl) S ?_
    intro b_c w18_ g18_ S
    refine jH (i:=0) S rfl (qI _) rfl rfl rfl rfl rfl rfl ?_
    intro w19_ S
    iterate 10 refine z ?_
    refine jE (jN (pl:=[(0,1),(1,1),(2,1),(3,1)]) q27 qX (fun w=>by kernel_rfl) rfl rfl) ?_
    refine jC rfl (hhu w19_) ?_
    rintro _ w20_ ⟨rfl,g20_⟩
    have S:=S.gr g20_
    refine jH (i:=5) S rfl (y6 _) rfl rfl rfl rfl rfl rfl ?_
    intro w21_ S
    refine zr ?_; refine z ?_
    refine ze ?_
    rw [<-heu] at S
    refine ⟨m2 - 1,by omega,i+1,hpU r cx cy,by omega,hok2,fun _=>⟨cx,cy,hcx,hcy,hd⟩,fun x y hx hy h hne=>?_,⟨rfl,rfl,rfl,rfl,rfl,rfl,rfl,rfl,rfl,rfl,rfl,ie (by omega),trivial⟩,S.drop 1⟩
    rcases hsci x y hx hy h with h | ⟨e1,e2⟩
    ·exact jkB cx cy (hseen x y hx hy h hne)
    ·rw [e1,e2]; exact jhE r cx cy
  ·obtain rfl:i=th * tw:=by omega
   have S:=S.drop 3
   refine zf ?_
   refine zc ?_
   refine jM rfl ?_
   refine zc ?_
   refine jY ?_
   repeat first | refine jP ?_ | refine jU ?_
   show CW _ _ _ _ _ _
   refine zr ?_; refine z ?_
   refine ze ?_
   exact ⟨m - 1,by omega,k+1,r,by omega,hrok,hre,fun x y hx hy h=>hseen x y hx hy (hsn x y hx hy h),⟨rfl,rfl,rfl,rfl,rfl,rfl,ie (by omega),trivial⟩,S⟩
 ·obtain rfl:k=N:=by omega
  have hall:∀ x y,x < gw->y < gh->cc (y * gw+x) ≠ c2 (y * gw+x)->jdC r x y:=fun x y hx hy=>hseen x y hx hy (by rw [<-hNe]; exact jgt hx hy)
  have S:=S.drop 1
  match r,hrok,hre with
  | none,_,_ =>
   have ha:uQ 1 0 0 0=false:=by decide
   have S:St No W w [.blk b_r 27 [ii 1,ii 0,ii 0,ii 0],.blk b_o 216 [ii 0,ii 0,ii 0,ii 0,.slice none 0 0,.slice none 0 0]]:=S
   refine zf ?_
   refine zc ?_
   refine jM rfl ?_
   refine zc ?_
   refine jY ?_
   repeat first | refine jP ?_ | refine jU ?_
   show CW _ _ _ _ _ _
   refine z ?_
   refine jC rfl (vW _ _ _ _ w) ?_
   rintro _ w22_ ⟨rfl,g22_⟩
   have S:=S.gr g22_
   rw [ha]
   refine z ?_
   refine zs ?_
   refine jE (jN (pl:=[(0,4),(4,1),(5,1)]) f6 fN (fun w=>by kernel_rfl) rfl rfl) ?_
   refine jH (i:=1) S rfl (uC _) rfl rfl rfl rfl rfl rfl ?_
   intro w23_ S
   refine z ?_
   refine zq ?_
   refine wQ f6 rfl (uC _) rfl (S.blk (i:=1) rfl) rfl rfl rfl ⟨none,trivial,fun h=>absurd rfl h,hall,rfl,S.out⟩
  | some (x0,y0,x1,y1),hok,hre =>
   obtain ⟨⟨h1,h2⟩,h3,h4⟩:=hok
   have ha:uQ x0 y0 x1 y1=true:=(vO _ _ _ _).2 (by omega)
   have S:St No W w [.blk b_r 27 [ii x0,ii y0,ii x1,ii y1],.blk b_o 216 [ii 0,ii 0,ii 0,ii 0,.slice none 0 0,.slice none 0 0]]:=S
   have hv1:=fun w (g:Gr W w)=>qN (W:=w) x0 y0 x1 y1 ⟨h1,h2⟩ ⟨h3,h4⟩ (hG.gr g)
   have hv2:=fun w (g:Gr W w)=>qN (W:=w) x0 y0 x1 y1 ⟨h1,h2⟩ ⟨h3,h4⟩ (hG2.gr g)
   refine zf ?_
   refine zc ?_
   refine jM rfl ?_
   refine zc ?_
   refine jY ?_
   repeat first | refine jP ?_ | refine jU ?_
   show CW _ _ _ _ _ _
   refine z ?_
   refine jC rfl (vW _ _ _ _ w) ?_
   rintro _ w24_ ⟨rfl,g24_⟩
   have S:=S.gr g24_
   rw [ha]
   refine z ?_; refine z ?_
   refine jE (jN (pl:=[(0,4),(4,1),(5,1)]) f6 fN (fun w=>by kernel_rfl) rfl rfl) ?_
   refine jF (jL fN rfl) S ?_
   intro b_pt w26_ g26_ S
   refine jH (i:=0) S rfl (uC _) rfl rfl rfl rfl rfl rfl ?_
   intro w27_ S
   refine z ?_; refine z ?_
   refine jC rfl (hv1 w27_ S.out) ?_
   rintro _ w28_ ⟨A_xs,c_xs,rfl,hR_xs,hf_xs,g28_⟩
   have S:=S.pushRow hR_xs hf_xs g28_
   iterate 4 refine z ?_
   refine j8 (i:=1) S rfl (f5 _) rfl rfl rfl rfl rfl rfl ?_
   intro w29_ S
   refine z ?_; refine z ?_
   refine jC rfl (hv2 w29_ S.out) ?_
   rintro _ w30_ ⟨A_ys,c_ys,rfl,hR_ys,hf_ys,g30_⟩
   have S:=S.pushRow hR_ys hf_ys g30_
   iterate 4 refine z ?_
   refine j8 (i:=2) S rfl (f5 _) rfl rfl rfl rfl rfl rfl ?_
   intro w31_ S
   refine z ?_
   refine jH (i:=4) S rfl (uC _) rfl rfl rfl rfl rfl rfl ?_
   intro w32_ S
   refine z ?_
   refine zq ?_
   refine wQ f6 rfl (uC _) rfl (S.blk (i:=4) rfl) rfl rfl rfl ⟨some (x0,y0,x1,y1),⟨⟨h1,h2⟩,h3,h4⟩,hre,hall,A_xs,c_xs,A_ys,c_ys,rfl,S.sub (.cons_cons _ (.cons_cons _ (.cons _ (.cons _ (.cons _ .slnil)))))⟩
end
end
section
open Go.RowKit
section
variable {W : World} {A B1 B2 : Option Addr} {n c k1 k2 x0 y0 x1 y1 : Nat} {V V1 V2 : List Int}
theorem jaB (h0:0 < V.length) (hm:V.length<=1048576) (hA:Rd W A (yC V)):Fn Tryz.prog 180 [.slice A V.length c] W (qR id 2 1 V.length (yC V) W):=by
 have hn:=qY V
 have sa_A:yH A:=hA.someA (by omega)
 obtain ⟨ab,ao,rfl⟩:=sa_A
 have h1:((yC V).all fun v=>v.oneCell')=true:=List.all_eq_true.2 fun v hv=>by
  simp only [yC,List.mem_map] at hv
  obtain ⟨i,_,rfl⟩:=hv
  rfl
 have S:=St.start W
 refine zn Tryz.func180 Tryz.results180 Tryz.ntmps180 ?_
 refine z ?_; refine z ?_
 refine jE (bM (B:=false) q30 rfl rfl) ?_
 refine zs ?_
 refine x9 q30 qz2 S ?_
 intro A_e w2_ g2_ S sa_e
 refine z ?_
 refine qA (i:=0) S rfl (fun h=>rfl) q30 uY rfl rfl rfl rfl (by rw [hn,Nat.mul_one]) (by omega) (hA.gr S.out) h1 (by omega) ?_
 intro A_o c_o w3_ S sa_e
 refine z ?_
 refine zq ?_
 rw [List.nil_append] at S
 rw [Nat.zero_add] at S ⊢
 exact yD rfl (S.retNew (i:=0) rfl)
theorem jgT (v:Int):Fn Tryz.prog 368 ([] ++ [ii v] ++ []) W (yK (.bool (!kN v)) W):=by
 by_cases h:v < -2147483648
 ·skip
  have S:=St.start W
  refine zn Tryz.func368 Tryz.results368 Tryz.ntmps368 ?_
  refine z ?_; refine z ?_
  refine zw1 ⟨?_⟩
  refine z ?_; refine z ?_
  refine zw2 ⟨?_⟩
  refine z ?_; refine z ?_
  refine zq ?_
  exact yD rfl ⟨be (by rw [Bool.eq_iff_iff]; simp [kN]; omega),S.out⟩
 ·skip
  have S:=St.start W
  refine zn Tryz.func368 Tryz.results368 Tryz.ntmps368 ?_
  refine z ?_; refine z ?_
  refine zw1 ⟨?_⟩
  iterate 5 refine z ?_
  refine zq ?_
  exact yD rfl ⟨be (by rw [Bool.eq_iff_iff]; simp [kN]; omega),S.out⟩
theorem jaf (hx:x0<=x1/\x1 < 1024) (hy:y0<=y1/\y1 < 1024) (hV:V.length=(y1+1 - y0) * (x1+1 - x0)) (hmay:∀ v ∈ V,kN v=true) (hA:Rd W A (yC V)) :
  Fn Tryz.prog 361 [.agg #[ii x0,ii y0,ii x1,ii y1],.slice A V.length c] W (yK (.bool true) W):=by
 have hnn:(y1+1 - y0) * (x1+1 - x0)<=1024 * 1024:=Nat.mul_le_mul (by omega) (by omega)
 have hmi:((x1:Int) - x0+1) * ((y1:Int) - y0+1)=((V.length:Nat):Int):=by
  rw [hV,show (x1:Int) - x0+1=((x1+1 - x0:Nat):Int) by omega,show (y1:Int) - y0+1=((y1+1 - y0:Nat):Int) by omega,Int.mul_comm]; push_cast; rfl
 have hbad:V.any (fun v=>!kN v)=false:=List.any_eq_false.2 fun v hv=>by rw [hmay v hv]; decide
 have S:=St.start W
 refine zn Tryz.func361 Tryz.results361 Tryz.ntmps361 ?_
 refine zs ?_
 refine jF (jO rfl) S ?_
 intro b_r w2_ g2_ S
 iterate 4 refine z ?_
 refine jC rfl (fK _ _ _ _ (by omega) w2_) ?_
 rintro _ w3_ ⟨rfl,g3_⟩
 have S:=S.gr g3_
 rw [hmi]
 refine zt ?_; refine z ?_; refine z ?_
 refine jQ rfl ?_
 refine jC rfl (gS A V.length c _ [] V rfl (by omega) (fun v=>!kN v) w3_ (hA.gr S.out) (fun x hx w' g=>jgT x)) ?_
 rintro _ w4_ ⟨rfl,g4_⟩
 have S:=S.gr g4_
 rw [hbad]
 iterate 3 refine z ?_
 refine zq ?_
 exact yD rfl ⟨rfl,S.out⟩
structure PtOk (w:World) (x0 y0 x1 y1 n k1 k2:Nat) (B1 B2:Option Addr) (V1 V2:List Int):Prop where
 hx:x0<=x1/\x1 < 1024
 hy:y0<=y1/\y1 < 1024
 hn:n=(y1+1 - y0) * (x1+1 - x0)
 l1:V1.length=n
 l2:V2.length=n
 m1:∀ v ∈ V1,kN v=true
 m2:∀ v ∈ V2,kN v=true
 r1:Rd w B1 (yC V1)
 r2:Rd w B2 (yC V2)
def ptV (x0 y0 x1 y1 n k1 k2:Nat) (B1 B2:Option Addr):Value:=.agg #[ii x0,ii y0,ii x1,ii y1,.slice B1 n k1,.slice B2 n k2]
def rK:Value:=.agg #[ii 0,ii 0,ii 0,ii 0,.slice none 0 0,.slice none 0 0]
theorem PtOk.gr {w w':World} {x0 y0 x1 y1 n k1 k2:Nat} {B1 B2:Option Addr} {V1 V2:List Int} (h:PtOk w x0 y0 x1 y1 n k1 k2 B1 B2 V1 V2) (g:Gr w w'):PtOk w' x0 y0 x1 y1 n k1 k2 B1 B2 V1 V2:=⟨h.hx,h.hy,h.hn,h.l1,h.l2,h.m1,h.m2,h.r1.gr g,h.r2.gr g⟩
theorem PtOk.pos {w:World} (h:PtOk w x0 y0 x1 y1 n k1 k2 B1 B2 V1 V2):1<=n/\n<=1024 * 1024:=by
 have:=h.hx; have:=h.hy
 rw [h.hn]
 exact ⟨Nat.mul_le_mul (show 1<=y1+1 - y0 by omega) (show 1<=x1+1 - x0 by omega),Nat.mul_le_mul (by omega) (by omega)⟩
theorem jcg (hP:PtOk W x0 y0 x1 y1 n k1 k2 B1 B2 V1 V2):Fn Tryz.prog 360 [ptV x0 y0 x1 y1 n k1 k2 B1 B2] W (yK (.bool false) W):=by
 have hn:=hP.pos
 unfold ptV
 by_cases h0:(x0:Int)=0/\(y0:Int)=0/\(x1:Int)=0/\(y1:Int)=0
 ·skip
  have S:=St.start W
  refine zn Tryz.func360 Tryz.results360 Tryz.ntmps360 ?_
  refine zs ?_
  refine jF (jO rfl) S ?_
  intro b_p w2_ g2_ S
  iterate 3 refine z ?_
  refine jE (jN (pl:=[(0,1),(1,1),(2,1),(3,1)]) q27 qX (fun w=>by kernel_rfl) rfl rfl) ?_
  refine jE (sS (r:=true) rfl rfl (decide_eq_true h0)) ?_
  (iterate 4 refine z ?_); refine zf ?_; iterate 5 refine z ?_
  refine zw4 ⟨?_⟩
  refine z ?_; refine z ?_
  refine zq ?_
  exact yD rfl ⟨rfl,S.out⟩
 ·skip
  have S:=St.start W
  refine zn Tryz.func360 Tryz.results360 Tryz.ntmps360 ?_
  refine zs ?_
  refine jF (jO rfl) S ?_
  intro b_p w2_ g2_ S
  iterate 3 refine z ?_
  refine jE (jN (pl:=[(0,1),(1,1),(2,1),(3,1)]) q27 qX (fun w=>by kernel_rfl) rfl rfl) ?_
  refine jE (sS (r:=false) rfl rfl (decide_eq_false h0)) ?_
  iterate 4 refine z ?_
  refine zw4 ⟨?_⟩
  iterate 5 refine z ?_
  refine zw4 ⟨?_⟩
  refine z ?_; refine z ?_
  refine zq ?_
  exact yD rfl ⟨rfl,S.out⟩
theorem jch:Fn Tryz.prog 360 [rK] W (yK (.bool true) W):=by
 unfold rK
 have S:=St.start W
 refine zn Tryz.func360 Tryz.results360 Tryz.ntmps360 ?_
 refine zs ?_
 refine jF (jO rfl) S ?_
 intro b_p w2_ g2_ S
 iterate 3 refine z ?_
 refine jE (jN (pl:=[(0,1),(1,1),(2,1),(3,1)]) q27 qX (fun w=>by kernel_rfl) rfl rfl) ?_
 refine jE (sS (r:=true) rfl rfl (decide_eq_true ⟨rfl,rfl,rfl,rfl⟩)) ?_
 (iterate 4 refine z ?_); refine zt ?_; (iterate 5 refine z ?_); refine zt ?_; refine z ?_; refine z ?_
 refine zq ?_
 exact yD rfl ⟨rfl,S.out⟩
theorem jb9 (hP:PtOk W x0 y0 x1 y1 n k1 k2 B1 B2 V1 V2):Fn Tryz.prog 353 [ptV x0 y0 x1 y1 n k1 k2 B1 B2] W (yK (.bool true) W):=by
 have ha:uQ x0 y0 x1 y1=true:=(vO _ _ _ _).2 (by have:=hP.hx; have:=hP.hy; omega)
 have he:=fun w (g:Gr W w)=>jcg (hP.gr g)
 have hv1:=fun w (g:Gr W w)=>jaf (W:=w) (c:=k1) hP.hx hP.hy (hP.l1.trans hP.hn) hP.m1 (hP.r1.gr g)
 have hv2:=fun w (g:Gr W w)=>jaf (W:=w) (c:=k2) hP.hx hP.hy (hP.l2.trans hP.hn) hP.m2 (hP.r2.gr g)
 rw [hP.l1] at hv1
 rw [hP.l2] at hv2
 unfold ptV at *
 have S:=St.start W
 refine zn Tryz.func353 Tryz.results353 Tryz.ntmps353 ?_
 refine zs ?_
 refine jF (jO rfl) S ?_
 intro b_p w2_ g2_ S
 refine z ?_; refine z ?_
 refine jC rfl (he w2_ S.out) ?_
 rintro _ w3_ ⟨rfl,g3_⟩
 have S:=S.gr g3_
 iterate 3 refine z ?_
 refine jQ rfl ?_
 refine jC rfl (vW _ _ _ _ w3_) ?_
 rintro _ w4_ ⟨rfl,g4_⟩
 have S:=S.gr g4_
 rw [ha]
 iterate 5 refine z ?_
 refine jQ rfl ?_
 refine jC rfl (hv1 w4_ S.out) ?_
 rintro _ w5_ ⟨rfl,g5_⟩
 have S:=S.gr g5_
 iterate 6 refine z ?_
 refine jQ rfl ?_
 refine jC rfl (hv2 w5_ S.out) ?_
 rintro _ w6_ ⟨rfl,g6_⟩
 have S:=S.gr g6_
 iterate 3 refine z ?_
 refine zq ?_
 exact yD rfl ⟨rfl,S.out⟩
theorem jca:Fn Tryz.prog 353 [rK] W (yK (.bool true) W):=by
 have he:=fun w=>jch (W:=w)
 unfold rK at *
 have S:=St.start W
 refine zn Tryz.func353 Tryz.results353 Tryz.ntmps353 ?_
 refine zs ?_
 refine jF (jO rfl) S ?_
 intro b_p w2_ g2_ S
 refine z ?_; refine z ?_
 refine jC rfl (he w2_) ?_
 rintro _ w3_ ⟨rfl,g3_⟩
 have S:=S.gr g3_
 iterate 3 refine z ?_
 refine jK rfl ?_
 iterate 5 refine z ?_
 refine jK rfl ?_
 iterate 6 refine z ?_
 refine jK rfl ?_
 iterate 3 refine z ?_
 refine zq ?_
 exact yD rfl ⟨rfl,S.out⟩
end
end
section
open Go.RowKit
def CQ2 (F:Nat->Prop) (W:World) (L:List HA) (T1 T2:Value->HA->Prop) (wq:World):List Value->Prop
 | []=>St F W wq L
 | [v]=>∃ h,T1 v h/\St F W wq (h::L)
 | [u,v]=>∃ h g,T1 v h/\T2 u g/\St F W wq (g::h::L)
 | _=>False
theorem CQ2.st {F:Nat->Prop} {W:World} {L:List HA} {T1 T2:Value->HA->Prop} {wq:World}:∀ {τ:List Value},CQ2 F W L T1 T2 wq τ->St F W wq L
 | [],h=>h
 | [v],⟨_,_,S⟩=>S.drop 1
 | [u,v],⟨_,_,_,_,S⟩=>S.drop 2
def jlj (V:List Int):Value->HA->Prop:=fun v h=>∃ A c,v=.slice A V.length c/\h=.row 2 1 A V.length c (yC V)
section
variable {W : World} {A B B1 B2 : Option Addr} {n c k1 k2 x0 y0 x1 y1 : Nat} {V V1 V2 : List Int}
theorem ja0 (hP:PtOk W x0 y0 x1 y1 n k1 k2 B1 B2 V1 V2):Fn Tryz.prog 111 [ptV x0 y0 x1 y1 n k1 k2 B1 B2] W (fun v w'=>∃ A1 c1 A2 c2,v=ptV x0 y0 x1 y1 n c1 c2 A1 A2/\St No W w' [.row 2 1 A2 n c2 (yC V1),.row 2 1 A1 n c1 (yC V2)]):=by
 have hn:=hP.pos
 have hc1:=fun w (g:Gr W w)=>jaB (W:=w) (c:=k1) (by rw [hP.l1]; omega) (by rw [hP.l1]; omega) (hP.r1.gr g)
 have hc2:=fun w (g:Gr W w)=>jaB (W:=w) (c:=k2) (by rw [hP.l2]; omega) (by rw [hP.l2]; omega) (hP.r2.gr g)
 have l1:=hP.l1
 have l2:=hP.l2
 rw [l1] at hc1
 rw [l2] at hc2
 unfold ptV
 have S:=St.start W
 refine zn Tryz.func111 Tryz.results111 Tryz.ntmps111 ?_
 refine zs ?_
 refine jF (jO rfl) S ?_
 intro b_p w2_ g2_ S
 refine jF (jL fN rfl) S ?_
 intro b_o w4_ g4_ S
 refine zc ?_
 refine qQ (C:=(fun σ wq=>CQ2 No W [.blk b_o 216 [ii 0,ii 0,ii 0,ii 0,.slice none 0 0,.slice none 0 0],.blk b_p 216 [ii x0,ii y0,ii x1,ii y1,.slice B1 n k1,.slice B2 n k2]] (jlj V2) (jlj V1) wq σ)) [4,7] [0,1,2,3,5,6,4,7,8] [9] (by kernel_rfl) (by kernel_rfl) (S.gr (Gr.drew _)) ?_
 simp only [yT,j6,List.drop_succ_cons,List.drop_zero]
 refine jX rfl (jD f6 rfl y6 rfl rfl) ?_
 refine qF rfl (fun τ wq hq=>jT q27 rfl (y6 _) rfl ((CQ2.st hq).blk (i:=1) rfl) rfl rfl) ?_
 refine jX rfl (jD f6 rfl f5 rfl rfl) ?_
 refine qF rfl (fun τ wq hq=>jB q30 rfl rfl ((CQ2.st hq).blk (i:=1) rfl) rfl) ?_
 refine jX rfl (jD f6 rfl f5 rfl rfl) ?_
 refine qF rfl (fun τ wq hq=>jB q30 rfl rfl ((CQ2.st hq).blk (i:=1) rfl) rfl) ?_
 refine jZ rfl rfl (fun wq hq=>uW rfl ((hc2 wq (St.out (CQ2.st hq))).mono (fun v w' ⟨A1,c1,hv,hR,hF,g⟩=>⟨_,⟨A1,c1,l2.symm ▸ hv,rfl⟩,(CQ2.st hq).pushRow (l2.symm ▸ hR) hF g⟩))) ?_
 rintro v4 w4 ⟨h4,⟨A4,c4,rfl,_⟩,_⟩
 refine jZ rfl rfl (fun wq hq=>uW rfl ((hc1 wq (St.out (CQ2.st hq))).mono (fun v w' ⟨A1,c1,hv,hR,hF,g⟩=>(fun ⟨h,t,S⟩=>⟨h,_,t,⟨A1,c1,l1.symm ▸ hv,rfl⟩,S.pushRow (l1.symm ▸ hR) hF g⟩) hq))) ?_
 rintro v5 w5 ⟨h5,g5,⟨A5,c5,e5,_⟩,⟨A6,c6,rfl,_⟩,_⟩
 refine jX rfl (jN (pl:=[(0,4),(4,1),(5,1)]) f6 fN (fun w=>by kernel_rfl) rfl rfl) ?_
 refine yV ?_
 rintro w8 ⟨h8,g8,⟨A1,c1,e8,rfl⟩,⟨A2,c2,f8,rfl⟩,S⟩
 cases e8
 cases f8
 refine jH (i:=2) S rfl (uC _) rfl rfl rfl rfl rfl rfl ?_
 intro w9 S
 refine zq ?_
 rw [l1,l2] at S
 rw [l1,l2]
 exact v8 f6 rfl (uC _) rfl (S.blk (i:=2) rfl) rfl rfl ⟨A4,c4,A6,c6,rfl,S.sub (.cons_cons _ (.cons_cons _ (.cons _ (.cons _ .slnil))))⟩
def RetBt2 (gw gh:Nat) (cc c2:Nat->Int) (W:World) (v:Value) (w':World):Prop:=∃ (a b d e:Int) (A1:Option Addr) (n k1:Nat) (A2:Option Addr) (k2:Nat) (L':List HA),v=.tuple #[.agg #[ii a,ii b,ii d,ii e,.slice A1 n k1,.slice A2 n k2],ii 0]/\St No W w' L' /\
 (((∀ x y,x < gw->y < gh->cc (y * gw+x)=c2 (y * gw+x))/\L'=[]/\a=0/\b=0/\d=0/\e=0/\A1=none/\n=0/\k1=0/\A2=none/\k2=0) \/
  ∃ x0 y0 x1 y1:Nat,(x0<=x1/\x1 < gw)/\(y0<=y1/\y1 < gh)/\(∃ x y,x < gw/\y < gh/\cc (y * gw+x) ≠ c2 (y * gw+x))/\(∀ x y,x < gw->y < gh->cc (y * gw+x) ≠ c2 (y * gw+x)->(x0<=x/\x<=x1)/\y0<=y/\y<=y1)/\a=x0/\b=y0/\d=x1/\e=y1/\n=(y1+1 - y0) * (x1+1 - x0) /\
   L'=[.row 2 1 A2 n k2 (yC (y9 gw c2 x0 y0 (x1+1 - x0) (y1+1 - y0))),.row 2 1 A1 n k1 (yC (y9 gw cc x0 y0 (x1+1 - x0) (y1+1 - y0)))])
theorem RetBtw.two {gw gh:Nat} {cc c2:Nat->Int} {v:Value} {w':World} (h:RetBtw gw gh cc c2 W v w'):RetBt2 gw gh cc c2 W v w':=by
 obtain ⟨r,hok,hex,hin,hm⟩:=h
 match r,hok,hex,hin,hm with
 | none,_,_,hin,⟨hv,g⟩ =>
  refine ⟨0,0,0,0,none,0,0,none,0,[],hv,(St.start W).gr g,.inl ⟨fun x y hx hy=>?_,rfl,rfl,rfl,rfl,rfl,rfl,rfl,rfl,rfl,rfl⟩⟩
  rcases Int.decEq (cc (y * gw+x)) (c2 (y * gw+x)) with h | h
  ·exact (hin x y hx hy h).elim
  ·exact h
 | some (x0,y0,x1,y1),⟨⟨h1,h2⟩,h3,h4⟩,hex,hin,⟨C1,k1,C2,k2,hv,S⟩=>exact ⟨_,_,_,_,C1,_,k1,C2,k2,_,hv,S,.inr ⟨x0,y0,x1,y1,⟨h1,h2⟩,⟨h3,h4⟩,hex (fun h=>by cases h),hin,rfl,rfl,rfl,rfl,rfl,rfl⟩⟩
variable {p gw gh cap : Nat} {cc : Nat → Int} {bs : Nat → Nat} {Rs : Nat → Option Nat}
theorem jgY (cp:Nat) (hx:x0<=x1/\x1 < gw) (hy:y0<=y1/\y1 < gh) (hV:V.length=(y1+1 - y0) * (x1+1 - x0)) (hmay:∀ v ∈ V,kN v=true) (hG:GridAt W p gw gh cc A cap bs Rs) (hB:Rd W B (yC V)) :
  Fn Tryz.prog 348 [pt p,.agg #[ii x0,ii y0,ii x1,ii y1],.slice B V.length cp] W (RetBt2 gw gh cc (yW gw V x0 y0 x1 y1 cc) W):=by
 have hnn:1<=(y1+1 - y0) * (x1+1 - x0):=Nat.mul_le_mul (show 1<=y1+1 - y0 by omega) (show 1<=x1+1 - x0 by omega)
 have hlt:∀ g,kZ B g->g < W.heap.size:=fun g hg=>hB.lt (by rw [qY]; omega) hg
 have hcp:=fun w (g:Gr W w)=>jjj (hG.gr g)
 have S:=St.start W
 refine zn Tryz.func348 Tryz.results348 Tryz.ntmps348 ?_
 refine zs ?_
 refine jF (jO rfl) S ?_
 intro b_r w2_ g2_ S
 refine jF (jL fN rfl) S ?_
 intro b_o w4_ g4_ S
 refine z ?_; refine z ?_
 refine jC rfl (hcp w4_ S.out) ?_
 rintro _ w5_ ⟨q,A2,cap2,bs2,Rs2,rfl,hG2,hf2,g5_⟩
 have hlew:=S.le
 have S:=S.pushGrid hG2 hf2 g5_
 iterate 4 refine z ?_
 refine jC rfl (jci cp hx hy hV hmay (S.grid (i:=0) rfl) (hB.gr S.out) (fun g hg h=>Nat.lt_irrefl g (Nat.lt_of_lt_of_le (hlt g hg) (Nat.le_trans hlew (hf2 g h)))) (fun g hg=>Nat.lt_of_lt_of_le (hlt g hg) S.le)) ?_
 rintro _ w6_ ⟨rfl,Rs3,hG3,hF3,hO3⟩
 have S:=S.set (i:=0) (h':=.grid q gw gh (yW gw V x0 y0 x1 y1 cc) A2 cap2 bs2 Rs3) rfl rfl hF3 (fun g h=>.inl h) hG3 hO3
 refine z ?_; refine z ?_; refine zf ?_; refine z ?_; refine z ?_
 refine jC rfl ((jdi (hG.gr S.out) (S.grid (i:=0) rfl)).mono (fun _ _ h=>h.two)) ?_
 rintro _ w7_ ⟨a,b,d,e',C1,n',k1',C2,k2',L',rfl,S2,hfin⟩
 have S:=(S.app S2).perm_ List.perm_append_comm
 refine z ?_; refine z ?_
 refine jH (i:=1) S rfl (uC _) rfl rfl rfl rfl rfl rfl ?_
 intro w8_ S
 refine z ?_
 refine zq ?_
 refine wQ f6 rfl (uC _) rfl (S.blk (i:=1) rfl) rfl rfl rfl ⟨a,b,d,e',C1,n',k1',C2,k2',L',rfl,S.drop 3,hfin⟩
end
end
section
open Go.RowKit
theorem GridP.pre {W w w':World} {p gw gh cap:Nat} {A:Option Addr} {bs:Nat->Nat} {Rs:Nat->Option Nat} {c:Nat->Int} (g:Gr W w) (h:GridP w p gw gh A cap bs Rs c w'):GridP W p gw gh A cap bs Rs c w':=by
 obtain ⟨Rs',hG,hF,hO⟩:=h
 exact ⟨Rs',hG,(Fr.of_gr g).trans hF (fun _ h=>.inl h),fun x hx=>(hO x hx).imp id (fun h=>Nat.le_trans g.size h)⟩
section
variable {W : World} {A B B1 B2 : Option Addr} {n c d k1 k2 x0 y0 x1 y1 : Nat} {V V1 V2 xs ys : List Int}
theorem lV (hx:xs.length=n) (hy:ys.length=n) (hn:n<=1048576) (hA:Rd W A (yC xs)) (hB:Rd W B (yC ys)):Fn Tryz.prog 362 [.slice A n c,.slice B n d] W (yK (.bool (decide (xs=ys))) W):=by
 have hgx:∀ i,i < n->(yC xs)[(i:Int).toNat * 1]?=some (ii (xs.getD i 0)):=fun i hi=>by rw [Nat.mul_one,Int.toNat_natCast]; exact qO (vX (by omega))
 have hgy:∀ i,i < n->(yC ys)[(i:Int).toNat * 1]?=some (ii (ys.getD i 0)):=fun i hi=>by rw [Nat.mul_one,Int.toNat_natCast]; exact qO (vX (by omega))
 have S:=St.start W
 refine zn Tryz.func362 Tryz.results362 Tryz.ntmps362 ?_
 (iterate 5 refine z ?_); refine zf ?_; iterate 3 refine z ?_
 refine zc ?_
 refine jS ?_
 refine zc ?_
 refine j9 (fun m e w=>∃ i:Nat,i+m=n/\(∀ j,j < i->xs.getD j 0=ys.getD j 0)/\SL e [(0,.slice A n c),(1,.slice B n d),(12,ii n),(13,ii i)]/\St No W w []) n ⟨0,by omega,fun j hj=>by omega,⟨rfl,rfl,rfl,rfl,trivial⟩,S⟩ ?_
 clear S
 rintro m e w ⟨i,hi,heq,hsl,S⟩
 rw [hsl.fold]
 by_cases hin:i < n
 ·have sa_A:yH A:=hA.someA (by rw [qY]; omega)
  have sa_B:yH B:=hB.someA (by rw [qY]; omega)
  by_cases hd:xs.getD i 0=ys.getD i 0
  ·skip
   refine zt ?_; refine z ?_; refine z ?_
   refine zc ?_
   refine yB (C:=fun wq=>Gr w wq) [0,1,2,3,4,5,6,7,8] [] (by kernel_rfl) (by kernel_rfl) (Gr.drew _) ?_
   simp only [j6,List.drop_succ_cons,List.drop_zero]
   refine y ?_; refine y ?_; refine yx ?_
   refine jV (fun wq hq=>j7 q2 rfl rfl (hA.gr (S.gr hq).out) (hgx i hin)) ?_
   refine y ?_; refine y ?_; refine yx ?_
   refine jV (fun wq hq=>j7 q2 rfl rfl (hB.gr (S.gr hq).out) (hgy i hin)) ?_
   refine yf ?_
   refine yJ ?_
   intro w1_ g1_
   have S:=S.gr g1_
   refine zr ?_; refine z ?_
   refine ze ?_
   exact ⟨m - 1,by omega,i+1,by omega,fun j hj=>by
    by_cases e:j=i
    ·subst e; exact hd
    ·exact heq j (by omega),⟨rfl,rfl,rfl,ie (by omega),trivial⟩,S⟩
  ·skip
   refine zt ?_; refine z ?_; refine z ?_
   refine zc ?_
   refine yB (C:=fun wq=>Gr w wq) [0,1,2,3,4,5,6,7,8] [] (by kernel_rfl) (by kernel_rfl) (Gr.drew _) ?_
   simp only [j6,List.drop_succ_cons,List.drop_zero]
   refine y ?_; refine y ?_; refine yx ?_
   refine jV (fun wq hq=>j7 q2 rfl rfl (hA.gr (S.gr hq).out) (hgx i hin)) ?_
   refine y ?_; refine y ?_; refine yx ?_
   refine jV (fun wq hq=>j7 q2 rfl rfl (hB.gr (S.gr hq).out) (hgy i hin)) ?_
   refine yt ?_
   refine yJ ?_
   intro w2_ g2_
   have S:=S.gr g2_
   refine z ?_
   refine zq ?_
   exact yD rfl ⟨be (by rw [decide_eq_false (fun e=>hd (by rw [e]))]),S.out⟩
 ·obtain rfl:i=n:=by omega
  have hall:xs=ys:=by
   apply List.ext_getElem (by omega)
   intro j h1 h2
   have:=heq j (by omega)
   rw [List.getD_eq_getElem?_getD,List.getD_eq_getElem?_getD,List.getElem?_eq_getElem h1,List.getElem?_eq_getElem h2] at this
   exact this
  refine zf ?_
  refine zc ?_
  refine jM rfl ?_
  refine zc ?_
  refine jY ?_
  repeat first | refine jP ?_ | refine jU ?_
  show CW _ _ _ _ _ _
  refine z ?_
  refine zq ?_
  exact yD rfl ⟨be (by rw [decide_eq_true hall]),S.out⟩
variable {p gw gh cap : Nat} {cc : Nat → Int} {bs : Nat → Nat} {Rs : Nat → Option Nat}
theorem jhc (hxg:x1 < gw) (hyg:y1 < gh) (hG:GridAt W p gw gh cc A cap bs Rs) (hP:PtOk W x0 y0 x1 y1 n k1 k2 B1 B2 V1 V2) (hap:∀ g,kZ B2 g->¬ uV (acr gw * acr gh) p A bs Rs g) :
  Fn Tryz.prog 356 [pt p,ptV x0 y0 x1 y1 n k1 k2 B1 B2] W (fun v w'=>(y9 gw cc x0 y0 (x1+1 - x0) (y1+1 - y0)=V1/\v=ii 0/\GridP W p gw gh A cap bs Rs (yW gw V2 x0 y0 x1 y1 cc) w') \/
   (y9 gw cc x0 y0 (x1+1 - x0) (y1+1 - y0) ≠ V1/\v=ii 15/\Gr W w')):=by
 have hn:=hP.pos
 have hri:=fun w (g:Gr W w)=>jb9 (hP.gr g)
 have hem:=fun w (g:Gr W w)=>jcg (hP.gr g)
 have hva:=fun w (g:Gr W w)=>qN (W:=w) x0 y0 x1 y1 ⟨hP.hx.1,hxg⟩ ⟨hP.hy.1,hyg⟩ (hG.gr g)
 have hvl:=z6 gw cc x0 y0 (x1+1 - x0) (y1+1 - y0)
 have hlt:∀ g,kZ B2 g->g < W.heap.size:=fun g hg=>hP.r2.lt (by rw [qY,hP.l2]; omega) hg
 have hnn:=hP.hn
 rw [<-hnn] at hva hvl
 have hpa:=fun w (g:Gr W w)=>jci (W:=w) k2 ⟨hP.hx.1,hxg⟩ ⟨hP.hy.1,hyg⟩ (hP.l2.trans hnn) hP.m2 (hG.gr g) (hP.r2.gr g) hap (fun x hx=>Nat.lt_of_lt_of_le (hlt x hx) g.size)
 rw [hP.l2] at hpa
 have hl1:=hP.l1
 have hr1:=hP.r1
 generalize hVs:y9 gw cc x0 y0 (x1+1 - x0) (y1+1 - y0)=Vs at *
 unfold ptV at *
 have G:=Gr.refl W
 have S:=St.start W
 refine zn Tryz.func356 Tryz.results356 Tryz.ntmps356 ?_
 by_cases heq:Vs=V1
 ·skip
  refine zs ?_
  refine jF (jO rfl) S ?_
  intro b_p w2_ g2_ S
  iterate 5 refine z ?_
  refine jC rfl (hri w2_ (G.trans S.out)) ?_
  rintro _ w3_ ⟨rfl,g3_⟩
  have S:=S.gr g3_
  iterate 3 refine z ?_
  refine jC rfl (hem w3_ (G.trans S.out)) ?_
  rintro _ w4_ ⟨rfl,g4_⟩
  have S:=S.gr g4_
  iterate 4 refine z ?_
  refine jC rfl (hva w4_ (G.trans S.out)) ?_
  rintro _ w5_ ⟨A_vs,c_vs,rfl,hR_vs,hf_vs,g5_⟩
  have S:=S.pushRow hR_vs hf_vs g5_
  (iterate 6 refine z ?_); refine zf ?_; iterate 3 refine z ?_
  refine jC rfl (lV hvl hl1 (by omega) (S.rd (i:=0) rfl) (hr1.gr S.out)) ?_
  rintro _ w6_ ⟨rfl,g6_⟩
  have S:=S.gr g6_
  rw [decide_eq_true heq]
  iterate 6 refine z ?_
  refine jC rfl (hpa w6_ (G.trans S.out)) ?_
  rintro _ w7_ ⟨rfl,hP'⟩
  refine z ?_
  refine zq ?_
  exact yD rfl (.inl ⟨heq,rfl,hP'.pre S.out⟩)
 ·skip
  refine zs ?_
  refine jF (jO rfl) S ?_
  intro b_p w9_ g9_ S
  iterate 5 refine z ?_
  refine jC rfl (hri w9_ (G.trans S.out)) ?_
  rintro _ w10_ ⟨rfl,g10_⟩
  have S:=S.gr g10_
  iterate 3 refine z ?_
  refine jC rfl (hem w10_ (G.trans S.out)) ?_
  rintro _ w11_ ⟨rfl,g11_⟩
  have S:=S.gr g11_
  iterate 4 refine z ?_
  refine jC rfl (hva w11_ (G.trans S.out)) ?_
  rintro _ w12_ ⟨A_vs,c_vs,rfl,hR_vs,hf_vs,g12_⟩
  have S:=S.pushRow hR_vs hf_vs g12_
  (iterate 6 refine z ?_); refine zf ?_; iterate 3 refine z ?_
  refine jC rfl (lV hvl hl1 (by omega) (S.rd (i:=0) rfl) (hr1.gr S.out)) ?_
  rintro _ w13_ ⟨rfl,g13_⟩
  have S:=S.gr g13_
  rw [decide_eq_false heq]
  refine z ?_; refine z ?_
  refine zq ?_
  exact yD rfl (.inr ⟨heq,rfl,S.out⟩)
end
end
end Go.Proofs.YtipnifjmhlcehaaGreatDoor
