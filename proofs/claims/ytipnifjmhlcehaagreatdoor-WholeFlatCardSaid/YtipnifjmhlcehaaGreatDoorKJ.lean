/- hachuretop.WholeFlat: a part of the proof that the law returns true at every input (PyrC, PyrD, RouteR, RouteC, Snap, WordB, WordC, WordD); no condition of its own. -/
import Derived.Test.YtipnifjmhlcehaaGreatDoorKI
import Derived.Test.YtipnifjmhlcehaaGreatDoorKC
import Derived.Test.YtipnifjmhlcehaaGreatDoorKD
import Derived.Test.YtipnifjmhlcehaaGreatDoorKG
import Derived.Test.YtipnifjmhlcehaaGreatDoorKF
import Derived.Test.YtipnifjmhlcehaaGreatDoorKH
set_option linter.unusedVariables false
set_option linter.unusedSimpArgs false
set_option maxRecDepth 100000
set_option maxHeartbeats 16000000
namespace Go.Proofs.YtipnifjmhlcehaaGreatDoor
section
open Go.RowKit
section
variable {P : Program} {ops : Array Oper} {Q : (Nat → Value) → World → Prop} {e : Nat → Value} {w W : World} {rest : List Oper} {d : Option Tmp} {ty : TypeId} {ps : String} {af : Array Edge} {F : Nat → Prop} {L L' : List HA}
theorem jcX {i t':Nat} {t:TypeId} {x y:Operand} {el sz k j s:Nat} {As:Nat->Option Addr} {ns cs':Nat->Nat} {xs:Nat->List Value} {cs:List Value} (S:St F W w L) (hi:qP L i=some (.pfam el sz k As ns cs' xs)) (ht:t' < k) (hz:(sizeOf t).run P w=.ok s w) (hx:ev e x=.pointer (at_ (As t') j)) (hy:ev e y=.agg cs.toArray) (hcs:cs.length=s) (hone:(cs.all fun v=>v.oneCell')=true) (hj:j+s<=(xs t').length)
  (hs:zF L i (.pfam el sz k As ns cs' (fU xs t' ((xs t').take j ++ cs ++ (xs t').drop (j+s))))=some L') (h0:Nat.blt 0 s=true) (hr:∀ w',St F W w' L'->RW P ops Q rest (yU e d undef) w'):RW P ops Q (⟨d,.store t x y,ty,ps,af,none⟩::rest) e w:=by
 have hs0:0 < s:=Nat.le_of_ble_eq_true h0
 have hR:=S.prow hi ht
 rcases hR.form with ⟨_,_,_,hn⟩ | ⟨g,l,hA,hB,hn,hl,htk,hm⟩
 ·rw [hn] at hj; simp at hj; omega
 ·have hlen:=hR.len
  have hnk:ns t' * sz<=l.length:=by rw [hl]; exact Nat.mul_le_mul_right _ hn
  obtain ⟨w',hw',hg',hsz',hB'⟩:=gV (P:=P) (o:=j) cs 0 w l hB (fun u hu=>List.all_eq_true.1 hone u hu) (by omega)
  have h6:(Value.agg cs.toArray).cells=cs.toArray:=rfl
  have hx':ev e x=.pointer (some ⟨g,j,none⟩):=by rw [hx,hA,sA,Nat.zero_add]
  refine jiH (w':=w') ?_ (hr w' ?_)
  ·simp [execOp,hx',hy,Instr.storeAt,Instr.sureAddr,storeVar,hz,h6,hcs,hw']
  ·refine S.pfamSet hi ht (by rw [hA]; exact Fr.of_grown (F:=kZ (some ⟨g,0,none⟩)) hg' (fun b e=>by injection e with e; rw [<-e]; rfl)) ?_ hs
   rw [hA]
   refine Row.mk_ hB' hn ?_ ?_ hm
   ·simp; omega
   ·rw [Nat.add_zero,hcs,List.append_assoc,List.take_append,List.take_take,Nat.min_eq_right (by omega),List.take_append,<-htk]
    have e1:(cs.take (ns t' * sz - (l.take j).length))=cs:=List.take_of_length_le (by simp; omega)
    have e2:ns t' * sz - (l.take j).length - cs.length=ns t' * sz - (j+s):=by simp; omega
    rw [e1,e2,List.take_take,Nat.min_eq_left (by omega),List.drop_take,<-List.append_assoc]
end
theorem dS {gw x0 y0 w h i:Nat} {c:Nat->Int} (hw:0 < w) (hi:i < h * w):(y9 gw c x0 y0 w h)[i]?=some (c ((y0+i / w) * gw+(x0+i % w))):=by
 have hd:i / w < h:=Nat.div_lt_of_lt_mul (by rw [Nat.mul_comm]; exact hi)
 have hm:=Nat.mod_lt i hw
 have h1:=uN (f:=fun j=>cO gw c x0 (y0+j) w) (m:=w) (fun _=>jbV _ _ _ _ _) (List.range h) (i / w) (i / w) (i % w) 1 (List.getElem?_range hd) (by omega)
 rw [show i / w * w+i % w=i by rw [Nat.mul_comm]; exact Nat.div_add_mod i w] at h1
 have h2:=congrArg (·[0]?) h1
 simp only [List.getElem?_take,List.getElem?_drop,Nat.add_zero] at h2
 rw [if_pos (by omega),if_pos (by omega)] at h2
 unfold y9
 rw [h2]
 simp [cO,hm]
theorem St.pfamCongr {F:Nat->Prop} {W w:World} {a b:HA} {tl:List HA} {el sz k:Nat} {As:Nat->Option Addr} {ns cs:Nat->Nat} {xs ys:Nat->List Value} (S:St F W w (a::b::.pfam el sz k As ns cs xs::tl)) (h:∀ i,i < k->xs i=ys i):St F W w (a::b::.pfam el sz k As ns cs ys::tl) :=
 S.set (i:=2) (h':=.pfam el sz k As ns cs ys) rfl rfl (Fr.refl (fun _=>False) w) (fun _ h=>h.elim) ⟨fun t ht=>by have:=S.prow (i:=2) rfl ht; rwa [h t ht] at this,(S.ok (i:=2) rfl).2⟩ (fun _ h=>.inl h)
theorem St.pfamTo {F:Nat->Prop} {W w:World} {L L':List HA} {i el sz k:Nat} {As:Nat->Option Addr} {ns cs:Nat->Nat} {xs ys:Nat->List Value} (S:St F W w L) (hi:qP L i=some (.pfam el sz k As ns cs xs)) (h:∀ i,i < k->xs i=ys i) (hs:zF L i (.pfam el sz k As ns cs ys)=some L'):St F W w L' :=
 S.set (h':=.pfam el sz k As ns cs ys) hi hs (Fr.refl (fun _=>False) w) (fun _ h=>h.elim) ⟨fun t ht=>by have:=S.prow hi ht; rwa [h t ht] at this,(S.ok hi).2⟩ (fun _ h=>.inl h)
def bsP (gw:Nat) (cc:Nat->Int) (qd:Nat->RG) (x0 y0 x1 y1 k i:Nat):RG :=
 if (x0<=i % gw/\i % gw<=x1)/\(y0<=i / gw/\i / gw<=y1)/\(i / gw - y0) * (x1+1 - x0)+(i % gw - x0) < k then ⟨cc i,cc i⟩ else qd i
theorem jfV (gw:Nat) (cc:Nat->Int) (qd:Nat->RG) (x0 y0 x1 y1:Nat):bsP gw cc qd x0 y0 x1 y1 0=qd:=funext fun i=>by unfold bsP; rw [if_neg (by omega)]
theorem jhY {gw:Nat} {cc:Nat->Int} {qd:Nat->RG} {x0 y0 x1 y1 k:Nat} (hx:x0<=x1/\x1 < gw) (hk:k < (y1+1 - y0) * (x1+1 - x0)) :
  jeA (bsP gw cc qd x0 y0 x1 y1 k) ((y0+k / (x1+1 - x0)) * gw+(x0+k % (x1+1 - x0))) ⟨cc ((y0+k / (x1+1 - x0)) * gw+(x0+k % (x1+1 - x0))),cc ((y0+k / (x1+1 - x0)) * gw+(x0+k % (x1+1 - x0)))⟩=bsP gw cc qd x0 y0 x1 y1 (k+1):=funext fun i=>by
 have hkm:=Nat.mod_lt k (show x1+1 - x0 > 0 by omega)
 have hkd:k / (x1+1 - x0) < y1+1 - y0:=Nat.div_lt_of_lt_mul (by rw [Nat.mul_comm]; exact hk)
 have hdm:=Nat.div_add_mod k (x1+1 - x0)
 rw [Nat.mul_comm] at hdm
 generalize hwd:x1+1 - x0=wd at *
 generalize hr:k % wd=r at *
 generalize hq:k / wd=q at *
 have hm:((y0+q) * gw+(x0+r)) % gw=x0+r:=by rw [Nat.mul_comm,Nat.mul_add_mod,Nat.mod_eq_of_lt (by omega)]
 have hd:((y0+q) * gw+(x0+r)) / gw=y0+q:=by rw [Nat.mul_comm,Nat.mul_add_div (by omega),Nat.div_eq_of_lt (by omega),Nat.add_zero]
 unfold jeA
 by_cases e:i=(y0+q) * gw+(x0+r)
 ·rw [if_pos e,e]
  unfold bsP
  rw [hm,hd,hwd,if_pos ⟨by omega,by omega,by rw [show y0+q - y0=q by omega,show x0+r - x0=r by omega]; omega⟩]
 ·rw [if_neg e]
  unfold bsP
  rw [hwd]
  have hne:¬ (i / gw=y0+q/\i % gw=x0+r):=fun ⟨h1,h2⟩=>e (by have:=Nat.div_add_mod i gw; rw [h1,h2,Nat.mul_comm] at this; exact this.symm)
  generalize i / gw=a at *
  generalize i % gw=b at *
  by_cases h:(x0<=b/\b<=x1)/\(y0<=a/\a<=y1)/\(a - y0) * wd+(b - x0) < k
  ·rw [if_pos h,if_pos ⟨h.1,h.2.1,by omega⟩]
  ·rw [if_neg h,if_neg (fun h2=>h ⟨h2.1,h2.2.1,?_⟩)]
   have h3:=h2.2.2
   rcases Nat.lt_or_ge ((a - y0) * wd+(b - x0)) k with h4 | h4
   ·exact h4
   ·exfalso
    have h5:(a - y0) * wd+(b - x0)=q * wd+r:=by omega
    have h6:b - x0 < wd:=by omega
    have e1:((a - y0) * wd+(b - x0)) % wd=b - x0:=by rw [Nat.mul_comm,Nat.mul_add_mod,Nat.mod_eq_of_lt h6]
    have e2:(q * wd+r) % wd=r:=by rw [Nat.mul_comm,Nat.mul_add_mod,Nat.mod_eq_of_lt hkm]
    have e3:((a - y0) * wd+(b - x0)) / wd=a - y0:=by rw [Nat.mul_comm,Nat.mul_add_div (by omega),Nat.div_eq_of_lt h6,Nat.add_zero]
    have e4:(q * wd+r) / wd=q:=by rw [Nat.mul_comm,Nat.mul_add_div (by omega),Nat.div_eq_of_lt hkm,Nat.add_zero]
    rw [h5,e2] at e1
    rw [h5,e4] at e3
    exact hne ⟨by omega,by omega⟩
theorem jax {x0 x1 n k:Nat} (h:x0<=x1/\x1 < n):x0 / 2 ^ k<=x1 / 2 ^ k/\x1 / 2 ^ k < hfN n k:=⟨Nat.div_le_div_right h.1,mQ k h.2⟩
section
variable {F : Nat → Prop} {W w : World} {tl : List HA} {A lA : Option Addr} {p pb gw gh cap lc x0 y0 x1 y1 : Nat} {cc : Nat → Int} {bs : Nat → Nat} {Rs : Nat → Option Nat} {As : Nat → Option Addr} {cs : Nat → Nat} {q : Nat → Nat → RG}
theorem nN (hx:x0<=x1/\x1 < gw) (hy:y0<=y1/\y1 < gh) (hG:GridAt w p gw gh cc A cap bs Rs)
  (hq:∀ k,k < nLv gw gh->∀ i,i < hfN gw k * hfN gh k->¬ ((x0 / 2 ^ k<=i % hfN gw k/\i % hfN gw k<=x1 / 2 ^ k)/\y0 / 2 ^ k<=i / hfN gw k/\i / hfN gw k<=y1 / 2 ^ k)->q k i=pmF gw gh (yA gw gh cc) k i)
  (S:St F W w (.blk pb 269 [.slice lA (nLv gw gh) lc]::.row 354 3 lA (nLv gw gh) lc (lvV (nLv gw gh) gw gh As cs)::.pfam 124 2 (nLv gw gh) As (lvN gw gh) cs (fun k=>rgF (lvN gw gh k) (q k))::tl)) :
  Fn Tryz.prog 364 [pt pb,pt p,.agg #[ii x0,ii y0,ii x1,ii y1]] w (fun v w'=>v=ii 0 /\
   St F W w' (.blk pb 269 [.slice lA (nLv gw gh) lc]::.row 354 3 lA (nLv gw gh) lc (lvV (nLv gw gh) gw gh As cs)::.pfam 124 2 (nLv gw gh) As (lvN gw gh) cs (lvX gw gh (yA gw gh cc))::tl)):=by
 have hw:=hG.sw
 have hh:=hG.sh
 have hm:gw * gh<=1024 * 1024:=Nat.mul_le_mul hw.2 hh.2
 have hl:=xR hw.2 hh.2
 have hgt:=hG.top
 have hva:=fun w' (g:Gr w w')=>qN (W:=w') x0 y0 x1 y1 hx hy (hG.gr g)
 have h1:=S.blk (i:=0) rfl
 have h2:=S.rd (i:=1) rfl
 have hlv:=fun {j:Nat} (h:j < nLv gw gh)=>jdy (gw:=gw) (gh:=gh) (As:=As) (cs:=cs) h
 have hl0:=hlv (show 0 < nLv gw gh by omega)
 rw [qG hw.1,qG hh.1] at hl0
 have sa_lv:yH lA:=h2.someA (by rw [jbg]; omega)
 have sa_0:yH (As 0):=(S.prow (i:=2) rfl (t:=0) (by omega)).someA (by unfold lvN; rw [qG hw.1,qG hh.1]; exact Nat.mul_pos (by omega) (by omega))
 have har:(y1+1 - y0) * (x1+1 - x0)<=1024 * 1024:=Nat.mul_le_mul (by omega) (by omega)
 have hvl:=z6 gw cc x0 y0 (x1+1 - x0) (y1+1 - y0)
 have hvg:∀ i,i < (y1+1 - y0) * (x1+1 - x0)->(yC (y9 gw cc x0 y0 (x1+1 - x0) (y1+1 - y0)))[(i:Int).toNat * 1]?=some (ii (cc ((y0+i / (x1+1 - x0)) * gw+(x0+i % (x1+1 - x0))))):=fun i hi=>by
  rw [Nat.mul_one,Int.toNat_natCast]
  exact qO (dS (by omega) hi)
 have S1:=S
 clear S
 have G:=Gr.refl w
 have S:=St.start w
 refine zn Tryz.func364 Tryz.results364 Tryz.ntmps364 ?_
 refine zs ?_
 refine jF (jO rfl) S ?_
 intro b_r w2_ g2_ S
 iterate 10 refine z ?_
 refine j3 (jB nL rfl rfl (h1.gr S.out) rfl) ?_
 refine zx ?_
 refine j3 (yY jc5 rfl (nE _) rfl (h2.gr S.out) hl0 rfl rfl) ?_
 refine jF (jL Tryz.zeroValue354 rfl) S ?_
 intro b_l w4_ g4_ S
 refine jH (i:=0) S rfl (nE _) rfl rfl rfl rfl rfl rfl ?_
 intro w5_ S
 refine z ?_
 refine jC rfl (xH p gw gh _ w5_ (hgt.gr S.out)) ?_
 rintro _ w6_ ⟨rfl,g6_⟩
 have S:=S.gr g6_
 (iterate 8 refine z ?_); refine zf ?_; (iterate 4 refine z ?_); refine zf ?_; iterate 3 refine z ?_
 refine jC rfl (hva w6_ S.out) ?_
 rintro _ w7_ ⟨A_vs,c_vs,rfl,hR_vs,hf_vs,g7_⟩
 have S:=S.pushRow hR_vs hf_vs g7_
 (iterate 6 refine z ?_); refine zf ?_; iterate 3 refine z ?_
 refine zc ?_
 refine jS ?_
 refine zc ?_
 have S:=S1.app S
 generalize hVs:y9 gw cc x0 y0 (x1+1 - x0) (y1+1 - y0)=Vs at *
 generalize hwd:x1+1 - x0=wd at *
 generalize hnn:(y1+1 - y0) * wd=nn at *
 have hxs:(fun k=>rgF (lvN gw gh k) (q k))=fU (fun k=>rgF (lvN gw gh k) (q k)) 0 (rgF (gw * gh) (bsP gw cc (q 0) x0 y0 x1 y1 0)):=funext fun k=>by
  unfold fU
  by_cases e:k=0
  ·subst e; rw [if_pos rfl,jfV]; show rgF (hfN gw 0 * hfN gh 0) _=_; rw [qG hw.1,qG hh.1]
  ·rw [if_neg e]
 rw [hxs] at S
 refine j9 (fun m e w2=>∃ k:Nat,k+m=nn/\SL e [(0,pt pb),(5,pt b_r),(7,pt b_l),(53,.slice A_vs nn c_vs),(54,ii nn),(55,ii k)] /\
  St F W w2 (.row 2 1 A_vs nn c_vs (yC Vs)::.blk b_l 354 [ii gw,ii gh,.slice (As 0) (gw * gh) (cs 0)]::.blk b_r 27 [ii x0,ii y0,ii x1,ii y1] ::
   .blk pb 269 [.slice lA (nLv gw gh) lc]::.row 354 3 lA (nLv gw gh) lc (lvV (nLv gw gh) gw gh As cs)::.pfam 124 2 (nLv gw gh) As (lvN gw gh) cs (fU (fun k=>rgF (lvN gw gh k) (q k)) 0 (rgF (gw * gh) (bsP gw cc (q 0) x0 y0 x1 y1 k)))::tl)) nn
  ⟨0,by omega,⟨rfl,rfl,rfl,rfl,rfl,rfl,trivial⟩,S⟩ ?_
 clear S hxs
 rintro m e w2 ⟨k,hk,hsl,S⟩
 rw [hsl.fold]
 by_cases hkn:k < nn
 ·have sa_vs:yH A_vs:=(S.row (i:=0) rfl).someA (by omega)
  have hkm:=Nat.mod_lt k (show wd > 0 by omega)
  have hkd:k / wd < y1+1 - y0:=Nat.div_lt_of_lt_mul (by rw [Nat.mul_comm,hnn]; exact hkn)
  have e0:(x1:Int) - x0+1=(wd:Nat):=by omega
  have e1:(x0:Int)+(k:Int) % (wd:Nat)=((x0+k % wd:Nat):Int):=by push_cast; rfl
  have e2:(y0:Int)+(k:Int) / (wd:Nat)=((y0+k / wd:Nat):Int):=by push_cast; rfl
  have hnth:=fun w'=>jee x0 y0 x1 y1 k (by omega) (by omega) (by rw [e0,show (y1:Int) - y0+1=((y1+1 - y0:Nat):Int) by omega,Int.mul_comm,show (((y1+1 - y0:Nat):Int) * wd)=(((y1+1 - y0) * wd:Nat):Int) by push_cast; rfl,hnn]; omega) w'
  rw [e0,e1,e2] at hnth
  have hst:=jhY (cc:=cc) (qd:=q 0) (y0:=y0) (y1:=y1) (k:=k) hx (by rw [hwd,hnn]; exact hkn)
  rw [hwd] at hst
  have hvk:=hvg k hkn
  have hxb:x0+k % wd < gw:=by omega
  have hyb:y0+k / wd < gh:=by omega
  generalize x0+k % wd=cx at *
  generalize y0+k / wd=cy at *
  have hidx:cy * gw+cx < gw * gh:=by
   have:=Nat.mul_le_mul_left gw (show cy+1<=gh by omega)
   rw [Nat.mul_add,Nat.mul_one,Nat.mul_comm gw cy] at this
   omega
  have e5:(cy:Int) * gw=((cy * gw:Nat):Int):=by push_cast; rfl
  have e6:((cy * gw:Nat):Int)+cx=((cy * gw+cx:Nat):Int):=rfl
  have hlen:((cy * gw+cx:Nat):Int).toNat * 2+2<=(fU (fun k=>rgF (lvN gw gh k) (q k)) 0 (rgF (gw * gh) (bsP gw cc (q 0) x0 y0 x1 y1 k)) 0).length:=by
   show _<=(rgF (gw * gh) (bsP gw cc (q 0) x0 y0 x1 y1 k)).length
   rw [rY]; omega
  have hse:∀ X:Nat->List Value,X=fU (fun k=>rgF (lvN gw gh k) (q k)) 0 (rgF (gw * gh) (bsP gw cc (q 0) x0 y0 x1 y1 k))->fU X 0 ((X 0).take (((cy * gw+cx:Nat):Int).toNat * 2) ++ [ii (cc (cy * gw+cx)),ii (cc (cy * gw+cx))] ++ (X 0).drop (((cy * gw+cx:Nat):Int).toNat * 2+2)) =
    fU (fun k=>rgF (lvN gw gh k) (q k)) 0 (rgF (gw * gh) (bsP gw cc (q 0) x0 y0 x1 y1 (k+1))):=fun X hX=>by
   subst hX
   show fU _ 0 ((rgF (gw * gh) (bsP gw cc (q 0) x0 y0 x1 y1 k)).take (((cy * gw+cx:Nat):Int).toNat * 2) ++ (RG.mk (cc (cy * gw+cx)) (cc (cy * gw+cx))).cells ++ (rgF (gw * gh) (bsP gw cc (q 0) x0 y0 x1 y1 k)).drop (((cy * gw+cx:Nat):Int).toNat * 2+2))=_
   rw [jd2 hidx,hst]
   funext j
   unfold fU
   split <;> rfl
  refine zt ?_; refine z ?_; refine zx ?_
  refine j3 (j7 q2 rfl rfl (S.rd (i:=0) rfl) hvk) ?_
  iterate 4 refine z ?_
  refine jC rfl (hnth w2) ?_
  rintro _ w8_ ⟨rfl,g8_⟩
  have S:=S.gr g8_
  iterate 3 refine z ?_
  refine jF (jL kL rfl) S ?_
  intro b_c w10_ g10_ S
  refine jH (i:=0) S rfl (qI _) rfl rfl rfl rfl rfl rfl ?_
  intro w11_ S
  iterate 7 refine z ?_
  refine jE (yI rfl (by rw [e5]; omega)) ?_
  rw [e5]
  refine z ?_; refine z ?_
  refine jE (yI rfl (by rw [e6]; omega)) ?_
  rw [e6]
  refine z ?_; refine z ?_
  refine jE (jN (pl:=[(0,1),(1,1)]) bK wR (fun w=>by kernel_rfl) rfl rfl) ?_
  refine zx ?_
  refine jcX (t':=0) (i:=6) S rfl (by omega) (vI _) rfl rfl rfl rfl hlen rfl rfl ?_
  intro w14 S
  refine zr ?_; refine z ?_
  refine ze ?_
  have S:=S.pfamTo (i:=6) rfl (fun t _=>congrFun (hse _ rfl) t) rfl
  exact ⟨m - 1,by omega,k+1,by omega,⟨rfl,rfl,rfl,rfl,rfl,ie (by omega),trivial⟩,S.drop 1⟩
 ·obtain rfl:k=nn:=by omega
  -- the levels above
  have hbase:∀ i,i < gw * gh->bsP gw cc (q 0) x0 y0 x1 y1 k i=pmF gw gh (yA gw gh cc) 0 i:=fun i hi=>by
   have hp0:pmF gw gh (yA gw gh cc) 0 i=⟨cc i,cc i⟩:=by
    unfold pmF
    rw [qG hw.1]
    show RG.mk ((yA gw gh cc).getD (i / gw * gw+i % gw) 0) ((yA gw gh cc).getD (i / gw * gw+i % gw) 0)=_
    rw [Nat.mul_comm (i / gw),Nat.div_add_mod,show (yA gw gh cc).getD i 0=cc i by unfold yA; simp [hi]]
   by_cases hc:(x0<=i % gw/\i % gw<=x1)/\y0<=i / gw/\i / gw<=y1
   ·have ha:i / gw - y0+1<=y1+1 - y0:=by have:=hc.2; omega
    have h5:=Nat.mul_le_mul_right wd ha
    rw [hnn,Nat.add_mul,Nat.one_mul] at h5
    have h6:(i / gw - y0) * wd+(i % gw - x0) < k:=Nat.lt_of_lt_of_le (Nat.add_lt_add_left (show i % gw - x0 < wd by have:=hc.1; omega) _) h5
    unfold bsP
    rw [hwd,if_pos ⟨hc.1,hc.2,h6⟩,hp0]
   ·have:=hq 0 (by omega) i (by rw [qG hw.1,qG hh.1]; exact hi) (by rw [qG hw.1,Nat.pow_zero,Nat.div_one,Nat.div_one,Nat.div_one,Nat.div_one]; exact hc)
    unfold bsP
    rw [if_neg (fun h=>hc ⟨h.1,h.2.1⟩),this]
  rw [sK hbase] at S
  have S:=S.drop 2
  refine zf ?_
  refine zc ?_
  refine jM rfl ?_
  refine zc ?_
  refine jY ?_
  repeat first | refine jP ?_ | refine jU ?_
  show CW _ _ _ _ _ _
  refine z ?_
  refine zc ?_
  refine jS ?_
  refine zc ?_
  have hxs:fU (fun k=>rgF (lvN gw gh k) (q k)) 0 (rgF (gw * gh) (pmF gw gh (yA gw gh cc) 0))=fun j=>if j < 1 then lvX gw gh (yA gw gh cc) j else rgF (lvN gw gh j) (q j):=funext fun j=>by
   unfold fU
   by_cases e:j=0
   ·subst e; rw [if_pos rfl,if_pos (by omega)]; show _=rgF (hfN gw 0 * hfN gh 0) _; rw [qG hw.1,qG hh.1]
   ·rw [if_neg e,if_neg (by omega)]
  rw [hxs] at S
  refine j9 (fun m e w3=>∃ j:Nat,j+m=nLv gw gh/\1<=j/\SL e [(0,pt pb),(5,pt b_r),(16,ii j)] /\
   St F W w3 (.blk b_r 27 [ii (x0 / 2 ^ (j - 1):Nat),ii (y0 / 2 ^ (j - 1):Nat),ii (x1 / 2 ^ (j - 1):Nat),ii (y1 / 2 ^ (j - 1):Nat)] ::
    .blk pb 269 [.slice lA (nLv gw gh) lc]::.row 354 3 lA (nLv gw gh) lc (lvV (nLv gw gh) gw gh As cs)::.pfam 124 2 (nLv gw gh) As (lvN gw gh) cs (fun i=>if i < j then lvX gw gh (yA gw gh cc) i else rgF (lvN gw gh i) (q i))::tl)) (nLv gw gh - 1)
   ⟨1,by omega,by omega,⟨rfl,rfl,rfl,trivial⟩,by rw [show 1 - 1=0 from rfl,Nat.pow_zero,Nat.div_one,Nat.div_one,Nat.div_one,Nat.div_one]; exact S⟩ ?_
  clear S hxs hvg
  rintro m3 e w3 ⟨j,hj,hj1,hsl,S⟩
  rw [hsl.fold]
  by_cases hjn:j < nLv gw gh
  ·obtain ⟨i,rfl⟩:∃ i,j=i+1:=⟨j - 1,by omega⟩
   rw [Nat.add_sub_cancel] at S
   have hhx:=jax (k:=i+1) hx
   have hhy:=jax (k:=i+1) hy
   have hd:∀ a:Nat,((a / 2 ^ i:Nat):Int) / 2=((a / 2 ^ (i+1):Nat):Int):=fun a=>by
    rw [Nat.pow_succ,<-Nat.div_div_eq_div_mul]; push_cast; rfl
   have n0:∀ a:Nat,(0:Int)<=((a / 2 ^ i:Nat):Int)/\((a / 2 ^ i:Nat):Int)<=a:=fun a=>⟨Int.natCast_nonneg _,Int.ofNat_le.2 (Nat.div_le_self a _)⟩
   have b0:=n0 x0
   have b1:=n0 y0
   have b2:=n0 x1
   have b3:=n0 y1
   have ei:((i+1:Nat):Int) - 1=(i:Nat):=by omega
   have hlj:=hlv (show i+1 < nLv gw gh from hjn)
   have hli:=hlv (show i < nLv gw gh by omega)
   have hwi:=fF i hw.1
   have hhi:=fF i hh.1
   have p1:=bT gw i
   have p2:=bT gh i
   generalize hX0:x0 / 2 ^ (i+1)=X0 at *
   generalize hY0:y0 / 2 ^ (i+1)=Y0 at *
   generalize hX1:x1 / 2 ^ (i+1)=X1 at *
   generalize hY1:y1 / 2 ^ (i+1)=Y1 at *
   have hd0:=hd x0
   have hd1:=hd y0
   have hd2:=hd x1
   have hd3:=hd y1
   rw [hX0] at hd0
   rw [hY0] at hd1
   rw [hX1] at hd2
   rw [hY1] at hd3
   have hR:=fun w' (S:St F W w' (.blk b_r 27 [ii X0,ii Y0,ii X1,ii Y1]::.blk pb 269 [.slice lA (nLv gw gh) lc]::.row 354 3 lA (nLv gw gh) lc (lvV (nLv gw gh) gw gh As cs)::.pfam 124 2 (nLv gw gh) As (lvN gw gh) cs (fun j=>if j < i+1 then lvX gw gh (yA gw gh cc) j else rgF (lvN gw gh j) (q j))::tl)) =>
    jgR (W:=w') (Au:=As i) (Ad:=As (i+1)) (uw:=hfN gw i) (uh:=hfN gh i) (lw:=hfN gw (i+1)) (lh:=hfN gh (i+1)) (cu:=cs i) (cd:=cs (i+1)) (qu:=pmF gw gh (yA gw gh cc) i) (qd:=q (i+1)) ⟨p1,by omega,p2,by omega⟩ (mP gw i) (mP gh i) hhx hhy
     (by have:=(S.prow (i:=3) rfl (t:=i) (by omega)).rd; rw [if_pos (by omega)] at this; exact this) (S.pap (i:=3) rfl (by omega) hjn (by omega)) (by have:=S.prow (i:=3) rfl (t:=i+1) hjn; rw [if_neg (by omega)] at this; exact this)
   have hfin:rgF (lvN gw gh (i+1)) (mdP (hfN gw i) (hfN gh i) (hfN gw (i+1)) (pmF gw gh (yA gw gh cc) i) (q (i+1)) X0 Y0 X1 (Y1+1) X0)=lvX gw gh (yA gw gh cc) (i+1):=sK fun a ha=>by
    have hlw:=bT gw (i+1)
    have hxm:=Nat.mod_lt a (show hfN gw (i+1) > 0 by omega)
    have hym:a / hfN gw (i+1) < hfN gh (i+1):=Nat.div_lt_of_lt_mul ha
    unfold mdP
    by_cases hc:(X0<=a % hfN gw (i+1)/\a % hfN gw (i+1)<=X1)/\Y0<=a / hfN gw (i+1)/\a / hfN gw (i+1)<=Y1
    ·rw [if_pos ⟨hc.1,.inl ⟨hc.2.1,Nat.lt_succ_of_le hc.2.2⟩⟩]
     exact sV (d8 hxm) (d8 hym) (fun u d _ _ h3 _=>jg1 h3) 4 (Nat.le_refl _)
    ·rw [if_neg (fun h=>hc ⟨h.1,?_⟩)]
     ·exact hq (i+1) hjn a ha (by rw [hX0,hY0,hX1,hY1]; exact hc)
     ·rcases h.2 with h | h
      ·exact ⟨h.1,Nat.le_of_lt_succ h.2⟩
      ·exact absurd h.2 (by omega)
   (iterate 6 refine z ?_); refine zt ?_; refine z ?_; refine z ?_
   refine jE (vP rfl rfl (by omega) (by omega)) ?_
   rw [hd0]
   refine z ?_; refine z ?_
   refine jE (vP rfl rfl (by omega) (by omega)) ?_
   rw [hd1]
   refine z ?_; refine z ?_
   refine jE (vP rfl rfl (by omega) (by omega)) ?_
   rw [hd2]
   refine z ?_; refine z ?_
   refine jE (vP rfl rfl (by omega) (by omega)) ?_
   rw [hd3]
   refine jE (jN (pl:=[(0,1),(1,1),(2,1),(3,1)]) q27 qX (fun w=>by kernel_rfl) rfl rfl) ?_
   refine jH (i:=0) S rfl (y6 _) rfl rfl rfl rfl rfl rfl ?_
   intro w12_ S
   refine zc ?_
   refine yB (C:=fun wq=>Gr w12_ wq) [0,1,2,3,4,5,6,7,8,9,10,11,12,13,14,15] [16] (by kernel_rfl) (by kernel_rfl) (Gr.drew _) ?_
   simp only [j6,List.drop_succ_cons,List.drop_zero]
   iterate 3 refine y ?_
   refine jV (fun wq hq=>jB nL rfl rfl ((S.gr hq).blk (i:=1) rfl) rfl) ?_
   refine y ?_; refine yx ?_
   refine jV (fun wq hq=>yY jc5 rfl (nE _) rfl ((S.gr hq).rd (i:=2) rfl) hlj rfl rfl) ?_
   iterate 3 refine y ?_
   refine jV (fun wq hq=>jB nL rfl rfl ((S.gr hq).blk (i:=1) rfl) rfl) ?_
   refine y ?_; refine yr ?_
   rw [ei]
   refine yx ?_
   refine jV (fun wq hq=>yY jc5 rfl (nE _) rfl ((S.gr hq).rd (i:=2) rfl) hli rfl rfl) ?_
   refine jV (fun wq hq=>jT q27 rfl (y6 _) rfl ((S.gr hq).blk (i:=0) rfl) rfl rfl) ?_
   refine yJ ?_
   intro w13_ g13_
   have S:=S.gr g13_
   refine jC rfl (hR w13_ S) ?_
   rintro _ w14_ ⟨rfl,hRow,hFr⟩
   have S:=S.pfamSet (i:=3) rfl hjn hFr hRow rfl
   rw [show hfN gw (i+1) * hfN gh (i+1)=lvN gw gh (i+1) from rfl,hfin] at S
   refine z ?_; refine zr ?_; refine z ?_
   refine ze ?_
   have hxs:fU (fun j=>if j < i+1 then lvX gw gh (yA gw gh cc) j else rgF (lvN gw gh j) (q j)) (i+1) (lvX gw gh (yA gw gh cc) (i+1))=fun j=>if j < i+1+1 then lvX gw gh (yA gw gh cc) j else rgF (lvN gw gh j) (q j):=funext fun j=>by
    unfold fU
    by_cases e:j=i+1
    ·subst e; rw [if_pos rfl,if_pos (by omega)]
    ·rw [if_neg e]
     show (if j < i+1 then _ else _)=_
     by_cases h:j < i+1
     ·rw [if_pos h,if_pos (by omega)]
     ·rw [if_neg h,if_neg (by omega)]
   rw [hxs] at S
   exact ⟨m3 - 1,by omega,i+1+1,by omega,by omega,⟨rfl,rfl,ie (by omega),trivial⟩,by rw [Nat.add_sub_cancel,hX0,hY0,hX1,hY1]; exact S⟩
  ·obtain rfl:j=nLv gw gh:=by omega
   (iterate 6 refine z ?_); refine zf ?_
   refine zc ?_
   refine jM rfl ?_
   refine zc ?_
   refine jY ?_
   repeat first | refine jP ?_ | refine jU ?_
   show CW _ _ _ _ _ _
   refine z ?_
   refine zq ?_
   have S:=S.drop 1
   have hxs:∀ i,i < nLv gw gh->(fun i=>if i < nLv gw gh then lvX gw gh (yA gw gh cc) i else rgF (lvN gw gh i) (q i)) i=lvX gw gh (yA gw gh cc) i:=fun i hi=>if_pos hi
   exact yD rfl ⟨rfl,S.pfamCongr hxs⟩
end
end
section
open Go.RowKit
def CMB (F:Nat->Prop) (W:World) (L:List HA) (i el k n:Nat) (xs:List Value) (ysf:Option Addr->List Value) (elM kM nM:Nat) (zs:List Value) (wq:World):List Value->Prop
 | []=>St F W wq L
 | [m]=>∃ A,m=.slice A nM nM/\yH A/\St F W wq (.row elM kM A nM nM zs::L)
 | [b,m]=>∃ A,m=.slice A nM nM/\yH A/\CS F W (.row elM kM A nM nM zs::L) (i+1) el k n xs (ysf A) wq [b]
 | [u,b,m]=>∃ A,m=.slice A nM nM/\yH A/\CS F W (.row elM kM A nM nM zs::L) (i+1) el k n xs (ysf A) wq [u,b]
 | _=>False
section
variable {F : Nat → Prop} {W wq w' : World} {L : List HA} {i el k n elM kM nM : Nat} {xs zs : List Value} {ysf : Option Addr → List Value} {τ : List Value}
theorem CMB.gr (h:CMB F W L i el k n xs ysf elM kM nM zs wq τ) (g:Gr wq w'):CMB F W L i el k n xs ysf elM kM nM zs w' τ:=by
 match τ,h with
 | [],h=>exact St.gr (show St F W wq L from h) g
 | [m],⟨A,e,s,h⟩=>exact ⟨A,e,s,h.gr g⟩
 | [b,m],⟨A,e,s,h⟩=>exact ⟨A,e,s,CS.gr h g⟩
 | [u,b,m],⟨A,e,s,h⟩=>exact ⟨A,e,s,CS.gr h g⟩
theorem CMB.ok (h:CMB F W L i el k n xs ysf elM kM nM zs wq τ) {j:Nat} (hj:j ≠ i) {x:HA} (hx:qP L j=some x):x.ok wq:=by
 match τ,h with
 | [],h=>exact St.ok (show St F W wq L from h) hx
 | [m],⟨A,e,s,h⟩=>exact h.ok (i:=j+1) hx
 | [b,m],⟨A,e,s,h⟩=>exact CS.ok h (j:=j+1) (by omega) hx
 | [u,b,m],⟨A,e,s,h⟩=>exact CS.ok h (j:=j+1) (by omega) hx
end
section
variable {P : Program} {e : Nat → Value} {d : Option Tmp} {ty : TypeId} {ps : String} {af : Array Edge} {F : Nat → Prop} {W wq : World} {L : List HA} {i el k n elM kM nM : Nat} {xs zs : List Value} {ysf : Option Addr → List Value}
theorem fA {o:Oper} {w:World} {R R':Value->World->Prop} (h:qM P e o w R) (hr:∀ v w',R v w'->R' v w'):qM P e o w R':=by
 unfold qM at *
 generalize (execOp (ev e) o).run P w=r at *
 cases r with
 | ok x w'=>cases x <;> first | exact hr _ _ h | exact h.elim | (exact h.mono fun _ _ ⟨v,he,hR⟩=>⟨v,he,hr _ _ hR⟩) | exact ⟨h.1,RoundIn.mono h.2 fun _ _ ⟨v,he,hR⟩=>⟨v,he,hr _ _ hR⟩⟩
 | halt x w'=>exact h.elim
theorem jcT {t:TypeId} {x y:Operand} {bytes:Nat} {kl kc:IntKind} {z:Value} {m p:Int} (hq:CMB F W L i el k n xs ysf elM kM nM zs wq []) (hu:P.underlying t=some (.slice elM)) (hI:(P.info? elM).map (fun i=>(i.zero,i.size,i.bytes))=some (some z,kM,bytes)) (hz:Nat.beq z.cells.size kM=true)
  (hx:ev e x=.int kl m) (hy:ev e y=.int kc p) (hm:m=(nM:Nat)) (hp:p=(nM:Nat)) (hb:nM * (bytes+1)<=140737488355328) (hzs:(List.replicate nM z.cells.toList).flatten=zs) :
  qM P e ⟨d,.makeSlice t x y,ty,ps,af,none⟩ wq (fun v w'=>CMB F W L i el k n xs ysf elM kM nM zs w' [v]):=by
 subst hzs
 have h:=jbc (P:=P) (w:=wq) (d:=d) (ty:=ty) (ps:=ps) (af:=af) (e:=e) hu hI hz hx hy hm hp (Nat.le_refl _) hb
 have hz':=Nat.eq_of_beq_eq_true hz
 have hb2:nM<=140737488355328:=Nat.le_trans (Nat.le_mul_of_pos_right _ (by omega)) hb
 refine lD h ?_
 have S:St F W wq L:=hq
 refine ⟨_,rfl,uB _ _,S.push (Gr.alloc _ _) (h:=.row elM kM (some ⟨wq.heap.size,0,none⟩) nM nM _) (Row.of_blk (Blk.new _ _ _) (by simp [hz']) (by unfold maxLen; omega)) (fun g hg=>?_)⟩
 have:wq.heap.size=g:=by injection hg
 omega
theorem jbD {v:Value} {t:TypeId} {parts:List (Nat × Operand)} {z:Value} {l0 l:List Value} (hq:CMB F W L i el k n xs ysf elM kM nM zs wq [v]) (hu:P.underlying t=some (.slice el)) (hs:∀ w,(sizeOf el).run P w=.ok k w) (hz:∀ w,(zeroValue el).run P w=.ok z w) (hk:z.cells.toList.length=k) (hk0:Nat.beq (1 * k) 0=false) (hn:Nat.ble (1 * k) 16777216=true)
  (h1:lay (fun i=>some (i * k,k)) ((List.replicate 1 z.cells.toList).flatten) (evp e parts)=some l0) (h2:fzl l0=some l) (hl:Nat.beq l.length (1 * k)=true) (hys:∀ A,v=.slice A nM nM->l=ysf A) :
  qM P e ⟨d,.buildSlice t 1 parts.toArray,ty,ps,af,none⟩ wq (fun b w'=>CMB F W L i el k n xs ysf elM kM nM zs w' [b,v]):=by
 obtain ⟨A,rfl,s,S⟩:=hq
 have h:=hys A rfl
 subst h
 exact fA (zX (L:=.row elM kM A nM nM zs::L) (i:=i+1) (xs:=xs) (n:=n) S hu hs hz hk hk0 hn h1 h2 hl) fun b w' h=>⟨A,rfl,s,h⟩
theorem jeF {s x:Operand} {t bytes c:Nat} {A0:Option Addr} {z b v:Value} (hq:CMB F W L i el k n xs ysf elM kM nM zs wq [b,v]) (hi:qP L i=some (.row el k A0 n c xs)) (hf:∀ h,∃ L',zF L i h=some L')
  (hu:P.underlying t=some (.slice el)) (hI:(P.info? el).map (fun i=>(i.zero,i.size,i.bytes))=some (some z,k,bytes)) (hz:Nat.beq z.cells.size k=true) (hk:Nat.blt 0 k=true)
  (hs:ev e s=.slice A0 n c) (hx:ev e x=b) (hm:∀ A,(ysf A).length=1 * k) (h1:∀ A,((ysf A).all fun v=>v.oneCell')=true) (hb:(n+1) * (bytes+1)<=140737488355328) :
  qM P e ⟨d,.call ⟨.builtin .append,#[s,x],#[t,t]⟩,ty,ps,af,none⟩ wq (fun u w'=>CMB F W L i el k n xs ysf elM kM nM zs w' [u,b,v]):=by
 obtain ⟨A,rfl,sa,S⟩:=hq
 refine fA (gF (L:=.row elM kM A nM nM zs::L) (i:=i+1) S hi (fun h=>?_) hu hI hz hk hs hx (hm A) (h1 A) hb) fun u w' h=>⟨A,rfl,sa,h⟩
 obtain ⟨L',hL'⟩:=hf h
 exact ⟨.row elM kM A nM nM zs::L',by show (match zF L i h with | some s=>some (HA.row elM kM A nM nM zs::s) | none=>none)=_; rw [hL']⟩
end
section
variable {W : World} {A : Option Addr} {p gw gh cap : Nat} {cc : Nat → Int} {bs : Nat → Nat} {Rs : Nat → Option Nat}
theorem jfs:(Tryz.prog.info? 354).map (fun i=>(i.zero,i.size,i.bytes))=some (some (.agg #[ii 0,ii 0,.slice none 0 0]),3,40):=by kernel_rfl
theorem je5 (hG:GridAt W p gw gh cc A cap bs Rs):Fn Tryz.prog 376 [pt p] W (fun v w'=>∃ pb lA lc As cs,v=.tuple #[pt pb,ii 0] /\
  St No W w' [.blk pb 269 [.slice lA (nLv gw gh) lc],.row 354 3 lA (nLv gw gh) lc (lvV (nLv gw gh) gw gh As cs),.pfam 124 2 (nLv gw gh) As (lvN gw gh) cs (lvX gw gh (yA gw gh cc))]):=by
 have hw:=hG.sw
 have hh:=hG.sh
 have hl:=xR hw.2 hh.2
 have hgt:=hG.top
 have S:=St.start W
 refine zn Tryz.func376 Tryz.results376 Tryz.ntmps376 ?_
 iterate 4 refine z ?_
 refine zs ?_
 refine jE (jN (pl:=[(0,1)]) Tryz.underlying269 Tryz.zeroValue269 (fun w=>by kernel_rfl) rfl rfl) ?_
 refine jF (jO rfl) S ?_
 intro b_pb w2_ g2_ S
 refine z ?_; refine z ?_
 refine jC rfl (xH p gw gh _ w2_ (hgt.gr S.out)) ?_
 rintro _ w3_ ⟨rfl,g3_⟩
 have S:=S.gr g3_
 iterate 7 refine z ?_
 refine jC rfl (lQ hw hh) ?_
 rintro _ w4_ ⟨rfl,g4_⟩
 have S:=S.gr g4_
 iterate 7 refine z ?_
 refine zc ?_
 refine jS ?_
 refine zc ?_
 have S:=(S.pushNil 354 3).swap
 have S:=(S.pfam0 (el:=124) (sz:=2) (fun _=>none) (lvN gw gh) (fun _=>0) (fun k=>rgF (lvN gw gh k) (fun _=>⟨0,0⟩)))
 refine j9 (fun m e w=>∃ (k:Nat) (lA:Option Addr) (lc:Nat) (As:Nat->Option Addr) (cs:Nat->Nat),k+m=nLv gw gh/\SL e [(0,pt p),(4,pt b_pb),(5,ii gw),(6,ii gh),(28,ii (nLv gw gh)),(29,ii k)] /\
  St No W w [.pfam 124 2 k As (lvN gw gh) cs (fun k=>rgF (lvN gw gh k) (fun _=>⟨0,0⟩)),.blk b_pb 269 [.slice lA k lc],.row 354 3 lA k lc (lvV k gw gh As cs)]) (nLv gw gh)
  ⟨0,none,0,fun _=>none,fun _=>0,by omega,⟨rfl,rfl,rfl,rfl,rfl,rfl,trivial⟩,S⟩ ?_
 clear S
 rintro m e w ⟨k,lA,lc,As,cs,hk,hsl,S⟩
 rw [hsl.fold]
 by_cases hkn:k < nLv gw gh
 ·have hsz:=jeg k hw hh
  have e1:((hfN gw k:Nat):Int) * (hfN gh k:Nat)=(lvN gw gh k:Nat):=by unfold lvN; push_cast; rfl
  have hsz':lvN gw gh k<=1024 * 1024:=hsz
  have hzs:=jgE (lvN gw gh k)
  refine zt ?_; iterate 5 refine z ?_
  refine jC rfl (jaI k hw hh hkn) ?_
  rintro _ w5_ ⟨rfl,g5_⟩
  have S:=S.gr g5_
  iterate 7 refine z ?_
  refine zc ?_
  refine qQ (C:=(fun σ wq=>CMB No W [.pfam 124 2 k As (lvN gw gh) cs (fun k=>rgF (lvN gw gh k) (fun _=>⟨0,0⟩)),.blk b_pb 269 [.slice lA k lc],.row 354 3 lA k lc (lvV k gw gh As cs)] 2 354 3 k (lvV k gw gh As cs) (fun A=>[ii (hfN gw k:Nat),ii (hfN gh k:Nat),.slice A (lvN gw gh k) (lvN gw gh k)]) 124 2 (lvN gw gh k) (rgF (lvN gw gh k) (fun _=>⟨0,0⟩)) wq σ)) [10,12,13] [0,1,2,3,4,5,6,7,8,9,10,11,12,13] [14,15,16] (by kernel_rfl) (by kernel_rfl) (S.gr (Gr.drew _)) ?_
  simp only [yT,j6,List.drop_succ_cons,List.drop_zero]
  refine jX rfl (jA rfl) ?_
  refine jX rfl (jA rfl) ?_
  refine jX rfl (jA rfl) ?_
  refine jX rfl (jD Tryz.underlying269 rfl Tryz.sizeOf267 rfl rfl) ?_
  refine qF rfl (fun τ wq hq=>jB nL rfl rfl (CMB.ok hq (j:=1) (by decide) rfl) rfl) ?_
  refine jX rfl (jA rfl) ?_
  refine jX rfl (jA rfl) ?_
  refine jX rfl (jA rfl) ?_
  refine jX rfl (jA rfl) ?_
  refine jX rfl (yI rfl (by rw [e1]; omega)) ?_
  rw [e1]
  refine jZ rfl rfl (fun wq hq=>jcT hq nJ d7 rfl rfl rfl rfl rfl (by omega) hzs) ?_
  rintro v5 w5 ⟨A5,rfl,s5,_⟩
  refine jX rfl (jN (pl:=[(0,1),(1,1),(2,1)]) jc5 Tryz.zeroValue354 (fun w=>by kernel_rfl) rfl rfl) ?_
  refine jZ rfl rfl (fun wq hq=>jbD hq nL nE Tryz.zeroValue354 rfl rfl rfl rfl rfl rfl (fun A h=>by injection h with h; rw [h])) ?_
  rintro v6 w6 ⟨A6,h6,_,A7,rfl,_⟩
  refine jZ rfl rfl (fun wq hq=>jeF hq rfl (fun h=>⟨_,rfl⟩) nL jfs rfl rfl rfl rfl (fun _=>rfl) (fun _=>rfl) (by omega)) ?_
  rintro v7 w7 ⟨A8,h8,_,A9,c9,L9,rfl,_,_⟩
  refine yV ?_
  rintro w8 ⟨A10,e10,s10,A11,c11,L11,e11,h11,S⟩
  cases e10
  cases e11
  obtain rfl:=Option.some.inj h11
  refine z ?_; refine z ?_
  refine j8 (i:=2) S rfl (Tryz.sizeOf267 _) rfl rfl rfl rfl rfl rfl ?_
  intro w9 S
  refine zr ?_; refine z ?_
  refine ze ?_
  have S:=S.pfamPush rfl rfl
  have h9:lvV k gw gh As cs ++ [ii (hfN gw k:Nat),ii (hfN gh k:Nat),.slice A5 (lvN gw gh k) (lvN gw gh k)]=lvV (k+1) gw gh (zG As k A5) (zG cs k (lvN gw gh k)):=jhs
  refine ⟨m - 1,by omega,k+1,A9,c9,zG As k A5,zG cs k (lvN gw gh k),by omega,⟨rfl,rfl,rfl,rfl,rfl,ie (by omega),trivial⟩,?_⟩
  rw [<-h9]
  exact S
 ·obtain rfl:k=nLv gw gh:=by omega
  have e1:((gw:Int) - 1)=((gw - 1:Nat):Int):=by omega
  have e2:((gh:Int) - 1)=((gh - 1:Nat):Int):=by omega
  have hrep:=fun (w:World) (g:Gr W w) (S:St No W w [.blk b_pb 269 [.slice lA (nLv gw gh) lc],.row 354 3 lA (nLv gw gh) lc (lvV (nLv gw gh) gw gh As cs),.pfam 124 2 (nLv gw gh) As (lvN gw gh) cs (fun k=>rgF (lvN gw gh k) (fun _=>⟨0,0⟩))]) =>
   nN (x0:=0) (y0:=0) (x1:=gw - 1) (y1:=gh - 1) (q:=fun _ _=>⟨0,0⟩) (by omega) (by omega) (hG.gr g) (fun k hk i hi hn=>absurd ⟨⟨by rw [Nat.zero_div]; exact Nat.zero_le _,Nat.le_of_lt_succ (Nat.mod_lt _ (bT gw k))⟩,by rw [Nat.zero_div]; exact Nat.zero_le _,Nat.le_of_lt_succ (Nat.div_lt_of_lt_mul hi)⟩ hn) S
  simp only [<-e1,<-e2] at hrep
  have S:=S.perm_ (gX _ _ _ _).symm
  refine zf ?_
  refine zc ?_
  refine jM rfl ?_
  refine zc ?_
  refine jY ?_
  repeat first | refine jP ?_ | refine jU ?_
  show CW _ _ _ _ _ _
  iterate 4 refine z ?_
  refine jC rfl (fG p gw gh hw.2 hh.2 _ w (hgt.gr S.out)) ?_
  rintro _ w7_ ⟨rfl,g7_⟩
  have S:=S.gr g7_
  refine jC rfl (hrep w7_ S.out S) ?_
  rintro _ w8_ ⟨rfl,S⟩
  refine z ?_; refine z ?_
  refine zq ?_
  exact kY rfl rfl ⟨b_pb,lA,lc,As,cs,rfl,S⟩
end
end
section
open Go.RowKit
section
variable {W : World} {A : Option Addr} {gw gh cap : Nat} {V : List Int}
end
end
section
open Go.RowKit
def CN (F:Nat->Prop) (W:World) (L:List HA) (T:Value->HA->Prop) (wq:World):List Value->Prop
 | []=>St F W wq L
 | v::_=>∃ h,T v h/\St F W wq (h::L)
theorem CN.st {F:Nat->Prop} {W:World} {L:List HA} {T:Value->HA->Prop} {wq:World}:∀ {τ:List Value},CN F W L T wq τ->St F W wq L
 | [],h=>h
 | v::_,⟨_,_,S⟩=>S.drop 1
theorem CN.gr {F:Nat->Prop} {W:World} {L:List HA} {T:Value->HA->Prop} {wq w':World} (g:Gr wq w'):∀ {τ:List Value},CN F W L T wq τ->CN F W L T w' τ
 | [],h=>St.gr h g
 | v::_,⟨x,t,S⟩=>⟨x,t,S.gr g⟩
section
variable {P : Program} {w : World} {e : Nat → Value}
theorem nB {a u u':Tmp} {t tb:TypeId} {b o n:Nat} {dd:TypeDesc} {cs l:List Value} {v2 v3:Value} {R:Value->World->Prop} (hu:P.underlying t=some dd) (hd:fL dd=true) (hz:(sizeOf t).run P w=.ok n w) (hx:e a=.pointer (some ⟨b,o,none⟩)) (hB:Blk w b tb l)
  (hl:fzl ((l.drop o).take n)=some cs) (hn:cs.length=n) (h2:fz (e u)=some v2) (h3:fz (e u')=some v3) (hR:R (.tuple #[.agg cs.toArray,v2,v3]) w):QF P #[.cell a t,.tmp u,.tmp u'] R .ret e w :=
 ⟨_,fun fn tmps hr hg=>by
  have h1 := k7 (o := default) (jT (P := P) (d := none) (ty := 0) (ps := "") (af := #[]) (e := fun _ => .pointer (some ⟨b, o, none⟩)) (x := .tmp 0) hu hd hz rfl hB hl hn)
  have g1:=hg a
  have g2:=hg u
  have g3:=hg u'
  rw [hx,Array.getD_eq_getD_getElem?] at g1
  rw [zU h2,Array.getD_eq_getD_getElem?] at g2
  rw [zU h3,Array.getD_eq_getD_getElem?] at g3
  simp [results,hr,g1,g2,g3,asAddr,h1],hR⟩
end
def jbl (gw:Nat) (z:Int × Int):Nat:=z.2.toNat * gw+z.1.toNat
def jlk (gw gh:Nat) (V:List Int) (ps:List Nat) (W:World):Value->World->Prop:=fun v w' =>
 ∃ A' c' A2 c2,v=.tuple #[.agg #[ii gw,.slice A' (gw * gh) c'],.slice A2 ps.length c2,ii 0]/\Row w' 2 1 A' (gw * gh) c' (yC V)/\xS W A'/\Row w' 3 1 A2 ps.length c2 (vC ps)/\xS W A2/\(∀ g,kZ A' g->¬ kZ A2 g)/\Gr W w'
section
variable {W : World} {A B : Option Addr} {p gw gh cap cB : Nat} {cc : Nat → Int} {bs : Nat → Nat} {Rs : Nat → Option Nat}
theorem jkY (zs:List (Int × Int)) (hz:zs.length<=16) (hG:GridAt W p gw gh cc A cap bs Rs) (hC:Rd W B (qB zs)) :
  Fn Tryz.prog 93 [pt p,.slice B zs.length cB] W (fun v w'=>(zs.all (inG gw gh)=true->jlk gw gh (yA gw gh cc) (zs.map (jbl gw)) W v w') /\
   (zs.all (inG gw gh)=false->yK (.tuple #[.agg #[ii 0,.slice none 0 0],.slice none 0 0,ii 4]) W v w')):=by
 have hw:=hG.sw
 have hh:=hG.sh
 have hn:gw * gh<=1024 * 1024:=Nat.mul_le_mul hw.2 hh.2
 have e1:((gw:Int) - 1)=((gw - 1:Nat):Int):=by omega
 have e2:((gh:Int) - 1)=((gh - 1:Nat):Int):=by omega
 have hval:∀ w,Gr W w->Fn Tryz.prog 25 [pt p,.agg #[ii 0,ii 0,ii (gw - 1),ii (gh - 1)]] w (qR (fun v=>.tuple #[v,ii 0]) 2 1 (gw * gh) (yC (yA gw gh cc)) w):=fun w g=>by
  have:=qN (W:=w) 0 0 (gw - 1) (gh - 1) (by omega) (by omega) (hG.gr g)
  rw [<-e1,<-e2,show gw - 1+1 - 0=gw by omega,show gh - 1+1 - 0=gh by omega,gK,Nat.mul_comm gh gw] at this
  exact this
 have S:=St.start W
 refine zn Tryz.func93 Tryz.results93 Tryz.ntmps93 ?_
 repeat refine jJ ?_
 refine jI ?_
 refine jF (jL Tryz.zeroValue184 rfl) S ?_
 intro b_res w2_ g2_ S
 iterate 5 refine z ?_
 refine jC rfl (xH p gw gh _ w2_ (hG.top.gr S.out)) ?_
 rintro _ w3_ ⟨rfl,g3_⟩
 have S:=S.gr g3_
 iterate 6 refine z ?_
 refine jE (jN (pl:=[(0,1),(1,1)]) jb4 Tryz.zeroValue184 (fun w=>by kernel_rfl) rfl rfl) ?_
 refine jF (jL Tryz.zeroValue184 rfl) S ?_
 intro b_l w5_ g5_ S
 refine jH (i:=0) S rfl (cJ _) rfl rfl rfl rfl rfl rfl ?_
 intro w6_ S
 iterate 4 refine z ?_
 refine zc ?_
 refine jS ?_
 refine zc ?_
 have S:=S.pushNil 3 1
 refine j9 (fun m e w=>∃ (k:Nat) (A_ps:Option Addr) (c_ps:Nat),k+m=zs.length/\SL e [(0,pt p),(4,pt b_res),(9,pt b_l),(10,.slice A_ps k c_ps),(25,.slice B zs.length cB),(26,ii zs.length),(27,ii k)] /\
  (zs.take k).all (inG gw gh)=true/\St No W w [.row 3 1 A_ps k c_ps (vC ((zs.take k).map (jbl gw))),.blk b_l 184 [ii gw,.slice none 0 0],.blk b_res 184 [ii 0,.slice none 0 0]]) zs.length
  ⟨0,_,_,by omega,⟨rfl,rfl,rfl,rfl,rfl,rfl,rfl,trivial⟩,rfl,S⟩ ?_
 clear S
 rintro m e w ⟨k,A_ps,c_ps,hk,hsl,hall,S⟩
 rw [hsl.fold]
 refine z ?_
 refine zk ?_ ?_
 ·intro hc
  have hkz:k < zs.length:=by omega
  obtain ⟨z,hzk,htk⟩:∃ z,zs[k]?=some z/\zs.take (k+1)=zs.take k ++ [z]:=⟨zs[k]'hkz,List.getElem?_eq_getElem hkz,List.take_succ_eq_append_getElem hkz⟩
  have hat:((qB zs).drop ((k:Int).toNat * 2)).take 2=[ii z.1,ii z.2]:=by rw [Int.toNat_natCast]; exact xZ hzk
  have sa_B:yH B:=hC.someA (by rw [fI]; omega)
  cases hin:inG gw gh z with
  | false =>
   have hno:¬ (0<=z.1/\z.1 < gw/\0<=z.2/\z.2 < gh):=fun h=>by rw [uM.2 h] at hin; cases hin
   refine zx ?_
   refine j3 (yY q23 rfl (qI _) rfl (hC.gr S.out) hat rfl rfl) ?_
   refine jF (jL kL rfl) S ?_
   intro b_c w8_ g8_ S
   refine jH (i:=0) S rfl (qI _) rfl rfl rfl rfl rfl rfl ?_
   intro w9_ S
   first | refine jR ?_ | (refine jG ?_; show CW _ _ _ _ _ _) | refine jG ?_
   repeat refine jJ ?_
   refine jI ?_
   refine jE (jA rfl) ?_
   refine j3 (jT q23 rfl (qI _) rfl (S.blk (i:=0) rfl) rfl rfl) ?_
   refine jC rfl (jjk (W:=w9_) z.1 z.2 hno (hG.gr S.out)) ?_
   rintro _ w10_ ⟨rfl,g10_⟩
   have S:=S.gr g10_
   iterate 5 refine jE (jA rfl) ?_
   first | refine jR ?_ | (refine jG ?_; show CW _ _ _ _ _ _) | refine jG ?_
   repeat refine jJ ?_
   refine jI ?_
   refine jE (jA rfl) ?_
   refine jE (yP (b:=true) rfl (bne_iff_ne.2 (by omega))) ?_
   first | refine jR ?_ | (refine jG ?_; show CW _ _ _ _ _ _) | refine jG ?_
   repeat refine jJ ?_
   refine yS rfl ?_
   repeat refine jJ ?_
   refine jI ?_
   refine jE (jN (pl:=[(0,1),(1,1)]) jb4 Tryz.zeroValue184 (fun w=>by kernel_rfl) rfl rfl) ?_
   refine jE (jA rfl) ?_
   refine jH (i:=3) S rfl (cJ _) rfl rfl rfl rfl rfl rfl ?_
   intro w11_ S
   iterate 2 refine jE (jA rfl) ?_
   first | refine jR ?_ | (refine jG ?_; show CW _ _ _ _ _ _) | refine jG ?_
   repeat refine jJ ?_
   refine kO ?_
   repeat first | refine uT ?_ | refine xE ?_
   refine nB jb4 rfl (cJ _) rfl (S.blk (i:=3) rfl) rfl rfl rfl rfl ⟨fun h=>?_,fun _=>⟨rfl,S.out⟩⟩
   have:=List.all_eq_true.1 h z (List.mem_of_getElem? hzk)
   rw [hin] at this; cases this
  | true =>
   have hin':=uM.1 hin
   obtain ⟨zx,zy⟩:=z
   dsimp only at hin' hat
   obtain ⟨x,rfl⟩:=Int.eq_ofNat_of_zero_le hin'.1
   obtain ⟨y,rfl⟩:=Int.eq_ofNat_of_zero_le hin'.2.2.1
   have em:(y:Int) * gw=((y * gw:Nat):Int):=by push_cast; rfl
   have ea:((y * gw:Nat):Int)+(x:Nat)=((y * gw+x:Nat):Int):=by push_cast; rfl
   have hyg:(y+1) * gw<=gh * gw:=Nat.mul_le_mul_right _ (by omega)
   rw [Nat.succ_mul,Nat.mul_comm gh] at hyg
   refine zx ?_
   refine j3 (yY q23 rfl (qI _) rfl (hC.gr S.out) hat rfl rfl) ?_
   refine jF (jL kL rfl) S ?_
   intro b_c w13_ g13_ S
   refine jH (i:=0) S rfl (qI _) rfl rfl rfl rfl rfl rfl ?_
   intro w14_ S
   refine z ?_; refine z ?_
   refine jC rfl (jjQ x y (by omega) (by omega) (hG.gr S.out)) ?_
   rintro _ w15_ ⟨rfl,g15_⟩
   have S:=S.gr g15_
   (iterate 6 refine z ?_); refine zf ?_; (iterate 5 refine z ?_); refine zr ?_
   rw [em]
   refine z ?_; refine z ?_; refine zr ?_
   rw [ea]
   refine yF f7 qz3 qv3 rfl rfl rfl rfl rfl rfl S ?_
   intro A_lit w17_ g17_ S sa_lit
   refine qA (i:=2) S rfl (fun h=>rfl) f7 xU rfl rfl rfl rfl (by simp) (by omega) (S.rd (i:=0) rfl) rfl (by omega) ?_
   intro A_ps18 c_ps18 w18_ S sa_ps
   refine z ?_; refine zr ?_; refine z ?_
   refine ze ?_
   have S:=S.sub (.cons _ (.cons _ (.cons_cons _ (.cons_cons _ (.cons_cons _ .slnil)))))
   have hid:jbl gw ((x:Int),(y:Int))=y * gw+x:=by simp [jbl]
   have e3:vC ((zs.take k).map (jbl gw)) ++ [ii ((y * gw+x:Nat):Int)]=vC ((zs.take (k+1)).map (jbl gw)):=by rw [htk,List.map_append,List.map_singleton,hid]; simp [vC]
   rw [e3] at S
   refine ⟨m - 1,by omega,k+1,_,_,by omega,⟨rfl,rfl,rfl,rfl,rfl,rfl,ie (by omega),trivial⟩,?_,S⟩
   rw [htk,List.all_append,hall]; simp [hin]
 ·intro hc
  obtain rfl:k=zs.length:=by omega
  rw [List.take_length] at hall S
  refine zc ?_
  refine jY ?_
  repeat first | refine jP ?_ | refine jU ?_
  show CW _ _ _ _ _ _
  refine z ?_; refine z ?_
  refine jC rfl (fG p gw gh hw.2 hh.2 _ w (hG.top.gr S.out)) ?_
  rintro _ w19_ ⟨rfl,g19_⟩
  have S:=S.gr g19_
  refine jC rfl (hval w19_ S.out) ?_
  rintro _ w20_ ⟨A_vs,c_vs,rfl,hR_vs,hf_vs,g20_⟩
  have S:=S.pushRow hR_vs hf_vs g20_
  iterate 4 refine z ?_
  refine j8 (i:=2) S rfl (f5 _) rfl rfl rfl rfl rfl rfl ?_
  intro w21_ S
  refine z ?_; refine z ?_
  refine jH (i:=3) S rfl (cJ _) rfl rfl rfl rfl rfl rfl ?_
  intro w22_ S
  refine z ?_; refine z ?_
  refine zq ?_
  refine nB jb4 rfl (cJ _) rfl (S.blk (i:=3) rfl) rfl rfl rfl rfl ⟨fun _=>?_,fun h=>by rw [hall] at h; cases h⟩
  have hlm:(zs.map (jbl gw)).length=zs.length:=by simp
  exact ⟨_,_,_,_,by rw [hlm],S.row (i:=0) rfl,SepL.fresh S (i:=0) rfl,by rw [hlm]; exact S.row (i:=1) rfl,SepL.fresh S (i:=1) rfl,fun g hg=>S.sep.2.1 g hg _ List.mem_cons_self,S.out⟩
end
end
section
open Go.RowKit
def jhR:Nat->List HA->Option (List HA)
 | 0,L=>some L
 | _+1,[]=>none
 | n+1,_::r=>jhR n r
def jd6 (L:List HA):List Nat->List HA->Option (List HA)
 | [],t=>some t
 | i::is,t=>match qP L i,jd6 L is t with
  | some h,some r=>some (h::r)
  | _,_=>none
theorem jcI:∀ {n:Nat} {L t:List HA},jhR n L=some t->n<=L.length/\t=L.drop n
 | 0,L,t,h=>⟨Nat.zero_le _,by cases h; rfl⟩
 | n+1,[],t,h=>by cases h
 | n+1,a::r,t,h=>by
  have:=jcI (L:=r) (n:=n) h
  exact ⟨by simp; omega,this.2⟩
theorem jeo:∀ (L:List HA) (i:Nat),qP L i=L[i]?
 | [],i=>by simp [qP]
 | a::r,0=>rfl
 | a::r,i+1=>by show qP r i=_; rw [jeo r i]; simp
theorem jcf {L:List HA}:∀ {is:List Nat} {t L':List HA},jd6 L is t=some L'->L'=is.filterMap (fun i=>L[i]?) ++ t
 | [],t,L',h=>by cases h; rfl
 | i::is,t,L',h=>by
  unfold jd6 at h
  rw [jeo] at h
  split at h
  ·rename_i a r h1 h2
   have:=jcf h2
   injection h with h
   rw [List.filterMap_cons,h1,<-h,this]
   rfl
  ·cases h
theorem jab {L:List HA}:∀ n,n<=L.length->(List.range n).filterMap (fun i=>L[i]?)=L.take n
 | 0,_=>by simp
 | n+1,h=>by
  rw [List.range_succ,List.filterMap_append,jab n (by omega),List.take_add_one]
  simp only [List.filterMap_cons,List.filterMap_nil]
  rw [List.getElem?_eq_getElem (by omega)]
  simp
theorem St.pick {F:Nat->Prop} {W w:World} {L t L':List HA} (n:Nat) (is:List Nat) (S:St F W w L) (hd:jhR n L=some t) (hp:jd6 L is t=some L') (hi:is.isPerm (List.range n)=true):St F W w L':=by
 obtain ⟨hn,rfl⟩:=jcI hd
 rw [jcf hp]
 refine S.perm_ ?_
 have:=((List.isPerm_iff.1 hi).filterMap (fun i=>L[i]?)).append_right (L.drop n)
 rw [jab n hn,List.take_append_drop] at this
 exact this.symm
section
variable {F : Nat → Prop} {W w : World} {A lA A1 Af : Option Addr} {p sn tb q lb pb gw gh cap c1 cf lc x0 y0 x1 y1 : Nat} {cc c0 : Nat → Int} {bs : Nat → Nat} {Rs : Nat → Option Nat} {As : Nat → Option Addr} {cs : Nat → Nat} {V : List Int} {tl : List HA} {stamp now : Int}
theorem jjZ (hB:vB (yA gw gh cc)) (hG:GridAt W p gw gh cc A cap bs Rs):Fn Tryz.prog 51 [pt p,ii stamp] W (fun v w'=>∃ sn tb q Ao co As cs,v=.tuple #[pt sn,ii 0] /\
  St No W w' (.blk sn 221 [ii stamp,pt tb,pt q]::jaD tb gw gh (yA gw gh cc) Ao co As cs)):=by
 have hg:=fun w (g:Gr W w)=>jf5 hB (hG.gr g)
 have hs:=fun w (g:Gr W w)=>jgu (hG.gr g)
 have S:=St.start W
 refine zn Tryz.func51 Tryz.results51 Tryz.ntmps51 ?_
 iterate 5 refine z ?_
 refine jE (jN (pl:=[(0,1),(1,1),(2,1)]) Tryz.underlying221 Tryz.zeroValue221 (fun w=>by kernel_rfl) rfl rfl) ?_
 refine jF (jO rfl) S ?_
 intro b_s w2_ g2_ S
 iterate 3 refine z ?_
 refine jC rfl (hg w2_ S.out) ?_
 rintro _ w3_ ⟨tb,Ao,co,Fs,fcs,rfl,S2⟩
 have S:=(S.app S2).perm_ List.perm_append_comm
 iterate 5 refine z ?_
 refine j8 (i:=0) S rfl (Tryz.sizeOf218 _) rfl rfl rfl rfl rfl rfl ?_
 intro w4_ S
 refine z ?_; refine z ?_
 refine jC rfl (hs w4_ S.out) ?_
 rintro _ w5_ ⟨q,Ao2,co2,Fs2,fcs2,rfl,S2⟩
 have S:=S.gr S2.out
 iterate 5 refine z ?_
 refine j8 (i:=0) S rfl (Tryz.sizeOf219 _) rfl rfl rfl rfl rfl rfl ?_
 intro w6_ S
 iterate 3 refine z ?_
 refine zq ?_
 exact kY rfl rfl ⟨_,_,_,_,_,_,_,rfl,S⟩
theorem jhJ (hB:vB (yA gw gh cc)) (hG:GridAt W p gw gh cc A cap bs Rs):Fn Tryz.prog 375 [pt p] W (fun v w'=>∃ lb tb A1 c1 pb lA lc As cs,v=.tuple #[pt lb,ii 0] /\
  St No W w' [.blk lb 138 [pt p,pt tb,pt pb],.blk tb 250 [ii gw,ii gh,.slice A1 ((gh+1) * (gw+1)) c1],
   .row 2 1 A1 ((gh+1) * (gw+1)) c1 (yN ((gh+1) * (gw+1)) (s7 gw (yA gw gh cc))),
   .blk pb 269 [.slice lA (nLv gw gh) lc],.row 354 3 lA (nLv gw gh) lc (lvV (nLv gw gh) gw gh As cs),.pfam 124 2 (nLv gw gh) As (lvN gw gh) cs (lvX gw gh (yA gw gh cc))]):=by
 have hf:=fun w (g:Gr W w)=>jdD hB (hG.gr g)
 have hp:=fun w (g:Gr W w)=>je5 (hG.gr g)
 have S:=St.start W
 refine zn Tryz.func375 Tryz.results375 Tryz.ntmps375 ?_
 iterate 5 refine z ?_
 refine jE (jN (pl:=[(0,1),(1,1),(2,1)]) Tryz.underlying138 Tryz.zeroValue138 (fun w=>by kernel_rfl) rfl rfl) ?_
 refine jF (jO rfl) S ?_
 intro b_s w2_ g2_ S
 iterate 3 refine z ?_
 refine jC rfl (hf w2_ S.out) ?_
 rintro _ w3_ ⟨tb,A1,c1,rfl,S2⟩
 have S:=(S.app S2).perm_ List.perm_append_comm
 iterate 5 refine z ?_
 refine j8 (i:=0) S rfl (Tryz.sizeOf136 _) rfl rfl rfl rfl rfl rfl ?_
 intro w4_ S
 refine z ?_; refine z ?_
 refine jC rfl (hp w4_ S.out) ?_
 rintro _ w5_ ⟨pb,lA,lc,Ls,lcs,rfl,S2⟩
 have S:=(S.app S2).perm_ List.perm_append_comm
 iterate 5 refine z ?_
 refine j8 (i:=0) S rfl (Tryz.sizeOf82 _) rfl rfl rfl rfl rfl rfl ?_
 intro w6_ S
 iterate 3 refine z ?_
 refine zq ?_
 exact kY rfl rfl ⟨_,_,_,_,_,_,_,_,_,rfl,S⟩
theorem sW {x y:Value} (hL:Blk W lb 138 [x,y,pt pb]):Fn Tryz.prog 27 [pt lb] W (yK (pt pb) W):=by
 have S:=St.start W
 refine zn Tryz.func27 Tryz.results27 Tryz.ntmps27 ?_
 iterate 6 refine z ?_
 refine j3 (jB Tryz.underlying82 rfl rfl (hL.gr S.out) rfl) ?_
 refine z ?_
 refine zq ?_
 exact yD rfl ⟨rfl,S.out⟩
theorem jiz {z:Value} (x0 y0 x1 y1:Nat) (hB:vB V) (hw:1<=gw/\gw<=1024) (hh:1<=gh/\gh<=1024) (hx:x0<=x1/\x1 < gw) (hy:y0<=y1/\y1 < gh) (hS:Blk W sn 221 [ii stamp,pt tb,z]) (hA:AreaAt W tb gw gh V) :
  Fn Tryz.prog 57 [pt sn,.agg #[ii x0,ii y0,ii x1,ii y1]] W (yK (.tuple #[ii (fO V gw x0 y0 x1 y1),ii 0]) W):=by
 have hs:=fun w (g:Gr W w)=>jkR (W:=w) x0 y0 x1 y1 hB hw hh hx hy (hA.gr g)
 have S:=St.start W
 refine zn Tryz.func57 Tryz.results57 Tryz.ntmps57 ?_
 refine zs ?_
 refine jF (jO rfl) S ?_
 intro b_r w2_ g2_ S
 iterate 2 refine jE (jA rfl) ?_
 first | refine jR ?_ | (refine jG ?_; show CW _ _ _ _ _ _) | refine jG ?_
 repeat refine jJ ?_
 refine jI ?_
 refine jE (jA rfl) ?_
 refine jE (gY q57 rfl rfl) ?_
 first | refine jR ?_ | (refine jG ?_; show CW _ _ _ _ _ _) | refine jG ?_
 repeat refine jJ ?_
 refine jM rfl ?_
 repeat refine jJ ?_
 refine j5 ?_
 try show CW _ _ _ _ _ _
 repeat refine jJ ?_
 refine yB (C:=fun wq=>Gr w2_ wq) [0,1,2,3,4,5,6,7,8,9] [] (by kernel_rfl) (by kernel_rfl) (Gr.drew _) ?_
 simp only [j6,List.drop_succ_cons,List.drop_zero]
 iterate 3 refine y ?_
 refine jV (fun wq hq=>jB Tryz.underlying218 rfl rfl (hS.gr (S.gr hq).out) rfl) ?_
 refine jV (fun wq hq=>jT q27 rfl (y6 _) rfl ((S.gr hq).blk (i:=0) rfl) rfl rfl) ?_
 refine y8 rfl (fun wq hq=>(hs wq (S.gr hq).out).mono (fun _ _ ⟨hv,hg⟩=>⟨hv,hq.trans hg⟩)) ?_
 iterate 4 refine y ?_
 refine yJ ?_
 intro w3_ g3_
 have S:=S.gr g3_
 refine zq ?_
 exact kY rfl rfl ⟨rfl,S.out⟩
def NotNow (w:World) (now:Int) (v:Option Addr):Prop:=v=none\/∃ sn st y z,v=some ⟨sn,0,none⟩/\st ≠ now/\Blk w sn 221 [ii st,y,z]
theorem NotNow.gr {w w':World} {v:Option Addr} (h:NotNow w now v) (g:Gr w w'):NotNow w' now v:=h.imp id fun ⟨sn,st,y,z,h1,h2,h3⟩=>⟨sn,st,y,z,h1,h2,h3.gr g⟩
theorem jjn {v:Option Addr} (h:NotNow W now v):Fn Tryz.prog 131 [.pointer v,ii now] W (yK (.bool false) W):=by
 rcases h with rfl | ⟨sn,st,y,z,rfl,hne,hS⟩
 ·skip
  have S:=St.start W
  refine zn Tryz.func131 Tryz.results131 Tryz.ntmps131 ?_
  refine z ?_; refine z ?_
  refine jE (nY q57 rfl rfl) ?_
  refine z ?_
  refine jK rfl ?_
  refine jK rfl ?_
  refine jK rfl ?_
  refine jK rfl ?_
  refine jK rfl ?_
  refine jK rfl ?_
  refine z ?_; refine z ?_
  refine zq ?_
  exact yD rfl ⟨rfl,S.out⟩
 ·skip
  have S:=St.start W
  refine zn Tryz.func131 Tryz.results131 Tryz.ntmps131 ?_
  repeat refine jJ ?_
  refine jI ?_
  refine jE (jA rfl) ?_
  first | refine jR ?_ | (refine jG ?_; show CW _ _ _ _ _ _) | refine jG ?_
  repeat refine jJ ?_
  refine jI ?_
  refine jE (jA rfl) ?_
  refine jE (nY q57 rfl rfl) ?_
  refine jE (jA rfl) ?_
  first | refine jK rfl ?_ | (refine jQ rfl ?_; refine jE (jA rfl) ?_)
  first | refine jK rfl ?_ | (refine jQ rfl ?_; refine jE (jA rfl) ?_)
  first | refine jK rfl ?_ | (refine jQ rfl ?_; refine jE (jD Tryz.underlying221 rfl qz2 rfl rfl) ?_)
  first | refine jK rfl ?_ | (refine jQ rfl ?_; refine j3 (jB q2 rfl rfl (hS.gr S.out) rfl) ?_)
  first | refine jK rfl ?_ | (refine jQ rfl ?_; refine jE (jA rfl) ?_)
  refine zw4 ⟨?_⟩
  iterate 2 refine jE (jA rfl) ?_
  first | refine jR ?_ | (refine jG ?_; show CW _ _ _ _ _ _) | refine jG ?_
  repeat refine jJ ?_
  refine kO ?_
  repeat first | refine uT ?_ | refine xE ?_
  exact yD rfl ⟨rfl,S.out⟩
theorem jku {v:Option Addr} (h:NotNow W now v):Fn Tryz.prog 67 [pt lb,.pointer v,ii now] W (yK (.bool false) W):=by
 have hf:=fun w (g:Gr W w)=>jjn (h.gr g)
 have S:=St.start W
 refine zn Tryz.func67 Tryz.results67 Tryz.ntmps67 ?_
 iterate 3 refine z ?_
 refine jC rfl (hf W S.out) ?_
 rintro _ w1_ ⟨rfl,g1_⟩
 have S:=S.gr g1_
 refine z ?_; refine z ?_
 refine zq ?_
 exact yD rfl ⟨rfl,S.out⟩
theorem jkt {v:Option Addr} {y z:Value} (x0 y0 x1 y1:Nat) (hB:vB V) (hw:1<=gw/\gw<=1024) (hh:1<=gh/\gh<=1024) (hx:x0<=x1/\x1 < gw) (hy:y0<=y1/\y1 < gh) (h:NotNow W now v)
  (hL:Blk W lb 138 [y,pt tb,z]) (hF:FenAt W tb gw gh (s7 gw V)) :
  Fn Tryz.prog 29 [pt lb,.pointer v,ii now,.agg #[ii x0,ii y0,ii x1,ii y1]] W (yK (.tuple #[ii (fO V gw x0 y0 x1 y1),.bool false,ii 0]) W):=by
 have ho:=fun w (g:Gr W w)=>jku (lb:=lb) (h.gr g)
 have hs:=fun w (g:Gr W w)=>jkE (W:=w) x0 y0 x1 y1 hB hw hh hx hy (hF.gr g)
 have S:=St.start W
 refine zn Tryz.func29 Tryz.results29 Tryz.ntmps29 ?_
 refine zs ?_
 refine jF (jO rfl) S ?_
 intro b_r w2_ g2_ S
 iterate 3 refine jE (jA rfl) ?_
 first | refine jR ?_ | (refine jG ?_; show CW _ _ _ _ _ _) | refine jG ?_
 repeat refine jJ ?_
 refine jI ?_
 refine jE (jA rfl) ?_
 refine jE (gY Tryz.underlying56 rfl rfl) ?_
 first | refine jR ?_ | (refine jG ?_; show CW _ _ _ _ _ _) | refine jG ?_
 repeat refine jJ ?_
 refine jM rfl ?_
 repeat refine jJ ?_
 refine j5 ?_
 try show CW _ _ _ _ _ _
 repeat refine jJ ?_
 refine jI ?_
 iterate 3 refine jE (jA rfl) ?_
 refine jC rfl (ho w2_ S.out) ?_
 rintro _ w3_ ⟨rfl,g3_⟩
 have S:=S.gr g3_
 refine jE (jA rfl) ?_
 first | refine jR ?_ | (refine jG ?_; show CW _ _ _ _ _ _) | refine jG ?_
 repeat refine jJ ?_
 refine yB (C:=fun wq=>Gr w3_ wq) [0,1,2,3,4,5,6,7,8,9,10] [] (by kernel_rfl) (by kernel_rfl) (Gr.drew _) ?_
 simp only [j6,List.drop_succ_cons,List.drop_zero]
 iterate 2 refine jW (jA rfl) ?_
 refine jW (jD Tryz.underlying138 rfl Tryz.sizeOf136 rfl rfl) ?_
 refine jV (fun wq hq=>jB Tryz.underlying136 rfl rfl (hL.gr (S.gr hq).out) rfl) ?_
 refine jV (fun wq hq=>jT q27 rfl (y6 _) rfl ((S.gr hq).blk (i:=0) rfl) rfl rfl) ?_
 refine y8 rfl (fun wq hq=>(hs wq (S.gr hq).out).mono (fun _ _ ⟨hv,hg⟩=>⟨hv,hq.trans hg⟩)) ?_
 iterate 5 refine jW (jA rfl) ?_
 refine yJ ?_
 intro w4_ g4_
 have S:=S.gr g4_
 first | refine jR ?_ | (refine jG ?_; show CW _ _ _ _ _ _) | refine jG ?_
 repeat refine jJ ?_
 refine jI ?_
 refine jE (jA rfl) ?_
 first | refine jR ?_ | (refine jG ?_; show CW _ _ _ _ _ _) | refine jG ?_
 repeat refine jJ ?_
 refine jM rfl ?_
 repeat refine jJ ?_
 refine j5 ?_
 try show CW _ _ _ _ _ _
 repeat refine jJ ?_
 refine jI ?_
 iterate 3 refine jE (jA rfl) ?_
 first | refine jK rfl ?_ | (refine jQ rfl ?_; refine jE (jA rfl) ?_)
 refine zw4 ⟨?_⟩
 iterate 5 refine jE (jA rfl) ?_
 first | refine jR ?_ | (refine jG ?_; show CW _ _ _ _ _ _) | refine jG ?_
 repeat refine jJ ?_
 refine kO ?_
 repeat first | refine uT ?_ | refine xE ?_
 exact jeZ rfl rfl rfl ⟨rfl,S.out⟩
theorem jkk {gw gh:Nat} {V V':List Int} (hw:1<=gw) (hh:1<=gh) {x0 y0 x1 y1:Nat} (hV:∀ x y,x < gw->y < gh->¬ ((x0<=x/\x<=x1)/\y0<=y/\y<=y1)->V.getD (y * gw+x) 0=V'.getD (y * gw+x) 0)
  (k:Nat) (i:Nat) (hi:i < hfN gw k * hfN gh k) (hn:¬ ((x0 / 2 ^ k<=i % hfN gw k/\i % hfN gw k<=x1 / 2 ^ k)/\y0 / 2 ^ k<=i / hfN gw k/\i / hfN gw k<=y1 / 2 ^ k)):pmF gw gh V k i=pmF gw gh V' k i:=by
 have hp:0 < hfN gw k:=Nat.pos_of_ne_zero fun e=>by rw [e,Nat.zero_mul] at hi; omega
 refine jd5 k _ _ (Nat.mod_lt _ hp) (Nat.div_lt_of_lt_mul hi) (fun cx cy h1 h2 h3 h4=>hV cx cy h1 h2 fun ⟨⟨a,b⟩,c,d⟩=>hn ?_) hw hh
 rw [<-h3,<-h4]
 exact ⟨⟨Nat.div_le_div_right a,Nat.div_le_div_right b⟩,Nat.div_le_div_right c,Nat.div_le_div_right d⟩
theorem jfU (hB:vB (yA gw gh cc)) (hx:x0<=x1/\x1 < gw) (hy:y0<=y1/\y1 < gh) (hbig:gw * gh < 8 * ((y1+1 - y0) * (x1+1 - x0)))
  (hV:∀ x y,x < gw->y < gh->¬ ((x0<=x/\x<=x1)/\y0<=y/\y<=y1)->V.getD (y * gw+x) 0=(yA gw gh cc).getD (y * gw+x) 0)
  (S:St F W w (.grid p gw gh cc A cap bs Rs::.blk lb 138 [pt p,pt tb,pt pb] ::
   .blk pb 269 [.slice lA (nLv gw gh) lc]::.row 354 3 lA (nLv gw gh) lc (lvV (nLv gw gh) gw gh As cs)::.pfam 124 2 (nLv gw gh) As (lvN gw gh) cs (lvX gw gh V)::tl)) :
  Fn Tryz.prog 357 [pt lb,.agg #[ii x0,ii y0,ii x1,ii y1]] w (fun v w'=>∃ tb A1 c1,v=ii 0 /\
   St F W w' (.blk tb 250 [ii gw,ii gh,.slice A1 ((gh+1) * (gw+1)) c1]::.row 2 1 A1 ((gh+1) * (gw+1)) c1 (yN ((gh+1) * (gw+1)) (s7 gw (yA gw gh cc))) ::
   .grid p gw gh cc A cap bs Rs::.blk lb 138 [pt p,pt tb,pt pb] ::
   .blk pb 269 [.slice lA (nLv gw gh) lc]::.row 354 3 lA (nLv gw gh) lc (lvV (nLv gw gh) gw gh As cs)::.pfam 124 2 (nLv gw gh) As (lvN gw gh) cs (lvX gw gh (yA gw gh cc))::tl)):=by
 have hG:=S.grid (i:=0) rfl
 have hw:=hG.sw
 have hh:=hG.sh
 have hva:=fun w' (g:Gr w w')=>qN (W:=w') x0 y0 x1 y1 hx hy (hG.gr g)
 have hvl:=z6 gw cc x0 y0 (x1+1 - x0) (y1+1 - y0)
 have hf:=fun w' (g:Gr w w')=>jdD hB (hG.gr g)
 have hb2:((gw * gh:Nat):Int) < 8 * (((y1+1 - y0) * (x1+1 - x0):Nat):Int):=by omega
 rw [Int.natCast_mul gw gh] at hb2
 have hm:gw * gh<=1024 * 1024:=Nat.mul_le_mul hw.2 hh.2
 have har:(y1+1 - y0) * (x1+1 - x0)<=1024 * 1024:=Nat.mul_le_mul (by omega) (by omega)
 have hgt:=hG.top
 have hq:∀ k,k < nLv gw gh->∀ i,i < hfN gw k * hfN gh k->¬ ((x0 / 2 ^ k<=i % hfN gw k/\i % hfN gw k<=x1 / 2 ^ k)/\y0 / 2 ^ k<=i / hfN gw k/\i / hfN gw k<=y1 / 2 ^ k)->pmF gw gh V k i=pmF gw gh (yA gw gh cc) k i :=
  fun k _ i hi hn=>jkk hw.1 hh.1 hV k i hi hn
 clear hva hf hG hgt
 refine zn Tryz.func357 Tryz.results357 Tryz.ntmps357 ?_
 refine zs ?_
 refine jF (jO rfl) S ?_
 intro b_r w2_ g2_ S
 iterate 3 refine z ?_
 refine zc ?_
 refine jM rfl ?_
 refine zc ?_
 refine j5 ?_
 try show CW _ _ _ _ _ _
 refine zc ?_
 refine qQ (C:=(fun σ wq=>Gr w2_ wq/\CN F W _ (fun v h=>∃ A c,v=.tuple #[.slice A ((y1+1 - y0) * (x1+1 - x0)) c,ii 0]/\h=.row 2 1 A ((y1+1 - y0) * (x1+1 - x0)) c (yC (y9 gw cc x0 y0 (x1+1 - x0) (y1+1 - y0)))) wq σ)) [5] [0,1,2,3,4,5,6,7,8,9,10] [] (by kernel_rfl) (by kernel_rfl) ⟨Gr.drew _,S.gr (Gr.drew _)⟩ ?_
 simp only [yT,j6,List.drop_succ_cons,List.drop_zero]
 refine jX rfl (jA rfl) ?_
 refine jX rfl (jA rfl) ?_
 refine jX rfl (jD Tryz.underlying138 rfl Tryz.sizeOf55 rfl rfl) ?_
 refine qF rfl (fun τ wq hq=>jB q55 rfl rfl ((S.gr hq.1).blk (i:=2) rfl) rfl) ?_
 refine qF rfl (fun τ wq hq=>jT q27 rfl (y6 _) rfl ((S.gr hq.1).blk (i:=0) rfl) rfl rfl) ?_
 refine jZ rfl rfl (fun wq hq=>uW rfl ((qN x0 y0 x1 y1 hx hy (St.grid (CN.st hq.2) (i:=1) rfl)).mono (fun v w' ⟨A,c,hv,hR,hf,g⟩=>⟨hq.1.trans g,_,⟨A,c,hv,rfl⟩,St.pushRow (CN.st hq.2) hR hf g⟩))) ?_
 rintro v3 w3 ⟨g3,h3,⟨A_vs,c_vs,rfl,rfl⟩,_⟩
 refine jX rfl (jA rfl) ?_
 refine jX rfl (jA rfl) ?_
 refine jX rfl (jA rfl) ?_
 refine jX rfl (jA rfl) ?_
 refine jX rfl (jA rfl) ?_
 refine yV ?_
 rintro w4 ⟨g4,h4,⟨A4,c4,e4,rfl⟩,S⟩
 refine z ?_; refine zf ?_; iterate 4 refine z ?_
 refine jC rfl (xH p gw gh _ w4 (S.grid (i:=2) rfl).top) ?_
 rintro _ w4_ ⟨rfl,g4_⟩
 have S:=S.gr g4_
 (iterate 7 refine z ?_); refine zr ?_; refine z ?_; refine z ?_; refine zr ?_; refine zt ?_; iterate 5 refine z ?_
 refine jC rfl (jdD hB (S.grid (i:=2) rfl)) ?_
 rintro _ w5_ ⟨tb2,A2,c2,rfl,S2⟩
 have S:=S.app S2
 iterate 5 refine z ?_
 refine j8 (i:=5) S rfl (Tryz.sizeOf136 _) rfl rfl rfl rfl rfl rfl ?_
 intro w6_ S
 refine zc ?_
 refine yB (C:=fun wq=>Gr w6_ wq) [0,1,2,3,4,5,6,7,8] [9,10] (by kernel_rfl) (by kernel_rfl) (Gr.drew _) ?_
 simp only [j6,List.drop_succ_cons,List.drop_zero]
 iterate 3 refine y ?_
 refine jV (fun wq hq=>jB Tryz.underlying82 rfl rfl ((S.gr hq).blk (i:=5) rfl) rfl) ?_
 iterate 3 refine y ?_
 refine jV (fun wq hq=>jB q55 rfl rfl ((S.gr hq).blk (i:=5) rfl) rfl) ?_
 refine jV (fun wq hq=>jT q27 rfl (y6 _) rfl ((S.gr hq).blk (i:=3) rfl) rfl rfl) ?_
 refine yJ ?_
 intro w7_ g7_
 have S:=S.gr g7_
 refine jC rfl (nN hx hy (S.grid (i:=4) rfl) hq (S.pick 9 [6,7,8,0,1,2,3,4,5] rfl rfl rfl)) ?_
 rintro _ w8_ ⟨rfl,S⟩
 refine z ?_
 refine zq ?_
 have S:=S.pick 9 [3,4,5,6,7,8,0,1,2] rfl rfl rfl
 exact yD rfl ⟨_,_,_,rfl,S.sub (.cons_cons _ (.cons_cons _ (.cons _ (.cons _ (List.Sublist.refl _)))))⟩
end
end
section
open Go.RowKit
def HA.wd (b o:Nat) (ws:List ByteArray):HA:=⟨fun g=>g=b,fun w=>b < w.heap.size/\∀ (j:Nat) s,ws[j]?=some s->w.cell? ⟨b,o+j,none⟩=some (.string s),fun w w' h hs ⟨h1,h2⟩=>⟨Nat.lt_of_lt_of_le h1 hs,fun j s hj=>(World.cell?_of_block (w:=w) (h b rfl)).trans (h2 j s hj)⟩,fun _ hB g hg=>hg ▸ hB.1⟩
section
variable {F : Nat → Prop} {W w : World} {T : List HA}
theorem jdq {P:Program} {e:Nat->Value} {d:Option Tmp} {ty:TypeId} {ps:String} {af:Array Edge} {t el:TypeId} {x lo:Operand} {b o len cap k:Nat} {kl:IntKind} (hu:P.underlying t=some (.slice el)) (hz:∀ w,(sizeOf el).run P w=.ok k w) (hx:ev e x=.slice (some ⟨b,o,none⟩) (len+1) cap) (hl:ev e lo=.int kl 1) :
  OpV P e ⟨d,.slice t x (some lo) none none,ty,ps,af,none⟩ (.slice (some ⟨b,if cap=1 then o else o+k,none⟩) len (cap - 1)):=by
 intro w
 have h1:(1:Int)<=((len+1:Nat):Int):=by omega
 have h2:=run_sliceBound (P:=P) (w:=w) (k:=kl) (i:=1) (y:=len+1) (code:=.sliceB) (by decide) h1
 by_cases hc:cap=1
 ·subst hc
  simp [OpR,execOp,hx,hl,Instr.sliceAt,Instr.slice,run_underlying hu,Instr.sliceBounds,h2,hz,kF]
 ·simp [OpR,execOp,hx,hl,Instr.sliceAt,Instr.slice,run_underlying hu,Instr.sliceBounds,h2,hz,hc,kF]
theorem jbf {lb b o c:Nat} {s x:ByteArray} {ws:List ByteArray} (hc:ws.length+1<=c) (S:St F W w (.blk lb 337 [.slice (some ⟨b,o,none⟩) (ws.length+1) c,.bool true]::.wd b o (s::ws)::T)) :
  Fn Tryz.prog (202) [pt lb,.string x] w (fun v w'=>∃ o' c',v=.string s/\ws.length<=c'/\St F W w' (.blk lb 337 [.slice (some ⟨b,o',none⟩) ws.length c',.bool true]::.wd b o' ws::T)):=by
 refine zn Tryz.func202 Tryz.results202 Tryz.ntmps202 ?_
 (iterate 11 refine z ?_); refine zf ?_; iterate 4 refine z ?_
 refine jE (zQ q39 qz9 rfl rfl (by decide) (by omega)) ?_
 refine j3 (dW q9 rfl rfl ((S.ok (i:=1) rfl).2 0 s rfl)) ?_
 iterate 6 refine z ?_
 refine jE (jdq q39 qz9 rfl rfl) ?_
 refine z ?_; refine z ?_
 refine j8 (i:=0) S rfl (Tryz.sizeOf39 _) rfl rfl rfl rfl rfl rfl ?_
 intro w1_ S
 refine z ?_; refine z ?_
 refine zq ?_
 have S:=S.as_ (i:=1) (h':=.wd b (if c=1 then o else o+1) ws) rfl rfl (fun ⟨h1,h2⟩=>⟨h1,fun j s hj=>?_⟩) (fun _ h=>h)
 ·exact yD rfl ⟨_,_,rfl,by omega,S⟩
 ·have:=h2 (j+1) s hj
  rw [show o+(j+1)=o+1+j by omega] at this
  have hlt:j < ws.length:=(List.getElem?_eq_some_iff.1 hj).1
  rw [if_neg (by omega)]
  exact this
def jaO:List Value->List Nat->List Nat->List Value
 | l,p::ps,v::vs=>jaO (l.set p (ii v)) ps vs
 | l,_,_=>l
def smallAt (l:List Value) (p:Nat):Prop:=∃ (s:ByteArray) (u:Nat),Dg s u/\l[p]?=some (ii u)
theorem smallAt.set {l:List Value} {p q v:Nat} {s:ByteArray} (h:smallAt l p) (hd:Dg s v):smallAt (l.set q (ii v)) p:=by
 obtain ⟨s0,u,h1,h2⟩:=h
 by_cases e:q=p
 ·subst e
  exact ⟨s,v,hd,by rw [List.getElem?_set_self (List.getElem?_eq_some_iff.1 h2).1]⟩
 ·exact ⟨s0,u,h1,by rw [List.getElem?_set_ne e]; exact h2⟩
def jcv (ob:Nat) (l:List Nat):List Value:=l.map fun p=>.pointer (some ⟨ob,p,none⟩)
theorem jam {lb b o c ob t n:Nat} {ol:List Value} {A_p:Option Addr} {zs:List (ByteArray × Nat)} {ws:List ByteArray} {qs:List Nat} (sa_p:yH A_p) (hmx:n<=100) (hn:qs.length=n) (hz:zs.length=n) (hc:(zs.map Prod.fst ++ ws).length<=c) (hd:∀ z ∈ zs,Dg z.1 z.2) (hq:∀ q ∈ qs,smallAt ol q)
  (S:St F W w (.row 339 1 A_p n n (jcv ob qs)::.blk lb 337 [.slice (some ⟨b,o,none⟩) (zs.map Prod.fst ++ ws).length c,.bool true]::.wd b o (zs.map Prod.fst ++ ws)::.blk ob t ol::T)) :
  Fn Tryz.prog (200) [pt lb,.slice A_p n n] w (fun v w'=>∃ o' c',v=.tuple #[]/\ws.length<=c'/\St F W w' (.blk lb 337 [.slice (some ⟨b,o',none⟩) ws.length c',.bool true]::.wd b o' ws::.blk ob t (jaO ol qs (zs.map Prod.snd))::T)):=by
 have hget:∀ (k q:Nat),qs[k]?=some q->(jcv ob qs)[k]?=some (Value.pointer (some ⟨ob,q,none⟩)):=fun k q hk=>by simp [jcv,List.getElem?_map,hk]
 generalize hR:jaO ol qs (zs.map Prod.snd)=R
 generalize hQ:jcv ob qs=PS at *
 refine zn Tryz.func200 Tryz.results200 Tryz.ntmps200 ?_
 iterate 3 refine z ?_
 refine zc ?_
 refine jS ?_
 refine zc ?_
 refine j9 (fun m e w'=>∃ (k o' c':Nat) (zr:List (ByteArray × Nat)) (ol':List Value),k+m=n/\zr.length=m/\(zr.map Prod.fst ++ ws).length<=c'/\(∀ z ∈ zr,Dg z.1 z.2)/\(∀ q ∈ qs,smallAt ol' q)/\jaO ol' (qs.drop k) (zr.map Prod.snd)=R /\
   SL e [(0,pt lb),(6,.slice A_p n n),(7,ii n),(8,ii k)]/\St F W w' (.row 339 1 A_p n n PS::.blk lb 337 [.slice (some ⟨b,o',none⟩) (zr.map Prod.fst ++ ws).length c',.bool true]::.wd b o' (zr.map Prod.fst ++ ws)::.blk ob t ol'::T)) n
  ⟨0,o,c,zs,ol,by omega,hz,hc,hd,hq,hR,⟨rfl,rfl,rfl,rfl,trivial⟩,S⟩ ?_
 clear S hc hd hz hq hR
 rintro m e w2 ⟨k,o',c',zr,ol',hk,hz,hc,hd,hq,hR,hsl,S⟩
 rw [hsl.fold]
 by_cases hlt:k < n
 ·cases zr with
  | nil=>simp at hz; omega
  | cons z zr =>
   obtain ⟨s,v⟩:=z
   have hdz:Dg s v:=hd (s,v) (by simp)
   obtain ⟨q,hqe⟩:∃ q,qs[k]?=some q:=⟨_,List.getElem?_eq_getElem (by omega)⟩
   obtain ⟨hkl,hqv⟩:=List.getElem?_eq_some_iff.1 hqe
   have hqk:=hq q (hqv ▸ List.getElem_mem hkl)
   have hpk:=hget k q hqe
   have hdr:qs.drop k=q::qs.drop (k+1):=by rw [<-hqv]; exact List.drop_eq_getElem_cons hkl
   rw [hdr] at hR
   obtain ⟨s0,u,hu,hol⟩:=hqk
   simp only [List.length_cons] at hz
   refine zt ?_; refine zx ?_
   refine j3 (j7 Tryz.underlying339 rfl rfl (S.rd (i:=0) rfl) (v:=.pointer (some ⟨ob,q,none⟩)) (by simpa using hpk)) ?_
   iterate 5 refine z ?_
   refine j3 (jB q2 rfl rfl (S.blk (i:=3) rfl) hol) ?_
   refine jC rfl (jcm hu) ?_
   rintro _ w1_ ⟨rfl,g1_⟩
   have S:=S.gr g1_
   refine jC rfl (jbf (T:=.blk ob t ol'::.row 339 1 A_p n n PS::T) (ws:=zr.map Prod.fst ++ ws) hc (S.pick 4 [1,2,3,0] rfl rfl rfl)) ?_
   rintro _ w2_ ⟨o2,c2,rfl,hc2,S⟩
   have S:=S.pick 4 [3,0,1,2] rfl rfl rfl
   refine jC rfl (sH hdz) ?_
   rintro _ w3_ ⟨rfl,g3_⟩
   have S:=S.gr g3_
   refine z ?_
   refine j8 (i:=3) S rfl (qz2 _) rfl rfl rfl rfl hol rfl ?_
   intro w9 S
   first | refine jR ?_ | (refine jG ?_; show CW _ _ _ _ _ _) | refine jG ?_
   repeat refine jJ ?_
   refine jI ?_
   refine jE (yI rfl (by omega)) ?_
   refine jE (jA rfl) ?_
   first | refine jR ?_ | (refine jG ?_; show CW _ _ _ _ _ _) | refine jG ?_
   exact ⟨m - 1,by omega,k+1,o2,c2,zr,ol'.set q (ii v),by omega,by omega,hc2,fun z hz=>hd z (List.mem_cons_of_mem _ hz),fun q' hq'=>(hq q' hq').set hdz,hR,⟨rfl,rfl,rfl,rfl,trivial⟩,S⟩
 ·obtain rfl:k=n:=by omega
  obtain rfl:m=0:=by omega
  obtain rfl:=List.eq_nil_of_length_eq_zero hz
  refine zf ?_
  refine zc ?_
  refine jM rfl ?_
  refine zc ?_
  refine jY ?_
  repeat first | refine jP ?_ | refine jU ?_
  have hR2:ol'=R:=by
   rw [<-hR]
   cases qs.drop k <;> rfl
  subst hR2
  exact zN ⟨_,_,rfl,hc,S.drop 1⟩
end
end
section
open Go.RowKit
def verbL:List ByteArray:=[⟨#[]⟩,⟨#[99,114,101,97,116,101]⟩,⟨#[115,101,116]⟩,⟨#[102,105,108,108]⟩,⟨#[112,97,115,116,101]⟩,⟨#[97,100,100]⟩,⟨#[103,101,116]⟩,⟨#[115,117,109]⟩,⟨#[109,105,110]⟩,⟨#[109,97,120]⟩,⟨#[111,118,101,114]⟩,⟨#[114,97,110,107]⟩,⟨#[115,105,103,104,116]⟩,⟨#[118,105,101,119]⟩,⟨#[114,101,103,105,111,110,115]⟩,⟨#[115,105,110,107]⟩,⟨#[114,111,117,116,101]⟩,⟨#[108,101,118,101,108]⟩,⟨#[102,114,101,101,122,101]⟩,⟨#[116,104,97,119]⟩,⟨#[111,108,100,115,117,109]⟩,⟨#[111,108,100,109,105,110]⟩,⟨#[111,108,100,109,97,120]⟩,⟨#[115,97,118,101]⟩,⟨#[108,111,97,100]⟩,⟨#[117,110,100,111]⟩,⟨#[114,101,100,111]⟩,⟨#[100,114,97,119]⟩]
structure GL (w:World):Prop where
 mx:∃ m,w.cell? ⟨3,0,none⟩=some (ii m)
 vb:∀ (i:Nat) s,verbL[i]?=some s->w.cell? ⟨0,i,none⟩=some (.string s)
theorem jes {w w':World} (g:Gr w w') {a:Addr} {v:Value} (h:w.cell? a=some v):w'.cell? a=some v:=(g.cell (World.block_lt_of_cell? _ _ h)).trans h
theorem GL.gr {w w':World} (h:GL w) (g:Gr w w'):GL w':=⟨h.mx.imp fun _ h=>jes g h,fun i s hi=>jes g (h.vb i s hi)⟩
section
variable {F : Nat → Prop} {W w : World} {T : List HA}
def CB (F:Nat->Prop) (W:World) (L:List HA) (el k n:Nat) (l:List Value) (σ:List Value) (w:World):Prop:=match σ with
 | []=>St F W w L
 | v::_=>∃ A,yH A/\v=.slice A n n/\St F W w (.row el k A n n l::L)
theorem pW {P : Program} {e : Nat → Value} {d : Option Tmp} {ty : TypeId} {ps : String} {af : Array Edge} {L : List HA} {t el : TypeId} {n k : Nat} {parts : List (Nat × Operand)} {z : Value} {l0 l : List Value} (hq : CB F W L el k n l [] w) (hu : P.underlying t = some (.slice el)) (hs : ∀ w, (sizeOf el).run P w = .ok k w) (hz : ∀ w, (zeroValue el).run P w = .ok z w) (hk : z.cells.toList.length = k) (hk0 : Nat.beq (n * k) 0 = false) (hn : Nat.ble (n * k) 16777216 = true)
    (h1 : lay (fun i => some (i * k, k)) ((List.replicate n z.cells.toList).flatten) (evp e parts) = some l0) (h2 : fzl l0 = some l) (hl : Nat.beq l.length (n * k) = true) :
    qM P e ⟨d, .buildSlice t n parts.toArray, ty, ps, af, none⟩ w (fun v w' => CB F W L el k n l [v] w') := by
  have S : St F W w L := hq
  have hnk : n * k ≠ 0 := by intro h; rw [h] at hk0; cases hk0
  have hk1 : 0 < k := by rcases Nat.eq_zero_or_pos k with h | h; · rw [h] at hnk; simp at hnk
                         · exact h
  have hle : n ≤ n * k := Nat.le_mul_of_pos_right _ hk1
  refine lD (k8 hu hs hz hk hk0 hn h1 h2) ⟨_, uB _ _, rfl, ?_⟩
  have S' : St F W (w.alloc (.cells l.toArray el)) (.blk w.heap.size el l :: L) := S.push (Gr.alloc w _) (Blk.new _ _ _) (fun g hg => by rw [hg]; exact Nat.le_refl _)
  have hrow : Row (w.alloc (.cells l.toArray el)) el k (some ⟨w.heap.size, 0, none⟩) n n l :=
    Row.of_blk (S'.blk (i := 0) rfl) (Nat.eq_of_beq_eq_true hl) (by have := Nat.le_of_ble_eq_true hn; unfold maxLen; omega)
  exact S'.set (i := 0) rfl rfl (Fr.refl No _) (fun _ h => h.elim) hrow (fun b hb => .inl (by injection hb with hb; exact hb.symm))
theorem jeh {lb b o c ob t r0:Nat} {ol:List Value} {zs:List (ByteArray × Nat)} {ws:List ByteArray} (hz:zs.length=4) (hc:(zs.map Prod.fst ++ ws).length<=c) (hd:∀ z ∈ zs,Dg z.1 z.2) (hq:∀ q ∈ [r0,r0+1,r0+2,r0+3],smallAt ol q)
  (S:St F W w (.blk lb 337 [.slice (some ⟨b,o,none⟩) (zs.map Prod.fst ++ ws).length c,.bool true]::.wd b o (zs.map Prod.fst ++ ws)::.blk ob t ol::T)) :
  Fn Tryz.prog (204) [pt lb,.pointer (some ⟨ob,r0,none⟩)] w (fun v w'=>∃ o' c',v=.tuple #[]/\ws.length<=c'/\St F W w' (.blk lb 337 [.slice (some ⟨b,o',none⟩) ws.length c',.bool true]::.wd b o' ws::.blk ob t (jaO ol [r0,r0+1,r0+2,r0+3] (zs.map Prod.snd))::T)):=by
 refine zn Tryz.func204 Tryz.results204 Tryz.ntmps204 ?_
 refine zc ?_
 refine qQ (C:=(CB F W (.blk lb 337 [.slice (some ⟨b,o,none⟩) (zs.map Prod.fst ++ ws).length c,.bool true]::.wd b o (zs.map Prod.fst ++ ws)::.blk ob t ol::T) 339 1 4 (jcv ob [r0,r0+1,r0+2,r0+3]))) [13] [0,1,2,3,4,5,6,7,8,9,10,11,12,13] [14] (by kernel_rfl) (by kernel_rfl) (S.gr (Gr.drew _)) ?_
 simp only [yT,j6,List.drop_succ_cons,List.drop_zero]
 refine jX rfl (jA rfl) ?_
 refine jX rfl (jA rfl) ?_
 refine jX rfl (jA rfl) ?_
 refine jX rfl (jD q27 rfl qz2 rfl rfl) ?_
 refine jX rfl (jA rfl) ?_
 refine jX rfl (jA rfl) ?_
 refine jX rfl (jD q27 rfl qz2 rfl rfl) ?_
 refine jX rfl (jA rfl) ?_
 refine jX rfl (jA rfl) ?_
 refine jX rfl (jD q27 rfl qz2 rfl rfl) ?_
 refine jX rfl (jA rfl) ?_
 refine jX rfl (jA rfl) ?_
 refine jX rfl (jD q27 rfl qz2 rfl rfl) ?_
 refine jZ rfl rfl (fun wq hq=>pW hq Tryz.underlying395 Tryz.sizeOf339 Tryz.zeroValue339 rfl rfl rfl rfl rfl rfl) ?_
 rintro v13 w13 ⟨A13,sa13,rfl,_⟩
 refine yV ?_
 rintro wz ⟨A_p,sa_p,e9,S⟩
 injection e9 with e9
 subst e9
 refine jC rfl (jam (qs:=[r0,r0+1,r0+2,r0+3]) sa_p (by decide) rfl hz hc hd hq S) ?_
 rintro _ w2_ ⟨o2,c2,rfl,hc2,S⟩
 refine ze ?_
 exact zN ⟨_,_,rfl,hc2,S⟩
theorem jgo {A:Option Addr} {c:Nat}:Fn Tryz.prog 248 [.slice A 0 c] w (yK (.string ⟨#[45]⟩) w):=by
 have S:=St.start w
 refine zn Tryz.func248 Tryz.results248 Tryz.ntmps248 ?_
 (iterate 3 refine z ?_); refine zt ?_; refine z ?_
 refine zq ?_
 exact yD rfl ⟨rfl,S.out⟩
theorem jbL {L:List HA} (s sep:ByteArray) {l:List ByteArray} (S:St No W w L) (hG:GL W) (hs:s.size < 4294967281) (h1:1<=sep.size) (hl:Lib.splitB sep 0 (Lib.countB s sep) s=l) :
  Fn Tryz.prog 249 [.string s,.string sep] w (fun v w'=>∃ g,v=.slice (some ⟨g,0,none⟩) l.length l.length/\St No W w' (.wd g 0 l::L)):=by
 obtain ⟨m,hm⟩:=(hG.gr S.out).mx
 refine (jiy s sep hs hm h1 hl).mono ?_
 rintro v w' ⟨rfl,rfl⟩
 refine ⟨_,rfl,S.push (Gr.alloc w _) (h:=.wd w.heap.size 0 l) ⟨by simp,fun j x hj=>?_⟩ (fun g hg=>by rw [hg]; exact Nat.le_refl _)⟩
 have hB:Blk (w.alloc (.cells (l.map Value.string).toArray 9)) w.heap.size 9 (l.map Value.string):=Blk.new _ _ _
 exact hB.cellv (by rw [Nat.zero_add,List.getElem?_map,hj]; rfl)
theorem jjb {lb b o c ob t p:Nat} {ol:List Value} {zs:List (ByteArray × Nat)} {x:ByteArray} {ws:List ByteArray} (hG:GL W) (hsp:Lib.splitB ⟨#[44]⟩ 0 (Lib.countB x ⟨#[44]⟩) x=zs.map Prod.fst) (hx:(x.toList == (⟨#[45]⟩:ByteArray).toList)=false) (hxs:x.size<=1000) (hz:zs.length<=100) (hd:∀ z ∈ zs,Dg z.1 z.2) (hc:ws.length+1<=c) (hv:ol[p]?=some (.slice none 0 0))
  (S:St No W w (.blk lb 337 [.slice (some ⟨b,o,none⟩) (ws.length+1) c,.bool true]::.wd b o (x::ws)::.blk ob t ol::T)) :
  Fn Tryz.prog (206) [pt lb,.pointer (some ⟨ob,p,none⟩)] w (fun v w'=>∃ o' c' A cA,v=.tuple #[]/\ws.length<=c'/\St No W w' (.blk lb 337 [.slice (some ⟨b,o',none⟩) ws.length c',.bool true]::.wd b o' ws::.blk ob t (ol.set p (.slice A zs.length cA))::.row 2 1 A zs.length cA (yC (zs.map fun z=>(z.2:Int)))::T)):=by
 have hpl:=(List.getElem?_eq_some_iff.1 hv).1
 refine zn Tryz.func206 Tryz.results206 Tryz.ntmps206 ?_
 iterate 3 refine z ?_
 refine j3 (jB q30 rfl rfl (S.blk (i:=2) rfl) hv) ?_
 refine jC rfl (jgo) ?_
 rintro _ w1_ ⟨rfl,g1_⟩
 have S:=S.gr g1_
 refine jC rfl (jbf hc S) ?_
 rintro _ w2_ ⟨o2,c2,rfl,hc2,S⟩
 iterate 3 refine z ?_
 refine j8 (i:=2) S rfl (f5 _) rfl rfl rfl rfl hv rfl ?_
 intro w9 S
 refine z ?_
 refine jE (sR rfl rfl hx) ?_
 refine z ?_
 refine jC rfl (jbL (l:=zs.map Prod.fst) x ⟨#[44]⟩ S hG (by omega) (by decide) hsp) ?_
 rintro _ w3_ ⟨sp,rfl,S⟩
 refine z ?_; refine z ?_
 refine zc ?_
 refine jS ?_
 refine zc ?_
 rw [List.length_map]
 generalize hvs:zs.map (fun z=>(z.2:Int))=vs
 have S:=S.pushNil 2 1
 refine j9 (fun m e w'=>∃ (k:Nat) (A_v:Option Addr) (c_v:Nat),k+m=zs.length/\SL e [(1,.pointer (some ⟨ob,p,none⟩)),(18,.slice (some ⟨sp,0,none⟩) zs.length zs.length),(19,ii zs.length),(20,ii k)] /\
   St No W w' (.row 2 1 A_v k c_v (yC (vs.take k))::.wd sp 0 (zs.map Prod.fst)::.blk lb 337 [.slice (some ⟨b,o2,none⟩) ws.length c2,.bool true]::.wd b o2 ws::.blk ob t (ol.set p (.slice A_v k c_v))::T)) zs.length
  ⟨0,none,0,by omega,⟨rfl,rfl,rfl,rfl,trivial⟩,S⟩ ?_
 clear S
 rintro m e w2 ⟨k,A_v,c_v,hk,hsl,S⟩
 rw [hsl.fold]
 have hol:(ol.set p (.slice A_v k c_v))[p]?=some (.slice A_v k c_v):=List.getElem?_set_self hpl
 by_cases hlt:k < zs.length
 ·obtain ⟨⟨s,n⟩,hzk⟩:∃ z,zs[k]?=some z:=⟨_,List.getElem?_eq_getElem hlt⟩
  have hdz:Dg s n:=hd (s,n) (List.mem_of_getElem? hzk)
  have hs:(zs.map Prod.fst)[k]?=some s:=by rw [List.getElem?_map,hzk]; rfl
  have hce:w2.cell? ⟨sp,0+(k:Int).toNat * 1,none⟩=some (.string s):=by rw [Nat.mul_one]; exact (S.ok (i:=1) rfl).2 k s hs
  have htk:yC (vs.take k) ++ [ii n]=yC (vs.take (k+1)):=by
   have:vs[k]?=some (n:Int):=by rw [<-hvs,List.getElem?_map,hzk]; rfl
   rw [List.take_add_one,this]; simp [yC]
  repeat refine jJ ?_
  refine jI ?_
  refine jE (yP (b:=true) rfl (decide_eq_true (by omega))) ?_
  first | refine jR ?_ | (refine jG ?_; show CW _ _ _ _ _ _) | refine jG ?_
  repeat refine jJ ?_
  refine yS rfl ?_
  repeat refine jJ ?_
  refine j5 ?_
  try show CW _ _ _ _ _ _
  repeat refine jJ ?_
  refine jS ?_
  repeat refine jJ ?_
  refine jI ?_
  refine jE (zQ q39 qz9 rfl rfl (by omega) (by omega)) ?_
  refine j3 (dW q9 rfl rfl hce) ?_
  refine z ?_
  refine zc ?_
  refine qQ (C:=(fun σ wq=>CS No W (.row 2 1 A_v k c_v (yC (vs.take k))::.wd sp 0 (zs.map Prod.fst)::.blk lb 337 [.slice (some ⟨b,o2,none⟩) ws.length c2,.bool true]::.wd b o2 ws::.blk ob t (ol.set p (.slice A_v k c_v))::T) 0 2 1 k (yC (vs.take k)) [ii n] wq σ)) [6,7] [0,1,2,3,4,5,6,7] [8,9] (by kernel_rfl) (by kernel_rfl) (S.gr (Gr.drew _)) ?_
  simp only [yT,j6,List.drop_succ_cons,List.drop_zero]
  refine jX rfl (jA rfl) ?_
  refine jX rfl (jA rfl) ?_
  refine jX rfl (jA rfl) ?_
  refine qF rfl (fun τ wq hq=>jB q30 rfl rfl (hq.ok (j:=4) (by decide) rfl) hol) ?_
  refine jX rfl (jA rfl) ?_
  refine vV rfl rfl (fun τ wq hq=>(sH hdz).mono (fun _ _ ⟨hv,hg⟩=>⟨hv,hq.gr hg⟩)) ?_
  refine jZ rfl rfl (fun wq hq=>zX hq q30 qz2 qv2 rfl rfl rfl rfl rfl rfl) ?_
  rintro v6 w6 ⟨A6,rfl,_⟩
  refine jZ rfl rfl (fun wq hq=>gF hq rfl (fun h=>⟨_,rfl⟩) q30 uY rfl rfl rfl rfl rfl rfl (by omega)) ?_
  rintro v7 w7 ⟨A7,c7,L7,rfl,_,_⟩
  refine yV ?_
  rintro w8 ⟨A8_,c8_,L_st,e_st,h_st,S⟩
  cases e_st
  obtain rfl:=Option.some.inj h_st
  refine z ?_
  refine j8 (i:=4) S rfl (f5 _) rfl rfl rfl rfl hol rfl ?_
  intro wz S
  refine zr ?_; refine z ?_
  refine ze ?_
  rw [htk,List.set_set] at S
  exact ⟨m - 1,by omega,k+1,A7,c7,by omega,⟨rfl,rfl,rfl,rfl,trivial⟩,S⟩
 ·obtain rfl:k=zs.length:=by omega
  refine zf ?_
  refine zc ?_
  refine jM rfl ?_
  refine zc ?_
  refine jY ?_
  repeat first | refine jP ?_ | refine jU ?_
  have e:vs.take zs.length=vs:=List.take_of_length_le (by rw [<-hvs]; simp)
  rw [e] at S
  exact zN ⟨_,_,_,_,rfl,hc2,(S.pick 5 [1,2,3,4,0] rfl rfl rfl).drop 1⟩
end
end
section
open Go.RowKit
theorem jbd {k:Nat} {Q:Exit->(Nat->Value)->World->Prop} {e:Nat->Value} {w:World} (h:Q .normal e w):InB k Q .normal e w:=h
section
variable {W w : World} {T : List HA}
theorem jha {lb b o c ob t:Nat} {ol:List Value} {zs:List (ByteArray × Nat)} {ws:List ByteArray} (hk:ol[0]?=some (ii 1)) (hz:zs.length=2) (hc:(zs.map Prod.fst ++ ws).length<=c) (hd:∀ z ∈ zs,Dg z.1 z.2) (hq:∀ q ∈ [9,10],smallAt ol q)
  (S:St No W w (.blk lb 337 [.slice (some ⟨b,o,none⟩) (zs.map Prod.fst ++ ws).length c,.bool true]::.wd b o (zs.map Prod.fst ++ ws)::.blk ob t ol::T)) :
  Fn Tryz.prog (251) [pt lb,pt ob] w (fun v w'=>∃ o' c',v=.tuple #[]/\ws.length<=c'/\St No W w' (.blk lb 337 [.slice (some ⟨b,o',none⟩) ws.length c',.bool true]::.wd b o' ws::.blk ob t (jaO ol [9,10] (zs.map Prod.snd))::T)):=by
 refine zn Tryz.func251 Tryz.results251 Tryz.ntmps251 ?_
 iterate 3 refine z ?_
 refine j3 (jB q3 rfl rfl (S.blk (i:=2) rfl) hk) ?_
 refine zt ?_; refine z ?_
 refine zc ?_
 refine yS rfl ?_
 refine zc ?_
 refine j5 ?_
 try show CW _ _ _ _ _ _
 refine zc ?_
 refine yS rfl ?_
 refine zc ?_
 refine qQ (C:=(CB No W (.blk lb 337 [.slice (some ⟨b,o,none⟩) (zs.map Prod.fst ++ ws).length c,.bool true]::.wd b o (zs.map Prod.fst ++ ws)::.blk ob t ol::T) 339 1 2 (jcv ob [9,10]))) [7] [0,1,2,3,4,5,6,7] [8] (by kernel_rfl) (by kernel_rfl) (S.gr (Gr.drew _)) ?_
 simp only [yT,j6,List.drop_succ_cons,List.drop_zero]
 refine jX rfl (jA rfl) ?_
 refine jX rfl (jA rfl) ?_
 refine jX rfl (jA rfl) ?_
 refine jX rfl (jD q34 rfl qz2 rfl rfl) ?_
 refine jX rfl (jA rfl) ?_
 refine jX rfl (jA rfl) ?_
 refine jX rfl (jD q34 rfl qz2 rfl rfl) ?_
 refine jZ rfl rfl (fun wq hq=>pW hq Tryz.underlying395 Tryz.sizeOf339 Tryz.zeroValue339 rfl rfl rfl rfl rfl rfl) ?_
 rintro v13 w13 ⟨A13,sa13,rfl,_⟩
 refine yV ?_
 rintro wz ⟨A_p,sa_p,e9,S⟩
 injection e9 with e9
 subst e9
 refine jC rfl (jam (qs:=[9,10]) sa_p (by decide) rfl hz hc hd hq S) ?_
 rintro _ w2_ ⟨o2,c2,rfl,hc2,S⟩
 refine ze ?_
 exact jbd <| zN ⟨_,_,rfl,hc2,S⟩
theorem jg8 {lb b o c ob t:Nat} {ol:List Value} {zs:List (ByteArray × Nat)} {ws:List ByteArray} (hk:ol[0]?=some (ii 7)) (hz:zs.length=4) (hc:(zs.map Prod.fst ++ ws).length<=c) (hd:∀ z ∈ zs,Dg z.1 z.2) (hq:∀ q ∈ [1,2,3,4],smallAt ol q)
  (S:St No W w (.blk lb 337 [.slice (some ⟨b,o,none⟩) (zs.map Prod.fst ++ ws).length c,.bool true]::.wd b o (zs.map Prod.fst ++ ws)::.blk ob t ol::T)) :
  Fn Tryz.prog (251) [pt lb,pt ob] w (fun v w'=>∃ o' c',v=.tuple #[]/\ws.length<=c'/\St No W w' (.blk lb 337 [.slice (some ⟨b,o',none⟩) ws.length c',.bool true]::.wd b o' ws::.blk ob t (jaO ol [1,2,3,4] (zs.map Prod.snd))::T)):=by
 refine zn Tryz.func251 Tryz.results251 Tryz.ntmps251 ?_
 iterate 3 refine z ?_
 refine j3 (jB q3 rfl rfl (S.blk (i:=2) rfl) hk) ?_
 refine zf ?_; refine z ?_; refine zf ?_; refine z ?_; refine zf ?_; refine z ?_; refine zf ?_; refine z ?_; refine zf ?_; refine z ?_; refine zf ?_; refine z ?_; refine zf ?_; refine z ?_; refine zf ?_; refine z ?_; refine zf ?_; refine z ?_; refine zf ?_; refine z ?_; refine zt ?_; iterate 5 refine z ?_
 refine jC rfl (jeh (r0:=1) hz hc hd hq S) ?_
 rintro _ w1_ ⟨o2,c2,rfl,hc2,S⟩
 refine ze ?_
 exact jbd <| zN ⟨_,_,rfl,hc2,S⟩
theorem jg9 {lb b o c ob t:Nat} {ol:List Value} {zs zl:List (ByteArray × Nat)} {x:ByteArray} {ws:List ByteArray} (hG:GL W) (hsp:Lib.splitB ⟨#[44]⟩ 0 (Lib.countB x ⟨#[44]⟩) x=zl.map Prod.fst) (hx:(x.toList == (⟨#[45]⟩:ByteArray).toList)=false) (hxs:x.size<=1000) (hzl:zl.length<=100) (hdl:∀ z ∈ zl,Dg z.1 z.2) (hv:(jaO ol [1,2,3,4] (zs.map Prod.snd))[11]?=some (.slice none 0 0))
  (hk:ol[0]?=some (ii 4)) (hz:zs.length=4) (hc:(zs.map Prod.fst ++ x::ws).length<=c) (hd:∀ z ∈ zs,Dg z.1 z.2) (hq:∀ q ∈ [1,2,3,4],smallAt ol q)
  (S:St No W w (.blk lb 337 [.slice (some ⟨b,o,none⟩) (zs.map Prod.fst ++ x::ws).length c,.bool true]::.wd b o (zs.map Prod.fst ++ x::ws)::.blk ob t ol::T)) :
  Fn Tryz.prog (251) [pt lb,pt ob] w (fun v w'=>∃ o' c' A cA,v=.tuple #[]/\ws.length<=c'/\St No W w' (.blk lb 337 [.slice (some ⟨b,o',none⟩) ws.length c',.bool true]::.wd b o' ws::.blk ob t ((jaO ol [1,2,3,4] (zs.map Prod.snd)).set 11 (.slice A zl.length cA))::.row 2 1 A zl.length cA (yC (zl.map fun z=>(z.2:Int)))::T)):=by
 refine zn Tryz.func251 Tryz.results251 Tryz.ntmps251 ?_
 iterate 3 refine z ?_
 refine j3 (jB q3 rfl rfl (S.blk (i:=2) rfl) hk) ?_
 refine zf ?_; refine z ?_; refine zf ?_; refine z ?_; refine zf ?_; refine z ?_; refine zf ?_; refine z ?_; refine zf ?_; refine z ?_; refine zf ?_; refine z ?_; refine zf ?_; refine z ?_; refine zt ?_; iterate 5 refine z ?_
 refine jC rfl (jeh (r0:=1) hz hc hd hq S) ?_
 rintro _ w1_ ⟨o2,c2,rfl,hc2,S⟩
 iterate 4 refine z ?_
 refine jC rfl (jjb (p:=11) hG hsp hx hxs hzl hdl hc2 hv S) ?_
 rintro _ w2_ ⟨o3,c3,A3,cA3,rfl,hc3,S⟩
 refine ze ?_
 exact jbd <| zN ⟨_,_,_,_,rfl,hc3,S⟩
end
end
end Go.Proofs.YtipnifjmhlcehaaGreatDoor
