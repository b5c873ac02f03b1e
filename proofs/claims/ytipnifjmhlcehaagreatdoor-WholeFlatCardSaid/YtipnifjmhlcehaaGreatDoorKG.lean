/- hachuretop.WholeFlat: a part of the proof that the law returns true at every input (RegOf, SparseG, PyrL, Tier, Dist, RouteA); no condition of its own. -/
import Derived.Test.YtipnifjmhlcehaaGreatDoorKF
import Derived.Test.YtipnifjmhlcehaaGreatDoorKC
import Derived.Test.YtipnifjmhlcehaaGreatDoorKD
import Derived.Test.YtipnifjmhlcehaaGreatDoorKE
set_option linter.unusedVariables false
set_option linter.unusedSimpArgs false
set_option maxRecDepth 100000
set_option maxHeartbeats 16000000
namespace Go.Proofs.YtipnifjmhlcehaaGreatDoor
section
open Go.RowKit
structure RV where
 x0:Int
 y0:Int
 x1:Int
 y1:Int
 deriving DecidableEq
def RV.cells (r:RV):List Value:=[ii r.x0,ii r.y0,ii r.x1,ii r.y1]
def vD (a b:RV):RV:=⟨min a.x0 b.x0,min a.y0 b.y0,max a.x1 b.x1,max a.y1 b.y1⟩
def kB (gw i:Nat):RV:=⟨(i % gw:Nat),(i / gw:Nat),(i % gw:Nat),(i / gw:Nat)⟩
structure PV where
 lab:Int
 area:Int
 x:Int
 y:Int
 box:RV
 deriving DecidableEq
def PV.cells (p:PV):List Value:=[ii p.lab,ii p.area,ii p.x,ii p.y,ii p.box.x0,ii p.box.y0,ii p.box.x1,ii p.box.y1]
def qZ (l:List PV):List Value:=l.flatMap PV.cells
theorem cS (l:List PV):(qZ l).length=l.length * 8:=vK (f:=PV.cells) (fun _=>rfl) l
def RV.right (r:RV):Prop:=0<=r.x0/\r.x0<=r.x1/\r.x1 < 1024/\0<=r.y0/\r.y0<=r.y1/\r.y1 < 1024
theorem jcw {a b:RV} (ha:a.right) (hb:b.right):(vD a b).right:=by
 unfold RV.right vD at *; dsimp only; omega
theorem fX {gw gh i:Nat} (hw:1<=gw/\gw<=1024) (hh:gh<=1024) (hi:i < gw * gh):(kB gw i).right:=by
 have h1:i % gw < gw:=Nat.mod_lt _ (by omega)
 have h2:i / gw < gh:=Nat.div_lt_of_lt_mul hi
 unfold RV.right kB
 dsimp only
 generalize i % gw=p at *
 generalize i / gw=q at *
 omega
theorem jky (a b:RV) (ha:a.right) (hb:b.right) (W:World):Fn Tryz.prog 90 [.agg #[ii a.x0,ii a.y0,ii a.x1,ii a.y1],.agg #[ii b.x0,ii b.y0,ii b.x1,ii b.y1]] W
  (yK (.agg #[ii (vD a b).x0,ii (vD a b).y0,ii (vD a b).x1,ii (vD a b).y1]) W):=by
 have hra:uQ a.x0 a.y0 a.x1 a.y1=true:=(vO _ _ _ _).2 ha
 have hrb:uQ b.x0 b.y0 b.x1 b.y1=true:=(vO _ _ _ _).2 hb
 have S:=St.start W
 refine zn Tryz.func90 Tryz.results90 Tryz.ntmps90 ?_
 refine zs ?_
 refine jF (jO rfl) S ?_
 intro b_ra w2_ g2_ S
 refine jF (jO rfl) S ?_
 intro b_rb w4_ g4_ S
 refine jF (jL qX rfl) S ?_
 intro b_b5 w6_ g6_ S
 refine z ?_
 refine jC rfl (vW _ _ _ _ w6_) ?_
 rintro _ w7_ ⟨rfl,g7_⟩
 have S:=S.gr g7_
 rw [hra]
 iterate 3 refine z ?_
 refine jK rfl ?_
 iterate 4 refine z ?_
 refine jC rfl (vW _ _ _ _ w7_) ?_
 rintro _ w8_ ⟨rfl,g8_⟩
 have S:=S.gr g8_
 rw [hra]
 iterate 3 refine z ?_
 refine jC rfl (vW _ _ _ _ w8_) ?_
 rintro _ w9_ ⟨rfl,g9_⟩
 have S:=S.gr g9_
 rw [hrb]
 iterate 22 refine z ?_
 refine jE (jN (pl:=[(0,1),(1,1),(2,1),(3,1)]) q27 qX (fun w=>by kernel_rfl) rfl rfl) ?_
 refine jH (i:=0) S rfl (y6 _) rfl rfl rfl rfl rfl rfl ?_
 intro w10_ S
 refine zq ?_
 exact v8 q27 rfl (y6 _) rfl (S.blk (i:=0) rfl) rfl rfl ⟨rfl,S.out⟩
theorem dK {α β:Type} {f:α->List β} {m:Nat} (hf:∀ a,(f a).length=m):∀ {l:List α} {k:Nat} {a a':α} {d:Nat} {cs:List β},l[k]?=some a->d+cs.length<=m->f a'=(f a).take d ++ cs ++ (f a).drop (d+cs.length) ->
  (l.flatMap f).take (k * m+d) ++ cs ++ (l.flatMap f).drop (k * m+d+cs.length)=(l.set k a').flatMap f
 | [],k,a,a',d,cs,h,_,_=>by cases h
 | b::l,0,a,a',d,cs,h,hd,e=>by
  obtain rfl:b=a:=by simpa using h
  have hb:=hf b
  simp only [Nat.zero_mul,Nat.zero_add,List.flatMap_cons,List.set_cons_zero]
  rw [List.take_append_of_le_length (by omega),List.drop_append_of_le_length (by omega),e]
  simp only [List.append_assoc]
 | b::l,k+1,a,a',d,cs,h,hd,e=>by
  have ih:=dK hf (l:=l) (k:=k) (a:=a) (a':=a') (d:=d) (cs:=cs) (by simpa using h) hd e
  have hb:=hf b
  simp only [List.flatMap_cons,List.set_cons_succ]
  rw [<-ih,Nat.succ_mul,show k * m+m+d=m+(k * m+d) by omega,show m+(k * m+d)+cs.length=m+(k * m+d+cs.length) by omega]
  rw [List.take_append,List.drop_append,hb]
  rw [List.take_of_length_le (by omega),List.drop_of_length_le (by omega)]
  simp only [show m+(k * m+d) - m=k * m+d by omega,show m+(k * m+d+cs.length) - m=k * m+d+cs.length by omega,List.nil_append,List.append_assoc]
theorem jgq {α:Type} {l:List α} {k:Nat} {v:α} (h:k < l.length):l.set k v=l.take k ++ [v] ++ l.drop (k+1):=by
 rw [List.set_eq_take_append_cons_drop,if_pos h]; simp
theorem s6 {p:Nat->Bool} {q k:Nat} (hq:q < k) (hp:p q=true):((List.range k).filter p)[((List.range q).filter p).length]?=some q:=by
 have e:k=q+(1+(k - q - 1)):=by omega
 rw [e,List.range_add,List.filter_append,List.getElem?_append_right (Nat.le_refl _),Nat.sub_self,Nat.add_comm 1,List.range_succ_eq_map]
 simp [hp]
structure jaG (gw:Nat) (V:List Int) (t:Int) (r:Nat->Nat):Prop where
 le:∀ i,i < V.length->r i<=i
 idem:∀ i,i < V.length->r (r i)=r i
 conn:∀ i,i < V.length->Conn gw V t i (r i)
 left:∀ i,i < V.length->t<=V.getD i 0->0 < i % gw->t<=V.getD (i - 1) 0->r i=r (i - 1)
 up:∀ i,i < V.length->t<=V.getD i 0->gw<=i->t<=V.getD (i - gw) 0->r i=r (i - gw)
theorem SetsOk.roots {gw:Nat} {V:List Int} {t:Int} {f:Nat->Nat} (h:SetsOk gw V t V.length f):jaG gw V t (yL f) :=
 ⟨fun i _=>bF f i,fun i _=>jc0 f i,h.conn,h.left,h.up⟩
theorem Conn.ge {gw:Nat} {V:List Int} {t:Int} {i j:Nat} (h:Conn gw V t i j) (hi:t<=V.getD i 0):t<=V.getD j 0:=by
 induction h with
 | refl=>exact hi
 | step a _ ih=>exact ih a.2.2.2.1
def uR (V:List Int) (t:Int) (r:Nat->Nat) (q:Nat):Bool:=decide (t<=V.getD q 0) && decide (r q=q)
def zL (V:List Int) (t:Int) (r:Nat->Nat) (k:Nat):List Nat:=(List.range k).filter (uR V t r)
def k9 (V:List Int) (t:Int) (r:Nat->Nat) (k:Nat):Nat:=(zL V t r k).length
def wK (V:List Int) (t:Int) (r:Nat->Nat) (i:Nat):Nat:=if t<=V.getD i 0 then k9 V t r (r i)+1 else 0
def mA (V:List Int) (t:Int) (r:Nat->Nat) (q i:Nat):Bool:=decide (t<=V.getD i 0) && decide (r i=q)
def uX (V:List Int) (t:Int) (r:Nat->Nat) (q k:Nat):List Nat:=(List.range k).filter (mA V t r q)
def qT (gw:Nat) (V:List Int) (t:Int) (r:Nat->Nat) (k q:Nat):PV :=
 ⟨(k9 V t r q+1:Nat),((uX V t r q k).length:Nat),(q % gw:Nat),(q / gw:Nat),(uX V t r q k).foldl (fun b i=>vD b (kB gw i)) (kB gw q)⟩
def qK (gw:Nat) (V:List Int) (t:Int) (r:Nat->Nat) (k:Nat):List PV:=(zL V t r k).map (qT gw V t r k)
theorem zB (V:List Int) (t:Int) (r:Nat->Nat) (k:Nat):zL V t r (k+1)=if uR V t r k then zL V t r k ++ [k] else zL V t r k:=by
 unfold zL
 rw [List.range_succ,List.filter_append]
 by_cases h:uR V t r k=true
 ·rw [if_pos h]; simp [h]
 ·rw [if_neg h]; simp [h]
theorem bQ (V:List Int) (t:Int) (r:Nat->Nat) (q k:Nat):uX V t r q (k+1)=if mA V t r q k then uX V t r q k ++ [k] else uX V t r q k:=by
 unfold uX
 rw [List.range_succ,List.filter_append]
 by_cases h:mA V t r q k=true
 ·rw [if_pos h]; simp [h]
 ·rw [if_neg h]; simp [h]
theorem dB {gw:Nat} {V:List Int} {t:Int} {r:Nat->Nat} {k q:Nat} (h:mA V t r q k=false):qT gw V t r (k+1) q=qT gw V t r k q:=by
 unfold qT; rw [bQ,if_neg (by simp [h])]
theorem jdm {gw:Nat} {V:List Int} {t:Int} {r:Nat->Nat} {k q:Nat} (h:mA V t r q k=true) :
  qT gw V t r (k+1) q={ qT gw V t r k q with area:=(qT gw V t r k q).area+1,box:=vD (qT gw V t r k q).box (kB gw k) }:=by
 unfold qT; rw [bQ,if_pos h,List.foldl_append,List.length_append]; simp
theorem jcY {V:List Int} {t:Int} {r:Nat->Nat} {k q:Nat}:q ∈ zL V t r k ↔ q < k/\uR V t r q=true:=by unfold zL; rw [List.mem_filter,List.mem_range]
theorem jaR (V:List Int) (t:Int) (r:Nat->Nat) (k:Nat):(zL V t r k).Nodup:=List.Pairwise.filter _ List.nodup_range
theorem pF (V:List Int) (t:Int) (r:Nat->Nat) (k:Nat):k9 V t r k<=k:=by
 unfold k9 zL
 exact Nat.le_trans (List.length_filter_le _ _) (by simp)
theorem lG {α β:Type} [DecidableEq α] {l:List α} {f g:α->β} {k:Nat} {q:α} (hn:l.Nodup) (hk:l[k]?=some q) (h:∀ x ∈ l,x ≠ q->g x=f x):(l.map f).set k (g q)=l.map g:=by
 apply List.ext_getElem?
 intro i
 rw [List.getElem?_set]
 have hkl:=(List.getElem?_eq_some_iff.1 hk).1
 by_cases e:k=i
 ·subst e; rw [if_pos rfl,List.length_map,if_pos hkl,List.getElem?_map,hk]; rfl
 ·rw [if_neg e,List.getElem?_map,List.getElem?_map]
  cases hi:l[i]? with
  | none=>rfl
  | some x =>
   have hx:=List.mem_of_getElem? hi
   have hne:x ≠ q:=by
    rintro rfl
    have hil:=(List.getElem?_eq_some_iff.1 hi).1
    have h1:=(List.getElem?_eq_some_iff.1 hi).2
    have h2:=(List.getElem?_eq_some_iff.1 hk).2
    exact e ((List.getElem_inj hn).1 (h2.trans h1.symm))
   simp only [Option.map_some,h x hx hne]
theorem jcj {gw:Nat} {V:List Int} {t:Int} {r:Nat->Nat} {k:Nat} (hle:∀ i,i<=k->r i<=i) (hv:t<=V.getD k 0) (hr:r k=k) :
  qK gw V t r (k+1)=qK gw V t r k ++ [qT gw V t r (k+1) k]/\qT gw V t r k k=⟨(k9 V t r k+1:Nat),0,(k % gw:Nat),(k / gw:Nat),kB gw k⟩:=by
 have hroot:uR V t r k=true:=by unfold uR; simp only [Bool.and_eq_true,decide_eq_true_eq]; exact ⟨hv,hr⟩
 constructor
 ·unfold qK
  rw [zB,if_pos hroot,List.map_append,List.map_singleton]
  congr 1
  refine List.map_congr_left fun q hq=>dB ?_
  have:=(jcY.1 hq).1
  unfold mA
  simp only [Bool.and_eq_false_iff,decide_eq_false_iff_not]
  right; omega
 ·have:uX V t r k k=[]:=by
   unfold uX
   rw [List.filter_eq_nil_iff]
   intro i hi
   have:=hle i (by have:=List.mem_range.1 hi; omega)
   have:=List.mem_range.1 hi
   unfold mA
   simp only [Bool.and_eq_true,decide_eq_true_eq]
   omega
  unfold qT
  rw [this]
  rfl
theorem ja2 {gw:Nat} {V:List Int} {t:Int} {r:Nat->Nat} {k q:Nat} (hr:r k=q) (hq:q < k) (hrq:r q=q) (hvq:t<=V.getD q 0) :
  qK gw V t r (k+1)=(qK gw V t r k).set (k9 V t r q) (qT gw V t r (k+1) q)/\(qK gw V t r k)[k9 V t r q]?=some (qT gw V t r k q):=by
 have hroot:uR V t r q=true:=by unfold uR; simp only [Bool.and_eq_true,decide_eq_true_eq]; exact ⟨hvq,hrq⟩
 have hnot:uR V t r k=false:=by unfold uR; simp only [Bool.and_eq_false_iff,decide_eq_false_iff_not]; right; omega
 have hidx:(zL V t r k)[k9 V t r q]?=some q:=s6 hq hroot
 constructor
 ·unfold qK
  rw [zB,if_neg (by simp [hnot])]
  symm
  refine lG (jaR _ _ _ _) hidx fun x hx hne=>dB ?_
  unfold mA
  simp only [Bool.and_eq_false_iff,decide_eq_false_iff_not]
  right
  rw [hr]
  exact fun e=>hne e.symm
 ·unfold qK
  rw [List.getElem?_map,hidx]; rfl
theorem ja1 {gw:Nat} {V:List Int} {t:Int} {r:Nat->Nat} {k:Nat} (hv:¬ t<=V.getD k 0):qK gw V t r (k+1)=qK gw V t r k:=by
 unfold qK
 rw [zB,if_neg (by unfold uR; simp only [Bool.and_eq_true,decide_eq_true_eq]; exact fun h=>hv h.1)]
 refine List.map_congr_left fun q _=>dB ?_
 unfold mA
 simp only [Bool.and_eq_false_iff,decide_eq_false_iff_not]
 exact .inl hv
theorem ja3 {gw gh:Nat} {V:List Int} {t:Int} {r:Nat->Nat} {k q:Nat} (hw:1<=gw/\gw<=1024) (hh:gh<=1024) (hV:V.length=gw * gh) (hk:k<=V.length) (hq:q < V.length):(qT gw V t r k q).box.right:=by
 unfold qT
 have key:∀ (l:List Nat) (b:RV),(∀ i ∈ l,i < V.length)->b.right->(l.foldl (fun b i=>vD b (kB gw i)) b).right:=by
  intro l
  induction l with
  | nil=>intro b _ hb; exact hb
  | cons a l ih=>intro b hl hb; exact ih _ (fun i hi=>hl i (List.mem_cons_of_mem _ hi)) (jcw hb (fX hw hh (hV ▸ hl a (by simp))))
 refine key _ _ (fun i hi=>?_) (fX hw hh (hV ▸ hq))
 unfold uX at hi
 have:=List.mem_range.1 (List.mem_filter.1 hi).1
 omega
theorem sL (n:Nat):List.replicate n (ii 0)=yM n (fun _=>0):=by
 symm; rw [List.eq_replicate_iff]
 refine ⟨kJ _ _,fun v hv=>?_⟩
 obtain ⟨i,_,rfl⟩:=List.mem_map.1 hv
 rfl
theorem nU {l:List PV} {k:Nat} {a a':PV} {d:Nat} {cs:List Value} (h:l[k]?=some a) (hd:d+cs.length<=8) (e:a'.cells=a.cells.take d ++ cs ++ a.cells.drop (d+cs.length)) :
  (qZ l).take (k * 8+d) ++ cs ++ (qZ l).drop (k * 8+d+cs.length)=qZ (l.set k a'):=dK (f:=PV.cells) (fun _=>rfl) h hd e
theorem jdk {l:List PV} {k:Nat} {a:PV} (h:l[k]?=some a) {j:Nat} (hj:j < 8):(qZ l)[k * 8+j]?=a.cells[j]?:=rM (f:=PV.cells) (m:=8) (fun _=>rfl) h hj
theorem jdl {l:List PV} {k:Nat} {a:PV} (h:l[k]?=some a):((qZ l).drop (k * 8+4)).take 4=a.box.cells:=by
 have:=uN (f:=PV.cells) (m:=8) (fun _=>rfl) l k a 4 4 h (by omega)
 exact this
def jjI (gw gh:Nat) (V:List Int) (t:Int) (W:World) (v:Value) (w':World):Prop:=∃ r,jaG gw V t r/\∃ A1 c1 A2 c2,v=.tuple #[.slice A1 V.length c1,.slice A2 (k9 V t r V.length) c2,ii 0] /\
 Row w' 2 1 A1 V.length c1 (yM V.length (wK V t r))/\Row w' 44 8 A2 (k9 V t r V.length) c2 (qZ (qK gw V t r V.length))/\xS W A1/\xS W A2/\Gr W w'
section
variable {W : World} {A : Option Addr} {p gw gh cap : Nat}
theorem jb1 {cc:Nat->Int} {bs:Nat->Nat} {Rs:Nat->Option Nat} (t:Int) (hG:GridAt W p gw gh cc A cap bs Rs) :
  Fn Tryz.prog 38 [pt p,ii t] W (jjI gw gh (yA gw gh cc) t W):=by
 have hw:=hG.sw
 have hh:=hG.sh
 have hlen:=zE gw gh cc
 have hm:1<=gw * gh/\gw * gh<=1024 * 1024:=⟨Nat.mul_le_mul hw.1 hh.1,Nat.mul_le_mul hw.2 hh.2⟩
 have hgwV:gw<=gw * gh:=Nat.le_mul_of_pos_right _ (by omega)
 have hreg:=jiM hG
 rw [<-hlen] at hreg
 have hVg:(yA gw gh cc).length=gw * gh:=hlen
 generalize yA gw gh cc=V at *
 have hget:∀ i,i < V.length->(yC V)[(i:Int).toNat * 1]?=some (ii (V.getD i 0)):=fun i hi=>by rw [Nat.mul_one,Int.toNat_natCast]; exact qO (vX hi)
 have S:=St.start W
 refine zn Tryz.func38 Tryz.results38 Tryz.ntmps38 ?_
 iterate 4 refine z ?_
 refine jC rfl (hreg) ?_
 rintro _ w1_ ⟨A_vs,c_vs,rfl,hR_vs,hf_vs,g1_⟩
 have S:=S.pushRow hR_vs hf_vs g1_
 iterate 3 refine z ?_
 refine jF (jL Tryz.zeroValue170 rfl) S ?_
 intro b_l w3_ g3_ S
 refine jH (i:=0) S rfl (Tryz.sizeOf170 _) rfl rfl rfl rfl rfl rfl ?_
 intro w4_ S
 refine z ?_; refine z ?_; refine zf ?_; refine z ?_; refine z ?_
 refine jC rfl (jj7 (W:=w4_) t gh hw.1 (by omega) (by omega) (by omega) (S.rd (i:=1) rfl)) ?_
 rintro _ w5_ ⟨f0,hf0,A_F,c_F,rfl,hR_F,hf_F,g5_⟩
 have S:=S.pushRow hR_F hf_F g5_
 iterate 4 refine z ?_
 refine vU q30 uY rfl rfl rfl (n:=V.length) (c:=V.length) (by omega) (by omega) (by omega) (by omega) S ?_
 intro A_L w7_ g7_ S sa_L
 iterate 6 refine z ?_
 refine zc ?_
 refine jS ?_
 refine zc ?_
 have hro:=hf0.roots
 have hf0ok:=hf0.ok
 generalize hrr:yL f0=r at *
 have sa_F:yH A_F:=hR_F.someA (by omega)
 have sa_vs:yH A_vs:=hR_vs.someA (by omega)
 rw [sL] at S
 have S:=S.pushNil 44 8
 refine j9 (fun m e w=>∃ (k:Nat) (f:Nat->Nat) (A_P:Option Addr) (c_P:Nat),k+m=V.length/\SL e [(1,ii t),(7,pt b_l),(9,.slice A_F V.length c_F),(10,.slice A_L V.length V.length),(11,.slice A_P (k9 V t r k) c_P),(34,.slice A_vs V.length c_vs),(35,ii V.length),(36,ii k)]/\FOk V.length f/\(∀ j,j < V.length->yL f j=r j) /\
  St No W w [.row 44 8 A_P (k9 V t r k) c_P (qZ (qK gw V t r k)),.row 2 1 A_L V.length V.length (yM V.length fun j=>if j < k then wK V t r j else 0),.row 3 1 A_F V.length c_F (yM V.length f),.blk b_l 170 [ii gw,ii gh,.slice A_vs V.length c_vs],.row 2 1 A_vs V.length c_vs (yC V)]) V.length
  ⟨0,f0,none,0,by omega,⟨rfl,rfl,rfl,rfl,rfl,rfl,rfl,rfl,trivial⟩,hf0ok,fun j _=>by rw [hrr],by
   have e1:(yM V.length fun j=>if j < 0 then wK V t r j else 0)=yM V.length (fun _=>0):=kC fun i _=>rfl
   rw [e1]; exact S⟩ ?_
 rintro m e w ⟨k,f,A_P,c_P,hk,hsl,hf,hfr,S⟩
 rw [hsl.fold]
 have hcnt:=pF V t r k
 refine z ?_
 refine zk ?_ ?_
 ·intro hc
  have hkV:k < V.length:=by omega
  have hgk:=hget k hkV
  refine z ?_; refine zx ?_
  refine j3 (j7 q2 rfl rfl (S.rd (i:=4) rfl) hgk) ?_
  iterate 5 refine z ?_
  refine zk ?_ ?_
  ·intro hlow
   refine zc ?_
   refine jY ?_
   repeat first | refine jP ?_ | refine jU ?_
   show CW _ _ _ _ _ _
   refine zr ?_; refine z ?_
   refine ze ?_
   have hlow':¬ t<=V.getD k 0:=by omega
   have hlab:wK V t r k=0:=if_neg hlow'
   have hcs:k9 V t r (k+1)=k9 V t r k:=by
    unfold k9; rw [zB,if_neg]; unfold uR; simp only [Bool.and_eq_true,decide_eq_true_eq]; exact fun h=>hlow' h.1
   refine ⟨m - 1,by omega,k+1,f,A_P,c_P,by omega,⟨rfl,rfl,rfl,rfl,by rw [hcs]; rfl,rfl,rfl,ie (by omega),trivial⟩,hf,hfr,?_⟩
   have e1:(yM V.length fun j=>if j < k+1 then wK V t r j else 0)=yM V.length (fun j=>if j < k then wK V t r j else 0):=kC fun i _=>by
    by_cases e:i=k
    ·subst e; rw [if_pos (by omega),if_neg (by omega),hlab]
    ·by_cases h:i < k
     ·rw [if_pos (by omega),if_pos h]
     ·rw [if_neg (by omega),if_neg h]
   rw [hcs,ja1 hlow',e1]
   exact S
  ·intro hlow
   have hspot:=fX hw hh.2 (hVg ▸ hkV)
   have hrk:=hro.le k hkV
   have hvr:t<=V.getD (r k) 0:=(hro.conn k hkV).ge hlow
   have hrr2:=hro.idem k hkV
   refine z ?_; refine z ?_
   refine jC rfl (jiN (W:=w) k gh V.length hw.1 (by omega)) ?_
   rintro _ w8_ ⟨rfl,g8_⟩
   have S:=S.gr g8_
   refine jF (jL kL rfl) S ?_
   intro b_c w10_ g10_ S
   refine jH (i:=0) S rfl (qI _) rfl rfl rfl rfl rfl rfl ?_
   intro w11_ S
   iterate 8 refine z ?_
   refine jE (jN (pl:=[(0,1),(1,1),(2,1),(3,1)]) q27 qX (fun w=>by kernel_rfl) rfl rfl) ?_
   refine jF (jL qX rfl) S ?_
   intro b_sp w13_ g13_ S
   refine jH (i:=0) S rfl (y6 _) rfl rfl rfl rfl rfl rfl ?_
   intro w14_ S
   refine z ?_; refine z ?_
   refine jC rfl (jcZ k (by omega) hkV hf (S.row (i:=4) rfl)) ?_
   rintro _ w15_ ⟨rfl,f1,hf1,hr1,hR1,hF1⟩
   have S:=S.set (i:=4) (h':=.row 3 1 A_F V.length c_F (yM V.length f1)) rfl rfl hF1 (fun g h=>.inl h) hR1 (fun g h=>.inl h)
   rw [hfr k hkV]
   refine z ?_
   refine ze ?_
   have hfr1:∀ j,j < V.length->yL f1 j=r j:=fun j hj=>(hr1 j hj).trans (hfr j hj)
   have hlabk:wK V t r k=k9 V t r (r k)+1:=if_pos hlow
   have hlabr:wK V t r (r k)=k9 V t r (r k)+1:=by unfold wK; rw [if_pos hvr,hrr2]
   have hcr:=pF V t r (r k)
   have hPlen:(qK gw V t r k).length=k9 V t r k:=by unfold qK k9; rw [List.length_map]
   iterate 3 refine z ?_
   refine zc ?_
   refine qL (M:=fun e w=>∃ (Pk:List PV) (A_P:Option Addr) (c_P:Nat),Pk.length=k9 V t r (k+1)/\Pk[k9 V t r (r k)]?=some (qT gw V t r k (r k))/\Pk.set (k9 V t r (r k)) (qT gw V t r (k+1) (r k))=qK gw V t r (k+1)/\SL e [(1,ii t),(7,pt b_l),(9,.slice A_F V.length c_F),(10,.slice A_L V.length V.length),(12,ii k),(14,pt b_c),(15,pt b_sp),(16,ii (r k:Nat)),(34,.slice A_vs V.length c_vs),(35,ii V.length),(36,ii k),(11,.slice A_P (k9 V t r (k+1)) c_P)]/\St No W w [.blk b_sp 27 (kB gw k).cells,.row 44 8 A_P (k9 V t r (k+1)) c_P (qZ Pk),.row 2 1 A_L V.length V.length (yM V.length fun j=>if j < k\/(j=k/\r k=k) then wK V t r j else 0),.row 3 1 A_F V.length c_F (yM V.length f1),.blk b_l 170 [ii gw,ii gh,.slice A_vs V.length c_vs],.row 2 1 A_vs V.length c_vs (yC V)]) ?_ ?_
   ·skip
    refine zk ?_ ?_
    ·intro hroot
     have hroot':r k=k:=by omega
     obtain ⟨hnew,hp0⟩:=jcj (gw:=gw) (V:=V) (t:=t) (r:=r) (k:=k) (fun i hi=>hro.le i (by omega)) hlow hroot'
     have hcs:k9 V t r (k+1)=k9 V t r k+1:=by
      unfold k9; rw [zB,if_pos]; · simp
      unfold uR; simp only [Bool.and_eq_true,decide_eq_true_eq]; exact ⟨hlow,hroot'⟩
     (iterate 3 refine z ?_); refine zr ?_; refine z ?_; refine z ?_
     refine jE (jN (pl:=[(0,1),(1,1),(2,2),(4,4)]) Tryz.underlying44 Tryz.zeroValue44 (fun w=>by kernel_rfl) rfl rfl) ?_
     refine yF Tryz.underlying38 Tryz.sizeOf44 Tryz.zeroValue44 rfl rfl rfl rfl rfl rfl S ?_
     intro A_lit w17_ g17_ S sa_lit
     refine qA (i:=3) S rfl (fun h=>rfl) Tryz.underlying38 jhx rfl rfl rfl rfl (by simp) (by omega) (S.rd (i:=0) rfl) rfl (by omega) ?_
     intro A_P2 c_P2 w18_ S sa_P
     (iterate 5 refine z ?_); refine zx ?_
     refine qV (i:=4) S rfl (qz2 _) rfl rfl rfl rfl (by rw [kJ]; omega) rfl ?_
     intro w19_ S
     refine ze ?_
     refine ⟨qK gw V t r k ++ [qT gw V t r k k],A_P2,c_P2,by rw [List.length_append,hPlen,hcs]; rfl,?_,?_,⟨rfl,rfl,rfl,rfl,rfl,rfl,rfl,rfl,rfl,rfl,rfl,by rw [hcs]; rfl,trivial⟩,?_⟩
     ·rw [hroot',List.getElem?_append_right (by omega),hPlen,Nat.sub_self]; rfl
     ·rw [hroot',hnew,List.set_append_right _ _ (by omega),hPlen,Nat.sub_self]; rfl
     ·have S:=S.sub (.cons _ (.cons_cons _ (.cons _ (.cons_cons _ (.cons_cons _ (.cons_cons _ (.cons_cons _ (.cons_cons _ .slnil))))))))
      rw [Nat.mul_one,Int.toNat_natCast,xD] at S
      have e1:(yM V.length fun j=>if j < k\/(j=k/\r k=k) then wK V t r j else 0)=yM V.length (wZ (fun j=>if j < k then wK V t r j else 0) k (k9 V t r k+1)):=kC fun i _=>by
       by_cases e:i=k
       ·subst e; rw [uJ,if_pos (.inr ⟨rfl,hroot'⟩),hlabk,hroot']
       ·rw [uI e]
        by_cases h:i < k
        ·rw [if_pos (.inl h),if_pos h]
        ·rw [if_neg (fun h2=>h2.elim h (fun h3=>e h3.1)),if_neg h]
      have e2:qZ (qK gw V t r k ++ [qT gw V t r k k])=qZ (qK gw V t r k) ++ (qT gw V t r k k).cells:=by simp [qZ]
      rw [e1,hcs,e2,hp0]
      exact S
    ·intro hroot
     have hroot':r k ≠ k:=by omega
     have hlt:r k < k:=by omega
     obtain ⟨hmore,hat⟩:=ja2 (gw:=gw) (V:=V) (t:=t) (r:=r) (k:=k) rfl hlt hrr2 hvr
     have hcs:k9 V t r (k+1)=k9 V t r k:=by
      unfold k9; rw [zB,if_neg]; unfold uR; simp only [Bool.and_eq_true,decide_eq_true_eq]; exact fun h=>hroot' h.2
     refine zc ?_
     refine j5 ?_
     try show CW _ _ _ _ _ _
     refine ⟨qK gw V t r k,A_P,c_P,by rw [hcs,hPlen],hat,hmore.symm,⟨rfl,rfl,rfl,rfl,rfl,rfl,rfl,rfl,rfl,rfl,rfl,by rw [hcs]; rfl,trivial⟩,?_⟩
     have S:=S.sub (.cons_cons _ (.cons _ (.cons_cons _ (.cons_cons _ (.cons_cons _ (.cons_cons _ (.cons_cons _ .slnil)))))))
     have e1:(yM V.length fun j=>if j < k\/(j=k/\r k=k) then wK V t r j else 0)=yM V.length (fun j=>if j < k then wK V t r j else 0):=kC fun i _=>by
      by_cases h:i < k
      ·rw [if_pos (.inl h),if_pos h]
      ·rw [if_neg (fun h2=>h2.elim h (fun h3=>hroot' h3.2)),if_neg h]
     rw [e1,hcs]
     exact S
   ·rintro e2 w2 ⟨Pk,A_P,c_P,hPl,hPa,hPs,hsl,S⟩
    rw [hsl.fold]
    have hrV:r k < V.length:=by omega
    have hg1:(yM V.length fun j=>if j < k\/(j=k/\r k=k) then wK V t r j else 0)[((r k:Nat):Int).toNat * 1]?=some (ii (wK V t r k:Nat)):=by
     rw [Nat.mul_one,Int.toNat_natCast,uG hrV,if_pos ((Nat.lt_or_ge (r k) k).imp id (fun h=>⟨by omega,by omega⟩)),hlabr,hlabk]
    have hg2:(yM V.length fun j=>if j < k+1 then wK V t r j else 0)[(k:Int).toNat * 1]?=some (ii (wK V t r k:Nat)):=by
     rw [Nat.mul_one,Int.toNat_natCast,uG hkV,if_pos (by omega)]
    have e1:yM V.length (wZ (fun j=>if j < k\/(j=k/\r k=k) then wK V t r j else 0) k (wK V t r k))=yM V.length (fun j=>if j < k+1 then wK V t r j else 0):=kC fun i _=>by
     by_cases e:i=k
     ·subst e; rw [uJ,if_pos (by omega)]
     ·rw [uI e]
      by_cases h:i < k
      ·rw [if_pos (.inl h),if_pos (by omega)]
      ·rw [if_neg (fun h2=>h2.elim h (fun h3=>e h3.1)),if_neg (by omega)]
    have hidx:=(List.getElem?_eq_some_iff.1 hPa).1
    have sa_P:yH A_P:=(S.row (i:=1) rfl).someA (by omega)
    have eidx:((wK V t r k:Nat):Int) - 1=((k9 V t r (r k):Nat):Int):=by rw [hlabk]; omega
    have hga:(qZ Pk)[((k9 V t r (r k):Nat):Int).toNat * 8+1]?=some (ii (qT gw V t r k (r k)).area):=by rw [Int.toNat_natCast,jdk hPa (by omega)]; rfl
    have hcntle:=pF V t r (k+1)
    (iterate 4 refine z ?_); refine zx ?_
    refine j3 (j7 q2 rfl rfl (S.rd (i:=2) rfl) hg1) ?_
    refine zx ?_
    refine qV (i:=2) S rfl (qz2 _) rfl rfl rfl rfl (by rw [kJ]; omega) rfl ?_
    intro w20_ S
    rw [Nat.mul_one,Int.toNat_natCast,xD,e1] at S
    (iterate 3 refine z ?_); refine zx ?_
    refine j3 (j7 q2 rfl rfl (S.rd (i:=2) rfl) hg2) ?_
    refine zr ?_
    rw [eidx]
    refine zx ?_; refine z ?_
    refine ze ?_
    have hbr:=ja3 (gw:=gw) (gh:=gh) (V:=V) (t:=t) (r:=r) (k:=k) (q:=r k) hw hh.2 hVg (by omega) hrV
    have harea:(qT gw V t r k (r k)).area<=1048576:=by
     have:(uX V t r (r k) k).length<=k:=Nat.le_trans (List.length_filter_le _ _) (by simp)
     show (((uX V t r (r k) k).length:Nat):Int)<=_
     omega
    have harea0:0<=(qT gw V t r k (r k)).area:=Int.natCast_nonneg _
    have hpad:=jdm (gw:=gw) (V:=V) (t:=t) (r:=r) (k:=k) (q:=r k) (by unfold mA; simp [hlow] <;> exact hlow)
    generalize hpa:qT gw V t r k (r k)=pa at *
    generalize k9 V t r (r k)=ci at *
    obtain ⟨pb,hpb⟩:∃ pb:PV,pb={ pa with area:=pa.area+1 }:=⟨_,rfl⟩
    have ep1:((qZ Pk).set ((ci:Int).toNat * 8+1) (ii (pa.area+1)))=qZ (Pk.set ci pb):=by
     rw [Int.toNat_natCast,jgq (by rw [cS]; omega)]
     exact nU (d:=1) (cs:=[ii (pa.area+1)]) hPa (by simp) (by rw [hpb]; rfl)
    have hPb:(Pk.set ci pb)[ci]?=some pb:=by rw [List.getElem?_set,if_pos rfl,if_pos hidx]
    have hbox:((qZ (Pk.set ci pb)).drop ((ci:Int).toNat * 8+4)).take 4=[ii pa.box.x0,ii pa.box.y0,ii pa.box.x1,ii pa.box.y1]:=by
     rw [Int.toNat_natCast,jdl hPb,hpb]; rfl
    have hlenP:(qZ (Pk.set ci pb)).length=Pk.length * 8:=by rw [cS,List.length_set]
    have ep2:(qZ (Pk.set ci pb)).take ((ci:Int).toNat * 8+4) ++ (vD pa.box (kB gw k)).cells ++ (qZ (Pk.set ci pb)).drop ((ci:Int).toNat * 8+4+4)=qZ (Pk.set ci (qT gw V t r (k+1) (r k))):=by
     have:=nU (l:=Pk.set ci pb) (k:=ci) (a:=pb) (a':=qT gw V t r (k+1) (r k)) (d:=4) (cs:=(vD pa.box (kB gw k)).cells) hPb (by simp [RV.cells]) (by rw [hpad,hpb]; rfl)
     rw [List.set_set] at this
     rw [Int.toNat_natCast]
     exact this
    refine z ?_
    refine jE (jbb rfl sa_P) ?_
    refine z ?_
    refine j3 (j7 q2 rfl rfl (S.rd (i:=1) rfl) hga) ?_
    refine zr ?_
    refine jE (jbb rfl sa_P) ?_
    refine z ?_
    refine qV (i:=1) S rfl (qz2 _) rfl rfl rfl rfl (show (ci:Int).toNat * 8+1 < (qZ Pk).length by rw [cS]; omega) rfl ?_
    intro w21_ S
    have S:=S.as_ (i:=1) (h':=.row 44 8 A_P (k9 V t r (k+1)) c_P (qZ (Pk.set ci pb))) rfl rfl (fun h=>h.congr ep1) (fun g h=>h)
    refine zc ?_
    refine yB (C:=fun wq=>Gr w21_ wq) [0,1,2,3,4,5,6] [7,8,9] (by kernel_rfl) (by kernel_rfl) (Gr.drew _) ?_
    simp only [j6,List.drop_succ_cons,List.drop_zero]
    refine y ?_; refine y ?_
    refine jW (jbb rfl sa_P) ?_
    refine y ?_
    refine jV (fun wq hq=>yY q27 rfl (y6 _) rfl ((S.gr hq).rd (i:=1) rfl) hbox rfl rfl) ?_
    refine jV (fun wq hq=>jT q27 rfl (y6 _) rfl ((S.gr hq).blk (i:=0) rfl) rfl rfl) ?_
    refine y8 rfl (fun wq hq=>(jky pa.box (kB gw k) hbr hspot wq).mono (fun _ _ ⟨hv,hg⟩=>⟨hv,hq.trans hg⟩)) ?_
    refine yJ ?_
    intro w22_ g22_
    have S:=S.gr g22_
    refine jE (jbb rfl sa_P) ?_
    refine z ?_
    refine zZ (i:=1) S rfl (y6 _) rfl rfl rfl rfl (show (ci:Int).toNat * 8+4+4<=(qZ (Pk.set ci pb)).length by rw [hlenP]; omega) rfl rfl ?_
    intro w23_ S
    have S:=S.as_ (i:=1) (h':=.row 44 8 A_P (k9 V t r (k+1)) c_P (qZ (Pk.set ci (qT gw V t r (k+1) (r k))))) rfl rfl (fun h=>h.congr ep2) (fun g h=>h)
    refine zr ?_; refine z ?_
    refine ze ?_
    rw [hPs] at S
    exact ⟨m - 1,by omega,k+1,f1,A_P,c_P,by omega,⟨rfl,rfl,rfl,rfl,rfl,rfl,rfl,ie (by omega),trivial⟩,hf1,hfr1,S.sub (.cons _ (.cons_cons _ (.cons_cons _ (.cons_cons _ (.cons_cons _ (.cons_cons _ .slnil))))))⟩
 ·intro hc
  refine zc ?_
  refine jY ?_
  repeat first | refine jP ?_ | refine jU ?_
  show CW _ _ _ _ _ _
  iterate 5 refine z ?_
  refine zq ?_
  obtain rfl:k=V.length:=by omega
  refine jeZ rfl rfl rfl ⟨r,hro,A_L,V.length,A_P,c_P,rfl,(S.row (i:=1) rfl).congr (kC fun i hi=>if_pos hi),S.row (i:=0) rfl,SepL.fresh S (i:=1) rfl,SepL.fresh S (i:=0) rfl,S.out⟩
end
end
section
open Go.RowKit
section
variable {P : Program} {e : Nat → Value} {d : Option Tmp} {ty : TypeId} {ps : String} {af : Array Edge}
theorem jiW {t t':TypeId} {x y:Operand} {a:Int} {k:IntKind} (hx:ev e x=.int .u64 a) (hy:ev e y=.int k 8) (h0:0<=a):OpV P e ⟨d,.binOp .shr t x y t',ty,ps,af,none⟩ (.int .u64 (a / 256)):=by
 intro w
 have h:(binOp .shr t (.int .u64 a) (.int k 8)).run P w=.ok (.int .u64 (a / 256)) w:=by
  have:a.fdiv 256=a / 256:=Int.fdiv_eq_ediv_of_nonneg _ (by omega)
  simp [binOp,Op.shift,IntKind.bits,this]
 simp [OpR,execOp,hx,hy,eqGuard,h]
end
def fS (n:Nat):Nat:=if n=0 then 0 else Nat.log2 n+1
theorem jdN {n:Nat} (h:256<=n):fS n=fS (n / 256)+8:=by
 unfold fS
 rw [if_neg (by omega),if_neg (by omega)]
 have h1:Nat.log2 n=Nat.log2 (n / 256)+8:=by
  rw [Nat.log2_def n,if_pos (by omega),Nat.log2_def (n / 2),if_pos (by omega),Nat.log2_def (n / 2 / 2),if_pos (by omega),Nat.log2_def (n / 2 / 2 / 2),if_pos (by omega),Nat.log2_def (n / 2 / 2 / 2 / 2),if_pos (by omega),
   Nat.log2_def (n / 2 / 2 / 2 / 2 / 2),if_pos (by omega),Nat.log2_def (n / 2 / 2 / 2 / 2 / 2 / 2),if_pos (by omega),Nat.log2_def (n / 2 / 2 / 2 / 2 / 2 / 2 / 2),if_pos (by omega)]
  rw [show n / 2 / 2 / 2 / 2 / 2 / 2 / 2 / 2=n / 256 by omega]
 omega
section
variable {W : World}
theorem jei (n:Nat) (hn:n<=1024):Fn Tryz.prog 221 [.int .u64 n] W (yK (ii (fS n:Nat)) W):=by
 have hb8:∀ m:Nat,m < 256->fS m<=8:=by decide +kernel
 by_cases h8:n < 256
 ·have hle:=hb8 n h8
  have S:=St.start W
  refine zn Tryz.func221 Tryz.results221 Tryz.ntmps221 ?_
  refine z ?_; refine z ?_
  refine jE (xF (B:=false) rfl rfl (decide_eq_false (by omega))) ?_
  refine z ?_
  refine jE (xF (B:=false) rfl rfl (decide_eq_false (by omega))) ?_
  refine z ?_
  refine jE (xF (B:=false) rfl rfl (decide_eq_false (by omega))) ?_
  refine z ?_; refine z ?_
  refine jE (yR (ks:=.u64) (n:=n) (kd:=.u8) (m:=n) fP q5 rfl (by rw [IntKind.wrap_u8]; omega)) ?_
  refine jE (wS (b:=UInt8.ofNat (fS n)) q9 rfl rfl (by omega) ?_) ?_
  ·rw [Int.toNat_natCast]
   clear hle S
   revert n
   intro n _ h8
   revert n
   decide +kernel
  refine jE (yR (ks:=.u8) (n:=((UInt8.ofNat (fS n)).toNat:Int)) (kd:=.i64) (m:=(fS n:Nat)) q5 q3 rfl (by rw [show (UInt8.ofNat (fS n)).toNat=fS n by simp; omega]; exact IntWalk.i64_in _ (by omega))) ?_
  refine zr ?_; refine z ?_
  refine zq ?_
  exact yD rfl ⟨ie (by omega),S.out⟩
 ·have hsh:=jdN (n:=n) (by omega)
  have hle:=hb8 (n / 256) (by omega)
  have ed:(n:Int) / 256=((n / 256:Nat):Int):=by omega
  obtain ⟨q,hq⟩:∃ q,q=n / 256:=⟨_,rfl⟩
  rw [<-hq] at hsh hle ed
  have h8:q < 256:=by omega
  have S:=St.start W
  refine zn Tryz.func221 Tryz.results221 Tryz.ntmps221 ?_
  refine z ?_; refine z ?_
  refine jE (xF (B:=false) rfl rfl (decide_eq_false (by omega))) ?_
  refine z ?_
  refine jE (xF (B:=false) rfl rfl (decide_eq_false (by omega))) ?_
  refine z ?_
  refine jE (xF (B:=true) rfl rfl (decide_eq_true (by omega))) ?_
  refine z ?_
  refine jE (jiW rfl rfl (by omega)) ?_
  rw [ed]
  refine z ?_; refine z ?_; refine zr ?_; iterate 3 refine z ?_
  refine jE (yR (ks:=.u64) (n:=q) (kd:=.u8) (m:=q) fP q5 rfl (by rw [IntKind.wrap_u8]; omega)) ?_
  refine jE (wS (b:=UInt8.ofNat (fS q)) q9 rfl rfl (by omega) ?_) ?_
  ·rw [Int.toNat_natCast]
   clear hle S hsh hq ed
   revert q
   intro q h8
   revert q
   decide +kernel
  refine jE (yR (ks:=.u8) (n:=((UInt8.ofNat (fS q)).toNat:Int)) (kd:=.i64) (m:=(fS q:Nat)) q5 q3 rfl (by rw [show (UInt8.ofNat (fS q)).toNat=fS q by simp; omega]; exact IntWalk.i64_in _ (by omega))) ?_
  refine zr ?_; refine z ?_
  refine zq ?_
  exact yD rfl ⟨ie (by omega),S.out⟩
theorem jj4 (n:Nat) (h1:1<=n) (hn:n<=1024):Fn Tryz.prog 181 [ii n] W (yK (ii (Nat.log2 n:Nat)) W):=by
 have hb:fS n=Nat.log2 n+1:=if_neg (by omega)
 have hl:=Nat.log2_le_self n
 have S:=St.start W
 refine zn Tryz.func181 Tryz.results181 Tryz.ntmps181 ?_
 refine z ?_; refine z ?_
 refine jE (yR q2 fP rfl (sE _ (by omega))) ?_
 refine jC rfl (jei n hn) ?_
 rintro _ w1_ ⟨rfl,g1_⟩
 have S:=S.gr g1_
 refine zr ?_; refine z ?_
 refine zq ?_
 exact yD rfl ⟨ie (by omega),S.out⟩
end
def sqR (V:List Int) (gw:Nat):Nat->Nat->Nat->RG
 | 0,x,y=>⟨V.getD (y * gw+x) 0,V.getD (y * gw+x) 0⟩
 | k+1,x,y=>uU (uU (sqR V gw k x y) (sqR V gw k (x+2 ^ k) y)) (uU (sqR V gw k x (y+2 ^ k)) (sqR V gw k (x+2 ^ k) (y+2 ^ k)))
structure RgOf (v:Nat->Nat->Int) (P:Nat->Nat->Prop) (r:RG):Prop where
 all:∀ x y,P x y->r.lo<=v x y/\v x y<=r.hi
 lo:∃ x y,P x y/\v x y=r.lo
 hi:∃ x y,P x y/\v x y=r.hi
theorem RgOf.uniq {v:Nat->Nat->Int} {P:Nat->Nat->Prop} {r r':RG} (h:RgOf v P r) (h':RgOf v P r'):r=r':=by
 obtain ⟨x1,y1,p1,e1⟩:=h.lo
 obtain ⟨x2,y2,p2,e2⟩:=h.hi
 obtain ⟨x3,y3,p3,e3⟩:=h'.lo
 obtain ⟨x4,y4,p4,e4⟩:=h'.hi
 have a1:=h'.all x1 y1 p1
 have a2:=h'.all x2 y2 p2
 have a3:=h.all x3 y3 p3
 have a4:=h.all x4 y4 p4
 obtain ⟨l,u⟩:=r
 obtain ⟨l',u'⟩:=r'
 dsimp only at *
 rw [show l=l' by omega,show u=u' by omega]
theorem RgOf.join {v:Nat->Nat->Int} {P Q R:Nat->Nat->Prop} {a b:RG} (h:RgOf v P a) (h':RgOf v Q b) (hR:∀ x y,R x y ↔ P x y\/Q x y):RgOf v R (uU a b):=by
 refine ⟨fun x y hx=>?_,?_,?_⟩
 ·unfold uU
  dsimp only
  rcases (hR x y).1 hx with p | q
  ·have:=h.all x y p; omega
  ·have:=h'.all x y q; omega
 ·unfold uU
  dsimp only
  rcases Int.le_total a.lo b.lo with e | e
  ·obtain ⟨x,y,p,hv⟩:=h.lo
   exact ⟨x,y,(hR x y).2 (.inl p),by rw [hv]; omega⟩
  ·obtain ⟨x,y,p,hv⟩:=h'.lo
   exact ⟨x,y,(hR x y).2 (.inr p),by rw [hv]; omega⟩
 ·unfold uU
  dsimp only
  rcases Int.le_total a.hi b.hi with e | e
  ·obtain ⟨x,y,p,hv⟩:=h'.hi
   exact ⟨x,y,(hR x y).2 (.inr p),by rw [hv]; omega⟩
  ·obtain ⟨x,y,p,hv⟩:=h.hi
   exact ⟨x,y,(hR x y).2 (.inl p),by rw [hv]; omega⟩
def acK (gw k:Nat):Nat:=gw+1 - 2 ^ k
def fC (V:List Int) (gw gh k:Nat):List RG:=(List.range (acK gw k * acK gh k)).map fun i=>sqR V gw k (i % acK gw k) (i / acK gw k)
theorem jcq (V:List Int) (gw gh k:Nat):(fC V gw gh k).length=acK gw k * acK gh k:=by simp [fC]
theorem r8 (V:List Int) {gw gh k x y:Nat} (hx:x < acK gw k) (hy:y < acK gh k):(fC V gw gh k)[y * acK gw k+x]?=some (sqR V gw k x y):=by
 have h1:=kW (Y:=y) hx
 have hlt:y * acK gw k+x < acK gw k * acK gh k:=by
  have:=Nat.mul_le_mul_right (acK gw k) (show y+1<=acK gh k from hy)
  rw [Nat.succ_mul,Nat.mul_comm (acK gh k)] at this
  omega
 unfold fC
 rw [List.getElem?_map,List.getElem?_range hlt,Option.map_some,h1.1,h1.2]
end
section
def hfN (n k:Nat):Nat:=(n - 1) / 2 ^ k+1
theorem qG {n:Nat} (h:1<=n):hfN n 0=n:=by simp [hfN]; omega
theorem mP (n k:Nat):hfN n (k+1)=(hfN n k - 1) / 2+1:=by
 unfold hfN
 rw [Nat.add_sub_cancel,Nat.pow_succ,Nat.div_div_eq_div_mul]
theorem bT (n k:Nat):1<=hfN n k:=Nat.le_add_left 1 _
theorem fF {n:Nat} (k:Nat) (h:1<=n):hfN n k<=n:=by
 have:=Nat.div_le_self (n - 1) (2 ^ k)
 unfold hfN
 generalize (n - 1) / 2 ^ k=q at *
 omega
theorem mQ {n c:Nat} (k:Nat) (h:c < n):c / 2 ^ k < hfN n k:=by
 have:=Nat.div_le_div_right (c:=2 ^ k) (show c<=n - 1 by omega)
 unfold hfN; omega
theorem d8 {n k x:Nat} (h:x < hfN n (k+1)):2 * x < hfN n k:=by
 rw [mP] at h
 have:=bT n k
 omega
def mnd (f:Nat->Nat->RG) (w h x y:Nat):Nat->RG
 | 0=>f (2 * x) (2 * y)
 | i+1=>if 2 * x+i % 2 < w/\2 * y+i / 2 < h then uU (mnd f w h x y i) (f (2 * x+i % 2) (2 * y+i / 2)) else mnd f w h x y i
theorem sV {f g:Nat->Nat->RG} {w h x y:Nat} (hx:2 * x < w) (hy:2 * y < h) (he:∀ u d,u / 2=x->d / 2=y->u < w->d < h->f u d=g u d):∀ i,i<=4->mnd f w h x y i=mnd g w h x y i
 | 0,_=>he _ _ (by omega) (by omega) hx hy
 | i+1,hi=>by
  unfold mnd
  rw [sV hx hy he i (by omega)]
  split
  ·rename_i hc
   rw [he _ _ (by omega) (by omega) hc.1 hc.2]
  ·rfl
theorem jcn {f:Nat->Nat->RG} {w h x y:Nat} (hx:2 * x < w) (hy:2 * y < h):∀ n,n<=4->(∃ u d,u / 2=x/\d / 2=y/\u < w/\d < h/\(mnd f w h x y n).lo=(f u d).lo)/\∃ u d,u / 2=x/\d / 2=y/\u < w/\d < h/\(mnd f w h x y n).hi=(f u d).hi
 | 0,_=>⟨⟨2 * x,2 * y,by omega,by omega,hx,hy,rfl⟩,⟨2 * x,2 * y,by omega,by omega,hx,hy,rfl⟩⟩
 | n+1,hn=>by
  obtain ⟨⟨u,d,h1,h2,h3,h4,h5⟩,⟨u',d',h1',h2',h3',h4',h5'⟩⟩:=jcn (f:=f) hx hy n (by omega)
  unfold mnd
  split
  ·rename_i hc
   unfold uU
   constructor
   ·rcases Int.le_total (mnd f w h x y n).lo (f (2 * x+n % 2) (2 * y+n / 2)).lo with h | h
    ·exact ⟨u,d,h1,h2,h3,h4,by show min _ _=_; rw [Int.min_eq_left h,h5]⟩
    ·exact ⟨2 * x+n % 2,2 * y+n / 2,by omega,by omega,hc.1,hc.2,by show min _ _=_; rw [Int.min_eq_right h]⟩
   ·rcases Int.le_total (f (2 * x+n % 2) (2 * y+n / 2)).hi (mnd f w h x y n).hi with h | h
    ·exact ⟨u',d',h1',h2',h3',h4',by show max _ _=_; rw [Int.max_eq_left h,h5']⟩
    ·exact ⟨2 * x+n % 2,2 * y+n / 2,by omega,by omega,hc.1,hc.2,by show max _ _=_; rw [Int.max_eq_right h]⟩
  ·exact ⟨⟨u,d,h1,h2,h3,h4,h5⟩,⟨u',d',h1',h2',h3',h4',h5'⟩⟩
def pm (gw gh:Nat) (V:List Int):Nat->Nat->Nat->RG
 | 0,x,y=>⟨V.getD (y * gw+x) 0,V.getD (y * gw+x) 0⟩
 | k+1,x,y=>mnd (pm gw gh V k) (hfN gw k) (hfN gh k) x y 4
section
variable {gw gh : Nat} {V V' : List Int}
theorem jaX (hw:1<=gw) (hh:1<=gh):∀ (k x y:Nat),x < hfN gw k->y < hfN gh k->(∃ cx cy,cx < gw/\cy < gh/\cx / 2 ^ k=x/\cy / 2 ^ k=y/\(pm gw gh V k x y).lo=V.getD (cy * gw+cx) 0)/\∃ cx cy,cx < gw/\cy < gh/\cx / 2 ^ k=x/\cy / 2 ^ k=y/\(pm gw gh V k x y).hi=V.getD (cy * gw+cx) 0
 | 0,x,y,hx,hy=>by
  rw [qG hw] at hx
  rw [qG hh] at hy
  exact ⟨⟨x,y,hx,hy,by simp,by simp,rfl⟩,⟨x,y,hx,hy,by simp,by simp,rfl⟩⟩
 | k+1,x,y,hx,hy=>by
  obtain ⟨⟨u,d,h1,h2,h3,h4,h5⟩,⟨u',d',h1',h2',h3',h4',h5'⟩⟩:=jcn (f:=pm gw gh V k) (d8 hx) (d8 hy) 4 (Nat.le_refl _)
  obtain ⟨⟨cx,cy,a1,a2,a3,a4,a5⟩,_⟩:=jaX hw hh k u d h3 h4
  obtain ⟨_,⟨cx',cy',a1',a2',a3',a4',a5'⟩⟩:=jaX hw hh k u' d' h3' h4'
  have ed:∀ c,c / 2 ^ (k+1)=c / 2 ^ k / 2:=fun c=>by rw [Nat.pow_succ,Nat.div_div_eq_div_mul]
  exact ⟨⟨cx,cy,a1,a2,by rw [ed,a3,h1],by rw [ed,a4,h2],h5.trans a5⟩,⟨cx',cy',a1',a2',by rw [ed,a3',h1'],by rw [ed,a4',h2'],h5'.trans a5'⟩⟩
theorem jd5:∀ (k x y:Nat),x < hfN gw k->y < hfN gh k->(∀ cx cy,cx < gw->cy < gh->cx / 2 ^ k=x->cy / 2 ^ k=y->V.getD (cy * gw+cx) 0=V'.getD (cy * gw+cx) 0)->1<=gw->1<=gh->pm gw gh V k x y=pm gw gh V' k x y
 | 0,x,y,hx,hy,h,hw,hh=>by
  rw [qG hw] at hx
  rw [qG hh] at hy
  have:=h x y hx hy (by simp) (by simp)
  unfold pm
  rw [this]
 | k+1,x,y,hx,hy,h,hw,hh=>sV (d8 hx) (d8 hy) (fun u d h1 h2 h3 h4=>jd5 k u d h3 h4 (fun cx cy a1 a2 a3 a4=>h cx cy a1 a2 (by rw [Nat.pow_succ,<-Nat.div_div_eq_div_mul,a3,h1]) (by rw [Nat.pow_succ,<-Nat.div_div_eq_div_mul,a4,h2])) hw hh) 4 (Nat.le_refl _)
end
end
section
open Go.RowKit
section
variable {P : Program} {e : Nat → Value} {d : Option Tmp} {ty : TypeId} {ps : String} {af : Array Edge}
theorem ja9 {t t':TypeId} {x y:Operand} {a k:Nat} {kd:IntKind} (hx:ev e x=ii a) (hy:ev e y=.int kd k) (hk:k<=64):OpV P e ⟨d,.binOp .shr t x y t',ty,ps,af,none⟩ (ii ((a / 2 ^ k:Nat):Int)):=by
 intro w
 have h:(binOp .shr t (ii a) (.int kd k)).run P w=.ok (ii ((a / 2 ^ k:Nat):Int)) w:=by
  have h1:min (k:Int).toNat 64=k:=by rw [Int.toNat_natCast]; omega
  have h2:¬ (k:Int) < 0:=by omega
  have:(a:Int).fdiv (2 ^ k)=((a / 2 ^ k:Nat):Int):=by
   rw [Int.fdiv_eq_ediv_of_nonneg _ (Int.le_of_lt (Int.pow_pos (by omega)))]
   push_cast
   rfl
  simp only [Int.toNat_natCast] at h1
  simp [binOp,Op.shift,IntKind.bits,this,h1,h2]
 simp [OpR,execOp,hx,hy,eqGuard,h]
theorem r5 {t t':TypeId} {x y:Operand} {a k:Nat} {kd:IntKind} (hx:ev e x=ii a) (hy:ev e y=.int kd k) (hk:k<=64) (hlt:a * 2 ^ k < 9223372036854775808):OpV P e ⟨d,.binOp .shl t x y t',ty,ps,af,none⟩ (ii ((a * 2 ^ k:Nat):Int)):=by
 refine jba hx hy (by omega) ?_
 have h1:min (k:Int).toNat IntKind.i64.bits=k:=by rw [Int.toNat_natCast]; show min k 64=k; omega
 rw [h1,show (a:Int) * 2 ^ k=((a * 2 ^ k:Nat):Int) by push_cast; rfl]
 exact IntWalk.i64_in _ (by omega)
end
def nLv (gw gh:Nat):Nat:=fS (max gw gh - 1)+1
theorem jaC:∀ n:Nat,n < 1024->fS n<=10:=by decide +kernel
theorem xR {gw gh:Nat} (hw:gw<=1024) (hh:gh<=1024):1<=nLv gw gh/\nLv gw gh<=11:=by
 unfold nLv
 by_cases h:max gw gh - 1 < 1024
 ·have:=jaC _ h; omega
 ·omega
theorem jg0 {k:Nat} (hk:k<=10):2 ^ k<=1024:=Nat.pow_le_pow_right (by omega) hk
section
variable {W : World} {gw gh : Nat}
theorem lQ (hw:1<=gw/\gw<=1024) (hh:1<=gh/\gh<=1024):Fn Tryz.prog 156 [ii gw,ii gh] W (yK (.tuple #[ii (nLv gw gh),ii 0]) W):=by
 have hwi:kD 0 0 0 0 gw gh=0:=qW (by omega) (by omega) (by omega) (by omega)
 have hb:=jaC (max gw gh - 1) (by omega)
 have e1:max (gw:Int) gh - 1=((max gw gh - 1:Nat):Int):=by omega
 have S:=St.start W
 refine zn Tryz.func156 Tryz.results156 Tryz.ntmps156 ?_
 refine z ?_; refine z ?_
 refine zs ?_
 refine jE (jN (pl:=[(0,1),(1,1),(2,1),(3,1)]) q27 qX (fun w=>by kernel_rfl) rfl rfl) ?_
 refine z ?_; refine z ?_
 refine jC rfl (zI _ _ _ _ _ _ (by omega) (by omega) W) ?_
 rintro _ w1_ ⟨rfl,g1_⟩
 have S:=S.gr g1_
 rw [hwi]
 refine z ?_; refine z ?_; refine zf ?_; (iterate 3 refine z ?_); refine zr ?_
 rw [e1]
 refine jE (yR (ks:=.i64) (n:=((max gw gh - 1:Nat):Int)) (kd:=.u64) (m:=((max gw gh - 1:Nat):Int)) q2 fP rfl (sE _ (by omega))) ?_
 refine jC rfl (jei (W:=w1_) (max gw gh - 1) (by omega)) ?_
 rintro _ w2_ ⟨rfl,g2_⟩
 have S:=S.gr g2_
 refine zr ?_; refine z ?_; refine z ?_
 refine zq ?_
 exact kY rfl rfl ⟨by unfold nLv; rfl,S.out⟩
theorem jdW (n k:Nat) (hn:1<=n/\n<=1024) (hk:k<=10):Fn Tryz.prog 157 [ii n,ii k] W (yK (ii (hfN n k)) W):=by
 have e1:(n:Int) - 1=((n - 1:Nat):Int):=by omega
 have hle:=fF k hn.1
 have e2:(((n - 1) / 2 ^ k:Nat):Int)+1=(hfN n k:Nat):=rfl
 have S:=St.start W
 refine zn Tryz.func157 Tryz.results157 Tryz.ntmps157 ?_
 refine z ?_; refine z ?_; refine zr ?_
 rw [e1]
 refine z ?_
 refine jE (ja9 rfl rfl (by omega)) ?_
 refine jE (yI rfl (by rw [e2]; omega)) ?_
 rw [e2]
 refine z ?_
 refine zq ?_
 exact yD rfl ⟨rfl,S.out⟩
theorem jaI (k:Nat) (hw:1<=gw/\gw<=1024) (hh:1<=gh/\gh<=1024) (hk:k < nLv gw gh):Fn Tryz.prog 98 [ii gw,ii gh,ii k] W (yK (.tuple #[ii (hfN gw k),ii (hfN gh k),ii 0]) W):=by
 have hl:=xR hw.2 hh.2
 have S:=St.start W
 refine zn Tryz.func98 Tryz.results98 Tryz.ntmps98 ?_
 iterate 5 refine z ?_
 refine jC rfl (lQ hw hh) ?_
 rintro _ w1_ ⟨rfl,g1_⟩
 have S:=S.gr g1_
 (iterate 6 refine z ?_); refine zf ?_; refine z ?_; refine z ?_; refine zf ?_; iterate 3 refine z ?_
 refine zw2 ⟨?_⟩
 iterate 4 refine z ?_
 refine jC rfl (jdW gw k hw (by omega)) ?_
 rintro _ w2_ ⟨rfl,g2_⟩
 have S:=S.gr g2_
 refine z ?_; refine z ?_
 refine jC rfl (jdW gh k hh (by omega)) ?_
 rintro _ w3_ ⟨rfl,g3_⟩
 have S:=S.gr g3_
 iterate 3 refine z ?_
 refine zq ?_
 exact jeZ rfl rfl rfl ⟨rfl,S.out⟩
theorem jbG (k x y:Nat) (hw:1<=gw/\gw<=1024) (hh:1<=gh/\gh<=1024) (hk:k < nLv gw gh) (hx:x < hfN gw k) (hy:y < hfN gh k):Fn Tryz.prog 161 [ii gw,ii gh,ii k,.agg #[ii x,ii y]] W (yK (ii 0) W):=by
 have S:=St.start W
 refine zn Tryz.func161 Tryz.results161 Tryz.ntmps161 ?_
 refine zs ?_
 refine jF (jO rfl) S ?_
 intro b_c w2_ g2_ S
 iterate 4 refine z ?_
 refine jC rfl (jaI k hw hh hk) ?_
 rintro _ w3_ ⟨rfl,g3_⟩
 have S:=S.gr g3_
 (iterate 8 refine z ?_); refine zf ?_; (iterate 3 refine z ?_); refine zf ?_; (iterate 4 refine z ?_); refine zf ?_; (iterate 4 refine z ?_); refine zf ?_; (iterate 5 refine z ?_); refine zf ?_; iterate 3 refine z ?_
 refine zq ?_
 exact yD rfl ⟨rfl,S.out⟩
theorem jio (k x y:Nat) (hw:1<=gw/\gw<=1024) (hh:1<=gh/\gh<=1024) (hk:k < nLv gw gh) (hx:x < hfN gw k) (hy:y < hfN gh k):Fn Tryz.prog 100 [ii gw,ii gh,ii k,.agg #[ii x,ii y]] W
  (yK (.tuple #[.agg #[ii (x * 2 ^ k:Nat),ii (y * 2 ^ k:Nat),ii ((min ((x+1) * 2 ^ k) gw - 1:Nat):Int),ii ((min ((y+1) * 2 ^ k) gh - 1:Nat):Int)],ii 0]) W):=by
 have hl:=xR hw.2 hh.2
 have hp:=jg0 (k:=k) (by omega)
 have hp0:0 < 2 ^ k:=Nat.pow_pos (by omega)
 have hxl:=fF k hw.1
 have hyl:=fF k hh.1
 have b1:x * 2 ^ k<=1024 * 1024:=Nat.mul_le_mul (by omega) hp
 have b2:y * 2 ^ k<=1024 * 1024:=Nat.mul_le_mul (by omega) hp
 have b3:(x+1) * 2 ^ k<=1024 * 1024:=Nat.mul_le_mul (by omega) hp
 have b4:(y+1) * 2 ^ k<=1024 * 1024:=Nat.mul_le_mul (by omega) hp
 have c3:1<=(x+1) * 2 ^ k:=Nat.mul_le_mul (show 1<=x+1 by omega) hp0
 have c4:1<=(y+1) * 2 ^ k:=Nat.mul_le_mul (show 1<=y+1 by omega) hp0
 have ex:(x:Int)+1=((x+1:Nat):Int):=rfl
 have ey:(y:Int)+1=((y+1:Nat):Int):=rfl
 have e3:min (((x+1) * 2 ^ k:Nat):Int) gw - 1=((min ((x+1) * 2 ^ k) gw - 1:Nat):Int):=by omega
 have e4:min (((y+1) * 2 ^ k:Nat):Int) gh - 1=((min ((y+1) * 2 ^ k) gh - 1:Nat):Int):=by omega
 have S:=St.start W
 refine zn Tryz.func100 Tryz.results100 Tryz.ntmps100 ?_
 refine zs ?_
 refine jF (jO rfl) S ?_
 intro b_c w2_ g2_ S
 refine jF (jL qX rfl) S ?_
 intro b_r w4_ g4_ S
 iterate 5 refine z ?_
 refine jC rfl (jbG k x y hw hh hk hx hy) ?_
 rintro _ w5_ ⟨rfl,g5_⟩
 have S:=S.gr g5_
 refine z ?_; refine z ?_; refine zf ?_
 refine zc ?_
 refine jM rfl ?_
 refine zc ?_
 refine j5 ?_
 try show CW _ _ _ _ _ _
 refine zc ?_
 refine yB (C:=fun wq=>Gr w5_ wq) [0,1,2,3,4,5,6,7,8,9,10,11,12,13,14,15,16,17,18,19,20,21,22,23] [24,25,26] (by kernel_rfl) (by kernel_rfl) (Gr.drew _) ?_
 simp only [j6,List.drop_succ_cons,List.drop_zero]
 refine jW (jD q23 rfl qz2 rfl rfl) ?_
 refine jV (fun wq hq=>jB q2 rfl rfl ((S.gr hq).blk (i:=1) rfl) rfl) ?_
 refine jW (jA rfl) ?_
 refine jW (r5 rfl rfl (by omega) (by omega)) ?_
 refine jW (jD q23 rfl qz2 rfl rfl) ?_
 refine jV (fun wq hq=>jB q2 rfl rfl ((S.gr hq).blk (i:=1) rfl) rfl) ?_
 refine jW (jA rfl) ?_
 refine jW (r5 rfl rfl (by omega) (by omega)) ?_
 refine jW (jD q23 rfl qz2 rfl rfl) ?_
 refine jV (fun wq hq=>jB q2 rfl rfl ((S.gr hq).blk (i:=1) rfl) rfl) ?_
 refine yr ?_
 rw [ex]
 refine jW (jA rfl) ?_
 refine jW (r5 rfl rfl (by omega) (by omega)) ?_
 iterate 2 refine jW (jA rfl) ?_
 refine jW (yI rfl (by rw [e3]; omega)) ?_
 rw [e3]
 refine jW (jD q23 rfl qz2 rfl rfl) ?_
 refine jV (fun wq hq=>jB q2 rfl rfl ((S.gr hq).blk (i:=1) rfl) rfl) ?_
 refine yr ?_
 rw [ey]
 refine jW (jA rfl) ?_
 refine jW (r5 rfl rfl (by omega) (by omega)) ?_
 iterate 2 refine jW (jA rfl) ?_
 refine jW (yI rfl (by rw [e4]; omega)) ?_
 rw [e4]
 refine yJ ?_
 intro w6_ g6_
 have S:=S.gr g6_
 refine jE (jN (pl:=[(0,1),(1,1),(2,1),(3,1)]) q27 qX (fun w=>by kernel_rfl) rfl rfl) ?_
 refine jH (i:=0) S rfl (y6 _) rfl rfl rfl rfl rfl rfl ?_
 intro w7_ S
 refine z ?_
 refine zq ?_
 exact wQ q27 rfl (y6 _) rfl (S.blk (i:=0) rfl) rfl rfl rfl ⟨rfl,S.out⟩
theorem jbH (k x y:Nat) (hw:1<=gw/\gw<=1024) (hh:1<=gh/\gh<=1024) (hk:k < nLv gw gh) (hx:x < gw) (hy:y < gh):Fn Tryz.prog 216 [ii gw,ii gh,ii k,.agg #[ii x,ii y]] W
  (yK (.tuple #[.agg #[ii (x / 2 ^ k:Nat),ii (y / 2 ^ k:Nat)],ii 0]) W):=by
 have hl:=xR hw.2 hh.2
 have S:=St.start W
 refine zn Tryz.func216 Tryz.results216 Tryz.ntmps216 ?_
 refine zs ?_
 refine jF (jO rfl) S ?_
 intro b_c w2_ g2_ S
 refine jF (jL kL rfl) S ?_
 intro b_r w4_ g4_ S
 iterate 4 refine z ?_
 refine jC rfl (jaI k hw hh hk) ?_
 rintro _ w5_ ⟨rfl,g5_⟩
 have S:=S.gr g5_
 (iterate 8 refine z ?_); refine zf ?_; iterate 3 refine z ?_
 refine jC rfl (jbG 0 x y hw hh (by omega) (by rw [qG hw.1]; exact hx) (by rw [qG hh.1]; exact hy)) ?_
 rintro _ w6_ ⟨rfl,g6_⟩
 have S:=S.gr g6_
 refine z ?_; refine z ?_; refine zf ?_
 refine zc ?_
 refine jM rfl ?_
 refine zc ?_
 refine j5 ?_
 try show CW _ _ _ _ _ _
 refine zc ?_
 refine yB (C:=fun wq=>Gr w6_ wq) [0,1,2,3,4,5,6,7] [8,9,10] (by kernel_rfl) (by kernel_rfl) (Gr.drew _) ?_
 simp only [j6,List.drop_succ_cons,List.drop_zero]
 refine jW (jD q23 rfl qz2 rfl rfl) ?_
 refine jV (fun wq hq=>jB q2 rfl rfl ((S.gr hq).blk (i:=1) rfl) rfl) ?_
 refine jW (jA rfl) ?_
 refine jW (ja9 rfl rfl (by omega)) ?_
 refine jW (jD q23 rfl qz2 rfl rfl) ?_
 refine jV (fun wq hq=>jB q2 rfl rfl ((S.gr hq).blk (i:=1) rfl) rfl) ?_
 refine jW (jA rfl) ?_
 refine jW (ja9 rfl rfl (by omega)) ?_
 refine yJ ?_
 intro w7_ g7_
 have S:=S.gr g7_
 refine jE (jN (pl:=[(0,1),(1,1)]) q23 kL (fun w=>by kernel_rfl) rfl rfl) ?_
 refine jH (i:=0) S rfl (qI _) rfl rfl rfl rfl rfl rfl ?_
 intro w8_ S
 refine z ?_
 refine zq ?_
 exact wQ q23 rfl (qI _) rfl (S.blk (i:=0) rfl) rfl rfl rfl ⟨rfl,S.out⟩
end
end
section
def st (V:List Int) (i j:Nat):Int:=1+max (V.getD i 0 - V.getD j 0) (-(V.getD i 0 - V.getD j 0))
theorem zY (V:List Int) (i j:Nat):1<=st V i j:=by unfold st; omega
theorem jix (V:List Int) (i j:Nat):st V i j=st V j i:=by unfold st; omega
structure IsDist (gw:Nat) (V:List Int) (a:Nat) (d:Nat->Int):Prop where
 zero:d a=0
 nn:∀ i,i < V.length->0<=d i
 le:∀ i j,i < V.length->j < V.length->Side gw i j->d j<=d i+st V i j
 pred:∀ j,j < V.length->j ≠ a->∃ i,i < V.length/\Side gw i j/\d j=d i+st V i j
theorem IsDist.le_of {gw a:Nat} {V:List Int} {d d':Nat->Int} (h:IsDist gw V a d) (h0:d' a<=0) (hle:∀ i j,i < V.length->j < V.length->Side gw i j->d' i<=d i->d' j<=d' i+st V i j):∀ j,j < V.length->d' j<=d j:=by
 have key:∀ (n:Nat) (j:Nat),j < V.length->d j < n->d' j<=d j:=by
  intro n
  induction n with
  | zero=>intro j hj hn; have:=h.nn j hj; omega
  | succ n ih =>
   intro j hj hn
   by_cases e:j=a
   ·subst e; rw [h.zero]; exact h0
   ·obtain ⟨i,hi,s,he⟩:=h.pred j hj e
    have:=zY V i j
    have h1:=ih i hi (by omega)
    have:=hle i j hi hj s h1
    omega
 exact fun j hj=>key ((d j).toNat+1) j hj (by have:=h.nn j hj; omega)
theorem IsDist.uniq {gw a:Nat} {V:List Int} {d d':Nat->Int} (h:IsDist gw V a d) (h':IsDist gw V a d') {j:Nat} (hj:j < V.length):d j=d' j:=by
 have h1:=h.le_of (d':=d') (by rw [h'.zero]; exact Int.le_refl _) (fun i j hi hj s _=>h'.le i j hi hj s) j hj
 have h2:=h'.le_of (d':=d) (by rw [h.zero]; exact Int.le_refl _) (fun i j hi hj s _=>h.le i j hi hj s) j hj
 omega
theorem n7 {gw i:Nat} (hgw:0 < gw):(i+1) % gw=if i % gw+1=gw then 0 else i % gw+1:=by
 have h:=Nat.mod_lt i hgw
 have e:=Nat.div_add_mod i gw
 by_cases h1:i % gw+1=gw
 ·rw [if_pos h1,show i+1=gw * (i / gw+1) by rw [Nat.mul_add,Nat.mul_one]; omega,Nat.mul_mod_right]
 ·rw [if_neg h1,show i+1=gw * (i / gw)+(i % gw+1) by omega,Nat.mul_add_mod,Nat.mod_eq_of_lt (by omega)]
def zS (gw n i:Nat):List Nat :=
 (if gw<=i then [i - gw] else []) ++ (if 0 < i % gw then [i - 1] else []) ++ (if i % gw+1 < gw then [i+1] else []) ++ (if i+gw < n then [i+gw] else [])
theorem jao (gw n i:Nat):(zS gw n i).length<=4:=by
 unfold zS
 simp only [List.length_append]
 split <;> split <;> split <;> split <;> simp
theorem jbe {gw gh i:Nat} (hgw:0 < gw) (hi:i < gw * gh) (h:i % gw+1 < gw):i+1 < gw * gh:=by
 have hd:i / gw < gh:=Nat.div_lt_of_lt_mul hi
 have e:=Nat.div_add_mod i gw
 have h2:gw * (i / gw+1)<=gw * gh:=Nat.mul_le_mul_left _ hd
 rw [Nat.mul_add,Nat.mul_one] at h2
 omega
theorem xA {gw gh i j : Nat} (hgw : 0 < gw) (hi : i < gw * gh) : j ∈ zS gw (gw * gh) i ↔ j < gw * gh ∧ Side gw i j := by
  have hm := n7 (i := i) hgw
  have hlt := Nat.mod_lt i hgw
  have hn := jbe (gh := gh) hgw hi
  unfold zS Side
  simp only [List.mem_append]
  constructor
  · rintro (((h | h) | h) | h)
    · split at h
      · simp only [List.mem_singleton] at h; subst h; omega
      · cases h
    · split at h
      · rename_i h0
        simp only [List.mem_singleton] at h; subst h
        have : 1 ≤ i := by rcases Nat.eq_zero_or_pos i with h | h; · subst h; simp at h0
                           · exact h
        omega
      · cases h
    · split at h
      · simp only [List.mem_singleton] at h; subst h
        refine ⟨hn (by assumption), .inr (.inl ⟨rfl, ?_⟩)⟩
        rw [hm, if_neg (by omega)]; omega
      · cases h
    · split at h
      · simp only [List.mem_singleton] at h; subst h; omega
      · cases h
  · rintro ⟨hj, ⟨e, h0⟩ | ⟨e, h0⟩ | e | e⟩
    · refine .inl (.inl (.inr ?_)); rw [if_pos h0]; simp; omega
    · refine .inl (.inr ?_)
      subst e
      rw [hm] at h0
      by_cases h1 : i % gw + 1 = gw
      · rw [if_pos h1] at h0; omega
      · rw [if_pos (by omega)]; simp
    · refine .inl (.inl (.inl ?_)); rw [if_pos (by omega)]; simp; omega
    · refine .inr ?_; rw [if_pos (by omega)]; simp; omega
theorem jfB {gw gh : Nat} {P : Nat → Prop} (hgw : 0 < gw) (hP : ∀ i j, i < gw * gh → j < gw * gh → Side gw i j → P i → P j) {a : Nat} (ha : a < gw * gh) (h : P a) : ∀ i, i < gw * gh → P i := by
  have key : ∀ i, i < gw * gh → (P i ↔ P 0) := by
    intro i
    induction i using Nat.strongRecOn with
    | _ i ih =>
      intro hi
      by_cases h0 : 0 < i % gw
      · have h1 : 1 ≤ i := by rcases Nat.eq_zero_or_pos i with h | h; · subst h; simp at h0
                              · exact h
        have s : Side gw i (i - 1) := .inl ⟨by omega, h0⟩
        exact ⟨fun p => (ih (i - 1) (by omega) (by omega)).1 (hP _ _ hi (by omega) s p), fun p => hP _ _ (by omega) hi s.symm ((ih (i - 1) (by omega) (by omega)).2 p)⟩
      · by_cases h1 : gw ≤ i
        · have s : Side gw i (i - gw) := .inr (.inr (.inl (by omega)))
          exact ⟨fun p => (ih (i - gw) (by omega) (by omega)).1 (hP _ _ hi (by omega) s p), fun p => hP _ _ (by omega) hi s.symm ((ih (i - gw) (by omega) (by omega)).2 p)⟩
        · have : i = 0 := by rw [Nat.mod_eq_of_lt (by omega)] at h0; omega
          rw [this]
  exact fun i hi => (key i hi).2 ((key a ha).1 h)
def wI (n:Nat) (o:Nat->Int):Nat:=((List.range n).filter fun i=>decide (0<=o i)).length
def kR (o:Nat->Int) (k:Nat) (c:Int):Nat->Int:=fun i=>if i=k then c else o i
theorem jjx (n:Nat) (o:Nat->Int):wI n o<=n:=by
 have:=List.length_filter_le (fun i=>decide (0<=o i)) (List.range n)
 simpa [wI] using this
theorem bZ {o:Nat->Int} {k:Nat} {c:Int} (hc:0<=c) (ho:o k < 0):∀ n,wI n (kR o k c)=wI n o+(if k < n then 1 else 0)
 | 0=>by simp [wI]
 | n+1=>by
  have ih:=bZ hc ho n
  unfold wI at *
  rw [List.range_succ,List.filter_append,List.filter_append,List.length_append,List.length_append,ih]
  by_cases e:n=k
  ·subst e
   have h1:(kR o n c) n=c:=by simp [kR]
   simp [h1,hc]
   omega
  ·have h1:(kR o k c) n=o n:=by simp [kR,e]
   simp only [List.filter_cons,List.filter_nil,h1]
   split <;> split <;> split <;> simp <;> omega
def far:Int:=4294967297
structure DJ (gw gh:Nat) (V:List Int) (a:Nat) (o:Nat->Int) (Q:List (Int × Nat)) (X:Nat->Nat->Prop):Prop where
 ent:∀ x ∈ Q,x.2 < gw * gh/\0<=x.1/\((x.2=a/\x.1=0)\/∃ p,p < gw * gh/\0<=o p/\Side gw p x.2/\x.1=o p+st V p x.2)
 zero:0<=o a->o a=0
 pred:∀ j,j < gw * gh->j ≠ a->0<=o j->∃ i,i < gw * gh/\Side gw i j/\0<=o i/\o j=o i+st V i j
 le:∀ i j,i < gw * gh->j < gw * gh->Side gw i j->0<=o i->0<=o j->o j<=o i+st V i j
 front:∀ p j,p < gw * gh->j < gw * gh->Side gw p j->0<=o p->o j < 0->¬ X p j->(o p+st V p j,j) ∈ Q
 start:o a < 0->((0:Int),a) ∈ Q
 low:∀ p,p < gw * gh->0<=o p->∀ x ∈ Q,o p<=x.1
 bnd:∀ x ∈ Q,x.1<=wI (gw * gh) o * far
 obnd:∀ p,p < gw * gh->o p<=wI (gw * gh) o * far
section
variable {gw gh a : Nat} {V : List Int} {o : Nat → Int} {Q Q' : List (Int × Nat)} {X : Nat → Nat → Prop}
theorem DJ.init (ha:a < gw * gh):DJ gw gh V a (fun _=>-1) [(0,a)] (fun _ _=>False) where
 ent:=fun x hx=>by simp at hx; subst hx; exact ⟨ha,Int.le_refl _,.inl ⟨rfl,rfl⟩⟩
 zero:=fun h=>by omega
 pred:=fun j _ _ h=>by omega
 le:=fun i j _ _ _ h=>by omega
 front:=fun p j _ _ _ h=>by omega
 start:=fun _=>by simp
 low:=fun p _ h=>by omega
 bnd:=fun x hx=>by simp at hx; subst hx; unfold far; show (0:Int)<=_; omega
 obnd:=fun p _=>by unfold far; show (-1:Int)<=_; omega
theorem DJ.perm (h:DJ gw gh V a o Q X) (hp:∀ x,x ∈ Q' ↔ x ∈ Q):DJ gw gh V a o Q' X :=
 ⟨fun x hx=>h.ent x ((hp x).1 hx),h.zero,h.pred,h.le,fun p j a b c d e f=>(hp _).2 (h.front p j a b c d e f),fun e=>(hp _).2 (h.start e),fun p a b x hx=>h.low p a b x ((hp x).1 hx),fun x hx=>h.bnd x ((hp x).1 hx),h.obnd⟩
theorem DJ.skip {x:Int × Nat} (h:DJ gw gh V a o (x::Q) X) (hx:0<=o x.2):DJ gw gh V a o Q X:=by
 have hne:∀ c j,o j < 0->(c,j) ∈ x::Q->(c,j) ∈ Q:=fun c j hj hm=>by
  rcases List.mem_cons.1 hm with e | e
  ·subst e; dsimp only at hx; omega
  ·exact e
 exact ⟨fun y hy=>h.ent y (List.mem_cons_of_mem _ hy),h.zero,h.pred,h.le,fun p j a b c d e f=>hne _ _ e (h.front p j a b c d e f),fun e=>hne _ _ e (h.start e),fun p a b y hy=>h.low p a b y (List.mem_cons_of_mem _ hy),
  fun y hy=>h.bnd y (List.mem_cons_of_mem _ hy),h.obnd⟩
structure DJM (gw gh:Nat) (V:List Int) (a:Nat) (o:Nat->Int) (Q:List (Int × Nat)) (cur:Nat) (todo:List Nat):Prop where
 dj:DJ gw gh V a o Q (fun p j=>p=cur/\j ∈ todo)
 cur_lt:cur < gw * gh
 cur0:0<=o cur
 top:∀ p,p < gw * gh->0<=o p->o p<=o cur
 room:o cur+far<=wI (gw * gh) o * far
 todo_ok:∀ j ∈ todo,j < gw * gh/\Side gw cur j
theorem DJ.take {x:Int × Nat} (hgw:0 < gw) (h:DJ gw gh V a o (x::Q) (fun _ _=>False)) (hx:o x.2 < 0) (hmin:∀ y ∈ Q,x.1<=y.1):DJM gw gh V a (kR o x.2 x.1) Q x.2 (zS gw (gw * gh) x.2):=by
 obtain ⟨hlt,h0,hent⟩:=h.ent x List.mem_cons_self
 have hoe:∀ p,0<=o p->kR o x.2 x.1 p=o p:=fun p hp=>by unfold kR; rw [if_neg (by rintro rfl; omega)]
 have hself:kR o x.2 x.1 x.2=x.1:=by unfold kR; rw [if_pos rfl]
 have hothers:∀ p,p ≠ x.2->kR o x.2 x.1 p=o p:=fun p hp=>by unfold kR; rw [if_neg hp]
 have hcnt:wI (gw * gh) (kR o x.2 x.1)=wI (gw * gh) o+1:=by rw [bZ h0 hx,if_pos hlt]
 have hxb:=h.bnd x List.mem_cons_self
 have hne:∀ c j,j ≠ x.2->(c,j) ∈ x::Q->(c,j) ∈ Q:=fun c j hj hm=>by
  rcases List.mem_cons.1 hm with e | e
  ·subst e; exact absurd rfl hj
  ·exact e
 refine ⟨⟨fun y hy=>?_,fun ha=>?_,fun j hj hja hj0=>?_,fun i j hi hj s hi0 hj0=>?_,fun p j hp hj s hp0 hj0 hX=>?_,fun ha=>?_,fun p hp hp0 y hy=>?_,fun y hy=>?_,fun p hp=>?_⟩,hlt,by rw [hself]; exact h0,fun p hp hp0=>?_,?_,fun j hj=>(xA hgw hlt).1 hj⟩
 ·obtain ⟨g1,g2,g3⟩:=h.ent y (List.mem_cons_of_mem _ hy)
  refine ⟨g1,g2,g3.imp id fun ⟨p,p1,p2,p3,p4⟩=>⟨p,p1,?_,p3,?_⟩⟩
  ·rw [hoe p p2]; exact p2
  ·rw [hoe p p2]; exact p4
 ·by_cases e:a=x.2
  ·rw [e,hself]
   have:=h.start (by rw [e]; exact hx)
   rcases List.mem_cons.1 this with e2 | e2
   ·rw [<-e2]
   ·have:=hmin _ e2; dsimp only at this; omega
  ·rw [hothers a e] at ha ⊢; exact h.zero ha
 ·by_cases e:j=x.2
  ·subst e
   rcases hent with ⟨e2,_⟩ | ⟨p,p1,p2,p3,p4⟩
   ·exact absurd e2 hja
   ·exact ⟨p,p1,p3,by rw [hoe p p2]; exact p2,by rw [hself,hoe p p2]; exact p4⟩
  ·rw [hothers j e] at hj0 ⊢
   obtain ⟨i,i1,i2,i3,i4⟩:=h.pred j hj hja hj0
   exact ⟨i,i1,i2,by rw [hoe i i3]; exact i3,by rw [hoe i i3]; exact i4⟩
 ·have hst:=zY V i j
  by_cases ei:i=x.2
  ·by_cases ej:j=x.2
   ·subst ei; subst ej; omega
   ·rw [hothers j ej] at hj0 ⊢
    have:=h.low j hj hj0 x List.mem_cons_self
    rw [ei,hself,<-ei]; omega
  ·rw [hothers i ei] at hi0 ⊢
   by_cases ej:j=x.2
   ·have:=h.front i j hi hj s hi0 (by rw [ej]; exact hx) (fun f=>f)
    rw [ej,hself,<-ej]
    rcases List.mem_cons.1 this with e | e
    ·rw [<-e]; exact Int.le_refl _
    ·exact hmin _ e
   ·rw [hothers j ej] at hj0 ⊢; exact h.le i j hi hj s hi0 hj0
 ·have ej:j ≠ x.2:=by rintro rfl; rw [hself] at hj0; omega
  rw [hothers j ej] at hj0
  by_cases ep:p=x.2
  ·exact absurd ⟨ep,(xA hgw hlt).2 ⟨hj,ep ▸ s⟩⟩ hX
  ·rw [hothers p ep] at hp0 ⊢
   exact hne _ _ ej (h.front p j hp hj s hp0 hj0 (fun f=>f))
 ·have e:a ≠ x.2:=by rintro e; rw [e,hself] at ha; omega
  rw [hothers a e] at ha
  exact hne _ _ e (h.start ha)
 ·by_cases ep:p=x.2
  ·rw [ep,hself]; exact hmin y hy
  ·rw [hothers p ep] at hp0 ⊢; exact h.low p hp hp0 y (List.mem_cons_of_mem _ hy)
 ·have:=h.bnd y (List.mem_cons_of_mem _ hy)
  rw [hcnt]; unfold far at *; push_cast; omega
 ·rw [hcnt]
  by_cases ep:p=x.2
  ·rw [ep,hself]; unfold far at *; push_cast; omega
  ·rw [hothers p ep]; have:=h.obnd p hp; unfold far at *; push_cast; omega
 ·rw [hself]
  by_cases ep:p=x.2
  ·rw [ep,hself]; exact Int.le_refl _
  ·rw [hothers p ep] at hp0 ⊢; exact h.low p hp hp0 x List.mem_cons_self
 ·rw [hself,hcnt]; unfold far at *; push_cast; omega
theorem DJM.known {cur j:Nat} {todo:List Nat} (h:DJM gw gh V a o Q cur (j::todo)) (hj:0<=o j):DJM gw gh V a o Q cur todo:=by
 refine ⟨⟨h.dj.ent,h.dj.zero,h.dj.pred,h.dj.le,fun p k hp hk s hp0 hk0 hX=>h.dj.front p k hp hk s hp0 hk0 ?_,h.dj.start,h.dj.low,h.dj.bnd,h.dj.obnd⟩,h.cur_lt,h.cur0,h.top,h.room,fun k hk=>h.todo_ok k (List.mem_cons_of_mem _ hk)⟩
 rintro ⟨e,hm⟩
 rcases List.mem_cons.1 hm with rfl | hm
 ·omega
 ·exact hX ⟨e,hm⟩
theorem DJM.push {cur j:Nat} {todo:List Nat} (h:DJM gw gh V a o Q cur (j::todo)) (hstb:st V cur j<=far) (hp:∀ x,x ∈ Q' ↔ x=(o cur+st V cur j,j)\/x ∈ Q):DJM gw gh V a o Q' cur todo:=by
 have hj:=h.todo_ok j List.mem_cons_self
 have hst:=zY V cur j
 have h0:=h.cur0
 have hroom:=h.room
 refine ⟨⟨fun x hx=>?_,h.dj.zero,h.dj.pred,h.dj.le,fun p k hp' hk s hp0 hk0 hX=>(hp _).2 ?_,fun ha=>(hp _).2 (.inr (h.dj.start ha)),fun p hp' hp0 x hx=>?_,fun x hx=>?_,h.dj.obnd⟩,h.cur_lt,h.cur0,h.top,h.room,fun k hk=>h.todo_ok k (List.mem_cons_of_mem _ hk)⟩
 ·rcases (hp x).1 hx with rfl | hx
  ·exact ⟨hj.1,by show 0<=o cur+st V cur j; omega,.inr ⟨cur,h.cur_lt,h.cur0,hj.2,rfl⟩⟩
  ·exact h.dj.ent x hx
 ·by_cases e:p=cur/\k=j
  ·obtain ⟨rfl,rfl⟩:=e; exact .inl rfl
  ·refine .inr (h.dj.front p k hp' hk s hp0 hk0 ?_)
   rintro ⟨e1,hm⟩
   rcases List.mem_cons.1 hm with e2 | hm
   ·exact e ⟨e1,e2⟩
   ·exact hX ⟨e1,hm⟩
 ·rcases (hp x).1 hx with rfl | hx
  ·have:=h.top p hp' hp0; show o p<=o cur+st V cur j; omega
  ·exact h.dj.low p hp' hp0 x hx
 ·rcases (hp x).1 hx with rfl | hx
  ·show o cur+st V cur j<=_; omega
  ·exact h.dj.bnd x hx
theorem DJM.done {cur:Nat} (h:DJM gw gh V a o Q cur []):DJ gw gh V a o Q (fun _ _=>False) :=
 ⟨h.dj.ent,h.dj.zero,h.dj.pred,h.dj.le,fun p k hp hk s hp0 hk0 _=>h.dj.front p k hp hk s hp0 hk0 (by rintro ⟨_,hm⟩; cases hm),h.dj.start,h.dj.low,h.dj.bnd,h.dj.obnd⟩
theorem DJ.finish (hgw:0 < gw) (hV:V.length=gw * gh) (ha:a < gw * gh) (h:DJ gw gh V a o [] (fun _ _=>False)):IsDist gw V a o:=by
 have ha0:0<=o a:=by
  rcases Int.lt_or_le (o a) 0 with e | e
  ·exact absurd (h.start e) (by simp)
  ·exact e
 have hall:∀ i,i < gw * gh->0<=o i:=jfB hgw (P:=fun i=>0<=o i) (fun i j hi hj s hi0=>by
  rcases Int.lt_or_le (o j) 0 with e | e
  ·exact absurd (h.front i j hi hj s hi0 e (fun f=>f)) (by simp)
  ·exact e) ha ha0
 refine ⟨h.zero ha0,fun i hi=>hall i (hV ▸ hi),fun i j hi hj s=>h.le i j (hV ▸ hi) (hV ▸ hj) s (hall i (hV ▸ hi)) (hall j (hV ▸ hj)),fun j hj hja=>?_⟩
 obtain ⟨i,i1,i2,_,i4⟩:=h.pred j (hV ▸ hj) hja (hall j (hV ▸ hj))
 exact ⟨i,hV ▸ i1,i2,i4⟩
end
theorem jeq {p q:Nat->Bool} (h:∀ i,p i=true->q i=true):∀ n,((List.range n).filter p).length<=((List.range n).filter q).length
 | 0=>by simp
 | n+1=>by
  have ih:=jeq h n
  rw [List.range_succ,List.filter_append,List.filter_append,List.length_append,List.length_append]
  by_cases hp:p n=true
  ·simp [hp,h n hp]; omega
  ·simp [hp]; omega
theorem jbn {p q:Nat->Bool} (h:∀ i,p i=true->q i=true) {k:Nat} (hq:q k=true) (hp:p k=false):∀ n,k < n->((List.range n).filter p).length < ((List.range n).filter q).length
 | 0,hk=>by omega
 | n+1,hk=>by
  rw [List.range_succ,List.filter_append,List.filter_append,List.length_append,List.length_append]
  by_cases e:k=n
  ·subst e
   have:=jeq h k
   simp [hp,hq]; omega
  ·have ih:=jbn h hq hp n (by omega)
   by_cases hpn:p n=true
   ·simp [hpn,h n hpn]; omega
   ·simp [hpn]; omega
def nC (n:Nat) (d:Nat->Int) (j:Nat):Nat:=((List.range n).filter fun i=>decide (d i < d j)).length
theorem bH {n:Nat} {d:Nat->Int} {i j:Nat} (hi:i < n) (h:d i < d j):nC n d i < nC n d j :=
 jbn (fun k hk=>by simp only [decide_eq_true_eq] at *; omega) (k:=i) (by simpa using h) (by simp) n hi
theorem bG {n:Nat} {d:Nat->Int} {j:Nat} (hj:j < n):nC n d j < n:=by
 have:=jbn (p:=fun i=>decide (d i < d j)) (q:=fun _=>true) (fun _ _=>rfl) (k:=j) rfl (by simp) n hj
 rw [List.filter_eq_self.2 (fun _ _=>rfl),List.length_range] at this
 exact this
theorem jfT {o:Nat->Int} {k:Nat} {c:Int} (hc:0<=c) (ho:0<=o k) (n:Nat):wI n (kR o k c)=wI n o:=by
 unfold wI
 congr 1
 refine List.filter_congr fun i _=>?_
 unfold kR
 split
 ·rename_i e; subst e; simp [hc,ho]
 ·rfl
structure BF (gw gh:Nat) (V:List Int) (a:Nat) (d:Nat->Int) (r:Nat) (fell:Bool) (E:Nat->Nat->Prop) (o:Nat->Int):Prop where
 zero:o a=0
 ge:∀ j,j < gw * gh->0<=o j->d j<=o j
 bnd:∀ j,j < gw * gh->o j<=wI (gw * gh) o * far
 rk:∀ j,j < gw * gh->nC (gw * gh) d j<=r->o j=d j
 rel:∀ p j,p < gw * gh->j < gw * gh->Side gw p j->E p j->nC (gw * gh) d p<=r->0<=o j/\o j<=d p+st V p j
 quiet:fell=false->∀ p j,p < gw * gh->j < gw * gh->Side gw p j->E p j->0<=o p->0<=o j/\o j<=o p+st V p j
section
variable {gw gh a r : Nat} {V : List Int} {d o : Nat → Int} {fell : Bool} {E E' : Nat → Nat → Prop}
theorem BF.start (hV:V.length=gw * gh) (hd:IsDist gw V a d) (ha:a < gw * gh):BF gw gh V a d 0 false (fun _ _=>False) (kR (fun _=>-1) a 0):=by
 have e:∀ j,j ≠ a->kR (fun _=>(-1:Int)) a 0 j=-1:=fun j hj=>by unfold kR; rw [if_neg hj]
 have ea:kR (fun _=>(-1:Int)) a 0 a=0:=by unfold kR; rw [if_pos rfl]
 refine ⟨ea,fun j hj h0=>?_,fun j hj=>?_,fun j hj hr=>?_,fun _ _ _ _ _ h=>h.elim,fun _ _ _ _ _ _ h=>h.elim⟩
 ·by_cases ej:j=a
  ·subst ej; rw [ea,hd.zero]; exact Int.le_refl _
  ·rw [e j ej] at h0; omega
 ·have:(kR (fun _=>(-1:Int)) a 0) j<=0:=by unfold kR; split <;> first | omega | (show (-1:Int)<=0; omega)
  have h2:(0:Int)<=(wI (gw * gh) (kR (fun _=>-1) a 0):Nat) * far:=by unfold far; omega
  omega
 ·by_cases ej:j=a
  ·subst ej; rw [ea,hd.zero]
  ·obtain ⟨i,hi,_,he⟩:=hd.pred j (hV ▸ hj) ej
   have:=zY V i j
   have:=bH (n:=gw * gh) (d:=d) (i:=i) (j:=j) (hV ▸ hi) (by omega)
   omega
theorem BF.weaken (h:BF gw gh V a d r fell E o) (hE:∀ p j,p < gw * gh->j < gw * gh->Side gw p j->E' p j->E p j):BF gw gh V a d r fell E' o :=
 ⟨h.zero,h.ge,h.bnd,h.rk,fun p j a b s e=>h.rel p j a b s (hE p j a b s e),fun f p j a b s e=>h.quiet f p j a b s (hE p j a b s e)⟩
def jih (i:Nat) (todo:List Nat) (p j:Nat):Prop:=p < i\/(p=i/\j ∉ todo)
theorem BF.enter (hgw:0 < gw) {i:Nat} (hi:i < gw * gh) (h:BF gw gh V a d r fell (fun p _=>p < i) o):BF gw gh V a d r fell (jih i (zS gw (gw * gh) i)) o :=
 h.weaken fun p j hp hj s e=>by
  rcases e with e | ⟨rfl,e⟩
  ·exact e
  ·exact absurd ((xA hgw hi).2 ⟨hj,s⟩) e
theorem BF.fall (hV:V.length=gw * gh) (hd:IsDist gw V a d) {i j:Nat} {todo:List Nat} (hi:i < gw * gh) (hj:j < gw * gh) (s:Side gw i j) (hs:st V i j<=far) (h:BF gw gh V a d r fell (jih i (j::todo)) o) (hoi:0<=o i)
  (hlt:o j < 0\/o i+st V i j < o j):BF gw gh V a d r true (jih i todo) (kR o j (o i+st V i j)):=by
 have hst:=zY V i j
 have hself:kR o j (o i+st V i j) j=o i+st V i j:=by unfold kR; rw [if_pos rfl]
 have hoth:∀ k,k ≠ j->kR o j (o i+st V i j) k=o k:=fun k hk=>by unfold kR; rw [if_neg hk]
 have hja:j ≠ a:=by rintro rfl; have:=h.zero; omega
 have hcnt:(o i+st V i j<=wI (gw * gh) (kR o j (o i+st V i j)) * far)/\wI (gw * gh) o<=wI (gw * gh) (kR o j (o i+st V i j)):=by
  have hb:=h.bnd i hi
  by_cases e:o j < 0
  ·rw [bZ (by omega) e,if_pos hj]; unfold far at *; push_cast; omega
  ·rw [jfT (by omega) (by omega)]; have:=h.bnd j hj; omega
 have hE:∀ p k,jih i todo p k->jih i (j::todo) p k\/(p=i/\k=j):=fun p k e=>by
  rcases e with e | ⟨e,hm⟩
  ·exact .inl (.inl e)
  ·by_cases ek:k=j
   ·exact .inr ⟨e,ek⟩
   ·exact .inl (.inr ⟨e,by simp [ek,hm]⟩)
 refine ⟨by rw [hoth a (fun e=>hja e.symm)]; exact h.zero,fun k hk h0=>?_,fun k hk=>?_,fun k hk hr=>?_,fun p k hp hk s' e hr=>?_,fun f=>by cases f⟩
 ·by_cases ek:k=j
  ·subst ek; rw [hself]; have:=hd.le i k (hV ▸ hi) (hV ▸ hj) s; have:=h.ge i hi hoi; omega
  ·rw [hoth k ek] at h0 ⊢; exact h.ge k hk h0
 ·by_cases ek:k=j
  ·subst ek; rw [hself]; exact hcnt.1
  ·rw [hoth k ek]; have:=h.bnd k hk; have:=hcnt.2; unfold far at *; omega
 ·by_cases ek:k=j
  ·subst ek
   have h1:=h.rk k hk hr
   have h2:=hd.nn k (hV ▸ hk)
   have h3:=hd.le i k (hV ▸ hi) (hV ▸ hk) s
   have h4:=h.ge i hi hoi
   omega
  ·rw [hoth k ek]; exact h.rk k hk hr
 ·by_cases ek:k=j
  ·subst ek
   rw [hself]
   refine ⟨by omega,?_⟩
   rcases hE p k e with e | ⟨rfl,_⟩
   ·have:=h.rel p k hp hk s' e hr; omega
   ·have:=h.rk p hp hr; omega
  ·rw [hoth k ek]
   rcases hE p k e with e | ⟨_,e⟩
   ·exact h.rel p k hp hk s' e hr
   ·exact absurd e ek
theorem BF.next (hV:V.length=gw * gh) (hd:IsDist gw V a d) (h:BF gw gh V a d r fell (fun p _=>p < gw * gh) o):BF gw gh V a d (r+1) false (fun _ _=>False) o:=by
 refine ⟨h.zero,h.ge,h.bnd,fun j hj hr=>?_,fun _ _ _ _ _ e=>e.elim,fun _ _ _ _ _ _ e=>e.elim⟩
 by_cases e:j=a
 ·subst e; rw [h.zero,hd.zero]
 ·obtain ⟨i,hi,s,he⟩:=hd.pred j (hV ▸ hj) e
  have:=zY V i j
  have hrk:=bH (n:=gw * gh) (d:=d) (i:=i) (j:=j) (hV ▸ hi) (by omega)
  have h1:=h.rel i j (hV ▸ hi) hj s (hV ▸ hi) (by omega)
  have h2:=h.ge j hj h1.1
  omega
end
def zR (gw:Nat) (V:List Int) (d:Nat->Int) (i:Nat):Nat:=((zS gw V.length i).find? fun j=>d j+st V i j == d i).getD i
def gB (gw:Nat) (V:List Int) (d:Nat->Int) (b:Nat):Nat->Nat->List Nat
 | 0,i=>[i]
 | k+1,i=>if i=b then [i] else i::gB gw V d b k (zR gw V d i)
section
variable {gw gh b : Nat} {V : List Int} {d : Nat → Int}
theorem n5 (hgw:0 < gw) (hV:V.length=gw * gh) (hd:IsDist gw V b d) {i:Nat} (hi:i < gw * gh) (h:i ≠ b) :
  ∃ pre post,zS gw V.length i=pre ++ zR gw V d i::post/\(∀ j ∈ pre,d j+st V i j ≠ d i)/\d (zR gw V d i)+st V i (zR gw V d i)=d i/\zR gw V d i < gw * gh/\Side gw i (zR gw V d i):=by
 obtain ⟨j,hj,s,he⟩:=hd.pred i (hV ▸ hi) h
 have hmem:j ∈ zS gw V.length i:=by rw [hV]; exact (xA hgw hi).2 ⟨hV ▸ hj,s.symm⟩
 have hsome:((zS gw V.length i).find? fun j=>d j+st V i j == d i).isSome=true:=by
  rw [List.find?_isSome]
  exact ⟨j,hmem,by rw [jix,<-he]; simp⟩
 obtain ⟨k,hk⟩:=Option.isSome_iff_exists.1 hsome
 have hn:zR gw V d i=k:=by unfold zR; rw [hk]; rfl
 obtain ⟨hp,pre,post,e,hpre⟩:=List.find?_eq_some_iff_append.1 hk
 have hkm:k ∈ zS gw V.length i:=List.mem_of_find?_eq_some hk
 rw [hV] at hkm
 have h2:=(xA hgw hi).1 hkm
 rw [hn]
 refine ⟨pre,post,e,fun j hj=>?_,by simpa using hp,h2.1,h2.2⟩
 have:=hpre j hj
 simpa using this
theorem rI (hgw:0 < gw) (hV:V.length=gw * gh) (hd:IsDist gw V b d):∀ (k:Nat) (i:Nat),i < gw * gh->d i<=k->gB gw V d b (k+1) i=gB gw V d b k i
 | 0,i,hi,h=>by
  have:i=b:=by
   by_cases e:i=b
   ·exact e
   ·obtain ⟨j,hj,s,he⟩:=hd.pred i (hV ▸ hi) e
    have:=zY V j i
    have:=hd.nn j hj
    omega
  simp [gB,this]
 | k+1,i,hi,h=>by
  by_cases e:i=b
  ·simp [gB,e]
  ·obtain ⟨_,_,_,_,he,hlt,_⟩:=n5 hgw hV hd hi e
   have:=zY V i (zR gw V d i)
   have ih:=rI hgw hV hd k (zR gw V d i) hlt (by omega)
   rw [gB,if_neg e,ih]
   rw [gB,if_neg e]
def zK (gw:Nat) (V:List Int) (d:Nat->Int) (b i:Nat):List Nat:=gB gw V d b (d i).toNat i
theorem jbX (hd:IsDist gw V b d):zK gw V d b b=[b]:=by unfold zK; rw [hd.zero]; rfl
theorem p9 (hgw:0 < gw) (hV:V.length=gw * gh) (hd:IsDist gw V b d) {i:Nat} (hi:i < gw * gh):∀ m:Nat,gB gw V d b ((d i).toNat+m) i=zK gw V d b i
 | 0=>rfl
 | m+1=>by rw [<-Nat.add_assoc,rI hgw hV hd _ i hi (by omega),p9 hgw hV hd hi m]
theorem jbW (hgw:0 < gw) (hV:V.length=gw * gh) (hd:IsDist gw V b d) {i:Nat} (hi:i < gw * gh) (h:i ≠ b):zK gw V d b i=i::zK gw V d b (zR gw V d i):=by
 obtain ⟨_,_,_,_,he,hlt,_⟩:=n5 hgw hV hd hi h
 have hst:=zY V i (zR gw V d i)
 have h0:=hd.nn (zR gw V d i) (hV ▸ hlt)
 have e1:(d i).toNat=(d (zR gw V d i)).toNat+((d i).toNat - 1 - (d (zR gw V d i)).toNat)+1:=by omega
 rw [zK,e1,gB,if_neg h,p9 hgw hV hd hlt]
end
instance (gw i j:Nat):Decidable (Side gw i j):=by unfold Side; infer_instance
end
section
open Go.RowKit
def vC (l:List Nat):List Value:=l.map fun (j:Nat)=>ii (j:Int)
theorem sT {l:List Nat} {i j:Nat} (h:l[i]?=some j):(vC l)[(i:Int).toNat * 1]?=some (ii (j:Int)):=by
 rw [Nat.mul_one,Int.toNat_natCast,vC,List.getElem?_map,h]; rfl
def yN (n:Nat) (o:Nat->Int):List Value:=(List.range n).map fun i=>ii (o i)
theorem u9 (n:Nat) (o:Nat->Int):(yN n o).length=n:=by simp [yN]
theorem qE {n i:Nat} {o:Nat->Int} (h:i < n):(yN n o)[(i:Int).toNat * 1]?=some (ii (o i)):=by
 rw [Nat.mul_one,Int.toNat_natCast,yN,List.getElem?_map,List.getElem?_range h]; rfl
theorem jcM (n:Nat) (o:Nat->Int):yN n o=yC ((List.range n).map o):=by simp [yN,yC]
theorem uO {n:Nat} {o o':Nat->Int} (h:∀ i,i < n->o i=o' i):yN n o=yN n o':=by
 unfold yN
 refine List.map_congr_left fun i hi=>?_
 rw [h i (List.mem_range.1 hi)]
theorem xC {n k:Nat} {o:Nat->Int} {v:Int}:(yN n o).set ((k:Int).toNat * 1) (ii v)=yN n (kR o k v):=by
 rw [Nat.mul_one,Int.toNat_natCast]
 apply List.ext_getElem?
 intro i
 rw [List.getElem?_set]
 unfold yN kR
 by_cases e:k=i
 ·subst e
  rw [if_pos rfl]
  simp only [List.length_map,List.length_range]
  split
  ·rename_i h; rw [List.getElem?_map,List.getElem?_range h]; simp
  ·rename_i h; rw [List.getElem?_eq_none (by simp; omega)]
 ·rw [if_neg e,List.getElem?_map,List.getElem?_map]
  by_cases h:i < n
  ·rw [List.getElem?_range h,Option.map_some,Option.map_some,if_neg (fun h=>e h.symm)]
  ·rw [List.getElem?_eq_none (by simp; omega)]; rfl
theorem dL (n:Nat):List.replicate n (ii 0)=yN n (fun _=>0):=by
 unfold yN
 rw [List.map_const',List.length_range]
section
variable {W : World} {A : Option Addr} {gw c : Nat} {V : List Int}
theorem jk1 (i:Nat) (n:Nat) (hgw:1<=gw) (hi:i<=1048576):Fn Tryz.prog 97 [.agg #[ii gw,.slice A n c],ii i] W (yK (.agg #[ii (i % gw:Nat),ii (i / gw:Nat)]) W):=by
 have e1:(i:Int) % gw=((i % gw:Nat):Int):=by push_cast; rfl
 have e2:(i:Int) / gw=((i / gw:Nat):Int):=by push_cast; rfl
 have S:=St.start W
 refine zn Tryz.func97 Tryz.results97 Tryz.ntmps97 ?_
 refine zs ?_
 refine jF (jO rfl) S ?_
 intro b_b1 w2_ g2_ S
 refine jF (jL kL rfl) S ?_
 intro b_b3 w4_ g4_ S
 refine zc ?_
 refine yB (C:=fun wq=>Gr w4_ wq) [0,1,2,3,4,5,6,7] [8,9] (by kernel_rfl) (by kernel_rfl) (Gr.drew _) ?_
 simp only [j6,List.drop_succ_cons,List.drop_zero]
 refine y ?_; refine y ?_
 refine jV (fun wq hq=>jB q3 rfl rfl ((S.gr hq).blk (i:=1) rfl) rfl) ?_
 refine jW (kU rfl rfl (by omega) (by omega)) ?_
 rw [e1]
 refine y ?_; refine y ?_
 refine jV (fun wq hq=>jB q3 rfl rfl ((S.gr hq).blk (i:=1) rfl) rfl) ?_
 refine jW (vP rfl rfl (by omega) (by omega)) ?_
 rw [e2]
 refine yJ ?_
 intro w5_ g5_
 have S:=S.gr g5_
 refine jE (jN (pl:=[(0,1),(1,1)]) q23 kL (fun w=>by kernel_rfl) rfl rfl) ?_
 refine jH (i:=0) S rfl (qI _) rfl rfl rfl rfl rfl rfl ?_
 intro w6_ S
 refine zq ?_
 exact v8 q23 rfl (qI _) rfl (S.blk (i:=0) rfl) rfl rfl ⟨rfl,S.out⟩
def vB (V:List Int):Prop:=∀ i,-2147483648<=V.getD i 0/\V.getD i 0<=2147483647
theorem jaK (hb:vB V) (i j:Nat):st V i j<=far:=by have:=hb i; have:=hb j; unfold st far; omega
theorem IsDist.bound {a:Nat} {d:Nat->Int} (h:IsDist gw V a d) (hb:vB V):∀ j,j < V.length->d j<=nC V.length d j * far:=by
 have key:∀ (k:Nat) (j:Nat),j < V.length->nC V.length d j < k->d j<=nC V.length d j * far:=by
  intro k
  induction k with
  | zero=>intro j _ h; omega
  | succ k ih =>
   intro j hj hk
   by_cases e:j=a
   ·subst e; rw [h.zero]; unfold far; omega
   ·obtain ⟨i,hi,_,he⟩:=h.pred j hj e
    have h1:=zY V i j
    have h2:=jaK hb i j
    have h3:=bH (n:=V.length) (d:=d) (i:=i) (j:=j) hi (by omega)
    have h4:=ih i hi (by omega)
    unfold far at *
    omega
 exact fun j hj=>key (nC V.length d j+1) j hj (by omega)
theorem jd1 (a b:Nat) (ha:a < V.length) (hb:b < V.length) (hB:vB V) (hA:Rd W A (yC V)):Fn Tryz.prog 96 [.agg #[ii gw,.slice A V.length c],ii a,ii b] W (yK (ii (st V a b)) W):=by
 have sa_A:yH A:=hA.someA (by rw [qY]; omega)
 have g1:(yC V)[(a:Int).toNat * 1]?=some (ii (V.getD a 0)):=by rw [Nat.mul_one,Int.toNat_natCast]; exact qO (vX ha)
 have g2:(yC V)[(b:Int).toNat * 1]?=some (ii (V.getD b 0)):=by rw [Nat.mul_one,Int.toNat_natCast]; exact qO (vX hb)
 have b1:=hB a
 have b2:=hB b
 have S:=St.start W
 refine zn Tryz.func96 Tryz.results96 Tryz.ntmps96 ?_
 refine zs ?_
 refine jF (jO rfl) S ?_
 intro b_b1 w2_ g2_ S
 refine z ?_
 refine zc ?_
 refine yB (C:=fun wq=>Gr w2_ wq) [0,1,2,3,4,5,6,7,8,9,10,11] [] (by kernel_rfl) (by kernel_rfl) (Gr.drew _) ?_
 simp only [j6,List.drop_succ_cons,List.drop_zero]
 refine y ?_
 refine jV (fun wq hq=>jB q30 rfl rfl ((S.gr hq).blk (i:=0) rfl) rfl) ?_
 refine y ?_; refine yx ?_
 refine jV (fun wq hq=>j7 q2 rfl rfl (hA.gr (S.gr hq).out) g1) ?_
 refine y ?_
 refine jV (fun wq hq=>jB q30 rfl rfl ((S.gr hq).blk (i:=0) rfl) rfl) ?_
 refine y ?_; refine yx ?_
 refine jV (fun wq hq=>j7 q2 rfl rfl (hA.gr (S.gr hq).out) g2) ?_
 refine yr ?_; refine y ?_
 refine yJ ?_
 intro w3_ g3_
 have S:=S.gr g3_
 refine z ?_; refine z ?_; refine zr ?_; refine z ?_; refine zr ?_; refine z ?_
 refine zq ?_
 exact yD rfl ⟨ie (by unfold st; omega),S.out⟩
theorem lZ (i n : Nat) (hgw : 1 ≤ gw ∧ gw ≤ 1048576) (hi : i < n) (hn : n ≤ 1048576) : Fn Tryz.prog 95 [.agg #[.int .i64 gw, .slice A n c], .int .i64 i] W (qR id 3 1 (zS gw n i).length (vC (zS gw n i)) W) := by
  have em : (i : Int) % gw = ((i % gw : Nat) : Int) := by push_cast; rfl
  have hmod := Nat.mod_lt i hgw.1
  have hpos : 0 < i % gw → 1 ≤ i := fun h => by rcases Nat.eq_zero_or_pos i with h1 | h1; · subst h1; simp at h
                                                · exact h1
  unfold zS
  generalize i % gw = m at *
  have S := St.start W
  refine zn Tryz.func95 Tryz.results95 Tryz.ntmps95 ?_
  refine zs ?_
  refine jF (jO rfl) S ?_
  intro b_lw w2_ g2_ S
  refine z ?_
  refine zs ?_
  refine vU f7 xU rfl rfl rfl (n := 0) (c := 4) (by omega) (by omega) (by omega) (by omega) S ?_
  intro A_out w4_ g4_ S sa_out
  iterate 5 refine z ?_
  refine zc ?_
  refine qL (M := fun e w => ∃ (acc : List Nat) (A_o : Option Addr) (c_o : Nat), acc = ([] : List Nat) ++ (if gw ≤ i then [i - gw] else []) ∧ SL e [(1, .int .i64 i), (2, .pointer (some ⟨b_lw, 0, none⟩)), (5, .slice A_o acc.length c_o)] ∧ St No W w [.row 3 1 A_o acc.length c_o (vC acc), .blk b_lw 184 [.int .i64 gw, .slice A n c]]) ?_ ?_
  · skip
    refine zk ?_ ?_
    · intro hc0
      (iterate 4 refine z ?_); refine zr ?_
      rw [show (i : Int) - gw = ((i - gw : Nat) : Int) by omega]
      refine yF f7 qz3 qv3 rfl rfl rfl rfl rfl rfl S ?_
      intro A_lit w6_ g6_ S sa_lit
      refine qA (i := 1) S rfl (fun h => rfl) f7 xU rfl rfl rfl rfl (by simp) (by omega) (S.rd (i := 0) rfl) rfl (by omega) ?_
      intro A_out7 c_out7 w7_ S sa_out
      refine z ?_
      refine ze ?_
      have S := S.drop 1
      have e1 : vC ([] : List Nat) ++ [Value.int .i64 ((i - gw : Nat) : Int)] = vC (([] : List Nat) ++ [i - gw]) := by simp [vC]
      refine ⟨([] : List Nat) ++ [i - gw], _, _, by rw [if_pos (show gw ≤ i by omega)], ⟨rfl, rfl, se (by simp) rfl, trivial⟩, ?_⟩
      rw [← e1, List.length_append]
      exact S
    · intro hc0
      refine zc ?_
      refine j5 ?_
      try show CW _ _ _ _ _ _
      exact ⟨([] : List Nat), _, _, by rw [if_neg (show ¬ (gw ≤ i) by omega), List.append_nil], ⟨rfl, rfl, rfl, trivial⟩, S⟩
  · rintro e0 w0 ⟨acc1, A_out, c_out, hacc1, hsl, S⟩
    rw [hsl.fold]
    have hl1 : acc1.length ≤ 1 := by rw [hacc1]; split <;> simp <;> omega
    iterate 3 refine z ?_
    refine jE (kU rfl rfl (by omega) (by omega)) ?_
    rw [em]
    refine z ?_
    refine zc ?_
    refine qL (M := fun e w => ∃ (acc : List Nat) (A_o : Option Addr) (c_o : Nat), acc = acc1 ++ (if 0 < m then [i - 1] else []) ∧ SL e [(1, .int .i64 i), (2, .pointer (some ⟨b_lw, 0, none⟩)), (5, .slice A_o acc.length c_o)] ∧ St No W w [.row 3 1 A_o acc.length c_o (vC acc), .blk b_lw 184 [.int .i64 gw, .slice A n c]]) ?_ ?_
    · skip
      refine zk ?_ ?_
      · intro hc1
        refine z ?_; refine z ?_; refine zr ?_
        rw [show (i : Int) - 1 = ((i - 1 : Nat) : Int) by omega]
        refine yF f7 qz3 qv3 rfl rfl rfl rfl rfl rfl S ?_
        intro A_lit w9_ g9_ S sa_lit
        refine qA (i := 1) S rfl (fun h => rfl) f7 xU rfl rfl rfl rfl (by simp) (by omega) (S.rd (i := 0) rfl) rfl (by omega) ?_
        intro A_out10 c_out10 w10_ S sa_out
        refine z ?_
        refine ze ?_
        have S := S.drop 1
        have e1 : vC acc1 ++ [Value.int .i64 ((i - 1 : Nat) : Int)] = vC (acc1 ++ [i - 1]) := by simp [vC]
        refine ⟨acc1 ++ [i - 1], _, _, by rw [if_pos (show 0 < m by omega)], ⟨rfl, rfl, se (by simp) rfl, trivial⟩, ?_⟩
        rw [← e1, List.length_append]
        exact S
      · intro hc1
        refine zc ?_
        refine j5 ?_
        try show CW _ _ _ _ _ _
        exact ⟨acc1, _, _, by rw [if_neg (show ¬ (0 < m) by omega), List.append_nil], ⟨rfl, rfl, rfl, trivial⟩, S⟩
    · rintro e1 w1 ⟨acc2, A_out, c_out, hacc2, hsl, S⟩
      rw [hsl.fold]
      have hl2 : acc2.length ≤ 2 := by rw [hacc2]; split <;> simp <;> omega
      refine zc ?_
      refine yB (C := fun wq => Gr w1 wq) [0, 1, 2, 3, 4, 5, 6, 7] [] (by kernel_rfl) (by kernel_rfl) (Gr.drew _) ?_
      simp only [j6, List.drop_succ_cons, List.drop_zero]
      refine y ?_; refine y ?_
      refine jV (fun wq hq => jB q3 rfl rfl ((S.gr hq).blk (i := 1) rfl) rfl) ?_
      refine jW (kU rfl rfl (by omega) (by omega)) ?_
      rw [em]
      refine y ?_
      refine jV (fun wq hq => jB q3 rfl rfl ((S.gr hq).blk (i := 1) rfl) rfl) ?_
      refine yr ?_
      refine zw3 ⟨?_⟩
      refine yJ ?_
      intro w11_ g11_
      have S := S.gr g11_
      refine zc ?_
      refine qL (M := fun e w => ∃ (acc : List Nat) (A_o : Option Addr) (c_o : Nat), acc = acc2 ++ (if m + 1 < gw then [i + 1] else []) ∧ SL e [(1, .int .i64 i), (2, .pointer (some ⟨b_lw, 0, none⟩)), (5, .slice A_o acc.length c_o)] ∧ St No W w [.row 3 1 A_o acc.length c_o (vC acc), .blk b_lw 184 [.int .i64 gw, .slice A n c]]) ?_ ?_
      · skip
        refine zk ?_ ?_
        · intro hc2
          refine z ?_; refine z ?_; refine zr ?_
          rw [show (i : Int) + 1 = ((i + 1 : Nat) : Int) by omega]
          refine yF f7 qz3 qv3 rfl rfl rfl rfl rfl rfl S ?_
          intro A_lit w13_ g13_ S sa_lit
          refine qA (i := 1) S rfl (fun h => rfl) f7 xU rfl rfl rfl rfl (by simp) (by omega) (S.rd (i := 0) rfl) rfl (by omega) ?_
          intro A_out14 c_out14 w14_ S sa_out
          refine z ?_
          refine ze ?_
          have S := S.drop 1
          have e1 : vC acc2 ++ [Value.int .i64 ((i + 1 : Nat) : Int)] = vC (acc2 ++ [i + 1]) := by simp [vC]
          refine ⟨acc2 ++ [i + 1], _, _, by rw [if_pos (show m + 1 < gw by omega)], ⟨rfl, rfl, se (by simp) rfl, trivial⟩, ?_⟩
          rw [← e1, List.length_append]
          exact S
        · intro hc2
          refine zc ?_
          refine j5 ?_
          try show CW _ _ _ _ _ _
          exact ⟨acc2, _, _, by rw [if_neg (show ¬ (m + 1 < gw) by omega), List.append_nil], ⟨rfl, rfl, rfl, trivial⟩, S⟩
      · rintro e2 w2 ⟨acc3, A_out, c_out, hacc3, hsl, S⟩
        rw [hsl.fold]
        have hl3 : acc3.length ≤ 3 := by rw [hacc3]; split <;> simp <;> omega
        (iterate 3 refine z ?_); refine zr ?_; iterate 4 refine z ?_
        refine zc ?_
        refine qL (M := fun e w => ∃ (acc : List Nat) (A_o : Option Addr) (c_o : Nat), acc = acc3 ++ (if i + gw < n then [i + gw] else []) ∧ SL e [(1, .int .i64 i), (2, .pointer (some ⟨b_lw, 0, none⟩)), (5, .slice A_o acc.length c_o)] ∧ St No W w [.row 3 1 A_o acc.length c_o (vC acc), .blk b_lw 184 [.int .i64 gw, .slice A n c]]) ?_ ?_
        · skip
          refine zk ?_ ?_
          · intro hc3
            (iterate 4 refine z ?_); refine zr ?_
            rw [show (i : Int) + gw = ((i + gw : Nat) : Int) by omega]
            refine yF f7 qz3 qv3 rfl rfl rfl rfl rfl rfl S ?_
            intro A_lit w16_ g16_ S sa_lit
            refine qA (i := 1) S rfl (fun h => rfl) f7 xU rfl rfl rfl rfl (by simp) (by omega) (S.rd (i := 0) rfl) rfl (by omega) ?_
            intro A_out17 c_out17 w17_ S sa_out
            refine z ?_
            refine ze ?_
            have S := S.drop 1
            have e1 : vC acc3 ++ [Value.int .i64 ((i + gw : Nat) : Int)] = vC (acc3 ++ [i + gw]) := by simp [vC]
            refine ⟨acc3 ++ [i + gw], _, _, by rw [if_pos (show i + gw < n by omega)], ⟨rfl, rfl, se (by simp) rfl, trivial⟩, ?_⟩
            rw [← e1, List.length_append]
            exact S
          · intro hc3
            refine zc ?_
            refine j5 ?_
            try show CW _ _ _ _ _ _
            exact ⟨acc3, _, _, by rw [if_neg (show ¬ (i + gw < n) by omega), List.append_nil], ⟨rfl, rfl, rfl, trivial⟩, S⟩
        · rintro e3 w3 ⟨acc4, A_out, c_out, hacc4, hsl, S⟩
          rw [hsl.fold]
          have hl4 : acc4.length ≤ 4 := by rw [hacc4]; split <;> simp <;> omega
          refine z ?_; refine z ?_
          refine zq ?_
          rw [List.nil_append] at hacc1
          rw [← hacc1, ← hacc2, ← hacc3, ← hacc4]
          exact yD rfl (S.retNew (i := 0) (mk := id) rfl)
end
theorem lO {V:List Int} (h:∀ v ∈ V,kN v=true):vB V:=by
 intro i
 rw [List.getD_eq_getElem?_getD]
 cases e:V[i]? with
 | none=>simp
 | some v =>
  have:=h v (List.mem_of_getElem? e)
  unfold kN at this
  simpa using this
theorem jdT {gw gh:Nat} {cc:Nat->Int} (h:∀ i,i < gw * gh->-2147483648<=cc i/\cc i<=2147483647):vB (yA gw gh cc):=by
 intro i
 unfold yA
 rw [List.getD_eq_getElem?_getD]
 by_cases hi:i < gw * gh
 ·rw [List.getElem?_map,List.getElem?_range hi]; exact h i hi
 ·rw [List.getElem?_eq_none (by simp; omega)]; simp
end
end Go.Proofs.YtipnifjmhlcehaaGreatDoor
