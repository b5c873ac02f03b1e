/- hachuretop.WholeFlat: a part of the proof that the law returns true at every input (Grid, GridB, GridC, GridD, GridE, Law9, Land, Paint, PaintB, Sparse); no condition of its own. -/
import Derived.Test.YtipnifjmhlcehaaGreatDoorKD
import Derived.Test.YtipnifjmhlcehaaGreatDoorKC
set_option linter.unusedVariables false
set_option linter.unusedSimpArgs false
set_option maxRecDepth 100000
set_option maxHeartbeats 16000000
namespace Go.Proofs.YtipnifjmhlcehaaGreatDoor
section
open Go.RowKit
def acr (n:Nat):Nat:=(n+15) / 16
def tsz (n k:Nat):Nat:=min 16 (n - 16 * k)
def gI (gw:Nat) (c:Nat->Int) (t:Nat):Nat->Int:=fun i=>c ((16 * (t / acr gw)+i / tsz gw (t % acr gw)) * gw+(16 * (t % acr gw)+i % tsz gw (t % acr gw)))
theorem vZ {n:Nat} (h:1<=n):1<=acr n:=by unfold acr; omega
theorem vT {n:Nat} (h:n<=1024):acr n<=64:=by unfold acr; omega
theorem qD {n x:Nat} (h:x < n):x / 16 < acr n:=by unfold acr; omega
theorem vN {n k:Nat} (h:k < acr n):1<=tsz n k/\tsz n k<=16:=by unfold tsz; unfold acr at h; omega
theorem vQ {n x:Nat} (h:x < n):x % 16 < tsz n (x / 16):=by unfold tsz; omega
theorem bD {gw a b:Nat} (ha:a < acr gw):(b * acr gw+a) % acr gw=a/\(b * acr gw+a) / acr gw=b:=by
 constructor
 ·rw [Nat.mul_add_mod_self_right,Nat.mod_eq_of_lt ha]
 ·rw [Nat.add_comm,Nat.add_mul_div_right _ _ (by omega),Nat.div_eq_of_lt ha,Nat.zero_add]
theorem jbF {gw gh x y:Nat} {c:Nat->Int} (hx:x < gw) (hy:y < gh):gI gw c (y / 16 * acr gw+x / 16) (y % 16 * tsz gw (x / 16)+x % 16)=c (y * gw+x):=by
 have ht:=bD (gw:=gw) (b:=y / 16) (qD hx)
 have hm:=vQ hx
 unfold gI
 rw [ht.1,ht.2]
 rw [Nat.mul_add_mod_self_right,Nat.mod_eq_of_lt hm,Nat.add_comm (y % 16 * _),Nat.add_mul_div_right _ _ (by omega),Nat.div_eq_of_lt hm,Nat.zero_add,Nat.div_add_mod,Nat.div_add_mod]
theorem bE {gw gh x y:Nat} (hx:x < gw) (hy:y < gh):y / 16 * acr gw+x / 16 < acr gw * acr gh:=by
 have h1:=qD hx
 have h2:(y / 16+1) * acr gw<=acr gh * acr gw:=Nat.mul_le_mul_right _ (qD hy)
 rw [Nat.succ_mul,Nat.mul_comm (acr gh)] at h2
 omega
def cH (n:Nat) (bs:Nat->Nat):List Value:=(List.range n).map fun t=>.pointer (some ⟨bs t,0,none⟩)
theorem jgW {n t:Nat} {bs:Nat->Nat} (h:t < n):(cH n bs)[t]?=some (.pointer (some ⟨bs t,0,none⟩)):=by simp [cH,h]
theorem jgV (n:Nat) (bs:Nat->Nat):(cH n bs).length=n:=by simp [cH]
structure GridAt (w:World) (p gw gh:Nat) (c:Nat->Int) (A:Option Addr) (cap:Nat) (bs:Nat->Nat) (Rs:Nat->Option Nat):Prop where
 sw:1<=gw/\gw<=1024
 sh:1<=gh/\gh<=1024
 top:Blk w p 198 [ii gw,ii gh,ii (acr gw),.slice A (acr gw * acr gh) cap]
 row:Row w 133 1 A (acr gw * acr gh) cap (cH (acr gw * acr gh) bs)
 slab:∀ t,t < acr gw * acr gh->SlabIs w (bs t) (Rs t) (tsz gw (t % acr gw)) (tsz gh (t / acr gw)) (gI gw c t)
 inj:∀ t u,t < acr gw * acr gh->u < acr gw * acr gh->bs t=bs u->t=u
 injR:∀ t u g,t < acr gw * acr gh->u < acr gw * acr gh->Rs t=some g->Rs u=some g->t=u
structure jjK (F:Nat->Prop) (N p:Nat) (A:Option Addr) (bs:Nat->Nat) (Rs:Nat->Option Nat):Prop where
 top:F p
 row:∀ g,kZ A g->F g
 slab:∀ t,t < N->F (bs t)
 rough:∀ t g,t < N->Rs t=some g->F g
def GridIs (w:World) (F:Nat->Prop) (p gw gh:Nat) (c:Nat->Int):Prop:=∃ A cap bs Rs,GridAt w p gw gh c A cap bs Rs/\jjK F (acr gw * acr gh) p A bs Rs
theorem SlabIs.keep {w w':World} {b:Nat} {R:Option Nat} {sw sh:Nat} {c:Nat->Int} (h:SlabIs w b R sw sh c) (hk:∀ g,g=b\/R=some g->w'.heap[g]?=w.heap[g]?):SlabIs w' b R sw sh c:=by
 obtain ⟨h1,h2⟩:=h
 refine ⟨h1,?_⟩
 cases R with
 | none=>obtain ⟨x,hB,r⟩:=h2; exact ⟨x,hB.keep (hk b (.inl rfl)),r⟩
 | some g=>obtain ⟨cap,hB,hR⟩:=h2; exact ⟨cap,hB.keep (hk b (.inl rfl)),hR.keep (fun g' hg'=>hk g' (.inr (by rw [<-rZ hg'])))⟩
theorem SlabIs.lt {w:World} {b:Nat} {R:Option Nat} {sw sh:Nat} {c:Nat->Int} (h:SlabIs w b R sw sh c) {g:Nat} (hg:g=b\/R=some g):g < w.heap.size:=by
 obtain ⟨h1,h2⟩:=h
 cases R with
 | none=>obtain ⟨x,hB,r⟩:=h2; exact hg.elim (fun e=>e ▸ hB.lt) (fun e=>by cases e)
 | some g' =>
  obtain ⟨cap,hB,hR⟩:=h2
  rcases hg with rfl | hg
  ·exact hB.lt
  ·injection hg with hg; subst hg; exact hR.lt rfl
theorem SlabIs.gr {w w':World} {b:Nat} {R:Option Nat} {sw sh:Nat} {c:Nat->Int} (h:SlabIs w b R sw sh c) (k:Gr w w'):SlabIs w' b R sw sh c:=h.keep fun g hg=>k.block g (h.lt hg)
theorem GridAt.gr {w w':World} {p gw gh cap:Nat} {c:Nat->Int} {A:Option Addr} {bs:Nat->Nat} {Rs:Nat->Option Nat} (h:GridAt w p gw gh c A cap bs Rs) (k:Gr w w'):GridAt w' p gw gh c A cap bs Rs :=
 ⟨h.sw,h.sh,h.top.gr k,h.row.gr k,fun t ht=>(h.slab t ht).gr k,h.inj,h.injR⟩
theorem GridIs.gr {w w':World} {F:Nat->Prop} {p gw gh:Nat} {c:Nat->Int} (h:GridIs w F p gw gh c) (k:Gr w w'):GridIs w' F p gw gh c:=by
 obtain ⟨A,cap,bs,Rs,h1,h2⟩:=h
 exact ⟨A,cap,bs,Rs,h1.gr k,h2⟩
theorem GridIs.weak {w:World} {F F':Nat->Prop} {p gw gh:Nat} {c:Nat->Int} (h:GridIs w F p gw gh c) (hF:∀ g,F g->F' g):GridIs w F' p gw gh c:=by
 obtain ⟨A,cap,bs,Rs,h1,h2⟩:=h
 exact ⟨A,cap,bs,Rs,h1,hF _ h2.top,fun g hg=>hF g (h2.row g hg),fun t ht=>hF _ (h2.slab t ht),fun t g ht hg=>hF g (h2.rough t g ht hg)⟩
theorem rG {gw gh t i:Nat} (ht:t < acr gw * acr gh) (hw:1<=gw) (hi:i < tsz gw (t % acr gw) * tsz gh (t / acr gw)):(16 * (t / acr gw)+i / tsz gw (t % acr gw)) * gw+(16 * (t % acr gw)+i % tsz gw (t % acr gw)) < gw * gh:=by
 have ha:=vZ hw
 have h1:t % acr gw < acr gw:=Nat.mod_lt _ (by omega)
 have h2:=vN h1
 have h3:i % tsz gw (t % acr gw) < tsz gw (t % acr gw):=Nat.mod_lt _ (by omega)
 have h4:i / tsz gw (t % acr gw) < tsz gh (t / acr gw):=Nat.div_lt_of_lt_mul hi
 have e1:∀ n k,tsz n k<=n - 16 * k:=fun n k=>by unfold tsz; omega
 have h5:16 * (t % acr gw)+i % tsz gw (t % acr gw) < gw:=by have:=e1 gw (t % acr gw); generalize i % tsz gw (t % acr gw)=q at *; omega
 have h6:16 * (t / acr gw)+i / tsz gw (t % acr gw) < gh:=by have:=e1 gh (t / acr gw); generalize i / tsz gw (t % acr gw)=q at *; omega
 have h7:(16 * (t / acr gw)+i / tsz gw (t % acr gw)+1) * gw<=gh * gw:=Nat.mul_le_mul_right _ h6
 rw [Nat.succ_mul,Nat.mul_comm gh] at h7
 omega
theorem rH {gw gh t i:Nat} {c c':Nat->Int} (h:∀ j,j < gw * gh->c j=c' j) (ht:t < acr gw * acr gh) (hw:1<=gw) (hi:i < tsz gw (t % acr gw) * tsz gh (t / acr gw)):gI gw c t i=gI gw c' t i:=h _ (rG ht hw hi)
theorem SlabIs.congr {w:World} {b:Nat} {R:Option Nat} {sw sh:Nat} {c c':Nat->Int} (h:SlabIs w b R sw sh c) (hc:∀ i,i < sw * sh->c i=c' i):SlabIs w b R sw sh c':=by
 obtain ⟨h1,h2⟩:=h
 refine ⟨fun i hi=>(hc i hi) ▸ h1 i hi,?_⟩
 cases R with
 | none=>obtain ⟨x,hB,hx,r⟩:=h2; exact ⟨x,hB,hx,fun i hi=>(hc i hi) ▸ r i hi⟩
 | some g=>obtain ⟨cap,hB,hR⟩:=h2; exact ⟨cap,hB,hR.congr (xV hc)⟩
theorem GridIs.congr {w:World} {F:Nat->Prop} {p gw gh:Nat} {c c':Nat->Int} (h:GridIs w F p gw gh c) (hc:∀ i,i < gw * gh->c i=c' i):GridIs w F p gw gh c':=by
 obtain ⟨A,cap,bs,Rs,h1,h2⟩:=h
 exact ⟨A,cap,bs,Rs,⟨h1.sw,h1.sh,h1.top,h1.row,fun t ht=>(h1.slab t ht).congr fun i hi=>rH hc ht h1.sw.1 hi,h1.inj,h1.injR⟩,h2⟩
theorem xH (p gw gh:Nat) (l:List Value) (W:World) (hG:Blk W p 198 (ii gw::ii gh::l)):Fn Tryz.prog 42 [pt p] W (yK (.tuple #[ii gw,ii gh]) W):=by
 have S:=St.start W
 refine zn Tryz.func42 Tryz.results42 Tryz.ntmps42 ?_
 iterate 4 refine z ?_
 refine zc ?_
 refine jM rfl ?_
 refine zc ?_
 refine j5 ?_
 try show CW _ _ _ _ _ _
 refine zc ?_
 refine yB (C:=fun wq=>Gr W wq) [0,1,2,3,4,5,6,7,8,9] [] (by kernel_rfl) (by kernel_rfl) (Gr.drew _) ?_
 simp only [j6,List.drop_succ_cons,List.drop_zero]
 iterate 3 refine y ?_
 refine jV (fun wq hq=>jB q2 rfl rfl (hG.gr (S.gr hq).out) rfl) ?_
 iterate 3 refine y ?_
 refine jV (fun wq hq=>jB q2 rfl rfl (hG.gr (S.gr hq).out) rfl) ?_
 refine y ?_; refine y ?_
 refine yJ ?_
 intro w1_ g1_
 have S:=S.gr g1_
 refine zq ?_
 exact kY rfl rfl ⟨rfl,S.out⟩
theorem fG (p gw gh:Nat) (hw:gw<=1024) (hh:gh<=1024) (l:List Value) (W:World) (hG:Blk W p 198 (ii gw::ii gh::l)):Fn Tryz.prog 43 [pt p] W (yK (.agg #[ii 0,ii 0,ii (gw - 1),ii (gh - 1)]) W):=by
 have S:=St.start W
 refine zn Tryz.func43 Tryz.results43 Tryz.ntmps43 ?_
 refine zs ?_
 refine jF (jL qX rfl) S ?_
 intro b_b1 w2_ g2_ S
 refine z ?_; refine z ?_
 refine zc ?_
 refine jM rfl ?_
 refine zc ?_
 refine j5 ?_
 try show CW _ _ _ _ _ _
 refine zc ?_
 refine yB (C:=fun wq=>Gr w2_ wq) [0,1,2,3,4,5,6,7,8,9] [10,11] (by kernel_rfl) (by kernel_rfl) (Gr.drew _) ?_
 simp only [j6,List.drop_succ_cons,List.drop_zero]
 iterate 3 refine y ?_
 refine jV (fun wq hq=>jB q2 rfl rfl (hG.gr (S.gr hq).out) rfl) ?_
 refine yr ?_; iterate 3 refine y ?_
 refine jV (fun wq hq=>jB q2 rfl rfl (hG.gr (S.gr hq).out) rfl) ?_
 refine yr ?_
 refine yJ ?_
 intro w3_ g3_
 have S:=S.gr g3_
 refine jE (jN (pl:=[(0,1),(1,1),(2,1),(3,1)]) q27 qX (fun w=>by kernel_rfl) rfl rfl) ?_
 refine jH (i:=0) S rfl (y6 _) rfl rfl rfl rfl rfl rfl ?_
 intro w4_ S
 refine zq ?_
 exact v8 q27 rfl (y6 _) rfl (S.blk (i:=0) rfl) rfl rfl ⟨rfl,S.out⟩
theorem bW (p gw gh:Nat) (x0 y0 x1 y1:Int) (hw:gw<=1024) (hh:gh<=1024) (l:List Value) (W:World) (hG:Blk W p 198 (ii gw::ii gh::l)) :
  Fn Tryz.prog 61 [pt p,.agg #[ii x0,ii y0,ii x1,ii y1]] W (yK (ii (kD x0 y0 x1 y1 gw gh)) W):=by
 have S:=St.start W
 refine zn Tryz.func61 Tryz.results61 Tryz.ntmps61 ?_
 refine zs ?_
 refine jF (jO rfl) S ?_
 intro b_b1 w2_ g2_ S
 iterate 3 refine z ?_
 refine zc ?_
 refine jM rfl ?_
 refine zc ?_
 refine j5 ?_
 try show CW _ _ _ _ _ _
 refine zc ?_
 refine yB (C:=fun wq=>Gr w2_ wq) [0,1,2,3,4,5,6,7,8,9,10] [] (by kernel_rfl) (by kernel_rfl) (Gr.drew _) ?_
 simp only [j6,List.drop_succ_cons,List.drop_zero]
 refine jV (fun wq hq=>jT q27 rfl (y6 _) rfl ((S.gr hq).blk (i:=0) rfl) rfl rfl) ?_
 iterate 3 refine y ?_
 refine jV (fun wq hq=>jB q2 rfl rfl (hG.gr (S.gr hq).out) rfl) ?_
 iterate 3 refine y ?_
 refine jV (fun wq hq=>jB q2 rfl rfl (hG.gr (S.gr hq).out) rfl) ?_
 refine y8 rfl (fun wq hq=>(zI _ _ _ _ _ _ (by omega) (by omega) wq).mono (fun _ _ ⟨hv,hg⟩=>⟨hv,hq.trans hg⟩)) ?_
 refine y ?_
 refine yJ ?_
 intro w3_ g3_
 have S:=S.gr g3_
 refine zq ?_
 exact yD rfl ⟨rfl,S.out⟩
theorem jel (x y:Int) (W:World):Fn Tryz.prog 66 [.agg #[ii x,ii y]] W (yK (.agg #[ii x,ii y,ii x,ii y]) W):=by
 have S:=St.start W
 refine zn Tryz.func66 Tryz.results66 Tryz.ntmps66 ?_
 refine zs ?_
 refine jF (jO rfl) S ?_
 intro b_b1 w2_ g2_ S
 refine jF (jL qX rfl) S ?_
 intro b_b3 w4_ g4_ S
 iterate 8 refine z ?_
 refine jE (jN (pl:=[(0,1),(1,1),(2,1),(3,1)]) q27 qX (fun w=>by kernel_rfl) rfl rfl) ?_
 refine jH (i:=0) S rfl (y6 _) rfl rfl rfl rfl rfl rfl ?_
 intro w5_ S
 refine zq ?_
 exact v8 q27 rfl (y6 _) rfl (S.blk (i:=0) rfl) rfl rfl ⟨rfl,S.out⟩
theorem r9 (x y:Int) (hx:0<=x) (hy:0<=y) (W:World):Fn Tryz.prog 65 [ii x,ii y] W (yK (.agg #[ii (x % 16),ii (y % 16)]) W):=by
 have S:=St.start W
 refine zn Tryz.func65 Tryz.results65 Tryz.ntmps65 ?_
 refine zs ?_
 refine jF (jL kL rfl) S ?_
 intro b_b1 w2_ g2_ S
 refine z ?_
 refine jE (kU rfl rfl (by omega) (by omega)) ?_
 refine z ?_
 refine jE (kU rfl rfl (by omega) (by omega)) ?_
 refine jE (jN (pl:=[(0,1),(1,1)]) q23 kL (fun w=>by kernel_rfl) rfl rfl) ?_
 refine jH (i:=0) S rfl (qI _) rfl rfl rfl rfl rfl rfl ?_
 intro w3_ S
 refine zq ?_
 exact v8 q23 rfl (qI _) rfl (S.blk (i:=0) rfl) rfl rfl ⟨rfl,S.out⟩
end
section
open Go.RowKit
section
variable {W : World} {p gw gh cap : Nat} {c : Nat → Int} {A : Option Addr} {bs : Nat → Nat} {Rs : Nat → Option Nat}
theorem jbm (x y:Nat) (hx:x < gw) (hy:y < gh) (hG:GridAt W p gw gh c A cap bs Rs) :
  Fn Tryz.prog 63 [pt p,ii x,ii y] W (yK (.pointer (some ⟨bs (y / 16 * acr gw+x / 16),0,none⟩)) W):=by
 have hT:=hG.top
 have hR:=hG.row
 have ht:=bE hx hy
 have hw:=hG.sw
 have hh:=hG.sh
 have hN:acr gw * acr gh<=64 * 64:=Nat.mul_le_mul (vT hw.2) (vT hh.2)
 have sa_R:yH A:=hR.someA (by omega)
 have hb:y / 16 * acr gw<=64 * 64:=Nat.mul_le_mul (by omega) (vT hw.2)
 have e1:(y:Int) / 16 * (acr gw:Nat)=((y / 16 * acr gw:Nat):Int):=by push_cast; rfl
 have e2:(((y / 16 * acr gw:Nat):Int)+(x:Int) / 16).toNat * 1=y / 16 * acr gw+x / 16:=by omega
 have hv:=jgW (bs:=bs) ht
 have S:=St.start W
 refine zn Tryz.func63 Tryz.results63 Tryz.ntmps63 ?_
 refine z ?_
 refine zc ?_
 refine yB (C:=fun wq=>Gr W wq) [0,1,2,3,4,5,6,7,8,9,10,11,12,13,14,15,16] [] (by kernel_rfl) (by kernel_rfl) (Gr.drew _) ?_
 simp only [j6,List.drop_succ_cons,List.drop_zero]
 iterate 2 refine jW (jA rfl) ?_
 refine jW (jD Tryz.underlying198 rfl Tryz.sizeOf196 rfl rfl) ?_
 refine jV (fun wq hq=>jB jaT rfl rfl (hT.gr (S.gr hq).out) rfl) ?_
 refine jW (jA rfl) ?_
 refine jW (vP rfl rfl (by omega) (by omega)) ?_
 iterate 2 refine jW (jA rfl) ?_
 refine jW (jD Tryz.underlying198 rfl qz2 rfl rfl) ?_
 refine jV (fun wq hq=>jB q2 rfl rfl (hT.gr (S.gr hq).out) rfl) ?_
 refine yr ?_
 rw [e1]
 refine jW (jA rfl) ?_
 refine jW (vP rfl rfl (by omega) (by omega)) ?_
 refine yr ?_; refine yx ?_
 rw [e2]
 refine jV (fun wq hq=>j7 Tryz.underlying133 rfl rfl (Row.rd (hR.gr (S.gr hq).out)) hv) ?_
 refine jW (jA rfl) ?_
 refine yJ ?_
 intro w1_ g1_
 have S:=S.gr g1_
 refine zq ?_
 exact yD rfl ⟨rfl,S.out⟩
theorem jjQ (x y:Nat) (hx:x < gw) (hy:y < gh) (hG:GridAt W p gw gh c A cap bs Rs) :
  Fn Tryz.prog 28 [pt p,.agg #[ii x,ii y]] W (yK (.tuple #[ii (c (y * gw+x)),ii 0]) W):=by
 have hw:=hG.sw
 have hh:=hG.sh
 have hwi:kD x y x y gw gh=0:=qW (by omega) (by omega) (by omega) (by omega)
 have ht:=bE hx hy
 have hS:=hG.slab _ ht
 have hto:=bD (gw:=gw) (b:=y / 16) (qD hx)
 rw [hto.1,hto.2] at hS
 have hmx:=vQ hx
 have hmy:=vQ hy
 have hz1:=vN (qD hx)
 have hz2:=vN (qD hy)
 have e1:((y:Int) % 16 * (tsz gw (x / 16):Nat)+(x:Int) % 16).toNat=y % 16 * tsz gw (x / 16)+x % 16:=by
  have:(y:Int) % 16 * (tsz gw (x / 16):Nat)+(x:Int) % 16=((y % 16 * tsz gw (x / 16)+x % 16:Nat):Int):=by push_cast; rfl
  rw [this]; exact Int.toNat_natCast _
 have S:=St.start W
 refine zn Tryz.func28 Tryz.results28 Tryz.ntmps28 ?_
 refine zs ?_
 refine jF (jO rfl) S ?_
 intro b_b1 w2_ g2_ S
 iterate 4 refine z ?_
 refine jC rfl (jel _ _ w2_) ?_
 rintro _ w3_ ⟨rfl,g3_⟩
 have S:=S.gr g3_
 refine jC rfl (bW p gw gh x y x y hw.2 hh.2 _ w3_ (hG.top.gr S.out)) ?_
 rintro _ w4_ ⟨rfl,g4_⟩
 have S:=S.gr g4_
 refine z ?_; refine z ?_; refine zf ?_
 refine zc ?_
 refine jM (by rw [hwi]; rfl) ?_
 refine zc ?_
 refine j5 ?_
 try show CW _ _ _ _ _ _
 refine zc ?_
 refine yB (C:=fun wq=>Gr w4_ wq) [0,1,2,3,4,5,6,7,8,9,10,11,12,13,14,15] [] (by kernel_rfl) (by kernel_rfl) (Gr.drew _) ?_
 simp only [j6,List.drop_succ_cons,List.drop_zero]
 refine jW (jA rfl) ?_
 refine jW (jD q23 rfl qz2 rfl rfl) ?_
 refine jV (fun wq hq=>jB q2 rfl rfl ((S.gr hq).blk (i:=0) rfl) rfl) ?_
 refine jW (jD q23 rfl qz2 rfl rfl) ?_
 refine jV (fun wq hq=>jB q2 rfl rfl ((S.gr hq).blk (i:=0) rfl) rfl) ?_
 refine y8 rfl (fun wq hq=>(jbm x y hx hy (hG.gr (S.gr hq).out)).mono (fun _ _ ⟨hv,hg⟩=>⟨hv,hq.trans hg⟩)) ?_
 refine jW (jD q23 rfl qz2 rfl rfl) ?_
 refine jV (fun wq hq=>jB q2 rfl rfl ((S.gr hq).blk (i:=0) rfl) rfl) ?_
 refine jW (jD q23 rfl qz2 rfl rfl) ?_
 refine jV (fun wq hq=>jB q2 rfl rfl ((S.gr hq).blk (i:=0) rfl) rfl) ?_
 refine y8 rfl (fun wq hq=>(r9 _ _ (by omega) (by omega) wq).mono (fun _ _ ⟨hv,hg⟩=>⟨hv,hq.trans hg⟩)) ?_
 refine y8 rfl (fun wq hq=>(jjL _ _ _ _ (gI gw c (y / 16 * acr gw+x / 16)) (x % 16) (y % 16) hz1 hz2 (by omega) (by omega) wq (hS.gr (S.gr hq).out)).mono (fun _ _ ⟨hv,hg⟩=>⟨hv,hq.trans hg⟩)) ?_
 iterate 4 refine jW (jA rfl) ?_
 refine yJ ?_
 intro w5_ g5_
 have S:=S.gr g5_
 refine zq ?_
 exact kY rfl rfl ⟨by rw [e1,jbF (gh:=gh) hx hy],S.out⟩
theorem jjk (x y:Int) (hno:¬ (0<=x/\x < gw/\0<=y/\y < gh)) (hG:GridAt W p gw gh c A cap bs Rs) :
  Fn Tryz.prog 28 [pt p,.agg #[ii x,ii y]] W (yK (.tuple #[ii 0,ii 4]) W):=by
 have hw:=hG.sw
 have hh:=hG.sh
 have hwi:kD x y x y gw gh=4:=by
  have e1:yQ ((gw:Int) - 1) 1024=true:=by simp [yQ]; omega
  have e2:yQ ((gh:Int) - 1) 1024=true:=by simp [yQ]; omega
  by_cases hx:0<=x/\x < gw
  ·have e3:yQ x gw=true:=by simp [yQ]; omega
   have e4:yQ y gh=false:=by simp [yQ]; omega
   simp [kD,e1,e2,e3,e4]
  ·have e3:yQ x gw=false:=by simp [yQ]; omega
   simp [kD,e1,e2,e3]
 have S:=St.start W
 refine zn Tryz.func28 Tryz.results28 Tryz.ntmps28 ?_
 refine zs ?_
 refine jF (jO rfl) S ?_
 intro b_b1 w2_ g2_ S
 iterate 4 refine z ?_
 refine jC rfl (jel _ _ w2_) ?_
 rintro _ w3_ ⟨rfl,g3_⟩
 have S:=S.gr g3_
 refine jC rfl (bW p gw gh x y x y hw.2 hh.2 _ w3_ (hG.top.gr S.out)) ?_
 rintro _ w4_ ⟨rfl,g4_⟩
 have S:=S.gr g4_
 refine z ?_; refine z ?_; refine zt ?_
 refine zc ?_
 refine yS (by rw [hwi]; rfl) ?_
 iterate 3 refine z ?_
 refine zq ?_
 exact kY rfl rfl ⟨by rw [hwi],S.out⟩
def yC (xs:List Int):List Value:=xs.map (.int .i64)
theorem qY (xs:List Int):(yC xs).length=xs.length:=by simp [yC]
theorem jhw (xs ys:List Int):yC xs ++ yC ys=yC (xs ++ ys):=by simp [yC]
theorem qO {xs:List Int} {i:Nat} {x:Int} (h:xs[i]?=some x):(yC xs)[i]?=some (ii x):=by simp [yC,h]
def cO (gw:Nat) (c:Nat->Int) (x0 y n:Nat):List Int:=(List.range n).map fun i=>c (y * gw+(x0+i))
def y9 (gw:Nat) (c:Nat->Int) (x0 y0 w h:Nat):List Int:=(List.range h).flatMap fun j=>cO gw c x0 (y0+j) w
theorem jeU (gw:Nat) (c:Nat->Int) (x0 y n:Nat):cO gw c x0 y (n+1)=cO gw c x0 y n ++ [c (y * gw+(x0+n))]:=by simp [cO,List.range_succ]
theorem cP (gw:Nat) (c:Nat->Int) (x0 y0 w h:Nat):y9 gw c x0 y0 w (h+1)=y9 gw c x0 y0 w h ++ cO gw c x0 (y0+h) w:=by simp [y9,List.range_succ]
theorem jbV (gw:Nat) (c:Nat->Int) (x0 y n:Nat):(cO gw c x0 y n).length=n:=by simp [cO]
theorem z6 (gw:Nat) (c:Nat->Int) (x0 y0 w h:Nat):(y9 gw c x0 y0 w h).length=h * w:=by
 induction h with
 | zero=>simp [y9]
 | succ h ih=>rw [cP,List.length_append,ih,jbV,Nat.succ_mul]
theorem gK (gw gh:Nat) (c:Nat->Int):y9 gw c 0 0 gw gh=(List.range (gw * gh)).map c:=by
 induction gh with
 | zero=>simp [y9]
 | succ h ih =>
  rw [cP,ih,Nat.mul_succ,List.range_add,List.map_append]
  congr 1
  simp only [cO,List.map_map]
  refine List.map_congr_left fun i _=>?_
  simp only [Function.comp,Nat.zero_add,Nat.mul_comm]
theorem qN (x0 y0 x1 y1:Nat) (hx:x0<=x1/\x1 < gw) (hy:y0<=y1/\y1 < gh) (hG:GridAt W p gw gh c A cap bs Rs) :
  Fn Tryz.prog 25 [pt p,.agg #[ii x0,ii y0,ii x1,ii y1]] W
   (qR (fun v=>.tuple #[v,ii 0]) 2 1 ((y1+1 - y0) * (x1+1 - x0)) (yC (y9 gw c x0 y0 (x1+1 - x0) (y1+1 - y0))) W):=by
 have hw:=hG.sw
 have hh:=hG.sh
 have hwi:kD x0 y0 x1 y1 gw gh=0:=qW (by omega) (by omega) (by omega) (by omega)
 have hN:(y1+1 - y0) * (x1+1 - x0)<=1024 * 1024:=Nat.mul_le_mul (by omega) (by omega)
 have har:((x1:Int) - x0+1) * (y1 - y0+1)=(((y1+1 - y0) * (x1+1 - x0):Nat):Int):=by
  rw [show (x1:Int) - x0+1=((x1+1 - x0:Nat):Int) by omega,show (y1:Int) - y0+1=((y1+1 - y0:Nat):Int) by omega]
  push_cast; exact Int.mul_comm _ _
 have S:=St.start W
 refine zn Tryz.func25 Tryz.results25 Tryz.ntmps25 ?_
 refine zs ?_
 refine jF (jO rfl) S ?_
 intro b_rc w2_ g2_ S
 iterate 4 refine z ?_
 refine jC rfl (bW p gw gh x0 y0 x1 y1 hw.2 hh.2 _ w2_ (hG.top.gr S.out)) ?_
 rintro _ w3_ ⟨rfl,g3_⟩
 have S:=S.gr g3_
 refine z ?_; refine z ?_; refine zf ?_
 refine zc ?_
 refine jM (by rw [hwi]; rfl) ?_
 refine z ?_
 refine jC rfl (fK _ _ _ _ (by omega) w3_) ?_
 rintro _ w4_ ⟨rfl,g4_⟩
 have S:=S.gr g4_
 rw [har]
 refine vU q30 uY rfl rfl rfl (n:=0) (c:=(y1+1 - y0) * (x1+1 - x0)) (by omega) (by omega) (by omega) (by omega) S ?_
 intro A_out w6_ g6_ S sa_out
 iterate 4 refine z ?_
 refine zc ?_
 refine jS ?_
 refine zc ?_
 refine j9 (fun m e w=>∃ (j:Nat) (A:Option Addr) (cp:Nat),j+m=y1+1 - y0/\SL e [(0,pt p),(3,pt b_rc),(7,.slice A (j * (x1+1 - x0)) cp),(8,ii (y0+j))] /\
  St No W w [.row 2 1 A (j * (x1+1 - x0)) cp (yC (y9 gw c x0 y0 (x1+1 - x0) j)),.blk b_rc 27 [ii x0,ii y0,ii x1,ii y1]]) (y1+1 - y0)
  ⟨0,_,_,by omega,⟨rfl,rfl,se (by omega) rfl,rfl,trivial⟩,by rw [Nat.zero_mul]; exact S⟩ ?_
 rintro m e w ⟨j,A1,cp,hj,hsl,S⟩
 rw [hsl.fold]
 iterate 4 refine z ?_
 refine zk ?_ ?_
 ·intro hc
  have hjh:j < y1+1 - y0:=by omega
  iterate 3 refine z ?_
  refine zc ?_
  refine jS ?_
  refine zc ?_
  refine j9 (fun m e w=>∃ (k:Nat) (A:Option Addr) (cp:Nat),k+m=x1+1 - x0/\SL e [(0,pt p),(3,pt b_rc),(7,.slice A (j * (x1+1 - x0)+k) cp),(8,ii (y0+j)),(9,ii (x0+k))] /\
   St No W w [.row 2 1 A (j * (x1+1 - x0)+k) cp (yC (y9 gw c x0 y0 (x1+1 - x0) j ++ cO gw c x0 (y0+j) k)),.blk b_rc 27 [ii x0,ii y0,ii x1,ii y1]]) (x1+1 - x0)
   ⟨0,_,_,by omega,⟨rfl,rfl,rfl,rfl,rfl,trivial⟩,by simpa [cO] using S⟩ ?_
  rintro m' e w ⟨k,A2,cp2,hk,hsl,S⟩
  rw [hsl.fold]
  iterate 4 refine z ?_
  refine zc ?_
  refine xI rfl (fun hc'=>?_) (fun hc'=>?_)
  ·try simp only [decide_eq_true_eq,decide_eq_false_iff_not,beq_iff_eq,bne_iff_ne,beq_eq_false_iff_ne,bne_eq_false_iff_eq,Bool.not_eq_true',Bool.not_eq_false',ne_eq,Decidable.not_not,Int.natCast_inj,Int.ofNat_lt,Int.ofNat_le,gt_iff_lt,ge_iff_le,Int.not_lt,Int.not_le] at hc'
   have hkh:k < x1+1 - x0:=by omega
   have hxk:x0+k < gw:=by omega
   have hyj:y0+j < gh:=by omega
   have hjk:j * (x1+1 - x0)+k+1<=(y1+1 - y0) * (x1+1 - x0):=by
    have:(j+1) * (x1+1 - x0)<=(y1+1 - y0) * (x1+1 - x0):=Nat.mul_le_mul_right _ hjh
    rw [Nat.succ_mul] at this
    omega
   have ht:=bE hxk hyj
   have hS:=hG.slab _ ht
   have hto:=bD (gw:=gw) (b:=(y0+j) / 16) (qD hxk)
   rw [hto.1,hto.2] at hS
   have hmx:=vQ hxk
   have hmy:=vQ hyj
   have hz1:=vN (qD hxk)
   have hz2:=vN (qD hyj)
   have e0:(x0:Int)+k=((x0+k:Nat):Int):=by omega
   have e0':(y0:Int)+j=((y0+j:Nat):Int):=by omega
   have e1:(((y0+j:Nat):Int) % 16 * (tsz gw ((x0+k) / 16):Nat)+((x0+k:Nat):Int) % 16).toNat=(y0+j) % 16 * tsz gw ((x0+k) / 16)+(x0+k) % 16:=by
    have:((y0+j:Nat):Int) % 16 * (tsz gw ((x0+k) / 16):Nat)+((x0+k:Nat):Int) % 16=(((y0+j) % 16 * tsz gw ((x0+k) / 16)+(x0+k) % 16:Nat):Int):=by push_cast; rfl
    rw [this]; exact Int.toNat_natCast _
   rw [e0,e0']
   iterate 3 refine z ?_
   refine jC rfl (jbm (x0+k) (y0+j) hxk hyj (hG.gr S.out)) ?_
   rintro _ w7_ ⟨rfl,g7_⟩
   have S:=S.gr g7_
   refine z ?_; refine z ?_
   refine jC rfl (r9 _ _ (by omega) (by omega) w7_) ?_
   rintro _ w8_ ⟨rfl,g8_⟩
   have S:=S.gr g8_
   refine jC rfl (jjL _ _ _ _ (gI gw c ((y0+j) / 16 * acr gw+(x0+k) / 16)) (((x0+k:Nat):Int) % 16) (((y0+j:Nat):Int) % 16) hz1 hz2 (by omega) (by omega) w8_ (hS.gr S.out)) ?_
   rintro _ w9_ ⟨rfl,g9_⟩
   have S:=S.gr g9_
   rw [e1,jbF (gh:=gh) hxk hyj]
   iterate 7 refine z ?_
   refine yF q30 qz2 qv2 rfl rfl rfl rfl rfl rfl S ?_
   intro A_b10 w11_ g11_ S sa_b10
   refine qA (i:=1) S rfl (fun h=>rfl) q30 uY rfl rfl rfl rfl (by simp) (by omega) (S.rd (i:=0) rfl) rfl (by omega) ?_
   intro A_out12 c_out12 w12_ S sa_out
   refine z ?_; refine z ?_; refine zr ?_; refine z ?_
   refine ze ?_
   refine ⟨m' - 1,by omega,k+1,_,_,by omega,⟨rfl,rfl,rfl,ie (by omega),ie (by omega),trivial⟩,?_⟩
   have S:=S.sub (.cons _ (.cons_cons _ (.cons_cons _ .slnil)))
   rw [jeU,<-List.append_assoc,<-jhw]
   exact S
  ·try simp only [decide_eq_true_eq,decide_eq_false_iff_not,beq_iff_eq,bne_iff_ne,beq_eq_false_iff_ne,bne_eq_false_iff_eq,Bool.not_eq_true',Bool.not_eq_false',ne_eq,Decidable.not_not,Int.natCast_inj,Int.ofNat_lt,Int.ofNat_le,gt_iff_lt,ge_iff_le,Int.not_lt,Int.not_le] at hc'
   refine zc ?_
   refine jY ?_
   repeat first | refine jP ?_ | refine jU ?_
   show CW _ _ _ _ _ _
   refine z ?_; refine zr ?_; refine z ?_
   refine ze ?_
   obtain rfl:k=x1+1 - x0:=by omega
   refine ⟨m - 1,by omega,j+1,_,_,by omega,⟨rfl,rfl,se (Nat.succ_mul _ _).symm rfl,ie (by omega),trivial⟩,?_⟩
   rw [cP,Nat.succ_mul]
   exact S
 ·intro hc
  refine zc ?_
  refine jY ?_
  repeat first | refine jP ?_ | refine jU ?_
  show CW _ _ _ _ _ _
  iterate 3 refine z ?_
  refine zq ?_
  obtain rfl:j=y1+1 - y0:=by omega
  exact kY rfl rfl (S.retNew (i:=0) (mk:=fun v=>.tuple #[v,ii 0]) rfl)
end
end
section
open Go.RowKit
theorem vK {α β:Type} {f:α->List β} {m:Nat} (hf:∀ a,(f a).length=m) (l:List α):(l.flatMap f).length=l.length * m:=by
 induction l with
 | nil=>simp
 | cons a l ih=>rw [List.flatMap_cons,List.length_append,ih,hf,List.length_cons,Nat.succ_mul,Nat.add_comm]
theorem uN {α β:Type} {f:α->List β} {m:Nat} (hf:∀ a,(f a).length=m):∀ (l:List α) (k:Nat) (a:α) (d n:Nat),l[k]?=some a->d+n<=m->((l.flatMap f).drop (k * m+d)).take n=((f a).drop d).take n
 | [],k,a,d,n,h,_=>by cases h
 | b::l,0,a,d,n,h,hd=>by
  obtain rfl:b=a:=by simpa using h
  rw [List.flatMap_cons,Nat.zero_mul,Nat.zero_add,List.drop_append_of_le_length (by rw [hf]; omega),List.take_append_of_le_length (by rw [List.length_drop,hf]; omega)]
 | b::l,k+1,a,d,n,h,hd=>by
  have ih:=uN hf l k a d n (by simpa using h) hd
  rw [List.flatMap_cons,Nat.succ_mul,show k * m+m+d=m+(k * m+d) by omega,<-List.drop_drop,List.drop_left' (hf b)]
  exact ih
theorem uE {α β:Type} {f:α->List β} {m:Nat} (hf:∀ a,(f a).length=m) {l:List α} {k:Nat} {a:α} (h:l[k]?=some a):((l.flatMap f).drop (k * m)).take m=f a:=by
 have:=uN hf l k a 0 m h (by omega)
 rw [Nat.add_zero] at this
 rw [this,List.drop_zero,List.take_of_length_le (by rw [hf]; omega)]
theorem rM {α β:Type} {f:α->List β} {m:Nat} (hf:∀ a,(f a).length=m) {l:List α} {k:Nat} {a:α} (h:l[k]?=some a) {j:Nat} (hj:j < m):(l.flatMap f)[k * m+j]?=(f a)[j]?:=by
 have:=uN hf l k a j 1 h (by omega)
 have e1:∀ (L:List β) (d:Nat),L[d]?=((L.drop d).take 1)[0]?:=fun L d=>by simp [List.getElem?_take]
 rw [e1,this,<-e1]
theorem nQ (x0 y0 x1 y1 x y:Int):(cR x0 y0 x1 y1 x y).length=4:=rfl
theorem jgA (x0 y0 x1 y1 y:Int) (k:Nat):(lE x0 y0 x1 y1 y k).length=k * 4:=by
 unfold lE; rw [vK (fun a=>nQ _ _ _ _ _ _),List.length_range]
theorem cQ (x0 y0 x1 y1:Int) (ny i j:Nat) (hi:i < j4 x0 x1) (hj:j < ny) :
  ((vF x0 y0 x1 y1 ny).drop ((j * j4 x0 x1+i) * 4)).take 4=cR x0 y0 x1 y1 (x0 - x0 % 16+16 * (i:Int)) (y0 - y0 % 16+16 * (j:Int)):=by
 have h1:=uN (f:=fun (j:Nat)=>lE x0 y0 x1 y1 (y0 - y0 % 16+16 * (j:Int)) (j4 x0 x1)) (fun a=>jgA _ _ _ _ _ _) (List.range ny) j j (i * 4) 4 (by simp [hj]) (by omega)
 rw [Nat.add_mul,Nat.mul_assoc]
 unfold vF
 rw [h1]
 exact uE (fun a=>nQ _ _ _ _ _ _) (by simp [hi])
theorem nP (x0 y0 x1 y1 : Int) (h : 0 ≤ x0 ∧ x0 ≤ x1 ∧ x1 < 1024 ∧ 0 ≤ y0 ∧ y0 ≤ y1 ∧ y1 < 1024) (W : World) :
    Fn Tryz.prog 103 [.agg #[.int .i64 x0, .int .i64 y0, .int .i64 x1, .int .i64 y1]] W (qR id 27 4 (j4 y0 y1 * j4 x0 x1) (vF x0 y0 x1 y1 (j4 y0 y1)) W) :=
  (jg4 x0 y0 x1 y1 h W).mono fun v w' ⟨A, c, hv, ho, hg⟩ => ⟨A, c, hv, ho.base (Nat.zero_le _), fun g hg' => by
    cases A with
    | none => cases hg'
    | some a => exact (ho.lt g (by have : a.block = g := by injection hg'
                                   show Option.some a.block = _; rw [this])).1, hg⟩
def uV (N p:Nat) (A:Option Addr) (bs:Nat->Nat) (Rs:Nat->Option Nat) (g:Nat):Prop:=g=p\/kZ A g\/∃ t,t < N/\(g=bs t\/Rs t=some g)
theorem GridAt.lt {w:World} {p gw gh cap:Nat} {c:Nat->Int} {A:Option Addr} {bs:Nat->Nat} {Rs:Nat->Option Nat} (h:GridAt w p gw gh c A cap bs Rs) {g:Nat} (hg:uV (acr gw * acr gh) p A bs Rs g):g < w.heap.size:=by
 rcases hg with rfl | hg | ⟨t,ht,hg⟩
 ·exact h.top.lt
 ·exact h.row.lt hg
 ·exact (h.slab t ht).lt hg
theorem GridAt.keep {w w':World} {p gw gh cap:Nat} {c:Nat->Int} {A:Option Addr} {bs:Nat->Nat} {Rs:Nat->Option Nat} (h:GridAt w p gw gh c A cap bs Rs) (hk:∀ g,uV (acr gw * acr gh) p A bs Rs g->w'.heap[g]?=w.heap[g]?):GridAt w' p gw gh c A cap bs Rs :=
 ⟨h.sw,h.sh,h.top.keep (hk p (.inl rfl)),h.row.keep (fun g hg=>hk g (.inr (.inl hg))),fun t ht=>(h.slab t ht).keep (fun g hg=>hk g (.inr (.inr ⟨t,ht,hg⟩))),h.inj,h.injR⟩
def HA.grid (p gw gh:Nat) (c:Nat->Int) (A:Option Addr) (cap:Nat) (bs:Nat->Nat) (Rs:Nat->Option Nat):HA :=
 ⟨uV (acr gw * acr gh) p A bs Rs,fun w=>GridAt w p gw gh c A cap bs Rs,fun _ _ h _ hG=>hG.keep h,fun _ hG _ hg=>hG.lt hg⟩
theorem St.grid {F:Nat->Prop} {W w:World} {L:List HA} (S:St F W w L) {i p gw gh cap:Nat} {c:Nat->Int} {A:Option Addr} {bs:Nat->Nat} {Rs:Nat->Option Nat} (hi:qP L i=some (.grid p gw gh c A cap bs Rs)):GridAt w p gw gh c A cap bs Rs:=S.ok hi
theorem kW {gw X Y:Nat} (hX:X < gw):(Y * gw+X) % gw=X/\(Y * gw+X) / gw=Y:=by
 constructor
 ·rw [Nat.mul_add_mod_self_right,Nat.mod_eq_of_lt hX]
 ·rw [Nat.add_comm,Nat.add_mul_div_right _ _ (by omega),Nat.div_eq_of_lt hX,Nat.zero_add]
theorem lU {w:World} {b:Nat} {R:Option Nat} {sw sh:Nat} {c:Nat->Int} (h:SlabIs w b R sw sh c) {g:Nat} (hg:g=b\/R=some g):∃ t l,Blk w g t l/\(t=247\/t=21):=by
 obtain ⟨_,h⟩:=h
 cases R with
 | none=>obtain ⟨x,hB,_⟩:=h; exact hg.elim (fun e=>by subst e; exact ⟨_,_,hB,.inl rfl⟩) (fun e=>by cases e)
 | some g' =>
  obtain ⟨cap,hB,hR⟩:=h
  rcases hg with rfl | hg
  ·exact ⟨_,_,hB,.inl rfl⟩
  ·injection hg with hg
   subst hg
   rcases hR.form with ⟨h,_⟩ | ⟨g,l,h,hB',_⟩
   ·cases h
   ·injection h with h; injection h with h; subst h; exact ⟨_,_,hB',.inr rfl⟩
theorem SlabIs.blk {w:World} {b:Nat} {R:Option Nat} {sw sh:Nat} {c:Nat->Int} (h:SlabIs w b R sw sh c):∃ l,Blk w b 247 l:=by
 obtain ⟨_,h⟩:=h
 cases R with
 | none=>obtain ⟨x,hB,_⟩:=h; exact ⟨_,hB⟩
 | some g=>obtain ⟨cap,hB,_⟩:=h; exact ⟨_,hB⟩
theorem SlabIs.rblk {w:World} {b g:Nat} {sw sh:Nat} {c:Nat->Int} (h:SlabIs w b (some g) sw sh c):∃ l,Blk w g 21 l:=by
 obtain ⟨_,cap,hB,hR⟩:=h
 rcases hR.form with ⟨h,_⟩ | ⟨g',l,h,hB',_⟩
 ·cases h
 ·injection h with h; injection h with h; subst h; exact ⟨_,hB'⟩
theorem GridAt.fillTile {w w':World} {p gw gh cap:Nat} {c:Nat->Int} {A:Option Addr} {bs:Nat->Nat} {Rs:Nat->Option Nat} (h:GridAt w p gw gh c A cap bs Rs) {X0 Y0 X1 Y1:Nat} {v:Int}
  (hX:X0<=X1/\X1 < gw/\X0 / 16=X1 / 16) (hY:Y0<=Y1/\Y1 < gh/\Y0 / 16=Y1 / 16)
  (hP:jev w (bs (Y0 / 16 * acr gw+X0 / 16)) (Rs (Y0 / 16 * acr gw+X0 / 16)) (tsz gw (X0 / 16)) (tsz gh (Y0 / 16)) (qH (tsz gw (X0 / 16)) (X0 % 16:Nat) (Y0 % 16:Nat) (X1 % 16:Nat) (Y1 % 16:Nat) v (gI gw c (Y0 / 16 * acr gw+X0 / 16))) w') :
  ∃ Rs',GridAt w' p gw gh (qH gw X0 Y0 X1 Y1 v c) A cap bs Rs'/\Fr (uV (acr gw * acr gh) p A bs Rs) w w'/\∀ g,uV (acr gw * acr gh) p A bs Rs' g->uV (acr gw * acr gh) p A bs Rs g\/w.heap.size<=g:=by
 obtain ⟨R',hS,hF,hR⟩:=hP
 have ht:=bE (gw:=gw) (gh:=gh) (x:=X0) (y:=Y0) (by omega) (by omega)
 have hto:=bD (gw:=gw) (b:=Y0 / 16) (qD (x:=X0) (by omega))
 generalize hT:Y0 / 16 * acr gw+X0 / 16=T at *
 have hS0:=h.slab T ht
 have hpos:=vZ h.sw.1
 have hFown:∀ g,(g=bs T\/Rs T=some g)->uV (acr gw * acr gh) p A bs Rs g:=fun g hg=>.inr (.inr ⟨T,ht,hg⟩)
 have hnew:∀ g,R'=some g->∀ u,u < acr gw * acr gh->u ≠ T->Rs u=some g->False:=fun g hg u hu hne hu2=>by
  rcases hR g hg with e | e
  ·exact hne (h.injR u T g hu ht hu2 e)
  ·have:=(h.slab u hu).lt (.inr hu2); omega
 refine ⟨fun u=>if u=T then R' else Rs u,⟨h.sw,h.sh,?_,?_,fun u hu=>?_,h.inj,fun u u' g hu hu' e1 e2=>?_⟩,hF.weak hFown,fun g hg=>?_⟩
 ·refine h.top.fr hF fun hg=>?_
  obtain ⟨t,l,hB,hty⟩:=lU hS0 hg
  have:=(h.top.inj hB).1
  rcases hty with rfl | rfl <;> exact absurd this (by decide)
 ·refine h.row.keep fun g hg=>hF.block g (h.row.lt hg) fun hg'=>?_
  obtain ⟨t,l,hB,hty⟩:=lU hS0 hg'
  exact m0 hB h.row (by rcases hty with rfl | rfl <;> decide) hg
 ·have hu1:u % acr gw < acr gw:=Nat.mod_lt _ (by omega)
  by_cases e:u=T
  ·subst e
   rw [if_pos rfl]
   rw [hto.1,hto.2]
   refine hS.congr fun i hi=>?_
   have hz:=vN (gw |> fun _=>qD (n:=gw) (x:=X0) (by omega))
   have hm:i % tsz gw (X0 / 16) < tsz gw (X0 / 16):=Nat.mod_lt _ (by omega)
   have hlt:=rG (gw:=gw) (gh:=gh) (t:=u) (i:=i) ht h.sw.1 (by rw [hto.1,hto.2]; exact hi)
   have hXlt:16 * (X0 / 16)+i % tsz gw (X0 / 16) < gw:=by
    have:tsz gw (X0 / 16)<=gw - 16 * (X0 / 16):=by unfold tsz; omega
    generalize i % tsz gw (X0 / 16)=q at *
    omega
   have hsp:=kW (gw:=gw) (X:=16 * (X0 / 16)+i % tsz gw (X0 / 16)) (Y:=16 * (Y0 / 16)+i / tsz gw (X0 / 16)) hXlt
   have hm16:i % tsz gw (X0 / 16) < 16:=by omega
   have hd16:i / tsz gw (X0 / 16) < 16:=by
    have h4:i / tsz gw (X0 / 16) < tsz gh (Y0 / 16):=Nat.div_lt_of_lt_mul hi
    have:tsz gh (Y0 / 16)<=16:=by unfold tsz; omega
    omega
   unfold qH gI
   rw [hto.1,hto.2]
   dsimp only
   have key:inR (tsz gw (X0 / 16)) (X0 % 16:Nat) (Y0 % 16:Nat) (X1 % 16:Nat) (Y1 % 16:Nat) i ↔ inR gw X0 Y0 X1 Y1 ((16 * (Y0 / 16)+i / tsz gw (X0 / 16)) * gw+(16 * (X0 / 16)+i % tsz gw (X0 / 16))):=by
    unfold inR
    rw [hsp.1,hsp.2]
    generalize i % tsz gw (X0 / 16)=q at *
    generalize i / tsz gw (X0 / 16)=r at *
    omega
   by_cases hin:inR (tsz gw (X0 / 16)) (X0 % 16:Nat) (Y0 % 16:Nat) (X1 % 16:Nat) (Y1 % 16:Nat) i
   ·rw [if_pos hin,if_pos (key.1 hin)]
   ·rw [if_neg hin,if_neg (fun h=>hin (key.2 h))]
  ·rw [if_neg e]
   have hk:=(h.slab u hu).keep (w':=w') fun g hg=>hF.block g ((h.slab u hu).lt hg) fun hg'=>by
    obtain ⟨lu,hBu⟩:=(h.slab u hu).blk
    obtain ⟨lt,hBt⟩:=hS0.blk
    rcases hg with rfl | hg
    ·rcases hg' with hg' | hg'
     ·exact e (h.inj u T hu ht hg')
     ·rw [hg'] at hS0
      obtain ⟨l2,hB2⟩:=hS0.rblk
      exact absurd (hBu.inj hB2).1 (by decide)
    ·rcases hg' with rfl | hg'
     ·have hsu:=h.slab u hu
      rw [hg] at hsu
      obtain ⟨l2,hB2⟩:=hsu.rblk
      exact absurd (hBt.inj hB2).1 (by decide)
     ·exact e (h.injR u T g hu ht hg hg')
   refine hk.congr fun i hi=>?_
   have hz:=vN hu1
   have hm:i % tsz gw (u % acr gw) < tsz gw (u % acr gw):=Nat.mod_lt _ (by omega)
   have hd16:i / tsz gw (u % acr gw) < 16:=by
    have h4:i / tsz gw (u % acr gw) < tsz gh (u / acr gw):=Nat.div_lt_of_lt_mul hi
    have:tsz gh (u / acr gw)<=16:=by unfold tsz; omega
    omega
   have hXlt:16 * (u % acr gw)+i % tsz gw (u % acr gw) < gw:=by
    have:tsz gw (u % acr gw)<=gw - 16 * (u % acr gw):=by unfold tsz; omega
    generalize i % tsz gw (u % acr gw)=q at *
    omega
   have hsp:=kW (gw:=gw) (X:=16 * (u % acr gw)+i % tsz gw (u % acr gw)) (Y:=16 * (u / acr gw)+i / tsz gw (u % acr gw)) hXlt
   unfold gI qH
   try dsimp only
   rw [if_neg]
   intro hin
   unfold inR at hin
   rw [hsp.1,hsp.2] at hin
   refine e ?_
   rw [<-hT,<-Nat.div_add_mod u (acr gw)]
   have e1:u / acr gw=Y0 / 16/\u % acr gw=X0 / 16:=by
    generalize i % tsz gw (u % acr gw)=q at *
    generalize i / tsz gw (u % acr gw)=r at *
    omega
   rw [e1.1,e1.2,Nat.mul_comm]
 ·try dsimp only at e1 e2
  by_cases h1:u=T
  ·by_cases h2:u'=T
   ·rw [h1,h2]
   ·rw [if_pos h1] at e1; rw [if_neg h2] at e2; exact (hnew g e1 u' hu' h2 e2).elim
  ·by_cases h2:u'=T
   ·rw [if_neg h1] at e1; rw [if_pos h2] at e2; exact (hnew g e2 u hu h1 e1).elim
   ·rw [if_neg h1] at e1; rw [if_neg h2] at e2; exact h.injR u u' g hu hu' e1 e2
 ·rcases hg with rfl | hg | ⟨u,hu,hg⟩
  ·exact .inl (.inl rfl)
  ·exact .inl (.inr (.inl hg))
  ·rcases hg with hg | hg
   ·exact .inl (.inr (.inr ⟨u,hu,.inl hg⟩))
   ·try dsimp only at hg
    by_cases e:u=T
    ·rw [if_pos e] at hg
     rcases hR g hg with h1 | h1
     ·exact .inl (.inr (.inr ⟨T,ht,.inr h1⟩))
     ·exact .inr h1
    ·rw [if_neg e] at hg
     exact .inl (.inr (.inr ⟨u,hu,.inr hg⟩))
end
section
open Go.RowKit
def pX0 (x0 i:Nat):Nat:=max (x0 - x0 % 16+16 * i) x0
def pX1 (x0 x1 i:Nat):Nat:=min (x0 - x0 % 16+16 * i+15) x1
theorem ja5 {x0 x1 i:Nat} (h:x0<=x1) (hi:i < j4 x0 x1):pX0 x0 i<=pX1 x0 x1 i/\pX1 x0 x1 i<=x1/\x0<=pX0 x0 i/\pX0 x0 i / 16=pX1 x0 x1 i / 16/\pX0 x0 i / 16=x0 / 16+i:=by
 unfold j4 at hi
 unfold pX0 pX1
 omega
theorem jjO {x0 x1 X:Nat} (h0:x0<=X) (h1:X<=x1):X / 16 - x0 / 16 < j4 x0 x1/\pX0 x0 (X / 16 - x0 / 16)<=X/\X<=pX1 x0 x1 (X / 16 - x0 / 16):=by
 unfold j4 pX0 pX1
 omega
theorem jdh (x0 y0 x1 y1 i j:Nat):cR x0 y0 x1 y1 ((x0:Int) - (x0:Int) % 16+16 * (i:Int)) ((y0:Int) - (y0:Int) % 16+16 * (j:Int))=[ii (pX0 x0 i),ii (pX0 y0 j),ii (pX1 x0 x1 i),ii (pX1 y0 y1 j)]:=by
 unfold cR pX0 pX1
 congr 1
 ·exact ie (by omega)
 ·congr 1
  ·exact ie (by omega)
  ·congr 1
   ·exact ie (by omega)
   ·congr 1
    exact ie (by omega)
def mV (gw x0 y0 x1 y1 k idx:Nat):Bool:=(List.range k).any fun q=>decide (inR gw (pX0 x0 (q % j4 x0 x1)) (pX0 y0 (q / j4 x0 x1)) (pX1 x0 x1 (q % j4 x0 x1)) (pX1 y0 y1 (q / j4 x0 x1)) idx)
def bY (gw x0 y0 x1 y1 k:Nat) (v:Int) (c:Nat->Int):Nat->Int:=fun idx=>if mV gw x0 y0 x1 y1 k idx then v else c idx
theorem jdI (gw x0 y0 x1 y1:Nat) (v:Int) (c:Nat->Int) (idx:Nat):bY gw x0 y0 x1 y1 0 v c idx=c idx:=by simp [bY,mV]
theorem jdJ (gw x0 y0 x1 y1 k:Nat) (v:Int) (c:Nat->Int) (idx:Nat) :
  qH gw (pX0 x0 (k % j4 x0 x1)) (pX0 y0 (k / j4 x0 x1)) (pX1 x0 x1 (k % j4 x0 x1)) (pX1 y0 y1 (k / j4 x0 x1)) v (bY gw x0 y0 x1 y1 k v c) idx=bY gw x0 y0 x1 y1 (k+1) v c idx:=by
 have e:mV gw x0 y0 x1 y1 (k+1) idx=(mV gw x0 y0 x1 y1 k idx || decide (inR gw (pX0 x0 (k % j4 x0 x1)) (pX0 y0 (k / j4 x0 x1)) (pX1 x0 x1 (k % j4 x0 x1)) (pX1 y0 y1 (k / j4 x0 x1)) idx)):=by
  unfold mV
  rw [List.range_succ,List.any_append]
  simp
 unfold qH bY
 rw [e]
 by_cases h:inR gw (pX0 x0 (k % j4 x0 x1)) (pX0 y0 (k / j4 x0 x1)) (pX1 x0 x1 (k % j4 x0 x1)) (pX1 y0 y1 (k / j4 x0 x1)) idx
 ·rw [if_pos h,if_pos (by simp [h])]
 ·rw [if_neg h]; simp [h]
theorem jfP {gw gh x0 y0 x1 y1 : Nat} (hx : x0 ≤ x1 ∧ x1 < gw) (hy : y0 ≤ y1 ∧ y1 < gh) (v : Int) (c : Nat → Int) (idx : Nat) :
    bY gw x0 y0 x1 y1 (j4 y0 y1 * j4 x0 x1) v c idx = qH gw x0 y0 x1 y1 v c idx := by
  have key : mV gw x0 y0 x1 y1 (j4 y0 y1 * j4 x0 x1) idx = true ↔ inR gw x0 y0 x1 y1 idx := by
    unfold mV
    rw [List.any_eq_true]
    constructor
    · rintro ⟨q, hq0, hin0⟩
      have hq := List.mem_range.1 hq0
      have hin := of_decide_eq_true hin0
      clear hin0 hq0
      have hn : 0 < j4     x0 x1 := by rcases Nat.eq_zero_or_pos (j4     x0 x1) with h | h; · rw [h] at hq; simp at hq
                                       · exact h
      have h1 := ja5 hx.1 (Nat.mod_lt q hn)
      have h2 := ja5 hy.1 (i := q / j4 x0 x1) (Nat.div_lt_of_lt_mul (by rw [Nat.mul_comm]; exact hq))
      unfold inR at *
      generalize q % j4 x0 x1 = i at *
      generalize q / j4 x0 x1 = j at *
      generalize idx % gw = X at *
      generalize idx / gw = Y at *
      omega
    · intro hin
      unfold inR at hin
      have h1 := jjO (x0 := x0) (x1 := x1) (X := idx % gw) (by omega) (by omega)
      have h2 := jjO (x0 := y0) (x1 := y1) (X := idx / gw) (by omega) (by omega)
      have h3 : (idx / gw / 16 - y0 / 16 + 1) * j4 x0 x1 ≤ j4 y0 y1 * j4 x0 x1 := Nat.mul_le_mul_right _ h2.1
      rw [Nat.succ_mul] at h3
      have hn : 0 < j4 x0 x1 := by omega
      refine ⟨(idx / gw / 16 - y0 / 16) * j4 x0 x1 + (idx % gw / 16 - x0 / 16), List.mem_range.2 (by omega), decide_eq_true ?_⟩
      have e := kW (gw := j4 x0 x1) (X := idx % gw / 16 - x0 / 16) (Y := idx / gw / 16 - y0 / 16) h1.1
      rw [e.1, e.2]
      unfold inR
      omega
  unfold bY qH
  by_cases h : inR gw x0 y0 x1 y1 idx
  · rw [if_pos h, if_pos (key.2 h)]
  · rw [if_neg h, if_neg (fun e => h (key.1 e))]
theorem GridAt.congr {w:World} {p gw gh cap:Nat} {c c':Nat->Int} {A:Option Addr} {bs:Nat->Nat} {Rs:Nat->Option Nat} (h1:GridAt w p gw gh c A cap bs Rs) (hc:∀ i,i < gw * gh->c i=c' i):GridAt w p gw gh c' A cap bs Rs :=
 ⟨h1.sw,h1.sh,h1.top,h1.row,fun t ht=>(h1.slab t ht).congr fun i hi=>rH hc ht h1.sw.1 hi,h1.inj,h1.injR⟩
def GridP (W:World) (p gw gh:Nat) (A:Option Addr) (cap:Nat) (bs:Nat->Nat) (Rs:Nat->Option Nat) (c:Nat->Int) (w':World):Prop :=
 ∃ Rs',GridAt w' p gw gh c A cap bs Rs'/\Fr (uV (acr gw * acr gh) p A bs Rs) W w'/\∀ g,uV (acr gw * acr gh) p A bs Rs' g->uV (acr gw * acr gh) p A bs Rs g\/W.heap.size<=g
def jic (w wq:World) (t:TypeId) (l:List Value) (v u:Value):Prop:=∃ b1 b2,v=pt b1/\u=pt b2/\Blk wq b1 t l/\Blk wq b2 t l/\b1 ≠ b2/\w.heap.size<=b1/\w.heap.size<=b2
def jdO (w wq:World) (t:TypeId) (l:List Value) (v:Value):Prop:=∃ b1,v=pt b1/\Blk wq b1 t l/\w.heap.size<=b1
def SpA (w wq:World) (t:TypeId) (l:List Value):List Value->Prop
 | []=>True
 | [v]=>jdO w wq t l v
 | v::u::_=>jic w wq t l v u
theorem SpA.gr {w wq w':World} {t:TypeId} {l:List Value} (g:Gr wq w'):∀ {σ:List Value},SpA w wq t l σ->SpA w w' t l σ
 | [],h=>trivial
 | [v],h=>by obtain ⟨b1,h1,h2,h3⟩:=h; exact ⟨b1,h1,h2.gr g,h3⟩
 | v::u::_,h=>by obtain ⟨b1,b2,h1,h2,h3,h4,h5⟩:=h; exact ⟨b1,b2,h1,h2,h3.gr g,h4.gr g,h5⟩
theorem gG {P:Program} {e:Nat->Value} {w0 w:World} {d:Option Tmp} {ty:TypeId} {ps:String} {af:Array Edge} {t:TypeId} {z:Value} {l:List Value} {R:Value->World->Prop} (hz:∀ w,(zeroValue t).run P w=.ok z w) (hl:z.cells.toList=l) (g0:Gr w0 w)
  (hr:∀ v w',Gr w0 w'->jdO w0 w' t l v->R v w'):qM P e ⟨d,.alloc t,ty,ps,af,none⟩ w R :=
 lD (jL hz hl) (hr _ _ (g0.trans (Gr.alloc _ _)) ⟨w.heap.size,rfl,Blk.new _ _ _,g0.le⟩)
theorem dQ {P:Program} {e:Nat->Value} {w0 w:World} {d:Option Tmp} {ty:TypeId} {ps:String} {af:Array Edge} {t:TypeId} {z u:Value} {l:List Value} {R:Value->World->Prop} (hz:∀ w,(zeroValue t).run P w=.ok z w) (hl:z.cells.toList=l) (g0:Gr w0 w) (h1:jdO w0 w t l u)
  (hr:∀ v w',Gr w0 w'->jic w0 w' t l v u->R v w'):qM P e ⟨d,.alloc t,ty,ps,af,none⟩ w R:=by
 obtain ⟨b1,rfl,hB,hb⟩:=h1
 exact lD (jL hz hl) (hr _ _ (g0.trans (Gr.alloc _ _)) ⟨w.heap.size,b1,rfl,rfl,Blk.new _ _ _,hB.gr (Gr.alloc _ _),by have:=hB.lt; omega,g0.le,hb⟩)
section
variable {W : World} {p gw gh cap : Nat} {c : Nat → Int} {A : Option Addr} {bs : Nat → Nat} {Rs : Nat → Option Nat}
theorem jen (x0 y0 x1 y1:Nat) (v:Int) (hx:x0<=x1/\x1 < gw) (hy:y0<=y1/\y1 < gh) (hv:-2147483648<=v/\v<=2147483647) (hG:GridAt W p gw gh c A cap bs Rs) :
  Fn Tryz.prog 230 [pt p,.agg #[ii x0,ii y0,ii x1,ii y1],ii v] W
   (fun r w'=>r=ii 0/\GridP W p gw gh A cap bs Rs (qH gw x0 y0 x1 y1 v c) w'):=by
 have hw:=hG.sw
 have hh:=hG.sh
 have hwi:kD x0 y0 x1 y1 gw gh=0:=qW (by omega) (by omega) (by omega) (by omega)
 obtain ⟨hnx,hnx2⟩:=bC x0 x1 (by omega) (by omega) (by omega)
 obtain ⟨hny,hny2⟩:=bC y0 y1 (by omega) (by omega) (by omega)
 have hN:j4 y0 y1 * j4 x0 x1<=64 * 64:=Nat.mul_le_mul hny2 hnx2
 have S:=St.start1 W (.grid p gw gh c A cap bs Rs) hG
 refine zn Tryz.func230 Tryz.results230 Tryz.ntmps230 ?_
 refine zs ?_
 refine jF (jO rfl) S ?_
 intro b_rc w2_ g2_ S
 iterate 3 refine z ?_
 refine jC rfl (bW p gw gh x0 y0 x1 y1 hw.2 hh.2 _ w2_ (S.grid (i:=1) rfl).top) ?_
 rintro _ w3_ ⟨rfl,g3_⟩
 have S:=S.gr g3_
 refine z ?_; refine z ?_; refine zf ?_
 refine zc ?_
 refine jM (by rw [hwi]; rfl) ?_
 refine z ?_
 refine jC rfl (nP x0 y0 x1 y1 (by omega) w3_) ?_
 rintro _ w4_ ⟨A_ps,c_ps,rfl,hR_ps,hf_ps,g4_⟩
 have S:=S.pushRow hR_ps hf_ps g4_
 refine z ?_; refine z ?_
 refine zc ?_
 refine jS ?_
 refine zc ?_
 have sa_ps:yH A_ps:=hR_ps.someA (Nat.mul_pos hny hnx)
 refine j9 (fun m e w=>∃ (k:Nat) (Rs':Nat->Option Nat),k+m=j4 y0 y1 * j4 x0 x1/\SL e [(0,pt p),(2,ii v),(20,.slice A_ps (j4 y0 y1 * j4 x0 x1) c_ps),(21,ii (j4 y0 y1 * j4 x0 x1:Nat)),(22,ii k)] /\
  St (uV (acr gw * acr gh) p A bs Rs) W w [.row 27 4 A_ps (j4 y0 y1 * j4 x0 x1) c_ps (vF x0 y0 x1 y1 (j4 y0 y1)),.grid p gw gh (bY gw x0 y0 x1 y1 k v c) A cap bs Rs']) (j4 y0 y1 * j4 x0 x1)
  ⟨0,Rs,by omega,⟨rfl,rfl,rfl,rfl,rfl,trivial⟩,by
   have S:=S.sub (.cons_cons _ (.cons _ (.cons_cons _ .slnil)))
   exact S.as_ (i:=1) rfl rfl (fun h=>h.congr (fun i _=>(jdI gw x0 y0 x1 y1 v c i).symm)) (fun g h=>h)⟩ ?_
 rintro m e w ⟨k,Rs1,hk,hsl,S⟩
 rw [hsl.fold]
 refine z ?_
 refine zk ?_ ?_
 ·intro hc
  have hkN:k < j4 y0 y1 * j4 x0 x1:=by omega
  have hi:k % j4 x0 x1 < j4 x0 x1:=Nat.mod_lt _ hnx
  have hj:k / j4 x0 x1 < j4 y0 y1:=Nat.div_lt_of_lt_mul (by rw [Nat.mul_comm]; exact hkN)
  have hp1:=ja5 hx.1 hi
  have hp2:=ja5 hy.1 hj
  have hat:=cQ x0 y0 x1 y1 (j4 y0 y1) _ _ hi hj
  rw [show k / j4 x0 x1 * j4 x0 x1+k % j4 x0 x1=k by rw [Nat.mul_comm]; exact Nat.div_add_mod _ _,jdh] at hat
  have hat':((vF x0 y0 x1 y1 (j4 y0 y1)).drop ((k:Int).toNat * 4)).take 4=[ii (pX0 x0 (k % j4 x0 x1)),ii (pX0 y0 (k / j4 x0 x1)),ii (pX1 x0 x1 (k % j4 x0 x1)),ii (pX1 y0 y1 (k / j4 x0 x1))]:=by rw [Int.toNat_natCast]; exact hat
  have hsucc:=jdJ gw x0 y0 x1 y1 k v c
  generalize pX0 x0 (k % j4 x0 x1)=a0 at *
  generalize pX1 x0 x1 (k % j4 x0 x1)=a1 at *
  generalize pX0 y0 (k / j4 x0 x1)=b0 at *
  generalize pX1 y0 y1 (k / j4 x0 x1)=b1 at *
  have ht:=bE (gw:=gw) (gh:=gh) (x:=a0) (y:=b0) (by omega) (by omega)
  have hto:=bD (gw:=gw) (b:=b0 / 16) (qD (x:=a0) (by omega))
  have hz1:=vN (qD (n:=gw) (x:=a0) (by omega))
  have hz2:=vN (qD (n:=gh) (x:=b0) (by omega))
  have hm1:=vQ (n:=gw) (x:=a0) (by omega)
  have hm2:=vQ (n:=gw) (x:=a1) (by omega)
  have hm3:=vQ (n:=gh) (x:=b0) (by omega)
  have hm4:=vQ (n:=gh) (x:=b1) (by omega)
  have ec:∀ a:Nat,(a:Int) % 16=((a % 16:Nat):Int):=fun a=>by omega
  rw [<-hp1.2.2.2.1] at hm2
  rw [<-hp2.2.2.2.1] at hm4
  refine zx ?_
  refine j3 (yY q27 rfl (y6 _) rfl (S.rd (i:=0) rfl) hat' rfl rfl) ?_
  refine jF (jL qX rfl) S ?_
  intro b_pc w6_ g6_ S
  refine jH (i:=0) S rfl (y6 _) rfl rfl rfl rfl rfl rfl ?_
  intro w7_ S
  refine zc ?_
  refine qL (M:=fun e w=>∃ (ba bb bp:Nat),SL e [(0,pt p),(2,ii v),(9,pt bp),(10,pt ba),(11,pt bb),(20,.slice A_ps (j4 y0 y1 * j4 x0 x1) c_ps),(21,ii (j4 y0 y1 * j4 x0 x1:Nat)),(22,ii k)]/\St (uV (acr gw * acr gh) p A bs Rs) W w [.blk ba 23 [ii ((a0:Int) % 16),ii ((b0:Int) % 16)],.blk bb 23 [ii ((a1:Int) % 16),ii ((b1:Int) % 16)],.blk bp 27 [ii a0,ii b0,ii a1,ii b1],.row 27 4 A_ps (j4 y0 y1 * j4 x0 x1) c_ps (vF x0 y0 x1 y1 (j4 y0 y1)),.grid p gw gh (bY gw x0 y0 x1 y1 k v c) A cap bs Rs1]) ?_ ?_
  ·skip
   refine zc ?_
   refine jjv (C:=(fun σ wq=>Gr w7_ wq/\SpA w7_ wq 23 [ii 0,ii 0] σ)) [10,11] [10] [0,1,2,3,4,5,6,7,8,9,10,11] [12,13] (by kernel_rfl) (by kernel_rfl) ⟨Gr.drew _,trivial⟩ ?_
   simp only [yT,j6,List.drop_succ_cons,List.drop_zero]
   refine uS rfl ?_
   refine jX rfl (jD q27 rfl qz2 rfl rfl) ?_
   refine yV ?_
   refine uS rfl ?_
   refine qF rfl (fun τ wq hq=>jB q2 rfl rfl ((S.gr hq.1).blk (i:=0) rfl) rfl) ?_
   refine yV ?_
   refine uS rfl ?_
   refine jX rfl (jD q27 rfl qz2 rfl rfl) ?_
   refine yV ?_
   refine uS rfl ?_
   refine qF rfl (fun τ wq hq=>jB q2 rfl rfl ((S.gr hq.1).blk (i:=0) rfl) rfl) ?_
   refine yV ?_
   refine uS rfl ?_
   refine vV rfl rfl (fun τ wq hq=>(r9 _ _ (by omega) (by omega) wq).mono (fun _ _ ⟨hv,hg⟩=>⟨hv,hq.1.trans hg,SpA.gr hg hq.2⟩)) ?_
   refine yV ?_
   refine uS rfl ?_
   refine jX rfl (jD q27 rfl qz2 rfl rfl) ?_
   refine yV ?_
   refine uS rfl ?_
   refine qF rfl (fun τ wq hq=>jB q2 rfl rfl ((S.gr hq.1).blk (i:=0) rfl) rfl) ?_
   refine yV ?_
   refine uS rfl ?_
   refine jX rfl (jD q27 rfl qz2 rfl rfl) ?_
   refine yV ?_
   refine uS rfl ?_
   refine qF rfl (fun τ wq hq=>jB q2 rfl rfl ((S.gr hq.1).blk (i:=0) rfl) rfl) ?_
   refine yV ?_
   refine uS rfl ?_
   refine vV rfl rfl (fun τ wq hq=>(r9 _ _ (by omega) (by omega) wq).mono (fun _ _ ⟨hv,hg⟩=>⟨hv,hq.1.trans hg,SpA.gr hg hq.2⟩)) ?_
   refine yV ?_
   refine jiL rfl ?_ ?_
   ·refine jZ rfl rfl (fun wq hq=>?_) ?_
    ·first | exact gG kL rfl hq.1 (fun v w' g h=>⟨g,h⟩) | exact dQ kL rfl hq.1 hq.2 (fun v w' g h=>⟨g,h⟩)
    rintro v10 w10 ⟨_,hsp10⟩
    refine jZ rfl rfl (fun wq hq=>?_) ?_
    ·first | exact gG kL rfl hq.1 (fun v w' g h=>⟨g,h⟩) | exact dQ kL rfl hq.1 hq.2 (fun v w' g h=>⟨g,h⟩)
    rintro v11 w11 ⟨_,hsp11⟩
    refine yV ?_
    refine jgz ?_
    rintro w8_ ⟨g8_,hsp⟩
    obtain ⟨bx_,by_,he1,he2,hB1,hB2,hne,hs1,hs2⟩:=hsp
    cases he1
    cases he2
    have S:=S.push2 g8_ (h1:=.blk _ 23 _) (h2:=.blk _ 23 _) hB2 hB1 (fun g h=>h ▸ hs2) (fun g h=>h ▸ hs1) (fun g h h'=>hne (h'.symm.trans h))
    refine jH (i:=0) S rfl (qI _) rfl rfl rfl rfl rfl rfl ?_
    intro w9_ S
    refine jH (i:=1) S rfl (qI _) rfl rfl rfl rfl rfl rfl ?_
    intro w10_ S
    refine ze ?_
    exact ⟨_,_,_,⟨rfl,rfl,rfl,rfl,rfl,rfl,rfl,rfl,trivial⟩,S⟩
   ·refine jZ rfl rfl (fun wq hq=>?_) ?_
    ·first | exact gG kL rfl hq.1 (fun v w' g h=>⟨g,h⟩) | exact dQ kL rfl hq.1 hq.2 (fun v w' g h=>⟨g,h⟩)
    rintro v11 w11 ⟨_,hsp11⟩
    refine jZ rfl rfl (fun wq hq=>?_) ?_
    ·first | exact gG kL rfl hq.1 (fun v w' g h=>⟨g,h⟩) | exact dQ kL rfl hq.1 hq.2 (fun v w' g h=>⟨g,h⟩)
    rintro v10 w10 ⟨_,hsp10⟩
    refine yV ?_
    refine jgz ?_
    rintro w11_ ⟨g11_,hsp⟩
    obtain ⟨bx_,by_,he1,he2,hB1,hB2,hne,hs1,hs2⟩:=hsp
    cases he1
    cases he2
    have S:=S.push2 g11_ (h1:=.blk _ 23 _) (h2:=.blk _ 23 _) hB1 hB2 (fun g h=>h ▸ hs1) (fun g h=>h ▸ hs2) (fun g h h'=>hne (h.symm.trans h'))
    refine jH (i:=0) S rfl (qI _) rfl rfl rfl rfl rfl rfl ?_
    intro w12_ S
    refine jH (i:=1) S rfl (qI _) rfl rfl rfl rfl rfl rfl ?_
    intro w13_ S
    refine ze ?_
    exact ⟨_,_,_,⟨rfl,rfl,rfl,rfl,rfl,rfl,rfl,rfl,trivial⟩,S⟩
  ·rintro e2 w2 ⟨ba,bb,bp,hsl,S⟩
   rw [hsl.fold]
   have hle2:=S.le
   have hGk:=S.grid (i:=4) rfl
   have hSk:=hGk.slab _ ht
   rw [hto.1,hto.2] at hSk
   refine zc ?_
   refine yB (C:=fun wq=>Gr w2 wq) [0,1,2,3,4,5,6,7,8,9,10,11,12,13,14,15] [16,17] (by kernel_rfl) (by kernel_rfl) (Gr.drew _) ?_
   simp only [j6,List.drop_succ_cons,List.drop_zero]
   refine y ?_; refine y ?_
   refine jV (fun wq hq=>jB q2 rfl rfl ((S.gr hq).blk (i:=2) rfl) rfl) ?_
   refine y ?_
   refine jV (fun wq hq=>jB q2 rfl rfl ((S.gr hq).blk (i:=2) rfl) rfl) ?_
   refine y8 rfl (fun wq hq=>(jbm a0 b0 (by omega) (by omega) ((S.gr hq).grid (i:=4) rfl)).mono (fun _ _ ⟨hv,hg⟩=>⟨hv,hq.trans hg⟩)) ?_
   refine y ?_
   refine jV (fun wq hq=>jB q2 rfl rfl ((S.gr hq).blk (i:=0) rfl) rfl) ?_
   refine y ?_
   refine jV (fun wq hq=>jB q2 rfl rfl ((S.gr hq).blk (i:=0) rfl) rfl) ?_
   refine y ?_
   refine jV (fun wq hq=>jB q2 rfl rfl ((S.gr hq).blk (i:=1) rfl) rfl) ?_
   refine y ?_
   refine jV (fun wq hq=>jB q2 rfl rfl ((S.gr hq).blk (i:=1) rfl) rfl) ?_
   refine jW (jN (pl:=[(0,1),(1,1),(2,1),(3,1)]) q27 qX (fun w=>by kernel_rfl) rfl rfl) ?_
   refine y ?_
   refine yJ ?_
   intro w14_ g14_
   have S:=S.gr g14_
   refine jC rfl (jiD _ _ _ _ _ ((a0:Int) % 16) ((b0:Int) % 16) ((a1:Int) % 16) ((b1:Int) % 16) v hz1 hz2 (by omega) (by omega) hv w14_ (hSk.gr (by assumption))) ?_
   rintro _ w15_ ⟨rfl,hP⟩
   rw [ec,ec,ec,ec] at hP
   obtain ⟨Rs2,hG2,hF2,hO2⟩:=GridAt.fillTile (S.grid (i:=4) rfl) ⟨hp1.1,by omega,hp1.2.2.2.1⟩ ⟨hp2.1,by omega,hp2.2.2.2.1⟩ hP
   have S:=S.set (i:=4) (h':=.grid p gw gh _ A cap bs Rs2) rfl rfl hF2 (fun g h=>.inl h) hG2 hO2
   refine z ?_; refine z ?_; refine zf ?_; refine zr ?_; refine z ?_
   refine ze ?_
   refine ⟨m - 1,by omega,k+1,Rs2,by omega,⟨rfl,rfl,rfl,rfl,ie (by omega),trivial⟩,?_⟩
   have S:=S.sub (.cons _ (.cons _ (.cons _ (.cons_cons _ (.cons_cons _ .slnil)))))
   exact S.as_ (i:=1) rfl rfl (fun h=>h.congr (fun i _=>hsucc i)) (fun g h=>h)
 ·intro hc
  refine zc ?_
  refine jY ?_
  repeat first | refine jP ?_ | refine jU ?_
  show CW _ _ _ _ _ _
  refine z ?_
  refine zq ?_
  obtain rfl:k=j4 y0 y1 * j4 x0 x1:=by omega
  exact yD rfl ⟨rfl,Rs1,(S.grid (i:=1) rfl).congr (fun i _=>jfP hx hy v c i),S.fr,fun g hg=>(S.sep.get (i:=1) rfl).2 g hg⟩
end
end
section
open Go.RowKit
def HA.fam (k:Nat) (bs:Nat->Nat) (ty:TypeId) (cells:Nat->List Value):HA :=
 ⟨fun g=>∃ t,t < k/\g=bs t,fun w=>∀ t,t < k->Blk w (bs t) ty (cells t),fun _ _ h _ hB t ht=>(hB t ht).keep (h _ ⟨t,ht,rfl⟩),fun _ hB _ ⟨t,ht,e⟩=>e ▸ (hB t ht).lt⟩
section
variable {F : Nat → Prop} {W w : World} {L : List HA}
theorem St.famNil (S:St F W w L) (bs:Nat->Nat) (ty:TypeId) (cells:Nat->List Value):St F W w (.fam 0 bs ty cells::L) :=
 S.push (Gr.refl w) (h:=.fam 0 bs ty cells) (fun t ht=>by omega) (fun g ⟨t,ht,_⟩=>by omega)
def jf4 (bs:Nat->Nat) (k b:Nat):Nat->Nat:=fun t=>if t=k then b else bs t
theorem wX {bs:Nat->Nat} {k b t:Nat} (h:t < k):jf4 bs k b t=bs t:=if_neg (by omega)
theorem cF (bs:Nat->Nat) (k b:Nat):jf4 bs k b k=b:=if_pos rfl
theorem St.famPush {k b:Nat} {bs:Nat->Nat} {ty:TypeId} {cells:Nat->List Value} {l:List Value} (S:St F W w (.blk b ty l::.fam k bs ty cells::L)) (hl:cells k=l):St F W w (.fam (k+1) (jf4 bs k b) ty cells::L):=by
 have h1:=S.sep.1
 have h2:=S.sep.2.2.1
 have h3:=S.sep.2.2.2
 refine ⟨S.fr,⟨fun t ht=>?_,fun g ⟨t,ht,e⟩=>?_⟩,fun g ⟨t,ht,e⟩ h hh=>?_,h3.2⟩
 ·by_cases e:t=k
  ·subst e; rw [cF,hl]; exact h1.1
  ·rw [wX (by omega)]; exact h2.1 t (by omega)
 ·by_cases ek:t=k
  ·subst ek; rw [cF] at e; exact h1.2 g e
  ·rw [wX (by omega)] at e; exact h2.2 g ⟨t,by omega,e⟩
 ·by_cases ek:t=k
  ·subst ek; rw [cF] at e; exact S.sep.2.1 g e h (List.mem_cons_of_mem _ hh)
  ·rw [wX (by omega)] at e; exact h3.1 g ⟨t,by omega,e⟩ h hh
theorem St.famNew {k b:Nat} {bs:Nat->Nat} {ty:TypeId} {cells:Nat->List Value} {l:List Value} (S:St F W w (.blk b ty l::.fam k bs ty cells::L)) (t:Nat) (ht:t < k):bs t ≠ b:=fun e =>
 S.sep.2.1 b rfl (.fam k bs ty cells) (by simp) ⟨t,ht,e.symm⟩
end
theorem jia {bs:Nat->Nat} {k b:Nat} (hi:∀ t u,t < k->u < k->bs t=bs u->t=u) (hn:∀ t,t < k->bs t ≠ b):∀ t u,t < k+1->u < k+1->jf4 bs k b t=jf4 bs k b u->t=u:=fun t u ht hu e=>by
 by_cases h1:t=k
 ·by_cases h2:u=k
  ·rw [h1,h2]
  ·rw [h1,cF,wX (by omega)] at e; exact absurd e.symm (hn u (by omega))
 ·by_cases h2:u=k
  ·rw [h2,cF,wX (by omega)] at e; exact absurd e (hn t (by omega))
  ·rw [wX (by omega),wX (by omega)] at e; exact hi t u (by omega) (by omega) e
theorem jgX (k b:Nat) (bs:Nat->Nat):cH k bs ++ [pt b]=cH (k+1) (jf4 bs k b):=by
 unfold cH
 rw [List.range_succ,List.map_append,List.map_singleton,cF]
 congr 1
 exact List.map_congr_left fun t ht=>by rw [wX (List.mem_range.1 ht)]
def pH (mk:Value->Value) (gw gh:Nat) (c:Nat->Int) (W:World):Value->World->Prop:=fun v w'=>∃ p A cap bs Rs,v=mk (pt p)/\GridAt w' p gw gh c A cap bs Rs/\(∀ g,uV (acr gw * acr gh) p A bs Rs g->W.heap.size<=g)/\Gr W w'
theorem St.pushGrid {F:Nat->Prop} {W w w':World} {L:List HA} (S:St F W w L) {p gw gh cap:Nat} {c:Nat->Int} {A:Option Addr} {bs:Nat->Nat} {Rs:Nat->Option Nat} (hG:GridAt w' p gw gh c A cap bs Rs) (hf:∀ g,uV (acr gw * acr gh) p A bs Rs g->w.heap.size<=g) (g:Gr w w') :
  St F W w' (.grid p gw gh c A cap bs Rs::L):=S.push g (h:=.grid p gw gh c A cap bs Rs) hG hf
theorem St.retGrid {W w:World} {L:List HA} (S:St No W w L) {i p gw gh cap:Nat} {c:Nat->Int} {A:Option Addr} {bs:Nat->Nat} {Rs:Nat->Option Nat} {mk:Value->Value} (hi:qP L i=some (.grid p gw gh c A cap bs Rs)):pH mk gw gh c W (mk (pt p)) w :=
 ⟨p,A,cap,bs,Rs,rfl,S.grid hi,fun g hg=>((S.sep.get hi).2 g hg).elim (fun h=>h.elim) id,S.out⟩
theorem k5 {n:Nat} (h:1<=n):j4 (0:Int) ((n:Int) - 1)=acr n:=by unfold j4 acr; omega
theorem jjN {n i:Nat} (h:i < acr n):((min (0 - 0 % 16+16 * (i:Int)+16 - 1) ((n:Int) - 1)) - max (0 - 0 % 16+16 * (i:Int)) 0+1)=(tsz n i:Nat):=by
 unfold acr at h; unfold tsz; omega
theorem jkD (gw gh:Nat) (v:Int) (hw:1<=gw/\gw<=1024) (hh:1<=gh/\gh<=1024) (hv:-2147483648<=v/\v<=2147483647) (W:World) :
  Fn Tryz.prog 45 [ii gw,ii gh,ii v] W (pH (fun p=>.tuple #[p,ii 0]) gw gh (fun _=>v) W):=by
 have hwi:kD 0 0 0 0 gw gh=0:=qW (by omega) (by omega) (by omega) (by omega)
 have hN:acr gh * acr gw<=64 * 64:=Nat.mul_le_mul (vT hh.2) (vT hw.2)
 have hac:((gw:Int)+16 - 1) / 16=(acr gw:Nat):=by unfold acr; omega
 have hpw:=vZ hw.1
 have hph:=vZ hh.1
 have S:=St.start W
 refine zn Tryz.func45 Tryz.results45 Tryz.ntmps45 ?_
 (iterate 3 refine z ?_); refine zr ?_; refine z ?_; refine zr ?_
 refine jE (jN (pl:=[(0,1),(1,1),(2,1),(3,1)]) q27 qX (fun w=>by kernel_rfl) rfl rfl) ?_
 refine jF (jL qX rfl) S ?_
 intro b_all w2_ g2_ S
 refine jH (i:=0) S rfl (y6 _) rfl rfl rfl rfl rfl rfl ?_
 intro w3_ S
 refine zs ?_
 refine jE (jN (pl:=[(0,1),(1,1),(2,1),(3,1)]) q27 qX (fun w=>by kernel_rfl) rfl rfl) ?_
 refine z ?_; refine z ?_
 refine jC rfl (zI _ _ _ _ _ _ (by omega) (by omega) w3_) ?_
 rintro _ w4_ ⟨rfl,g4_⟩
 have S:=S.gr g4_
 refine z ?_; refine z ?_; refine zf ?_
 refine zc ?_
 refine jM (by rw [hwi]; rfl) ?_
 (iterate 3 refine z ?_); iterate 2 refine zr ?_
 refine jE (vP rfl rfl (by omega) (by omega)) ?_
 rw [hac]
 refine jE (jN (pl:=[(0,1),(1,1),(2,1),(3,1)]) Tryz.underlying198 Tryz.zeroValue198 (fun w=>by kernel_rfl) rfl rfl) ?_
 refine jF (jO rfl) S ?_
 intro b_gr w6_ g6_ S
 refine z ?_; refine z ?_
 refine jC rfl (nP 0 0 ((gw:Int) - 1) ((gh:Int) - 1) (by omega) w6_) ?_
 rintro _ w7_ ⟨A_ps,c_ps,rfl,hR_ps,hf_ps,g7_⟩
 have S:=S.pushRow hR_ps hf_ps g7_
 refine z ?_; refine z ?_
 refine zc ?_
 refine jS ?_
 refine zc ?_
 rw [k5 hw.1,k5 hh.1]
 rw [k5 hw.1,k5 hh.1] at hR_ps S
 have sa_ps:yH A_ps:=hR_ps.someA (Nat.mul_pos hph hpw)
 have S:=S.sub (.cons_cons _ (.cons_cons _ (.cons _ .slnil)))
 have S:=((S.pushNil 133 1).famNil (fun t=>t) 247 (fun t=>[ii (tsz gw (t % acr gw):Nat),ii (tsz gh (t / acr gw):Nat),.iface 291 (.int .i32 v)]))
 refine j9 (fun m e w=>∃ (k:Nat) (A:Option Addr) (cp:Nat) (bs:Nat->Nat),k+m=acr gh * acr gw/\SL e [(2,ii v),(10,pt b_gr),(35,.slice A_ps (acr gh * acr gw) c_ps),(36,ii (acr gh * acr gw:Nat)),(37,ii k)] /\
  (∀ t u,t < k->u < k->bs t=bs u->t=u)/\St No W w [.fam k bs 247 (fun t=>[ii (tsz gw (t % acr gw):Nat),ii (tsz gh (t / acr gw):Nat),.iface 291 (.int .i32 v)]),.row 133 1 A k cp (cH k bs),
   .row 27 4 A_ps (acr gh * acr gw) c_ps (vF 0 0 ((gw:Int) - 1) ((gh:Int) - 1) (acr gh)),.blk b_gr 198 [ii gw,ii gh,ii (acr gw),.slice A k cp]]) (acr gh * acr gw)
  ⟨0,none,0,fun t=>t,by omega,⟨rfl,rfl,rfl,rfl,rfl,trivial⟩,fun t u ht=>by omega,S⟩ ?_
 rintro m e w ⟨k,A,cp,bs,hk,hsl,hinj,S⟩
 rw [hsl.fold]
 refine z ?_
 refine zk ?_ ?_
 ·intro hc
  have hkN:k < acr gh * acr gw:=by omega
  have hi:k % acr gw < acr gw:=Nat.mod_lt _ hpw
  have hj:k / acr gw < acr gh:=Nat.div_lt_of_lt_mul (by rw [Nat.mul_comm]; exact hkN)
  have hat:=cQ 0 0 ((gw:Int) - 1) ((gh:Int) - 1) (acr gh) (k % acr gw) (k / acr gw) (by rw [k5 hw.1]; exact hi) hj
  rw [k5 hw.1,show k / acr gw * acr gw+k % acr gw=k by rw [Nat.mul_comm]; exact Nat.div_add_mod _ _] at hat
  have hat':((vF 0 0 ((gw:Int) - 1) ((gh:Int) - 1) (acr gh)).drop ((k:Int).toNat * 4)).take 4=[ii (max (0 - 0 % 16+16 * ((k % acr gw:Nat):Int)) 0),ii (max (0 - 0 % 16+16 * ((k / acr gw:Nat):Int)) 0),ii (min (0 - 0 % 16+16 * ((k % acr gw:Nat):Int)+16 - 1) ((gw:Int) - 1)),ii (min (0 - 0 % 16+16 * ((k / acr gw:Nat):Int)+16 - 1) ((gh:Int) - 1))]:=by rw [Int.toNat_natCast]; exact hat
  have hs1:=jjN hi
  have hs2:=jjN hj
  have hz1:=vN hi
  have hz2:=vN hj
  have hle:=S.le
  refine zx ?_
  refine j3 (yY q27 rfl (y6 _) rfl (S.rd (i:=2) rfl) hat' rfl rfl) ?_
  refine jF (jL qX rfl) S ?_
  intro b_pc w9_ g9_ S
  refine jH (i:=0) S rfl (y6 _) rfl rfl rfl rfl rfl rfl ?_
  intro w10_ S
  (iterate 4 refine z ?_); iterate 2 refine zr ?_
  rw [hs1]
  (iterate 4 refine z ?_); iterate 2 refine zr ?_
  rw [hs2]
  refine z ?_
  refine jC rfl (jj3 (tsz gw (k % acr gw):Nat) (tsz gh (k / acr gw):Nat) v (by omega) (by omega) hv w10_) ?_
  rintro _ w11_ ⟨sb,rfl,hsb,hsB,g11_⟩
  have S:=S.push g11_ (h:=.blk sb 247 _) hsB (fun g h=>h ▸ hsb)
  (iterate 6 refine z ?_); refine zf ?_; iterate 6 refine z ?_
  refine yF jaT Tryz.sizeOf133 Tryz.zeroValue133 rfl rfl rfl rfl rfl rfl S ?_
  intro A_lit w13_ g13_ S sa_lit
  refine qA (i:=4) S rfl (fun h=>rfl) jaT jas rfl rfl rfl rfl (by simp) (by omega) (S.rd (i:=0) rfl) rfl (by omega) ?_
  intro A_sl14 c_sl14 w14_ S sa_sl
  refine z ?_; refine z ?_
  refine j8 (i:=6) S rfl (Tryz.sizeOf196 _) rfl rfl rfl rfl rfl rfl ?_
  intro w15_ S
  refine zr ?_; refine z ?_
  refine ze ?_
  have S:=S.sub (.cons _ (.cons_cons _ (.cons _ (.cons_cons _ (.cons_cons _ (.cons_cons _ (.cons_cons _ .slnil)))))))
  have hn:=S.famNew
  have S:=S.famPush rfl
  rw [jgX] at S
  exact ⟨m - 1,by omega,k+1,_,_,_,by omega,⟨rfl,rfl,rfl,rfl,ie (by omega),trivial⟩,jia hinj hn,S⟩
 ·intro hc
  refine zc ?_
  refine jY ?_
  repeat first | refine jP ?_ | refine jU ?_
  show CW _ _ _ _ _ _
  iterate 3 refine z ?_
  refine zq ?_
  obtain rfl:k=acr gh * acr gw:=by omega
  have hT:=S.blk (i:=3) rfl
  have hR:=S.row (i:=1) rfl
  have hF:∀ t,t < acr gh * acr gw->Blk w (bs t) 247 [ii (tsz gw (t % acr gw):Nat),ii (tsz gh (t / acr gw):Nat),.iface 291 (.int .i32 v)]:=S.ok (i:=0) (h:=.fam _ bs _ _) rfl
  have hcm:acr gh * acr gw=acr gw * acr gh:=Nat.mul_comm _ _
  have hG:GridAt w b_gr gw gh (fun _=>v) A cp bs (fun _=>none):=⟨hw,hh,by rw [<-hcm]; exact hT,by rw [<-hcm]; exact hR,fun t ht=>⟨fun _ _=>hv,v,hF t (by omega),hv,fun _ _=>rfl⟩,fun t u ht hu=>hinj t u (by omega) (by omega),fun t u g _ _ h=>by cases h⟩
  refine kY rfl rfl ⟨b_gr,A,cp,bs,fun _=>none,rfl,hG,fun g hg=>?_,S.out⟩
  rcases hg with hg | hg | ⟨t,ht,hg⟩
  ·exact ((S.sep.get (i:=3) rfl).2 g hg).elim (fun h=>h.elim) id
  ·exact ((S.sep.get (i:=1) rfl).2 g hg).elim (fun h=>h.elim) id
  ·rcases hg with hg | hg
   ·exact ((S.sep.get (i:=0) rfl).2 g ⟨t,by omega,hg⟩).elim (fun h=>h.elim) id
   ·cases hg
end
section
open Go.RowKit
theorem jgC (v:Int) (W:World):Fn Tryz.prog 5 [ii v] W (yK (.bool (kN v)) W):=by
 by_cases h:-2147483648<=v
 ·skip
  have S:=St.start W
  refine zn Tryz.func5 Tryz.results5 Tryz.ntmps5 ?_
  refine z ?_; refine z ?_
  refine zw1 ⟨?_⟩
  iterate 5 refine z ?_
  refine zq ?_
  exact yD rfl ⟨be (by simp [kN,h]),S.out⟩
 ·skip
  have S:=St.start W
  refine zn Tryz.func5 Tryz.results5 Tryz.ntmps5 ?_
  refine z ?_; refine z ?_
  refine zw1 ⟨?_⟩
  iterate 5 refine z ?_
  refine zq ?_
  exact yD rfl ⟨be (by simp [kN,h]),S.out⟩
def inG (gw gh:Nat) (c:Int × Int):Bool:=decide (0<=c.1) && decide (c.1 < gw) && decide (0<=c.2) && decide (c.2 < gh)
theorem uM {gw gh:Nat} {c:Int × Int}:inG gw gh c=true ↔ 0<=c.1/\c.1 < gw/\0<=c.2/\c.2 < gh:=by simp [inG,and_assoc]
def qB (l:List (Int × Int)):List Value:=l.flatMap fun c=>[ii c.1,ii c.2]
theorem fI (l:List (Int × Int)):(qB l).length=l.length * 2:=vK (f:=fun c:Int × Int=>[ii c.1,ii c.2]) (fun _=>rfl) l
theorem xZ {l:List (Int × Int)} {k:Nat} {c:Int × Int} (h:l[k]?=some c):((qB l).drop (k * 2)).take 2=[ii c.1,ii c.2]:=uE (f:=fun c:Int × Int=>[ii c.1,ii c.2]) (fun _=>rfl) h
section
variable {W : World} {gw gh cap : Nat} {A : Option Addr} {V : List Int}
end
end
section
open Go.RowKit
section
variable {W : World} {A : Option Addr} {V : List Int}
end
end
section
open Go.RowKit
theorem jkj (v:Int) (W:World):Fn Tryz.prog 178 [ii v] W (yK (.bool (kN v)) W):=by
 by_cases h:-2147483648<=v
 ·skip
  have S:=St.start W
  refine zn Tryz.func178 Tryz.results178 Tryz.ntmps178 ?_
  refine z ?_; refine z ?_
  refine zw1 ⟨?_⟩
  iterate 5 refine z ?_
  refine zq ?_
  exact yD rfl ⟨be (by simp [kN,h]),S.out⟩
 ·skip
  have S:=St.start W
  refine zn Tryz.func178 Tryz.results178 Tryz.ntmps178 ?_
  refine z ?_; refine z ?_
  refine zw1 ⟨?_⟩
  iterate 5 refine z ?_
  refine zq ?_
  exact yD rfl ⟨be (by simp [kN,h]),S.out⟩
theorem jg7 (v:Int) (W:World):Fn Tryz.prog 177 ([] ++ [ii v] ++ []) W (yK (.bool (!kN v)) W):=by
 have S:=St.start W
 refine zn Tryz.func177 Tryz.results177 Tryz.ntmps177 ?_
 refine z ?_; refine z ?_
 refine jC rfl (jkj v W) ?_
 rintro _ w1_ ⟨rfl,g1_⟩
 have S:=S.gr g1_
 refine z ?_; refine z ?_
 refine zq ?_
 exact yD rfl ⟨rfl,S.out⟩
theorem lH (A:Option Addr) (n c fid:Nat) (caps:List Value) (xs:List Int) (hn:n=xs.length) (hn1:n<=9223372036854775807) (p:Int->Bool) (W:World) (hA:Rd W A (yC xs))
  (hf:∀ x ∈ xs,∀ w',Gr W w'->Fn Tryz.prog fid ([] ++ [ii x] ++ caps) w' (yK (.bool (p x)) w')) :
  Fn Tryz.prog 229 [.slice A n c,.func (.func fid) (([]:List Value).toArray) caps.toArray] W (fun v w'=>∃ r:Int,v=ii r/\Gr W w'/\(0<=r ↔ xs.any p=true)):=by
 subst hn
 have S:=St.start W
 refine zn Tryz.func229 Tryz.results229 Tryz.ntmps229 ?_
 iterate 4 refine z ?_
 refine zc ?_
 refine jS ?_
 refine zc ?_
 refine j9 (fun m e w=>∃ k:Nat,k+m=xs.length/\SL e [(0,.slice A xs.length c),(1,.func (.func fid) (([]:List Value).toArray) caps.toArray),(7,ii xs.length),(8,ii k)]/\(∀ i x,i < k->xs[i]?=some x->p x=false)/\St No W w []) xs.length
  ⟨0,by omega,⟨rfl,rfl,rfl,rfl,trivial⟩,fun i x hi=>by omega,S⟩ ?_
 rintro m e w ⟨k,hkm,hsl,hI,S⟩
 rw [hsl.fold]
 refine z ?_
 refine zk ?_ ?_
 ·intro hc
  obtain ⟨x,hx⟩:∃ x,xs[k]?=some x:=⟨xs[k],List.getElem?_eq_getElem (by omega)⟩
  have sa_A:yH A:=hA.someA (by rw [qY]; omega)
  have hx':(yC xs)[(k:Int).toNat * 1]?=some (ii x):=by rw [Nat.mul_one,Int.toNat_natCast]; exact qO hx
  (iterate 5 refine z ?_); refine zx ?_
  refine j3 (j7 q2 rfl rfl (hA.gr S.out) hx') ?_
  refine zJ rfl rfl (hf x (List.mem_of_getElem? hx) _ S.out) ?_
  rintro _ w1_ ⟨rfl,g1_⟩
  have S:=S.gr g1_
  refine zk ?_ ?_
  ·intro hp
   refine z ?_; refine z ?_
   refine zq ?_
   exact yD rfl ⟨_,rfl,S.out,by simp; exact ⟨x,List.mem_of_getElem? hx,hp⟩⟩
  ·intro hp
   refine zr ?_; refine z ?_
   refine ze ?_
   exact ⟨m - 1,by omega,k+1,by omega,⟨rfl,rfl,rfl,ie (by omega),trivial⟩,fun i y hi hy=>by
    by_cases hik:i=k
    ·subst hik; rw [hx] at hy; cases hy; exact hp
    ·exact hI i y (by omega) hy,S⟩
 ·intro hc
  refine zc ?_
  refine jY ?_
  repeat first | refine jP ?_ | refine jU ?_
  show CW _ _ _ _ _ _
  refine z ?_
  refine zq ?_
  refine yD rfl ⟨_,rfl,S.out,?_⟩
  simp only [List.any_eq_true]
  refine ⟨fun h=>by omega,fun ⟨x,hx,hp⟩=>?_⟩
  obtain ⟨i,hi,rfl⟩:=List.mem_iff_getElem.1 hx
  rw [hI i _ (by omega) (List.getElem?_eq_getElem hi)] at hp
  cases hp
theorem gS (A:Option Addr) (n c fid:Nat) (caps:List Value) (xs:List Int) (hn:n=xs.length) (hn1:n<=9223372036854775807) (p:Int->Bool) (W:World) (hA:Rd W A (yC xs))
  (hf:∀ x ∈ xs,∀ w',Gr W w'->Fn Tryz.prog fid ([] ++ [ii x] ++ caps) w' (yK (.bool (p x)) w')) :
  Fn Tryz.prog 176 [.slice A n c,.func (.func fid) (([]:List Value).toArray) caps.toArray] W (yK (.bool (xs.any p)) W):=by
 have S:=St.start W
 refine zn Tryz.func176 Tryz.results176 Tryz.ntmps176 ?_
 iterate 3 refine z ?_
 refine jC rfl (lH A n c fid caps xs hn hn1 p _ (hA.gr S.out) (by intro x hx w' g; exact hf x hx w' (S.out.trans g))) ?_
 rintro _ w1_ ⟨r,rfl,g1_,hr⟩
 have S:=S.gr g1_
 refine z ?_; refine z ?_
 refine zq ?_
 exact yD rfl ⟨be (by rw [Bool.eq_iff_iff,<-hr]; simp),S.out⟩
theorem jee (x0 y0 x1 y1 i:Int) (h:0<=x0/\x0<=x1/\x1 < 1024/\0<=y0/\y0<=y1/\y1 < 1024) (hi:0<=i) (hi':i < (x1 - x0+1) * (y1 - y0+1)) (W:World) :
  Fn Tryz.prog 85 [.agg #[ii x0,ii y0,ii x1,ii y1],ii i] W (yK (.tuple #[.agg #[ii (x0+i % (x1 - x0+1)),ii (y0+i / (x1 - x0+1))],.bool true]) W) :=
 kG (by kernel_rfl) (ji2 x0 y0 x1 y1 i h hi hi' W)
section
variable {W : World} {p gw gh cap : Nat} {c : Nat → Int} {A B : Option Addr} {bs : Nat → Nat} {Rs : Nat → Option Nat} {V : List Int}
end
end
section
open Go.RowKit
theorem Rd.lt {w:World} {A:Option Addr} {xs:List Value} (h:Rd w A xs) (hn:0 < xs.length) {g:Nat} (hg:kZ A g):g < w.heap.size:=by
 rcases h with rfl | ⟨b,o,rfl,hb,_⟩
 ·simp at hn
 ·exact rZ hg ▸ hb
section
variable {W : World} {p gw gh cap : Nat} {c : Nat → Int} {A B : Option Addr} {bs : Nat → Nat} {Rs : Nat → Option Nat} {V : List Int}
end
end
section
open Go.RowKit
section
variable {P : Program} {e : Nat → Value} {d : Option Tmp} {ty : TypeId} {ps : String} {af : Array Edge}
theorem xF {t t':TypeId} {x y:Operand} {a b:Int} {B:Bool} (hx:ev e x=.int .u64 a) (hy:ev e y=.int .u64 b) (hB:decide (a >= b)=B):OpV P e ⟨d,.binOp .geq t x y t',ty,ps,af,none⟩ (.bool B):=by
 intro w
 subst hB
 simp [OpR,execOp,hx,hy,eqGuard,binOp,Op.intCmp]
theorem jba {t t':TypeId} {x y:Operand} {k kd:IntKind} {a b c:Int} (hx:ev e x=.int k a) (hy:ev e y=.int kd b) (h0:0<=b) (hc:k.wrap (a * 2 ^ (min b.toNat k.bits))=c):OpV P e ⟨d,.binOp .shl t x y t',ty,ps,af,none⟩ (.int k c):=by
 intro w
 subst hc
 have h1:¬ b < 0:=by omega
 simp [OpR,execOp,hx,hy,eqGuard,binOp,Op.shift,h1]
theorem wS {t:TypeId} {x i:Operand} {s:ByteArray} {kd:IntKind} {n:Int} {b:UInt8} (hu:P.underlying t=some .string) (hx:ev e x=.string s) (hi:ev e i=.int kd n) (h0:0<=n) (hb:s[n.toNat]?=some b):OpV P e ⟨d,.index t x i,ty,ps,af,none⟩ (.int .u8 b.toNat):=by
 intro w
 simp [OpR,execOp,hx,hi,Instr.index,asIntOf,run_underlying hu,h0,hb]
end
structure RG where
 lo:Int
 hi:Int
def RG.cells (r:RG):List Value:=[ii r.lo,ii r.hi]
def uU (a b:RG):RG:=⟨min a.lo b.lo,max a.hi b.hi⟩
theorem jd0 (a b:RG) (W:World):Fn Tryz.prog 182 [.agg a.cells.toArray,.agg b.cells.toArray] W (yK (.agg (uU a b).cells.toArray) W):=by
 unfold RG.cells
 have S:=St.start W
 refine zn Tryz.func182 Tryz.results182 Tryz.ntmps182 ?_
 refine zs ?_
 refine jF (jO rfl) S ?_
 intro b_a w2_ g2_ S
 refine jF (jO rfl) S ?_
 intro b_b w4_ g4_ S
 refine jF (jL wR rfl) S ?_
 intro b_R w6_ g6_ S
 iterate 10 refine z ?_
 refine jE (jN (pl:=[(0,1),(1,1)]) bK wR (fun w=>by kernel_rfl) rfl rfl) ?_
 refine jH (i:=0) S rfl (vI _) rfl rfl rfl rfl rfl rfl ?_
 intro w7_ S
 refine zq ?_
 exact v8 bK rfl (vI _) rfl (S.blk (i:=0) rfl) rfl rfl ⟨rfl,S.out⟩
def u5 (l:List RG):List Value:=l.flatMap RG.cells
theorem jbZ (l:List RG):(u5 l).length=l.length * 2:=vK (f:=RG.cells) (fun _=>rfl) l
theorem jaS:∀ {l:List RG} {k:Nat} {r:RG},l[k]?=some r->((u5 l).drop (k * 2)).take 2=r.cells
 | [],k,r,h=>by cases h
 | r'::l,0,r,h=>by
  obtain rfl:r'=r:=by simpa using h
  rfl
 | r'::l,k+1,r,h=>by
  have ih:=jaS (l:=l) (k:=k) (r:=r) (by simpa using h)
  unfold u5 at *
  rw [List.flatMap_cons,Nat.succ_mul,<-ih]
  rfl
section
theorem jbN (tb ns cs k across nc cc x y right below : Nat) (As Ac : Option Addr) (v0 v1 : Value) (ss : List Value) (l : List RG) (a b : RG) (W : World) (hT : Blk W tb 310 [v0, v1, .slice As ns cs]) (hS : Rd W As ss) (hk : k < ns)
    (hss : (ss.drop (k * 2)).take 2 = [.int .i64 across, .slice Ac nc cc]) (hC : Rd W Ac (u5 l)) (hnc : l.length = nc) (hac : across ≤ 1048576) (hx : x ≤ 1048576) (hy : y ≤ 1048576) (hr : right ≤ 1048576) (hb : below ≤ 1048576)
    (ha : l[y * across + x]? = some a) (hbb : l[(y + below) * across + x + right]? = some b) :
    Fn Tryz.prog 183 [.pointer (some ⟨tb, 0, none⟩), .int .i64 k, .int .i64 x, .int .i64 y, .int .i64 right, .int .i64 below] W (yK (.agg (uU a b).cells.toArray) W) := by
  have hi := (List.getElem?_eq_some_iff.1 ha).1
  have hj := (List.getElem?_eq_some_iff.1 hbb).1
  have sa_S : yH    As := hS.someA (by rcases ss with _ | ⟨u, ss⟩; · simp at hss
                                       · simp)
  have sa_C : yH Ac := hC.someA (by rw [jbZ]; omega)
  have m1 : y * across ≤ 1048576 * 1048576 := Nat.mul_le_mul hy hac
  have m2 : (y + below) * across ≤ 2097152 * 1048576 := Nat.mul_le_mul (by omega) hac
  have e1 : (y : Int) * across = ((y * across : Nat) : Int) := by push_cast; rfl
  have e2 : ((y : Int) + below) * across = (((y + below) * across : Nat) : Int) := by push_cast; rfl
  have hga := jaS ha
  have hgb := jaS hbb
  generalize y * across = p at *
  generalize (y + below) * across = q at *
  have hga2 : ((u5 l).drop (((p : Int) + x).toNat * 2)).take 2 = [.int .i64 a.lo, .int .i64 a.hi] := by rw [show ((p : Int) + x).toNat = p + x by omega]; exact hga
  have hgb2 : ((u5 l).drop (((q : Int) + x + right).toNat * 2)).take 2 = [.int .i64 b.lo, .int .i64 b.hi] := by rw [show ((q : Int) + x + right).toNat = q + x + right by omega]; exact hgb
  have S := St.start W
  refine zn Tryz.func183 Tryz.results183 Tryz.ntmps183 ?_
  refine zs ?_
  refine jF (jL wR rfl) S ?_
  intro b_R w2_ g2_ S
  iterate 3 refine z ?_
  refine j3 (jB jc6 rfl rfl (hT.gr S.out) rfl) ?_
  refine z ?_; refine zx ?_
  refine j3 (yY lF rfl (rJ _) rfl (hS.gr S.out) hss rfl rfl) ?_
  refine jF (jL nI rfl) S ?_
  intro b_s w4_ g4_ S
  refine jH (i := 0) S rfl (rJ _) rfl rfl rfl rfl rfl rfl ?_
  intro w5_ S
  refine zc ?_
  refine yB (C := fun wq => Gr w5_ wq) [0, 1, 2, 3, 4, 5, 6, 7, 8, 9, 10, 11, 12, 13, 14, 15, 16, 17, 18, 19, 20, 21, 22, 23] [24, 25] (by kernel_rfl) (by kernel_rfl) (Gr.drew _) ?_
  simp only [j6, List.drop_succ_cons, List.drop_zero]
  refine jW (jD lF rfl Tryz.sizeOf311 rfl rfl) ?_
  refine jV (fun wq hq => jB nJ rfl rfl ((S.gr hq).blk (i := 0) rfl) rfl) ?_
  refine jW (jA rfl) ?_
  refine jW (jD lF rfl qz2 rfl rfl) ?_
  refine jV (fun wq hq => jB q2 rfl rfl ((S.gr hq).blk (i := 0) rfl) rfl) ?_
  refine jW (yI rfl (by rw [e1]; omega)) ?_
  rw [e1]
  refine jW (jA rfl) ?_
  refine jW (yI rfl (by omega)) ?_
  refine jW (kV nJ vI rfl rfl sa_C (by omega) (by omega)) ?_
  refine jV (fun wq hq => yY bK rfl (vI _) rfl (hC.gr (S.gr hq).out) hga2 rfl rfl) ?_
  refine jW (jD lF rfl Tryz.sizeOf311 rfl rfl) ?_
  refine jV (fun wq hq => jB nJ rfl rfl ((S.gr hq).blk (i := 0) rfl) rfl) ?_
  iterate 2 refine jW (jA rfl) ?_
  refine jW (yI rfl (by omega)) ?_
  refine jW (jD lF rfl qz2 rfl rfl) ?_
  refine jV (fun wq hq => jB q2 rfl rfl ((S.gr hq).blk (i := 0) rfl) rfl) ?_
  refine jW (yI rfl (by rw [e2]; omega)) ?_
  rw [e2]
  refine jW (jA rfl) ?_
  refine jW (yI rfl (by omega)) ?_
  refine jW (jA rfl) ?_
  refine jW (yI rfl (by omega)) ?_
  refine jW (kV nJ vI rfl rfl sa_C (by omega) (by omega)) ?_
  refine jV (fun wq hq => yY bK rfl (vI _) rfl (hC.gr (S.gr hq).out) hgb2 rfl rfl) ?_
  refine yJ ?_
  intro w6_ g6_
  have S := S.gr g6_
  refine jC rfl (jd0 a b w6_) ?_
  rintro _ w7_ ⟨rfl, g7_⟩
  have S := S.gr g7_
  refine jH (i := 1) S rfl (vI _) rfl rfl rfl rfl rfl rfl ?_
  intro w8_ S
  refine zq ?_
  exact v8 bK rfl (vI _) rfl (S.blk (i := 1) rfl) rfl rfl ⟨rfl, S.out⟩
end
end
end Go.Proofs.YtipnifjmhlcehaaGreatDoor
