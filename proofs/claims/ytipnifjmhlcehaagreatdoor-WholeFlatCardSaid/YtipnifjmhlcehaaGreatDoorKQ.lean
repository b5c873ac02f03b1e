/- hachuretop.WholeFlat: a part of the proof that the law returns true at every input (RouteD, SinkC, Sight, Range, Runs, Pred); no condition of its own. -/
import Derived.Test.YtipnifjmhlcehaaGreatDoorKJ
import Derived.Test.YtipnifjmhlcehaaGreatDoorKP
import Derived.Test.YtipnifjmhlcehaaGreatDoorKC
import Derived.Test.YtipnifjmhlcehaaGreatDoorKD
import Derived.Test.YtipnifjmhlcehaaGreatDoorKM
import Derived.Test.YtipnifjmhlcehaaGreatDoorKG
import Derived.RangeFuncRecord
import Derived.Test.YtipnifjmhlcehaaGreatDoorKN
set_option linter.unusedVariables false
set_option linter.unusedSimpArgs false
set_option maxRecDepth 100000
set_option maxHeartbeats 16000000
namespace Go.Proofs.YtipnifjmhlcehaaGreatDoor
section
open Go.RowKit
section
variable {W : World} {A : Option Addr} {p gw gh cap : Nat} {cc : Nat → Int} {bs : Nat → Nat} {Rs : Nat → Option Nat}
theorem jiO (a b:Nat) (ha:a < gw * gh) (hb:b < gw * gh) (hB:vB (yA gw gh cc)) (hG:GridAt W p gw gh cc A cap bs Rs) :
  Fn Tryz.prog 40 [pt p,.agg #[ii (a % gw:Nat),ii (a / gw:Nat)],.agg #[ii (b % gw:Nat),ii (b / gw:Nat)]] W
  (fun v w'=>∃ d,IsDist gw (yA gw gh cc) b d/\qR (fun s=>.tuple #[ii (d a),s,ii 0]) 23 2 (zK gw (yA gw gh cc) d b a).length (qB ((zK gw (yA gw gh cc) d b a).map (cz gw))) W v w'):=by
 have hw:=hG.sw
 have hh:=hG.sh
 have hn:gw * gh<=1024 * 1024:=Nat.mul_le_mul hw.2 hh.2
 have hV:=zE gw gh cc
 have hina:=jjS (gh:=gh) (show 0 < gw by omega) ha
 have hinb:=jjS (gh:=gh) (show 0 < gw by omega) hb
 have hal:[cz gw a,cz gw b].all (inG gw gh)=true:=by simp [hina,hinb]
 have hcost:∀ (A_v:Option Addr) (c_v a:Nat) (w:World),a < gw * gh->Rd w A_v (yC (yA gw gh cc))->Fn Tryz.prog 94 [.agg #[ii gw,.slice A_v (gw * gh) c_v],ii a] w (fun v w'=>∃ d,IsDist gw (yA gw gh cc) a d/\qR id 2 1 (gw * gh) (yN (gw * gh) d) w v w'):=fun A_v c_v a w ha h=>by
  have:=jgJ (gw:=gw) (gh:=gh) (c:=c_v) (V:=yA gw gh cc) a hw hh hV ha hB h
  rw [hV] at this
  exact this
 have hstep:∀ (A_v:Option Addr) (c_v x y:Nat) (w:World),x < gw * gh->y < gw * gh->Rd w A_v (yC (yA gw gh cc))->Fn Tryz.prog 96 [.agg #[ii gw,.slice A_v (gw * gh) c_v],ii x,ii y] w (yK (ii (st (yA gw gh cc) x y)) w):=fun A_v c_v x y w hx hy h=>by
  have:=jd1 (gw:=gw) (c:=c_v) (V:=yA gw gh cc) x y (by omega) (by omega) hB h
  rw [hV] at this
  exact this
 have S:=St.start W
 refine zn Tryz.func40 Tryz.results40 Tryz.ntmps40 ?_
 refine zs ?_
 refine jF (jO rfl) S ?_
 intro b_a w2_ g2_ S
 refine jF (jO rfl) S ?_
 intro b_b w4_ g4_ S
 iterate 6 refine z ?_
 refine yF q37 qI kL rfl rfl rfl rfl rfl rfl S ?_
 intro A_cs w6_ g6_ S sa_cs
 refine jC rfl (((jkY (W:=w6_) [cz gw a,cz gw b] (by simp) (hG.gr S.out) (S.rd (i:=0) rfl)).mono (fun v w' h=>h.1 hal))) ?_
 rintro _ w7_ ⟨A_v,c_v,A_ps,c_ps,rfl,hv,hFv,hps,hFp,hd,g7_⟩
 have S:=S.push2 g7_ (h1:=.row 2 1 A_v _ c_v _) (h2:=.row 3 1 A_ps _ c_ps _) hv hps hFv hFp hd
 iterate 4 refine z ?_
 refine jF (jL Tryz.zeroValue184 rfl) S ?_
 intro b_l w9_ g9_ S
 refine jH (i:=0) S rfl (cJ _) rfl rfl rfl rfl rfl rfl ?_
 intro w10_ S
 (iterate 3 refine z ?_); refine zf ?_
 refine zc ?_
 refine jM rfl ?_
 refine zc ?_
 refine j5 ?_
 try show CW _ _ _ _ _ _
 have hpsv:vC ([cz gw a,cz gw b].map (jbl gw))=[ii (a:Nat),ii (b:Nat)]:=by simp [vC,jbl,jkI]
 rw [hpsv] at S
 have sa_ps:yH A_ps:=(S.row (i:=2) rfl).someA (by simp)
 refine zc ?_
 refine yB (C:=fun wq=>Gr w10_ wq) [0,1,2,3] [4,5] (by kernel_rfl) (by kernel_rfl) (Gr.drew _) ?_
 simp only [j6,List.drop_succ_cons,List.drop_zero]
 refine jV (fun wq hq=>jT jb4 rfl (cJ _) rfl ((S.gr hq).blk (i:=0) rfl) rfl rfl) ?_
 refine y ?_
 refine jW (kV f7 qz3 rfl rfl sa_ps (by omega) (by simp)) ?_
 refine jV (fun wq hq=>j7 q3 rfl rfl ((S.gr hq).rd (i:=2) rfl) rfl) ?_
 refine yJ ?_
 intro w11_ g11_
 have S:=S.gr g11_
 refine jC rfl (hcost _ _ b _ hb (S.row (i:=1) rfl).rd) ?_
 rintro _ w4 ⟨d,hdist,A_left,c_left,rfl,hR,hF,g4⟩
 have S:=S.pushRow hR hF g4
 refine z ?_; refine z ?_
 refine yF q37 qI kL rfl rfl rfl rfl rfl rfl S ?_
 intro A_out w13_ g13_ S sa_out
 refine z ?_; refine z ?_
 refine jE (kV f7 qz3 rfl rfl sa_ps (by omega) (by simp)) ?_
 refine j3 (j7 q3 rfl rfl (S.rd (i:=4) rfl) rfl) ?_
 refine z ?_
 refine zc ?_
 refine jS ?_
 refine zc ?_
 have hroute0:[] ++ zK gw (yA gw gh cc) d b a=zK gw (yA gw gh cc) d b a:=rfl
 have hrank0:=bG (d:=d) ha
 generalize yA gw gh cc=V at *
 have S:=S.sub (L':=[.row 23 2 A_out 1 1 (qB ((([]:List Nat) ++ [a]).map (cz gw))),.row 2 1 A_left (gw * gh) c_left (yN (gw * gh) d),.blk b_l 184 [ii gw,.slice A_v (gw * gh) c_v],.row 2 1 A_v (gw * gh) c_v (yC V),.row 3 1 A_ps 2 c_ps [ii (a:Nat),ii (b:Nat)]]) (.cons_cons _ (.cons_cons _ (.cons_cons _ (.cons_cons _ (.cons_cons _ (.cons _ (.cons _ (.cons _ .slnil))))))))
 refine j9 (fun m e w=>∃ (pre:List Nat) (i:Nat) (A_out:Option Addr) (c_out:Nat),(d i).toNat=m/\i < gw * gh/\pre ++ zK gw V d b i=zK gw V d b a/\nC (gw * gh) d i+pre.length+1<=gw * gh /\
  SL e [(9,pt b_l),(10,.slice A_ps 2 c_ps),(12,.slice A_left (gw * gh) c_left),(13,.slice A_out (pre.length+1) c_out),(14,ii i)] /\
  St No W w [.row 23 2 A_out (pre.length+1) c_out (qB ((pre ++ [i]).map (cz gw))),.row 2 1 A_left (gw * gh) c_left (yN (gw * gh) d),.blk b_l 184 [ii gw,.slice A_v (gw * gh) c_v],.row 2 1 A_v (gw * gh) c_v (yC V),.row 3 1 A_ps 2 c_ps [ii (a:Nat),ii (b:Nat)]]) (d a).toNat
  ⟨[],a,A_out,1,rfl,ha,hroute0,hrank0,⟨rfl,rfl,rfl,rfl,rfl,trivial⟩,S⟩ ?_
 clear S hroute0 hrank0
 rintro m e w ⟨pre,i,A_out,c_out,rfl,hi,hroute,hrank,hsl,S⟩
 rw [hsl.fold]
 have sa_left:yH A_left:=(S.row (i:=1) rfl).someA (by omega)
 refine z ?_; refine z ?_; refine zx ?_
 refine j3 (j7 q3 rfl rfl (S.rd (i:=4) rfl) rfl) ?_
 refine z ?_
 refine zk ?_ ?_
 ·intro hib
  obtain ⟨p1,post,hL,hp1,hnx,hnlt,hside⟩:=n5 (show 0 < gw by omega) hV hdist hi hib
  have hnl:=jao gw V.length i
  rw [jbW (show 0 < gw by omega) hV hdist hi hib] at hroute
  have hst0:=zY V i (zR gw V d i)
  have hnn:=hdist.nn (zR gw V d i) (by omega)
  have hrk:=bH (n:=gw * gh) (d:=d) (i:=zR gw V d i) (j:=i) hnlt (by omega)
  generalize zR gw V d i=nx at *
  refine z ?_; refine z ?_
  refine jC rfl (lZ (W:=w) (A:=A_v) (c:=c_v) i (gw * gh) ⟨hw.1,by omega⟩ hi (by omega)) ?_
  rintro _ w14_ ⟨A_near,c_near,rfl,hR_near,hf_near,g14_⟩
  have S:=S.pushRow hR_near hf_near g14_
  refine z ?_; refine z ?_
  refine zc ?_
  refine jS ?_
  refine zc ?_
  rw [hV] at hL hnl
  rw [hL] at S hnl ⊢
  have sa_near:yH A_near:=(S.row (i:=0) rfl).someA (by show 0 < (p1 ++ nx::post).length; rw [List.length_append,List.length_cons]; omega)
  refine j9 (fun m2 e w=>∃ k:Nat,k+m2=p1.length/\SL e [(9,pt b_l),(10,.slice A_ps 2 c_ps),(12,.slice A_left (gw * gh) c_left),(13,.slice A_out (pre.length+1) c_out),(14,ii i),(46,.slice A_near (p1 ++ nx::post).length c_near),(47,ii (p1 ++ nx::post).length),(48,ii k)] /\
   St No W w [.row 3 1 A_near (p1 ++ nx::post).length c_near (vC (p1 ++ nx::post)),.row 23 2 A_out (pre.length+1) c_out (qB ((pre ++ [i]).map (cz gw))),.row 2 1 A_left (gw * gh) c_left (yN (gw * gh) d),.blk b_l 184 [ii gw,.slice A_v (gw * gh) c_v],.row 2 1 A_v (gw * gh) c_v (yC V),.row 3 1 A_ps 2 c_ps [ii (a:Nat),ii (b:Nat)]]) p1.length
   ⟨0,by omega,⟨rfl,rfl,rfl,rfl,rfl,rfl,rfl,rfl,trivial⟩,S⟩ ?_
  clear S
  rintro m2 e w ⟨k,hk,hsl,S⟩
  rw [hsl.fold]
  have hlen:(p1 ++ nx::post).length=p1.length+1+post.length:=by simp; omega
  have hmemN:∀ y,y ∈ p1 ++ nx::post->y < gw * gh:=fun y hy=>by rw [<-hL] at hy; exact ((xA (by omega) hi).1 hy).1
  by_cases hkp:k < p1.length
  ·obtain ⟨y,hy⟩:∃ y,p1[k]?=some y:=⟨_,List.getElem?_eq_getElem hkp⟩
   have hy2:(p1 ++ nx::post)[k]?=some y:=by rw [List.getElem?_append_left hkp]; exact hy
   have hylt:=hmemN y (List.mem_of_getElem? hy2)
   have hne:=hp1 y (List.mem_of_getElem? hy)
   have hys:=jaK hB i y
   have hys0:=zY V i y
   have hdy:=hdist.nn y (by omega)
   have hdb:=hdist.bound hB y (by omega)
   have hdr:=bG (d:=d) hylt
   rw [hV] at hdb
   refine zt ?_; refine zx ?_
   refine j3 (j7 q3 rfl rfl (S.rd (i:=0) rfl) (sT hy2)) ?_
   refine z ?_
   refine zc ?_
   refine yB (C:=fun wq=>Gr w wq) [0,1,2,3,4,5,6,7,8,9,10,11,12,13] [] (by kernel_rfl) (by kernel_rfl) (Gr.drew _) ?_
   simp only [j6,List.drop_succ_cons,List.drop_zero]
   iterate 2 refine jW (jA rfl) ?_
   refine jW (kV q30 qz2 rfl rfl sa_left (by omega) (by omega)) ?_
   refine jV (fun wq hq=>j7 q2 rfl rfl ((S.gr hq).rd (i:=2) rfl) (qE (by omega))) ?_
   refine jV (fun wq hq=>jT jb4 rfl (cJ _) rfl ((S.gr hq).blk (i:=3) rfl) rfl rfl) ?_
   iterate 2 refine jW (jA rfl) ?_
   refine y8 rfl (fun wq hq=>(hstep A_v c_v i y wq (by omega) hylt ((S.gr hq).rd (i:=4) rfl)).mono (fun _ _ ⟨hv,hg⟩=>⟨hv,hq.trans hg⟩)) ?_
   refine jW (yI rfl (by unfold far at *; omega)) ?_
   iterate 2 refine jW (jA rfl) ?_
   refine jW (kV q30 qz2 rfl rfl sa_left (by omega) (by omega)) ?_
   refine jV (fun wq hq=>j7 q2 rfl rfl ((S.gr hq).rd (i:=2) rfl) (qE (by omega))) ?_
   refine zw6 ⟨?_⟩
   refine yJ ?_
   intro w15_ g15_
   have S:=S.gr g15_
   refine zr ?_; refine z ?_
   refine ze ?_
   exact ⟨m2 - 1,by omega,k+1,by omega,⟨rfl,rfl,rfl,rfl,rfl,rfl,rfl,ie (by omega),trivial⟩,S⟩
  ·obtain rfl:k=p1.length:=by omega
   have hy2:(p1 ++ nx::post)[p1.length]?=some nx:=by rw [List.getElem?_append_right (Nat.le_refl _)]; simp
   have hdb:=hdist.bound hB nx (by omega)
   have hdr:=bG (d:=d) hnlt
   have hys:=jaK hB i nx
   rw [hV] at hdb
   refine zt ?_; refine zx ?_
   refine j3 (j7 q3 rfl rfl (S.rd (i:=0) rfl) (sT hy2)) ?_
   refine z ?_
   refine zc ?_
   refine yB (C:=fun wq=>Gr w wq) [0,1,2,3,4,5,6,7,8,9,10,11,12,13] [] (by kernel_rfl) (by kernel_rfl) (Gr.drew _) ?_
   simp only [j6,List.drop_succ_cons,List.drop_zero]
   refine y ?_; refine y ?_; refine yx ?_
   refine jV (fun wq hq=>j7 q2 rfl rfl ((S.gr hq).rd (i:=2) rfl) (qE (by omega))) ?_
   refine jV (fun wq hq=>jT jb4 rfl (cJ _) rfl ((S.gr hq).blk (i:=3) rfl) rfl rfl) ?_
   refine y ?_; refine y ?_
   refine y8 rfl (fun wq hq=>(hstep A_v c_v i nx wq (by omega) hnlt ((S.gr hq).rd (i:=4) rfl)).mono (fun _ _ ⟨hv,hg⟩=>⟨hv,hq.trans hg⟩)) ?_
   refine jW (yI rfl (by unfold far at *; omega)) ?_
   refine y ?_; refine y ?_; refine yx ?_
   refine jV (fun wq hq=>j7 q2 rfl rfl ((S.gr hq).rd (i:=2) rfl) (qE (by omega))) ?_
   refine zw6 ⟨?_⟩
   refine yJ ?_
   intro w16_ g16_
   have S:=S.gr g16_
   refine z ?_; refine z ?_
   refine zc ?_
   refine jY ?_
   repeat first | refine jP ?_ | refine jU ?_
   show CW _ _ _ _ _ _
   iterate 3 refine z ?_
   refine jC rfl (jk1 (W:=w16_) (A:=A_v) (c:=c_v) nx (gw * gh) hw.1 (by omega)) ?_
   rintro _ w17_ ⟨rfl,g17_⟩
   have S:=S.gr g17_
   refine yF q37 qI kL rfl rfl rfl rfl rfl rfl S ?_
   intro A_lit w19_ g19_ S sa_lit
   refine qA (i:=2) S rfl (fun h=>rfl) q37 dE rfl rfl rfl rfl (by simp) (by omega) (S.rd (i:=0) rfl) rfl (by omega) ?_
   intro A_out20 c_out20 w20_ S sa_out
   refine z ?_
   refine ze ?_
   have e1:qB ((pre ++ [i]).map (cz gw)) ++ [ii (nx % gw:Nat),ii (nx / gw:Nat)]=qB ((pre ++ [i] ++ [nx]).map (cz gw)):=by simp [qB,cz]
   have S:=S.sub (.cons _ (.cons _ (.cons_cons _ (.cons_cons _ (.cons_cons _ (.cons_cons _ (.cons_cons _ .slnil)))))))
   rw [e1] at S
   refine ⟨_,by omega,pre ++ [i],nx,_,_,rfl,hnlt,by rw [List.append_assoc]; exact hroute,by rw [List.length_append,List.length_singleton]; omega,⟨rfl,rfl,rfl,se (by simp) rfl,rfl,trivial⟩,?_⟩
   rw [List.length_append,List.length_singleton]
   exact S
 ·intro hib
  obtain rfl:i=b:=by omega
  rw [jbX hdist] at hroute
  have hl:(zK gw V d i a).length=pre.length+1:=by rw [<-hroute]; simp
  refine zc ?_
  refine jY ?_
  repeat first | refine jP ?_ | refine jU ?_
  show CW _ _ _ _ _ _
  refine z ?_; refine z ?_; refine zx ?_
  refine j3 (j7 q3 rfl rfl (S.rd (i:=4) rfl) rfl) ?_
  refine zx ?_
  refine j3 (j7 q2 rfl rfl (S.rd (i:=1) rfl) (qE (by omega))) ?_
  iterate 4 refine z ?_
  refine zq ?_
  rw [hroute] at S
  refine jeZ rfl rfl rfl ⟨d,hdist,?_⟩
  rw [hl]
  exact S.retNew (i:=0) (mk:=fun s=>.tuple #[ii (d a),s,ii 0]) rfl
end
end
section
open Go.RowKit
theorem jcK (gw:Nat) (l:List Nat) (j:Nat):qB (l.map (cz gw)) ++ [ii (j % gw:Nat),ii (j / gw:Nat)]=qB ((l ++ [j]).map (cz gw)):=by simp [qB,cz]
section
variable {W : World} {A : Option Addr} {p gw gh cap c : Nat} {cc : Nat → Int} {bs : Nat → Nat} {Rs : Nat → Option Nat} {V : List Int}
theorem jeP (i:Nat) (hi:i < gw * gh) (hG:GridAt W p gw gh cc A cap bs Rs):Fn Tryz.prog 91 [pt p,.agg #[ii (i % gw:Nat),ii (i / gw:Nat)]] W
  (jid gw gh (yA gw gh cc) (fun l=>.tuple #[l,ii i,ii 0]) W):=by
 have hgw:=hG.sw.1
 have:=jgv (i % gw) (i / gw) (Nat.mod_lt i hgw) (Nat.div_lt_of_lt_mul hi) hG
 rw [show i / gw * gw+i % gw=i by rw [Nat.mul_comm]; exact Nat.div_add_mod i gw] at this
 exact this
theorem jj1 (i k:Nat) (hi:i < gw * gh) (hkn:k < gw * gh) (hk:Stop (vY gw (yA gw gh cc)) i k) (hG:GridAt W p gw gh cc A cap bs Rs):Fn Tryz.prog 39 [pt p,.agg #[ii (i % gw:Nat),ii (i / gw:Nat)]] W
  (qR (fun s=>.tuple #[s,ii 0]) 23 2 (k+1) (qB ((jgd (vY gw (yA gw gh cc)) i k).map (cz gw))) W):=by
 have hw:=hG.sw
 have hh:=hG.sh
 have hV:=zE gw gh cc
 have hgm:gw * gh<=1024 * 1024:=Nat.mul_le_mul hw.2 hh.2
 have hF:=jfE hw.1 hV
 have hget:∀ i,i < gw * gh->(yM (gw * gh) (vY gw (yA gw gh cc)))[((i:Nat):Int).toNat * 1]?=some (ii (vY gw (yA gw gh cc) i:Nat)):=fun i hi=>by rw [Nat.mul_one,Int.toNat_natCast]; exact uG hi
 have hbeg:=fun w (g:Gr W w)=>jeP i hi (hG.gr g)
 generalize yA gw gh cc=V at *
 have S:=St.start W
 refine zn Tryz.func39 Tryz.results39 Tryz.ntmps39 ?_
 refine zs ?_
 refine jF (jO rfl) S ?_
 intro b_c w2_ g2_ S
 iterate 4 refine z ?_
 refine jC rfl (hbeg w2_ S.out) ?_
 rintro _ w3_ ⟨A_v,c_v,A_to,c_to,rfl,hv,hFv,hto,hFt,hd,g3_⟩
 have sa_to:yH A_to:=hto.someA (by omega)
 have S:=S.push2 g3_ (h1:=.row 2 1 A_v _ c_v _) (h2:=.row 3 1 A_to _ c_to _) hv hto hFv hFt hd
 iterate 4 refine z ?_
 refine jF (jL jae rfl) S ?_
 intro b_l w5_ g5_ S
 refine jH (i:=0) S rfl (bI _) rfl rfl rfl rfl rfl rfl ?_
 intro w6_ S
 (iterate 3 refine z ?_); refine zf ?_; refine z ?_
 refine yF q37 qI kL rfl rfl rfl rfl rfl rfl S ?_
 intro A_out w8_ g8_ S sa_out
 refine z ?_
 refine zc ?_
 refine jS ?_
 refine zc ?_
 generalize hff:vY gw V=f at *
 refine j9 (fun m e w=>∃ (j:Nat) (A_out:Option Addr) (c_out:Nat),j+m=k/\SL e [(6,pt b_l),(7,ii (itr f j i:Nat)),(9,.slice A_out (j+1) c_out)] /\
  St No W w [.row 23 2 A_out (j+1) c_out (qB ((jgd f i j).map (cz gw))),.blk b_l 180 [ii gw,.slice A_v (gw * gh) c_v,.slice A_to (gw * gh) c_to],.row 2 1 A_v (gw * gh) c_v (yC V),.row 3 1 A_to (gw * gh) c_to (yM (gw * gh) f),.blk b_c 23 [ii (i % gw:Nat),ii (i / gw:Nat)]]) k
  ⟨0,A_out,1,by omega,⟨rfl,rfl,rfl,trivial⟩,S⟩ ?_
 clear S
 rintro m e w ⟨j,A_out,c_out,hjm,hsl,S⟩
 rw [hsl.fold]
 have hlt:=hF.itr_lt hi j
 have hlt1:=hF.itr_lt hi (j+1)
 have hg1:=hget _ hlt
 have e1:f (itr f j i)=itr f (j+1) i:=rfl
 rw [e1] at hg1
 by_cases hjk:j < k
 ·have hne:=hk.1 j hjk
  (iterate 3 refine z ?_); refine zx ?_
  refine j3 (j7 q3 rfl rfl (S.rd (i:=3) rfl) hg1) ?_
  refine z ?_; refine zt ?_; (iterate 3 refine z ?_); refine zx ?_
  refine j3 (j7 q3 rfl rfl (S.rd (i:=3) rfl) hg1) ?_
  iterate 4 refine z ?_
  refine jC rfl (jj9 (W:=w) (itr f (j+1) i) (gw * gh) hw.1 (by omega)) ?_
  rintro _ w9_ ⟨rfl,g9_⟩
  have S:=S.gr g9_
  refine yF q37 qI kL rfl rfl rfl rfl rfl rfl S ?_
  intro A_lit w11_ g11_ S sa_lit
  refine qA (i:=1) S rfl (fun h=>rfl) q37 dE rfl rfl rfl rfl (by simp) (by omega) (S.rd (i:=0) rfl) rfl (by omega) ?_
  intro A_o2 c_o2 w12_ S sa_out
  refine z ?_
  refine ze ?_
  have S:=S.drop 1
  rw [jcK,<-jey] at S
  exact ⟨m - 1,by omega,j+1,A_o2,c_o2,by omega,⟨rfl,rfl,rfl,trivial⟩,S⟩
 ·obtain rfl:j=k:=by omega
  have he:=hk.2
  rw [he] at hg1
  (iterate 3 refine z ?_); refine zx ?_
  refine j3 (j7 q3 rfl rfl (S.rd (i:=3) rfl) hg1) ?_
  refine z ?_; refine zf ?_
  refine zc ?_
  refine jM rfl ?_
  refine zc ?_
  refine jY ?_
  repeat first | refine jP ?_ | refine jU ?_
  show CW _ _ _ _ _ _
  iterate 3 refine z ?_
  refine zq ?_
  exact kY rfl rfl (S.retNew (i:=0) (mk:=fun s=>.tuple #[s,ii 0]) rfl)
end
end
section
open Go.RowKit
def jcS (v:Value) (i:Nat):Value:=match v with
 | .tuple a=>a.toList.getD i undef
 | _=>undef
def CRp (F:Nat->Prop) (W:World) (L0:List HA) (b t:Nat) (cs:Nat->Value->List Value) (T:Value->List HA->Prop) (σ:List Value) (w:World):Prop:=match σ.getLast? with
 | none=>St F W w (.blk b t (cs 0 undef)::L0)
 | some v=>∃ Q,T v Q/\St F W w (Q ++ (.blk b t (cs (σ.length - 1) v)::L0))
section
variable {F : Nat → Prop} {W w w' : World} {L0 : List HA} {b t : Nat} {cs : Nat → Value → List Value} {T : Value → List HA → Prop} {σ : List Value}
theorem CRp.start (S:St F W w (.blk b t (cs 0 undef)::L0)):CRp F W L0 b t cs T [] w:=S
theorem CRp.st (h:CRp F W L0 b t cs T σ w):St F W w L0:=by
 unfold CRp at h
 split at h
 ·exact h.drop 1
 ·obtain ⟨Q,_,S⟩:=h
  exact S.tail.drop 1
section
variable {P : Program} {e : Nat → Value} {d : Option Tmp} {ty : TypeId} {ps : String} {af : Array Edge}
theorem sF {f:FuncId} {args:List Operand} {tys:Array TypeId} {vs:List Value} (h:CRp F W L0 b t cs T [] w) (h0:∀ v,cs 0 v=cs 0 undef) (hv:fzl (args.map (ev e))=some vs)
  (hc:St F W w L0->Fn P f vs w (fun v w'=>∃ Q,T v Q/\St No w w' Q)):qM P e ⟨d,.call ⟨.value (.func f),args.toArray,tys⟩,ty,ps,af,none⟩ w (fun v w'=>CRp F W L0 b t cs T [v] w'):=by
 have S:St F W w (.blk b t (cs 0 undef)::L0):=h
 exact uW hv ((hc (S.drop 1)).mono fun v w' ⟨Q1,hT,S2⟩=>⟨Q1,hT,by
  show St F W w' (Q1 ++ (.blk b t (cs 0 v)::L0))
  rw [h0]
  exact S.app S2⟩)
theorem x5 {k o tt:Nat} {v x:Value} {p y:Operand} {u:Value} (h:CRp F W L0 b t cs T σ w) (hl:σ.getLast?=some v) (hk:σ.length=k+1) (hz:(sizeOf tt).run P w=.ok 1 w) (hp:ev e p=.pointer (some ⟨b,o,none⟩)) (hy:fz (ev e y)=some x) (hv:x.oneCell'=true) (hvc:x.cells=#[x]) (hu:(cs k v)[o]?=some u)
  (hs:(cs k v).set o x=cs (k+1) v):qM P e ⟨d,.store tt p y,ty,ps,af,none⟩ w (fun u w'=>CRp F W L0 b t cs T (u::σ) w'):=by
 unfold CRp at h
 rw [hl,hk,Nat.add_sub_cancel] at h
 obtain ⟨Q,hT,S⟩:=h
 have S1:St F W w (.blk b t (cs k v)::(Q ++ L0)):=St.mid (B:=[_]) S
 have key:∀ (u:Value) (w':World),St F W w' (HA.blk b t ((cs k v).set o x)::(Q ++ L0))->CRp F W L0 b t cs T (u::σ) w':=fun u w' S'=>by
  unfold CRp
  rw [List.getLast?_cons,hl,List.length_cons,hk,Nat.add_sub_cancel]
  refine ⟨Q,hT,?_⟩
  rw [hs] at S'
  exact St.mid (A:=[_]) S'
 exact q7 rfl (j8 (i:=0) S1 rfl hz hp hy hv hvc hu rfl (fun w' S'=>key _ w' S'))
theorem CRp.fin {v:Value} {k:Nat} (h:CRp F W L0 b t cs T σ w) (hl:σ.getLast?=some v) (hk:σ.length=k+1):∃ Q,T v Q/\St F W w (Q ++ (.blk b t (cs k v)::L0)):=by
 unfold CRp at h
 rw [hl,hk,Nat.add_sub_cancel] at h
 exact h
end
end
section
variable {F : Nat → Prop} {W w : World} {M tl : List HA} {o : OpS} {s : StS} {kb : Nat} {v : Int}
theorem StS.pyrAt (S:St F W w (s.L ++ tl)):PyrAt w s.yb s.gw s.gh s.V:=⟨s.lA,s.lc,s.As,s.cs,S.blk (i:=5) rfl,S.rd (i:=6) rfl,fun k hk=>(S.prow (i:=7) rfl hk).rd⟩
theorem St.back {A B:List HA} {k:HA} (S:St F W w (k::(A ++ (B ++ tl)))):St F W w ((A ++ B) ++ (k::tl)):=by
 rw [<-List.append_assoc] at S
 exact S.perm_ List.perm_middle.symm
theorem St.forth {A B:List HA} {k:HA} (S:St F W w ((A ++ B) ++ (k::tl))):St F W w (k::(A ++ (B ++ tl))):=by
 have:=S.perm_ List.perm_middle
 rwa [List.append_assoc] at this
theorem St.regBack {a b c d k:HA} {A B:List HA} (S:St F W w (a::b::c::d::k::(A ++ (B ++ tl)))):St F W w (k::((a::A) ++ (B ++ tl))):=(S.sub (.cons_cons _ (.cons _ (.cons _ (.cons _ (List.Sublist.refl _)))))).swap
def rp0:List Value:=[ii 0,ii 0,.bool false,ii 0,ii 0,.slice none 0 0,.slice none 0 0,.slice none 0 0,.slice none 0 0,.slice none 0 0]
theorem jgp (ax ay bx cy:Nat) (hfl:s.V=qS s.gw s.gh v) (hv:-4294967296<=v/\v<=4294967296) (ha:ax < s.gw/\ay < s.gh) (hb:bx < s.gw/\cy < s.gh) (ho:o.k=12/\o.ax=ax/\o.ay=ay/\o.bx=bx/\o.by_=cy/\o.n=0/\o.m=0) :
  lN F W (s.L ++ M) s.sb o true (35) (fun _:Unit=>{ code:=0,yes:=true:RpS }) (fun _=>s.L ++ M):=by
 intro kb tl w S
 replace S:=St.forth S
 obtain ⟨ok,ox0,oy0,ox1,oy1,oax,oay,obx,oby,n,m,vs,bs,bd⟩:=o
 dsimp only at ho
 obtain ⟨rfl,rfl,rfl,rfl,rfl,rfl,rfl⟩:=ho
 replace S:St F W w (.blk kb 3 [ii 12]::(s.L ++ (M ++ tl))):=S
 have hw1:=(S.grid (i:=2) rfl).sw
 have hh1:=(S.grid (i:=2) rfl).sh
 have hpy:∀ {w A},St F W w (A ++ (s.L ++ (M ++ tl)))->PyrAt w s.yb s.gw s.gh (qS s.gw s.gh v):=fun S=>hfl ▸ StS.pyrAt (St.tail S)
 refine zn Tryz.func35 Tryz.results35 Tryz.ntmps35 ?_
 refine zs ?_
 refine jF (jO rfl) S ?_
 intro b_op w2_ g2_ S
 refine jF (jL zP rfl) S ?_
 intro b_out w4_ g4_ S
 refine zs ?_
 refine jF (jL zP rfl) S ?_
 intro b_r w6_ g6_ S
 first | refine jR ?_ | (refine jG ?_; show CW _ _ _ _ _ _) | refine jG ?_
 repeat refine jJ ?_
 refine jI ?_
 refine jE (jA rfl) ?_
 first | refine jR ?_ | (refine jG ?_; show CW _ _ _ _ _ _) | refine jG ?_
 repeat refine jJ ?_
 refine jI ?_
 iterate 2 refine jE (jA rfl) ?_
 refine jE (jD q60 rfl Tryz.sizeOf56 rfl rfl) ?_
 refine j3 (jB Tryz.underlying56 rfl rfl (S.blk (i:=4) rfl) rfl) ?_
 refine jC rfl (sW (S.blk (i:=6) rfl)) ?_
 rintro _ w7_ ⟨rfl,g7_⟩
 have S:=S.gr g7_
 refine z ?_; refine z ?_; refine zt ?_; iterate 10 refine z ?_
 refine jC rfl (sI (W:=w7_) (v:=v) ax ay bx cy hv hw1 hh1 ha hb (hpy (A:=[_,_,_,_]) S)) ?_
 rintro _ w8_ ⟨rfl,g8_⟩
 have S:=S.gr g8_
 iterate 5 refine z ?_
 refine j8 (i:=0) S rfl (Tryz.sizeOf4 _) rfl rfl rfl rfl rfl rfl ?_
 intro w9_ S
 refine z ?_
 refine jH (i:=0) S rfl (qI _) rfl rfl rfl rfl rfl rfl ?_
 intro w10_ S
 iterate 3 refine z ?_
 refine jC rfl (fV (r:={ code:=0,yes:=true })) ?_
 rintro _ w11_ ⟨rfl,g11_⟩
 have S:=S.gr g11_
 refine jH (i:=1) S rfl (uK _) rfl rfl rfl rfl rfl rfl ?_
 intro w12_ S
 refine zq ?_
 exact v8 q41 rfl (uK _) rfl (S.blk (i:=1) rfl) rfl rfl ⟨(),rfl,St.back (S.drop 3)⟩
theorem jil (i:Nat) (hi:i < s.gw * s.gh) (hfl:s.V=qS s.gw s.gh v) (hv:-4294967296<=v/\v<=4294967296) (ho:o.k=13/\o.ax=(i % s.gw:Nat)/\o.ay=(i / s.gw:Nat)/\o.bx=1024/\o.n=0/\o.m=0) :
  lN F W (s.L ++ M) s.sb o true (35) (fun q:Option Addr × Nat=>{ code:=0,n:=(s.gw * s.gh:Nat),cells:=⟨q.1,s.gw * s.gh,q.2⟩:RpS }) (fun _=>s.L ++ M):=by
 intro kb tl w S
 replace S:=St.forth S
 obtain ⟨ok,ox0,oy0,ox1,oy1,oax,oay,obx,oby,n,m,vs,bs,bd⟩:=o
 dsimp only at ho
 obtain ⟨rfl,rfl,rfl,rfl,rfl,rfl⟩:=ho
 replace S:St F W w (.blk kb 3 [ii 13]::(s.L ++ (M ++ tl))):=S
 have hw1:=(S.grid (i:=2) rfl).sw
 have hh1:=(S.grid (i:=2) rfl).sh
 have hpy:∀ {w A},St F W w (A ++ (s.L ++ (M ++ tl)))->PyrAt w s.yb s.gw s.gh (qS s.gw s.gh v):=fun S=>hfl ▸ StS.pyrAt (St.tail S)
 have hgm:s.gw * s.gh<=1024 * 1024:=Nat.mul_le_mul hw1.2 hh1.2
 have hvf:=fun w hP=>jim (W:=w) (yb:=s.yb) (v:=v) i hi hv hw1 hh1 hP
 generalize ((i % s.gw:Nat):Int)=X at *
 generalize ((i / s.gw:Nat):Int)=Y at *
 refine zn Tryz.func35 Tryz.results35 Tryz.ntmps35 ?_
 refine zs ?_
 refine jF (jO rfl) S ?_
 intro b_op w2_ g2_ S
 refine jF (jL zP rfl) S ?_
 intro b_out w4_ g4_ S
 refine zs ?_
 refine jF (jL zP rfl) S ?_
 intro b_r w6_ g6_ S
 first | refine jR ?_ | (refine jG ?_; show CW _ _ _ _ _ _) | refine jG ?_
 repeat refine jJ ?_
 refine jI ?_
 refine jE (jA rfl) ?_
 first | refine jR ?_ | (refine jG ?_; show CW _ _ _ _ _ _) | refine jG ?_
 repeat refine jJ ?_
 refine jI ?_
 iterate 2 refine jE (jA rfl) ?_
 refine jE (jD q60 rfl Tryz.sizeOf56 rfl rfl) ?_
 refine j3 (jB Tryz.underlying56 rfl rfl (S.blk (i:=4) rfl) rfl) ?_
 refine jC rfl (sW (S.blk (i:=6) rfl)) ?_
 rintro _ w7_ ⟨rfl,g7_⟩
 have S:=S.gr g7_
 refine z ?_; refine z ?_; refine zf ?_; refine z ?_; refine zt ?_; iterate 11 refine z ?_
 refine jC rfl (hvf w7_ (hpy (A:=[_,_,_,_]) S)) ?_
 rintro _ w8_ ⟨A_ce,c_ce,rfl,hR_ce,hf_ce,g8_⟩
 have S:=S.pushRow hR_ce hf_ce g8_
 iterate 4 refine z ?_
 refine j8 (i:=1) S rfl (sM _) rfl rfl rfl rfl rfl rfl ?_
 intro w9_ S
 iterate 5 refine z ?_
 refine j8 (i:=1) S rfl (qz2 _) rfl rfl rfl rfl rfl rfl ?_
 intro w10_ S
 refine z ?_; refine z ?_
 refine jC rfl (fV (r:={ code:=0,n:=(s.gw * s.gh:Nat),cells:=⟨A_ce,s.gw * s.gh,c_ce⟩ })) ?_
 rintro _ w11_ ⟨rfl,g11_⟩
 have S:=S.gr g11_
 refine jH (i:=2) S rfl (uK _) rfl rfl rfl rfl rfl rfl ?_
 intro w12_ S
 refine zq ?_
 exact v8 q41 rfl (uK _) rfl (S.blk (i:=2) rfl) rfl rfl ⟨(A_ce,c_ce),rfl,St.back (S.drop 4)⟩
structure RgS (gw gh:Nat) (V:List Int) (t:Int) where
 r:Nat->Nat
 A1:Option Addr
 c1:Nat
 A2:Option Addr
 c2:Nat
 n:Nat
 hr:jaG gw V t r
 hn:n=k9 V t r V.length
def RgS.rep {gw gh:Nat} {V:List Int} {t:Int} (q:RgS gw gh V t):RpS:={ code:=0,n:=q.n,values:=⟨q.A1,V.length,q.c1⟩,parts:=⟨q.A2,q.n,q.c2⟩ }
def RgS.row {gw gh:Nat} {V:List Int} {t:Int} (q:RgS gw gh V t):HA:=.row 44 8 q.A2 q.n q.c2 (qZ (qK gw V t q.r V.length))
def RgT (gw gh:Nat) (V:List Int) (t:Int) (v:Value) (Q:List HA):Prop:=∃ A1 c1 A2 c2 n,v=.tuple #[.slice A1 V.length c1,.slice A2 n c2,ii 0]/\∃ r,jaG gw V t r/\n=k9 V t r V.length/\Q=[.row 44 8 A2 n c2 (qZ (qK gw V t r V.length))]
theorem jd3 (t:Int) (hV:s.V.length<=1048576) (ho:o.k=14/\o.n=t) :
  lN F W (s.L ++ M) s.sb o true (35) (fun q:RgS s.gw s.gh s.V t=>q.rep) (fun q=>q.row::(s.L ++ M)):=by
 intro kb tl w S
 replace S:=St.forth S
 obtain ⟨ok,ox0,oy0,ox1,oy1,oax,oay,obx,oby,n,m,vs,bs,bd⟩:=o
 dsimp only at ho
 obtain ⟨rfl,rfl⟩:=ho
 replace S:St F W w (.blk kb 3 [ii 14]::(s.L ++ (M ++ tl))):=S
 have hw1:=(S.grid (i:=2) rfl).sw
 have hh1:=(S.grid (i:=2) rfl).sh
 have hreg:=fun w G=>(jb1 (W:=w) (gw:=s.gw) (gh:=s.gh) (cc:=s.cc) (p:=s.p) (A:=s.A) (cap:=s.cap) (bs:=s.bs) (Rs:=s.Rs) n G).mono (R':=fun v w'=>∃ Q,RgT s.gw s.gh s.V n v Q/\St No w w' Q) fun v w' ⟨r,hr,A1,c1,A2,c2,hv,_,h2,_,h4,g⟩=>⟨_,⟨A1,c1,A2,c2,_,hv,r,hr,rfl,rfl⟩,(St.start w).pushRow h2 h4 g⟩
 refine zn Tryz.func35 Tryz.results35 Tryz.ntmps35 ?_
 refine zs ?_
 refine jF (jO rfl) S ?_
 intro b_op w2_ g2_ S
 refine jF (jL zP rfl) S ?_
 intro b_out w4_ g4_ S
 refine zs ?_
 refine jF (jL zP rfl) S ?_
 intro b_r w6_ g6_ S
 first | refine jR ?_ | (refine jG ?_; show CW _ _ _ _ _ _) | refine jG ?_
 repeat refine jJ ?_
 refine jI ?_
 refine jE (jA rfl) ?_
 first | refine jR ?_ | (refine jG ?_; show CW _ _ _ _ _ _) | refine jG ?_
 repeat refine jJ ?_
 refine jI ?_
 iterate 2 refine jE (jA rfl) ?_
 refine jE (jD q60 rfl Tryz.sizeOf56 rfl rfl) ?_
 refine j3 (jB Tryz.underlying56 rfl rfl (S.blk (i:=4) rfl) rfl) ?_
 refine jC rfl (sW (S.blk (i:=6) rfl)) ?_
 rintro _ w7_ ⟨rfl,g7_⟩
 have S:=S.gr g7_
 refine z ?_; refine z ?_; refine zf ?_; refine z ?_; refine zf ?_; refine z ?_; refine zt ?_; refine z ?_
 refine zc ?_
 refine yS rfl ?_
 refine zc ?_
 refine qQ (C:=(CRp F W (.blk b_out 41 rp0::.blk b_op 34 (OpS.cs ⟨14,ox0,oy0,ox1,oy1,oax,oay,obx,oby,n,m,vs,bs,bd⟩)::.blk kb 3 [ii 14]::(s.L ++ (M ++ tl))) b_r 41 (fun k v=>match k with | 0=>rp0 | 1=>rp0.set 6 (jcS v 0) | _=>(rp0.set 6 (jcS v 0)).set 7 (jcS v 1)) (RgT s.gw s.gh s.V n))) [6,12,14] [0,1,2,3,4,5,6,7,8,9,10,11,12,13,14] [15] (by kernel_rfl) (by kernel_rfl) (CRp.start (S.gr (Gr.drew _))) ?_
 simp only [yT,j6,List.drop_succ_cons,List.drop_zero]
 refine jX rfl (jA rfl) ?_
 refine jX rfl (jA rfl) ?_
 refine jX rfl (jD q60 rfl Tryz.sizeOf55 rfl rfl) ?_
 refine qF rfl (fun τ wq hq=>jB q55 rfl rfl ((CRp.st hq).blk (i:=3) rfl) rfl) ?_
 refine jX rfl (jD q34 rfl qz2 rfl rfl) ?_
 refine qF rfl (fun τ wq hq=>jB q2 rfl rfl ((CRp.st hq).blk (i:=1) rfl) rfl) ?_
 refine jZ rfl rfl (fun wq hq=>sF hq (fun _=>rfl) rfl (fun S=>hreg wq (S.grid (i:=4) rfl))) ?_
 rintro v6 w6 ⟨_,⟨A1,c1,A2,c2,nn,rfl,r6,_,hn6,_⟩,_⟩
 refine jX rfl (jA rfl) ?_
 refine jX rfl (jA rfl) ?_
 refine jX rfl (jA rfl) ?_
 refine jX rfl (jA rfl) ?_
 refine jX rfl (jD q41 rfl f5 rfl rfl) ?_
 refine jZ rfl rfl (fun wq hq=>x5 (k:=0) hq rfl rfl (f5 _) rfl rfl rfl rfl rfl rfl) ?_
 rintro v12 w12 _
 refine jX rfl (jD q41 rfl Tryz.sizeOf38 rfl rfl) ?_
 refine jZ rfl rfl (fun wq hq=>x5 (k:=1) hq rfl rfl (Tryz.sizeOf38 _) rfl rfl rfl rfl rfl rfl) ?_
 rintro v14 w14 _
 refine yV ?_
 rintro wz hz
 obtain ⟨_,⟨_,_,_,_,_,e2,r,hr,hn2,rfl⟩,S⟩:=CRp.fin (k:=2) hz rfl rfl
 cases e2
 replace S:St F W wz (.row 44 8 A2 nn c2 (qZ (qK s.gw s.V n r s.V.length))::.blk b_r 41 ((rp0.set 6 (.slice A1 s.V.length c1)).set 7 (.slice A2 nn c2))::.blk b_out 41 rp0::.blk b_op 34 (OpS.cs ⟨14,ox0,oy0,ox1,oy1,oax,oay,obx,oby,n,m,vs,bs,bd⟩)::.blk kb 3 [ii 14]::(s.L ++ (M ++ tl))):=S
 refine z ?_
 refine ze ?_
 have hle:nn<=s.V.length:=by rw [hn2]; exact pF _ _ _ _
 iterate 4 refine z ?_
 refine j8 (i:=1) S rfl (qz2 _) rfl rfl rfl rfl rfl rfl ?_
 intro w9_ S
 refine z ?_; refine z ?_
 refine jC rfl (fV (r:={ code:=0,n:=(nn:Nat),values:=⟨A1,s.V.length,c1⟩,parts:=⟨A2,nn,c2⟩ })) ?_
 rintro _ w10_ ⟨rfl,g10_⟩
 have S:=S.gr g10_
 refine jH (i:=2) S rfl (uK _) rfl rfl rfl rfl rfl rfl ?_
 intro w11_ S
 refine zq ?_
 exact v8 q41 rfl (uK _) rfl (S.blk (i:=2) rfl) rfl rfl ⟨⟨r,A1,c1,A2,c2,nn,hr,hn2⟩,rfl,St.back (A:=_::s.L) (St.regBack S)⟩
theorem jiA (i:Nat) (hi:i < s.gw * s.gh) (hfl:s.V=qS s.gw s.gh v) (ho:o.k=15/\o.ax=(i % s.gw:Nat)/\o.ay=(i / s.gw:Nat)) :
  lN F W (s.L ++ M) s.sb o true (35) (fun q:Option Addr × Nat=>{ code:=0,ax:=(i % s.gw:Nat),ay:=(i / s.gw:Nat),cells:=⟨q.1,1,q.2⟩:RpS }) (fun _=>s.L ++ M):=by
 intro kb tl w S
 replace S:=St.forth S
 obtain ⟨ok,ox0,oy0,ox1,oy1,oax,oay,obx,oby,n,m,vs,bs,bd⟩:=o
 dsimp only at ho
 obtain ⟨rfl,rfl,rfl⟩:=ho
 replace S:St F W w (.blk kb 3 [ii 15]::(s.L ++ (M ++ tl))):=S
 have hw1:=(S.grid (i:=2) rfl).sw
 have hh1:=(S.grid (i:=2) rfl).sh
 have hflow:=jdc (v:=v) hw1.1 hi
 rw [<-hfl] at hflow
 have hway:=fun w G=>(jj1 (W:=w) (gw:=s.gw) (gh:=s.gh) (cc:=s.cc) (p:=s.p) (A:=s.A) (cap:=s.cap) (bs:=s.bs) (Rs:=s.Rs) i 0 hi (by omega) hflow G).mono (R':=fun v w'=>∃ Q,(∃ A c,v=.tuple #[.slice A 1 c,ii 0]/\Q=[.row 23 2 A 1 c [ii (i % s.gw:Nat),ii (i / s.gw:Nat)]])/\St No w w' Q) fun v w' ⟨A,c,hv,h2,h4,g⟩=>⟨_,⟨A,c,hv,rfl⟩,(St.start w).pushRow h2 h4 g⟩
 generalize ((i % s.gw:Nat):Int)=X at *
 generalize ((i / s.gw:Nat):Int)=Y at *
 refine zn Tryz.func35 Tryz.results35 Tryz.ntmps35 ?_
 refine zs ?_
 refine jF (jO rfl) S ?_
 intro b_op w2_ g2_ S
 refine jF (jL zP rfl) S ?_
 intro b_out w4_ g4_ S
 refine zs ?_
 refine jF (jL zP rfl) S ?_
 intro b_r w6_ g6_ S
 first | refine jR ?_ | (refine jG ?_; show CW _ _ _ _ _ _) | refine jG ?_
 repeat refine jJ ?_
 refine jI ?_
 refine jE (jA rfl) ?_
 first | refine jR ?_ | (refine jG ?_; show CW _ _ _ _ _ _) | refine jG ?_
 repeat refine jJ ?_
 refine jI ?_
 iterate 2 refine jE (jA rfl) ?_
 refine jE (jD q60 rfl Tryz.sizeOf56 rfl rfl) ?_
 refine j3 (jB Tryz.underlying56 rfl rfl (S.blk (i:=4) rfl) rfl) ?_
 refine jC rfl (sW (S.blk (i:=6) rfl)) ?_
 rintro _ w7_ ⟨rfl,g7_⟩
 have S:=S.gr g7_
 refine z ?_; refine z ?_; refine zf ?_; refine z ?_; refine zf ?_; refine z ?_; refine zf ?_; refine z ?_; refine zt ?_; refine z ?_
 refine zc ?_
 refine yS rfl ?_
 refine zc ?_
 refine qQ (C:=(CRp F W (.blk b_out 41 rp0::.blk b_op 34 (OpS.cs ⟨15,ox0,oy0,ox1,oy1,X,Y,obx,oby,n,m,vs,bs,bd⟩)::.blk kb 3 [ii 15]::(s.L ++ (M ++ tl))) b_r 41 (fun k v=>match k with | 0=>rp0 | _=>rp0.set 5 (jcS v 0)) (fun v Q=>∃ A c,v=.tuple #[.slice A 1 c,ii 0]/\Q=[.row 23 2 A 1 c [ii X,ii Y]]))) [6,11] [0,1,2,3,4,5,6,7,8,9,10,11] [12] (by kernel_rfl) (by kernel_rfl) (CRp.start (S.gr (Gr.drew _))) ?_
 simp only [yT,j6,List.drop_succ_cons,List.drop_zero]
 refine jX rfl (jA rfl) ?_
 refine jX rfl (jA rfl) ?_
 refine jX rfl (jD q60 rfl Tryz.sizeOf55 rfl rfl) ?_
 refine qF rfl (fun τ wq hq=>jB q55 rfl rfl ((CRp.st hq).blk (i:=3) rfl) rfl) ?_
 refine jX rfl (jD q34 rfl qI rfl rfl) ?_
 refine qF rfl (fun τ wq hq=>jT q23 rfl (qI _) rfl ((CRp.st hq).blk (i:=1) rfl) rfl rfl) ?_
 refine jZ rfl rfl (fun wq hq=>sF hq (fun _=>rfl) rfl (fun S=>hway wq (S.grid (i:=4) rfl))) ?_
 rintro v6 w6 ⟨_,⟨A1,c1,rfl,_⟩,_⟩
 refine jX rfl (jA rfl) ?_
 refine jX rfl (jA rfl) ?_
 refine jX rfl (jA rfl) ?_
 refine jX rfl (jD q41 rfl sM rfl rfl) ?_
 refine jZ rfl rfl (fun wq hq=>x5 (k:=0) hq rfl rfl (sM _) rfl rfl rfl rfl rfl rfl) ?_
 rintro v12 w12 _
 refine yV ?_
 rintro wz hz
 obtain ⟨_,⟨_,_,e2,rfl⟩,S⟩:=CRp.fin (k:=1) hz rfl rfl
 cases e2
 replace S:St F W wz (.row 23 2 A1 1 c1 [ii X,ii Y]::.blk b_r 41 (rp0.set 5 (.slice A1 1 c1))::.blk b_out 41 rp0::.blk b_op 34 (OpS.cs ⟨15,ox0,oy0,ox1,oy1,X,Y,obx,oby,n,m,vs,bs,bd⟩)::.blk kb 3 [ii 15]::(s.L ++ (M ++ tl))):=S
 refine z ?_
 refine ze ?_
 have sa_ce:yH A1:=(S.row (i:=0) rfl).someA (by omega)
 refine z ?_; refine zt ?_; (iterate 5 refine z ?_); refine zr ?_; refine zx ?_
 refine j3 (yY q23 rfl (qI _) rfl (S.rd (i:=0) rfl) rfl rfl rfl) ?_
 refine z ?_
 refine jH (i:=1) S rfl (qI _) rfl rfl rfl rfl rfl rfl ?_
 intro w9_ S
 refine z ?_; refine z ?_
 refine jC rfl (fV (r:={ code:=0,ax:=X,ay:=Y,cells:=⟨A1,1,c1⟩ })) ?_
 rintro _ w10_ ⟨rfl,g10_⟩
 have S:=S.gr g10_
 refine jH (i:=2) S rfl (uK _) rfl rfl rfl rfl rfl rfl ?_
 intro w11_ S
 refine zq ?_
 exact v8 q41 rfl (uK _) rfl (S.blk (i:=2) rfl) rfl rfl ⟨(A1,c1),rfl,St.back (S.drop 4)⟩
theorem jgB (a b:Nat) (hok:s.ok) (ha:a < s.gw * s.gh) (hb:b < s.gw * s.gh) (hfl:s.V=qS s.gw s.gh v) (ho:o.k=16/\o.ax=(a % s.gw:Nat)/\o.ay=(a / s.gw:Nat)/\o.bx=(b % s.gw:Nat)/\o.by_=(b / s.gw:Nat)) :
  lN F W (s.L ++ M) s.sb o true (35) (fun q:Sv=>{ code:=0,n:=bR s.gw b a,cells:=q:RpS }) (fun _=>s.L ++ M):=by
 intro kb tl w S
 replace S:=St.forth S
 obtain ⟨ok,ox0,oy0,ox1,oy1,oax,oay,obx,oby,n,m,vs,bs,bd⟩:=o
 dsimp only at ho
 obtain ⟨rfl,rfl,rfl,rfl,rfl⟩:=ho
 replace S:St F W w (.blk kb 3 [ii 16]::(s.L ++ (M ++ tl))):=S
 have hw1:=(S.grid (i:=2) rfl).sw
 have hh1:=(S.grid (i:=2) rfl).sh
 have hway:=fun w G=>(jiO (W:=w) (gw:=s.gw) (gh:=s.gh) (cc:=s.cc) (p:=s.p) (A:=s.A) (cap:=s.cap) (bs:=s.bs) (Rs:=s.Rs) a b ha hb hok.hB G).mono (R':=fun v w'=>∃ Q,(∃ q:Sv,v=.tuple #[ii (bR s.gw b a),q.v,ii 0]/\Q=[])/\St No w w' Q) fun u w' ⟨d,hd,A,c,hv,h2,h4,g⟩=>⟨[],⟨⟨A,(zK s.gw (yA s.gw s.gh s.cc) d b a).length,c⟩,by
  rw [hv]
  dsimp only [Sv.v]
  rw [jcd (v:=v) (d:=d) hw1.1 ha hb (hfl ▸ hd)],rfl⟩,(St.start w).gr g⟩
 generalize bR s.gw b a=dist at *
 generalize ((a % s.gw:Nat):Int)=X at *
 generalize ((a / s.gw:Nat):Int)=Y at *
 generalize ((b % s.gw:Nat):Int)=X2 at *
 generalize ((b / s.gw:Nat):Int)=Y2 at *
 refine zn Tryz.func35 Tryz.results35 Tryz.ntmps35 ?_
 refine zs ?_
 refine jF (jO rfl) S ?_
 intro b_op w2_ g2_ S
 refine jF (jL zP rfl) S ?_
 intro b_out w4_ g4_ S
 refine zs ?_
 refine jF (jL zP rfl) S ?_
 intro b_r w6_ g6_ S
 first | refine jR ?_ | (refine jG ?_; show CW _ _ _ _ _ _) | refine jG ?_
 repeat refine jJ ?_
 refine jI ?_
 refine jE (jA rfl) ?_
 first | refine jR ?_ | (refine jG ?_; show CW _ _ _ _ _ _) | refine jG ?_
 repeat refine jJ ?_
 refine jI ?_
 iterate 2 refine jE (jA rfl) ?_
 refine jE (jD q60 rfl Tryz.sizeOf56 rfl rfl) ?_
 refine j3 (jB Tryz.underlying56 rfl rfl (S.blk (i:=4) rfl) rfl) ?_
 refine jC rfl (sW (S.blk (i:=6) rfl)) ?_
 rintro _ w7_ ⟨rfl,g7_⟩
 have S:=S.gr g7_
 refine z ?_; refine z ?_; refine zf ?_; refine z ?_; refine zf ?_; refine z ?_; refine zf ?_; refine z ?_; refine zf ?_; refine z ?_; refine zt ?_; refine z ?_
 refine zc ?_
 refine yS rfl ?_
 refine zc ?_
 refine qQ (C:=(CRp F W (.blk b_out 41 rp0::.blk b_op 34 (OpS.cs ⟨16,ox0,oy0,ox1,oy1,X,Y,X2,Y2,n,m,vs,bs,bd⟩)::.blk kb 3 [ii 16]::(s.L ++ (M ++ tl))) b_r 41 (fun k v=>match k with | 0=>rp0 | 1=>rp0.set 1 (jcS v 0) | _=>(rp0.set 1 (jcS v 0)).set 5 (jcS v 1)) (fun v Q=>∃ q:Sv,v=.tuple #[ii dist,q.v,ii 0]/\Q=[]))) [8,14,16] [0,1,2,3,4,5,6,7,8,9,10,11,12,13,14,15,16] [17] (by kernel_rfl) (by kernel_rfl) (CRp.start (S.gr (Gr.drew _))) ?_
 simp only [yT,j6,List.drop_succ_cons,List.drop_zero]
 refine jX rfl (jA rfl) ?_
 refine jX rfl (jA rfl) ?_
 refine jX rfl (jD q60 rfl Tryz.sizeOf55 rfl rfl) ?_
 refine qF rfl (fun τ wq hq=>jB q55 rfl rfl ((CRp.st hq).blk (i:=3) rfl) rfl) ?_
 refine jX rfl (jD q34 rfl qI rfl rfl) ?_
 refine qF rfl (fun τ wq hq=>jT q23 rfl (qI _) rfl ((CRp.st hq).blk (i:=1) rfl) rfl rfl) ?_
 refine jX rfl (jD q34 rfl qI rfl rfl) ?_
 refine qF rfl (fun τ wq hq=>jT q23 rfl (qI _) rfl ((CRp.st hq).blk (i:=1) rfl) rfl rfl) ?_
 refine jZ rfl rfl (fun wq hq=>sF hq (fun _=>rfl) rfl (fun S=>hway wq (S.grid (i:=4) rfl))) ?_
 rintro v6 w6 ⟨_,⟨⟨A1,n1,c1⟩,rfl,_⟩,_⟩
 dsimp only [Sv.v]
 refine jX rfl (jA rfl) ?_
 refine jX rfl (jA rfl) ?_
 refine jX rfl (jA rfl) ?_
 refine jX rfl (jA rfl) ?_
 refine jX rfl (jD q41 rfl qz2 rfl rfl) ?_
 refine jZ rfl rfl (fun wq hq=>x5 (k:=0) hq rfl rfl (qz2 _) rfl rfl rfl rfl rfl rfl) ?_
 rintro v12 w12 _
 refine jX rfl (jD q41 rfl sM rfl rfl) ?_
 refine jZ rfl rfl (fun wq hq=>x5 (k:=1) hq rfl rfl (sM _) rfl rfl rfl rfl rfl rfl) ?_
 rintro v14 w14 _
 refine yV ?_
 rintro wz hz
 obtain ⟨_,⟨_,_,rfl⟩,S⟩:=CRp.fin (k:=2) hz rfl rfl
 replace S:St F W wz (.blk b_r 41 ((rp0.set 1 (ii dist)).set 5 (.slice A1 n1 c1))::.blk b_out 41 rp0::.blk b_op 34 (OpS.cs ⟨16,ox0,oy0,ox1,oy1,X,Y,X2,Y2,n,m,vs,bs,bd⟩)::.blk kb 3 [ii 16]::(s.L ++ (M ++ tl))):=S
 iterate 3 refine z ?_
 refine jC rfl (fV (r:={ code:=0,n:=dist,cells:=⟨A1,n1,c1⟩ })) ?_
 rintro _ w9_ ⟨rfl,g9_⟩
 have S:=S.gr g9_
 refine jH (i:=1) S rfl (uK _) rfl rfl rfl rfl rfl rfl ?_
 intro w10_ S
 refine zq ?_
 exact v8 q41 rfl (uK _) rfl (S.blk (i:=1) rfl) rfl rfl ⟨⟨A1,n1,c1⟩,rfl,St.back (S.drop 3)⟩
end
end
section
open Go.RowKit
def HA.obj (b:Nat) (o:Obj):HA:=⟨fun g=>g=b,fun w=>w.heap[b]?=some o,fun _ _ h _ ho=>(h b rfl).trans ho,fun w ho g hg=>by subst hg; exact (Array.getElem?_eq_some_iff.1 ho).1⟩
section
variable {P : Program} {F : Nat → Prop} {W w : World} {L L' : List HA} {b i : Nat} {o o' : Obj}
theorem Fr.putObj (w:World) (b:Nat) (o:Obj):Fr (fun g=>g=b) w (w.putObj b o):=⟨rfl,rfl,rfl,by simp,fun g _ hn=>World.putObj_heap_other hn⟩
theorem St.putObj (S:St F W w L) (hi:qP L i=some (.obj b o)) (hs:zF L i (.obj b o')=some L'):St F W (w.putObj b o') L' :=
 S.set hi hs (Fr.putObj w b o') (fun g hg=>.inl hg) (World.putObj_heap_same (Array.getElem?_eq_some_iff.1 (S.ok hi)).1) (fun g hg=>.inl hg)
theorem St.pushObj (S:St F W w L) (o:Obj):St F W (w.alloc o) (.obj w.heap.size o::L) :=
 S.push (Gr.alloc w o) (h:=.obj w.heap.size o) (World.alloc_heap_new w o) (fun g hg=>by have:g=w.heap.size:=hg; omega)
end
def Yld (P:Program) (l:Nat) (vs:List Value) (w:World) (R:Value->World->Prop):Prop :=
 ∃ fn tmps sg bd,(Instr.yield l vs.toArray).run P w=.ok (.round l fn tmps sg bd) w/\RoundIn Fence.wide 0 P l fn tmps sg bd w fun en w'=>∃ v,en=.returned v/\R v w'
theorem Yld.mono {P:Program} {l:Nat} {vs:List Value} {w:World} {R R':Value->World->Prop} (h:Yld P l vs w R) (hr:∀ v w',R v w'->R' v w'):Yld P l vs w R':=by
 obtain ⟨fn,tmps,sg,bd,hy,hR⟩:=h
 exact ⟨fn,tmps,sg,bd,hy,hR.mono fun en w' ⟨v,e,h⟩=>⟨v,e,hr v w' h⟩⟩
section
variable {P : Program} {ops : Array Oper} {Q : (Nat → Value) → World → Prop} {rest : List Oper} {e : Nat → Value} {w : World} {d : Option Tmp} {ty : TypeId} {ps : String} {af : Array Edge}
theorem jbQ {l:Nat} {f:Operand} {args:List Operand} {tys:Array TypeId} {vs:List Value} {R:Value->World->Prop} (hf:ev e f=.func (.yield l) #[] #[]) (hv:fzl (args.map (ev e))=some vs)
  (hy:Yld P l vs w R) (h:∀ v w',R v w'->RW P ops Q rest (yU e d v) w'):RW P ops Q (⟨d,.call ⟨.value f,args.toArray,tys⟩,ty,ps,af,none⟩::rest) e w:=by
 have h0:=vG hv
 obtain ⟨fn,tmps,sg,bd,hrun,hR⟩:=hy
 have hx:(execOp (ev e) ⟨d,.call ⟨.value f,args.toArray,tys⟩,ty,ps,af,none⟩).run P w=.ok (.round l fn tmps sg bd) w:=by
  simp [execOp,resolve,hf,Deferred.ofValue,invoke,h0,hrun]
 rw [lM rfl]
 unfold xQ
 rw [hx]
 exact ⟨rfl,hR.mono fun en w' ⟨v,he,hv⟩=>⟨v,he,h v w' hv⟩⟩
end
def jfo (D:Nat):Deferred:={ target:=.collected D,args:=#[] }
def CWK (P:Program) (N:Nat) (c:Code) (Qn:Exit->(Nat->Value)->World->Prop) (Qm:Nat->Exit->(Nat->Value)->World->Prop) (e:Nat->Value) (w:World):Prop :=
 q8 N c=true->∀ a,Rep N [] e a->c.wpIn (wF none) 0 P (fun x a' w'=>(∃ e',Rep N [] e' a'/\Qn x e' w')\/∃ e' D,Rep N [jfo D] e' a'/\Qm D x e' w') a w
def NoN (Q:Exit->(Nat->Value)->World->Prop):Exit->(Nat->Value)->World->Prop
 | .normal,_,_=>False
 | x,e,w=>Q x e w
def RF (P:Program) (N:Nat) (g:Operand) (ps:Array Tmp) (sg bd:Code) (K:Nat->(Nat->Value)->World->Prop) (e:Nat->Value) (w:World):Prop :=
 ∀ a,Rep N [] e a->(Code.rangeFunc g ps sg bd).wpIn (wF none) 0 P (fun x a' w'=>x=.normal/\∃ D,Rep N [jfo D] e a'/\K D e w') a w
section
variable {P : Program} {N : Nat} {Qn : Exit → (Nat → Value) → World → Prop} {Qm : Nat → Exit → (Nat → Value) → World → Prop} {e : Nat → Value} {w : World}
theorem xY {x y:Code} (h:CW P N x (rA (CWK P N y Qn Qm) Qn) e w):CWK P N (.seq x y) Qn Qm e w:=fun hc a hr=>by
 simp only [q8,Bool.and_eq_true] at hc
 refine wpIn_seq (wpIn_mono (h hc.1 [] a hr none) ?_)
 rintro x' a' w' ⟨e',hr',hq⟩
 cases x' <;> first | exact hq hc.2 a' hr' | exact .inl ⟨e',hr',hq⟩
theorem jaz {x y:Code} (h:CWK P N x (NoN Qn) (fun D=>rA (CW P N y (Qm D)) (Qm D)) e w):CWK P N (.seq x y) Qn Qm e w:=fun hc a hr=>by
 simp only [q8,Bool.and_eq_true] at hc
 refine wpIn_seq (wpIn_mono (h hc.1 a hr) ?_)
 rintro x' a' w' (⟨e',hr',hq⟩ | ⟨e',D,hr',hq⟩)
 ·cases x' <;> first | exact hq.elim | exact .inl ⟨e',hr',hq⟩
 ·cases x' <;> first | exact .inr ⟨e',D,hr',hq⟩ | skip
  refine wpIn_mono (hq hc.2 [jfo D] a' hr' none) ?_
  rintro x2 a2 w2 ⟨e2,hr2,hq2⟩
  exact .inr ⟨e2,D,hr2,hq2⟩
theorem jaA {id:Nat} {g:Operand} {ps:Array Tmp} {sg bd:Code} (h:RF P N g ps sg bd (fun D e w=>Qm D .normal e w) e w):CWK P N (.block id (.rangeFunc g ps sg bd)) Qn Qm e w:=fun _ a hr=>by
 refine wpIn_block (wpIn_mono (h a hr) ?_)
 rintro x a' w' ⟨rfl,D,hr',hq⟩
 exact .inr ⟨e,D,hr',hq⟩
end
def QM (P:Program) (rs:Array ResultVar) (R:Value->World->Prop) (D:Nat):Exit->(Nat->Value)->World->Prop
 | .normal,e,w | .ret,e,w=>w.heap[D]?=some (.deferred (some []))/\Res P R rs e (w.putObj D (.deferred none))
 | _,_,_=>False
theorem jgO {P:Program} {rs:Array ResultVar} {R:Value->World->Prop} {e:Nat->Value} {w:World} (h:QF P rs R .ret e w):Res P R rs e w:=h
theorem jgN {P:Program} {rs:Array ResultVar} {R:Value->World->Prop} {D i:Nat} {e:Nat->Value} {F:Nat->Prop} {W w:World} {L L':List HA} (S:St F W w L) (hi:qP L i=some (.obj D (.deferred (some [])))) (hs:zF L i (.obj D (.deferred none))=some L') (h:∀ w',St F W w' L'->Res P R rs e w'):QM P rs R D .ret e w :=
 ⟨S.ok hi,h _ (S.putObj hi hs)⟩
theorem rO {P:Program} {f:FuncId} {fn:Func} {c:Code} {args:List Value} {w:World} {R:Value->World->Prop} {rs:Array ResultVar} {N:Nat}
  (hf:P.funcs[f]?=some fn) (hb:fn.body=some c) (hr:fn.results=rs) (hN:fn.ntmps=N) (hcl:uP P f=true) (hk:(q8 N c && Nat.ble args.length N)=true)
  (h:CWK P N c (QF P rs R) (QM P rs R) (xN args) w):Fn P f args w R:=by
 simp only [Bool.and_eq_true] at hk
 have hle:args.length<=N:=Nat.le_of_ble_eq_true hk.2
 refine ⟨hcl,callsIn_wide.1 (callsIn_of_wp_marks (F:=Fence.wide) (n:=0) hf hb trivial ?_)⟩
 refine wpIn_mono (h hk.1 _ ⟨rfl,by simp [hN]; omega,fun k=>?_⟩) ?_
 ·simp only [xN,List.getD_eq_getElem?_getD,Array.getD_eq_getD_getElem?,Array.getElem?_append,List.size_toArray,List.getElem?_toArray,hN]
  split
  ·rfl
  ·rename_i hge
   rw [List.getElem?_eq_none (by omega)]
   simp only [Array.getElem?_replicate]
   split <;> rfl
 ·rintro x a' w' (⟨e',hr',hq⟩ | ⟨e',D,hr',hq⟩)
  ·cases x <;> first | exact hq.elim | skip
   all_goals
    obtain ⟨v,hv,hR⟩:=hq
    show LeavesInM _ _ _ _ _ _ _ _ _
    rw [hr'.defers]
    exact ⟨v,hv fn _ hr hr'.get,v,rfl,hR⟩
  ·cases x <;> first | exact hq.elim | skip
   all_goals
    obtain ⟨hD,v,hv,hR⟩:=hq
    show LeavesInM _ _ _ _ _ _ _ _ _
    rw [hr'.defers]
    exact ⟨by simp,.inl ⟨D,_,rfl,run_takeDeferred hD,v,hv fn _ hr hr'.get,v,rfl,hR⟩⟩
def jin (e:Nat->Value):List (Nat × Value)->Nat->Value
 | []=>e
 | (p,v)::r=>jin (upd e p v) r
theorem Rep.updL {N:Nat} {df:List Deferred}:∀ (l:List (Nat × Value)) {e:Nat->Value} {a:Act},Rep N df e a->(l.all fun p=>Nat.blt p.1 N)=true->Rep N df (jin e l) { a with tmps:=l.foldl (fun t (p,v)=>t.setIfInBounds p v) a.tmps }
 | [],_,_,h,_=>h
 | (p,v)::r,e,a,h,hd=>by
  simp only [List.all_cons,Bool.and_eq_true] at hd
  exact Rep.updL r (h.put (d:=some p) hd.1 v) hd.2
section
variable {P : Program} {N : Nat} {g : Operand} {ps : Array Tmp} {sg bd : Code} {K : Nat → (Nat → Value) → World → Prop} {e : Nat → Value} {w W : World} {F : Nat → Prop}
theorem jgF {σ:Type} {gf:FuncId} {lb:List Value} (Inv:σ->List HA->Prop) (step:σ->List Value->σ->Prop) (fin:σ->Prop) (s0:σ) {L0:List HA} (hg:ev e g=.func (.func gf) #[] lb.toArray) (hcl:uP P gf=true) (hkc:(q8 N sg && q8 N bd && ps.toList.all (fun p=>Nat.blt p N))=true)
  (Mid:σ->σ->(Nat->Value)->List HA->Prop) (h0:Inv s0 L0) (S:St F W w L0) (hlen:∀ s vs s',step s vs s'->vs.length=ps.size)
  (hit:∀ (l:Nat) (J:σ->World->Prop) (w1:World),(∀ s w w',J s w->Gr w w'->J s w')->(∀ s w,J s w->∃ L,Inv s L/\∃ o d:HA,St F W w (o::d::L))->J s0 w1->(∀ s vs s' w,step s vs s'->J s w->Yld P l vs w fun v w'=>v=.bool true/\J s' w') ->
   Fn P gf (.func (.yield l) #[] #[]::lb) w1 fun _ w'=>∃ s,fin s/\J s w')
  (hsg:∀ (o d:HA) (s:σ) (vs:List Value) (s':σ) (w:World) (L:List HA),step s vs s'->Inv s L->St F W w (o::d::L)->CW P N sg (rA (fun e' w'=>∃ L',Mid s s' e' L'/\St F W w' (o::d::L')) fun _ _ _=>False) (jin e (ps.toList.zip vs)) w)
  (hbd:∀ (o d:HA) (s s':σ) (e':Nat->Value) (w:World) (L:List HA),Mid s s' e' L->St F W w (o::d::L)->CW P N bd (rA (fun _ w'=>∃ L',Inv s' L'/\St F W w' (o::d::L')) fun _ _ _=>False) e' w)
  (hK:∀ (l D:Nat) (o:Obj) (s:σ) (w':World) (L:List HA),fin s->Inv s L->St F W w' (.obj l o::.obj D (.deferred (some []))::L)->K D e w'):RF P N g ps sg bd K e w:=by
 intro a hr
 simp only [Bool.and_eq_true] at hkc
 refine wpIn_rangeFunc fun fn _=>?_
 have S1:=S.pushObj (.deferred (some []))
 have S2:=S1.pushObj (.loop { state:=.ready,pending:=none,fn,tmps:=a.tmps,params:=ps,assign:=sg,body:=bd,defers:=w.heap.size })
 rw [World.size_alloc] at S2
 generalize hW1:(w.alloc (.deferred (some []))).alloc (.loop { state:=.ready,pending:=none,fn,tmps:=a.tmps,params:=ps,assign:=sg,body:=bd,defers:=w.heap.size })=W1 at S2
 have hent:=run_enterLoop_outer (P:=P) (w:=w) fn a.tmps ps sg bd
 rw [hW1] at hent
 generalize w.heap.size+1=l at *
 generalize w.heap.size=D at *
 have eg:∀ args w,(callFunc gf args).run P w=.ok (.enter gf args) w:=fun args w=>y5 hcl args w
 let rec_:LoopState->Obj:=fun st=>.loop { state:=st,pending:=none,fn,tmps:=a.tmps,params:=ps,assign:=sg,body:=bd,defers:=D }
 let J:σ->World->Prop:=fun s w'=>∃ L,Inv s L/\St F W w' (.obj l (rec_ .ready)::.obj D (.deferred (some []))::L)
 have hJy:∀ s vs s' w,step s vs s'->J s w->Yld P l vs w fun v w'=>v=.bool true/\J s' w':=by
  rintro s vs s' w2 hst ⟨L,hI,T⟩
  have hl:=T.ok (i:=0) rfl
  have hy:=run_yield (P:=P) (args:=vs.toArray) hl (by simpa using hlen s vs s' hst)
  refine ⟨fn,_,sg,bd,hy,roundIn_of_wpIn (F:=Fence.wide) trivial ?_⟩
  have hrep:Rep N [] (jin e (ps.toList.zip vs)) { tmps:=(ps.zip vs.toArray).foldl (fun t (p,v)=>t.setIfInBounds p v) a.tmps,defers:=[] }:=by
   have h1:=Rep.updL (ps.toList.zip vs) (a:={ tmps:=a.tmps,defers:=[] }) ⟨rfl,hr.size,hr.get⟩ (List.all_eq_true.2 fun p hp=>List.all_eq_true.1 hkc.2 p.1 (List.of_mem_zip hp).1)
   have h2:(ps.zip vs.toArray).foldl (fun t (p,v)=>t.setIfInBounds p v) a.tmps=(ps.toList.zip vs).foldl (fun t (p,v)=>t.setIfInBounds p v) a.tmps:=by
    rw [<-Array.foldl_toList]; simp
   rw [h2]
   exact h1
  refine wpIn_mono (hsg _ _ s vs s' w2 L hst hI T hkc.1.1 [] _ hrep (some l)) ?_
  rintro x a1 w3 ⟨e1,hr1,hq⟩
  cases x <;> first | exact hq.elim | skip
  obtain ⟨L1,hM,T1⟩:=hq
  have hl1:=T1.ok (i:=0) rfl
  refine ⟨_,run_beginRound hl1 rfl,?_⟩
  have T2:St F W (w3.putObj l (rec_ .busy)) (.obj l (rec_ .busy)::.obj D (.deferred (some []))::L1):=T1.putObj (i:=0) rfl rfl
  refine wpIn_mono (hbd _ _ s s' e1 _ L1 hM T2 hkc.1.2 [] a1 hr1 (some l)) ?_
  rintro x a2 w4 ⟨e2,hr2,hq⟩
  cases x <;> first | exact hq.elim | skip
  obtain ⟨L2,hI2,T3⟩:=hq
  have hl3:=T3.ok (i:=0) rfl
  exact ⟨_,_,run_endRound none hl3,_,rfl,rfl,L2,hI2,T3.putObj (i:=0) rfl rfl⟩
 have hfn:=hit l J W1 (fun s w w' ⟨L,hI,T⟩ g=>⟨L,hI,T.gr g⟩) (fun s w ⟨L,hI,T⟩=>⟨L,hI,_,_,T⟩) ⟨L0,h0,S2⟩ hJy
 refine ⟨l,[jfo D],W1,{ target:=.fn (.func gf) lb.toArray,args:=#[.func (.yield l) #[] #[]] },W1,gf,#[.func (.yield l) #[] #[]] ++ lb.toArray,W1,hent,?_,fun _ _=>trivial,?_,fun h=>(by cases h),?_⟩
 ·have h1:ev e (.const (.func (.yield l) #[] #[]))=.func (.yield l) #[] #[]:=rfl
  simp [resolve,hr.eval,hg,h1,Deferred.ofValue]
 ·simp [invoke,go_sem,eg]
 ·refine (callsIn_wide (n:=0)).2 ?_
  have h2:=hfn.2
  rw [show (Value.func (.yield l) #[] #[]::lb).toArray=#[.func (.yield l) #[] #[]] ++ lb.toArray by simp] at h2
  refine h2.mono ?_
  rintro en w' ⟨v,rfl,s,hf,L,hI,T⟩
  have hl:=T.ok (i:=0) rfl
  refine ⟨none,_,run_endLoop hl (by simp),rfl,D,⟨?_,hr.size,hr.get⟩,hK l D _ s _ L hf hI (T.putObj (i:=0) rfl rfl)⟩
  show [jfo D] ++ a.defers=[jfo D]
  rw [hr.defers]; rfl
end
end
section
open Go.RowKit
theorem jbT {P:Program} {N:Nat} {g:Operand} {ps:Array Tmp} {sg bd:Code} {K:Nat->(Nat->Value)->World->Prop} {e:Nat->Value} {w:World} (M:(Nat->Value)->Prop) (hM:M e) (h:∀ e,M e->RF P N g ps sg bd K e w):RF P N g ps sg bd K e w:=h e hM
def rB (z:Nat) (x:Int):Nat:=if 0 < z then 1+gP (z - 1) else gP (zV x)
theorem gQ {x:Int} (h:-4294967296<=x/\x<=4294967296):zV x < 8589934593:=by
 unfold zV
 split <;> omega
structure m8 (V:List Int) (i z:Nat) (x:Int) (j:Nat):Prop where
 lt:i < j
 le:j<=V.length
 zl:z<=V.length
 xr:-4294967296<=x/\x<=4294967296
 eq:tN 0 (V.drop i)=rB z x+tN 0 (V.drop j)
def vR (V:List Int):Prop:=∀ x ∈ V,-4294967296<=x/\x<=4294967296
theorem vR.at {V:List Int} (h:vR V) (i:Nat):-4294967296<=V.getD i 0/\V.getD i 0<=4294967296:=by
 rw [List.getD_eq_getElem?_getD]
 rcases Nat.lt_or_ge i V.length with hi | hi
 ·rw [List.getElem?_eq_getElem hi]
  exact h _ (List.getElem_mem hi)
 ·rw [List.getElem?_eq_none hi]
  exact ⟨by decide,by decide⟩
section
variable {W : World} {A : Option Addr} {c n : Nat} {V : List Int}
theorem jbS:Fn Tryz.prog 256 [.slice A n c] W
  (fun v w'=>∃ b,v=.func (.func 268) (([]:List Value).toArray) [pt b].toArray/\Blk w' b 30 [.slice A n c]/\W.heap.size<=b/\Gr W w'):=by
 have S:=St.start W
 refine zn Tryz.func256 Tryz.results256 Tryz.ntmps256 ?_
 refine zs ?_
 refine jF (jO rfl) S ?_
 intro b_bx w2_ g2_ S
 iterate 3 refine z ?_
 refine zq ?_
 exact yD rfl ⟨b_bx,rfl,S.blk (i:=0) rfl,(S.sep.1.2 _ rfl).resolve_left (fun h=>h),S.out⟩
theorem lW {l b:Nat} (J:Nat->World->Prop) (hn:V.length<=16384) (hV:vR V) (hgr:∀ k w w',J k w->Gr w w'->J k w') (hf:∀ k w,J k w->Blk w b 30 [.slice A V.length c]/\Rd w A (yC V))
  (hy:∀ i z x j w,m8 V i z x j->J i w->Yld Tryz.prog l [.agg #[ii (z:Nat),ii x]] w (fun v w'=>v=.bool true/\J j w')) (h0:J 0 W) :
  Fn Tryz.prog 268 ([.func (.yield l) #[] #[]] ++ [pt b]) W (fun _ w'=>J V.length w'):=by
 have hget:∀ j,j < V.length->(yC V)[(j:Int).toNat * 1]?=some (ii (V.getD j 0)):=fun j hj=>by rw [Nat.mul_one,Int.toNat_natCast]; exact qO (vX hj)
 have hB0:=(hf 0 W h0).1
 have S:=St.start W
 refine zn Tryz.func268 Tryz.results268 Tryz.ntmps268 ?_
 refine z ?_
 refine zc ?_
 refine jS ?_
 refine zc ?_
 refine j9 (fun m e w=>∃ i:Nat,i+m=V.length/\SL e [(0,.func (.yield l) #[] #[]),(1,pt b),(3,ii i)]/\J i w) V.length ⟨0,by omega,⟨rfl,rfl,rfl,trivial⟩,hgr _ _ _ h0 S.out⟩ ?_
 clear S hB0
 rintro m e w ⟨i,hi,hsl,hJ⟩
 rw [hsl.fold]
 obtain ⟨hB,hA⟩:=hf i w hJ
 have G:=Gr.refl w
 have S:=St.start w
 by_cases hin:i < V.length
 ·have sa_A:yH A:=hA.someA (by rw [qY]; omega)
  refine z ?_
  refine j3 (jB q30 rfl rfl (hB.gr S.out) rfl) ?_
  refine z ?_; refine zt ?_
  refine zc ?_
  refine yS rfl ?_
  refine zc ?_
  refine j5 ?_
  try show CW _ _ _ _ _ _
  refine zc ?_
  refine jS ?_
  refine zc ?_
  refine qL (M:=fun e w'=>SL e [(0,.func (.yield l) #[] #[]),(1,pt b),(3,ii i),(4,ii i)]/\St No w w' []) ?_ ?_
  ·skip
   refine z ?_; refine z ?_
   refine ze ?_
   exact ⟨⟨rfl,rfl,rfl,rfl,trivial⟩,S⟩
  ·rintro e1 w1 ⟨hsl1,S⟩
   rw [hsl1.fold]
   show CW _ _ _ _ _ _
   refine zc ?_
   refine qL (M:=fun e w'=>∃ j:Nat,SL e [(0,.func (.yield l) #[] #[]),(1,pt b),(3,ii j),(4,ii i)]/\i<=j/\j<=V.length/\tN 0 (V.drop i)=tN (j - i) (V.drop j)/\(j < V.length->V.getD j 0 ≠ 0)/\St No w w' []) ?_ ?_
   ·skip
    refine zc ?_
    refine jS ?_
    refine zc ?_
    refine j9 (fun m e w'=>∃ j:Nat,j+m=V.length/\SL e [(0,.func (.yield l) #[] #[]),(1,pt b),(3,ii j),(4,ii i)]/\i<=j/\tN 0 (V.drop i)=tN (j - i) (V.drop j)/\St No w w' []) (V.length - i)
     ⟨i,by omega,⟨rfl,rfl,rfl,rfl,trivial⟩,Nat.le_refl _,by rw [Nat.sub_self],S⟩ ?_
    clear S
    rintro m2 e2 w2 ⟨j,hj,hsl2,hij,htN,S⟩
    rw [hsl2.fold]
    by_cases hjn:j < V.length
    ·have g1:=hget j hjn
     have hz:=fun h0=>jis (l:=V) hjn h0 (j - i)
     by_cases hz0:V.getD j 0=0
     ·rw [hz0] at g1
      refine z ?_
      refine j3 (jB q30 rfl rfl (hB.gr S.out) rfl) ?_
      refine z ?_; refine zt ?_; refine z ?_
      first | refine jK rfl ?_ | (refine jQ rfl ?_; refine j3 (jB q30 rfl rfl (hB.gr S.out) rfl) ?_)
      refine z ?_; refine zx ?_
      first | refine jK rfl ?_ | (refine jQ rfl ?_; refine j3 (j7 q2 rfl rfl (hA.gr S.out) g1) ?_)
      refine zt ?_; refine z ?_; refine z ?_; refine zr ?_; refine z ?_
      refine ze ?_
      exact ⟨m2 - 1,by omega,j+1,by omega,⟨rfl,rfl,rfl,rfl,trivial⟩,by omega,by rw [htN,hz hz0]; congr 1; omega,S⟩
     ·have hz1:=hz0
      generalize hvj:V.getD j 0=vj at *
      refine z ?_
      refine j3 (jB q30 rfl rfl (hB.gr S.out) rfl) ?_
      refine z ?_; refine zt ?_; refine z ?_
      first | refine jK rfl ?_ | (refine jQ rfl ?_; refine j3 (jB q30 rfl rfl (hB.gr S.out) rfl) ?_)
      refine z ?_; refine zx ?_
      first | refine jK rfl ?_ | (refine jQ rfl ?_; refine j3 (j7 q2 rfl rfl (hA.gr S.out) g1) ?_)
      refine zf ?_; refine z ?_
      refine zc ?_
      refine jM rfl ?_
      refine zc ?_
      refine jY ?_
      repeat first | refine jP ?_ | refine jU ?_
      exact ⟨j,⟨rfl,rfl,rfl,rfl,trivial⟩,hij,by omega,htN,fun _=>by rw [hvj]; exact hz1,S⟩
    ·skip
     refine z ?_
     refine j3 (jB q30 rfl rfl (hB.gr S.out) rfl) ?_
     refine z ?_; refine zf ?_; refine z ?_
     first | refine jK rfl ?_ | (refine jQ rfl ?_; refine j3 (jB q30 rfl rfl (hB.gr S.out) rfl) ?_)
     refine z ?_
     first | refine jK rfl ?_ | (refine jQ rfl ?_; refine jE (zQ q30 qz2 rfl rfl (by omega) (by omega)) ?_)
     first | refine jK rfl ?_ | (refine jQ rfl ?_; fail)
     refine zw4 ⟨?_⟩
     refine z ?_
     refine zc ?_
     refine jM rfl ?_
     refine zc ?_
     refine jY ?_
     repeat first | refine jP ?_ | refine jU ?_
     exact ⟨j,⟨rfl,rfl,rfl,rfl,trivial⟩,hij,by omega,htN,fun h=>absurd h hjn,S⟩
   ·rintro e2 w2 ⟨j,hsl2,hij,hjn,htN,hne,S⟩
    rw [hsl2.fold]
    show CW _ _ _ _ _ _
    have hrun:tN (j - i) (V.drop j)=noB (j - i)+tN 0 (V.drop j):=jj0 fun x r hx=>by
     have hlt:j < V.length:=by
      rcases Nat.lt_or_ge j V.length with h | h
      ·exact h
      ·rw [List.drop_eq_nil_of_le h] at hx; cases hx
     rw [List.drop_eq_getElem_cons hlt] at hx
     injection hx with h1 h2
     have:=hne hlt
     rw [List.getD_eq_getElem?_getD,List.getElem?_eq_getElem hlt] at this
     rw [<-h1]
     exact this
    by_cases he:j=i
    ·subst he
     have hlt:=hin
     have g1:=hget j hlt
     have hx:=hV.at j
     have h1:=jit hlt (hne hlt)
     have hst:m8 V j 0 (V.getD j 0) (j+1):=⟨by omega,by omega,by omega,hx,by rw [h1]; rfl⟩
     have hyk:=fun w=>hy j 0 (V.getD j 0) (j+1) w hst
     generalize V.getD j 0=vj at *
     have e0:(j:Int) - j=((0:Nat):Int):=by omega
     refine z ?_; refine z ?_; refine zr ?_
     rw [e0]
     refine jE (jN (pl:=[(0,1),(1,1)]) Tryz.underlying417 jac (fun w=>by kernel_rfl) rfl rfl) ?_
     refine jF (jL jac rfl) S ?_
     intro b_r w2_ g2_ S
     refine jH (i:=0) S rfl (Tryz.sizeOf417 _) rfl rfl rfl rfl rfl rfl ?_
     intro w3_ S
     refine z ?_; refine z ?_; refine zt ?_
     refine zs ?_
     refine j3 (jB q30 rfl rfl (hB.gr S.out) rfl) ?_
     refine z ?_; refine zx ?_
     refine j3 (j7 q2 rfl rfl (hA.gr S.out) g1) ?_
     refine z ?_
     refine j8 (i:=0) S rfl (qz2 _) rfl rfl rfl rfl rfl rfl ?_
     intro w4_ S
     refine z ?_; refine zr ?_; iterate 3 refine z ?_
     refine jbQ rfl rfl (hyk _ (hgr _ _ _ hJ S.out)) ?_
     rintro _ w5 ⟨rfl,hJ2⟩
     refine z ?_
     refine zc ?_
     refine jM rfl ?_
     refine zc ?_
     refine j5 ?_
     try show CW _ _ _ _ _ _
     exact ⟨m - 1,by omega,j+1,by omega,⟨rfl,rfl,rfl,trivial⟩,hJ2⟩
    ·have e0:(j:Int) - i=((j - i:Nat):Int):=by omega
     have hnr:noB (j - i)=rB (j - i) 0:=by
      unfold noB rB
      rw [if_neg (show ¬ j - i=0 by omega),if_pos (show 0 < j - i by omega)]
     have hst:m8 V i (j - i) 0 j:=⟨by omega,hjn,by omega,by omega,by rw [htN,hrun,hnr]⟩
     have hyk:=fun w=>hy i (j - i) 0 j w hst
     generalize hz:j - i=z at *
     repeat refine jJ ?_
     refine jI ?_
     iterate 2 refine jE (jA rfl) ?_
     refine jE (yI rfl (by omega)) ?_
     rw [e0]
     refine jE (jN (pl:=[(0,1),(1,1)]) Tryz.underlying417 jac (fun w=>by kernel_rfl) rfl rfl) ?_
     refine jF (jL jac rfl) S ?_
     intro b_r w6_ g6_ S
     refine jH (i:=0) S rfl (Tryz.sizeOf417 _) rfl rfl rfl rfl rfl rfl ?_
     intro w7_ S
     first | refine jR ?_ | (refine jG ?_; show CW _ _ _ _ _ _) | refine jG ?_
     repeat refine jJ ?_
     refine jI ?_
     iterate 2 refine jE (jA rfl) ?_
     refine jE (yP (b:=false) rfl (beq_eq_false_iff_ne.2 (by omega))) ?_
     first | refine jR ?_ | (refine jG ?_; show CW _ _ _ _ _ _) | refine jG ?_
     repeat refine jJ ?_
     refine jM rfl ?_
     repeat refine jJ ?_
     refine j5 ?_
     try show CW _ _ _ _ _ _
     repeat refine jJ ?_
     refine jI ?_
     refine jE (jA rfl) ?_
     refine j3 (jT Tryz.underlying417 rfl (Tryz.sizeOf417 _) rfl (S.blk (i:=0) rfl) rfl rfl) ?_
     refine jbQ rfl rfl (hyk _ (hgr _ _ _ hJ S.out)) ?_
     rintro _ w5 ⟨rfl,hJ2⟩
     refine jE (jA rfl) ?_
     first | refine jR ?_ | (refine jG ?_; show CW _ _ _ _ _ _) | refine jG ?_
     repeat refine jJ ?_
     refine jM rfl ?_
     repeat refine jJ ?_
     refine j5 ?_
     try show CW _ _ _ _ _ _
     exact ⟨V.length - j,by omega,j,by omega,⟨rfl,rfl,rfl,trivial⟩,hJ2⟩
 ·obtain rfl:i=V.length:=by omega
  refine z ?_
  refine j3 (jB q30 rfl rfl (hB.gr S.out) rfl) ?_
  refine z ?_; refine zf ?_
  refine zc ?_
  refine jM rfl ?_
  refine zc ?_
  refine jY ?_
  repeat first | refine jP ?_ | refine jU ?_
  exact zN (hgr _ _ _ hJ S.out)
theorem p6 (z:Nat) (x:Int) (hz:z<=16384) (hx:-4294967296<=x/\x<=4294967296):Fn Tryz.prog (257) [.agg #[ii z,ii x]] W (jbx id (rB z x) W):=by
 have hf:=gQ hx
 unfold rB
 have S:=St.start W
 refine zn Tryz.func257 Tryz.results257 Tryz.ntmps257 ?_
 by_cases h0:0 < z
 ·have e1:(z:Int) - 1=((z - 1:Nat):Int):=by omega
  rw [if_pos h0]
  refine zs ?_
  refine jF (jO rfl) S ?_
  intro b_r w2_ g2_ S
  refine jE (jA rfl) ?_
  first | refine jR ?_ | (refine jG ?_; show CW _ _ _ _ _ _) | refine jG ?_
  repeat refine jJ ?_
  refine jI ?_
  refine jE (jD Tryz.underlying417 rfl qz3 rfl rfl) ?_
  refine j3 (jB q3 rfl rfl (S.blk (i:=0) rfl) rfl) ?_
  refine jE (yP (b:=true) rfl (decide_eq_true (by omega))) ?_
  first | refine jR ?_ | (refine jG ?_; show CW _ _ _ _ _ _) | refine jG ?_
  repeat refine jJ ?_
  refine yS rfl ?_
  repeat refine jJ ?_
  refine jI ?_
  refine yF q31 qz5 qv5 rfl rfl rfl rfl rfl rfl S ?_
  intro A_b w4_ g4_ S sa_b
  refine jE (jD Tryz.underlying417 rfl qz3 rfl rfl) ?_
  refine j3 (jB q3 rfl rfl (S.blk (i:=1) rfl) rfl) ?_
  refine jE (yI rfl (by omega)) ?_
  rw [e1]
  refine jE (yR (ks:=.i64) (n:=(z - 1:Nat)) (kd:=.u64) (m:=(z - 1:Nat)) q3 fP rfl (sE _ (by omega))) ?_
  refine jC rfl (jcr (W:=w4_) (l:=[0]) (c:=1) (z - 1) (by omega) (by simp) (.inr ⟨by simp,S.rd (i:=0) rfl⟩)) ?_
  rintro _ w5_ ⟨l2,hl2,A2,c2,rfl,hR2,hf2,g5_⟩
  have S:=S.pushRow hR2 hf2 g5_
  refine jE (jA rfl) ?_
  first | refine jR ?_ | (refine jG ?_; show CW _ _ _ _ _ _) | refine jG ?_
  repeat refine jJ ?_
  refine kO ?_
  repeat first | refine uT ?_ | refine xE ?_
  exact yD rfl ⟨l2,hl2,S.retNew (i:=0) rfl⟩
 ·obtain rfl:z=0:=by omega
  rw [if_neg h0]
  refine zs ?_
  refine jF (jO rfl) S ?_
  intro b_r w7_ g7_ S
  (iterate 3 refine z ?_); refine zf ?_; refine z ?_; refine z ?_
  refine jC rfl (jfp x hx) ?_
  rintro _ w8_ ⟨rfl,g8_⟩
  have S:=S.gr g8_
  refine jC rfl (jcr (W:=w8_) (A:=none) (c:=0) (l:=[]) (zV x) (by omega) (by simp) (.inl ⟨rfl,rfl,rfl⟩)) ?_
  rintro _ w9_ ⟨l2,hl2,A2,c2,rfl,hR2,hf2,g9_⟩
  have S:=S.pushRow hR2 hf2 g9_
  refine z ?_
  refine zq ?_
  rw [List.length_nil,Nat.zero_add] at hl2
  rw [List.length_nil,Nat.zero_add] at S
  exact yD (v:=.slice A2 (gP (zV x)) c2) (by show some (Value.slice A2 (0+gP (zV x)) c2)=_; rw [Nat.zero_add]) ⟨l2,hl2,S.retNew (i:=0) (mk:=id) rfl⟩
theorem jeT (hn:V.length<=16384) (hV:vR V) (hA:Rd W A (yC V)):Fn Tryz.prog 233 [.slice A V.length c] W (yK (ii (tN 0 V)) W):=by
 have hle:=jbI (B:=5) V 0 (fun x hx=>by have:=gQ (hV x hx); exact zT 4 _ (by omega)) (by omega) (by omega)
 rw [if_pos rfl] at hle
 have hby:=fun W z x hz hx=>p6 (W:=W) z x hz hx
 have S:=St.start W
 refine rO Tryz.func233 rfl Tryz.results233 Tryz.ntmps233 (by kernel_rfl) (by kernel_rfl) ?_
 try show CWK _ _ _ _ _ _ _
 refine xY ?_
 refine z ?_
 refine ze ?_
 try show CWK _ _ _ _ _ _ _
 refine xY ?_
 refine zs ?_
 refine jF (jL qv3 rfl) S ?_
 intro b_cn w2_ g2_ S
 refine j8 (i:=0) S rfl (qz3 _) rfl rfl rfl rfl rfl rfl ?_
 intro w3_ S
 refine ze ?_
 try show CWK _ _ _ _ _ _ _
 refine jaz ?_
 try show CWK _ _ _ _ _ _ _
 refine xY ?_
 refine z ?_
 refine jC rfl (jbS) ?_
 rintro _ w4_ ⟨b_bx,rfl,hBx,hFx,g4_⟩
 have S:=S.push g4_ (h:=.blk b_bx _ _) hBx (fun g hg=>by have:g=b_bx:=hg; omega)
 refine ze ?_
 try show CWK _ _ _ _ _ _ _
 have S:=S.sub (.cons_cons _ (.cons_cons _ (.slnil)))
 refine jaA ?_
 refine jbT (fun e=>SL e [(3,pt b_cn),(6,.func (.func 268) (([]:List Value).toArray) [pt b_bx].toArray)]) ⟨rfl,rfl,trivial⟩ ?_
 intro e hsl
 rw [hsl.fold]
 refine jgF (gf:=268) (lb:=[pt b_bx])
  (fun (i:Nat) L=>∃ acc:Nat,acc+tN 0 (V.drop i)=tN 0 V/\L=[.blk b_bx 30 [.slice A V.length c],.blk b_cn 3 [ii acc]])
  (fun i vs j=>∃ (z:Nat) (x:Int),m8 V i z x j/\vs=[.agg #[ii (z:Nat),ii x]]) (fun i=>i=V.length) 0 rfl (by kernel_rfl) (by kernel_rfl)
  (fun i j e L=>∃ (z:Nat) (x:Int) (acc b_r:Nat),m8 V i z x j/\acc+tN 0 (V.drop i)=tN 0 V/\SL e [(3,pt b_cn),(4,pt b_r)]/\L=[.blk b_r 417 [ii z,ii x],.blk b_bx 30 [.slice A V.length c],.blk b_cn 3 [ii acc]])
  ⟨0,by rw [List.drop_zero]; omega,rfl⟩ S (by rintro k vs k' ⟨_,_,_,rfl⟩; rfl) ?_ ?_ ?_ ?_
 ·intro l J w1 hgr hJ h0 hy
  refine (lW (c:=c) (A:=A) (V:=V) (W:=w1) (b:=b_bx) (l:=l) J hn hV hgr (fun k w hJk=>?_) (fun i z x j w hst hJk=>hy i _ j w ⟨z,x,hst,rfl⟩ hJk) h0).mono (fun _ w' h=>⟨_,rfl,h⟩)
  obtain ⟨L,⟨acc,_,rfl⟩,o1,d1,S1⟩:=hJ k w hJk
  exact ⟨S1.blk (i:=2) rfl,hA.gr S1.out⟩
 ·rintro ob db i vs j w2 L ⟨z,x,hst,rfl⟩ ⟨acc,hacc,rfl⟩ S
  show CW _ _ _ _ (upd _ 7 _) _
  refine zs ?_
  refine jF (jL jac rfl) S ?_
  intro b_r w6_ g6_ S
  refine jH (i:=0) S rfl (Tryz.sizeOf417 _) rfl rfl rfl rfl rfl rfl ?_
  intro w7_ S
  refine ze ?_
  exact ⟨_,⟨z,x,acc,b_r,hst,hacc,⟨rfl,rfl,trivial⟩,rfl⟩,S.perm_ ((List.Perm.swap _ _ _).trans (.cons _ (.swap _ _ _)))⟩
 ·rintro ob db i j e w2 L ⟨z,x,acc,b_r,hst,hacc,hsl2,rfl⟩ S
  rw [hsl2.fold]
  have hst1:=hst.eq
  have hz:=hst.zl
  have hx:=hst.xr
  refine zc ?_
  refine jS ?_
  refine zc ?_
  refine qQ (C:=(fun σ wq=>CN No W [ob,db,.blk b_r 417 [ii z,ii x],.blk b_bx 30 [.slice A V.length c],.blk b_cn 3 [ii acc]] (fun v h=>∃ A2 c2 l2,v=.slice A2 (rB z x) c2/\h=.row 5 1 A2 (rB z x) c2 l2) wq σ)) [2] [0,1,2,3] [4,5] (by kernel_rfl) (by kernel_rfl) (S.gr (Gr.drew _)) ?_
  simp only [yT,j6,List.drop_succ_cons,List.drop_zero]
  refine qF rfl (fun τ wq hq=>jB q3 rfl rfl ((CN.st hq).blk (i:=4) rfl) rfl) ?_
  refine qF rfl (fun τ wq hq=>jT Tryz.underlying417 rfl (Tryz.sizeOf417 _) rfl ((CN.st hq).blk (i:=2) rfl) rfl rfl) ?_
  refine jZ rfl rfl (fun wq hq=>uW rfl ((hby wq z x (by omega) hx).mono fun v w' ⟨l2,hl2,A2,c2,hv,hR2,hf2,g⟩=>⟨_,⟨A2,c2,u8s l2,hv,rfl⟩,St.pushRow (show St No W wq _ from hq) hR2 hf2 g⟩)) ?_
  rintro v2 w5 ⟨_,⟨A2,c2,l2,rfl,_⟩,_⟩
  refine jX rfl (gZ q31 rfl) ?_
  refine yV ?_
  rintro wz hz2
  obtain ⟨_,⟨A3,c3,l3,e3,rfl⟩,S⟩:=hz2
  cases e3
  refine zr ?_
  refine j8 (i:=5) S rfl (qz3 _) rfl rfl rfl rfl rfl rfl ?_
  intro w9_ S
  refine ze ?_
  exact ⟨_,⟨acc+rB z x,by omega,rfl⟩,by simpa using S.sub (.cons _ (.cons_cons _ (.cons_cons _ (.cons _ (.cons_cons _ (.cons_cons _ .slnil))))))⟩
 ·rintro l D ob k w2 L rfl ⟨acc,hacc,rfl⟩ S
  rw [List.drop_length] at hacc
  have h00:tN 0 []=0:=rfl
  show CW _ _ _ _ _ _
  refine z ?_; refine z ?_
  refine zq ?_
  refine jgN S (i:=1) rfl rfl fun w' S'=>?_
  exact jgO (yD rfl ⟨by rw [<-hacc,h00,Nat.add_zero],S'.out⟩)
theorem jkc {z:Nat} {x:Int} (hz:z<=16384) (hx:-4294967296<=x/\x<=4294967296):1<=rB z x/\rB z x<=5:=by
 have h1:=mE (z - 1)
 have h2:=mE (zV x)
 have h3:=gQ hx
 have h4:=zT 4 (zV x) (by omega)
 have h5:=zT 1 (z - 1) (by omega)
 unfold rB
 split <;> omega
theorem jeS {B:Option Addr} {cB:Nat} {l:List Int} (hn:V.length<=16384) (hV:vR V) (hA:Rd W A (yC V)) (hl:0 < l.length/\l.length<=1048576) (hB:Rd W B (u8s l)) :
  Fn Tryz.prog 237 [.slice B l.length cB,.slice A V.length c] W (jbx id (l.length+tN 0 V) W):=by
 have hle:=jbI (B:=5) V 0 (fun x hx=>by have:=gQ (hV x hx); exact zT 4 _ (by omega)) (by omega) (by omega)
 rw [if_pos rfl] at hle
 have hby:=fun W z x hz hx=>p6 (W:=W) z x hz hx
 have S:=St.start W
 refine rO Tryz.func237 rfl Tryz.results237 Tryz.ntmps237 (by kernel_rfl) (by kernel_rfl) ?_
 try show CWK _ _ _ _ _ _ _
 refine xY ?_
 refine zs ?_
 refine jF (jO rfl) S ?_
 intro b_bb w2_ g2_ S
 refine z ?_
 refine ze ?_
 try show CWK _ _ _ _ _ _ _
 refine xY ?_
 refine z ?_
 refine jC rfl (mX (c:=cB) hl.1 (by omega) (hB.gr S.out)) ?_
 rintro _ w3_ ⟨A_lc,c_lc,rfl,hR_lc,hf_lc,g3_⟩
 have S:=S.pushRow hR_lc hf_lc g3_
 refine j8 (i:=1) S rfl (jb3 _) rfl rfl rfl rfl rfl rfl ?_
 intro w4_ S
 refine ze ?_
 try show CWK _ _ _ _ _ _ _
 refine jaz ?_
 try show CWK _ _ _ _ _ _ _
 refine xY ?_
 refine z ?_
 refine jC rfl (jbS) ?_
 rintro _ w5_ ⟨b_bx,rfl,hBx,hFx,g5_⟩
 have S:=S.push g5_ (h:=.blk b_bx _ _) hBx (fun g hg=>by have:g=b_bx:=hg; omega)
 refine ze ?_
 try show CWK _ _ _ _ _ _ _
 have S:=S.sub (.cons_cons _ (.cons_cons _ (.cons_cons _ (.slnil))))
 have S:=S.perm_ (.cons _ (.swap _ _ _))
 refine jaA ?_
 refine jbT (fun e=>SL e [(2,pt b_bb),(9,.func (.func 268) (([]:List Value).toArray) [pt b_bx].toArray)]) ⟨rfl,rfl,trivial⟩ ?_
 intro e hsl
 rw [hsl.fold]
 refine jgF (gf:=268) (lb:=[pt b_bx])
  (fun (i:Nat) L=>∃ (lc:List Int) (A2:Option Addr) (c2:Nat),lc.length+tN 0 (V.drop i)=l.length+tN 0 V/\L=[.blk b_bx 30 [.slice A V.length c],.blk b_bb 31 [.slice A2 lc.length c2],.row 5 1 A2 lc.length c2 (u8s lc)])
  (fun i vs j=>∃ (z:Nat) (x:Int),m8 V i z x j/\vs=[.agg #[ii (z:Nat),ii x]]) (fun i=>i=V.length) 0 rfl (by kernel_rfl) (by kernel_rfl)
  (fun i j e L=>∃ (z:Nat) (x:Int) (lc:List Int) (A2:Option Addr) (c2 b_r:Nat),m8 V i z x j/\lc.length+tN 0 (V.drop i)=l.length+tN 0 V/\SL e [(2,pt b_bb),(5,pt b_r)]/\L=[.blk b_r 417 [ii z,ii x],.blk b_bx 30 [.slice A V.length c],.blk b_bb 31 [.slice A2 lc.length c2],.row 5 1 A2 lc.length c2 (u8s lc)])
  ⟨l,A_lc,c_lc,by rw [List.drop_zero],rfl⟩ S (by rintro k vs k' ⟨_,_,_,rfl⟩; rfl) ?_ ?_ ?_ ?_
 ·intro l J w1 hgr hJ h0 hy
  refine (lW (c:=c) (A:=A) (V:=V) (W:=w1) (b:=b_bx) (l:=l) J hn hV hgr (fun k w hJk=>?_) (fun i z x j w hst hJk=>hy i _ j w ⟨z,x,hst,rfl⟩ hJk) h0).mono (fun _ w' h=>⟨_,rfl,h⟩)
  obtain ⟨L,⟨lc,A2,c2,_,rfl⟩,o1,d1,S1⟩:=hJ k w hJk
  exact ⟨S1.blk (i:=2) rfl,hA.gr S1.out⟩
 ·rintro ob db i vs j w2 L ⟨z,x,hst,rfl⟩ ⟨lc,A2,c2,hacc,rfl⟩ S
  show CW _ _ _ _ (upd _ 10 _) _
  refine zs ?_
  refine jF (jL jac rfl) S ?_
  intro b_r w7_ g7_ S
  refine jH (i:=0) S rfl (Tryz.sizeOf417 _) rfl rfl rfl rfl rfl rfl ?_
  intro w8_ S
  refine ze ?_
  exact ⟨_,⟨z,x,lc,A2,c2,b_r,hst,hacc,⟨rfl,rfl,trivial⟩,rfl⟩,S.perm_ ((List.Perm.swap _ _ _).trans (.cons _ (.swap _ _ _)))⟩
 ·rintro ob db i j e w2 L ⟨z,x,lc,A2,c2,b_r,hst,hacc,hsl2,rfl⟩ S
  rw [hsl2.fold]
  have hst1:=hst.eq
  have hz:=hst.zl
  have hx:=hst.xr
  have hrB:=jkc (z:=z) (x:=x) (by omega) hx
  refine zc ?_
  refine jS ?_
  refine zc ?_
  refine qQ (C:=(fun σ wq=>CN No W [ob,db,.blk b_r 417 [ii z,ii x],.blk b_bx 30 [.slice A V.length c],.blk b_bb 31 [.slice A2 lc.length c2],.row 5 1 A2 lc.length c2 (u8s lc)] (fun v h=>∃ A2 c2 l2,v=.slice A2 (rB z x) c2/\l2.length=rB z x/\h=.row 5 1 A2 (rB z x) c2 (u8s l2)) wq σ)) [2] [0,1,2] [3,4] (by kernel_rfl) (by kernel_rfl) (S.gr (Gr.drew _)) ?_
  simp only [yT,j6,List.drop_succ_cons,List.drop_zero]
  refine qF rfl (fun τ wq hq=>jB q31 rfl rfl ((CN.st hq).blk (i:=4) rfl) rfl) ?_
  refine qF rfl (fun τ wq hq=>jT Tryz.underlying417 rfl (Tryz.sizeOf417 _) rfl ((CN.st hq).blk (i:=2) rfl) rfl rfl) ?_
  refine jZ rfl rfl (fun wq hq=>uW rfl ((hby wq z x (by omega) hx).mono fun v w' ⟨l2,hl2,A2,c2,hv,hR2,hf2,g⟩=>⟨_,⟨A2,c2,l2,hv,hl2,rfl⟩,St.pushRow (show St No W wq _ from hq) hR2 hf2 g⟩)) ?_
  rintro v2 w5 ⟨_,⟨A3,c3,l2,rfl,_,_⟩,_⟩
  refine yV ?_
  rintro wz hz2
  obtain ⟨_,⟨A4,c4,l3,e3,hl3,rfl⟩,S⟩:=hz2
  cases e3
  have ho3:=jaH l3
  have hm3:=gU l3
  refine qA (i:=6) S rfl (fun h=>rfl) q31 xG rfl rfl rfl rfl (by rw [hm3,hl3,Nat.mul_one]) (by omega) (S.rd (i:=0) rfl) ho3 (by omega) ?_
  intro A_n c_n w10_ S sa_lc
  refine j8 (i:=5) S rfl (jb3 _) rfl rfl rfl rfl rfl rfl ?_
  intro w11_ S
  refine ze ?_
  rw [jdU] at S
  have e5:lc.length+rB z x=(lc ++ l3).length:=by rw [List.length_append,hl3]
  rw [e5] at S
  exact ⟨_,⟨lc ++ l3,A_n,c_n,by rw [<-e5]; omega,rfl⟩,S.sub (.cons _ (.cons_cons _ (.cons_cons _ (.cons _ (List.Sublist.refl _)))))⟩
 ·rintro lp D ob k w2 L rfl ⟨lc,A2,c2,hacc,rfl⟩ S
  rw [List.drop_length] at hacc
  have h00:tN 0 []=0:=rfl
  show CW _ _ _ _ _ _
  refine z ?_; refine z ?_
  refine zq ?_
  refine jgN S (i:=1) rfl rfl fun w' S'=>?_
  have e6:lc.length=l.length+tN 0 V:=by omega
  exact jgO (yD rfl ⟨lc,e6,e6 ▸ S'.retNew (i:=4) rfl⟩)
end
end
section
open Go.RowKit
def vM (V:List Int):Prop:=∀ x ∈ V,-2147483648<=x/\x<=2147483647
theorem vM.at {V:List Int} (h:vM V) (i:Nat):-2147483648<=V.getD i 0/\V.getD i 0<=2147483647:=by
 rw [List.getD_eq_getElem?_getD]
 rcases Nat.lt_or_ge i V.length with hi | hi
 ·rw [List.getElem?_eq_getElem hi]
  exact h _ (List.getElem_mem hi)
 ·rw [List.getElem?_eq_none hi]
  exact ⟨by decide,by decide⟩
section
variable {W : World} {A : Option Addr} {c w : Nat} {V : List Int}
theorem sO (kind w n:Nat) (hk:kind<=2) (hw:1<=w) (hn:n % w=0):Fn Tryz.prog 173 [ii kind,ii w,ii n] W (yK (.bool true) W):=by
 have e1:(n:Int) % w=0:=by rw [show (n:Int) % w=((n % w:Nat):Int) by push_cast; rfl,hn]; rfl
 have S:=St.start W
 refine zn Tryz.func173 Tryz.results173 Tryz.ntmps173 ?_
 refine z ?_; refine z ?_; refine zt ?_; refine z ?_; refine z ?_; refine zt ?_; (iterate 3 refine z ?_); refine zt ?_; (iterate 3 refine z ?_); refine zt ?_; iterate 4 refine z ?_
 refine jQ rfl ?_
 refine jE (kU rfl rfl (by omega) (by omega)) ?_
 rw [e1]
 refine zt ?_; refine z ?_; refine z ?_
 refine zq ?_
 exact yD rfl ⟨rfl,S.out⟩
theorem jiT (x:Int) (hx:-2147483648<=x/\x<=2147483647):Fn Tryz.prog 228 [ii x] W (yK (.bool true) W):=by
 have S:=St.start W
 refine zn Tryz.func228 Tryz.results228 Tryz.ntmps228 ?_
 refine z ?_; refine z ?_; refine zt ?_; refine z ?_; refine z ?_; refine zt ?_; refine z ?_; refine z ?_
 refine zq ?_
 exact yD rfl ⟨rfl,S.out⟩
theorem jgZ (i:Nat) (hw:1<=w) (hi:i < V.length) (hl:V.length<=1048576) (hA:Rd W A (yC V)) :
  Fn Tryz.prog 254 [.slice A V.length c,ii w,ii i] W (yK (ii (if i=0 then 0 else if i % w=0 then V.getD (i - w) 0 else V.getD (i - 1) 0)) W):=by
 have sa_A:yH A:=hA.someA (by rw [qY]; omega)
 have em:(i:Int) % w=((i % w:Nat):Int):=by push_cast; rfl
 have hget:∀ j,j < V.length->(yC V)[(j:Int).toNat * 1]?=some (ii (V.getD j 0)):=fun j hj=>by rw [Nat.mul_one,Int.toNat_natCast]; exact qO (vX hj)
 have S:=St.start W
 refine zn Tryz.func254 Tryz.results254 Tryz.ntmps254 ?_
 by_cases h0:i=0
 ·subst h0
  refine z ?_; refine z ?_; refine zt ?_; refine z ?_; refine z ?_
  refine zq ?_
  exact yD rfl ⟨rfl,S.out⟩
 ·rw [if_neg h0]
  by_cases h1:i % w=0
  ·rw [if_pos h1]
   rw [h1] at em
   have hwi:w<=i:=by
    rcases Nat.lt_or_ge i w with h | h
    ·rw [Nat.mod_eq_of_lt h] at h1; omega
    ·exact h
   have e2:(i:Int) - w=((i - w:Nat):Int):=by omega
   refine z ?_; refine z ?_; refine zf ?_; iterate 3 refine z ?_
   refine jE (kU rfl rfl (by omega) (by omega)) ?_
   rw [em]
   refine zt ?_; (iterate 4 refine z ?_); refine zr ?_
   rw [e2]
   refine zx ?_
   refine j3 (j7 q2 rfl rfl (hA.gr S.out) (hget (i - w) (by omega))) ?_
   refine z ?_
   refine zq ?_
   exact yD rfl ⟨rfl,S.out⟩
  ·rw [if_neg h1]
   have e2:(i:Int) - 1=((i - 1:Nat):Int):=by omega
   have h1':(0:Int) < ((i % w:Nat):Int):=by omega
   generalize i % w=q at *
   refine z ?_; refine z ?_; refine zf ?_; iterate 3 refine z ?_
   refine jE (kU rfl rfl (by omega) (by omega)) ?_
   rw [em]
   refine zf ?_; (iterate 3 refine z ?_); refine zr ?_
   rw [e2]
   refine zx ?_
   refine j3 (j7 q2 rfl rfl (hA.gr S.out) (hget (i - 1) (by omega))) ?_
   refine z ?_
   refine zq ?_
   exact yD rfl ⟨rfl,S.out⟩
theorem jfa (kind i:Nat) (hk:kind<=2) (hw:1<=w) (hi:i < V.length) (hl:V.length<=1048576) (hV:vM V) (hA:Rd W A (yC V)) :
  Fn Tryz.prog 227 [ii kind,.slice A V.length c,ii w,ii i] W (yK (ii (gN kind (fun j=>V.getD j 0) w i)) W):=by
 have sa_A:yH A:=hA.someA (by rw [qY]; omega)
 have em:(i:Int) % w=((i % w:Nat):Int):=by push_cast; rfl
 have hget:∀ j,j < V.length->(yC V)[(j:Int).toNat * 1]?=some (ii (V.getD j 0)):=fun j hj=>by rw [Nat.mul_one,Int.toNat_natCast]; exact qO (vX hj)
 have hleft:=fun W hA=>jgZ (W:=W) (A:=A) (c:=c) (w:=w) (V:=V) i hw hi hl hA
 unfold gN
 have S:=St.start W
 refine zn Tryz.func227 Tryz.results227 Tryz.ntmps227 ?_
 by_cases h0:kind=0
 ·subst h0
  refine z ?_; refine z ?_; refine zt ?_; refine z ?_
  refine zq ?_
  exact yD rfl ⟨by rw [if_pos rfl],S.out⟩
 ·rw [if_neg h0]
  by_cases h1:kind=1
  ·subst h1
   rw [if_pos (.inl rfl)]
   refine z ?_; refine z ?_; refine zf ?_; refine z ?_; refine zt ?_; iterate 3 refine z ?_
   refine zw2 ⟨?_⟩
   iterate 4 refine z ?_
   first | refine jK rfl ?_ | (refine jQ rfl ?_; refine jE (kU rfl rfl (by omega) (by omega)) ?_)
   refine zw4 ⟨?_⟩
   iterate 4 refine z ?_
   refine jC rfl (hleft _ (hA.gr S.out)) ?_
   rintro _ w1_ ⟨rfl,g1_⟩
   have S:=S.gr g1_
   refine z ?_
   refine zq ?_
   exact yD rfl ⟨rfl,S.out⟩
  ·by_cases h2:i < w
   ·rw [if_pos (.inr (.inl h2))]
    refine z ?_; refine z ?_; refine zf ?_; refine z ?_; refine zf ?_; (iterate 3 refine z ?_); refine zt ?_; iterate 4 refine z ?_
    first | refine jK rfl ?_ | (refine jQ rfl ?_; refine jE (kU rfl rfl (by omega) (by omega)) ?_)
    refine zw4 ⟨?_⟩
    iterate 4 refine z ?_
    refine jC rfl (hleft _ (hA.gr S.out)) ?_
    rintro _ w2_ ⟨rfl,g2_⟩
    have S:=S.gr g2_
    refine z ?_
    refine zq ?_
    exact yD rfl ⟨rfl,S.out⟩
   ·by_cases h3:i % w=0
    ·rw [if_pos (.inr (.inr h3))]
     rw [h3] at em
     refine z ?_; refine z ?_; refine zf ?_; refine z ?_; refine zf ?_; (iterate 3 refine z ?_); refine zf ?_; iterate 4 refine z ?_
     first | refine jK rfl ?_ | (refine jQ rfl ?_; refine jE (kU rfl rfl (by omega) (by omega)) ?_)
     rw [em]
     refine zt ?_; iterate 4 refine z ?_
     refine jC rfl (hleft _ (hA.gr S.out)) ?_
     rintro _ w3_ ⟨rfl,g3_⟩
     have S:=S.gr g3_
     refine z ?_
     refine zq ?_
     exact yD rfl ⟨rfl,S.out⟩
    ·rw [if_neg (by rintro (h | h | h); exact h1 h; exact h2 h; exact h3 h)]
     have hi0:i ≠ 0:=fun h=>by subst h; simp at h3
     have h4:(0:Int) < ((i % w:Nat):Int):=by omega
     have e1:(i:Int) - 1=((i - 1:Nat):Int):=by omega
     have e2:(i:Int) - w=((i - w:Nat):Int):=by omega
     have hne:i - w ≠ 0:=fun h=>h3 (by rw [show i=w by omega,Nat.mod_self])
     have e3:((i - w:Nat):Int) - 1=((i - w - 1:Nat):Int):=by omega
     have b1:=hV.at (i - 1)
     have b2:=hV.at (i - w)
     have b3:=hV.at (i - w - 1)
     have g1:=hget (i - 1) (by omega)
     have g2:=hget (i - w) (by omega)
     have g3:=hget (i - w - 1) (by omega)
     dsimp only
     generalize V.getD (i - 1) 0=v1 at *
     generalize V.getD (i - w) 0=v2 at *
     generalize V.getD (i - w - 1) 0=v3 at *
     clear hleft h3
     generalize i % w=q at *
     refine z ?_; refine z ?_; refine zf ?_; refine z ?_; refine zf ?_; (iterate 3 refine z ?_); refine zf ?_; iterate 4 refine z ?_
     first | refine jK rfl ?_ | (refine jQ rfl ?_; refine jE (kU rfl rfl (by omega) (by omega)) ?_)
     rw [em]
     refine zf ?_; refine z ?_
     refine zc ?_
     refine jM rfl ?_
     refine zc ?_
     refine j5 ?_
     try show CW _ _ _ _ _ _
     refine zc ?_
     refine yB (C:=fun wq=>Gr W wq) [0,1,2,3,4,5,6,7,8,9,10,11,12,13,14,15,16,17,18,19,20] [] (by kernel_rfl) (by kernel_rfl) (Gr.drew _) ?_
     simp only [j6,List.drop_succ_cons,List.drop_zero]
     refine y ?_; refine y ?_; refine yr ?_
     rw [e1]
     refine yx ?_
     refine jV (fun wq hq=>j7 q2 rfl rfl (hA.gr (S.gr hq).out) g1) ?_
     (iterate 3 refine y ?_); refine yr ?_
     rw [e2]
     refine yx ?_
     refine jV (fun wq hq=>j7 q2 rfl rfl (hA.gr (S.gr hq).out) g2) ?_
     (iterate 3 refine y ?_); refine yr ?_
     rw [e2]
     refine yr ?_
     rw [e3]
     refine yx ?_
     refine jV (fun wq hq=>j7 q2 rfl rfl (hA.gr (S.gr hq).out) g3) ?_
     iterate 3 refine y ?_
     refine yJ ?_
     intro w4_ g4_
     have S:=S.gr g4_
     refine z ?_; refine z ?_; refine zr ?_; refine z ?_; refine zr ?_; iterate 9 refine z ?_
     refine zq ?_
     exact yD rfl ⟨rfl,S.out⟩
theorem sP (kind:Nat) (hk:kind<=2) (hw:1<=w) (hn:V.length % w=0) (hl:V.length<=1048576) (hV:vM V) (hA:Rd W A (yC V)) :
  Fn Tryz.prog 232 [ii kind,.slice A V.length c,ii w] W (qR (fun s=>.tuple #[s,ii 0]) 2 1 V.length (yC (kT kind V w)) W):=by
 have hget:∀ j,j < V.length->(yC V)[(j:Int).toNat * 1]?=some (ii (V.getD j 0)):=fun j hj=>by rw [Nat.mul_one,Int.toNat_natCast]; exact qO (vX hj)
 have hgm:=fun i (hi:i < V.length)=>jhG (kind:=kind) (w:=w) (i:=i) (V:=V) hw hi hV
 have hguess:=fun W hA i hi=>jfa (W:=W) (A:=A) (c:=c) (w:=w) (V:=V) kind i hk hw hi hl hV hA
 obtain ⟨r,hr⟩:∃ r:Nat->Int,r=fun i=>V.getD i 0 - gN kind (fun j=>V.getD j 0) w i:=⟨_,rfl⟩
 have hri:∀ i,r i=V.getD i 0 - gN kind (fun j=>V.getD j 0) w i:=fun i=>by rw [hr]
 have hrl:yC (kT kind V w)=yN V.length r:=by
  unfold kT yC yN
  rw [List.map_map,hr]
  rfl
 rw [hrl]
 have S:=St.start W
 refine zn Tryz.func232 Tryz.results232 Tryz.ntmps232 ?_
 iterate 6 refine z ?_
 refine jC rfl (sO kind w V.length hk hw hn) ?_
 rintro _ w1_ ⟨rfl,g1_⟩
 have S:=S.gr g1_
 iterate 3 refine z ?_
 refine vU q30 uY rfl rfl rfl (n:=V.length) (c:=V.length) (by omega) (by omega) (by omega) (by omega) S ?_
 intro A_o w3_ g3_ S sa_o
 iterate 4 refine z ?_
 refine zc ?_
 refine jS ?_
 refine zc ?_
 rw [dL] at S
 refine j9 (fun m e w'=>∃ i:Nat,i+m=V.length/\SL e [(0,ii kind),(1,.slice A V.length c),(2,ii w),(8,.slice A_o V.length V.length),(20,.slice A V.length c),(21,ii V.length),(22,ii i)] /\
   St No W w' [.row 2 1 A_o V.length V.length (yN V.length fun j=>if j < i then r j else 0)]) V.length
  ⟨0,by omega,⟨rfl,rfl,rfl,rfl,rfl,rfl,rfl,trivial⟩,by simpa using S⟩ ?_
 clear S
 rintro m e w2 ⟨i,hi,hsl,S⟩
 rw [hsl.fold]
 by_cases hlt:i < V.length
 ·have sa_A:yH A:=hA.someA (by rw [qY]; omega)
  have sa_o:yH A_o:=(S.row (i:=0) rfl).someA (by omega)
  have b1:=hV.at i
  have b2:=hgm i hlt
  have hgu:=fun W hA=>hguess W hA i hlt
  have hrr:=hri i
  have g1:=hget i hlt
  generalize gN kind (fun j=>V.getD j 0) w i=gg at *
  generalize V.getD i 0=v1 at *
  refine zt ?_; refine z ?_; refine zx ?_
  refine j3 (j7 q2 rfl rfl (hA.gr S.out) g1) ?_
  iterate 3 refine z ?_
  refine jC rfl (jiT v1 b1) ?_
  rintro _ w4_ ⟨rfl,g4_⟩
  have S:=S.gr g4_
  iterate 8 refine z ?_
  refine jC rfl (hgu _ (hA.gr S.out)) ?_
  rintro _ w5_ ⟨rfl,g5_⟩
  have S:=S.gr g5_
  refine zr ?_; refine zx ?_
  refine qV (i:=0) S rfl (qz2 _) rfl rfl rfl rfl (by rw [u9]; omega) rfl ?_
  intro w6_ S
  refine zr ?_; refine z ?_
  refine ze ?_
  rw [<-hrr,xC,uO (o':=fun j=>if j < i+1 then r j else 0) (fun j hj=>by
   unfold kR
   by_cases e:j=i
   ·subst e; rw [if_pos rfl,if_pos (by omega)]
   ·rw [if_neg e]
    show (if j < i then r j else 0)=_
    by_cases h:j < i
    ·rw [if_pos h,if_pos (by omega)]
    ·rw [if_neg h,if_neg (by omega)])] at S
  exact ⟨m - 1,by omega,i+1,by omega,⟨rfl,rfl,rfl,rfl,rfl,rfl,rfl,trivial⟩,S⟩
 ·obtain rfl:i=V.length:=by omega
  rw [uO (o':=r) (fun j hj=>if_pos hj)] at S
  refine zf ?_
  refine zc ?_
  refine jM rfl ?_
  refine zc ?_
  refine jY ?_
  repeat first | refine jP ?_ | refine jU ?_
  show CW _ _ _ _ _ _
  iterate 3 refine z ?_
  refine zq ?_
  exact kY rfl rfl (S.retNew (i:=0) (mk:=fun s=>.tuple #[s,ii 0]) rfl)
end
end
end Go.Proofs.YtipnifjmhlcehaaGreatDoor
