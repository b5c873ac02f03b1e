/- hachuretop.WholeFlat: a part of the proof that the law returns true at every input (WholeD); no condition of its own. -/
import Derived.Test.YtipnifjmhlcehaaGreatDoorKR
import Derived.Test.YtipnifjmhlcehaaGreatDoorKE
import Derived.Test.YtipnifjmhlcehaaGreatDoorKC
import Derived.Test.YtipnifjmhlcehaaGreatDoorKD
set_option linter.unusedVariables false
set_option linter.unusedSimpArgs false
set_option maxRecDepth 100000
set_option maxHeartbeats 16000000
namespace Go.Proofs.YtipnifjmhlcehaaGreatDoor
section
open Go.RowKit
theorem jef {a b K G:Int} (h:-K<=a/\a<=K) (hb:0<=b/\b<=G):-(K * G)<=a * b/\a * b<=K * G:=by
 have h1:a * b<=K * b:=Int.mul_le_mul_of_nonneg_right h.2 hb.1
 have h2:(-K) * b<=a * b:=Int.mul_le_mul_of_nonneg_right h.1 hb.1
 have h3:K * b<=K * G:=Int.mul_le_mul_of_nonneg_left hb.2 (by omega)
 rw [Int.neg_mul] at h2
 omega
section
variable {W w : World} {wi hi v a0 a1 b0 b1 : Int}
theorem jik (hG:GL W) (hc:wi < 1\/hi < 1\/wi > 40\/hi > 40\/wi * hi > 300\/kN v=false) :
  Fn Tryz.prog 3 [ii wi,ii hi,ii v,.agg #[ii a0,ii a1],.agg #[ii b0,ii b1]] W (yK (.bool true) W):=by
 by_cases h1:wi < 1
 ·skip
  have S:=St.start W
  refine zn Tryz.func3 Tryz.results3 Tryz.ntmps3 ?_
  refine zs ?_
  refine jF (jO rfl) S ?_
  intro b_a w2_ g2_ S
  refine jF (jO rfl) S ?_
  intro b_b w4_ g4_ S
  refine z ?_
  refine zs ?_
  refine jC rfl (x8 (hG.gr S.out)) ?_
  rintro _ w5_ ⟨rfl,g5_⟩
  have S:=S.gr g5_
  refine z ?_; refine z ?_; refine zt ?_; refine z ?_; refine z ?_
  refine zw2 ⟨?_⟩
  iterate 3 refine z ?_
  refine zw2 ⟨?_⟩
  iterate 3 refine z ?_
  refine zw2 ⟨?_⟩
  (iterate 4 refine z ?_); refine zr ?_
  refine zw2 ⟨?_⟩
  iterate 3 refine z ?_
  refine jK rfl ?_
  iterate 3 refine z ?_
  refine zq ?_
  exact yD rfl ⟨rfl,S.out⟩
 by_cases h2:hi < 1
 ·skip
  have S:=St.start W
  refine zn Tryz.func3 Tryz.results3 Tryz.ntmps3 ?_
  refine zs ?_
  refine jF (jO rfl) S ?_
  intro b_a w2_ g2_ S
  refine jF (jO rfl) S ?_
  intro b_b w4_ g4_ S
  refine z ?_
  refine zs ?_
  refine jC rfl (x8 (hG.gr S.out)) ?_
  rintro _ w5_ ⟨rfl,g5_⟩
  have S:=S.gr g5_
  refine z ?_; refine z ?_; refine zf ?_; refine z ?_; refine z ?_; refine zt ?_; iterate 3 refine z ?_
  refine zw2 ⟨?_⟩
  iterate 3 refine z ?_
  refine zw2 ⟨?_⟩
  (iterate 4 refine z ?_); refine zr ?_
  refine zw2 ⟨?_⟩
  iterate 3 refine z ?_
  refine jK rfl ?_
  iterate 3 refine z ?_
  refine zq ?_
  exact yD rfl ⟨rfl,S.out⟩
 by_cases h3:wi > 40
 ·skip
  have S:=St.start W
  refine zn Tryz.func3 Tryz.results3 Tryz.ntmps3 ?_
  refine zs ?_
  refine jF (jO rfl) S ?_
  intro b_a w2_ g2_ S
  refine jF (jO rfl) S ?_
  intro b_b w4_ g4_ S
  refine z ?_
  refine zs ?_
  refine jC rfl (x8 (hG.gr S.out)) ?_
  rintro _ w5_ ⟨rfl,g5_⟩
  have S:=S.gr g5_
  refine z ?_; refine z ?_; refine zf ?_; refine z ?_; refine z ?_; refine zf ?_; (iterate 3 refine z ?_); refine zt ?_; iterate 3 refine z ?_
  refine zw2 ⟨?_⟩
  (iterate 4 refine z ?_); refine zr ?_
  refine zw2 ⟨?_⟩
  iterate 3 refine z ?_
  refine jK rfl ?_
  iterate 3 refine z ?_
  refine zq ?_
  exact yD rfl ⟨rfl,S.out⟩
 by_cases h4:hi > 40
 ·skip
  have S:=St.start W
  refine zn Tryz.func3 Tryz.results3 Tryz.ntmps3 ?_
  refine zs ?_
  refine jF (jO rfl) S ?_
  intro b_a w2_ g2_ S
  refine jF (jO rfl) S ?_
  intro b_b w4_ g4_ S
  refine z ?_
  refine zs ?_
  refine jC rfl (x8 (hG.gr S.out)) ?_
  rintro _ w5_ ⟨rfl,g5_⟩
  have S:=S.gr g5_
  refine z ?_; refine z ?_; refine zf ?_; refine z ?_; refine z ?_; refine zf ?_; (iterate 3 refine z ?_); refine zf ?_; (iterate 3 refine z ?_); refine zt ?_; (iterate 4 refine z ?_); refine zr ?_
  refine zw2 ⟨?_⟩
  iterate 3 refine z ?_
  refine jK rfl ?_
  iterate 3 refine z ?_
  refine zq ?_
  exact yD rfl ⟨rfl,S.out⟩
 have hm1:wi * hi<=40 * 40:=Int.mul_le_mul (by omega) (by omega) (by omega) (by omega)
 have hm0:0<=wi * hi:=Int.mul_nonneg (by omega) (by omega)
 by_cases h5:wi * hi > 300
 ·skip
  have S:=St.start W
  refine zn Tryz.func3 Tryz.results3 Tryz.ntmps3 ?_
  refine zs ?_
  refine jF (jO rfl) S ?_
  intro b_a w2_ g2_ S
  refine jF (jO rfl) S ?_
  intro b_b w4_ g4_ S
  refine z ?_
  refine zs ?_
  refine jC rfl (x8 (hG.gr S.out)) ?_
  rintro _ w5_ ⟨rfl,g5_⟩
  have S:=S.gr g5_
  refine z ?_; refine z ?_; refine zf ?_; refine z ?_; refine z ?_; refine zf ?_; (iterate 3 refine z ?_); refine zf ?_; (iterate 3 refine z ?_); refine zf ?_; (iterate 4 refine z ?_); refine zr ?_; refine zt ?_; iterate 3 refine z ?_
  refine jK rfl ?_
  iterate 3 refine z ?_
  refine zq ?_
  exact yD rfl ⟨rfl,S.out⟩
 have hv:kN v=false:=by
  rcases hc with h | h | h | h | h | h
  all_goals first | omega | exact h
 ·skip
  have S:=St.start W
  refine zn Tryz.func3 Tryz.results3 Tryz.ntmps3 ?_
  refine zs ?_
  refine jF (jO rfl) S ?_
  intro b_a w2_ g2_ S
  refine jF (jO rfl) S ?_
  intro b_b w4_ g4_ S
  refine z ?_
  refine zs ?_
  refine jC rfl (x8 (hG.gr S.out)) ?_
  rintro _ w5_ ⟨rfl,g5_⟩
  have S:=S.gr g5_
  refine z ?_; refine z ?_; refine zf ?_; refine z ?_; refine z ?_; refine zf ?_; (iterate 3 refine z ?_); refine zf ?_; (iterate 3 refine z ?_); refine zf ?_; (iterate 4 refine z ?_); refine zr ?_; refine zf ?_; iterate 3 refine z ?_
  refine jQ rfl ?_
  refine jC rfl (jgC v _) ?_
  rintro _ w6_ ⟨rfl,g6_⟩
  have S:=S.gr g6_
  rw [hv]
  iterate 3 refine z ?_
  refine zq ?_
  exact yD rfl ⟨rfl,S.out⟩
theorem jjX (hG:GL W) (hH:HalvesAt W) {gw gh:Nat} (hw:1<=gw/\gw<=40) (hh:1<=gh/\gh<=40) (hwh:gw * gh<=300) (hv:kN v=true) :
  Fn Tryz.prog 3 [.int .i64 gw,.int .i64 gh,.int .i64 v,.agg #[.int .i64 a0,.int .i64 a1],.agg #[.int .i64 b0,.int .i64 b1]] W (yK (.bool true) W):=by
 have hv':-2147483648<=v/\v<=2147483647:=by
  have h:=hv
  simp only [kN,Bool.and_eq_true,decide_eq_true_eq] at h
  exact h
 have ewh:(gw:Int) * gh=((gw * gh:Nat):Int):=by push_cast; rfl
 have S:=St.start W
 refine kK Tryz.func3 rfl Tryz.results3 Tryz.ntmps3 (by kernel_rfl) (by kernel_rfl) ?_
 repeat refine jJ ?_
 refine jI ?_
 refine jF (jO rfl) S ?_
 intro b_a w2_ g2_ S
 refine jF (jO rfl) S ?_
 intro b_b w4_ g4_ S
 refine jE (jA rfl) ?_
 first | refine jR ?_ | (refine jG ?_; show CW _ _ _ _ _ _) | refine jG ?_
 repeat refine jJ ?_
 refine jI ?_
 refine jC rfl (x8 (hG.gr S.out)) ?_
 rintro _ w5_ ⟨rfl,g5_⟩
 have S:=S.gr g5_
 refine jE (jA rfl) ?_
 first | refine jR ?_ | (refine jG ?_; show CW _ _ _ _ _ _) | refine jG ?_
 repeat refine jJ ?_
 refine jM rfl ?_
 repeat refine jJ ?_
 refine j5 ?_
 try show CW _ _ _ _ _ _
 repeat refine jJ ?_
 refine jI ?_
 refine jE (jA rfl) ?_
 refine jE (yP (b:=false) rfl (decide_eq_false (by omega))) ?_
 refine jE (jA rfl) ?_
 first | refine jK rfl ?_ | (refine jQ rfl ?_; refine jE (jA rfl) ?_)
 first | refine jK rfl ?_ | (refine jQ rfl ?_; refine jE (yP (b:=false) rfl (decide_eq_false (by omega))) ?_)
 iterate 2 refine jE (jA rfl) ?_
 first | refine jK rfl ?_ | (refine jQ rfl ?_; refine jE (jA rfl) ?_)
 first | refine jK rfl ?_ | (refine jQ rfl ?_; refine jE (yP (b:=false) rfl (decide_eq_false (by omega))) ?_)
 iterate 2 refine jE (jA rfl) ?_
 first | refine jK rfl ?_ | (refine jQ rfl ?_; refine jE (jA rfl) ?_)
 first | refine jK rfl ?_ | (refine jQ rfl ?_; refine jE (yP (b:=false) rfl (decide_eq_false (by omega))) ?_)
 iterate 2 refine jE (jA rfl) ?_
 first | refine jK rfl ?_ | (refine jQ rfl ?_; refine jE (jA rfl) ?_)
 first | refine jK rfl ?_ | (refine jQ rfl ?_; refine jE (jA rfl) ?_)
 first | refine jK rfl ?_ | (refine jQ rfl ?_; refine jE (yI rfl (by rw [ewh]; omega)) ?_)
 rw [ewh]
 first | refine jK rfl ?_ | (refine jQ rfl ?_; refine jE (yP (b:=false) rfl (decide_eq_false (by omega))) ?_)
 iterate 2 refine jE (jA rfl) ?_
 first | refine jK rfl ?_ | (refine jQ rfl ?_; refine jE (jA rfl) ?_)
 refine jQ rfl ?_
 refine jC rfl (jgC v _) ?_
 rintro _ w6_ ⟨rfl,g6_⟩
 have S:=S.gr g6_
 rw [hv]
 first | refine jK rfl ?_ | (refine jQ rfl ?_; refine jE (jA rfl) ?_)
 refine jE (jA rfl) ?_
 first | refine jR ?_ | (refine jG ?_; show CW _ _ _ _ _ _) | refine jG ?_
 repeat refine jJ ?_
 refine jM rfl ?_
 repeat refine jJ ?_
 refine j5 ?_
 try show CW _ _ _ _ _ _
 repeat refine jJ ?_
 refine jI ?_
 refine jE (jA rfl) ?_
 refine jE (yI rfl (by omega)) ?_
 refine jE (jA rfl) ?_
 refine jE (yI rfl (by omega)) ?_
 refine jE (jN (pl:=[(0,1),(1,1),(2,1),(3,1)]) Tryz.underlying27 Tryz.zeroValue27 (fun w=>by kernel_rfl) rfl rfl) ?_
 refine jF (jL Tryz.zeroValue27 rfl) S ?_
 intro b_all w8_ g8_ S
 refine jH (i:=0) S rfl (Tryz.sizeOf27 _) rfl rfl rfl rfl rfl rfl ?_
 intro w9_ S
 first | refine jR ?_ | (refine jG ?_; show CW _ _ _ _ _ _) | refine jG ?_
 repeat refine jJ ?_
 refine jI ?_
 iterate 2 refine jE (jA rfl) ?_
 refine jE (jN (pl:=[(0,1),(1,4),(5,2),(7,2),(9,1),(10,1),(11,1),(12,1),(13,1)]) Tryz.underlying34 Tryz.zeroValue34 (fun w=>by kernel_rfl) rfl rfl) ?_
 refine j3 (jT Tryz.underlying27 rfl (Tryz.sizeOf27 _) rfl (S.blk (i:=0) rfl) rfl rfl) ?_
 refine jE (jA rfl) ?_
 refine jE (jN (pl:=[(0,1),(1,4),(5,2),(7,2),(9,1),(10,1),(11,1),(12,1),(13,1)]) Tryz.underlying34 Tryz.zeroValue34 (fun w=>by kernel_rfl) rfl rfl) ?_
 refine yF Tryz.underlying35 Tryz.sizeOf34 Tryz.zeroValue34 rfl rfl rfl rfl rfl rfl S ?_
 intro A_ops w11_ g11_ S sa_ops
 refine jC rfl (jiK (SP:=SPw gw gh v) (ops:=[⟨1,0,0,0,0,0,0,0,0,gw,gh,.nil,.nil,.nil⟩,⟨3,0,0,(gw:Int) - 1,(gh:Int) - 1,0,0,0,0,v,0,.nil,.nil,.nil⟩]) sa_ops rfl (by decide) (fun sb pp=>⟨pp,rfl⟩) (fun sb k o M w T ho hP S=>jiv hw hh hv ho hP S) S) ?_
 rintro _ w12_ ⟨sb,M,rfl,hP,S⟩
 have hF:FSx gw gh v sb M:=hP
 refine jE (jA rfl) ?_
 first | refine jR ?_ | (refine jG ?_; show CW _ _ _ _ _ _) | refine jG ?_
 have hb1:-85899345920<=v * gw/\v * gw<=85899345920:=jef (K:=2147483648) (G:=40) (by omega) (by omega)
 have hb2:-(85899345920 * 40)<=v * gw * gh/\v * gw * gh<=85899345920 * 40:=jef (by omega) (by omega)
 have S:=S.sw (A:=M) (B:=[_,_,_])
 repeat refine jJ ?_
 refine jI ?_
 refine jE (jA rfl) ?_
 refine j3 (jT Tryz.underlying27 rfl (Tryz.sizeOf27 _) rfl (S.blk (i:=0) rfl) rfl rfl) ?_
 refine jE (jN (pl:=[(0,1),(1,4),(5,2),(7,2),(9,1),(10,1),(11,1),(12,1),(13,1)]) Tryz.underlying34 Tryz.zeroValue34 (fun w=>by kernel_rfl) rfl rfl) ?_
 refine jC rfl (jkS hw hh hF (S.sw (A:=[_,_,_]) (B:=M))) ?_
 rintro _ w13_ ⟨rfl,S⟩
 have S:=S.sw (A:=M) (B:=[_,_,_])
 refine jF (jL Tryz.zeroValue41 rfl) S ?_
 intro b_r1 w15_ g15_ S
 refine jH (i:=0) S rfl (Tryz.sizeOf41 _) rfl rfl rfl rfl rfl rfl ?_
 intro w16_ S
 first | refine jR ?_ | (refine jG ?_; show CW _ _ _ _ _ _) | refine jG ?_
 repeat refine jJ ?_
 refine jI ?_
 iterate 2 refine jE (jA rfl) ?_
 refine jE (jN (pl:=[(0,1),(1,4),(5,2),(7,2),(9,1),(10,1),(11,1),(12,1),(13,1)]) Tryz.underlying34 Tryz.zeroValue34 (fun w=>by kernel_rfl) rfl rfl) ?_
 refine jC rfl (jh5 hw hh hF (S.sw (A:=[_,_,_,_]) (B:=M))) ?_
 rintro _ w17_ ⟨q1,A_pr,c_pr,rfl,S⟩
 have S:=S.sw (A:=_::M) (B:=[_,_,_,_])
 iterate 2 refine jE (jA rfl) ?_
 refine jE (yI rfl (by omega)) ?_
 refine jE (jN (pl:=[(0,1),(1,4),(5,2),(7,2),(9,1),(10,1),(11,1),(12,1),(13,1)]) Tryz.underlying34 Tryz.zeroValue34 (fun w=>by kernel_rfl) rfl rfl) ?_
 refine jC rfl (jh4 hw hh hF (S.sw (A:=[_,_,_,_,_]) (B:=M))) ?_
 rintro _ w18_ ⟨q2,q3,rfl,S⟩
 have S:=S.sw (A:=M) (B:=[_,_,_,_,_])
 refine jF (jL Tryz.zeroValue41 rfl) S ?_
 intro b_r2 w20_ g20_ S
 refine jF (jL Tryz.zeroValue41 rfl) S ?_
 intro b_r3 w22_ g22_ S
 refine jH (i:=1) S rfl (Tryz.sizeOf41 _) rfl rfl rfl rfl rfl rfl ?_
 intro w23_ S
 refine jH (i:=0) S rfl (Tryz.sizeOf41 _) rfl rfl rfl rfl rfl rfl ?_
 intro w24_ S
 first | refine jR ?_ | (refine jG ?_; show CW _ _ _ _ _ _) | refine jG ?_
 have sa_pr:yH A_pr:=(S.row (i:=6) rfl).someA (by decide)
 dsimp only [RpS.cs,Sv.v] at S
 repeat refine jJ ?_
 refine yB (C:=fun wq=>Gr w24_ wq) [0,1,2,3,4,5,6,7,8,9,10,11,12,13,14,15,16,17,18,19,20,21,22,23,24,25,26,27,28,29,30,31,32,33,34,35,36,37,38,39,40,41,42,43,44,45,46,47,48,49,50,51,52,53,54,55,56,57,58] [] (by kernel_rfl) (by kernel_rfl) (Gr.drew _) ?_
 simp only [j6,List.drop_succ_cons,List.drop_zero]
 refine jW (jD Tryz.underlying41 rfl Tryz.sizeOf36 rfl rfl) ?_
 refine jV (fun wq hq=>jB Tryz.underlying36 rfl rfl ((S.gr hq).blk (i:=2) rfl) rfl) ?_
 refine jW (yP (b:=false) rfl (bne_eq_false_iff_eq.2 (by omega))) ?_
 refine jW (jA rfl) ?_
 first | refine j0 rfl ?_ | (refine yG rfl ?_; refine jW (jD Tryz.underlying41 rfl Tryz.sizeOf2 rfl rfl) ?_)
 first | refine j0 rfl ?_ | (refine yG rfl ?_; refine jV (fun wq hq=>jB Tryz.underlying2 rfl rfl ((S.gr hq).blk (i:=2) rfl) rfl) ?_)
 first | refine j0 rfl ?_ | (refine yG rfl ?_; refine jW (jA rfl) ?_)
 first | refine j0 rfl ?_ | (refine yG rfl ?_; refine jW (jA rfl) ?_)
 first | refine j0 rfl ?_ | (refine yG rfl ?_; refine jW (yI rfl (by omega)) ?_)
 first | refine j0 rfl ?_ | (refine yG rfl ?_; refine jW (jA rfl) ?_)
 first | refine j0 rfl ?_ | (refine yG rfl ?_; refine jW (yI rfl (by omega)) ?_)
 first | refine j0 rfl ?_ | (refine yG rfl ?_; refine jW (yP (b:=false) rfl (bne_eq_false_iff_eq.2 (by omega))) ?_)
 iterate 2 refine jW (jA rfl) ?_
 first | refine j0 rfl ?_ | (refine yG rfl ?_; refine jW (jD Tryz.underlying41 rfl Tryz.sizeOf2 rfl rfl) ?_)
 first | refine j0 rfl ?_ | (refine yG rfl ?_; refine jV (fun wq hq=>jB Tryz.underlying2 rfl rfl ((S.gr hq).blk (i:=1) rfl) rfl) ?_)
 first | refine j0 rfl ?_ | (refine yG rfl ?_; refine jW (yP (b:=false) rfl (bne_eq_false_iff_eq.2 (by omega))) ?_)
 iterate 2 refine jW (jA rfl) ?_
 first | refine j0 rfl ?_ | (refine yG rfl ?_; refine jW (jD Tryz.underlying41 rfl Tryz.sizeOf36 rfl rfl) ?_)
 first | refine j0 rfl ?_ | (refine yG rfl ?_; refine jV (fun wq hq=>jB Tryz.underlying36 rfl rfl ((S.gr hq).blk (i:=1) rfl) rfl) ?_)
 first | refine j0 rfl ?_ | (refine yG rfl ?_; refine jW (yP (b:=false) rfl (bne_eq_false_iff_eq.2 (by omega))) ?_)
 iterate 2 refine jW (jA rfl) ?_
 first | refine j0 rfl ?_ | (refine yG rfl ?_; refine jW (jD Tryz.underlying41 rfl Tryz.sizeOf38 rfl rfl) ?_)
 first | refine j0 rfl ?_ | (refine yG rfl ?_; refine jV (fun wq hq=>jB Tryz.underlying38 rfl rfl ((S.gr hq).blk (i:=1) rfl) rfl) ?_)
 first | refine j0 rfl ?_ | (refine yG rfl ?_; refine jW (gZ Tryz.underlying38 rfl) ?_)
 first | refine j0 rfl ?_ | (refine yG rfl ?_; refine jW (yP (b:=false) rfl (bne_eq_false_iff_eq.2 (by omega))) ?_)
 iterate 2 refine jW (jA rfl) ?_
 first | refine j0 rfl ?_ | (refine yG rfl ?_; refine jW (jD Tryz.underlying41 rfl Tryz.sizeOf38 rfl rfl) ?_)
 first | refine j0 rfl ?_ | (refine yG rfl ?_; refine jV (fun wq hq=>jB Tryz.underlying38 rfl rfl ((S.gr hq).blk (i:=1) rfl) rfl) ?_)
 first | refine j0 rfl ?_ | (refine yG rfl ?_; refine jW (kV Tryz.underlying38 Tryz.sizeOf44 rfl rfl sa_pr (by omega) (by omega)) ?_)
 first | refine j0 rfl ?_ | (refine yG rfl ?_; refine jW (jdr Tryz.underlying44 rfl Tryz.sizeOf2 rfl rfl sa_pr) ?_)
 first | refine j0 rfl ?_ | (refine yG rfl ?_; refine jV (fun wq hq=>j7 Tryz.underlying2 rfl rfl ((S.gr hq).rd (i:=6) rfl) (v:=.int .i64 (gw * gh:Nat)) rfl) ?_)
 first | refine j0 rfl ?_ | (refine yG rfl ?_; refine jW (jA rfl) ?_)
 first | refine j0 rfl ?_ | (refine yG rfl ?_; refine jW (jA rfl) ?_)
 first | refine j0 rfl ?_ | (refine yG rfl ?_; refine jW (yI rfl (by omega)) ?_)
 rw [ewh]
 first | refine j0 rfl ?_ | (refine yG rfl ?_; refine jW (yP (b:=false) rfl (bne_eq_false_iff_eq.2 (by omega))) ?_)
 iterate 2 refine jW (jA rfl) ?_
 first | refine j0 rfl ?_ | (refine yG rfl ?_; refine jW (jD Tryz.underlying41 rfl Tryz.sizeOf38 rfl rfl) ?_)
 first | refine j0 rfl ?_ | (refine yG rfl ?_; refine jV (fun wq hq=>jB Tryz.underlying38 rfl rfl ((S.gr hq).blk (i:=1) rfl) rfl) ?_)
 first | refine j0 rfl ?_ | (refine yG rfl ?_; refine jW (kV Tryz.underlying38 Tryz.sizeOf44 rfl rfl sa_pr (by omega) (by omega)) ?_)
 first | refine j0 rfl ?_ | (refine yG rfl ?_; refine jW (jdr Tryz.underlying44 rfl Tryz.sizeOf27 rfl rfl sa_pr) ?_)
 first | refine j0 rfl ?_ | (refine yG rfl ?_; refine jV (fun wq hq=>yY Tryz.underlying27 rfl (Tryz.sizeOf27 _) rfl ((S.gr hq).rd (i:=6) rfl) (cs:=[.int .i64 0,.int .i64 0,.int .i64 ((gw:Int) - 1),.int .i64 ((gh:Int) - 1)]) rfl rfl rfl) ?_)
 first | refine j0 rfl ?_ | (refine yG rfl ?_; refine jV (fun wq hq=>jT Tryz.underlying27 rfl (Tryz.sizeOf27 _) rfl ((S.gr hq).blk (i:=3) rfl) rfl rfl) ?_)
 refine yG rfl ?_
 refine jW (jak (r:=false) rfl rfl (by rw [decide_eq_true ⟨rfl,rfl,rfl,rfl⟩]; rfl)) ?_
 iterate 2 refine jW (jA rfl) ?_
 first | refine j0 rfl ?_ | (refine yG rfl ?_; refine jW (jD Tryz.underlying41 rfl Tryz.sizeOf2 rfl rfl) ?_)
 first | refine j0 rfl ?_ | (refine yG rfl ?_; refine jV (fun wq hq=>jB Tryz.underlying2 rfl rfl ((S.gr hq).blk (i:=0) rfl) rfl) ?_)
 first | refine j0 rfl ?_ | (refine yG rfl ?_; refine jW (yP (b:=false) rfl (bne_eq_false_iff_eq.2 (by omega))) ?_)
 iterate 2 refine jW (jA rfl) ?_
 first | refine j0 rfl ?_ | (refine yG rfl ?_; refine jW (jD Tryz.underlying41 rfl Tryz.sizeOf36 rfl rfl) ?_)
 first | refine j0 rfl ?_ | (refine yG rfl ?_; refine jV (fun wq hq=>jB Tryz.underlying36 rfl rfl ((S.gr hq).blk (i:=0) rfl) rfl) ?_)
 first | refine j0 rfl ?_ | (refine yG rfl ?_; refine jW (yP (b:=false) rfl (bne_eq_false_iff_eq.2 (by omega))) ?_)
 refine jW (jA rfl) ?_
 refine yJ ?_
 intro w25_ g25_
 have S:=S.gr g25_
 first | refine jR ?_ | (refine jG ?_; show CW _ _ _ _ _ _) | refine jG ?_
 repeat refine jJ ?_
 refine jM rfl ?_
 repeat refine jJ ?_
 refine j5 ?_
 try show CW _ _ _ _ _ _
 have hti:=fun W=>jeG gw gh ⟨hw.1,by omega⟩ ⟨hh.1,by omega⟩ W
 have hsa:=jjC (T:=[_,_,_,_,_,_,_]) hH hv' hF (S.sw (A:=[_,_,_,_,_,_,_]) (B:=M))
 have hq9:acr gh * acr gw<=3 * 3:=Nat.mul_le_mul (by unfold acr; omega) (by unfold acr; omega)
 generalize acr gh * acr gw=qn at *
 repeat refine jJ ?_
 refine jI ?_
 refine jE (jA rfl) ?_
 refine jE (jN (pl:=[(0,1),(1,4),(5,2),(7,2),(9,1),(10,1),(11,1),(12,1),(13,1)]) Tryz.underlying34 Tryz.zeroValue34 (fun w=>by kernel_rfl) rfl rfl) ?_
 refine jC rfl (hsa) ?_
 rintro _ w26_ ⟨q4,hq4,rfl,S⟩
 have S:=S.sw (A:=M) (B:=[_,_,_,_,_,_,_])
 refine jF (jL Tryz.zeroValue41 rfl) S ?_
 intro b_r4 w28_ g28_ S
 refine jH (i:=0) S rfl (Tryz.sizeOf41 _) rfl rfl rfl rfl rfl rfl ?_
 intro w29_ S
 first | refine jR ?_ | (refine jG ?_; show CW _ _ _ _ _ _) | refine jG ?_
 dsimp only [RpS.cs,Sv.v] at S
 repeat refine jJ ?_
 refine jI ?_
 iterate 2 refine jE (jA rfl) ?_
 refine jC rfl (hti _) ?_
 rintro _ w30_ ⟨rfl,g30_⟩
 have S:=S.gr g30_
 iterate 5 refine jE (jA rfl) ?_
 first | refine jR ?_ | (refine jG ?_; show CW _ _ _ _ _ _) | refine jG ?_
 repeat refine jJ ?_
 refine jI ?_
 refine jE (jD Tryz.underlying41 rfl Tryz.sizeOf36 rfl rfl) ?_
 refine j3 (jB Tryz.underlying36 rfl rfl (S.blk (i:=0) rfl) rfl) ?_
 refine jE (yP (b:=false) rfl (bne_eq_false_iff_eq.2 (by omega))) ?_
 refine jE (jA rfl) ?_
 first | refine jK rfl ?_ | (refine jQ rfl ?_; refine jE (jD Tryz.underlying41 rfl Tryz.sizeOf31 rfl rfl) ?_)
 first | refine jK rfl ?_ | (refine jQ rfl ?_; refine j3 (jB Tryz.underlying31 rfl rfl (S.blk (i:=0) rfl) rfl) ?_)
 first | refine jK rfl ?_ | (refine jQ rfl ?_; refine jE (gZ Tryz.underlying31 rfl) ?_)
 first | refine jK rfl ?_ | (refine jQ rfl ?_; refine jE (jA rfl) ?_)
 first | refine jK rfl ?_ | (refine jQ rfl ?_; refine jE (yI rfl (by omega)) ?_)
 first | refine jK rfl ?_ | (refine jQ rfl ?_; refine jE (yI rfl (by omega)) ?_)
 first | refine jK rfl ?_ | (refine jQ rfl ?_; refine jE (jA rfl) ?_)
 first | refine jK rfl ?_ | (refine jQ rfl ?_; refine jE (yI rfl (by omega)) ?_)
 first | refine jK rfl ?_ | (refine jQ rfl ?_; refine jE (yI rfl (by omega)) ?_)
 first | refine jK rfl ?_ | (refine jQ rfl ?_; refine jE (yI rfl (by omega)) ?_)
 first | refine jK rfl ?_ | (refine jQ rfl ?_; refine jE (yP (b:=false) rfl (decide_eq_false (by omega))) ?_)
 refine jE (jA rfl) ?_
 first | refine jR ?_ | (refine jG ?_; show CW _ _ _ _ _ _) | refine jG ?_
 repeat refine jJ ?_
 refine jM rfl ?_
 repeat refine jJ ?_
 refine j5 ?_
 try show CW _ _ _ _ _ _
 by_cases hin:(0<=a0/\a0 < gw)/\(0<=a1/\a1 < gh)/\(0<=b0/\b0 < gw)/\0<=b1/\b1 < gh
 ·obtain ⟨ax,rfl⟩:∃ n:Nat,a0=n:=⟨a0.toNat,by omega⟩
  obtain ⟨ay,rfl⟩:∃ n:Nat,a1=n:=⟨a1.toNat,by omega⟩
  obtain ⟨bx,rfl⟩:∃ n:Nat,b0=n:=⟨b0.toNat,by omega⟩
  obtain ⟨cy,rfl⟩:∃ n:Nat,b1=n:=⟨b1.toNat,by omega⟩
  have ha:ax < gw/\ay < gh:=by omega
  have hb:bx < gw/\cy < gh:=by omega
  repeat refine jJ ?_
  refine jI ?_
  refine jE (jD Tryz.underlying23 rfl Tryz.sizeOf2 rfl rfl) ?_
  refine j3 (jB Tryz.underlying2 rfl rfl (S.blk (i:=6) rfl) rfl) ?_
  refine jE (yP (b:=false) rfl (decide_eq_false (by omega))) ?_
  refine jE (jA rfl) ?_
  first | refine jK rfl ?_ | (refine jQ rfl ?_; refine jE (jD Tryz.underlying23 rfl Tryz.sizeOf2 rfl rfl) ?_)
  first | refine jK rfl ?_ | (refine jQ rfl ?_; refine j3 (jB Tryz.underlying2 rfl rfl (S.blk (i:=6) rfl) rfl) ?_)
  first | refine jK rfl ?_ | (refine jQ rfl ?_; refine jE (yP (b:=false) rfl (decide_eq_false (by omega))) ?_)
  iterate 2 refine jE (jA rfl) ?_
  first | refine jK rfl ?_ | (refine jQ rfl ?_; refine jE (jD Tryz.underlying23 rfl Tryz.sizeOf2 rfl rfl) ?_)
  first | refine jK rfl ?_ | (refine jQ rfl ?_; refine j3 (jB Tryz.underlying2 rfl rfl (S.blk (i:=5) rfl) rfl) ?_)
  first | refine jK rfl ?_ | (refine jQ rfl ?_; refine jE (yP (b:=false) rfl (decide_eq_false (by omega))) ?_)
  iterate 2 refine jE (jA rfl) ?_
  first | refine jK rfl ?_ | (refine jQ rfl ?_; refine jE (jD Tryz.underlying23 rfl Tryz.sizeOf2 rfl rfl) ?_)
  first | refine jK rfl ?_ | (refine jQ rfl ?_; refine j3 (jB Tryz.underlying2 rfl rfl (S.blk (i:=5) rfl) rfl) ?_)
  first | refine jK rfl ?_ | (refine jQ rfl ?_; refine jE (yP (b:=false) rfl (decide_eq_false (by omega))) ?_)
  iterate 2 refine jE (jA rfl) ?_
  first | refine jK rfl ?_ | (refine jQ rfl ?_; refine jE (jD Tryz.underlying23 rfl Tryz.sizeOf2 rfl rfl) ?_)
  first | refine jK rfl ?_ | (refine jQ rfl ?_; refine j3 (jB Tryz.underlying2 rfl rfl (S.blk (i:=6) rfl) rfl) ?_)
  first | refine jK rfl ?_ | (refine jQ rfl ?_; refine jE (jA rfl) ?_)
  first | refine jK rfl ?_ | (refine jQ rfl ?_; refine jE (yP (b:=false) rfl (decide_eq_false (by omega))) ?_)
  iterate 2 refine jE (jA rfl) ?_
  first | refine jK rfl ?_ | (refine jQ rfl ?_; refine jE (jD Tryz.underlying23 rfl Tryz.sizeOf2 rfl rfl) ?_)
  first | refine jK rfl ?_ | (refine jQ rfl ?_; refine j3 (jB Tryz.underlying2 rfl rfl (S.blk (i:=5) rfl) rfl) ?_)
  first | refine jK rfl ?_ | (refine jQ rfl ?_; refine jE (jA rfl) ?_)
  first | refine jK rfl ?_ | (refine jQ rfl ?_; refine jE (yP (b:=false) rfl (decide_eq_false (by omega))) ?_)
  iterate 2 refine jE (jA rfl) ?_
  first | refine jK rfl ?_ | (refine jQ rfl ?_; refine jE (jD Tryz.underlying23 rfl Tryz.sizeOf2 rfl rfl) ?_)
  first | refine jK rfl ?_ | (refine jQ rfl ?_; refine j3 (jB Tryz.underlying2 rfl rfl (S.blk (i:=6) rfl) rfl) ?_)
  first | refine jK rfl ?_ | (refine jQ rfl ?_; refine jE (jA rfl) ?_)
  first | refine jK rfl ?_ | (refine jQ rfl ?_; refine jE (yP (b:=false) rfl (decide_eq_false (by omega))) ?_)
  iterate 2 refine jE (jA rfl) ?_
  first | refine jK rfl ?_ | (refine jQ rfl ?_; refine jE (jD Tryz.underlying23 rfl Tryz.sizeOf2 rfl rfl) ?_)
  first | refine jK rfl ?_ | (refine jQ rfl ?_; refine j3 (jB Tryz.underlying2 rfl rfl (S.blk (i:=5) rfl) rfl) ?_)
  first | refine jK rfl ?_ | (refine jQ rfl ?_; refine jE (jA rfl) ?_)
  first | refine jK rfl ?_ | (refine jQ rfl ?_; refine jE (yP (b:=false) rfl (decide_eq_false (by omega))) ?_)
  refine jE (jA rfl) ?_
  first | refine jR ?_ | (refine jG ?_; show CW _ _ _ _ _ _) | refine jG ?_
  repeat refine jJ ?_
  refine jM rfl ?_
  repeat refine jJ ?_
  refine j5 ?_
  try show CW _ _ _ _ _ _
  repeat refine jJ ?_
  refine TI.jlI (C:=(C22 No W _ 4 9 10 11 (fun v=>v=RpS.v { code:=0,yes:=true }) (fun v=>∃ q:Sv,v=RpS.v { code:=0,n:=(((ax:Int) - bx).natAbs:Int)+((ay:Int) - cy).natAbs,cells:=q }) 41 [.int .i64 0,.int .i64 0,.bool false,.int .i64 0,.int .i64 0,.slice none 0 0,.slice none 0 0,.slice none 0 0,.slice none 0 0,.slice none 0 0])) [4,9,10,11] [0,1,2,3,5,6,7,8] [12,13] (fun i=>if i=9 then [4] else []) (by kernel_rfl) (by kernel_rfl) (C22.start ((S.sw (A:=[_,_,_,_,_,_,_,_]) (B:=M)).gr (Gr.drew _))) ?_
  simp only [yT,j6,List.drop_succ_cons,List.drop_zero]
  refine TI.jX rfl (jA rfl) ?_
  refine TI.qF rfl (fun τ wq hq=>jT Tryz.underlying23 rfl (Tryz.sizeOf23 _) rfl (((C22.st hq).sw (A:=M) (B:=[_,_,_,_,_,_,_,_])).blk (i:=6) rfl) rfl rfl) ?_
  refine TI.qF rfl (fun τ wq hq=>jT Tryz.underlying23 rfl (Tryz.sizeOf23 _) rfl (((C22.st hq).sw (A:=M) (B:=[_,_,_,_,_,_,_,_])).blk (i:=5) rfl) rfl rfl) ?_
  refine TI.jX rfl (jN (pl:=[(0,1),(1,4),(5,2),(7,2),(9,1),(10,1),(11,1),(12,1),(13,1)]) Tryz.underlying34 Tryz.zeroValue34 (fun w=>by kernel_rfl) rfl rfl) ?_
  refine TI.jX rfl (jA rfl) ?_
  refine TI.qF rfl (fun τ wq hq=>jT Tryz.underlying23 rfl (Tryz.sizeOf23 _) rfl (((C22.st hq).sw (A:=M) (B:=[_,_,_,_,_,_,_,_])).blk (i:=6) rfl) rfl rfl) ?_
  refine TI.qF rfl (fun τ wq hq=>jT Tryz.underlying23 rfl (Tryz.sizeOf23 _) rfl (((C22.st hq).sw (A:=M) (B:=[_,_,_,_,_,_,_,_])).blk (i:=5) rfl) rfl rfl) ?_
  refine TI.jX rfl (jN (pl:=[(0,1),(1,4),(5,2),(7,2),(9,1),(10,1),(11,1),(12,1),(13,1)]) Tryz.underlying34 Tryz.zeroValue34 (fun w=>by kernel_rfl) rfl rfl) ?_
  refine TI.yV ?_
  refine ⟨⟨⟨rfl,?_⟩,⟨rfl,?_⟩,⟨rfl,?_⟩,⟨rfl,?_⟩,trivial⟩,?_⟩
  ·intro σ w hC hn hp
   refine dP 4 (.inl rfl) rfl rfl rfl rfl rfl hC rfl (fun Qq S=>?_)
   exact (jjG hv' ha hb hF (St.mid S)).mono fun v w' ⟨hv,S'⟩=>⟨fun _=>hv,fun h=>(by cases h),St.mid S'⟩
  ·intro σ w hC hn hp
   refine dP 9 (.inr rfl) rfl rfl rfl rfl rfl hC rfl (fun Qq S=>?_)
   exact (jjD ha hb hF (St.mid S)).mono fun v w' ⟨q,hv,S'⟩=>⟨fun h=>(by cases h),fun _=>⟨q,hv⟩,St.mid S'⟩
  ·intro σ w hC hn hp
   exact rF hC hn rfl rfl rfl Tryz.zeroValue41 rfl
  ·intro σ w hC hn hp
   exact rE hC hn rfl rfl rfl Tryz.zeroValue41 rfl
  rintro σ V hV w31_ hz
  dsimp only [TI.jcO]
  obtain ⟨b_x,b_y,e1,e2,h1,⟨q5,h2⟩,S⟩:=hz.fin (hV _ (.head _)) (hV _ (.tail _ (.head _))) (hV _ (.tail _ (.tail _ (.head _)))) (hV _ (.tail _ (.tail _ (.tail _ (.head _)))))
  dsimp only at e1 e2 h1 h2
  rw [e1,e2,h1,h2]
  replace S:=(St.mid (A:=[_,_]) (B:=M) S).sw (A:=M) (B:=[_,_,_,_,_,_,_,_,_,_])
  refine jH (i:=0) S rfl (Tryz.sizeOf41 _) rfl rfl rfl rfl rfl rfl ?_
  intro w32_ S
  refine jH (i:=1) S rfl (Tryz.sizeOf41 _) rfl rfl rfl rfl rfl rfl ?_
  intro w33_ S
  first | refine jR ?_ | (refine jG ?_; show CW _ _ _ _ _ _) | refine jG ?_
  dsimp only [RpS.cs,Sv.v] at S
  repeat refine jJ ?_
  refine TI.jlI (C:=(C22 No W _ 4 8 9 10 (fun v=>∃ q:Sv,v=RpS.v { code:=0,n:=(gw * gh:Nat),cells:=q }) (fun v=>∃ (A:Option Addr) (c:Nat),v=RpS.v { code:=0,ax:=ax,ay:=ay,cells:=⟨A,1,c⟩ }) 41 [.int .i64 0,.int .i64 0,.bool false,.int .i64 0,.int .i64 0,.slice none 0 0,.slice none 0 0,.slice none 0 0,.slice none 0 0,.slice none 0 0])) [4,8,9,10] [0,1,2,3,5,6,7] [11,12] (fun i=>if i=8 then [4] else []) (by kernel_rfl) (by kernel_rfl) (C22.start ((S.sw (A:=[_,_,_,_,_,_,_,_,_,_]) (B:=M)).gr (Gr.drew _))) ?_
  simp only [yT,j6,List.drop_succ_cons,List.drop_zero]
  refine TI.jX rfl (jA rfl) ?_
  refine TI.qF rfl (fun τ wq hq=>jT Tryz.underlying23 rfl (Tryz.sizeOf23 _) rfl (((C22.st hq).sw (A:=M) (B:=[_,_,_,_,_,_,_,_,_,_])).blk (i:=8) rfl) rfl rfl) ?_
  refine TI.jX rfl (jN (pl:=[(0,1),(1,1)]) Tryz.underlying23 Tryz.zeroValue23 (fun w=>by kernel_rfl) rfl rfl) ?_
  refine TI.jX rfl (jN (pl:=[(0,1),(1,4),(5,2),(7,2),(9,1),(10,1),(11,1),(12,1),(13,1)]) Tryz.underlying34 Tryz.zeroValue34 (fun w=>by kernel_rfl) rfl rfl) ?_
  refine TI.jX rfl (jA rfl) ?_
  refine TI.qF rfl (fun τ wq hq=>jT Tryz.underlying23 rfl (Tryz.sizeOf23 _) rfl (((C22.st hq).sw (A:=M) (B:=[_,_,_,_,_,_,_,_,_,_])).blk (i:=8) rfl) rfl rfl) ?_
  refine TI.jX rfl (jN (pl:=[(0,1),(1,4),(5,2),(7,2),(9,1),(10,1),(11,1),(12,1),(13,1)]) Tryz.underlying34 Tryz.zeroValue34 (fun w=>by kernel_rfl) rfl rfl) ?_
  refine TI.yV ?_
  refine ⟨⟨⟨rfl,?_⟩,⟨rfl,?_⟩,⟨rfl,?_⟩,⟨rfl,?_⟩,trivial⟩,?_⟩
  ·intro σ w hC hn hp
   refine dP 4 (.inl rfl) rfl rfl rfl rfl rfl hC rfl (fun Qq S=>?_)
   exact (jjF hv' ha hF (St.mid S)).mono fun v w' ⟨q,hv,S'⟩=>⟨fun _=>⟨q,hv⟩,fun h=>(by cases h),St.mid S'⟩
  ·intro σ w hC hn hp
   refine dP 8 (.inr rfl) rfl rfl rfl rfl rfl hC rfl (fun Qq S=>?_)
   exact (jjE ha hF (St.mid S)).mono fun v w' ⟨A,c,hv,S'⟩=>⟨fun h=>(by cases h),fun _=>⟨A,c,hv⟩,St.mid S'⟩
  ·intro σ w hC hn hp
   exact rF hC hn rfl rfl rfl Tryz.zeroValue41 rfl
  ·intro σ w hC hn hp
   exact rE hC hn rfl rfl rfl Tryz.zeroValue41 rfl
  rintro σ V hV w34_ hz
  dsimp only [TI.jcO]
  obtain ⟨b_c,b_d,e1,e2,⟨q6,h1⟩,⟨A7,c7,h2⟩,S⟩:=hz.fin (hV _ (.head _)) (hV _ (.tail _ (.head _))) (hV _ (.tail _ (.tail _ (.head _)))) (hV _ (.tail _ (.tail _ (.tail _ (.head _)))))
  dsimp only at e1 e2 h1 h2
  rw [e1,e2,h1,h2]
  replace S:=(St.mid (A:=[_,_]) (B:=M) S).sw (A:=M) (B:=[_,_,_,_,_,_,_,_,_,_,_,_])
  refine jH (i:=0) S rfl (Tryz.sizeOf41 _) rfl rfl rfl rfl rfl rfl ?_
  intro w35_ S
  refine jH (i:=1) S rfl (Tryz.sizeOf41 _) rfl rfl rfl rfl rfl rfl ?_
  intro w36_ S
  first | refine jR ?_ | (refine jG ?_; show CW _ _ _ _ _ _) | refine jG ?_
  dsimp only [RpS.cs,Sv.v] at S
  repeat refine jJ ?_
  refine yB (C:=fun wq=>Gr w36_ wq) [0,1,2,3,4,5,6,7,8,9,10,11] [] (by kernel_rfl) (by kernel_rfl) (Gr.drew _) ?_
  simp only [j6,List.drop_succ_cons,List.drop_zero]
  refine jW (jD Tryz.underlying23 rfl Tryz.sizeOf2 rfl rfl) ?_
  refine jV (fun wq hq=>jB Tryz.underlying2 rfl rfl ((S.gr hq).blk (i:=10) rfl) rfl) ?_
  refine jW (jD Tryz.underlying23 rfl Tryz.sizeOf2 rfl rfl) ?_
  refine jV (fun wq hq=>jB Tryz.underlying2 rfl rfl ((S.gr hq).blk (i:=9) rfl) rfl) ?_
  refine jW (yI rfl (by omega)) ?_
  refine jW (jD Tryz.underlying23 rfl Tryz.sizeOf2 rfl rfl) ?_
  refine jV (fun wq hq=>jB Tryz.underlying2 rfl rfl ((S.gr hq).blk (i:=10) rfl) rfl) ?_
  refine jW (jD Tryz.underlying23 rfl Tryz.sizeOf2 rfl rfl) ?_
  refine jV (fun wq hq=>jB Tryz.underlying2 rfl rfl ((S.gr hq).blk (i:=9) rfl) rfl) ?_
  refine jW (yI rfl (by omega)) ?_
  iterate 2 refine jW (jA rfl) ?_
  refine yJ ?_
  intro w37_ g37_
  have S:=S.gr g37_
  first | refine jR ?_ | (refine jG ?_; show CW _ _ _ _ _ _) | refine jG ?_
  repeat refine jJ ?_
  refine jI ?_
  iterate 2 refine jE (jA rfl) ?_
  first | refine jR ?_ | (refine jG ?_; show CW _ _ _ _ _ _) | refine jG ?_
  repeat refine jJ ?_
  refine qL (M:=fun e w=>SL e [(0,.int .i64 gw),(1,.int .i64 gh),(8,.pointer (some ⟨b_a,0,none⟩)),(19,.pointer (some ⟨b_x,0,none⟩)),(20,.pointer (some ⟨b_y,0,none⟩)),(21,.pointer (some ⟨b_c,0,none⟩)),(22,.pointer (some ⟨b_d,0,none⟩)),(23,.int .i64 (((ax:Int) - bx).natAbs:Int)),(24,.int .i64 ((ay:Int) - cy))]/\St No W w ([.blk b_c 41 (RpS.cs { code:=0,n:=(gw * gh:Nat),cells:=q6 }),.blk b_d 41 (RpS.cs { code:=0,ax:=ax,ay:=ay,cells:=⟨A7,1,c7⟩ }),.blk b_x 41 (RpS.cs { code:=0,yes:=true }),.blk b_y 41 (RpS.cs { code:=0,n:=(((ax:Int) - bx).natAbs:Int)+((ay:Int) - cy).natAbs,cells:=q5 }),.blk b_a 23 [.int .i64 ax,.int .i64 ay]])) ?_ ?_
  ·skip
   repeat refine jJ ?_
   refine xI rfl (fun c1=>?_) (fun c1=>?_)
   ·try simp only [decide_eq_true_eq,decide_eq_false_iff_not,beq_iff_eq,bne_iff_ne,beq_eq_false_iff_ne,bne_eq_false_iff_eq,Bool.not_eq_true',Bool.not_eq_false',ne_eq,Decidable.not_not,Int.natCast_inj,Int.ofNat_lt,Int.ofNat_le,gt_iff_lt,ge_iff_le,Int.not_lt,Int.not_le] at c1
    repeat refine jJ ?_
    refine jI ?_
    refine jE (jA rfl) ?_
    refine jE (yI rfl (by omega)) ?_
    refine jE (jA rfl) ?_
    first | refine jR ?_ | (refine jG ?_; show CW _ _ _ _ _ _) | refine jG ?_
    exact ⟨⟨rfl,rfl,rfl,rfl,rfl,rfl,rfl,ie (by omega),rfl,trivial⟩,S.sub (.cons_cons _ (.cons_cons _ (.cons_cons _ (.cons_cons _ (.cons _ (.cons _ (.cons _ (.cons _ (.cons _ (.cons _ (.cons_cons _ (List.nil_sublist _))))))))))))⟩
   ·try simp only [decide_eq_true_eq,decide_eq_false_iff_not,beq_iff_eq,bne_iff_ne,beq_eq_false_iff_ne,bne_eq_false_iff_eq,Bool.not_eq_true',Bool.not_eq_false',ne_eq,Decidable.not_not,Int.natCast_inj,Int.ofNat_lt,Int.ofNat_le,gt_iff_lt,ge_iff_le,Int.not_lt,Int.not_le] at c1
    repeat refine jJ ?_
    refine j5 ?_
    try show CW _ _ _ _ _ _
    exact ⟨⟨rfl,rfl,rfl,rfl,rfl,rfl,rfl,ie (by omega),rfl,trivial⟩,S.sub (.cons_cons _ (.cons_cons _ (.cons_cons _ (.cons_cons _ (.cons _ (.cons _ (.cons _ (.cons _ (.cons _ (.cons _ (.cons_cons _ (List.nil_sublist _))))))))))))⟩
  ·rintro e9 w9 ⟨hsl,S⟩
   rw [hsl.fold]
   dsimp only [RpS.cs,Sv.v] at S
   repeat refine jJ ?_
   refine jI ?_
   iterate 2 refine jE (jA rfl) ?_
   first | refine jR ?_ | (refine jG ?_; show CW _ _ _ _ _ _) | refine jG ?_
   repeat refine jJ ?_
   refine qL (M:=fun e w=>SL e [(0,.int .i64 gw),(1,.int .i64 gh),(8,.pointer (some ⟨b_a,0,none⟩)),(19,.pointer (some ⟨b_x,0,none⟩)),(20,.pointer (some ⟨b_y,0,none⟩)),(21,.pointer (some ⟨b_c,0,none⟩)),(22,.pointer (some ⟨b_d,0,none⟩)),(23,.int .i64 (((ax:Int) - bx).natAbs:Int)),(24,.int .i64 (((ay:Int) - cy).natAbs:Int))]/\St No W w ([.blk b_c 41 (RpS.cs { code:=0,n:=(gw * gh:Nat),cells:=q6 }),.blk b_d 41 (RpS.cs { code:=0,ax:=ax,ay:=ay,cells:=⟨A7,1,c7⟩ }),.blk b_x 41 (RpS.cs { code:=0,yes:=true }),.blk b_y 41 (RpS.cs { code:=0,n:=(((ax:Int) - bx).natAbs:Int)+((ay:Int) - cy).natAbs,cells:=q5 }),.blk b_a 23 [.int .i64 ax,.int .i64 ay]])) ?_ ?_
   ·skip
    repeat refine jJ ?_
    refine xI rfl (fun c2=>?_) (fun c2=>?_)
    ·try simp only [decide_eq_true_eq,decide_eq_false_iff_not,beq_iff_eq,bne_iff_ne,beq_eq_false_iff_ne,bne_eq_false_iff_eq,Bool.not_eq_true',Bool.not_eq_false',ne_eq,Decidable.not_not,Int.natCast_inj,Int.ofNat_lt,Int.ofNat_le,gt_iff_lt,ge_iff_le,Int.not_lt,Int.not_le] at c2
     repeat refine jJ ?_
     refine jI ?_
     refine jE (jA rfl) ?_
     refine jE (yI rfl (by omega)) ?_
     refine jE (jA rfl) ?_
     first | refine jR ?_ | (refine jG ?_; show CW _ _ _ _ _ _) | refine jG ?_
     exact ⟨⟨rfl,rfl,rfl,rfl,rfl,rfl,rfl,rfl,ie (by omega),trivial⟩,S⟩
    ·try simp only [decide_eq_true_eq,decide_eq_false_iff_not,beq_iff_eq,bne_iff_ne,beq_eq_false_iff_ne,bne_eq_false_iff_eq,Bool.not_eq_true',Bool.not_eq_false',ne_eq,Decidable.not_not,Int.natCast_inj,Int.ofNat_lt,Int.ofNat_le,gt_iff_lt,ge_iff_le,Int.not_lt,Int.not_le] at c2
     repeat refine jJ ?_
     refine j5 ?_
     try show CW _ _ _ _ _ _
     exact ⟨⟨rfl,rfl,rfl,rfl,rfl,rfl,rfl,rfl,ie (by omega),trivial⟩,S⟩
   ·rintro e8 w8 ⟨hsl,S⟩
    rw [hsl.fold]
    dsimp only [RpS.cs,Sv.v] at S
    repeat refine jJ ?_
    refine jI ?_
    refine jE (jD Tryz.underlying41 rfl Tryz.sizeOf36 rfl rfl) ?_
    refine j3 (jB Tryz.underlying36 rfl rfl (S.blk (i:=2) rfl) rfl) ?_
    refine jE (yP (b:=true) rfl (beq_iff_eq.2 (by omega))) ?_
    refine jE (jA rfl) ?_
    first | refine jK rfl ?_ | (refine jQ rfl ?_; refine jE (jD Tryz.underlying41 rfl Tryz.sizeOf4 rfl rfl) ?_)
    first | refine jK rfl ?_ | (refine jQ rfl ?_; refine j3 (jB Tryz.underlying4 rfl rfl (S.blk (i:=2) rfl) rfl) ?_)
    iterate 2 refine jE (jA rfl) ?_
    first | refine jK rfl ?_ | (refine jQ rfl ?_; refine jE (jD Tryz.underlying41 rfl Tryz.sizeOf36 rfl rfl) ?_)
    first | refine jK rfl ?_ | (refine jQ rfl ?_; refine j3 (jB Tryz.underlying36 rfl rfl (S.blk (i:=3) rfl) rfl) ?_)
    first | refine jK rfl ?_ | (refine jQ rfl ?_; refine jE (yP (b:=true) rfl (beq_iff_eq.2 (by omega))) ?_)
    iterate 2 refine jE (jA rfl) ?_
    first | refine jK rfl ?_ | (refine jQ rfl ?_; refine jE (jD Tryz.underlying41 rfl Tryz.sizeOf2 rfl rfl) ?_)
    first | refine jK rfl ?_ | (refine jQ rfl ?_; refine j3 (jB Tryz.underlying2 rfl rfl (S.blk (i:=3) rfl) rfl) ?_)
    first | refine jK rfl ?_ | (refine jQ rfl ?_; refine jE (jA rfl) ?_)
    first | refine jK rfl ?_ | (refine jQ rfl ?_; refine jE (jA rfl) ?_)
    first | refine jK rfl ?_ | (refine jQ rfl ?_; refine jE (yI rfl (by omega)) ?_)
    first | refine jK rfl ?_ | (refine jQ rfl ?_; refine jE (yP (b:=true) rfl (beq_iff_eq.2 (by omega))) ?_)
    iterate 2 refine jE (jA rfl) ?_
    first | refine jK rfl ?_ | (refine jQ rfl ?_; refine jE (jD Tryz.underlying41 rfl Tryz.sizeOf36 rfl rfl) ?_)
    first | refine jK rfl ?_ | (refine jQ rfl ?_; refine j3 (jB Tryz.underlying36 rfl rfl (S.blk (i:=0) rfl) rfl) ?_)
    first | refine jK rfl ?_ | (refine jQ rfl ?_; refine jE (yP (b:=true) rfl (beq_iff_eq.2 (by omega))) ?_)
    iterate 2 refine jE (jA rfl) ?_
    first | refine jK rfl ?_ | (refine jQ rfl ?_; refine jE (jD Tryz.underlying41 rfl Tryz.sizeOf2 rfl rfl) ?_)
    first | refine jK rfl ?_ | (refine jQ rfl ?_; refine j3 (jB Tryz.underlying2 rfl rfl (S.blk (i:=0) rfl) rfl) ?_)
    first | refine jK rfl ?_ | (refine jQ rfl ?_; refine jE (jA rfl) ?_)
    first | refine jK rfl ?_ | (refine jQ rfl ?_; refine jE (jA rfl) ?_)
    first | refine jK rfl ?_ | (refine jQ rfl ?_; refine jE (yI rfl (by omega)) ?_)
    rw [ewh]
    first | refine jK rfl ?_ | (refine jQ rfl ?_; refine jE (yP (b:=true) rfl (beq_iff_eq.2 (by omega))) ?_)
    iterate 2 refine jE (jA rfl) ?_
    first | refine jK rfl ?_ | (refine jQ rfl ?_; refine jE (jD Tryz.underlying41 rfl Tryz.sizeOf36 rfl rfl) ?_)
    first | refine jK rfl ?_ | (refine jQ rfl ?_; refine j3 (jB Tryz.underlying36 rfl rfl (S.blk (i:=1) rfl) rfl) ?_)
    first | refine jK rfl ?_ | (refine jQ rfl ?_; refine jE (yP (b:=true) rfl (beq_iff_eq.2 (by omega))) ?_)
    iterate 2 refine jE (jA rfl) ?_
    first | refine jK rfl ?_ | (refine jQ rfl ?_; refine jE (jD Tryz.underlying41 rfl Tryz.sizeOf37 rfl rfl) ?_)
    first | refine jK rfl ?_ | (refine jQ rfl ?_; refine j3 (jB Tryz.underlying37 rfl rfl (S.blk (i:=1) rfl) rfl) ?_)
    first | refine jK rfl ?_ | (refine jQ rfl ?_; refine jE (gZ Tryz.underlying37 rfl) ?_)
    first | refine jK rfl ?_ | (refine jQ rfl ?_; refine jE (yP (b:=true) rfl (beq_iff_eq.2 (by omega))) ?_)
    iterate 2 refine jE (jA rfl) ?_
    first | refine jK rfl ?_ | (refine jQ rfl ?_; refine jE (jD Tryz.underlying41 rfl Tryz.sizeOf23 rfl rfl) ?_)
    first | refine jK rfl ?_ | (refine jQ rfl ?_; refine j3 (jT Tryz.underlying23 rfl (Tryz.sizeOf23 _) rfl (S.blk (i:=1) rfl) rfl rfl) ?_)
    first | refine jK rfl ?_ | (refine jQ rfl ?_; refine j3 (jT Tryz.underlying23 rfl (Tryz.sizeOf23 _) rfl (S.blk (i:=4) rfl) rfl rfl) ?_)
    refine jQ rfl ?_
    refine jE (jfi (r:=true) rfl rfl (decide_eq_true ⟨rfl,rfl⟩)) ?_
    iterate 2 refine jE (jA rfl) ?_
    first | refine jR ?_ | (refine jG ?_; show CW _ _ _ _ _ _) | refine jG ?_
    repeat refine jJ ?_
    refine kO ?_
    repeat first | refine uT ?_ | refine xE ?_
    exact yD rfl ⟨rfl,S.out⟩
 ·have hor:a0 < 0\/(¬ a0 < 0/\a1 < 0)\/(¬ a0 < 0/\¬ a1 < 0/\b0 < 0)\/(¬ a0 < 0/\¬ a1 < 0/\¬ b0 < 0/\b1 < 0)\/(¬ a0 < 0/\¬ a1 < 0/\¬ b0 < 0/\¬ b1 < 0/\a0 >= gw)\/(¬ a0 < 0/\¬ a1 < 0/\¬ b0 < 0/\¬ b1 < 0/\¬ a0 >= gw/\b0 >= gw) \/
    (¬ a0 < 0/\¬ a1 < 0/\¬ b0 < 0/\¬ b1 < 0/\¬ a0 >= gw/\¬ b0 >= gw/\a1 >= gh)\/(¬ a0 < 0/\¬ a1 < 0/\¬ b0 < 0/\¬ b1 < 0/\¬ a0 >= gw/\¬ b0 >= gw/\¬ a1 >= gh/\b1 >= gh):=by omega
  rcases hor with h | h | h | h | h | h | h | h
  all_goals
   repeat refine jJ ?_
   refine jI ?_
   refine jE (jD Tryz.underlying23 rfl Tryz.sizeOf2 rfl rfl) ?_
   refine j3 (jB Tryz.underlying2 rfl rfl (S.blk (i:=6) rfl) rfl) ?_
   first | refine jE (yP (b:=false) rfl (decide_eq_false (by omega))) ?_ | refine jE (yP (b:=true) rfl (decide_eq_true (by omega))) ?_
   refine jE (jA rfl) ?_
   first | refine jK rfl ?_ | (refine jQ rfl ?_; refine jE (jD Tryz.underlying23 rfl Tryz.sizeOf2 rfl rfl) ?_)
   first | refine jK rfl ?_ | (refine jQ rfl ?_; refine j3 (jB Tryz.underlying2 rfl rfl (S.blk (i:=6) rfl) rfl) ?_)
   first | refine jK rfl ?_ | (refine jQ rfl ?_; first | refine jE (yP (b:=false) rfl (decide_eq_false (by omega))) ?_ | refine jE (yP (b:=true) rfl (decide_eq_true (by omega))) ?_)
   iterate 2 refine jE (jA rfl) ?_
   first | refine jK rfl ?_ | (refine jQ rfl ?_; refine jE (jD Tryz.underlying23 rfl Tryz.sizeOf2 rfl rfl) ?_)
   first | refine jK rfl ?_ | (refine jQ rfl ?_; refine j3 (jB Tryz.underlying2 rfl rfl (S.blk (i:=5) rfl) rfl) ?_)
   first | refine jK rfl ?_ | (refine jQ rfl ?_; first | refine jE (yP (b:=false) rfl (decide_eq_false (by omega))) ?_ | refine jE (yP (b:=true) rfl (decide_eq_true (by omega))) ?_)
   iterate 2 refine jE (jA rfl) ?_
   first | refine jK rfl ?_ | (refine jQ rfl ?_; refine jE (jD Tryz.underlying23 rfl Tryz.sizeOf2 rfl rfl) ?_)
   first | refine jK rfl ?_ | (refine jQ rfl ?_; refine j3 (jB Tryz.underlying2 rfl rfl (S.blk (i:=5) rfl) rfl) ?_)
   first | refine jK rfl ?_ | (refine jQ rfl ?_; first | refine jE (yP (b:=false) rfl (decide_eq_false (by omega))) ?_ | refine jE (yP (b:=true) rfl (decide_eq_true (by omega))) ?_)
   iterate 2 refine jE (jA rfl) ?_
   first | refine jK rfl ?_ | (refine jQ rfl ?_; refine jE (jD Tryz.underlying23 rfl Tryz.sizeOf2 rfl rfl) ?_)
   first | refine jK rfl ?_ | (refine jQ rfl ?_; refine j3 (jB Tryz.underlying2 rfl rfl (S.blk (i:=6) rfl) rfl) ?_)
   first | refine jK rfl ?_ | (refine jQ rfl ?_; refine jE (jA rfl) ?_)
   first | refine jK rfl ?_ | (refine jQ rfl ?_; first | refine jE (yP (b:=false) rfl (decide_eq_false (by omega))) ?_ | refine jE (yP (b:=true) rfl (decide_eq_true (by omega))) ?_)
   iterate 2 refine jE (jA rfl) ?_
   first | refine jK rfl ?_ | (refine jQ rfl ?_; refine jE (jD Tryz.underlying23 rfl Tryz.sizeOf2 rfl rfl) ?_)
   first | refine jK rfl ?_ | (refine jQ rfl ?_; refine j3 (jB Tryz.underlying2 rfl rfl (S.blk (i:=5) rfl) rfl) ?_)
   first | refine jK rfl ?_ | (refine jQ rfl ?_; refine jE (jA rfl) ?_)
   first | refine jK rfl ?_ | (refine jQ rfl ?_; first | refine jE (yP (b:=false) rfl (decide_eq_false (by omega))) ?_ | refine jE (yP (b:=true) rfl (decide_eq_true (by omega))) ?_)
   iterate 2 refine jE (jA rfl) ?_
   first | refine jK rfl ?_ | (refine jQ rfl ?_; refine jE (jD Tryz.underlying23 rfl Tryz.sizeOf2 rfl rfl) ?_)
   first | refine jK rfl ?_ | (refine jQ rfl ?_; refine j3 (jB Tryz.underlying2 rfl rfl (S.blk (i:=6) rfl) rfl) ?_)
   first | refine jK rfl ?_ | (refine jQ rfl ?_; refine jE (jA rfl) ?_)
   first | refine jK rfl ?_ | (refine jQ rfl ?_; first | refine jE (yP (b:=false) rfl (decide_eq_false (by omega))) ?_ | refine jE (yP (b:=true) rfl (decide_eq_true (by omega))) ?_)
   iterate 2 refine jE (jA rfl) ?_
   first | refine jK rfl ?_ | (refine jQ rfl ?_; refine jE (jD Tryz.underlying23 rfl Tryz.sizeOf2 rfl rfl) ?_)
   first | refine jK rfl ?_ | (refine jQ rfl ?_; refine j3 (jB Tryz.underlying2 rfl rfl (S.blk (i:=5) rfl) rfl) ?_)
   first | refine jK rfl ?_ | (refine jQ rfl ?_; refine jE (jA rfl) ?_)
   first | refine jK rfl ?_ | (refine jQ rfl ?_; first | refine jE (yP (b:=false) rfl (decide_eq_false (by omega))) ?_ | refine jE (yP (b:=true) rfl (decide_eq_true (by omega))) ?_)
   refine jE (jA rfl) ?_
   first | refine jR ?_ | (refine jG ?_; show CW _ _ _ _ _ _) | refine jG ?_
   repeat refine jJ ?_
   refine yS rfl ?_
   repeat refine jJ ?_
   refine jI ?_
   refine jE (jA rfl) ?_
   first | refine jR ?_ | (refine jG ?_; show CW _ _ _ _ _ _) | refine jG ?_
   repeat refine jJ ?_
   refine kO ?_
   repeat first | refine uT ?_ | refine xE ?_
   exact yD rfl ⟨rfl,S.out⟩
theorem jbB (hG:GL W) (hH:HalvesAt W) :
  Fn Tryz.prog 3 [ii wi,ii hi,ii v,.agg #[ii a0,ii a1],.agg #[ii b0,ii b1]] W (yK (.bool true) W):=by
 by_cases hc:wi < 1\/hi < 1\/wi > 40\/hi > 40\/wi * hi > 300\/kN v=false
 ·exact jik hG hc
 ·simp only [not_or,Int.not_lt,Bool.not_eq_false] at hc
  obtain ⟨h1,h2,h3,h4,h5,h6⟩:=hc
  obtain ⟨gw,rfl⟩:∃ n:Nat,wi=n:=⟨wi.toNat,by omega⟩
  obtain ⟨gh,rfl⟩:∃ n:Nat,hi=n:=⟨hi.toNat,by omega⟩
  have h7:((gw * gh:Nat):Int)<=300:=by push_cast; omega
  exact jjX hG hH (by omega) (by omega) (by omega) h6
end
end
end Go.Proofs.YtipnifjmhlcehaaGreatDoor
