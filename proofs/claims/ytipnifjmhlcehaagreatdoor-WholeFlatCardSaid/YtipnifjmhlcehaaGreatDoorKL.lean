/- hachuretop.WholeFlat: a part of the proof that the law returns true at every input (PastA, PastB, StoreA, StoreB, StoreC, StoreP, StoreD, StoreE, Arr); no condition of its own. -/
import Derived.Deep.AppendSrc
import Derived.Test.YtipnifjmhlcehaaGreatDoorKK
import Derived.Test.YtipnifjmhlcehaaGreatDoorKC
import Derived.Test.YtipnifjmhlcehaaGreatDoorKD
import Derived.Test.YtipnifjmhlcehaaGreatDoorKJ
import Derived.Test.YtipnifjmhlcehaaGreatDoorKG
set_option linter.unusedVariables false
set_option linter.unusedSimpArgs false
set_option maxRecDepth 100000
set_option maxHeartbeats 16000000
namespace Go.Proofs.YtipnifjmhlcehaaGreatDoor
section
open Go.RowKit
section
variable {P : Program} {e : Nat → Value} {w : World} {d : Option Tmp} {ty : TypeId} {ps : String} {af : Array Edge}
theorem jaj {t el:TypeId} {x hi mx:Operand} {len cap k:Nat} {A:Option Addr} {kh km:IntKind} {n m:Nat} (hu:P.underlying t=some (.slice el)) (hz:∀ w,(sizeOf el).run P w=.ok k w) (hx:ev e x=.slice A len cap) (hh:ev e hi=.int kh n) (hm:ev e mx=.int km m)
  (h1:n<=m) (h2:m<=cap):OpV P e ⟨d,.slice t x none (some hi) (some mx),ty,ps,af,none⟩ (.slice A n m):=by
 intro w
 have hA:Option.map (fun x=>x.add 0) A=A:=by cases A <;> simp [Addr.add]
 simp [OpR,execOp,hx,hh,hm,Instr.sliceAt,Instr.slice,run_underlying hu,Instr.sliceBounds,run_sliceBound,h1,h2,hz,Nat.le_trans h1 h2]
 try (intro hc; cases A <;> simp [Addr.add])
theorem n3 {s x : Operand} {t el k bytes n m c2 : Nat} {A B : Option Addr} {z : Value} {xs ys : List Value} (hu : P.underlying t = some (.slice el)) (hI : (P.info? el).map (fun i => (i.zero, i.size, i.bytes)) = some (some z, k, bytes)) (hz : Nat.beq z.cells.size k = true)
    (hs : ev e s = .slice A n n) (hx : ev e x = .slice B m c2) (hxs : xs.length = n * k) (hR : Rd w A xs) (hn0 : A = none → n = 0) (hys : ys.length = m * k) (hm0 : 0 < m) (hk0 : 0 < k) (hRB : Rd w B ys) (h1 : (ys.all fun v => v.oneCell') = true) (hb : (n + m) * (bytes + 1) ≤ 140737488355328) :
    ∃ g c' w', (execOp (ev e) ⟨d, .call ⟨.builtin .append, #[s, x], #[t, t]⟩, ty, ps, af, none⟩).run P w = .ok (.value (.slice (some ⟨g, 0, none⟩) (n + m) c')) w' ∧ Row w' el k (some ⟨g, 0, none⟩) (n + m) c' (xs ++ ys) ∧ Gr w w' ∧ w.heap.size ≤ g := by
  obtain ⟨inf, hinf, hz0, hz1, hz2⟩ := info_parts hI
  obtain ⟨b2, o2, rfl⟩ := hRB.someA (by rw [hys]; exact Nat.mul_pos hm0 hk0)
  have hcB : ∀ (j : Nat) u, ys[j]? = some u → w.cell? ((⟨b2, o2, none⟩ : Addr).add j) = some u := fun j u hj => by
    rcases hRB with h | ⟨b, o, e1, _, hc⟩
    · rw [h] at hj; cases hj
    · cases e1; rw [kF]; exact hc j u hj
  have hsrc : Src P inf.size t (.slice (some ⟨b2, o2, none⟩) m c2) m ys w := Src.ofSlice w hu ⟨b2, o2, none⟩ m c2 ys (by rw [hz1]; exact hys) hcB (fun u hu => List.all_eq_true.1 h1 u hu)
  have hg' : n < n + m := by omega
  have hb1 : (n + m) * inf.bytes ≤ 140737488355328 := by rw [hz2]; exact Nat.le_trans (Nat.mul_le_mul_left _ (by omega)) hb
  have hb2 : n + m ≤ 140737488355328 := Nat.le_trans (Nat.le_mul_of_pos_right _ (by omega)) hb
  have hold : (Builtin.firstCells inf.size n (.slice A n n)).run P w.drew = .ok xs.toArray w.drew := by
    cases A with
    | none =>
      have := hn0 rfl
      subst this
      have hx0 : xs = [] := by simpa using hxs
      subst hx0
      rfl
    | some a =>
      rcases hR with h | ⟨b, o, e1, _, hc⟩
      · subst h
        have : n = 0 := by rcases Nat.eq_zero_or_pos n with h | h
                           · exact h
                           · have := Nat.mul_pos h hk0; simp at hxs; omega
        subst this
        exact run_firstCells_some w.drew inf.size 0 a 0 0 [] (by simp) (fun j u hj => by cases hj)
      · cases e1
        exact run_firstCells_some w.drew inf.size n ⟨b, o, none⟩ n n xs (by rw [hz1, hxs]) (fun j u hj => by rw [kF]; exact hc j u hj)
  have hrun := run_append_grow_src (P := P) w t t ty el inf z hu hinf hz0 A n n xs hold (.slice (some ⟨b2, o2, none⟩) m c2) m ys hsrc hg' (by omega) (growslice_fits hg' hb1)
  have hge := grownCap_ge w (n + m) n el
  have hcm : grownCap w (n + m) n el ≤ maxLen := grownCap_le_maxLen w (n + m) n el (by unfold maxLen; omega)
  refine ⟨w.heap.size, grownCap w (n + m) n el, w.drew.alloc (.cells ((xs ++ ys).toArray ++ Builtin.zeroCells z.cells (grownCap w (n + m) n el - (n + m))) el), ?_, ?_, ?_, Nat.le_refl _⟩
  · simp [execOp, resolve, invoke, builtin, hs, hx, hrun]
  · have hz' := Nat.eq_of_beq_eq_true hz
    refine Row.mk_ (l := ((xs ++ ys).toArray ++ Builtin.zeroCells z.cells (grownCap w (n + m) n el - (n + m))).toList) ?_ hge ?_ ?_ hcm
    · unfold Blk
      rw [Array.toArray_toList]
      exact heap_alloc_new w.drew _
    · rw [Array.length_toList, Array.size_append, size_zeroCells, hz']
      simp only [List.size_toArray, List.length_append, hxs, hys]
      rw [← Nat.add_mul, ← Nat.add_mul]
      congr 1
      omega
    · rw [Array.toList_append, List.take_left' (by simp only [List.length_append, hxs, hys]; rw [← Nat.add_mul])]
  · exact (Gr.drew w).trans (Gr.alloc _ _)
end
structure PtA where
 x0:Nat
 y0:Nat
 x1:Nat
 y1:Nat
 B1:Option Addr
 k1:Nat
 B2:Option Addr
 k2:Nat
 V1:List Int
 V2:List Int
def PtA.cells (x:PtA):List Value:=[ii x.x0,ii x.y0,ii x.x1,ii x.y1,.slice x.B1 x.V1.length x.k1,.slice x.B2 x.V2.length x.k2]
structure PtG (gw gh:Nat) (x:PtA):Prop where
 hx:x.x0<=x.x1/\x.x1 < gw
 hy:x.y0<=x.y1/\x.y1 < gh
 l1:x.V1.length=(x.y1+1 - x.y0) * (x.x1+1 - x.x0)
 l2:x.V2.length=(x.y1+1 - x.y0) * (x.x1+1 - x.x0)
 m1:∀ v ∈ x.V1,kN v=true
 m2:∀ v ∈ x.V2,kN v=true
def PtA.ok (w:World) (x:PtA):Prop:=Row w 2 1 x.B1 x.V1.length x.k1 (yC x.V1)/\Row w 2 1 x.B2 x.V2.length x.k2 (yC x.V2)
def HA.pts (l:List PtA):HA:=⟨fun g=>∃ x ∈ l,kZ x.B1 g\/kZ x.B2 g,fun w=>∀ x ∈ l,x.ok w,fun _ _ h _ hR x hx=>⟨(hR x hx).1.keep (fun g hg=>h g ⟨x,hx,.inl hg⟩),(hR x hx).2.keep (fun g hg=>h g ⟨x,hx,.inr hg⟩)⟩,fun _ hR _ ⟨x,hx,hg⟩=>hg.elim (fun h=>(hR x hx).1.lt h) (fun h=>(hR x hx).2.lt h)⟩
section
variable {F : Nat → Prop} {W w : World} {L : List HA} {l : List PtA} {x : PtA}
theorem St.pts0 (S:St F W w L):St F W w (.pts []::L):=S.push (Gr.refl w) (h:=.pts []) (fun x hx=>by cases hx) (fun g ⟨x,hx,_⟩=>by cases hx)
theorem St.pts1 (S:St F W w (.row 2 1 x.B2 x.V2.length x.k2 (yC x.V2)::.row 2 1 x.B1 x.V1.length x.k1 (yC x.V1)::L)):St F W w (.pts [x]::L) :=
 S.two (h:=.pts [x]) (fun h1 h2 y hy=>by rw [List.mem_singleton.1 hy]; exact ⟨h2,h1⟩) (fun g ⟨y,hy,hg⟩=>by rw [List.mem_singleton.1 hy] at hg; exact hg.symm)
theorem St.ptsApp {l':List PtA} (S:St F W w (.pts l'::.pts l::L)):St F W w (.pts (l ++ l')::L) :=
 S.two (h:=.pts (l ++ l')) (fun h1 h2 y hy=>(List.mem_append.1 hy).elim (h2 y) (h1 y)) (fun g ⟨y,hy,hg⟩=>(List.mem_append.1 hy).elim (fun h=>.inr ⟨y,h,hg⟩) (fun h=>.inl ⟨y,h,hg⟩))
theorem PtG.ptok {gw gh n k1 k2:Nat} (hG:PtG gw gh x) (hw:gw<=1024) (hh:gh<=1024) (hn:n=x.V1.length) (hk1:k1=x.k1) (hk2:k2=x.k2) (h:x.ok w):PtOk w x.x0 x.y0 x.x1 x.y1 n k1 k2 x.B1 x.B2 x.V1 x.V2 :=
 ⟨⟨hG.hx.1,by have:=hG.hx; omega⟩,⟨hG.hy.1,by have:=hG.hy; omega⟩,hn.trans hG.l1,hn.symm,by rw [hn,hG.l1,hG.l2],hG.m1,hG.m2,h.1.rd,h.2.rd⟩
theorem jiS (l:List PtA):(l.flatMap PtA.cells).length=l.length * 6:=vK (f:=PtA.cells) (fun _=>rfl) l
theorem jb6:∀ (l:List PtA) (d:Nat),(l.flatMap PtA.cells).take (d * 6)=(l.take d).flatMap PtA.cells
 | [],d=>by simp
 | y::r,0=>by simp
 | y::r,d+1=>by
  rw [List.flatMap_cons,List.take_succ_cons,List.flatMap_cons,<-jb6 r d,Nat.succ_mul,Nat.add_comm (d * 6) 6]
  rw [List.take_append]
  have hl:(PtA.cells y).length=6:=rfl
  rw [hl,List.take_of_length_le (by omega),show 6+d * 6 - 6=d * 6 by omega]
end
section
variable {W : World} {B1 B2 : Option Addr} {n k1 k2 x0 y0 x1 y1 c : Nat} {V1 V2 : List Int} {A : Option Addr}
theorem jki (hP:PtOk W x0 y0 x1 y1 n k1 k2 B1 B2 V1 V2):Fn Tryz.prog 112 [ptV x0 y0 x1 y1 n k1 k2 B1 B2] W (fun v w'=>∃ A1 c1 A2 c2,v=ptV x0 y0 x1 y1 n c1 c2 A1 A2/\St No W w' [.row 2 1 A2 n c2 (yC V2),.row 2 1 A1 n c1 (yC V1)]):=by
 have hb:=fun w (g:Gr W w)=>ja0 (hP.gr g)
 have hb2:=fun w A1 c1 A2 c2 (h2:Rd w A1 (yC V2)) (h1:Rd w A2 (yC V1))=>ja0 (W:=w) (x0:=x0) (y0:=y0) (x1:=x1) (y1:=y1) (n:=n) (k1:=c1) (k2:=c2) (B1:=A1) (B2:=A2) (V1:=V2) (V2:=V1) ⟨hP.hx,hP.hy,hP.hn,hP.l2,hP.l1,hP.m2,hP.m1,h2,h1⟩
 unfold ptV at *
 have S:=St.start W
 refine zn Tryz.func112 Tryz.results112 Tryz.ntmps112 ?_
 refine zs ?_
 refine jF (jO rfl) S ?_
 intro b_p w2_ g2_ S
 refine jF (jL fN rfl) S ?_
 intro b_o w4_ g4_ S
 refine z ?_
 refine jC rfl (hb w4_ S.out) ?_
 rintro _ w5_ ⟨A1,c1,A2,c2,rfl,S2⟩
 have S:=S.app S2
 refine jC rfl (hb2 w5_ A1 c1 A2 c2 (S.rd (i:=1) rfl) (S.rd (i:=0) rfl)) ?_
 rintro _ w6_ ⟨A3,c3,A4,c4,rfl,S3⟩
 have S:=S.app S3
 refine jH (i:=4) S rfl (uC _) rfl rfl rfl rfl rfl rfl ?_
 intro w7_ S
 refine zq ?_
 exact v8 f6 rfl (uC _) rfl (S.blk (i:=4) rfl) rfl rfl ⟨A3,c3,A4,c4,rfl,S.sub (.cons_cons _ (.cons_cons _ (.cons _ (.cons _ (.cons _ (.cons _ .slnil))))))⟩
theorem jiU (h:n<=c):Fn Tryz.prog 354 [.slice A n c] W (yK (.slice A n n) W):=by
 have S:=St.start W
 refine zn Tryz.func354 Tryz.results354 Tryz.ntmps354 ?_
 iterate 6 refine z ?_
 refine jE (jaj q74 uC rfl rfl rfl (Nat.le_refl _) h) ?_
 refine z ?_
 refine zq ?_
 exact yD rfl ⟨rfl,S.out⟩
theorem jah:Fn Tryz.prog 16 [] W (fun v w'=>∃ b,v=pt b/\St No W w' [.blk b 76 [.slice none 0 0,ii 0]]):=by
 have S:=St.start W
 refine zn Tryz.func16 Tryz.results16 Tryz.ntmps16 ?_
 refine z ?_
 refine zs ?_
 refine jE (jN (pl:=[(0,1),(1,1)]) Tryz.underlying76 Tryz.zeroValue76 (fun w=>by kernel_rfl) rfl rfl) ?_
 refine jF (jO rfl) S ?_
 intro b_b w2_ g2_ S
 refine z ?_
 refine zq ?_
 exact yD rfl ⟨b_b,rfl,S⟩
end
end
section
open Go.RowKit
def CDid (F:Nat->Prop) (W:World) (pb:Nat) (lA:Option Addr) (l:List PtA) (lc done:Nat) (x0 y0 x1 y1:Nat) (V1 V2:List Int) (tl:List HA) (wq:World):List Value->Prop
 | []=>St F W wq (.blk pb 76 [.slice lA l.length lc,ii done]::.row 216 6 lA l.length lc (l.flatMap PtA.cells)::tl)
 | [m]=>∃ A1 c1 A2 c2,m=ptV x0 y0 x1 y1 V1.length c1 c2 A1 A2/\St F W wq (.row 2 1 A2 V1.length c2 (yC V2)::.row 2 1 A1 V1.length c1 (yC V1)::.blk pb 76 [.slice lA l.length lc,ii done]::.row 216 6 lA l.length lc (l.flatMap PtA.cells)::tl)
 | [b,m]=>∃ A1 c1 A2 c2 A3,m=ptV x0 y0 x1 y1 V1.length c1 c2 A1 A2/\b=.slice A3 1 1/\St F W wq (.row 216 6 A3 1 1 [ii x0,ii y0,ii x1,ii y1,.slice A1 V1.length c1,.slice A2 V1.length c2]::.row 2 1 A2 V1.length c2 (yC V2)::.row 2 1 A1 V1.length c1 (yC V1)::.blk pb 76 [.slice lA l.length lc,ii done]::.row 216 6 lA l.length lc (l.flatMap PtA.cells)::tl)
 | [u,b,m]=>∃ A1 c1 A2 c2 A4 c4,m=ptV x0 y0 x1 y1 V1.length c1 c2 A1 A2/\u=.slice A4 (done+1) c4/\St F W wq (.row 2 1 A2 V1.length c2 (yC V2)::.row 2 1 A1 V1.length c1 (yC V1)::.blk pb 76 [.slice lA l.length lc,ii done]::.row 216 6 A4 (done+1) c4 ((l.take done).flatMap PtA.cells ++ [ii x0,ii y0,ii x1,ii y1,.slice A1 V1.length c1,.slice A2 V1.length c2])::tl)
 | _=>False
section
variable {F : Nat → Prop} {W wq : World} {pb lc done x0 y0 x1 y1 : Nat} {lA : Option Addr} {l : List PtA} {V1 V2 : List Int} {tl : List HA}
theorem CDid.blkp:∀ {τ:List Value},CDid F W pb lA l lc done x0 y0 x1 y1 V1 V2 tl wq τ->Blk wq pb 76 [.slice lA l.length lc,ii done]
 | [],h=>St.blk (i:=0) h rfl
 | [m],⟨_,_,_,_,_,S⟩=>S.blk (i:=2) rfl
 | [b,m],⟨_,_,_,_,_,_,_,S⟩=>S.blk (i:=3) rfl
 | [u,b,m],⟨_,_,_,_,_,_,_,_,S⟩=>S.blk (i:=2) rfl
theorem CDid.okt {j:Nat} {x:HA} (hx:qP tl j=some x):∀ {τ:List Value},CDid F W pb lA l lc done x0 y0 x1 y1 V1 V2 tl wq τ->x.ok wq
 | [],h=>St.ok (i:=j+2) h hx
 | [m],⟨_,_,_,_,_,S⟩=>S.ok (i:=j+4) hx
 | [b,m],⟨_,_,_,_,_,_,_,S⟩=>S.ok (i:=j+5) hx
 | [u,b,m],⟨_,_,_,_,_,_,_,_,S⟩=>S.ok (i:=j+4) hx
theorem CDid.grow {w':World} (g:Gr wq w'):∀ {τ:List Value},CDid F W pb lA l lc done x0 y0 x1 y1 V1 V2 tl wq τ->CDid F W pb lA l lc done x0 y0 x1 y1 V1 V2 tl w' τ
 | [],h=>St.gr h g
 | [m],⟨a,b,c,d,e,S⟩=>⟨a,b,c,d,e,S.gr g⟩
 | [b,m],⟨a,b',c,d,e,f,h,S⟩=>⟨a,b',c,d,e,f,h,S.gr g⟩
 | [u,b,m],⟨a,b',c,d,e,f,h,i,S⟩=>⟨a,b',c,d,e,f,h,i,S.gr g⟩
variable {P : Program} {e : Nat → Value} {d : Option Tmp} {ty : TypeId} {ps : String} {af : Array Edge}
theorem jbC {v:Value} {t:TypeId} {parts:List (Nat × Operand)} {z:Value} {l0 r:List Value} (hq:CDid F W pb lA l lc done x0 y0 x1 y1 V1 V2 tl wq [v]) (hu:P.underlying t=some (.slice 216)) (hs:∀ w,(sizeOf 216).run P w=.ok 6 w) (hz:∀ w,(zeroValue 216).run P w=.ok z w) (hk:z.cells.toList.length=6)
  (h1:lay (fun i=>some (i * 6,6)) ((List.replicate 1 z.cells.toList).flatten) (evp e parts)=some l0) (h2:fzl l0=some r) (hl:Nat.beq r.length 6=true) (hr:∀ A1 c1 A2 c2,v=ptV x0 y0 x1 y1 V1.length c1 c2 A1 A2->r=[ii x0,ii y0,ii x1,ii y1,.slice A1 V1.length c1,.slice A2 V1.length c2]) :
  qM P e ⟨d,.buildSlice t 1 parts.toArray,ty,ps,af,none⟩ wq (fun b w'=>Gr wq w'/\CDid F W pb lA l lc done x0 y0 x1 y1 V1 V2 tl w' [b,v]):=by
 obtain ⟨A1,c1,A2,c2,rfl,S⟩:=hq
 obtain rfl:=hr A1 c1 A2 c2 rfl
 refine lD (k8 hu hs hz hk rfl rfl h1 h2) ?_
 refine ⟨Gr.alloc _ _,A1,c1,A2,c2,_,rfl,rfl,S.push (Gr.alloc _ _) (h:=.row 216 6 (some ⟨wq.heap.size,0,none⟩) 1 1 _) (Row.of_blk (Blk.new _ _ _) rfl (by unfold maxLen; omega)) (fun g hg=>?_)⟩
 have:wq.heap.size=g:=by injection hg
 omega
theorem jeE {s x:Operand} {t bytes:Nat} {z b v:Value} (hq:CDid F W pb lA l lc done x0 y0 x1 y1 V1 V2 tl wq [b,v]) (hd:done<=l.length) (hl:l.length<=1000) (hu:P.underlying t=some (.slice 216)) (hI:(P.info? 216).map (fun i=>(i.zero,i.size,i.bytes))=some (some z,6,bytes)) (hz:Nat.beq z.cells.size 6=true)
  (hs:ev e s=.slice lA done done) (hx:ev e x=b) (hb:(done+1) * (bytes+1)<=140737488355328) :
  qM P e ⟨d,.call ⟨.builtin .append,#[s,x],#[t,t]⟩,ty,ps,af,none⟩ wq (fun u w'=>Gr wq w'/\CDid F W pb lA l lc done x0 y0 x1 y1 V1 V2 tl w' [u,b,v]):=by
 obtain ⟨A1,c1,A2,c2,A3,rfl,rfl,S⟩:=hq
 have hR3:=(S.row (i:=0) rfl).rd
 have hRl:=S.row (i:=4) rfl
 have hR0:=hRl.take hd
 rw [jb6] at hR0
 have hn0:lA=none->done=0:=fun h=>by
  rcases hRl.form with ⟨_,h0,_⟩ | ⟨g,r,h2,_⟩
  ·omega
  ·rw [h] at h2; cases h2
 obtain ⟨g,c',w',hrun,hrow,hgr,hge⟩:=n3 (d:=d) (ty:=ty) (ps:=ps) (af:=af) (e:=e) (m:=1) (xs:=(l.take done).flatMap PtA.cells) hu hI hz hs hx (by rw [jiS,List.length_take,Nat.min_eq_left hd]) hR0.rd hn0 (by rfl) (by omega) (by omega) hR3 rfl hb
 refine lD hrun ⟨hgr,A1,c1,A2,c2,_,c',rfl,rfl,?_⟩
 have S:=S.drop 1
 exact S.set (i:=3) (h':=.row 216 6 (some ⟨g,0,none⟩) (done+1) c' _) rfl rfl (Fr.of_gr (F:=fun _=>False) hgr) (fun _ h=>h.elim) hrow (fun x hx=>.inr (by
  have h3:g=x:=by injection hx
  subst h3; exact hge))
theorem jfu:(Tryz.prog.info? 216).map (fun i=>(i.zero,i.size,i.bytes))=some (some (.agg #[ii 0,ii 0,ii 0,ii 0,.slice none 0 0,.slice none 0 0]),6,80):=by kernel_rfl
theorem jkl {w:World} {n k1 k2:Nat} {B1 B2:Option Addr} (hd:done<=l.length) (hl:l.length < 40) (hP:PtOk w x0 y0 x1 y1 n k1 k2 B1 B2 V1 V2)
  (S:St F W w (.blk pb 76 [.slice lA l.length lc,ii done]::.row 216 6 lA l.length lc (l.flatMap PtA.cells)::.pts l::tl)) :
  Fn Tryz.prog 349 [pt pb,ptV x0 y0 x1 y1 n k1 k2 B1 B2] w (fun v w'=>v=ii 0/\∃ (x:PtA) (lA':Option Addr) (lc':Nat),x.x0=x0/\x.y0=y0/\x.x1=x1/\x.y1=y1/\x.V1=V1/\x.V2=V2 /\
   St F W w' (.blk pb 76 [.slice lA' (l.take done ++ [x]).length lc',ii (l.take done ++ [x]).length]::.row 216 6 lA' (l.take done ++ [x]).length lc' ((l.take done ++ [x]).flatMap PtA.cells)::.pts (l.take done ++ [x])::tl)):=by
 have hn:=hP.pos
 have hri:=fun w' (g:Gr w w')=>jb9 (hP.gr g)
 have hlc:=(S.row (i:=1) rfl).cap
 have h1:=S.blk (i:=0) rfl
 have hP0:=hP
 obtain rfl:=hP.l1
 unfold ptV at hri ⊢
 have S1:=S
 clear S
 have G:=Gr.refl w
 have S:=St.start w
 refine zn Tryz.func349 Tryz.results349 Tryz.ntmps349 ?_
 refine zs ?_
 refine jF (jO rfl) S ?_
 intro b_p w2_ g2_ S
 iterate 5 refine z ?_
 refine jC rfl (hri w2_ S.out) ?_
 rintro _ w3_ ⟨rfl,g3_⟩
 have S:=S.gr g3_
 (iterate 5 refine z ?_); refine zf ?_; refine z ?_
 refine zc ?_
 refine jM rfl ?_
 refine zc ?_
 refine j5 ?_
 try show CW _ _ _ _ _ _
 have hPw:PtOk w3_ x0 y0 x1 y1 V1.length k1 k2 B1 B2 V1 V2:=hP0.gr S.out
 have S:=(S1.app S).perm_ (gX _ _ _ _).symm
 have hdn:(done:Int).toNat=done:=Int.toNat_natCast done
 have hown:=fun wq (g:Gr w3_ wq)=>jki (hPw.gr g)
 unfold ptV at hown
 refine zc ?_
 refine qQ (C:=(fun σ wq=>Gr w3_ wq/\CDid F W pb lA l lc done x0 y0 x1 y1 V1 V2 (.blk b_p 216 [ii x0,ii y0,ii x1,ii y1,.slice B1 V1.length k1,.slice B2 V1.length k2]::.pts l::tl) wq σ)) [12,13,14] [0,1,2,3,4,5,6,7,8,9,10,11,12,13,14] [15,16,17] (by kernel_rfl) (by kernel_rfl) ⟨Gr.drew _,S.gr (Gr.drew _)⟩ ?_
 simp only [yT,j6,List.drop_succ_cons,List.drop_zero]
 refine jX rfl (jA rfl) ?_
 refine jX rfl (jA rfl) ?_
 refine jX rfl (jA rfl) ?_
 refine jX rfl (jD Tryz.underlying76 rfl Tryz.sizeOf74 rfl rfl) ?_
 refine qF rfl (fun τ wq hq=>jB q74 rfl rfl (CDid.blkp hq.2) rfl) ?_
 refine jX rfl (jA rfl) ?_
 refine jX rfl (jA rfl) ?_
 refine jX rfl (jD Tryz.underlying76 rfl qz3 rfl rfl) ?_
 refine qF rfl (fun τ wq hq=>jB q3 rfl rfl (CDid.blkp hq.2) rfl) ?_
 refine jX rfl (wC (n:=(done:Nat)) q74 uC rfl rfl (by omega) (by omega)) ?_
 rw [hdn]
 refine vV rfl rfl (fun τ wq hq=>(jiU (W:=wq) (by omega)).mono (fun _ _ ⟨hv,hg⟩=>⟨hv,hq.1.trans hg,CDid.grow hg hq.2⟩)) ?_
 refine qF rfl (fun τ wq hq=>jT f6 rfl (uC _) rfl (CDid.okt (j:=0) rfl hq.2) rfl rfl) ?_
 refine jZ rfl rfl (fun wq hq=>uW rfl ((hown wq hq.1).mono (fun v w' ⟨A1,c1,A2,c2,hv,S2⟩=>⟨hq.1.trans S2.out,A1,c1,A2,c2,hv,St.app hq.2 S2⟩))) ?_
 rintro v4 w4 ⟨_,A1,c1,A2,c2,rfl,_⟩
 refine jZ rfl rfl (fun wq hq=>fA (jbC hq.2 q74 uC fN rfl rfl rfl rfl (fun A1 c1 A2 c2 h=>by unfold ptV at h; cases h; rfl)) (fun _ _ h=>⟨hq.1.trans h.1,h.2⟩)) ?_
 rintro v5 w5 ⟨_,_,_,_,_,A5,_,rfl,_⟩
 refine jZ rfl rfl (fun wq hq=>fA (jeE hq.2 hd (by omega) q74 jfu rfl rfl rfl (by omega)) (fun _ _ h=>⟨hq.1.trans h.1,h.2⟩)) ?_
 rintro v6 w6 ⟨_,_,_,_,_,A6,c6,_,rfl,_⟩
 refine yV ?_
 rintro w8 ⟨g8,A1,c1,A2,c2,A4,c4,e8,f8,S⟩
 cases e8
 cases f8
 refine z ?_; refine z ?_
 refine j8 (i:=2) S rfl (Tryz.sizeOf74 _) rfl rfl rfl rfl rfl rfl ?_
 intro w9 S
 refine ze ?_
 have hl2:=hP0.l2
 obtain ⟨x,hx⟩:∃ x:PtA,x=⟨x0,y0,x1,y1,A1,c1,A2,c2,V1,V2⟩:=⟨_,rfl⟩
 have hxc:([ii x0,ii y0,ii x1,ii y1,.slice A1 V1.length c1,.slice A2 V1.length c2]:List Value)=x.cells:=by rw [hx]; unfold PtA.cells; rw [hl2]
 have hfm:(l.take done).flatMap PtA.cells ++ x.cells=(l.take done ++ [x]).flatMap PtA.cells:=by rw [List.flatMap_append]; simp
 have hln:(l.take done ++ [x]).length=done+1:=by rw [List.length_append,List.length_take,Nat.min_eq_left hd]; rfl
 have S:St F W w9 (.row 2 1 x.B2 x.V2.length x.k2 (yC x.V2)::.row 2 1 x.B1 x.V1.length x.k1 (yC x.V1)::.blk pb 76 [.slice A6 (done+1) c6,ii done]::.row 216 6 A6 (done+1) c6 ((l.take done ++ [x]).flatMap PtA.cells)::.blk b_p 216 [ii x0,ii y0,ii x1,ii y1,.slice B1 V1.length k1,.slice B2 V1.length k2]::.pts l::tl):=by
  rw [<-hfm,<-hxc,hx]
  show St F W w9 (.row 2 1 A2 V2.length c2 (yC V2)::_)
  rw [hl2]
  exact S
 have S:=S.pts1
 have S:=S.perm_ (show (HA.pts [x]::.blk pb 76 [.slice A6 (done+1) c6,ii done]::.row 216 6 A6 (done+1) c6 ((l.take done ++ [x]).flatMap PtA.cells)::.blk b_p 216 [ii x0,ii y0,ii x1,ii y1,.slice B1 V1.length k1,.slice B2 V1.length k2]::.pts l::tl).Perm
  (.pts [x]::.pts l::.blk pb 76 [.slice A6 (done+1) c6,ii done]::.row 216 6 A6 (done+1) c6 ((l.take done ++ [x]).flatMap PtA.cells)::.blk b_p 216 [ii x0,ii y0,ii x1,ii y1,.slice B1 V1.length k1,.slice B2 V1.length k2]::tl) from .cons _ (List.perm_middle (l₁:=[_,_,_])))
 have S:=S.ptsApp
 have S:=S.as_ (i:=0) (h':=.pts (l.take done ++ [x])) rfl rfl (fun h y hy=>h y ((List.mem_append.1 hy).elim (fun h=>List.mem_append_left _ (List.mem_of_mem_take h)) (List.mem_append_right _))) (fun g ⟨y,hy,hg⟩=>⟨y,(List.mem_append.1 hy).elim (fun h=>List.mem_append_left _ (List.mem_of_mem_take h)) (List.mem_append_right _),hg⟩)
 (iterate 5 refine z ?_); refine zf ?_; iterate 8 refine z ?_
 refine j8 (i:=1) S rfl (qz3 _) rfl rfl rfl rfl rfl rfl ?_
 intro w5_ S
 refine z ?_
 refine zq ?_
 refine yD rfl ⟨rfl,x,A6,c6,by rw [hx],by rw [hx],by rw [hx],by rw [hx],by rw [hx],by rw [hx],?_⟩
 rw [hln]
 have S:=S.perm_ ((List.perm_middle (l₁:=[_,_]) (a:=HA.pts (l.take done ++ [x])) (l₂:=_)).symm)
 exact S.sub (.cons_cons _ (.cons_cons _ (.cons_cons _ (.cons _ (List.Sublist.refl tl)))))
theorem jkh {l:List PtA} {j:Nat} {x:PtA} (h:l[j]?=some x):((l.flatMap PtA.cells).drop ((j:Int).toNat * 6)).take 6=x.cells:=by
 rw [Int.toNat_natCast]
 exact uE (f:=PtA.cells) (fun _=>rfl) h
theorem jdj {w:World} {x:PtA} {gw gh:Nat} (hgw:gw<=1024) (hgh:gh<=1024) (hd:done+1<=l.length) (hl:l.length < 1000) (hx:l[done]?=some x) (hX:PtG gw gh x)
  (S:St F W w (.blk pb 76 [.slice lA l.length lc,ii (done+1:Nat)]::.row 216 6 lA l.length lc (l.flatMap PtA.cells)::.pts l::tl)) :
  Fn Tryz.prog 48 [pt pb] w (fun v w'=>∃ A1 c1 A2 c2,v=.tuple #[ptV x.x0 x.y0 x.x1 x.y1 x.V1.length c1 c2 A1 A2,ii 0] /\
   St F W w' (.row 2 1 A2 x.V1.length c2 (yC x.V1)::.row 2 1 A1 x.V1.length c1 (yC x.V2)::.blk pb 76 [.slice lA l.length lc,ii done]::.row 216 6 lA l.length lc (l.flatMap PtA.cells)::.pts l::tl)):=by
 have sa_r:yH lA:=(S.row (i:=1) rfl).someA (by omega)
 have hl12:x.V2.length=x.V1.length:=by rw [hX.l1,hX.l2]
 have hxc:x.cells=[ii x.x0,ii x.y0,ii x.x1,ii x.y1,.slice x.B1 x.V1.length x.k1,.slice x.B2 x.V1.length x.k2]:=by unfold PtA.cells; rw [hl12]
 have hat:=jkh hx
 rw [hxc] at hat
 have e1:((done+1:Nat):Int) - 1=(done:Nat):=by omega
 have hbk:=fun wq (h:x.ok wq)=>ja0 (hX.ptok (n:=x.V1.length) (k1:=x.k1) (k2:=x.k2) hgw hgh rfl rfl rfl h)
 unfold ptV at *
 refine zn Tryz.func48 Tryz.results48 Tryz.ntmps48 ?_
 refine zs ?_
 refine jF (jL fN rfl) S ?_
 intro b_o w2_ g2_ S
 (iterate 8 refine z ?_); refine zf ?_; (iterate 5 refine z ?_); refine zr ?_
 rw [e1]
 refine z ?_; refine z ?_
 refine j8 (i:=1) S rfl (qz3 _) rfl rfl rfl rfl rfl rfl ?_
 intro w3_ S
 refine zc ?_
 refine yB (C:=fun wq=>Gr w3_ wq) [0,1,2,3,4,5,6,7] [8,9,10,11,12] (by kernel_rfl) (by kernel_rfl) (Gr.drew _) ?_
 simp only [j6,List.drop_succ_cons,List.drop_zero]
 iterate 3 refine y ?_
 refine jV (fun wq hq=>jB q74 rfl rfl ((S.gr hq).blk (i:=1) rfl) rfl) ?_
 iterate 3 refine y ?_
 refine jV (fun wq hq=>jB q3 rfl rfl ((S.gr hq).blk (i:=1) rfl) rfl) ?_
 refine yJ ?_
 intro w4_ g4_
 have S:=S.gr g4_
 refine zx ?_
 refine j3 (yY f6 rfl (uC _) rfl (S.rd (i:=2) rfl) hat rfl rfl) ?_
 refine jC rfl (hbk w4_ ((S.ok (i:=3) (h:=.pts l) rfl) x (List.mem_of_getElem? hx))) ?_
 rintro _ w5_ ⟨A1,c1,A2,c2,rfl,S2⟩
 have S:=S.app S2
 refine jH (i:=2) S rfl (uC _) rfl rfl rfl rfl rfl rfl ?_
 intro w6_ S
 refine z ?_
 refine zq ?_
 refine wQ f6 rfl (uC _) rfl (S.blk (i:=2) rfl) rfl rfl rfl ⟨A1,c1,A2,c2,rfl,S.sub (.cons_cons _ (.cons_cons _ (.cons _ (List.Sublist.refl _))))⟩
end
end
section
open Go.RowKit
def jjP (dd:TypeDesc):Bool:=match dd with | .pointer _=>false | _=>true
section
variable {P : Program} {w : World} {e : Nat → Value} {d : Option Tmp} {ty : TypeId} {ps : String} {af : Array Edge}
theorem cW {n:Nat} {t:TypeId} {f:FuncId} {name:String} {u:Value} {dd:TypeDesc} (hm:(P.info? t).map (fun i=>(i.methods.find? (fun m=>m.name == name)).map (fun m=>(m.path,m.func)))=some (some (#[],some (f,false)))) (hu:P.underlying t=some dd)
  (hd:jjP dd=true):(method (n+1) t u name).run P w=.ok (f,u) w:=by
 obtain ⟨i,hi,h1⟩:=Option.map_eq_some_iff.1 hm
 obtain ⟨m,hm,h2⟩:=Option.map_eq_some_iff.1 h1
 injection h2 with h3 h4
 rw [method]
 cases dd <;> first | (cases hd; done) | simp [typeInfo,hi,hm,h3,h4,follow,receiverAt,run_underlying hu,Place.get]
def n8 (want:Array (String × TypeId)) (got:Array Method):List (String × TypeId):=want.toList.filter fun (name,sig)=>!got.any fun m=>m.name == name && m.sig == sig
theorem mF {l:List String} (h:Instr.least l=none):l=[]:=by
 cases l with
 | nil=>rfl
 | cons a l=>cases h
theorem bP {want:Array (String × TypeId)} {got:Array Method}:Instr.missingMethod want got=none ↔ (n8 want got).isEmpty=true:=by
 unfold Instr.missingMethod
 show (Instr.least (((n8 want got).map (·.1)).partition (·.contains (Char.ofNat 46))).2 <|> Instr.least ((((n8 want got).map (·.1)).partition (·.contains (Char.ofNat 46))).1.map fun id => (id.splitOn ".").getLastD id)) = none ↔ _
 generalize n8 want got=l
 rw [List.partition_eq_filter_filter]
 constructor
 ·intro h
  have h1:Instr.least (List.filter (not ∘ fun x=>x.contains (Char.ofNat 46)) (l.map (·.1)))=none:=by
   cases e:Instr.least (List.filter (not ∘ fun x=>x.contains (Char.ofNat 46)) (l.map (·.1))) with
   | none=>rfl
   | some s=>simp only [e] at h; cases h
  simp only [h1] at h
  have h2 : Instr.least (List.map (fun id => (id.splitOn ".").getLastD id) (List.filter (fun x => x.contains (Char.ofNat 46)) (l.map (·.1)))) = none := h
  have h3:=mF h1
  have h4:=List.map_eq_nil_iff.1 (mF h2)
  cases l with
  | nil=>rfl
  | cons a l =>
   exfalso
   have h5:=List.filter_eq_nil_iff.1 h3 a.1 (by simp)
   have h6:=List.filter_eq_nil_iff.1 h4 a.1 (by simp)
   apply h5
   show (!(a.1.contains (Char.ofNat 46)))=true
   revert h6
   cases a.1.contains (Char.ofNat 46) <;> simp
 ·intro h
  rw [List.isEmpty_iff.1 h]
  rfl
theorem g9 {x:Operand} {ts t t':TypeId} {v:Value} {want:Array (String × TypeId)} {b:Bool} (hu:P.underlying t=some (.interface want)) (hx:ev e x=.iface t' v) (hm:(P.info? t').map (fun i=>(n8 want i.methods).isEmpty)=some b) (hz:∀ w,(zeroValue t).run P w=.ok .nilIface w) :
  OpV P e ⟨d,.typeAssert x ts t true,ty,ps,af,none⟩ (.tuple #[if b then .iface t' v else .nilIface,.bool b]):=by
 obtain ⟨i,hi,h1⟩:=Option.map_eq_some_iff.1 hm
 intro w
 cases b with
 | true =>
  have:=bP.2 h1
  simp [OpR,execOp,hx,Instr.typeAssert,run_underlying hu,typeInfo,hi,this]
 | false =>
  cases h:Instr.missingMethod want i.methods with
  | none=>rw [bP.1 h] at h1; cases h1
  | some m=>simp [OpR,execOp,hx,Instr.typeAssert,run_underlying hu,typeInfo,hi,h,hz]
theorem jd9 {t t' ti:TypeId} {x:Operand} {v:Value} {want:Array (String × TypeId)} (hu:P.underlying t=some (.interface want)) (hx:ev e x=.iface ti v):OpV P e ⟨d,.binOp .eql t x (.const .nilIface) t',ty,ps,af,none⟩ (.bool false):=by
 intro w
 have h2:ev e (.const .nilIface)=.nilIface:=rfl
 have h3:∀ n:Nat,(Op.equalIn (n+1) t (.iface ti v) .nilIface).run P w=.ok false w:=fun n=>by
  unfold Op.equalIn
  simp [run_underlying hu]
 have h4:(Op.equal t (.iface ti v) .nilIface).run P w=.ok false w:=h3 9999
 simp [OpR,execOp,hx,h2,eqGuard,binOp,h4]
end
structure Sv where
 A:Option Addr
 n:Nat
 c:Nat
def Sv.v (s:Sv):Value:=.slice s.A s.n s.c
def Sv.nil:Sv:=⟨none,0,0⟩
structure OpS where
 k:Int
 x0:Int
 y0:Int
 x1:Int
 y1:Int
 ax:Int
 ay:Int
 bx:Int
 by_:Int
 n:Int
 m:Int
 vs:Sv
 bs:Sv
 bd:Sv
def OpS.cs (o:OpS):List Value:=[ii o.k,ii o.x0,ii o.y0,ii o.x1,ii o.y1,ii o.ax,ii o.ay,ii o.bx,ii o.by_,ii o.n,ii o.m,o.vs.v,o.bs.v,o.bd.v]
def OpS.v (o:OpS):Value:=.agg #[ii o.k,ii o.x0,ii o.y0,ii o.x1,ii o.y1,ii o.ax,ii o.ay,ii o.bx,ii o.by_,ii o.n,ii o.m,o.vs.v,o.bs.v,o.bd.v]
structure RpS where
 code:Int
 n:Int:=0
 yes:Bool:=false
 ax:Int:=0
 ay:Int:=0
 cells:Sv:=.nil
 values:Sv:=.nil
 parts:Sv:=.nil
 bytes:Sv:=.nil
 lines:Sv:=.nil
def RpS.cs (r:RpS):List Value:=[ii r.code,ii r.n,.bool r.yes,ii r.ax,ii r.ay,r.cells.v,r.values.v,r.parts.v,r.bytes.v,r.lines.v]
def RpS.v (r:RpS):Value:=.agg #[ii r.code,ii r.n,.bool r.yes,ii r.ax,ii r.ay,r.cells.v,r.values.v,r.parts.v,r.bytes.v,r.lines.v]
theorem St.mid {F:Nat->Prop} {W w:World} {A B C:List HA} (S:St F W w (A ++ (B ++ C))):St F W w (B ++ (A ++ C)):=by
 refine S.perm_ ?_
 rw [<-List.append_assoc,<-List.append_assoc]
 exact List.perm_append_comm.append_right C
def uF (c:Bool) (f:FuncId) (kb:Nat):Value:=.func (.func f) #[] (if c then #[pt kb] else #[])
section
variable {F : Nat → Prop} {W w : World} {L0 tl : List HA} {α : Type} {Lx : α → List HA} {V : α → RpS} {sb : Nat} {gp lp op pp : Option Addr} {stamp : Int} {o : OpS} {t : TypeId} {f fdo : FuncId}
def OfK (k:Int) (t:TypeId) (c:Bool) (f:FuncId):Prop:=∀ w,Fn Tryz.prog 12 [ii k] w (fun v w'=>∃ kb,v=.iface t (uF c f kb)/\St No w w' [.blk kb 3 [ii k]])
theorem jju (b1 c:Bool) {dd:TypeDesc} (hgp:b1=false->∃ a,gp=some a) (hof:OfK o.k t c f)
  (hI1 : (Tryz.prog.info? t).map (fun i => (n8 #[("hachure/store.bare", 1), ("hachure/store.do", 65)] i.methods).isEmpty) = some b1)
  (hI2 : (Tryz.prog.info? t).map (fun i => (n8 #[("hachure/store.do", 65), ("hachure/store.needs", 64)] i.methods).isEmpty) = some false)
  (hm : (Tryz.prog.info? t).map (fun i => (i.methods.find? (fun m => m.name == "hachure/store.do")).map (fun m => (m.path, m.func))) = some (some (#[], some (fdo, false)))) (hut : Tryz.prog.underlying t = some dd) (hdd : jjP dd = true)
  (hdo:∀ kb tl' w',St F W w' (.blk sb 60 [.pointer gp,.pointer lp,.pointer op,ii stamp,.pointer pp]::L0 ++ (.blk kb 3 [ii o.k]::tl')) ->
   Fn Tryz.prog fdo [uF c f kb,pt sb,o.v] w' (fun v w''=>∃ x,v=(V x).v/\St F W w'' (Lx x ++ (.blk kb 3 [ii o.k]::tl'))))
  (S:St F W w (.blk sb 60 [.pointer gp,.pointer lp,.pointer op,ii stamp,.pointer pp]::L0 ++ tl)) :
  Fn Tryz.prog 7 [pt sb,o.v] w (fun v w'=>∃ x,v=(V x).v/\St F W w' (Lx x ++ tl)):=by
 cases b1
 obtain ⟨ga,rfl⟩:=hgp rfl
 all_goals cases c
 all_goals
  refine zn Tryz.func7 Tryz.results7 Tryz.ntmps7 ?_
  refine zs ?_
  refine jF (jO rfl) S ?_
  intro b_op w2_ g2_ S
  refine jF (jL zP rfl) S ?_
  intro b_rp w4_ g4_ S
  iterate 4 refine z ?_
  refine jC rfl (hof _) ?_
  rintro _ w5_ ⟨kb,rfl,S2⟩
  have S:=S.app S2
  refine z ?_; refine z ?_
  refine jE (jd9 Tryz.underlying50 rfl) ?_
  refine z ?_
  refine jE (g9 Tryz.underlying53 rfl hI1 Tryz.zeroValue53) ?_
  iterate 5 refine jE (jA rfl) ?_
  first | refine jR ?_ | (refine jG ?_; show CW _ _ _ _ _ _) | refine jG ?_
  repeat refine jJ ?_
  refine jI ?_
  iterate 3 refine jE (jA rfl) ?_
  first | refine jK rfl ?_ | (refine jQ rfl ?_; refine jE (jA rfl) ?_)
  first | refine jK rfl ?_ | (refine jQ rfl ?_; refine jE (jA rfl) ?_)
  first | refine jK rfl ?_ | (refine jQ rfl ?_; refine jE (jD q60 rfl Tryz.sizeOf55 rfl rfl) ?_)
  first | refine jK rfl ?_ | (refine jQ rfl ?_; refine j3 (jB q55 rfl rfl (S.blk (i:=3) rfl) rfl) ?_)
  first | refine jK rfl ?_ | (refine jQ rfl ?_; refine jE (gY q55 rfl rfl) ?_)
  refine jE (jA rfl) ?_
  first | refine jR ?_ | (refine jG ?_; show CW _ _ _ _ _ _) | refine jG ?_
  repeat refine jJ ?_
  refine jM rfl ?_
  repeat refine jJ ?_
  refine j5 ?_
  try show CW _ _ _ _ _ _
  repeat refine jJ ?_
  refine jI ?_
  refine jE (jA rfl) ?_
  refine jE (g9 Tryz.underlying62 rfl hI2 Tryz.zeroValue62) ?_
  iterate 7 refine z ?_
  refine jK rfl ?_
  refine jK rfl ?_
  refine jK rfl ?_
  refine jK rfl ?_
  refine jE (jA rfl) ?_
  first | refine jR ?_ | (refine jG ?_; show CW _ _ _ _ _ _) | refine jG ?_
  repeat refine jJ ?_
  refine jM rfl ?_
  repeat refine jJ ?_
  refine j5 ?_
  try show CW _ _ _ _ _ _
  repeat refine jJ ?_
  refine jI ?_
  iterate 2 refine jE (jA rfl) ?_
  refine j3 (jT q34 rfl (rS _) rfl (S.blk (i:=2) rfl) rfl rfl) ?_
  refine dR rfl (cW hm hut hdd) rfl (hdo kb _ _ (St.mid (A:=[_,_,_]) S)) ?_
  rintro _ w6_ ⟨x,rfl,S⟩
  have S:=St.mid (B:=[_,_,_]) S
  refine jH (i:=1) S rfl (uK _) rfl rfl rfl rfl rfl rfl ?_
  intro w7_ S
  refine zq ?_
  exact v8 q41 rfl (uK _) rfl (S.blk (i:=1) rfl) rfl rfl ⟨x,rfl,S.sub (List.sublist_append_right [_,_,_] _)⟩
end
end
section
open Go.RowKit
theorem St.under {F:Nat->Prop} {W w:World} {A L tl:List HA} {k:HA} (S:St F W w (A ++ (L ++ (k::tl)))):St F W w (L ++ (k::(A ++ tl))) :=
 (S.mid).perm_ (List.Perm.append_left L (List.perm_middle (l₁:=A) (a:=k) (l₂:=tl)))
theorem St.over {F:Nat->Prop} {W w:World} {A L tl:List HA} {k:HA} (S:St F W w (L ++ (k::(A ++ tl)))):St F W w (A ++ (L ++ (k::tl))) :=
 St.mid (S.perm_ (List.Perm.append_left L (List.perm_middle (l₁:=A) (a:=k) (l₂:=tl)).symm))
section
variable {F : Nat → Prop} {W w : World} {L tl : List HA} {α : Type} {Lx : α → List HA} {V : α → RpS} {sb : Nat} {o : OpS} {f : FuncId} {r : RpS}
theorem fV:Fn Tryz.prog 34 [r.v,ii 0] W (yK r.v W):=by
 have S:=St.start W
 refine zn Tryz.func34 Tryz.results34 Tryz.ntmps34 ?_
 refine zs ?_
 refine jF (jO rfl) S ?_
 intro b_rb w2_ g2_ S
 refine jF (jL zP rfl) S ?_
 intro b_o w4_ g4_ S
 refine z ?_; refine zf ?_; refine z ?_
 refine jH (i:=0) S rfl (uK _) rfl rfl rfl rfl rfl rfl ?_
 intro w5_ S
 refine zq ?_
 exact v8 q41 rfl (uK _) rfl (S.blk (i:=0) rfl) rfl rfl ⟨rfl,S.out⟩
def lN (F:Nat->Prop) (W:World) (L:List HA) (sb:Nat) (o:OpS) (c:Bool) (f:FuncId) {α:Type} (V:α->RpS) (Lx:α->List HA):Prop :=
 ∀ kb tl w,St F W w (L ++ (.blk kb 3 [ii o.k]::tl))->Fn Tryz.prog f ([pt sb,o.v] ++ (if c then [pt kb] else [])) w
  (fun v w''=>∃ x,v=(V x).v/\St F W w'' (Lx x ++ (.blk kb 3 [ii o.k]::tl)))
theorem jjB (c:Bool) (hf:lN F W L sb o c f V Lx) {kb:Nat} (S:St F W w (L ++ (.blk kb 3 [ii o.k]::tl))) :
  Fn Tryz.prog (372) [uF c f kb,pt sb,o.v] w (fun v w''=>∃ x,v=(V x).v/\St F W w'' (Lx x ++ (.blk kb 3 [ii o.k]::tl))):=by
 cases c
 all_goals
  unfold uF
  simp only [Bool.false_eq_true,if_true,if_false]
  refine zn Tryz.func372 Tryz.results372 Tryz.ntmps372 ?_
  refine zs ?_
  refine jF (jO rfl) S ?_
  intro b_op w2_ g2_ S
  refine jF (jL zP rfl) S ?_
  intro b_rp w4_ g4_ S
  iterate 3 refine z ?_
  refine zJ rfl rfl (hf kb _ _ (St.under (A:=[_,_]) S)) ?_
  rintro _ w5_ ⟨x,rfl,S⟩
  have S:=St.over (A:=[_,_]) S
  refine jH (i:=0) S rfl (uK _) rfl rfl rfl rfl rfl rfl ?_
  intro w6_ S
  refine zq ?_
  exact v8 q41 rfl (uK _) rfl (S.blk (i:=0) rfl) rfl rfl ⟨x,rfl,S.drop 2⟩
end
theorem SepL.ap {X:Nat->Prop} {w:World}:∀ {L:List HA} {i j:Nat} {a b:HA},SepL X w L->qP L i=some a->qP L j=some b->Nat.blt i j=true->∀ g,a.own g->¬ b.own g
 | [],_,_,_,_,_,h,_,_=>by cases h
 | h::r,0,0,_,_,_,_,_,hl=>by cases hl
 | h::r,0,j+1,a,b,S,hi,hj,_=>fun g hg=>by
  injection hi with hi
  subst hi
  exact S.2.1 g hg b (mU (L:=r) (i:=j) hj)
 | h::r,i+1,0,_,_,_,_,_,hl=>by cases hl
 | h::r,i+1,j+1,a,b,S,hi,hj,hl=>SepL.ap (L:=r) (i:=i) (j:=j) S.2.2 hi hj hl
structure StS where
 sb:Nat
 p:Nat
 cap:Nat
 pp:Nat
 lb:Nat
 tb:Nat
 yb:Nat
 gw:Nat
 gh:Nat
 done:Nat
 A:Option Addr
 A1:Option Addr
 lA:Option Addr
 pA:Option Addr
 ov:Option Addr
 c1:Nat
 lc:Nat
 pc:Nat
 bs:Nat->Nat
 Rs:Nat->Option Nat
 cc:Nat->Int
 As:Nat->Option Addr
 cs:Nat->Nat
 l:List PtA
 stamp:Int
def StS.top (s:StS):List Value:=[pt s.p,pt s.lb,.pointer s.ov,ii s.stamp,pt s.pp]
def StS.V (s:StS):List Int:=yA s.gw s.gh s.cc
def StS.rest (s:StS):List HA:=[.grid s.p s.gw s.gh s.cc s.A s.cap s.bs s.Rs,
 .blk s.lb 138 [pt s.p,pt s.tb,pt s.yb],
 .blk s.tb 250 [ii s.gw,ii s.gh,.slice s.A1 ((s.gh+1) * (s.gw+1)) s.c1],.row 2 1 s.A1 ((s.gh+1) * (s.gw+1)) s.c1 (yN ((s.gh+1) * (s.gw+1)) (s7 s.gw s.V)),
 .blk s.yb 269 [.slice s.lA (nLv s.gw s.gh) s.lc],.row 354 3 s.lA (nLv s.gw s.gh) s.lc (lvV (nLv s.gw s.gh) s.gw s.gh s.As s.cs),.pfam 124 2 (nLv s.gw s.gh) s.As (lvN s.gw s.gh) s.cs (lvX s.gw s.gh s.V),
 .blk s.pp 76 [.slice s.pA s.l.length s.pc,ii s.done],.row 216 6 s.pA s.l.length s.pc (s.l.flatMap PtA.cells),.pts s.l]
def StS.L (s:StS):List HA:=.blk s.sb 60 s.top::s.rest
structure StS.ok (s:StS):Prop where
 hB:vB s.V
 hd:s.done<=s.l.length
 hg:∀ x ∈ s.l,PtG s.gw s.gh x
theorem nT {gw:Nat} {V:List Int} {x0 y0 x1 y1 x y:Nat} {c:Nat->Int} (hx:x < gw) (h:¬ ((x0<=x/\x<=x1)/\y0<=y/\y<=y1)):yW gw V x0 y0 x1 y1 c (y * gw+x)=c (y * gw+x):=by
 have h1:=(kW (Y:=y) hx).1
 have h2:=(kW (Y:=y) hx).2
 unfold yW
 rw [h1,h2,if_neg h]
section
variable {F : Nat → Prop} {W w : World} {tl : List HA}
theorem jgf {s:StS} {x0 y0 x1 y1 n k1 k2:Nat} {B1 B2:Option Addr} {V1 V2:List Int} (hst:0<=s.stamp/\s.stamp < 1000) (hP:PtOk w x0 y0 x1 y1 n k1 k2 B1 B2 V1 V2) (hx:x1 < s.gw) (hy:y1 < s.gh) (hbig:s.gw * s.gh < 8 * n) (hB:vB (yA s.gw s.gh (yW s.gw V2 x0 y0 x1 y1 s.cc)))
  (h1:y9 s.gw s.cc x0 y0 (x1+1 - x0) (y1+1 - y0)=V1) (S:St F W w (s.L ++ (.row 2 1 B2 n k2 (yC V2)::.row 2 1 B1 n k1 (yC V1)::tl))) :
  Fn Tryz.prog 350 [pt s.sb,ptV x0 y0 x1 y1 n k1 k2 B1 B2] w (fun v w'=>v=.tuple #[]/\∃ tb A1 c1 Rs,
   St F W w' ({ s with tb:=tb,A1:=A1,c1:=c1,Rs:=Rs,cc:=yW s.gw V2 x0 y0 x1 y1 s.cc,stamp:=s.stamp+1 }.L ++ (.row 2 1 B2 n k2 (yC V2)::.row 2 1 B1 n k1 (yC V1)::tl))):=by
 obtain ⟨sb,p,cap,pp,lb,tb,yb,gw,gh,done,A,A1,lA,pA,ov,c1,lc,pc,bs,Rs,cc,As,cs,l,stamp⟩:=s
 have hn:=hP.pos
 have hst':0<=stamp/\stamp < 1000:=hst
 have hbig':gw * gh < 8 * ((y1+1 - y0) * (x1+1 - x0)):=hP.hn ▸ hbig
 have hV:∀ x y,x < gw->y < gh->¬ ((x0<=x/\x<=x1)/\y0<=y/\y<=y1)->(yA gw gh cc).getD (y * gw+x) 0=(yA gw gh (yW gw V2 x0 y0 x1 y1 cc)).getD (y * gw+x) 0:=fun x y hx hy hn=>by
  have hi:y * gw+x < gw * gh:=by
   have:=Nat.mul_le_mul_right gw (show y+1<=gh by omega)
   rw [Nat.succ_mul,Nat.mul_comm gh] at this
   omega
  unfold yA
  rw [List.getD_eq_getElem?_getD,List.getElem?_map,List.getElem?_range hi,List.getD_eq_getElem?_getD,List.getElem?_map,List.getElem?_range hi]
  exact (nT hx hn).symm
 unfold ptV
 refine zn Tryz.func350 Tryz.results350 Tryz.ntmps350 ?_
 refine zs ?_
 refine jF (jO rfl) S ?_
 intro b_pt w2_ g2_ S
 (iterate 3 refine z ?_); refine zf ?_
 refine zc ?_
 refine jM rfl ?_
 refine zc ?_
 refine j5 ?_
 try show CW _ _ _ _ _ _
 refine zc ?_
 refine yB (C:=fun wq=>Gr w2_ wq) [0,1,2,3,4] [5] (by kernel_rfl) (by kernel_rfl) (Gr.drew _) ?_
 simp only [j6,List.drop_succ_cons,List.drop_zero]
 iterate 3 refine y ?_
 refine jV (fun wq hq=>jB q55 rfl rfl ((S.gr hq).blk (i:=1) rfl) rfl) ?_
 refine jV (fun wq hq=>jT f6 rfl (uC _) rfl ((S.gr hq).blk (i:=0) rfl) rfl rfl) ?_
 refine yJ ?_
 intro w3_ g3_
 have S:=S.gr g3_
 refine jC rfl (jhc hx hy (S.grid (i:=2) rfl) { hP with r1:=S.rd (i:=13) rfl,r2:=S.rd (i:=12) rfl } (fun g h2 h3=>S.sep.ap (i:=2) (j:=12) rfl rfl rfl g h3 h2)) ?_
 rintro _ w4_ h
 obtain ⟨_,rfl,Rs2,hG2,hF2,hO2⟩:_/\_/\GridP _ p gw gh A cap bs Rs _ _:=h.resolve_right (fun h=>h.1 h1)
 have S:=S.set (i:=2) (h':=.grid p gw gh (yW gw V2 x0 y0 x1 y1 cc) A cap bs Rs2) rfl rfl hF2 (fun g h=>.inl h) hG2 hO2
 refine zc ?_
 refine yB (C:=fun wq=>Gr w4_ wq) [0,1,2,3,4,5] [6] (by kernel_rfl) (by kernel_rfl) (Gr.drew _) ?_
 simp only [j6,List.drop_succ_cons,List.drop_zero]
 iterate 3 refine y ?_
 refine jV (fun wq hq=>jB Tryz.underlying56 rfl rfl ((S.gr hq).blk (i:=1) rfl) rfl) ?_
 refine y ?_
 refine jV (fun wq hq=>jT q27 rfl (y6 _) rfl ((S.gr hq).blk (i:=0) rfl) rfl rfl) ?_
 refine yJ ?_
 intro w5_ g5_
 have S:=S.gr g5_
 refine jC rfl (jfU (V:=yA gw gh cc) hB ⟨hP.hx.1,hx⟩ ⟨hP.hy.1,hy⟩ hbig' hV (S.pick 14 [2,3,6,7,8,0,1,4,5,9,10,11,12,13] rfl rfl rfl)) ?_
 rintro _ w6_ ⟨tb2,A2,c2,rfl,S⟩
 have S:=(S.pick 16 [9,10,7,8,2,3,0,1,4,5,6,11,12,13,14,15] rfl rfl rfl).drop 2
 first | refine jR ?_ | (refine jG ?_; show CW _ _ _ _ _ _) | refine jG ?_
 repeat refine jJ ?_
 refine jI ?_
 iterate 2 refine jE (jA rfl) ?_
 refine jE (jD q60 rfl qz2 rfl rfl) ?_
 refine j3 (jB q2 rfl rfl (S.blk (i:=1) rfl) rfl) ?_
 refine jE (yI rfl (by omega)) ?_
 refine jE (jA rfl) ?_
 refine jE (jD q60 rfl qz2 rfl rfl) ?_
 refine j8 (i:=1) S rfl (qz2 _) rfl rfl rfl rfl rfl rfl ?_
 intro w9 S
 refine ze ?_
 exact zN ⟨rfl,_,_,_,_,S.drop 1⟩
end
end
section
open Go.RowKit
def CAS (F:Nat->Prop) (W:World) (L:List HA) (i j k:Nat) (t:TypeId) (z:List Value) (cs:Value->List Value) (T:Value->List HA->Prop) (σ:List (Nat × Value)) (w:World):Prop :=
 ∃ Q1 Q2,(match σ.lookup i with | none=>Q1=[] | some v=>T v Q1)/\(match σ.lookup j with | none=>Q2=[] | some u=>∃ b,u=.pointer (some ⟨b,0,none⟩)/\Q2=[.blk b t (if (σ.lookup k).isSome then cs ((σ.lookup i).getD undef) else z)])/\St F W w (Q2 ++ (Q1 ++ L))
section
variable {F : Nat → Prop} {W w w' : World} {L : List HA} {i j k : Nat} {t : TypeId} {z : List Value} {cs : Value → List Value} {T : Value → List HA → Prop} {σ : List (Nat × Value)}
theorem CAS.start (S:St F W w L):CAS F W L i j k t z cs T [] w:=⟨[],[],rfl,rfl,S⟩
theorem CAS.st (h:CAS F W L i j k t z cs T σ w):St F W w L:=by
 obtain ⟨Q1,Q2,_,_,S⟩:=h
 have:=S.drop (Q2 ++ Q1).length
 rwa [<-List.append_assoc,List.drop_left] at this
section
variable {P : Program} {e : Nat → Value} {d : Option Tmp} {ty : TypeId} {ps : String} {af : Array Edge}
theorem jgg {f:FuncId} {x:Operand} {args:List Operand} {tys:Array TypeId} {first cap vs:List Value} {R:Value->World->Prop} (hx:ev e x=.func (.func f) first.toArray cap.toArray) (hv:fzl (args.map (ev e))=some vs) (hc:Fn P f (first ++ vs ++ cap) w R) :
  qM P e ⟨d,.call ⟨.value x,args.toArray,tys⟩,ty,ps,af,none⟩ w R:=by
 have h0:=vG hv
 have hrun:(execOp (ev e) ⟨d,.call ⟨.value x,args.toArray,tys⟩,ty,ps,af,none⟩).run P w=.ok (.enter f (first ++ vs ++ cap).toArray) w:=by
  simp [execOp,resolve,hx,Deferred.ofValue,invoke,h0,y5 hc.1]
 unfold qM
 rw [hrun]
 exact hc.2
theorem CAS.call (h:CAS F W L i j k t z cs T σ w) (hi:σ.lookup i=none) (hk:σ.lookup k=none) (hij:(j == i)=false) (hki:(k == i)=false):∃ Q,St F W w (Q ++ L)/\∀ v Q1 w',T v Q1->St F W w' (Q1 ++ (Q ++ L))->CAS F W L i j k t z cs T ((i,v)::σ) w':=by
 obtain ⟨Q1,Q2,h1,h2,S⟩:=h
 rw [hi] at h1
 subst h1
 refine ⟨Q2,S,fun v Q1 w' hT S'=>⟨Q1,Q2,?_,?_,S'.mid⟩⟩
 ·simp only [List.lookup_cons,beq_self_eq_true]
  exact hT
 ·simp only [List.lookup_cons,hij,hki,hk] at h2 ⊢
  exact h2
theorem pV {f:FuncId} {args:List Operand} {tys:Array TypeId} {vs:List Value} (h:CAS F W L i j k t z cs T σ w) (hi:σ.lookup i=none) (hk:σ.lookup k=none) (hij:(j == i)=false) (hki:(k == i)=false) (hv:fzl (args.map (ev e))=some vs)
  (hc:St F W w L->Fn P f vs w (fun v w'=>∃ Q,T v Q/\St No w w' Q)):qM P e ⟨d,.call ⟨.value (.func f),args.toArray,tys⟩,ty,ps,af,none⟩ w (fun v w'=>CAS F W L i j k t z cs T ((i,v)::σ) w'):=by
 obtain ⟨Q,S,hm⟩:=CAS.call h hi hk hij hki
 exact uW hv ((hc h.st).mono fun v w' ⟨Q1,hT,S2⟩=>hm v Q1 w' hT (S.app S2))
theorem wN {zv:Value} (h:CAS F W L i j k t z cs T σ w) (hj:σ.lookup j=none) (hk:σ.lookup k=none) (hij:(i == j)=false) (hkj:(k == j)=false) (hz:∀ w,(zeroValue t).run P w=.ok zv w) (hl:zv.cells.toList=z):qM P e ⟨d,.alloc t,ty,ps,af,none⟩ w (fun v w'=>CAS F W L i j k t z cs T ((j,v)::σ) w'):=by
 obtain ⟨Q1,Q2,h1,h2,S⟩:=h
 rw [hj] at h2
 subst h2
 refine q7 rfl (jF (jL hz hl) S (fun b w' g S=>⟨Q1,[.blk b t z],?_,?_,S⟩))
 ·simp only [List.lookup_cons,hij]
  exact h1
 ·simp only [List.lookup_cons,beq_self_eq_true,hkj,hk]
  exact ⟨b,rfl,rfl⟩
theorem wM {v:Value} {b n:Nat} {x y:Operand} (h:CAS F W L i j k t z cs T σ w) (hi:σ.lookup i=some v) (hj:σ.lookup j=some (pt b)) (hk:σ.lookup k=none) (hik:(i == k)=false) (hjk:(j == k)=false) (hz:(sizeOf t).run P w=.ok n w) (hx:ev e x=pt b) (hy:ev e y=.agg (cs v).toArray)
  (hn:(cs v).length=n) (hl':fzl (z.take 0 ++ cs v ++ z.drop (0+n))=some (cs v)) (ho:(((cs v).all fun v=>v.oneCell') && Nat.ble (0+n) z.length)=true):qM P e ⟨d,.store t x y,ty,ps,af,none⟩ w (fun u w'=>CAS F W L i j k t z cs T ((k,u)::σ) w'):=by
 obtain ⟨Q1,Q2,h1,h2,S⟩:=h
 rw [hi] at h1
 rw [hj,hk,hi] at h2
 obtain ⟨b',e',rfl⟩:=h2
 cases e'
 refine q7 rfl (jH (i:=0) S rfl hz hx hy hn hl' ho rfl (fun w' S'=>⟨Q1,[.blk b t (cs v)],?_,?_,S'⟩))
 ·simp only [List.lookup_cons,hik,hi]
  exact h1
 ·simp only [List.lookup_cons,hjk,hj,beq_self_eq_true,hik,hi]
  exact ⟨b,rfl,rfl⟩
theorem CAS.fin {v:Value} {b:Nat} (h:CAS F W L i j k t z cs T σ w) (hi:σ.lookup i=some v) (hj:σ.lookup j=some (pt b)) (hk:(σ.lookup k).isSome=true):∃ Q1,T v Q1/\St F W w (.blk b t (cs v)::(Q1 ++ L)):=by
 obtain ⟨Q1,Q2,h1,h2,S⟩:=h
 rw [hi] at h1
 rw [hj,hk,hi] at h2
 obtain ⟨b',e',rfl⟩:=h2
 cases e'
 exact ⟨Q1,h1,S⟩
theorem CAS.val {v:Value} (h:CAS F W L i j k t z cs T σ w) (hi:σ.lookup i=some v):∃ Q1,T v Q1:=by
 obtain ⟨Q1,Q2,h1,h2,S⟩:=h
 rw [hi] at h1
 exact ⟨Q1,h1⟩
theorem CAS.adr {u:Value} (h:CAS F W L i j k t z cs T σ w) (hj:σ.lookup j=some u):∃ b,u=pt b:=by
 obtain ⟨Q1,Q2,h1,h2,S⟩:=h
 rw [hj] at h2
 obtain ⟨b,e,_⟩:=h2
 exact ⟨b,e⟩
end
end
end
section
open Go.RowKit
section
variable {gw gh x0 y0 x1 y1 : Nat} {cc c2 : Nat → Int} {V : List Int}
theorem mT {c d:Nat->Int} (h:∀ i,i < gw * gh->c i=d i):yA gw gh c=yA gw gh d:=List.map_congr_left fun i hi=>h i (List.mem_range.1 hi)
theorem dH {c d:Nat->Int} (h:yA gw gh c=yA gw gh d) {i:Nat} (hi:i < gw * gh):c i=d i:=by
 have:=congrArg (fun l=>l[i]?) h
 simpa [yA,hi] using this
theorem jcz {i:Nat} (hB:vB (yA gw gh cc)) (hi:i < gw * gh):-2147483648<=cc i/\cc i<=2147483647:=by
 have:=hB i
 unfold yA at this
 rw [List.getD_eq_getElem?_getD,List.getElem?_map,List.getElem?_range hi] at this
 exact this
theorem ji9 {v:Int} (h:-2147483648<=v/\v<=2147483647):kN v=true:=by
 unfold kN
 simp [h.1,h.2]
theorem jaa (hB:vB (yA gw gh cc)) (hx:x1 < gw) (hy:y1 < gh):∀ v ∈ y9 gw cc x0 y0 (x1+1 - x0) (y1+1 - y0),kN v=true:=by
 intro v hv
 unfold y9 cO at hv
 obtain ⟨j,hj,hv⟩:=List.mem_flatMap.1 hv
 obtain ⟨i,hi,rfl⟩:=List.mem_map.1 hv
 have hj:=List.mem_range.1 hj
 have hi:=List.mem_range.1 hi
 have h1:=Nat.mul_le_mul_right gw (show y0+j+1<=gh by omega)
 rw [Nat.succ_mul,Nat.mul_comm gh] at h1
 exact ji9 (jcz hB (by omega))
theorem jfg {x y:Nat} (hx:x < gw) (h1:x0<=x/\x<=x1) (h2:y0<=y/\y<=y1):yW gw V x0 y0 x1 y1 cc (y * gw+x)=V.getD ((y - y0) * (x1+1 - x0)+(x - x0)) 0:=by
 have a1:=(kW (Y:=y) hx).1
 have a2:=(kW (Y:=y) hx).2
 unfold yW
 rw [a1,a2,if_pos ⟨h1,h2⟩]
theorem jem {i:Nat} (hi:i < gw * gh):∃ x y,x < gw/\y < gh/\i=y * gw+x:=by
 have hw:0 < gw:=Nat.pos_of_ne_zero fun e=>by rw [e,Nat.zero_mul] at hi; omega
 refine ⟨i % gw,i / gw,Nat.mod_lt _ hw,Nat.div_lt_of_lt_mul hi,?_⟩
 rw [Nat.mul_comm]
 exact (Nat.div_add_mod i gw).symm
theorem jai (hV:vB V) (hB:vB (yA gw gh cc)):vB (yA gw gh (yW gw V x0 y0 x1 y1 cc)):=jdT fun i hi=>by
 unfold yW
 split
 ·exact hV _
 ·exact jcz hB hi
theorem jb2 (h:yA gw gh cc=yA gw gh c2) (hx:x1 < gw) (hy:y1 < gh):y9 gw cc x0 y0 (x1+1 - x0) (y1+1 - y0)=y9 gw c2 x0 y0 (x1+1 - x0) (y1+1 - y0):=by
 unfold y9 cO
 have e:∀ j ∈ List.range (y1+1 - y0),(List.range (x1+1 - x0)).map (fun i=>cc ((y0+j) * gw+(x0+i)))=(List.range (x1+1 - x0)).map (fun i=>c2 ((y0+j) * gw+(x0+i))):=fun j hj=>List.map_congr_left fun i hi=>by
  have hj:=List.mem_range.1 hj
  have hi:=List.mem_range.1 hi
  have h1:=Nat.mul_le_mul_right gw (show y0+j+1<=gh by omega)
  rw [Nat.succ_mul,Nat.mul_comm gh] at h1
  exact dH h (by omega)
 rw [List.flatMap_def,List.flatMap_def]
 exact congrArg List.flatten (List.map_congr_left e)
theorem nS (hin:∀ x y,x < gw->y < gh->cc (y * gw+x) ≠ c2 (y * gw+x)->(x0<=x/\x<=x1)/\y0<=y/\y<=y1):yA gw gh (yW gw (y9 gw c2 x0 y0 (x1+1 - x0) (y1+1 - y0)) x0 y0 x1 y1 cc)=yA gw gh c2:=mT fun i hi=>by
 obtain ⟨x,y,hx,hy,rfl⟩:=jem hi
 by_cases h:(x0<=x/\x<=x1)/\y0<=y/\y<=y1
 ·rw [jfg hx h.1 h.2]
  have hi2:(y - y0) * (x1+1 - x0)+(x - x0) < (y1+1 - y0) * (x1+1 - x0):=by
   have:=Nat.mul_le_mul_right (x1+1 - x0) (show y - y0+1<=y1+1 - y0 by omega)
   rw [Nat.succ_mul] at this
   omega
  have hs:=kW (gw:=x1+1 - x0) (X:=x - x0) (Y:=y - y0) (by omega)
  rw [List.getD_eq_getElem?_getD,dS (by omega) hi2,hs.1,hs.2,show y0+(y - y0)=y by omega,show x0+(x - x0)=x by omega]
  rfl
 ·rw [nT hx h]
  rcases Int.decEq (cc (y * gw+x)) (c2 (y * gw+x)) with h' | h'
  ·exact (h (hin x y hx hy h')).elim
  ·exact h'
end
end
section
open Go.RowKit
section
variable {W : World} {pb sb : Nat}
theorem jff:Fn Tryz.prog 349 [pt pb,rK] W (yK (ii 0) W):=by
 have hr:=fun w=>jca (W:=w)
 unfold rK at *
 have S:=St.start W
 refine zn Tryz.func349 Tryz.results349 Tryz.ntmps349 ?_
 refine zs ?_
 refine jF (jO rfl) S ?_
 intro b_p w2_ g2_ S
 iterate 5 refine z ?_
 refine jC rfl (hr _) ?_
 rintro _ w3_ ⟨rfl,g3_⟩
 have S:=S.gr g3_
 (iterate 5 refine z ?_); refine zt ?_; refine z ?_; refine z ?_
 refine zq ?_
 exact yD rfl ⟨rfl,S.out⟩
theorem jeC:Fn Tryz.prog 350 [pt sb,rK] W (yK (.tuple #[]) W):=by
 unfold rK
 have S:=St.start W
 refine zn Tryz.func350 Tryz.results350 Tryz.ntmps350 ?_
 refine zs ?_
 refine jF (jO rfl) S ?_
 intro b_p w2_ g2_ S
 (iterate 3 refine z ?_); refine zt ?_
 refine zq ?_
 exact jk0 ⟨rfl,S.out⟩
end
def RpS.fine:RpS:={ code:=0 }
def sB (F:Nat->Prop) (W:World) (L:List HA) (p:Nat) (o:OpS) (c:Bool) (f:FuncId) (x0 y0 x1 y1:Nat) (V:List Int):Prop :=
 ∀ kb tl w,St F W w (L ++ (.blk kb 3 [ii o.k]::tl))->Fn Tryz.prog f ([pt p,o.v] ++ (if c then [pt kb] else [])) w
  (fun v w'=>∃ B cp Q1 m,v=.tuple #[.agg #[ii x0,ii y0,ii x1,ii y1],.slice B V.length cp,ii 0]/\(.row 2 1 B V.length m (yC V)) ∈ Q1 ++ L/\St F W w' (Q1 ++ (L ++ (.blk kb 3 [ii o.k]::tl))))
def BtR (gw gh:Nat) (cc c2:Nat->Int) (v:Value) (Q:List HA):Prop:=∃ (a b d e:Int) (A1:Option Addr) (n k1:Nat) (A2:Option Addr) (k2:Nat),v=.tuple #[.agg #[ii a,ii b,ii d,ii e,.slice A1 n k1,.slice A2 n k2],ii 0] /\
 (((∀ x y,x < gw->y < gh->cc (y * gw+x)=c2 (y * gw+x))/\Q=[]/\a=0/\b=0/\d=0/\e=0/\A1=none/\n=0/\k1=0/\A2=none/\k2=0) \/
  ∃ x0 y0 x1 y1:Nat,(x0<=x1/\x1 < gw)/\(y0<=y1/\y1 < gh)/\(∃ x y,x < gw/\y < gh/\cc (y * gw+x) ≠ c2 (y * gw+x))/\(∀ x y,x < gw->y < gh->cc (y * gw+x) ≠ c2 (y * gw+x)->(x0<=x/\x<=x1)/\y0<=y/\y<=y1)/\a=x0/\b=y0/\d=x1/\e=y1/\n=(y1+1 - y0) * (x1+1 - x0) /\
   Q=[.row 2 1 A2 n k2 (yC (y9 gw c2 x0 y0 (x1+1 - x0) (y1+1 - y0))),.row 2 1 A1 n k1 (yC (y9 gw cc x0 y0 (x1+1 - x0) (y1+1 - y0)))])
theorem RetBt2.parts {gw gh:Nat} {cc c2:Nat->Int} {W w':World} {v:Value}:RetBt2 gw gh cc c2 W v w'->∃ Q,BtR gw gh cc c2 v Q/\St No W w' Q:=fun ⟨a,b,d,e,A1,n,k1,A2,k2,Q,hv,S,h⟩=>⟨Q,⟨a,b,d,e,A1,n,k1,A2,k2,hv,h⟩,S⟩
def pcs:Value->List Value
 | .tuple a=>match a.toList with
  | .agg l::_=>l.toList
  | _=>[]
 | _=>[]
structure pI (s s':StS) (c2:Nat->Int):Prop where
 sb:s'.sb=s.sb
 gw:s'.gw=s.gw
 gh:s'.gh=s.gh
 ov:s'.ov=s.ov
 V:s'.V=yA s.gw s.gh c2
 ch:(s'.stamp=s.stamp/\s'.l=s.l/\s'.done=s.done/\s.V=yA s.gw s.gh c2)\/(s'.stamp=s.stamp+1/\∃ x:PtA,s'.l=s.l.take s.done ++ [x]/\s'.done=s'.l.length/\PtG s.gw s.gh x/\x.V1=y9 s.gw s.cc x.x0 x.y0 (x.x1+1 - x.x0) (x.y1+1 - x.y0)/\x.V2=y9 s.gw s'.cc x.x0 x.y0 (x.x1+1 - x.x0) (x.y1+1 - x.y0) /\
  ∀ a b,a < s.gw->b < s.gh->s.cc (b * s.gw+a) ≠ c2 (b * s.gw+a)->(x.x0<=a/\a<=x.x1)/\x.y0<=b/\b<=x.y1)
section
variable {F : Nat → Prop} {W w : World} {M tl : List HA} {o : OpS} {f : FuncId} {s : StS} {x0 y0 x1 y1 kb : Nat} {V : List Int}
theorem nW {L tl:List HA} {p b1 b2 t1 t2 t j k:Nat} {l1 l2 z:List Value} {cs:Value->List Value} {wq:World} {σ:List (Nat × Value)} {e:Nat->Value} {d:Option Tmp} {ty:TypeId} {ps:String} {af:Array Edge} {x y1' y2':Operand} {tys:Array TypeId} (hf:sB F W L p o true f x0 y0 x1 y1 V)
  (hq:CAS F W (.blk b1 t1 l1::.blk b2 t2 l2::(L ++ (.blk kb 3 [ii o.k]::tl))) 6 j k t z cs (fun v Q1=>∃ B cp m,v=.tuple #[.agg #[ii x0,ii y0,ii x1,ii y1],.slice B V.length cp,ii 0]/\(.row 2 1 B V.length m (yC V)) ∈ Q1 ++ L) σ wq)
  (hi:σ.lookup 6=none) (hk:σ.lookup k=none) (hij:(j == 6)=false) (hki:(k == 6)=false) (hx:ev e x=uF true f kb) (h1:ev e y1'=pt p) (h2:ev e y2'=o.v) :
  qM Tryz.prog e ⟨d,.call ⟨.value x,#[y1',y2'],tys⟩,ty,ps,af,none⟩ wq (fun v w'=>CAS F W (.blk b1 t1 l1::.blk b2 t2 l2::(L ++ (.blk kb 3 [ii o.k]::tl))) 6 j k t z cs (fun v Q1=>∃ B cp m,v=.tuple #[.agg #[ii x0,ii y0,ii x1,ii y1],.slice B V.length cp,ii 0]/\(.row 2 1 B V.length m (yC V)) ∈ Q1 ++ L) ((6,v)::σ) w'):=by
 obtain ⟨Q,S,hm⟩:=CAS.call hq hi hk hij hki
 have S:St F W wq ((Q ++ [.blk b1 t1 l1,.blk b2 t2 l2]) ++ (L ++ (.blk kb 3 [ii o.k]::tl))):=by rw [List.append_assoc]; exact S
 refine jgg (first:=[]) (cap:=[pt kb]) (vs:=[pt p,o.v]) (args:=[y1',y2']) hx (by rw [List.map_cons,List.map_cons,h1,h2]; rfl) ((hf kb _ _ (St.under S)).mono fun v w' ⟨B,cp,Q1,m,hv,hr,S'⟩=>hm v Q1 w' ⟨B,cp,m,hv,hr⟩ ?_)
 refine S'.perm_ (List.Perm.append_left Q1 ?_)
 refine (List.Perm.append_left L (List.perm_middle (l₁:=Q ++ [.blk b1 t1 l1,.blk b2 t2 l2]) (a:=.blk kb 3 [ii o.k]) (l₂:=tl)).symm).trans ?_
 rw [<-List.append_assoc]
 refine (List.perm_append_comm.append_right _).trans ?_
 rw [List.append_assoc,List.append_assoc]
 exact List.Perm.refl _
theorem jfh (hok:s.ok) (hst:0<=s.stamp/\s.stamp < 1000) (hl:s.l.length < 40) (hx:x0<=x1/\x1 < s.gw) (hy:y0<=y1/\y1 < s.gh) (hVl:V.length=(y1+1 - y0) * (x1+1 - x0)) (hmay:∀ v ∈ V,kN v=true)
  (hbig:(∃ x y,x < s.gw/\y < s.gh/\s.cc (y * s.gw+x) ≠ yW s.gw V x0 y0 x1 y1 s.cc (y * s.gw+x))->∀ a b d e:Nat,a<=d/\d < s.gw->b<=e/\e < s.gh->(∀ x y,x < s.gw->y < s.gh->s.cc (y * s.gw+x) ≠ yW s.gw V x0 y0 x1 y1 s.cc (y * s.gw+x)->(a<=x/\x<=d)/\b<=y/\y<=e)->s.gw * s.gh < 8 * ((e+1 - b) * (d+1 - a)))
  (hf:sB F W (s.L ++ M) s.p o true f x0 y0 x1 y1 V) (S:St F W w ((s.L ++ M) ++ (.blk kb 3 [ii o.k]::tl))) :
  Fn Tryz.prog (347) [uF true f kb,pt s.sb,o.v] w (fun v w'=>∃ s':StS,v=RpS.fine.v/\(s'.ok/\pI s s' (yW s.gw V x0 y0 x1 y1 s.cc))/\St F W w' ((s'.L ++ M) ++ (.blk kb 3 [ii o.k]::tl))):=by
 obtain ⟨sb,p,cap,pp,lb,tb,yb,gw,gh,done,A,A1,lA,pA,ov,c1,lc,pc,bs,Rs,cc,As,cs,l,stamp⟩:=s
 obtain ⟨L,hL⟩:∃ L:List HA,StS.L ⟨sb,p,cap,pp,lb,tb,yb,gw,gh,done,A,A1,lA,pA,ov,c1,lc,pc,bs,Rs,cc,As,cs,l,stamp⟩=L:=⟨_,rfl⟩
 have hL0:∀ X,qP (L ++ M ++ X) 0=some (.blk sb 60 [pt p,pt lb,.pointer ov,ii stamp,pt pp]):=fun X=>by rw [<-hL]; rfl
 dsimp only at *
 rw [hL] at hf S
 refine zn Tryz.func347 Tryz.results347 Tryz.ntmps347 ?_
 refine zs ?_
 refine jF (jO rfl) S ?_
 intro b_op w2_ g2_ S
 refine jF (jL zP rfl) S ?_
 intro b_rp w4_ g4_ S
 refine zc ?_
 refine qL (M:=fun e w=>∃ (Q1:List HA) (B:Option Addr) (cp m b_r:Nat),SL e [(1,pt sb),(6,pt b_rp),(7,pt b_r),(8,.slice B V.length cp),(9,ii 0)]/\(.row 2 1 B V.length m (yC V)) ∈ Q1 ++ (L ++ M)/\St F W w (.blk b_r 27 [ii x0,ii y0,ii x1,ii y1]::(Q1 ++ (.blk b_rp 41 [ii 0,ii 0,.bool false,ii 0,ii 0,.slice none 0 0,.slice none 0 0,.slice none 0 0,.slice none 0 0,.slice none 0 0]::.blk b_op 34 o.cs::(L ++ M ++ (.blk kb 3 [ii o.k]::tl)))))) ?_ ?_
 ·skip
  refine zc ?_
  refine TI.jlo (C:=(CAS F W _ 6 11 12 27 [ii 0,ii 0,ii 0,ii 0] (fun _=>[ii x0,ii y0,ii x1,ii y1]) (fun v Q1=>∃ B cp m,v=.tuple #[.agg #[ii x0,ii y0,ii x1,ii y1],.slice B V.length cp,ii 0]/\(.row 2 1 B V.length m (yC V)) ∈ Q1 ++ (L ++ M)))) [6,11,12] (.one 0 (.one 1 (.one 2 (.one 3 (.one 4 (.one 5 (.two 6 (.one 7 (.one 8 (.one 9 (.one 10 (.one 11 (.one 12 (.one 13 .nil))))))) 11 (.one 6 (.one 7 (.one 8 (.one 9 (.one 10 (.one 12 (.one 13 .nil)))))))))))))) [14] (by kernel_rfl) (by kernel_rfl) (CAS.start (S.gr (Gr.drew _))) ?_
  simp only [dA,j6,List.drop_succ_cons,List.drop_zero]
  refine TI.jlw ?_
  refine TI.jX rfl (jA rfl) ?_
  refine TI.yV ?_
  refine TI.jlw ?_
  refine TI.jX rfl (jA rfl) ?_
  refine TI.yV ?_
  refine TI.jlw ?_
  refine TI.jX rfl (jA rfl) ?_
  refine TI.yV ?_
  refine TI.jlw ?_
  refine TI.jX rfl (jD q60 rfl Tryz.sizeOf55 rfl rfl) ?_
  refine TI.yV ?_
  refine TI.jlw ?_
  refine TI.qF rfl (fun τ wq hq=>jB q55 rfl rfl (((CAS.st hq).drop 2).blk (i:=0) (hL0 _)) rfl) ?_
  refine TI.yV ?_
  refine TI.jlw ?_
  refine TI.qF rfl (fun τ wq hq=>jT q34 rfl (rS _) rfl ((CAS.st hq).blk (i:=1) rfl) rfl rfl) ?_
  refine TI.yV ?_
  refine TI.jlv ?_ ?_
  ·refine TI.jZ rfl rfl (fun wq hq=>nW hf hq rfl rfl rfl rfl rfl rfl rfl) ?_
   rintro v6 w6 h6
   obtain ⟨_,B,cp,m,rfl,_⟩:=h6.val rfl
   refine TI.yV ?_
   refine TI.jlw ?_
   refine TI.jX rfl (jA rfl) ?_
   refine TI.yV ?_
   refine TI.jlw ?_
   refine TI.jX rfl (jA rfl) ?_
   refine TI.yV ?_
   refine TI.jlw ?_
   refine TI.jX rfl (jA rfl) ?_
   refine TI.yV ?_
   refine TI.jlw ?_
   refine TI.jX rfl (jA rfl) ?_
   refine TI.yV ?_
   refine TI.jlw ?_
   refine TI.jZ rfl rfl (fun wq hq=>wN hq rfl rfl rfl rfl qX rfl) ?_
   rintro v11 w11 h11
   obtain ⟨b11,rfl⟩:=h11.adr rfl
   refine TI.yV ?_
   refine TI.jlw ?_
   refine TI.jZ rfl rfl (fun wq hq=>wM hq rfl rfl rfl rfl rfl (y6 _) rfl rfl rfl rfl rfl) ?_
   rintro v12 w12 h12
   refine TI.yV ?_
   refine TI.jlw ?_
   refine TI.jX rfl (jA rfl) ?_
   refine TI.yV ?_
   refine TI.jlx ?_
   rintro wz hz
   obtain ⟨Q1,⟨B,cp,m,e1,hm⟩,S⟩:=hz.fin rfl rfl rfl
   cases e1
   refine z ?_
   refine ze ?_
   exact ⟨Q1,_,_,_,_,⟨rfl,rfl,rfl,rfl,rfl,trivial⟩,hm,S⟩
  ·refine TI.jZ rfl rfl (fun wq hq=>wN hq rfl rfl rfl rfl qX rfl) ?_
   rintro v11 w11 h11
   obtain ⟨b11,rfl⟩:=h11.adr rfl
   refine TI.yV ?_
   refine TI.jlw ?_
   refine TI.jZ rfl rfl (fun wq hq=>nW hf hq rfl rfl rfl rfl rfl rfl rfl) ?_
   rintro v6 w6 h6
   obtain ⟨_,B,cp,m,rfl,_⟩:=h6.val rfl
   refine TI.yV ?_
   refine TI.jlw ?_
   refine TI.jX rfl (jA rfl) ?_
   refine TI.yV ?_
   refine TI.jlw ?_
   refine TI.jX rfl (jA rfl) ?_
   refine TI.yV ?_
   refine TI.jlw ?_
   refine TI.jX rfl (jA rfl) ?_
   refine TI.yV ?_
   refine TI.jlw ?_
   refine TI.jX rfl (jA rfl) ?_
   refine TI.yV ?_
   refine TI.jlw ?_
   refine TI.jZ rfl rfl (fun wq hq=>wM hq rfl rfl rfl rfl rfl (y6 _) rfl rfl rfl rfl rfl) ?_
   rintro v12 w12 h12
   refine TI.yV ?_
   refine TI.jlw ?_
   refine TI.jX rfl (jA rfl) ?_
   refine TI.yV ?_
   refine TI.jlx ?_
   rintro wz hz
   obtain ⟨Q1,⟨B,cp,m,e1,hm⟩,S⟩:=hz.fin rfl rfl rfl
   cases e1
   refine z ?_
   refine ze ?_
   exact ⟨Q1,_,_,_,_,⟨rfl,rfl,rfl,rfl,rfl,trivial⟩,hm,S⟩
 ·rintro e w1 ⟨Q1,B,cp,m,b_r,hsl,hm,S⟩
  rw [hsl.fold]
  have hBr:Rd w1 B (yC V):=(show Row w1 2 1 B V.length m (yC V) from (S.sep.mem (List.mem_cons_of_mem _ ((List.mem_append.1 hm).elim (List.mem_append_left _) fun h=>List.mem_append_right _ (List.mem_cons_of_mem _ (List.mem_cons_of_mem _ (List.mem_append_left _ h)))))).1).rd
  have S:St F W w1 (.blk b_r 27 [ii x0,ii y0,ii x1,ii y1]::.blk b_rp 41 [ii 0,ii 0,.bool false,ii 0,ii 0,.slice none 0 0,.slice none 0 0,.slice none 0 0,.slice none 0 0,.slice none 0 0]::(L ++ ((Q1 ++ [.blk b_op 34 o.cs]) ++ (M ++ (.blk kb 3 [ii o.k]::tl))))):=by
   refine S.perm_ (List.Perm.cons _ (List.perm_middle.trans (List.Perm.cons _ ?_)))
   rw [show Q1 ++ .blk b_op 34 o.cs::(L ++ M ++ (.blk kb 3 [ii o.k]::tl))=(Q1 ++ [.blk b_op 34 o.cs]) ++ (L ++ (M ++ (.blk kb 3 [ii o.k]::tl))) by simp [List.append_assoc],<-List.append_assoc,<-List.append_assoc L]
   exact List.perm_append_comm.append_right _
  have hmem:(.row 2 1 B V.length m (yC V)) ∈ (.blk b_r 27 [ii x0,ii y0,ii x1,ii y1]::.blk b_rp 41 [ii 0,ii 0,.bool false,ii 0,ii 0,.slice none 0 0,.slice none 0 0,.slice none 0 0,.slice none 0 0,.slice none 0 0]::(L ++ ((Q1 ++ [.blk b_op 34 o.cs]) ++ (M ++ (.blk kb 3 [ii o.k]::tl)))):List HA):=by
   simp only [List.mem_append,List.mem_cons] at hm ⊢
   rcases hm with h | h | h
   ·simp [h]
   ·simp [h]
   ·simp [h]
  have hL0':∀ X,qP (L ++ X) 0=some (.blk sb 60 [pt p,pt lb,.pointer ov,ii stamp,pt pp]):=fun X=>by rw [<-hL]; rfl
  have hL1':∀ X,qP (L ++ X) 1=some (.grid p gw gh cc A cap bs Rs):=fun X=>by rw [<-hL]; rfl
  refine z ?_; refine zf ?_
  refine zc ?_
  refine jM rfl ?_
  refine zc ?_
  refine j5 ?_
  try show CW _ _ _ _ _ _
  refine zc ?_
  refine qL (M:=fun e w=>∃ (v:Value) (Q2:List HA) (b_pt:Nat),BtR gw gh cc (yW gw V x0 y0 x1 y1 cc) v Q2/\SL e [(1,pt sb),(6,pt b_rp),(9,ii 0),(10,pt b_pt)]/\St F W w (.blk b_pt 216 (pcs v)::(Q2 ++ (.blk b_r 27 [ii x0,ii y0,ii x1,ii y1]::.blk b_rp 41 [ii 0,ii 0,.bool false,ii 0,ii 0,.slice none 0 0,.slice none 0 0,.slice none 0 0,.slice none 0 0,.slice none 0 0]::(L ++ ((Q1 ++ [.blk b_op 34 o.cs]) ++ (M ++ (.blk kb 3 [ii o.k]::tl)))))))) ?_ ?_
  ·skip
   refine zc ?_
   refine TI.jlo (C:=(CAS F W _ 6 10 11 216 [ii 0,ii 0,ii 0,ii 0,.slice none 0 0,.slice none 0 0] pcs (BtR gw gh cc (yW gw V x0 y0 x1 y1 cc)))) [6,10,11] (.one 0 (.one 1 (.one 2 (.one 3 (.one 4 (.one 5 (.two 6 (.one 7 (.one 8 (.one 9 (.one 10 (.one 11 .nil))))) 10 (.one 6 (.one 7 (.one 8 (.one 9 (.one 11 .nil)))))))))))) [12] (by kernel_rfl) (by kernel_rfl) (CAS.start (S.gr (Gr.drew _))) ?_
   simp only [dA,j6,List.drop_succ_cons,List.drop_zero]
   refine TI.jlw ?_
   refine TI.jX rfl (jA rfl) ?_
   refine TI.yV ?_
   refine TI.jlw ?_
   refine TI.jX rfl (jA rfl) ?_
   refine TI.yV ?_
   refine TI.jlw ?_
   refine TI.jX rfl (jD q60 rfl Tryz.sizeOf55 rfl rfl) ?_
   refine TI.yV ?_
   refine TI.jlw ?_
   refine TI.qF rfl (fun τ wq hq=>jB q55 rfl rfl (((CAS.st hq).drop 2).blk (i:=0) (hL0' _)) rfl) ?_
   refine TI.yV ?_
   refine TI.jlw ?_
   refine TI.qF rfl (fun τ wq hq=>jT q27 rfl (y6 _) rfl ((CAS.st hq).blk (i:=0) rfl) rfl rfl) ?_
   refine TI.yV ?_
   refine TI.jlw ?_
   refine TI.jX rfl (jA rfl) ?_
   refine TI.yV ?_
   refine TI.jlv ?_ ?_
   ·refine TI.jZ rfl rfl (fun wq hq=>pV hq rfl rfl rfl rfl rfl (fun S=>(jgY cp hx hy hVl hmay ((S.drop 2).grid (i:=1) (hL1' _)) (show Row wq 2 1 B V.length m (yC V) from (S.sep.mem hmem).1).rd).mono fun _ _ h=>h.parts)) ?_
    rintro v6 w6 h6
    obtain ⟨_,a6,b6,d6,e6,C1,n6,k1,C2,k2,rfl,_⟩:=h6.val rfl
    refine TI.yV ?_
    refine TI.jlw ?_
    refine TI.jX rfl (jA rfl) ?_
    refine TI.yV ?_
    refine TI.jlw ?_
    refine TI.jX rfl (jA rfl) ?_
    refine TI.yV ?_
    refine TI.jlw ?_
    refine TI.jX rfl (jA rfl) ?_
    refine TI.yV ?_
    refine TI.jlw ?_
    refine TI.jZ rfl rfl (fun wq hq=>wN hq rfl rfl rfl rfl fN rfl) ?_
    rintro v11 w11 h11
    obtain ⟨b11,rfl⟩:=h11.adr rfl
    refine TI.yV ?_
    refine TI.jlw ?_
    refine TI.jZ rfl rfl (fun wq hq=>wM hq rfl rfl rfl rfl rfl (uC _) rfl rfl rfl rfl rfl) ?_
    rintro v12 w12 h12
    refine TI.yV ?_
    refine TI.jlx ?_
    rintro wz hz
    obtain ⟨Q2,hbt,S⟩:=hz.fin rfl rfl rfl
    refine z ?_
    refine ze ?_
    exact ⟨_,Q2,_,hbt,⟨rfl,rfl,rfl,rfl,trivial⟩,S⟩
   ·refine TI.jZ rfl rfl (fun wq hq=>wN hq rfl rfl rfl rfl fN rfl) ?_
    rintro v11 w11 h11
    obtain ⟨b11,rfl⟩:=h11.adr rfl
    refine TI.yV ?_
    refine TI.jlw ?_
    refine TI.jZ rfl rfl (fun wq hq=>pV hq rfl rfl rfl rfl rfl (fun S=>(jgY cp hx hy hVl hmay ((S.drop 2).grid (i:=1) (hL1' _)) (show Row wq 2 1 B V.length m (yC V) from (S.sep.mem hmem).1).rd).mono fun _ _ h=>h.parts)) ?_
    rintro v6 w6 h6
    obtain ⟨_,a6,b6,d6,e6,C1,n6,k1,C2,k2,rfl,_⟩:=h6.val rfl
    refine TI.yV ?_
    refine TI.jlw ?_
    refine TI.jX rfl (jA rfl) ?_
    refine TI.yV ?_
    refine TI.jlw ?_
    refine TI.jX rfl (jA rfl) ?_
    refine TI.yV ?_
    refine TI.jlw ?_
    refine TI.jX rfl (jA rfl) ?_
    refine TI.yV ?_
    refine TI.jlw ?_
    refine TI.jZ rfl rfl (fun wq hq=>wM hq rfl rfl rfl rfl rfl (uC _) rfl rfl rfl rfl rfl) ?_
    rintro v12 w12 h12
    refine TI.yV ?_
    refine TI.jlx ?_
    rintro wz hz
    obtain ⟨Q2,hbt,S⟩:=hz.fin rfl rfl rfl
    refine z ?_
    refine ze ?_
    exact ⟨_,Q2,_,hbt,⟨rfl,rfl,rfl,rfl,trivial⟩,S⟩
  ·rintro e w2 ⟨v,Q2,b_pt,hbt,hsl2,S⟩
   rw [hsl2.fold]
   subst hL
   obtain ⟨a,b,d,e6,C1,n6,k1,C2,k2,rfl,hc⟩:=hbt
   have hvB2:=jai (x0:=x0) (y0:=y0) (x1:=x1) (y1:=y1) (lO hmay) hok.hB
   rcases hc with ⟨heq,rfl,rfl,rfl,rfl,rfl,rfl,rfl,rfl,rfl,rfl⟩ | ⟨a,b,d,e',hx2,hy2,hex,hin,rfl,rfl,rfl,rfl,rfl,rfl⟩
   ·have hgeq:yA gw gh cc=yA gw gh (yW gw V x0 y0 x1 y1 cc):=mT fun i hi=>by
     obtain ⟨x,y,hx',hy',rfl⟩:=jem hi
     exact heq x y hx' hy'
    refine z ?_; refine zt ?_
    refine zc ?_
    refine yS rfl ?_
    refine zc ?_
    refine yB (C:=fun wq=>Gr w2 wq) [0,1,2,3,4] [5] (by kernel_rfl) (by kernel_rfl) (Gr.drew _) ?_
    simp only [j6,List.drop_succ_cons,List.drop_zero]
    iterate 3 refine y ?_
    refine jV (fun wq hq=>jB Tryz.underlying58 rfl rfl ((S.gr hq).blk (i:=3) rfl) rfl) ?_
    refine jV (fun wq hq=>jT f6 rfl (uC _) rfl ((S.gr hq).blk (i:=0) rfl) rfl rfl) ?_
    refine yJ ?_
    intro w9_ g9_
    have S:=S.gr g9_
    refine jC rfl (jff) ?_
    rintro _ w10_ ⟨rfl,g10_⟩
    have S:=S.gr g10_
    refine z ?_; refine z ?_
    refine jC rfl (jeC) ?_
    rintro _ w11_ ⟨rfl,g11_⟩
    have S:=S.gr g11_
    refine z ?_
    refine jE (jN (pl:=[(0,1),(1,1),(2,1),(3,2),(5,1),(6,1),(7,1),(8,1),(9,1)]) q41 zP (fun w=>by kernel_rfl) rfl rfl) ?_
    refine jH (i:=2) S rfl (uK _) rfl rfl rfl rfl rfl rfl ?_
    intro w12_ S
    refine zq ?_
    refine v8 q41 rfl (uK _) rfl (S.blk (i:=2) rfl) rfl rfl ⟨⟨sb,p,cap,pp,lb,tb,yb,gw,gh,done,A,A1,lA,pA,ov,c1,lc,pc,bs,Rs,cc,As,cs,l,stamp⟩,rfl,⟨hok,rfl,rfl,rfl,rfl,hgeq,.inl ⟨rfl,rfl,rfl,hgeq⟩⟩,?_⟩
    rw [List.append_assoc]
    exact (S.drop 3).sub (List.Sublist.append (List.Sublist.refl _) (List.sublist_append_right _ _))
   ·have hpb:=nS (gh:=gh) hin
    have hm1:=jaa (x0:=a) (y0:=b) hok.hB hx2.2 hy2.2
    have hm2:=jaa (x0:=a) (y0:=b) hvB2 hx2.2 hy2.2
    have hl1:=z6 gw cc a b (d+1 - a) (e'+1 - b)
    have hl2:=z6 gw (yW gw V x0 y0 x1 y1 cc) a b (d+1 - a) (e'+1 - b)
    have hbg:=hbig hex a b d e' hx2 hy2 hin
    have hw1:1<=gw/\gw<=1024:=(S.grid (i:=6) rfl).sw
    have hh1:1<=gh/\gh<=1024:=(S.grid (i:=6) rfl).sh
    have hd1:d < gw:=hx2.2
    have he1:e' < gh:=hy2.2
    have hvB3:vB (yA gw gh (yW gw (y9 gw (yW gw V x0 y0 x1 y1 cc) a b (d+1 - a) (e'+1 - b)) a b d e' cc)):=by rw [hpb]; exact hvB2
    have hP:∀ w',Rd w' C1 (yC (y9 gw cc a b (d+1 - a) (e'+1 - b)))->Rd w' C2 (yC (y9 gw (yW gw V x0 y0 x1 y1 cc) a b (d+1 - a) (e'+1 - b)))->PtOk w' a b d e' ((e'+1 - b) * (d+1 - a)) k1 k2 C1 C2 (y9 gw cc a b (d+1 - a) (e'+1 - b)) (y9 gw (yW gw V x0 y0 x1 y1 cc) a b (d+1 - a) (e'+1 - b)):=fun w' r1 r2 =>
     ⟨⟨hx2.1,by omega⟩,⟨hy2.1,by omega⟩,rfl,hl1,hl2,hm1,hm2,r1,r2⟩
    refine z ?_; refine zt ?_
    refine zc ?_
    refine yS rfl ?_
    refine zc ?_
    refine yB (C:=fun wq=>Gr w2 wq) [0,1,2,3,4] [5] (by kernel_rfl) (by kernel_rfl) (Gr.drew _) ?_
    simp only [j6,List.drop_succ_cons,List.drop_zero]
    iterate 3 refine y ?_
    refine jV (fun wq hq=>jB Tryz.underlying58 rfl rfl ((S.gr hq).blk (i:=5) rfl) rfl) ?_
    refine jV (fun wq hq=>jT f6 rfl (uC _) rfl ((S.gr hq).blk (i:=0) rfl) rfl rfl) ?_
    refine yJ ?_
    intro w13_ g13_
    have S:=S.gr g13_
    refine jC rfl (jkl hok.hd hl (hP _ (S.rd (i:=2) rfl) (S.rd (i:=1) rfl)) (S.pick 16 [13,14,15,0,1,2,3,4,5,6,7,8,9,10,11,12] rfl rfl rfl)) ?_
    rintro _ w14_ ⟨rfl,x,lA',lc',e1,e2,e3,e4,e5,e6,S⟩
    have S:=S.pick 16 [3,4,5,6,7,8,9,10,11,12,13,14,15,0,1,2] rfl rfl rfl
    refine z ?_; refine z ?_
    refine jC rfl (jgf (s:=⟨sb,p,cap,pp,lb,tb,yb,gw,gh,(l.take done ++ [x]).length,A,A1,lA,lA',ov,c1,lc,lc',bs,Rs,cc,As,cs,l.take done ++ [x],stamp⟩) hst (hP _ (S.rd (i:=2) rfl) (S.rd (i:=1) rfl)) hx2.2 hy2.2 hbg hvB3 rfl (S.pick 16 [5,6,7,8,9,10,11,12,13,14,15,1,2,0,3,4] rfl rfl rfl)) ?_
    rintro _ w15_ ⟨rfl,tb2,A2,c2',Rs2,S⟩
    have S:=S.pick 16 [13,11,12,14,15,0,1,2,3,4,5,6,7,8,9,10] rfl rfl rfl
    refine z ?_
    refine jE (jN (pl:=[(0,1),(1,1),(2,1),(3,2),(5,1),(6,1),(7,1),(8,1),(9,1)]) q41 zP (fun w=>by kernel_rfl) rfl rfl) ?_
    refine jH (i:=4) S rfl (uK _) rfl rfl rfl rfl rfl rfl ?_
    intro w16_ S
    refine zq ?_
    have hX:PtG gw gh x:=by
     refine ⟨by rw [e1,e3]; exact hx2,by rw [e2,e4]; exact hy2,?_,?_,by rw [e5]; exact hm1,by rw [e6]; exact hm2⟩
     ·rw [e5,e1,e2,e3,e4]; exact hl1
     ·rw [e6,e1,e2,e3,e4]; exact hl2
    refine v8 q41 rfl (uK _) rfl (S.blk (i:=4) rfl) rfl rfl ⟨⟨sb,p,cap,pp,lb,tb2,yb,gw,gh,(l.take done ++ [x]).length,A,A2,lA,lA',ov,c2',lc,lc',bs,Rs2,yW gw (y9 gw (yW gw V x0 y0 x1 y1 cc) a b (d+1 - a) (e'+1 - b)) a b d e' cc,As,cs,l.take done ++ [x],stamp+1⟩,rfl,
     ⟨⟨hvB3,Nat.le_refl _,fun y hy=>(List.mem_append.1 hy).elim (fun h=>hok.hg y (List.mem_of_mem_take h)) (fun h=>by rw [List.mem_singleton.1 h]; exact hX)⟩,rfl,rfl,rfl,rfl,hpb,.inr ⟨rfl,x,rfl,rfl,hX,by rw [e5,e1,e2,e3,e4],by rw [e6,e1,e2,e3,e4]; exact jb2 hpb.symm hd1 he1,fun u v hu hv hne=>by rw [e1,e2,e3,e4]; exact hin u v hu hv hne⟩⟩,?_⟩
    rw [List.append_assoc]
    exact (S.drop 5).sub (List.Sublist.append (List.Sublist.refl _) (List.sublist_append_right _ _))
end
end
section
open Go.RowKit
section
variable {W : World} {k : Int}
theorem jdn:Fn Tryz.prog 17 [ii k] W (fun v w'=>∃ kb,v=.iface 78 (uF true (24) kb)/\St No W w' [.blk kb 3 [ii k]]):=by
 have S:=St.start W
 refine zn Tryz.func17 Tryz.results17 Tryz.ntmps17 ?_
 refine zs ?_
 refine jF (jO rfl) S ?_
 intro b_kb w2_ g2_ S
 refine z ?_; refine z ?_
 refine jE (qU Tryz.underlying78 rfl rfl) ?_
 refine z ?_
 refine zq ?_
 exact yD rfl ⟨_,rfl,S⟩
theorem jfk:Fn Tryz.prog 18 [ii k] W (fun v w'=>∃ kb,v=.iface 81 (uF true (26) kb)/\St No W w' [.blk kb 3 [ii k]]):=by
 have S:=St.start W
 refine zn Tryz.func18 Tryz.results18 Tryz.ntmps18 ?_
 refine zs ?_
 refine jF (jO rfl) S ?_
 intro b_kb w2_ g2_ S
 refine z ?_; refine z ?_
 refine jE (qU Tryz.underlying81 rfl rfl) ?_
 refine z ?_
 refine zq ?_
 exact yD rfl ⟨_,rfl,S⟩
theorem jcV:Fn Tryz.prog 19 [ii k] W (fun v w'=>∃ kb,v=.iface 81 (uF true (35) kb)/\St No W w' [.blk kb 3 [ii k]]):=by
 have S:=St.start W
 refine zn Tryz.func19 Tryz.results19 Tryz.ntmps19 ?_
 refine zs ?_
 refine jF (jO rfl) S ?_
 intro b_kb w2_ g2_ S
 refine z ?_; refine z ?_
 refine jE (qU Tryz.underlying81 rfl rfl) ?_
 refine z ?_
 refine zq ?_
 exact yD rfl ⟨_,rfl,S⟩
theorem dX (h1:2<=k) (h2:k<=5):OfK k 78 true (24):=by
 intro W
 have S:=St.start W
 refine zn Tryz.func12 Tryz.results12 Tryz.ntmps12 ?_
 refine z ?_; refine z ?_
 refine zw1 ⟨?_⟩
 refine z ?_; refine z ?_
 refine zw2 ⟨?_⟩
 iterate 3 refine z ?_
 refine jC rfl (jdn) ?_
 rintro _ w1_ ⟨kb,rfl,S2⟩
 have S:=S.app S2
 refine z ?_
 refine zq ?_
 exact yD rfl ⟨_,rfl,S⟩
theorem cU (h1:6<=k) (h2:k<=11):OfK k 81 true (26):=by
 intro W
 have S:=St.start W
 refine zn Tryz.func12 Tryz.results12 Tryz.ntmps12 ?_
 refine z ?_; refine z ?_
 refine zw1 ⟨?_⟩
 refine z ?_; refine z ?_
 refine zw2 ⟨?_⟩
 iterate 3 refine z ?_
 refine zw1 ⟨?_⟩
 refine z ?_; refine z ?_
 refine zw2 ⟨?_⟩
 iterate 3 refine z ?_
 refine jC rfl (jfk) ?_
 rintro _ w1_ ⟨kb,rfl,S2⟩
 have S:=S.app S2
 refine z ?_
 refine zq ?_
 exact yD rfl ⟨_,rfl,S⟩
theorem zD (h1:12<=k) (h2:k<=17):OfK k 81 true (35):=by
 intro W
 have S:=St.start W
 refine zn Tryz.func12 Tryz.results12 Tryz.ntmps12 ?_
 refine z ?_; refine z ?_
 refine zw1 ⟨?_⟩
 refine z ?_; refine z ?_
 refine zw2 ⟨?_⟩
 iterate 3 refine z ?_
 refine zw1 ⟨?_⟩
 refine z ?_; refine z ?_
 refine zw2 ⟨?_⟩
 iterate 3 refine z ?_
 refine zw1 ⟨?_⟩
 refine z ?_; refine z ?_
 refine zw2 ⟨?_⟩
 iterate 3 refine z ?_
 refine jC rfl (jcV) ?_
 rintro _ w1_ ⟨kb,rfl,S2⟩
 have S:=S.app S2
 refine z ?_
 refine zq ?_
 exact yD rfl ⟨_,rfl,S⟩
theorem jbj:Fn Tryz.prog 20 [ii 1] W (fun v w'=>∃ kb,v=.iface 106 (uF false (44) kb)/\St No W w' [.blk kb 3 [ii 1]]):=by
 have S:=St.start W
 refine zn Tryz.func20 Tryz.results20 Tryz.ntmps20 ?_
 refine zs ?_
 refine jF (jO rfl) S ?_
 intro b_kb w2_ g2_ S
 refine z ?_; refine z ?_; refine zt ?_; refine z ?_
 refine zs ?_
 refine jE (qU Tryz.underlying106 rfl rfl) ?_
 refine z ?_
 refine zq ?_
 exact yD rfl ⟨_,rfl,S⟩
theorem jdu:OfK 1 106 false (44):=by
 intro W
 have S:=St.start W
 refine zn Tryz.func12 Tryz.results12 Tryz.ntmps12 ?_
 refine z ?_; refine z ?_
 refine zw1 ⟨?_⟩
 refine z ?_; refine z ?_
 refine zw2 ⟨?_⟩
 iterate 3 refine z ?_
 refine zw1 ⟨?_⟩
 refine z ?_; refine z ?_
 refine zw2 ⟨?_⟩
 iterate 3 refine z ?_
 refine zw1 ⟨?_⟩
 refine z ?_; refine z ?_
 refine zw2 ⟨?_⟩
 iterate 3 refine z ?_
 refine zw1 ⟨?_⟩
 refine z ?_; refine z ?_
 refine zw2 ⟨?_⟩
 iterate 3 refine z ?_
 refine jC rfl (jbj) ?_
 rintro _ w1_ ⟨kb,rfl,S2⟩
 have S:=S.app S2
 refine z ?_
 refine zq ?_
 exact yD rfl ⟨_,rfl,S⟩
theorem jdz:Fn Tryz.prog 20 [ii 25] W (fun v w'=>∃ kb,v=.iface 112 (uF false (48) kb)/\St No W w' [.blk kb 3 [ii 25]]):=by
 have S:=St.start W
 refine zn Tryz.func20 Tryz.results20 Tryz.ntmps20 ?_
 refine zs ?_
 refine jF (jO rfl) S ?_
 intro b_kb w2_ g2_ S
 refine z ?_; refine z ?_; refine zf ?_; refine z ?_; refine zf ?_; refine z ?_; refine zt ?_; refine z ?_
 refine zs ?_
 refine jE (qU Tryz.underlying112 rfl rfl) ?_
 refine z ?_
 refine zq ?_
 exact yD rfl ⟨_,rfl,S⟩
theorem jhm:OfK 25 112 false (48):=by
 intro W
 have S:=St.start W
 refine zn Tryz.func12 Tryz.results12 Tryz.ntmps12 ?_
 refine z ?_; refine z ?_
 refine zw1 ⟨?_⟩
 refine z ?_; refine z ?_
 refine zw2 ⟨?_⟩
 iterate 3 refine z ?_
 refine zw1 ⟨?_⟩
 refine z ?_; refine z ?_
 refine zw2 ⟨?_⟩
 iterate 3 refine z ?_
 refine zw1 ⟨?_⟩
 refine z ?_; refine z ?_
 refine zw2 ⟨?_⟩
 iterate 3 refine z ?_
 refine zw1 ⟨?_⟩
 refine z ?_; refine z ?_
 refine zw2 ⟨?_⟩
 iterate 3 refine z ?_
 refine jC rfl (jdz) ?_
 rintro _ w1_ ⟨kb,rfl,S2⟩
 have S:=S.app S2
 refine z ?_
 refine zq ?_
 exact yD rfl ⟨_,rfl,S⟩
theorem jbi:Fn Tryz.prog 20 [ii 18] W (fun v w'=>∃ kb,v=.iface 81 (uF false (50) kb)/\St No W w' [.blk kb 3 [ii 18]]):=by
 have S:=St.start W
 refine zn Tryz.func20 Tryz.results20 Tryz.ntmps20 ?_
 refine zs ?_
 refine jF (jO rfl) S ?_
 intro b_kb w2_ g2_ S
 refine z ?_; refine z ?_; refine zf ?_; refine z ?_; refine zf ?_; refine z ?_; refine zf ?_; refine z ?_; refine zf ?_; refine z ?_; refine zt ?_; refine z ?_
 refine zs ?_
 refine jE (qU Tryz.underlying81 rfl rfl) ?_
 refine z ?_
 refine zq ?_
 exact yD rfl ⟨_,rfl,S⟩
theorem jdt:OfK 18 81 false (50):=by
 intro W
 have S:=St.start W
 refine zn Tryz.func12 Tryz.results12 Tryz.ntmps12 ?_
 refine z ?_; refine z ?_
 refine zw1 ⟨?_⟩
 refine z ?_; refine z ?_
 refine zw2 ⟨?_⟩
 iterate 3 refine z ?_
 refine zw1 ⟨?_⟩
 refine z ?_; refine z ?_
 refine zw2 ⟨?_⟩
 iterate 3 refine z ?_
 refine zw1 ⟨?_⟩
 refine z ?_; refine z ?_
 refine zw2 ⟨?_⟩
 iterate 3 refine z ?_
 refine zw1 ⟨?_⟩
 refine z ?_; refine z ?_
 refine zw2 ⟨?_⟩
 iterate 3 refine z ?_
 refine jC rfl (jbi) ?_
 rintro _ w1_ ⟨kb,rfl,S2⟩
 have S:=S.app S2
 refine z ?_
 refine zq ?_
 exact yD rfl ⟨_,rfl,S⟩
theorem jdA:Fn Tryz.prog 20 [ii 23] W (fun v w'=>∃ kb,v=.iface 81 (uF false (52) kb)/\St No W w' [.blk kb 3 [ii 23]]):=by
 have S:=St.start W
 refine zn Tryz.func20 Tryz.results20 Tryz.ntmps20 ?_
 refine zs ?_
 refine jF (jO rfl) S ?_
 intro b_kb w2_ g2_ S
 refine z ?_; refine z ?_; refine zf ?_; refine z ?_; refine zf ?_; refine z ?_; refine zf ?_; refine z ?_; refine zf ?_; refine z ?_; refine zf ?_; refine z ?_; refine zt ?_; refine z ?_
 refine zs ?_
 refine jE (qU Tryz.underlying81 rfl rfl) ?_
 refine z ?_
 refine zq ?_
 exact yD rfl ⟨_,rfl,S⟩
theorem jhn:OfK 23 81 false (52):=by
 intro W
 have S:=St.start W
 refine zn Tryz.func12 Tryz.results12 Tryz.ntmps12 ?_
 refine z ?_; refine z ?_
 refine zw1 ⟨?_⟩
 refine z ?_; refine z ?_
 refine zw2 ⟨?_⟩
 iterate 3 refine z ?_
 refine zw1 ⟨?_⟩
 refine z ?_; refine z ?_
 refine zw2 ⟨?_⟩
 iterate 3 refine z ?_
 refine zw1 ⟨?_⟩
 refine z ?_; refine z ?_
 refine zw2 ⟨?_⟩
 iterate 3 refine z ?_
 refine zw1 ⟨?_⟩
 refine z ?_; refine z ?_
 refine zw2 ⟨?_⟩
 iterate 3 refine z ?_
 refine jC rfl (jdA) ?_
 rintro _ w1_ ⟨kb,rfl,S2⟩
 have S:=S.app S2
 refine z ?_
 refine zq ?_
 exact yD rfl ⟨_,rfl,S⟩
theorem jbh:Fn Tryz.prog 20 [ii 20] W (fun v w'=>∃ kb,v=.iface 119 (uF true (56) kb)/\St No W w' [.blk kb 3 [ii 20]]):=by
 have S:=St.start W
 refine zn Tryz.func20 Tryz.results20 Tryz.ntmps20 ?_
 refine zs ?_
 refine jF (jO rfl) S ?_
 intro b_kb w2_ g2_ S
 refine z ?_; refine z ?_; refine zf ?_; refine z ?_; refine zf ?_; refine z ?_; refine zf ?_; refine z ?_; refine zf ?_; refine z ?_; refine zf ?_; refine z ?_; refine zf ?_; refine z ?_; refine zf ?_; refine z ?_; refine zf ?_; refine z ?_; refine z ?_
 refine jE (qU Tryz.underlying119 rfl rfl) ?_
 refine z ?_
 refine zq ?_
 exact yD rfl ⟨_,rfl,S⟩
theorem jds:OfK 20 119 true (56):=by
 intro W
 have S:=St.start W
 refine zn Tryz.func12 Tryz.results12 Tryz.ntmps12 ?_
 refine z ?_; refine z ?_
 refine zw1 ⟨?_⟩
 refine z ?_; refine z ?_
 refine zw2 ⟨?_⟩
 iterate 3 refine z ?_
 refine zw1 ⟨?_⟩
 refine z ?_; refine z ?_
 refine zw2 ⟨?_⟩
 iterate 3 refine z ?_
 refine zw1 ⟨?_⟩
 refine z ?_; refine z ?_
 refine zw2 ⟨?_⟩
 iterate 3 refine z ?_
 refine zw1 ⟨?_⟩
 refine z ?_; refine z ?_
 refine zw2 ⟨?_⟩
 iterate 3 refine z ?_
 refine jC rfl (jbh) ?_
 rintro _ w1_ ⟨kb,rfl,S2⟩
 have S:=S.app S2
 refine z ?_
 refine zq ?_
 exact yD rfl ⟨_,rfl,S⟩
end
end
section
open Go.RowKit
section
variable {P : Program} {e : Nat → Value} {d : Option Tmp} {ty : TypeId} {ps : String} {af : Array Edge}
theorem rL {t el:TypeId} {len k:Nat} {parts:List (Nat × Operand)} {z:Value} {l0 l:List Value} (hu:P.underlying t=some (.array len el)) (hs:∀ w,(sizeOf el).run P w=.ok k w) (hz:∀ w,(zeroValue t).run P w=.ok z w)
  (h1:lay (fun i=>some (i * k,k)) z.cells.toList (evp e parts)=some l0) (h2:fzl l0=some l):OpV P e ⟨d,.build t parts.toArray,ty,ps,af,none⟩ (.agg l.toArray):=by
 intro w
 have h0:=vG h2
 subst h0
 have h3:=wV h1
 have h4:(z.cells.toList).toArray=z.cells:=by simp
 rw [h4] at h3
 have h5:(parts.map fun p=>(p.1,ev e p.2))=evp e parts:=jbs e parts
 simp [OpR,execOp,Instr.build,hz,run_underlying hu,hs,h5,h3]
theorem wD {t el:TypeId} {x i:Operand} {len k:Nat} {kd:IntKind} {n:Int} {cs l:List Value} {dd:TypeDesc} (hu:P.underlying t=some (.array len el)) (hd:P.underlying el=some dd) (hz:∀ w,(sizeOf el).run P w=.ok k w) (ha:fL dd=true) (hx:ev e x=.agg cs.toArray) (hi:ev e i=.int kd n) (h0:0<=n) (h1:n < len)
  (hv:(cs.drop (n.toNat * k)).take k=l):OpV P e ⟨d,.index t x i,ty,ps,af,none⟩ (.agg l.toArray):=by
 intro w
 simp [OpR,execOp,hx,hi,Instr.index,asIntOf,run_underlying hu,hz,h0,h1,part,xK hd,ha]
 exact hv
end
section
variable {W : World}
end
def thN (gw n i:Nat):Nat->Bool
 | 0=>decide (gw<=i)
 | 1=>decide (0 < i % gw)
 | 2=>decide (i % gw+1 < gw)
 | _=>decide (i+gw < n)
def atZ (gw i:Nat):Nat->Int
 | 0=>(i:Int) - gw
 | 1=>(i:Int) - 1
 | 2=>(i:Int)+1
 | _=>(i:Int)+gw
def jgs (gw n i:Nat):Nat->List Nat
 | 0=>if gw<=i then [i - gw] else []
 | 1=>if 0 < i % gw then [i - 1] else []
 | 2=>if i % gw+1 < gw then [i+1] else []
 | _=>if i+gw < n then [i+gw] else []
def jaW (gw n i:Nat):Nat->List Nat
 | 0=>[]
 | k+1=>jaW gw n i k ++ jgs gw n i k
theorem jfb (gw n i:Nat):jaW gw n i 4=zS gw n i:=by
 simp only [jaW,jgs,zS,List.nil_append]
theorem jgr {gw gh i:Nat} (hgw:0 < gw) (hi:i < gw * gh) (k:Nat) (hk:k < 4) :
  (thN gw (gw * gh) i k=true/\∃ a,atZ gw i k=(a:Nat)/\a < gw * gh/\jgs gw (gw * gh) i k=[a])\/(thN gw (gw * gh) i k=false/\jgs gw (gw * gh) i k=[]):=by
 have hn:=jbe (gh:=gh) hgw hi
 have hp:0 < i % gw->1<=i:=fun h=>by
  rcases Nat.eq_zero_or_pos i with h1 | h1
  ·subst h1; simp at h
  ·exact h1
 match k,hk with
 | 0,_ =>
  by_cases h:gw<=i
  ·exact .inl ⟨decide_eq_true h,i - gw,by simp only [atZ]; omega,by omega,if_pos h⟩
  ·exact .inr ⟨decide_eq_false h,if_neg h⟩
 | 1,_ =>
  by_cases h:0 < i % gw
  ·exact .inl ⟨decide_eq_true h,i - 1,by have:=hp h; simp only [atZ]; omega,by omega,if_pos h⟩
  ·exact .inr ⟨decide_eq_false h,if_neg h⟩
 | 2,_ =>
  by_cases h:i % gw+1 < gw
  ·exact .inl ⟨decide_eq_true h,i+1,by simp only [atZ]; omega,hn h,if_pos h⟩
  ·exact .inr ⟨decide_eq_false h,if_neg h⟩
 | 3,_ =>
  by_cases h:i+gw < gw * gh
  ·exact .inl ⟨decide_eq_true h,i+gw,by simp only [atZ]; omega,h,if_pos h⟩
  ·exact .inr ⟨decide_eq_false h,if_neg h⟩
def jjM (gw n i:Nat):List Value:=[.bool (thN gw n i 0),ii (atZ gw i 0),.bool (thN gw n i 1),ii (atZ gw i 1),.bool (thN gw n i 2),ii (atZ gw i 2),.bool (thN gw n i 3),ii (atZ gw i 3)]
theorem je2 {gw n i:Nat} (k:Nat) (hk:k < 4):((jjM gw n i).drop ((k:Int).toNat * 2)).take 2=[.bool (thN gw n i k),ii (atZ gw i k)]:=by
 match k,hk with
 | 0,_=>rfl
 | 1,_=>rfl
 | 2,_=>rfl
 | 3,_=>rfl
def flw (V:List Int) (i:Nat) (l:List Nat):Nat:=l.foldl (fun b n=>if V.getD n 0 < V.getD b 0 then n else b) i
theorem jjo (V:List Int) (i:Nat) (l r:List Nat):flw V i (l ++ r)=flw V (flw V i l) r:=List.foldl_append
theorem jay (V:List Int):∀ (l:List Nat) (i:Nat),flw V i l=i\/(flw V i l ∈ l/\V.getD (flw V i l) 0 < V.getD i 0)
 | [],i=>.inl rfl
 | n::l,i=>by
  show flw V (if V.getD n 0 < V.getD i 0 then n else i) l=i\/_
  have ih:=jay V l
  have e:flw V i (n::l)=flw V (if V.getD n 0 < V.getD i 0 then n else i) l:=rfl
  rw [e]
  by_cases h:V.getD n 0 < V.getD i 0
  ·rw [if_pos h]
   rcases ih n with h1 | ⟨h1,h2⟩
   ·rw [h1]; exact .inr ⟨List.mem_cons_self,h⟩
   ·exact .inr ⟨List.mem_cons_of_mem _ h1,by omega⟩
  ·rw [if_neg h]
   rcases ih i with h1 | ⟨h1,h2⟩
   ·exact .inl h1
   ·exact .inr ⟨List.mem_cons_of_mem _ h1,h2⟩
def vY (gw:Nat) (V:List Int) (i:Nat):Nat:=flw V i (zS gw V.length i)
theorem dJ {gw gh:Nat} {V:List Int} (hgw:0 < gw) (hV:V.length=gw * gh) {i:Nat} (hi:i < gw * gh):vY gw V i=i\/(vY gw V i < gw * gh/\V.getD (vY gw V i) 0 < V.getD i 0):=by
 rcases jay V (zS gw V.length i) i with h | ⟨h1,h2⟩
 ·exact .inl h
 ·rw [hV] at h1
  refine .inr ⟨?_,h2⟩
  have:=((xA hgw hi).1 h1).1
  unfold vY
  rw [hV]
  exact this
theorem jcC {gw gh:Nat} {V:List Int} (hgw:0 < gw) (hV:V.length=gw * gh) {i:Nat} (hi:i < gw * gh):vY gw V i < gw * gh:=by
 rcases dJ hgw hV hi with h | h
 ·rw [h]; exact hi
 ·exact h.1
end
section
def itr (f:Nat->Nat):Nat->Nat->Nat
 | 0,i=>i
 | k+1,i=>f (itr f k i)
theorem bS (f:Nat->Nat):∀ k i,itr f (k+1) i=itr f k (f i)
 | 0,i=>rfl
 | k+1,i=>congrArg f (bS f k i)
structure Fall (n:Nat) (v:Nat->Int) (f:Nat->Nat):Prop where
 lt:∀ i,i < n->f i < n
 fall:∀ i,i < n->f i=i\/v (f i) < v i
def Stop (f:Nat->Nat) (c k:Nat):Prop:=(∀ j,j < k->itr f (j+1) c ≠ itr f j c)/\itr f (k+1) c=itr f k c
section
variable {n : Nat} {v : Nat → Int} {f : Nat → Nat} {c k k' i : Nat}
theorem Stop.uniq (h:Stop f c k) (h':Stop f c k'):k=k':=by
 rcases Nat.lt_trichotomy k k' with e | e | e
 ·exact absurd h.2 (h'.1 k e)
 ·exact e
 ·exact absurd h'.2 (h.1 k' e)
theorem Fall.itr_lt (h:Fall n v f) (hc:c < n):∀ k,itr f k c < n
 | 0=>hc
 | k+1=>h.lt _ (h.itr_lt hc k)
theorem Fall.stops (h:Fall n v f):∀ (r c:Nat),c < n->nC n v c<=r->∃ k,Stop f c k/\k<=r
 | r,c,hc,hr=>by
  rcases h.fall c hc with e | e
  ·exact ⟨0,⟨fun j hj=>by omega,e⟩,Nat.zero_le _⟩
  ·have h1:=bH (n:=n) (d:=v) (i:=f c) (j:=c) (h.lt c hc) e
   cases r with
   | zero=>omega
   | succ r =>
    obtain ⟨k,hk,hkr⟩:=h.stops r (f c) (h.lt c hc) (by omega)
    refine ⟨k+1,⟨fun j hj=>?_,?_⟩,by omega⟩
    ·cases j with
     | zero=>show f c ≠ c; intro e2; rw [e2] at e; omega
     | succ j=>rw [bS f (j+1) c,bS f j c]; exact hk.1 j (by omega)
    ·rw [bS f (k+1) c,bS f k c]; exact hk.2
theorem Fall.stop (h:Fall n v f) (hc:c < n):∃ k,Stop f c k/\k < n:=by
 obtain ⟨k,h1,h2⟩:=h.stops _ c hc (Nat.le_refl _)
 have:=bG (n:=n) (d:=v) hc
 exact ⟨k,h1,by omega⟩
def jgd (f:Nat->Nat) (c k:Nat):List Nat:=(List.range (k+1)).map fun j=>itr f j c
theorem jey:jgd f c (k+1)=jgd f c k ++ [itr f (k+1) c]:=by
 unfold jgd
 rw [List.range_succ,List.map_append]
 rfl
end
theorem jfE {gw gh:Nat} {V:List Int} (hgw:0 < gw) (hV:V.length=gw * gh):Fall (gw * gh) (fun i=>V.getD i 0) (vY gw V) :=
 ⟨fun i hi=>jcC hgw hV hi,fun i hi=>(dJ hgw hV hi).imp id (fun h=>h.2)⟩
end
end Go.Proofs.YtipnifjmhlcehaaGreatDoor
