/- hachuretop.WholeFlat: a part of the proof that the law returns true at every input (SkipB, View, Heap, Jobs, Queue, RouteB); no condition of its own. -/
import Derived.Test.YtipnifjmhlcehaaGreatDoorKO
import Derived.Test.YtipnifjmhlcehaaGreatDoorKC
import Derived.Test.YtipnifjmhlcehaaGreatDoorKD
import Derived.Test.YtipnifjmhlcehaaGreatDoorKH
import Derived.Test.YtipnifjmhlcehaaGreatDoorKE
import Derived.Test.YtipnifjmhlcehaaGreatDoorKG
set_option linter.unusedVariables false
set_option linter.unusedSimpArgs false
set_option maxRecDepth 100000
set_option maxHeartbeats 16000000
namespace Go.Proofs.YtipnifjmhlcehaaGreatDoor
section
open Go.RowKit
def C2S (F:Nat->Prop) (W:World) (L:List HA) (i j k:Nat) (t:TypeId) (z x:Value) (σ:List (Nat × Value)) (w:World):Prop :=
 ∃ Q1 Q2,(match σ.lookup i with | none=>Q1=[] | some u=>∃ b,u=.pointer (some ⟨b,0,none⟩)/\Q1=[.blk b t [if (σ.lookup k).isSome then x else z]])/\(match σ.lookup j with | none=>Q2=[] | some u=>∃ b,u=.pointer (some ⟨b,0,none⟩)/\Q2=[.blk b t [z]])/\St F W w (Q1 ++ (Q2 ++ L))
theorem C2S.mid_ {F:Nat->Prop} {W w:World} {A B C:List HA} (S:St F W w (A ++ (B ++ C))):St F W w (B ++ (A ++ C)):=by
 refine S.perm_ ?_
 rw [<-List.append_assoc,<-List.append_assoc]
 exact List.perm_append_comm.append_right C
section
variable {F : Nat → Prop} {W w w' : World} {L : List HA} {i j k : Nat} {t : TypeId} {z x : Value} {σ : List (Nat × Value)}
theorem C2S.start (S:St F W w L):C2S F W L i j k t z x [] w:=⟨[],[],rfl,rfl,S⟩
theorem C2S.st (h:C2S F W L i j k t z x σ w):St F W w L:=by
 obtain ⟨Q1,Q2,_,_,S⟩:=h
 have:=S.drop (Q1 ++ Q2).length
 rwa [<-List.append_assoc,List.drop_left] at this
theorem C2S.gr (h:C2S F W L i j k t z x σ w) (g:Gr w w'):C2S F W L i j k t z x σ w':=by
 obtain ⟨Q1,Q2,h1,h2,S⟩:=h
 exact ⟨Q1,Q2,h1,h2,S.gr g⟩
section
variable {P : Program} {e : Nat → Value} {d : Option Tmp} {ty : TypeId} {ps : String} {af : Array Edge}
theorem rD {zv:Value} (h:C2S F W L i j k t z x σ w) (hi:σ.lookup i=none) (hk:σ.lookup k=none) (hij:(j == i)=false) (hik:(k == i)=false) (hz:∀ w,(zeroValue t).run P w=.ok zv w) (hl:zv.cells.toList=[z]):qM P e ⟨d,.alloc t,ty,ps,af,none⟩ w (fun v w'=>C2S F W L i j k t z x ((i,v)::σ) w'):=by
 obtain ⟨Q1,Q2,h1,h2,S⟩:=h
 rw [hi] at h1
 subst h1
 refine q7 rfl (jF (jL hz hl) S (fun b w' g S=>⟨[.blk b t [z]],Q2,?_,?_,S⟩))
 ·simp only [List.lookup_cons,beq_self_eq_true,hik,hk]
  exact ⟨b,rfl,rfl⟩
 ·simp only [List.lookup_cons,hij]
  exact h2
theorem rC {zv:Value} (h:C2S F W L i j k t z x σ w) (hj:σ.lookup j=none) (hij:(i == j)=false) (hkj:(k == j)=false) (hz:∀ w,(zeroValue t).run P w=.ok zv w) (hl:zv.cells.toList=[z]):qM P e ⟨d,.alloc t,ty,ps,af,none⟩ w (fun v w'=>C2S F W L i j k t z x ((j,v)::σ) w'):=by
 obtain ⟨Q1,Q2,h1,h2,S⟩:=h
 rw [hj] at h2
 subst h2
 refine q7 rfl (jF (jL hz hl) S (fun b w' g S=>⟨Q1,[.blk b t [z]],?_,?_,C2S.mid_ (A:=[_]) S⟩))
 ·simp only [List.lookup_cons,hij,hkj]
  exact h1
 ·simp only [List.lookup_cons,beq_self_eq_true]
  exact ⟨b,rfl,rfl⟩
theorem pU {b:Nat} {p y:Operand} (h:C2S F W L i j k t z x σ w) (hi:σ.lookup i=some (pt b)) (hk:σ.lookup k=none) (hik:(i == k)=false) (hjk:(j == k)=false) (hz:(sizeOf t).run P w=.ok 1 w) (hp:ev e p=pt b) (hy:fz (ev e y)=some x) (hv:x.oneCell'=true) (hvc:x.cells=#[x]) :
  qM P e ⟨d,.store t p y,ty,ps,af,none⟩ w (fun u w'=>C2S F W L i j k t z x ((k,u)::σ) w'):=by
 obtain ⟨Q1,Q2,h1,h2,S⟩:=h
 rw [hi,hk] at h1
 obtain ⟨b',e',rfl⟩:=h1
 cases e'
 refine q7 rfl (j8 (i:=0) S rfl hz hp hy hv hvc rfl rfl (fun w' S'=>⟨[.blk b t [x]],Q2,?_,?_,S'⟩))
 ·simp only [List.lookup_cons,hik,hi,beq_self_eq_true]
  exact ⟨b,rfl,rfl⟩
 ·simp only [List.lookup_cons,hjk]
  exact h2
end
theorem C2S.ia {u:Value} (h:C2S F W L i j k t z x σ w) (hi:σ.lookup i=some u):∃ b,u=pt b:=by
 obtain ⟨Q1,Q2,h1,h2,S⟩:=h
 rw [hi] at h1
 obtain ⟨b,e,_⟩:=h1
 exact ⟨b,e⟩
theorem C2S.ja {u:Value} (h:C2S F W L i j k t z x σ w) (hj:σ.lookup j=some u):∃ b,u=pt b:=by
 obtain ⟨Q1,Q2,h1,h2,S⟩:=h
 rw [hj] at h2
 obtain ⟨b,e,_⟩:=h2
 exact ⟨b,e⟩
theorem C2S.fin {b c:Nat} (h:C2S F W L i j k t z x σ w) (hi:σ.lookup i=some (pt b)) (hj:σ.lookup j=some (pt c)) (hk:(σ.lookup k).isSome=true):St F W w (.blk b t [x]::.blk c t [z]::L):=by
 obtain ⟨Q1,Q2,h1,h2,S⟩:=h
 rw [hi,hk] at h1
 rw [hj] at h2
 obtain ⟨b',e',rfl⟩:=h1
 obtain ⟨c',e2,rfl⟩:=h2
 cases e'
 cases e2
 exact S
end
section
variable {W w' : World} {xb yb gw gh : Nat} {v : Int} {l : List (Int × Int)}
theorem jgG {P:Program} {e:Nat->Value} {w:World} {a s u:Tmp} {t tb:TypeId} {b o n:Nat} {dd:TypeDesc} {cs l:List Value} {v1 v2:Value} {R:Value->World->Prop} (hu:P.underlying t=some dd) (hd:fL dd=true) (hz:(sizeOf t).run P w=.ok n w) (hx:e a=.pointer (some ⟨b,o,none⟩)) (hB:Blk w b tb l)
  (hl:fzl ((l.drop o).take n)=some cs) (hn:cs.length=n) (h1:fz (e s)=some v1) (h2:fz (e u)=some v2) (hR:R (.tuple #[v1,.agg cs.toArray,v2]) w):QF P #[.tmp s,.cell a t,.tmp u] R .ret e w :=
 ⟨_,fun fn tmps hr hg=>by
  have h3 := k7 (o := default) (jT (P := P) (d := none) (ty := 0) (ps := "") (af := #[]) (e := fun _ => .pointer (some ⟨b, o, none⟩)) (x := .tmp 0) hu hd hz rfl hB hl hn)
  have g1:=hg a
  have g2:=hg u
  have g3:=hg s
  rw [hx,Array.getD_eq_getD_getElem?] at g1
  rw [zU h2,Array.getD_eq_getD_getElem?] at g2
  rw [zU h1,Array.getD_eq_getD_getElem?] at g3
  simp [results,hr,g1,g2,g3,asAddr,h3],hR⟩
theorem jeL (k s t:Nat) (hk:k < nLv gw gh) (hst:s<=t) (ht:t < l.length) (h:WayAt W xb yb gw gh v l):Fn Tryz.prog (145) [pt xb,ii k,ii s,ii t] W (fun u w'=>∃ p:Nat,u=ii p/\s<=p/\p<=t/\Gr W w'):=by
 obtain ⟨x,y,hc,hx,hy⟩:=h.cell (i:=s) (by omega)
 have hlen:=h.len
 have hw:=h.hw
 have hh:=h.hh
 have hlv:=xR hw.2 hh.2
 have hab:=fun w=>jbH (W:=w) k x y hw hh hk hx hy
 have hsp:=fun w=>jio (W:=w) k (x / 2 ^ k) (y / 2 ^ k) hw hh hk (mQ k hx) (mQ k hy)
 have hx2:x / 2 ^ k * 2 ^ k<=x:=Nat.div_mul_le_self _ _
 have hy2:y / 2 ^ k * 2 ^ k<=y:=Nat.div_mul_le_self _ _
 have hx3:x < (x / 2 ^ k+1) * 2 ^ k:=by
  have:=Nat.div_add_mod x (2 ^ k)
  have h2:=Nat.mod_lt x (show 2 ^ k > 0 from Nat.pow_pos (by omega))
  rw [Nat.add_mul,Nat.one_mul,Nat.mul_comm]
  omega
 have hy3:y < (y / 2 ^ k+1) * 2 ^ k:=by
  have:=Nat.div_add_mod y (2 ^ k)
  have h2:=Nat.mod_lt y (show 2 ^ k > 0 from Nat.pow_pos (by omega))
  rw [Nat.add_mul,Nat.one_mul,Nat.mul_comm]
  omega
 have hcell:=fun i (hi:i < l.length)=>h.cell hi
 generalize x / 2 ^ k * 2 ^ k=X0 at *
 generalize y / 2 ^ k * 2 ^ k=Y0 at *
 generalize (x / 2 ^ k+1) * 2 ^ k=X1 at *
 generalize (y / 2 ^ k+1) * 2 ^ k=Y1 at *
 generalize x / 2 ^ k=X at *
 generalize y / 2 ^ k=Y at *
 have hr:uQ (X0:Int) (Y0:Int) ((min X1 gw - 1:Nat):Int) ((min Y1 gh - 1:Nat):Int)=true:=(vO _ _ _ _).2 (by omega)
 obtain ⟨X2,eX2⟩:∃ q,q=min X1 gw - 1:=⟨_,rfl⟩
 obtain ⟨Y2,eY2⟩:∃ q,q=min Y1 gh - 1:=⟨_,rfl⟩
 rw [<-eX2,<-eY2] at hr hsp
 obtain ⟨lA,lc,hX,hL⟩:=h.blk
 have sa_lA:yH lA:=hL.someA (by rw [fI]; omega)
 have hget:((qB l).drop ((s:Int).toNat * 2)).take 2=[ii x,ii y]:=by rw [Int.toNat_natCast]; exact xZ hc
 have S:=St.start W
 refine zn Tryz.func145 Tryz.results145 Tryz.ntmps145 ?_
 refine z ?_
 refine zc ?_
 refine qQ (C:=(CA No W [] 23 [ii 0,ii 0] [ii X,ii Y])) [20,21] [0,1,2,3,4,5,6,7,8,9,10,11,12,13,14,15,16,17,18,19,20,21] [22] (by kernel_rfl) (by kernel_rfl) (CA.start (S.gr (Gr.drew _))) ?_
 simp only [yT,j6,List.drop_succ_cons,List.drop_zero]
 refine jX rfl (jA rfl) ?_
 refine jX rfl (jA rfl) ?_
 refine jX rfl (jD cG rfl qz2 rfl rfl) ?_
 refine qF rfl (fun τ wq hq=>jB q2 rfl rfl (hX.gr hq.st.out) rfl) ?_
 refine jX rfl (jA rfl) ?_
 refine jX rfl (jA rfl) ?_
 refine jX rfl (jD cG rfl qz2 rfl rfl) ?_
 refine qF rfl (fun τ wq hq=>jB q2 rfl rfl (hX.gr hq.st.out) rfl) ?_
 refine jX rfl (jA rfl) ?_
 refine jX rfl (jA rfl) ?_
 refine jX rfl (jA rfl) ?_
 refine jX rfl (jD cG rfl sM rfl rfl) ?_
 refine qF rfl (fun τ wq hq=>jB q37 rfl rfl (hX.gr hq.st.out) rfl) ?_
 refine jX rfl (jA rfl) ?_
 refine jX rfl (kV q37 qI rfl rfl sa_lA (by omega) (by omega)) ?_
 refine qF rfl (fun τ wq hq=>yY q23 rfl (qI _) rfl (hL.gr hq.st.out) hget rfl rfl) ?_
 refine vV rfl rfl (fun τ wq hq=>(hab wq).mono (fun _ _ ⟨hv,hg⟩=>⟨hv,hq.gr hg⟩)) ?_
 refine jX rfl (jA rfl) ?_
 refine jX rfl (jA rfl) ?_
 refine jX rfl (jA rfl) ?_
 refine jZ rfl rfl (fun wq hq=>x7 hq kL rfl) ?_
 rintro v14 w14 ⟨b_c,rfl,_⟩
 refine jZ rfl rfl (fun wq hq=>x6 hq (qI _) rfl rfl rfl rfl rfl) ?_
 rintro v15 w15 _
 refine yV ?_
 rintro wz hz
 obtain ⟨b_c2,e_c2,S⟩:=hz.fin
 cases e_c2
 refine z ?_
 refine zc ?_
 refine qQ (C:=(CA No W [.blk b_c 23 [ii X,ii Y]] 27 [ii 0,ii 0,ii 0,ii 0] [ii X0,ii Y0,ii X2,ii Y2])) [14,15] [0,1,2,3,4,5,6,7,8,9,10,11,12,13,14,15] [16] (by kernel_rfl) (by kernel_rfl) (CA.start (S.gr (Gr.drew _))) ?_
 simp only [yT,j6,List.drop_succ_cons,List.drop_zero]
 refine jX rfl (jA rfl) ?_
 refine jX rfl (jA rfl) ?_
 refine jX rfl (jD cG rfl qz2 rfl rfl) ?_
 refine qF rfl (fun τ wq hq=>jB q2 rfl rfl (hX.gr hq.st.out) rfl) ?_
 refine jX rfl (jA rfl) ?_
 refine jX rfl (jA rfl) ?_
 refine jX rfl (jD cG rfl qz2 rfl rfl) ?_
 refine qF rfl (fun τ wq hq=>jB q2 rfl rfl (hX.gr hq.st.out) rfl) ?_
 refine jX rfl (jA rfl) ?_
 refine qF rfl (fun τ wq hq=>jT q23 rfl (qI _) rfl (hq.st.blk (i:=0) rfl) rfl rfl) ?_
 refine vV rfl rfl (fun τ wq hq=>(hsp wq).mono (fun _ _ ⟨hv,hg⟩=>⟨hv,hq.gr hg⟩)) ?_
 refine jX rfl (jA rfl) ?_
 refine jX rfl (jA rfl) ?_
 refine jX rfl (jA rfl) ?_
 refine jZ rfl rfl (fun wq hq=>x7 hq qX rfl) ?_
 rintro v16 w16 ⟨b_r,rfl,_⟩
 refine jZ rfl rfl (fun wq hq=>x6 hq (y6 _) rfl rfl rfl rfl rfl) ?_
 rintro v17 w17 _
 refine yV ?_
 rintro wz2 hz2
 obtain ⟨b_r2,e_r2,S⟩:=hz2.fin
 cases e_r2
 iterate 5 refine z ?_
 refine zc ?_
 refine jS ?_
 refine zc ?_
 refine j9 (fun m e w=>∃ lo hi:Nat,m=hi - lo/\s<=lo/\lo<=hi/\hi<=t/\SL e [(0,pt xb),(11,pt b_r),(13,ii lo),(14,ii hi)]/\St No W w [.blk b_r 27 [ii X0,ii Y0,ii X2,ii Y2]]) (t - s)
  ⟨s,t,rfl,by omega,hst,by omega,⟨rfl,rfl,rfl,rfl,trivial⟩,S.sub (.cons_cons _ (.cons _ .slnil))⟩ ?_
 clear S
 rintro m e w ⟨lo,hi,rfl,h1,h2,h3,hsl,S⟩
 rw [hsl.fold]
 by_cases hlt:lo < hi
 ·have em:((lo:Int)+hi+1) / 2=(((lo+hi+1) / 2:Nat):Int):=by omega
  obtain ⟨mid,hm⟩:∃ q,q=(lo+hi+1) / 2:=⟨_,rfl⟩
  rw [<-hm] at em
  obtain ⟨cx,cy,hcm,hcx,hcy⟩:=hcell mid (by omega)
  have hget2:((qB l).drop ((mid:Int).toNat * 2)).take 2=[ii cx,ii cy]:=by rw [Int.toNat_natCast]; exact xZ hcm
  cases hb:jkC X0 Y0 X2 Y2 cx cy with
  | true =>
   refine z ?_; refine z ?_; refine zt ?_; refine z ?_; refine z ?_; iterate 2 refine zr ?_
   refine jE (vP rfl rfl (by omega) (by omega)) ?_
   rw [em]
   refine z ?_
   refine zc ?_
   refine yB (C:=fun wq=>Gr w wq) [0,1,2,3,4,5,6,7,8] [] (by kernel_rfl) (by kernel_rfl) (Gr.drew _) ?_
   simp only [j6,List.drop_succ_cons,List.drop_zero]
   refine jV (fun wq hq=>jT q27 rfl (y6 _) rfl ((S.gr hq).blk (i:=0) rfl) rfl rfl) ?_
   iterate 2 refine jW (jA rfl) ?_
   refine jW (jD cG rfl sM rfl rfl) ?_
   refine jV (fun wq hq=>jB q37 rfl rfl (hX.gr (S.gr hq).out) rfl) ?_
   refine jW (jA rfl) ?_
   refine jW (kV q37 qI rfl rfl sa_lA (by omega) (by omega)) ?_
   refine jV (fun wq hq=>yY q23 rfl (qI _) rfl (hL.gr (S.gr hq).out) hget2 rfl rfl) ?_
   refine y8 rfl (fun wq hq=>((hb ▸ jgD (W:=wq) X0 Y0 X2 Y2 cx cy hr)).mono (fun _ _ ⟨hv,hg⟩=>⟨hv,hq.trans hg⟩)) ?_
   refine yJ ?_
   intro w3_ g3_
   have S:=S.gr g3_
   refine z ?_; refine z ?_
   refine ze ?_
   exact ⟨hi - mid,by omega,mid,hi,rfl,by omega,by omega,by omega,⟨rfl,rfl,rfl,rfl,trivial⟩,S⟩
  | false =>
   have e2:(mid:Int) - 1=((mid - 1:Nat):Int):=by omega
   refine z ?_; refine z ?_; refine zt ?_; refine z ?_; refine z ?_; iterate 2 refine zr ?_
   refine jE (vP rfl rfl (by omega) (by omega)) ?_
   rw [em]
   refine z ?_
   refine zc ?_
   refine yB (C:=fun wq=>Gr w wq) [0,1,2,3,4,5,6,7,8] [] (by kernel_rfl) (by kernel_rfl) (Gr.drew _) ?_
   simp only [j6,List.drop_succ_cons,List.drop_zero]
   refine jV (fun wq hq=>jT q27 rfl (y6 _) rfl ((S.gr hq).blk (i:=0) rfl) rfl rfl) ?_
   iterate 2 refine jW (jA rfl) ?_
   refine jW (jD cG rfl sM rfl rfl) ?_
   refine jV (fun wq hq=>jB q37 rfl rfl (hX.gr (S.gr hq).out) rfl) ?_
   refine jW (jA rfl) ?_
   refine jW (kV q37 qI rfl rfl sa_lA (by omega) (by omega)) ?_
   refine jV (fun wq hq=>yY q23 rfl (qI _) rfl (hL.gr (S.gr hq).out) hget2 rfl rfl) ?_
   refine y8 rfl (fun wq hq=>((hb ▸ jgD (W:=wq) X0 Y0 X2 Y2 cx cy hr)).mono (fun _ _ ⟨hv,hg⟩=>⟨hv,hq.trans hg⟩)) ?_
   refine yJ ?_
   intro w4_ g4_
   have S:=S.gr g4_
   refine z ?_; refine zr ?_
   rw [e2]
   refine z ?_
   refine ze ?_
   exact ⟨mid - 1 - lo,by omega,lo,mid - 1,rfl,by omega,by omega,by omega,⟨rfl,rfl,rfl,rfl,trivial⟩,S⟩
 ·skip
  refine z ?_; refine z ?_; refine zf ?_
  refine zc ?_
  refine jM rfl ?_
  refine zc ?_
  refine jY ?_
  repeat first | refine jP ?_ | refine jU ?_
  show CW _ _ _ _ _ _
  refine z ?_; refine z ?_
  refine zq ?_
  exact yD rfl ⟨lo,rfl,h1,by omega,S.out⟩
theorem jeM {fid:Nat} {caps:List Value} (t:Nat) (ht:t < l.length) (h:WayAt W xb yb gw gh v l) (hf:∀ w,Gr W w->∀ i j:Nat,1<=i->i<=t->j<=t->Fn Tryz.prog fid ([] ++ [ii v,ii i,ii j] ++ caps) w (yK (.bool false) w)) :
  Fn Tryz.prog (81) [pt xb,ii 1,ii t,.func (.func fid) (([]:List Value).toArray) caps.toArray] W (yK (ii (-1)) W):=by
 have hlen:=h.len
 have hw:=h.hw
 have hh:=h.hh
 have hlv:=xR hw.2 hh.2
 obtain ⟨lA,lc,hX,hL⟩:=h.blk
 have S:=St.start W
 refine zn Tryz.func81 Tryz.results81 Tryz.ntmps81 ?_
 refine z ?_; refine z ?_
 refine zc ?_
 refine jS ?_
 refine zc ?_
 refine j9 (fun m e w=>∃ i k:Nat,m=t+1 - i/\1<=i/\i<=max 1 (t+1)/\k < nLv gw gh/\SL e [(0,pt xb),(1,ii i),(2,ii t),(3,.func (.func fid) (([]:List Value).toArray) caps.toArray),(9,ii k)]/\St No W w []) t
  ⟨1,0,rfl,by omega,by omega,by omega,⟨rfl,rfl,rfl,rfl,rfl,trivial⟩,S⟩ ?_
 clear S
 rintro m e w ⟨i,k,rfl,h1,h2,h3,hsl,S⟩
 rw [hsl.fold]
 by_cases hi:i<=t
 ·skip
  refine z ?_; refine z ?_; refine zt ?_; iterate 4 refine z ?_
  refine jC rfl (jeL k i t h3 hi ht (h.gr S.out)) ?_
  rintro _ w1_ ⟨p,rfl,hp1,hp2,g1_⟩
  have S:=S.gr g1_
  refine z ?_
  refine zc ?_
  refine jS ?_
  have ek:min ((k:Int)+1) (((nLv gw gh:Nat):Int) - 1)=((min (k+1) (nLv gw gh - 1):Nat):Int):=by omega
  iterate 4 refine z ?_
  refine jC rfl (jgn k i h3 (by omega) (h.gr S.out)) ?_
  rintro _ w2_ ⟨rfl,g2_⟩
  have S:=S.gr g2_
  refine z ?_; refine z ?_
  refine zJ rfl rfl (hf w2_ S.out i p h1 hi hp2) ?_
  rintro _ w3_ ⟨rfl,g3_⟩
  have S:=S.gr g3_
  (iterate 3 refine z ?_); refine zr ?_; refine z ?_; refine z ?_; refine zr ?_; iterate 3 refine z ?_
  refine j3 (jB Tryz.underlying82 rfl rfl (hX.gr S.out) rfl) ?_
  refine jC rfl (jc9 (h.pyr.gr S.out)) ?_
  rintro _ w4_ ⟨rfl,g4_⟩
  have S:=S.gr g4_
  refine zr ?_; refine z ?_
  rw [ek]
  refine z ?_
  refine ze ?_
  exact ⟨t+1 - (p+1),by omega,p+1,_,rfl,by omega,by omega,by omega,⟨rfl,rfl,rfl,rfl,rfl,trivial⟩,S⟩
 ·skip
  refine z ?_; refine z ?_; refine zf ?_
  refine zc ?_
  refine jM rfl ?_
  refine zc ?_
  refine jY ?_
  repeat first | refine jP ?_ | refine jU ?_
  show CW _ _ _ _ _ _
  refine z ?_
  refine zq ?_
  exact yD rfl ⟨rfl,S.out⟩
theorem jj6 {eb tb nb n:Nat} (hv:-4294967296<=v/\v<=4294967296) (hn:1<=n/\n<=1024) (he:Blk W eb 2 [ii v]) (ht:Blk W tb 2 [ii v]) (hb:Blk W nb 3 [ii n]) (i j:Nat) (hi:i<=n) (hj:j<=n) :
  Fn Tryz.prog 82 ([] ++ [ii v,ii i,ii j] ++ [pt eb,pt tb,pt nb]) W (yK (.bool false) W):=by
 have S:=St.start W
 refine zn Tryz.func82 Tryz.results82 Tryz.ntmps82 ?_
 refine z ?_; refine z ?_
 refine j3 (jB q2 rfl rfl (he.gr S.out) rfl) ?_
 refine j3 (jB q2 rfl rfl (ht.gr S.out) rfl) ?_
 refine z ?_
 refine j3 (jB q3 rfl rfl (hb.gr S.out) rfl) ?_
 refine jC rfl (mO v i n hv (by omega) (by omega)) ?_
 rintro _ w1_ ⟨rfl,g1_⟩
 have S:=S.gr g1_
 iterate 6 refine z ?_
 refine j3 (jB q2 rfl rfl (he.gr S.out) rfl) ?_
 refine j3 (jB q2 rfl rfl (ht.gr S.out) rfl) ?_
 refine z ?_
 refine j3 (jB q3 rfl rfl (hb.gr S.out) rfl) ?_
 refine jC rfl (mO v j n hv (by omega) (by omega)) ?_
 rintro _ w2_ ⟨rfl,g2_⟩
 have S:=S.gr g2_
 iterate 10 refine z ?_
 refine zq ?_
 exact yD rfl ⟨rfl,S.out⟩
theorem jj5 (ax ay bx cy:Nat) (hw:1<=gw/\gw<=1024) (hh:1<=gh/\gh<=1024) (ha:ax < gw/\ay < gh) (hb:bx < gw/\cy < gh) (hP:PyrAt W yb gw gh (qS gw gh v)) :
  Fn Tryz.prog 78 [pt yb,.agg #[ii ax,ii ay],.agg #[ii bx,ii cy]] W
   (fun u w'=>∃ xb lA lc l,u=.tuple #[pt xb,ii 0]/\1<=l.length/\l.length<=1024/\(∀ c ∈ l,inG gw gh c=true)/\St No W w' [.blk xb 160 [pt yb,ii gw,ii gh,.slice lA l.length lc],.row 23 2 lA l.length lc (qB l)]):=by
 have hlv:=xR hw.2 hh.2
 have hat:=fun w (g:Gr W w) (x y:Nat) (hx:x < gw) (hy:y < gh)=>nO (v:=v) 0 x y hw hh (by omega) (by rw [qG hw.1]; exact hx) (by rw [qG hh.1]; exact hy) (hP.gr g)
 have hrow:=fun w=>jgL (W:=w) (gw:=gw) (gh:=gh) ax ay bx cy ⟨hw.2,hh.2⟩ (uM.2 (by dsimp only; omega)) (uM.2 (by dsimp only; omega))
 have S:=St.start W
 refine zn Tryz.func78 Tryz.results78 Tryz.ntmps78 ?_
 refine zs ?_
 refine jF (jO rfl) S ?_
 intro b_a w2_ g2_ S
 refine jF (jO rfl) S ?_
 intro b_b w4_ g4_ S
 iterate 5 refine z ?_
 refine jE (jN (pl:=[(0,1),(1,1),(2,1),(3,1)]) cG Tryz.zeroValue160 (fun w=>by kernel_rfl) rfl rfl) ?_
 refine jF (jO rfl) S ?_
 intro b_x w6_ g6_ S
 iterate 4 refine z ?_
 refine jC rfl (jb5 hw hh (hP.gr S.out)) ?_
 rintro _ w7_ ⟨rfl,g7_⟩
 have S:=S.gr g7_
 iterate 5 refine z ?_
 refine j8 (i:=0) S rfl (qz2 _) rfl rfl rfl rfl rfl rfl ?_
 intro w8_ S
 refine z ?_; refine z ?_
 refine j8 (i:=0) S rfl (qz2 _) rfl rfl rfl rfl rfl rfl ?_
 intro w9_ S
 refine z ?_; refine z ?_
 refine jE (rL Tryz.underlying270 qI Tryz.zeroValue270 rfl rfl) ?_
 refine z ?_
 refine zc ?_
 refine jS ?_
 refine zc ?_
 refine j9 (fun m e w=>∃ k:Nat,m=2 - k/\k<=2/\SL e [(0,pt yb),(4,pt b_a),(5,pt b_b),(8,pt b_x),(31,.agg #[ii ax,ii ay,ii bx,ii cy]),(32,ii k)] /\
   St No W w [.blk b_x 160 [pt yb,ii gw,ii gh,.slice none 0 0],.blk b_b 23 [ii bx,ii cy],.blk b_a 23 [ii ax,ii ay]]) 2
  ⟨0,rfl,by omega,⟨rfl,rfl,rfl,rfl,rfl,rfl,trivial⟩,S⟩ ?_
 clear S
 rintro m e w ⟨k,rfl,hk,hsl,S⟩
 rw [hsl.fold]
 rcases (show k=0\/k=1\/k=2 by omega) with rfl | rfl | rfl
 ·skip
  refine zt ?_
  refine zs ?_
  refine jE (wD Tryz.underlying270 q23 qI rfl rfl rfl (by omega) (by omega) rfl) ?_
  refine jF (jL kL rfl) S ?_
  intro b_c w11_ g11_ S
  refine jH (i:=0) S rfl (qI _) rfl rfl rfl rfl rfl rfl ?_
  intro w12_ S
  refine z ?_; refine z ?_
  refine jC rfl (hat w12_ S.out ax ay ha.1 ha.2) ?_
  rintro _ w13_ ⟨rfl,g13_⟩
  have S:=S.gr g13_
  iterate 3 refine z ?_
  refine jF (jL wR rfl) S ?_
  intro b_rg w15_ g15_ S
  refine jH (i:=0) S rfl (vI _) rfl rfl rfl rfl rfl rfl ?_
  intro w16_ S
  refine z ?_; refine z ?_; refine zf ?_; refine zr ?_; refine z ?_
  refine ze ?_
  exact ⟨1,by omega,1,by omega,by omega,⟨rfl,rfl,rfl,rfl,rfl,rfl,trivial⟩,S.drop 2⟩
 ·skip
  refine zt ?_
  refine zs ?_
  refine jE (wD Tryz.underlying270 q23 qI rfl rfl rfl (by omega) (by omega) rfl) ?_
  refine jF (jL kL rfl) S ?_
  intro b_c w18_ g18_ S
  refine jH (i:=0) S rfl (qI _) rfl rfl rfl rfl rfl rfl ?_
  intro w19_ S
  refine z ?_; refine z ?_
  refine jC rfl (hat w19_ S.out bx cy hb.1 hb.2) ?_
  rintro _ w20_ ⟨rfl,g20_⟩
  have S:=S.gr g20_
  iterate 3 refine z ?_
  refine jF (jL wR rfl) S ?_
  intro b_rg w22_ g22_ S
  refine jH (i:=0) S rfl (vI _) rfl rfl rfl rfl rfl rfl ?_
  intro w23_ S
  refine z ?_; refine z ?_; refine zf ?_; refine zr ?_; refine z ?_
  refine ze ?_
  exact ⟨0,by omega,2,by omega,by omega,⟨rfl,rfl,rfl,rfl,rfl,rfl,trivial⟩,S.drop 2⟩
 ·skip
  refine zf ?_
  refine zc ?_
  refine jM rfl ?_
  refine zc ?_
  refine jY ?_
  repeat first | refine jP ?_ | refine jU ?_
  show CW _ _ _ _ _ _
  iterate 3 refine z ?_
  refine jC rfl (hrow w) ?_
  rintro _ w24_ ⟨l,hl1,hl2,hall,A_l,c_l,rfl,hR_l,hf_l,g24_⟩
  have S:=S.pushRow hR_l hf_l g24_
  iterate 5 refine z ?_
  refine j8 (i:=1) S rfl (sM _) rfl rfl rfl rfl rfl rfl ?_
  intro w25_ S
  iterate 3 refine z ?_
  refine zq ?_
  exact kY rfl rfl ⟨b_x,A_l,c_l,l,rfl,hl2,hl1,hall,(S.swap.sub (.cons_cons _ (.cons_cons _ (.cons _ (.cons _ .slnil)))))⟩
theorem sI (ax ay bx cy:Nat) (hv:-4294967296<=v/\v<=4294967296) (hw:1<=gw/\gw<=1024) (hh:1<=gh/\gh<=1024) (ha:ax < gw/\ay < gh) (hb:bx < gw/\cy < gh) (hP:PyrAt W yb gw gh (qS gw gh v)) :
  Fn Tryz.prog 36 [pt yb,.agg #[ii ax,ii ay],ii 0,.agg #[ii bx,ii cy],ii 0] W (yK (.tuple #[.bool true,.agg #[ii 0,ii 0],ii 0]) W):=by
 have hof:=fun w (g:Gr W w)=>jj5 (W:=w) (v:=v) ax ay bx cy hw hh ha hb (hP.gr g)
 have e0:v+0=v:=by omega
 have S:=St.start W
 refine zn Tryz.func36 Tryz.results36 Tryz.ntmps36 ?_
 refine zs ?_
 refine jF (jO rfl) S ?_
 intro b_a w2_ g2_ S
 refine jF (jO rfl) S ?_
 intro b_b w4_ g4_ S
 refine z ?_
 refine jF (jL kL rfl) S ?_
 intro b_res w6_ g6_ S
 iterate 4 refine z ?_
 refine jC rfl (hof w6_ S.out) ?_
 rintro _ w7_ ⟨xb,A_l,c_l,l,rfl,hl1,hl2,hall,S2⟩
 have S:=S.app S2
 (iterate 6 refine z ?_); refine zf ?_; refine z ?_; refine z ?_
 refine jC rfl (jdZ 0 (by omega)) ?_
 rintro _ w8_ ⟨rfl,g8_⟩
 have S:=S.gr g8_
 iterate 3 refine z ?_
 refine jQ rfl ?_
 refine jC rfl (jdZ 0 (by omega)) ?_
 rintro _ w9_ ⟨rfl,g9_⟩
 have S:=S.gr g9_
 iterate 3 refine z ?_
 refine zc ?_
 refine jM rfl ?_
 refine zc ?_
 refine j5 ?_
 try show CW _ _ _ _ _ _
 obtain ⟨n,hn⟩:∃ n,l.length=n+1:=⟨l.length - 1,by omega⟩
 have en:((n+1:Nat):Int) - 1=n:=by omega
 have hway:∀ {w T},St No W w (HA.blk xb 160 [pt yb,ii gw,ii gh,.slice A_l l.length c_l]::.row 23 2 A_l l.length c_l (qB l)::T)->WayAt w xb yb gw gh v l:=fun S=>⟨⟨A_l,c_l,S.blk (i:=0) rfl,S.rd (i:=1) rfl⟩,hP.gr S.out,hall,hw,hh,hl2⟩
 by_cases h0:n=0
 ·subst h0
  repeat refine jJ ?_
  refine jI ?_
  iterate 2 refine jE (jA rfl) ?_
  refine jE (jD cG rfl sM rfl rfl) ?_
  refine j3 (jB q37 rfl rfl (S.blk (i:=0) rfl) rfl) ?_
  rw [hn]
  refine z ?_; refine zr ?_
  rw [en]
  refine jF (jL qv3 rfl) S ?_
  intro b_n w11_ g11_ S
  refine j8 (i:=0) S rfl (qz3 _) rfl rfl rfl rfl rfl rfl ?_
  intro w12_ S
  refine z ?_; refine zt ?_
  refine zs ?_
  refine jE (jN (pl:=[(0,1),(1,1)]) q23 kL (fun w=>by kernel_rfl) rfl rfl) ?_
  refine z ?_
  refine jH (i:=3) S rfl (qI _) rfl rfl rfl rfl rfl rfl ?_
  intro w13_ S
  refine z ?_
  refine zq ?_
  exact jgG q23 rfl (qI _) rfl (S.blk (i:=3) rfl) rfl rfl rfl rfl ⟨rfl,S.out⟩
 ·skip
  repeat refine jJ ?_
  refine jI ?_
  iterate 2 refine jE (jA rfl) ?_
  refine jE (jD cG rfl sM rfl rfl) ?_
  refine j3 (jB q37 rfl rfl (S.blk (i:=0) rfl) rfl) ?_
  rw [hn]
  refine z ?_; refine zr ?_
  rw [en]
  refine jF (jL qv3 rfl) S ?_
  intro b_n w15_ g15_ S
  refine j8 (i:=0) S rfl (qz3 _) rfl rfl rfl rfl rfl rfl ?_
  intro w16_ S
  refine z ?_; refine zf ?_
  refine zc ?_
  refine jM rfl ?_
  refine zc ?_
  refine j5 ?_
  try show CW _ _ _ _ _ _
  refine zc ?_
  refine qL (M:=fun e w=>∃ eb tb:Nat,SL e [(11,pt b_res),(13,pt xb),(15,pt b_n),(16,pt eb),(17,pt tb)]/\St No W w [.blk eb 2 [ii v],.blk tb 2 [ii v],.blk b_n 3 [ii n],.blk xb 160 [pt yb,ii gw,ii gh,.slice A_l l.length c_l],.row 23 2 A_l l.length c_l (qB l),.blk b_res 23 [ii 0,ii 0],.blk b_b 23 [ii bx,ii cy],.blk b_a 23 [ii ax,ii ay]]) ?_ ?_
  ·skip
   refine zc ?_
   refine TI.jlo (C:=(C2S No W [.blk b_n 3 [ii n],.blk xb 160 [pt yb,ii gw,ii gh,.slice A_l l.length c_l],.row 23 2 A_l l.length c_l (qB l),.blk b_res 23 [ii 0,ii 0],.blk b_b 23 [ii bx,ii cy],.blk b_a 23 [ii ax,ii ay]] 9 10 11 2 (ii 0) (ii v))) [9,10,11] (.one 0 (.one 1 (.one 2 (.one 3 (.one 4 (.one 5 (.one 6 (.one 7 (.one 8 (.two 9 (.one 10 (.one 11 .nil)) 10 (.one 9 (.one 11 .nil)))))))))))) [12] (by kernel_rfl) (by kernel_rfl) (C2S.start (S.gr (Gr.drew _))) ?_
   simp only [dA,j6,List.drop_succ_cons,List.drop_zero]
   refine TI.jlw ?_
   refine TI.jX rfl (jA rfl) ?_
   refine TI.yV ?_
   refine TI.jlw ?_
   refine TI.vV rfl rfl (fun τ wq hq=>(jdY 0 (by omega) (hway ((C2S.st hq).drop 1))).mono (fun _ _ ⟨hv,hg⟩=>⟨hv,C2S.gr hq hg⟩)) ?_
   refine TI.yV ?_
   refine TI.jlw ?_
   refine TI.jX rfl (jA rfl) ?_
   refine TI.yV ?_
   refine TI.jlw ?_
   refine TI.jX rfl (yI rfl (by omega)) ?_
   rw [e0]
   refine TI.yV ?_
   refine TI.jlw ?_
   refine TI.jX rfl (jA rfl) ?_
   refine TI.yV ?_
   refine TI.jlw ?_
   refine TI.qF rfl (fun τ wq hq=>jB q3 rfl rfl ((C2S.st hq).blk (i:=0) rfl) rfl) ?_
   refine TI.yV ?_
   refine TI.jlw ?_
   refine TI.vV rfl rfl (fun τ wq hq=>(jdY n (by omega) (hway ((C2S.st hq).drop 1))).mono (fun _ _ ⟨hv,hg⟩=>⟨hv,C2S.gr hq hg⟩)) ?_
   refine TI.yV ?_
   refine TI.jlw ?_
   refine TI.jX rfl (jA rfl) ?_
   refine TI.yV ?_
   refine TI.jlw ?_
   refine TI.jX rfl (yI rfl (by omega)) ?_
   rw [e0]
   refine TI.yV ?_
   refine TI.jlv ?_ ?_
   ·refine TI.jZ rfl rfl (fun wq hq=>rD hq rfl rfl rfl rfl qv2 rfl) ?_
    rintro v9 w9 h9
    obtain ⟨b9,rfl⟩:=h9.ia rfl
    refine TI.yV ?_
    refine TI.jlw ?_
    refine TI.jZ rfl rfl (fun wq hq=>rC hq rfl rfl rfl qv2 rfl) ?_
    rintro v10 w10 h10
    obtain ⟨b10,rfl⟩:=h10.ja rfl
    refine TI.yV ?_
    refine TI.jlw ?_
    refine TI.jZ rfl rfl (fun wq hq=>pU hq rfl rfl rfl rfl (qz2 _) rfl rfl rfl rfl) ?_
    rintro v11 w11 h11
    refine TI.yV ?_
    refine TI.jlx ?_
    rintro wz hz
    have S:=C2S.fin hz rfl rfl rfl
    refine j8 (i:=1) S rfl (qz2 _) rfl rfl rfl rfl rfl rfl ?_
    intro w18_ S
    refine ze ?_
    exact ⟨_,_,⟨rfl,rfl,rfl,rfl,rfl,trivial⟩,S⟩
   ·refine TI.jZ rfl rfl (fun wq hq=>rC hq rfl rfl rfl qv2 rfl) ?_
    rintro v10 w10 h10
    obtain ⟨b10,rfl⟩:=h10.ja rfl
    refine TI.yV ?_
    refine TI.jlw ?_
    refine TI.jZ rfl rfl (fun wq hq=>rD hq rfl rfl rfl rfl qv2 rfl) ?_
    rintro v9 w9 h9
    obtain ⟨b9,rfl⟩:=h9.ia rfl
    refine TI.yV ?_
    refine TI.jlw ?_
    refine TI.jZ rfl rfl (fun wq hq=>pU hq rfl rfl rfl rfl (qz2 _) rfl rfl rfl rfl) ?_
    rintro v11 w11 h11
    refine TI.yV ?_
    refine TI.jlx ?_
    rintro wz hz
    have S:=C2S.fin hz rfl rfl rfl
    refine j8 (i:=1) S rfl (qz2 _) rfl rfl rfl rfl rfl rfl ?_
    intro w20_ S
    refine ze ?_
    exact ⟨_,_,⟨rfl,rfl,rfl,rfl,rfl,trivial⟩,S⟩
  ·rintro e9 w9 ⟨eb,tb,hsl,S⟩
   rw [hsl.fold]
   have en2:(n:Int) - 1=((n - 1:Nat):Int):=by omega
   refine z ?_; refine z ?_; refine zr ?_
   rw [en2]
   refine z ?_
   refine jC rfl (jeM (W:=w9) (n - 1) (by omega) (hway (S.drop 3)) (fun w' g i j h1 h2 h3=>jj6 hv (by omega) ((S.gr g).blk (i:=0) rfl) ((S.gr g).blk (i:=1) rfl) ((S.gr g).blk (i:=2) rfl) i j (by omega) (by omega))) ?_
   rintro _ w21_ ⟨rfl,g21_⟩
   have S:=S.gr g21_
   refine z ?_; refine z ?_; refine zt ?_
   refine zs ?_
   refine jE (jN (pl:=[(0,1),(1,1)]) q23 kL (fun w=>by kernel_rfl) rfl rfl) ?_
   refine z ?_
   refine jH (i:=5) S rfl (qI _) rfl rfl rfl rfl rfl rfl ?_
   intro w22_ S
   refine z ?_
   refine zq ?_
   exact jgG q23 rfl (qI _) rfl (S.blk (i:=5) rfl) rfl rfl rfl rfl ⟨rfl,S.out⟩
end
end
section
open Go.RowKit
section
variable {W w' : World} {yb gw gh : Nat} {v : Int}
theorem jez (i:Nat) (hi:i < gw * gh) (hv:-4294967296<=v/\v<=4294967296) (hw:1<=gw/\gw<=1024) (hh:1<=gh/\gh<=1024) (hP:PyrAt W yb gw gh (qS gw gh v)) :
  Fn Tryz.prog 84 [pt yb,.agg #[ii (i % gw:Nat),ii (i / gw:Nat)],ii 0,ii 0,ii 1024] W (yK (.tuple #[.agg #[ii 0,ii 0,ii (gw - 1:Nat),ii (gh - 1:Nat)],ii 0]) W):=by
 have h1:=Nat.mod_lt i hw.1
 have h2:i / gw < gh:=Nat.div_lt_of_lt_mul hi
 have hcl:=fun w (g:Gr W w)=>sI (W:=w) (v:=v) (i % gw) (i / gw) (i % gw) (i / gw) hv hw hh ⟨h1,h2⟩ ⟨h1,h2⟩ (hP.gr g)
 have har:=fun w=>jh6 (W:=w) (gw:=gw) (gh:=gh) i 1024 hw hh hi (by omega)
 have e:(jij gw gh i 1024).val=.agg #[ii 0,ii 0,ii (gw - 1:Nat),ii (gh - 1:Nat)]:=by
  unfold jij Win.val
  dsimp only
  generalize i % gw=X at *
  generalize i / gw=Y at *
  rw [show X - 1024=0 by omega,show Y - 1024=0 by omega,show min (X+1024) (gw - 1)=gw - 1 by omega,show min (Y+1024) (gh - 1)=gh - 1 by omega]
  rfl
 rw [e] at har
 generalize i % gw=X at *
 generalize i / gw=Y at *
 have S:=St.start W
 refine zn Tryz.func84 Tryz.results84 Tryz.ntmps84 ?_
 refine zs ?_
 refine jF (jO rfl) S ?_
 intro b_a w2_ g2_ S
 refine jF (jL qX rfl) S ?_
 intro b_res w4_ g4_ S
 iterate 6 refine z ?_
 refine jC rfl (hcl w4_ S.out) ?_
 rintro _ w5_ ⟨rfl,g5_⟩
 have S:=S.gr g5_
 iterate 4 refine z ?_
 refine jF (jL kL rfl) S ?_
 intro b_o w7_ g7_ S
 refine z ?_
 refine jH (i:=0) S rfl (qI _) rfl rfl rfl rfl rfl rfl ?_
 intro w8_ S
 refine z ?_; refine z ?_; refine zf ?_; refine z ?_
 refine jC rfl (jb5 hw hh (hP.gr S.out)) ?_
 rintro _ w9_ ⟨rfl,g9_⟩
 have S:=S.gr g9_
 iterate 9 refine z ?_
 refine jC rfl (har w9_) ?_
 rintro _ w10_ ⟨rfl,g10_⟩
 have S:=S.gr g10_
 refine z ?_; refine z ?_
 refine jH (i:=1) S rfl (y6 _) rfl rfl rfl rfl rfl rfl ?_
 intro w11_ S
 refine z ?_
 refine zq ?_
 exact wQ q27 rfl (y6 _) rfl (S.blk (i:=1) rfl) rfl rfl rfl ⟨rfl,S.out⟩
theorem jim (i:Nat) (hi:i < gw * gh) (hv:-4294967296<=v/\v<=4294967296) (hw:1<=gw/\gw<=1024) (hh:1<=gh/\gh<=1024) (hP:PyrAt W yb gw gh (qS gw gh v)) :
  Fn Tryz.prog 37 [pt yb,.agg #[ii (i % gw:Nat),ii (i / gw:Nat)],ii 0,ii 0,ii 1024] W
   (qR (fun s=>.tuple #[s,ii 0]) 23 2 (gw * gh) (qB ((List.range (gw * gh)).map (cz gw))) W):=by
 have hgm:gw * gh<=1024 * 1024:=Nat.mul_le_mul hw.2 hh.2
 have h1:=Nat.mod_lt i hw.1
 have h2:i / gw < gh:=Nat.div_lt_of_lt_mul hi
 have hva:=fun w (g:Gr W w)=>jez (W:=w) (v:=v) i hi hv hw hh (hP.gr g)
 have hcl:=fun w (g:Gr W w) k (hk:k < gw * gh)=>sI (W:=w) (v:=v) (i % gw) (i / gw) (k % gw) (k / gw) hv hw hh ⟨h1,h2⟩ ⟨Nat.mod_lt k hw.1,Nat.div_lt_of_lt_mul hk⟩ (hP.gr g)
 have hA:∀ w,Fn Tryz.prog 62 [.agg #[ii 0,ii 0,ii (gw - 1:Nat),ii (gh - 1:Nat)]] w (yK (ii (gw * gh:Nat)) w):=fun w=>by
  have h:=fK (0:Int) 0 ((gw - 1:Nat):Int) ((gh - 1:Nat):Int) (by omega) w
  rw [show ((gw - 1:Nat):Int) - 0+1=gw by omega,show ((gh - 1:Nat):Int) - 0+1=gh by omega] at h
  exact h
 have hN:∀ w (k:Nat),k < gw * gh->Fn Tryz.prog 85 [.agg #[ii 0,ii 0,ii (gw - 1:Nat),ii (gh - 1:Nat)],ii k] w (yK (.tuple #[.agg #[ii (k % gw:Nat),ii (k / gw:Nat)],.bool true]) w):=fun w k hk=>by
  have e1:((gw - 1:Nat):Int) - 0+1=gw:=by omega
  have e2:((gh - 1:Nat):Int) - 0+1=gh:=by omega
  have h:=jee (0:Int) 0 ((gw - 1:Nat):Int) ((gh - 1:Nat):Int) k (by omega) (by omega) (by rw [e1,e2,show (gw:Int) * gh=((gw * gh:Nat):Int) by push_cast; rfl]; omega) w
  rw [e1,Int.zero_add,Int.zero_add] at h
  exact h
 generalize i % gw=X at *
 generalize i / gw=Y at *
 have S:=St.start W
 refine zn Tryz.func37 Tryz.results37 Tryz.ntmps37 ?_
 refine zs ?_
 refine jF (jO rfl) S ?_
 intro b_a w2_ g2_ S
 iterate 7 refine z ?_
 refine jC rfl (hva w2_ S.out) ?_
 rintro _ w3_ ⟨rfl,g3_⟩
 have S:=S.gr g3_
 iterate 3 refine z ?_
 refine jF (jL qX rfl) S ?_
 intro b_r w5_ g5_ S
 refine jH (i:=0) S rfl (y6 _) rfl rfl rfl rfl rfl rfl ?_
 intro w6_ S
 refine z ?_; refine z ?_; refine zf ?_; refine z ?_; refine z ?_
 refine jC rfl (hA w6_) ?_
 rintro _ w7_ ⟨rfl,g7_⟩
 have S:=S.gr g7_
 refine z ?_
 refine zc ?_
 refine jS ?_
 refine zc ?_
 have S:=S.pushNil 23 2
 refine j9 (fun m e w=>∃ (k:Nat) (A_o:Option Addr) (c_o:Nat),k+m=gw * gh/\SL e [(0,pt yb),(2,ii 0),(3,ii 0),(6,pt b_a),(12,pt b_r),(14,.slice A_o k c_o),(34,ii (gw * gh:Nat)),(35,ii k)] /\
   St No W w [.row 23 2 A_o k c_o (qB ((List.range k).map (cz gw))),.blk b_r 27 [ii 0,ii 0,ii (gw - 1:Nat),ii (gh - 1:Nat)],.blk b_a 23 [ii X,ii Y]]) (gw * gh)
  ⟨0,none,0,by omega,⟨rfl,rfl,rfl,rfl,rfl,rfl,rfl,rfl,trivial⟩,S⟩ ?_
 clear S
 rintro m e w ⟨k,A_o,c_o,hk,hsl,S⟩
 rw [hsl.fold]
 by_cases hlt:k < gw * gh
 ·have hN':=fun w=>hN w k hlt
  have hcl':=fun w g=>hcl w g k hlt
  have ez:cz gw k=(((k % gw:Nat):Int),((k / gw:Nat):Int)):=rfl
  have es:(List.range (k+1)).map (cz gw)=(List.range k).map (cz gw) ++ [(((k % gw:Nat):Int),((k / gw:Nat):Int))]:=by rw [List.range_succ,List.map_append]; rfl
  generalize k % gw=X2 at *
  generalize k / gw=Y2 at *
  refine zt ?_; iterate 4 refine z ?_
  refine jC rfl (hN' w) ?_
  rintro _ w8_ ⟨rfl,g8_⟩
  have S:=S.gr g8_
  iterate 3 refine z ?_
  refine jF (jL kL rfl) S ?_
  intro b_c w10_ g10_ S
  refine jH (i:=0) S rfl (qI _) rfl rfl rfl rfl rfl rfl ?_
  intro w11_ S
  iterate 6 refine z ?_
  refine jC rfl (hcl' w11_ S.out) ?_
  rintro _ w12_ ⟨rfl,g12_⟩
  have S:=S.gr g12_
  iterate 4 refine z ?_
  refine jF (jL kL rfl) S ?_
  intro b_h w14_ g14_ S
  refine z ?_
  refine jH (i:=0) S rfl (qI _) rfl rfl rfl rfl rfl rfl ?_
  intro w15_ S
  iterate 4 refine z ?_
  refine yF q37 qI kL rfl rfl rfl rfl rfl rfl S ?_
  intro A_one w17_ g17_ S sa_one
  refine qA (i:=3) S rfl (fun h=>rfl) q37 dE rfl rfl rfl rfl (by simp) (by omega) (S.rd (i:=0) rfl) rfl (by omega) ?_
  intro A_o2 c_o2 w18_ S sa_o
  refine z ?_; refine zr ?_; refine z ?_
  refine ze ?_
  have S:=S.sub (.cons _ (.cons _ (.cons _ (.cons_cons _ (.cons_cons _ (.cons_cons _ .slnil))))))
  rw [wW,<-es] at S
  exact ⟨m - 1,by omega,k+1,A_o2,c_o2,by omega,⟨rfl,rfl,rfl,rfl,rfl,rfl,rfl,rfl,trivial⟩,S⟩
 ·obtain rfl:k=gw * gh:=by omega
  refine zf ?_
  refine zc ?_
  refine jM rfl ?_
  refine zc ?_
  refine jY ?_
  repeat first | refine jP ?_ | refine jU ?_
  show CW _ _ _ _ _ _
  iterate 3 refine z ?_
  refine zq ?_
  exact kY rfl rfl (S.retNew (i:=0) (mk:=fun s=>.tuple #[s,ii 0]) rfl)
end
end
section
open Go.RowKit
abbrev Job:=Int × Nat
def yO (l:List Job) (i:Nat):Job:=l.getD i (0,0)
def wO (l:List Job) (i j:Nat):List Job:=(l.set i (yO l j)).set j (yO l i)
theorem kH (l:List Job) (i j:Nat):(wO l i j).length=l.length:=by simp [wO]
theorem dZ {l:List Job} {i:Nat} (h:i < l.length):l[i]?=some (yO l i):=by
 rw [yO,List.getD_eq_getElem?_getD,List.getElem?_eq_getElem h]; rfl
theorem mM {l:List Job} {i:Nat} {x:Job} (h:l[i]?=some x):yO l i=x:=by
 rw [yO,List.getD_eq_getElem?_getD,h]; rfl
theorem vS {l:List Job} {i j:Nat} (hi:i < l.length) (hj:j < l.length) (k:Nat):yO (wO l i j) k=if k=j then yO l i else if k=i then yO l j else yO l k:=by
 unfold wO
 by_cases e1:k=j
 ·rw [if_pos e1]; exact mM (by rw [e1,List.getElem?_set,if_pos rfl,List.length_set,if_pos hj])
 ·rw [if_neg e1]
  by_cases e2:k=i
  ·rw [if_pos e2]; exact mM (by rw [e2,List.getElem?_set,if_neg (by rw [e2] at e1; exact fun h=>e1 h.symm),List.getElem?_set,if_pos rfl,if_pos hi])
  ·rw [if_neg e2]
   show (List.set _ _ _).getD k (0,0)=l.getD k (0,0)
   rw [List.getD_eq_getElem?_getD,List.getD_eq_getElem?_getD,List.getElem?_set,if_neg (fun h=>e1 h.symm),List.getElem?_set,if_neg (fun h=>e2 h.symm)]
theorem uL {l:List Job} {x:Job}:x ∈ l ↔ ∃ k,k < l.length/\yO l k=x:=by
 constructor
 ·intro h
  obtain ⟨k,hk⟩:=List.mem_iff_getElem?.1 h
  exact ⟨k,(List.getElem?_eq_some_iff.1 hk).1,mM hk⟩
 ·rintro ⟨k,hk,rfl⟩
  exact List.mem_of_getElem? (dZ hk)
theorem xX {l:List Job} {i j:Nat} (hi:i < l.length) (hj:j < l.length) (x:Job):x ∈ wO l i j ↔ x ∈ l:=by
 have half:∀ (l:List Job),i < l.length->j < l.length->∀ x,x ∈ wO l i j->x ∈ l:=by
  intro l hi hj x hx
  obtain ⟨k,hk,he⟩:=uL.1 hx
  rw [kH] at hk
  rw [vS hi hj] at he
  split at he
  ·exact uL.2 ⟨i,hi,he⟩
  ·split at he
   ·exact uL.2 ⟨j,hj,he⟩
   ·exact uL.2 ⟨k,hk,he⟩
 refine ⟨half l hi hj x,fun hx=>?_⟩
 obtain ⟨k,hk,he⟩:=uL.1 hx
 refine uL.2 ?_
 rw [kH]
 by_cases e1:k=i
 ·exact ⟨j,hj,by rw [vS hi hj,if_pos rfl,<-e1]; exact he⟩
 ·by_cases e2:k=j
  ·refine ⟨i,hi,?_⟩
   rw [vS hi hj]
   by_cases e3:i=j
   ·rw [if_pos e3,e3,<-e2]; exact he
   ·rw [if_neg e3,if_pos rfl,<-e2]; exact he
  ·exact ⟨k,hk,by rw [vS hi hj,if_neg e2,if_neg e1]; exact he⟩
def HeapN (l:List Job) (n:Nat):Prop:=∀ k,0 < k->k < n->(yO l ((k - 1) / 2)).1<=(yO l k).1
structure UpInv (l:List Job) (j:Nat):Prop where
 lt:j < l.length
 ok:∀ k,0 < k->k < l.length->k ≠ j->(yO l ((k - 1) / 2)).1<=(yO l k).1
 kids:0 < j->∀ k,0 < k->k < l.length->(k - 1) / 2=j->(yO l ((j - 1) / 2)).1<=(yO l k).1
structure DnInv (l:List Job) (n i:Nat):Prop where
 le:n<=l.length
 ok:∀ k,0 < k->k < n->(k - 1) / 2 ≠ i->(yO l ((k - 1) / 2)).1<=(yO l k).1
 kids:0 < i->∀ k,0 < k->k < n->(k - 1) / 2=i->(yO l ((i - 1) / 2)).1<=(yO l k).1
section
variable {l : List Job} {i j n : Nat}
theorem UpInv.push {x:Job} (h:HeapN l l.length):UpInv (l ++ [x]) l.length:=by
 have e:∀ k,k < l.length->yO (l ++ [x]) k=yO l k:=fun k hk=>by unfold yO; rw [List.getD_eq_getElem?_getD,List.getD_eq_getElem?_getD,List.getElem?_append_left hk]
 refine ⟨by simp,fun k h0 hk hne=>?_,fun _ k h0 hk hp=>?_⟩
 ·simp at hk
  rw [e k (by omega),e _ (by omega)]
  exact h k h0 (by omega)
 ·simp at hk; omega
theorem UpInv.stop (h:UpInv l j) (hs:j=0\/(yO l ((j - 1) / 2)).1<=(yO l j).1):HeapN l l.length:=by
 intro k h0 hk
 by_cases e:k=j
 ·subst e
  rcases hs with e | e
  ·omega
  ·exact e
 ·exact h.ok k h0 hk e
theorem UpInv.up (h:UpInv l j) (h0:0 < j) (hlt:(yO l j).1 < (yO l ((j - 1) / 2)).1):UpInv (wO l ((j - 1) / 2) j) ((j - 1) / 2):=by
 have hj:=h.lt
 have hi:(j - 1) / 2 < l.length:=by omega
 have hs:=vS hi hj
 generalize ei:(j - 1) / 2=i at *
 refine ⟨by rw [kH]; exact hi,fun k k0 hk hne=>?_,fun i0 k k0 hk hp=>?_⟩
 ·rw [kH] at hk
  rw [hs,hs]
  by_cases ek:k=j
  ·subst ek; rw [if_pos rfl,if_neg (by omega),if_pos (by omega)]; omega
  ·rw [if_neg ek,if_neg hne]
   by_cases e1:(k - 1) / 2=j
   ·rw [if_pos e1]; have:=h.kids h0 k k0 hk e1; rw [ei] at this; exact this
   ·rw [if_neg e1]
    by_cases e2:(k - 1) / 2=i
    ·rw [if_pos e2]
     have:=h.ok k k0 hk ek
     rw [e2] at this; omega
    ·rw [if_neg e2]; exact h.ok k k0 hk ek
 ·rw [kH] at hk
  rw [hs,hs,if_neg (show (i - 1) / 2 ≠ j by omega),if_neg (show (i - 1) / 2 ≠ i by omega)]
  have h1:=h.ok i i0 hi (by omega)
  by_cases ek:k=j
  ·rw [if_pos ek]; exact h1
  ·rw [if_neg ek,if_neg (by omega)]
   have:=h.ok k k0 hk ek
   rw [hp] at this; omega
theorem DnInv.stop (h:DnInv l n i) (hs:∀ k,0 < k->k < n->(k - 1) / 2=i->(yO l i).1<=(yO l k).1):HeapN l n:=by
 intro k h0 hk
 by_cases e:(k - 1) / 2=i
 ·rw [e]; exact hs k h0 hk e
 ·exact h.ok k h0 hk e
theorem DnInv.down (h:DnInv l n i) (hj:j < n) (hj0:0 < j) (hp:(j - 1) / 2=i) (hlt:(yO l j).1 < (yO l i).1) (hmin:∀ k,0 < k->k < n->(k - 1) / 2=i->(yO l j).1<=(yO l k).1):DnInv (wO l i j) n j:=by
 have hle:=h.le
 have hs:=vS (l:=l) (i:=i) (j:=j) (by omega) (by omega)
 refine ⟨by rw [kH]; exact hle,fun k k0 hk hne=>?_,fun _ k k0 hk hpk=>?_⟩
 ·rw [hs,hs]
  rw [if_neg hne]
  by_cases ek:k=j
  ·subst ek; rw [if_pos hp,if_pos rfl]; omega
  ·rw [if_neg ek]
   by_cases e1:(k - 1) / 2=i
   ·rw [if_pos e1,if_neg (by omega)]; exact hmin k k0 hk e1
   ·rw [if_neg e1]
    by_cases e2:k=i
    ·rw [if_pos e2]
     subst e2
     exact h.kids k0 j hj0 hj hp
    ·rw [if_neg e2]; exact h.ok k k0 hk e1
 ·rw [hs,hs,hp,if_neg (by omega),if_pos rfl,if_neg (by omega),if_neg (by omega)]
  have:=h.ok k k0 hk (by omega)
  rw [hpk] at this; exact this
theorem HeapN.min (h:HeapN l n):∀ k,k < n->(yO l 0).1<=(yO l k).1:=by
 intro k
 induction k using Nat.strongRecOn with
 | _ k ih =>
  intro hk
  by_cases e:k=0
  ·subst e; exact Int.le_refl _
  ·have h1:=ih ((k - 1) / 2) (by omega) (by omega)
   have h2:=h k (by omega) hk
   omega
theorem DnInv.pop (h:HeapN l l.length) (h0:0 < l.length):DnInv (wO l 0 (l.length - 1)) (l.length - 1) 0:=by
 have hs:=vS (l:=l) (i:=0) (j:=l.length - 1) (by omega) (by omega)
 refine ⟨by rw [kH]; omega,fun k k0 hk hne=>?_,fun e=>by omega⟩
 rw [hs,hs,if_neg (by omega),if_neg hne,if_neg (by omega),if_neg (by omega)]
 exact h k k0 (by omega)
theorem jeH {m:Nat} (hm:l.length=m+1) (x:Job):x ∈ l ↔ x=yO l m\/x ∈ l.take m:=by
 rw [uL]
 constructor
 ·rintro ⟨k,hk,rfl⟩
  by_cases e:k=m
  ·exact .inl (by rw [e])
  ·refine .inr (List.mem_of_getElem? (i:=k) ?_)
   rw [List.getElem?_take,if_pos (by omega)]
   exact dZ hk
 ·rintro (rfl | hx)
  ·exact ⟨m,by omega,rfl⟩
  ·exact uL.1 (List.mem_of_mem_take hx)
theorem mL {m k:Nat} (h:k < m):yO (l.take m) k=yO l k:=by
 unfold yO; rw [List.getD_eq_getElem?_getD,List.getD_eq_getElem?_getD,List.getElem?_take,if_pos h]
theorem HeapN.take {m:Nat} (h:HeapN l m):HeapN (l.take m) (l.take m).length:=by
 intro k k0 hk
 have hk':k < m:=by have:=List.length_take (i:=m) (l:=l); omega
 rw [mL (by omega),mL hk']
 exact h k k0 hk'
end
def m9 (P:Program) (t:TypeId) (u:Value) (m:String) (args:List Value) (w:World) (R:Value->World->Prop):Prop :=
 ∃ f rv,(method (P.types.size+Made.depth) t u m).run P w=.ok (f,rv) w/\Fn P f (rv::args) w R
section
variable {P : Program} {ops : Array Oper} {Q : (Nat → Value) → World → Prop} {e : Nat → Value} {w : World} {rest : List Oper} {d : Option Tmp} {ty : TypeId} {ps : String} {af : Array Edge}
theorem k6 {x:Operand} {m:String} {args:List Operand} {tys:Array TypeId} {vs:List Value} {t:TypeId} {u:Value} {R:Value->World->Prop} (hx:ev e x=.iface t u)
  (hv:fzl (args.map (ev e))=some vs) (hc:m9 P t u m vs w R) (hr:∀ v w',R v w'->RW P ops Q rest (yU e d v) w'):RW P ops Q (⟨d,.call ⟨.invoke x m,args.toArray,tys⟩,ty,ps,af,none⟩::rest) e w:=by
 obtain ⟨f,rv,hm,hF⟩:=hc
 exact dR hx hm hv hF hr
theorem ji0 {t t':TypeId} {x y:Operand} {a b c:Int} (hx:ev e x=ii a) (hy:ev e y=ii b) (hb:b ≠ 0) (hc:a.tdiv b=c) (hr:-9223372036854775808<=c/\c<=9223372036854775807):OpV P e ⟨d,.binOp .quo t x y t',ty,ps,af,none⟩ (ii c):=by
 intro w
 have h5:IntKind.i64.wrap c=c:=IntWalk.i64_in _ hr
 simp [OpR,execOp,hx,hy,eqGuard,binOp,Op.intDiv,hb,hc,h5]
end
theorem jcG {Q:Exit->(Nat->Value)->World->Prop} {e:Nat->Value} {w:World} {k j:Nat} (hk:Nat.beq j k=false) (h:Q (.exit j) e w):InB k Q (.exit j) e w:=by
 simp only [InB,hk]
 exact h
structure sC (P:Program) (t:TypeId) (u:Value) (jt:TypeId) (H:List Job->World->Prop):Prop where
 len : ∀ l w, H l w → m9 P t u "Len" [] w (fun v w' => v = ii l.length ∧ H l w')
 less : ∀ l w (i j : Nat), H l w → i < l.length → j < l.length → m9 P t u "Less" [ii i, ii j] w (fun v w' => v = .bool (decide ((yO l i).1 < (yO l j).1)) ∧ H l w')
 swap : ∀ l w (i j : Nat), H l w → i < l.length → j < l.length → m9 P t u "Swap" [ii i, ii j] w (fun v w' => v = .tuple #[] ∧ H (wO l i j) w')
 push : ∀ l w (x : Job), H l w → l.length ≤ 1099511627776 → m9 P t u "Push" [.iface jt (.agg #[ii x.1, ii x.2])] w (fun v w' => v = .tuple #[] ∧ H (l ++ [x]) w')
 pop : ∀ l w, H l w → 0 < l.length → m9 P t u "Pop" [] w (fun v w' => v = .iface jt (.agg #[ii (yO l (l.length - 1)).1, ii (yO l (l.length - 1)).2]) ∧ H (l.take (l.length - 1)) w')
 small:∀ l w,H l w->l.length<=1099511627777
section
variable {t jt : TypeId} {u : Value} {H : List Job → World → Prop}
theorem jlq (hO:sC Tryz.prog t u jt H) (l:List Job) (j:Nat) (W:World) (hI:UpInv l j) (hH:H l W) :
  Fn Tryz.prog 220 [.iface t u,ii j] W (fun v w'=>v=.tuple #[]/\∃ l',l'.length=l.length/\(∀ x,x ∈ l' ↔ x ∈ l)/\HeapN l' l'.length/\H l' w'):=by
 refine zn Tryz.func220 Tryz.results220 Tryz.ntmps220 ?_
 refine zc ?_
 refine jS ?_
 refine zc ?_
 refine j9 (fun m e w=>∃ (j':Nat) (l':List Job),j'=m/\SL e [(0,.iface t u),(1,ii j')]/\l'.length=l.length/\(∀ x,x ∈ l' ↔ x ∈ l)/\UpInv l' j'/\H l' w) j ⟨j,l,rfl,⟨rfl,rfl,trivial⟩,rfl,fun _=>Iff.rfl,hI,hH⟩ ?_
 rintro m e w ⟨j,l',rfl,hsl,hlen,hmem,hI,hH⟩
 rw [hsl.fold]
 have hsm:=hO.small _ _ hH
 have hjl:=hI.lt
 by_cases h0:j=0
 ·subst h0
  refine z ?_; refine zr ?_
  refine jE (ji0 (c:=0) rfl rfl (by decide) (by decide) (by omega)) ?_
  iterate 3 refine z ?_
  refine zw5 ⟨?_⟩
  iterate 4 refine z ?_
  refine jK rfl ?_
  refine z ?_; refine z ?_
  refine zc ?_
  refine yS rfl ?_
  refine zc ?_
  refine jY ?_
  repeat first | refine jP ?_ | refine jU ?_
  refine jcG rfl (jP (jU ?_))
  refine zN ?_
  exact ⟨rfl,l',hlen,hmem,hI.stop (.inl rfl),hH⟩
 ·have e1:((j:Int) - 1) / 2=(((j - 1) / 2:Nat):Int):=by omega
  by_cases hc:(yO l' j).1 < (yO l' ((j - 1) / 2)).1
  ·skip
   refine z ?_; refine zr ?_
   refine jE (vP rfl rfl (by omega) (by omega)) ?_
   rw [e1]
   iterate 3 refine z ?_
   refine zw5 ⟨?_⟩
   iterate 4 refine z ?_
   refine jQ rfl ?_
   refine k6 rfl rfl (hO.less _ _ j ((j - 1) / 2) hH hjl (by omega)) ?_
   rintro _ w1 ⟨rfl,hH⟩
   rw [decide_eq_true hc]
   iterate 5 refine z ?_
   refine k6 rfl rfl (hO.swap _ _ ((j - 1) / 2) j hH (by omega) hjl) ?_
   rintro _ w2 ⟨rfl,hH⟩
   refine z ?_; refine z ?_
   refine ze ?_
   exact ⟨(j - 1) / 2,by omega,(j - 1) / 2,_,rfl,⟨rfl,rfl,trivial⟩,by rw [kH]; exact hlen,fun x=>(xX (by omega) hjl x).trans (hmem x),hI.up (by omega) hc,hH⟩
  ·skip
   refine z ?_; refine zr ?_
   refine jE (vP rfl rfl (by omega) (by omega)) ?_
   rw [e1]
   iterate 3 refine z ?_
   refine zw5 ⟨?_⟩
   iterate 4 refine z ?_
   refine jQ rfl ?_
   refine k6 rfl rfl (hO.less _ _ j ((j - 1) / 2) hH hjl (by omega)) ?_
   rintro _ w1 ⟨rfl,hH⟩
   rw [decide_eq_false hc]
   refine z ?_; refine z ?_
   refine zc ?_
   refine yS rfl ?_
   refine zc ?_
   refine jY ?_
   repeat first | refine jP ?_ | refine jU ?_
   refine jcG rfl (jP (jU ?_))
   refine zN ?_
   exact ⟨rfl,l',hlen,hmem,hI.stop (.inr (by omega)),hH⟩
theorem jjh (hO:sC Tryz.prog t u jt H) (l:List Job) (x:Job) (W:World) (hN:HeapN l l.length) (hH:H l W) (hl:l.length<=1099511627776) :
  Fn Tryz.prog 155 [.iface t u,.iface jt (.agg #[ii x.1,ii x.2])] W (fun v w'=>v=.tuple #[]/\∃ l',l'.length=l.length+1/\(∀ y,y ∈ l' ↔ y=x\/y ∈ l)/\HeapN l' l'.length/\H l' w'):=by
 refine zn Tryz.func155 Tryz.results155 Tryz.ntmps155 ?_
 refine z ?_; refine z ?_
 refine k6 rfl rfl (hO.push _ _ x hH hl) ?_
 rintro _ w1 ⟨rfl,hH⟩
 refine z ?_; refine z ?_
 refine k6 rfl rfl (hO.len _ _ hH) ?_
 rintro _ w2 ⟨rfl,hH⟩
 have elen:(l ++ [x]).length=l.length+1:=by simp
 refine zr ?_
 rw [show (((l ++ [x]).length:Nat):Int) - 1=((l.length:Nat):Int) by rw [elen]; omega]
 refine jC rfl (jlq hO _ _ _ (UpInv.push hN) hH) ?_
 rintro _ w3 ⟨rfl,l',h1,h2,h3,h4⟩
 refine ze ?_
 exact zN ⟨rfl,l',by rw [h1]; simp,fun y=>(h2 y).trans (by rw [List.mem_append,List.mem_singleton]; exact Or.comm),h3,h4⟩
theorem jkH (hO:sC Tryz.prog t u jt H) (l:List Job) (i n:Nat) (W:World) (hI:DnInv l n i) (hi:i<=1099511627777) (hH:H l W) :
  Fn Tryz.prog 219 [.iface t u,ii i,ii n] W (fun v w'=>∃ l',l'.length=l.length/\(∀ x,x ∈ l' ↔ x ∈ l)/\HeapN l' n/\(∀ k,n<=k->yO l' k=yO l k)/\H l' w'):=by
 refine zn Tryz.func219 Tryz.results219 Tryz.ntmps219 ?_
 iterate 3 refine z ?_
 refine zc ?_
 refine jS ?_
 refine zc ?_
 refine j9 (fun m e w=>∃ (k:Nat) (l':List Job),m=n - k/\SL e [(0,.iface t u),(1,ii i),(2,ii n),(7,ii k)]/\l'.length=l.length/\(∀ x,x ∈ l' ↔ x ∈ l)/\DnInv l' n k/\(∀ k,n<=k->yO l' k=yO l k)/\k<=1099511627777/\H l' w) (n - i)
  ⟨i,l,rfl,⟨rfl,rfl,rfl,rfl,trivial⟩,rfl,fun _=>Iff.rfl,hI,fun _ _=>rfl,hi,hH⟩ ?_
 rintro m e w ⟨k,l',rfl,hsl,hlen,hmem,hI,hhi,hk,hH⟩
 rw [hsl.fold]
 have hsm:=hO.small _ _ hH
 have hnl:=hI.le
 have hj1:((2:Int) * k+1)=((2 * k+1:Nat):Int):=by omega
 have hj2:(((2 * k+1:Nat):Int)+1)=((2 * k+2:Nat):Int):=by omega
 by_cases h1:n<=2 * k+1
 ·skip
  refine z ?_; (iterate 2 refine zr ?_); iterate 3 refine z ?_
  refine zw1 ⟨?_⟩
  refine z ?_; refine z ?_
  refine zw2 ⟨?_⟩
  refine z ?_
  refine zc ?_
  refine yS rfl ?_
  refine zc ?_
  refine jY ?_
  repeat first | refine jP ?_ | refine jU ?_
  show CW _ _ _ _ _ _
  iterate 4 refine z ?_
  refine zq ?_
  exact yD rfl ⟨l',hlen,hmem,hI.stop (fun q q0 hq hp=>by omega),hhi,hH⟩
 ·have hswap:∀ q,(q=2 * k+1\/q=2 * k+2)->q < n->∀ y,n<=y->yO (wO l' k q) y=yO l y:=fun q hq hqn y hy=>by rw [vS (by omega) (by omega),if_neg (by omega),if_neg (by omega)]; exact hhi y hy
  by_cases h2:2 * k+2 < n
  ·by_cases hc:(yO l' (2 * k+2)).1 < (yO l' (2 * k+1)).1
   ·by_cases hd:(yO l' (2 * k+2)).1 < (yO l' k).1
    ·skip
     refine z ?_; iterate 2 refine zr ?_
     rw [hj1]
     iterate 3 refine z ?_
     refine zw1 ⟨?_⟩
     refine z ?_; refine z ?_
     refine zw2 ⟨?_⟩
     (iterate 4 refine z ?_); refine zr ?_
     rw [hj2]
     iterate 3 refine z ?_
     refine zw1 ⟨?_⟩
     iterate 4 refine z ?_
     refine jQ rfl ?_
     refine k6 rfl rfl (hO.less _ _ (2 * k+2) (2 * k+1) hH (by omega) (by omega)) ?_
     rintro _ w1 ⟨rfl,hH⟩
     rw [decide_eq_true hc]
     iterate 6 refine z ?_
     refine k6 rfl rfl (hO.less _ _ (2 * k+2) k hH (by omega) (by omega)) ?_
     rintro _ w2 ⟨rfl,hH⟩
     rw [decide_eq_true hd]
     iterate 4 refine z ?_
     refine k6 rfl rfl (hO.swap _ _ k (2 * k+2) hH (by omega) (by omega)) ?_
     rintro _ w3 ⟨rfl,hH⟩
     refine z ?_; refine z ?_
     refine ze ?_
     exact ⟨n - (2 * k+2),by omega,2 * k+2,_,rfl,⟨rfl,rfl,rfl,rfl,trivial⟩,by rw [kH]; exact hlen,fun x=>(xX (by omega) (by omega) x).trans (hmem x),hI.down h2 (by omega) (by omega) hd (fun q q0 hq hp=>by
      rcases (show q=2 * k+1\/q=2 * k+2 by omega) with rfl | rfl
      ·omega
      ·exact Int.le_refl _),hswap _ (.inr rfl) h2,by omega,hH⟩
    ·skip
     refine z ?_; iterate 2 refine zr ?_
     rw [hj1]
     iterate 3 refine z ?_
     refine zw1 ⟨?_⟩
     refine z ?_; refine z ?_
     refine zw2 ⟨?_⟩
     (iterate 4 refine z ?_); refine zr ?_
     rw [hj2]
     iterate 3 refine z ?_
     refine zw1 ⟨?_⟩
     iterate 4 refine z ?_
     refine jQ rfl ?_
     refine k6 rfl rfl (hO.less _ _ (2 * k+2) (2 * k+1) hH (by omega) (by omega)) ?_
     rintro _ w1 ⟨rfl,hH⟩
     rw [decide_eq_true hc]
     iterate 6 refine z ?_
     refine k6 rfl rfl (hO.less _ _ (2 * k+2) k hH (by omega) (by omega)) ?_
     rintro _ w2 ⟨rfl,hH⟩
     rw [decide_eq_false hd]
     refine z ?_
     refine zc ?_
     refine yS rfl ?_
     refine zc ?_
     refine jY ?_
     repeat first | refine jP ?_ | refine jU ?_
     show CW _ _ _ _ _ _
     iterate 4 refine z ?_
     refine zq ?_
     exact yD rfl ⟨l',hlen,hmem,hI.stop (fun q q0 hq hp=>by
      rcases (show q=2 * k+1\/q=2 * k+2 by omega) with rfl | rfl <;> omega),hhi,hH⟩
   ·by_cases hd:(yO l' (2 * k+1)).1 < (yO l' k).1
    ·skip
     refine z ?_; iterate 2 refine zr ?_
     rw [hj1]
     iterate 3 refine z ?_
     refine zw1 ⟨?_⟩
     refine z ?_; refine z ?_
     refine zw2 ⟨?_⟩
     (iterate 4 refine z ?_); refine zr ?_
     rw [hj2]
     iterate 3 refine z ?_
     refine zw1 ⟨?_⟩
     iterate 4 refine z ?_
     refine jQ rfl ?_
     refine k6 rfl rfl (hO.less _ _ (2 * k+2) (2 * k+1) hH (by omega) (by omega)) ?_
     rintro _ w1 ⟨rfl,hH⟩
     rw [decide_eq_false hc]
     iterate 4 refine z ?_
     refine k6 rfl rfl (hO.less _ _ (2 * k+1) k hH (by omega) (by omega)) ?_
     rintro _ w2 ⟨rfl,hH⟩
     rw [decide_eq_true hd]
     iterate 4 refine z ?_
     refine k6 rfl rfl (hO.swap _ _ k (2 * k+1) hH (by omega) (by omega)) ?_
     rintro _ w3 ⟨rfl,hH⟩
     refine z ?_; refine z ?_
     refine ze ?_
     exact ⟨n - (2 * k+1),by omega,2 * k+1,_,rfl,⟨rfl,rfl,rfl,rfl,trivial⟩,by rw [kH]; exact hlen,fun x=>(xX (by omega) (by omega) x).trans (hmem x),hI.down (by omega) (by omega) (by omega) hd (fun q q0 hq hp=>by
      rcases (show q=2 * k+1\/q=2 * k+2 by omega) with rfl | rfl
      ·exact Int.le_refl _
      ·omega),hswap _ (.inl rfl) (by omega),by omega,hH⟩
    ·skip
     refine z ?_; iterate 2 refine zr ?_
     rw [hj1]
     iterate 3 refine z ?_
     refine zw1 ⟨?_⟩
     refine z ?_; refine z ?_
     refine zw2 ⟨?_⟩
     (iterate 4 refine z ?_); refine zr ?_
     rw [hj2]
     iterate 3 refine z ?_
     refine zw1 ⟨?_⟩
     iterate 4 refine z ?_
     refine jQ rfl ?_
     refine k6 rfl rfl (hO.less _ _ (2 * k+2) (2 * k+1) hH (by omega) (by omega)) ?_
     rintro _ w1 ⟨rfl,hH⟩
     rw [decide_eq_false hc]
     iterate 4 refine z ?_
     refine k6 rfl rfl (hO.less _ _ (2 * k+1) k hH (by omega) (by omega)) ?_
     rintro _ w2 ⟨rfl,hH⟩
     rw [decide_eq_false hd]
     refine z ?_
     refine zc ?_
     refine yS rfl ?_
     refine zc ?_
     refine jY ?_
     repeat first | refine jP ?_ | refine jU ?_
     show CW _ _ _ _ _ _
     iterate 4 refine z ?_
     refine zq ?_
     exact yD rfl ⟨l',hlen,hmem,hI.stop (fun q q0 hq hp=>by
      rcases (show q=2 * k+1\/q=2 * k+2 by omega) with rfl | rfl <;> omega),hhi,hH⟩
  ·by_cases hd:(yO l' (2 * k+1)).1 < (yO l' k).1
   ·skip
    refine z ?_; iterate 2 refine zr ?_
    rw [hj1]
    iterate 3 refine z ?_
    refine zw1 ⟨?_⟩
    refine z ?_; refine z ?_
    refine zw2 ⟨?_⟩
    (iterate 4 refine z ?_); refine zr ?_
    rw [hj2]
    iterate 3 refine z ?_
    refine zw1 ⟨?_⟩
    iterate 4 refine z ?_
    refine jK rfl ?_
    iterate 4 refine z ?_
    refine k6 rfl rfl (hO.less _ _ (2 * k+1) k hH (by omega) (by omega)) ?_
    rintro _ w2 ⟨rfl,hH⟩
    rw [decide_eq_true hd]
    iterate 4 refine z ?_
    refine k6 rfl rfl (hO.swap _ _ k (2 * k+1) hH (by omega) (by omega)) ?_
    rintro _ w3 ⟨rfl,hH⟩
    refine z ?_; refine z ?_
    refine ze ?_
    exact ⟨n - (2 * k+1),by omega,2 * k+1,_,rfl,⟨rfl,rfl,rfl,rfl,trivial⟩,by rw [kH]; exact hlen,fun x=>(xX (by omega) (by omega) x).trans (hmem x),hI.down (by omega) (by omega) (by omega) hd (fun q q0 hq hp=>by
     obtain rfl:q=2 * k+1:=by omega
     exact Int.le_refl _),hswap _ (.inl rfl) (by omega),by omega,hH⟩
   ·skip
    refine z ?_; iterate 2 refine zr ?_
    rw [hj1]
    iterate 3 refine z ?_
    refine zw1 ⟨?_⟩
    refine z ?_; refine z ?_
    refine zw2 ⟨?_⟩
    (iterate 4 refine z ?_); refine zr ?_
    rw [hj2]
    iterate 3 refine z ?_
    refine zw1 ⟨?_⟩
    iterate 4 refine z ?_
    refine jK rfl ?_
    iterate 4 refine z ?_
    refine k6 rfl rfl (hO.less _ _ (2 * k+1) k hH (by omega) (by omega)) ?_
    rintro _ w2 ⟨rfl,hH⟩
    rw [decide_eq_false hd]
    refine z ?_
    refine zc ?_
    refine yS rfl ?_
    refine zc ?_
    refine jY ?_
    repeat first | refine jP ?_ | refine jU ?_
    show CW _ _ _ _ _ _
    iterate 4 refine z ?_
    refine zq ?_
    exact yD rfl ⟨l',hlen,hmem,hI.stop (fun q q0 hq hp=>by
     obtain rfl:q=2 * k+1:=by omega
     omega),hhi,hH⟩
theorem jkz (hO:sC Tryz.prog t u jt H) (l:List Job) (W:World) (hN:HeapN l l.length) (h0:0 < l.length) (hH:H l W) :
  Fn Tryz.prog 154 [.iface t u] W (fun v w'=>∃ (x:Job) (l':List Job),v=.iface jt (.agg #[ii x.1,ii x.2])/\l'.length+1=l.length/\(∀ y,y ∈ l ↔ y=x\/y ∈ l')/\(∀ y ∈ l',x.1<=y.1)/\HeapN l' l'.length/\H l' w'):=by
 have hsm:=hO.small _ _ hH
 refine zn Tryz.func154 Tryz.results154 Tryz.ntmps154 ?_
 refine z ?_; refine z ?_
 refine k6 rfl rfl (hO.len _ _ hH) ?_
 rintro _ w1 ⟨rfl,hH⟩
 refine zr ?_
 rw [show ((l.length:Nat):Int) - 1=((l.length - 1:Nat):Int) by omega]
 iterate 3 refine z ?_
 refine k6 rfl rfl (hO.swap _ _ 0 (l.length - 1) hH (by omega) (by omega)) ?_
 rintro _ w2 ⟨rfl,hH⟩
 refine z ?_; refine z ?_
 refine jC rfl (jkH hO _ 0 (l.length - 1) _ (DnInv.pop hN h0) (by omega) hH) ?_
 rintro v3 w3 ⟨l',hlen,hmem,hN',hhi,hH⟩
 refine z ?_
 rw [kH] at hlen
 refine k6 rfl rfl (hO.pop _ _ hH (by omega)) ?_
 rintro _ w4 ⟨rfl,hH⟩
 refine z ?_
 refine zq ?_
 have hlast:yO l' (l'.length - 1)=yO l 0:=by rw [hlen,hhi _ (Nat.le_refl _),vS (by omega) (by omega),if_pos rfl]
 have hmin:=hN.min
 have htk:=jeH (l:=l') (m:=l'.length - 1) (by omega)
 rw [hlast] at htk
 rw [hlast]
 refine yD rfl ⟨yO l 0,l'.take (l'.length - 1),rfl,by rw [List.length_take]; omega,fun y=>?_,fun y hy=>?_,?_,hH⟩
 ·rw [<-htk y,hmem y,xX (by omega) (by omega)]
 ·have:y ∈ l:=by rw [<-xX (i:=0) (j:=l.length - 1) (by omega) (by omega),<-hmem]; exact List.mem_of_mem_take hy
  obtain ⟨k,hk,rfl⟩:=uL.1 this
  exact hmin k hk
 ·exact HeapN.take (by rw [hlen]; exact hN')
end
end
section
open Go.RowKit
section
variable {P : Program} {w : World}
theorem jbz (tys:Array TypeId) (t:TypeId) (a:Addr) (s1 s2:String):(Builtin.ssaWrapNilChk_ tys t #[.pointer (some a),strVal s1,strVal s2]).run P w=.ok (.pointer (some a)) w:=rfl
theorem cV {n:Nat} {t el:TypeId} {f:FuncId} {name:String} {a:Addr} {rv:Value} (hm:(P.info? t).map (fun i=>(i.methods.find? (fun m=>m.name == name)).map (fun m=>(m.path,m.func)))=some (some (#[],some (f,false)))) (hu:P.underlying t=some (.pointer el))
  (hl:(loadVar el a).run P w=.ok rv w):(method (n+1) t (.pointer (some a)) name).run P w=.ok (f,rv) w:=by
 obtain ⟨i,hi,h1⟩:=Option.map_eq_some_iff.1 hm
 obtain ⟨m,hm,h2⟩:=Option.map_eq_some_iff.1 h1
 injection h2 with h3 h4
 rw [method]
 simp [typeInfo,hi,hm,h3,h4,follow,receiverAt,run_underlying hu,Place.get,jbz,asAddr,hl]
theorem n9 {n:Nat} {t el:TypeId} {f:FuncId} {name:String} {u:Value} (hm:(P.info? t).map (fun i=>(i.methods.find? (fun m=>m.name == name)).map (fun m=>(m.path,m.func)))=some (some (#[],some (f,true)))) (hu:P.underlying t=some (.pointer el)) :
  (method (n+1) t u name).run P w=.ok (f,u) w:=by
 obtain ⟨i,hi,h1⟩:=Option.map_eq_some_iff.1 hm
 obtain ⟨m,hm,h2⟩:=Option.map_eq_some_iff.1 h1
 injection h2 with h3 h4
 rw [method]
 simp [typeInfo,hi,hm,h3,h4,follow,receiverAt,run_underlying hu,Place.get]
theorem mD {t tb:TypeId} {b o:Nat} {dd:TypeDesc} {v:Value} {l:List Value} (hu:P.underlying t=some dd) (hd:fL dd=false) (hB:Blk w b tb l) (hv:l[o]?=some v):(loadVar t ⟨b,o,none⟩).run P w=.ok v w :=
 k7 (o := default) (jB (P := P) (d := none) (ty := 0) (ps := "") (af := #[]) (e := fun _ => .pointer (some ⟨b, o, none⟩)) (x := .tmp 0) hu hd rfl hB hv)
end
def cY (x:Job):List Value:=[ii x.1,ii x.2]
def uD (l:List Job):List Value:=l.flatMap cY
theorem jaq (l:List Job):(uD l).length=l.length * 2:=vK (f:=cY) (fun _=>rfl) l
theorem mK {l:List Job} {i:Nat} (h:i < l.length):((uD l).drop (i * 2)).take 2=cY (yO l i):=uE (f:=cY) (fun _=>rfl) (dZ h)
theorem mJ {l:List Job} {i:Nat} (h:i < l.length):(uD l)[i * 2+0]?=some (ii (yO l i).1):=rM (f:=cY) (fun _=>rfl) (dZ h) (by omega)
theorem jfr (l:List Job) (x:Job):uD l ++ cY x=uD (l ++ [x]):=by simp [uD]
theorem mI:∀ (l:List Job) (m:Nat),(uD l).take (m * 2)=uD (l.take m)
 | l,0=>by simp [uD]
 | [],m+1=>by simp [uD]
 | a::l,m+1=>by
  have ih:=mI l m
  unfold uD at *
  rw [List.take_succ_cons,List.flatMap_cons,List.flatMap_cons,<-ih,Nat.succ_mul,List.take_append,show (cY a).length=2 from rfl,List.take_of_length_le (by show 2<=_; omega),Nat.add_sub_cancel]
theorem sX:∀ {l:List Job} {i:Nat} (x:Job),i < l.length->(uD l).take (i * 2) ++ cY x ++ (uD l).drop (i * 2+2)=uD (l.set i x)
 | [],i,x,h=>by simp at h
 | a::l,0,x,_=>rfl
 | a::l,i+1,x,h=>by
  have ih:=sX (l:=l) (i:=i) x (by simpa using h)
  unfold uD at *
  rw [List.set_cons_succ,List.flatMap_cons,List.flatMap_cons,<-ih,Nat.succ_mul,List.take_append,List.drop_append,show (cY a).length=2 from rfl,List.take_of_length_le (by show 2<=_; omega),List.drop_of_length_le (by show 2<=_; omega),Nat.add_sub_cancel,
   show i * 2+2+2 - 2=i * 2+2 by omega]
  simp
end
namespace queue
open Go.RowKit Go.Proofs.YtipnifjmhlcehaaGreatDoor
section
variable {F : Nat → Prop} {W0 : World} {L : List HA} {q : Nat} 
def QH (F:Nat->Prop) (W0:World) (L:List HA) (q:Nat)  (l:List Job) (w:World):Prop :=
 l.length<=1099511627777/\∃ A c,St F W0 w (.blk q 283 [.slice A l.length c]::.row 281 2 A l.length c (uD l)::L)
theorem QH.mk {l:List Job} {w:World} {A:Option Addr} {n c:Nat} (hn:l.length=n) (hl:n<=1099511627777) (S:St F W0 w (.blk q 283 [.slice A n c]::.row 281 2 A n c (uD l)::L)):QH F W0 L q  l w:=by
 subst hn; exact ⟨hl,A,c,S⟩
theorem jlG (A:Option Addr) (n c:Nat) (w:World):Fn Tryz.prog 153 [.slice A n c] w (yK (ii n) w):=by
 have S:=St.start w
 refine zn Tryz.func153 Tryz.results153 Tryz.ntmps153 ?_
 iterate 4 refine z ?_
 refine zq ?_
 exact yD rfl ⟨rfl,S.out⟩
theorem jke {l : List Job} {w : World} (hH : QH F W0 L q  l w) : m9 Tryz.prog 279 (pt q) "Len" [] w (fun v w' => v = ii l.length ∧ QH F W0 L q  l w') := by
 obtain ⟨hl,A,c,S⟩:=hH
 refine ⟨153,_,cV (by kernel_rfl) jc7 (mD fR rfl (S.blk (i:=0) rfl) rfl),?_⟩
 refine zn Tryz.func153 Tryz.results153 Tryz.ntmps153 ?_
 iterate 4 refine z ?_
 refine zq ?_
 exact yD rfl ⟨rfl,hl,A,c,S⟩
theorem jiR {l:List Job} {w:World} {i j:Nat} (hH:QH F W0 L q  l w) (hi:i < l.length) (hj:j < l.length) :
  m9 Tryz.prog 279 (pt q) "Less" [ii i, ii j] w (fun v w' => v = .bool (decide ((yO l i).1 < (yO l j).1)) ∧ QH F W0 L q  l w') := by
 obtain ⟨hl,A_R,c,S⟩:=hH
 have sa_R:yH A_R:=(S.row (i:=1) rfl).someA (by omega)
 have ci:=mJ hi
 have cj:=mJ hj
 refine ⟨386,_,cV (by kernel_rfl) jc7 (mD fR rfl (S.blk (i:=0) rfl) rfl),?_⟩
 refine zn Tryz.func386 Tryz.results386 Tryz.ntmps386 ?_
 refine z ?_
 refine zc ?_
 refine yB (C:=fun wq=>Gr w wq) [0,1,2,3,4,5,6,7,8,9,10,11] [] (by kernel_rfl) (by kernel_rfl) (Gr.drew _) ?_
 simp only [j6,List.drop_succ_cons,List.drop_zero]
 refine y ?_; refine y ?_; refine yx ?_; refine y ?_
 refine jV (fun wq hq=>j7 q2 rfl rfl ((S.gr hq).rd (i:=1) rfl) ci) ?_
 refine y ?_; refine y ?_; refine yx ?_; refine y ?_
 refine jV (fun wq hq=>j7 q2 rfl rfl ((S.gr hq).rd (i:=1) rfl) cj) ?_
 refine y ?_; refine y ?_
 refine yJ ?_
 intro w1_ g1_
 have S:=S.gr g1_
 refine zq ?_
 exact yD rfl ⟨rfl,hl,A_R,c,S⟩
theorem jiP {l:List Job} {w:World} {i j:Nat} (hH:QH F W0 L q  l w) (hi:i < l.length) (hj:j < l.length) :
  m9 Tryz.prog 279 (pt q) "Swap" [ii i, ii j] w (fun v w' => v = .tuple #[] ∧ QH F W0 L q  (wO l i j) w') := by
 obtain ⟨hl,A_R,c,S⟩:=hH
 have sa_R:yH A_R:=(S.row (i:=1) rfl).someA (by omega)
 have ci:=mK hi
 have cj:=mK hj
 have hlen:=jaq l
 have e1:((i:Nat):Int).toNat * 2=i * 2:=by omega
 have e2:((j:Nat):Int).toNat * 2=j * 2:=by omega
 have hp1:=sX (l:=l) (i:=i) (yO l j) hi
 have hlen1:=jaq (l.set i (yO l j))
 have hp2:=sX (l:=l.set i (yO l j)) (i:=j) (yO l i) (by simpa using hj)
 rw [List.length_set] at hlen1
 refine ⟨389,_,cV (by kernel_rfl) jc7 (mD fR rfl (S.blk (i:=0) rfl) rfl),?_⟩
 refine zn Tryz.func389 Tryz.results389 Tryz.ntmps389 ?_
 refine zc ?_
 refine TI.jlo (C:=(SWC F W0 (.blk q 283 [.slice A_R l.length c]::.row 281 2 A_R l.length c (uD l)::L) (.blk q 283 [.slice A_R l.length c]::.row 281 2 A_R l.length c (uD (l.set i (yO l j)))::L) 7 11 13 (.agg (cY (yO l j)).toArray) (.agg (cY (yO l i)).toArray))) [7,11,13] (.one 0 (.one 1 (.one 2 (.one 3 (.one 4 (.one 5 (.one 6 (.one 8 (.one 9 (.one 10 (.two 7 (.one 11 (.one 12 (.one 13 .nil))) 11 (.one 7 (.one 12 (.one 13 .nil)))))))))))))) [14,15] (by kernel_rfl) (by kernel_rfl) (SWC.start (S.gr (Gr.drew _))) ?_
 simp only [dA,j6,List.drop_succ_cons,List.drop_zero]
 refine TI.jlw ?_
 refine TI.jX rfl (jA rfl) ?_
 refine TI.yV ?_
 refine TI.jlw ?_
 refine TI.jX rfl (jA rfl) ?_
 refine TI.yV ?_
 refine TI.jlw ?_
 refine TI.jX rfl (jA rfl) ?_
 refine TI.yV ?_
 refine TI.jlw ?_
 refine TI.jX rfl (jA rfl) ?_
 refine TI.yV ?_
 refine TI.jlw ?_
 refine TI.jX rfl (jA rfl) ?_
 refine TI.yV ?_
 refine TI.jlw ?_
 refine TI.jX rfl (jA rfl) ?_
 refine TI.yV ?_
 refine TI.jlw ?_
 refine TI.jX rfl (kV fR zO rfl rfl sa_R (by omega) (by omega)) ?_
 refine TI.yV ?_
 refine TI.jlw ?_
 refine TI.jX rfl (jA rfl) ?_
 refine TI.yV ?_
 refine TI.jlw ?_
 refine TI.jX rfl (jA rfl) ?_
 refine TI.yV ?_
 refine TI.jlw ?_
 refine TI.jX rfl (kV fR zO rfl rfl sa_R (by omega) (by omega)) ?_
 refine TI.yV ?_
 refine TI.jlv ?_ ?_
 ·refine TI.jZ rfl rfl (fun wq hq=>jiq (yY sN rfl (zO _) rfl ((hq.st0 rfl).rd (i:=1) rfl) (by rw [e2]; exact cj) rfl rfl) (hq.push rfl rfl ⟨fun _=>rfl,fun h=>by cases h⟩)) ?_
  rintro v7 w7 h7
  obtain rfl:=h7.first
  refine TI.yV ?_
  refine TI.jlw ?_
  refine TI.jZ rfl rfl (fun wq hq=>jiq (yY sN rfl (zO _) rfl ((hq.st0 rfl).rd (i:=1) rfl) (by rw [e1]; exact ci) rfl rfl) (hq.push rfl rfl ⟨fun h=>(by cases h),fun _=>rfl⟩)) ?_
  rintro v11 w11 h11
  obtain rfl:=h11.second
  refine TI.yV ?_
  refine TI.jlw ?_
  refine TI.jX rfl (kV fR zO rfl rfl sa_R (by omega) (by omega)) ?_
  refine TI.yV ?_
  refine TI.jlw ?_
  refine TI.jZ rfl rfl (fun wq hq=>pT (i:=1) (hq.st0 rfl) rfl (zO _) rfl rfl rfl rfl (by rw [e1]; omega) (by rw [e1]; exact congrArg some (by rw [show i * 2+2=i * 2+2 from rfl,hp1])) rfl (fun w' S'=>hq.made ⟨fun h=>(by cases h),fun h=>(by cases h)⟩ S')) ?_
  rintro v13 w13 _
  refine TI.yV ?_
  refine TI.jlx ?_
  rintro wz hz
  have S:=hz.st1 rfl
  refine zx ?_
  refine zZ (i:=1) S rfl (zO _) rfl rfl rfl rfl (by rw [e2]; omega) rfl rfl ?_
  intro wz S
  refine ze ?_
  refine zN ⟨rfl,QH.mk (kH l i j) hl (c:=c) (A:=A_R) ?_⟩
  rw [e2] at S
  have hp2':=hp2
  unfold cY at hp2'
  unfold wO
  rw [<-hp2]
  exact S
 ·refine TI.jZ rfl rfl (fun wq hq=>jiq (yY sN rfl (zO _) rfl ((hq.st0 rfl).rd (i:=1) rfl) (by rw [e1]; exact ci) rfl rfl) (hq.push rfl rfl ⟨fun h=>(by cases h),fun _=>rfl⟩)) ?_
  rintro v11 w11 h11
  obtain rfl:=h11.second
  refine TI.yV ?_
  refine TI.jlw ?_
  refine TI.jZ rfl rfl (fun wq hq=>jiq (yY sN rfl (zO _) rfl ((hq.st0 rfl).rd (i:=1) rfl) (by rw [e2]; exact cj) rfl rfl) (hq.push rfl rfl ⟨fun _=>rfl,fun h=>by cases h⟩)) ?_
  rintro v7 w7 h7
  obtain rfl:=h7.first
  refine TI.yV ?_
  refine TI.jlw ?_
  refine TI.jX rfl (kV fR zO rfl rfl sa_R (by omega) (by omega)) ?_
  refine TI.yV ?_
  refine TI.jlw ?_
  refine TI.jZ rfl rfl (fun wq hq=>pT (i:=1) (hq.st0 rfl) rfl (zO _) rfl rfl rfl rfl (by rw [e1]; omega) (by rw [e1]; exact congrArg some (by rw [show i * 2+2=i * 2+2 from rfl,hp1])) rfl (fun w' S'=>hq.made ⟨fun h=>(by cases h),fun h=>(by cases h)⟩ S')) ?_
  rintro v13 w13 _
  refine TI.yV ?_
  refine TI.jlx ?_
  rintro wz hz
  have S:=hz.st1 rfl
  refine zx ?_
  refine zZ (i:=1) S rfl (zO _) rfl rfl rfl rfl (by rw [e2]; omega) rfl rfl ?_
  intro wz S
  refine ze ?_
  refine zN ⟨rfl,QH.mk (kH l i j) hl (c:=c) (A:=A_R) ?_⟩
  rw [e2] at S
  have hp2':=hp2
  unfold cY at hp2'
  unfold wO
  rw [<-hp2]
  exact S
theorem jiQ {l:List Job} {w:World} (x:Job) (hH:QH F W0 L q l w) (hl:l.length<=1099511627776) :
  m9 Tryz.prog 279 (pt q) "Push" [.iface 281 (.agg #[ii x.1, ii x.2])] w (fun v w' => v = .tuple #[] ∧ QH F W0 L q (l ++ [x]) w') := by
 obtain ⟨_,A_R,c,S⟩:=hH
 refine ⟨388,_,n9 (by kernel_rfl) jc7,?_⟩
 refine zn Tryz.func388 Tryz.results388 Tryz.ntmps388 ?_
 refine zc ?_
 refine qQ (C:=(fun σ wq=>CS F W0 (.blk q 283 [.slice A_R l.length c]::.row 281 2 A_R l.length c (uD l)::L) 1 281 2 l.length (uD l) (cY x) wq σ)) [6,7] [0,1,2,3,4,5,6,7] [8,9] (by kernel_rfl) (by kernel_rfl) (S.gr (Gr.drew _)) ?_
 simp only [yT,j6,List.drop_succ_cons,List.drop_zero]
 refine jX rfl (jA rfl) ?_
 refine jX rfl (jA rfl) ?_
 refine jX rfl (jA rfl) ?_
 refine qF rfl (fun τ wq hq=>jB fR rfl rfl (hq.ok (j:=0) (by decide) rfl) rfl) ?_
 refine jX rfl (jA rfl) ?_
 refine jX rfl (cT sN rfl rfl rfl) ?_
 refine jZ rfl rfl (fun wq hq=>zX hq fR zO jad rfl rfl rfl rfl rfl rfl) ?_
 rintro v6 w6 ⟨A6,rfl,_⟩
 refine jZ rfl rfl (fun wq hq=>gF hq rfl (fun h=>⟨_,rfl⟩) fR jft rfl rfl rfl rfl rfl rfl (by omega)) ?_
 rintro v7 w7 ⟨A7,c7,L7,rfl,_,_⟩
 refine yV ?_
 rintro w8 ⟨A8_,c8_,L_st,e_st,h_st,S⟩
 cases e_st
 obtain rfl:=Option.some.inj h_st
 refine z ?_
 refine j8 (i:=0) S rfl (Tryz.sizeOf283 _) rfl rfl rfl rfl rfl rfl ?_
 intro w2_ S
 refine ze ?_
 rw [jfr] at S
 exact zN ⟨rfl,QH.mk (A:=A7) (c:=c7) (n:=l.length+1) (by simp) (by omega) S⟩
theorem jkd {l:List Job} {w:World} (hH:QH F W0 L q  l w) (h0:0 < l.length) :
  m9 Tryz.prog 279 (pt q) "Pop" [] w (fun v w' => v = .iface 281 (.agg #[ii (yO l (l.length - 1)).1, ii (yO l (l.length - 1)).2]) ∧ QH F W0 L q  (l.take (l.length - 1)) w') := by
 obtain ⟨hl,A_R,c,S⟩:=hH
 have sa_R:yH A_R:=(S.row (i:=1) rfl).someA (by omega)
 have hcap:=(S.row (i:=1) rfl).cap
 have hlast:=mK (l:=l) (i:=l.length - 1) (by omega)
 have em:((l.length:Nat):Int) - 1=((l.length - 1:Nat):Int):=by omega
 have hlast':((uD l).drop (((l.length - 1:Nat):Int).toNat * 2)).take 2=cY (yO l (l.length - 1)):=by rw [Int.toNat_natCast]; exact hlast
 refine ⟨387,_,n9 (by kernel_rfl) jc7,?_⟩
 refine zn Tryz.func387 Tryz.results387 Tryz.ntmps387 ?_
 refine z ?_
 refine zc ?_
 refine qQ (C:=(fun σ wq=>Gr w wq/\SpA w wq 281 [ii 0,ii 0] σ)) [10] [0,1,2,3,4,5,6,7,8,9,10] [11] (by kernel_rfl) (by kernel_rfl) ⟨Gr.drew _,trivial⟩ ?_
 simp only [yT,j6,List.drop_succ_cons,List.drop_zero]
 refine jX rfl (jA rfl) ?_
 refine jX rfl (jA rfl) ?_
 refine qF rfl (fun τ wq hq=>jB fR rfl rfl ((S.gr hq.1).blk (i:=0) rfl) rfl) ?_
 refine jX rfl (jA rfl) ?_
 refine jX rfl (jA rfl) ?_
 refine qF rfl (fun τ wq hq=>jB fR rfl rfl ((S.gr hq.1).blk (i:=0) rfl) rfl) ?_
 refine jX rfl (gZ fR rfl) ?_
 refine jX rfl (yI rfl (by omega)) ?_
 rw [em]
 refine jX rfl (kV fR zO rfl rfl sa_R (by omega) (by omega)) ?_
 refine qF rfl (fun τ wq hq=>yY sN rfl (zO _) rfl ((S.gr hq.1).rd (i:=1) rfl) hlast' rfl rfl) ?_
 refine jZ rfl rfl (fun wq hq=>gG jad rfl hq.1 (fun v w' g h=>⟨g,h⟩)) ?_
 rintro v10 w10 ⟨_,hsp10⟩
 refine yV ?_
 rintro wz ⟨gz,hsp⟩
 obtain ⟨b_P,he1,hB1,hs1⟩:=hsp
 cases he1
 have S:=S.push gz (h:=.blk b_P 281 _) hB1 (fun g h=>h ▸ hs1)
 refine jH (i:=0) S rfl (zO _) rfl rfl rfl rfl rfl rfl ?_
 intro wy S
 refine zc ?_
 refine yB (C:=fun wq=>Gr wy wq) [0,1,2,3,4,5,6,7,8,9] [10,11] (by kernel_rfl) (by kernel_rfl) (Gr.drew _) ?_
 simp only [j6,List.drop_succ_cons,List.drop_zero]
 iterate 3 refine y ?_
 refine jV (fun wq hq=>jB fR rfl rfl ((S.gr hq).blk (i:=1) rfl) rfl) ?_
 refine y ?_; refine y ?_
 refine jV (fun wq hq=>jB fR rfl rfl ((S.gr hq).blk (i:=1) rfl) rfl) ?_
 refine y ?_; refine yr ?_
 rw [em]
 refine jW (wC fR zO rfl rfl (by omega) (by omega)) ?_
 refine yJ ?_
 intro w2_ g2_
 have S:=S.gr g2_
 refine z ?_
 refine j8 (i:=1) S rfl (Tryz.sizeOf283 _) rfl rfl rfl rfl rfl rfl ?_
 intro w3_ S
 refine z ?_
 refine jE (qU sN rfl rfl) ?_
 refine z ?_
 refine zq ?_
 have hR:=(S.row (i:=2) rfl).take (m:=l.length - 1) (by omega)
 rw [mI] at hR
 have S:=(S.set (i:=2) (h':=.row 281 2 A_R (l.length - 1) c (uD (l.take (l.length - 1)))) rfl rfl (Fr.refl No _) (fun _ h=>h.elim) hR (fun g h=>.inl h)).drop 1
 refine yD rfl ⟨rfl,QH.mk (A:=A_R) (c:=c) (n:=l.length - 1) (by rw [List.length_take]; omega) (by omega) S⟩
theorem jlP:sC Tryz.prog 279 (pt q) 281 (QH F W0 L q ) :=
 ⟨fun l w h=>jke h,fun l w i j h hi hj=>jiR h hi hj,fun l w i j h hi hj=>jiP h hi hj,fun l w x h hl=>jiQ x h hl,fun l w h h0=>jkd h h0,fun l w h=>h.1⟩
end
end queue
section
open Go.RowKit
theorem SepL.perm {X:Nat->Prop} {w:World} {L L':List HA} (p:L.Perm L'):SepL X w L->SepL X w L':=by
 induction p with
 | nil=>exact id
 | cons a p ih=>exact fun h=>⟨h.1,fun g hg h' hh=>h.2.1 g hg h' (p.mem_iff.2 hh),ih h.2.2⟩
 | swap a b l =>
  intro h
  refine ⟨h.2.2.1,fun g hg h' hh=>?_,h.1,fun g hg h' hh=>h.2.1 g hg h' (List.mem_cons_of_mem _ hh),h.2.2.2.2⟩
  rcases List.mem_cons.1 hh with e | hh
  ·subst e; exact fun ho=>h.2.1 g ho a List.mem_cons_self hg
  ·exact h.2.2.2.1 g hg h' hh
 | trans _ _ ih1 ih2=>exact fun h=>ih2 (ih1 h)
theorem St.perm {F:Nat->Prop} {W w:World} {L L':List HA} (S:St F W w L) (p:L.Perm L'):St F W w L':=⟨S.fr,S.sep.perm p⟩
theorem jg5 {α:Type} (a b c d:α) (L:List α):(a::b::c::d::L).Perm (c::d::a::b::L) :=
 (List.perm_append_comm (l₁:=[a,b]) (l₂:=[c,d])).append_right L
section
variable {W : World} {A : Option Addr} {gw gh c : Nat} {V : List Int}
theorem jgJ (a:Nat) (hgw:1<=gw/\gw<=1024) (hgh:1<=gh/\gh<=1024) (hV:V.length=gw * gh) (ha:a < gw * gh) (hB:vB V) (hA:Rd W A (yC V)) :
  Fn Tryz.prog 94 [.agg #[ii gw,.slice A V.length c],ii a] W (fun v w'=>∃ d,IsDist gw V a d/\qR id 2 1 V.length (yN V.length d) W v w'):=by
 have hn:gw * gh<=1048576:=by have:=Nat.mul_le_mul hgw.2 hgh.2; omega
 have S:=St.start W
 refine zn Tryz.func94 Tryz.results94 Tryz.ntmps94 ?_
 refine zs ?_
 refine jF (jO rfl) S ?_
 intro b_lw w2_ g2_ S
 iterate 4 refine z ?_
 refine vU q30 uY rfl rfl rfl (n:=V.length) (c:=V.length) (by omega) (by omega) (by omega) (by omega) S ?_
 intro A_out w4_ g4_ S sa_out
 iterate 4 refine z ?_
 refine zc ?_
 refine jS ?_
 refine zc ?_
 rw [dL] at S
 refine j9 (fun m e w=>∃ k:Nat,k+m=V.length/\SL e [(1,ii a),(2,pt b_lw),(5,.slice A_out V.length V.length),(16,ii V.length),(17,ii k)] /\
  St No W w [.row 2 1 A_out V.length V.length (yN V.length (fun i=>if i < k then -1 else 0)),.blk b_lw 184 [ii gw,.slice A V.length c]]) V.length
  ⟨0,by omega,⟨rfl,rfl,rfl,rfl,rfl,trivial⟩,by simpa using S⟩ ?_
 rintro m e w ⟨k,hk,hsl,S⟩
 rw [hsl.fold]
 refine z ?_
 refine zk ?_ ?_
 ·intro hc
  (iterate 4 refine z ?_); refine zx ?_
  refine qV (i:=0) S rfl (qz2 _) rfl rfl rfl rfl (by rw [u9]; omega) rfl ?_
  intro w5_ S
  refine zr ?_; refine z ?_
  refine ze ?_
  rw [xC,uO (o':=fun i=>if i < k+1 then -1 else 0) (fun i hi=>by unfold kR; dsimp only; (repeat' split) <;> omega)] at S
  exact ⟨m - 1,by omega,k+1,by omega,⟨rfl,rfl,rfl,rfl,ie (by omega),trivial⟩,S⟩
 ·intro hc
  rw [uO (o':=fun _=>-1) (fun i hi=>by rw [if_pos (by omega)])] at S
  refine zc ?_
  refine jY ?_
  repeat first | refine jP ?_ | refine jU ?_
  show CW _ _ _ _ _ _
  refine z ?_
  refine jE (jN (pl:=[(0,1),(1,1)]) sN jad (fun w=>by kernel_rfl) rfl rfl) ?_
  refine yF fR zO jad rfl rfl rfl rfl rfl rfl S ?_
  intro A_qr w7_ g7_ S sa_qr
  refine jF (jO rfl) S ?_
  intro b_q w9_ g9_ S
  refine z ?_
  refine zc ?_
  refine jS ?_
  refine zc ?_
  have hQ:queue.QH No W [.row 2 1 A_out V.length V.length (yN V.length (fun _=>-1)),.blk b_lw 184 [ii gw,.slice A V.length c]] b_q [((0:Int),a)] _:=queue.QH.mk (A:=A_qr) (c:=1) (n:=1) rfl (by omega) S
  refine j9 (fun m e w=>∃ (o:Nat->Int) (l:List Job),5 * (V.length - wI (gw * gh) o)+l.length=m/\m<=5 * V.length+1/\SL e [(2,pt b_lw),(5,.slice A_out V.length V.length),(7,pt b_q)] /\
   HeapN l l.length/\DJ gw gh V a o l (fun _ _=>False)/\queue.QH No W [.row 2 1 A_out V.length V.length (yN V.length o),.blk b_lw 184 [ii gw,.slice A V.length c]] b_q l w)
   (5 * (V.length - wI (gw * gh) (fun _=>-1))+1) ⟨fun _=>-1,[(0,a)],rfl,by omega,⟨rfl,rfl,rfl,trivial⟩,fun k h0 h1=>by simp at h1; omega,DJ.init ha,hQ⟩ ?_
  clear hQ S
  rintro m e w ⟨o,l,hm,hmb,hsl,hN,hD,hQ⟩
  rw [hsl.fold]
  obtain ⟨hlb,A_R,c_R,S⟩:=hQ
  iterate 3 refine z ?_
  refine jC rfl (queue.jlG A_R l.length c_R w) ?_
  rintro _ w10_ ⟨rfl,g10_⟩
  have S:=S.gr g10_
  refine z ?_
  refine zk ?_ ?_
  ·intro hc2
   have hl0:0 < l.length:=by omega
   refine z ?_
   refine jE (qU jc7 rfl rfl) ?_
   refine jC rfl (jkz queue.jlP l _ hN hl0 ⟨hlb,A_R,c_R,S⟩) ?_
   rintro _ w9 ⟨x,l',rfl,hlen,hmem,hmin,hN',hQ'⟩
   obtain ⟨hlb',A_R',c_R',S⟩:=hQ'
   have hD2:DJ gw gh V a o (x::l') (fun _ _=>False):=hD.perm (fun y=>by rw [List.mem_cons]; exact (hmem y).symm)
   obtain ⟨hxlt,hx0,_⟩:=hD2.ent x List.mem_cons_self
   obtain ⟨xc,xa⟩:=x
   dsimp only at hxlt hx0 hmin hmem
   refine jE (cT sN rfl rfl rfl) ?_
   refine jF (jL jad rfl) S ?_
   intro b_j w12_ g12_ S
   refine jH (i:=0) S rfl (zO _) rfl rfl rfl rfl rfl rfl ?_
   intro w13_ S
   (iterate 3 refine z ?_); refine zx ?_
   refine j3 (j7 q2 rfl rfl (S.rd (i:=3) rfl) (qE (by omega))) ?_
   refine z ?_
   refine zk ?_ ?_
   ·intro hkn
    refine zc ?_
    refine jY ?_
    repeat first | refine jP ?_ | refine jU ?_
    exact ⟨_,by omega,o,l',rfl,by omega,⟨rfl,rfl,rfl,trivial⟩,hN',hD2.skip hkn,hlb',A_R',c_R',S.drop 1⟩
   ·intro hkn
    have hM:=hD2.take (by omega) (show o xa < 0 by omega) hmin
    dsimp only at hM
    rw [<-hV] at hM
    have hself:kR o xa xc xa=xc:=by unfold kR; rw [if_pos rfl]
    have hcnt:wI (gw * gh) (kR o xa xc)=wI (gw * gh) o+1:=by rw [bZ hx0 (by omega),if_pos hxlt]
    have hcle:=jjx (gw * gh) (kR o xa xc)
    have hroom:=hM.room
    rw [hself] at hroom
    have hnl:=jao gw V.length xa
    (iterate 5 refine z ?_); refine zx ?_
    refine qV (i:=3) S rfl (qz2 _) rfl rfl rfl rfl (by rw [u9]; omega) rfl ?_
    intro w14_ S
    iterate 3 refine z ?_
    refine jC rfl (lZ (W:=w14_) (A:=A) (c:=c) xa V.length ⟨hgw.1,by omega⟩ (by omega) (by omega)) ?_
    rintro _ w15_ ⟨A_near,c_near,rfl,hR_near,hf_near,g15_⟩
    have S:=S.pushRow hR_near hf_near g15_
    refine z ?_; refine z ?_
    refine zc ?_
    refine jS ?_
    refine zc ?_
    rw [xC] at S
    have S:=S.perm (jg5 _ _ _ _ _)
    generalize zS gw V.length xa=Ln at *
    refine j9 (fun m' e w=>∃ (k:Nat) (l2:List Job),k+m'=Ln.length/\l2.length<=l'.length+k /\
     SL e [(2,pt b_lw),(5,.slice A_out V.length V.length),(7,pt b_q),(8,pt b_j),(52,.slice A_near Ln.length c_near),(53,ii Ln.length),(54,ii k)] /\
     HeapN l2 l2.length/\DJM gw gh V a (kR o xa xc) l2 xa (Ln.drop k) /\
     queue.QH No W [.row 3 1 A_near Ln.length c_near (vC Ln),.blk b_j 281 [ii xc,ii xa],.row 2 1 A_out V.length V.length (yN V.length (kR o xa xc)),.blk b_lw 184 [ii gw,.slice A V.length c]] b_q l2 w) Ln.length
     ⟨0,l',by omega,by omega,⟨rfl,rfl,rfl,rfl,rfl,rfl,rfl,trivial⟩,hN',by rw [List.drop_zero]; exact hM,hlb',A_R',c_R',S⟩ ?_
    clear S hM
    rintro m' e w ⟨k,l2,hk2,hl2,hsl,hN2,hM2,hQ2⟩
    rw [hsl.fold]
    obtain ⟨hlb2,A_R2,c_R2,S⟩:=hQ2
    refine z ?_
    refine zk ?_ ?_
    ·intro hc3
     have hkl:k < Ln.length:=by omega
     obtain ⟨y,hy,hdr⟩:∃ y,Ln[k]?=some y/\Ln.drop k=y::Ln.drop (k+1):=⟨Ln[k]'hkl,List.getElem?_eq_getElem hkl,List.drop_eq_getElem_cons hkl⟩
     rw [hdr] at hM2
     have sa_near:yH A_near:=(S.row (i:=2) rfl).someA (by omega)
     have hyt:=hM2.todo_ok y List.mem_cons_self
     have hst:=jaK hB xa y
     have hst0:=zY V xa y
     refine zx ?_
     refine j3 (j7 q3 rfl rfl (S.rd (i:=2) rfl) (sT hy)) ?_
     (iterate 3 refine z ?_); refine zx ?_
     refine j3 (j7 q2 rfl rfl (S.rd (i:=4) rfl) (qE (by omega))) ?_
     refine z ?_
     refine zk ?_ ?_
     ·intro hu
      refine zc ?_
      refine yB (C:=fun wq=>Gr w wq) [0,1,2,3,4,5,6,7,8,9,10,11,12] [13] (by kernel_rfl) (by kernel_rfl) (Gr.drew _) ?_
      simp only [j6,List.drop_succ_cons,List.drop_zero]
      refine jW (jA rfl) ?_
      refine jW (qU jc7 rfl rfl) ?_
      refine jW (jD sN rfl qz2 rfl rfl) ?_
      refine jV (fun wq hq=>jB q2 rfl rfl ((S.gr hq).blk (i:=3) rfl) rfl) ?_
      refine jV (fun wq hq=>jT jb4 rfl (cJ _) rfl ((S.gr hq).blk (i:=5) rfl) rfl rfl) ?_
      refine jW (jD sN rfl qz3 rfl rfl) ?_
      refine jV (fun wq hq=>jB q3 rfl rfl ((S.gr hq).blk (i:=3) rfl) rfl) ?_
      refine jW (jA rfl) ?_
      refine y8 rfl (fun wq hq=>(jd1 (gw:=gw) (c:=c) xa y (by omega) (by omega) hB (hA.gr (S.gr hq).out)).mono (fun _ _ ⟨hv,hg⟩=>⟨hv,hq.trans hg⟩)) ?_
      refine jW (yI rfl (by unfold far at *; omega)) ?_
      refine jW (jA rfl) ?_
      refine jW (jN (pl:=[(0,1),(1,1)]) sN jad (fun w=>by kernel_rfl) rfl rfl) ?_
      refine jW (qU sN rfl rfl) ?_
      refine yJ ?_
      intro w16_ g16_
      have S:=S.gr g16_
      refine jC rfl (jjh queue.jlP l2 (xc+st V xa y,y) _ hN2 ⟨hlb2,A_R2,c_R2,S⟩ (by omega)) ?_
      rintro _ w16 ⟨rfl,l3,h31,h32,h33,hQ3⟩
      refine zr ?_; refine z ?_
      refine ze ?_
      exact ⟨m' - 1,by omega,k+1,l3,by omega,by omega,⟨rfl,rfl,rfl,rfl,rfl,rfl,ie (by omega),trivial⟩,h33,hM2.push hst (fun x=>by rw [h32,hself]),hQ3⟩
     ·intro hu
      refine zr ?_; refine z ?_
      refine ze ?_
      exact ⟨m' - 1,by omega,k+1,l2,by omega,by omega,⟨rfl,rfl,rfl,rfl,rfl,rfl,ie (by omega),trivial⟩,hN2,hM2.known (by omega),hlb2,A_R2,c_R2,S⟩
    ·intro hc3
     rw [List.drop_eq_nil_of_le (by omega)] at hM2
     refine zc ?_
     refine jY ?_
     repeat first | refine jP ?_ | refine jU ?_
     exact ⟨_,by omega,kR o xa xc,l2,rfl,by omega,⟨rfl,rfl,rfl,trivial⟩,hN2,hM2.done,hlb2,A_R2,c_R2,S.sub (.cons_cons _ (.cons_cons _ (.cons _ (.cons _ (.cons_cons _ (.cons_cons _ .slnil))))))⟩
  ·intro hc2
   obtain rfl:l=[]:=List.eq_nil_of_length_eq_zero (by omega)
   refine zc ?_
   refine jY ?_
   repeat first | refine jP ?_ | refine jU ?_
   show CW _ _ _ _ _ _
   refine z ?_; refine z ?_
   refine zq ?_
   exact yD rfl ⟨o,hD.finish (by omega) hV ha,S.retNew (i:=2) (mk:=id) rfl⟩
end
end
end Go.Proofs.YtipnifjmhlcehaaGreatDoor
