/- hachuretop.WholeFlat: a part of the proof that the law returns true at every input (Area, SparseH, TriI, Swap, PyrA); no condition of its own. -/
import Derived.Test.YtipnifjmhlcehaaGreatDoorKG
import Derived.Test.YtipnifjmhlcehaaGreatDoorKC
import Derived.Test.YtipnifjmhlcehaaGreatDoorKD
import Derived.Test.YtipnifjmhlcehaaGreatDoorKF
set_option linter.unusedVariables false
set_option linter.unusedSimpArgs false
set_option maxRecDepth 100000
set_option maxHeartbeats 16000000
namespace Go.Proofs.YtipnifjmhlcehaaGreatDoor
section
open Go.RowKit
theorem jhz:(Tryz.prog.info? 30).map (fun i=>(i.zero,i.size,i.bytes))=some (some (.slice none 0 0),1,24):=by kernel_rfl
def slV (k:Nat) (As:Nat->Option Addr) (n:Nat) (cs:Nat->Nat):List Value:=(List.range k).map fun y=>.slice (As y) n (cs y)
theorem jaM {k:Nat} {As:Nat->Option Addr} {n:Nat} {cs:Nat->Nat} {y:Nat} (h:y < k):(slV k As n cs)[((y:Nat):Int).toNat * 1]?=some (.slice (As y) n (cs y)):=by simp [slV,h]
def zG {α:Type} (f:Nat->α) (k:Nat) (x:α):Nat->α:=fun t=>if t=k then x else f t
theorem qC {α:Type} {f:Nat->α} {k:Nat} {x:α}:zG f k x k=x:=if_pos rfl
theorem yX {α:Type} {f:Nat->α} {k t:Nat} {x:α} (h:t < k):zG f k x t=f t:=if_neg (by omega)
theorem jbO {k:Nat} {As:Nat->Option Addr} {n:Nat} {cs:Nat->Nat} {A:Option Addr} {c:Nat}:slV k As n cs ++ [.slice A n c]=slV (k+1) (zG As k A) n (zG cs k c):=by
 unfold slV
 rw [List.range_succ,List.map_append,List.map_singleton,qC,qC]
 congr 1
 exact List.map_congr_left fun t ht=>by rw [yX (List.mem_range.1 ht),yX (List.mem_range.1 ht)]
def HA.rfam (el k:Nat) (As:Nat->Option Addr) (cs:Nat->Nat) (n:Nat) (xs:Nat->List Value):HA :=
 ⟨fun g=>∃ t,t < k/\kZ (As t) g,fun w=>∀ t,t < k->Row w el 1 (As t) n (cs t) (xs t),fun _ _ h _ hR t ht=>(hR t ht).keep (fun g hg=>h g ⟨t,ht,hg⟩),fun _ hR _ ⟨t,ht,hg⟩=>(hR t ht).lt hg⟩
section
variable {F : Nat → Prop} {W w : World} {L : List HA} {el k n c i : Nat} {As : Nat → Option Addr} {cs : Nat → Nat} {xs : Nat → List Value} {A : Option Addr} {l : List Value}
theorem St.rfam0 (S:St F W w L) (As:Nat->Option Addr) (cs:Nat->Nat) (xs:Nat->List Value):St F W w (.rfam el 0 As cs n xs::L) :=
 S.push (Gr.refl w) (h:=.rfam el 0 As cs n xs) (fun t ht=>by omega) (fun g ⟨t,ht,_⟩=>by omega)
theorem St.rrow (S:St F W w L) (hi:qP L i=some (.rfam el k As cs n xs)) {t:Nat} (ht:t < k):Row w el 1 (As t) n (cs t) (xs t):=S.ok hi t ht
theorem St.rrd (S:St F W w L) (hi:qP L i=some (.rfam el k As cs n xs)) {t:Nat} (ht:t < k):Rd w (As t) (xs t):=(S.rrow hi ht).rd
theorem St.rfamPush (S:St F W w (.row el 1 A n c l::.rfam el k As cs n xs::L)) (hl:xs k=l):St F W w (.rfam el (k+1) (zG As k A) (zG cs k c) n xs::L):=by
 have h1:=S.sep.1
 have h2:=S.sep.2.2.1
 have h3:=S.sep.2.2.2
 refine ⟨S.fr,⟨fun t ht=>?_,fun g ⟨t,ht,e⟩=>?_⟩,fun g ⟨t,ht,e⟩ h hh=>?_,h3.2⟩
 ·by_cases e:t=k
  ·subst e; rw [qC,qC,hl]; exact h1.1
  ·rw [yX (by omega),yX (by omega)]; exact h2.1 t (by omega)
 ·by_cases ek:t=k
  ·subst ek; rw [qC] at e; exact h1.2 g e
  ·rw [yX (by omega)] at e; exact h2.2 g ⟨t,by omega,e⟩
 ·by_cases ek:t=k
  ·subst ek; rw [qC] at e; exact S.sep.2.1 g e h (List.mem_cons_of_mem _ hh)
  ·rw [yX (by omega)] at e; exact h3.1 g ⟨t,by omega,e⟩ h hh
end
theorem SepL.perm_ {X:Nat->Prop} {w:World} {L L':List HA} (p:L.Perm L'):SepL X w L->SepL X w L':=by
 induction p with
 | nil=>exact id
 | cons a p ih=>exact fun h=>⟨h.1,fun g hg h' hh=>h.2.1 g hg h' (p.mem_iff.2 hh),ih h.2.2⟩
 | swap a b l =>
  intro h
  refine ⟨h.2.2.1,fun g hg h' hh=>?_,h.1,fun g hg h' hh=>h.2.1 g hg h' (List.mem_cons_of_mem _ hh),h.2.2.2.2⟩
  rcases List.mem_cons.1 hh with e | hh
  ·subst e; exact fun ho=>h.2.1 g ho a List.mem_cons_self hg
  ·exact h.2.2.2.1 g hg h' hh
 | trans _ _ ih1 ih2=>exact fun h=>ih2 (ih1 h)
theorem St.perm_ {F:Nat->Prop} {W w:World} {L L':List HA} (S:St F W w L) (p:L.Perm L'):St F W w L':=⟨S.fr,S.sep.perm_ p⟩
theorem gX {α:Type} (a b c:α) (L:List α):(a::b::c::L).Perm (c::a::b::L):=(List.perm_append_comm (l₁:=[a,b]) (l₂:=[c])).append_right L
def wJ (V:List Int) (o:Nat):Nat->Int
 | 0=>0
 | x+1=>wJ V o x+V.getD (o+x) 0
def vH (V:List Int) (gw:Nat):Nat->Nat->Int
 | 0,_=>0
 | y+1,x=>wJ V (y * gw) x+vH V gw y x
theorem jb7 (V:List Int) (gw:Nat):∀ y,vH V gw y 0=0
 | 0=>rfl
 | y+1=>by show wJ V (y * gw) 0+vH V gw y 0=0; rw [jb7 V gw y]; rfl
theorem p8 {V:List Int} (hB:vB V) (o:Nat):∀ x:Nat,-(2147483648 * (x:Int))<=wJ V o x/\wJ V o x<=2147483648 * (x:Int)
 | 0=>by simp [wJ]
 | x+1=>by
  have:=p8 hB o x
  have:=hB (o+x)
  show _<=wJ V o x+V.getD (o+x) 0/\wJ V o x+V.getD (o+x) 0<=_
  omega
theorem wA {V:List Int} (hB:vB V) (gw:Nat) {x:Nat} (hx:x<=1024):∀ y:Nat,-(2199023255552 * (y:Int))<=vH V gw y x/\vH V gw y x<=2199023255552 * (y:Int)
 | 0=>by simp [vH]
 | y+1=>by
  have:=wA hB gw hx y
  have:=p8 hB (y * gw) x
  show _<=wJ V (y * gw) x+vH V gw y x/\wJ V (y * gw) x+vH V gw y x<=_
  omega
def AreaAt (w:World) (tb gw gh:Nat) (V:List Int):Prop:=∃ Ao co As cs,Blk w tb 307 [ii gw,ii gh,.slice Ao (gh+1) co]/\Row w 30 1 Ao (gh+1) co (slV (gh+1) As (gw+1) cs) /\
 ∀ y,y < gh+1->Row w 2 1 (As y) (gw+1) (cs y) (yN (gw+1) (vH V gw y))
theorem AreaAt.gr {w w':World} {tb gw gh:Nat} {V:List Int} (h:AreaAt w tb gw gh V) (g:Gr w w'):AreaAt w' tb gw gh V:=by
 obtain ⟨Ao,co,As,cs,h1,h2,h3⟩:=h
 exact ⟨Ao,co,As,cs,h1.gr g,h2.gr g,fun y hy=>(h3 y hy).gr g⟩
def jaD (tb gw gh:Nat) (V:List Int) (Ao:Option Addr) (co:Nat) (As:Nat->Option Addr) (cs:Nat->Nat):List HA :=
 [.rfam 2 (gh+1) As cs (gw+1) (fun y=>yN (gw+1) (vH V gw y)),.blk tb 307 [ii gw,ii gh,.slice Ao (gh+1) co],.row 30 1 Ao (gh+1) co (slV (gh+1) As (gw+1) cs)]
theorem St.areaAt {F:Nat->Prop} {W w:World} {L:List HA} {tb gw gh co:Nat} {V:List Int} {Ao:Option Addr} {As:Nat->Option Addr} {cs:Nat->Nat} (S:St F W w (jaD tb gw gh V Ao co As cs ++ L)):AreaAt w tb gw gh V :=
 ⟨_,_,_,_,S.blk (i:=1) rfl,S.row (i:=2) rfl,fun _ hy=>S.rrow (i:=0) rfl hy⟩
theorem jcL {n:Nat} {o:Nat->Int} {v:Int} (h:v=o n):yN n o ++ [ii v]=yN (n+1) o:=by
 subst h
 unfold yN
 rw [List.range_succ,List.map_append]
 rfl
section
variable {W : World} {A : Option Addr} {p gw gh cap : Nat} {cc : Nat → Int} {bs : Nat → Nat} {Rs : Nat → Option Nat}
theorem jf5 (hB:vB (yA gw gh cc)) (hG:GridAt W p gw gh cc A cap bs Rs):Fn Tryz.prog 113 [pt p] W
  (fun v w'=>∃ tb Ao co As cs,v=.tuple #[pt tb,ii 0]/\St No W w' (jaD tb gw gh (yA gw gh cc) Ao co As cs)):=by
 have hw:=hG.sw
 have hh:=hG.sh
 have hV:=zE gw gh cc
 have hval:∀ (y:Nat) (w:World),y < gh->Gr W w->Fn Tryz.prog 25 [pt p,.agg #[ii 0,ii y,ii (gw - 1:Nat),ii y]] w (qR (fun v=>.tuple #[v,ii 0]) 2 1 gw (yN gw fun x=>(yA gw gh cc).getD (y * gw+x) 0) w):=fun y w hy g=>by
  have h1:=qN (W:=w) 0 y (gw - 1) y (by omega) (by omega) (hG.gr g)
  have e2:yC (y9 gw cc 0 y (gw - 1+1 - 0) (y+1 - y))=yN gw fun x=>(yA gw gh cc).getD (y * gw+x) 0:=by
   have hyg:(y+1) * gw<=gh * gw:=Nat.mul_le_mul_right _ hy
   rw [Nat.succ_mul,Nat.mul_comm gh] at hyg
   rw [show gw - 1+1 - 0=gw by omega,show y+1 - y=1 by omega,jcM]
   congr 1
   simp only [y9,cO,List.range_one,List.flatMap_singleton]
   refine List.map_congr_left fun x hx=>?_
   have hx:=List.mem_range.1 hx
   unfold yA
   rw [List.getD_eq_getElem?_getD,List.getElem?_map,List.getElem?_range (by omega)]
   simp
  rw [e2,show (y+1 - y) * (gw - 1+1 - 0)=gw by rw [show y+1 - y=1 by omega]; omega] at h1
  exact h1
 generalize yA gw gh cc=V at *
 have e1:((gw:Int) - 1)=((gw - 1:Nat):Int):=by omega
 have e2:((gw:Int)+1)=((gw+1:Nat):Int):=by push_cast; rfl
 have S:=St.start W
 refine zn Tryz.func113 Tryz.results113 Tryz.ntmps113 ?_
 iterate 5 refine z ?_
 refine jC rfl (xH p gw gh _ W (hG.top.gr S.out)) ?_
 rintro _ w1_ ⟨rfl,g1_⟩
 have S:=S.gr g1_
 (iterate 8 refine z ?_); refine zr ?_
 rw [e2]
 refine vU q30 uY rfl rfl rfl (n:=gw+1) (c:=gw+1) (by omega) (by omega) (by omega) (by omega) S ?_
 intro A_r0 w3_ g3_ S sa_r0
 refine yF jgQ f5 Tryz.zeroValue30 rfl rfl rfl rfl rfl rfl S ?_
 intro A_out w5_ g5_ S sa_out
 refine jE (jN (pl:=[(0,1),(1,1),(2,1)]) Tryz.underlying307 Tryz.zeroValue307 (fun w=>by kernel_rfl) rfl rfl) ?_
 refine jF (jO rfl) S ?_
 intro b_tb w7_ g7_ S
 iterate 3 refine z ?_
 refine zc ?_
 refine jS ?_
 refine zc ?_
 have hr0:List.replicate (gw+1) (ii 0)=yN (gw+1) (vH V gw 0):=by
  unfold yN vH
  rw [List.map_const',List.length_range]
 rw [hr0] at S
 have S:=((S.perm_ (gX _ _ _ _)).rfam0 (el:=2) (n:=gw+1) (fun _=>none) (fun _=>0) (fun y=>yN (gw+1) (vH V gw y))).swap.rfamPush rfl
 have h0:[Value.slice A_r0 (gw+1) (gw+1)]=slV (0+1) (zG (fun _=>none) 0 A_r0) (gw+1) (zG (fun _=>0) 0 (gw+1)):=by
  have:=jbO (k:=0) (As:=fun _=>none) (n:=gw+1) (cs:=fun _=>0) (A:=A_r0) (c:=gw+1)
  exact this
 rw [h0] at S
 generalize zG (fun _=>none) 0 A_r0=As0 at *
 generalize zG (fun _=>0) 0 (gw+1)=cs0 at *
 refine j9 (fun m e w=>∃ (y:Nat) (As:Nat->Option Addr) (cs:Nat->Nat) (A_out:Option Addr) (c_out:Nat),y+m=gh/\SL e [(0,pt p),(4,ii gw),(6,pt b_tb),(29,ii gh),(30,ii y)] /\
  St No W w [.rfam 2 (y+1) As cs (gw+1) (fun y=>yN (gw+1) (vH V gw y)),.blk b_tb 307 [ii gw,ii gh,.slice A_out (y+1) c_out],.row 30 1 A_out (y+1) c_out (slV (y+1) As (gw+1) cs)]) gh
  ⟨0,As0,cs0,A_out,1,by omega,⟨rfl,rfl,rfl,rfl,rfl,trivial⟩,S⟩ ?_
 clear S hr0 h0
 rintro m e w ⟨y,As,cs,A_out,c_out,hym,hsl,S⟩
 rw [hsl.fold]
 by_cases hy:y < gh
 ·have hyk:y < y+1:=Nat.lt_succ_self y
  have sa_out:yH A_out:=(S.row (i:=2) rfl).someA (by omega)
  have sa_ry:yH (As y):=(S.rrow (i:=0) rfl hyk).someA (by omega)
  have hgo:=jaM (As:=As) (n:=gw+1) (cs:=cs) hyk
  have hn1:[ii 0]=yN 1 (vH V gw (y+1)):=by
   have:vH V gw (y+1) 0=0:=jb7 V gw (y+1)
   unfold yN
   simp [this]
  refine zt ?_; (iterate 5 refine z ?_); refine zr ?_
  rw [e1]
  refine z ?_
  refine jE (jN (pl:=[(0,1),(1,1),(2,1),(3,1)]) q27 qX (fun w=>by kernel_rfl) rfl rfl) ?_
  refine jC rfl (hval y w hy S.out) ?_
  rintro _ w8_ ⟨A_l,c_l,rfl,hR_l,hf_l,g8_⟩
  have S:=S.pushRow hR_l hf_l g8_
  (iterate 6 refine z ?_); refine zr ?_
  rw [e2]
  refine vU q30 uY rfl rfl rfl (n:=1) (c:=gw+1) (by omega) (by omega) (by omega) (by omega) S ?_
  intro A_nr w10_ g10_ S sa_nr
  iterate 5 refine z ?_
  refine zc ?_
  refine jS ?_
  refine zc ?_
  have hn2:List.replicate 1 (ii 0)=yN 1 (vH V gw (y+1)):=hn1
  rw [hn2] at S
  have sa_l:yH A_l:=(S.row (i:=1) rfl).someA (by omega)
  refine j9 (fun m2 e w=>∃ (x:Nat) (A_nr:Option Addr) (c_nr:Nat),x+m2=gw/\SL e [(0,pt p),(4,ii gw),(6,pt b_tb),(7,ii y),(10,.slice A_nr (x+1) c_nr),(11,ii (wJ V (y * gw) x)),(29,ii gh),(30,ii y),(46,.slice A_l gw c_l),(47,ii gw),(48,ii x)] /\
   St No W w [.row 2 1 A_nr (x+1) c_nr (yN (x+1) (vH V gw (y+1))),.row 2 1 A_l gw c_l (yN gw fun x=>V.getD (y * gw+x) 0),.rfam 2 (y+1) As cs (gw+1) (fun y=>yN (gw+1) (vH V gw y)),.blk b_tb 307 [ii gw,ii gh,.slice A_out (y+1) c_out],.row 30 1 A_out (y+1) c_out (slV (y+1) As (gw+1) cs)]) gw
   ⟨0,A_nr,gw+1,by omega,⟨rfl,rfl,rfl,rfl,rfl,rfl,rfl,rfl,rfl,rfl,rfl,trivial⟩,S⟩ ?_
  clear S hn1 hn2
  rintro m2 e2_ w2 ⟨x,A_nr,c_nr,hxm,hsl2,S⟩
  rw [hsl2.fold]
  by_cases hx:x < gw
  ·have hgl:=qE (o:=fun x=>V.getD (y * gw+x) 0) hx
   have hgr:=qE (o:=vH V gw y) (show x+1 < gw+1 by omega)
   have ex:(x:Int)+1=((x+1:Nat):Int):=by push_cast; rfl
   have hb1:=p8 hB (y * gw) x
   have hb2:=wA hB gw (x:=x+1) (by omega) y
   have hb3:=hB (y * gw+x)
   have hval2:wJ V (y * gw) x+V.getD (y * gw+x) 0+vH V gw y (x+1)=vH V gw (y+1) (x+1):=rfl
   have hrs:wJ V (y * gw) x+V.getD (y * gw+x) 0=wJ V (y * gw) (x+1):=rfl
   generalize vH V gw y (x+1)=pv at *
   generalize wJ V (y * gw) x=rv at *
   generalize V.getD (y * gw+x) 0=vv at *
   refine zt ?_; refine z ?_; refine zx ?_
   refine j3 (j7 q2 rfl rfl (S.rd (i:=1) rfl) hgl) ?_
   (iterate 4 refine z ?_); refine zr ?_; (iterate 8 refine z ?_); refine zx ?_
   refine j3 (j7 q30 rfl rfl (S.rd (i:=4) rfl) hgo) ?_
   refine z ?_; refine zr ?_
   rw [ex]
   refine zx ?_
   refine j3 (j7 q2 rfl rfl ((S.rrd (i:=2) rfl hyk)) hgr) ?_
   refine zr ?_
   refine yF q30 qz2 qv2 rfl rfl rfl rfl rfl rfl S ?_
   intro A_lit w12_ g12_ S sa_lit
   refine qA (i:=1) S rfl (fun h=>rfl) q30 uY rfl rfl rfl rfl (by simp) (by omega) (S.rd (i:=0) rfl) rfl (by omega) ?_
   intro A_nr2 c_nr2 w13_ S sa_nr
   refine z ?_; refine zr ?_; refine z ?_
   refine ze ?_
   have S:=S.drop 1
   rw [jcL hval2] at S
   exact ⟨m2 - 1,by omega,x+1,A_nr2,c_nr2,by omega,⟨rfl,rfl,rfl,rfl,rfl,ie hrs,rfl,rfl,rfl,rfl,ie (by omega),trivial⟩,S⟩
  ·obtain rfl:x=gw:=by omega
   refine zf ?_
   refine zc ?_
   refine jM rfl ?_
   refine zc ?_
   refine jY ?_
   repeat first | refine jP ?_ | refine jU ?_
   show CW _ _ _ _ _ _
   iterate 6 refine z ?_
   refine yF jgQ f5 Tryz.zeroValue30 rfl rfl rfl rfl rfl rfl S ?_
   intro A_lit w15_ g15_ S sa_lit
   refine qA (i:=5) S rfl (fun h=>rfl) jgQ jhz rfl rfl rfl rfl (by simp) (by omega) (S.rd (i:=0) rfl) rfl (by omega) ?_
   intro A_out2 c_out2 w16_ S sa_out
   refine z ?_; refine z ?_
   refine j8 (i:=4) S rfl (Tryz.sizeOf305 _) rfl rfl rfl rfl rfl rfl ?_
   intro w17_ S
   refine zr ?_; refine z ?_
   refine ze ?_
   have S:=S.sub (.cons _ (.cons_cons _ (.cons _ (.cons_cons _ (.cons_cons _ (.cons_cons _ (.slnil)))))))
   have S:=S.rfamPush rfl
   rw [jbO] at S
   exact ⟨m - 1,by omega,y+1,_,_,A_out2,c_out2,by omega,⟨rfl,rfl,rfl,rfl,ie (by omega),trivial⟩,S⟩
 ·obtain rfl:y=gh:=by omega
  refine zf ?_
  refine zc ?_
  refine jM rfl ?_
  refine zc ?_
  refine jY ?_
  repeat first | refine jP ?_ | refine jU ?_
  show CW _ _ _ _ _ _
  iterate 3 refine z ?_
  refine zq ?_
  exact kY rfl rfl ⟨_,_,_,_,_,rfl,S⟩
end
end
section
open Go.RowKit
theorem jeY (l:List RG) (r:RG):u5 (l ++ [r])=u5 l ++ r.cells:=by simp [u5]
theorem jbY {l:List RG} {k:Nat} {r:RG} (h:k < l.length):(u5 l).take (k * 2) ++ r.cells ++ (u5 l).drop (k * 2+2)=u5 (l.set k r):=by
 have:=dK (f:=RG.cells) (m:=2) (fun _=>rfl) (l:=l) (k:=k) (a:=l[k]) (a':=r) (d:=0) (cs:=r.cells) (List.getElem?_eq_getElem h) (by show 0+2<=2; omega) (by simp [RG.cells])
 exact this
def HA.gfam (el sz k:Nat) (As:Nat->Option Addr) (ns cs:Nat->Nat) (xs:Nat->List Value):HA :=
 ⟨fun g=>∃ t,t < k/\kZ (As t) g,fun w=>∀ t,t < k->Row w el sz (As t) (ns t) (cs t) (xs t),fun _ _ h _ hR t ht=>(hR t ht).keep (fun g hg=>h g ⟨t,ht,hg⟩),fun _ hR _ ⟨t,ht,hg⟩=>(hR t ht).lt hg⟩
section
variable {F : Nat → Prop} {W w : World} {L : List HA} {el sz k n c i : Nat} {As : Nat → Option Addr} {ns cs : Nat → Nat} {xs : Nat → List Value} {A : Option Addr} {l : List Value}
theorem St.gfam0 (S:St F W w L) (As:Nat->Option Addr) (ns cs:Nat->Nat) (xs:Nat->List Value):St F W w (.gfam el sz 0 As ns cs xs::L) :=
 S.push (Gr.refl w) (h:=.gfam el sz 0 As ns cs xs) (fun t ht=>by omega) (fun g ⟨t,ht,_⟩=>by omega)
theorem St.gfamPush (S:St F W w (.row el sz A n c l::.gfam el sz k As ns cs xs::L)) (hl:xs k=l) (hn:ns k=n):St F W w (.gfam el sz (k+1) (zG As k A) ns (zG cs k c) xs::L):=by
 have h1:=S.sep.1
 have h2:=S.sep.2.2.1
 have h3:=S.sep.2.2.2
 refine ⟨S.fr,⟨fun t ht=>?_,fun g ⟨t,ht,e⟩=>?_⟩,fun g ⟨t,ht,e⟩ h hh=>?_,h3.2⟩
 ·by_cases e:t=k
  ·subst e; rw [qC,qC,hl,hn]; exact h1.1
  ·rw [yX (by omega),yX (by omega)]; exact h2.1 t (by omega)
 ·by_cases ek:t=k
  ·subst ek; rw [qC] at e; exact h1.2 g e
  ·rw [yX (by omega)] at e; exact h2.2 g ⟨t,by omega,e⟩
 ·by_cases ek:t=k
  ·subst ek; rw [qC] at e; exact S.sep.2.1 g e h (List.mem_cons_of_mem _ hh)
  ·rw [yX (by omega)] at e; exact h3.1 g ⟨t,by omega,e⟩ h hh
end
theorem CS.gfamRd {F:Nat->Prop} {W wq:World} {L:List HA} {i j el' k' n' el sz k t:Nat} {As:Nat->Option Addr} {ns cs:Nat->Nat} {xs:Nat->List Value} {xs' ys' τ:List Value} (hq:CS F W L i el' k' n' xs' ys' wq τ) (hji:j ≠ i) (hj:qP L j=some (.gfam el sz k As ns cs xs)) (ht:t < k):Rd wq (As t) (xs t):=by
 have h:=hq.ok hji hj
 exact Row.rd (h t ht)
def stV (k:Nat) (ac:Nat->Nat) (As:Nat->Option Addr) (ns cs:Nat->Nat):List Value:=(List.range k).flatMap fun j=>[ii (ac j:Nat),.slice (As j) (ns j) (cs j)]
theorem jj2 {k j:Nat} {ac:Nat->Nat} {As:Nat->Option Addr} {ns cs:Nat->Nat} (h:j < k):((stV k ac As ns cs).drop (j * 2)).take 2=[ii (ac j:Nat),.slice (As j) (ns j) (cs j)] :=
 uE (f:=fun j=>[ii (ac j:Nat),.slice (As j) (ns j) (cs j)]) (fun _=>rfl) (List.getElem?_range h)
theorem jbK {k c:Nat} {ac:Nat->Nat} {As:Nat->Option Addr} {ns cs:Nat->Nat} {A:Option Addr}:stV k ac As ns cs ++ [ii (ac k:Nat),.slice A (ns k) c]=stV (k+1) ac (zG As k A) ns (zG cs k c):=by
 unfold stV
 rw [List.range_succ,List.flatMap_append,List.flatMap_singleton,qC,qC]
 congr 1
 rw [List.flatMap_def,List.flatMap_def]
 congr 1
 exact List.map_congr_left fun t ht=>by rw [yX (List.mem_range.1 ht),yX (List.mem_range.1 ht)]
def SparseAt (w:World) (tb gw gh:Nat) (V:List Int):Prop:=∃ Ao co As cs,Blk w tb 310 [ii gw,ii gh,.slice Ao (Nat.log2 (min gw gh)+1) co] /\
 Row w 313 2 Ao (Nat.log2 (min gw gh)+1) co (stV (Nat.log2 (min gw gh)+1) (acK gw) As (fun k=>acK gw k * acK gh k) cs) /\
 ∀ k,k < Nat.log2 (min gw gh)+1->Row w 124 2 (As k) (acK gw k * acK gh k) (cs k) (u5 (fC V gw gh k))
def SpL (tb:Nat) (Ao:Option Addr) (co:Nat) (As:Nat->Option Addr) (cs:Nat->Nat) (gw gh:Nat) (V:List Int):List HA :=
 [.row 313 2 Ao (Nat.log2 (min gw gh)+1) co (stV (Nat.log2 (min gw gh)+1) (acK gw) As (fun k=>acK gw k * acK gh k) cs),
 .gfam 124 2 (Nat.log2 (min gw gh)+1) As (fun k=>acK gw k * acK gh k) cs (fun k=>u5 (fC V gw gh k)),.blk tb 310 [ii gw,ii gh,.slice Ao (Nat.log2 (min gw gh)+1) co]]
theorem SparseAt.gr {w w':World} {tb gw gh:Nat} {V:List Int} (h:SparseAt w tb gw gh V) (g:Gr w w'):SparseAt w' tb gw gh V:=by
 obtain ⟨Ao,co,As,cs,h1,h2,h3⟩:=h
 exact ⟨Ao,co,As,cs,h1.gr g,h2.gr g,fun y hy=>(h3 y hy).gr g⟩
def jcb (V:List Int) (gw k n:Nat):List RG:=(List.range n).map fun i=>sqR V gw k (i % acK gw k) (i / acK gw k)
theorem jfc (V:List Int) {gw k x:Nat} (y:Nat) (hx:x < acK gw k):jcb V gw k (y * acK gw k+x) ++ [sqR V gw k x y]=jcb V gw k (y * acK gw k+x+1):=by
 have h1:=kW (Y:=y) hx
 unfold jcb
 rw [List.range_succ,List.map_append,List.map_singleton,h1.1,h1.2]
section
variable {W : World} {A : Option Addr} {p gw gh cap : Nat} {cc : Nat → Int} {bs : Nat → Nat} {Rs : Nat → Option Nat}
theorem jgu (hG:GridAt W p gw gh cc A cap bs Rs):Fn Tryz.prog 114 [pt p] W
  (fun v w'=>∃ tb Ao co As cs,v=.tuple #[pt tb,ii 0]/\St No W w' (SpL tb Ao co As cs gw gh (yA gw gh cc))):=by
 have hw:=hG.sw
 have hh:=hG.sh
 have hm:1<=gw * gh/\gw * gh<=1024 * 1024:=⟨Nat.mul_le_mul hw.1 hh.1,Nat.mul_le_mul hw.2 hh.2⟩
 have e1:((gw:Int) - 1)=((gw - 1:Nat):Int):=by omega
 have e2:((gh:Int) - 1)=((gh - 1:Nat):Int):=by omega
 have hV:=zE gw gh cc
 have hval:∀ w,Gr W w->Fn Tryz.prog 25 [pt p,.agg #[ii 0,ii 0,ii (gw - 1),ii (gh - 1)]] w (qR (fun v=>.tuple #[v,ii 0]) 2 1 (gw * gh) (yC (yA gw gh cc)) w):=fun w g=>by
  have:=qN (W:=w) 0 0 (gw - 1) (gh - 1) (by omega) (by omega) (hG.gr g)
  rw [<-e1,<-e2,show gw - 1+1 - 0=gw by omega,show gh - 1+1 - 0=gh by omega,gK,Nat.mul_comm gh gw] at this
  exact this
 generalize yA gw gh cc=V at *
 have emin:min (gw:Int) gh=((min gw gh:Nat):Int):=by omega
 obtain ⟨mn,hmn⟩:∃ mn,mn=min gw gh:=⟨_,rfl⟩
 have hmn1:1<=mn/\mn<=1024/\mn<=gw/\mn<=gh:=by omega
 have hK:2 ^ Nat.log2 mn<=mn:=Nat.log2_self_le (by omega)
 have hK10:Nat.log2 mn<=10:=by
  by_cases h:Nat.log2 mn<=10
  ·exact h
  ·have:=Nat.pow_le_pow_right (show 0 < 2 by omega) (show 11<=Nat.log2 mn by omega)
   omega
 unfold SpL
 rw [<-hmn] at emin ⊢
 obtain ⟨K,eK⟩:∃ K,K=Nat.log2 mn:=⟨_,rfl⟩
 rw [<-eK] at hK hK10 ⊢
 have S:=St.start W
 refine zn Tryz.func114 Tryz.results114 Tryz.ntmps114 ?_
 iterate 5 refine z ?_
 refine jC rfl (xH p gw gh _ W (hG.top.gr S.out)) ?_
 rintro _ w1_ ⟨rfl,g1_⟩
 have S:=S.gr g1_
 iterate 7 refine z ?_
 refine jE (jN (pl:=[(0,1),(1,1),(2,1)]) Tryz.underlying310 Tryz.zeroValue310 (fun w=>by kernel_rfl) rfl rfl) ?_
 refine jF (jO rfl) S ?_
 intro b_T w3_ g3_ S
 iterate 3 refine z ?_
 refine jC rfl (fG p gw gh hw.2 hh.2 _ w3_ (hG.top.gr S.out)) ?_
 rintro _ w4_ ⟨rfl,g4_⟩
 have S:=S.gr g4_
 refine jC rfl (hval w4_ S.out) ?_
 rintro _ w5_ ⟨A_vs,c_vs,rfl,hR_vs,hf_vs,g5_⟩
 have S:=S.pushRow hR_vs hf_vs g5_
 iterate 8 refine z ?_
 refine p5 nJ d7 rfl rfl rfl (n:=gw * gh) (c:=gw * gh) (by omega) (by omega) (by omega) (by omega) S ?_
 intro A_c0 w7_ g7_ S sa_c0
 refine jE (jN (pl:=[(0,1),(1,1)]) lF nI (fun w=>by kernel_rfl) rfl rfl) ?_
 refine jF (jL nI rfl) S ?_
 intro b_s0 w9_ g9_ S
 refine jH (i:=0) S rfl (rJ _) rfl rfl rfl rfl rfl rfl ?_
 intro w10_ S
 iterate 3 refine z ?_
 refine zc ?_
 refine jS ?_
 refine zc ?_
 refine j9 (fun m e w=>∃ (k:Nat) (l:List RG),k+m=gw * gh/\l.length=gw * gh/\(∀ i,i < k->l[i]?=some (sqR V gw 0 (i % gw) (i / gw)))/\SL e [(4,ii gw),(5,ii gh),(6,pt b_T),(9,pt b_s0),(42,.slice A_vs (gw * gh) c_vs),(43,ii (gw * gh:Nat)),(44,ii k)] /\
  St No W w [.blk b_s0 313 [ii gw,.slice A_c0 (gw * gh) (gw * gh)],.row 124 2 A_c0 (gw * gh) (gw * gh) (u5 l),.row 2 1 A_vs (gw * gh) c_vs (yC V),.blk b_T 310 [ii gw,ii gh,.slice none 0 0]]) (gw * gh)
  ⟨0,List.replicate (gw * gh) ⟨0,0⟩,by omega,by simp,fun i hi=>by omega,⟨rfl,rfl,rfl,rfl,rfl,rfl,rfl,trivial⟩,by
   have e0:(List.replicate (gw * gh) [ii 0,ii 0]).flatten=u5 (List.replicate (gw * gh) ⟨0,0⟩):=by
    unfold u5
    rw [List.flatMap_def,List.map_replicate]
    rfl
   rw [<-e0]; exact S⟩ ?_
 clear S
 rintro m e w ⟨k,l,hk,hl,hlk,hsl,S⟩
 rw [hsl.fold]
 have sa_vs:0 < gw * gh->yH A_vs:=fun h=>(S.row (i:=2) rfl).someA h
 have sa_vs:=sa_vs (by omega)
 have sa_c0:0 < gw * gh->yH A_c0:=fun h=>(S.row (i:=1) rfl).someA h
 have sa_c0:=sa_c0 (by omega)
 by_cases hkn:k < gw * gh
 ·have hgv:(yC V)[(k:Int).toNat * 1]?=some (ii (V.getD k 0)):=by rw [Nat.mul_one,Int.toNat_natCast]; exact qO (vX (by omega))
  refine zt ?_; refine z ?_; refine zx ?_
  refine j3 (j7 q2 rfl rfl (S.rd (i:=2) rfl) hgv) ?_
  iterate 7 refine z ?_
  refine jE (jN (pl:=[(0,1),(1,1)]) bK wR (fun w=>by kernel_rfl) rfl rfl) ?_
  refine zx ?_
  refine zZ (i:=1) S rfl (vI _) rfl rfl rfl rfl (by rw [jbZ]; omega) rfl rfl ?_
  intro w11_ S
  refine zr ?_; refine z ?_
  refine ze ?_
  refine ⟨m - 1,by omega,k+1,l.set k ⟨V.getD k 0,V.getD k 0⟩,by omega,by simp [hl],fun i hi=>?_,⟨rfl,rfl,rfl,rfl,rfl,rfl,ie (by omega),trivial⟩,?_⟩
  ·by_cases e:i=k
   ·subst e
    rw [List.getElem?_set_self (by omega)]
    unfold sqR
    rw [show i / gw * gw+i % gw=i by rw [Nat.mul_comm]; exact Nat.div_add_mod i gw]
   ·rw [List.getElem?_set_ne (fun h=>e h.symm)]; exact hlk i (by omega)
  ·rw [<-jbY (by omega)]
   exact S
 ·obtain rfl:k=gw * gh:=by omega
  have hac0:acK gw 0=gw/\acK gh 0=gh:=by unfold acK; simp
  have hlev:l=fC V gw gh 0:=by
   apply List.ext_getElem?
   intro i
   by_cases hi:i < gw * gh
   ·rw [hlk i hi]
    unfold fC
    rw [hac0.1,hac0.2,List.getElem?_map,List.getElem?_range hi]
    rfl
   ·rw [List.getElem?_eq_none (by omega),List.getElem?_eq_none (by rw [jcq,hac0.1,hac0.2]; omega)]
  subst hlev
  have S:=S.pushNil 313 2
  refine zf ?_
  refine zc ?_
  refine jM rfl ?_
  refine zc ?_
  refine jY ?_
  repeat first | refine jP ?_ | refine jU ?_
  show CW _ _ _ _ _ _
  refine zc ?_
  refine qQ (C:=(fun σ wq=>CS No W [.row 313 2 none 0 0 [],.blk b_s0 313 [ii gw,.slice A_c0 (gw * gh) (gw * gh)],.row 124 2 A_c0 (gw * gh) (gw * gh) (u5 (fC V gw gh 0)),.row 2 1 A_vs (gw * gh) c_vs (yC V),.blk b_T 310 [ii gw,ii gh,.slice none 0 0]] 0 313 2 0 [] [ii gw,.slice A_c0 (gw * gh) (gw * gh)] wq σ)) [6,7] [0,1,2,3,4,5,6,7] [8,9,10] (by kernel_rfl) (by kernel_rfl) (S.gr (Gr.drew _)) ?_
  simp only [yT,j6,List.drop_succ_cons,List.drop_zero]
  refine jX rfl (jA rfl) ?_
  refine jX rfl (jA rfl) ?_
  refine jX rfl (jA rfl) ?_
  refine jX rfl (jD Tryz.underlying310 rfl Tryz.sizeOf308 rfl rfl) ?_
  refine qF rfl (fun τ wq hq=>jB jc6 rfl rfl (hq.ok (j:=4) (by decide) rfl) rfl) ?_
  refine qF rfl (fun τ wq hq=>jT lF rfl (rJ _) rfl (hq.ok (j:=1) (by decide) rfl) rfl rfl) ?_
  refine jZ rfl rfl (fun wq hq=>zX hq jc6 rJ nI rfl rfl rfl rfl rfl rfl) ?_
  rintro v6 w6 ⟨A6,rfl,_⟩
  refine jZ rfl rfl (fun wq hq=>gF hq rfl (fun h=>⟨_,rfl⟩) jc6 jar rfl rfl rfl rfl rfl rfl (by omega)) ?_
  rintro v7 w7 ⟨A7,c7,L7,rfl,_,_⟩
  refine yV ?_
  rintro w8 ⟨A8_,c8_,L_st,e_st,h_st,S⟩
  cases e_st
  obtain rfl:=Option.some.inj h_st
  refine z ?_; refine z ?_
  refine j8 (i:=4) S rfl (Tryz.sizeOf308 _) rfl rfl rfl rfl rfl rfl ?_
  intro w13_ S
  iterate 3 refine z ?_
  rw [emin]
  refine jC rfl (jj4 mn hmn1.1 hmn1.2.1) ?_
  rintro _ w14_ ⟨rfl,g14_⟩
  have S:=S.gr g14_
  rw [<-eK]
  refine z ?_
  refine zc ?_
  refine jS ?_
  refine zc ?_
  have hac0:acK gw 0 * acK gh 0=gw * gh:=by unfold acK; simp
  have eg:acK gw 0=gw:=by unfold acK; simp
  have S:=S.sub (.cons_cons _ (.cons _ (.cons_cons _ (.cons _ (.cons_cons _ (.slnil))))))
  have S:=(S.gfam0 (el:=124) (sz:=2) (fun _=>none) (fun k=>acK gw k * acK gh k) (fun _=>0) (fun k=>u5 (fC V gw gh k))).perm_ (gX _ _ _ _)
  have S:=(S.gfamPush rfl hac0).swap
  have ep:=jbK (k:=0) (ac:=acK gw) (As:=fun _=>none) (ns:=fun k=>acK gw k * acK gh k) (cs:=fun _=>0) (A:=A_c0) (c:=gw * gh)
  rw [hac0,eg] at ep
  refine j9 (fun m e w=>∃ (k:Nat) (Ast:Option Addr) (cst:Nat) (As:Nat->Option Addr) (cs:Nat->Nat),k+m=K/\SL e [(4,ii gw),(5,ii gh),(6,pt b_T),(70,ii K),(71,ii k)] /\
   St No W w [.row 313 2 Ast (k+1) cst (stV (k+1) (acK gw) As (fun k=>acK gw k * acK gh k) cs),.gfam 124 2 (k+1) As (fun k=>acK gw k * acK gh k) cs (fun k=>u5 (fC V gw gh k)),.blk b_T 310 [ii gw,ii gh,.slice Ast (k+1) cst]]) K
   ⟨0,A7,c7,_,_,by omega,⟨rfl,rfl,rfl,rfl,rfl,trivial⟩,by rw [<-ep]; exact S⟩ ?_
  clear S
  rintro m e w ⟨k,Ast,cst,As,cs,hk,hsl,S⟩
  rw [hsl.fold]
  by_cases hkn:k < K
  ·obtain ⟨hf,ehf⟩:∃ hf,hf=2 ^ k:=⟨_,rfl⟩
   have h2hf:2 * hf<=mn:=by
    have:=Nat.pow_le_pow_right (show 0 < 2 by omega) (show k+1<=K by omega)
    rw [Nat.pow_succ,<-ehf] at this
    omega
   have hhf:1<=hf:=by rw [ehf]; exact Nat.two_pow_pos k
   obtain ⟨ac,eac⟩:∃ ac,ac=acK gw (k+1):=⟨_,rfl⟩
   obtain ⟨dn,edn⟩:∃ dn,dn=acK gh (k+1):=⟨_,rfl⟩
   obtain ⟨aw,eaw⟩:∃ aw,aw=acK gw k:=⟨_,rfl⟩
   have hac:ac+2 * hf=gw+1:=by
    rw [eac]; unfold acK; rw [Nat.pow_succ,<-ehf]; omega
   have hdn:dn+2 * hf=gh+1:=by
    rw [edn]; unfold acK; rw [Nat.pow_succ,<-ehf]; omega
   have haw:aw+hf=gw+1:=by
    rw [eaw]; unfold acK; rw [<-ehf]; omega
   have hah:acK gh k+hf=gh+1:=by
    unfold acK; rw [<-ehf]; omega
   have hm2:ac * dn<=1024 * 1024:=Nat.mul_le_mul (by omega) (by omega)
   have e14:(gw:Int) - 2 * (hf:Int)+1=((ac:Nat):Int):=by omega
   have e15:(gh:Int) - 2 * (hf:Int)+1=((dn:Nat):Int):=by omega
   have e18:(ac:Int) * (dn:Int)=((ac * dn:Nat):Int):=by push_cast; rfl
   have hsh:IntKind.i64.wrap (1 * 2 ^ (min (k:Int).toNat IntKind.i64.bits))=(hf:Int):=by
    have e:(1:Int) * 2 ^ (min (k:Int).toNat IntKind.i64.bits)=((hf:Nat):Int):=by
     rw [Int.one_mul,ehf,show min (k:Int).toNat IntKind.i64.bits=k by unfold IntKind.bits; dsimp only; omega]
     push_cast; rfl
    rw [e]
    exact IntWalk.i64_in _ (by omega)
   refine zt ?_; iterate 3 refine z ?_
   refine jE (jba (c:=(hf:Int)) rfl rfl (by omega) hsh) ?_
   (iterate 3 refine z ?_); iterate 3 refine zr ?_
   rw [e14]
   refine z ?_; refine z ?_; iterate 3 refine zr ?_
   rw [e15]
   iterate 5 refine z ?_
   refine jE (yI rfl (by rw [e18]; omega)) ?_
   rw [e18]
   refine p5 nJ d7 rfl rfl rfl (n:=0) (c:=ac * dn) (by omega) (by omega) (by omega) (by omega) S ?_
   intro A_c1 w16_ g16_ S sa_c1
   refine jE (jN (pl:=[(0,1),(1,1)]) lF nI (fun w=>by kernel_rfl) rfl rfl) ?_
   refine jF (jL nI rfl) S ?_
   intro b_s1 w18_ g18_ S
   refine jH (i:=0) S rfl (rJ _) rfl rfl rfl rfl rfl rfl ?_
   intro w19_ S
   refine z ?_; refine z ?_
   refine zc ?_
   refine jS ?_
   refine zc ?_
   have S:=S.sub (.cons_cons _ (.cons_cons _ (.cons_cons _ (.cons_cons _ (.cons_cons _ (.slnil))))))
   refine j9 (fun m e w=>∃ (y:Nat) (A1:Option Addr) (c1:Nat),y+m=dn/\SL e [(4,ii gw),(5,ii gh),(6,pt b_T),(12,ii k),(13,ii hf),(14,ii ac),(15,ii dn),(16,pt b_s1),(70,ii K),(71,ii k),(92,ii dn),(93,ii y)]/\St No W w [.blk b_s1 313 [ii ac,.slice A1 (y * ac) c1],.row 124 2 A1 (y * ac) c1 (u5 (jcb V gw (k+1) (y * ac))),.row 313 2 Ast (k+1) cst (stV (k+1) (acK gw) As (fun k=>acK gw k * acK gh k) cs),.gfam 124 2 (k+1) As (fun k=>acK gw k * acK gh k) cs (fun k=>u5 (fC V gw gh k)),.blk b_T 310 [ii gw,ii gh,.slice Ast (k+1) cst]]) dn
    ⟨0,A_c1,ac * dn,by omega,⟨rfl,rfl,rfl,rfl,rfl,rfl,rfl,rfl,rfl,rfl,rfl,rfl,trivial⟩,by rw [Nat.zero_mul]; exact S⟩ ?_
   clear S
   rintro m1 e w ⟨y,A1,c1,hy,hsl,S⟩
   rw [hsl.fold]
   by_cases hyn:y < dn
   ·skip
    refine zt ?_; iterate 4 refine z ?_
    refine zc ?_
    refine jS ?_
    refine zc ?_
    refine j9 (fun m e w=>∃ (x:Nat) (A1:Option Addr) (c1:Nat),x+m=ac/\SL e [(4,ii gw),(5,ii gh),(6,pt b_T),(12,ii k),(13,ii hf),(14,ii ac),(15,ii dn),(16,pt b_s1),(70,ii K),(71,ii k),(92,ii dn),(17,ii y),(93,ii y),(96,ii ac),(97,ii x)]/\St No W w [.blk b_s1 313 [ii ac,.slice A1 (y * ac+x) c1],.row 124 2 A1 (y * ac+x) c1 (u5 (jcb V gw (k+1) (y * ac+x))),.row 313 2 Ast (k+1) cst (stV (k+1) (acK gw) As (fun k=>acK gw k * acK gh k) cs),.gfam 124 2 (k+1) As (fun k=>acK gw k * acK gh k) cs (fun k=>u5 (fC V gw gh k)),.blk b_T 310 [ii gw,ii gh,.slice Ast (k+1) cst]]) ac
     ⟨0,A1,c1,by omega,⟨rfl,rfl,rfl,rfl,rfl,rfl,rfl,rfl,rfl,rfl,rfl,rfl,rfl,rfl,rfl,trivial⟩,S⟩ ?_
    clear S
    rintro m2 e w ⟨x,A1,c1,hx,hsl,S⟩
    rw [hsl.fold]
    by_cases hxn:x < ac
    ·have hra:=r8 V (gw:=gw) (gh:=gh) (k:=k) (x:=x) (y:=y) (by rw [<-eaw]; omega) (by omega)
     have hrb:=r8 V (gw:=gw) (gh:=gh) (k:=k) (x:=x+hf) (y:=y) (by rw [<-eaw]; omega) (by omega)
     have hrc:=r8 V (gw:=gw) (gh:=gh) (k:=k) (x:=x) (y:=y+hf) (by rw [<-eaw]; omega) (by omega)
     have hrd:=r8 V (gw:=gw) (gh:=gh) (k:=k) (x:=x+hf) (y:=y+hf) (by rw [<-eaw]; omega) (by omega)
     have hnk:=jcq V gw gh k
     have hst:=jj2 (k:=k+1) (j:=k) (ac:=acK gw) (As:=As) (ns:=fun k=>acK gw k * acK gh k) (cs:=cs) (by omega)
     have hpp:=jfc V (gw:=gw) (k:=k+1) y (x:=x) (by rw [<-eac]; exact hxn)
     rw [<-eac] at hpp
     rw [<-Nat.add_assoc] at hrb hrd
     have hle:y * ac+x+1<=1024 * 1024:=by
      have:=Nat.mul_le_mul_right ac (show y+1<=dn by omega)
      rw [Nat.succ_mul,Nat.mul_comm dn] at this
      omega
     have hsq:uU (uU (sqR V gw k x y) (sqR V gw k (x+hf) y)) (uU (sqR V gw k x (y+hf)) (sqR V gw k (x+hf) (y+hf)))=sqR V gw (k+1) x y:=by rw [ehf]; rfl
     have ey:(y:Int)+(hf:Int)=((y+hf:Nat):Int):=by push_cast; rfl
     generalize sqR V gw k x y=ra at *
     generalize sqR V gw k (x+hf) y=rb at *
     generalize sqR V gw k x (y+hf)=rc at *
     generalize sqR V gw k (x+hf) (y+hf)=rd_ at *
     generalize sqR V gw (k+1) x y=rn at *
     subst eaw
     refine zt ?_; refine z ?_; refine z ?_
     refine zc ?_
     refine qQ (C:=(fun σ wq=>CS No W [.blk b_s1 313 [ii ac,.slice A1 (y * ac+x) c1],.row 124 2 A1 (y * ac+x) c1 (u5 (jcb V gw (k+1) (y * ac+x))),.row 313 2 Ast (k+1) cst (stV (k+1) (acK gw) As (fun k=>acK gw k * acK gh k) cs),.gfam 124 2 (k+1) As (fun k=>acK gw k * acK gh k) cs (fun k=>u5 (fC V gw gh k)),.blk b_T 310 [ii gw,ii gh,.slice Ast (k+1) cst]] 1 124 2 (y * ac+x) (u5 (jcb V gw (k+1) (y * ac+x))) (uU (uU ra rb) (uU rc rd_)).cells wq σ)) [17,18] [0,1,2,3,4,5,6,7,8,9,10,11,12,13,14,15,16,17,18] [19,20] (by kernel_rfl) (by kernel_rfl) (S.gr (Gr.drew _)) ?_
     simp only [yT,j6,List.drop_succ_cons,List.drop_zero]
     refine jX rfl (jD lF rfl Tryz.sizeOf311 rfl rfl) ?_
     refine qF rfl (fun τ wq hq=>jB nJ rfl rfl (hq.ok (j:=0) (by decide) rfl) rfl) ?_
     refine jX rfl (jA rfl) ?_
     refine jX rfl (jA rfl) ?_
     refine jX rfl (jA rfl) ?_
     refine jX rfl (jA rfl) ?_
     refine jX rfl (jA rfl) ?_
     refine vV rfl rfl (fun τ wq hq=>(jbN b_T (k+1) cst k (acK gw k) (acK gw k * acK gh k) (cs k) x y hf 0 Ast (As k) _ _ _ (fC V gw gh k) ra rb wq (hq.ok (j:=4) (by decide) rfl) (Row.rd (hq.ok (j:=2) (by decide) rfl)) (by omega) hst (hq.gfamRd (j:=3) (by decide) rfl (by omega)) hnk (by omega) (by omega) (by omega) (by omega) (by omega) hra hrb).mono (fun _ _ ⟨hv,hg⟩=>⟨hv,hq.gr hg⟩)) ?_
     refine jX rfl (jA rfl) ?_
     refine jX rfl (jA rfl) ?_
     refine jX rfl (jA rfl) ?_
     refine jX rfl (jA rfl) ?_
     refine jX rfl (jA rfl) ?_
     refine jX rfl (yI rfl (by omega)) ?_
     rw [ey]
     refine jX rfl (jA rfl) ?_
     refine vV rfl rfl (fun τ wq hq=>(jbN b_T (k+1) cst k (acK gw k) (acK gw k * acK gh k) (cs k) x (y+hf) hf 0 Ast (As k) _ _ _ (fC V gw gh k) rc rd_ wq (hq.ok (j:=4) (by decide) rfl) (Row.rd (hq.ok (j:=2) (by decide) rfl)) (by omega) hst (hq.gfamRd (j:=3) (by decide) rfl (by omega)) hnk (by omega) (by omega) (by omega) (by omega) (by omega) hrc hrd).mono (fun _ _ ⟨hv,hg⟩=>⟨hv,hq.gr hg⟩)) ?_
     refine vV rfl rfl (fun τ wq hq=>(jd0 (uU ra rb) (uU rc rd_) wq).mono (fun _ _ ⟨hv,hg⟩=>⟨hv,hq.gr hg⟩)) ?_
     refine jZ rfl rfl (fun wq hq=>zX hq nJ vI wR rfl rfl rfl rfl rfl rfl) ?_
     rintro v6 w6 ⟨A6,rfl,_⟩
     refine jZ rfl rfl (fun wq hq=>gF hq rfl (fun h=>⟨_,rfl⟩) nJ d7 rfl rfl rfl rfl rfl rfl (by omega)) ?_
     rintro v7 w7 ⟨A10,c10,L10,rfl,_,_⟩
     refine yV ?_
     rintro w8 ⟨A9_,c9_,L9_,e9_,h9_,S⟩
     cases e9_
     obtain rfl:=Option.some.inj h9_
     refine z ?_
     refine j8 (i:=0) S rfl (Tryz.sizeOf311 _) rfl rfl rfl rfl rfl rfl ?_
     intro w21_ S
     refine zr ?_; refine z ?_
     refine ze ?_
     refine ⟨m2 - 1,by omega,x+1,A10,c10,by omega,⟨rfl,rfl,rfl,rfl,rfl,rfl,rfl,rfl,rfl,rfl,rfl,rfl,rfl,rfl,ie (by omega),trivial⟩,?_⟩
     rw [<-Nat.add_assoc,<-hpp,jeY,<-hsq]
     exact S
    ·have ex:x=ac:=by omega
     rw [ex] at S
     refine zf ?_
     refine zc ?_
     refine jM rfl ?_
     refine zc ?_
     refine jY ?_
     repeat first | refine jP ?_ | refine jU ?_
     show CW _ _ _ _ _ _
     refine zr ?_; refine z ?_
     refine ze ?_
     exact ⟨m1 - 1,by omega,y+1,A1,c1,by omega,⟨rfl,rfl,rfl,rfl,rfl,rfl,rfl,rfl,rfl,rfl,rfl,ie (by omega),trivial⟩,by rw [Nat.succ_mul]; exact S⟩
   ·have ey:y=dn:=by omega
    have en:y * ac=acK gw (k+1) * acK gh (k+1):=by rw [ey,eac,edn,Nat.mul_comm]
    have hlv:jcb V gw (k+1) (y * ac)=fC V gw gh (k+1):=by rw [en]; rfl
    rw [hlv,en] at S
    refine zf ?_
    refine zc ?_
    refine jM rfl ?_
    refine zc ?_
    refine jY ?_
    repeat first | refine jP ?_ | refine jU ?_
    show CW _ _ _ _ _ _
    refine zc ?_
    refine qQ (C:=(fun σ wq=>CS No W [.blk b_s1 313 [ii ac,.slice A1 (acK gw (k+1) * acK gh (k+1)) c1],.row 124 2 A1 (acK gw (k+1) * acK gh (k+1)) c1 (u5 (fC V gw gh (k+1))),.row 313 2 Ast (k+1) cst (stV (k+1) (acK gw) As (fun k=>acK gw k * acK gh k) cs),.gfam 124 2 (k+1) As (fun k=>acK gw k * acK gh k) cs (fun k=>u5 (fC V gw gh k)),.blk b_T 310 [ii gw,ii gh,.slice Ast (k+1) cst]] 2 313 2 (k+1) (stV (k+1) (acK gw) As (fun k=>acK gw k * acK gh k) cs) [ii ac,.slice A1 (acK gw (k+1) * acK gh (k+1)) c1] wq σ)) [6,7] [0,1,2,3,4,5,6,7] [8,9,10] (by kernel_rfl) (by kernel_rfl) (S.gr (Gr.drew _)) ?_
    simp only [yT,j6,List.drop_succ_cons,List.drop_zero]
    refine jX rfl (jA rfl) ?_
    refine jX rfl (jA rfl) ?_
    refine jX rfl (jA rfl) ?_
    refine jX rfl (jD Tryz.underlying310 rfl Tryz.sizeOf308 rfl rfl) ?_
    refine qF rfl (fun τ wq hq=>jB jc6 rfl rfl (hq.ok (j:=4) (by decide) rfl) rfl) ?_
    refine qF rfl (fun τ wq hq=>jT lF rfl (rJ _) rfl (hq.ok (j:=0) (by decide) rfl) rfl rfl) ?_
    refine jZ rfl rfl (fun wq hq=>zX hq jc6 rJ nI rfl rfl rfl rfl rfl rfl) ?_
    rintro v6 w6 ⟨A6,rfl,_⟩
    refine jZ rfl rfl (fun wq hq=>gF hq rfl (fun h=>⟨_,rfl⟩) jc6 jar rfl rfl rfl rfl rfl rfl (by omega)) ?_
    rintro v7 w7 ⟨A10,c10,L10,rfl,_,_⟩
    refine yV ?_
    rintro w8 ⟨A9_,c9_,L9_,e9_,h9_,S⟩
    cases e9_
    obtain rfl:=Option.some.inj h9_
    refine z ?_; refine z ?_
    refine j8 (i:=4) S rfl (Tryz.sizeOf308 _) rfl rfl rfl rfl rfl rfl ?_
    intro w23_ S
    refine zr ?_; refine z ?_
    refine ze ?_
    have S:=S.sub (.cons _ (.cons_cons _ (.cons_cons _ (.cons_cons _ (.cons_cons _ (.slnil))))))
    have ep:=jbK (k:=k+1) (ac:=acK gw) (As:=As) (ns:=fun k=>acK gw k * acK gh k) (cs:=cs) (A:=A1) (c:=c1)
    rw [eac] at S
    exact ⟨m - 1,by omega,k+1,A10,c10,zG As (k+1) A1,zG cs (k+1) c1,by omega,⟨rfl,rfl,rfl,rfl,ie (by omega),trivial⟩,by
     rw [<-ep]
     exact ((S.perm_ ((List.Perm.swap _ _ _).cons _)).gfamPush rfl rfl).swap⟩
  ·have ek:k=K:=by omega
   rw [ek] at S
   refine zf ?_
   refine zc ?_
   refine jM rfl ?_
   refine zc ?_
   refine jY ?_
   repeat first | refine jP ?_ | refine jU ?_
   show CW _ _ _ _ _ _
   iterate 3 refine z ?_
   refine zq ?_
   exact kY rfl rfl ⟨b_T,Ast,cst,As,cs,rfl,S⟩
end
end
section
open Go.RowKit
inductive OT (α:Type) where
 | nil
 | one (i:α) (t:OT α)
 | two (i:α) (t:OT α) (j:α) (u:OT α)
def OT.path:OT Nat->List Nat
 | .nil=>[]
 | .one i t=>i::t.path
 | .two i t _ _=>i::t.path
def OT.allB (p:Nat->Bool):OT Nat->Bool
 | .nil=>true
 | .one i t=>p i && t.allB p
 | .two i t j u=>p i && t.allB p && p j && u.allB p
def OT.fit (ops:Array Oper):OT Nat->OT (Nat × Oper)->Prop
 | .nil,.nil=>True
 | .one i t,.one p u=>p.1=i/\ops[i]?=some p.2/\t.fit ops u
 | .two i t j u,.two p t' q u'=>p.1=i/\ops[i]?=some p.2/\t.fit ops t'/\q.1=j/\ops[j]?=some q.2/\u.fit ops u'
 | _,_=>False
def dA (l:List Oper):OT Nat->OT (Nat × Oper)
 | .nil=>.nil
 | .one i t=>match l.drop i with
  | o::_=>.one (i,o) (dA l t)
  | []=>.nil
 | .two i t j u=>match l.drop i,l.drop j with
  | o::_,o'::_=>.two (i,o) (dA l t) (j,o') (dA l u)
  | _,_=>.nil
theorem dU (l:List Oper):∀ t:OT Nat,t.allB (fun i=>decide (i < l.length))=true->t.fit l.toArray (dA l t)
 | .nil,_=>trivial
 | .one i t,h=>by
  simp only [OT.allB,Bool.and_eq_true,decide_eq_true_eq] at h
  simp only [dA,List.drop_eq_getElem_cons h.1]
  exact ⟨rfl,by simp [h.1],dU l t h.2⟩
 | .two i t j u,h=>by
  simp only [OT.allB,Bool.and_eq_true,decide_eq_true_eq] at h
  simp only [dA,List.drop_eq_getElem_cons h.1.1.1,List.drop_eq_getElem_cons h.1.2]
  exact ⟨rfl,by simp [h.1.1.1],dU l t h.1.1.2,rfl,by simp [h.1.2],dU l u h.2⟩
section
variable {P : Program} {ops : Array Oper} {C : List Value → World → Prop} {sp : Nat → Bool}
def OT.dstB (N:Nat):OT (Nat × Oper)->Bool
 | .nil=>true
 | .one p t=>vE N p.2.dst && t.dstB N
 | .two p t q u=>vE N p.2.dst && t.dstB N && vE N q.2.dst && u.dstB N
theorem pE {N:Nat} {l:List Oper} (hk:(l.all fun o=>vE N o.dst)=true):∀ (t:OT Nat) (lh:OT (Nat × Oper)),t.fit l.toArray lh->lh.dstB N=true
 | .nil,.nil,_=>rfl
 | .one i t,.one p u,h=>by
  simp only [OT.dstB,Bool.and_eq_true]
  exact ⟨List.all_eq_true.1 hk p.2 (List.mem_of_getElem? (by simpa using h.2.1)),pE hk t u h.2.2⟩
 | .two i t j u,.two p t' q u',h=>by
  simp only [OT.dstB,Bool.and_eq_true]
  exact ⟨⟨⟨List.all_eq_true.1 hk p.2 (List.mem_of_getElem? (by simpa using h.2.1)),pE hk t t' h.2.2.1⟩,List.all_eq_true.1 hk q.2 (List.mem_of_getElem? (by simpa using h.2.2.2.2.1))⟩,pE hk u u' h.2.2.2.2.2⟩
 | .nil,.one _ _,h=>h.elim
 | .nil,.two _ _ _ _,h=>h.elim
 | .one _ _,.nil,h=>h.elim
 | .one _ _,.two _ _ _ _,h=>h.elim
 | .two _ _ _ _,.nil,h=>h.elim
 | .two _ _ _ _,.one _ _,h=>h.elim
variable {Qs : List Value → (Nat → Value) → Prop} {σ : List Value} {e : Nat → Value}
end
end
namespace TI
open Go.RowKit
section
variable {P : Program} {ops : Array Oper} {C : List (Nat × Value) → World → Prop} {sp : Nat → Bool}
def sOp (P:Program) (ops:Array Oper) (C:List (Nat × Value)->World->Prop) (sp:Nat->Bool) (i:Nat) (K:List (Nat × Value)->Act->Prop) (σ:List (Nat × Value)) (a:Act):Prop :=
 match ops[i]? with
 | none=>K σ a
 | some o =>
  if Region.wanted o (yielded ops a.tmps) then
   match sp i with
   | true=>(∀ w,C σ w->yZ P o a w fun v w'=>C ((i,v)::σ) w')/\∀ v w',C ((i,v)::σ) w'->K ((i,v)::σ) (a.put o.dst v)
   | false=>∃ v,(∀ τ w,C τ w->yZ P o a w fun u w'=>u=v/\C τ w')/\K σ (a.put o.dst v)
  else K σ (a.put o.dst undef)
theorem fY {i:Nat} {a:Act} {σ:List (Nat × Value)} {K K':List (Nat × Value)->Act->Prop} (h:∀ σ a,K σ a->K' σ a) (hh:sOp P ops C sp i K σ a):sOp P ops C sp i K' σ a:=by
 unfold sOp at *
 split
 ·rename_i ho; rw [ho] at hh; exact h _ _ hh
 ·rename_i o ho
  rw [ho] at hh
  dsimp only at hh
  split
  ·rename_i hw
   rw [if_pos hw] at hh
   cases hs:sp i with
   | true=>rw [hs] at hh; exact ⟨hh.1,fun v w' hv=>h _ _ (hh.2 v w' hv)⟩
   | false=>rw [hs] at hh; exact ⟨hh.choose,hh.choose_spec.1,h _ _ hh.choose_spec.2⟩
  ·rename_i hw; rw [if_neg hw] at hh; exact h _ _ hh
theorem fT {ro:Option Nat} (hnd:(ops.toList.all fun o=>!kX o.op)=true) {i:Nat} {a:Act} {σ:List (Nat × Value)} {w:World} {K:List (Nat × Value)->Act->Prop} {K':Act->World->Prop} {Q':Exit->Act->World->Prop} (hw:C σ w) (h:∀ σ a w',C σ w'->K σ a->K' a w') (hh:sOp P ops C sp i K σ a):wpOpIn (wF ro) 0 P ops Q' i K' a w:=by
 unfold sOp at hh
 unfold wpOpIn
 split
 ·rename_i ho; rw [ho] at hh; exact h _ _ _ hw hh
 ·rename_i o ho
  rw [ho] at hh
  dsimp only at hh
  split
  ·rename_i hwn
   rw [if_pos hwn] at hh
   refine Oper.wpIn_of_wp (fB hnd ho) ?_
   cases hs:sp i with
   | true=>rw [hs] at hh; exact zH (hh.1 w hw) fun v w' hv=>h _ _ _ hv (hh.2 v w' hv)
   | false =>
    rw [hs] at hh
    obtain ⟨v,h1,h2⟩:=hh
    exact zH (h1 σ w hw) fun u w' ⟨hu,hc⟩=>by subst hu; exact h _ _ _ hc h2
  ·rename_i hwn; rw [if_neg hwn] at hh; exact ⟨fun _ _=>trivial,h _ _ _ hw hh⟩
def vJ (P:Program) (ops:Array Oper) (C:List (Nat × Value)->World->Prop) (sp:Nat->Bool) (hd:List Nat) (L:Array Bool->List (Nat × Value)->Act->Prop):Nat->Array Bool->List (Nat × Value)->Act->Prop
 | 0,listed,σ,a=>L listed σ a
 | f+1,listed,σ,a=>Region.ready .any ops listed ≠ []/\∀ i ∈ Region.ready .any ops listed,i ∈ hd/\sOp P ops C sp i (vJ P ops C sp hd L f (listed.setIfInBounds i true)) σ a
theorem kP {ro:Option Nat} (hnd:(ops.toList.all fun o=>!kX o.op)=true) {hd:List Nat} {L:Array Bool->List (Nat × Value)->Act->Prop} {Q':Exit->Act->World->Prop} {g:Nat} (hL:∀ listed σ a w,C σ w->L listed σ a->wpAnyIn (wF ro) 0 P .any ops Q' g listed a w) :
  ∀ (f:Nat) (listed:Array Bool) (σ:List (Nat × Value)) (a:Act) (w:World),C σ w->vJ P ops C sp hd L f listed σ a->wpAnyIn (wF ro) 0 P .any ops Q' (f+g) listed a w
 | 0,listed,σ,a,w,hw,h=>by rw [Nat.zero_add]; exact hL _ _ _ _ hw h
 | f+1,listed,σ,a,w,hw,h=>by
  rw [show f+1+g=(f+g)+1 by omega]
  exact ⟨fun h0=>absurd h0 h.1,fun i hi=>fT hnd hw (fun σ a' w' hw' h'=>kP hnd hL f _ σ a' w' hw' h') (h.2 i hi).2⟩
def YieldsS (P:Program) (ops:Array Oper) (C:List (Nat × Value)->World->Prop) (o:Oper) (v:Value) (a:Act):Prop :=
 (Region.wanted o (yielded ops a.tmps)=true/\∀ τ w,C τ w->yZ P o a w fun u w'=>u=v/\C τ w') \/
 (Region.wanted o (yielded ops a.tmps)=false/\v=undef)
theorem YieldsS.sOp {i:Nat} {o:Oper} {v:Value} {a:Act} {σ:List (Nat × Value)} (hi:ops[i]?=some o) (hs:sp i=false) (hy:YieldsS P ops C o v a) {K:List (Nat × Value)->Act->Prop} (h:K σ (a.put o.dst v)):sOp P ops C sp i K σ a:=by
 unfold Go.Proofs.YtipnifjmhlcehaaGreatDoor.TI.sOp
 rw [hi]
 dsimp only
 rcases hy with ⟨hw,hv⟩ | ⟨hw,rfl⟩
 ·rw [if_pos hw,hs]; exact ⟨v,hv,h⟩
 ·rw [if_neg (by simp [hw])]; exact h
theorem YieldsS.of_same {o:Oper} {v:Value} {a a':Act} (hy:YieldsS P ops C o v a) (he:execOp a'.eval o=execOp a.eval o)
  (hw:Region.wanted o (yielded ops a'.tmps)=Region.wanted o (yielded ops a.tmps)):YieldsS P ops C o v a':=by
 unfold YieldsS yZ at *
 rw [he,hw]
 exact hy
theorem jaP {j:Nat} {oi oj:Oper} {v:Value} {σ:List (Nat × Value)} (hj:ops[j]?=some oj) (hap:oi.apart ops oj=true)
  (hsi:∀ cs b,oi.op ≠ .select cs b) (hsj:∀ cs b,oj.op ≠ .select cs b) {K:List (Nat × Value)->Act->Prop} {a:Act}
  (hy:YieldsS P ops C oi v a) (h:sOp P ops C sp j K σ (a.put oi.dst v)) :
  sOp P ops C sp j (fun σ' a'=>YieldsS P ops C oi v a'/\K σ' (a'.put oi.dst v)) σ a:=by
 obtain ⟨h1,h2,h3⟩:=Oper.apart_spec hap
 have keep:∀ u,YieldsS P ops C oi v (a.put oj.dst u):=fun u=>hy.of_same (execOp_put oi hsi a oj.dst u h3) (wanted_put oi a oj.dst u h3)
 unfold sOp at *
 rw [hj] at h ⊢
 dsimp only at h ⊢
 rw [wanted_put oj a oi.dst v h1] at h
 split
 ·rename_i hw
  rw [if_pos hw] at h
  cases hs:sp j with
  | true =>
   rw [hs] at h
   refine ⟨fun w hC=>?_,fun u w' hC=>⟨keep u,by rw [<-Act.put_comm a v u h2]; exact h.2 u w' hC⟩⟩
   have:=h.1 w hC
   unfold yZ at *
   rwa [execOp_put oj hsj a oi.dst v h1] at this
  | false =>
   rw [hs] at h
   obtain ⟨u,hu,hn⟩:=h
   refine ⟨u,fun τ w hC=>?_,keep u,by rw [<-Act.put_comm a v u h2]; exact hn⟩
   have:=hu τ w hC
   unfold yZ at *
   rwa [execOp_put oj hsj a oi.dst v h1] at this
 ·rename_i hw
  rw [if_neg hw] at h
  exact ⟨keep _,by rw [<-Act.put_comm a v undef h2]; exact h⟩
theorem wU {hd:List Nat} {L:Array Bool->List (Nat × Value)->Act->Prop} {i:Nat} {oi:Oper} {v:Value} (hi:ops[i]?=some oi) (hspi:sp i=false)
  (hsel:∀ (j:Nat) (o:Oper) cs b,ops[j]?=some o->o.op ≠ .select cs b)
  (hhd:∀ (listed:Array Bool),ClosedL ops listed->listed.getD i true=false->∀ j ∈ Region.ready .any ops listed,j ∈ hd)
  (hdone:∀ listed σ a,L listed σ a->∀ j ∈ Region.ready .any ops listed,j ∉ hd) :
  ∀ (f:Nat) (listed:Array Bool) (σ:List (Nat × Value)) (a:Act),ClosedL ops listed ->
   (∀ j oj,ops[j]?=some oj->j ≠ i->listed.getD j true=false->(∀ e ∈ oj.after,Region.binds .any e=true->e.on ≠ i)->oi.apart ops oj=true) ->
   i ∈ Region.ready .any ops listed->YieldsS P ops C oi v a ->
   vJ P ops C sp hd L f (listed.setIfInBounds i true) σ (a.put oi.dst v)->vJ P ops C sp hd L (f+1) listed σ a:=by
 intro f
 induction f with
 | zero =>
  intro listed σ a hcl _ hr hy H
  refine ⟨fun h=>(by rw [h] at hr; cases hr),fun j hj=>?_⟩
  have hjh:=hhd listed hcl (mem_ready.1 hr).1 j hj
  refine ⟨hjh,?_⟩
  by_cases hji:j=i
  ·subst hji; exact hy.sOp hi hspi H
  ·exact absurd hjh (hdone _ _ _ H j (ready_mono hj hji))
 | succ f ih =>
  intro listed σ a hcl hfree hr hy H
  have hun:=(mem_ready.1 hr).1
  refine ⟨fun h=>(by rw [h] at hr; cases hr),fun j hj=>?_⟩
  refine ⟨hhd listed hcl hun j hj,?_⟩
  by_cases hji:j=i
  ·subst hji; exact hy.sOp hi hspi H
  ·have h1:=(H.2 j (ready_mono hj hji)).2
   obtain ⟨hjun,oj,hoj,hall⟩:=mem_ready.1 hj
   have hnot:∀ e ∈ oj.after,Region.binds .any e=true->e.on ≠ i:=fun e he hb heq=>by
    have h2:=hall e he hb
    rw [heq] at h2
    rcases Nat.lt_or_ge i listed.size with h' | h'
    ·simp [h'] at hun h2; rw [hun] at h2; cases h2
    ·simp [Array.getElem?_eq_none h'] at h2
   have h2:=jaP hoj (hfree j oj hoj hji hjun hnot) (fun cs b=>hsel i oi cs b hi) (fun cs b=>hsel j oj cs b hoj) hy h1
   have hfree':∀ k ok,ops[k]?=some ok->k ≠ i->(listed.setIfInBounds j true).getD k true=false ->
     (∀ e ∈ ok.after,Region.binds .any e=true->e.on ≠ i)->oi.apart ops ok=true:=fun k ok hk hki hun' hno=>by
    refine hfree k ok hk hki ?_ hno
    by_cases hjk:j=k
    ·subst hjk; exact hjun
    ·rw [getD_set_ne true hjk] at hun'; exact hun'
   refine fY (fun σ' a' h3=>ih (listed.setIfInBounds j true) σ' a' (hcl.set hj) hfree' (ready_mono hr (Ne.symm hji)) h3.1 ?_) h2
   rw [Array.setIfInBounds_comm _ _ hji]
   exact h3.2
def wp1 (P:Program) (ops:Array Oper) (C:List (Nat × Value)->World->Prop) (sp:Nat->Bool) (i:Nat) (o:Oper) (K:List (Nat × Value)->Act->Prop) (σ:List (Nat × Value)) (a:Act):Prop :=
 if Region.wanted o (yielded ops a.tmps) then
  match sp i with
  | true=>(∀ w,C σ w->yZ P o a w fun v w'=>C ((i,v)::σ) w')/\∀ v w',C ((i,v)::σ) w'->K ((i,v)::σ) (a.put o.dst v)
  | false=>∃ v,(∀ τ w,C τ w->yZ P o a w fun u w'=>u=v/\C τ w')/\K σ (a.put o.dst v)
 else K σ (a.put o.dst undef)
theorem uZ {i:Nat} {o:Oper} {K K':List (Nat × Value)->Act->Prop} {σ:List (Nat × Value)} {a:Act} (h0:ops[i]?=some o) (hK:∀ σ a,K σ a->K' σ a) (h:wp1 P ops C sp i o K σ a):sOp P ops C sp i K' σ a:=by
 refine fY hK ?_
 unfold sOp
 rw [h0]
 exact h
theorem wT {hd tl:List Nat} {Lq:List (Nat × Value)->Act->Prop} (hsel:Region.noSelect ops=true)
  (hcov:∀ i,i < ops.size->i ∈ hd\/i ∈ tl) (hanc:∀ t ∈ tl,∀ i ∈ hd,i ∈ uH ops ops.size t) (hdis:∀ t ∈ tl,t ∉ hd)
  {i:Nat} {o:Oper} {f:Nat} {listed:Array Bool} {σ:List (Nat × Value)} {a:Act} (h0:ops[i]?=some o) (hs:sp i=false) (hin:i ∈ hd) (hcl:ClosedL ops listed) (hr:i ∈ Region.ready .any ops listed) (hf:Region.free .any ops listed i=true)
  {K:List (Nat × Value)->Act->Prop} (hq:wp1 P ops C sp i o K σ a) (rec_:∀ σ a,K σ a->vJ P ops C sp hd (fun listed' σ' a'=>kE ops tl listed'=true/\Lq σ' a') f (listed.setIfInBounds i true) σ a) :
  vJ P ops C sp hd (fun listed' σ' a'=>kE ops tl listed'=true/\Lq σ' a') (f+1) listed σ a:=by
 unfold wp1 at hq
 rw [hs] at hq
 have hy:∃ v,YieldsS P ops C o v a/\K σ (a.put o.dst v):=by
  by_cases hw:Region.wanted o (yielded ops a.tmps)=true
  ·rw [if_pos hw] at hq
   obtain ⟨v,h1,h2⟩:=hq
   exact ⟨v,.inl ⟨hw,h1⟩,h2⟩
  ·rw [if_neg hw] at hq
   exact ⟨undef,.inr ⟨by simpa using hw,rfl⟩,hq⟩
 obtain ⟨v,hy,hK⟩:=hy
 refine wU h0 hs (Region.noSelect_spec hsel) ?_ ?_ f listed σ a hcl (Region.free_spec h0 hf) hr hy (rec_ _ _ hK)
 ·intro listed' hcl' hun j hj
  obtain ⟨_,oj,hoj,_⟩:=mem_ready.1 hj
  have hjs:j < ops.size:=(Array.getElem?_eq_some_iff.1 hoj).1
  rcases hcov j hjs with hh | hh
  ·exact hh
  ·have hl1:=xO hcl' ops.size j (xL hj) i (hanc j hh i hin)
   rcases Nat.lt_or_ge i listed'.size with h' | h'
   ·simp [h'] at hun hl1; rw [hun] at hl1; cases hl1
   ·simp [Array.getElem?_eq_none h'] at hl1
 ·intro listed' σ' a' hL j hj hjh
  have hB:=hL.1
  cases htl:tl with
  | nil=>simp only [htl,kE,List.isEmpty_iff] at hB; rw [hB] at hj; cases hj
  | cons t tl' =>
   simp only [htl,kE,Bool.and_eq_true,decide_eq_true_eq] at hB
   rw [hB.1] at hj
   have:j=t:=by simpa using hj
   subst this
   exact hdis j (by simp [htl]) hjh
theorem xM {hd:List Nat} {L:Array Bool->List (Nat × Value)->Act->Prop} {i:Nat} {o:Oper} {f:Nat} {listed:Array Bool} {σ:List (Nat × Value)} {a:Act} (h0:ops[i]?=some o) (hin:i ∈ hd) (hr:Region.ready .any ops listed=[i])
  {K:List (Nat × Value)->Act->Prop} (hq:wp1 P ops C sp i o K σ a) (rec_:∀ σ a,K σ a->vJ P ops C sp hd L f (listed.setIfInBounds i true) σ a):vJ P ops C sp hd L (f+1) listed σ a:=by
 refine ⟨by rw [hr]; simp,fun j hj=>?_⟩
 rw [hr] at hj
 obtain rfl:j=i:=by simpa using hj
 exact ⟨hin,uZ h0 rec_ hq⟩
def dF (ops:Array Oper) (sp:Nat->Bool) (tl:List Nat):OT Nat->Array Bool->Bool
 | .nil,listed=>kE ops tl listed
 | .one i t,listed=>(match sp i with
  | true=>decide (Region.ready .any ops listed=[i])
  | false=>(Region.ready .any ops listed).contains i && Region.free .any ops listed i) && dF ops sp tl t (listed.setIfInBounds i true)
 | .two i t j u,listed=>decide (Region.ready .any ops listed=[i,j]) && decide (t.path.length=u.path.length) && dF ops sp tl t (listed.setIfInBounds i true) && dF ops sp tl u (listed.setIfInBounds j true)
def ja8 (ops:Array Oper) (sp:Nat->Bool) (t:OT Nat) (tl:List Nat):Bool :=
 Region.noSelect ops && decide (t.path.length+tl.length=ops.size) && ((List.range ops.size).all fun i=>t.path.contains i || tl.contains i) && t.allB (fun i=>t.path.contains i) &&
 (tl.all fun x=>t.path.all fun i=>(uH ops ops.size x).contains i) && (tl.all fun x=>!t.path.contains x) && dF ops sp tl t (Array.replicate ops.size false)
def wpO (P:Program) (ops:Array Oper) (C:List (Nat × Value)->World->Prop) (sp:Nat->Bool) (Lq:List (Nat × Value)->Act->Prop):OT (Nat × Oper)->List (Nat × Value)->Act->Prop
 | .nil,σ,a=>Lq σ a
 | .one p t,σ,a=>wp1 P ops C sp p.1 p.2 (wpO P ops C sp Lq t) σ a
 | .two p t q u,σ,a=>wp1 P ops C sp p.1 p.2 (wpO P ops C sp Lq t) σ a/\wp1 P ops C sp q.1 q.2 (wpO P ops C sp Lq u) σ a
theorem d9 {hd tl:List Nat} {Lq:List (Nat × Value)->Act->Prop} (hsel:Region.noSelect ops=true)
  (hcov:∀ i,i < ops.size->i ∈ hd\/i ∈ tl) (hanc:∀ t ∈ tl,∀ i ∈ hd,i ∈ uH ops ops.size t) (hdis:∀ t ∈ tl,t ∉ hd) :
  ∀ (t:OT Nat) (lh:OT (Nat × Oper)) (listed:Array Bool) (σ:List (Nat × Value)) (a:Act),t.allB (fun i=>hd.contains i)=true->t.fit ops lh->ClosedL ops listed->dF ops sp tl t listed=true ->
   wpO P ops C sp Lq lh σ a->vJ P ops C sp hd (fun listed' σ' a'=>kE ops tl listed'=true/\Lq σ' a') t.path.length listed σ a
 | .nil,lh,listed,σ,a,_,hf,_,hB,hq=>by
  cases lh with
  | nil=>exact ⟨by simpa [dF] using hB,hq⟩
  | one=>exact hf.elim
  | two=>exact hf.elim
 | .one i t,lh,listed,σ,a,hin,hf,hcl,hB,hq=>by
  cases lh with
  | nil=>exact hf.elim
  | two=>exact hf.elim
  | one p u =>
   obtain ⟨i',o⟩:=p
   obtain ⟨hi,h0,hf⟩:=hf
   dsimp only at hi h0
   subst hi
   simp only [OT.allB,Bool.and_eq_true,List.contains_iff_mem] at hin
   simp only [dF,Bool.and_eq_true] at hB
   have rec_:=fun σ a (hk:wpO P ops C sp Lq u σ a) (hr:i' ∈ Region.ready .any ops listed)=>d9 hsel hcov hanc hdis t u _ σ a hin.2 hf (hcl.set hr) hB.2 hk
   cases hs:sp i' with
   | true =>
    rw [hs] at hB
    have hr:Region.ready .any ops listed=[i']:=by simpa using hB.1
    exact xM h0 hin.1 hr hq (fun σ a hk=>rec_ σ a hk (by rw [hr]; simp))
   | false =>
    rw [hs] at hB
    simp only [Bool.and_eq_true] at hB
    have hr:i' ∈ Region.ready .any ops listed:=by simpa using hB.1.1
    exact wT hsel hcov hanc hdis h0 hs hin.1 hcl hr hB.1.2 hq (fun σ a hk=>rec_ σ a hk hr)
 | .two i t j u,lh,listed,σ,a,hin,hf,hcl,hB,hq=>by
  cases lh with
  | nil=>exact hf.elim
  | one=>exact hf.elim
  | two p t' q u' =>
   obtain ⟨i',o⟩:=p
   obtain ⟨j',o'⟩:=q
   obtain ⟨hi,h0,hf,hj,h1,hf'⟩:=hf
   dsimp only at hi h0 hj h1
   subst hi hj
   simp only [OT.allB,Bool.and_eq_true,List.contains_iff_mem] at hin
   simp only [dF,Bool.and_eq_true,decide_eq_true_eq] at hB
   obtain ⟨⟨⟨hr,hlen⟩,hB1⟩,hB2⟩:=hB
   have hi:i' ∈ Region.ready .any ops listed:=by rw [hr]; simp
   have hj:j' ∈ Region.ready .any ops listed:=by rw [hr]; simp
   refine ⟨by rw [hr]; simp,fun k hk=>?_⟩
   rw [hr] at hk
   simp only [List.mem_cons,List.not_mem_nil,or_false] at hk
   refine ⟨hk.elim (fun e=>e ▸ hin.1.1.1) (fun e=>e ▸ hin.1.2),?_⟩
   by_cases hki:k=i'
   ·subst hki
    exact uZ h0 (fun σ a hk=>d9 hsel hcov hanc hdis t t' _ σ a hin.1.1.2 hf (hcl.set hi) hB1 hk) hq.1
   ·obtain rfl:k=j':=hk.elim (fun e=>absurd e hki) id
    refine uZ h1 (fun σ a hk=>?_) hq.2
    have:=d9 hsel hcov hanc hdis u u' _ σ a hin.2 hf' (hcl.set hj) hB2 hk
    rw [<-hlen] at this
    exact this
theorem pK {ro:Option Nat} {id:Nat} {Q:Exit->Act->World->Prop} {a:Act} {w:World} {l:List Oper} (t:OT Nat) (tl:List Nat) (lh:OT (Nat × Oper)) (lt:List Oper) (hnd:(l.all fun o=>!kX o.op)=true) (hm:P.follows .mixedOrders=true)
  (hB:ja8 l.toArray sp t tl=true) (hh:t.fit l.toArray lh) (ht:tl.map (l.toArray[·]?)=lt.map some) (hC:C [] w.drew)
  (h:wpO P l.toArray C sp (fun σ a'=>∀ w',C σ w'->wpListIn (wF ro) 0 P l.toArray Q lt a' w') lh [] a):(Code.region id l.toArray true).wpIn (wF ro) 0 P Q a w:=by
 simp only [ja8,Bool.and_eq_true,decide_eq_true_eq] at hB
 obtain ⟨⟨⟨⟨⟨⟨hsel,hlen⟩,hcov⟩,hall⟩,hanc⟩,hdis⟩,hhd⟩:=hB
 have H:=d9 (P:=P) (C:=C) (sp:=sp) (Lq:=fun σ a'=>∀ w',C σ w'->wpListIn (wF ro) 0 P l.toArray Q lt a' w') (hd:=t.path) (tl:=tl) hsel
  (fun i hi=>by have:=List.all_eq_true.1 hcov i (List.mem_range.2 hi); simpa using this)
  (fun t htl i hi=>by have:=List.all_eq_true.1 (List.all_eq_true.1 hanc t htl) i hi; simpa using this)
  (fun t htl=>by have:=List.all_eq_true.1 hdis t htl; simpa using this)
  t lh (Array.replicate l.toArray.size false) [] a hall hh
  (fun i hi=>by
   have h0:∀ m j:Nat,(Array.replicate m false).getD j false=false:=fun m j=>by
    rcases Nat.lt_or_ge j m with h' | h'
    ·simp [h']
    ·simp [h']
   rw [h0] at hi
   cases hi) hhd h
 refine wpIn_region_any hm ?_
 have:=kP (Q':=Q) (ro:=ro) (by simpa using hnd) (g:=tl.length) (fun listed σ a' w' hw' hL=>k3 tl lt listed a' w' ht hL.1 (hL.2 w' hw')) _ _ _ _ _ hC H
 rw [hlen] at this
 exact this
def R1P (P:Program) (ops:Array Oper) (C:List (Nat × Value)->World->Prop) (sp:Nat->Bool) (i:Nat) (o:Oper) (K:List (Nat × Value)->(Nat->Value)->Prop) (σ:List (Nat × Value)) (e:Nat->Value):Prop :=
 if wE ops e o=true then
  match sp i with
  | true=>(∀ w,C σ w->qM P e o w fun v w'=>C ((i,v)::σ) w')/\∀ v w',C ((i,v)::σ) w'->K ((i,v)::σ) (yU e o.dst v)
  | false=>∃ v,(∀ τ w,C τ w->qM P e o w fun u w'=>u=v/\C τ w')/\K σ (yU e o.dst v)
 else K σ (yU e o.dst undef)
theorem kQ {N:Nat} {df:List Deferred} {i:Nat} {o:Oper} {K:List (Nat × Value)->(Nat->Value)->Prop} {K':List (Nat × Value)->Act->Prop} {σ:List (Nat × Value)} {e:Nat->Value} {a:Act} (hd:vE N o.dst=true) (hr:Rep N df e a)
  (hK:∀ σ e a,Rep N df e a->K σ e->K' σ a) (h:R1P P ops C sp i o K σ e):wp1 P ops C sp i o K' σ a:=by
 unfold wp1
 unfold R1P at h
 rw [hr.wanted]
 have hto:∀ w R,qM P e o w R->yZ P o a w R:=fun w R hh=>by unfold yZ; rw [hr.eval]; exact hh
 split
 ·rename_i hw
  rw [if_pos hw] at h
  cases hs:sp i with
  | true =>
   rw [hs] at h
   exact ⟨fun w hC=>hto _ _ (h.1 w hC),fun v w' hC=>hK _ _ _ (hr.put hd v) (h.2 v w' hC)⟩
  | false =>
   rw [hs] at h
   obtain ⟨v,h1,h2⟩:=h
   exact ⟨v,fun τ w hC=>hto _ _ (h1 τ w hC),hK _ _ _ (hr.put hd v) h2⟩
 ·rename_i hw
  rw [if_neg hw] at h
  exact hK _ _ _ (hr.put hd undef) h
def RS (P:Program) (ops:Array Oper) (C:List (Nat × Value)->World->Prop) (sp:Nat->Bool) (Q:List (Nat × Value)->(Nat->Value)->Prop):List (Nat × Oper)->List (Nat × Value)->(Nat->Value)->Prop
 | [],σ,e=>Q σ e
 | (i,o)::rest,σ,e =>
  if wE ops e o=true then
   match sp i with
   | true=>(∀ w,C σ w->qM P e o w fun v w'=>C ((i,v)::σ) w')/\∀ v w',C ((i,v)::σ) w'->RS P ops C sp Q rest ((i,v)::σ) (yU e o.dst v)
   | false=>∃ v,(∀ τ w,C τ w->qM P e o w fun u w'=>u=v/\C τ w')/\RS P ops C sp Q rest σ (yU e o.dst v)
  else RS P ops C sp Q rest σ (yU e o.dst undef)
def RO (P:Program) (ops:Array Oper) (C:List (Nat × Value)->World->Prop) (sp:Nat->Bool) (Q:List (Nat × Value)->(Nat->Value)->Prop):OT (Nat × Oper)->List (Nat × Value)->(Nat->Value)->Prop
 | .nil,σ,e=>Q σ e
 | .one p t,σ,e=>R1P P ops C sp p.1 p.2 (RO P ops C sp Q t) σ e
 | .two p t q u,σ,e=>R1P P ops C sp p.1 p.2 (RO P ops C sp Q t) σ e/\R1P P ops C sp q.1 q.2 (RO P ops C sp Q u) σ e
theorem dN {N:Nat} {df:List Deferred} {Q:List (Nat × Value)->(Nat->Value)->Prop} {Q':List (Nat × Value)->Act->Prop} (hQ:∀ σ e a,Rep N df e a->Q σ e->Q' σ a) :
  ∀ (t:OT (Nat × Oper)) (σ:List (Nat × Value)) (e:Nat->Value) (a:Act),t.dstB N=true->Rep N df e a->RO P ops C sp Q t σ e->wpO P ops C sp Q' t σ a
 | .nil,σ,e,a,_,hr,h=>hQ σ e a hr h
 | .one p t,σ,e,a,hd,hr,h=>by
  simp only [OT.dstB,Bool.and_eq_true] at hd
  exact kQ hd.1 hr (fun σ e a hr h=>dN hQ t σ e a hd.2 hr h) h
 | .two p t q u,σ,e,a,hd,hr,h=>by
  simp only [OT.dstB,Bool.and_eq_true] at hd
  exact ⟨kQ hd.1.1.1 hr (fun σ e a hr h=>dN hQ t σ e a hd.1.1.2 hr h) h.1,kQ hd.1.2 hr (fun σ e a hr h=>dN hQ u σ e a hd.2 hr h) h.2⟩
theorem jlo {N:Nat} {Q:Exit->(Nat->Value)->World->Prop} {e:Nat->Value} {w:World} {id:Nat} {l:List Oper} (sp:List Nat) (t:OT Nat) (tl:List Nat) (hm:P.follows .mixedOrders=true)
  (hB:(ja8 l.toArray (fun i=>sp.contains i) t tl && (t.allB fun i=>decide (i < l.length)) && (tl.all fun i=>decide (i < l.length)))=true) (hC:C [] w.drew)
  (h:RO P l.toArray C (fun i=>sp.contains i) (fun σ e'=>∀ w',C σ w'->RW P l.toArray (fun e w=>Q .normal e w) (j6 l tl) e' w') (dA l t) [] e):CW P N (.region id l.toArray true) Q e w:=fun hk df a hr ro=>by
 simp only [Bool.and_eq_true] at hB
 simp only [q8,Bool.and_eq_true] at hk
 have hsub:((j6 l tl).all fun o=>vE N o.dst)=true:=by
  have h1:=qJ l tl hB.2
  refine List.all_eq_true.2 fun o ho=>?_
  have h2:some o ∈ (j6 l tl).map some:=List.mem_map.2 ⟨o,ho,rfl⟩
  rw [<-h1] at h2
  obtain ⟨i,_,hi⟩:=List.mem_map.1 h2
  have h3:l[i]?=some o:=by simpa using hi
  exact List.all_eq_true.1 hk.1 o (List.mem_of_getElem? h3)
 have hsubd:∀ is:List Nat,(is.all fun i=>decide (i < l.length))=true->((j6 l is).all fun o=>!kX o.op)=true:=fun is his=>by
  have h1:=qJ l is his
  refine List.all_eq_true.2 fun o ho=>?_
  have h2:some o ∈ (j6 l is).map some:=List.mem_map.2 ⟨o,ho,rfl⟩
  rw [<-h1] at h2
  obtain ⟨i,_,hi⟩:=List.mem_map.1 h2
  have h3:l[i]?=some o:=by simpa using hi
  exact List.all_eq_true.1 hk.2 o (List.mem_of_getElem? h3)
 have hfit:=dU l t hB.1.2
 refine pK (C:=C) t tl _ _ hk.2 hm hB.1.1 hfit (qJ l tl hB.2) hC ?_
 exact dN (fun σ e' a' hr' hq w' hw'=>k4 (fun e a w hr h=>⟨e,hr,h⟩) _ e' a' w' hsub (hsubd tl hB.2) hr' (hq w' hw')) _ [] e a (pE hk.1 t _ hfit) hr h
variable {Qs : List (Nat × Value) → (Nat → Value) → Prop} {σ : List (Nat × Value)} {e : Nat → Value} {i : Nat} {rest : List (Nat × Oper)}
variable {d : Option Tmp} {op : Op} {ty : TypeId} {ps : String} {af : Array Edge}
theorem jdP {o:Oper} (h:wE ops e o=true):RS P ops C sp Qs ((i,o)::rest) σ e=match sp i with
   | true=>(∀ w,C σ w->qM P e o w fun v w'=>C ((i,v)::σ) w')/\∀ v w',C ((i,v)::σ) w'->RS P ops C sp Qs rest ((i,v)::σ) (yU e o.dst v)
   | false=>∃ v,(∀ τ w,C τ w->qM P e o w fun u w'=>u=v/\C τ w')/\RS P ops C sp Qs rest σ (yU e o.dst v):=by rw [RS]; exact if_pos h
theorem yV (h:Qs σ e):RS P ops C sp Qs [] σ e:=h
theorem qF {v:Value} (hs:sp i=false) (h:∀ τ w,C τ w->OpR P e ⟨d,op,ty,ps,af,none⟩ w v) (hr:RS P ops C sp Qs rest σ (yU e d v)):RS P ops C sp Qs ((i,⟨d,op,ty,ps,af,none⟩)::rest) σ e:=by
 rw [jdP rfl,hs]
 refine ⟨v,fun τ w hC=>?_,hr⟩
 have:=h τ w hC
 unfold OpR at this
 unfold qM
 rw [this]
 exact ⟨rfl,hC⟩
theorem jX {v:Value} (hs:sp i=false) (h:OpV P e ⟨d,op,ty,ps,af,none⟩ v) (hr:RS P ops C sp Qs rest σ (yU e d v)):RS P ops C sp Qs ((i,⟨d,op,ty,ps,af,none⟩)::rest) σ e:=qF hs (fun _ w _=>h w) hr
theorem vV {f:FuncId} {args:List Operand} {tys:Array TypeId} {vs:List Value} {v:Value} (hs:sp i=false) (hv:fzl (args.map (ev e))=some vs) (hc:∀ τ w,C τ w->Fn P f vs w (fun v' w'=>v'=v/\C τ w')) (hr:RS P ops C sp Qs rest σ (yU e d v)) :
  RS P ops C sp Qs ((i,⟨d,.call ⟨.value (.func f),args.toArray,tys⟩,ty,ps,af,none⟩)::rest) σ e:=by
 have h0:=vG hv
 rw [jdP rfl,hs]
 refine ⟨v,fun τ w hC=>?_,hr⟩
 have hrun:(execOp (ev e) ⟨d,.call ⟨.value (.func f),args.toArray,tys⟩,ty,ps,af,none⟩).run P w=.ok (.enter f vs.toArray) w:=by
  have h1:ev e (.func f)=.func (.func f) #[] #[]:=rfl
  simp [execOp,resolve,h1,Deferred.ofValue,invoke,h0,y5 (hc τ w hC).1]
 unfold qM
 rw [hrun]
 exact (hc τ w hC).2
theorem jZ {o:Oper} (hs:sp i=true) (hw:wE ops e o=true) (h:∀ w,C σ w->qM P e o w fun v w'=>C ((i,v)::σ) w') (hr:∀ v w',C ((i,v)::σ) w'->RS P ops C sp Qs rest ((i,v)::σ) (yU e o.dst v)):RS P ops C sp Qs ((i,o)::rest) σ e:=by
 rw [jdP hw,hs]
 exact ⟨h,hr⟩
theorem jlw {p:Nat × Oper} {t:OT (Nat × Oper)} (h:RS P ops C sp (fun σ e=>RO P ops C sp Qs t σ e) [p] σ e):RO P ops C sp Qs (.one p t) σ e:=h
theorem jlv {p q:Nat × Oper} {t u:OT (Nat × Oper)} (h1:RS P ops C sp (fun σ e=>RO P ops C sp Qs t σ e) [p] σ e) (h2:RS P ops C sp (fun σ e=>RO P ops C sp Qs u σ e) [q] σ e):RO P ops C sp Qs (.two p t q u) σ e:=⟨h1,h2⟩
theorem jlx (h:Qs σ e):RO P ops C sp Qs .nil σ e:=h
end
end TI
section
open Go.RowKit
def SWC (F:Nat->Prop) (W:World) (L L1:List HA) (p q s:Nat) (vp vq:Value) (σ:List (Nat × Value)) (w:World):Prop :=
 (∀ x ∈ σ,(x.1=p->x.2=vp)/\(x.1=q->x.2=vq))/\(if (σ.any fun x=>Nat.beq x.1 s)=true then St F W w L1 else St F W w L)
section
variable {F : Nat → Prop} {W w w' : World} {L L1 : List HA} {p q s : Nat} {vp vq : Value} {σ : List (Nat × Value)}
theorem SWC.start (S:St F W w L):SWC F W L L1 p q s vp vq [] w:=⟨fun x hx=>(by cases hx),S⟩
theorem SWC.gr (h:SWC F W L L1 p q s vp vq σ w) (g:Gr w w'):SWC F W L L1 p q s vp vq σ w':=by
 refine ⟨h.1,?_⟩
 have:=h.2
 split at this
 ·rename_i e; rw [if_pos e]; exact this.gr g
 ·rename_i e; rw [if_neg e]; exact this.gr g
theorem SWC.st0 (h:SWC F W L L1 p q s vp vq σ w) (hs:(σ.any fun x=>Nat.beq x.1 s)=false):St F W w L:=by
 have:=h.2
 rw [if_neg (by rw [hs]; simp)] at this
 exact this
theorem SWC.st1 (h:SWC F W L L1 p q s vp vq σ w) (hs:(σ.any fun x=>Nat.beq x.1 s)=true):St F W w L1:=by
 have:=h.2
 rw [if_pos hs] at this
 exact this
theorem SWC.first {v:Value} (h:SWC F W L L1 p q s vp vq ((p,v)::σ) w):v=vp:=(h.1 (p,v) List.mem_cons_self).1 rfl
theorem SWC.second {v:Value} (h:SWC F W L L1 p q s vp vq ((q,v)::σ) w):v=vq:=(h.1 (q,v) List.mem_cons_self).2 rfl
theorem SWC.push {k:Nat} {v:Value} (h:SWC F W L L1 p q s vp vq σ w) (h0:(σ.any fun x=>Nat.beq x.1 s)=false) (hk:Nat.beq k s=false) (h1:(k=p->v=vp)/\(k=q->v=vq)):SWC F W L L1 p q s vp vq ((k,v)::σ) w:=by
 refine ⟨fun x hx=>?_,?_⟩
 ·rcases List.mem_cons.1 hx with rfl | hx
  ·exact h1
  ·exact h.1 x hx
 ·rw [if_neg (by rw [List.any_cons,h0,Bool.or_false]; simp only [hk]; simp)]; exact h.st0 h0
theorem SWC.made {v:Value} (h:SWC F W L L1 p q s vp vq σ w) (h1:(s=p->v=vp)/\(s=q->v=vq)) (S:St F W w' L1):SWC F W L L1 p q s vp vq ((s,v)::σ) w':=by
 refine ⟨fun x hx=>?_,?_⟩
 ·rcases List.mem_cons.1 hx with rfl | hx
  ·exact h1
  ·exact h.1 x hx
 ·rw [if_pos (by rw [List.any_cons]; simp)]; exact S
end
section
variable {P : Program} {e : Nat → Value} {d : Option Tmp} {ty : TypeId} {ps : String} {af : Array Edge} {F : Nat → Prop} {W w : World} {L L' : List HA} {R : Value → World → Prop}
theorem jiq {v:Value} {o:Oper} (h:OpR P e o w v) (hR:R v w):qM P e o w R:=by
 unfold OpR at h
 unfold qM
 generalize (execOp (ev e) o).run P w=r at *
 cases r with
 | ok n w'=>cases n <;> simp_all
 | halt x w'=>simp_all
theorem q7 {op:Op} (hc:jdB op=false) (h:RW P #[] (fun e' w'=>R (e' 0) w') [⟨some 0,op,ty,ps,af,none⟩] e w):qM P e ⟨d,op,ty,ps,af,none⟩ w R:=by
 rw [lM rfl] at h
 unfold xQ at h
 unfold qM
 have hx:execOp (ev e) ⟨some 0,op,ty,ps,af,none⟩=execOp (ev e) ⟨d,op,ty,ps,af,none⟩:=by cases op <;> rfl
 rw [hx] at h
 generalize (execOp (ev e) ⟨d,op,ty,ps,af,none⟩).run P w=r at *
 cases r with
 | ok n w' =>
  cases n with
  | round l f tm sg bd=>have h1:jdB op=true:=h.1; rw [hc] at h1; cases h1
  | value v=>exact h
  | skip=>exact h
  | enter f args=>exact h
  | _=>exact h.elim
 | halt x w'=>exact h.elim
theorem pT {i:Nat} {t:TypeId} {x y:Operand} {el k n c j s:Nat} {A:Option Addr} {xs cs:List Value} (S:St F W w L) (hi:qP L i=some (.row el k A n c xs)) (hz:(sizeOf t).run P w=.ok s w) (hx:ev e x=.pointer (at_ A j)) (hy:ev e y=.agg cs.toArray) (hcs:cs.length=s) (hone:(cs.all fun v=>v.oneCell')=true) (hj:j+s<=xs.length)
  (hs:zF L i (.row el k A n c (xs.take j ++ cs ++ xs.drop (j+s)))=some L') (h0:Nat.blt 0 s=true) (hr:∀ w',St F W w' L'->R undef w'):qM P e ⟨d,.store t x y,ty,ps,af,none⟩ w R :=
 q7 rfl (zZ S hi hz hx hy hcs hone hj hs h0 (fun w' S'=>hr w' S'))
end
def Mt (T:Nat->Value->HA->Prop):List (Nat × Value)->List HA->Prop
 | [],[]=>True
 | (k,v)::σ,h::Ps=>T k v h/\Mt T σ Ps
 | _,_=>False
def CM (F:Nat->Prop) (W:World) (L:List HA) (T:Nat->Value->HA->Prop) (σ:List (Nat × Value)) (wq:World):Prop:=∃ Ps,Mt T σ Ps/\St F W wq (Ps ++ L)
section
variable {F : Nat → Prop} {W wq w' : World} {L : List HA} {T : Nat → Value → HA → Prop} {σ : List (Nat × Value)}
theorem CM.start (S:St F W wq L):CM F W L T [] wq:=⟨[],trivial,S⟩
theorem SepL.right {X:Nat->Prop} {w:World}:∀ {Ps L:List HA},SepL X w (Ps ++ L)->SepL X w L
 | [],_,h=>h
 | _::Ps,_,h=>SepL.right (Ps:=Ps) h.2.2
theorem CM.st (h:CM F W L T σ wq):St F W wq L:=by
 obtain ⟨Ps,_,S⟩:=h
 exact ⟨S.fr,S.sep.right⟩
theorem CM.gr (h:CM F W L T σ wq) (g:Gr wq w'):CM F W L T σ w':=by
 obtain ⟨Ps,m,S⟩:=h
 exact ⟨Ps,m,S.gr g⟩
section
variable {P : Program} {e : Nat → Value} {d : Option Tmp} {ty : TypeId} {ps : String} {af : Array Edge}
end
theorem SepL.app {X:Nat->Prop} {w0 w:World}:∀ {P L:List HA},SepL (fun g=>No g\/w0.heap.size<=g) w P->SepL X w L->(∀ h ∈ L,∀ g,h.own g->g < w0.heap.size)->(∀ g,w0.heap.size<=g->X g)->SepL X w (P ++ L)
 | [],_,_,h,_,_=>h
 | a::P,L,hP,hL,hlt,hX=>by
  refine ⟨⟨hP.1.1,fun g hg=>hX g ((hP.1.2 g hg).elim (fun e=>e.elim) id)⟩,fun g hg h hh=>?_,SepL.app hP.2.2 hL hlt hX⟩
  rcases List.mem_append.1 hh with hh | hh
  ·exact hP.2.1 g hg h hh
  ·intro ho
   have h1:=hlt h hh g ho
   have h2:=(hP.1.2 g hg).elim (fun e=>e.elim) id
   omega
theorem SepL.ltL {X:Nat->Prop} {w:World}:∀ {L:List HA},SepL X w L->∀ h ∈ L,∀ g,h.own g->g < w.heap.size
 | a::L,S,h,hh,g,ho=>(List.mem_cons.1 hh).elim (fun e=>by subst e; exact h.lt w S.1.1 g ho) (fun e=>SepL.ltL S.2.2 h e g ho)
theorem St.app {w:World} {Q:List HA} (S:St F W w L) (S':St No w w' Q):St F W w' (Q ++ L):=by
 have g:=S'.out
 have S1:=S.gr g
 exact ⟨S1.fr,SepL.app S'.sep S1.sep (S.sep.ltL) (fun g hg=>.inr (Nat.le_trans S.le hg))⟩
end
end
section
open Go.RowKit
def rgF (n:Nat) (q:Nat->RG):List Value:=(List.range n).flatMap fun i=>(q i).cells
theorem rY (n:Nat) (q:Nat->RG):(rgF n q).length=n * 2:=by
 have:=vK (f:=fun i=>(q i).cells) (m:=2) (fun _=>rfl) (List.range n)
 rw [List.length_range] at this
 exact this
theorem jc1 {n i:Nat} {q:Nat->RG} (h:i < n):((rgF n q).drop ((i:Int).toNat * 2)).take 2=(q i).cells:=by
 rw [Int.toNat_natCast]
 exact uE (f:=fun i=>(q i).cells) (fun _=>rfl) (List.getElem?_range h)
theorem sK {n:Nat} {q q':Nat->RG} (h:∀ i,i < n->q i=q' i):rgF n q=rgF n q':=by
 unfold rgF
 rw [List.flatMap_def,List.flatMap_def]
 congr 1
 exact List.map_congr_left fun i hi=>by rw [h i (List.mem_range.1 hi)]
def jeA (q:Nat->RG) (k:Nat) (r:RG):Nat->RG:=fun i=>if i=k then r else q i
theorem jb0 (n:Nat) (q:Nat->RG):rgF n q=u5 ((List.range n).map q):=by
 unfold rgF u5
 rw [List.flatMap_map]
theorem jd2 {n k:Nat} {q:Nat->RG} {r:RG} (h:k < n):(rgF n q).take ((k:Int).toNat * 2) ++ r.cells ++ (rgF n q).drop ((k:Int).toNat * 2+2)=rgF n (jeA q k r):=by
 rw [Int.toNat_natCast,jb0,jb0,jbY (by simpa using h)]
 congr 1
 apply List.ext_getElem?
 intro i
 rw [List.getElem?_set]
 by_cases hi:i < n
 ·simp only [List.getElem?_map,List.getElem?_range hi,Option.map_some,List.length_map,List.length_range]
  unfold jeA
  by_cases e:k=i
  ·subst e; rw [if_pos rfl,if_pos hi,if_pos rfl]
  ·rw [if_neg e,if_neg (fun e2=>e e2.symm)]
 ·rw [if_neg (show ¬ k=i from fun e=>hi (e ▸ h))]
  simp only [List.getElem?_map]
  rw [List.getElem?_eq_none (by simp; omega)]
  rfl
theorem jgE (n:Nat):(List.replicate n [ii 0,ii 0]).flatten=rgF n (fun _=>⟨0,0⟩):=by
 unfold rgF
 rw [List.flatMap_def,List.map_const',List.length_range]
 rfl
def HA.pfam (el sz k:Nat) (As:Nat->Option Addr) (ns cs:Nat->Nat) (xs:Nat->List Value):HA :=
 ⟨fun g=>∃ t,t < k/\kZ (As t) g,fun w=>(∀ t,t < k->Row w el sz (As t) (ns t) (cs t) (xs t))/\∀ t t' g,t < k->t' < k->kZ (As t) g->kZ (As t') g->t=t',
 fun _ _ h _ hR=>⟨fun t ht=>(hR.1 t ht).keep (fun g hg=>h g ⟨t,ht,hg⟩),hR.2⟩,fun _ hR _ ⟨t,ht,hg⟩=>(hR.1 t ht).lt hg⟩
section
variable {F : Nat → Prop} {W w w' : World} {L L' : List HA} {el sz k n c i : Nat} {As : Nat → Option Addr} {ns cs : Nat → Nat} {xs : Nat → List Value} {A : Option Addr} {l : List Value}
theorem St.pfam0 (S:St F W w L) (As:Nat->Option Addr) (ns cs:Nat->Nat) (xs:Nat->List Value):St F W w (.pfam el sz 0 As ns cs xs::L) :=
 S.push (Gr.refl w) (h:=.pfam el sz 0 As ns cs xs) ⟨fun t ht=>by omega,fun t t' g ht=>by omega⟩ (fun g ⟨t,ht,_⟩=>by omega)
theorem St.prow (S:St F W w L) (hi:qP L i=some (.pfam el sz k As ns cs xs)) {t:Nat} (ht:t < k):Row w el sz (As t) (ns t) (cs t) (xs t):=(S.ok hi).1 t ht
theorem St.pap (S:St F W w L) (hi:qP L i=some (.pfam el sz k As ns cs xs)) {t t':Nat} (ht:t < k) (ht':t' < k) (hne:t ≠ t'):∀ g,kZ (As t) g->¬ kZ (As t') g:=fun g h1 h2=>hne ((S.ok hi).2 t t' g ht ht' h1 h2)
theorem St.pfamPush (S:St F W w (.row el sz A n c l::.pfam el sz k As ns cs xs::L)) (hl:xs k=l) (hn:ns k=n):St F W w (.pfam el sz (k+1) (zG As k A) ns (zG cs k c) xs::L):=by
 have h1:=S.sep.1
 have h0:=S.sep.2.1
 have h2:=S.sep.2.2.1
 have h3:=S.sep.2.2.2
 refine ⟨S.fr,⟨⟨fun t ht=>?_,fun t t' g ht ht' e1 e2=>?_⟩,fun g ⟨t,ht,e⟩=>?_⟩,fun g ⟨t,ht,e⟩ h hh=>?_,h3.2⟩
 ·by_cases e:t=k
  ·subst e; rw [qC,qC,hl,hn]; exact h1.1
  ·rw [yX (by omega),yX (by omega)]; exact h2.1.1 t (by omega)
 ·have hno:∀ t,t < k->kZ A g->kZ (As t) g->False:=fun t ht a b=>h0 g a (.pfam el sz k As ns cs xs) (List.mem_cons_self) ⟨t,ht,b⟩
  by_cases e:t=k
  ·by_cases e':t'=k
   ·rw [e,e']
   ·subst e; rw [qC] at e1; rw [yX (by omega)] at e2; exact (hno t' (by omega) e1 e2).elim
  ·rw [yX (by omega)] at e1
   by_cases e':t'=k
   ·subst e'; rw [qC] at e2; exact (hno t (by omega) e2 e1).elim
   ·rw [yX (by omega)] at e2; exact h2.1.2 t t' g (by omega) (by omega) e1 e2
 ·by_cases ek:t=k
  ·subst ek; rw [qC] at e; exact h1.2 g e
  ·rw [yX (by omega)] at e; exact h2.2 g ⟨t,by omega,e⟩
 ·by_cases ek:t=k
  ·subst ek; rw [qC] at e; exact h0 g e h (List.mem_cons_of_mem _ hh)
  ·rw [yX (by omega)] at e; exact h3.1 g ⟨t,by omega,e⟩ h hh
def fU {α:Type} (xs:Nat->α) (t:Nat) (l:α):Nat->α:=fun i=>if i=t then l else xs i
theorem St.pfamSet (S:St F W w L) (hi:qP L i=some (.pfam el sz k As ns cs xs)) {t:Nat} (ht:t < k) (hF:Fr (kZ (As t)) w w') (hR:Row w' el sz (As t) (ns t) (cs t) l) (hs:zF L i (.pfam el sz k As ns cs (fU xs t l))=some L'):St F W w' L':=by
 refine S.set hi hs hF (fun g hg=>.inl ⟨t,ht,hg⟩) ⟨fun t' ht'=>?_,(S.ok hi).2⟩ (fun g hg=>.inl hg)
 by_cases e:t'=t
 ·subst e; unfold fU; rw [if_pos rfl]; exact hR
 ·unfold fU
  rw [if_neg e]
  exact ((S.ok hi).1 t' ht').keep fun g hg=>hF.block g (((S.ok hi).1 t' ht').lt hg) (fun h=>e ((S.ok hi).2 t' t g ht' ht hg h))
end
def lvV (k gw gh:Nat) (As:Nat->Option Addr) (cs:Nat->Nat):List Value:=(List.range k).flatMap fun j=>[ii (hfN gw j:Nat),ii (hfN gh j:Nat),.slice (As j) (hfN gw j * hfN gh j) (cs j)]
theorem jdy {k j gw gh:Nat} {As:Nat->Option Addr} {cs:Nat->Nat} (h:j < k):((lvV k gw gh As cs).drop ((j:Int).toNat * 3)).take 3=[ii (hfN gw j:Nat),ii (hfN gh j:Nat),.slice (As j) (hfN gw j * hfN gh j) (cs j)]:=by
 rw [Int.toNat_natCast]
 exact uE (f:=fun j=>[ii (hfN gw j:Nat),ii (hfN gh j:Nat),.slice (As j) (hfN gw j * hfN gh j) (cs j)]) (fun _=>rfl) (List.getElem?_range h)
theorem jbg (k gw gh:Nat) (As:Nat->Option Addr) (cs:Nat->Nat):(lvV k gw gh As cs).length=k * 3:=by
 have:=vK (f:=fun j=>[ii (hfN gw j:Nat),ii (hfN gh j:Nat),.slice (As j) (hfN gw j * hfN gh j) (cs j)]) (m:=3) (fun _=>rfl) (List.range k)
 rw [List.length_range] at this
 exact this
theorem jhs {k gw gh c:Nat} {As:Nat->Option Addr} {cs:Nat->Nat} {A:Option Addr}:lvV k gw gh As cs ++ [ii (hfN gw k:Nat),ii (hfN gh k:Nat),.slice A (hfN gw k * hfN gh k) c]=lvV (k+1) gw gh (zG As k A) (zG cs k c):=by
 unfold lvV
 rw [List.range_succ,List.flatMap_append,List.flatMap_singleton,qC,qC]
 congr 1
 rw [List.flatMap_def,List.flatMap_def]
 congr 1
 exact List.map_congr_left fun t ht=>by rw [yX (List.mem_range.1 ht),yX (List.mem_range.1 ht)]
def pmF (gw gh:Nat) (V:List Int) (k i:Nat):RG:=pm gw gh V k (i % hfN gw k) (i / hfN gw k)
def lvX (gw gh:Nat) (V:List Int) (k:Nat):List Value:=rgF (hfN gw k * hfN gh k) (pmF gw gh V k)
def lvN (gw gh k:Nat):Nat:=hfN gw k * hfN gh k
def PyrAt (w:World) (pb gw gh:Nat) (V:List Int):Prop:=∃ lA lc As cs,Blk w pb 269 [.slice lA (nLv gw gh) lc]/\Rd w lA (lvV (nLv gw gh) gw gh As cs)/\∀ k,k < nLv gw gh->Rd w (As k) (lvX gw gh V k)
theorem PyrAt.gr {w w':World} {pb gw gh:Nat} {V:List Int} (h:PyrAt w pb gw gh V) (g:Gr w w'):PyrAt w' pb gw gh V:=by
 obtain ⟨lA,lc,As,cs,h1,h2,h3⟩:=h
 exact ⟨lA,lc,As,cs,h1.gr g,h2.gr g,fun k hk=>(h3 k hk).gr g⟩
theorem jks {gw gh k x y:Nat} (hx:x < hfN gw k) (hy:y < hfN gh k):y * hfN gw k+x < hfN gw k * hfN gh k:=by
 have:=Nat.mul_le_mul_left (hfN gw k) (show y+1<=hfN gh k by omega)
 rw [Nat.mul_add,Nat.mul_one,Nat.mul_comm (hfN gw k) y] at this
 omega
theorem jeg {gw gh:Nat} (k:Nat) (hw:1<=gw/\gw<=1024) (hh:1<=gh/\gh<=1024):hfN gw k * hfN gh k<=1024 * 1024:=Nat.mul_le_mul (Nat.le_trans (fF k hw.1) hw.2) (Nat.le_trans (fF k hh.1) hh.2)
theorem jg1 {gw gh k x y:Nat} {V:List Int} (hx:x < hfN gw k):pmF gw gh V k (y * hfN gw k+x)=pm gw gh V k x y:=by
 unfold pmF
 rw [Nat.mul_comm,Nat.mul_add_mod,Nat.mod_eq_of_lt hx,Nat.mul_add_div (by omega),Nat.div_eq_of_lt hx,Nat.add_zero]
section
variable {W : World} {pb gw gh : Nat} {V : List Int}
theorem jgS (a b:RG):Fn Tryz.prog 371 [.agg a.cells.toArray,.agg b.cells.toArray] W (yK (.agg (uU a b).cells.toArray) W):=by
 unfold RG.cells
 have S:=St.start W
 refine zn Tryz.func371 Tryz.results371 Tryz.ntmps371 ?_
 refine zs ?_
 refine jF (jO rfl) S ?_
 intro b_x w2_ g2_ S
 refine jF (jO rfl) S ?_
 intro b_y w4_ g4_ S
 refine jF (jL wR rfl) S ?_
 intro b_o w6_ g6_ S
 iterate 10 refine z ?_
 refine jE (jN (pl:=[(0,1),(1,1)]) bK wR (fun w=>by kernel_rfl) rfl rfl) ?_
 refine jH (i:=0) S rfl (vI _) rfl rfl rfl rfl rfl rfl ?_
 intro w7_ S
 refine zq ?_
 exact v8 bK rfl (vI _) rfl (S.blk (i:=0) rfl) rfl rfl ⟨rfl,S.out⟩
theorem jc9 (hP:PyrAt W pb gw gh V):Fn Tryz.prog 76 [pt pb] W (yK (ii (nLv gw gh)) W):=by
 obtain ⟨lA,lc,As,cs,h1,h2,h3⟩:=hP
 have S:=St.start W
 refine zn Tryz.func76 Tryz.results76 Tryz.ntmps76 ?_
 iterate 6 refine z ?_
 refine j3 (jB nL rfl rfl (h1.gr S.out) rfl) ?_
 refine z ?_; refine z ?_
 refine zq ?_
 exact yD rfl ⟨rfl,S.out⟩
theorem jb5 (hw:1<=gw/\gw<=1024) (hh:1<=gh/\gh<=1024) (hP:PyrAt W pb gw gh V):Fn Tryz.prog 137 [pt pb] W (yK (.tuple #[ii gw,ii gh]) W):=by
 obtain ⟨lA,lc,As,cs,h1,h2,h3⟩:=hP
 have hl:=xR hw.2 hh.2
 have sa_lv:yH lA:=h2.someA (by rw [jbg]; omega)
 have h0:=jdy (gw:=gw) (gh:=gh) (As:=As) (cs:=cs) (show 0 < nLv gw gh by omega)
 rw [qG hw.1,qG hh.1] at h0
 have g0:(lvV (nLv gw gh) gw gh As cs)[(0:Int).toNat * 3+0]?=some (ii gw):=by
  have:=congrArg (·[0]?) h0
  simp only [List.getElem?_take,List.getElem?_drop] at this
  simpa using this
 have g1:(lvV (nLv gw gh) gw gh As cs)[(0:Int).toNat * 3+1]?=some (ii gh):=by
  have:=congrArg (·[1]?) h0
  simp only [List.getElem?_take,List.getElem?_drop] at this
  simpa using this
 have S:=St.start W
 refine zn Tryz.func137 Tryz.results137 Tryz.ntmps137 ?_
 iterate 4 refine z ?_
 refine zc ?_
 refine jM rfl ?_
 refine zc ?_
 refine j5 ?_
 try show CW _ _ _ _ _ _
 refine zc ?_
 refine yB (C:=fun wq=>Gr W wq) [0,1,2,3,4,5,6,7,8,9,10,11,12,13,14,15] [] (by kernel_rfl) (by kernel_rfl) (Gr.drew _) ?_
 simp only [j6,List.drop_succ_cons,List.drop_zero]
 iterate 3 refine y ?_
 refine jV (fun wq hq=>jB nL rfl rfl (h1.gr (S.gr hq).out) rfl) ?_
 refine yx ?_; refine y ?_
 refine jV (fun wq hq=>j7 q2 rfl rfl (h2.gr (S.gr hq).out) g0) ?_
 iterate 3 refine y ?_
 refine jV (fun wq hq=>jB nL rfl rfl (h1.gr (S.gr hq).out) rfl) ?_
 refine yx ?_; refine y ?_
 refine jV (fun wq hq=>j7 q2 rfl rfl (h2.gr (S.gr hq).out) g1) ?_
 refine y ?_; refine y ?_
 refine yJ ?_
 intro w1_ g1_
 have S:=S.gr g1_
 refine zq ?_
 exact kY rfl rfl ⟨rfl,S.out⟩
theorem jkf (k x y:Nat) (hw:1<=gw/\gw<=1024) (hh:1<=gh/\gh<=1024) (hk:k < nLv gw gh) (hx:x < hfN gw k) (hy:y < hfN gh k) (hP:PyrAt W pb gw gh V) :
  Fn Tryz.prog 142 [pt pb,ii k,.agg #[ii x,ii y]] W (yK (.tuple #[.agg (pm gw gh V k x y).cells.toArray,ii 0]) W):=by
 obtain ⟨lA,lc,As,cs,h1,h2,h3⟩:=hP
 have hl:=xR hw.2 hh.2
 have hsz:=jeg k hw hh
 have hix:=jks hx hy
 have hxl:=fF k hw.1
 have hyl:=fF k hh.1
 have h3k:=h3 k hk
 have sa_lv:yH lA:=h2.someA (by rw [jbg]; omega)
 have sa_ce:yH (As k):=h3k.someA (by unfold lvX; rw [rY]; omega)
 have h0:=jdy (gw:=gw) (gh:=gh) (As:=As) (cs:=cs) hk
 have e1:(y:Int) * (hfN gw k:Nat)=((y * hfN gw k:Nat):Int):=by push_cast; rfl
 have e2:((y * hfN gw k:Nat):Int)+(x:Nat)=((y * hfN gw k+x:Nat):Int):=rfl
 have hce:=jc1 (q:=pmF gw gh V k) hix
 rw [jg1 hx] at hce
 have hb:y * hfN gw k<=1024 * 1024:=by omega
 have S:=St.start W
 refine zn Tryz.func142 Tryz.results142 Tryz.ntmps142 ?_
 refine zs ?_
 refine jF (jO rfl) S ?_
 intro b_c w2_ g2_ S
 refine jF (jL wR rfl) S ?_
 intro b_r w4_ g4_ S
 (iterate 5 refine z ?_); refine zf ?_; iterate 5 refine z ?_
 first | refine jK rfl ?_ | (refine jQ rfl ?_; refine j3 (jB nL rfl rfl (h1.gr S.out) rfl) ?_)
 refine z ?_; refine zf ?_; iterate 5 refine z ?_
 refine j3 (jB nL rfl rfl (h1.gr S.out) rfl) ?_
 refine z ?_; refine zx ?_
 refine j3 (yY jc5 rfl (nE _) rfl (h2.gr S.out) h0 rfl rfl) ?_
 refine jF (jL Tryz.zeroValue354 rfl) S ?_
 intro b_l w6_ g6_ S
 refine jH (i:=0) S rfl (nE _) rfl rfl rfl rfl rfl rfl ?_
 intro w7_ S
 refine z ?_; refine z ?_; refine zf ?_; (iterate 5 refine z ?_); refine zf ?_; (iterate 4 refine z ?_); refine zf ?_; (iterate 6 refine z ?_); refine zf ?_; iterate 7 refine z ?_
 refine jE (yI rfl (by rw [e1]; omega)) ?_
 rw [e1]
 refine z ?_; refine z ?_
 refine jE (yI rfl (by rw [e2]; omega)) ?_
 rw [e2]
 refine zx ?_
 refine j3 (yY bK rfl (vI _) rfl (h3k.gr S.out) hce rfl rfl) ?_
 refine jH (i:=1) S rfl (vI _) rfl rfl rfl rfl rfl rfl ?_
 intro w8_ S
 refine z ?_
 refine zq ?_
 exact wQ bK rfl (vI _) rfl (S.blk (i:=1) rfl) rfl rfl rfl ⟨rfl,S.out⟩
end
end
end Go.Proofs.YtipnifjmhlcehaaGreatDoor
