/- hachuretop.WholeFlat: a part of the proof that the law returns true at every input (SortL, SortR, SortI, SinkA, SinkB, StoreF, StoreH, StoreI, StoreJ, StoreG, StoreK, StoreM); no condition of its own. -/
import Derived.Test.YtipnifjmhlcehaaGreatDoorKA
import Derived.Test.YtipnifjmhlcehaaGreatDoorKC
import Derived.Test.YtipnifjmhlcehaaGreatDoorKD
import Derived.Test.YtipnifjmhlcehaaGreatDoorKF
import Derived.Test.YtipnifjmhlcehaaGreatDoorKH
import Derived.Test.YtipnifjmhlcehaaGreatDoorKL
import Derived.Test.YtipnifjmhlcehaaGreatDoorKJ
import Derived.Test.YtipnifjmhlcehaaGreatDoorKE
set_option linter.unusedVariables false
set_option linter.unusedSimpArgs false
set_option maxRecDepth 100000
set_option maxHeartbeats 16000000
namespace Go.Proofs.YtipnifjmhlcehaaGreatDoor
section
section
variable {α : Type} {o o' : Nat → α} {R : α → α → Bool} {a b i j k n : Nat}
def swp (o:Nat->α) (i j:Nat):Nat->α:=fun k=>if k=i then o j else if k=j then o i else o k
theorem jbJ:swp o i j i=o j:=if_pos rfl
theorem jgl:swp o i j j=o i:=by
 unfold swp
 by_cases h:j=i
 ·rw [if_pos h,h]
 ·rw [if_neg h,if_pos rfl]
theorem fW (h1:k ≠ i) (h2:k ≠ j):swp o i j k=o k:=by unfold swp; rw [if_neg h1,if_neg h2]
inductive PS (a b:Nat) (o:Nat->α):(Nat->α)->Prop
 | refl:PS a b o o
 | swap {o':Nat->α} (i j:Nat) (hi:a<=i/\i < b) (hj:a<=j/\j < b) (h:PS a b o o'):PS a b o (swp o' i j)
theorem PS.trans {o2:Nat->α} (h:PS a b o o') (h':PS a b o' o2):PS a b o o2:=by
 induction h' with
 | refl=>exact h
 | swap i j hi hj _ ih=>exact .swap i j hi hj ih
theorem PS.wide {a' b':Nat} (h:PS a b o o') (ha:a'<=a) (hb:b<=b'):PS a' b' o o':=by
 induction h with
 | refl=>exact .refl
 | swap i j hi hj _ ih=>exact .swap i j ⟨by omega,by omega⟩ ⟨by omega,by omega⟩ ih
theorem PS.out (h:PS a b o o') (hk:k < a\/b<=k):o' k=o k:=by
 induction h with
 | refl=>rfl
 | swap i j hi hj _ ih=>rw [fW (by omega) (by omega),ih]
theorem PS.img (h:PS a b o o'):∀ {k:Nat},a<=k->k < b->∃ x,a<=x/\x < b/\o' k=o x:=by
 induction h with
 | refl=>exact fun h1 h2=>⟨_,h1,h2,rfl⟩
 | @swap o' i j hi hj _ ih =>
  intro k h1 h2
  by_cases e1:k=i
  ·subst e1; rw [jbJ]; exact ih hj.1 hj.2
  ·by_cases e2:k=j
   ·subst e2; rw [jgl]; exact ih hi.1 hi.2
   ·rw [fW e1 e2]; exact ih h1 h2
theorem PS.pre (h:PS a b o o'):∀ {k:Nat},a<=k->k < b->∃ x,a<=x/\x < b/\o' x=o k:=by
 induction h with
 | refl=>exact fun h1 h2=>⟨_,h1,h2,rfl⟩
 | @swap o' i j hi hj _ ih =>
  intro k h1 h2
  obtain ⟨x,hx1,hx2,hx⟩:=ih h1 h2
  by_cases e1:x=i
  ·exact ⟨j,hj.1,hj.2,by rw [jgl,<-e1]; exact hx⟩
  ·by_cases e2:x=j
   ·exact ⟨i,hi.1,hi.2,by rw [jbJ,<-e2]; exact hx⟩
   ·exact ⟨x,hx1,hx2,by rw [fW e1 e2]; exact hx⟩
structure Wk (R:α->α->Bool):Prop where
 asym:∀ x y,R x y=true->R y x=false
 trans:∀ x y z,R y x=false->R z y=false->R z x=false
theorem Wk.refl (h:Wk R) (x:α):R x x=false:=by
 cases hx:R x x with
 | false=>rfl
 | true=>have:=h.asym x x hx; rw [hx] at this; cases this
def SO (R:α->α->Bool) (o:Nat->α) (a b:Nat):Prop:=∀ x y,a<=x->x < y->y < b->R (o y) (o x)=false
theorem SO.le (hw:Wk R) (h:SO R o a b) {x y:Nat} (h1:a<=x) (h2:x<=y) (h3:y < b):R (o y) (o x)=false:=by
 by_cases e:x=y
 ·subst e; exact hw.refl _
 ·exact h x y h1 (by omega) h3
theorem SO.sub {a' b':Nat} (h:SO R o a b) (ha:a<=a') (hb:b'<=b):SO R o a' b':=fun x y h1 h2 h3=>h x y (by omega) h2 (by omega)
theorem SO.congr (h:SO R o a b) (he:∀ k,a<=k->k < b->o' k=o k):SO R o' a b:=fun x y h1 h2 h3=>by
 rw [he x h1 (by omega),he y (by omega) h3]; exact h x y h1 h2 h3
theorem SO.one (h:b<=a+1):SO R o a b:=fun x y h1 h2 h3=>by omega
theorem SO.join {m:Nat} (hw:Wk R) (h1:SO R o a m) (h2:SO R o m b) (h:a < m->m < b->R (o m) (o (m - 1))=false):SO R o a b:=fun x y hx hxy hy=>by
 by_cases e1:y < m
 ·exact h1 x y hx hxy e1
 ·by_cases e2:m<=x
  ·exact h2 x y e2 hxy hy
  ·exact hw.trans _ _ _ (hw.trans _ _ _ (h1.le hw hx (show x<=m - 1 by omega) (by omega)) (h (by omega) (by omega))) (h2.le hw (Nat.le_refl m) (by omega) hy)
structure INS (R:α->α->Bool) (o:Nat->α) (a i j:Nat):Prop where
 rest:∀ x y,a<=x->x < y->y<=i->x ≠ j->y ≠ j->R (o y) (o x)=false
 behind:∀ y,j < y->y<=i->R (o y) (o j)=false
theorem INS.init (h:SO R o a i):INS R o a i i:=⟨fun x y h1 h2 h3 h4 h5=>h x y h1 h2 (by omega),fun y h1 h2=>by omega⟩
theorem INS.step (hw:Wk R) (h:INS R o a i j) (hj:a < j) (hji:j<=i) (hl:R (o j) (o (j - 1))=true):INS R (swp o j (j - 1)) a i (j - 1):=by
 refine ⟨fun x y h1 h2 h3 h4 h5=>?_,fun y h1 h2=>?_⟩
 ·by_cases e1:y=j
  ·subst e1
   rw [jbJ,fW (by omega) h4]
   exact h.rest x (y - 1) h1 (by omega) (by omega) (by omega) (by omega)
  ·by_cases e2:x=j
   ·subst e2
    rw [jbJ,fW e1 h5]
    exact h.rest (x - 1) y (by omega) (by omega) h3 (by omega) e1
   ·rw [fW e1 h5,fW e2 h4]
    exact h.rest x y h1 h2 h3 e2 e1
 ·rw [jgl]
  by_cases e1:y=j
  ·subst e1; rw [jbJ]; exact hw.asym _ _ hl
  ·rw [fW e1 (by omega)]; exact h.behind y (by omega) h2
theorem INS.done (hw:Wk R) (h:INS R o a i j) (hji:j<=i) (hl:a < j->R (o j) (o (j - 1))=false):SO R o a (i+1):=fun x y h1 h2 h3=>by
 by_cases e1:y=j
 ·subst e1
  by_cases e2:x=y - 1
  ·rw [e2]; exact hl (by omega)
  ·exact hw.trans _ _ _ (h.rest x (y - 1) h1 (by omega) (by omega) (by omega) (by omega)) (hl (by omega))
 ·by_cases e2:x=j
  ·subst e2; exact h.behind y h2 (by omega)
  ·exact h.rest x y h1 h2 (by omega) e2 e1
theorem PS.halves {mid:Nat} {o1 o2:Nat->α} (h:∀ x y,a<=x->x < mid->mid<=y->y < b->R (o y) (o x)=false) (hm:a<=mid/\mid<=b) (p1:PS a mid o o1) (p2:PS mid b o1 o2) (s1:SO R o1 a mid) (s2:SO R o2 mid b):SO R o2 a b:=fun x y hx hxy hy=>by
 by_cases c1:y < mid
 ·have e1:=p2.out (k:=x) (.inl (by omega))
  have e2:=p2.out (k:=y) (.inl c1)
  rw [e1,e2]; exact s1 x y hx hxy c1
 ·by_cases c2:mid<=x
  ·exact s2 x y c2 hxy hy
  ·obtain ⟨u,hu1,hu2,hu⟩:=p1.img hx (show x < mid by omega)
   obtain ⟨v,hv1,hv2,hv⟩:=p2.img (show mid<=y by omega) hy
   have e1:=p2.out (k:=x) (.inl (by omega))
   have e2:=p1.out (k:=v) (.inr hv1)
   rw [e1,hu,hv,e2]
   exact h u v hu1 hu2 hv1 hv2
end
end
section
section
variable {α : Type} {o o' o0 : Nat → α} {R R' : α → α → Bool} {a b m i j k n t B : Nat}
theorem SO.high (hw:Wk R) (h:SO R o a b) {x y:Nat} {z:α} (h1:a<=x) (h2:x<=y) (h3:y < b) (hx:R (o x) z=false):R (o y) z=false :=
 hw.trans _ _ _ hx (h.le hw h1 h2 h3)
theorem SO.low (hw:Wk R) (h:SO R o a b) {x y:Nat} {z:α} (h1:a<=x) (h2:x<=y) (h3:y < b) (hy:R (o y) z=true):R (o x) z=true:=by
 cases hx:R (o x) z with
 | true=>rfl
 | false=>rw [h.high hw h1 h2 h3 hx] at hy; cases hy
theorem SO.over (hw:Wk R) (h:SO R o a b) {x y:Nat} {z:α} (h1:a<=x) (h2:x<=y) (h3:y < b) (hy:R z (o y)=false):R z (o x)=false :=
 hw.trans _ _ _ (h.le hw h1 h2 h3) hy
theorem SO.under (hw:Wk R) (h:SO R o a b) {x y:Nat} {z:α} (h1:a<=x) (h2:x<=y) (h3:y < b) (hx:R z (o x)=true):R z (o y)=true:=by
 cases hy:R z (o y) with
 | true=>rfl
 | false=>rw [h.over hw h1 h2 h3 hy] at hx; cases hx
def XC (R R':α->α->Bool) (o:Nat->α) (a m b:Nat):Prop:=∀ x y,a<=x->x < m->m<=y->y < b->R (o y) (o x)=R' (o y) (o x)
theorem XC.ps {c d:Nat} (h:XC R R' o a m b) (hp:PS c d o o') (hd:b<=c\/d<=a):XC R R' o' a m b:=fun x y h1 h2 h3 h4=>by
 rw [hp.out (k:=x) (by omega),hp.out (k:=y) (by omega)]; exact h x y h1 h2 h3 h4
theorem SO.ps {c d:Nat} (h:SO R o a b) (hp:PS c d o o') (hd:b<=c\/d<=a):SO R o' a b:=h.congr fun k h1 h2=>hp.out (by omega)
end
section
variable {o o' : Nat → Nat} {R R' : Nat → Nat → Bool} {a b m i j k n t B : Nat}
structure SPL (o:Nat->Nat) (t:Nat):Prop where
 lo:∀ x,x < t->o x < t
 hi:∀ y,t<=y->t<=o y
theorem SPL.id_ (t:Nat):SPL (fun i=>i) t:=⟨fun x h=>h,fun y h=>h⟩
theorem SPL.ps (h:SPL o t) (hp:PS a b o o') (ht:t<=a\/b<=t):SPL o' t:=by
 refine ⟨fun x hx=>?_,fun y hy=>?_⟩
 ·by_cases hin:a<=x/\x < b
  ·obtain ⟨z,hz1,hz2,hz⟩:=hp.img hin.1 hin.2
   rw [hz]; exact h.lo z (by omega)
  ·rw [hp.out (by omega)]; exact h.lo x hx
 ·by_cases hin:a<=y/\y < b
  ·obtain ⟨z,hz1,hz2,hz⟩:=hp.img hin.1 hin.2
   rw [hz]; exact h.hi z (by omega)
  ·rw [hp.out (by omega)]; exact h.hi y hy
def XA (R R':Nat->Nat->Bool) (n:Nat):Prop:=∀ x y,x < y->y < n->R y x=R' y x
theorem XA.xc (h:XA R R' n) (hs:SPL o m) (hn:SPL o n) (hb:b<=n):XC R R' o a m b:=fun x y h1 h2 h3 h4=>by
 have e1:=hs.lo x h2
 have e2:=hs.hi y h3
 have e3:=hn.lo y (by omega)
 exact h _ _ (by omega) e3
structure BLK (R':Nat->Nat->Bool) (n B:Nat) (o:Nat->Nat) (q:Nat):Prop where
 ps:PS 0 n (fun i=>i) o
 big:∀ p,SPL o (p * (2 * B))
 small:∀ p,2 * q<=p->SPL o (p * B)
 done:∀ p,p < q->SO R' o (p * (2 * B)) (min (p * (2 * B)+2 * B) n)
 todo:∀ p,2 * q<=p->SO R' o (p * B) (min (p * B+B) n)
structure BLA (R':Nat->Nat->Bool) (n B:Nat) (o:Nat->Nat):Prop where
 ps:PS 0 n (fun i=>i) o
 spl:∀ p,SPL o (p * B)
 so:∀ p,SO R' o (p * B) (min (p * B+B) n)
theorem BLA.start (h:BLA R' n B o):BLK R' n B o 0 :=
 ⟨h.ps,fun p=>by rw [<-Nat.mul_assoc]; exact h.spl _,fun p _=>h.spl p,fun p hp=>by omega,fun p _=>h.so p⟩
theorem BLK.step (h:BLK R' n B o j) (hb:j * (2 * B)+B < n) {c:Nat} (hc:c=min (j * (2 * B)+2 * B) n) (hp:PS (j * (2 * B)) c o o') (hs:SO R' o' (j * (2 * B)) c):BLK R' n B o' (j+1):=by
 have hB:∀ p,2 * (j+1)<=p->j * (2 * B)+2 * B<=p * B:=fun p hp=>by
  have h2:=Nat.mul_le_mul_right B hp
  have h1:2 * (j+1) * B=j * (2 * B)+2 * B:=by rw [Nat.mul_comm 2 (j+1),Nat.mul_assoc,Nat.succ_mul]
  omega
 have hBB:∀ p,p < j->p * (2 * B)+2 * B<=j * (2 * B):=fun p hp=>by
  have h2:=Nat.mul_le_mul_right (2 * B) (show p+1<=j from hp)
  rw [Nat.succ_mul] at h2
  omega
 refine ⟨h.ps.trans (hp.wide (Nat.zero_le _) (by omega)),fun p=>?_,fun p hpj=>?_,fun p hpj=>?_,fun p hpj=>?_⟩
 ·refine (h.big p).ps hp ?_
  by_cases hpj:p<=j
  ·exact .inl (Nat.mul_le_mul_right _ hpj)
  ·right
   have:=Nat.mul_le_mul_right (2 * B) (show j+1<=p by omega)
   rw [Nat.succ_mul] at this
   omega
 ·exact (h.small p (by omega)).ps hp (.inr (by have:=hB p hpj; omega))
 ·by_cases e:p=j
  ·subst e; rw [<-hc]; exact hs
  ·exact (h.done p (by omega)).ps hp (.inl (by have:=hBB p (by omega); omega))
 ·exact (h.todo p (by omega)).ps hp (.inr (by have:=hB p hpj; omega))
theorem BLK.fin (h:BLK R' n B o j) (hb:n<=j * (2 * B)+B):BLA R' n (2 * B) o:=by
 refine ⟨h.ps,h.big,fun p=>?_⟩
 by_cases hp:p < j
 ·exact h.done p hp
 ·have h1:=h.todo (2 * p) (by omega)
  have e1:2 * p * B=p * (2 * B):=by rw [Nat.mul_comm 2 p,Nat.mul_assoc]
  rw [e1] at h1
  have h2:=Nat.mul_le_mul_right (2 * B) (show j<=p by omega)
  exact h1.sub (Nat.le_refl _) (by omega)
structure BLI (R':Nat->Nat->Bool) (n B:Nat) (o:Nat->Nat) (q:Nat):Prop where
 ps:PS 0 n (fun i=>i) o
 spl:∀ p,SPL o (p * B)
 so:∀ p,p < q->SO R' o (p * B) (min (p * B+B) n)
 left:∀ k,q * B<=k->o k=k
theorem BLI.start:BLI R' n B (fun i=>i) 0:=⟨.refl,fun _=>SPL.id_ _,fun p hp=>by omega,fun _ _=>rfl⟩
theorem BLI.step (h:BLI R' n B o j) {c:Nat} (hc:c=min (j * B+B) n) (hcn:j * B<=n) (hp:PS (j * B) c o o') (hs:SO R' o' (j * B) c):BLI R' n B o' (j+1):=by
 have e:(j+1) * B=j * B+B:=Nat.succ_mul j B
 refine ⟨h.ps.trans (hp.wide (Nat.zero_le _) (by omega)),fun p=>?_,fun p hpj=>?_,fun k hk=>?_⟩
 ·refine (h.spl p).ps hp ?_
  by_cases hpj:p<=j
  ·exact .inl (Nat.mul_le_mul_right _ hpj)
  ·right
   have:=Nat.mul_le_mul_right B (show j+1<=p by omega)
   omega
 ·by_cases e':p=j
  ·subst e'; rw [<-hc]; exact hs
  ·refine (h.so p (by omega)).ps hp (.inl ?_)
   have h2:=Nat.mul_le_mul_right B (show p+1<=j by omega)
   rw [Nat.succ_mul] at h2
   omega
 ·rw [hp.out (by omega)]; exact h.left k (by omega)
theorem BLI.fin (h:BLI R' n B o j) (hb:n<=j * B):BLA R' n B o:=by
 refine ⟨h.ps,h.spl,fun p=>?_⟩
 by_cases hp:p < j
 ·exact h.so p hp
 ·have h2:=Nat.mul_le_mul_right B (show j<=p by omega)
  exact fun x y h1 h2 h3=>by omega
end
end
section
open Go.RowKit
section
variable {enc : Nat → List Value} {n k i x : Nat} {o o' : Nat → Nat} {v : Value}
theorem PS.lt {a b:Nat} (h:PS a b o o') (hb:b<=n) (ho:∀ i,i < n->o i < n):∀ i,i < n->o' i < n:=fun i hi=>by
 by_cases hin:a<=i/\i < b
 ·obtain ⟨z,hz1,hz2,hz⟩:=h.img hin.1 hin.2
  rw [hz]; exact ho z (by omega)
 ·rw [h.out (by omega)]; exact ho i hi
end
def Cmp (F:Nat->Prop) (W:World) (n fid:Nat) (caps:List Value) (val:Nat->Value) (cv:Nat->Nat->Int):Prop :=
 ∀ w,Fr F W w->∀ x y,x < n->y < n->Fn Tryz.prog fid ([] ++ [val x,val y] ++ caps) w (yK (ii (cv x y)) w)
theorem Cmp.fr {F:Nat->Prop} {W w:World} {n fid:Nat} {caps:List Value} {val:Nat->Value} {cv:Nat->Nat->Int} (h:Cmp F W n fid caps val cv) (k:Fr F W w):Cmp F w n fid caps val cv :=
 fun w' k' x y hx hy=>h w' (k.trans k' (fun _ h=>.inl h)) x y hx hy
section
variable {P : Program} {ops : Array Oper} {Q : (Nat → Value) → World → Prop} {e : Nat → Value} {w : World} {d : Option Tmp} {ty : TypeId} {ps : String} {af : Array Edge}
end
end
section
open Go.RowKit
@[reducible] def jlQ (i:Nat):List Value:=[ii (i:Nat)]
@[reducible] def jlO (i:Nat):Value:=ii (i:Nat)
section
variable {W : World} {A : Option Addr} {n c : Nat} {o : Nat → Nat} {f : Value} {fid : Nat} {caps : List Value} {cv : Nat → Nat → Int} {R' : Nat → Nat → Bool}
end
section
variable {g : Nat → Int} {o : Nat → Nat} {n x y : Nat}
end
end
section
open Go.RowKit
section
variable {W : World} {A B : Option Addr} {p gw gh cap c n2 c2 : Nat} {V : List Int}
theorem jiC (i:Nat) (hgw:1<=gw/\gw<=1048576) (hV:V.length=gw * gh) (hm:gw * gh<=1048576) (hi:i < gw * gh) (hA:Rd W A (yC V)) :
  Fn Tryz.prog 218 [.agg #[ii gw,.slice A (gw * gh) c,.slice B n2 c2],ii i] W (yK (ii (vY gw V i:Nat)) W):=by
 have em:(i:Int) % gw=((i % gw:Nat):Int):=by push_cast; rfl
 have sa_A:yH A:=hA.someA (by rw [qY]; omega)
 have hget:∀ i,i < gw * gh->(yC V)[(i:Int).toNat * 1]?=some (ii (V.getD i 0)):=fun i hi=>by rw [Nat.mul_one,Int.toNat_natCast]; exact qO (vX (by omega))
 have d0:decide ((i:Int) >= gw)=thN gw (gw * gh) i 0:=by show _=decide _; rw [Bool.eq_iff_iff,decide_eq_true_iff,decide_eq_true_iff]; omega
 have d1:decide (((i % gw:Nat):Int) > 0)=thN gw (gw * gh) i 1:=by show _=decide _; rw [Bool.eq_iff_iff,decide_eq_true_iff,decide_eq_true_iff]; omega
 have d2:decide (((i % gw:Nat):Int) < (gw:Int) - 1)=thN gw (gw * gh) i 2:=by show _=decide _; rw [Bool.eq_iff_iff,decide_eq_true_iff,decide_eq_true_iff]; omega
 have d3:decide ((i:Int)+gw < (gw * gh:Nat))=thN gw (gw * gh) i 3:=by show _=decide _; rw [Bool.eq_iff_iff,decide_eq_true_iff,decide_eq_true_iff]; omega
 have S:=St.start W
 refine zn Tryz.func218 Tryz.results218 Tryz.ntmps218 ?_
 refine zs ?_
 refine jF (jO rfl) S ?_
 intro b_l w2_ g2_ S
 iterate 3 refine z ?_
 refine zc ?_
 refine yB (C:=fun wq=>Gr w2_ wq) [0,1,2,3,4,5,6,7,8,9,10,11,12,13,14,15,16,17,18,19,20,21,22,23,24,25,26,27,28,29,30,31,32,33,34,35,36,37,38,39,40,41,42] [] (by kernel_rfl) (by kernel_rfl) (Gr.drew _) ?_
 simp only [j6,List.drop_succ_cons,List.drop_zero]
 refine y ?_; refine y ?_
 refine jV (fun wq hq=>jB q3 rfl rfl ((S.gr hq).blk (i:=0) rfl) rfl) ?_
 refine y ?_
 rw [d0]
 refine y ?_; refine y ?_
 refine jV (fun wq hq=>jB q3 rfl rfl ((S.gr hq).blk (i:=0) rfl) rfl) ?_
 refine yr ?_
 refine jW (jN (pl:=[(0,1),(1,1)]) jc4 nG (fun w=>by kernel_rfl) rfl rfl) ?_
 refine y ?_; refine y ?_
 refine jV (fun wq hq=>jB q3 rfl rfl ((S.gr hq).blk (i:=0) rfl) rfl) ?_
 refine jW (kU rfl rfl (by omega) (by omega)) ?_
 rw [em]
 refine y ?_
 rw [d1]
 refine y ?_; refine yr ?_
 refine jW (jN (pl:=[(0,1),(1,1)]) jc4 nG (fun w=>by kernel_rfl) rfl rfl) ?_
 refine y ?_; refine y ?_
 refine jV (fun wq hq=>jB q3 rfl rfl ((S.gr hq).blk (i:=0) rfl) rfl) ?_
 refine jW (kU rfl rfl (by omega) (by omega)) ?_
 rw [em]
 refine y ?_
 refine jV (fun wq hq=>jB q3 rfl rfl ((S.gr hq).blk (i:=0) rfl) rfl) ?_
 refine yr ?_; refine y ?_
 rw [d2]
 refine y ?_; refine yr ?_
 refine jW (jN (pl:=[(0,1),(1,1)]) jc4 nG (fun w=>by kernel_rfl) rfl rfl) ?_
 refine y ?_; refine y ?_
 refine jV (fun wq hq=>jB q3 rfl rfl ((S.gr hq).blk (i:=0) rfl) rfl) ?_
 refine yr ?_; refine y ?_
 refine jV (fun wq hq=>jB q30 rfl rfl ((S.gr hq).blk (i:=0) rfl) rfl) ?_
 refine y ?_; refine y ?_
 rw [d3]
 refine y ?_; refine y ?_
 refine jV (fun wq hq=>jB q3 rfl rfl ((S.gr hq).blk (i:=0) rfl) rfl) ?_
 refine yr ?_
 refine jW (jN (pl:=[(0,1),(1,1)]) jc4 nG (fun w=>by kernel_rfl) rfl rfl) ?_
 refine jW (rL Tryz.underlying410 nD Tryz.zeroValue410 rfl rfl) ?_
 refine y ?_
 refine yJ ?_
 intro w3_ g3_
 have S:=S.gr g3_
 refine zc ?_
 refine jS ?_
 refine zc ?_
 refine j9 (fun m e w=>∃ k:Nat,k+m=4/\SL e [(2,pt b_l),(5,ii (flw V i (jaW gw (gw * gh) i k):Nat)),(50,.agg (jjM gw (gw * gh) i).toArray),(51,ii k)]/\flw V i (jaW gw (gw * gh) i k) < gw * gh/\St No W w [.blk b_l 180 [ii gw,.slice A (gw * gh) c,.slice B n2 c2]]) 4
  ⟨0,rfl,⟨rfl,rfl,rfl,rfl,trivial⟩,hi,S⟩ ?_
 clear S d0 d1 d2 d3
 rintro m e w ⟨k,hk,hsl,hlt,S⟩
 rw [hsl.fold]
 refine z ?_
 refine zk ?_ ?_
 ·intro hc
  have hk4:k < 4:=by omega
  have hq:=je2 (gw:=gw) (n:=gw * gh) (i:=i) k hk4
  have hstep:flw V i (jaW gw (gw * gh) i (k+1))=flw V (flw V i (jaW gw (gw * gh) i k)) (jgs gw (gw * gh) i k):=jjo _ _ _ _
  generalize flw V i (jaW gw (gw * gh) i k)=b at *
  rcases jgr hgw.1 hi k hk4 with ⟨hth,a,ha,han,hseg⟩ | ⟨hth,hseg⟩
  ·rw [hth,ha] at hq
   rw [hseg] at hstep
   have hstep2:flw V b [a]=if V.getD a 0 < V.getD b 0 then a else b:=rfl
   rw [hstep2] at hstep
   by_cases hl:V.getD a 0 < V.getD b 0
   ·rw [if_pos hl] at hstep
    refine zs ?_
    refine jE (wD Tryz.underlying410 jc4 nD rfl rfl rfl (by omega) (by omega) hq) ?_
    refine jF (jL nG rfl) S ?_
    intro b_q w5_ g5_ S
    refine jH (i:=0) S rfl (nD _) rfl rfl rfl rfl rfl rfl ?_
    intro w6_ S
    refine zc ?_
    refine yB (C:=fun wq=>Gr w6_ wq) [0,1,2,3,4,5,6,7,8,9,10,11,12,13,14,15] [] (by kernel_rfl) (by kernel_rfl) (Gr.drew _) ?_
    simp only [j6,List.drop_succ_cons,List.drop_zero]
    refine y ?_
    refine jV (fun wq hq=>jB q4 rfl rfl ((S.gr hq).blk (i:=0) rfl) rfl) ?_
    refine y ?_; refine y ?_
    first | refine j0 rfl ?_ | (refine yG rfl ?_; refine jV (fun wq hq=>jB q30 rfl rfl ((S.gr hq).blk (i:=1) rfl) rfl) ?_)
    refine y ?_
    first | refine j0 rfl ?_ | (refine yG rfl ?_; refine jV (fun wq hq=>jB q3 rfl rfl ((S.gr hq).blk (i:=0) rfl) rfl) ?_)
    refine yx ?_
    first | refine j0 rfl ?_ | (refine yG rfl ?_; refine jV (fun wq hq=>j7 q2 rfl rfl (hA.gr (S.gr hq).out) (hget a han)) ?_)
    refine y ?_
    first | refine j0 rfl ?_ | (refine yG rfl ?_; refine jV (fun wq hq=>jB q30 rfl rfl ((S.gr hq).blk (i:=1) rfl) rfl) ?_)
    refine y ?_; refine yx ?_
    first | refine j0 rfl ?_ | (refine yG rfl ?_; refine jV (fun wq hq=>j7 q2 rfl rfl (hA.gr (S.gr hq).out) (hget b hlt)) ?_)
    refine yt ?_; refine y ?_
    refine yJ ?_
    intro w7_ g7_
    have S:=S.gr g7_
    (iterate 3 refine z ?_); refine zr ?_; refine z ?_
    refine ze ?_
    exact ⟨m - 1,by omega,k+1,by omega,⟨rfl,ie (by rw [hstep]),rfl,ie (by omega),trivial⟩,by rw [hstep]; exact han,S.drop 1⟩
   ·rw [if_neg hl] at hstep
    refine zs ?_
    refine jE (wD Tryz.underlying410 jc4 nD rfl rfl rfl (by omega) (by omega) hq) ?_
    refine jF (jL nG rfl) S ?_
    intro b_q w9_ g9_ S
    refine jH (i:=0) S rfl (nD _) rfl rfl rfl rfl rfl rfl ?_
    intro w10_ S
    refine zc ?_
    refine yB (C:=fun wq=>Gr w10_ wq) [0,1,2,3,4,5,6,7,8,9,10,11,12,13,14,15] [] (by kernel_rfl) (by kernel_rfl) (Gr.drew _) ?_
    simp only [j6,List.drop_succ_cons,List.drop_zero]
    refine y ?_
    refine jV (fun wq hq=>jB q4 rfl rfl ((S.gr hq).blk (i:=0) rfl) rfl) ?_
    refine y ?_; refine y ?_
    first | refine j0 rfl ?_ | (refine yG rfl ?_; refine jV (fun wq hq=>jB q30 rfl rfl ((S.gr hq).blk (i:=1) rfl) rfl) ?_)
    refine y ?_
    first | refine j0 rfl ?_ | (refine yG rfl ?_; refine jV (fun wq hq=>jB q3 rfl rfl ((S.gr hq).blk (i:=0) rfl) rfl) ?_)
    refine yx ?_
    first | refine j0 rfl ?_ | (refine yG rfl ?_; refine jV (fun wq hq=>j7 q2 rfl rfl (hA.gr (S.gr hq).out) (hget a han)) ?_)
    refine y ?_
    first | refine j0 rfl ?_ | (refine yG rfl ?_; refine jV (fun wq hq=>jB q30 rfl rfl ((S.gr hq).blk (i:=1) rfl) rfl) ?_)
    refine y ?_; refine yx ?_
    first | refine j0 rfl ?_ | (refine yG rfl ?_; refine jV (fun wq hq=>j7 q2 rfl rfl (hA.gr (S.gr hq).out) (hget b hlt)) ?_)
    refine yf ?_; refine y ?_
    refine yJ ?_
    intro w11_ g11_
    have S:=S.gr g11_
    refine zr ?_; refine z ?_
    refine ze ?_
    exact ⟨m - 1,by omega,k+1,by omega,⟨rfl,ie (by rw [hstep]),rfl,ie (by omega),trivial⟩,by rw [hstep]; exact hlt,S.drop 1⟩
  ·rw [hth] at hq
   rw [hseg] at hstep
   have hstep2:flw V b []=b:=rfl
   rw [hstep2] at hstep
   refine zs ?_
   refine jE (wD Tryz.underlying410 jc4 nD rfl rfl rfl (by omega) (by omega) hq) ?_
   refine jF (jL nG rfl) S ?_
   intro b_q w13_ g13_ S
   refine jH (i:=0) S rfl (nD _) rfl rfl rfl rfl rfl rfl ?_
   intro w14_ S
   refine zc ?_
   refine yB (C:=fun wq=>Gr w14_ wq) [0,1,2,3,4,5,6,7,8,9,10,11,12,13,14,15] [] (by kernel_rfl) (by kernel_rfl) (Gr.drew _) ?_
   simp only [j6,List.drop_succ_cons,List.drop_zero]
   refine y ?_
   refine jV (fun wq hq=>jB q4 rfl rfl ((S.gr hq).blk (i:=0) rfl) rfl) ?_
   refine y ?_
   refine j0 rfl ?_
   refine j0 rfl ?_
   refine j0 rfl ?_
   refine j0 rfl ?_
   refine j0 rfl ?_
   refine j0 rfl ?_
   refine j0 rfl ?_
   refine j0 rfl ?_
   refine j0 rfl ?_
   refine j0 rfl ?_
   refine j0 rfl ?_
   refine j0 rfl ?_
   refine y ?_
   refine yJ ?_
   intro w15_ g15_
   have S:=S.gr g15_
   refine zr ?_; refine z ?_
   refine ze ?_
   exact ⟨m - 1,by omega,k+1,by omega,⟨rfl,ie (by rw [hstep]),rfl,ie (by omega),trivial⟩,by rw [hstep]; exact hlt,S.drop 1⟩
 ·intro hc
  obtain rfl:k=4:=by omega
  have hfl:vY gw V i=flw V i (jaW gw (gw * gh) i 4):=by rw [jfb]; unfold vY; rw [hV]
  rw [<-hfl] at *
  refine zc ?_
  refine jY ?_
  repeat first | refine jP ?_ | refine jU ?_
  show CW _ _ _ _ _ _
  refine z ?_; refine z ?_
  refine zq ?_
  exact yD rfl ⟨rfl,S.out⟩
theorem jj9 (i n:Nat) (hgw:1<=gw) (hi:i<=1048576):Fn Tryz.prog 92 [.agg #[ii gw,.slice A n c,.slice B n2 c2],ii i] W (yK (.agg #[ii (i % gw:Nat),ii (i / gw:Nat)]) W):=by
 have e1:(i:Int) % gw=((i % gw:Nat):Int):=by push_cast; rfl
 have e2:(i:Int) / gw=((i / gw:Nat):Int):=by push_cast; rfl
 have S:=St.start W
 refine zn Tryz.func92 Tryz.results92 Tryz.ntmps92 ?_
 refine zs ?_
 refine jF (jO rfl) S ?_
 intro b_b1 w2_ g2_ S
 refine jF (jL kL rfl) S ?_
 intro b_b3 w4_ g4_ S
 refine zc ?_
 refine yB (C:=fun wq=>Gr w4_ wq) [0,1,2,3,4,5,6,7] [8,9] (by kernel_rfl) (by kernel_rfl) (Gr.drew _) ?_
 simp only [j6,List.drop_succ_cons,List.drop_zero]
 refine y ?_; refine y ?_
 refine jV (fun wq hq=>jB q3 rfl rfl ((S.gr hq).blk (i:=1) rfl) rfl) ?_
 refine jW (kU rfl rfl (by omega) (by omega)) ?_
 rw [e1]
 refine y ?_; refine y ?_
 refine jV (fun wq hq=>jB q3 rfl rfl ((S.gr hq).blk (i:=1) rfl) rfl) ?_
 refine jW (vP rfl rfl (by omega) (by omega)) ?_
 rw [e2]
 refine yJ ?_
 intro w5_ g5_
 have S:=S.gr g5_
 refine jE (jN (pl:=[(0,1),(1,1)]) q23 kL (fun w=>by kernel_rfl) rfl rfl) ?_
 refine jH (i:=0) S rfl (qI _) rfl rfl rfl rfl rfl rfl ?_
 intro w6_ S
 refine zq ?_
 exact v8 q23 rfl (qI _) rfl (S.blk (i:=0) rfl) rfl rfl ⟨rfl,S.out⟩
end
def jid (gw gh:Nat) (V:List Int) (mk:Value->Value) (W:World) (v:Value) (w':World):Prop :=
 ∃ A1 c1 A2 c2,v=mk (.agg #[ii gw,.slice A1 (gw * gh) c1,.slice A2 (gw * gh) c2])/\Row w' 2 1 A1 (gw * gh) c1 (yC V)/\xS W A1/\Row w' 3 1 A2 (gw * gh) c2 (yM (gw * gh) (vY gw V))/\xS W A2/\(∀ g,kZ A1 g->¬ kZ A2 g)/\Gr W w'
section
variable {W : World} {A : Option Addr} {p gw gh cap : Nat} {cc : Nat → Int} {bs : Nat → Nat} {Rs : Nat → Option Nat}
theorem jkX (hG:GridAt W p gw gh cc A cap bs Rs) :
  Fn Tryz.prog 152 [pt p] W (jid gw gh (yA gw gh cc) (fun l=>.tuple #[l,ii 0]) W):=by
 have hw:=hG.sw
 have hh:=hG.sh
 have hn:gw * gh<=1024 * 1024:=Nat.mul_le_mul hw.2 hh.2
 have e1:((gw:Int) - 1)=((gw - 1:Nat):Int):=by omega
 have e2:((gh:Int) - 1)=((gh - 1:Nat):Int):=by omega
 have hval:∀ w,Gr W w->Fn Tryz.prog 25 [pt p,.agg #[ii 0,ii 0,ii (gw - 1),ii (gh - 1)]] w (qR (fun v=>.tuple #[v,ii 0]) 2 1 (gw * gh) (yC (yA gw gh cc)) w):=fun w g=>by
  have:=qN (W:=w) 0 0 (gw - 1) (gh - 1) (by omega) (by omega) (hG.gr g)
  rw [<-e1,<-e2,show gw - 1+1 - 0=gw by omega,show gh - 1+1 - 0=gh by omega,gK,Nat.mul_comm gh gw] at this
  exact this
 have hV:=zE gw gh cc
 have S:=St.start W
 refine zn Tryz.func152 Tryz.results152 Tryz.ntmps152 ?_
 refine zs ?_
 refine jF (jL jae rfl) S ?_
 intro b_res w2_ g2_ S
 iterate 4 refine z ?_
 refine jC rfl (xH p gw gh _ w2_ (hG.top.gr S.out)) ?_
 rintro _ w3_ ⟨rfl,g3_⟩
 have S:=S.gr g3_
 iterate 7 refine z ?_
 refine jC rfl (fG p gw gh hw.2 hh.2 _ w3_ (hG.top.gr S.out)) ?_
 rintro _ w4_ ⟨rfl,g4_⟩
 have S:=S.gr g4_
 refine jC rfl (hval w4_ S.out) ?_
 rintro _ w5_ ⟨A_vs,c_vs,rfl,hR_vs,hf_vs,g5_⟩
 have S:=S.pushRow hR_vs hf_vs g5_
 iterate 9 refine z ?_
 refine vU f7 xU rfl rfl rfl (n:=gw * gh) (c:=gw * gh) (by omega) (by omega) (by omega) (by omega) S ?_
 intro A_to w7_ g7_ S sa_to
 refine jE (jN (pl:=[(0,1),(1,1),(2,1)]) je4 jae (fun w=>by kernel_rfl) rfl rfl) ?_
 refine jF (jL jae rfl) S ?_
 intro b_l w9_ g9_ S
 refine jH (i:=0) S rfl (bI _) rfl rfl rfl rfl rfl rfl ?_
 intro w10_ S
 iterate 4 refine z ?_
 refine zc ?_
 refine jS ?_
 refine zc ?_
 generalize yA gw gh cc=V at *
 have hz:List.replicate (gw * gh) (ii 0)=yM (gw * gh) (fun j=>if j < 0 then vY gw V j else 0):=by
  unfold yM
  simp only [Nat.not_lt_zero,if_false]
  rw [List.map_const',List.length_range]
  rfl
 rw [hz] at S
 refine j9 (fun m e w=>∃ k:Nat,k+m=gw * gh/\SL e [(2,pt b_res),(8,pt b_l),(33,ii (gw * gh:Nat)),(34,ii k)] /\
  St No W w [.blk b_l 180 [ii gw,.slice A_vs (gw * gh) c_vs,.slice A_to (gw * gh) (gw * gh)],.row 3 1 A_to (gw * gh) (gw * gh) (yM (gw * gh) (fun j=>if j < k then vY gw V j else 0)),.row 2 1 A_vs (gw * gh) c_vs (yC V),.blk b_res 180 [ii 0,.slice none 0 0,.slice none 0 0]]) (gw * gh)
  ⟨0,by omega,⟨rfl,rfl,rfl,rfl,trivial⟩,S⟩ ?_
 clear S hz
 rintro m e w ⟨k,hk,hsl,S⟩
 rw [hsl.fold]
 refine z ?_
 refine zk ?_ ?_
 ·intro hc
  have hkn:k < gw * gh:=by omega
  have hfl:=jcC hw.1 hV hkn
  refine z ?_; refine z ?_
  refine zc ?_
  refine yB (C:=fun wq=>Gr w wq) [0,1,2,3,4,5] [6,7] (by kernel_rfl) (by kernel_rfl) (Gr.drew _) ?_
  simp only [j6,List.drop_succ_cons,List.drop_zero]
  refine y ?_
  refine jV (fun wq hq=>jB f7 rfl rfl ((S.gr hq).blk (i:=0) rfl) rfl) ?_
  refine y ?_
  refine jV (fun wq hq=>jT je4 rfl (bI _) rfl ((S.gr hq).blk (i:=0) rfl) rfl rfl) ?_
  refine y ?_
  refine y8 rfl (fun wq hq=>(jiC (W:=wq) k ⟨hw.1,by omega⟩ hV (by omega) hkn ((S.gr hq).rd (i:=2) rfl)).mono (fun _ _ ⟨hv,hg⟩=>⟨hv,hq.trans hg⟩)) ?_
  refine yJ ?_
  intro w11_ g11_
  have S:=S.gr g11_
  refine zx ?_
  refine qV (i:=1) S rfl (qz3 _) rfl rfl rfl rfl (by rw [kJ]; omega) rfl ?_
  intro w12_ S
  refine zr ?_; refine z ?_
  refine ze ?_
  rw [Nat.mul_one,Int.toNat_natCast,xD,kC (f':=fun j=>if j < k+1 then vY gw V j else 0) (fun j hj=>by
   unfold wZ
   (try dsimp only)
   by_cases e1:j=k
   ·rw [if_pos e1,if_pos (by omega),e1]
   ·by_cases e2:j < k
    ·rw [if_neg e1,if_pos e2,if_pos (by omega)]
    ·rw [if_neg e1,if_neg e2,if_neg (by omega)])] at S
  exact ⟨m - 1,by omega,k+1,by omega,⟨rfl,rfl,rfl,ie (by omega),trivial⟩,S⟩
 ·intro hc
  obtain rfl:k=gw * gh:=by omega
  rw [kC (f':=vY gw V) (fun j hj=>by (try dsimp only); rw [if_pos hj])] at S
  refine zc ?_
  refine jY ?_
  repeat first | refine jP ?_ | refine jU ?_
  show CW _ _ _ _ _ _
  refine z ?_
  refine jH (i:=3) S rfl (bI _) rfl rfl rfl rfl rfl rfl ?_
  intro w13_ S
  refine z ?_
  refine zq ?_
  exact wQ je4 rfl (bI _) rfl (S.blk (i:=3) rfl) rfl rfl rfl ⟨_,_,_,_,rfl,S.row (i:=2) rfl,SepL.fresh S (i:=2) rfl,S.row (i:=1) rfl,SepL.fresh S (i:=1) rfl,fun g hg h2=>S.sep.2.2.2.1 g h2 _ List.mem_cons_self hg,S.out⟩
end
end
section
open Go.RowKit
def CSt (F:Nat->Prop) (W:World) (L L1:List HA) (σ:List Value) (w:World):Prop:=match σ with
 | []=>St F W w L
 | _::_=>St F W w L1
section
variable {F : Nat → Prop} {W w w' : World} {L L1 : List HA} {σ : List Value}
theorem CSt.start (S:St F W w L):CSt F W L L1 [] w:=S
theorem CSt.ok (h:CSt F W L L1 σ w) {i:Nat} {x:HA} (hi:qP L i=some x) (hi1:qP L1 i=some x):x.ok w:=by
 cases σ with
 | nil=>exact St.ok h hi
 | cons v σ=>exact St.ok h hi1
theorem CSt.blk (h:CSt F W L L1 σ w) {i b t:Nat} {l:List Value} (hi:qP L i=some (.blk b t l)) (hi1:qP L1 i=some (.blk b t l)):Blk w b t l:=h.ok hi hi1
end
section
variable {P : Program} {e : Nat → Value} {d : Option Tmp} {ty : TypeId} {ps : String} {af : Array Edge} {F : Nat → Prop} {W w : World} {L L' : List HA} {R : Value → World → Prop}
theorem pS {i:Nat} {t tb:TypeId} {x y:Operand} {b o n:Nat} {l cs l':List Value} (S:St F W w L) (hi:qP L i=some (.blk b t l)) (hz:(sizeOf tb).run P w=.ok n w) (hx:ev e x=.pointer (some ⟨b,o,none⟩)) (hy:ev e y=.agg cs.toArray) (hn:cs.length=n)
  (hl':fzl (l.take o ++ cs ++ l.drop (o+n))=some l') (ho:((cs.all fun v=>v.oneCell') && Nat.ble (o+n) l.length)=true) (hs:zF L i (.blk b t l')=some L') (hr:∀ w',St F W w' L'->R undef w'):qM P e ⟨d,.store tb x y,ty,ps,af,none⟩ w R :=
 q7 rfl (jH S hi hz hx hy hn hl' ho hs (fun w' S'=>hr w' S'))
end
section
variable {W : World} {A : Option Addr} {p gw gh cap c : Nat} {cc : Nat → Int} {bs : Nat → Nat} {Rs : Nat → Option Nat} {V : List Int}
theorem jgv (x y:Nat) (hx:x < gw) (hy:y < gh) (hG:GridAt W p gw gh cc A cap bs Rs):Fn Tryz.prog 91 [pt p,.agg #[ii x,ii y]] W
  (jid gw gh (yA gw gh cc) (fun l=>.tuple #[l,ii (y * gw+x:Nat),ii 0]) W):=by
 have hw:=hG.sw
 have hh:=hG.sh
 have em:(y:Int) * gw=((y * gw:Nat):Int):=by push_cast; rfl
 have ea:((y * gw:Nat):Int)+x=((y * gw+x:Nat):Int):=by push_cast; rfl
 have hyg:(y+1) * gw<=gh * gw:=Nat.mul_le_mul_right _ (by omega)
 have hgm:gh * gw<=1024 * 1024:=Nat.mul_le_mul hh.2 hw.2
 rw [Nat.succ_mul] at hyg
 have S:=St.start W
 refine zn Tryz.func91 Tryz.results91 Tryz.ntmps91 ?_
 refine zs ?_
 refine jF (jO rfl) S ?_
 intro b_c w2_ g2_ S
 refine jF (jL jae rfl) S ?_
 intro b_res w4_ g4_ S
 iterate 3 refine z ?_
 refine jC rfl (jkX (W:=w4_) (hG.gr S.out)) ?_
 rintro _ w5_ ⟨A_v,c_v,A_to,c_to,rfl,hv,hFv,hto,hFt,hd,g5_⟩
 have S:=S.push2 g5_ (h1:=.row 2 1 A_v _ c_v _) (h2:=.row 3 1 A_to _ c_to _) hv hto hFv hFt hd
 iterate 3 refine z ?_
 refine jF (jL jae rfl) S ?_
 intro b_l w7_ g7_ S
 refine jH (i:=0) S rfl (bI _) rfl rfl rfl rfl rfl rfl ?_
 intro w8_ S
 refine z ?_; refine z ?_; refine zt ?_; refine z ?_; refine z ?_
 refine jC rfl (jjQ (W:=w8_) x y hx hy (hG.gr S.out)) ?_
 rintro _ w9_ ⟨rfl,g9_⟩
 have S:=S.gr g9_
 (iterate 5 refine z ?_); refine zf ?_
 refine zc ?_
 refine jM rfl ?_
 refine zc ?_
 refine j5 ?_
 try show CW _ _ _ _ _ _
 refine zc ?_
 refine qL (M:=fun e w=>SL e [(4,pt b_res),(5,ii (y * gw+x:Nat)),(6,ii 0)]/\St No W w [.blk b_l 180 [ii gw,.slice A_v (gw * gh) c_v,.slice A_to (gw * gh) c_to],.row 2 1 A_v (gw * gh) c_v (yC (yA gw gh cc)),.row 3 1 A_to (gw * gh) c_to (yM (gw * gh) (vY gw (yA gw gh cc))),.blk b_res 180 [ii gw,.slice A_v (gw * gh) c_v,.slice A_to (gw * gh) c_to],.blk b_c 23 [ii x,ii y]]) ?_ ?_
 ·skip
  refine zc ?_
  refine qQ (C:=(CSt No W [.blk b_l 180 [ii gw,.slice A_v (gw * gh) c_v,.slice A_to (gw * gh) c_to],.row 2 1 A_v (gw * gh) c_v (yC (yA gw gh cc)),.row 3 1 A_to (gw * gh) c_to (yM (gw * gh) (vY gw (yA gw gh cc))),.blk b_res 180 [ii 0,.slice none 0 0,.slice none 0 0],.blk b_c 23 [ii x,ii y]] [.blk b_l 180 [ii gw,.slice A_v (gw * gh) c_v,.slice A_to (gw * gh) c_to],.row 2 1 A_v (gw * gh) c_v (yC (yA gw gh cc)),.row 3 1 A_to (gw * gh) c_to (yM (gw * gh) (vY gw (yA gw gh cc))),.blk b_res 180 [ii gw,.slice A_v (gw * gh) c_v,.slice A_to (gw * gh) c_to],.blk b_c 23 [ii x,ii y]])) [9] [0,1,2,3,4,5,6,7,8,9] [10,11] (by kernel_rfl) (by kernel_rfl) (CSt.start (S.gr (Gr.drew _))) ?_
  simp only [yT,j6,List.drop_succ_cons,List.drop_zero]
  refine qF rfl (fun τ wq hq=>jT je4 rfl (bI _) rfl (hq.blk (i:=0) rfl rfl) rfl rfl) ?_
  refine jX rfl (jD q23 rfl qz2 rfl rfl) ?_
  refine qF rfl (fun τ wq hq=>jB q2 rfl rfl (hq.blk (i:=4) rfl rfl) rfl) ?_
  refine jX rfl (jD je4 rfl qz3 rfl rfl) ?_
  refine qF rfl (fun τ wq hq=>jB q3 rfl rfl (hq.blk (i:=0) rfl rfl) rfl) ?_
  refine jX rfl (yI rfl (by omega)) ?_
  rw [em]
  refine jX rfl (jD q23 rfl qz2 rfl rfl) ?_
  refine qF rfl (fun τ wq hq=>jB q2 rfl rfl (hq.blk (i:=4) rfl rfl) rfl) ?_
  refine jX rfl (yI rfl (by omega)) ?_
  rw [ea]
  refine jZ rfl rfl (fun wq hq=>pS (i:=3) hq rfl (bI _) rfl rfl rfl rfl rfl rfl (fun w' S'=>S')) ?_
  rintro v13 w13 _
  refine yV ?_
  rintro wz hz
  have S:St No W wz _:=hz
  refine z ?_; refine z ?_
  refine ze ?_
  exact ⟨⟨rfl,rfl,rfl,trivial⟩,S⟩
 ·clear S
  rintro e w ⟨hsl,S⟩
  rw [hsl.fold]
  refine zq ?_
  exact nB je4 rfl (bI _) rfl (S.blk (i:=3) rfl) rfl rfl rfl rfl ⟨_,_,_,_,rfl,S.row (i:=1) rfl,SepL.fresh S (i:=1) rfl,S.row (i:=2) rfl,SepL.fresh S (i:=2) rfl,fun g hg=>S.sep.2.2.2.1 g hg _ List.mem_cons_self,S.out⟩
end
end
section
open Go.RowKit
theorem jgI {V:List Int} {N:Int} {i:Nat} (h:i < V.length):(yC (List.replicate i N ++ V.drop i)).set i (ii N)=yC (List.replicate (i+1) N ++ V.drop (i+1)):=by
 unfold yC
 rw [<-List.map_set,List.set_append_right _ _ (by simp),List.length_replicate,Nat.sub_self,List.drop_eq_getElem_cons h,List.set_cons_zero,List.replicate_succ',List.append_assoc]
 rfl
section
variable {F : Nat → Prop} {W w : World} {M tl : List HA} {o : OpS} {s : StS} {x0 y0 x1 y1 kb : Nat} {V : List Int}
theorem jbp (hx:x0<=x1/\x1 < s.gw) (hy:y0<=y1/\y1 < s.gh) (hN:kN o.n=true) (ho:(o.k=2/\o.ax=x0/\o.ay=y0/\x1=x0/\y1=y0)\/(o.k=3/\o.x0=x0/\o.y0=y0/\o.x1=x1/\o.y1=y1)) :
  sB F W (s.L ++ M) s.p o true (24) x0 y0 x1 y1 (List.replicate ((y1+1 - y0) * (x1+1 - x0)) o.n):=by
 intro kb tl w S
 have S:=S.perm_ List.perm_middle
 obtain ⟨ok,ox0,oy0,ox1,oy1,ax,ay,bx,by',n,m,vs,bs,bd⟩:=o
 have hN':-2147483648<=n/\n<=2147483647:=by
  have h:kN n=true:=hN
  unfold kN at h
  simpa using h
 dsimp only at ho
 refine zn Tryz.func24 Tryz.results24 Tryz.ntmps24 ?_
 refine zs ?_
 refine jF (jO rfl) S ?_
 intro b_op w2_ g2_ S
 refine jF (jL qX rfl) S ?_
 intro b_r w4_ g4_ S
 iterate 4 refine z ?_
 refine zc ?_
 refine qL (M:=fun e w=>SL e [(0,pt s.p),(2,pt kb),(4,pt b_op),(5,pt b_r)]/\St F W w (.blk b_r 27 [ii 0,ii 0,ii 0,ii 0]::.blk b_op 34 (OpS.cs ⟨ok,x0,y0,x1,y1,ax,ay,bx,by',n,m,vs,bs,bd⟩)::.blk kb 3 [ii ok]::(s.L ++ M ++ tl))) ?_ ?_
 ·rcases ho with ⟨rfl,rfl,rfl,rfl,rfl⟩ | ⟨rfl,rfl,rfl,rfl,rfl⟩
  ·skip
   iterate 12 refine z ?_
   refine jE (jN (pl:=[(0,1),(1,1),(2,1),(3,1)]) q27 qX (fun w=>by kernel_rfl) rfl rfl) ?_
   refine z ?_
   refine jH (i:=1) S rfl (y6 _) rfl rfl rfl rfl rfl rfl ?_
   intro w5_ S
   refine ze ?_
   exact ⟨⟨rfl,rfl,rfl,rfl,trivial⟩,S⟩
  ·skip
   refine zc ?_
   refine jM rfl ?_
   refine zc ?_
   refine j5 ?_
   try show CW _ _ _ _ _ _
   exact ⟨⟨rfl,rfl,rfl,rfl,trivial⟩,S⟩
 ·rintro e w1 ⟨hsl,S⟩
  rw [hsl.fold]
  have hk4:ok ≠ 4/\ok ≠ 5:=by omega
  iterate 3 refine z ?_
  refine jC rfl (qN x0 y0 x1 y1 hx hy (S.grid (i:=4) rfl)) ?_
  rintro _ w6_ ⟨A_l,c_l,rfl,hR_l,hf_l,g6_⟩
  have S:=S.pushRow hR_l hf_l g6_
  (iterate 6 refine z ?_); refine zf ?_; iterate 3 refine z ?_
  refine zc ?_
  refine jS ?_
  refine zc ?_
  have hvl:=z6 s.gw s.cc x0 y0 (x1+1 - x0) (y1+1 - y0)
  have hnn:(y1+1 - y0) * (x1+1 - x0)<=1024 * 1024:=by
   have h1:=(S.grid (i:=5) rfl).sw
   have h2:=(S.grid (i:=5) rfl).sh
   exact Nat.mul_le_mul (by omega) (by omega)
  have hmm:max (min n 1099511627776) (-1099511627776)+0=n:=by omega
  generalize y9 s.gw s.cc x0 y0 (x1+1 - x0) (y1+1 - y0)=Vs at *
  generalize (y1+1 - y0) * (x1+1 - x0)=nn at *
  refine j9 (fun mm e w=>∃ i:Nat,i+mm=nn/\SL e [(2,pt kb),(4,pt b_op),(5,pt b_r),(8,.slice A_l nn c_l),(9,ii 0),(42,.slice A_l nn c_l),(43,ii nn),(44,ii i)] /\
   St F W w (.row 2 1 A_l nn c_l (yC (List.replicate i n ++ Vs.drop i))::.blk b_r 27 [ii 0,ii 0,ii 0,ii 0]::.blk b_op 34 (OpS.cs ⟨ok,x0,y0,x1,y1,ax,ay,bx,by',n,m,vs,bs,bd⟩)::.blk kb 3 [ii ok]::(s.L ++ M ++ tl))) nn
   ⟨0,by omega,⟨rfl,rfl,rfl,rfl,rfl,rfl,rfl,rfl,trivial⟩,S⟩ ?_
  clear S
  rintro mm e w2 ⟨i,hi,hsl2,S⟩
  rw [hsl2.fold]
  by_cases hin:i < nn
  ·have hget:(yC (List.replicate i n ++ Vs.drop i))[(i:Int).toNat * 1]?=some (ii (Vs.getD i 0)):=by
    rw [Nat.mul_one,Int.toNat_natCast]
    refine qO ?_
    rw [List.getElem?_append_right (by simp),List.length_replicate,Nat.sub_self,List.getElem?_drop,Nat.add_zero]
    exact vX (by omega)
   have sa_l:yH A_l:=(S.row (i:=0) rfl).someA (by omega)
   have hlen:(yC (List.replicate i n ++ Vs.drop i)).length=nn:=by rw [qY,List.length_append,List.length_replicate,List.length_drop,hvl]; omega
   have hst:=jgI (V:=Vs) (N:=n) (i:=i) (by omega)
   refine zt ?_; refine z ?_; refine zx ?_
   refine j3 (j7 q2 rfl rfl (S.rd (i:=0) rfl) hget) ?_
   (iterate 3 refine z ?_); refine zt ?_; (iterate 8 refine z ?_); refine zr ?_
   rw [hmm]
   refine zx ?_
   refine qV (i:=0) S rfl (qz2 _) rfl rfl rfl rfl (by rw [hlen]; omega) rfl ?_
   intro w7_ S
   refine zr ?_; refine z ?_
   refine ze ?_
   simp only [Int.toNat_natCast,Nat.mul_one] at S
   rw [hst] at S
   exact ⟨mm - 1,by omega,i+1,by omega,⟨rfl,rfl,rfl,rfl,rfl,rfl,rfl,ie (by omega),trivial⟩,S⟩
  ·obtain rfl:i=nn:=by omega
   rw [List.drop_of_length_le (by omega),List.append_nil] at S
   refine zf ?_
   refine zc ?_
   refine jM rfl ?_
   refine zc ?_
   refine jY ?_
   repeat first | refine jP ?_ | refine jU ?_
   show CW _ _ _ _ _ _
   iterate 4 refine z ?_
   refine jH (i:=1) S rfl (y6 _) rfl rfl rfl rfl rfl rfl ?_
   intro w8_ S
   refine z ?_; refine z ?_
   refine zq ?_
   refine nB q27 rfl (y6 _) rfl (S.blk (i:=1) rfl) rfl rfl rfl rfl ?_
   refine ⟨A_l,c_l,[.row 2 1 A_l i c_l (yC (List.replicate i n))],c_l,?_,?_,?_⟩
   ·rw [List.length_replicate]
   ·rw [List.length_replicate]; exact List.mem_append_left _ (List.mem_singleton.2 rfl)
   ·exact (S.sub (.cons_cons _ (.cons _ (.cons _ (List.Sublist.refl _))))).perm_ (List.Perm.cons _ List.perm_middle.symm)
theorem jg6 {mm:Nat} (hx:x0<=x1/\x1 < s.gw) (hy:y0<=y1/\y1 < s.gh) (ho:o.k=4/\o.x0=x0/\o.y0=y0/\o.x1=x1/\o.y1=y1) (hv:o.vs.n=V.length) (hm:(.row 2 1 o.vs.A V.length mm (yC V)) ∈ M) :
  sB F W (s.L ++ M) s.p o true (24) x0 y0 x1 y1 V:=by
 intro kb tl w S
 have S:=S.perm_ List.perm_middle
 obtain ⟨ok,ox0,oy0,ox1,oy1,ax,ay,bx,by',n,m,⟨vA,vn,vc⟩,bs,bd⟩:=o
 dsimp only at ho hv hm
 obtain ⟨rfl,rfl,rfl,rfl,rfl⟩:=ho
 have S:St F W w (.blk kb 3 [ii 4]::(s.L ++ M ++ tl)):=S
 refine zn Tryz.func24 Tryz.results24 Tryz.ntmps24 ?_
 refine zs ?_
 refine jF (jO rfl) S ?_
 intro b_op w2_ g2_ S
 refine jF (jL qX rfl) S ?_
 intro b_r w4_ g4_ S
 (iterate 3 refine z ?_); refine zf ?_; iterate 3 refine z ?_
 refine jC rfl (qN x0 y0 x1 y1 hx hy (S.grid (i:=4) rfl)) ?_
 rintro _ w5_ ⟨A_l,c_l,rfl,hR_l,hf_l,g5_⟩
 have S:=S.pushRow hR_l hf_l g5_
 (iterate 6 refine z ?_); refine zt ?_
 refine zc ?_
 refine yS rfl ?_
 refine zc ?_
 refine qQ (C:=(CSt F W (.row 2 1 A_l ((y1+1 - y0) * (x1+1 - x0)) c_l (yC (y9 s.gw s.cc x0 y0 (x1+1 - x0) (y1+1 - y0)))::.blk b_r 27 [ii 0,ii 0,ii 0,ii 0]::.blk b_op 34 (OpS.cs ⟨4,x0,y0,x1,y1,ax,ay,bx,by',n,m,⟨vA,vn,vc⟩,bs,bd⟩)::.blk kb 3 [ii 4]::(s.L ++ M ++ tl)) (.row 2 1 A_l ((y1+1 - y0) * (x1+1 - x0)) c_l (yC (y9 s.gw s.cc x0 y0 (x1+1 - x0) (y1+1 - y0)))::.blk b_r 27 [ii x0,ii y0,ii x1,ii y1]::.blk b_op 34 (OpS.cs ⟨4,x0,y0,x1,y1,ax,ay,bx,by',n,m,⟨vA,vn,vc⟩,bs,bd⟩)::.blk kb 3 [ii 4]::(s.L ++ M ++ tl)))) [5] [0,1,2,3,4,5,6] [7] (by kernel_rfl) (by kernel_rfl) (CSt.start (S.gr (Gr.drew _))) ?_
 simp only [yT,j6,List.drop_succ_cons,List.drop_zero]
 refine jX rfl (jD q34 rfl y6 rfl rfl) ?_
 refine qF rfl (fun τ wq hq=>jT q27 rfl (y6 _) rfl (hq.blk (i:=2) rfl rfl) rfl rfl) ?_
 refine jX rfl (jD q34 rfl f5 rfl rfl) ?_
 refine qF rfl (fun τ wq hq=>jB q30 rfl rfl (hq.blk (i:=2) rfl rfl) rfl) ?_
 refine jX rfl (jA rfl) ?_
 refine jZ rfl rfl (fun wq hq=>pS (i:=1) hq rfl (y6 _) rfl rfl rfl rfl rfl rfl (fun w' S'=>S')) ?_
 rintro v13 w13 _
 refine jX rfl (jA rfl) ?_
 refine yV ?_
 rintro wz hz
 have S:St F W wz _:=hz
 refine z ?_
 refine zq ?_
 refine nB q27 rfl (y6 _) rfl (S.blk (i:=1) rfl) rfl rfl rfl rfl ?_
 exact ⟨vA,vc,[],mm,by rw [<-hv],List.mem_append_right _ (List.mem_append_right _ hm),(S.drop 3).perm_ List.perm_middle.symm⟩
end
end
section
open Go.RowKit
theorem CSt.gr {F:Nat->Prop} {W w w':World} {L L1:List HA} {σ:List Value} (h:CSt F W L L1 σ w) (g:Gr w w'):CSt F W L L1 σ w':=by
 cases σ with
 | nil=>exact St.gr h g
 | cons v σ=>exact St.gr h g
theorem CSt.both {F:Nat->Prop} {W w:World} {L L1 T:List HA} {σ:List Value} (n:Nat) (h:CSt F W L L1 σ w) (h0:L.drop n=T) (h1:L1.drop n=T):St F W w T:=by
 cases σ with
 | nil=>exact h0 ▸ St.drop (show St F W w L from h) n
 | cons v σ=>exact h1 ▸ St.drop (show St F W w L1 from h) n
theorem lP {P:Program} {e:Nat->Value} {w:World} {d:Option Tmp} {ty:TypeId} {ps:String} {af:Array Edge} {F:Nat->Prop} {W:World} {L L':List HA} {R:Value->World->Prop} {i:Nat} {t tb:TypeId} {x y:Operand} {b o:Nat} {l:List Value} {v u:Value} (S:St F W w L) (hi:qP L i=some (.blk b tb l)) (hz:(sizeOf t).run P w=.ok 1 w) (hx:ev e x=.pointer (some ⟨b,o,none⟩)) (hy:fz (ev e y)=some v) (hv:v.oneCell'=true) (hvc:v.cells=#[v]) (hl:l[o]?=some u)
  (hs:zF L i (.blk b tb (l.set o v))=some L') (hr:∀ w',St F W w' L'->R undef w'):qM P e ⟨d,.store t x y,ty,ps,af,none⟩ w R :=
 q7 rfl (j8 S hi hz hx hy hv hvc hl hs (fun w' S'=>hr w' S'))
section
variable {F : Nat → Prop} {W w : World} {M tl : List HA} {o : OpS} {s : StS} {x0 y0 x1 y1 kb : Nat}
theorem jcU (hok:s.ok) (hx:x0<=x1/\x1 < s.gw) (hy:y0<=y1/\y1 < s.gh) (hnow:∀ w tl,St F W w (s.L ++ M ++ tl)->NotNow w s.stamp s.ov) (ho:o.k=7/\o.x0=x0/\o.y0=y0/\o.x1=x1/\o.y1=y1) :
  lN F W (s.L ++ M) s.sb o true (26) (fun _:Unit=>{ code:=0,n:=fO s.V s.gw x0 y0 x1 y1:RpS }) (fun _=>s.L ++ M):=by
 intro kb tl w S
 have S:=S.perm_ List.perm_middle
 obtain ⟨ok,ox0,oy0,ox1,oy1,ax,ay,bx,by',n,m,vs,bs,bd⟩:=o
 dsimp only at ho
 obtain ⟨rfl,rfl,rfl,rfl,rfl⟩:=ho
 have S:St F W w (.blk kb 3 [ii 7]::(s.L ++ M ++ tl)):=S
 have hw1:=(S.grid (i:=2) rfl).sw
 have hh1:=(S.grid (i:=2) rfl).sh
 refine zn Tryz.func26 Tryz.results26 Tryz.ntmps26 ?_
 refine zs ?_
 refine jF (jO rfl) S ?_
 intro b_op w2_ g2_ S
 refine jF (jL zP rfl) S ?_
 intro b_out w4_ g4_ S
 refine zs ?_
 refine jF (jL zP rfl) S ?_
 intro b_r w6_ g6_ S
 first | refine jR ?_ | (refine jG ?_; show CW _ _ _ _ _ _) | refine jG ?_
 repeat refine jJ ?_
 refine jI ?_
 refine jE (jA rfl) ?_
 first | refine jR ?_ | (refine jG ?_; show CW _ _ _ _ _ _) | refine jG ?_
 repeat refine jJ ?_
 refine jI ?_
 iterate 2 refine jE (jA rfl) ?_
 refine jE (jD q60 rfl Tryz.sizeOf56 rfl rfl) ?_
 refine j3 (jB Tryz.underlying56 rfl rfl (S.blk (i:=4) rfl) rfl) ?_
 refine jC rfl (sW (S.blk (i:=6) rfl)) ?_
 rintro _ w7_ ⟨rfl,g7_⟩
 have S:=S.gr g7_
 refine z ?_; refine z ?_; refine zf ?_; refine z ?_; refine zt ?_; refine z ?_
 refine zc ?_
 refine yS rfl ?_
 refine zc ?_
 refine qQ (C:=(CSt F W (.blk b_r 41 [ii 0,ii 0,.bool false,ii 0,ii 0,.slice none 0 0,.slice none 0 0,.slice none 0 0,.slice none 0 0,.slice none 0 0]::.blk b_out 41 [ii 0,ii 0,.bool false,ii 0,ii 0,.slice none 0 0,.slice none 0 0,.slice none 0 0,.slice none 0 0,.slice none 0 0]::.blk b_op 34 (OpS.cs ⟨7,x0,y0,x1,y1,ax,ay,bx,by',n,m,vs,bs,bd⟩)::.blk kb 3 [ii 7]::(s.L ++ M ++ tl)) (.blk b_r 41 [ii 0,ii (fO s.V s.gw x0 y0 x1 y1),.bool false,ii 0,ii 0,.slice none 0 0,.slice none 0 0,.slice none 0 0,.slice none 0 0,.slice none 0 0]::.blk b_out 41 [ii 0,ii 0,.bool false,ii 0,ii 0,.slice none 0 0,.slice none 0 0,.slice none 0 0,.slice none 0 0,.slice none 0 0]::.blk b_op 34 (OpS.cs ⟨7,x0,y0,x1,y1,ax,ay,bx,by',n,m,vs,bs,bd⟩)::.blk kb 3 [ii 7]::(s.L ++ M ++ tl)))) [20] [0,1,2,3,4,5,6,7,8,9,10,11,12,13,14,15,16,17,18,19,20] [21] (by kernel_rfl) (by kernel_rfl) (CSt.start (S.gr (Gr.drew _))) ?_
 simp only [yT,j6,List.drop_succ_cons,List.drop_zero]
 refine jX rfl (jA rfl) ?_
 refine jX rfl (jA rfl) ?_
 refine jX rfl (jD q60 rfl Tryz.sizeOf56 rfl rfl) ?_
 refine qF rfl (fun τ wq hq=>jB Tryz.underlying56 rfl rfl (hq.blk (i:=4) rfl rfl) rfl) ?_
 refine jX rfl (jA rfl) ?_
 refine jX rfl (jA rfl) ?_
 refine jX rfl (jD q60 rfl Tryz.sizeOf57 rfl rfl) ?_
 refine qF rfl (fun τ wq hq=>jB q57 rfl rfl (hq.blk (i:=4) rfl rfl) rfl) ?_
 refine jX rfl (jA rfl) ?_
 refine jX rfl (jA rfl) ?_
 refine jX rfl (jD q60 rfl qz2 rfl rfl) ?_
 refine qF rfl (fun τ wq hq=>jB q2 rfl rfl (hq.blk (i:=4) rfl rfl) rfl) ?_
 refine jX rfl (jD q34 rfl y6 rfl rfl) ?_
 refine qF rfl (fun τ wq hq=>jT q27 rfl (y6 _) rfl (hq.blk (i:=2) rfl rfl) rfl rfl) ?_
 refine vV rfl rfl (fun τ wq hq=>(jkt (W:=wq) x0 y0 x1 y1 hok.hB hw1 hh1 hx hy (hnow wq tl (hq.both 4 rfl rfl)) (hq.blk (i:=6) rfl rfl) ⟨s.A1,s.c1,hq.blk (i:=7) rfl rfl,(show Row wq _ _ _ _ _ _ from hq.ok (i:=8) rfl rfl).rd⟩).mono (fun _ _ ⟨hv,hg⟩=>⟨hv,hq.gr hg⟩)) ?_
 refine jX rfl (jA rfl) ?_
 refine jX rfl (jA rfl) ?_
 refine jX rfl (jA rfl) ?_
 refine jX rfl (jA rfl) ?_
 refine jX rfl (jD q41 rfl qz2 rfl rfl) ?_
 refine jZ rfl rfl (fun wq hq=>lP (i:=0) hq rfl (qz2 _) rfl rfl rfl rfl rfl rfl (fun w' S'=>S')) ?_
 rintro v13 w13 _
 refine yV ?_
 rintro wz hz
 have S:St F W wz _:=hz
 iterate 3 refine z ?_
 refine jC rfl (fV (r:={ code:=0,n:=fO s.V s.gw x0 y0 x1 y1 })) ?_
 rintro _ w9_ ⟨rfl,g9_⟩
 have S:=S.gr g9_
 refine jH (i:=1) S rfl (uK _) rfl rfl rfl rfl rfl rfl ?_
 intro w10_ S
 refine zq ?_
 exact v8 q41 rfl (uK _) rfl (S.blk (i:=1) rfl) rfl rfl ⟨(),rfl,(S.drop 3).perm_ List.perm_middle.symm⟩
end
end
section
open Go.RowKit
def CCS (F:Nat->Prop) (W:World) (L:List HA) (T:Value->List HA->Prop) (L':Value->List HA) (σ:List Value) (w:World):Prop:=match σ with
 | []=>St F W w L
 | [v]=>∃ Q,T v Q/\St F W w (Q ++ L)
 | _::v::_=>∃ Q,T v Q/\St F W w (Q ++ L' v)
theorem St.tail {F:Nat->Prop} {W w:World} {Q L:List HA} (S:St F W w (Q ++ L)):St F W w L:=by
 have:=S.drop Q.length
 rwa [List.drop_left] at this
theorem CCS.ok {F:Nat->Prop} {W w:World} {L:List HA} {T:Value->List HA->Prop} {L':Value->List HA} {σ:List Value} (h:CCS F W L T L' σ w) {R:Prop} (h0:St F W w L->R) (h1:∀ v,St F W w (L' v)->R):R:=by
 match σ,h with
 | [],h=>exact h0 h
 | [v],⟨Q,_,S⟩=>exact h0 S.tail
 | _::v::_,⟨Q,_,S⟩=>exact h1 v S.tail
def SnP (sn:Nat) (stamp:Int) (gw gh:Nat) (V:List Int) (Q:List HA):Prop:=∃ tb q Ao co As cs,Q=.blk sn 221 [ii stamp,pt tb,pt q]::jaD tb gw gh V Ao co As cs
def jly:Value->Option Addr
 | .tuple a=>match a.toList with
  | .pointer p::_=>p
  | _=>none
 | _=>none
section
variable {F : Nat → Prop} {W w : World} {M tl : List HA} {o : OpS} {s : StS} {kb : Nat}
theorem jfC (hok:s.ok):lN F W (s.L ++ M) s.sb o false (50) (fun _:{ q:Nat × List HA // SnP q.1 s.stamp s.gw s.gh s.V q.2 }=>RpS.fine) (fun q=>{ s with ov:=some ⟨q.1.1,0,none⟩ }.L ++ (q.1.2 ++ M)):=by
 intro kb tl w S
 refine zn Tryz.func50 Tryz.results50 Tryz.ntmps50 ?_
 refine zs ?_
 refine jF (jO rfl) S ?_
 intro b_op w2_ g2_ S
 refine jF (jL zP rfl) S ?_
 intro b_rp w4_ g4_ S
 refine zc ?_
 refine qQ (C:=(CCS F W (.blk b_rp 41 [ii 0,ii 0,.bool false,ii 0,ii 0,.slice none 0 0,.slice none 0 0,.slice none 0 0,.slice none 0 0,.slice none 0 0]::.blk b_op 34 o.cs::(s.L ++ M ++ (.blk kb 3 [ii o.k]::tl))) (fun v Q=>∃ sn,v=.tuple #[pt sn,ii 0]/\SnP sn s.stamp s.gw s.gh s.V Q) (fun v=>.blk b_rp 41 [ii 0,ii 0,.bool false,ii 0,ii 0,.slice none 0 0,.slice none 0 0,.slice none 0 0,.slice none 0 0,.slice none 0 0]::.blk b_op 34 o.cs::({ s with ov:=jly v }.L ++ M ++ (.blk kb 3 [ii o.k]::tl))))) [9,15] [0,1,2,3,4,5,6,7,8,9,10,11,12,13,14,15] [] (by kernel_rfl) (by kernel_rfl) (S.gr (Gr.drew _)) ?_
 simp only [yT,j6,List.drop_succ_cons,List.drop_zero]
 refine jX rfl (jA rfl) ?_
 refine jX rfl (jA rfl) ?_
 refine jX rfl (jA rfl) ?_
 refine jX rfl (jD q60 rfl Tryz.sizeOf55 rfl rfl) ?_
 refine qF rfl (fun τ wq hq=>hq.ok (fun S=>jB q55 rfl rfl (S.blk (i:=2) rfl) rfl) (fun v S=>jB q55 rfl rfl (S.blk (i:=2) rfl) rfl)) ?_
 refine jX rfl (jA rfl) ?_
 refine jX rfl (jA rfl) ?_
 refine jX rfl (jD q60 rfl qz2 rfl rfl) ?_
 refine qF rfl (fun τ wq hq=>hq.ok (fun S=>jB q2 rfl rfl (S.blk (i:=2) rfl) rfl) (fun v S=>jB q2 rfl rfl (S.blk (i:=2) rfl) rfl)) ?_
 refine jZ rfl rfl (fun wq hq=>uW rfl ((jjZ hok.hB (St.grid (show St F W wq _ from hq) (i:=3) rfl)).mono fun v w' ⟨sn,tb,q,Ao,co,As,cs,hv,S2⟩=>⟨_,⟨sn,hv,tb,q,Ao,co,As,cs,rfl⟩,St.app hq S2⟩)) ?_
 rintro v9 w9 ⟨_,⟨sn9,rfl,_⟩,_⟩
 refine jX rfl (jA rfl) ?_
 refine jX rfl (jA rfl) ?_
 refine jX rfl (jA rfl) ?_
 refine jX rfl (jA rfl) ?_
 refine jX rfl (jD q60 rfl Tryz.sizeOf57 rfl rfl) ?_
 refine jZ rfl rfl (fun wq hq=>(show ∃ Q,_/\St F W wq (Q ++ _) from hq).elim fun Q h=>lP (i:=2) (St.mid (B:=[_,_,_]) h.2) rfl (Tryz.sizeOf57 _) rfl rfl rfl rfl rfl rfl (fun w' S'=>⟨Q,h.1,St.mid (A:=[_,_,_]) S'⟩)) ?_
 rintro v15 w15 _
 refine yV ?_
 rintro wz ⟨Q,⟨sn,e1,hsn⟩,S⟩
 refine zs ?_
 cases e1
 have S:=St.mid (A:=Q) (B:=[_,_]) S
 refine jE (jN (pl:=[(0,1),(1,1),(2,1),(3,2),(5,1),(6,1),(7,1),(8,1),(9,1)]) q41 zP (fun w=>by kernel_rfl) rfl rfl) ?_
 refine jH (i:=0) S rfl (uK _) rfl rfl rfl rfl rfl rfl ?_
 intro w6_ S
 refine zq ?_
 refine v8 q41 rfl (uK _) rfl (S.blk (i:=0) rfl) rfl rfl ⟨⟨(sn9,Q),hsn⟩,rfl,?_⟩
 rw [List.append_assoc,List.append_assoc]
 refine St.mid (A:=Q) (B:=StS.L { s with ov:=some ⟨sn9,0,none⟩ }) ?_
 rw [<-List.append_assoc (StS.L _)]
 exact S.drop 2
end
end
section
open Go.RowKit
section
variable {W : World} {o : OpS} {kb sb sn tb gw gh x0 y0 x1 y1 : Nat} {V : List Int} {stamp : Int} {z : Value} {g0 l0 p0 : Option Addr} {st : Int} {g : Nat}
theorem jko (hB:vB V) (hw:1<=gw/\gw<=1024) (hh:1<=gh/\gh<=1024) (hx:x0<=x1/\x1 < gw) (hy:y0<=y1/\y1 < gh) (ho:o.x0=x0/\o.y0=y0/\o.x1=x1/\o.y1=y1) (hS:Blk W sn 221 [ii stamp,pt tb,z]) (hA:AreaAt W tb gw gh V) (hk:Blk W kb 3 [ii 20]) :
  Fn Tryz.prog 56 [pt sn,o.v,pt kb] W (yK (.tuple #[ii (fO V gw x0 y0 x1 y1),ii 0]) W):=by
 obtain ⟨ok,ox0,oy0,ox1,oy1,ax,ay,bx,by',n,m,vs,bs,bd⟩:=o
 dsimp only at ho
 obtain ⟨rfl,rfl,rfl,rfl⟩:=ho
 have S:=St.start W
 refine zn Tryz.func56 Tryz.results56 Tryz.ntmps56 ?_
 refine zs ?_
 refine jF (jO rfl) S ?_
 intro b_op w2_ g2_ S
 iterate 2 refine jE (jA rfl) ?_
 first | refine jR ?_ | (refine jG ?_; show CW _ _ _ _ _ _) | refine jG ?_
 repeat refine jJ ?_
 refine jI ?_
 refine j3 (jB q3 rfl rfl (hk.gr S.out) rfl) ?_
 refine jE (yP (b:=true) rfl (beq_iff_eq.2 (by omega))) ?_
 first | refine jR ?_ | (refine jG ?_; show CW _ _ _ _ _ _) | refine jG ?_
 repeat refine jJ ?_
 refine yS rfl ?_
 repeat refine jJ ?_
 refine jI ?_
 refine jE (jA rfl) ?_
 refine jE (jD q34 rfl y6 rfl rfl) ?_
 refine j3 (jT q27 rfl (y6 _) rfl (S.blk (i:=0) rfl) rfl rfl) ?_
 refine jC rfl (jiz x0 y0 x1 y1 hB hw hh hx hy (hS.gr S.out) (hA.gr S.out)) ?_
 rintro _ w3_ ⟨rfl,g3_⟩
 have S:=S.gr g3_
 iterate 4 refine jE (jA rfl) ?_
 first | refine jR ?_ | (refine jG ?_; show CW _ _ _ _ _ _) | refine jG ?_
 repeat refine jJ ?_
 refine kO ?_
 repeat first | refine uT ?_ | refine xE ?_
 exact kY rfl rfl ⟨rfl,S.out⟩
theorem ji5 (hS:Blk W sb 60 [.pointer g0,.pointer l0,pt sn,ii st,.pointer p0]):Fn Tryz.prog (379) [uF true (56) kb,pt sb] W (yK (.bool true) W):=by
 unfold uF
 have S:=St.start W
 refine zn Tryz.func379 Tryz.results379 Tryz.ntmps379 ?_
 iterate 4 refine z ?_
 refine j3 (jB q57 rfl rfl (hS.gr S.out) rfl) ?_
 refine jE (nY q57 rfl rfl) ?_
 refine z ?_
 refine zq ?_
 exact yD rfl ⟨rfl,S.out⟩
theorem ji7 (hB:vB V) (hw:1<=gw/\gw<=1024) (hh:1<=gh/\gh<=1024) (hx:x0<=x1/\x1 < gw) (hy:y0<=y1/\y1 < gh) (ho:o.x0=x0/\o.y0=y0/\o.x1=x1/\o.y1=y1) (hS:Blk W sn 221 [ii stamp,pt tb,z]) (hA:AreaAt W tb gw gh V) (hk:Blk W kb 3 [ii 20])
  (hSb:Blk W sb 60 [.pointer g0,.pointer l0,pt sn,ii st,.pointer p0]) :
  Fn Tryz.prog (378) [uF true (56) kb,pt sb,o.v] W (yK ({ code:=0,n:=fO V gw x0 y0 x1 y1 }:RpS).v W):=by
 have hf:=fun w (g:Gr W w)=>jko hB hw hh hx hy ho (hS.gr g) (hA.gr g) (hk.gr g)
 unfold uF
 have S:=St.start W
 refine zn Tryz.func378 Tryz.results378 Tryz.ntmps378 ?_
 refine zs ?_
 refine jF (jO rfl) S ?_
 intro b_op w2_ g2_ S
 refine jF (jL zP rfl) S ?_
 intro b_rp w4_ g4_ S
 refine zc ?_
 refine yB (C:=fun wq=>Gr w4_ wq) [0,1,2,3,4,5,6,7,8,9,10,11] [] (by kernel_rfl) (by kernel_rfl) (Gr.drew _) ?_
 simp only [j6,List.drop_succ_cons,List.drop_zero]
 iterate 4 refine y ?_
 refine jV (fun wq hq=>jB q57 rfl rfl (hSb.gr (S.gr hq).out) rfl) ?_
 refine jV (fun wq hq=>jT q34 rfl (rS _) rfl ((S.gr hq).blk (i:=1) rfl) rfl rfl) ?_
 refine jgy rfl rfl (fun wq hq=>(hf wq (S.gr hq).out).mono (fun _ _ ⟨hv,hg⟩=>⟨hv,hq.trans hg⟩)) ?_
 iterate 5 refine y ?_
 refine yJ ?_
 intro w5_ g5_
 have S:=S.gr g5_
 first | refine jR ?_ | (refine jG ?_; show CW _ _ _ _ _ _) | refine jG ?_
 repeat refine jJ ?_
 refine jI ?_
 refine jE (jA rfl) ?_
 refine jE (jN (pl:=[(0,1),(1,1),(2,1),(3,2),(5,1),(6,1),(7,1),(8,1),(9,1)]) q41 zP (fun w=>by kernel_rfl) rfl rfl) ?_
 refine jE (jA rfl) ?_
 refine jC rfl (fV (r:={ code:=0,n:=fO V gw x0 y0 x1 y1 })) ?_
 rintro _ w6_ ⟨rfl,g6_⟩
 have S:=S.gr g6_
 refine jH (i:=0) S rfl (uK _) rfl rfl rfl rfl rfl rfl ?_
 intro w7_ S
 refine zq ?_
 exact v8 q41 rfl (uK _) rfl (S.blk (i:=0) rfl) rfl rfl ⟨rfl,S.out⟩
theorem jhl (hk:o.k=20) (hB:vB V) (hw:1<=gw/\gw<=1024) (hh:1<=gh/\gh<=1024) (hx:x0<=x1/\x1 < gw) (hy:y0<=y1/\y1 < gh) (ho:o.x0=x0/\o.y0=y0/\o.x1=x1/\o.y1=y1) (hS:Blk W sn 221 [ii stamp,pt tb,z]) (hA:AreaAt W tb gw gh V)
  (hSb:Blk W sb 60 [pt g,.pointer l0,pt sn,ii st,.pointer p0]) :
  Fn Tryz.prog 7 [pt sb,o.v] W (yK ({ code:=0,n:=fO V gw x0 y0 x1 y1 }:RpS).v W):=by
 have hd:=fun kb w (g:Gr W w) hkb=>ji7 (kb:=kb) hB hw hh hx hy ho (hS.gr g) (hA.gr g) hkb (hSb.gr g)
 have hof:=fun w=>jds w
 obtain ⟨ok,ox0,oy0,ox1,oy1,ax,ay,bx,by',n,m,vs,bs,bd⟩:=o
 dsimp only at hk
 subst hk
 unfold uF at *
 have S:=St.start W
 refine zn Tryz.func7 Tryz.results7 Tryz.ntmps7 ?_
 refine zs ?_
 refine jF (jO rfl) S ?_
 intro b_op w2_ g2_ S
 refine jF (jL zP rfl) S ?_
 intro b_rp w4_ g4_ S
 first | refine jR ?_ | (refine jG ?_; show CW _ _ _ _ _ _) | refine jG ?_
 repeat refine jJ ?_
 refine jI ?_
 refine jE (jA rfl) ?_
 refine jE (gY Tryz.underlying28 rfl rfl) ?_
 first | refine jR ?_ | (refine jG ?_; show CW _ _ _ _ _ _) | refine jG ?_
 repeat refine jJ ?_
 refine jM rfl ?_
 repeat refine jJ ?_
 refine j5 ?_
 try show CW _ _ _ _ _ _
 repeat refine jJ ?_
 refine jI ?_
 refine jE (jD q34 rfl qz3 rfl rfl) ?_
 refine j3 (jB q3 rfl rfl (S.blk (i:=1) rfl) rfl) ?_
 refine jC rfl (hof _) ?_
 rintro _ w5_ ⟨kb,rfl,S2⟩
 have S:=S.app S2
 refine jE (jA rfl) ?_
 first | refine jR ?_ | (refine jG ?_; show CW _ _ _ _ _ _) | refine jG ?_
 repeat refine jJ ?_
 refine jI ?_
 refine jE (jA rfl) ?_
 refine jE (jd9 Tryz.underlying50 rfl) ?_
 first | refine jR ?_ | (refine jG ?_; show CW _ _ _ _ _ _) | refine jG ?_
 repeat refine jJ ?_
 refine jM rfl ?_
 repeat refine jJ ?_
 refine j5 ?_
 try show CW _ _ _ _ _ _
 repeat refine jJ ?_
 refine jI ?_
 refine jE (jA rfl) ?_
 refine jE (g9 (b:=false) Tryz.underlying53 rfl (by kernel_rfl) Tryz.zeroValue53) ?_
 iterate 5 refine jE (jA rfl) ?_
 first | refine jR ?_ | (refine jG ?_; show CW _ _ _ _ _ _) | refine jG ?_
 repeat refine jJ ?_
 refine jI ?_
 iterate 3 refine jE (jA rfl) ?_
 first | refine jK rfl ?_ | (refine jQ rfl ?_; refine jE (jA rfl) ?_)
 first | refine jK rfl ?_ | (refine jQ rfl ?_; refine jE (jA rfl) ?_)
 first | refine jK rfl ?_ | (refine jQ rfl ?_; refine jE (jD q60 rfl Tryz.sizeOf55 rfl rfl) ?_)
 first | refine jK rfl ?_ | (refine jQ rfl ?_; refine j3 (jB q55 rfl rfl (hSb.gr S.out) rfl) ?_)
 first | refine jK rfl ?_ | (refine jQ rfl ?_; refine jE (gY q55 rfl rfl) ?_)
 refine jE (jA rfl) ?_
 first | refine jR ?_ | (refine jG ?_; show CW _ _ _ _ _ _) | refine jG ?_
 repeat refine jJ ?_
 refine jM rfl ?_
 repeat refine jJ ?_
 refine j5 ?_
 try show CW _ _ _ _ _ _
 repeat refine jJ ?_
 refine jI ?_
 refine jE (jA rfl) ?_
 refine jE (g9 (b:=true) Tryz.underlying62 rfl (by kernel_rfl) Tryz.zeroValue62) ?_
 iterate 5 refine jE (jA rfl) ?_
 first | refine jR ?_ | (refine jG ?_; show CW _ _ _ _ _ _) | refine jG ?_
 repeat refine jJ ?_
 refine jI ?_
 iterate 2 refine jE (jA rfl) ?_
 first | refine jK rfl ?_ | (refine jQ rfl ?_; refine jE (jA rfl) ?_)
 first | refine jK rfl ?_ | (refine jQ rfl ?_; refine jE (jA rfl) ?_)
 refine jQ rfl ?_
 refine dR rfl (cW (by kernel_rfl) Tryz.underlying119 rfl) rfl (ji5 (kb:=kb) (hSb.gr S.out)) ?_
 rintro _ w6_ ⟨rfl,g6_⟩
 have S:=S.gr g6_
 first | refine jK rfl ?_ | (refine jQ rfl ?_; refine jE (jA rfl) ?_)
 refine jE (jA rfl) ?_
 first | refine jR ?_ | (refine jG ?_; show CW _ _ _ _ _ _) | refine jG ?_
 repeat refine jJ ?_
 refine jM rfl ?_
 repeat refine jJ ?_
 refine j5 ?_
 try show CW _ _ _ _ _ _
 repeat refine jJ ?_
 refine jI ?_
 iterate 2 refine jE (jA rfl) ?_
 refine j3 (jT q34 rfl (rS _) rfl (S.blk (i:=2) rfl) rfl rfl) ?_
 refine dR rfl (cW (by kernel_rfl) Tryz.underlying119 rfl) rfl (hd kb _ S.out (S.blk (i:=0) rfl)) ?_
 rintro _ w7_ ⟨rfl,g7_⟩
 have S:=S.gr g7_
 refine jH (i:=1) S rfl (uK _) rfl rfl rfl rfl rfl rfl ?_
 intro w8_ S
 refine zq ?_
 exact v8 q41 rfl (uK _) rfl (S.blk (i:=1) rfl) rfl rfl ⟨rfl,S.out⟩
end
end
section
open Go.RowKit
section
variable {F : Nat → Prop} {W w : World} {T tl : List HA} {o : OpS} {s : StS} {sb kb gw gh : Nat} {g0 l0 o0 p0 : Option Addr} {st0 : Int}
theorem jaJ:Fn Tryz.prog 11 [] W (fun v w'=>∃ sb pp,v=pt sb/\St No W w' [.blk sb 60 [.pointer none,.pointer none,.pointer none,ii 0,pt pp],.blk pp 76 [.slice none 0 0,ii 0]]):=by
 have S:=St.start W
 refine zn Tryz.func11 Tryz.results11 Tryz.ntmps11 ?_
 refine z ?_
 refine zs ?_
 refine jC rfl (jah) ?_
 rintro _ w1_ ⟨pp,rfl,S2⟩
 have S:=S.app S2
 refine jE (jN (pl:=[(0,1),(1,1),(2,1),(3,1),(4,1)]) q60 Tryz.zeroValue60 (fun w=>by kernel_rfl) rfl rfl) ?_
 refine jF (jO rfl) S ?_
 intro b_sb w3_ g3_ S
 refine z ?_
 refine zq ?_
 exact yD rfl ⟨_,_,rfl,S⟩
theorem jhT (hw:1<=gw/\gw<=1024) (hh:1<=gh/\gh<=1024) (hn:o.n=gw) (hm:o.m=gh):Fn Tryz.prog 44 [o.v] W (pH (fun v=>.tuple #[v,ii 0]) gw gh (fun _=>0) W):=by
 obtain ⟨ok,ox0,oy0,ox1,oy1,ax,ay,bx,by',n,m,vs,bs,bd⟩:=o
 dsimp only at hn hm
 subst hn hm
 have S:=St.start W
 refine zn Tryz.func44 Tryz.results44 Tryz.ntmps44 ?_
 refine zs ?_
 refine jF (jO rfl) S ?_
 intro b_op w2_ g2_ S
 iterate 6 refine z ?_
 refine jC rfl (jkD gw gh 0 hw hh (by decide) _) ?_
 rintro _ w3_ ⟨q,A2,cap2,bs2,Rs2,rfl,hG2,hf2,g3_⟩
 have S:=S.pushGrid hG2 hf2 g3_
 iterate 4 refine z ?_
 refine zq ?_
 exact kY rfl rfl (S.retGrid (i:=0) rfl)
theorem jfZ (hw:1<=gw/\gw<=1024) (hh:1<=gh/\gh<=1024) (hn:o.n=gw) (hm:o.m=gh) (S:St F W w (.blk sb 60 [.pointer g0,.pointer l0,.pointer o0,ii st0,.pointer p0]::T)) :
  Fn Tryz.prog (374) [uF false (44) kb,pt sb,o.v] w (fun v w'=>∃ s':StS,v=RpS.fine.v/\(s'.ok/\s'.sb=sb/\s'.gw=gw/\s'.gh=gh/\s'.ov=none/\s'.V=yA gw gh (fun _=>0)/\s'.l=[]/\s'.done=0/\s'.stamp=0)/\St F W w' (s'.L ++ T)):=by
 obtain ⟨ok,ox0,oy0,ox1,oy1,ax,ay,bx,by',n,m,vs,bs,bd⟩:=o
 have hvB:vB (yA gw gh fun _=>0):=jdT fun _ _=>by decide
 unfold uF
 refine zn Tryz.func374 Tryz.results374 Tryz.ntmps374 ?_
 refine zs ?_
 refine jF (jO rfl) S ?_
 intro b_op w2_ g2_ S
 refine jF (jL zP rfl) S ?_
 intro b_rp w4_ g4_ S
 refine z ?_; refine z ?_
 refine zJ rfl rfl (jhT (gw:=gw) (gh:=gh) (o:=⟨ok,ox0,oy0,ox1,oy1,ax,ay,bx,by',n,m,vs,bs,bd⟩) hw hh hn hm) ?_
 rintro _ w5_ ⟨q,A2,cap2,bs2,Rs2,rfl,hG2,hf2,g5_⟩
 have S:=S.pushGrid hG2 hf2 g5_
 (iterate 6 refine z ?_); refine zt ?_; refine z ?_
 refine jC rfl (jhJ hvB (S.grid (i:=0) rfl)) ?_
 rintro _ w6_ ⟨lb,tb,A1,c1,pb,lA,lc,As,cs,rfl,S2⟩
 have S:=(S.app S2)
 iterate 8 refine z ?_
 refine jC rfl (jah) ?_
 rintro _ w7_ ⟨pp,rfl,S2⟩
 have S:=S.app S2
 refine jE (jN (pl:=[(0,1),(1,1),(2,1),(3,1),(4,1)]) q60 Tryz.zeroValue60 (fun w=>by kernel_rfl) rfl rfl) ?_
 refine z ?_
 refine jH (i:=10) S rfl (Tryz.sizeOf60 _) rfl rfl rfl rfl rfl rfl ?_
 intro w8_ S
 refine z ?_
 refine jE (jN (pl:=[(0,1),(1,1),(2,1),(3,2),(5,1),(6,1),(7,1),(8,1),(9,1)]) q41 zP (fun w=>by kernel_rfl) rfl rfl) ?_
 refine jH (i:=8) S rfl (uK _) rfl rfl rfl rfl rfl rfl ?_
 intro w9_ S
 refine zq ?_
 have S1:=((S.pushNil 216 6).pts0).pick 13 [10,11,12,9,3,4,5,6,7,8,2,1,0] rfl rfl rfl
 exact v8 q41 rfl (uK _) rfl (S.blk (i:=8) rfl) rfl rfl ⟨⟨sb,q,cap2,pp,lb,tb,pb,gw,gh,0,A2,A1,lA,none,none,c1,lc,0,bs2,Rs2,fun _=>0,As,cs,[],0⟩,rfl,⟨⟨hvB,Nat.le_refl _,fun x hx=>by cases hx⟩,rfl,rfl,rfl,rfl,rfl,rfl,rfl,rfl⟩,S1.drop 2⟩
theorem jge {x:PtA} {dn:Nat} (hok:s.ok) (hst:0<=s.stamp/\s.stamp < 1000) (hl:s.l.length < 1000) (hd:s.done=dn+1) (hx:s.l[dn]?=some x) (hX:PtG s.gw s.gh x) (h2:y9 s.gw s.cc x.x0 x.y0 (x.x1+1 - x.x0) (x.y1+1 - x.y0)=x.V2)
  (hbig:s.gw * s.gh < 8 * x.V1.length) (S:St F W w (s.L ++ T)) :
  Fn Tryz.prog (377) [uF false (48) kb,.pointer (some ⟨s.sb,0,none⟩),o.v] w (fun v w'=>∃ s':StS,v=RpS.fine.v/\(s'.ok/\s'.sb=s.sb/\s'.gw=s.gw/\s'.gh=s.gh/\s'.ov=s.ov/\s'.V=yA s.gw s.gh (yW s.gw x.V1 x.x0 x.y0 x.x1 x.y1 s.cc)/\s'.stamp=s.stamp+1)/\St F W w' (s'.L ++ T)):=by
 obtain ⟨sb,p,cap,pp,lb,tb,yb,gw,gh,done,A,A1,lA,pA,ov,c1,lc,pc,bs,Rs,cc,As,cs,l,stamp⟩:=s
 dsimp only at *
 subst hd
 have hw1:1<=gw/\gw<=1024:=(S.grid (i:=1) rfl).sw
 have hh1:1<=gh/\gh<=1024:=(S.grid (i:=1) rfl).sh
 have hl12:x.V2.length=x.V1.length:=by rw [hX.l1,hX.l2]
 have hP:∀ w' A1 A2 c1 c2,Rd w' A1 (yC x.V2)->Rd w' A2 (yC x.V1)->PtOk w' x.x0 x.y0 x.x1 x.y1 x.V1.length c1 c2 A1 A2 x.V2 x.V1:=fun w' A1 A2 c1 c2 r1 r2=>⟨⟨hX.hx.1,by have:=hX.hx; omega⟩,⟨hX.hy.1,by have:=hX.hy; omega⟩,hX.l1,hl12,rfl,hX.m2,hX.m1,r1,r2⟩
 have hdl:dn+1<=l.length:=hok.hd
 have hvB3:=jai (x0:=x.x0) (y0:=x.y0) (x1:=x.x1) (y1:=x.y1) (lO hX.m1) hok.hB
 unfold uF
 refine kK Tryz.func377 rfl Tryz.results377 Tryz.ntmps377 (by kernel_rfl) (by kernel_rfl) ?_
 repeat refine jJ ?_
 refine jI ?_
 refine jF (jO rfl) S ?_
 intro b_op w2_ g2_ S
 refine jF (jL Tryz.zeroValue41 rfl) S ?_
 intro b_rp w4_ g4_ S
 first | refine jR ?_ | (refine jG ?_; show CW _ _ _ _ _ _) | refine jG ?_
 repeat refine jJ ?_
 refine jI ?_
 iterate 3 refine jE (jA rfl) ?_
 refine jE (jD Tryz.underlying60 rfl Tryz.sizeOf58 rfl rfl) ?_
 refine j3 (jB Tryz.underlying58 rfl rfl (S.blk (i:=2) rfl) rfl) ?_
 refine zJ rfl rfl (jdj hw1.2 hh1.2 hdl hl hx hX (S.pick 13 [10,11,12,0,1,2,3,4,5,6,7,8,9] rfl rfl rfl)) ?_
 rintro _ w5_ ⟨B1,k1,B2,k2,rfl,S⟩
 have S:=S.pick 15 [0,1,5,6,7,8,9,10,11,12,13,14,2,3,4] rfl rfl rfl
 iterate 3 refine jE (jA rfl) ?_
 refine jF (jL Tryz.zeroValue216 rfl) S ?_
 intro b_pt w7_ g7_ S
 refine jH (i:=0) S rfl (Tryz.sizeOf216 _) rfl rfl rfl rfl rfl rfl ?_
 intro w8_ S
 refine jE (jA rfl) ?_
 first | refine jR ?_ | (refine jG ?_; show CW _ _ _ _ _ _) | refine jG ?_
 repeat refine jJ ?_
 refine jI ?_
 refine jE (jA rfl) ?_
 refine jE (yP (b:=true) rfl (beq_iff_eq.2 (by omega))) ?_
 first | refine jR ?_ | (refine jG ?_; show CW _ _ _ _ _ _) | refine jG ?_
 repeat refine jJ ?_
 refine yS rfl ?_
 repeat refine jJ ?_
 refine jI ?_
 refine jE (jA rfl) ?_
 refine j3 (jT Tryz.underlying216 rfl (Tryz.sizeOf216 _) rfl (S.blk (i:=0) rfl) rfl rfl) ?_
 refine jC rfl (jgf (s:=⟨sb,p,cap,pp,lb,tb,yb,gw,gh,dn,A,A1,lA,pA,ov,c1,lc,pc,bs,Rs,cc,As,cs,l,stamp⟩) hst (hP _ _ _ _ _ (S.rd (i:=2) rfl) (S.rd (i:=1) rfl)) hX.hx.2 hX.hy.2 hbig hvB3 h2 (S.pick 16 [5,6,7,8,9,10,11,12,13,14,15,1,2,0,3,4] rfl rfl rfl)) ?_
 rintro _ w9_ ⟨rfl,tb2,A2,c2',Rs2,S⟩
 have S:=S.pick 16 [13,11,12,14,15,0,1,2,3,4,5,6,7,8,9,10] rfl rfl rfl
 first | refine jR ?_ | (refine jG ?_; show CW _ _ _ _ _ _) | refine jG ?_
 repeat refine jJ ?_
 refine jI ?_
 refine jE (jA rfl) ?_
 refine jE (jN (pl:=[(0,1),(1,1),(2,1),(3,2),(5,1),(6,1),(7,1),(8,1),(9,1)]) Tryz.underlying41 Tryz.zeroValue41 (fun w=>by kernel_rfl) rfl rfl) ?_
 refine jH (i:=3) S rfl (Tryz.sizeOf41 _) rfl rfl rfl rfl rfl rfl ?_
 intro w10_ S
 first | refine jR ?_ | (refine jG ?_; show CW _ _ _ _ _ _) | refine jG ?_
 repeat refine jJ ?_
 refine kO ?_
 repeat first | refine uT ?_ | refine xE ?_
 exact v8 Tryz.underlying41 rfl (Tryz.sizeOf41 _) rfl (S.blk (i:=3) rfl) rfl rfl ⟨⟨sb,p,cap,pp,lb,tb2,yb,gw,gh,dn,A,A2,lA,pA,ov,c2',lc,pc,bs,Rs2,yW gw x.V1 x.x0 x.y0 x.x1 x.y1 cc,As,cs,l,stamp+1⟩,rfl,⟨⟨hvB3,Nat.le_of_succ_le hdl,hok.hg⟩,rfl,rfl,rfl,rfl,rfl,rfl⟩,S.drop 5⟩
end
end
section
open Go.RowKit
section
variable {F : Nat → Prop} {W w : World} {M T tl : List HA} {o : OpS} {s : StS} {sb gw gh x0 y0 x1 y1 : Nat} {p0 : Option Addr} {V : List Int}
theorem cZ (hk:o.k=1) (hw:1<=gw/\gw<=1024) (hh:1<=gh/\gh<=1024) (hn:o.n=gw) (hm:o.m=gh) (S:St F W w (.blk sb 60 [.pointer none,.pointer none,.pointer none,ii 0,.pointer p0]::T)) :
  Fn Tryz.prog 7 [pt sb,o.v] w (fun v w'=>∃ s':StS,v=RpS.fine.v/\(s'.ok/\s'.sb=sb/\s'.gw=gw/\s'.gh=gh/\s'.ov=none/\s'.V=yA gw gh (fun _=>0)/\s'.l=[]/\s'.done=0/\s'.stamp=0)/\St F W w' (s'.L ++ T)):=by
 have hd:=jju (F:=F) (W:=W) (w:=w) (L0:=[]) (tl:=T) (α:={ s':StS // s'.ok/\s'.sb=sb/\s'.gw=gw/\s'.gh=gh/\s'.ov=none/\s'.V=yA gw gh (fun _=>0)/\s'.l=[]/\s'.done=0/\s'.stamp=0 }) (V:=fun _=>RpS.fine) (Lx:=fun x=>x.1.L) (o:=o) (t:=106) (f:=44) (sb:=sb) (lp:=none) (op:=none) (pp:=p0) (gp:=none) (stamp:=0) (fdo:=374)
  true false (fun h=>by cases h) (hk ▸ jdu) (by kernel_rfl) (by kernel_rfl) (by kernel_rfl) Tryz.underlying106 rfl
  (fun kb tl' w' S=>(jfZ hw hh hn hm S).mono fun v w'' ⟨s',hv,hi,S'⟩=>⟨⟨s',hi⟩,hv,S'⟩) S
 exact hd.mono fun v w' ⟨x,hv,S'⟩=>⟨x.1,hv,x.2,S'⟩
theorem cE {f:FuncId} (hsb:s.sb=sb) (hf0:OfK o.k 78 true f) (hok:s.ok) (hst:0<=s.stamp/\s.stamp < 1000) (hl:s.l.length < 40) (hx:x0<=x1/\x1 < s.gw) (hy:y0<=y1/\y1 < s.gh) (hVl:V.length=(y1+1 - y0) * (x1+1 - x0)) (hmay:∀ v ∈ V,kN v=true)
  (hbig:(∃ x y,x < s.gw/\y < s.gh/\s.cc (y * s.gw+x) ≠ yW s.gw V x0 y0 x1 y1 s.cc (y * s.gw+x))->∀ a b d e:Nat,a<=d/\d < s.gw->b<=e/\e < s.gh->(∀ x y,x < s.gw->y < s.gh->s.cc (y * s.gw+x) ≠ yW s.gw V x0 y0 x1 y1 s.cc (y * s.gw+x)->(a<=x/\x<=d)/\b<=y/\y<=e)->s.gw * s.gh < 8 * ((e+1 - b) * (d+1 - a)))
  (hf:sB F W (s.L ++ M) s.p o true f x0 y0 x1 y1 V) (S:St F W w ((s.L ++ M) ++ tl)) :
  Fn Tryz.prog 7 [pt sb,o.v] w (fun v w'=>∃ s':StS,v=RpS.fine.v/\(s'.ok/\pI s s' (yW s.gw V x0 y0 x1 y1 s.cc))/\St F W w' ((s'.L ++ M) ++ tl)):=by
 subst hsb
 have hd:=jju (F:=F) (W:=W) (w:=w) (L0:=s.rest ++ M) (tl:=tl) (α:={ s':StS // s'.ok/\pI s s' (yW s.gw V x0 y0 x1 y1 s.cc) }) (V:=fun _=>RpS.fine) (Lx:=fun x=>x.1.L ++ M) (o:=o) (t:=78) (f:=f) (sb:=s.sb) (gp:=some ⟨s.p,0,none⟩) (lp:=some ⟨s.lb,0,none⟩) (op:=s.ov) (pp:=some ⟨s.pp,0,none⟩) (stamp:=s.stamp) (fdo:=347)
  false true (fun _=>⟨_,rfl⟩) hf0 (by kernel_rfl) (by kernel_rfl) (by kernel_rfl) Tryz.underlying78 rfl
  (fun kb tl' w' S=>(jfh hok hst hl hx hy hVl hmay hbig hf S).mono fun v w'' ⟨s',hv,hi,S'⟩=>⟨⟨s',hi⟩,hv,S'⟩) S
 exact hd.mono fun v w' ⟨x,hv,S'⟩=>⟨x.1,hv,x.2,S'⟩
theorem zW {α:Type} {Vr:α->RpS} {Lx:α->List HA} {f:FuncId} (hsb:s.sb=sb) (c:Bool) (hf0:OfK o.k 81 c f) (hf:lN F W (s.L ++ M) s.sb o c f Vr Lx) (S:St F W w ((s.L ++ M) ++ tl)) :
  Fn Tryz.prog 7 [pt sb,o.v] w (fun v w'=>∃ x,v=(Vr x).v/\St F W w' (Lx x ++ tl)):=by
 subst hsb
 exact jju (F:=F) (W:=W) (w:=w) (L0:=s.rest ++ M) (tl:=tl) (V:=Vr) (Lx:=Lx) (o:=o) (t:=81) (f:=f) (sb:=s.sb) (gp:=some ⟨s.p,0,none⟩) (lp:=some ⟨s.lb,0,none⟩) (op:=s.ov) (pp:=some ⟨s.pp,0,none⟩) (stamp:=s.stamp) (fdo:=372)
  false c (fun _=>⟨_,rfl⟩) hf0 (by kernel_rfl) (by kernel_rfl) (by kernel_rfl) Tryz.underlying81 rfl (fun kb tl' w' S=>jjB c hf S) S
theorem jhS {x:PtA} {dn:Nat} (hsb:s.sb=sb) (hk:o.k=25) (hok:s.ok) (hst:0<=s.stamp/\s.stamp < 1000) (hl:s.l.length < 1000) (hd:s.done=dn+1) (hx:s.l[dn]?=some x) (hX:PtG s.gw s.gh x) (h2:y9 s.gw s.cc x.x0 x.y0 (x.x1+1 - x.x0) (x.y1+1 - x.y0)=x.V2)
  (hbig:s.gw * s.gh < 8 * x.V1.length) (S:St F W w (s.L ++ T)) :
  Fn Tryz.prog 7 [pt sb,o.v] w (fun v w'=>∃ s':StS,v=RpS.fine.v/\(s'.ok/\s'.sb=s.sb/\s'.gw=s.gw/\s'.gh=s.gh/\s'.ov=s.ov/\s'.V=yA s.gw s.gh (yW s.gw x.V1 x.x0 x.y0 x.x1 x.y1 s.cc)/\s'.stamp=s.stamp+1)/\St F W w' (s'.L ++ T)):=by
 subst hsb
 have hd:=jju (F:=F) (W:=W) (w:=w) (L0:=s.rest) (tl:=T) (α:={ s':StS // s'.ok/\s'.sb=s.sb/\s'.gw=s.gw/\s'.gh=s.gh/\s'.ov=s.ov/\s'.V=yA s.gw s.gh (yW s.gw x.V1 x.x0 x.y0 x.x1 x.y1 s.cc)/\s'.stamp=s.stamp+1 }) (V:=fun _=>RpS.fine) (Lx:=fun x=>x.1.L) (o:=o) (t:=112) (f:=48) (sb:=s.sb) (gp:=some ⟨s.p,0,none⟩) (lp:=some ⟨s.lb,0,none⟩) (op:=s.ov) (pp:=some ⟨s.pp,0,none⟩) (stamp:=s.stamp) (fdo:=377)
  false false (fun _=>⟨_,rfl⟩) (hk ▸ jhm) (by kernel_rfl) (by kernel_rfl) (by kernel_rfl) Tryz.underlying112 rfl
  (fun kb tl' w' S=>(jge hok hst hl hd hx hX h2 hbig S).mono fun v w'' ⟨s',hv,hi,S'⟩=>⟨⟨s',hi⟩,hv,S'⟩) S
 exact hd.mono fun v w' ⟨x,hv,S'⟩=>⟨x.1,hv,x.2,S'⟩
end
end
section
open Go.RowKit
theorem jeB {s s':StS} {c2:Nat->Int} {x:PtA} (hp:pI s s' c2) (h1:x.V1=y9 s.gw s.cc x.x0 x.y0 (x.x1+1 - x.x0) (x.y1+1 - x.y0))
  (hin:∀ a b,a < s.gw->b < s.gh->s.cc (b * s.gw+a) ≠ c2 (b * s.gw+a)->(x.x0<=a/\a<=x.x1)/\x.y0<=b/\b<=x.y1):yA s'.gw s'.gh (yW s'.gw x.V1 x.x0 x.y0 x.x1 x.y1 s'.cc)=s.V:=by
 have hV:yA s'.gw s'.gh s'.cc=yA s.gw s.gh c2:=hp.V
 rw [hp.gw,hp.gh] at hV ⊢
 rw [h1]
 refine nS fun a b ha hb hne=>hin a b ha hb fun e=>hne ?_
 have hi:b * s.gw+a < s.gw * s.gh:=by
  have h1:=Nat.mul_le_mul_right s.gw (show b+1<=s.gh by omega)
  rw [Nat.succ_mul,Nat.mul_comm s.gh] at h1
  omega
 rw [e]
 exact dH hV hi
theorem St.nil1 {F:Nat->Prop} {W w:World} {L T:List HA} (S:St F W w (L ++ T)):St F W w ((L ++ []) ++ T):=by rw [List.append_nil]; exact S
theorem St.nil2 {F:Nat->Prop} {W w:World} {L T:List HA} (S:St F W w ((L ++ []) ++ T)):St F W w (L ++ T):=by rw [List.append_nil] at S; exact S
theorem St.asc {F:Nat->Prop} {W w:World} {A B C:List HA} (S:St F W w ((A ++ B) ++ C)):St F W w (A ++ (B ++ C)):=by rw [<-List.append_assoc]; exact S
theorem St.csa {F:Nat->Prop} {W w:World} {A B C:List HA} (S:St F W w (A ++ (B ++ C))):St F W w ((A ++ B) ++ C):=by rw [List.append_assoc]; exact S
theorem jkQ {s:StS} {P:Nat->Nat->Nat->Nat->Prop} (h1:s.gw=2) (h2:s.gh=1):∀ a b d e:Nat,a<=d/\d < s.gw->b<=e/\e < s.gh->P a b d e->s.gw * s.gh < 8 * ((e+1 - b) * (d+1 - a)):=fun a b d e ha hb _=>by
 have:=Nat.mul_le_mul (show 1<=e+1 - b by omega) (show 1<=d+1 - a by omega)
 rw [h1,h2]
 omega
section
variable {W : World}
theorem jf1:Fn Tryz.prog 14 [] W (yK (.bool true) W):=by
 have S:=St.start W
 refine zn Tryz.func14 Tryz.results14 Tryz.ntmps14 ?_
 refine z ?_
 refine zs ?_
 refine jC rfl (jaJ) ?_
 rintro _ w1_ ⟨sb,pp,rfl,S2⟩
 have S:=S.app S2
 refine z ?_
 refine zs ?_
 refine jE (jN (pl:=[(0,1),(1,1),(2,1),(3,1)]) q27 qX (fun w=>by kernel_rfl) rfl rfl) ?_
 refine jF (jL qX rfl) S ?_
 intro b_all w3_ g3_ S
 refine jH (i:=0) S rfl (y6 _) rfl rfl rfl rfl rfl rfl ?_
 intro w4_ S
 refine z ?_
 refine jE (jN (pl:=[(0,1),(1,4),(5,2),(7,2),(9,1),(10,1),(11,1),(12,1),(13,1)]) q34 nH (fun w=>by kernel_rfl) rfl rfl) ?_
 refine jC rfl (cZ (o:=⟨1,0,0,0,0,0,0,0,0,2,1,.nil,.nil,.nil⟩) (gw:=2) (gh:=1) rfl (by decide) (by decide) rfl rfl (S.pick 3 [1,0,2] rfl rfl rfl)) ?_
 rintro _ w5_ ⟨s1,rfl,⟨hok1,hsb1,hgw1,hgh1,hov1,hV1,hl1,hd1,hst1⟩,S⟩
 refine z ?_
 refine jE (jN (pl:=[(0,1),(1,4),(5,2),(7,2),(9,1),(10,1),(11,1),(12,1),(13,1)]) q34 nH (fun w=>by kernel_rfl) rfl rfl) ?_
 have S:=S.mid (A:=s1.L) (B:=[_])
 refine jC rfl (cE (s:=s1) (M:=[]) (o:=⟨2,0,0,0,0,0,0,0,0,5,0,.nil,.nil,.nil⟩) (x0:=0) (y0:=0) (x1:=0) (y1:=0) (V:=List.replicate ((0+1 - 0) * (0+1 - 0)) 5) hsb1 (dX (by decide) (by decide)) hok1 (by omega) (by rw [hl1]; decide) (by omega) (by omega) (by simp) (by simp [kN]) (fun _=>jkQ hgw1 hgh1) (jbp (by omega) (by omega) (by simp [kN]) (.inl ⟨rfl,rfl,rfl,rfl,rfl⟩)) (S.mid (A:=[_]) (B:=s1.L)).nil1) ?_
 rintro _ w6_ ⟨s2,rfl,⟨hok2,hp2⟩,S⟩
 have S:=S.nil2.mid (A:=s2.L) (B:=[_])
 refine ze ?_
 have hsb2:s2.sb=sb:=hp2.sb.trans hsb1
 have hgw2:s2.gw=2:=hp2.gw.trans hgw1
 have hgh2:s2.gh=1:=hp2.gh.trans hgh1
 have hst2:0<=s2.stamp/\s2.stamp<=1:=by rcases hp2.ch with ⟨h,_⟩ | ⟨h,_⟩ <;> omega
 have hl2:s2.l.length<=1:=by
  rcases hp2.ch with ⟨_,h,_⟩ | ⟨_,x,h,_⟩
  ·rw [h,hl1]; simp
  ·rw [h,hl1]; simp
 refine z ?_
 refine jE (jN (pl:=[(0,1),(1,4),(5,2),(7,2),(9,1),(10,1),(11,1),(12,1),(13,1)]) q34 nH (fun w=>by kernel_rfl) rfl rfl) ?_
 refine jC rfl (zW (s:=s2) (M:=[]) (o:=⟨18,0,0,0,0,0,0,0,0,0,0,.nil,.nil,.nil⟩) hsb2 false jdt (jfC hok2) (S.mid (A:=[_]) (B:=s2.L)).nil1) ?_
 rintro _ w7_ ⟨⟨⟨sn,Q⟩,hsn⟩,rfl,S⟩
 have S:=S.mid (B:=[_])
 refine ze ?_
 obtain ⟨tb,q,Ao,co,Fs,fcs,hQ⟩:=hsn
 dsimp only at hQ S
 rw [List.append_nil] at S
 have hc1:s1.cc 1=0:=by
  have h:yA s1.gw s1.gh s1.cc=yA 2 1 (fun _=>0):=hV1
  rw [hgw1,hgh1] at h
  exact dH h (by decide)
 have hV2:s2.V=[5,0]:=by
  rw [hp2.V,hgw1,hgh1]
  show [(5:Int),s1.cc 1]=[5,0]
  rw [hc1]
 obtain ⟨s3,hs3⟩:∃ s3:StS,{ s2 with ov:=some ⟨sn,0,none⟩ }=s3:=⟨_,rfl⟩
 have hsb3:s3.sb=sb:=by rw [<-hs3]; exact hsb2
 have hgw3:s3.gw=2:=by rw [<-hs3]; exact hgw2
 have hgh3:s3.gh=1:=by rw [<-hs3]; exact hgh2
 have hV3:s3.V=[5,0]:=by rw [<-hs3]; exact hV2
 have hst3:s3.stamp=s2.stamp:=by rw [<-hs3]
 have hl3:s3.l.length<=1:=by rw [<-hs3]; exact hl2
 have hov3:s3.ov=some ⟨sn,0,none⟩:=by rw [<-hs3]
 have hok3:s3.ok:=by rw [<-hs3]; exact ⟨hok2.hB,hok2.hd,hok2.hg⟩
 rw [hs3] at S
 repeat refine jJ ?_
 refine jI ?_
 refine jE (jA rfl) ?_
 refine j3 (jT q27 rfl (y6 _) rfl (S.blk (i:=0) rfl) rfl rfl) ?_
 refine jE (jN (pl:=[(0,1),(1,4),(5,2),(7,2),(9,1),(10,1),(11,1),(12,1),(13,1)]) q34 nH (fun w=>by kernel_rfl) rfl rfl) ?_
 refine jC rfl (cE (s:=s3) (M:=Q) (o:=⟨3,0,0,1,0,0,0,0,0,1,0,.nil,.nil,.nil⟩) (x0:=0) (y0:=0) (x1:=1) (y1:=0) (V:=List.replicate ((0+1 - 0) * (1+1 - 0)) 1) hsb3 (dX (by decide) (by decide)) hok3 (by omega) (by omega) (by omega) (by omega) (by simp) (by simp [kN]) (fun _=>jkQ hgw3 hgh3) (jbp (by omega) (by omega) (by simp [kN]) (.inr ⟨rfl,rfl,rfl,rfl,rfl⟩)) (S.mid (A:=[_]) (B:=s3.L ++ Q))) ?_
 rintro _ w8_ ⟨s4,rfl,⟨hok4,hp4⟩,S⟩
 have S:=S.mid (A:=s4.L ++ Q) (B:=[_])
 refine ze ?_
 have hsb4:s4.sb=sb:=hp4.sb.trans hsb3
 have hgw4:s4.gw=2:=hp4.gw.trans hgw3
 have hgh4:s4.gh=1:=hp4.gh.trans hgh3
 have hov4:s4.ov=some ⟨sn,0,none⟩:=hp4.ov.trans hov3
 have hch:s4.stamp=s3.stamp+1/\∃ x:PtA,s4.l=s3.l.take s3.done ++ [x]/\s4.done=s4.l.length/\PtG s3.gw s3.gh x/\x.V1=y9 s3.gw s3.cc x.x0 x.y0 (x.x1+1 - x.x0) (x.y1+1 - x.y0)/\x.V2=y9 s3.gw s4.cc x.x0 x.y0 (x.x1+1 - x.x0) (x.y1+1 - x.y0) /\
   ∀ a b,a < s3.gw->b < s3.gh->s3.cc (b * s3.gw+a) ≠ yW s3.gw (List.replicate ((0+1 - 0) * (1+1 - 0)) 1) 0 0 1 0 s3.cc (b * s3.gw+a)->(x.x0<=a/\a<=x.x1)/\x.y0<=b/\b<=x.y1:=by
  rcases hp4.ch with ⟨_,_,_,h⟩ | h
  ·exfalso
   rw [hV3,hgw3,hgh3] at h
   have h:[(5:Int),0]=[1,1]:=h
   cases h
  ·exact h
 obtain ⟨hst4,x,hl4,hd4,hX,hx1,hx2,hin⟩:=hch
 have hSb:Blk _ sb 60 s4.top:=hsb4 ▸ S.blk (i:=1) rfl
 unfold StS.top at hSb
 rw [hov4] at hSb
 subst hQ
 have hX4:PtG s4.gw s4.gh x:=by rw [hp4.gw,hp4.gh]; exact hX
 have hold:fO s2.V s2.gw 0 0 1 0=5:=by rw [hV2,hgw2]; rfl
 have har:1<=x.V1.length:=by
  have h1:=hX.hx
  have h2:=hX.hy
  rw [hX.l1]
  exact Nat.mul_le_mul (show 1<=x.y1+1 - x.y0 by omega) (show 1<=x.x1+1 - x.x0 by omega)
 repeat refine jJ ?_
 refine jI ?_
 refine jE (jA rfl) ?_
 refine j3 (jT q27 rfl (y6 _) rfl (S.blk (i:=0) rfl) rfl rfl) ?_
 refine jE (jN (pl:=[(0,1),(1,4),(5,2),(7,2),(9,1),(10,1),(11,1),(12,1),(13,1)]) q34 nH (fun w=>by kernel_rfl) rfl rfl) ?_
 refine jC rfl (((jhl (o:=⟨20,0,0,1,0,0,0,0,0,0,0,.nil,.nil,.nil⟩) (V:=s2.V) (gw:=s2.gw) (gh:=s2.gh) (x0:=0) (y0:=0) (x1:=1) (y1:=0) rfl hok2.hB (by omega) (by omega) (by omega) (by omega) ⟨rfl,rfl,rfl,rfl⟩ (S.blk (i:=12) rfl) (S.drop 13).areaAt hSb).mono fun v w' ⟨hv,hg⟩=>(show v=RpS.v { code:=0,n:=5 }/\Gr _ w' from ⟨by rw [hv,hold],hg⟩))) ?_
 rintro _ w9_ ⟨rfl,g9_⟩
 have S:=S.gr g9_
 refine jF (jL zP rfl) S ?_
 intro b_ra w11_ g11_ S
 refine jH (i:=0) S rfl (uK _) rfl rfl rfl rfl rfl rfl ?_
 intro w12_ S
 refine z ?_
 refine jE (jN (pl:=[(0,1),(1,4),(5,2),(7,2),(9,1),(10,1),(11,1),(12,1),(13,1)]) q34 nH (fun w=>by kernel_rfl) rfl rfl) ?_
 refine jC rfl (jhS (s:=s4) (x:=x) (o:=⟨25,0,0,0,0,0,0,0,0,0,0,.nil,.nil,.nil⟩) (dn:=(s3.l.take s3.done).length) hsb4 rfl hok4 (by omega) (by rw [hl4,List.length_append,List.length_take]; simp; omega) (by rw [hd4,hl4,List.length_append]; rfl) (by rw [hl4,List.getElem?_append_right (Nat.le_refl _),Nat.sub_self]; rfl) hX4 (by rw [hp4.gw]; exact hx2.symm) (by rw [hgw4,hgh4]; omega) (S.mid (A:=[_,_]) (B:=s4.L ++ _)).asc) ?_
 rintro _ w13_ ⟨s5,rfl,⟨hok5,hsb5,hgw5,hgh5,hov5,hV5,hst5⟩,S⟩
 have S:=S.csa.mid (A:=s5.L ++ _) (B:=[_,_])
 refine ze ?_
 have hV5':s5.V=[5,0]:=(hV5.trans (jeB hp4 hx1 hin)).trans hV3
 have hsum:fO s5.V s5.gw 0 0 1 0=5:=by rw [hV5',hgw5,hgw4]; rfl
 have hgw5':s5.gw=2:=hgw5.trans hgw4
 have hgh5':s5.gh=1:=hgh5.trans hgh4
 have hne:s2.stamp ≠ s5.stamp:=by omega
 have hov5':s5.ov=some ⟨sn,0,none⟩:=hov5.trans hov4
 have hsu:=fun w TL (S:St No W w ((s5.L ++ (.blk sn 221 [ii s2.stamp,pt tb,pt q]::jaD tb s2.gw s2.gh s2.V Ao co Fs fcs)) ++ TL))=>(zW (s:=s5) (o:=⟨7,0,0,1,0,0,0,0,0,0,0,.nil,.nil,.nil⟩) (hsb5.trans hsb4) true (cU (by decide) (by decide)) (jcU (x0:=0) (y0:=0) (x1:=1) (y1:=0) hok5 (by omega) (by omega) (fun w tl S=>.inr ⟨sn,s2.stamp,_,_,hov5',hne,S.blk (i:=11) rfl⟩) ⟨rfl,rfl,rfl,rfl,rfl⟩) S).mono fun v w' ⟨_,hv,S⟩=>(show v=RpS.v { code:=0,n:=5 }/\St No W w' ((s5.L ++ (HA.blk sn 221 [ii s2.stamp,pt tb,pt q]::jaD tb s2.gw s2.gh s2.V Ao co Fs fcs)) ++ TL) from ⟨by rw [hv]; show RpS.v _=_; rw [hsum],S⟩)
 repeat refine jJ ?_
 refine jI ?_
 refine jE (jA rfl) ?_
 refine j3 (jT q27 rfl (y6 _) rfl (S.blk (i:=1) rfl) rfl rfl) ?_
 refine jE (jN (pl:=[(0,1),(1,4),(5,2),(7,2),(9,1),(10,1),(11,1),(12,1),(13,1)]) q34 nH (fun w=>by kernel_rfl) rfl rfl) ?_
 refine jC rfl (hsu _ _ (S.mid (A:=[_,_]) (B:=s5.L ++ _))) ?_
 rintro _ w14_ ⟨rfl,S⟩
 have S:=S.mid (A:=s5.L ++ _) (B:=[_,_])
 refine jF (jL zP rfl) S ?_
 intro b_rb w16_ g16_ S
 refine jH (i:=0) S rfl (uK _) rfl rfl rfl rfl rfl rfl ?_
 intro w17_ S
 first | refine jR ?_ | (refine jG ?_; show CW _ _ _ _ _ _) | refine jG ?_
 repeat refine jJ ?_
 refine jI ?_
 refine jE (jD q41 rfl Tryz.sizeOf36 rfl rfl) ?_
 refine j3 (jB Tryz.underlying36 rfl rfl (S.blk (i:=1) rfl) rfl) ?_
 refine zw5 ⟨?_⟩
 refine jE (jA rfl) ?_
 first | refine jK rfl ?_ | (refine jQ rfl ?_; refine jE (jD q41 rfl qz2 rfl rfl) ?_)
 first | refine jK rfl ?_ | (refine jQ rfl ?_; refine j3 (jB q2 rfl rfl (S.blk (i:=1) rfl) rfl) ?_)
 refine zw4 ⟨?_⟩
 iterate 4 refine z ?_
 refine zw4 ⟨?_⟩
 iterate 4 refine z ?_
 refine zw4 ⟨?_⟩
 refine z ?_; refine z ?_
 refine zq ?_
 exact yD rfl ⟨rfl,S.out⟩
end
end
end Go.Proofs.YtipnifjmhlcehaaGreatDoor
