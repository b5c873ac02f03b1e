/- hachuretop.WholeLevels: a part of the proof that the law returns true at every input; no condition of its own. -/
import Derived.Test.YtjfeklflkikapaaGreatDoorKN
import Derived.Test.YtjfeklflkikapaaGreatDoorKS
import Derived.Test.YtjfeklflkikapaaGreatDoorKU
set_option maxRecDepth 100000
set_option maxHeartbeats 16000000
set_option linter.unusedVariables false
set_option linter.unusedSimpArgs false
namespace Go.Proofs.YtjfeklflkikapaaGreatDoor
open Go.Proofs.Tryz Go.RowKit
variable{af:Array Edge}{h h':HA}{a now stamp:Int}{kc kl:IntKind}{es:List (Int × Int)}{σ:List (Nat × Value)}{ws:List ByteArray}{L' T tl:List HA}{V':List Int}{hd:List Nat}{l l' ol vs xs τ:List Value}{N b bytes c c1 c2 cx cy el elM g gh gw i j k k' kM lc lh lw m n n' nM ob p pb q rb sb sn sz tb x0 x1 y0 y1:Nat}{sp:Nat->Bool}{c' c0 cc:Nat->Int}{bs o':Nat->Nat}{R':Nat->Nat->Bool}{As:Nat->Option Addr}{Rs:Nat->Option Nat}{F:Nat->Prop}{e:Nat->Value}{o2:Oper}{hi lo x:Operand}{A A1 A2 B l0 lA:Option Addr}{ysf:Option Addr->List Value}{d:Option Tmp}{P:Program}{t ty:TypeId}{u v3:Value}{R:Value->World->Prop}{W w w' wq:World}{C:World->Prop}
def DE(F:Nat->Prop)(W:World)(L:List HA)(i el k n:Nat)(xs:List Value)(ysf:Option Addr->List Value)(elM kM nM:Nat)(zs:List Value)(wq:World):List Value->Prop
 |[]=>St F W wq L
 |[m]=>∃A,m=.slice A nM nM/\dO A/\St F W wq (.row elM kM A nM nM zs::L)
 |[b,m]=>∃A,m=.slice A nM nM/\dO A/\CS F W (.row elM kM A nM nM zs::L) (i+1) el k n xs (ysf A) wq [b]
 |[u,b,m]=>∃A,m=.slice A nM nM/\dO A/\CS F W (.row elM kM A nM nM zs::L) (i+1) el k n xs (ysf A) wq [u,b]
 |_=>False
section
variable{L:List HA}{zs:List Value}
theorem DE.gr(h:DE F W L i el k n xs ysf elM kM nM zs wq τ)(g:Gr wq w'):DE F W L i el k n xs ysf elM kM nM zs w' τ:=by
 match τ,h with
 |[],h=>exact St.gr (show St F W wq L from h) g
 |[m],⟨A,e,s,h⟩=>exact⟨A,e,s,h.gr g⟩
 |[b,m],⟨A,e,s,h⟩=>exact⟨A,e,s,CS.gr h g⟩
 |[u,b,m],⟨A,e,s,h⟩=>exact⟨A,e,s,CS.gr h g⟩
theorem DE.ok(h:DE F W L i el k n xs ysf elM kM nM zs wq τ)(y:j≠i){x:HA}(v:gi L j=some x):x.ok wq:=by
 match τ,h with
 |[],h=>exact St.ok (show St F W wq L from h) v
 |[m],⟨A,e,s,h⟩=>exact h.ok (i:=j+1) v
 |[b,m],⟨A,e,s,h⟩=>exact CS.ok h (j:=j+1) om v
 |[u,b,m],⟨A,e,s,h⟩=>exact CS.ok h (j:=j+1) om v
end
section
variable{ps:String}{L:List HA}{zs:List Value}
theorem xp{o:Oper}{R':Value->World->Prop}(h:gI P e o w R)(y:∀v w',R v w'->R' v w'):gI P e o w R':=by
 unfold gI at *;generalize (execOp (ev e) o).run P w=r at *;cases r with
 |ok x w'=>cases x<;>first|exact y _ _ h|exact h.elim|(exact h.mono λ_ _⟨v,he,hR⟩=>⟨v,he,y _ _ hR⟩)|exact⟨h.1,RoundIn.mono h.2 λ_ _⟨v,he,hR⟩=>⟨v,he,y _ _ hR⟩⟩
 |halt x w'=>exact h.elim
theorem KZ{y:Operand}{z:Value}{m p:Int}(hq:DE F W L i el k n xs ysf elM kM nM zs wq [])(hu:P.underlying t=some (.slice elM))(U:(P.info? elM).map (λi=>(i.zero,i.size,i.bytes))=some (some z,kM,bytes))(O:Nat.beq z.cells.size kM=true)(hx:ev e x=.int kl m)(hy:ev e y=.int kc p)(hm:m=(nM:Nat))(hp:p=(nM:Nat))(J:nM*(bytes+1)<=140737488355328)(I:(List.replicate nM z.cells.toList).flatten=zs) :
  gI P e ⟨d,.makeSlice t x y,ty,ps,af,none⟩ wq (λv w'=>DE F W L i el k n xs ysf elM kM nM zs w' [v]):=by
 subst I;have h:=Fe (P:=P) (w:=wq) (d:=d) (ty:=ty) (ps:=ps) (af:=af) (e:=e) hu U O hx hy hm hp (cN _) J;have D:=eU O;have V:nM<=140737488355328:=dE (eS _ om) J;refine AY h ?_;have S:St F W wq L:=hq;refine⟨_,rfl,pS _ _,S.push (Gr.alloc _ _) (h:=.row elM kM (some ⟨wq.heap.size,0,none⟩) nM nM _) (gH.of_blk (eL.new _ _ _) (by simp[D]) (by unfold maxLen;omega)) (λg Z=>?_)⟩;have:wq.heap.size=g:=by injection Z
 omega
theorem Jt{v:Value}{y:List (Nat×Operand)}{z:Value}{l0:List Value}(V:DE F W L i el k n xs ysf elM kM nM zs wq [v])(hu:P.underlying t=some (.slice el))(Z:∀w,(sizeOf el).run P w=.ok k w)(hz:∀w,(zeroValue el).run P w=.ok z w)(J:z.cells.toList.length=k)(D:Nat.beq (1*k) 0=false)(U:Nat.ble (1*k) 16777216=true)(h1:yS (λi=>some (i*k,k)) ((List.replicate 1 z.cells.toList).flatten) (yQ e y)=some l0)(h2:lj l0=some l)(O:Nat.beq l.length (1*k)=true)(I:∀A,v=.slice A nM nM->l=ysf A) :
  gI P e ⟨d,.buildSlice t 1 y.toArray,ty,ps,af,none⟩ wq (λb w'=>DE F W L i el k n xs ysf elM kM nM zs w' [b,v]):=by
 obtain⟨A,rfl,s,S⟩:=V;have h:=I A rfl;subst h;exact xp (rO (L:=.row elM kM A nM nM zs::L) (i:=i+1) (xs:=xs) (n:=n) S hu Z hz J D U h1 h2 O) λb w' h=>⟨A,rfl,s,h⟩
theorem Nr{s:Operand}{t:Nat}{D:Option Addr}{z b v:Value}(Z:DE F W L i el k n xs ysf elM kM nM zs wq [b,v])(hi:gi L i=some (.row el k D n c xs))(O:∀h,∃L',j7 L i h=some L')(hu:P.underlying t=some (.slice el))(I:(P.info? el).map (λi=>(i.zero,i.size,i.bytes))=some (some z,k,bytes))(hz:Nat.beq z.cells.size k=true)(U:Nat.blt 0 k=true)(hs:ev e s=.slice D n c)(hx:ev e x=b)(V:∀A,(ysf A).length=1*k)(h1:∀A,((ysf A).all λv=>v.oneCell')=true)(J:(n+1)*(bytes+1)<=140737488355328) :
  gI P e ⟨d,.call ⟨.builtin .append,#[s,x],#[t,t]⟩,ty,ps,af,none⟩ wq (λu w'=>DE F W L i el k n xs ysf elM kM nM zs w' [u,b,v]):=by
 obtain⟨A,rfl,sa,S⟩:=Z;refine xp (u6 (L:=.row elM kM A nM nM zs::L) (i:=i+1) S hi (λh=>?_) hu I hz U hs hx (V A) (h1 A) J) λu w' h=>⟨A,rfl,sa,h⟩;obtain⟨L',y⟩:=O h;exact⟨.row elM kM A nM nM zs::L',by show(match j7 L i h with|some s=>some (HA.row elM kM A nM nM zs::s)|none=>none)=_;rw[y]⟩
end
section
variable{cap:Nat}
theorem Ns:(prog.info? 384).map (λi=>(i.zero,i.size,i.bytes))=some (some (.agg #[ii 0,ii 0,.slice none 0 0]),3,40):=by kernel_rfl
theorem Nt(U:eJ W p gw gh cc A cap bs Rs):Fn prog 407 [pt p] W (λv w'=>∃pb lA lc As cs,v=.tuple #[pt pb,ii 0] /\
  St No W w' [.blk pb 305 [.slice lA (fW gw gh) lc],.row 384 3 lA (fW gw gh) lc (ut (fW gw gh) gw gh As cs),.pfam 151 2 (fW gw gh) As (mG gw gh) cs (wX gw gh (dw gw gh cc))]):=by
 have L:=U.sw;have J:=U.sh;have hl:=lI L.2 J.2;have I:=U.top;have S:=St.start W;refine zI func407 ?_;refine zN ?_;intro y au am S;refine zC (mC p gw gh _ _ (I.gr S.out)) ?_;intro av an S;refine zC (Bz L J) ?_;intro aw ao S;refine zg ?_;have S:=(S.pushNil 384 3).swap;have S:=(S.pfam0 (el:=151) (sz:=2) (λ_=>none) (mG gw gh) (λ_=>0) (λk=>mq (mG gw gh k) (λ_=>⟨0,0⟩)))
 refine dl (λm e w=>∃(k:Nat)(lA:Option Addr)(lc:Nat)(As:Nat->Option Addr)(cs:Nat->Nat),k+m=fW gw gh/\SL e [(0,pt p),(4,pt y),(5,ii gw),(6,ii gh),(28,ii (fW gw gh)),(29,ii k)] /\
  St No W w [.pfam 151 2 k As (mG gw gh) cs (λk=>mq (mG gw gh k) (λ_=>⟨0,0⟩)),.blk y 305 [.slice lA k lc],.row 384 3 lA k lc (ut k gw gh As cs)]) (fW gw gh)
  ⟨0,none,0,λ_=>none,λ_=>0,om,sl,S⟩ ?_
 clear S;rintro m e w ⟨k,lA,lc,As,cs,hk,ad,S⟩;rw[ad.fold];by_cases ac:k<fW gw gh
 ·have ae:=KE k L J;have O:((dG gw k:Nat):Int)*(dG gh k:Nat)=(mG gw gh k:Nat):=by unfold mG;push_cast;rfl
  have ah:mG gw gh k<=1024*1024:=ae;have ag:=QG (mG gw gh k);refine zC (xL k L J ac) ?_;intro az ap S;refine zH (C:=(λσ wq=>DE No W [.pfam 151 2 k As (mG gw gh) cs (λk=>mq (mG gw gh k) (λ_=>⟨0,0⟩)),.blk y 305 [.slice lA k lc],.row 384 3 lA k lc (ut k gw gh As cs)] 2 384 3 k (ut k gw gh As cs) (λA=>[ii (dG gw k:Nat),ii (dG gh k:Nat),.slice A (mG gw gh k) (mG gw gh k)]) 151 2 (mG gw gh k) (mq (mG gw gh k) (λ_=>⟨0,0⟩)) wq σ)) [10,12,13] [0,1,2,3,4,5,6,7,8,9,10,11,12,13] [14,15,16] (S.gr (Gr.drew _)) ?_;refine zV (λτ wq D=>(DE.ok D (j:=1) (by decide) rfl)) ?_;refine ot rfl (cH rfl) ?_;refine ot rfl (cH rfl) ?_;refine ot rfl (cH rfl) ?_;refine ot rfl (cH rfl) ?_;refine ot rfl (fh rfl (by rw[O];omega)) ?_;rw[O];refine de rfl rfl (λwq D=>KZ D jy x8 rfl rfl rfl rfl rfl om ag) ?_;rintro v5 w5 ⟨V,rfl,s5,_⟩;refine zR ?_;refine de rfl rfl (λwq D=>Jt D jO lm uT rfl rfl rfl rfl rfl rfl (λA h=>by injection h with h;rw[h])) ?_;rintro v6 w6 ⟨A6,h6,_,A7,rfl,_⟩;refine de rfl rfl (λwq D=>Nr D rfl (λh=>⟨_,rfl⟩) jO Ns rfl rfl rfl rfl (λ_=>rfl) (λ_=>rfl) om) ?_;rintro v7 w7 ⟨A8,h8,_,A9,c9,L9,rfl,_,_⟩;refine zY ?_;rintro w8 ⟨ai,Z,ar,aj,al,ak,aa,ab,S⟩;cases Z
  cases aa
  obtain rfl:=Option.some.inj ab;refine zS ?_;intro w9 S;have S:=S.pfamPush rfl rfl;have h9:ut k gw gh As cs++[ii (dG gw k:Nat),ii (dG gh k:Nat),.slice V (mG gw gh k) (mG gw gh k)]=ut (k+1) gw gh (nX As k V) (nX cs k (mG gw gh k)):=QI;refine⟨m-1,om,k+1,A9,c9,nX As k V,nX cs k (mG gw gh k),om,sl,?_⟩;rw[<-h9];exact S
 ·obtain rfl:k=fW gw gh:=om;have O:((gw:Int)-1)=((gw-1:Nat):Int):=om;have e2:((gh:Int)-1)=((gh-1:Nat):Int):=om
  have z:=λ(w:World)(g:Gr W w)(S:St No W w [.blk y 305 [.slice lA (fW gw gh) lc],.row 384 3 lA (fW gw gh) lc (ut (fW gw gh) gw gh As cs),.pfam 151 2 (fW gw gh) As (mG gw gh) cs (λk=>mq (mG gw gh k) (λ_=>⟨0,0⟩))]) =>
   z7 (x0:=0) (y0:=0) (x1:=gw-1) (y1:=gh-1) (q:=λ_ _=>⟨0,0⟩) om om (U.gr g) (λk hk i hi hn=>absurd ⟨⟨by rw[Nat.zero_div];exact ib _,nR (dt _ (tg gw k))⟩,by rw[Nat.zero_div];exact ib _,nR (cS hi)⟩ hn) S
  simp only[<-O,<-e2]at z;have S:=S.perm_ (xo _ _ _ _).symm;refine zC (uo p gw gh L.2 J.2 _ w (I.gr S.out)) ?_;intro aA aq S;refine zK (z _ S.out S) ?_;rintro _ aB ⟨rfl,S⟩;refine zX ?_;exact⟨y,lA,lc,As,cs,rfl,S⟩
end
def Nu:Nat->List HA->Option (List HA)
 |0,L=>some L
 |_+1,[]=>none
 |n+1,_::r=>Nu n r
def Ju(L:List HA):List Nat->List HA->Option (List HA)
 |[],t=>some t
 |i::is,t=>match gi L i,Ju L is t with
  |some h,some r=>some (h::r)
  |_,_=>none
theorem H9:∀{n:Nat}{L t:List HA},Nu n L=some t->n<=L.length/\t=L.drop n
 |0,L,t,h=>⟨ib _,by cases h;rfl⟩
 |n+1,[],t,h=>by cases h
 |n+1,a::r,t,h=>by
  have:=H9 (L:=r) (n:=n) h
  exact⟨by simp;omega,this.2⟩
theorem K0:∀(L:List HA)(i:Nat),gi L i=L[i]?
 |[],i=>by simp[gi]
 |a::r,0=>rfl
 |a::r,i+1=>by show gi r i=_;rw[K0 r i];simp
theorem Ia{L:List HA}:∀{is:List Nat}{t L':List HA},Ju L is t=some L'->L'=is.filterMap (λi=>L[i]?)++t
 |[],t,L',h=>by cases h;rfl
 |i::is,t,L',h=>by
  unfold Ju at h
  rw[K0]at h
  split at h
  ·rename_i a r h1 h2
   have:=Ia h2
   injection h with h;rw[List.filterMap_cons,h1,<-h,this];rfl
  ·cases h
theorem Gh{L:List HA}:∀n,n<=L.length->(List.range n).filterMap (λi=>L[i]?)=L.take n
 |0,_=>by simp
 |n+1,h=>by
  rw[eG,List.filterMap_append,Gh n om,kK]
  simp only[List.filterMap_cons,List.filterMap_nil]
  rw[ct om]
  simp
theorem St.pick{L t:List HA}(n:Nat)(is:List Nat)(S:St F W w L)(hd:Nu n L=some t)(y:Ju L is t=some L')(hi:is.isPerm (List.range n)=true):St F W w L':=by
 obtain⟨v,rfl⟩:=H9 hd;rw[Ia y];refine S.perm_ ?_;have:=((List.isPerm_iff.1 hi).filterMap (λi=>L[i]?)).append_right (L.drop n);rw[Gh n v,lV]at this;exact this.symm
section
variable{lb cap:Nat}{cs:Nat->Nat}{V:List Int}
theorem TZ(D:rj W tb gw gh V):Fn prog 244 [pt tb] W (dp (.tuple #[ii gw,ii gh]) W):=by
 obtain⟨J,L,As,cs,y,U,O⟩:=D;have S:=St.start W;refine zI func244 ?_;refine zD [0,1,2,3,4,5,6,7,8,9] [] ?_;refine zM (λwq v=>(y.gr (S.gr v).out)) ?_;refine zM (λwq v=>(y.gr (S.gr v).out)) ?_;refine zE ?_;intro I z S;exact nd rfl rfl ⟨rfl,S.out⟩
theorem Wd(hB:vB (dw gw gh cc))(J:eJ W p gw gh cc A cap bs Rs):Fn prog 64 [pt p,ii stamp] W (λv w'=>∃sn tb q z D As cs,v=.tuple #[pt sn,ii 0] /\
  St No W w' (.blk sn 253 [ii stamp,pt tb,pt q]::BB tb gw gh (dw gw gh cc) z D As cs)):=by
 have hg:=λw(g:Gr W w)=>FN hB (J.gr g);have hs:=λw(g:Gr W w)=>HO (J.gr g);have S:=St.start W;refine zI func64 ?_;refine zN ?_;intro U ab aa S;refine zK (hg _ S.out) ?_;rintro _ ac ⟨tb,z,D,Fs,Z,rfl,y⟩;have S:=(S.app y).perm_ ft;refine zS ?_;intro ad S;refine zK (hs _ S.out) ?_;rintro _ ae ⟨q,L,V,O,I,rfl,y⟩;have S:=S.gr y.out;refine zS ?_;intro ag S;exact nd rfl rfl ⟨_,_,_,_,_,_,_,rfl,S⟩
theorem DF(J:vB (dw gw gh cc))(z:eJ W p gw gh cc A cap bs Rs):Fn prog 406 [pt p] W (λv w'=>∃lb tb A1 c1 pb lA lc As cs,v=.tuple #[pt lb,ii 0] /\
  St No W w' [.blk lb 183 [pt p,pt tb,pt pb],.blk tb 286 [ii gw,ii gh,.slice A1 ((gh+1)*(gw+1)) c1],
   .row 2 1 A1 ((gh+1)*(gw+1)) c1 (fj ((gh+1)*(gw+1)) (lk gw (dw gw gh cc))),
   .blk pb 305 [.slice lA (fW gw gh) lc],.row 384 3 lA (fW gw gh) lc (ut (fW gw gh) gw gh As cs),.pfam 151 2 (fW gw gh) As (mG gw gh) cs (wX gw gh (dw gw gh cc))]):=by
 have L:=λw(g:Gr W w)=>Jh J (z.gr g);have O:=λw(g:Gr W w)=>Nt (z.gr g);have S:=St.start W;refine zI func406 ?_;refine zN ?_;intro D V I S;refine zK (L _ S.out) ?_;rintro _ Z ⟨tb,A1,c1,rfl,y⟩;have S:=(S.app y).perm_ ft;refine zS ?_;intro aa S;refine zK (O _ S.out) ?_;rintro _ ab ⟨pb,lA,lc,Ls,U,rfl,y⟩;have S:=(S.app y).perm_ ft;refine zS ?_;intro ac S;exact nd rfl rfl ⟨_,_,_,_,_,_,_,_,_,rfl,S⟩
theorem pj{x y:Value}(v:eL W lb 183 [x,y,pt pb]):Fn prog 41 [pt lb] W (dp (pt pb) W):=by
 have S:=St.start W;refine zI func41 ?_;iterate 6 refine z ?_
 refine dH (cV ud rfl rfl (v.gr S.out) rfl) ?_;exact zZ
theorem T0{z:Value}(x0 y0 x1 y1:Nat)(L:vB V)(hw:1<=gw/\gw<=1024)(U:1<=gh/\gh<=1024)(hx:x0<=x1/\x1<gw)(hy:y0<=y1/\y1<gh)(O:eL W sn 253 [ii stamp,pt tb,z])(J:rj W tb gw gh V) :
  Fn prog 70 [pt sn,.agg #[ii x0,ii y0,ii x1,ii y1]] W (dp (.tuple #[ii (uv V gw x0 y0 x1 y1),ii 0]) W):=by
 have Z:=λw(g:Gr W w)=>Pp (W:=w) x0 y0 x1 y1 L hw U hx hy (J.gr g);have S:=St.start W;refine zI func70 ?_;refine zN ?_;intro y aa D S;refine zD [0,1,2,3,4,5,6,7,8,9] [] ?_;refine zM (λwq v=>(O.gr (S.gr v).out)) ?_;refine zP (λwq v=>Z wq (S.gr v).out) ?_;refine zE ?_;intro ab I S;exact nd rfl rfl ⟨rfl,S.out⟩
def yv(w:World)(now:Int)(v:Option Addr):Prop:=v=none\/∃sn st y z,v=some ⟨sn,0,none⟩/\st≠now/\eL w sn 253 [ii st,y,z]
theorem yv.gr{v:Option Addr}(h:yv w now v)(g:Gr w w'):yv w' now v:=h.imp id λ⟨sn,st,y,z,h1,h2,D⟩=>⟨sn,st,y,z,h1,h2,D.gr g⟩
theorem T4{v:Option Addr}(h:yv W now v):Fn prog 163 [.pointer v,ii now] W (dp (.bool false) W):=by
 rcases h with rfl|⟨sn,st,y,z,rfl,D,I⟩
 ·skip;have S:=St.start W;refine zI func163 ?_;refine zg ?_;refine cq (uS iF rfl rfl) ?_;exact zZ
 ·skip;have S:=St.start W;refine zI func163 ?_;refine zg ?_;refine cq (uS iF rfl rfl) ?_;exact zZ
theorem PD{v:Option Addr}(h:yv W now v):Fn prog 93 [pt lb,.pointer v,ii now] W (dp (.bool false) W):=by
 have z:=λw(g:Gr W w)=>T4 (h.gr g);have S:=St.start W;refine zI func93 ?_;refine zC (z W S.out) ?_;intro D y S;exact zZ
theorem We{v:Option Addr}{y z:Value}(x0 y0 x1 y1:Nat)(U:vB V)(hw:1<=gw/\gw<=1024)(hh:1<=gh/\gh<=1024)(hx:x0<=x1/\x1<gw)(hy:y0<=y1/\y1<gh)(h:yv W now v)(hL:eL W lb 183 [y,pt tb,z])(Z:xy W tb gw gh (lk gw V)) :
  Fn prog 43 [pt lb,.pointer v,ii now,.agg #[ii x0,ii y0,ii x1,ii y1]] W (dp (.tuple #[ii (uv V gw x0 y0 x1 y1),.bool false,ii 0]) W):=by
 have ho:=λw(g:Gr W w)=>PD (lb:=lb) (h.gr g);have hs:=λw(g:Gr W w)=>Jf (W:=w) x0 y0 x1 y1 U hw hh hx hy (Z.gr g);have S:=St.start W;refine zI func43 ?_;refine zN ?_;intro I aa J S;refine zC (ho _ S.out) ?_;intro ab L S;refine zD [0,1,2,3,4,5,6,7,8,9,10] [] ?_;refine zM (λwq D=>(hL.gr (S.gr D).out)) ?_;refine zP (λwq D=>hs wq (S.gr D).out) ?_;refine zE ?_;intro ac O S;exact tE rfl rfl rfl ⟨rfl,S.out⟩
theorem PE(O:1<=gw)(I:1<=gh)(D:∀x y,x<gw->y<gh->¬((x0<=x/\x<=x1)/\y0<=y/\y<=y1)->V.getD (y*gw+x) 0=V'.getD (y*gw+x) 0)(k:Nat)(i:Nat)(hi:i<dG gw k*dG gh k)(J:¬((x0/2^k<=i%dG gw k/\i%dG gw k<=x1/2^k)/\y0/2^k<=i/dG gw k/\i/dG gw k<=y1/2^k)):zz gw gh V k i=zz gw gh V' k i:=by
 have L:0<dG gw k:=fT λe=>by rw[e,iD]at hi;omega
 refine Ku k _ _ (dt _ L) (cS hi) (λcx cy h1 h2 v z=>D cx cy h1 h2 λ⟨⟨a,b⟩,c,d⟩=>J ?_) O I;rw[<-v,<-z];exact⟨⟨ji a,ji b⟩,ji c,ji d⟩
theorem Nv(hB:vB (dw gw gh cc))(U:x0<=x1/\x1<gw)(Z:y0<=y1/\y1<gh)(ad:gw*gh<8*((y1+1-y0)*(x1+1-x0)))(hV:∀x y,x<gw->y<gh->¬((x0<=x/\x<=x1)/\y0<=y/\y<=y1)->V.getD (y*gw+x) 0=(dw gw gh cc).getD (y*gw+x) 0)(S:St F W w (.grid p gw gh cc A cap bs Rs::.blk lb 183 [pt p,pt tb,pt pb] ::
   .blk pb 305 [.slice lA (fW gw gh) lc]::.row 384 3 lA (fW gw gh) lc (ut (fW gw gh) gw gh As cs)::.pfam 151 2 (fW gw gh) As (mG gw gh) cs (wX gw gh V)::tl)) :
  Fn prog 391 [pt lb,.agg #[ii x0,ii y0,ii x1,ii y1]] w (λv w'=>∃tb A1 c1,v=ii 0 /\
   St F W w' (.blk tb 286 [ii gw,ii gh,.slice A1 ((gh+1)*(gw+1)) c1]::.row 2 1 A1 ((gh+1)*(gw+1)) c1 (fj ((gh+1)*(gw+1)) (lk gw (dw gw gh cc))) ::
   .grid p gw gh cc A cap bs Rs::.blk lb 183 [pt p,pt tb,pt pb] ::
   .blk pb 305 [.slice lA (fW gw gh) lc]::.row 384 3 lA (fW gw gh) lc (ut (fW gw gh) gw gh As cs)::.pfam 151 2 (fW gw gh) As (mG gw gh) cs (wX gw gh (dw gw gh cc))::tl)):=by
 have D:=S.grid (i:=0) rfl;have hw:=D.sw;have hh:=D.sh;have O:=λw'(g:Gr w w')=>iz (W:=w') x0 y0 x1 y1 U Z (D.gr g);have ak:=lE gw cc x0 y0 (x1+1-x0) (y1+1-y0);have J:=λw'(g:Gr w w')=>Jh hB (D.gr g);have I:((gw*gh:Nat):Int)<8*(((y1+1-y0)*(x1+1-x0):Nat):Int):=om;rw[kv gw gh]at I;have hm:gw*gh<=1024*1024:=cE hw.2 hh.2;have aj:(y1+1-y0)*(x1+1-x0)<=1024*1024:=cE om om;have L:=D.top
 have z:∀k,k<fW gw gh->∀i,i<dG gw k*dG gh k->¬((x0/2^k<=i%dG gw k/\i%dG gw k<=x1/2^k)/\y0/2^k<=i/dG gw k/\i/dG gw k<=y1/2^k)->zz gw gh V k i=zz gw gh (dw gw gh cc) k i :=
  λk _ i hi hn=>PE hw.1 hh.1 hV k i hi hn
 clear O J D L;refine zI func391 ?_;refine zN ?_;intro ae aa ag S;refine zH (C:=(λσ wq=>Gr aa wq/\CN F W _ (λv h=>∃A c,v=.tuple #[.slice A ((y1+1-y0)*(x1+1-x0)) c,ii 0]/\h=.row 2 1 A ((y1+1-y0)*(x1+1-x0)) c (cY (fi gw cc x0 y0 (x1+1-x0) (y1+1-y0)))) wq σ)) [5] [0,1,2,3,4,5,6,7,8,9,10] [] ⟨Gr.drew _,S.gr (Gr.drew _)⟩ ?_;refine zV (λτ wq z=>((S.gr z.1).blk (i:=2) rfl)) ?_;refine zV (λτ wq z=>((S.gr z.1).blk (i:=0) rfl)) ?_;refine de rfl rfl (λwq z=>l4 rfl ((iz x0 y0 x1 y1 U Z (St.grid (CN.st z.2) (i:=1) rfl)).mono (λv w'⟨A,c,hv,hR,J,g⟩=>⟨z.1.trans g,_,⟨A,c,hv,rfl⟩,St.pushRow (CN.st z.2) hR J g⟩))) ?_;rintro v3 w3 ⟨g3,h3,⟨ab,ac,rfl,rfl⟩,_⟩;refine zY ?_;rintro w4 ⟨g4,h4,⟨A4,c4,e4,rfl⟩,S⟩;refine zC (mC p gw gh _ w4 (S.grid (i:=2) rfl).top) ?_;intro am ah S;refine zK (Jh hB (S.grid (i:=2) rfl)) ?_;rintro _ an ⟨al,A2,c2,rfl,S2⟩;have S:=S.app S2;refine zS ?_;intro ao S;refine zF [0,1,2,3,4,5,6,7,8] [9,10] ?_;intro ap ai S;refine zK (z7 U Z (S.grid (i:=4) rfl) z (S.pick 9 [6,7,8,0,1,2,3,4,5] rfl rfl rfl)) ?_;rintro _ aq ⟨rfl,S⟩;refine zg ?_;have S:=S.pick 9 [3,4,5,6,7,8,0,1,2] rfl rfl rfl;exact ir rfl ⟨_,_,_,rfl,S.sub (.cons_cons _ (.cons_cons _ (.cons _ (.cons _ (cQ _)))))⟩
end
structure Rc where
 x0:Nat
 y0:Nat
 x1:Nat
 y1:Nat
variable{r:Rc}
def Rc.cells(r:Rc):List Value:=[ii r.x0,ii r.y0,ii r.x1,ii r.y1]
def Rc.ok(r:Rc)(gw gh:Nat):Prop:=(r.x0<=r.x1/\r.x1<gw)/\r.y0<=r.y1/\r.y1<gh
def Rc.has(r:Rc)(x y:Nat):Prop:=(r.x0<=x/\x<=r.x1)/\r.y0<=y/\y<=r.y1
def Rc.meet(a b:Rc):Rc:=⟨max a.x0 b.x0,max a.y0 b.y0,min a.x1 b.x1,min a.y1 b.y1⟩
def Rc.both(a b:Rc):Bool:=decide (max a.x0 b.x0<=min a.x1 b.x1/\max a.y0 b.y0<=min a.y1 b.y1)
def Rc.mt(a b:Rc):List Value:=if a.both b then(a.meet b).cells else [ii 0,ii 0,ii 0,ii 0]
theorem Rc.both_iff{a b:Rc}(v:a.ok gw gh)(z:b.ok gw gh):a.both b=true↔∃x y,a.has x y/\b.has x y:=by
 obtain⟨⟨D,a2⟩,I,J⟩:=v;obtain⟨⟨L,O⟩,S,U⟩:=z;unfold Rc.both Rc.has;rw[cT];exact⟨λh=>⟨max a.x0 b.x0,max a.y0 b.y0,om⟩,λ⟨x,y,h⟩=>by omega⟩
theorem E6(a b:Rc)(ha:a.ok 1024 1024)(hb:b.ok 1024 1024):Fn prog 171 [.agg a.cells.toArray,.agg b.cells.toArray] W (dp (.tuple #[.agg (a.mt b).toArray,.bool (a.both b)]) W):=by
 obtain⟨a0,y,v,D⟩:=a;obtain⟨c0,I,c1,J⟩:=b;obtain⟨⟨h1,h2⟩,h3,h4⟩:=ha;obtain⟨⟨g1,g2⟩,g3,g4⟩:=hb;dsimp only at h1 h2 h3 h4 g1 g2 g3 g4;have ra:nb a0 y v D=true:=(lO _ _ _ _).2 om;have rb:nb c0 I c1 J=true:=(lO _ _ _ _).2 om;have e1:max (a0:Int) c0=((max a0 c0:Nat):Int):=om;have e2:max (y:Int) I=((max y I:Nat):Int):=om;have e3:min (v:Int) c1=((min v c1:Nat):Int):=om;have e4:min (D:Int) J=((min D J:Nat):Int):=om
 have rc:nb (max a0 c0:Nat) (max y I:Nat) (min v c1:Nat) (min D J:Nat)=decide (max a0 c0<=min v c1/\max y I<=min D J):=by
  rw[iq,lO,cT];omega
 show Fn prog 171 [.agg #[ii a0,ii y,ii v,ii D],.agg #[ii c0,ii I,ii c1,ii J]] W
  (dp (.tuple #[.agg (if decide (max a0 c0<=min v c1/\max y I<=min D J)then [ii (max a0 c0:Nat),ii (max y I:Nat),ii (min v c1:Nat),ii (min D J:Nat)]else [ii 0,ii 0,ii 0,ii 0]).toArray,.bool (decide (max a0 c0<=min v c1/\max y I<=min D J))]) W)
 generalize decide (max a0 c0<=min v c1/\max y I<=min D J)=B at *;have S:=St.start W;refine zI func171 ?_;refine zN ?_;intro ae an aj S;refine zN ?_;intro ag ao ak S;refine zN ?_;intro ai ap al S;refine zC (mz _ _ _ _ _) ?_;intro O am S;rw[ra];iterate 3 refine z ?_
 refine dr rfl ?_;refine eY rfl (mz _ _ _ _ O) ?_;rintro _ aq ⟨rfl,L⟩;have S:=S.gr L;rw[rb];refine zg ?_;rw[e1];refine zg ?_;rw[e2];refine zg ?_;rw[e3];refine zg ?_;rw[e4];refine zN ?_;intro ah Z U S;refine zS ?_;intro aa S;refine zC (mz _ _ _ _ _) ?_;intro ab V S;rw[rc];refine zg ?_;cases B
 ·skip;refine zS ?_;intro ac S;exact pG S ⟨rfl,S.out⟩
 ·skip;refine zS ?_;intro ad S;exact pG S ⟨rfl,S.out⟩
structure Nd where
 k:Nat
 x:Nat
 y:Nat
def Nd.ok(n:Nd)(gw gh:Nat):Prop:=n.k<fW gw gh/\n.x<dG gw n.k/\n.y<dG gh n.k
def Nd.span(gw gh:Nat)(n:Nd):Rc:=⟨n.x*2^n.k,n.y*2^n.k,min ((n.x+1)*2^n.k) gw-1,min ((n.y+1)*2^n.k) gh-1⟩
def Nd.cells(gw gh:Nat)(n:Nd):List Value:=[ii n.k,ii n.x,ii n.y]++(n.span gw gh).cells
theorem E7{x:Nat}(v:0<p):c/p=x↔x*p<=c/\c<(x+1)*p:=by
 rw[<-sG v,<-sH v];omega
theorem CJ{x:Nat}(v:1<=n)(h:x<dG n k):x*2^k<n:=by
 unfold dG at h;have:=(sG (x:=x) (y:=n-1) (ic (a:=2) (n:=k) om)).1 om;omega
section
variable{n:Nd}
theorem Nd.span_ok(D:1<=gw)(z:1<=gh)(h:n.ok gw gh):(n.span gw gh).ok gw gh:=by
 have h1:=CJ D h.2.1;have h2:=CJ z h.2.2;have I:=ic (a:=2) (n:=n.k) om;have v:=cX n.x (2^n.k);have y:=cX n.y (2^n.k);unfold Nd.span Rc.ok;dsimp only;simp only[Nat.succ_eq_add_one]at v y;rw[v,y];generalize n.x*2^n.k=a at *;generalize n.y*2^n.k=b at *;omega
theorem Nd.has(D:cx<gw)(I:cy<gh):(n.span gw gh).has cx cy↔cx/2^n.k=n.x/\cy/2^n.k=n.y:=by
 have v:=ic (a:=2) (n:=n.k) om;rw[E7 v,E7 v];unfold Nd.span Rc.has;dsimp only;have y:(n.x+1)*2^n.k=n.x*2^n.k+2^n.k:=cX _ _;have z:(n.y+1)*2^n.k=n.y*2^n.k+2^n.k:=cX _ _;generalize n.x*2^n.k=a at *;generalize n.y*2^n.k=b at *;generalize (n.x+1)*2^n.k=c at *;generalize (n.y+1)*2^n.k=d at *;omega
theorem Rc.ok.far(h:r.ok gw gh)(D:gw<=1024)(z:gh<=1024):r.ok 1024 1024:=by
 obtain⟨⟨h1,h2⟩,v,y⟩:=h;exact⟨⟨h1,om⟩,v,om⟩
end
theorem Lg(l:List (Int×Int))(x y:Int):eT l++[ii x,ii y]=eT (l++[(x,y)]):=by simp[eT]
def kd(w x:Nat):Nat:=min (2*x+2) w-2*x
def Uf(w x y i:Nat):Int×Int:=(((2*x+i%kd w x:Nat):Int),((2*y+i/kd w x:Nat):Int))
def xA(w h x y:Nat):List (Int×Int):=(List.range (kd h y*kd w x)).map (Uf w x y)
theorem Lh(k x y:Nat)(Z:1<=gw/\gw<=1024)(V:1<=gh/\gh<=1024)(hk:k+1<fW gw gh)(hx:x<dG gw (k+1))(hy:y<dG gh (k+1)) :
  Fn prog 175 [ii gw,ii gh,ii (k+1:Nat),.agg #[ii x,ii y]] W
   (jc (λs=>.tuple #[s,ii 0]) 34 2 (kd (dG gh k) y*kd (dG gw k) x) (eT (xA (dG gw k) (dG gh k) x y)) W):=by
 have hl:=lI Z.2 V.2;have al:=qz hx;have am:=qz hy;have ao:=oZ k Z.1;have ap:=oZ k V.1;have e1:((k+1:Nat):Int)-1=(k:Int):=om;have e2:(2:Int)*y=((2*y:Nat):Int):=by push_cast;rfl
 have e3:(2:Int)*x=((2*x:Nat):Int):=by push_cast;rfl
 have nx:1<=kd (dG gw k) x/\kd (dG gw k) x<=2/\2*x+kd (dG gw k) x=min (2*x+2) (dG gw k):=by unfold kd;omega
 have ny:1<=kd (dG gh k) y/\kd (dG gh k) y<=2/\2*y+kd (dG gh k) y=min (2*y+2) (dG gh k):=by unfold kd;omega
 have ae:=λw=>xL (W:=w) k Z V om;unfold xA;have U:∀i,Uf (dG gw k) x y i=(((2*x+i%kd (dG gw k) x:Nat):Int),((2*y+i/kd (dG gw k) x:Nat):Int)):=λi=>rfl;have ac:=λw=>Dw (W:=w) (k+1) x y Z V hk hx hy;generalize Uf (dG gw k) x y=kf at *;generalize kd (dG gw k) x=v at *;generalize kd (dG gh k) y=z at *;generalize dG gw k=lw at *;generalize dG gh k=lh at *
 have hb:z*v<=4:=by
  have:=cE ny.2.1 nx.2.1;omega
 have S:=St.start W;refine zI func175 ?_;refine zN ?_;intro D aq ah S;refine zg ?_;rw[e1];refine zC (ae _) ?_;intro ar ai S;refine zC (ac _) ?_;intro au aj S;refine zg ?_;rw[e2];refine zg ?_;have S:=S.pushNil 34 2
 refine dl (λm e w=>∃(j:Nat)(A:Option Addr)(c:Nat),j+m=z/\SL e [(7,pt D),(10,ii lw),(11,ii lh),(13,.slice A (j*v) c),(14,ii (2*y+j:Nat))] /\
   St No W w [.row 34 2 A (j*v) c (eT ((List.range (j*v)).map kf)),.blk D 34 [ii x,ii y]]) z
  ⟨0,none,0,om,⟨rfl,rfl,rfl,by rw[iD];rfl,rfl,trivial⟩,by rw[iD];exact S⟩ ?_
 clear S;rintro m e w ⟨j,A,c,hj,J,S⟩;rw[J.fold];by_cases an:j<z
 ·skip;refine zg ?_;rw[e2];refine zg ?_;rw[e3];refine zg ?_
  refine dl (λm2 e w=>∃(i:Nat)(A:Option Addr)(c:Nat),i+m2=v/\SL e [(7,pt D),(10,ii lw),(11,ii lh),(13,.slice A (j*v+i) c),(14,ii (2*y+j:Nat)),(15,ii (2*x+i:Nat))] /\
    St No W w [.row 34 2 A (j*v+i) c (eT ((List.range (j*v+i)).map kf)),.blk D 34 [ii x,ii y]]) v
   ⟨0,A,c,om,sl,S⟩ ?_
  clear S;rintro m2 e w ⟨i,A,c,hi,J,S⟩;rw[J.fold];have ad:=cI v (show j+1<=z by omega);rw[cX]at ad;by_cases I:i<v
  ·have es:(List.range (j*v+i+1)).map kf=(List.range (j*v+i)).map kf++[(((2*x+i:Nat):Int),((2*y+j:Nat):Int))]:=by
    rw[eG,fq,i7,U,cD j,fp,dT I,fF om,ee I,eW]
   refine zg ?_;rw[e3];refine zg ?_;refine yb S ?_;intro ab av ak S aa;refine fM (i:=1) S rfl (λh=>rfl) ki wA rfl rfl rfl rfl (by simp) om (S.rd (i:=0) rfl) rfl om ?_;intro L O aw S ag;refine zg ?_;have S:=S.sub (.cons _ (.cons_cons _ (.cons_cons _ .slnil)));rw[Lg,<-es]at S;exact⟨m2-1,om,i+1,L,O,om,sl,S⟩
  ·obtain rfl:i=v:=om;refine zg ?_;rw[e3];refine zg ?_;have ej:j*i+i=(j+1)*i:=(cX j i).symm;rw[ej]at S;exact⟨m-1,om,j+1,A,c,om,⟨rfl,rfl,rfl,by rw[<-ej];rfl,rfl,trivial⟩,S⟩
 ·obtain rfl:j=z:=om;refine zg ?_;rw[e2];refine zX ?_;exact(S.retNew (i:=0) (mk:=λs=>.tuple #[s,ii 0]) rfl)
def Al(gw gh:Nat)(l:List Nd):List Value:=l.flatMap (Nd.cells gw gh)
theorem Nd.cells_len(gw gh:Nat)(n:Nd):(n.cells gw gh).length=7:=rfl
section
variable{l:List Nd}{n:Nd}
theorem Il(l:List Nd):(Al gw gh l).length=l.length*7:=by
 unfold Al;induction l with
 |nil=>rfl
 |cons a r ih=>rw[fe,cP,ih,Nd.cells_len,fc];omega
theorem DK(l:List Nd)(n:Nd):Al gw gh l++n.cells gw gh=Al gw gh (l++[n]):=by
 unfold Al;rw[kZ,lx]
theorem NU(l:List Nd)(n:Nd):((Al gw gh (l++[n])).drop (l.length*7)).take 7=n.cells gw gh:=by
 rw[<-DK,<-Il (gw:=gw) (gh:=gh) l,jE];exact fN (by rw[Nd.cells_len];exact cN _)
theorem NV(l:List Nd)(n:Nd):(Al gw gh (l++[n])).take (l.length*7)=Al gw gh l:=by
 rw[<-DK,<-Il (gw:=gw) (gh:=gh) l,pX]
end
def SH(W:World)(gw gh sb yb:Nat)(r:Rc)(T:List HA)(l:List Nd)(w:World):Prop :=
 ∃A c,St No W w (.blk sb 296 [pt yb,ii r.x0,ii r.y0,ii r.x1,ii r.y1,.slice A l.length c]::.row 289 7 A l.length c (Al gw gh l)::T)
section
variable{yb:Nat}{V:List Int}{l:List Nd}
theorem SH.out(h:SH W gw gh sb yb r T l w):Gr W w:=by obtain⟨A,c,S⟩:=h;exact S.out
theorem NW:(prog.info? 289).map (λi=>(i.zero,i.size,i.bytes))=some (some (.agg #[ii 0,ii 0,ii 0,ii 0,ii 0,ii 0,ii 0]),7,56):=by kernel_rfl
theorem Lk(n:Nd)(hw:1<=gw/\gw<=1024)(U:1<=gh/\gh<=1024)(hn:n.ok gw gh)(hr:r.ok gw gh)(hl:l.length<=1000000000)(hP:iM W yb gw gh V)(hH:SH W gw gh sb yb r T l w) :
  Fn prog 170 [pt sb,ii n.k,.agg #[ii n.x,ii n.y]] w (λv w'=>v=.tuple #[]/\SH W gw gh sb yb r T (if (n.span gw gh).both r then l++[n]else l) w'):=by
 obtain⟨aa,c,S⟩:=hH;have hs:=Nd.span_ok hw.1 U.1 hn;have Z:=λw=>E6 (W:=w) (n.span gw gh) r (hs.far hw.2 U.2) (hr.far hw.2 U.2);have aj:∀w,Fn prog 126 [ii gw,ii gh,ii n.k,.agg #[ii n.x,ii n.y]] w (dp (.tuple #[.agg (n.span gw gh).cells.toArray,ii 0]) w):=λw=>Co (W:=w) n.k n.x n.y hw U hn.1 hn.2.1 hn.2.2;have ai:n.cells gw gh=[ii n.k,ii n.x,ii n.y,ii (n.span gw gh).x0,ii (n.span gw gh).y0,ii (n.span gw gh).x1,ii (n.span gw gh).y1]:=rfl;have D:=DK (gw:=gw) (gh:=gh) l n;rw[ai]at D
 have I:∃a b c d:Int,(n.span gw gh).mt r=[ii a,ii b,ii c,ii d]:=by
  unfold Rc.mt;split
  ·exact⟨_,_,_,_,rfl⟩
  ·exact⟨_,_,_,_,rfl⟩
 obtain⟨m0,m1,m2,m3,I⟩:=I;rw[I]at Z;generalize n.span gw gh=sp at *;generalize sp.both r=B at *;refine zI func170 ?_;refine zN ?_;intro aw aG aA S;refine zC (tJ hw U (hP.gr S.out)) ?_;intro aH aB S;refine zC (aj _) ?_;intro aI aC S;refine zN ?_;intro an aJ aD S;refine zS ?_;intro aK S;refine zH (C:=(CA _ _ _ 43 [ii 0,ii 0,ii 0,ii 0] [ii m0,ii m1,ii m2,ii m3])) [9,10] [0,1,2,3,4,5,6,7,8,9,10] [11] (CA.start (S.gr (Gr.drew _))) ?_;refine zV (λτ wq y=>(y.st.blk (i:=0) rfl)) ?_;refine zV (λτ wq y=>(y.st.blk (i:=2) rfl)) ?_;refine jH rfl rfl (λτ wq y=>(Z wq).mono (λ_ _⟨hv,hg⟩=>⟨hv,y.gr hg⟩)) ?_;refine zR ?_;refine de rfl rfl (λwq y=>kG y fy rfl) ?_;rintro aE aL ⟨az,rfl,_⟩;refine de rfl rfl (λwq y=>kH y (dV _) rfl rfl rfl rfl rfl) ?_;rintro aF aM _;refine zY ?_;rintro aN ak;obtain⟨am,L,S⟩:=ak.fin;cases L
 refine zg ?_;cases B
 ·skip;refine zg ?_;exact na ⟨rfl,aa,c,S.drop 3⟩
 ·skip;refine zH (C:=(λσ wq=>CS _ _ _ 4 289 7 l.length (Al gw gh l) [ii n.k,ii n.x,ii n.y,ii sp.x0,ii sp.y0,ii sp.x1,ii sp.y1] wq σ)) [9,10] [0,1,2,3,4,5,6,7,8,9,10] [11,12,13] (S.gr (Gr.drew _)) ?_;refine zV (λτ wq y=>(y.blk (j:=3) (by decide) rfl)) ?_;refine zV (λτ wq y=>(y.blk (j:=2) (by decide) rfl)) ?_;refine zV (λτ wq y=>(y.blk (j:=1) (by decide) rfl)) ?_;refine zR ?_;refine de rfl rfl (λwq y=>rO y oE kO pI rfl rfl rfl rfl rfl rfl) ?_;rintro ap au ⟨ac,rfl,_⟩;refine de rfl rfl (λwq y=>u6 y rfl (λh=>⟨_,rfl⟩) oE NW rfl rfl rfl rfl rfl rfl om) ?_;rintro ao ar ⟨ab,ag,ae,rfl,_,_⟩;refine zY ?_;rintro av ⟨ad,ah,al,J,O,S⟩;cases J
  obtain rfl:=Option.some.inj O;refine z ?_;refine z ?_;refine iy (i:=3) S rfl (sizeOf294 _) rfl rfl rfl rfl rfl rfl ?_;intro aq S;refine ze ?_;exact na ⟨rfl,_,_,by simp only[rq,cP,iV];rw[<-D];exact S.drop 3⟩
def rW(l:List Nd):Nat:=(l.map λn=>5^n.k).sum
theorem DL(l l':List Nd):rW (l++l')=rW l+rW l':=by unfold rW;rw[fq,List.sum_append]
theorem xR(n:Nd):rW [n]=5^n.k:=by simp[rW]
theorem wC:∀l:List Nd,l.length<=rW l
 |[]=>cN _
 |n::l=>by
  have:=wC l
  have h:rW (n::l)=5^n.k+rW l:=by simp[rW]
  have:=ic (a:=5) (n:=n.k) om;rw[fc];omega
def Gu(k x y nx j:Nat):Nd:=⟨k,2*x+j%nx,2*y+j/nx⟩
def Gv(gw gh:Nat)(n n':Nd):Prop:=n'.k+1=n.k/\n'.x/2=n.x/\n'.y/2=n.y/\n'.ok gw gh
def Ll(gw gh sb yb:Nat)(r:Rc)(T:List HA)(l:List Nd)(n:Nd)(W:World)(v:Value)(w':World):Prop :=
 v=.tuple #[]/\∃l',SH W gw gh sb yb r T l' w'/\(∀n'∈l',n'∈l\/(Gv gw gh n n'/\(n'.span gw gh).both r=true))/\(∀n'∈l,n'∈l')/\(∀n',Gv gw gh n n'->(n'.span gw gh).both r=true->n'∈l')/\rW l'<rW l+5^n.k
theorem Lm(k x y:Nat)(hw:1<=gw/\gw<=1024)(hh:1<=gh/\gh<=1024)(hn:Nd.ok ⟨k+1,x,y⟩ gw gh)(hr:r.ok gw gh)(hl:rW l<=100000000)(hP:iM W yb gw gh V)(hH:SH W gw gh sb yb r T l w) :
  Fn prog 168 [pt sb,.agg (Nd.cells gw gh ⟨k+1,x,y⟩).toArray] w (Ll gw gh sb yb r T l ⟨k+1,x,y⟩ W):=by
 obtain⟨hk,hx,hy⟩:=hn;dsimp only at hk hx hy;have aC:=lI hw.2 hh.2;have az:=qz hx;have aA:=qz hy;have aG:=oZ k hw.1;have aH:=oZ k hh.1;have ah:=λw=>Lh (W:=w) k x y hw hh hk hx hy;have nx:1<=kd (dG gw k) x/\kd (dG gw k) x<=2/\2*x+kd (dG gw k) x=min (2*x+2) (dG gw k):=by unfold kd;omega
 have ny:1<=kd (dG gh k) y/\kd (dG gh k) y<=2/\2*y+kd (dG gh k) y=min (2*y+2) (dG gh k):=by unfold kd;omega
 have ai:∀j,j<kd (dG gh k) y*kd (dG gw k) x->(xA (dG gw k) (dG gh k) x y)[j]?=some (((2*x+j%kd (dG gw k) x:Nat):Int),((2*y+j/kd (dG gw k) x:Nat):Int)):=λj hj=>by
  unfold xA;rw[da,eu hj];rfl
 obtain⟨L,c,S⟩:=hH;show Fn prog 168 [pt sb,.agg #[ii (k+1:Nat),ii x,ii y,ii (Nd.span gw gh ⟨k+1,x,y⟩).x0,ii (Nd.span gw gh ⟨k+1,x,y⟩).y0,ii (Nd.span gw gh ⟨k+1,x,y⟩).x1,ii (Nd.span gw gh ⟨k+1,x,y⟩).y1]] w _;generalize Nd.span gw gh ⟨k+1,x,y⟩=sp at *;generalize aD:kd (dG gw k) x=v at *;generalize aE:kd (dG gh k) y=D at *;have hb:D*v<=4:=cE ny.2.1 nx.2.1;have ae:1<=D*v:=cE ny.1 nx.1
 have O:∀j,j<D*v->Gv gw gh ⟨k+1,x,y⟩ (Gu k x y v j):=λj hj=>by
  have a1:=dt j (show 0<v by omega);have a2:j/v<D:=cS (by rw[cD];exact hj);unfold Gu Gv Nd.ok;dsimp only;generalize j%v=a at *;generalize j/v=b at *;omega
 have ab:∀n',Gv gw gh ⟨k+1,x,y⟩ n'->∃j,j<D*v/\n'=Gu k x y v j:=λn' z=>by
  obtain⟨k',x',y'⟩:=n';obtain⟨h1,h2,h3,h4,h5,h6⟩:=z;dsimp only at h1 h2 h3 h4 h5 h6;obtain rfl:k'=k:=om;have a1:x'-2*x<v:=om;have a2:y'-2*y+1<=D:=om;have a3:=cI v a2;rw[cX]at a3;refine⟨(y'-2*y)*v+(x'-2*x),om,?_⟩;unfold Gu;rw[cD (y'-2*y),fp,dT a1,fF om,ee a1,eW,(om:2*x+(x'-2*x)=x'),(om:2*y+(y'-2*y)=y')]
 generalize hN:D*v=N at *;refine zI func168 ?_;refine zN ?_;intro U aI ar S;refine zC (tJ hw hh (hP.gr S.out)) ?_;intro aJ au S;refine zK (ah _) ?_;rintro _ aK ⟨J,Z,rfl,aa,ac,ad⟩;have S:=S.pushRow aa ac ad;refine zg ?_;have aq:dO J:=(S.row (i:=0) rfl).someA ae;have S:=S.pick 4 [2,3,0,1] rfl rfl rfl;have aF:=ic (a:=5) (n:=k) om;have ao:=gb 5 k;have am:=fP (n:=5) om (show k+1<=11 by omega)
 have ak:=λ(l:List Nd)w j(hj:j<N)(hl:l.length<=1000000000)(hH:SH W gw gh sb yb r (.row 34 2 J N Z (eT (xA (dG gw k) (dG gh k) x y))::.blk U 289 [ii (k+1:Nat),ii x,ii y,ii sp.x0,ii sp.y0,ii sp.x1,ii sp.y1]::T) l w) =>
  Lk (W:=W) (w:=w) (V:=V) (Gu k x y v j) hw hh (O j hj).2.2.2 hr hl hP hH
 refine dl (λm e w=>∃l',SL e [(0,pt sb),(3,pt U),(6,.slice J N Z),(8,ii ((m:Int)-1))]/\m<=N /\
   SH W gw gh sb yb r (.row 34 2 J N Z (eT (xA (dG gw k) (dG gh k) x y))::.blk U 289 [ii (k+1:Nat),ii x,ii y,ii sp.x0,ii sp.y0,ii sp.x1,ii sp.y1]::T) l' w /\
   (∀n'∈l',n'∈l\/(Gv gw gh ⟨k+1,x,y⟩ n'/\(n'.span gw gh).both r=true))/\(∀n'∈l,n'∈l')/\(∀j,m<=j->j<N->((Gu k x y v j).span gw gh).both r=true->Gu k x y v j∈l')/\rW l'<=rW l+(N-m)*5^k) N
  ⟨l,sl,cN _,⟨L,c,S⟩,λn' h=>.inl h,λn' h=>h,λj h1 h2=>by omega,by rw[j8,iD];exact cN _⟩ ?_
 clear S;rintro m e w ⟨l',al,hm,⟨L,c,S⟩,h1,h2,h3,h4⟩;rw[al.fold];rcases iZ m with rfl|ap
 ·skip;refine zg ?_;refine na ⟨rfl,l',⟨L,c,S.sub (.cons_cons _ (.cons_cons _ (.cons _ (.cons _ (cQ _)))))⟩,h1,h2,λn' z I=>?_,?_⟩
  ·obtain⟨j,hj,rfl⟩:=ab n' z;exact h3 j om hj I
  ·have:=cI (5^k) hb;show _<_+5^(k+1);rw[Nat.sub_zero]at h4;omega
 ·obtain⟨j,rfl⟩:∃j,m=j+1:=⟨m-1,om⟩;have e1:((k+1:Nat):Int)-1=k:=om;have ej:(((j+1:Nat):Int)-1).toNat=j:=om;have aj:((eT (xA (dG gw k) (dG gh k) x y)).drop ((((j+1:Nat):Int)-1).toNat * 2)).take 2=[ii (2*x+j%v:Nat),ii (2*y+j/v:Nat)]:=by rw[ej];exact mS (ai j om)
  have aB:(N-(j+1))*5^k<=4*5^k:=cI _ om;have an:=wC l';refine zD [0,1,2,3,4,5,6,7] [8] ?_;rw[e1];refine zQ ?_;refine fo (λwq hq=>fb dI rfl (dW _) rfl ((S.gr hq).rd (i:=2) rfl) aj rfl rfl) ?_;refine zE ?_;intro aL av S;refine zK (ak l' _ j om om ⟨L,c,S⟩) ?_;rintro _ aM ⟨rfl,hH⟩;refine zg ?_;refine⟨j,om,_,sl,om,hH,λn' z=>?_,λn' z=>?_,λi aw ag I=>?_,?_⟩
  ·split at z
   ·rename_i I;rcases ez.1 z with h|h
    ·exact h1 n' h
    ·obtain rfl:=dM.1 h;exact .inr ⟨O j om,I⟩
   ·exact h1 n' z
  ·split
   ·exact f6 _ (h2 n' z)
   ·exact h2 n' z
  ·rcases eV j i with h|h
   ·have:=h3 i h ag I;split
    ·exact f6 _ this
    ·exact this
   ·obtain rfl:i=j:=om;rw[a7 I];exact lW _ (dM.2 rfl)
  ·have e3:(N-j)*5^k=(N-(j+1))*5^k+5^k:=by rw[<-cX];congr 1;omega
   split
   ·rw[DL,xR,e3];show _+5^k<=_;omega
   ·rw[e3];omega
end
def HA.wd(b o:Nat)(ws:List ByteArray):HA:=⟨λg=>g=b,λw=>b<w.heap.size/\∀(j:Nat)s,ws[j]?=some s->w.cell? ⟨b,o+j,none⟩=some (.string s),λw w' h hs⟨h1,h2⟩=>⟨fg h1 hs,λj s hj=>(s8 (w:=w) (h b rfl)).trans (h2 j s hj)⟩,λ_ hB g hg=>hg▸hB.1⟩
theorem Mf{ps:String}{el:TypeId}{o len cap:Nat}(D:P.underlying t=some (.slice el))(J:∀w,(sizeOf el).run P w=.ok k w)(I:ev e x=.slice (some ⟨b,o,none⟩) (len+1) cap)(z:ev e lo=.int kl 1) :
  iE P e ⟨d,.slice t x (some lo) none none,ty,ps,af,none⟩ (.slice (some ⟨b,if cap=1 then o else o+k,none⟩) len (cap-1)):=by
 intro w;have h1:(1:Int)<=((len+1:Nat):Int):=om;have h2:=j0 (P:=P) (w:=w) (k:=kl) (i:=1) (y:=len+1) (code:=.sliceB) (by decide) h1;by_cases v:cap=1
 ·subst v;simp[gd,execOp,I,z,Instr.sliceAt,Instr.slice,dS D,Instr.sliceBounds,h2,J,js]
 ·simp[gd,execOp,I,z,Instr.sliceAt,Instr.slice,dS D,Instr.sliceBounds,h2,J,v,js]
theorem G3{lb o:Nat}{s x:ByteArray}(I:ws.length+1<=c)(S:St F W w (.blk lb 366 [.slice (some ⟨b,o,none⟩) (ws.length+1) c,.bool true]::.wd b o (s::ws)::T)) :
  Fn prog (234) [pt lb,.string x] w (λv w'=>∃o' c',v=.string s/\ws.length<=c'/\St F W w' (.blk lb 366 [.slice (some ⟨b,o',none⟩) ws.length c',.bool true]::.wd b o' ws::T)):=by
 refine zI func234 ?_;refine zg ?_;refine cq (vo gT rH rfl rfl (by decide) om) ?_;refine dH (xE fk rfl rfl ((S.ok (i:=1) rfl).2 0 s rfl)) ?_;refine zg ?_;refine cq (Mf gT rH rfl rfl) ?_;refine zS ?_;intro D S;have S:=S.as_ (i:=1) (h':=.wd b (if c=1 then o else o+1) ws) rfl rfl (λ⟨h1,h2⟩=>⟨h1,λj s y=>?_⟩) (λ_ h=>h)
 ·exact ir rfl ⟨_,_,rfl,om,S⟩
 ·have:=h2 (j+1) s y;rw[(om:o+(j+1)=o+1+j)]at this;have z:j<ws.length:=(dq.1 y).1;rw[a8 om];exact this
def C7:List Value->List Nat->List Nat->List Value
 |l,p::ps,v::vs=>C7 (l.set p (ii v)) ps vs
 |l,_,_=>l
def uG(l:List Value)(p:Nat):Prop:=∃(s:ByteArray)(u:Nat),Dg s u/\l[p]?=some (ii u)
theorem uG.set{v:Nat}{s:ByteArray}(h:uG l p)(hd:Dg s v):uG (l.set q (ii v)) p:=by
 obtain⟨y,u,h1,h2⟩:=h;by_cases e:q=p
 ·subst e;exact⟨s,v,hd,by rw[lv (dq.1 h2).1]⟩
 ·exact⟨y,u,h1,by rw[List.getElem?_set_ne e];exact h2⟩
def EG(ob:Nat)(l:List Nat):List Value:=l.map λp=>.pointer (some ⟨ob,p,none⟩)
theorem G4{lb o t:Nat}{D:Option Addr}{zs:List (ByteArray×Nat)}{qs:List Nat}(ak:dO D)(ao:n<=100)(hn:qs.length=n)(I:zs.length=n)(L:(zs.map Prod.fst++ws).length<=c)(hd:∀z∈zs,Dg z.1 z.2)(hq:∀q∈qs,uG ol q)(S:St F W w (.row 368 1 D n n (EG ob qs)::.blk lb 366 [.slice (some ⟨b,o,none⟩) (zs.map Prod.fst++ws).length c,.bool true]::.wd b o (zs.map Prod.fst++ws)::.blk ob t ol::T)) :
  Fn prog (232) [pt lb,.slice D n n] w (λv w'=>∃o' c',v=.tuple #[]/\ws.length<=c'/\St F W w' (.blk lb 366 [.slice (some ⟨b,o',none⟩) ws.length c',.bool true]::.wd b o' ws::.blk ob t (C7 ol qs (zs.map Prod.snd))::T)):=by
 have U:∀(k q:Nat),qs[k]?=some q->(EG ob qs)[k]?=some (Value.pointer (some ⟨ob,q,none⟩)):=λk q hk=>by simp[EG,da,hk]
 generalize J:C7 ol qs (zs.map Prod.snd)=R;generalize hQ:EG ob qs=PS at *;refine zI func232 ?_;refine zg ?_
 refine dl (λm e w'=>∃(k o' c':Nat)(zr:List (ByteArray×Nat))(y:List Value),k+m=n/\zr.length=m/\(zr.map Prod.fst++ws).length<=c'/\(∀z∈zr,Dg z.1 z.2)/\(∀q∈qs,uG y q)/\C7 y (qs.drop k) (zr.map Prod.snd)=R /\
   SL e [(0,pt lb),(6,.slice D n n),(7,ii n),(8,ii k)]/\St F W w' (.row 368 1 D n n PS::.blk lb 366 [.slice (some ⟨b,o',none⟩) (zr.map Prod.fst++ws).length c',.bool true]::.wd b o' (zr.map Prod.fst++ws)::.blk ob t y::T)) n
  ⟨0,o,c,zs,ol,om,I,L,hd,hq,J,sl,S⟩ ?_
 clear S L hd I hq J;rintro m e w2 ⟨k,o',c',zr,y,hk,I,L,hd,hq,J,aj,S⟩;rw[aj.fold];by_cases an:k<n
 ·cases zr with
  |nil=>simp at I;omega
  |cons z zr =>
   obtain⟨s,v⟩:=z;have O:Dg s v:=hd (s,v) (by simp);obtain⟨q,aa⟩:∃q,qs[k]?=some q:=⟨_,ct om⟩;obtain⟨V,ab⟩:=dq.1 aa;have ai:=hq q (ab▸fY V);have ag:=U k q aa;have ae:qs.drop k=q::qs.drop (k+1):=by rw[<-ab];exact dX V
   rw[ae]at J;obtain⟨s0,u,hu,Z⟩:=ai;simp only[fc]at I;refine zg ?_;refine dH (eI t6 rfl rfl (S.rd (i:=0) rfl) (v:=.pointer (some ⟨ob,q,none⟩)) (by simpa using ag)) ?_;refine zg ?_;refine dH (cV cw rfl rfl (S.blk (i:=3) rfl) Z) ?_;refine zC (H6 hu) ?_;intro ap al S;refine zK (G3 (T:=.blk ob t y::.row 368 1 D n n PS::T) (ws:=zr.map Prod.fst++ws) L (S.pick 4 [1,2,3,0] rfl rfl rfl)) ?_;rintro _ aq ⟨o2,c2,rfl,ad,S⟩;have S:=S.pick 4 [3,0,1,2] rfl rfl rfl;refine zC (BI O) ?_;intro ar am S;refine zg ?_;refine iy (i:=3) S rfl (cR _) rfl rfl rfl rfl Z rfl ?_;intro w9 S;refine zg ?_;exact⟨m-1,om,k+1,o2,c2,zr,y.set q (ii v),om,om,ad,λz I=>hd z (cW _ I),λq' ah=>(hq q' ah).set O,J,sl,S⟩
 ·obtain rfl:k=n:=om;obtain rfl:m=0:=om;obtain rfl:=gj I;refine zg ?_
  have ac:y=R:=by
   rw[<-J];cases qs.drop k<;>rfl
  subst ac;exact na ⟨_,_,rfl,L,S.drop 1⟩
end Go.Proofs.YtjfeklflkikapaaGreatDoor
