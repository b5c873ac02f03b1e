/- A part of the proof that hachuretop.WholeCharts and hachuretop.WholeWater returns true at every input; no condition. -/
import Derived.Test.YtcalhocphkbbgaaGreatDoorKJ
import Derived.Test.YtcalhocphkbbgaaGreatDoorKM
set_option maxRecDepth 100000
set_option maxHeartbeats 16000000
set_option linter.unusedVariables false
set_option linter.unusedSimpArgs false
namespace Go.Proofs.YtcalhocphkbbgaaGreatDoor
open Go.Proofs.Tryz Go.RowKit
variable{af:Array Edge}{h h':HA}{a now stamp:Int}{kc kl:IntKind}{σ:List (Nat × Value)}{ws:List ByteArray}{L' T tl:List HA}{V':List Int}{hd:List Nat}{l ol vs xs τ:List Value}{b bytes c c1 c2 cx cy el elM g gh gw i j k kM lc m n nM ob p pb q sn sz tb x0 x1 y0 y1:Nat}{c' cc:Nat->Int}{bs o':Nat->Nat}{R':Nat->Nat->Bool}{As:Nat->Option Addr}{Rs:Nat->Option Nat}{F:Nat->Prop}{e:Nat->Value}{o2:Oper}{hi lo x:Operand}{A A1 A2 l0 lA:Option Addr}{ysf:Option Addr->List Value}{d:Option Tmp}{P:Program}{t ty:TypeId}{u v3:Value}{R:Value->World->Prop}{W w w' wq:World}{C:World->Prop}
def DE(F:Nat->Prop)(W:World)(L:List HA)(i el k n:Nat)(xs:List Value)(ysf:Option Addr->List Value)(elM kM nM:Nat)(zs:List Value)(wq:World):List Value->Prop
 |[]=>St F W wq L
 |[m]=>∃A,m=.slice A nM nM/\dO A/\St F W wq (.row elM kM A nM nM zs::L)
 |[b,m]=>∃A,m=.slice A nM nM/\dO A/\CS F W (.row elM kM A nM nM zs::L) (i+1) el k n xs (ysf A) wq [b]
 |[u,b,m]=>∃A,m=.slice A nM nM/\dO A/\CS F W (.row elM kM A nM nM zs::L) (i+1) el k n xs (ysf A) wq [u,b]
 |_=>False
section
variable{L:List HA}{zs:List Value}
theorem DE.gr(h:DE F W L i el k n xs ysf elM kM nM zs wq τ)(g:Gr wq w'):DE F W L i el k n xs ysf elM kM nM zs w' τ:=by
 match τ,h with
 |[],h=>exact St.gr (show St F W wq L from h) g
 |[m],⟨A,e,s,h⟩=>exact⟨A,e,s,h.gr g⟩
 |[b,m],⟨A,e,s,h⟩=>exact⟨A,e,s,CS.gr h g⟩
 |[u,b,m],⟨A,e,s,h⟩=>exact⟨A,e,s,CS.gr h g⟩
theorem DE.ok(h:DE F W L i el k n xs ysf elM kM nM zs wq τ)(y:j≠i){x:HA}(v:gi L j=some x):x.ok wq:=by
 match τ,h with
 |[],h=>exact St.ok (show St F W wq L from h) v
 |[m],⟨A,e,s,h⟩=>exact h.ok (i:=j+1) v
 |[b,m],⟨A,e,s,h⟩=>exact CS.ok h (j:=j+1) om v
 |[u,b,m],⟨A,e,s,h⟩=>exact CS.ok h (j:=j+1) om v
end
section
variable{ps:String}{L:List HA}{zs:List Value}
theorem xp{o:Oper}{R':Value->World->Prop}(h:gI P e o w R)(y:∀v w',R v w'->R' v w'):gI P e o w R':=by
 unfold gI at *;generalize (execOp (ev e) o).run P w=r at *;cases r with
 |ok x w'=>cases x<;>first|exact y _ _ h|exact h.elim|(exact h.mono λ_ _⟨v,he,hR⟩=>⟨v,he,y _ _ hR⟩)|exact⟨h.1,RoundIn.mono h.2 λ_ _⟨v,he,hR⟩=>⟨v,he,y _ _ hR⟩⟩
 |halt x w'=>exact h.elim
theorem KZ{y:Operand}{z:Value}{m p:Int}(hq:DE F W L i el k n xs ysf elM kM nM zs wq [])(hu:P.underlying t=some (.slice elM))(U:(P.info? elM).map (λi=>(i.zero,i.size,i.bytes))=some (some z,kM,bytes))(O:Nat.beq z.cells.size kM=true)(hx:ev e x=.int kl m)(hy:ev e y=.int kc p)(hm:m=(nM:Nat))(hp:p=(nM:Nat))(J:nM*(bytes+1)<=140737488355328)(I:(List.replicate nM z.cells.toList).flatten=zs) :
  gI P e ⟨d,.makeSlice t x y,ty,ps,af,none⟩ wq (λv w'=>DE F W L i el k n xs ysf elM kM nM zs w' [v]):=by
 subst I;have h:=Fe (P:=P) (w:=wq) (d:=d) (ty:=ty) (ps:=ps) (af:=af) (e:=e) hu U O hx hy hm hp (fK _) J;have D:=eU O;have V:nM<=140737488355328:=dE (eS _ om) J;refine AY h ?_;have S:St F W wq L:=hq;refine⟨_,rfl,pS _ _,S.push (Gr.alloc _ _) (h:=.row elM kM (some ⟨wq.heap.size,0,none⟩) nM nM _) (gH.of_blk (eL.new _ _ _) (by simp[D]) (by unfold maxLen;omega)) (λg Z=>?_)⟩;have:wq.heap.size=g:=by injection Z
 omega
theorem Jt{v:Value}{y:List (Nat×Operand)}{z:Value}{l0:List Value}(V:DE F W L i el k n xs ysf elM kM nM zs wq [v])(hu:P.underlying t=some (.slice el))(Z:∀w,(sizeOf el).run P w=.ok k w)(hz:∀w,(zeroValue el).run P w=.ok z w)(J:z.cells.toList.length=k)(D:Nat.beq (1*k) 0=false)(U:Nat.ble (1*k) 16777216=true)(h1:yS (λi=>some (i*k,k)) ((List.replicate 1 z.cells.toList).flatten) (yQ e y)=some l0)(h2:lj l0=some l)(O:Nat.beq l.length (1*k)=true)(I:∀A,v=.slice A nM nM->l=ysf A) :
  gI P e ⟨d,.buildSlice t 1 y.toArray,ty,ps,af,none⟩ wq (λb w'=>DE F W L i el k n xs ysf elM kM nM zs w' [b,v]):=by
 obtain⟨A,rfl,s,S⟩:=V;have h:=I A rfl;subst h;exact xp (rO (L:=.row elM kM A nM nM zs::L) (i:=i+1) (xs:=xs) (n:=n) S hu Z hz J D U h1 h2 O) λb w' h=>⟨A,rfl,s,h⟩
theorem Nr{s:Operand}{t:Nat}{D:Option Addr}{z b v:Value}(Z:DE F W L i el k n xs ysf elM kM nM zs wq [b,v])(hi:gi L i=some (.row el k D n c xs))(O:∀h,∃L',j7 L i h=some L')(hu:P.underlying t=some (.slice el))(I:(P.info? el).map (λi=>(i.zero,i.size,i.bytes))=some (some z,k,bytes))(hz:Nat.beq z.cells.size k=true)(U:Nat.blt 0 k=true)(hs:ev e s=.slice D n c)(hx:ev e x=b)(V:∀A,(ysf A).length=1*k)(h1:∀A,((ysf A).all λv=>v.oneCell')=true)(J:(n+1)*(bytes+1)<=140737488355328) :
  gI P e ⟨d,.call ⟨.builtin .append,#[s,x],#[t,t]⟩,ty,ps,af,none⟩ wq (λu w'=>DE F W L i el k n xs ysf elM kM nM zs w' [u,b,v]):=by
 obtain⟨A,rfl,sa,S⟩:=Z;refine xp (u6 (L:=.row elM kM A nM nM zs::L) (i:=i+1) S hi (λh=>?_) hu I hz U hs hx (V A) (h1 A) J) λu w' h=>⟨A,rfl,sa,h⟩;obtain⟨L',y⟩:=O h;exact⟨.row elM kM A nM nM zs::L',by show(match j7 L i h with|some s=>some (HA.row elM kM A nM nM zs::s)|none=>none)=_;rw[y]⟩
end
section
variable{cap:Nat}
theorem XM:(prog.info? 389).map (λi=>(i.zero,i.size,i.bytes))=some (some (.agg #[ii 0,ii 0,.slice none 0 0]),3,40):=by kernel_rfl
theorem Nt(U:eJ W p gw gh cc A cap bs Rs):Fn prog 414 [pt p] W (λv w'=>∃pb lA lc As cs,v=.tuple #[pt pb,ii 0] /\
  St No W w' [.blk pb 312 [.slice lA (fW gw gh) lc],.row 389 3 lA (fW gw gh) lc (ut (fW gw gh) gw gh As cs),.pfam 158 2 (fW gw gh) As (mG gw gh) cs (wX gw gh (dw gw gh cc))]):=by
 have L:=U.sw;have J:=U.sh;have hl:=lI L.2 J.2;have I:=U.top;have S:=St.start W;refine zI func414 ?_;refine zN ?_;intro y au am S;refine zC (mC p gw gh _ _ (I.gr S.out)) ?_;intro av an S;refine zC (Bz L J) ?_;intro aw ao S;refine zg ?_;have S:=(S.pushNil 389 3).swap;have S:=(S.pfam0 (el:=158) (sz:=2) (λ_=>none) (mG gw gh) (λ_=>0) (λk=>mq (mG gw gh k) (λ_=>⟨0,0⟩)))
 refine dl (λm e w=>∃(k:Nat)(lA:Option Addr)(lc:Nat)(As:Nat->Option Addr)(cs:Nat->Nat),k+m=fW gw gh/\SL e [(0,pt p),(4,pt y),(5,ii gw),(6,ii gh),(28,ii (fW gw gh)),(29,ii k)] /\
  St No W w [.pfam 158 2 k As (mG gw gh) cs (λk=>mq (mG gw gh k) (λ_=>⟨0,0⟩)),.blk y 312 [.slice lA k lc],.row 389 3 lA k lc (ut k gw gh As cs)]) (fW gw gh)
  ⟨0,none,0,λ_=>none,λ_=>0,om,sl,S⟩ ?_
 clear S;rintro m e w ⟨k,lA,lc,As,cs,hk,ad,S⟩;rw[ad.fold];by_cases ac:k<fW gw gh
 ·have ae:=KE k L J;have O:((dG gw k:Nat):Int)*(dG gh k:Nat)=(mG gw gh k:Nat):=by unfold mG;push_cast;rfl
  have ah:mG gw gh k<=1024*1024:=ae;have ag:=QG (mG gw gh k);refine zC (xL k L J ac) ?_;intro az ap S;refine zH (C:=(λσ wq=>DE No W [.pfam 158 2 k As (mG gw gh) cs (λk=>mq (mG gw gh k) (λ_=>⟨0,0⟩)),.blk y 312 [.slice lA k lc],.row 389 3 lA k lc (ut k gw gh As cs)] 2 389 3 k (ut k gw gh As cs) (λA=>[ii (dG gw k:Nat),ii (dG gh k:Nat),.slice A (mG gw gh k) (mG gw gh k)]) 158 2 (mG gw gh k) (mq (mG gw gh k) (λ_=>⟨0,0⟩)) wq σ)) [10,12,13] [0,1,2,3,4,5,6,7,8,9,10,11,12,13] [14,15,16] (S.gr (Gr.drew _)) ?_;refine zV (λτ wq D=>(DE.ok D (j:=1) (by decide) rfl)) ?_;refine ot rfl (jx rfl) ?_;refine ot rfl (jx rfl) ?_;refine ot rfl (jx rfl) ?_;refine ot rfl (jx rfl) ?_;refine ot rfl (fh rfl (by rw[O];omega)) ?_;rw[O];refine de rfl rfl (λwq D=>KZ D kg Ns rfl rfl rfl rfl rfl om ag) ?_;rintro v5 w5 ⟨V,rfl,s5,_⟩;refine zR ?_;refine de rfl rfl (λwq D=>Jt D kV tZ IF rfl rfl rfl rfl rfl rfl (λA h=>by injection h with h;rw[h])) ?_;rintro v6 w6 ⟨A6,h6,_,A7,rfl,_⟩;refine de rfl rfl (λwq D=>Nr D rfl (λh=>⟨_,rfl⟩) kV XM rfl rfl rfl rfl (λ_=>rfl) (λ_=>rfl) om) ?_;rintro v7 w7 ⟨A8,h8,_,A9,c9,L9,rfl,_,_⟩;refine zY ?_;rintro w8 ⟨ai,Z,ar,aj,al,ak,aa,ab,S⟩;cases Z
  cases aa
  obtain rfl:=Option.some.inj ab;refine zS ?_;intro w9 S;have S:=S.pfamPush rfl rfl;have h9:ut k gw gh As cs++[ii (dG gw k:Nat),ii (dG gh k:Nat),.slice V (mG gw gh k) (mG gw gh k)]=ut (k+1) gw gh (nX As k V) (nX cs k (mG gw gh k)):=QI;refine⟨m-1,om,k+1,A9,c9,nX As k V,nX cs k (mG gw gh k),om,sl,?_⟩;rw[<-h9];exact S
 ·obtain rfl:k=fW gw gh:=om;have O:((gw:Int)-1)=((gw-1:Nat):Int):=om;have e2:((gh:Int)-1)=((gh-1:Nat):Int):=om
  have z:=λ(w:World)(g:Gr W w)(S:St No W w [.blk y 312 [.slice lA (fW gw gh) lc],.row 389 3 lA (fW gw gh) lc (ut (fW gw gh) gw gh As cs),.pfam 158 2 (fW gw gh) As (mG gw gh) cs (λk=>mq (mG gw gh k) (λ_=>⟨0,0⟩))]) =>
   z7 (x0:=0) (y0:=0) (x1:=gw-1) (y1:=gh-1) (q:=λ_ _=>⟨0,0⟩) om om (U.gr g) (λk hk i hi hn=>absurd ⟨⟨by rw[Nat.zero_div];exact ib _,nR (dt _ (tg gw k))⟩,by rw[Nat.zero_div];exact ib _,nR (cS hi)⟩ hn) S
  simp only[<-O,<-e2]at z;have S:=S.perm_ (xo _ _ _ _).symm;refine zC (uo p gw gh L.2 J.2 _ w (I.gr S.out)) ?_;intro aA aq S;refine zK (z _ S.out S) ?_;rintro _ aB ⟨rfl,S⟩;refine zX ?_;exact⟨y,lA,lc,As,cs,rfl,S⟩
end
def Nu:Nat->List HA->Option (List HA)
 |0,L=>some L
 |_+1,[]=>none
 |n+1,_::r=>Nu n r
def Ju(L:List HA):List Nat->List HA->Option (List HA)
 |[],t=>some t
 |i::is,t=>match gi L i,Ju L is t with
  |some h,some r=>some (h::r)
  |_,_=>none
theorem H9:∀{n:Nat}{L t:List HA},Nu n L=some t->n<=L.length/\t=L.drop n
 |0,L,t,h=>⟨ib _,by cases h;rfl⟩
 |n+1,[],t,h=>by cases h
 |n+1,a::r,t,h=>by
  have:=H9 (L:=r) (n:=n) h
  exact⟨by simp;omega,this.2⟩
theorem K0:∀(L:List HA)(i:Nat),gi L i=L[i]?
 |[],i=>by simp[gi]
 |a::r,0=>rfl
 |a::r,i+1=>by show gi r i=_;rw[K0 r i];simp
theorem Ia{L:List HA}:∀{is:List Nat}{t L':List HA},Ju L is t=some L'->L'=is.filterMap (λi=>L[i]?)++t
 |[],t,L',h=>by cases h;rfl
 |i::is,t,L',h=>by
  unfold Ju at h
  rw[K0]at h
  split at h
  ·rename_i a r h1 h2
   have:=Ia h2
   injection h with h;rw[List.filterMap_cons,h1,<-h,this];rfl
  ·cases h
theorem Gh{L:List HA}:∀n,n<=L.length->(List.range n).filterMap (λi=>L[i]?)=L.take n
 |0,_=>by simp
 |n+1,h=>by
  rw[eG,List.filterMap_append,Gh n om,kK]
  simp only[List.filterMap_cons,List.filterMap_nil]
  rw[fw om]
  simp
theorem St.pick{L t:List HA}(n:Nat)(is:List Nat)(S:St F W w L)(hd:Nu n L=some t)(y:Ju L is t=some L')(hi:is.isPerm (List.range n)=true):St F W w L':=by
 obtain⟨v,rfl⟩:=H9 hd;rw[Ia y];refine S.perm_ ?_;have:=((List.isPerm_iff.1 hi).filterMap (λi=>L[i]?)).append_right (L.drop n);rw[Gh n v,lV]at this;exact this.symm
section
variable{lb cap:Nat}{cs:Nat->Nat}{V:List Int}
theorem TZ(D:rj W tb gw gh V):Fn prog 252 [pt tb] W (dp (.tuple #[ii gw,ii gh]) W):=by
 obtain⟨J,L,As,cs,y,U,O⟩:=D;have S:=St.start W;refine zI func252 ?_;refine zD [0,1,2,3,4,5,6,7,8,9] [] ?_;refine zM (λwq v=>(y.gr (S.gr v).out)) ?_;refine zM (λwq v=>(y.gr (S.gr v).out)) ?_;refine zE ?_;intro I z S;exact nd rfl rfl ⟨rfl,S.out⟩
theorem Wd(hB:vB (dw gw gh cc))(J:eJ W p gw gh cc A cap bs Rs):Fn prog 72 [pt p,ii stamp] W (λv w'=>∃sn tb q z D As cs,v=.tuple #[pt sn,ii 0] /\
  St No W w' (.blk sn 258 [ii stamp,pt tb,pt q]::BB tb gw gh (dw gw gh cc) z D As cs)):=by
 have hg:=λw(g:Gr W w)=>FN hB (J.gr g);have hs:=λw(g:Gr W w)=>HO (J.gr g);have S:=St.start W;refine zI func72 ?_;refine zN ?_;intro U ab aa S;refine zK (hg _ S.out) ?_;rintro _ ac ⟨tb,z,D,Fs,Z,rfl,y⟩;have S:=(S.app y).perm_ ft;refine zS ?_;intro ad S;refine zK (hs _ S.out) ?_;rintro _ ae ⟨q,L,V,O,I,rfl,y⟩;have S:=S.gr y.out;refine zS ?_;intro ag S;exact nd rfl rfl ⟨_,_,_,_,_,_,_,rfl,S⟩
theorem DF(J:vB (dw gw gh cc))(z:eJ W p gw gh cc A cap bs Rs):Fn prog 413 [pt p] W (λv w'=>∃lb tb A1 c1 pb lA lc As cs,v=.tuple #[pt lb,ii 0] /\
  St No W w' [.blk lb 188 [pt p,pt tb,pt pb],.blk tb 293 [ii gw,ii gh,.slice A1 ((gh+1)*(gw+1)) c1],
   .row 2 1 A1 ((gh+1)*(gw+1)) c1 (fj ((gh+1)*(gw+1)) (lk gw (dw gw gh cc))),
   .blk pb 312 [.slice lA (fW gw gh) lc],.row 389 3 lA (fW gw gh) lc (ut (fW gw gh) gw gh As cs),.pfam 158 2 (fW gw gh) As (mG gw gh) cs (wX gw gh (dw gw gh cc))]):=by
 have L:=λw(g:Gr W w)=>Jh J (z.gr g);have O:=λw(g:Gr W w)=>Nt (z.gr g);have S:=St.start W;refine zI func413 ?_;refine zN ?_;intro D V I S;refine zK (L _ S.out) ?_;rintro _ Z ⟨tb,A1,c1,rfl,y⟩;have S:=(S.app y).perm_ ft;refine zS ?_;intro aa S;refine zK (O _ S.out) ?_;rintro _ ab ⟨pb,lA,lc,Ls,U,rfl,y⟩;have S:=(S.app y).perm_ ft;refine zS ?_;intro ac S;exact nd rfl rfl ⟨_,_,_,_,_,_,_,_,_,rfl,S⟩
theorem pj{x y:Value}(v:eL W lb 188 [x,y,pt pb]):Fn prog 49 [pt lb] W (dp (pt pb) W):=by
 have S:=St.start W;refine zI func49 ?_;iterate 6 refine z ?_
 refine dH (cV G8 rfl rfl (v.gr S.out) rfl) ?_;exact zZ
theorem T0{z:Value}(x0 y0 x1 y1:Nat)(L:vB V)(hw:1<=gw/\gw<=1024)(U:1<=gh/\gh<=1024)(hx:x0<=x1/\x1<gw)(hy:y0<=y1/\y1<gh)(O:eL W sn 258 [ii stamp,pt tb,z])(J:rj W tb gw gh V) :
  Fn prog 78 [pt sn,.agg #[ii x0,ii y0,ii x1,ii y1]] W (dp (.tuple #[ii (uv V gw x0 y0 x1 y1),ii 0]) W):=by
 have Z:=λw(g:Gr W w)=>Pp (W:=w) x0 y0 x1 y1 L hw U hx hy (J.gr g);have S:=St.start W;refine zI func78 ?_;refine zN ?_;intro y aa D S;refine zD [0,1,2,3,4,5,6,7,8,9] [] ?_;refine zM (λwq v=>(O.gr (S.gr v).out)) ?_;refine zP (λwq v=>Z wq (S.gr v).out) ?_;refine zE ?_;intro ab I S;exact nd rfl rfl ⟨rfl,S.out⟩
def yv(w:World)(now:Int)(v:Option Addr):Prop:=v=none\/∃sn st y z,v=some ⟨sn,0,none⟩/\st≠now/\eL w sn 258 [ii st,y,z]
theorem yv.gr{v:Option Addr}(h:yv w now v)(g:Gr w w'):yv w' now v:=h.imp id λ⟨sn,st,y,z,h1,h2,D⟩=>⟨sn,st,y,z,h1,h2,D.gr g⟩
theorem T4{v:Option Addr}(h:yv W now v):Fn prog 171 [.pointer v,ii now] W (dp (.bool false) W):=by
 rcases h with rfl|⟨sn,st,y,z,rfl,D,I⟩
 ·skip;have S:=St.start W;refine zI func171 ?_;refine zg ?_;refine dU (uS jl rfl rfl) ?_;exact zZ
 ·skip;have S:=St.start W;refine zI func171 ?_;refine zg ?_;refine dU (uS jl rfl rfl) ?_;exact zZ
theorem PD{v:Option Addr}(h:yv W now v):Fn prog 99 [pt lb,.pointer v,ii now] W (dp (.bool false) W):=by
 have z:=λw(g:Gr W w)=>T4 (h.gr g);have S:=St.start W;refine zI func99 ?_;refine zC (z W S.out) ?_;intro D y S;exact zZ
theorem We{v:Option Addr}{y z:Value}(x0 y0 x1 y1:Nat)(U:vB V)(hw:1<=gw/\gw<=1024)(hh:1<=gh/\gh<=1024)(hx:x0<=x1/\x1<gw)(hy:y0<=y1/\y1<gh)(h:yv W now v)(hL:eL W lb 188 [y,pt tb,z])(Z:xy W tb gw gh (lk gw V)) :
  Fn prog 51 [pt lb,.pointer v,ii now,.agg #[ii x0,ii y0,ii x1,ii y1]] W (dp (.tuple #[ii (uv V gw x0 y0 x1 y1),.bool false,ii 0]) W):=by
 have ho:=λw(g:Gr W w)=>PD (lb:=lb) (h.gr g);have hs:=λw(g:Gr W w)=>Jf (W:=w) x0 y0 x1 y1 U hw hh hx hy (Z.gr g);have S:=St.start W;refine zI func51 ?_;refine zN ?_;intro I aa J S;refine zC (ho _ S.out) ?_;intro ab L S;refine zD [0,1,2,3,4,5,6,7,8,9,10] [] ?_;refine zM (λwq D=>(hL.gr (S.gr D).out)) ?_;refine zP (λwq D=>hs wq (S.gr D).out) ?_;refine zE ?_;intro ac O S;exact tE rfl rfl rfl ⟨rfl,S.out⟩
theorem PE(O:1<=gw)(I:1<=gh)(D:∀x y,x<gw->y<gh->¬((x0<=x/\x<=x1)/\y0<=y/\y<=y1)->V.getD (y*gw+x) 0=V'.getD (y*gw+x) 0)(k:Nat)(i:Nat)(hi:i<dG gw k*dG gh k)(J:¬((x0/2^k<=i%dG gw k/\i%dG gw k<=x1/2^k)/\y0/2^k<=i/dG gw k/\i/dG gw k<=y1/2^k)):zz gw gh V k i=zz gw gh V' k i:=by
 have L:0<dG gw k:=fT λe=>by rw[e,iD]at hi;omega
 refine Ku k _ _ (dt _ L) (cS hi) (λcx cy h1 h2 v z=>D cx cy h1 h2 λ⟨⟨a,b⟩,c,d⟩=>J ?_) O I;rw[<-v,<-z];exact⟨⟨ji a,ji b⟩,ji c,ji d⟩
theorem Nv(hB:vB (dw gw gh cc))(U:x0<=x1/\x1<gw)(Z:y0<=y1/\y1<gh)(ad:gw*gh<8*((y1+1-y0)*(x1+1-x0)))(hV:∀x y,x<gw->y<gh->¬((x0<=x/\x<=x1)/\y0<=y/\y<=y1)->V.getD (y*gw+x) 0=(dw gw gh cc).getD (y*gw+x) 0)(S:St F W w (.grid p gw gh cc A cap bs Rs::.blk lb 188 [pt p,pt tb,pt pb] ::
   .blk pb 312 [.slice lA (fW gw gh) lc]::.row 389 3 lA (fW gw gh) lc (ut (fW gw gh) gw gh As cs)::.pfam 158 2 (fW gw gh) As (mG gw gh) cs (wX gw gh V)::tl)) :
  Fn prog 398 [pt lb,.agg #[ii x0,ii y0,ii x1,ii y1]] w (λv w'=>∃tb A1 c1,v=ii 0 /\
   St F W w' (.blk tb 293 [ii gw,ii gh,.slice A1 ((gh+1)*(gw+1)) c1]::.row 2 1 A1 ((gh+1)*(gw+1)) c1 (fj ((gh+1)*(gw+1)) (lk gw (dw gw gh cc))) ::
   .grid p gw gh cc A cap bs Rs::.blk lb 188 [pt p,pt tb,pt pb] ::
   .blk pb 312 [.slice lA (fW gw gh) lc]::.row 389 3 lA (fW gw gh) lc (ut (fW gw gh) gw gh As cs)::.pfam 158 2 (fW gw gh) As (mG gw gh) cs (wX gw gh (dw gw gh cc))::tl)):=by
 have D:=S.grid (i:=0) rfl;have hw:=D.sw;have hh:=D.sh;have O:=λw'(g:Gr w w')=>iz (W:=w') x0 y0 x1 y1 U Z (D.gr g);have ak:=lE gw cc x0 y0 (x1+1-x0) (y1+1-y0);have J:=λw'(g:Gr w w')=>Jh hB (D.gr g);have I:((gw*gh:Nat):Int)<8*(((y1+1-y0)*(x1+1-x0):Nat):Int):=om;rw[kv gw gh]at I;have hm:gw*gh<=1024*1024:=fy hw.2 hh.2;have aj:(y1+1-y0)*(x1+1-x0)<=1024*1024:=fy om om;have L:=D.top
 have z:∀k,k<fW gw gh->∀i,i<dG gw k*dG gh k->¬((x0/2^k<=i%dG gw k/\i%dG gw k<=x1/2^k)/\y0/2^k<=i/dG gw k/\i/dG gw k<=y1/2^k)->zz gw gh V k i=zz gw gh (dw gw gh cc) k i :=
  λk _ i hi hn=>PE hw.1 hh.1 hV k i hi hn
 clear O J D L;refine zI func398 ?_;refine zN ?_;intro ae aa ag S;refine zH (C:=(λσ wq=>Gr aa wq/\CN F W _ (λv h=>∃A c,v=.tuple #[.slice A ((y1+1-y0)*(x1+1-x0)) c,ii 0]/\h=.row 2 1 A ((y1+1-y0)*(x1+1-x0)) c (cY (fi gw cc x0 y0 (x1+1-x0) (y1+1-y0)))) wq σ)) [5] [0,1,2,3,4,5,6,7,8,9,10] [] ⟨Gr.drew _,S.gr (Gr.drew _)⟩ ?_;refine zV (λτ wq z=>((S.gr z.1).blk (i:=2) rfl)) ?_;refine zV (λτ wq z=>((S.gr z.1).blk (i:=0) rfl)) ?_;refine de rfl rfl (λwq z=>l4 rfl ((iz x0 y0 x1 y1 U Z (St.grid (CN.st z.2) (i:=1) rfl)).mono (λv w'⟨A,c,hv,hR,J,g⟩=>⟨z.1.trans g,_,⟨A,c,hv,rfl⟩,St.pushRow (CN.st z.2) hR J g⟩))) ?_;rintro v3 w3 ⟨g3,h3,⟨ab,ac,rfl,rfl⟩,_⟩;refine zY ?_;rintro w4 ⟨g4,h4,⟨A4,c4,e4,rfl⟩,S⟩;refine zC (mC p gw gh _ w4 (S.grid (i:=2) rfl).top) ?_;intro am ah S;refine zK (Jh hB (S.grid (i:=2) rfl)) ?_;rintro _ an ⟨al,A2,c2,rfl,S2⟩;have S:=S.app S2;refine zS ?_;intro ao S;refine zF [0,1,2,3,4,5,6,7,8] [9,10] ?_;intro ap ai S;refine zK (z7 U Z (S.grid (i:=4) rfl) z (S.pick 9 [6,7,8,0,1,2,3,4,5] rfl rfl rfl)) ?_;rintro _ aq ⟨rfl,S⟩;refine zg ?_;have S:=S.pick 9 [3,4,5,6,7,8,0,1,2] rfl rfl rfl;exact ir rfl ⟨_,_,_,rfl,S.sub (.cons_cons _ (.cons_cons _ (.cons _ (.cons _ (cQ _)))))⟩
end
def HA.wd(b o:Nat)(ws:List ByteArray):HA:=⟨λg=>g=b,λw=>b<w.heap.size/\∀(j:Nat)s,ws[j]?=some s->w.cell? ⟨b,o+j,none⟩=some (.string s),λw w' h hs⟨h1,h2⟩=>⟨fg h1 hs,λj s hj=>(s8 (w:=w) (h b rfl)).trans (h2 j s hj)⟩,λ_ hB g hg=>hg▸hB.1⟩
theorem Mf{ps:String}{el:TypeId}{o len cap:Nat}(D:P.underlying t=some (.slice el))(J:∀w,(sizeOf el).run P w=.ok k w)(I:ev e x=.slice (some ⟨b,o,none⟩) (len+1) cap)(z:ev e lo=.int kl 1) :
  iE P e ⟨d,.slice t x (some lo) none none,ty,ps,af,none⟩ (.slice (some ⟨b,if cap=1 then o else o+k,none⟩) len (cap-1)):=by
 intro w;have h1:(1:Int)<=((len+1:Nat):Int):=om;have h2:=j0 (P:=P) (w:=w) (k:=kl) (i:=1) (y:=len+1) (code:=.sliceB) (by decide) h1;by_cases v:cap=1
 ·subst v;simp[gd,execOp,I,z,Instr.sliceAt,Instr.slice,dS D,Instr.sliceBounds,h2,J,js]
 ·simp[gd,execOp,I,z,Instr.sliceAt,Instr.slice,dS D,Instr.sliceBounds,h2,J,v,js]
theorem G3{lb o:Nat}{s x:ByteArray}(I:ws.length+1<=c)(S:St F W w (.blk lb 371 [.slice (some ⟨b,o,none⟩) (ws.length+1) c,.bool true]::.wd b o (s::ws)::T)) :
  Fn prog (242) [pt lb,.string x] w (λv w'=>∃o' c',v=.string s/\ws.length<=c'/\St F W w' (.blk lb 371 [.slice (some ⟨b,o',none⟩) ws.length c',.bool true]::.wd b o' ws::T)):=by
 refine zI func242 ?_;refine zg ?_;refine dU (vo gT rH rfl rfl (by decide) om) ?_;refine dH (xE fk rfl rfl ((S.ok (i:=1) rfl).2 0 s rfl)) ?_;refine zg ?_;refine dU (Mf gT rH rfl rfl) ?_;refine zS ?_;intro D S;have S:=S.as_ (i:=1) (h':=.wd b (if c=1 then o else o+1) ws) rfl rfl (λ⟨h1,h2⟩=>⟨h1,λj s y=>?_⟩) (λ_ h=>h)
 ·exact ir rfl ⟨_,_,rfl,om,S⟩
 ·have:=h2 (j+1) s y;rw[(om:o+(j+1)=o+1+j)]at this;have z:j<ws.length:=(dq.1 y).1;rw[a8 om];exact this
def C7:List Value->List Nat->List Nat->List Value
 |l,p::ps,v::vs=>C7 (l.set p (ii v)) ps vs
 |l,_,_=>l
def uG(l:List Value)(p:Nat):Prop:=∃(s:ByteArray)(u:Nat),Dg s u/\l[p]?=some (ii u)
theorem uG.set{v:Nat}{s:ByteArray}(h:uG l p)(hd:Dg s v):uG (l.set q (ii v)) p:=by
 obtain⟨y,u,h1,h2⟩:=h;by_cases e:q=p
 ·subst e;exact⟨s,v,hd,by rw[lv (dq.1 h2).1]⟩
 ·exact⟨y,u,h1,by rw[List.getElem?_set_ne e];exact h2⟩
def EG(ob:Nat)(l:List Nat):List Value:=l.map λp=>.pointer (some ⟨ob,p,none⟩)
theorem G4{lb o t:Nat}{D:Option Addr}{zs:List (ByteArray×Nat)}{qs:List Nat}(ak:dO D)(ao:n<=100)(hn:qs.length=n)(I:zs.length=n)(L:(zs.map Prod.fst++ws).length<=c)(hd:∀z∈zs,Dg z.1 z.2)(hq:∀q∈qs,uG ol q)(S:St F W w (.row 373 1 D n n (EG ob qs)::.blk lb 371 [.slice (some ⟨b,o,none⟩) (zs.map Prod.fst++ws).length c,.bool true]::.wd b o (zs.map Prod.fst++ws)::.blk ob t ol::T)) :
  Fn prog (240) [pt lb,.slice D n n] w (λv w'=>∃o' c',v=.tuple #[]/\ws.length<=c'/\St F W w' (.blk lb 371 [.slice (some ⟨b,o',none⟩) ws.length c',.bool true]::.wd b o' ws::.blk ob t (C7 ol qs (zs.map Prod.snd))::T)):=by
 have U:∀(k q:Nat),qs[k]?=some q->(EG ob qs)[k]?=some (Value.pointer (some ⟨ob,q,none⟩)):=λk q hk=>by simp[EG,da,hk]
 generalize J:C7 ol qs (zs.map Prod.snd)=R;generalize hQ:EG ob qs=PS at *;refine zI func240 ?_;refine zg ?_
 refine dl (λm e w'=>∃(k o' c':Nat)(zr:List (ByteArray×Nat))(y:List Value),k+m=n/\zr.length=m/\(zr.map Prod.fst++ws).length<=c'/\(∀z∈zr,Dg z.1 z.2)/\(∀q∈qs,uG y q)/\C7 y (qs.drop k) (zr.map Prod.snd)=R /\
   SL e [(0,pt lb),(6,.slice D n n),(7,ii n),(8,ii k)]/\St F W w' (.row 373 1 D n n PS::.blk lb 371 [.slice (some ⟨b,o',none⟩) (zr.map Prod.fst++ws).length c',.bool true]::.wd b o' (zr.map Prod.fst++ws)::.blk ob t y::T)) n
  ⟨0,o,c,zs,ol,om,I,L,hd,hq,J,sl,S⟩ ?_
 clear S L hd I hq J;rintro m e w2 ⟨k,o',c',zr,y,hk,I,L,hd,hq,J,aj,S⟩;rw[aj.fold];by_cases an:k<n
 ·cases zr with
  |nil=>simp at I;omega
  |cons z zr =>
   obtain⟨s,v⟩:=z;have O:Dg s v:=hd (s,v) (by simp);obtain⟨q,aa⟩:∃q,qs[k]?=some q:=⟨_,fw om⟩;obtain⟨V,ab⟩:=dq.1 aa;have ai:=hq q (ab▸fY V);have ag:=U k q aa;have ae:qs.drop k=q::qs.drop (k+1):=by rw[<-ab];exact dX V
   rw[ae]at J;obtain⟨s0,u,hu,Z⟩:=ai;simp only[fc]at I;refine zg ?_;refine dH (eI Bo rfl rfl (S.rd (i:=0) rfl) (v:=.pointer (some ⟨ob,q,none⟩)) (by simpa using ag)) ?_;refine zg ?_;refine dH (cV iY rfl rfl (S.blk (i:=3) rfl) Z) ?_;refine zC (H6 hu) ?_;intro ap al S;refine zK (G3 (T:=.blk ob t y::.row 373 1 D n n PS::T) (ws:=zr.map Prod.fst++ws) L (S.pick 4 [1,2,3,0] rfl rfl rfl)) ?_;rintro _ aq ⟨o2,c2,rfl,ad,S⟩;have S:=S.pick 4 [3,0,1,2] rfl rfl rfl;refine zC (BI O) ?_;intro ar am S;refine zg ?_;refine iy (i:=3) S rfl (cR _) rfl rfl rfl rfl Z rfl ?_;intro w9 S;refine zg ?_;exact⟨m-1,om,k+1,o2,c2,zr,y.set q (ii v),om,om,ad,λz I=>hd z (cW _ I),λq' ah=>(hq q' ah).set O,J,sl,S⟩
 ·obtain rfl:k=n:=om;obtain rfl:m=0:=om;obtain rfl:=gj I;refine zg ?_
  have ac:y=R:=by
   rw[<-J];cases qs.drop k<;>rfl
  subst ac;exact na ⟨_,_,rfl,L,S.drop 1⟩
end Go.Proofs.YtcalhocphkbbgaaGreatDoor
