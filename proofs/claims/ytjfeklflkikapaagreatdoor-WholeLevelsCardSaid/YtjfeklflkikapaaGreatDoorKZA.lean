/- hachuretop.WholeLevels: a part of the proof that the law returns true at every input; no condition of its own. -/
import Derived.Test.YtjfeklflkikapaaGreatDoorKZ
import Derived.Lib.UnsafeStr
import Derived.Test.YtjfeklflkikapaaGreatDoorKR
set_option maxRecDepth 100000
set_option maxHeartbeats 16000000
set_option linter.unusedVariables false
set_option linter.unusedSimpArgs false
namespace Go.Proofs.YtjfeklflkikapaaGreatDoor
open Go.Proofs.Tryz Go.RowKit
variable{Q:(Nat->Value)->World->Prop}{want:Array (String × TypeId)}{af:Array Edge}{ops:Array Oper}{fd:Field}{f:FuncId}{h h':HA}{X0 X1 Y0 Y1 a bx:Int}{M T tl:List HA}{hd ks:List Nat}{l l' l2 vs xs:List Value}{N b by_ c c2 cap2 cb cx cy el g gh gw i j k k1 k2 lc m n n' p q sb x0 x1 y0 y1:Nat}{sp:Nat->Bool}{c' cc:Nat->Int}{bs bs2:Nat->Nat}{Rs Rs2:Nat->Option Nat}{F F':Nat->Prop}{e:Nat->Value}{op:Op}{hi x:Operand}{A A2 B B1 B2 pp:Option Addr}{d:Option Tmp}{P:Program}{G:Prop}{r:Rc}{t t' ty:TypeId}{u:Value}{W w w' wq:World}{C:World->Prop}
section
variable{cap:Nat}{c:Nat->Int}{V:List Int}
theorem yB(x0 y0 x1 y1:Int)(L:dF x0 y0 x1 y1 gw gh≠0)(v:eJ W p gw gh c A cap bs Rs) :
  Fn prog 39 [pt p,.agg #[ii x0,ii y0,ii x1,ii y1]] W (dp (.tuple #[.slice none 0 0,ii (dF x0 y0 x1 y1 gw gh)]) W):=by
 have O:=v.sw;have J:=v.sh;have y:=λw(g:Gr W w)=>xJ p gw gh x0 y0 x1 y1 O.2 J.2 _ w (v.top.gr g);generalize dF x0 y0 x1 y1 gw gh=e at *;have S:=St.start W;refine zI func39 ?_;refine zN ?_;intro z U D S;refine zC (y _ S.out) ?_;intro V I S;exact zZ
def sX(n:Nat)(V:List Int):Int:=if V.length≠n then 6 else if V.any (λv=>!iL v)then 7 else 0
theorem NY(cp:Nat)(hx:x0<=x1/\x1<gw)(hy:y0<=y1/\y1<gh)(ae:V.length<=9223372036854775807)(ac:sX ((y1+1-y0)*(x1+1-x0)) V≠0)(hG:eJ W p gw gh c A cap bs Rs)(hB:Rd W B (cY V)) :
  Fn prog 136 [pt p,.agg #[ii x0,ii y0,ii x1,ii y1],.slice B V.length cp] W (dp (ii (sX ((y1+1-y0)*(x1+1-x0)) V)) W):=by
 have hw:=hG.sw;have hh:=hG.sh;have aj:(y1+1-y0)*(x1+1-x0)<=1024*1024:=cE om om
 have ab:((x1:Int)-x0+1)*((y1:Int)-y0+1)=(((y1+1-y0)*(x1+1-x0):Nat):Int):=by
  rw[(om:(x1:Int)-x0+1=((x1+1-x0:Nat):Int)),(om:(y1:Int)-y0+1=((y1+1-y0:Nat):Int)),iW];push_cast;rfl
 have aa:=λw(g:Gr W w)=>iz x0 y0 x1 y1 hx hy (hG.gr g);unfold sX at *;generalize hN:(y1+1-y0)*(x1+1-x0)=N at *;by_cases h1:V.length=N
 ·rw[a8 om]at ac ⊢;by_cases h2:V.any (λv=>!iL v)=true
  ·rw[a7 h2];have S:=St.start W;refine zI func136 ?_;refine zN ?_;intro U ag ad S;refine zK (aa _ S.out) ?_;rintro _ L ⟨O,Z,rfl,y,D,I⟩;have S:=S.pushRow y D I;(iterate 6 refine z ?_);refine zf ?_;iterate 3 refine z ?_
   refine eY rfl (qc _ _ _ _ om L) ?_;rintro _ ah ⟨rfl,J⟩;have S:=S.gr J;rw[ab];refine zC (rf B V.length cp _ [] V rfl ae (λv=>!iL v) _ (hB.gr S.out) (λx hx w' g=>Dn x w')) ?_;intro ak ai S;rw[h2];exact zZ
  ·exact absurd (a8 h2) ac
 ·rw[a7 h1];have S:=St.start W;refine zI func136 ?_;refine zN ?_;intro U ag ad S;refine zK (aa _ S.out) ?_;rintro _ L ⟨O,Z,rfl,y,D,I⟩;have S:=S.pushRow y D I;(iterate 6 refine z ?_);refine zf ?_;iterate 3 refine z ?_
  refine eY rfl (qc _ _ _ _ om L) ?_;rintro _ ah ⟨rfl,J⟩;have S:=S.gr J;rw[ab];exact zZ
theorem Rw(U:Nat)(hx:x0<=x1/\x1<gw)(hy:y0<=y1/\y1<gh)(D:V.length<=9223372036854775807)(L:sX ((y1+1-y0)*(x1+1-x0)) V≠0)(hG:eJ W p gw gh c A cap bs Rs)(z:Rd W B (cY V)) :
  Fn prog 383 [pt p,.agg #[ii x0,ii y0,ii x1,ii y1],.slice B V.length U] W
   (dp (.tuple #[tD,ii (sX ((y1+1-y0)*(x1+1-x0)) V)]) W):=by
 have I:=λw(g:Gr W w)=>FX (hG.gr g);have O:=λw q A2 cap2 bs2 Rs2(v:eJ w q gw gh c A2 cap2 bs2 Rs2)(z:Rd w B (cY V))=>NY U hx hy D L v z;generalize sX ((y1+1-y0)*(x1+1-x0)) V=e at *;unfold tD;have S:=St.start W;refine zI func383 ?_;refine zN ?_;intro aa ad ab S;refine zN ?_;intro Z ae ac S;refine zK (I _ S.out) ?_;rintro _ ag ⟨q,A2,cap2,bs2,Rs2,rfl,v,J,y⟩;have S:=S.pushGrid v J y;refine zC (O _ q A2 cap2 bs2 Rs2 (S.grid (i:=0) rfl) (z.gr S.out)) ?_;refine zS ?_;intro ah S;exact pG S ⟨rfl,S.out⟩
end
def lJ(r:Int):List Int:=if r<128 then [r]else if r<2048 then [192+r/64,128+r%64]else [224+r/4096,128+r/64%64,128+r%64]
def DS(l:List Int):List UInt8:=l.map λn=>n.toNat.toUInt8
def Io(l:List Int):ByteArray:=⟨(DS l).toArray⟩
def Uz(l:List Int):Prop:=∀n∈l,0<=n/\n<256
theorem N3{n:Int}(h:0<=n/\n<256):((n.toNat.toUInt8).toNat:Int)=n:=by
 have h1:n.toNat<256:=om;rw[show n.toNat.toUInt8.toNat=n.toNat%256 from rfl,dT h1];omega
theorem UA{r:Int}(h:qk r=true):Uz (lJ r):=by
 have h2:33<=r/\r<=65532:=by
  unfold qk at h;simp only[cM,cT]at h;omega
 unfold lJ;intro n v;split at v
 ·simp only[dM]at v;omega
 ·split at v<;>simp only[dy,gM,lr]at v<;>omega
theorem RU(r:Int):lJ r≠[]:=by
 unfold lJ;split
 ·simp
 ·split<;>simp
theorem BO(r:Int):1<=(lJ r).length/\(lJ r).length<=3:=by
 unfold lJ;split
 ·simp
 ·split<;>simp
theorem Xu:∀x:Fin 32,bits .or .u8 192 (x.val:Nat)=192+(x.val:Nat):=by decide
theorem Xv:∀x:Fin 16,bits .or .u8 224 (x.val:Nat)=224+(x.val:Nat):=by decide
theorem Xw:∀x:Fin 64,bits .or .u8 128 (x.val:Nat)=128+(x.val:Nat):=by decide
theorem Xx:∀x:Fin 256,bits .and .u8 (x.val:Nat) 63=((x.val%64:Nat):Int):=by decide+kernel
theorem Wx{x:Int}(h:0<=x/\x<32):bits .or .u8 192 x=192+x:=by
 obtain⟨n,rfl⟩:=cJ h.1;exact Xu ⟨n,om⟩
theorem PX{x:Int}(h:0<=x/\x<16):bits .or .u8 224 x=224+x:=by
 obtain⟨n,rfl⟩:=cJ h.1;exact Xv ⟨n,om⟩
theorem CP{x:Int}(h:0<=x/\x<64):bits .or .u8 128 x=128+x:=by
 obtain⟨n,rfl⟩:=cJ h.1;exact Xw ⟨n,om⟩
theorem CQ{x:Int}(h:0<=x/\x<256):bits .and .u8 x 63=x%64:=by
 obtain⟨n,rfl⟩:=cJ h.1;exact(Xx ⟨n,om⟩).trans (by push_cast;rfl)
section
variable{rest:List Oper}{ps:String}{L:List HA}
theorem Wy{o:Nat}(y:ev e x=.slice (some ⟨b,o,none⟩) n c)(v:c≠0):iE P e ⟨d,.call ⟨.builtin .unsafeSliceData,#[x],#[t]⟩,ty,ps,af,none⟩ (.pointer (some ⟨b,o,none⟩)):=by
 intro w;have h:=Lib.run_unsafeSliceData_row (P:=P) (w:=w) #[t] ty ⟨b,o,none⟩ n c v;simp[gd,execOp,y,resolve,invoke,builtin,h]
theorem St.gone(S:St F W w L)(z:h.own g)(y:St F W w (h::L))(k:Fr (λb=>b=g) w w'):St F W w' L :=
 (y.set (i:=0) (h':=.row 0 1 none 0 0 []) rfl rfl k (λb v=>.inl (v▸z)) (gH.nil _ _ _) (λb v=>by cases v)).drop 1
theorem Wz{p n:Operand}{pt Z:Nat}{l:List Int}(S:St F W w (.row el 1 A l.length c (f9 l)::L))(hu:P.underlying pt=some (.pointer el))(hc:P.cellsOf el=1)(hp:ev e p=.pointer A)(D:ev e n=ii l.length)(h0:l≠[])(hb:Uz l)(hm:l.length<=9223372036854775807)(hr:∀w',St F W w' L->RW P ops Q rest (fI e d (.string (Io l))) w'):RW P ops Q (⟨d,.call ⟨.builtin .unsafeString,#[p,n],#[pt,Z]⟩,ty,ps,af,none⟩::rest) e w:=by
 rcases (S.row (i:=0) rfl).form with⟨_,I,_⟩|⟨g,cs,rfl,hB,aa,I,ht,_⟩
 ·exact absurd (gj I) h0
 ·rw[cG]at I ht;have z:(DS l).length=l.length:=eP ..;have V:w.shape? g=some (el,c):=by simp[World.shape?,show w.heap[g]?=_ from hB,I]
  have y:∀j x,(DS l)[j]?=some x->w.cell? ((⟨g,0,none⟩:Addr).add j)=some (.int .u8 x.toNat):=λj x O=>by
   unfold DS at O;rw[da]at O;obtain⟨n,D,rfl⟩:=fl.1 O;have U:j<l.length:=(dq.1 D).1
   have J:cs[j]?=some (.int .u8 n):=by
    have:(cs.take l.length)[j]?=some (.int .u8 n):=by rw[ht];unfold f9;rw[da,D];rfl
    rwa[fJ,a7 U]at this
   have h2:=N3 (hb n (dD D));rw[h2];rw[js];simp[World.cell?,show w.heap[g]?=_ from hB,J]
  have v:=Lib.run_unsafeString_row (P:=P) (w:=w) pt Z ty el hu hc g c V (DS l) (λh=>h0 (by simpa [DS]using h)) om om y;rw[z]at v
  have hw:(execOp (ev e) ⟨d,.call ⟨.builtin .unsafeString,#[p,n],#[pt,Z]⟩,ty,ps,af,none⟩).run P w=.ok (.value (.string (Io l))) (w.freeze ⟨g,0,none⟩ l.length):=by
   simp[execOp,resolve,invoke,builtin,hp,D,v,Io]
  refine wZ hw (hr _ ((S.drop 1).gone (g:=g) rfl S ?_));unfold World.freeze;split
  ·exact Fr.refl _ _
  ·exact⟨rfl,rfl,rfl,by simp,λk _ hk=>by
    simp only[sL];rw[a8 (λe=>hk e.symm)]⟩
end
section
variable{p:Option Addr}{l:List Int}{v:Value}
theorem JJ(L:p=none\/p=some ⟨b,0,none⟩)(S:St F W w (.blk b 265 [.pointer p,v]::tl)) :
  Fn prog (227) [pt b] w (λu w'=>u=.tuple #[]/\St F W w' (.blk b 265 [pt b,v]::tl)):=by
 have y:=S.blk (i:=0) rfl;have I:w.cell? ⟨b,0,none⟩=some (.pointer p):=by simp[World.cell?,show w.heap[b]?=_ from y]
 rcases L with rfl|rfl
 ·refine jM (by kernel_rfl) ((Any.Builder_copyCheck_fresh (ρ:=Pw) { Px with } Py.toX72 b w I (by simp[World.shape?,show w.heap[b]?=_ from y];rfl) (by simp[World.frozen?,show w.heap[b]?=_ from y])).mono λe w'⟨z,hw⟩=>⟨z,?_⟩);subst hw;refine S.set (i:=0) (F':=λg=>g=b) rfl rfl ⟨rfl,rfl,rfl,by simp[World.setCell],λk _ J=>Below.heap_setCell _ _ _ _ (λe=>J e)⟩ (λg D=>.inl D) ?_ (λg D=>.inl D);show(w.setCell _ _).heap[b]?=_;simp[World.setCell,sL,show w.heap[b]?=_ from y]
 ·exact jM (by kernel_rfl) ((Any.Builder_copyCheck_used (ρ:=Pw) { Px with } Py.toX72 b w I).mono λe w'⟨z,hw⟩=>⟨z,hw▸S⟩)
theorem AM(l m:List Int):f9 l++f9 m=f9 (l++m):=by unfold f9;rw[fq]
theorem xS{ps:String}{y:Operand}{k:IntKind}{b:Int}{B:Bool}(z:ev e x=.int k a)(D:ev e y=.int k b)(v:decide (a<=b)=B):iE P e ⟨d,.binOp .leq t x y t',ty,ps,af,none⟩ (.bool B):=by
 intro w;subst v;simp[gd,execOp,z,D,eqGuard,binOp,Op.intCmp]
theorem RX{r:Int}(hs:qk r=true)(h7:128<=r)(hl:l.length<=1099511627776)(S:St F W w (.row 5 1 A l.length c (f9 l)::tl)) :
  Fn prog 276 [.slice A l.length c,.int .i32 r] w (λv w'=>∃A' c',v=.slice A' (l++lJ r).length c'/\St F W w' (.row 5 1 A' (l++lJ r).length c' (f9 (l++lJ r))::tl)):=by
 have h2:33<=r/\r<=65532/\¬(55296<=r/\r<=57343):=by
  unfold qk E8 at hs;simp only[cM,cT,hZ,d9]at hs;omega
 have e6:r/2^6=r/64:=rfl;have e12:r/2^12=r/4096:=rfl;rcases cr (r<2048)with h3|h3
 ·have hz:lJ r=[192+r/64,128+r%64]:=by unfold lJ;rw[a8 om,a7 h3]
  rw[hz];refine zI func276 ?_;refine zg ?_;refine cq (dY (ks:=.i32) (n:=r) (m:=r) (kd:=.u32) fV fS rfl (by rw[j3]<;>omega)) ?_;refine zg ?_;refine cq (xS (B:=true) rfl rfl (cF om)) ?_;refine zg ?_;refine cq (rT (k:=6) rfl rfl (by decide) om) ?_;rw[e6];refine cq (dY (ks:=.i32) (n:=r/64) (m:=r/64) (kd:=.u8) fV dv rfl (by rw[gD]<;>omega)) ?_;refine cq (gR (op:=.or) rfl rfl rfl) ?_;rw[Wx om];refine zg ?_;refine cq (dY (ks:=.i32) (n:=r) (m:=r%256) (kd:=.u8) fV dv rfl (by rw[gD]<;>omega)) ?_;refine cq (gR (op:=.and) rfl rfl rfl) ?_;rw[CQ om,(om:r%256%64=r%64)];refine cq (gR (op:=.or) rfl rfl rfl) ?_;rw[CP om];refine yb S ?_;intro A_q w2_ g2_ S sa_q;refine fM (i:=1) S rfl (λh=>rfl) dg nN rfl rfl rfl rfl (by simp) om (S.rd (i:=0) rfl) rfl om ?_;intro A_p3 c_p3 w3_ S sa_p;refine zg ?_;have S:=S.sub (.cons _ (.cons_cons _ (cQ _)));rw[show [Value.int .u8 (192+r/64),.int .u8 (128+r%64)]=f9 [192+r/64,128+r%64]from rfl,AM]at S;exact ir rfl ⟨_,_,by rw[cP];rfl,by rw[cP];exact S⟩
 ·have hz:lJ r=[224+r/4096,128+r/64%64,128+r%64]:=by unfold lJ;rw[a8 om,a8 h3]
  rw[hz];rcases cr (r<55296)with h4|h4
  ·skip;refine zI func276 ?_;refine zg ?_;refine cq (dY (ks:=.i32) (n:=r) (m:=r) (kd:=.u32) fV fS rfl (by rw[j3]<;>omega)) ?_;refine zg ?_;refine cq (xS (B:=false) rfl rfl (cC om)) ?_;refine zg ?_;refine cq (uz (B:=true) rfl rfl (cF om)) ?_;refine zg ?_;refine cq (rT (k:=12) rfl rfl (by decide) om) ?_;rw[e12];refine cq (dY (ks:=.i32) (n:=r/4096) (m:=r/4096) (kd:=.u8) fV dv rfl (by rw[gD]<;>omega)) ?_;refine cq (gR (op:=.or) rfl rfl rfl) ?_;rw[PX om];refine zg ?_;refine cq (rT (k:=6) rfl rfl (by decide) om) ?_;rw[e6];refine cq (dY (ks:=.i32) (n:=r/64) (m:=r/64%256) (kd:=.u8) fV dv rfl (by rw[gD]<;>omega)) ?_;refine cq (gR (op:=.and) rfl rfl rfl) ?_;rw[CQ om,(om:r/64%256%64=r/64%64)];refine cq (gR (op:=.or) rfl rfl rfl) ?_;rw[CP om];refine zg ?_;refine cq (dY (ks:=.i32) (n:=r) (m:=r%256) (kd:=.u8) fV dv rfl (by rw[gD]<;>omega)) ?_;refine cq (gR (op:=.and) rfl rfl rfl) ?_;rw[CQ om,(om:r%256%64=r%64)];refine cq (gR (op:=.or) rfl rfl rfl) ?_;rw[CP om];refine yb S ?_;intro A_q w2_ g2_ S sa_q;refine fM (i:=1) S rfl (λh=>rfl) dg nN rfl rfl rfl rfl (by simp) om (S.rd (i:=0) rfl) rfl om ?_;intro A_p3 c_p3 w3_ S sa_p;refine zg ?_;have S:=S.sub (.cons _ (.cons_cons _ (cQ _)));rw[show [Value.int .u8 (224+r/4096),.int .u8 (128+r/64%64),.int .u8 (128+r%64)]=f9 [224+r/4096,128+r/64%64,128+r%64]from rfl,AM]at S;exact ir rfl ⟨_,_,by rw[cP];rfl,by rw[cP];exact S⟩
  ·skip;refine zI func276 ?_;refine zg ?_;refine cq (dY (ks:=.i32) (n:=r) (m:=r) (kd:=.u32) fV fS rfl (by rw[j3]<;>omega)) ?_;refine zg ?_;refine cq (xS (B:=false) rfl rfl (cC om)) ?_;refine zg ?_;refine cq (uz (B:=false) rfl rfl (cC om)) ?_;refine zg ?_;refine cq (uz (B:=true) rfl rfl (cF om)) ?_;refine zg ?_;refine dr rfl ?_;refine cq (xS (B:=true) rfl rfl (cF om)) ?_;refine zg ?_;refine cq (rT (k:=12) rfl rfl (by decide) om) ?_;rw[e12];refine cq (dY (ks:=.i32) (n:=r/4096) (m:=r/4096) (kd:=.u8) fV dv rfl (by rw[gD]<;>omega)) ?_;refine cq (gR (op:=.or) rfl rfl rfl) ?_;rw[PX om];refine zg ?_;refine cq (rT (k:=6) rfl rfl (by decide) om) ?_;rw[e6];refine cq (dY (ks:=.i32) (n:=r/64) (m:=r/64%256) (kd:=.u8) fV dv rfl (by rw[gD]<;>omega)) ?_;refine cq (gR (op:=.and) rfl rfl rfl) ?_;rw[CQ om,(om:r/64%256%64=r/64%64)];refine cq (gR (op:=.or) rfl rfl rfl) ?_;rw[CP om];refine zg ?_;refine cq (dY (ks:=.i32) (n:=r) (m:=r%256) (kd:=.u8) fV dv rfl (by rw[gD]<;>omega)) ?_;refine cq (gR (op:=.and) rfl rfl rfl) ?_;rw[CQ om,(om:r%256%64=r%64)];refine cq (gR (op:=.or) rfl rfl rfl) ?_;rw[CP om];refine yb S ?_;intro A_q w2_ g2_ S sa_q;refine fM (i:=1) S rfl (λh=>rfl) dg nN rfl rfl rfl rfl (by simp) om (S.rd (i:=0) rfl) rfl om ?_;intro A_p3 c_p3 w3_ S sa_p;refine zg ?_;have S:=S.sub (.cons _ (.cons_cons _ (cQ _)));rw[show [Value.int .u8 (224+r/4096),.int .u8 (128+r/64%64),.int .u8 (128+r%64)]=f9 [224+r/4096,128+r/64%64,128+r%64]from rfl,AM]at S;exact ir rfl ⟨_,_,by rw[cP];rfl,by rw[cP];exact S⟩
theorem UB{r:Int}(y:qk r=true)(Z:l.length<=1099511627776)(S:St F W w (.row 5 1 A l.length c (f9 l)::tl)) :
  Fn prog 228 [.slice A l.length c,.int .i32 r] w (λv w'=>∃z c',v=.slice z (l++lJ r).length c'/\St F W w' (.row 5 1 z (l++lJ r).length c' (f9 (l++lJ r))::tl)):=by
 have h2:33<=r/\r<=65532:=by
  unfold qk at y;simp only[cM,cT]at y;omega
 rcases cr (r<128)with J|J
 ·have hz:lJ r=[r]:=by unfold lJ;rw[a7 J]
  rw[hz];refine zI func228 ?_;refine zg ?_;refine cq (dY (ks:=.i32) (n:=r) (m:=r) (kd:=.u32) fV fS rfl (by rw[j3]<;>omega)) ?_;refine cq (xS (B:=true) rfl rfl (cF om)) ?_;refine zg ?_;refine cq (dY (ks:=.i32) (n:=r) (m:=r) (kd:=.u8) fV dv rfl (by rw[gD]<;>omega)) ?_;refine yb S ?_;intro U ab V S O;refine fM (i:=1) S rfl (λh=>rfl) dg nN rfl rfl rfl rfl (by simp) om (S.rd (i:=0) rfl) rfl om ?_;intro D I ac S L;refine zg ?_;have S:=S.sub (.cons _ (.cons_cons _ (cQ _)));rw[show [Value.int .u8 r]=f9 [r]from rfl,AM]at S;exact ir rfl ⟨_,_,by rw[cP];rfl,by rw[cP];exact S⟩
 ·skip;refine zI func228 ?_;refine zg ?_;refine cq (dY (ks:=.i32) (n:=r) (m:=r) (kd:=.u32) fV fS rfl (by rw[j3]<;>omega)) ?_;refine cq (xS (B:=false) rfl rfl (cC om)) ?_;refine zK (RX y om Z S) ?_;rintro _ aa ⟨A2,c2,rfl,S⟩;refine zX ?_;exact⟨_,_,rfl,S⟩
theorem LI{r:Int}(J:qk r=true)(I:p=none\/p=some ⟨b,0,none⟩)(z:l.length<=1099511627776)(S:St F W w (.blk b 265 [.pointer p,.slice A l.length c]::.row 5 1 A l.length c (f9 l)::tl)) :
  Fn prog (146) [pt b,.int .i32 r] w (λv w'=>(∃n:Int,v=.tuple #[ii n,.nilIface])/\∃y c',St F W w' (.blk b 265 [pt b,.slice y (l++lJ r).length c']::.row 5 1 y (l++lJ r).length c' (f9 (l++lJ r))::tl)):=by
 have D:=BO r;refine zI func146 ?_;refine zK (JJ I S) ?_;rintro _ L ⟨rfl,S⟩;refine zK (UB J z (S.pick 2 [1,0] rfl rfl rfl)) ?_;rintro _ O ⟨A2,c2,rfl,S⟩;have S:=S.pick 2 [1,0] rfl rfl rfl;refine zS ?_;intro U S;refine cq (fh rfl (by rw[cP];omega)) ?_;refine zX ?_;exact⟨⟨_,rfl⟩,_,_,S⟩
theorem RY(S:St F W w (.blk b 265 [.pointer p,.slice A n c]::tl)) :
  Fn prog (148) [pt b] w (λv w'=>v=.tuple #[]/\St F W w' (.blk b 265 [.pointer none,.slice none 0 0]::tl)):=by
 refine zI func148 ?_;iterate 3 refine z ?_
 refine iy (i:=0) S rfl (sizeOf263 _) rfl rfl rfl rfl rfl rfl ?_;intro y S;iterate 3 refine z ?_
 refine iy (i:=0) S rfl (ml _) rfl rfl rfl rfl rfl rfl ?_;intro D S;refine ze ?_;exact na ⟨rfl,S⟩
theorem N4(y:l≠[])(J:Uz l)(O:l.length<=1099511627776)(S:St F W w (.blk b 265 [.pointer p,.slice A l.length c]::.row 5 1 A l.length c (f9 l)::tl)) :
  Fn prog (147) [pt b] w (λv w'=>v=.string (Io l)/\St F W w' (.blk b 265 [.pointer p,.slice A l.length c]::tl)):=by
 obtain⟨g,D,z⟩:∃g,A=some ⟨g,0,none⟩/\c≠0:=by
  rcases (S.row (i:=1) rfl).form with⟨_,h,_⟩|⟨g,cs,h,_,U,_⟩
  ·exact absurd (gj h) y
  ·exact⟨g,h,λh=>y (gj om)⟩
 refine zI func147 ?_;refine zD [0,1,2,3,4,5,6,7,8,9] [10,11] ?_;rw[D];refine eO (Wy rfl z) ?_;rw[<-D];refine zE ?_;intro L I S;refine Wz (S.pick 2 [1,0] rfl rfl rfl) underlying362 (by kernel_rfl) rfl rfl y J om ?_;intro V S;refine zX ?_;exact⟨rfl,S⟩
end
def yC(xs:List (Int×Int))(vs:List Int):List Int:=vs.flatMap λv=>lJ (GB xs v)
def WA(xs:List (Int×Int))(V:List Int)(wd j:Nat):ByteArray:=Io (yC xs ((V.drop (j*wd)).take wd))
def yD(xs:List (Int×Int))(V:List Int)(wd n:Nat):List Value:=(List.range n).map λj=>.string (WA xs V wd j)
theorem JK{xs:List (Int×Int)}{V:List Int}{v:Nat}:yD xs V v n++[.string (WA xs V v n)]=yD xs V v (n+1):=by
 unfold yD;rw[eG,fq];rfl
theorem Ip{xs:List (Int×Int)}(h:tO xs=true)(v:Int):qk (GB xs v)=true:=by
 have y:∀b∈xs,qk b.2=true:=λb L=>by
  obtain⟨i,hi,rfl⟩:=gK.1 L;unfold tO at h;rw[cM,dh]at h;have:=h.2 i (dJ.2 hi);rw[ct hi]at this;unfold wv at this;simp only[cM]at this;exact this.2.1
 have J:1<=xs.length:=by
  unfold tO at h;simp only[cM,cT]at h;exact h.1.1
 have D:∀(l:List (Int×Int))(a:Int),(∀b∈l,qk b.2=true)->qk a=true->qk (l.foldl (λa b=>if b.1<=v then b.2 else a) a)=true:=by
  intro l;induction l with
  |nil=>intro a _ z;exact z
  |cons b r ih =>
   intro a I z;refine ih _ (λx O=>I x (cW _ O)) ?_;dsimp only;split
   ·exact I b (by simp)
   ·exact z
 refine D xs _ y ?_;cases xs with
 |nil=>simp at J
 |cons b r=>exact y b (by simp)
theorem LJ{xs:List (Int×Int)}{vs:List Int}{v:Int}:yC xs (vs++[v])=yC xs vs++lJ (GB xs v):=by unfold yC;simp
theorem UC{xs:List (Int×Int)}(h:tO xs=true)(vs:List Int):Uz (yC xs vs):=λn y=>by
 obtain⟨v,_,z⟩:=og.1 y;exact UA (Ip h v) n z
theorem GC(xs:List (Int×Int)):∀vs:List Int,(yC xs vs).length<=3*vs.length
 |[]=>cN _
 |v::r=>by
  have h1:=GC xs r
  have h2:=(BO (GB xs v)).2;unfold yC at h1 ⊢;rw[fe,cP,fc];omega
section
variable{cap:Nat}{xs:List (Int × Int)}
theorem xT:(prog.info? 9).map (λi=>(i.zero,i.size,i.bytes))=some (some (.string ByteArray.empty),1,16):=by kernel_rfl
theorem RZ(y:dF X0 Y0 X1 Y1 gw gh≠0)(J:eJ W p gw gh cc A cap bs Rs) :
  Fn prog 67 [pt p,.agg #[ii X0,ii Y0,ii X1,ii Y1],.slice B n c] W (dp (.tuple #[.slice none 0 0,ii (dF X0 Y0 X1 Y1 gw gh)]) W):=by
 have v:=λw G=>yB (W:=w) (p:=p) (gw:=gw) (gh:=gh) (c:=cc) (A:=A) (cap:=cap) (bs:=bs) (Rs:=Rs) X0 Y0 X1 Y1 y G;generalize dF X0 Y0 X1 Y1 gw gh=e at *;have S:=St.start W;refine zI func67 ?_;refine zN ?_;intro z L D S;refine zC (v _ (J.gr S.out)) ?_;intro O I S;exact zZ
theorem LK(hx:x0<=x1/\x1<gw)(hy:y0<=y1/\y1<gh)(hn:n=xs.length)(J:n<=c)(I:n<=9223372036854775807)(hB:Rd W B (kI xs))(hl:tO xs=false)(hG:eJ W p gw gh cc A cap bs Rs) :
  Fn prog 67 [pt p,.agg #[ii x0,ii y0,ii x1,ii y1],.slice B n c] W (dp (.tuple #[.slice none 0 0,ii 13]) W):=by
 have z:=λw=>DR (W:=w) (A:=B) hn J I;rw[hl]at z;have S:=St.start W;refine zI func67 ?_;refine zN ?_;intro O aa V S;refine zK (iz x0 y0 x1 y1 hx hy (hG.gr S.out)) ?_;rintro _ ab ⟨L,U,rfl,v,y,D⟩;have S:=S.pushRow v y D;refine zC (z _ (hB.gr S.out)) ?_;intro ac Z S;exact zZ
theorem WB(hx:x0<=x1/\x1<gw)(hy:y0<=y1/\y1<gh)(hn:n=xs.length)(aw:n<=c)(av:n<=9223372036854775807)(hB:Rd W B (kI xs))(hl:tO xs=true)(hG:eJ W p gw gh cc A cap bs Rs) :
  Fn prog 67 [pt p,.agg #[ii x0,ii y0,ii x1,ii y1],.slice B n c] W
   (jc (λv=>.tuple #[v,ii 0]) 9 1 (y1+1-y0) (yD xs (fi gw cc x0 y0 (x1+1-x0) (y1+1-y0)) (x1+1-x0) (y1+1-y0)) W):=by
 have aB:=λw=>DR (W:=w) (A:=B) hn aw av;rw[hl]at aB;have az:=λw v=>Xt (W:=w) (A:=B) v hn aw av;have hw:=hG.sw;have hh:=hG.sh;have ao:=λw G=>iz (W:=w) (p:=p) (gw:=gw) (gh:=gh) (c:=cc) (A:=A) (cap:=cap) (bs:=bs) (Rs:=Rs) x0 y0 x1 y1 hx hy G;have aE:=lE gw cc x0 y0 (x1+1-x0) (y1+1-y0);obtain⟨y,aK⟩:∃k,k=x1+1-x0:=⟨_,rfl⟩;obtain⟨z,aF⟩:∃k,k=y1+1-y0:=⟨_,rfl⟩
 have Z:∀w(q t:Nat),t<y->q<z->Fn prog 111 [.agg #[ii x0,ii y0,ii x1,ii y1],ii (q*y+t:Nat)] w (dp (.tuple #[.agg #[ii (x0+t:Nat),ii (y0+q:Nat)],.bool true]) w):=λw q t I hq=>by
  have e1:(x1:Int)-x0+1=(y:Nat):=om;have e2:(y1:Int)-y0+1=(z:Nat):=om;have hm:(q*y+t)%y=t:=by rw[cD,fp,dT I]
  have hd:(q*y+t)/y=q:=by rw[cD,fF om,ee I,eW]
  have ad:q*y+t<z*y:=by
   have:=cI y (show q+1<=z from hq);rw[cX]at this;omega
  have h:=Bw x0 y0 x1 y1 (q*y+t:Nat) om om (by rw[e1,e2,<-kv,cD y];exact ke.2 ad) w;rw[e1,<-Int.natCast_emod,<-Int.natCast_ediv,hm,hd]at h;exact h
 rw[<-aK,<-aF]at ao aE ⊢;have bh:z*y<=1024*1024:=cE om om;generalize fi gw cc x0 y0 y z=V at *;have ah:=λv=>Ip hl v;have aG:=UC hl;have aH:=GC xs;refine yI func67 ?_;refine yA ?_;intro aj _ S;refine zK (ao _ (hG.gr S.out)) ?_;rintro _ bj ⟨ab,al,rfl,am,an,aD⟩;have S:=S.pushRow am an aD;refine zC (aB _ (hB.gr S.out)) ?_;intro bk ba S;refine yA ?_;intro D _ S;have S:=(S.pushNil 9 1).pushNil 5 1;have S:=S.pick 5 [2,0,1,3,4] rfl rfl rfl
 refine dl (λm e w=>∃(q t:Nat)(l:List Int)(pp aa J:Option Addr)(ac L:Nat),q*y+t+m=z*y/\t<y/\l=yC xs ((V.drop (q*y)).take t)/\(pp=none\/pp=some ⟨D,0,none⟩) /\
   SL e [(2,.slice B n c),(4,pt aj),(10,.slice J q L),(11,pt D),(32,.slice ab (z*y) al),(33,ii (z*y:Nat)),(34,ii (q*y+t:Nat))] /\
   St No W w [.blk D 265 [.pointer pp,.slice aa l.length ac],.row 5 1 aa l.length ac (f9 l),.row 9 1 J q L (yD xs V y q),.row 2 1 ab (z*y) al (cY V),.blk aj 43 [ii x0,ii y0,ii x1,ii y1]]) (z*y)
  ⟨0,0,[],none,none,none,0,0,om,om,rfl,.inl rfl,sl,S⟩ ?_
 clear S;rintro m e w ⟨q,t,l,pp,aa,J,ac,L,hk,I,au,aA,aJ,S⟩;rw[aJ.fold];rcases cr (q*y+t<z*y)with ad|ad
 ·have hq:q<z:=by
   rcases eV q z with h|h
   ·exact h
   ·have:=cI y h;omega
  have aq:q*y+t<V.length:=om;have bi:q<1024:=om
  have aQ:(cY V)[((q*y+t:Nat):Int).toNat * 1]?=some (ii V[q*y+t]):=by
   rw[cG,b7];exact gc (ct aq)
  have ag:(V.drop (q*y)).take t++[V[q*y+t]]=(V.drop (q*y)).take (t+1):=by
   rw[kK,jD,ct aq];rfl
  have aS:dO ab:=(S.row (i:=3) rfl).someA om;have ae:l++lJ (GB xs V[q*y+t])=yC xs ((V.drop (q*y)).take (t+1)):=by rw[au,<-LJ,ag]
  have be:l.length<=3*1024:=by
   have:=aH ((V.drop (q*y)).take t);rw[<-au,d7]at this;omega
  have bf:(l++lJ (GB xs V[q*y+t])).length<=3*1024+3:=by
   have:=(BO (GB xs V[q*y+t])).2;rw[cP];omega
  have aI:l++lJ (GB xs V[q*y+t])≠[]:=by simp[RU]
  have ap:Uz (l++lJ (GB xs V[q*y+t])):=ae▸aG _;have aC:=ah V[q*y+t];generalize V[q*y+t]=v at *;generalize ar:l++lJ (GB xs v)=l' at *;rcases cr (t+1=y)with h1|h1
  ·have e1:((x0+t:Nat):Int)=x1:=om;have hS:Io l'=WA xs V y q:=by unfold WA;rw[ae,h1]
   refine yA ?_;refine zC (az w v (hB.gr S.out) hl) ?_;intro bl bb S;refine zK (LI aC aA om S) ?_;rintro _ bm ⟨⟨n9,rfl⟩,O,U,S⟩;rw[ar]at S;refine zC (Z _ q t I hq) ?_;intro bn bc S;refine yA ?_;intro _ _ S;refine zK (N4 aI ap om (S.pick 6 [1,2,0,3,4,5] rfl rfl rfl)) ?_;rintro _ aT ⟨rfl,S⟩;refine yb S ?_;intro aM aU aN S aL;refine fM (i:=3) S rfl (λh=>rfl) gT xT rfl rfl rfl rfl (by simp) om (S.rd (i:=0) rfl) rfl om ?_;intro ai ak aV S aR;refine zK (RY (S.pick 6 [1,0,2,3,4,5] rfl rfl rfl)) ?_;rintro _ aW ⟨rfl,S⟩;refine zg ?_;rw[hS,JK]at S;have S:=(S.pick 6 [0,3,4,5,1,2] rfl rfl rfl).sub (List.take_sublist 4 _);have S:=(S.pushNil 5 1).pick 5 [1,0,2,3,4] rfl rfl rfl;have bg:(q+1)*y=q*y+y:=cX q y;exact⟨m-1,om,q+1,0,[],none,none,ai,0,ak,om,om,rfl,.inl rfl,sl,S⟩
  ·have e1:((x0+t:Nat):Int)≠x1:=om;refine yA ?_;refine zC (az w v (hB.gr S.out) hl) ?_;intro aX aO S;refine zK (LI aC aA om S) ?_;rintro _ aY ⟨⟨n9,rfl⟩,O,U,S⟩;rw[ar]at S;refine zC (Z _ q t I hq) ?_;intro aZ aP S;refine yA ?_;intro _ _ S;exact⟨m-1,om,q,t+1,l',_,O,J,U,L,om,om,ae,.inr rfl,sl,S.drop 1⟩
 ·have hq:q=z:=by
   rcases eV q z with h|h
   ·have:=cI y (show q+1<=z from h);rw[cX]at this;omega
   ·have:=cI y h;exact Nat.le_antisymm (by rcases eV z q with h2|h2;(have:=cI y (show z+1<=q from h2);rw[cX]at this;omega);exact h2) h
  subst hq;refine zX ?_;exact(S.retNew (i:=2) (mk:=λv=>.tuple #[v,ii 0]) rfl)
end
def GH(a b c d:Int):Bool:=decide (b<d)||(decide (b=d)&&decide (a<c))
def JM(gw:Nat)(V:List Int)(r:Rc)(want:RG->Bool)(bx by_:Nat)(B:Bool):Prop :=
 (B=true->r.has bx by_/\want ⟨V.getD (by_*gw+bx) 0,V.getD (by_*gw+bx) 0⟩=true)/\∀x y,r.has x y->want ⟨V.getD (y*gw+x) 0,V.getD (y*gw+x) 0⟩=true->B=true/\(by_<y\/(by_=y/\bx<=x))
structure FI(gw gh:Nat)(V:List Int)(r:Rc)(want:RG->Bool)(l:List Nd)(bx by_:Nat)(B:Bool):Prop where
 st:∀n∈l,n.ok gw gh/\(n.span gw gh).both r=true
 good:B=true->r.has bx by_/\want ⟨V.getD (by_*gw+bx) 0,V.getD (by_*gw+bx) 0⟩=true
 cov:∀x y,r.has x y->want ⟨V.getD (y*gw+x) 0,V.getD (y*gw+x) 0⟩=true->(B=true/\(by_<y\/(by_=y/\bx<=x)))\/∃n∈l,(n.span gw gh).has x y
def W9(want:RG->Bool):Prop:=∀v z,v.lo<=z->z<=v.hi->want ⟨z,z⟩=true->want v=true
section
variable{V:List Int}{want:RG->Bool}{l l':List Nd}{bx:Nat}{B:Bool}{n:Nd}
theorem FI.skip(h:FI gw gh V r want (l++[n]) bx by_ B)(O:∀x y,r.has x y->(n.span gw gh).has x y->want ⟨V.getD (y*gw+x) 0,V.getD (y*gw+x) 0⟩=true->B=true/\(by_<y\/(by_=y/\bx<=x))):FI gw gh V r want l bx by_ B:=by
 refine⟨λm z=>h.st m (f6 _ z),h.good,λx y I J=>?_⟩;rcases h.cov x y I J with L|⟨m,z,D⟩
 ·exact .inl L
 ·rcases ez.1 z with v|v
  ·exact .inr ⟨m,v,D⟩
  ·obtain rfl:=dM.1 v;exact .inl (O x y I D J)
theorem FI.skip1(h:FI gw gh V r want (l++[n]) bx by_ B)(I:r.ok gw gh)(D:W9 want)(v:want (n.rg gw gh V)=false):FI gw gh V r want l bx by_ B:=h.skip λx y z J L=>by
 have:=I.cell z;have:=Nd.rg_all (V:=V) this.1 this.2 J;rw[D _ _ this.1 this.2 L]at v;cases v
theorem Rc.meet_le{a b:Rc}{x y:Nat}(h1:a.has x y)(h2:b.has x y):(a.meet b).x0<=x/\(a.meet b).y0<=y:=by
 unfold Rc.has at *;unfold Rc.meet;dsimp only;omega
theorem FI.skip2(h:FI gw gh V r want (l++[n]) bx by_ B)(z:B=true)(v:GH ((n.span gw gh).meet r).x0 ((n.span gw gh).meet r).y0 bx by_=false):FI gw gh V r want l bx by_ B:=h.skip λx y D I J=>⟨z,by
 have:=Rc.meet_le I D;generalize (n.span gw gh).meet r=m at *;unfold GH at v;rw[Bool.or_eq_false_iff,il,d9,d9,d9]at v;omega⟩
theorem FI.kids(h:FI gw gh V r want (l++[n]) bx by_ B)(z:n.k≠0)(O:r.ok gw gh)(Z:1<=gw)(U:1<=gh)(h1:∀n'∈l',n'∈l\/(Gv gw gh n n'/\(n'.span gw gh).both r=true))(h2:∀n'∈l,n'∈l')(S:∀n',Gv gw gh n n'->(n'.span gw gh).both r=true->n'∈l'):FI gw gh V r want l' bx by_ B:=by
 obtain⟨k,x,y⟩:=n;obtain⟨k,rfl⟩:∃j,k=j+1:=⟨k-1,by dsimp only at z;omega⟩;refine⟨λm L=>?_,h.good,λcx cy J hx=>?_⟩
 ·rcases h1 m L with v|⟨v,D⟩
  ·exact h.st m (f6 _ v)
  ·exact⟨v.2.2.2,D⟩
 ·rcases h.cov cx cy J hx with v|⟨m,L,v⟩
  ·exact .inl v
  ·rcases ez.1 L with D|D
   ·exact .inr ⟨m,h2 m D,v⟩
   ·obtain rfl:=dM.1 D;have I:=O.cell J;have z:=PQ (h.st _ (by simp)).1 I.1 I.2 v;exact .inr ⟨_,S _ z.1 ((Rc.both_iff (Nd.span_ok Z U z.1.2.2.2) O).2 ⟨cx,cy,z.2,J⟩),z.2⟩
theorem Nd.span_zero{x y:Nat}(h:Nd.ok ⟨0,x,y⟩ gw gh):Nd.span gw gh ⟨0,x,y⟩=⟨x,y,x,y⟩:=by
 obtain⟨_,h1,h2⟩:=h;dsimp only at h1 h2;unfold dG at h1 h2;rw[kX,ig]at h1 h2;show Rc.mk (x*2^0) (y*2^0) (min ((x+1)*2^0) gw-1) (min ((y+1)*2^0) gh-1)=_;rw[kX,cG,cG,cG,cG,(om:min (x+1) gw-1=x),(om:min (y+1) gh-1=y)]
theorem FI.hit(h:FI gw gh V r want (l++[n]) bx by_ B)(hr:r.ok gw gh)(Z:n.k=0)(hw:want (n.rg gw gh V)=true)(v:B=false\/GH ((n.span gw gh).meet r).x0 ((n.span gw gh).meet r).y0 bx by_=true):FI gw gh V r want l ((n.span gw gh).meet r).x0 ((n.span gw gh).meet r).y0 true:=by
 have O:=h.st n (by simp);obtain⟨k,x,y⟩:=n;dsimp only at Z;subst Z;have S:=Nd.span_zero O.1;have z:=O.2;rw[S]at z v ⊢
 have D:(Rc.mk x y x y).meet r=⟨x,y,min x r.x1,min y r.y1⟩/\r.has x y:=by
  unfold Rc.both at z;rw[cT]at z;unfold Rc.meet Rc.has;dsimp only at z ⊢;exact⟨by rw[(om:max x r.x0=x),(om:max y r.y0=y)],om⟩
 rw[D.1]at v ⊢;dsimp only at v hw ⊢;refine⟨λm L=>h.st m (f6 _ L),λ_=>⟨D.2,hw⟩,λcx cy hc hx=>?_⟩;rcases h.cov cx cy hc hx with⟨U,I⟩|⟨m,L,I⟩
 ·refine .inl ⟨rfl,?_⟩;rcases v with v|v
  ·rw[v]at U;cases U
  ·unfold GH at v;simp only[ky,cM,cT]at v;omega
 ·rcases ez.1 L with J|J
  ·exact .inr ⟨m,J,I⟩
  ·obtain rfl:=dM.1 J;rw[Nd.span_zero O.1]at I;obtain⟨⟨a,b⟩,c,d⟩:=I;dsimp only at a b c d;exact .inl ⟨rfl,om⟩
theorem FI.done(h:FI gw gh V r want [] bx by_ B):JM gw V r want bx by_ B:=⟨h.good,λx y v D=>(h.cov x y v D).elim id λ⟨_,z,_⟩=>by cases z⟩
end
section
variable{yb t:Nat}{V:List Int}{lc:List Value}{want:RG->Bool}
theorem Oh(a b c d:Int):Fn prog 172 [.agg #[ii a,ii b],.agg #[ii c,ii d]] W (dp (.bool (GH a b c d)) W):=by
 unfold GH;have S:=St.start W;rcases Int.lt_trichotomy b d with h|h|h
 ·rw[cF h,Bool.true_or];refine zI func172 ?_;refine zN ?_;intro v I z S;refine zN ?_;intro y J D S;exact zZ
 ·subst h;rw[cC (Int.lt_irrefl b),tS,cF rfl,tR];by_cases h2:a<c
  all_goals
   refine zI func172 ?_;refine zN ?_;intro v I z S;refine zN ?_;intro y J D S;refine zX ?_;exact⟨by simp[h2],S.out⟩
 ·rw[cC (show ¬b<d by omega),tS,cC (show ¬b=d by omega),nz];refine zI func172 ?_;refine zN ?_;intro v I z S;refine zN ?_;intro y J D S;exact zZ
theorem FI.start(D:1<=gw/\gw<=1024)(v:1<=gh/\gh<=1024)(z:r.ok gw gh):FI gw gh V r want [Bg gw gh] 0 0 false :=
 ⟨(RI.start (V:=V) D v z).st,λh=>(by cases h),λx y I _=>.inr ⟨_,dM.2 rfl,by have:=z.cell I;exact AK D v this.1 this.2⟩⟩
theorem Ir(hw:1<=gw/\gw<=1024)(hh:1<=gh/\gh<=1024)(hr:r.ok gw gh)(al:∀(v:RG)w,eL w cb t lc->Fn prog f [.agg #[ii v.lo,ii v.hi],pt cb] w (dp (.bool (want v)) w))(aN:W9 want)(hP:iM W yb gw gh V)(hH:SH W gw gh sb yb r (.blk cb t lc::T) [Bg gw gh] w):Fn prog 97 [pt sb,.func (.func f) #[] #[pt cb]] w
   (λu w'=>∃(bx by_:Nat)(B:Bool),u=.tuple #[.agg #[ii bx,ii by_],.bool B]/\JM gw V r want bx by_ B/\St No W w' (.blk cb t lc::T)):=by
 have bv:=lI hw.2 hh.2;have aF:=fP (n:=5) om (show fW gw gh-1<=10 by omega);have ak:=FI.start (V:=V) (want:=want) hw hh hr;obtain⟨y,D,S⟩:=hH;refine zI func97 ?_;refine yA ?_;intro J I _ S;refine zK (AJ (l:=[Bg gw gh]) hw hh (λn hn=>(ak.st n hn).1) (by show 1<=1000000000;omega) hP ⟨y,D,S.pick 5 [2,3,0,1,4] rfl rfl rfl⟩) ?_;rintro _ bB ⟨a,v,B,l',rfl,O,y,D,S⟩;have S:=S.pick 5 [2,3,0,1,4] rfl rfl rfl;refine zN ?_;intro am bC bu S;refine zN ?_;intro ap aZ aS S;refine zS ?_;intro ba S;have S:=S.pick 7 [4,5,1,0,2,3,6] rfl rfl rfl
 refine dl (λm e w=>∃(l l':List Nd)(a:Nat->Int)(v:RG)(bx by_:Nat)(B fd:Bool)(b8 b9:Nat),Xo gw gh V l a v B l'/\FI gw gh V r want l bx by_ fd/\(rW l<=m/\m<=9765625) /\
  SL e [(0,pt sb),(1,.func (.func f) #[] #[pt cb]),(4,pt J),(6,pt I),(7,.bool fd),(8,pt b8),(9,pt b9),(10,.bool B)] /\
  SH W gw gh sb yb r (.blk b8 289 (Wn a)::.blk b9 151 [ii v.lo,ii v.hi]::.blk I 34 [ii bx,ii by_]::.blk J 34 [ii 0,ii 0]::.blk cb t lc::T) l' w) (5^(fW gw gh-1))
  ⟨_,l',a,v,0,0,B,false,am,ap,O,ak,⟨by rw[xR];exact cN _,aF⟩,sl,y,D,S⟩ ?_
 clear S O ak;rintro m e w ⟨l,l',a,v,bx,by_,B,fd,b8,b9,O,hI,hm,aj,y,D,S⟩;rw[aj.fold];rcases O with⟨rfl,rfl,rfl⟩|⟨rfl,n,rfl,ha,rfl⟩
 ·skip;refine yA ?_;intro _ S;exact pG S ⟨bx,by_,fd,rfl,hI.done,S.drop 6⟩
 ·have hn:=hI.st n (by simp);have hs:=Nd.span_ok hw.1 hh.1 hn.1;have aE:=λw=>E6 (W:=w) (n.span gw gh) r (hs.far hw.2 hh.2) (hr.far hw.2 hh.2);have aO:(n.span gw gh).mt r=[ii ((n.span gw gh).meet r).x0,ii ((n.span gw gh).meet r).y0,ii ((n.span gw gh).meet r).x1,ii ((n.span gw gh).meet r).y1]:=by unfold Rc.mt;rw[a7 hn.2];rfl
  have U:n.cells gw gh=[ii n.k,ii n.x,ii n.y,ii (n.span gw gh).x0,ii (n.span gw gh).y0,ii (n.span gw gh).x1,ii (n.span gw gh).y1]:=rfl;have aP:=DL l' [n];rw[xR]at aP;have aW:=wC l';have bz:=ic (a:=5) (n:=n.k) om;have aa:=λw h=>al (n.rg gw gh V) w h;have ad:=λw=>Oh (W:=w) ((n.span gw gh).meet r).x0 ((n.span gw gh).meet r).y0 bx by_;obtain⟨B2,ag⟩:∃B2,GH ((n.span gw gh).meet r).x0 ((n.span gw gh).meet r).y0 bx by_=B2:=⟨_,rfl⟩;obtain⟨B1,ae⟩:∃B1,want (n.rg gw gh V)=B1:=⟨_,rfl⟩;rw[aO]at aE;rw[ha,U]at S;rw[ae]at aa;rw[ag]at ad;have Z:(B1=false\/(fd=true/\B2=false))->FI gw gh V r want l' bx by_ fd:=λh=>h.elim (λe=>hI.skip1 hr aN (ae.trans e)) (λe=>hI.skip2 e.1 (ag.trans e.2));have aB:n.k=0->B1=true->(fd=false\/B2=true)->FI gw gh V r want l' ((n.span gw gh).meet r).x0 ((n.span gw gh).meet r).y0 true:=λhk e h=>hI.hit hr hk (ae.trans e) (h.imp id (ag.trans ·));have aD:=λhk T w hH=>Ru (W:=W) (w:=w) (sb:=sb) (T:=T) n hk hw hh hn.1 hr (show rW l'<=100000000 by omega) hP hH;have ai:=λhk l2 h1 h2 h3=>hI.kids (l':=l2) hk hr hw.1 hh.1 h1 h2 h3;generalize bw:(n.span gw gh).meet r=mm at *;generalize bA:n.span gw gh=sp at *;refine z ?_;refine zc ?_;refine jr rfl ?_;refine zc ?_;refine gO ?_;try show CW _ _ _ _ _ _
  refine zc ?_;refine k0 ?_;refine zc ?_;refine IP (C:=(CA _ _ _ 43 [ii 0,ii 0,ii 0,ii 0] [ii mm.x0,ii mm.y0,ii mm.x1,ii mm.y1])) [10,11] [0,1,2,3,4,5,6,7,8,9,10,11] [12] (by kernel_rfl) (by kernel_rfl) (CA.start (S.gr (Gr.drew _))) ?_;simp only[kz,iS,dK,dR];refine ot rfl (du jz rfl dV rfl rfl) ?_;refine qo rfl (λτ wq hq=>fx dL rfl (dV _) rfl (hq.st.blk (i:=2) rfl) rfl rfl) ?_;refine ot rfl (cH rfl) ?_;refine ot rfl (cH rfl) ?_;refine ot rfl (du oz rfl dV rfl rfl) ?_;refine qo rfl (λτ wq hq=>fx dL rfl (dV _) rfl (hq.st.blk (i:=0) rfl) rfl rfl) ?_;refine jH rfl rfl (λτ wq hq=>(aE wq).mono (λ_ _⟨hv,hg⟩=>⟨hv,hq.gr hg⟩)) ?_;refine ot rfl (cH rfl) ?_;refine ot rfl (cH rfl) ?_;refine ot rfl (cH rfl) ?_;refine de rfl rfl (λwq hq=>kG hq fy rfl) ?_;rintro aX bp ⟨bt,rfl,_⟩;refine de rfl rfl (λwq hq=>kH hq (dV _) rfl rfl rfl rfl rfl) ?_;rintro aY bq _;refine IO ?_;rintro br aH;obtain⟨aR,aq,S⟩:=aH.fin;cases aq
  refine cq (cH rfl) ?_;first|refine eF ?_|(refine di ?_;show CW _ _ _ _ _ _)|refine di ?_
  repeat refine dm ?_
  refine dz ?_;refine cq (du dL rfl cR rfl rfl) ?_;refine dH (cV cw rfl rfl (S.blk (i:=0) rfl) rfl) ?_;refine cq (du dL rfl cR rfl rfl) ?_;refine dH (cV cw rfl rfl (S.blk (i:=0) rfl) rfl) ?_;refine cq (kL (pl:=[(0,1),(1,1)]) dI kU (λw=>by kernel_rfl) rfl rfl) ?_;refine kq (jV kU rfl) S ?_;intro aQ bb aT S;refine d8 (i:=0) S rfl (dW _) rfl rfl rfl rfl rfl rfl ?_;intro L S;first|refine eF ?_|(refine di ?_;show CW _ _ _ _ _ _)|refine di ?_
  repeat refine dm ?_
  refine T6 (M:=λe w=>∃(l2:List Nd)(ab ac:Nat)(f2:Bool),FI gw gh V r want l2 ab ac f2/\rW l2<m/\SL e [(0,pt sb),(1,.func (.func f) #[] #[pt cb]),(4,pt J),(6,pt I),(7,.bool f2),(8,pt b8),(9,pt b9)]/\SH W gw gh sb yb r (.blk b8 289 (n.cells gw gh)::.blk b9 151 [ii (n.rg gw gh V).lo,ii (n.rg gw gh V).hi]::.blk I 34 [ii ab,ii ac]::.blk J 34 [ii 0,ii 0]::.blk cb t lc::T) l2 w) ?_ ?_
  ·cases B1
   ·skip;refine z ?_;refine z ?_;refine ju rfl rfl (aa L (S.blk (i:=8) rfl)) ?_;rintro _ bc ⟨rfl,ar⟩;have S:=S.gr ar;refine zg ?_;rw[<-U]at S;exact⟨l',bx,by_,fd,Z (.inl rfl),om,sl,y,D,S.drop 2⟩
   ·by_cases aG:fd=true/\B2=false
    ·obtain⟨rfl,rfl⟩:=aG;refine z ?_;refine z ?_;refine ju rfl rfl (aa L (S.blk (i:=8) rfl)) ?_;rintro _ aI ⟨rfl,au⟩;have S:=S.gr au;iterate 6 refine z ?_
     refine dr rfl ?_;refine eY rfl (ad aI) ?_;rintro _ be ⟨rfl,av⟩;have S:=S.gr av;refine zg ?_;rw[<-U]at S;exact⟨l',bx,by_,true,Z (.inr ⟨rfl,rfl⟩),om,sl,y,D,S.drop 2⟩
    ·have ah:fd=false\/(fd=true/\B2=true):=by
      cases fd<;>cases B2<;>simp at aG ⊢
     by_cases hk:n.k=0
     ·have aJ:=aB hk rfl (ah.imp id And.right);rcases ah with rfl|⟨rfl,rfl⟩
      all_goals
       refine z ?_;refine z ?_;refine ju rfl rfl (aa L (S.blk (i:=8) rfl)) ?_;rintro _ bf ⟨rfl,aw⟩;have S:=S.gr aw;iterate 6 refine z ?_
       first|refine eD rfl ?_|(refine dr rfl ?_;refine eY rfl (ad _) ?_;rintro _ w9 ⟨rfl,g9⟩;have S:=S.gr g9)
       (iterate 6 refine z ?_);refine zf ?_;refine z ?_;refine z ?_;refine d8 (i:=6) S rfl (dW _) rfl rfl rfl rfl rfl rfl ?_;intro bg S;refine z ?_;refine ze ?_;rw[<-U]at S;exact⟨l',mm.x0,mm.y0,true,aJ,om,sl,y,D,S.drop 2⟩
     ·have aK:=aD hk;have aC:=ai hk;rw[<-U]at S;rcases ah with rfl|⟨rfl,rfl⟩
      all_goals
       refine z ?_;refine z ?_;refine ju rfl rfl (aa L (S.blk (i:=8) rfl)) ?_;rintro _ bh ⟨rfl,az⟩;have S:=S.gr az;iterate 6 refine z ?_
       first|refine eD rfl ?_|(refine dr rfl ?_;refine eY rfl (ad _) ?_;rintro _ w9 ⟨rfl,g9⟩;have S:=S.gr g9)
       (iterate 6 refine z ?_);refine zt ?_;iterate 3 refine z ?_
       refine eY rfl (aK _ _ ⟨y,D,S.drop 2⟩) ?_;rintro _ bi ⟨rfl,l2,⟨y,D,S⟩,k1,k2,k3,k4⟩;refine ze ?_;exact⟨l2,bx,by_,_,aC l2 k1 k2 k3,om,sl,y,D,S⟩
  ·rintro e w ⟨l2,ab,ac,f2,aA,aM,aj,y,D,S⟩;refine zg ?_;rw[aj.fold];have aL:=wC l2;repeat refine dm ?_
   refine dz ?_;refine dH (fx jz rfl (kO _) rfl (S.blk (i:=2) rfl) rfl rfl) ?_;refine dH (fx fK rfl (fD _) rfl (S.blk (i:=3) rfl) rfl rfl) ?_;first|refine eF ?_|(refine di ?_;show CW _ _ _ _ _ _)|refine di ?_
   repeat refine dm ?_
   refine dz ?_;refine kq (jV pI rfl) S ?_;intro an bj aU S;refine zS ?_;intro bk S;refine zN ?_;intro ao bl aV S;refine zS ?_;intro bm S;refine zK (AJ (l:=l2) hw hh (λn hn=>(aA.st n hn).1) om hP ⟨y,D,S.pick 4 [2,3,1,0] rfl rfl rfl⟩) ?_;rintro _ bn ⟨a,v,B,l3,rfl,O,y,D,S⟩;have S:=S.pick 4 [3,2,0,1] rfl rfl rfl;refine zS ?_;intro bo S;have S:=(S.pick 9 [4,5,2,3,1,0,6,7,8] rfl rfl rfl).drop 2;exact⟨rW l2,aM,l2,l3,a,v,ab,ac,B,f2,an,ao,O,aA,⟨cN _,om⟩,sl,y,D,S⟩
def CY(gw:Nat)(V:List Int)(r:Rc)(z:Int)(x y:Nat):Prop:=(r.has x y/\V.getD (y*gw+x) 0=z)/\∀x' y',r.has x' y'->z<=V.getD (y'*gw+x') 0/\(V.getD (y'*gw+x') 0=z->y<y'\/(y=y'/\x<=x'))
def E9(gw:Nat)(V:List Int)(r:Rc)(z:Int)(x y:Nat):Prop:=(r.has x y/\V.getD (y*gw+x) 0=z)/\∀x' y',r.has x' y'->V.getD (y'*gw+x') 0<=z/\(V.getD (y'*gw+x') 0=z->y<y'\/(y=y'/\x<=x'))
theorem Oi(u v a b:Int)(D:eL W cb 151 [ii a,ii b]):Fn prog 98 [.agg #[ii u,ii v],pt cb] W (dp (.bool (decide (u<=a))) W):=by
 have S:=St.start W;refine zI func98 ?_;refine zN ?_;intro y I z S;refine zL (D.gr S.out) ?_;exact zZ
theorem Oj(u v a:Int)(D:eL W cb 2 [ii a]):Fn prog 173 [.agg #[ii u,ii v],pt cb] W (dp (.bool (decide (v>=a))) W):=by
 have S:=St.start W;refine zI func173 ?_;refine zN ?_;intro y I z S;refine zL (D.gr S.out) ?_;exact zZ
theorem LP(x0 y0 x1 y1:Int)(hw:1<=gw/\gw<=1024)(hh:1<=gh/\gh<=1024)(y:dF x0 y0 x1 y1 gw gh≠0)(Z:iM W yb gw gh V) :
  Fn prog 44 [pt yb,.agg #[ii x0,ii y0,ii x1,ii y1]] W (dp (.tuple #[ii 0,.agg #[ii 0,ii 0],ii (dF x0 y0 x1 y1 gw gh)]) W):=by
 have v:=λw=>An (W:=w) (V:=V) (yb:=yb) x0 y0 x1 y1 hw hh y;generalize dF x0 y0 x1 y1 gw gh=e at *;have S:=St.start W;refine zI func44 ?_;refine zN ?_;intro D aa J S;refine zN ?_;intro z ab L S;refine zC (v _ (Z.gr S.out)) ?_;intro ac O S;refine zN ?_;intro I ad U S;refine zS ?_;intro ae S;exact tm dI rfl (dW _) rfl (S.blk (i:=1) rfl) rfl rfl rfl rfl ⟨rfl,S.out⟩
theorem Sh(hB:vB V)(hw:1<=gw/\gw<=1024)(hh:1<=gh/\gh<=1024)(hr:r.ok gw gh)(Z:iM W yb gw gh V) :
  Fn prog 44 [pt yb,.agg r.cells.toArray] W (λu w'=>∃(z:Int)(x y:Nat),u=.tuple #[ii z,.agg #[ii x,ii y],ii 0]/\CY gw V r z x y/\Gr W w'):=by
 have aa:=λw(g:Gr W w)=>DM hw hh hr (Z.gr g);have ac:=λw(g:Gr W w)=>DN hB hw hh hr (Z.gr g);unfold Rc.cells at *;have S:=St.start W;refine zI func44 ?_;refine zN ?_;intro al aq an S;refine zN ?_;intro ak ar ao S;refine zK (ac _ S.out) ?_;rintro _ au ⟨D,rfl,hR,g9⟩;have S:=S.gr g9;refine zN ?_;intro am av ap S;refine zS ?_;intro aw S;refine zK (aa _ S.out) ?_;rintro _ az ⟨sb,rfl,J,L,S2⟩;have S:=S.app S2;refine zK (Ir (want:=λv=>decide (v.lo<=D.lo)) hw hh hr (λv w h=>Oi v.lo v.hi D.lo D.hi h) (λv z h1 h2 h3=>by rw[cT]at h3 ⊢;exact uP h1 h3) Z ⟨J,L,S⟩) ?_;rintro _ ae ⟨x,y,B,rfl,U,S⟩;refine zN ?_;intro aj ag ad S;refine zS ?_;intro ah S;refine zF [0,1,2,3] [4,5] ?_;refine zS ?_;intro ai S;obtain⟨h1,⟨u1,u2,hu,hv⟩,_⟩:=hR;have O:=U.2 u1 u2 hu (by rw[cT];exact r9 hv);have I:=U.1 O.1;rw[cT]at I;have ab:=h1 _ _ I.1;have hz:V.getD (y*gw+x) 0=D.lo:=Int.le_antisymm I.2 ab.1;exact tm dI rfl (dW _) rfl (S.blk (i:=2) rfl) rfl rfl rfl rfl ⟨D.lo,x,y,rfl,⟨⟨I.1,hz⟩,λx' y' hc=>⟨(h1 x' y' hc).1,λe=>(U.2 x' y' hc (by rw[cT];exact r9 e)).2⟩⟩,S.out⟩
theorem Ok(z:Int)(hw:1<=gw/\gw<=1024)(Z:1<=gh/\gh<=1024)(hr:r.ok gw gh)(U:iM W yb gw gh V) :
  Fn prog 99 [pt yb,.agg r.cells.toArray,ii z] W (λu w'=>∃(x y:Nat)(B:Bool),u=.tuple #[.agg #[ii x,ii y],.bool B,ii 0]/\JM gw V r (λv=>decide (v.hi>=z)) x y B/\Gr W w'):=by
 have J:=λw(g:Gr W w)=>DM hw Z hr (U.gr g);unfold Rc.cells at *;have S:=St.start W;refine zI func99 ?_;refine zN ?_;intro ae ak ah S;refine zN ?_;intro ag al ai S;refine zN ?_;intro ad am aj S;refine zK (J _ S.out) ?_;rintro _ an ⟨sb,rfl,D,I,S2⟩;have S:=S.app S2;refine zK (Ir (want:=λv=>decide (v.hi>=z)) hw Z hr (λv w h=>Oj v.lo v.hi z h) (λv z' h1 h2 O=>by rw[cT]at O ⊢;dsimp only at O ⊢;omega) U ⟨D,I,S.pick 5 [0,1,3,2,4] rfl rfl rfl⟩) ?_;rintro _ ao ⟨x,y,B,rfl,hF,S⟩;refine zN ?_;intro ac aa L S;refine zS ?_;intro ab S;exact qj dI rfl (dW _) rfl (S.blk (i:=2) rfl) rfl rfl rfl rfl ⟨x,y,B,rfl,hF,S.out⟩
theorem Ol(x0 y0 x1 y1:Int)(hw:1<=gw/\gw<=1024)(hh:1<=gh/\gh<=1024)(y:dF x0 y0 x1 y1 gw gh≠0)(Z:iM W yb gw gh V) :
  Fn prog 45 [pt yb,.agg #[ii x0,ii y0,ii x1,ii y1]] W (dp (.tuple #[ii 0,.agg #[ii 0,ii 0],ii (dF x0 y0 x1 y1 gw gh)]) W):=by
 have v:=λw=>An (W:=w) (V:=V) (yb:=yb) x0 y0 x1 y1 hw hh y;generalize dF x0 y0 x1 y1 gw gh=e at *;have S:=St.start W;refine zI func45 ?_;refine zN ?_;intro D aa J S;refine zN ?_;intro z ab L S;refine zC (v _ (Z.gr S.out)) ?_;intro ac O S;refine zN ?_;intro I ad U S;refine zS ?_;intro ae S;exact tm dI rfl (dW _) rfl (S.blk (i:=1) rfl) rfl rfl rfl rfl ⟨rfl,S.out⟩
theorem UJ(hB:vB V)(hw:1<=gw/\gw<=1024)(hh:1<=gh/\gh<=1024)(hr:r.ok gw gh)(hP:iM W yb gw gh V) :
  Fn prog 45 [pt yb,.agg r.cells.toArray] W (λu w'=>∃(z:Int)(x y:Nat),u=.tuple #[ii z,.agg #[ii x,ii y],ii 0]/\E9 gw V r z x y/\Gr W w'):=by
 have O:=λw z(g:Gr W w)=>Ok (W:=w) z hw hh hr (hP.gr g);have Z:=λw(g:Gr W w)=>DN hB hw hh hr (hP.gr g);unfold Rc.cells at *;have S:=St.start W;refine zI func45 ?_;refine zN ?_;intro ah am aj S;refine zN ?_;intro ag an ak S;refine zK (Z _ S.out) ?_;rintro _ ao ⟨v,rfl,hR,g9⟩;have S:=S.gr g9;refine zN ?_;intro ai ap al S;refine zS ?_;intro aq S;refine zK (O _ v.hi S.out) ?_;rintro _ ar ⟨x,y,B,rfl,L,I⟩;have S:=S.gr I;refine zN ?_;intro ae ab aa S;refine zS ?_;intro ac S;refine zF [0,1,2,3] [4,5] ?_;refine zS ?_;intro ad S;obtain⟨h1,_,⟨u1,u2,hu,hv⟩⟩:=hR;have J:=L.2 u1 u2 hu (by rw[cT];exact r9 hv.symm);have D:=L.1 J.1;rw[cT]at D;have U:=h1 _ _ D.1;have hz:V.getD (y*gw+x) 0=v.hi:=Int.le_antisymm U.2 D.2;exact tm dI rfl (dW _) rfl (S.blk (i:=2) rfl) rfl rfl rfl rfl ⟨v.hi,x,y,rfl,⟨⟨D.1,hz⟩,λx' y' hc=>⟨(h1 x' y' hc).2,λe=>(L.2 x' y' hc (by rw[cT];exact r9 e.symm)).2⟩⟩,S.out⟩
end
end Go.Proofs.YtjfeklflkikapaaGreatDoor
