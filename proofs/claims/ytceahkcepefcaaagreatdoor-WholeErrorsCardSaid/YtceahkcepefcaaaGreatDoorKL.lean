/- A part of the proof that hachuretop.WholeErrors returns true at every input; no condition. -/
import Derived.Shelf.Strconv.Itoa4
import Derived.Shelf.Strconv.ParseIntPublic10
import Derived.Shelf.Strings.Split
import Derived.Shelf.Strings.Prefix
import Derived.Shelf.Strings.OnBuilder
import Derived.Test.YtceahkcepefcaaaGreatDoorKH
set_option maxRecDepth 100000
set_option maxHeartbeats 16000000
set_option linter.unusedVariables false
set_option linter.unusedSimpArgs false
namespace Go.Proofs.YtceahkcepefcaaaGreatDoor
open Go.Proofs.Tryz Go.RowKit
variable{Q:(Nat->Value)->World->Prop}{want:Array (String × TypeId)}{af:Array Edge}{ops:Array Oper}{Q':Exit->Act->World->Prop}{f:FuncId}{h h':HA}{a a':Int}{kh kl:IntKind}{σ:List (Nat × Value)}{L' L1 M T:List HA}{hd todo:List Nat}{caps l l' xs τ:List Value}{N b b' c c1 c2 cB fid g gh gw i i2 j k k' m n n2 p p2 q t2 tb:Nat}{c' c0 cc:Nat->Int}{bs o':Nat->Nat}{R':Nat->Nat->Bool}{Rs:Nat->Option Nat}{F F':Nat->Prop}{e:Nat->Value}{o1 o2:Oper}{hi lo x:Operand}{A A1 A2 B o0:Option Addr}{d:Option Tmp}{P:Program}{α:Type}{dd:TypeDesc}{t t' ty:TypeId}{u v2 v3:Value}{R:Value->World->Prop}{W w w' wq:World}{C:World->Prop}
open Go.Shelf
def Ya:Ren where
 f:=λn=>match n with|146=>287|221=>300|268=>316|138=>317|143=>318|195=>331|197=>332|218=>333|219=>334|260=>347|217=>348|225=>338|224=>337|267=>349|266=>357|314=>358|n=>n
 t:=λn=>match n with|9=>9|31=>44|3=>3|4=>4|0=>0|105=>484|21=>21|5=>5|46=>351|119=>503|139=>506|138=>505|146=>408|51=>168|n=>n
 g:=λn=>match n with|1=>3|3=>6|4=>7|n=>n
theorem Yb:Lays.n146 Tryz.prog Ya where
 mixed:=rfl
 f138:=Tryz.func317.trans rfl;f143:=Tryz.func318.trans rfl;f146:=Tryz.func287.trans rfl;f195:=Tryz.func331.trans rfl;f197:=Tryz.func332.trans rfl;f217:=Tryz.func348.trans rfl;f218:=Tryz.func333.trans rfl;f219:=Tryz.func334.trans rfl;f221:=Tryz.func300.trans rfl;f224:=Tryz.func337.trans rfl;f225:=Tryz.func338.trans rfl;f260:=Tryz.func347.trans rfl;f266:=Tryz.func357.trans rfl;f267:=Tryz.func349.trans rfl;f268:=Tryz.func316.trans rfl;f314:=Tryz.func358.trans rfl;t0:=oV;a0:=tv;z0:=ss;v0:=ph;t3:=la;a3:=qt;z3:=pN;v3:=mW;t4:=my;a4:=qr;z4:=pM;v4:=mV;t5:=mw;a5:=tu;z5:=sr;v5:=pg;t9:=jC;a9:=qq;z9:=ld;v9:=mU;t21:=qO;a21:=Tryz.isAgg21;z21:=Tryz.sizeOf21;v21:=Tryz.zeroValue21;t31:=Zf;a31:=Tryz.isAgg44;z31:=Tryz.sizeOf44;v31:=Tryz.zeroValue44;t46:=ZM;a46:=aan;z46:=aab;v46:=ZV;t51:=ZN;a51:=aao;z51:=aac;v51:=ZW;t105:=Tryz.underlying484;a105:=Tryz.isAgg484;z105:=Tryz.sizeOf484;v105:=Tryz.zeroValue484;t119:=Tryz.underlying503;a119:=Tryz.isAgg503;z119:=Tryz.sizeOf503;t138:=Tryz.underlying505;a138:=Tryz.isAgg505;z138:=Tryz.sizeOf505;v138:=Tryz.zeroValue505;t139:=Tryz.underlying506;a139:=Tryz.isAgg506;z139:=Tryz.sizeOf506;v139:=Tryz.zeroValue506;t146:=Tryz.underlying408;a146:=Tryz.isAgg408;z146:=Tryz.sizeOf408;v146:=Tryz.zeroValue408;g1:=by decide+kernel
 g3:=by decide+kernel
 g4:=by decide+kernel
def Pw:Ren where
 f:=λn=>match n with|156=>242|165=>284|166=>285|169=>150|240=>232|241=>299|276=>280|277=>315|n=>n
 t:=λn=>match n with|31=>44|9=>9|3=>3|4=>4|0=>0|20=>20|72=>265|76=>270|70=>263|37=>28|75=>269|127=>366|164=>419|5=>5|80=>272|n=>n
 g:=λn=>n
theorem Px:Lays.n156 Tryz.prog Pw where
 mixed:=rfl
 f156:=Tryz.func242.trans rfl;f165:=Tryz.func284.trans rfl;f166:=Tryz.func285.trans rfl;f169:=Tryz.func150.trans rfl;f240:=Tryz.func232.trans rfl;f241:=Tryz.func299.trans rfl;f276:=Tryz.func280.trans rfl;f277:=Tryz.func315.trans rfl;t0:=oV;a0:=tv;z0:=ss;v0:=ph;t3:=la;a3:=qt;z3:=pN;v3:=mW;t4:=my;a4:=qr;z4:=pM;v4:=mV;t9:=jC;a9:=qq;z9:=ld;v9:=mU;t20:=qP;a20:=uZ;z20:=uj;v20:=rK;t31:=Zf;a31:=Tryz.isAgg44;z31:=Tryz.sizeOf44;v31:=Tryz.zeroValue44;t37:=ZA;a37:=aaw;z37:=aam;v37:=Z2;t70:=Tryz.underlying263;a70:=Tryz.isAgg263;z70:=Tryz.sizeOf263;v70:=Tryz.zeroValue263;t72:=Tryz.underlying265;a72:=Tryz.isAgg265;z72:=Tryz.sizeOf265;v72:=Tryz.zeroValue265;t75:=Tryz.underlying269;a75:=Tryz.isAgg269;z75:=Tryz.sizeOf269;v75:=Tryz.zeroValue269;t76:=Tryz.underlying270;a76:=Tryz.isAgg270;z76:=Tryz.sizeOf270;v76:=Tryz.zeroValue270;t127:=Tryz.underlying366;a127:=Tryz.isAgg366;z127:=Tryz.sizeOf366;v127:=Tryz.zeroValue366;t164:=Tryz.underlying419;a164:=Tryz.isAgg419;z164:=Tryz.sizeOf419;v164:=Tryz.zeroValue419
def Yc:Ren where
 f:=λn=>match n with|101=>328|208=>344|206=>351|n=>n
 t:=λn=>match n with|9=>9|4=>4|3=>3|n=>n
 g:=λn=>n
theorem Yd:Lays.n101 Tryz.prog Yc where
 mixed:=rfl
 f101:=Tryz.func328.trans rfl;f206:=Tryz.func351.trans rfl;f208:=Tryz.func344.trans rfl;t3:=la;a3:=qt;z3:=pN;v3:=mW;t4:=my;a4:=qr;z4:=pM;v4:=mV;t9:=jC;a9:=qq;z9:=ld;v9:=mU
def Ye:Ren where
 f:=λn=>match n with|173=>282|246=>297|283=>310|284=>311|285=>312|286=>313|129=>259|317=>324|318=>325|319=>326|320=>327|337=>342|338=>343|n=>n
 t:=λn=>match n with|2=>2|3=>3|9=>9|4=>4|171=>460|0=>0|53=>277|37=>28|5=>5|173=>462|212=>477|51=>168|20=>20|213=>478|46=>351|232=>494|233=>495|n=>n
 g:=λn=>match n with|17=>2|18=>4|19=>5|n=>n
theorem Yf:Lays.n173 Tryz.prog Ye where
 mixed:=rfl
 f129:=Tryz.func259.trans rfl;f173:=Tryz.func282.trans rfl;f246:=Tryz.func297.trans rfl;f283:=Tryz.func310.trans rfl;f284:=Tryz.func311.trans rfl;f285:=Tryz.func312.trans rfl;f286:=Tryz.func313.trans rfl;f317:=Tryz.func324.trans rfl;f318:=Tryz.func325.trans rfl;f319:=Tryz.func326.trans rfl;f320:=Tryz.func327.trans rfl;f337:=Tryz.func342.trans rfl;f338:=Tryz.func343.trans rfl;t0:=oV;a0:=tv;z0:=ss;v0:=ph;t2:=rL;a2:=qv;z2:=Tryz.sizeOf2;v2:=Tryz.zeroValue2;t3:=la;a3:=qt;z3:=pN;v3:=mW;t4:=my;a4:=qr;z4:=pM;v4:=mV;t5:=mw;a5:=tu;z5:=sr;v5:=pg;t9:=jC;a9:=qq;z9:=ld;v9:=mU;t20:=qP;a20:=uZ;z20:=uj;v20:=rK;t37:=ZA;a37:=aaw;z37:=aam;v37:=Z2;t46:=ZM;a46:=aan;z46:=aab;v46:=ZV;t51:=ZN;a51:=aao;z51:=aac;v51:=ZW;t53:=Tryz.underlying277;a53:=Tryz.isAgg277;z53:=Tryz.sizeOf277;v53:=Tryz.zeroValue277;t171:=Tryz.underlying460;a171:=Tryz.isAgg460;z171:=Tryz.sizeOf460;v171:=Tryz.zeroValue460;t173:=Tryz.underlying462;a173:=Tryz.isAgg462;z173:=Tryz.sizeOf462;v173:=Tryz.zeroValue462;t212:=Tryz.underlying477;a212:=Tryz.isAgg477;z212:=Tryz.sizeOf477;v212:=Tryz.zeroValue477;t213:=Tryz.underlying478;a213:=Tryz.isAgg478;z213:=Tryz.sizeOf478;t232:=Tryz.underlying494;a232:=Tryz.isAgg494;z232:=Tryz.sizeOf494;v232:=Tryz.zeroValue494;t233:=Tryz.underlying495;a233:=Tryz.isAgg495;z233:=Tryz.sizeOf495;v233:=Tryz.zeroValue495;g17:=by decide+kernel
 g18:=by decide+kernel
 g19:=by decide+kernel
def Yg:Ren where
 f:=λn=>match n with|174=>330|247=>345|245=>346|287=>352|279=>353|280=>354|281=>355|282=>356|321=>359|322=>360|316=>361|171=>363|205=>362|243=>364|246=>297|283=>310|284=>311|285=>312|286=>313|129=>259|317=>324|318=>325|319=>326|320=>327|337=>342|338=>343|n=>n
 t:=λn=>match n with|9=>9|3=>3|2=>2|75=>269|85=>482|4=>4|167=>497|5=>5|53=>277|175=>498|46=>351|168=>500|37=>28|0=>0|210=>511|21=>21|127=>366|145=>515|143=>513|171=>460|173=>462|212=>477|51=>168|20=>20|213=>478|232=>494|233=>495|80=>272|n=>n
 g:=λn=>match n with|15=>8|16=>9|17=>2|18=>4|19=>5|n=>n
theorem Yh:LaysC.n174 Tryz.prog Yg where
 mixed:=rfl
 f129:=Tryz.func259.trans rfl;f171:=Tryz.func363.trans rfl;f174:=Tryz.func330.trans rfl;f205:=Tryz.func362.trans rfl;f243:=Tryz.func364.trans rfl;f245:=Tryz.func346.trans rfl;f246:=Tryz.func297.trans rfl;f247:=Tryz.func345.trans rfl;f279:=Tryz.func353.trans rfl;f280:=Tryz.func354.trans rfl;f281:=Tryz.func355.trans rfl;f282:=Tryz.func356.trans rfl;f283:=Tryz.func310.trans rfl;f284:=Tryz.func311.trans rfl;f285:=Tryz.func312.trans rfl;f286:=Tryz.func313.trans rfl;f287:=Tryz.func352.trans rfl;f316:=Tryz.func361.trans rfl;f317:=Tryz.func324.trans rfl;f318:=Tryz.func325.trans rfl;f319:=Tryz.func326.trans rfl;f320:=Tryz.func327.trans rfl;f321:=Tryz.func359.trans rfl;f322:=Tryz.func360.trans rfl;f337:=Tryz.func342.trans rfl;f338:=Tryz.func343.trans rfl;t0:=oV;a0:=tv;z0:=ss;v0:=ph;t2:=rL;a2:=qv;z2:=Tryz.sizeOf2;v2:=Tryz.zeroValue2;t3:=la;a3:=qt;z3:=pN;v3:=mW;t4:=my;a4:=qr;z4:=pM;v4:=mV;t5:=mw;a5:=tu;z5:=sr;v5:=pg;t9:=jC;a9:=qq;z9:=ld;v9:=mU;t20:=qP;a20:=uZ;z20:=uj;v20:=rK;t21:=qO;a21:=Tryz.isAgg21;z21:=Tryz.sizeOf21;v21:=Tryz.zeroValue21;t37:=ZA;a37:=aaw;z37:=aam;v37:=Z2;t46:=ZM;a46:=aan;z46:=aab;v46:=ZV;t51:=ZN;a51:=aao;z51:=aac;v51:=ZW;t53:=Tryz.underlying277;a53:=Tryz.isAgg277;z53:=Tryz.sizeOf277;v53:=Tryz.zeroValue277;t75:=Tryz.underlying269;a75:=Tryz.isAgg269;z75:=Tryz.sizeOf269;v75:=Tryz.zeroValue269;t85:=Tryz.underlying482;a85:=Tryz.isAgg482;z85:=Tryz.sizeOf482;v85:=Tryz.zeroValue482;t127:=Tryz.underlying366;a127:=Tryz.isAgg366;z127:=Tryz.sizeOf366;v127:=Tryz.zeroValue366;t143:=Tryz.underlying513;a143:=Tryz.isAgg513;z143:=Tryz.sizeOf513;v143:=Tryz.zeroValue513;t145:=Tryz.underlying515;a145:=Tryz.isAgg515;z145:=Tryz.sizeOf515;v145:=Tryz.zeroValue515;t167:=Tryz.underlying497;a167:=Tryz.isAgg497;z167:=Tryz.sizeOf497;v167:=Tryz.zeroValue497;t168:=Tryz.underlying500;a168:=Tryz.isAgg500;z168:=Tryz.sizeOf500;v168:=Tryz.zeroValue500;t171:=Tryz.underlying460;a171:=Tryz.isAgg460;z171:=Tryz.sizeOf460;v171:=Tryz.zeroValue460;t173:=Tryz.underlying462;a173:=Tryz.isAgg462;z173:=Tryz.sizeOf462;v173:=Tryz.zeroValue462;t175:=Tryz.underlying498;a175:=Tryz.isAgg498;z175:=Tryz.sizeOf498;v175:=Tryz.zeroValue498;t210:=Tryz.underlying511;a210:=Tryz.isAgg511;z210:=Tryz.sizeOf511;v210:=Tryz.zeroValue511;t212:=Tryz.underlying477;a212:=Tryz.isAgg477;z212:=Tryz.sizeOf477;v212:=Tryz.zeroValue477;t213:=Tryz.underlying478;a213:=Tryz.isAgg478;z213:=Tryz.sizeOf478;t232:=Tryz.underlying494;a232:=Tryz.isAgg494;z232:=Tryz.sizeOf494;v232:=Tryz.zeroValue494;t233:=Tryz.underlying495;a233:=Tryz.isAgg495;z233:=Tryz.sizeOf495;v233:=Tryz.zeroValue495;g15:=by decide+kernel
 g16:=by decide+kernel
 g17:=by decide+kernel
 g18:=by decide+kernel
 g19:=by decide+kernel
 t80:=Tryz.underlying272;a80:=Tryz.isAgg272;z80:=Tryz.sizeOf272;v80:=Tryz.zeroValue272;i0:=rfl;i2:=rfl;i3:=rfl;i4:=rfl;i5:=rfl;i9:=rfl;i20:=rfl;i21:=rfl;i37:=rfl;i46:=rfl;i51:=rfl;i53:=rfl;i75:=rfl;i80:=rfl;i85:=rfl;i127:=rfl;i143:=rfl;i145:=rfl;i167:=rfl;i168:=rfl;i171:=rfl;i173:=rfl;i175:=rfl;i210:=rfl;i212:=rfl;i232:=rfl;i233:=rfl;m15:=by decide+kernel
 m16:=by decide+kernel
 m17:=by decide+kernel
 m18:=by decide+kernel
 m19:=by decide+kernel
 c0:=rfl;c2:=rfl;c3:=rfl;c4:=rfl;c5:=rfl;c9:=rfl;c20:=rfl;c21:=rfl;c37:=rfl;c46:=rfl;c51:=rfl;c53:=rfl;c75:=rfl;c80:=rfl;c85:=rfl;c127:=rfl;c143:=rfl;c145:=rfl;c167:=rfl;c168:=rfl;c171:=rfl;c173:=rfl;c175:=rfl;c210:=rfl;c212:=rfl;c213:=rfl;c232:=rfl;c233:=rfl
theorem Py:Builder.Extra Tryz.prog Pw where
 sizeBuilder:=rfl
 liesBuilder:=by decide+kernel
 t5:=mw;a5:=tu;z5:=sr;v5:=pg;infoByte:=rfl;cellsByte:=rfl;sizeByte:=rfl;neB5:=by decide
def HA.it(r:Nat)(s:ByteArray)(p:Nat):HA:=⟨λg=>g=r,λw=>w.heap[r]?=some (.stringIter s p),λ_ _ h _ hB=>(h r rfl).trans hB,λ_ hB g hg=>hg▸(jq.1 hB).1⟩
section
variable{rest:List Oper}{ps:String}{L:List HA}
theorem yu{y:Operand}{a b:ByteArray}{B:Bool}(z:ev e x=.string a)(D:ev e y=.string b)(v:(a.toList==b.toList)=B):iE P e ⟨d,.binOp .eql t x y t',ty,ps,af,none⟩ (.bool B):=by
 intro w;subst v;simp[gd,execOp,z,D,eqGuard,binOp,Op.stringOp]
theorem Jp{y:Operand}{a b:ByteArray}{B:Bool}(z:ev e x=.string a)(D:ev e y=.string b)(v:(!(a.toList==b.toList))=B):iE P e ⟨d,.binOp .neq t x y t',ty,ps,af,none⟩ (.bool B):=by
 intro w;subst v;simp[gd,execOp,z,D,eqGuard,binOp,Op.stringOp]
theorem uz{y:Operand}{k:IntKind}{b:Int}{B:Bool}(z:ev e x=.int k a)(D:ev e y=.int k b)(v:decide (a<b)=B):iE P e ⟨d,.binOp .lss t x y t',ty,ps,af,none⟩ (.bool B):=by
 intro w;subst v;simp[gd,execOp,z,D,eqGuard,binOp,Op.intCmp]
theorem qA{y:Operand}{k:IntKind}{b:Int}{B:Bool}(z:ev e x=.int k a)(D:ev e y=.int k b)(v:decide (a>b)=B):iE P e ⟨d,.binOp .gtr t x y t',ty,ps,af,none⟩ (.bool B):=by
 intro w;subst v;simp[gd,execOp,z,D,eqGuard,binOp,Op.intCmp]
theorem V4(z:P.underlying t=some (.interface want))(D:ev e x=.nilIface):iE P e ⟨d,.binOp .eql t x (.const .nilIface) t',ty,ps,af,none⟩ (.bool true):=by
 intro w;have h2:ev e (.const .nilIface)=.nilIface:=rfl
 have v:∀n:Nat,(Op.equalIn (n+1) t .nilIface .nilIface).run P w=.ok true w:=λn=>by
  unfold Op.equalIn;simp[dS z]
 have y:(Op.equal t .nilIface .nilIface).run P w=.ok true w:=v 9999;simp[gd,execOp,D,h2,eqGuard,binOp,y]
theorem Pz(z:P.underlying t=some (.interface want))(D:ev e x=.nilIface):iE P e ⟨d,.binOp .neq t x (.const .nilIface) t',ty,ps,af,none⟩ (.bool false):=by
 intro w;have h2:ev e (.const .nilIface)=.nilIface:=rfl
 have v:∀n:Nat,(Op.equalIn (n+1) t .nilIface .nilIface).run P w=.ok true w:=λn=>by
  unfold Op.equalIn;simp[dS z]
 have y:(Op.equal t .nilIface .nilIface).run P w=.ok true w:=v 9999;simp[gd,execOp,D,h2,eqGuard,binOp,y,asBool]
theorem Ab{s:ByteArray}(v:P.underlying t=some .string)(y:ev e x=.string s):iE P e ⟨d,.call ⟨.builtin .len,#[x],#[t]⟩,ty,ps,af,none⟩ (ii s.size):=by
 intro w;simp[gd,execOp,y,resolve,invoke,builtin,Builtin.len_,dS v,goInt]
theorem PA{s:ByteArray}{m n:Int}(I:P.underlying t=some .string)(J:ev e x=.string s)(D:ev e lo=.int kl m)(z:ev e hi=.int kh n)(y:0<=m)(h1:m<=n)(h2:n<=s.size) :
  iE P e ⟨d,.slice t x (some lo) (some hi) none,ty,ps,af,none⟩ (.string (s.extract m.toNat n.toNat)):=by
 intro w;have v:(n.toNat:Int)=n:=Int.toNat_of_nonneg om;simp[gd,execOp,J,D,z,Instr.sliceAt,Instr.slice,dS I,Instr.sliceBounds,j0,v,y,h1,h2,(by omega:0<=n)]
theorem TR{s:ByteArray}{m:Int}(z:P.underlying t=some .string)(D:ev e x=.string s)(y:ev e lo=.int kl m)(v:0<=m)(h1:m<=s.size) :
  iE P e ⟨d,.slice t x (some lo) none none,ty,ps,af,none⟩ (.string (s.extract m.toNat s.size)):=by
 intro w;simp[gd,execOp,D,y,Instr.sliceAt,Instr.slice,dS z,Instr.sliceBounds,j0,v,h1]
theorem Nk{s:ByteArray}(S:St F W w L)(D:P.underlying t=some .string)(I:ev e x=.string s)(z:∀r w',Gr w w'->St F W w' (.it r s 0::L)->RW P ops Q rest (fI e d (pt r)) w') :
  RW P ops Q (⟨d,.range t x,ty,ps,af,none⟩::rest) e w:=by
 refine wZ (v:=pt w.heap.size) (w':=w.alloc (.stringIter s 0)) ?_ (z _ _ (Gr.alloc w _) ?_)
 ·simp[execOp,I,Instr.range,dS D,go_sem]
 ·exact S.push (Gr.alloc w _) (h:=.it w.heap.size s 0) (nH w _) (λg y=>by rw[y];exact cN _)
theorem Rb{r:Nat}{s:ByteArray}{b:UInt8}(S:St F W w L)(hi:gi L i=some (.it r s p))(hx:ev e x=.pointer (some ⟨r,0,none⟩))(y:s[p]?=some b)(hc:b.toNat<128)(hs:j7 L i (.it r s (p+1))=some L')(Z:∀w',St F W w' L'→RW P ops Q rest (fI e d (.tuple #[.bool true,.int .i64 p,.int .i32 b.toNat])) w'):RW P ops Q (⟨d,.next x true,ty,ps,af,none⟩::rest) e w:=by
  have I:w.heap[r]?=some (.stringIter s p):=S.ok hi;have O:r<w.heap.size:=(jq.1 I).1;have J:(getObj r).run P w=.ok (.stringIter s p) w:=by simp[getObj,Sem.run,I]
  have U:(setObj r (.stringIter s (p+1))).run P w=.ok () { w with heap:=w.heap.setIfInBounds r (.stringIter s (p+1)) }:=by simp[setObj,Sem.run,I]
  have D:p<s.size:=by
    rcases eV p s.size with h|h
    · exact h
    · rw[getElem?_neg _ _ om]at y;cases y
  have hd:Utf8.decode s p=(b.toNat,1):=by
    have h1:s.get! (p+0)=b:=by
      rw[eW];have:s[p]?=some (s[p]'D):=getElem?_pos s p D;rw[this]at y;injection y with y;rw[←y];show s.data[p]! =s.data[p];exact getElem!_pos s.data p D
    unfold Utf8.decode;simp only[h1];rw[a7 om]
  refine wZ (v:=.tuple #[.bool true,.int .i64 p,.int .i32 b.toNat]) (w':={ w with heap:=w.heap.setIfInBounds r (.stringIter s (p+1)) }) ?_ (Z _ (S.set (F':=λg=>g=r) hi hs ⟨rfl,rfl,rfl,by simp,λg z V=>?_⟩ (λg z=>.inl z) ?_ (λg z=>.inl z)))
  · simp[execOp,hx,Instr.next,J,D,hd,goInt,U]
  · simp only[oh]
    rw[a8 (λe=>V e.symm)]
  · show _=_
    simp[O]
theorem Re{r:Nat}{s:ByteArray}(S:St F W w L)(hi:gi L i=some (.it r s p))(J:ev e x=pt r)(D:s.size<=p)(I:RW P ops Q rest (fI e d (.tuple #[.bool false])) w):RW P ops Q (⟨d,.next x true,ty,ps,af,none⟩::rest) e w:=by
 have z:w.heap[r]?=some (.stringIter s p):=S.ok hi;have y:(getObj r).run P w=.ok (.stringIter s p) w:=by simp[getObj,Sem.run,z]
 refine wZ (v:=.tuple #[.bool false]) (w':=w) ?_ I;simp[execOp,J,Instr.next,y,Nat.not_lt.2 D]
end
theorem Xh(w:World)(t:TypeId)(s:ByteArray):Gr w (Lib.bytesWorld w t s):=Lib.bytesWorld_below _ _ _
theorem TS(s y:ByteArray){l:List ByteArray}{m:Int}(L:s.size<4294967281)(J:w.cell? ⟨3,0,none⟩=some (ii m))(h1:1<=y.size)(I:Lib.splitB y 0 (Lib.countB s y) s=l) :
  Fn prog 287 [.string s,.string y] w (λv w'=>v=.slice (some ⟨w.heap.size,0,none⟩) l.length l.length/\w'=w.alloc (.cells (l.map Value.string).toArray 9)):=by
 subst I;have z:=Lib.splitB_all y h1 0 _ s rfl;rw[z];exact jM (by kernel_rfl) ((Any.strings_Split Yb rfl s y m w L J h1).mono λe w'⟨D,hw⟩=>⟨D,hw⟩)
theorem Xi(i:Nat)(hi:i<100){s:ByteArray}(h:(⟨(Lib.decDigits i).toArray⟩:ByteArray)=s):Fn prog 282 [ii i,ii 10] W (dp (.string s) W):=by
 subst h;exact jM (by kernel_rfl) ((Any.strconv_FormatInt_10_small Yf i hi W).mono λe w'⟨v,hw⟩=>⟨v,hw▸Gr.refl W⟩)
theorem V5(s p:ByteArray){r:ByteArray}(h:(⟨(Lib.trimPrefix s.data.toList p.data.toList).toArray⟩:ByteArray)=r):Fn prog 328 [.string s,.string p] W (dp (.string r) W):=by
 subst h;exact jM (by kernel_rfl) ((Any.strings_TrimPrefix Yd s p W).mono λe w'⟨v,hw⟩=>⟨v,hw▸Gr.refl W⟩)
theorem PB(s:ByteArray){v:Int}(z:s.size<=1000)(h:Lib.parseIntB 64 s.data.toList=.ok v):Fn prog 330 [.string s,ii 10,ii 64] W (dp (.tuple #[ii v,.nilIface]) W):=by
 refine jM (by kernel_rfl) ((Any.strconv_ParseInt_10_at64_ok Yh s om v h W).mono λe w'⟨y,hw⟩=>⟨y,?_⟩);rcases hw with rfl|⟨t,rfl⟩
 ·exact Gr.refl _
 ·exact Xh _ _ _
theorem Rf{o:Nat}{x v:ByteArray}(y:W.cell? ⟨b,o,none⟩=some (.string x)):Fn prog 242 [.slice (some ⟨b,o,none⟩) 1 c,.string v] W (dp (.string x) W) :=
 jM (by kernel_rfl) ((Any.strings_Join_one Px Py b o c x v W y).mono λe w'⟨z,hw⟩=>⟨z,hw▸Gr.refl W⟩)
theorem TT{o:Nat}{xs:List ByteArray}{v r:ByteArray}(D:∀(j:Nat)x,xs[j]?=some x->W.cell? ⟨b,o+j,none⟩=some (.string x))(z:b<W.heap.size)(O:xs.length<=1000)(y:xs.length<=c)(L:(⟨(Lib.join (xs.map (·.data.toList)) v.data.toList).toArray⟩:ByteArray)=r)(J:r.size<=100000):Fn prog 242 [.slice (some ⟨b,o,none⟩) xs.length c,.string v] W (dp (.string r) W):=by
 subst L;exact jM (by kernel_rfl) ((Any.strings_Join Px Py b o c xs v W D z om y (dE (show(Lib.join (xs.map (·.data.toList)) v.data.toList).length<=100000 by simpa [ByteArray.size]using J) (by decide))).mono λe w'⟨I,hw⟩=>⟨I,hw⟩)
structure Dg(s:ByteArray)(v:Nat):Prop where
 lt:v<100
 dec:(⟨(Lib.decDigits v).toArray⟩:ByteArray)=s
 par:Lib.parseIntB 64 s.data.toList=.ok v
 trim:(⟨(Lib.trimPrefix s.data.toList [45]).toArray⟩:ByteArray)=s
 pos:0<s.size
 le:s.size<=100
 dig:∀b∈s.data.toList,48<=b.toNat/\b.toNat<=57
 zero:s[0]?=some 48->s.size=1
theorem H6{s:ByteArray}{v:Nat}(h:Dg s v):Fn prog 236 [ii v] W (dp (.string s) W):=by
 have S:=St.start W;refine zI func236 ?_;refine zC (Xi v h.lt h.dec) ?_;intro z y S;exact zZ
theorem Ga{s:ByteArray}(h:∀b∈s.data.toList,48<=b.toNat/\b.toNat<=57):Fn prog 329 [.string s] W (dp (ii s.size) W):=by
 have S:=St.start W;refine zI func329 ?_;refine zg ?_;refine Nk S fk rfl ?_;intro r J D S;refine zg ?_;refine dl (λm e w=>∃p:Nat,p+m=s.size/\SL e [(0,.string s),(6,pt r)]/\St No W w [.it r s p]) s.size ⟨0,om,sl,S⟩ ?_;clear S;rintro m e L ⟨p,I,y,S⟩;rw[y.fold];by_cases v:p<s.size
 ·have z:s[p]?=some s[p]:=getElem?_pos s p v;have hd:=h s[p] (Array.getElem_mem_toList _);generalize s[p]=b at z hd;refine zg ?_;refine Rb (i:=0) S rfl rfl z om rfl ?_;intro O S;refine zg ?_;refine cq (uz rfl rfl (cC om)) ?_;refine zg ?_;refine dr rfl ?_;refine cq (qA rfl rfl (cC om)) ?_;refine zg ?_;exact⟨m-1,om,p+1,om,sl,S⟩
 ·obtain rfl:p=s.size:=om;refine zg ?_;refine Re (i:=0) S rfl rfl (cN _) ?_;refine zg ?_;refine cq (Ab fk rfl) ?_;exact zZ
theorem TU{s:ByteArray}{v:Nat}(h:Dg s v):Fn prog 314 [.string s,ii 0] W (dp (.tuple #[ii v,ii s.size,ii 0]) W):=by
 have J:s.extract 0 s.size=s:=by simp
 have z:=h.pos;have ac:=h.le;have ab:=h.dig;have S:=St.start W;refine zI func314 ?_;refine zg ?_;refine dr rfl ?_;refine cq (Ab fk rfl) ?_;refine zg ?_;refine cq (TR fk rfl rfl (by decide) om) ?_;rw[show s.extract (0:Int).toNat s.size=s from J];refine zC (V5 s ⟨#[45]⟩ h.trim) ?_;intro ad L S;refine zg ?_;refine cq (Ab fk rfl) ?_;refine zg ?_;refine cq (Ab fk rfl) ?_;refine zg ?_;obtain⟨b,I⟩:∃b,s[0]?=some b:=⟨_,getElem?_pos s 0 z⟩;have hz:b=48->s.size=1:=λe=>h.zero (by rw[I,e])
 have D:s.extract (0:Int).toNat ((0+((s.size:Int)-0-s.size)+s.size:Int)).toNat=s:=by
  rw[(om:((0+((s.size:Int)-0-s.size)+s.size:Int)).toNat=s.size)];exact J
 by_cases y:b=48
 ·have h1:=hz y;subst y;refine zC (Ga h.dig) ?_;intro ae O S;refine zg ?_;refine dr rfl ?_;refine cq (wk (n:=0) (b:=48) fk rfl rfl (by decide) I) ?_;refine dr rfl ?_;refine cq (cH (v:=.bool true) rfl) ?_;refine zg ?_;refine cq (PA fk rfl rfl rfl (by decide) om om) ?_;rw[D];refine zC (PB s om h.par) ?_;intro ag U S;refine zg ?_;refine cq (Pz underlying269 rfl) ?_;refine zX ?_;exact⟨by rw[(om:(0+((s.size:Int)-0-s.size)+s.size:Int)=s.size)],S.out⟩
 ·have aa:¬((b.toNat:Int)=48):=λe=>y (UInt8.toNat_inj.1 (by show b.toNat=48;omega));refine zC (Ga h.dig) ?_;intro ah V S;refine zg ?_;refine dr rfl ?_;refine cq (wk (n:=0) (b:=b) fk rfl rfl (by decide) I) ?_;refine zg ?_;refine cq (PA fk rfl rfl rfl (by decide) om om) ?_;rw[D];refine zC (PB s om h.par) ?_;intro ai Z S;refine zg ?_;refine cq (Pz underlying269 rfl) ?_;refine zX ?_;exact⟨by rw[(om:(0+((s.size:Int)-0-s.size)+s.size:Int)=s.size)],S.out⟩
theorem TV{s:ByteArray}{v:Nat}(h:Dg s v):Fn prog 298 [.string s] W (dp (.tuple #[ii v,ii 0]) W):=by
 have z:=h.le;have S:=St.start W;refine zI func298 ?_;refine zC (TU h) ?_;intro D y S;refine zg ?_;refine cq (Ab fk rfl) ?_;exact zZ
theorem BI{s:ByteArray}{v:Nat}(h:Dg s v):Fn prog 283 [.string s] W (dp (ii v) W):=by
 have S:=St.start W;refine zI func283 ?_;refine zC (TV h) ?_;intro z y S;exact zZ
theorem Nl:Dg ⟨#[48]⟩ 0:=by constructor<;>decide+kernel
theorem V7:Dg ⟨#[49]⟩ 1:=by constructor<;>decide+kernel
theorem V8:Dg ⟨#[50]⟩ 2:=by constructor<;>decide+kernel
theorem V9:Dg ⟨#[53]⟩ 5:=by constructor<;>decide+kernel
theorem Wa:Dg ⟨#[55]⟩ 7:=by constructor<;>decide+kernel
theorem Yi:Dg ⟨#[49,50]⟩ 12:=by constructor<;>decide+kernel
def CN(F:Nat->Prop)(W:World)(L:List HA)(T:Value->HA->Prop)(wq:World):List Value->Prop
 |[]=>St F W wq L
 |v::_=>∃h,T v h/\St F W wq (h::L)
theorem CN.st{L:List HA}{T:Value->HA->Prop}:∀{τ:List Value},CN F W L T wq τ->St F W wq L
 |[],h=>h
 |v::_,⟨_,_,S⟩=>S.drop 1
theorem CN.gr{L:List HA}{T:Value->HA->Prop}(g:Gr wq w'):∀{τ:List Value},CN F W L T wq τ->CN F W L T w' τ
 |[],h=>St.gr h g
 |v::_,⟨x,t,S⟩=>⟨x,t,S.gr g⟩
theorem qj{a u u':Tmp}{tb:TypeId}{o:Nat}{cs:List Value}(hu:P.underlying t=some dd)(hd:sM dd=true)(hz:(sizeOf t).run P w=.ok n w)(hx:e a=.pointer (some ⟨b,o,none⟩))(hB:eL w b tb l)(hl:lj ((l.drop o).take n)=some cs)(hn:cs.length=n)(h2:fz (e u)=some v2)(h3:fz (e u')=some v3)(hR:R (.tuple #[.agg cs.toArray,v2,v3]) w):QF P #[.cell a t,.tmp u,.tmp u'] R .ret e w :=
 ⟨_,λfn tmps hr hg=>by
  have h1:=ly (o:=default) (fx (P:=P) (d:=none) (ty:=0) (ps := "") (af:=#[]) (e:=λ_=>.pointer (some ⟨b,o,none⟩)) (x:=.tmp 0) hu hd hz rfl hB hl hn);have g1:=hg a;have g2:=hg u;have g3:=hg u';rw[hx,dN]at g1;rw[m9 h2,dN]at g2;rw[m9 h3,dN]at g3;simp[results,hr,g1,g2,g3,asAddr,h1],hR⟩
def CD(gw:Nat)(z:Int×Int):Nat:=z.2.toNat * gw+z.1.toNat
def Xj(gw gh:Nat)(V:List Int)(ps:List Nat)(W:World):Value->World->Prop:=λv w' =>
 ∃A' c' A2 c2,v=.tuple #[.agg #[ii gw,.slice A' (gw*gh) c'],.slice A2 ps.length c2,ii 0]/\gH w' 2 1 A' (gw*gh) c' (cY V)/\tr W A'/\gH w' 3 1 A2 ps.length c2 (lR ps)/\tr W A2/\(∀g,jv A' g->¬jv A2 g)/\Gr W w'
section
variable{cap:Nat}
theorem TY(zs:List (Int×Int))(hz:zs.length<=16)(hG:eJ W p gw gh cc A cap bs Rs)(hC:Rd W B (eT zs)) :
  Fn prog 122 [pt p,.slice B zs.length cB] W (λv w'=>(zs.all (mD gw gh)=true->Xj gw gh (dw gw gh cc) (zs.map (CD gw)) W v w') /\
   (zs.all (mD gw gh)=false->dp (.tuple #[.agg #[ii 0,.slice none 0 0],.slice none 0 0,ii 4]) W v w')):=by
 have hw:=hG.sw;have hh:=hG.sh;have hn:gw*gh<=1024*1024:=cE hw.2 hh.2;have e1:((gw:Int)-1)=((gw-1:Nat):Int):=om;have e2:((gh:Int)-1)=((gh-1:Nat):Int):=om
 have hval:∀w,Gr W w->Fn prog 44 [pt p,.agg #[ii 0,ii 0,ii (gw-1),ii (gh-1)]] w (jc (λv=>.tuple #[v,ii 0]) 2 1 (gw*gh) (cY (dw gw gh cc)) w):=λw g=>by
  have:=iz (W:=w) 0 0 (gw-1) (gh-1) om om (hG.gr g);rw[<-e1,<-e2,(om:gw-1+1-0=gw),(om:gh-1+1-0=gh),wJ,cD gh gw]at this;exact this
 have S:=St.start W;refine zI func122 ?_;refine zN ?_;intro b_res w2_ g2_ S;refine zC (mC p gw gh _ _ (hG.top.gr S.out)) ?_;intro w3_ g3_ S;refine zN ?_;intro b_l w5_ g5_ S;refine zS ?_;intro w6_ S;have S:=S.pushNil 3 1
 refine dl (λm e w=>∃(k:Nat)(A_ps:Option Addr)(c_ps:Nat),k+m=zs.length/\SL e [(0,pt p),(4,pt b_res),(9,pt b_l),(10,.slice A_ps k c_ps),(25,.slice B zs.length cB),(26,ii zs.length),(27,ii k)] /\
  (zs.take k).all (mD gw gh)=true/\St No W w [.row 3 1 A_ps k c_ps (lR ((zs.take k).map (CD gw))),.blk b_l 231 [ii gw,.slice none 0 0],.blk b_res 231 [ii 0,.slice none 0 0]]) zs.length
  ⟨0,_,_,om,sl,rfl,S⟩ ?_
 clear S;rintro m e w ⟨k,A_ps,c_ps,hk,hsl,hall,S⟩;rw[hsl.fold];refine zB ?_ ?_
 ·intro hc;have hkz:k<zs.length:=om;obtain⟨z,hzk,htk⟩:∃z,zs[k]?=some z/\zs.take (k+1)=zs.take k++[z]:=⟨zs[k]'hkz,ct hkz,ip hkz⟩;have hat:((eT zs).drop ((k:Int).toNat * 2)).take 2=[ii z.1,ii z.2]:=by rw[b7];exact mS hzk
  have sa_B:dO B:=hC.someA (by rw[xl];omega);cases hin:mD gw gh z with
  |false =>
   have hno:¬(0<=z.1/\z.1<gw/\0<=z.2/\z.2<gh):=λh=>by rw[jT.2 h]at hin;cases hin
   refine zg ?_;refine ZU (hC.gr S.out) hat ?_;refine zN ?_;intro b_c w8_ g8_ S;refine zS ?_;intro w9_ S;refine zC (Fq (W:=_) z.1 z.2 hno (hG.gr S.out)) ?_;refine zS ?_;intro w11_ S;refine qj mM rfl (vt _) rfl (S.blk (i:=3) rfl) rfl rfl rfl rfl ⟨λh=>?_,λ_=>⟨rfl,S.out⟩⟩;have:=dh.1 h z (dD hzk);rw[hin]at this;cases this
  |true =>
   have hin':=jT.1 hin;obtain⟨zx,zy⟩:=z;dsimp only at hin' hat;obtain⟨x,rfl⟩:=cJ hin'.1;obtain⟨y,rfl⟩:=cJ hin'.2.2.1;have em:(y:Int)*gw=((y*gw:Nat):Int):=by push_cast;rfl
   have ea:((y*gw:Nat):Int)+(x:Nat)=((y*gw+x:Nat):Int):=by push_cast;rfl
   have hyg:(y+1)*gw<=gh*gw:=cI _ om;rw[cX,cD gh]at hyg;refine zg ?_;refine ZU (hC.gr S.out) hat ?_;refine zN ?_;intro b_c w13_ g13_ S;refine zS ?_;intro w14_ S;refine zC (MI x y om om (hG.gr S.out)) ?_;intro w15_ g15_ S;refine zg ?_;rw[em];refine zg ?_;rw[ea];refine Mv YR fa tY rfl rfl rfl rfl rfl rfl S ?_;intro A_lit w17_ g17_ S sa_lit;refine ZP 2 0 S ?_;intro A_ps18 c_ps18 w18_ S sa_ps;refine zg ?_;have S:=S.sub (.cons _ (.cons _ (.cons_cons _ (.cons_cons _ (.cons_cons _ .slnil)))));have hid:CD gw ((x:Int),(y:Int))=y*gw+x:=by simp[CD]
   have e3:lR ((zs.take k).map (CD gw))++[ii ((y*gw+x:Nat):Int)]=lR ((zs.take (k+1)).map (CD gw)):=by rw[htk,fq,i7,hid];simp[lR]
   rw[e3]at S;refine⟨m-1,om,k+1,_,_,om,sl,?_,S⟩;rw[htk,List.all_append,hall];simp[hin]
 ·intro hc;obtain rfl:k=zs.length:=om;rw[i6]at hall S;refine zC (uo p gw gh hw.2 hh.2 _ w (hG.top.gr S.out)) ?_;intro w19_ g19_ S;refine zK (hval _ S.out) ?_;rintro _ w20_ ⟨A_vs,c_vs,rfl,hR_vs,hf_vs,g20_⟩;have S:=S.pushRow hR_vs hf_vs g20_;refine zS ?_;intro w22_ S;refine qj mM rfl (vt _) rfl (S.blk (i:=3) rfl) rfl rfl rfl rfl ⟨λ_=>?_,λh=>by rw[hall]at h;cases h⟩
  have hlm:(zs.map (CD gw)).length=zs.length:=by simp
  exact⟨_,_,_,_,by rw[hlm],S.row (i:=0) rfl,iC.fresh S (i:=0) rfl,by rw[hlm];exact S.row (i:=1) rfl,iC.fresh S (i:=1) rfl,λg hg=>S.sep.2.1 g hg _ eB,S.out⟩
end
section
variable{o o':Nat->α}{R:α->α->Bool}{a:Nat}
def ND(o:Nat->α)(i j:Nat):Nat->α:=λk=>if k=i then o j else if k=j then o i else o k
theorem Gj:ND o i j i=o j:=a7 rfl
theorem NE:ND o i j j=o i:=by
 unfold ND;by_cases h:j=i
 ·rw[a7 h,h]
 ·rw[a8 h,a7 rfl]
theorem xq(h1:k≠i)(h2:k≠j):ND o i j k=o k:=by unfold ND;rw[a8 h1,a8 h2]
inductive PS(a b:Nat)(o:Nat->α):(Nat->α)->Prop
 |refl:PS a b o o
 |swap {o':Nat->α} (i j:Nat) (hi:a<=i/\i<b) (hj:a<=j/\j<b) (h:PS a b o o'):PS a b o (ND o' i j)
theorem PS.trans{o2:Nat->α}(h:PS a b o o')(h':PS a b o' o2):PS a b o o2:=by
 induction h' with
 |refl=>exact h
 |swap i j hi v _ ih=>exact .swap i j hi v ih
theorem PS.wide{a':Nat}(h:PS a b o o')(v:a'<=a)(y:b<=b'):PS a' b' o o':=by
 induction h with
 |refl=>exact .refl
 |swap i j hi z _ ih=>exact .swap i j ⟨om,om⟩ ⟨om,om⟩ ih
theorem PS.out(h:PS a b o o')(y:k<a\/b<=k):o' k=o k:=by
 induction h with
 |refl=>rfl
 |swap i j hi v _ ih=>rw[xq om om,ih]
theorem PS.img(h:PS a b o o'):∀{k:Nat},a<=k->k<b->∃x,a<=x/\x<b/\o' k=o x:=by
 induction h with
 |refl=>exact λh1 h2=>⟨_,h1,h2,rfl⟩
 |@swap o' i j hi hj _ ih =>
  intro k h1 h2;by_cases v:k=i
  ·subst v;rw[Gj];exact ih hj.1 hj.2
  ·by_cases y:k=j
   ·subst y;rw[NE];exact ih hi.1 hi.2
   ·rw[xq v y];exact ih h1 h2
theorem PS.pre(h:PS a b o o'):∀{k:Nat},a<=k->k<b->∃x,a<=x/\x<b/\o' x=o k:=by
 induction h with
 |refl=>exact λh1 h2=>⟨_,h1,h2,rfl⟩
 |@swap o' i j hi hj _ ih =>
  intro k h1 h2;obtain⟨x,y,z,v⟩:=ih h1 h2;by_cases D:x=i
  ·exact⟨j,hj.1,hj.2,by rw[NE,<-D];exact v⟩
  ·by_cases I:x=j
   ·exact⟨i,hi.1,hi.2,by rw[Gj,<-I];exact v⟩
   ·exact⟨x,y,z,by rw[xq D I];exact v⟩
structure Wk(R:α->α->Bool):Prop where
 asym:∀x y,R x y=true->R y x=false
 trans:∀x y z,R y x=false->R z y=false->R z x=false
theorem Wk.refl(h:Wk R)(x:α):R x x=false:=by
 cases v:R x x with
 |false=>rfl
 |true=>have:=h.asym x x v;rw[v]at this;cases this
def SO(R:α->α->Bool)(o:Nat->α)(a b:Nat):Prop:=∀x y,a<=x->x<y->y<b->R (o y) (o x)=false
theorem SO.le(z:Wk R)(h:SO R o a b){x y:Nat}(h1:a<=x)(h2:x<=y)(v:y<b):R (o y) (o x)=false:=by
 by_cases e:x=y
 ·subst e;exact z.refl _
 ·exact h x y h1 om v
theorem SO.sub{a':Nat}(h:SO R o a b)(z:a<=a')(D:b'<=b):SO R o a' b':=λx y h1 h2 v=>h x y om h2 om
theorem SO.congr(h:SO R o a b)(z:∀k,a<=k->k<b->o' k=o k):SO R o' a b:=λx y h1 h2 v=>by
 rw[z x h1 om,z y om v];exact h x y h1 h2 v
theorem SO.one(h:b<=a+1):SO R o a b:=λx y h1 h2 v=>by omega
theorem SO.join(z:Wk R)(h1:SO R o a m)(h2:SO R o m b)(h:a<m->m<b->R (o m) (o (m-1))=false):SO R o a b:=λx y D v I=>by
 by_cases J:y<m
 ·exact h1 x y D v J
 ·by_cases L:m<=x
  ·exact h2 x y L v I
  ·exact z.trans _ _ _ (z.trans _ _ _ (h1.le z D (show x<=m-1 by omega) om) (h om om)) (h2.le z (cN m) om I)
structure NF(R:α->α->Bool)(o:Nat->α)(a i j:Nat):Prop where
 rest:∀x y,a<=x->x<y->y<=i->x≠j->y≠j->R (o y) (o x)=false
 behind:∀y,j<y->y<=i->R (o y) (o j)=false
theorem NF.init(h:SO R o a i):NF R o a i i:=⟨λx y h1 h2 v z D=>h x y h1 h2 om,λy h1 h2=>by omega⟩
theorem NF.step(S:Wk R)(h:NF R o a i j)(U:a<j)(L:j<=i)(O:R (o j) (o (j-1))=true):NF R (ND o j (j-1)) a i (j-1):=by
 refine⟨λx y h1 h2 D I J=>?_,λy h1 h2=>?_⟩
 ·by_cases v:y=j
  ·subst v;rw[Gj,xq om I];exact h.rest x (y-1) h1 om om om om
  ·by_cases z:x=j
   ·subst z;rw[Gj,xq v J];exact h.rest (x-1) y om om D om v
   ·rw[xq v J,xq z I];exact h.rest x y h1 h2 D z v
 ·rw[NE];by_cases v:y=j
  ·subst v;rw[Gj];exact S.asym _ _ O
  ·rw[xq v om];exact h.behind y om h2
theorem NF.done(J:Wk R)(h:NF R o a i j)(I:j<=i)(D:a<j->R (o j) (o (j-1))=false):SO R o a (i+1):=λx y h1 h2 L=>by
 by_cases z:y=j
 ·subst z;by_cases v:x=y-1
  ·rw[v];exact D om
  ·exact J.trans _ _ _ (h.rest x (y-1) h1 om om om om) (D om)
 ·by_cases v:x=j
  ·subst v;exact h.behind y h2 om
  ·exact h.rest x y h1 h2 om v z
theorem PS.halves{z:Nat}{o1 o2:Nat->α}(h:∀x y,a<=x->x<z->z<=y->y<b->R (o y) (o x)=false)(hm:a<=z/\z<=b)(p1:PS a z o o1)(p2:PS z b o1 o2)(s1:SO R o1 a z)(s2:SO R o2 z b):SO R o2 a b:=λx y V I Z=>by
 by_cases c1:y<z
 ·have J:=p2.out (k:=x) (.inl om);have L:=p2.out (k:=y) (.inl c1);rw[J,L];exact s1 x y V I c1
 ·by_cases c2:z<=x
  ·exact s2 x y c2 I Z
  ·obtain⟨u,O,S,hu⟩:=p1.img V (show x<z by omega);obtain⟨v,D,U,hv⟩:=p2.img (show z<=y by omega) Z;have J:=p2.out (k:=x) (.inl om);have L:=p1.out (k:=v) (.inr D);rw[J,hu,hv,L];exact h u v O S D U
end
section
variable{o o' o0:Nat->α}{R R':α->α->Bool}{a t B:Nat}
theorem SO.high(v:Wk R)(h:SO R o a b){x y:Nat}{z:α}(h1:a<=x)(h2:x<=y)(D:y<b)(I:R (o x) z=false):R (o y) z=false :=
 v.trans _ _ _ I (h.le v h1 h2 D)
theorem SO.low(I:Wk R)(h:SO R o a b){x y:Nat}{z:α}(h1:a<=x)(h2:x<=y)(D:y<b)(v:R (o y) z=true):R (o x) z=true:=by
 cases J:R (o x) z with
 |true=>rfl
 |false=>rw[h.high I h1 h2 D J]at v;cases v
theorem SO.over(v:Wk R)(h:SO R o a b){x y:Nat}{z:α}(h1:a<=x)(h2:x<=y)(D:y<b)(I:R z (o y)=false):R z (o x)=false :=
 v.trans _ _ _ (h.le v h1 h2 D) I
theorem SO.under(I:Wk R)(h:SO R o a b){x y:Nat}{z:α}(h1:a<=x)(h2:x<=y)(D:y<b)(v:R z (o x)=true):R z (o y)=true:=by
 cases J:R z (o y)with
 |true=>rfl
 |false=>rw[h.over I h1 h2 D J]at v;cases v
def XC(R R':α->α->Bool)(o:Nat->α)(a m b:Nat):Prop:=∀x y,a<=x->x<m->m<=y->y<b->R (o y) (o x)=R' (o y) (o x)
theorem XC.ps{d:Nat}(h:XC R R' o a m b)(v:PS c d o o')(hd:b<=c\/d<=a):XC R R' o' a m b:=λx y h1 h2 z D=>by
 rw[v.out (k:=x) om,v.out (k:=y) om];exact h x y h1 h2 z D
theorem SO.ps{d:Nat}(h:SO R o a b)(v:PS c d o o')(hd:b<=c\/d<=a):SO R o' a b:=h.congr λk h1 h2=>v.out om
end
section
variable{o:Nat->Nat}{R:Nat->Nat->Bool}{a t B:Nat}
structure ER(o:Nat->Nat)(t:Nat):Prop where
 lo:∀x,x<t->o x<t
 hi:∀y,t<=y->t<=o y
theorem ER.id_(t:Nat):ER (λi=>i) t:=⟨λx h=>h,λy h=>h⟩
theorem ER.ps(h:ER o t)(D:PS a b o o')(U:t<=a\/b<=t):ER o' t:=by
 refine⟨λx O=>?_,λy S=>?_⟩
 ·by_cases v:a<=x/\x<b
  ·obtain⟨z,J,L,I⟩:=D.img v.1 v.2;rw[I];exact h.lo z om
  ·rw[D.out om];exact h.lo x O
 ·by_cases v:a<=y/\y<b
  ·obtain⟨z,J,L,I⟩:=D.img v.1 v.2;rw[I];exact h.hi z om
  ·rw[D.out om];exact h.hi y S
def XA(R R':Nat->Nat->Bool)(n:Nat):Prop:=∀x y,x<y->y<n->R y x=R' y x
theorem XA.xc(h:XA R R' n)(v:ER o m)(I:ER o n)(S:b<=n):XC R R' o a m b:=λx y h1 h2 D O=>by
 have J:=v.lo x h2;have L:=v.hi y D;have z:=I.lo y om;exact h _ _ om z
structure Rj(R':Nat->Nat->Bool)(n B:Nat)(o:Nat->Nat)(q:Nat):Prop where
 ps:PS 0 n (λi=>i) o
 big:∀p,ER o (p*(2*B))
 small:∀p,2*q<=p->ER o (p*B)
 done:∀p,p<q->SO R' o (p*(2*B)) (min (p*(2*B)+2*B) n)
 todo:∀p,2*q<=p->SO R' o (p*B) (min (p*B+B) n)
structure Wg(R':Nat->Nat->Bool)(n B:Nat)(o:Nat->Nat):Prop where
 ps:PS 0 n (λi=>i) o
 spl:∀p,ER o (p*B)
 so:∀p,SO R' o (p*B) (min (p*B+B) n)
theorem Wg.start(h:Wg R' n B o):Rj R' n B o 0 :=
 ⟨h.ps,λp=>by rw[<-oc];exact h.spl _,λp _=>h.spl p,λp v=>by omega,λp _=>h.so p⟩
theorem Rj.step(h:Rj R' n B o j)(L:j*(2*B)+B<n)(I:c=min (j*(2*B)+2*B) n)(y:PS (j*(2*B)) c o o')(J:SO R' o' (j*(2*B)) c):Rj R' n B o' (j+1):=by
 have D:∀p,2*(j+1)<=p->j*(2*B)+2*B<=p*B:=λp y=>by
  have h2:=cI B y;have h1:2*(j+1)*B=j*(2*B)+2*B:=by rw[cD 2 (j+1),oc,cX]
  omega
 have z:∀p,p<j->p*(2*B)+2*B<=j*(2*B):=λp y=>by
  have h2:=cI (2*B) (show p+1<=j from y);rw[cX]at h2;omega
 refine⟨h.ps.trans (y.wide (ib _) om),λp=>?_,λp v=>?_,λp v=>?_,λp v=>?_⟩
 ·refine(h.big p).ps y ?_;by_cases v:p<=j
  ·exact .inl (cI _ v)
  ·right;have:=cI (2*B) (show j+1<=p by omega);rw[cX]at this;omega
 ·exact(h.small p om).ps y (.inr (by have:=D p v;omega))
 ·by_cases e:p=j
  ·subst e;rw[<-I];exact J
  ·exact(h.done p om).ps y (.inl (by have:=z p om;omega))
 ·exact(h.todo p om).ps y (.inr (by have:=D p v;omega))
theorem Rj.fin(h:Rj R' n B o j)(z:n<=j*(2*B)+B):Wg R' n (2*B) o:=by
 refine⟨h.ps,h.big,λp=>?_⟩;by_cases y:p<j
 ·exact h.done p y
 ·have h1:=h.todo (2*p) om;have v:2*p*B=p*(2*B):=by rw[cD 2 p,oc]
  rw[v]at h1;have h2:=cI (2*B) (show j<=p by omega);exact h1.sub (cN _) om
structure NG(R':Nat->Nat->Bool)(n B:Nat)(o:Nat->Nat)(q:Nat):Prop where
 ps:PS 0 n (λi=>i) o
 spl:∀p,ER o (p*B)
 so:∀p,p<q->SO R' o (p*B) (min (p*B+B) n)
 left:∀k,q*B<=k->o k=k
theorem NG.start:NG R' n B (λi=>i) 0:=⟨.refl,λ_=>ER.id_ _,λp v=>by omega,λ_ _=>rfl⟩
theorem NG.step(h:NG R' n B o j)(D:c=min (j*B+B) n)(I:j*B<=n)(y:PS (j*B) c o o')(J:SO R' o' (j*B) c):NG R' n B o' (j+1):=by
 have e:(j+1)*B=j*B+B:=cX j B;refine⟨h.ps.trans (y.wide (ib _) om),λp=>?_,λp v=>?_,λk L=>?_⟩
 ·refine(h.spl p).ps y ?_;by_cases v:p<=j
  ·exact .inl (cI _ v)
  ·right;have:=cI B (show j+1<=p by omega);omega
 ·by_cases z:p=j
  ·subst z;rw[<-D];exact J
  ·refine(h.so p om).ps y (.inl ?_);have h2:=cI B (show p+1<=j by omega);rw[cX]at h2;omega
 ·rw[y.out om];exact h.left k om
theorem NG.fin(h:NG R' n B o j)(D:n<=j*B):Wg R' n B o:=by
 refine⟨h.ps,h.spl,λp=>?_⟩;by_cases v:p<j
 ·exact h.so p v
 ·have h2:=cI B (show j<=p by omega);exact λx y h1 h2 z=>by omega
end
section
variable{enc:Nat->List Value}{x:Nat}{o:Nat->Nat}{v:Value}
theorem PS.lt{a:Nat}(h:PS a b o o')(L:b<=n)(y:∀i,i<n->o i<n):∀i,i<n->o' i<n:=λi hi=>by
 by_cases v:a<=i/\i<b
 ·obtain⟨z,I,J,D⟩:=h.img v.1 v.2;rw[D];exact y z om
 ·rw[h.out om];exact y i hi
end
theorem T6{x:Code}{Q':Exit->(Nat->Value)->World->Prop}(M:(Nat->Value)->World->Prop)(h1:CW P N x (wY M (λ_ _ _=>False)) e w)(h2:∀v w',M v w'->Q' .normal v w'):CW P N x Q' e w :=
 h1.mono λy e w h=>by
  cases y with
  |normal=>exact h2 e w h
  |_=>exact h.elim
def Xm(F:Nat->Prop)(W:World)(n fid:Nat)(caps:List Value)(val:Nat->Value)(cv:Nat->Nat->Int):Prop :=
 ∀w,Fr F W w->∀x y,x<n->y<n->Fn prog fid ([]++[val x,val y]++caps) w (dp (ii (cv x y)) w)
theorem Xm.fr{v:Nat->Value}{cv:Nat->Nat->Int}(h:Xm F W n fid caps v cv)(k:Fr F W w):Xm F w n fid caps v cv :=
 λw' k' x y z D=>h w' (k.trans k' (λ_ h=>.inl h)) x y z D
@[reducible] def YM(i:Nat):List Value:=[ii (i:Nat)]
@[reducible] def YN(i:Nat):Value:=ii (i:Nat)
section
variable{cap:Nat}{V:List Int}
theorem T7(i:Nat)(ad:1<=gw/\gw<=1048576)(hV:V.length=gw*gh)(hm:gw*gh<=1048576)(hi:i<gw*gh)(hA:Rd W A (cY V)) :
  Fn prog 256 [.agg #[ii gw,.slice A (gw*gh) c,.slice B n2 c2],ii i] W (dp (ii (kW gw V i:Nat)) W):=by
 have em:(i:Int)%gw=((i%gw:Nat):Int):=by push_cast;rfl
 have ak:dO A:=hA.someA (by rw[gn];omega);have I:∀i,i<gw*gh->(cY V)[(i:Int).toNat * 1]?=some (ii (V.getD i 0)):=λi hi=>by rw[cG,b7];exact gc (kr om)
 have d0:decide ((i:Int)>=gw)=FC gw (gw*gh) i 0:=by show _=decide _;rw[iq,iu,iu];omega
 have d1:decide (((i%gw:Nat):Int)>0)=FC gw (gw*gh) i 1:=by show _=decide _;rw[iq,iu,iu];omega
 have d2:decide (((i%gw:Nat):Int)<(gw:Int)-1)=FC gw (gw*gh) i 2:=by show _=decide _;rw[iq,iu,iu];omega
 have d3:decide ((i:Int)+gw<(gw*gh:Nat))=FC gw (gw*gh) i 3:=by show _=decide _;rw[iq,iu,iu];omega
 refine yI func256 ?_;refine yA ?_;intro Z ag S;refine pF (C:=λwq=>Gr ag wq) [0,1,2,3,4,5,6,7,8,9,10,11,12,13,14,15,16,17,18,19,20,21,22,23,24,25,26,27,28,29,30,31,32,33,34,35,36,37,38,39,40,41,42] [] (by kernel_rfl) (by kernel_rfl) (Gr.drew _) ?_;simp only[iS,dK,dR];refine y ?_;refine y ?_;refine fo (λwq z=>cV dB rfl rfl ((S.gr z).blk (i:=0) rfl) rfl) ?_;refine y ?_;rw[d0];refine eO (cH rfl) ?_;refine eO (du jA rfl fa rfl rfl) ?_;refine fo (λwq z=>cV dB rfl rfl ((S.gr z).blk (i:=0) rfl) rfl) ?_;refine eO (fh rfl om) ?_;refine eO (kL (pl:=[(0,1),(1,1)]) Zc Z4 (λw=>by kernel_rfl) rfl rfl) ?_;refine eO (cH rfl) ?_;refine eO (du jA rfl fa rfl rfl) ?_;refine fo (λwq z=>cV dB rfl rfl ((S.gr z).blk (i:=0) rfl) rfl) ?_;refine eO (xd rfl rfl om om) ?_;rw[em];refine eO (cH rfl) ?_;rw[d1];refine eO (cH rfl) ?_;refine eO (fh rfl om) ?_;refine eO (kL (pl:=[(0,1),(1,1)]) Zc Z4 (λw=>by kernel_rfl) rfl rfl) ?_;refine eO (cH rfl) ?_;refine eO (du jA rfl fa rfl rfl) ?_;refine fo (λwq z=>cV dB rfl rfl ((S.gr z).blk (i:=0) rfl) rfl) ?_;refine eO (xd rfl rfl om om) ?_;rw[em];refine zQ ?_;rw[d2];refine zQ ?_;rw[d3];refine zQ ?_;refine eO (Ck ZY Z7 zeroValue437 rfl rfl) ?_;refine zE ?_;intro av aq S
 refine dl (λm e w=>∃k:Nat,k+m=4/\SL e [(2,pt Z),(5,ii (yh V i (Cl gw (gw*gh) i k):Nat)),(50,.agg (Tz gw (gw*gh) i).toArray),(51,ii k)]/\yh V i (Cl gw (gw*gh) i k)<gw*gh/\St No W w [.blk Z 227 [ii gw,.slice A (gw*gh) c,.slice B n2 c2]]) 4
  ⟨0,rfl,sl,hi,S⟩ ?_
 clear S d0 d1 d2 d3;rintro m e w ⟨k,hk,ae,L,S⟩;rw[ae.fold];refine zB ?_ ?_
 ·intro hc;have aa:k<4:=om;have z:=MQ (gw:=gw) (n:=gw*gh) (i:=i) k aa;have v:yh V i (Cl gw (gw*gh) i (k+1))=yh V (yh V i (Cl gw (gw*gh) i k)) (Ky gw (gw*gh) i k):=TA _ _ _ _;generalize yh V i (Cl gw (gw*gh) i k)=b at *;rcases QA ad.1 hi k aa with⟨U,a,ha,O,J⟩|⟨U,J⟩
  ·rw[U,ha]at z;rw[J]at v;have D:yh V b [a]=if V.getD a 0<V.getD b 0 then a else b:=rfl;rw[D]at v;by_cases hl:V.getD a 0<V.getD b 0
   ·rw[a7 hl]at v;refine zg ?_;refine cq (rR ZY Zc Z7 rfl rfl rfl om om z) ?_;refine yA ?_;intro _ _ S;refine zD [0,1,2,3,4,5,6,7,8,9,10,11,12,13,14,15] [] ?_;try (refine fO rfl ?_;refine fo (λwq z=>eI cw rfl rfl (hA.gr (S.gr z).out) (I a O)) ?_)
    refine zQ ?_;try (refine fO rfl ?_;refine fo (λwq z=>eI cw rfl rfl (hA.gr (S.gr z).out) (I b L)) ?_)
    refine zE ?_;intro aw ar S;exact⟨m-1,om,k+1,om,⟨rfl,ie (by rw[v]),rfl,ie om,trivial⟩,by rw[v];exact O,S.drop 1⟩
   ·rw[a8 hl]at v;refine zg ?_;refine cq (rR ZY Zc Z7 rfl rfl rfl om om z) ?_;refine zN ?_;intro ab az au S;refine zS ?_;intro al S;refine zD [0,1,2,3,4,5,6,7,8,9,10,11,12,13,14,15] [] ?_;try (refine fO rfl ?_;refine fo (λwq z=>eI cw rfl rfl (hA.gr (S.gr z).out) (I a O)) ?_)
    refine zQ ?_;try (refine fO rfl ?_;refine fo (λwq z=>eI cw rfl rfl (hA.gr (S.gr z).out) (I b L)) ?_)
    refine zE ?_;intro am ah S;exact⟨m-1,om,k+1,om,⟨rfl,ie (by rw[v]),rfl,ie om,trivial⟩,by rw[v];exact L,S.drop 1⟩
  ·rw[U]at z;rw[J]at v;have D:yh V b []=b:=rfl;rw[D]at v;refine zg ?_;refine cq (rR ZY Zc Z7 rfl rfl rfl om om z) ?_;refine zN ?_;intro ab an ai S;refine zS ?_;intro ao S;refine zF [0,1,2,3,4,5,6,7,8,9,10,11,12,13,14,15] [] ?_;intro ap aj S;exact⟨m-1,om,k+1,om,⟨rfl,ie (by rw[v]),rfl,ie om,trivial⟩,by rw[v];exact L,S.drop 1⟩
 ·intro hc;obtain rfl:k=4:=om;have ac:kW gw V i=yh V i (Cl gw (gw*gh) i 4):=by rw[MP];unfold kW;rw[hV]
  rw[<-ac]at *;exact zZ
theorem Wh(i n:Nat)(L:1<=gw)(hi:i<=1048576):Fn prog 121 [.agg #[ii gw,.slice A n c,.slice B n2 c2],ii i] W (dp (.agg #[ii (i%gw:Nat),ii (i/gw:Nat)]) W):=by
 have z:(i:Int)%gw=((i%gw:Nat):Int):=by push_cast;rfl
 have D:(i:Int)/gw=((i/gw:Nat):Int):=by push_cast;rfl
 have S:=St.start W;refine zI func121 ?_;refine zN ?_;intro v O I S;refine zN ?_;intro y U J S;refine zD [0,1,2,3,4,5,6,7] [8,9] ?_;rw[z];refine zQ ?_;rw[D];refine zE ?_;refine zS ?_;intro V S;exact rA S ⟨rfl,S.out⟩
end
def NH(gw gh:Nat)(V:List Int)(mk:Value->Value)(W:World)(v:Value)(w':World):Prop :=
 ∃A1 c1 A2 c2,v=mk (.agg #[ii gw,.slice A1 (gw*gh) c1,.slice A2 (gw*gh) c2])/\gH w' 2 1 A1 (gw*gh) c1 (cY V)/\tr W A1/\gH w' 3 1 A2 (gw*gh) c2 (fB (gw*gh) (kW gw V))/\tr W A2/\(∀g,jv A1 g->¬jv A2 g)/\Gr W w'
section
variable{cap:Nat}
theorem T8(Z:eJ W p gw gh cc A cap bs Rs) :
  Fn prog 189 [pt p] W (NH gw gh (dw gw gh cc) (λl=>.tuple #[l,ii 0]) W):=by
 have hw:=Z.sw;have hh:=Z.sh;have hn:gw*gh<=1024*1024:=cE hw.2 hh.2;have O:((gw:Int)-1)=((gw-1:Nat):Int):=om;have e2:((gh:Int)-1)=((gh-1:Nat):Int):=om
 have ab:∀w,Gr W w->Fn prog 44 [pt p,.agg #[ii 0,ii 0,ii (gw-1),ii (gh-1)]] w (jc (λv=>.tuple #[v,ii 0]) 2 1 (gw*gh) (cY (dw gw gh cc)) w):=λw g=>by
  have:=iz (W:=w) 0 0 (gw-1) (gh-1) om om (Z.gr g);rw[<-O,<-e2,(om:gw-1+1-0=gw),(om:gh-1+1-0=gh),wJ,cD gh gw]at this;exact this
 have hV:=qf gw gh cc;have S:=St.start W;refine zI func189 ?_;refine zN ?_;intro y ar al S;refine zC (mC p gw gh _ _ (Z.top.gr S.out)) ?_;intro au am S;refine zC (uo p gw gh hw.2 hh.2 _ _ (Z.top.gr S.out)) ?_;intro av an S;refine zK (ab _ S.out) ?_;rintro _ aw ⟨D,I,rfl,J,L,ac⟩;have S:=S.pushRow J L ac;refine zg ?_;refine nD YR rN rfl rfl rfl (n:=gw*gh) (c:=gw*gh) om om om om S ?_;intro z az ao S ae;refine zN ?_;intro U aA ap S;refine zS ?_;intro ah S;generalize dw gw gh cc=V at *
 have hz:List.replicate (gw*gh) (ii 0)=fB (gw*gh) (λj=>if j<0 then kW gw V j else 0):=by
  unfold fB;simp only[sP,pW];rw[pd,gk];rfl
 rw[hz]at S
 refine dl (λm e w=>∃k:Nat,k+m=gw*gh/\SL e [(2,pt y),(8,pt U),(33,ii (gw*gh:Nat)),(34,ii k)] /\
  St No W w [.blk U 227 [ii gw,.slice D (gw*gh) I,.slice z (gw*gh) (gw*gh)],.row 3 1 z (gw*gh) (gw*gh) (fB (gw*gh) (λj=>if j<k then kW gw V j else 0)),.row 2 1 D (gw*gh) I (cY V),.blk y 227 [ii 0,.slice none 0 0,.slice none 0 0]]) (gw*gh)
  ⟨0,om,sl,S⟩ ?_
 clear S hz;rintro m e w ⟨k,hk,ad,S⟩;rw[ad.fold];refine zB ?_ ?_
 ·intro hc;have aa:k<gw*gh:=om;have aq:=HI hw.1 hV aa;refine zD [0,1,2,3,4,5] [6,7] ?_;refine zP (λwq hq=>T7 (W:=wq) k ⟨hw.1,om⟩ hV om aa ((S.gr hq).rd (i:=2) rfl)) ?_;refine zE ?_;intro ai ag S;refine jk (i:=1) S rfl (fa _) rfl rfl rfl rfl (by rw[lP];omega) rfl ?_;intro aj S;refine zg ?_
  rw[cG,b7,tH,lq (f':=λj=>if j<k+1 then kW gw V j else 0) (λj hj=>by
   unfold tc;(try dsimp only);by_cases O:j=k
   ·rw[a7 O,a7 om,O]
   ·by_cases e2:j<k
    ·rw[a8 O,a7 e2,a7 om]
    ·rw[a8 O,a8 e2,a8 om])]at S
  exact⟨m-1,om,k+1,om,sl,S⟩
 ·intro hc;obtain rfl:k=gw*gh:=om;rw[lq (f':=kW gw V) (λj hj=>by(try dsimp only);rw[a7 hj])]at S;refine zS ?_;intro ak S;exact pG S ⟨_,_,_,_,rfl,S.row (i:=2) rfl,iC.fresh S (i:=2) rfl,S.row (i:=1) rfl,iC.fresh S (i:=1) rfl,λg hg h2=>S.sep.2.2.2.1 g h2 _ eB hg,S.out⟩
end
def yy(F:Nat->Prop)(W:World)(L L1:List HA)(σ:List Value)(w:World):Prop:=match σ with
 |[]=>St F W w L
 |_::_=>St F W w L1
section
variable{L:List HA}{σ:List Value}
theorem yy.start(S:St F W w L):yy F W L L1 [] w:=S
theorem yy.ok(h:yy F W L L1 σ w){x:HA}(hi:gi L i=some x)(y:gi L1 i=some x):x.ok w:=by
 cases σ with
 |nil=>exact St.ok h hi
 |cons v σ=>exact St.ok h y
theorem yy.blk(h:yy F W L L1 σ w){t:Nat}(hi:gi L i=some (.blk b t l))(v:gi L1 i=some (.blk b t l)):eL w b t l:=h.ok hi v
end
section
variable{ps:String}{L:List HA}
theorem Aj{tb:TypeId}{y:Operand}{o:Nat}{cs:List Value}(S:St F W w L)(hi:gi L i=some (.blk b t l))(hz:(sizeOf tb).run P w=.ok n w)(V:ev e x=.pointer (some ⟨b,o,none⟩))(Z:ev e y=.agg cs.toArray)(I:cs.length=n)(z:lj (l.take o++cs++l.drop (o+n))=some l')(J:((cs.all λv=>v.oneCell')&&Nat.ble (o+n) l.length)=true)(U:j7 L i (.blk b t l')=some L')(O:∀w',St F W w' L'->R undef w'):gI P e ⟨d,.store tb x y,ty,ps,af,none⟩ w R :=
 gu rfl (d8 S hi hz V Z I z J U (λw' D=>O w' D))
end
section
variable{cap:Nat}{V:List Int}
theorem K9(x y:Int)(D:mD gw gh (x,y)=false)(hG:eJ W p gw gh cc A cap bs Rs):Fn prog 120 [pt p,.agg #[ii x,ii y]] W (dp (.tuple #[.agg #[ii 0,.slice none 0 0,.slice none 0 0],ii 0,ii 4]) W):=by
 have I:¬(0<=x/\x<gw/\0<=y/\y<gh):=λh=>by rw[jT.2 h]at D;cases D
 have S:=St.start W;refine zI func120 ?_;refine zN ?_;intro ac ai ae S;refine zN ?_;intro L aj ag S;refine zK (T8 (W:=_) (hG.gr S.out)) ?_;rintro _ ak ⟨J,O,v,z,rfl,hv,Z,aa,V,hd,U⟩;have S:=S.push2 U (h1:=.row 2 1 J _ O _) (h2:=.row 3 1 v _ z _) hv aa Z V hd;refine zN ?_;intro ad al ah S;refine zS ?_;intro am S;refine zC (Fq (W:=_) x y I (hG.gr S.out)) ?_;refine zS ?_;intro ab S;exact qj jA rfl (s4 _) rfl (S.blk (i:=3) rfl) rfl rfl rfl rfl ⟨rfl,S.out⟩
theorem Rk(x y:Nat)(hx:x<gw)(hy:y<gh)(Z:eJ W p gw gh cc A cap bs Rs):Fn prog 120 [pt p,.agg #[ii x,ii y]] W
  (NH gw gh (dw gw gh cc) (λl=>.tuple #[l,ii (y*gw+x:Nat),ii 0]) W):=by
 have hw:=Z.sw;have hh:=Z.sh;have em:(y:Int)*gw=((y*gw:Nat):Int):=by push_cast;rfl
 have ea:((y*gw:Nat):Int)+x=((y*gw+x:Nat):Int):=by push_cast;rfl
 have ag:(y+1)*gw<=gh*gw:=cI _ om;have al:gh*gw<=1024*1024:=cE hh.2 hw.2;rw[cX]at ag;have S:=St.start W;refine zI func120 ?_;refine zN ?_;intro U ao ah S;refine zN ?_;intro J ap ai S;refine zK (T8 (W:=_) (Z.gr S.out)) ?_;rintro _ aq ⟨I,L,v,D,rfl,hv,ac,ae,ab,hd,aa⟩;have S:=S.push2 aa (h1:=.row 2 1 I _ L _) (h2:=.row 3 1 v _ D _) hv ae ac ab hd;refine zN ?_;intro V ar aj S;refine zS ?_;intro au S;refine zC (MI (W:=_) x y hx hy (Z.gr S.out)) ?_;intro av ak S;(iterate 5 refine z ?_);refine zf ?_;refine zc ?_;refine eX rfl ?_;refine zc ?_;refine gO ?_;try show CW _ _ _ _ _ _
 refine zc ?_;refine gP (M:=λe w=>SL e [(4,pt J),(5,ii (y*gw+x:Nat)),(6,ii 0)]/\St No W w [.blk V 227 [ii gw,.slice I (gw*gh) L,.slice v (gw*gh) D],.row 2 1 I (gw*gh) L (cY (dw gw gh cc)),.row 3 1 v (gw*gh) D (fB (gw*gh) (kW gw (dw gw gh cc))),.blk J 227 [ii gw,.slice I (gw*gh) L,.slice v (gw*gh) D],.blk U 26 [ii x,ii y]]) ?_ ?_
 ·skip;refine zH (C:=(yy No W [.blk V 227 [ii gw,.slice I (gw*gh) L,.slice v (gw*gh) D],.row 2 1 I (gw*gh) L (cY (dw gw gh cc)),.row 3 1 v (gw*gh) D (fB (gw*gh) (kW gw (dw gw gh cc))),.blk J 227 [ii 0,.slice none 0 0,.slice none 0 0],.blk U 26 [ii x,ii y]] [.blk V 227 [ii gw,.slice I (gw*gh) L,.slice v (gw*gh) D],.row 2 1 I (gw*gh) L (cY (dw gw gh cc)),.row 3 1 v (gw*gh) D (fB (gw*gh) (kW gw (dw gw gh cc))),.blk J 227 [ii gw,.slice I (gw*gh) L,.slice v (gw*gh) D],.blk U 26 [ii x,ii y]])) [9] [0,1,2,3,4,5,6,7,8,9] [10,11] (yy.start (S.gr (Gr.drew _))) ?_;refine zV (λτ wq O=>(O.blk (i:=0) rfl rfl)) ?_;refine zV (λτ wq O=>(O.blk (i:=4) rfl rfl)) ?_;refine zV (λτ wq O=>(O.blk (i:=0) rfl rfl)) ?_;refine zR ?_;rw[em];refine zV (λτ wq O=>(O.blk (i:=4) rfl rfl)) ?_;refine zR ?_;rw[ea];refine de rfl rfl (λwq O=>Aj (i:=3) O rfl (s4 _) rfl rfl rfl rfl rfl rfl (λw' S'=>S')) ?_;rintro am an _;refine zY ?_;rintro wz hz;have S:St No W wz _:=hz;refine zg ?_;exact⟨sl,S⟩
 ·clear S;rintro e w ⟨ad,S⟩;rw[ad.fold];refine zg ?_;exact qj jA rfl (s4 _) rfl (S.blk (i:=3) rfl) rfl rfl rfl rfl ⟨_,_,_,_,rfl,S.row (i:=1) rfl,iC.fresh S (i:=1) rfl,S.row (i:=2) rfl,iC.fresh S (i:=2) rfl,λg hg=>S.sep.2.2.2.1 g hg _ eB,S.out⟩
end
theorem JT(gw:Nat)(l:List Nat)(j:Nat):eT (l.map (cz gw))++[ii (j%gw:Nat),ii (j/gw:Nat)]=eT ((l++[j]).map (cz gw)):=by simp[eT,cz]
section
variable{cap:Nat}{V:List Int}
theorem OK(i:Nat)(hi:i<gw*gh)(y:eJ W p gw gh cc A cap bs Rs):Fn prog 120 [pt p,.agg #[ii (i%gw:Nat),ii (i/gw:Nat)]] W
  (NH gw gh (dw gw gh cc) (λl=>.tuple #[l,ii i,ii 0]) W):=by
 have v:=y.sw.1;have:=Rk (i%gw) (i/gw) (dt i v) (cS hi) y;rw[show i/gw*gw+i%gw=i by rw[cD];exact dP i gw]at this;exact this
theorem SB(x y:Int)(v:mD gw gh (x,y)=false)(O:eJ W p gw gh cc A cap bs Rs):Fn prog 58 [pt p,.agg #[ii x,ii y]] W (dp (.tuple #[.slice none 0 0,ii 4]) W):=by
 have S:=St.start W;refine zI func58 ?_;refine zN ?_;intro z U I S;refine zC (K9 (W:=_) x y v (O.gr S.out)) ?_;intro V J S;refine zN ?_;intro D Z L S;refine zS ?_;intro aa S;exact nd rfl rfl ⟨rfl,S.out⟩
theorem WN(i k:Nat)(hi:i<gw*gh)(aF:k<gw*gh)(hk:FF (kW gw (dw gw gh cc)) i k)(hG:eJ W p gw gh cc A cap bs Rs):Fn prog 58 [pt p,.agg #[ii (i%gw:Nat),ii (i/gw:Nat)]] W
  (jc (λs=>.tuple #[s,ii 0]) 26 2 (k+1) (eT ((zp (kW gw (dw gw gh cc)) i k).map (cz gw))) W):=by
 have hw:=hG.sw;have hh:=hG.sh;have hV:=qf gw gh cc;have aD:gw*gh<=1024*1024:=cE hw.2 hh.2;have hF:=FG hw.1 hV;have ad:∀i,i<gw*gh->(fB (gw*gh) (kW gw (dw gw gh cc)))[((i:Nat):Int).toNat * 1]?=some (ii (kW gw (dw gw gh cc) i:Nat)):=λi hi=>by rw[cG,b7];exact pT hi
 have ac:=λw(g:Gr W w)=>OK i hi (hG.gr g);generalize dw gw gh cc=V at *;have S:=St.start W;refine zI func58 ?_;refine zN ?_;intro ai aH aw S;refine zK (ac _ S.out) ?_;rintro _ aI ⟨O,U,D,I,rfl,hv,al,ae,ak,hd,aj⟩;have ap:dO D:=ae.someA om;have S:=S.push2 aj (h1:=.row 2 1 O _ U _) (h2:=.row 3 1 D _ I _) hv ae al ak hd;refine zN ?_;intro aa aJ az S;refine zS ?_;intro aK S;refine yb S ?_;intro v aL aA S L;refine zg ?_;generalize aC:kW gw V=f at *
 refine dl (λm e w=>∃(j:Nat)(v:Option Addr)(y:Nat),j+m=k/\SL e [(6,pt aa),(7,ii (xx f j i:Nat)),(9,.slice v (j+1) y)] /\
  St No W w [.row 26 2 v (j+1) y (eT ((zp f i j).map (cz gw))),.blk aa 227 [ii gw,.slice O (gw*gh) U,.slice D (gw*gh) I],.row 2 1 O (gw*gh) U (cY V),.row 3 1 D (gw*gh) I (fB (gw*gh) f),.blk ai 26 [ii (i%gw:Nat),ii (i/gw:Nat)]]) k
  ⟨0,v,1,om,sl,S⟩ ?_
 clear S;rintro m e w ⟨j,v,y,aE,ao,S⟩;rw[ao.fold];have an:=hF.itr_lt hi j;have ar:=hF.itr_lt hi (j+1);have J:=ad _ an;have e1:f (xx f j i)=xx f (j+1) i:=rfl;rw[e1]at J;by_cases am:j<k
 ·have aG:=hk.1 j am;(iterate 3 refine z ?_);refine zx ?_;refine dH (eI dB rfl rfl (S.rd (i:=3) rfl) J) ?_;refine z ?_;refine zt ?_;(iterate 3 refine z ?_);refine zx ?_;refine dH (eI dB rfl rfl (S.rd (i:=3) rfl) J) ?_;refine zC (Wh (W:=w) (xx f (j+1) i) (gw*gh) hw.1 om) ?_;intro aM aB S;refine yb S ?_;intro ah au aq S ag;refine ZP 1 0 S ?_;intro Z ab av S L;refine zg ?_;have S:=S.drop 1;rw[JT,<-MR]at S;exact⟨m-1,om,j+1,Z,ab,om,sl,S⟩
 ·obtain rfl:j=k:=om;have he:=hk.2;rw[he]at J;(iterate 3 refine z ?_);refine zx ?_;refine dH (eI dB rfl rfl (S.rd (i:=3) rfl) J) ?_;refine zX ?_;exact(S.retNew (i:=0) (mk:=λs=>.tuple #[s,ii 0]) rfl)
end
end Go.Proofs.YtceahkcepefcaaaGreatDoor
