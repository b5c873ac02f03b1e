/- A part of the proof that hachuretop.WholeCharts and hachuretop.WholeWater returns true at every input; no condition. -/
import Derived.Test.YtcalhocphkbbgaaGreatDoorKE
import Derived.Shelf.Strconv.Itoa4
import Derived.Shelf.Strconv.ParseIntPublic10
import Derived.Shelf.Strings.Split
import Derived.Shelf.Strings.Prefix
import Derived.Shelf.Strings.OnBuilder
set_option maxRecDepth 100000
set_option maxHeartbeats 16000000
set_option linter.unusedVariables false
set_option linter.unusedSimpArgs false
namespace Go.Proofs.YtcalhocphkbbgaaGreatDoor
open Go.Proofs.Tryz Go.RowKit
variable{Q:(Nat->Value)->World->Prop}{want:Array (String × TypeId)}{af:Array Edge}{ops:Array Oper}{f:FuncId}{h h':HA}{Y a a':Int}{kh kl:IntKind}{L' M:List HA}{hd:List Nat}{l l' xs:List Value}{b c c1 c2 g gh gw i i2 j k m n p p2 pb q t2 tb x0 x1 y0 y1:Nat}{c0 cc:Nat->Int}{bs ns:Nat->Nat}{As:Nat->Option Addr}{Rs:Nat->Option Nat}{F F':Nat->Prop}{e:Nat->Value}{hi lo x:Operand}{A A1 A2 B:Option Addr}{d:Option Tmp}{P:Program}{α β:Type}{t t' ty:TypeId}{u v1 v2 v3:Value}{R:Value->World->Prop}{W w w' wq:World}{C:World->Prop}
section
variable{ps:String}
theorem s9{y:Operand}{b:Int}{B:Bool}(z:ev e x=.int .u64 a)(D:ev e y=.int .u64 b)(v:decide (a>=b)=B):iE P e ⟨d,.binOp .geq t x y t',ty,ps,af,none⟩ (.bool B):=by
 intro w;subst v;simp[gd,execOp,z,D,eqGuard,binOp,Op.intCmp]
theorem vz{y:Operand}{k kd:IntKind}{b c:Int}(z:ev e x=.int k a)(D:ev e y=.int kd b)(I:0<=b)(v:k.wrap (a*2^(min b.toNat k.bits))=c):iE P e ⟨d,.binOp .shl t x y t',ty,ps,af,none⟩ (.int k c):=by
 intro w;subst v;have h1:¬b<0:=om;simp[gd,execOp,z,D,eqGuard,binOp,Op.shift,h1]
theorem wk{i:Operand}{s:ByteArray}{kd:IntKind}{n:Int}{b:UInt8}(z:P.underlying t=some .string)(D:ev e x=.string s)(hi:ev e i=.int kd n)(v:0<=n)(y:s[n.toNat]?=some b):iE P e ⟨d,.index t x i,ty,ps,af,none⟩ (.int .u8 b.toNat):=by
 intro w;simp[gd,execOp,D,hi,Instr.index,asIntOf,dS z,v,y]
end
structure RG where
 lo:Int
 hi:Int
variable{r':RG}
def RG.cells(r:RG):List Value:=[ii r.lo,ii r.hi]
def mE(a b:RG):RG:=⟨min a.lo b.lo,max a.hi b.hi⟩
theorem Fx(a b:RG)(W:World):Fn prog 222 [.agg a.cells.toArray,.agg b.cells.toArray] W (dp (.agg (mE a b).cells.toArray) W):=by
 unfold RG.cells;have S:=St.start W;refine zI func222 ?_;refine zN ?_;intro y L D S;refine zN ?_;intro z O I S;refine zN ?_;intro v U J S;refine zS ?_;intro V S;exact rA S ⟨rfl,S.out⟩
def mY(l:List RG):List Value:=l.flatMap RG.cells
theorem Do(l:List RG):(mY l).length=l.length*2:=lF (f:=RG.cells) (λ_=>rfl) l
theorem Cd:∀{l:List RG}{k:Nat}{r:RG},l[k]?=some r->((mY l).drop (k*2)).take 2=r.cells
 |[],k,r,h=>by cases h
 |r'::l,0,r,h=>by
  obtain rfl:r'=r:=by simpa using h
  rfl
 |r'::l,k+1,r,h=>by
  have ih:=Cd (l:=l) (k:=k) (r:=r) (by simpa using h);unfold mY at *;rw[fe,cX,<-ih];rfl
theorem HG(tb ns cs k v nc cc x y right z:Nat)(As V:Option Addr)(v0 v1:Value)(U:List Value)(l:List RG)(a b:RG)(W:World)(hT:eL W tb 347 [v0,v1,.slice As ns cs])(hS:Rd W As U)(hk:k<ns)(ac:(U.drop (k*2)).take 2=[ii v,.slice V nc cc])(Z:Rd W V (mY l))(am:l.length=nc)(I:v<=1048576)(hx:x<=1048576)(hy:y<=1048576)(hr:right<=1048576)(hb:z<=1048576)(ha:l[y*v+x]?=some a)(J:l[(y+z)*v+x+right]?=some b) :
  Fn prog 223 [pt tb,ii k,ii x,ii y,ii right,ii z] W (dp (.agg (mE a b).cells.toArray) W):=by
 have hi:=(dq.1 ha).1;have hj:=(dq.1 J).1;have ag:dO As:=hS.someA (by rcases U with _|⟨u,U⟩<;>simp_all);have ae:dO V:=Z.someA (by rw[Do];omega);have m1:y*v<=1048576*1048576:=fy hy I;have m2:(y+z)*v<=2097152*1048576:=fy om I;have e1:(y:Int)*v=((y*v:Nat):Int):=by push_cast;rfl
 have e2:((y:Int)+z)*v=(((y+z)*v:Nat):Int):=by push_cast;rfl
 have aa:=Cd ha;have ab:=Cd J;generalize y*v=p at *;generalize (y+z)*v=q at *;have L:((mY l).drop (((p:Int)+x).toNat * 2)).take 2=[ii a.lo,ii a.hi]:=by rw[(om:((p:Int)+x).toNat=p+x)];exact aa
 have O:((mY l).drop (((q:Int)+x+right).toNat * 2)).take 2=[ii b.lo,ii b.hi]:=by rw[(om:((q:Int)+x+right).toNat=q+x+right)];exact ab
 have S:=St.start W;refine zI func223 ?_;refine zN ?_;intro ah an aj S;refine zL (hT.gr S.out) ?_;refine zg ?_;refine ZU (hS.gr S.out) ac ?_;refine zN ?_;intro ai ao ak S;refine zS ?_;intro ad S;refine pF (C:=λwq=>Gr ad wq) [0,1,2,3,4,5,6,7,8,9,10,11,12,13,14,15,16,17,18,19,20,21,22,23] [24,25] (by kernel_rfl) (by kernel_rfl) (Gr.drew _) ?_;simp only[iS,dK,dR];refine eO (du lm rfl t6 rfl rfl) ?_;refine fo (λwq D=>cV kg rfl rfl ((S.gr D).blk (i:=0) rfl) rfl) ?_;refine eO (jx rfl) ?_;refine eO (du lm rfl cR rfl rfl) ?_;refine fo (λwq D=>cV iY rfl rfl ((S.gr D).blk (i:=0) rfl) rfl) ?_;refine eO (fh rfl (by rw[e1];omega)) ?_;rw[e1];refine zQ ?_;refine fo (λwq D=>fb gU rfl (iH _) rfl (Z.gr (S.gr D).out) L rfl rfl) ?_;refine eO (du lm rfl t6 rfl rfl) ?_;refine fo (λwq D=>cV kg rfl rfl ((S.gr D).blk (i:=0) rfl) rfl) ?_;iterate 2 refine eO (jx rfl) ?_
 refine eO (fh rfl om) ?_;refine eO (du lm rfl cR rfl rfl) ?_;refine fo (λwq D=>cV iY rfl rfl ((S.gr D).blk (i:=0) rfl) rfl) ?_;refine eO (fh rfl (by rw[e2];omega)) ?_;rw[e2];refine zQ ?_;refine fo (λwq D=>fb gU rfl (iH _) rfl (Z.gr (S.gr D).out) O rfl rfl) ?_;refine zE ?_;intro ap al S;refine zC (Fx a b _) ?_;refine zS ?_;intro aq S;exact rA S ⟨rfl,S.out⟩
open Go.Shelf
def Ya:Ren where
 f:=λn=>match n with|146=>290|221=>303|268=>319|138=>320|143=>321|195=>334|197=>335|218=>336|219=>337|260=>350|217=>351|225=>341|224=>340|267=>352|266=>360|314=>361|n=>n
 t:=λn=>match n with|9=>9|31=>38|3=>3|4=>4|0=>0|105=>485|21=>21|5=>5|46=>355|119=>504|139=>507|138=>506|146=>409|51=>173|n=>n
 g:=λn=>match n with|1=>3|3=>6|4=>7|n=>n
theorem Yb:Lays.n146 Tryz.prog Ya where
 mixed:=rfl
 f138:=Tryz.func320.trans rfl;f143:=Tryz.func321.trans rfl;f146:=Tryz.func290.trans rfl;f195:=Tryz.func334.trans rfl;f197:=Tryz.func335.trans rfl;f217:=Tryz.func351.trans rfl;f218:=Tryz.func336.trans rfl;f219:=Tryz.func337.trans rfl;f221:=Tryz.func303.trans rfl;f224:=Tryz.func340.trans rfl;f225:=Tryz.func341.trans rfl;f260:=Tryz.func350.trans rfl;f266:=Tryz.func360.trans rfl;f267:=Tryz.func352.trans rfl;f268:=Tryz.func319.trans rfl;f314:=Tryz.func361.trans rfl;t0:=oV;a0:=tv;z0:=ss;v0:=ph;t3:=la;a3:=qt;z3:=pN;v3:=mW;t4:=my;a4:=qr;z4:=pM;v4:=mV;t5:=mw;a5:=tu;z5:=sr;v5:=pg;t9:=jC;a9:=qq;z9:=ld;v9:=mU;t21:=qO;a21:=Tryz.isAgg21;z21:=Tryz.sizeOf21;v21:=Tryz.zeroValue21;t31:=lD;a31:=Tryz.isAgg38;z31:=Tryz.sizeOf38;v31:=Tryz.zeroValue38;t46:=sZ;a46:=Hb;z46:=Bm;v46:=t8;t51:=s6;a51:=Hu;z51:=Bn;v51:=ub;t105:=Tryz.underlying485;a105:=Tryz.isAgg485;z105:=Tryz.sizeOf485;v105:=Tryz.zeroValue485;t119:=Tryz.underlying504;a119:=Tryz.isAgg504;z119:=Tryz.sizeOf504;t138:=Tryz.underlying506;a138:=Tryz.isAgg506;z138:=Tryz.sizeOf506;v138:=Tryz.zeroValue506;t139:=Tryz.underlying507;a139:=Tryz.isAgg507;z139:=Tryz.sizeOf507;v139:=Tryz.zeroValue507;t146:=Tryz.underlying409;a146:=Tryz.isAgg409;z146:=Tryz.sizeOf409;v146:=Tryz.zeroValue409;g1:=by decide+kernel
 g3:=by decide+kernel
 g4:=by decide+kernel
def Pw:Ren where
 f:=λn=>match n with|156=>245|165=>287|166=>288|169=>153|240=>235|241=>302|276=>283|277=>318|n=>n
 t:=λn=>match n with|31=>38|9=>9|3=>3|4=>4|0=>0|20=>20|72=>269|76=>274|70=>267|37=>37|75=>273|127=>367|164=>420|5=>5|80=>276|n=>n
 g:=λn=>n
theorem Px:Lays.n156 Tryz.prog Pw where
 mixed:=rfl
 f156:=Tryz.func245.trans rfl;f165:=Tryz.func287.trans rfl;f166:=Tryz.func288.trans rfl;f169:=Tryz.func153.trans rfl;f240:=Tryz.func235.trans rfl;f241:=Tryz.func302.trans rfl;f276:=Tryz.func283.trans rfl;f277:=Tryz.func318.trans rfl;t0:=oV;a0:=tv;z0:=ss;v0:=ph;t3:=la;a3:=qt;z3:=pN;v3:=mW;t4:=my;a4:=qr;z4:=pM;v4:=mV;t9:=jC;a9:=qq;z9:=ld;v9:=mU;t20:=qP;a20:=uZ;z20:=uj;v20:=rK;t31:=lD;a31:=Tryz.isAgg38;z31:=Tryz.sizeOf38;v31:=Tryz.zeroValue38;t37:=qD;a37:=KI;z37:=Ha;v37:=uW;t70:=Tryz.underlying267;a70:=Tryz.isAgg267;z70:=Tryz.sizeOf267;v70:=Tryz.zeroValue267;t72:=Tryz.underlying269;a72:=Tryz.isAgg269;z72:=Tryz.sizeOf269;v72:=Tryz.zeroValue269;t75:=Tryz.underlying273;a75:=Tryz.isAgg273;z75:=Tryz.sizeOf273;v75:=Tryz.zeroValue273;t76:=Tryz.underlying274;a76:=Tryz.isAgg274;z76:=Tryz.sizeOf274;v76:=Tryz.zeroValue274;t127:=Tryz.underlying367;a127:=Tryz.isAgg367;z127:=Tryz.sizeOf367;v127:=Tryz.zeroValue367;t164:=Tryz.underlying420;a164:=Tryz.isAgg420;z164:=Tryz.sizeOf420;v164:=Tryz.zeroValue420
def Yc:Ren where
 f:=λn=>match n with|101=>331|208=>347|206=>354|n=>n
 t:=λn=>match n with|9=>9|4=>4|3=>3|n=>n
 g:=λn=>n
theorem Yd:Lays.n101 Tryz.prog Yc where
 mixed:=rfl
 f101:=Tryz.func331.trans rfl;f206:=Tryz.func354.trans rfl;f208:=Tryz.func347.trans rfl;t3:=la;a3:=qt;z3:=pN;v3:=mW;t4:=my;a4:=qr;z4:=pM;v4:=mV;t9:=jC;a9:=qq;z9:=ld;v9:=mU
def Ye:Ren where
 f:=λn=>match n with|173=>285|246=>300|283=>313|284=>314|285=>315|286=>316|129=>262|317=>327|318=>328|319=>329|320=>330|337=>345|338=>346|n=>n
 t:=λn=>match n with|2=>2|3=>3|9=>9|4=>4|171=>461|0=>0|53=>281|37=>37|5=>5|173=>463|212=>478|51=>173|20=>20|213=>479|46=>355|232=>495|233=>496|n=>n
 g:=λn=>match n with|17=>2|18=>4|19=>5|n=>n
theorem Yf:Lays.n173 Tryz.prog Ye where
 mixed:=rfl
 f129:=Tryz.func262.trans rfl;f173:=Tryz.func285.trans rfl;f246:=Tryz.func300.trans rfl;f283:=Tryz.func313.trans rfl;f284:=Tryz.func314.trans rfl;f285:=Tryz.func315.trans rfl;f286:=Tryz.func316.trans rfl;f317:=Tryz.func327.trans rfl;f318:=Tryz.func328.trans rfl;f319:=Tryz.func329.trans rfl;f320:=Tryz.func330.trans rfl;f337:=Tryz.func345.trans rfl;f338:=Tryz.func346.trans rfl;t0:=oV;a0:=tv;z0:=ss;v0:=ph;t2:=rL;a2:=qv;z2:=Tryz.sizeOf2;v2:=Tryz.zeroValue2;t3:=la;a3:=qt;z3:=pN;v3:=mW;t4:=my;a4:=qr;z4:=pM;v4:=mV;t5:=mw;a5:=tu;z5:=sr;v5:=pg;t9:=jC;a9:=qq;z9:=ld;v9:=mU;t20:=qP;a20:=uZ;z20:=uj;v20:=rK;t37:=qD;a37:=KI;z37:=Ha;v37:=uW;t46:=sZ;a46:=Hb;z46:=Bm;v46:=t8;t51:=s6;a51:=Hu;z51:=Bn;v51:=ub;t53:=Tryz.underlying281;a53:=Tryz.isAgg281;z53:=Tryz.sizeOf281;v53:=Tryz.zeroValue281;t171:=Tryz.underlying461;a171:=Tryz.isAgg461;z171:=Tryz.sizeOf461;v171:=Tryz.zeroValue461;t173:=Tryz.underlying463;a173:=Tryz.isAgg463;z173:=Tryz.sizeOf463;v173:=Tryz.zeroValue463;t212:=Tryz.underlying478;a212:=Tryz.isAgg478;z212:=Tryz.sizeOf478;v212:=Tryz.zeroValue478;t213:=Tryz.underlying479;a213:=Tryz.isAgg479;z213:=Tryz.sizeOf479;t232:=Tryz.underlying495;a232:=Tryz.isAgg495;z232:=Tryz.sizeOf495;v232:=Tryz.zeroValue495;t233:=Tryz.underlying496;a233:=Tryz.isAgg496;z233:=Tryz.sizeOf496;v233:=Tryz.zeroValue496;g17:=by decide+kernel
 g18:=by decide+kernel
 g19:=by decide+kernel
def Yg:Ren where
 f:=λn=>match n with|174=>333|247=>348|245=>349|287=>355|279=>356|280=>357|281=>358|282=>359|321=>362|322=>363|316=>364|171=>366|205=>365|243=>367|246=>300|283=>313|284=>314|285=>315|286=>316|129=>262|317=>327|318=>328|319=>329|320=>330|337=>345|338=>346|n=>n
 t:=λn=>match n with|9=>9|3=>3|2=>2|75=>273|85=>483|4=>4|167=>498|5=>5|53=>281|175=>499|46=>355|168=>501|37=>37|0=>0|210=>512|21=>21|127=>367|145=>516|143=>514|171=>461|173=>463|212=>478|51=>173|20=>20|213=>479|232=>495|233=>496|80=>276|n=>n
 g:=λn=>match n with|15=>8|16=>9|17=>2|18=>4|19=>5|n=>n
theorem Yh:LaysC.n174 Tryz.prog Yg where
 mixed:=rfl
 f129:=Tryz.func262.trans rfl;f171:=Tryz.func366.trans rfl;f174:=Tryz.func333.trans rfl;f205:=Tryz.func365.trans rfl;f243:=Tryz.func367.trans rfl;f245:=Tryz.func349.trans rfl;f246:=Tryz.func300.trans rfl;f247:=Tryz.func348.trans rfl;f279:=Tryz.func356.trans rfl;f280:=Tryz.func357.trans rfl;f281:=Tryz.func358.trans rfl;f282:=Tryz.func359.trans rfl;f283:=Tryz.func313.trans rfl;f284:=Tryz.func314.trans rfl;f285:=Tryz.func315.trans rfl;f286:=Tryz.func316.trans rfl;f287:=Tryz.func355.trans rfl;f316:=Tryz.func364.trans rfl;f317:=Tryz.func327.trans rfl;f318:=Tryz.func328.trans rfl;f319:=Tryz.func329.trans rfl;f320:=Tryz.func330.trans rfl;f321:=Tryz.func362.trans rfl;f322:=Tryz.func363.trans rfl;f337:=Tryz.func345.trans rfl;f338:=Tryz.func346.trans rfl;t0:=oV;a0:=tv;z0:=ss;v0:=ph;t2:=rL;a2:=qv;z2:=Tryz.sizeOf2;v2:=Tryz.zeroValue2;t3:=la;a3:=qt;z3:=pN;v3:=mW;t4:=my;a4:=qr;z4:=pM;v4:=mV;t5:=mw;a5:=tu;z5:=sr;v5:=pg;t9:=jC;a9:=qq;z9:=ld;v9:=mU;t20:=qP;a20:=uZ;z20:=uj;v20:=rK;t21:=qO;a21:=Tryz.isAgg21;z21:=Tryz.sizeOf21;v21:=Tryz.zeroValue21;t37:=qD;a37:=KI;z37:=Ha;v37:=uW;t46:=sZ;a46:=Hb;z46:=Bm;v46:=t8;t51:=s6;a51:=Hu;z51:=Bn;v51:=ub;t53:=Tryz.underlying281;a53:=Tryz.isAgg281;z53:=Tryz.sizeOf281;v53:=Tryz.zeroValue281;t75:=Tryz.underlying273;a75:=Tryz.isAgg273;z75:=Tryz.sizeOf273;v75:=Tryz.zeroValue273;t85:=Tryz.underlying483;a85:=Tryz.isAgg483;z85:=Tryz.sizeOf483;v85:=Tryz.zeroValue483;t127:=Tryz.underlying367;a127:=Tryz.isAgg367;z127:=Tryz.sizeOf367;v127:=Tryz.zeroValue367;t143:=Tryz.underlying514;a143:=Tryz.isAgg514;z143:=Tryz.sizeOf514;v143:=Tryz.zeroValue514;t145:=Tryz.underlying516;a145:=Tryz.isAgg516;z145:=Tryz.sizeOf516;v145:=Tryz.zeroValue516;t167:=Tryz.underlying498;a167:=Tryz.isAgg498;z167:=Tryz.sizeOf498;v167:=Tryz.zeroValue498;t168:=Tryz.underlying501;a168:=Tryz.isAgg501;z168:=Tryz.sizeOf501;v168:=Tryz.zeroValue501;t171:=Tryz.underlying461;a171:=Tryz.isAgg461;z171:=Tryz.sizeOf461;v171:=Tryz.zeroValue461;t173:=Tryz.underlying463;a173:=Tryz.isAgg463;z173:=Tryz.sizeOf463;v173:=Tryz.zeroValue463;t175:=Tryz.underlying499;a175:=Tryz.isAgg499;z175:=Tryz.sizeOf499;v175:=Tryz.zeroValue499;t210:=Tryz.underlying512;a210:=Tryz.isAgg512;z210:=Tryz.sizeOf512;v210:=Tryz.zeroValue512;t212:=Tryz.underlying478;a212:=Tryz.isAgg478;z212:=Tryz.sizeOf478;v212:=Tryz.zeroValue478;t213:=Tryz.underlying479;a213:=Tryz.isAgg479;z213:=Tryz.sizeOf479;t232:=Tryz.underlying495;a232:=Tryz.isAgg495;z232:=Tryz.sizeOf495;v232:=Tryz.zeroValue495;t233:=Tryz.underlying496;a233:=Tryz.isAgg496;z233:=Tryz.sizeOf496;v233:=Tryz.zeroValue496;g15:=by decide+kernel
 g16:=by decide+kernel
 g17:=by decide+kernel
 g18:=by decide+kernel
 g19:=by decide+kernel
 t80:=Tryz.underlying276;a80:=Tryz.isAgg276;z80:=Tryz.sizeOf276;v80:=Tryz.zeroValue276;i0:=rfl;i2:=rfl;i3:=rfl;i4:=rfl;i5:=rfl;i9:=rfl;i20:=rfl;i21:=rfl;i37:=rfl;i46:=rfl;i51:=rfl;i53:=rfl;i75:=rfl;i80:=rfl;i85:=rfl;i127:=rfl;i143:=rfl;i145:=rfl;i167:=rfl;i168:=rfl;i171:=rfl;i173:=rfl;i175:=rfl;i210:=rfl;i212:=rfl;i232:=rfl;i233:=rfl;m15:=by decide+kernel
 m16:=by decide+kernel
 m17:=by decide+kernel
 m18:=by decide+kernel
 m19:=by decide+kernel
 c0:=rfl;c2:=rfl;c3:=rfl;c4:=rfl;c5:=rfl;c9:=rfl;c20:=rfl;c21:=rfl;c37:=rfl;c46:=rfl;c51:=rfl;c53:=rfl;c75:=rfl;c80:=rfl;c85:=rfl;c127:=rfl;c143:=rfl;c145:=rfl;c167:=rfl;c168:=rfl;c171:=rfl;c173:=rfl;c175:=rfl;c210:=rfl;c212:=rfl;c213:=rfl;c232:=rfl;c233:=rfl
theorem Py:Builder.Extra Tryz.prog Pw where
 sizeBuilder:=rfl
 liesBuilder:=by decide+kernel
 t5:=mw;a5:=tu;z5:=sr;v5:=pg;infoByte:=rfl;cellsByte:=rfl;sizeByte:=rfl;neB5:=by decide
def HA.it(r:Nat)(s:ByteArray)(p:Nat):HA:=⟨λg=>g=r,λw=>w.heap[r]?=some (.stringIter s p),λ_ _ h _ hB=>(h r rfl).trans hB,λ_ hB g hg=>hg▸(jq.1 hB).1⟩
section
variable{rest:List Oper}{ps:String}{L:List HA}
theorem yu{y:Operand}{a b:ByteArray}{B:Bool}(z:ev e x=.string a)(D:ev e y=.string b)(v:(a.toList==b.toList)=B):iE P e ⟨d,.binOp .eql t x y t',ty,ps,af,none⟩ (.bool B):=by
 intro w;subst v;simp[gd,execOp,z,D,eqGuard,binOp,Op.stringOp]
theorem Jp{y:Operand}{a b:ByteArray}{B:Bool}(z:ev e x=.string a)(D:ev e y=.string b)(v:(!(a.toList==b.toList))=B):iE P e ⟨d,.binOp .neq t x y t',ty,ps,af,none⟩ (.bool B):=by
 intro w;subst v;simp[gd,execOp,z,D,eqGuard,binOp,Op.stringOp]
theorem uz{y:Operand}{k:IntKind}{b:Int}{B:Bool}(z:ev e x=.int k a)(D:ev e y=.int k b)(v:decide (a<b)=B):iE P e ⟨d,.binOp .lss t x y t',ty,ps,af,none⟩ (.bool B):=by
 intro w;subst v;simp[gd,execOp,z,D,eqGuard,binOp,Op.intCmp]
theorem qA{y:Operand}{k:IntKind}{b:Int}{B:Bool}(z:ev e x=.int k a)(D:ev e y=.int k b)(v:decide (a>b)=B):iE P e ⟨d,.binOp .gtr t x y t',ty,ps,af,none⟩ (.bool B):=by
 intro w;subst v;simp[gd,execOp,z,D,eqGuard,binOp,Op.intCmp]
theorem V4(z:P.underlying t=some (.interface want))(D:ev e x=.nilIface):iE P e ⟨d,.binOp .eql t x (.const .nilIface) t',ty,ps,af,none⟩ (.bool true):=by
 intro w;have h2:ev e (.const .nilIface)=.nilIface:=rfl
 have v:∀n:Nat,(Op.equalIn (n+1) t .nilIface .nilIface).run P w=.ok true w:=λn=>by
  unfold Op.equalIn;simp[dS z]
 have y:(Op.equal t .nilIface .nilIface).run P w=.ok true w:=v 9999;simp[gd,execOp,D,h2,eqGuard,binOp,y]
theorem Pz(z:P.underlying t=some (.interface want))(D:ev e x=.nilIface):iE P e ⟨d,.binOp .neq t x (.const .nilIface) t',ty,ps,af,none⟩ (.bool false):=by
 intro w;have h2:ev e (.const .nilIface)=.nilIface:=rfl
 have v:∀n:Nat,(Op.equalIn (n+1) t .nilIface .nilIface).run P w=.ok true w:=λn=>by
  unfold Op.equalIn;simp[dS z]
 have y:(Op.equal t .nilIface .nilIface).run P w=.ok true w:=v 9999;simp[gd,execOp,D,h2,eqGuard,binOp,y,asBool]
theorem Ab{s:ByteArray}(v:P.underlying t=some .string)(y:ev e x=.string s):iE P e ⟨d,.call ⟨.builtin .len,#[x],#[t]⟩,ty,ps,af,none⟩ (ii s.size):=by
 intro w;simp[gd,execOp,y,resolve,invoke,builtin,Builtin.len_,dS v,goInt]
theorem PA{s:ByteArray}{m n:Int}(I:P.underlying t=some .string)(J:ev e x=.string s)(D:ev e lo=.int kl m)(z:ev e hi=.int kh n)(y:0<=m)(h1:m<=n)(h2:n<=s.size) :
  iE P e ⟨d,.slice t x (some lo) (some hi) none,ty,ps,af,none⟩ (.string (s.extract m.toNat n.toNat)):=by
 intro w;have v:(n.toNat:Int)=n:=Int.toNat_of_nonneg om;simp[gd,execOp,J,D,z,Instr.sliceAt,Instr.slice,dS I,Instr.sliceBounds,j0,v,y,h1,h2,(by omega:0<=n)]
theorem TR{s:ByteArray}{m:Int}(z:P.underlying t=some .string)(D:ev e x=.string s)(y:ev e lo=.int kl m)(v:0<=m)(h1:m<=s.size) :
  iE P e ⟨d,.slice t x (some lo) none none,ty,ps,af,none⟩ (.string (s.extract m.toNat s.size)):=by
 intro w;simp[gd,execOp,D,y,Instr.sliceAt,Instr.slice,dS z,Instr.sliceBounds,j0,v,h1]
theorem Nk{s:ByteArray}(S:St F W w L)(D:P.underlying t=some .string)(I:ev e x=.string s)(z:∀r w',Gr w w'->St F W w' (.it r s 0::L)->RW P ops Q rest (fI e d (pt r)) w') :
  RW P ops Q (⟨d,.range t x,ty,ps,af,none⟩::rest) e w:=by
 refine wZ (v:=pt w.heap.size) (w':=w.alloc (.stringIter s 0)) ?_ (z _ _ (Gr.alloc w _) ?_)
 ·simp[execOp,I,Instr.range,dS D,go_sem]
 ·exact S.push (Gr.alloc w _) (h:=.it w.heap.size s 0) (nH w _) (λg y=>by rw[y];exact fK _)
theorem Rb{r:Nat}{s:ByteArray}{b:UInt8}(S:St F W w L)(hi:gi L i=some (.it r s p))(hx:ev e x=.pointer (some ⟨r,0,none⟩))(y:s[p]?=some b)(hc:b.toNat<128)(hs:j7 L i (.it r s (p+1))=some L')(Z:∀w',St F W w' L'→RW P ops Q rest (fI e d (.tuple #[.bool true,.int .i64 p,.int .i32 b.toNat])) w'):RW P ops Q (⟨d,.next x true,ty,ps,af,none⟩::rest) e w:=by
  have I:w.heap[r]?=some (.stringIter s p):=S.ok hi;have O:r<w.heap.size:=(jq.1 I).1;have J:(getObj r).run P w=.ok (.stringIter s p) w:=by simp[getObj,Sem.run,I]
  have U:(setObj r (.stringIter s (p+1))).run P w=.ok () { w with heap:=w.heap.setIfInBounds r (.stringIter s (p+1)) }:=by simp[setObj,Sem.run,I]
  have D:p<s.size:=by
    rcases eV p s.size with h|h
    · exact h
    · rw[getElem?_neg _ _ om]at y;cases y
  have hd:Utf8.decode s p=(b.toNat,1):=by
    have h1:s.get! (p+0)=b:=by
      rw[eW];have:s[p]?=some (s[p]'D):=getElem?_pos s p D;rw[this]at y;injection y with y;rw[←y];show s.data[p]! =s.data[p];exact getElem!_pos s.data p D
    unfold Utf8.decode;simp only[h1];rw[a7 om]
  refine wZ (v:=.tuple #[.bool true,.int .i64 p,.int .i32 b.toNat]) (w':={ w with heap:=w.heap.setIfInBounds r (.stringIter s (p+1)) }) ?_ (Z _ (S.set (F':=λg=>g=r) hi hs ⟨rfl,rfl,rfl,by simp,λg z V=>?_⟩ (λg z=>.inl z) ?_ (λg z=>.inl z)))
  · simp[execOp,hx,Instr.next,J,D,hd,goInt,U]
  · simp only[oh]
    rw[a8 (λe=>V e.symm)]
  · show _=_
    simp[O]
theorem Re{r:Nat}{s:ByteArray}(S:St F W w L)(hi:gi L i=some (.it r s p))(J:ev e x=pt r)(D:s.size<=p)(I:RW P ops Q rest (fI e d (.tuple #[.bool false])) w):RW P ops Q (⟨d,.next x true,ty,ps,af,none⟩::rest) e w:=by
 have z:w.heap[r]?=some (.stringIter s p):=S.ok hi;have y:(getObj r).run P w=.ok (.stringIter s p) w:=by simp[getObj,Sem.run,z]
 refine wZ (v:=.tuple #[.bool false]) (w':=w) ?_ I;simp[execOp,J,Instr.next,y,Nat.not_lt.2 D]
end
theorem Xh(w:World)(t:TypeId)(s:ByteArray):Gr w (Lib.bytesWorld w t s):=Lib.bytesWorld_below _ _ _
theorem TS(s y:ByteArray){l:List ByteArray}{m:Int}(L:s.size<4294967281)(J:w.cell? ⟨3,0,none⟩=some (ii m))(h1:1<=y.size)(I:Lib.splitB y 0 (Lib.countB s y) s=l) :
  Fn prog 290 [.string s,.string y] w (λv w'=>v=.slice (some ⟨w.heap.size,0,none⟩) l.length l.length/\w'=w.alloc (.cells (l.map Value.string).toArray 9)):=by
 subst I;have z:=Lib.splitB_all y h1 0 _ s rfl;rw[z];exact jM (by kernel_rfl) ((Any.strings_Split Yb rfl s y m w L J h1).mono λe w'⟨D,hw⟩=>⟨D,hw⟩)
theorem Xi(i:Nat)(hi:i<100){s:ByteArray}(h:(⟨(Lib.decDigits i).toArray⟩:ByteArray)=s):Fn prog 285 [ii i,ii 10] W (dp (.string s) W):=by
 subst h;exact jM (by kernel_rfl) ((Any.strconv_FormatInt_10_small Yf i hi W).mono λe w'⟨v,hw⟩=>⟨v,hw▸Gr.refl W⟩)
theorem V5(s p:ByteArray){r:ByteArray}(h:(⟨(Lib.trimPrefix s.data.toList p.data.toList).toArray⟩:ByteArray)=r):Fn prog 331 [.string s,.string p] W (dp (.string r) W):=by
 subst h;exact jM (by kernel_rfl) ((Any.strings_TrimPrefix Yd s p W).mono λe w'⟨v,hw⟩=>⟨v,hw▸Gr.refl W⟩)
theorem PB(s:ByteArray){v:Int}(z:s.size<=1000)(h:Lib.parseIntB 64 s.data.toList=.ok v):Fn prog 333 [.string s,ii 10,ii 64] W (dp (.tuple #[ii v,.nilIface]) W):=by
 refine jM (by kernel_rfl) ((Any.strconv_ParseInt_10_at64_ok Yh s om v h W).mono λe w'⟨y,hw⟩=>⟨y,?_⟩);rcases hw with rfl|⟨t,rfl⟩
 ·exact Gr.refl _
 ·exact Xh _ _ _
theorem Rf{o:Nat}{x v:ByteArray}(y:W.cell? ⟨b,o,none⟩=some (.string x)):Fn prog 245 [.slice (some ⟨b,o,none⟩) 1 c,.string v] W (dp (.string x) W) :=
 jM (by kernel_rfl) ((Any.strings_Join_one Px Py b o c x v W y).mono λe w'⟨z,hw⟩=>⟨z,hw▸Gr.refl W⟩)
theorem TT{o:Nat}{xs:List ByteArray}{v r:ByteArray}(D:∀(j:Nat)x,xs[j]?=some x->W.cell? ⟨b,o+j,none⟩=some (.string x))(z:b<W.heap.size)(O:xs.length<=1000)(y:xs.length<=c)(L:(⟨(Lib.join (xs.map (·.data.toList)) v.data.toList).toArray⟩:ByteArray)=r)(J:r.size<=100000):Fn prog 245 [.slice (some ⟨b,o,none⟩) xs.length c,.string v] W (dp (.string r) W):=by
 subst L;exact jM (by kernel_rfl) ((Any.strings_Join Px Py b o c xs v W D z om y (dE (show(Lib.join (xs.map (·.data.toList)) v.data.toList).length<=100000 by simpa [ByteArray.size]using J) (by decide))).mono λe w'⟨I,hw⟩=>⟨I,hw⟩)
structure Dg(s:ByteArray)(v:Nat):Prop where
 lt:v<100
 dec:(⟨(Lib.decDigits v).toArray⟩:ByteArray)=s
 par:Lib.parseIntB 64 s.data.toList=.ok v
 trim:(⟨(Lib.trimPrefix s.data.toList [45]).toArray⟩:ByteArray)=s
 pos:0<s.size
 le:s.size<=100
 dig:∀b∈s.data.toList,48<=b.toNat/\b.toNat<=57
 zero:s[0]?=some 48->s.size=1
theorem H6{s:ByteArray}{v:Nat}(h:Dg s v):Fn prog 239 [ii v] W (dp (.string s) W):=by
 have S:=St.start W;refine zI func239 ?_;refine zC (Xi v h.lt h.dec) ?_;intro z y S;exact zZ
theorem Ga{s:ByteArray}(h:∀b∈s.data.toList,48<=b.toNat/\b.toNat<=57):Fn prog 332 [.string s] W (dp (ii s.size) W):=by
 have S:=St.start W;refine zI func332 ?_;refine zg ?_;refine Nk S fk rfl ?_;intro r J D S;refine zg ?_;refine dl (λm e w=>∃p:Nat,p+m=s.size/\SL e [(0,.string s),(6,pt r)]/\St No W w [.it r s p]) s.size ⟨0,om,sl,S⟩ ?_;clear S;rintro m e L ⟨p,I,y,S⟩;rw[y.fold];by_cases v:p<s.size
 ·have z:s[p]?=some s[p]:=getElem?_pos s p v;have hd:=h s[p] (Array.getElem_mem_toList _);generalize s[p]=b at z hd;refine zg ?_;refine Rb (i:=0) S rfl rfl z om rfl ?_;intro O S;refine zg ?_;refine dU (uz rfl rfl (iO om)) ?_;refine zg ?_;refine dr rfl ?_;refine dU (qA rfl rfl (iO om)) ?_;refine zg ?_;exact⟨m-1,om,p+1,om,sl,S⟩
 ·obtain rfl:p=s.size:=om;refine zg ?_;refine Re (i:=0) S rfl rfl (fK _) ?_;refine zg ?_;refine dU (Ab fk rfl) ?_;exact zZ
theorem TU{s:ByteArray}{v:Nat}(h:Dg s v):Fn prog 317 [.string s,ii 0] W (dp (.tuple #[ii v,ii s.size,ii 0]) W):=by
 have J:s.extract 0 s.size=s:=by simp
 have z:=h.pos;have ac:=h.le;have ab:=h.dig;have S:=St.start W;refine zI func317 ?_;refine zg ?_;refine dr rfl ?_;refine dU (Ab fk rfl) ?_;refine zg ?_;refine dU (TR fk rfl rfl (by decide) om) ?_;rw[show s.extract (0:Int).toNat s.size=s from J];refine zC (V5 s ⟨#[45]⟩ h.trim) ?_;intro ad L S;refine zg ?_;refine dU (Ab fk rfl) ?_;refine zg ?_;refine dU (Ab fk rfl) ?_;refine zg ?_;obtain⟨b,I⟩:∃b,s[0]?=some b:=⟨_,getElem?_pos s 0 z⟩;have hz:b=48->s.size=1:=λe=>h.zero (by rw[I,e])
 have D:s.extract (0:Int).toNat ((0+((s.size:Int)-0-s.size)+s.size:Int)).toNat=s:=by
  rw[(om:((0+((s.size:Int)-0-s.size)+s.size:Int)).toNat=s.size)];exact J
 by_cases y:b=48
 ·have h1:=hz y;subst y;refine zC (Ga h.dig) ?_;intro ae O S;refine zg ?_;refine dr rfl ?_;refine dU (wk (n:=0) (b:=48) fk rfl rfl (by decide) I) ?_;refine dr rfl ?_;refine dU (jx (v:=.bool true) rfl) ?_;refine zg ?_;refine dU (PA fk rfl rfl rfl (by decide) om om) ?_;rw[D];refine zC (PB s om h.par) ?_;intro ag U S;refine zg ?_;refine dU (Pz underlying273 rfl) ?_;refine zX ?_;exact⟨by rw[(om:(0+((s.size:Int)-0-s.size)+s.size:Int)=s.size)],S.out⟩
 ·have aa:¬((b.toNat:Int)=48):=λe=>y (UInt8.toNat_inj.1 (by show b.toNat=48;omega));refine zC (Ga h.dig) ?_;intro ah V S;refine zg ?_;refine dr rfl ?_;refine dU (wk (n:=0) (b:=b) fk rfl rfl (by decide) I) ?_;refine zg ?_;refine dU (PA fk rfl rfl rfl (by decide) om om) ?_;rw[D];refine zC (PB s om h.par) ?_;intro ai Z S;refine zg ?_;refine dU (Pz underlying273 rfl) ?_;refine zX ?_;exact⟨by rw[(om:(0+((s.size:Int)-0-s.size)+s.size:Int)=s.size)],S.out⟩
theorem TV{s:ByteArray}{v:Nat}(h:Dg s v):Fn prog 301 [.string s] W (dp (.tuple #[ii v,ii 0]) W):=by
 have z:=h.le;have S:=St.start W;refine zI func301 ?_;refine zC (TU h) ?_;intro D y S;refine zg ?_;refine dU (Ab fk rfl) ?_;exact zZ
theorem BI{s:ByteArray}{v:Nat}(h:Dg s v):Fn prog 286 [.string s] W (dp (ii v) W):=by
 have S:=St.start W;refine zI func286 ?_;refine zC (TV h) ?_;intro z y S;exact zZ
theorem Nl:Dg ⟨#[48]⟩ 0:=by constructor<;>decide+kernel
theorem V7:Dg ⟨#[49]⟩ 1:=by constructor<;>decide+kernel
theorem V8:Dg ⟨#[50]⟩ 2:=by constructor<;>decide+kernel
theorem V9:Dg ⟨#[53]⟩ 5:=by constructor<;>decide+kernel
theorem Wa:Dg ⟨#[55]⟩ 7:=by constructor<;>decide+kernel
theorem Yi:Dg ⟨#[49,50]⟩ 12:=by constructor<;>decide+kernel
structure RV where
 x0:Int
 y0:Int
 x1:Int
 y1:Int
 deriving DecidableEq
def RV.cells(r:RV):List Value:=[ii r.x0,ii r.y0,ii r.x1,ii r.y1]
def wK(a b:RV):RV:=⟨min a.x0 b.x0,min a.y0 b.y0,max a.x1 b.x1,max a.y1 b.y1⟩
def wL(gw i:Nat):RV:=⟨(i%gw:Nat),(i/gw:Nat),(i%gw:Nat),(i/gw:Nat)⟩
structure PV where
 lab:Int
 area:Int
 x:Int
 y:Int
 box:RV
 deriving DecidableEq
def PV.cells(p:PV):List Value:=[ii p.lab,ii p.area,ii p.x,ii p.y,ii p.box.x0,ii p.box.y0,ii p.box.x1,ii p.box.y1]
def ko(l:List PV):List Value:=l.flatMap PV.cells
theorem za(l:List PV):(ko l).length=l.length*8:=lF (f:=PV.cells) (λ_=>rfl) l
def RV.right(r:RV):Prop:=0<=r.x0/\r.x0<=r.x1/\r.x1<1024/\0<=r.y0/\r.y0<=r.y1/\r.y1<1024
theorem I1{a b:RV}(v:a.right)(y:b.right):(wK a b).right:=by
 unfold RV.right wK at*;dsimp only;omega
theorem yd(y:1<=gw/\gw<=1024)(v:gh<=1024)(hi:i<gw*gh):(wL gw i).right:=by
 have h1:i%gw<gw:=dt _ om;have h2:i/gw<gh:=cS hi;unfold RV.right wL;dsimp only;generalize i%gw=p at *;generalize i/gw=q at *;omega
theorem VN(a b:RV)(ha:a.right)(hb:b.right)(W:World):Fn prog 122 [.agg #[ii a.x0,ii a.y0,ii a.x1,ii a.y1],.agg #[ii b.x0,ii b.y0,ii b.x1,ii b.y1]] W
  (dp (.agg #[ii (wK a b).x0,ii (wK a b).y0,ii (wK a b).x1,ii (wK a b).y1]) W):=by
 have v:nb a.x0 a.y0 a.x1 a.y1=true:=(lO _ _ _ _).2 ha;have y:nb b.x0 b.y0 b.x1 b.y1=true:=(lO _ _ _ _).2 hb;have S:=St.start W;refine zI func122 ?_;refine zN ?_;intro D ab L S;refine zN ?_;intro I ac O S;refine zN ?_;intro z ad U S;refine zC (mz _ _ _ _ _) ?_;intro ae V S;rw[v];refine zC (mz _ _ _ _ _) ?_;intro ag Z S;rw[v];refine zC (mz _ _ _ _ _) ?_;intro ah aa S;rw[y];refine zS ?_;intro J S;exact rA S ⟨rfl,S.out⟩
theorem ye{f:α->List β}(v:∀a,(f a).length=m):∀{l:List α}{k:Nat}{a a':α}{d:Nat}{cs:List β},l[k]?=some a->d+cs.length<=m->f a'=(f a).take d++cs++(f a).drop (d+cs.length) ->
  (l.flatMap f).take (k*m+d)++cs++(l.flatMap f).drop (k*m+d+cs.length)=(l.set k a').flatMap f
 |[],k,a,a',d,cs,h,_,_=>by cases h
 |b::l,0,a,a',d,cs,h,hd,e=>by
  obtain rfl:b=a:=by simpa using h
  have y:=v b;simp only[iD,eH,fe,List.set_cons_zero];rw[lg om,nW om,e];simp only[cL]
 |b::l,k+1,a,a',d,cs,h,hd,e=>by
  have ih:=ye v (l:=l) (k:=k) (a:=a) (a':=a') (d:=d) (cs:=cs) (by simpa using h) hd e;have y:=v b;simp only[fe,List.set_cons_succ];rw[<-ih,cX,(om:k*m+m+d=m+(k*m+d)),(om:m+(k*m+d)+cs.length=m+(k*m+d+cs.length))];rw[jB,List.drop_append,y];rw[fN om,nv om];simp only[(om:m+(k*m+d)-m=k*m+d),(om:m+(k*m+d+cs.length)-m=k*m+d+cs.length),jL,cL]
theorem Qy{α:Type}{l:List α}{v:α}(h:k<l.length):l.set k v=l.take k++[v]++l.drop (k+1):=by
 rw[List.set_eq_take_append_cons_drop,a7 h];simp
theorem Ce{p:Nat->Bool}(y:q<k)(v:p q=true):((List.range k).filter p)[((List.range q).filter p).length]?=some q:=by
 have e:k=q+(1+(k-q-1)):=om;rw[e,pY,ix,fU (fK _),j8,ka 1,rz];simp[v]
structure I2(gw:Nat)(V:List Int)(t:Int)(r:Nat->Nat):Prop where
 le:∀i,i<V.length->r i<=i
 idem:∀i,i<V.length->r (r i)=r i
 conn:∀i,i<V.length->uL gw V t i (r i)
 left:∀i,i<V.length->t<=V.getD i 0->0<i%gw->t<=V.getD (i-1) 0->r i=r (i-1)
 up:∀i,i<V.length->t<=V.getD i 0->gw<=i->t<=V.getD (i-gw) 0->r i=r (i-gw)
theorem xn.roots{V:List Int}{t:Int}{f:Nat->Nat}(h:xn gw V t V.length f):I2 gw V t (eR f) :=
 ⟨λi _=>AB f i,λi _=>Kk f i,h.conn,h.left,h.up⟩
theorem uL.ge{V:List Int}{t:Int}(h:uL gw V t i j)(hi:t<=V.getD i 0):t<=V.getD j 0:=by
 induction h with
 |refl=>exact hi
 |step a _ ih=>exact ih a.2.2.2.1
def rh(V:List Int)(t:Int)(r:Nat->Nat)(q:Nat):Bool:=decide (t<=V.getD q 0)&&decide (r q=q)
def uq(V:List Int)(t:Int)(r:Nat->Nat)(k:Nat):List Nat:=(List.range k).filter (rh V t r)
def lQ(V:List Int)(t:Int)(r:Nat->Nat)(k:Nat):Nat:=(uq V t r k).length
def sN(V:List Int)(t:Int)(r:Nat->Nat)(i:Nat):Nat:=if t<=V.getD i 0 then lQ V t r (r i)+1 else 0
def Ba(V:List Int)(t:Int)(r:Nat->Nat)(q i:Nat):Bool:=decide (t<=V.getD i 0)&&decide (r i=q)
def rP(V:List Int)(t:Int)(r:Nat->Nat)(q k:Nat):List Nat:=(List.range k).filter (Ba V t r q)
def jY(gw:Nat)(V:List Int)(t:Int)(r:Nat->Nat)(k q:Nat):PV :=
 ⟨(lQ V t r q+1:Nat),((rP V t r q k).length:Nat),(q%gw:Nat),(q/gw:Nat),(rP V t r q k).foldl (λb i=>wK b (wL gw i)) (wL gw q)⟩
def j4(gw:Nat)(V:List Int)(t:Int)(r:Nat->Nat)(k:Nat):List PV:=(uq V t r k).map (jY gw V t r k)
theorem sx(V:List Int)(t:Int)(r:Nat->Nat)(k:Nat):uq V t r (k+1)=if rh V t r k then uq V t r k++[k]else uq V t r k:=by
 unfold uq;rw[eG,ix];by_cases h:rh V t r k=true
 ·rw[a7 h];simp[h]
 ·rw[a8 h];simp[h]
theorem Bb(V:List Int)(t:Int)(r:Nat->Nat)(q k:Nat):rP V t r q (k+1)=if Ba V t r q k then rP V t r q k++[k]else rP V t r q k:=by
 unfold rP;rw[eG,ix];by_cases h:Ba V t r q k=true
 ·rw[a7 h];simp[h]
 ·rw[a8 h];simp[h]
theorem yf{V:List Int}{t:Int}{r:Nat->Nat}(h:Ba V t r q k=false):jY gw V t r (k+1) q=jY gw V t r k q:=by
 unfold jY;rw[Bb,a8 (by simp[h])]
theorem Kn{V:List Int}{t:Int}{r:Nat->Nat}(h:Ba V t r q k=true) :
  jY gw V t r (k+1) q={ jY gw V t r k q with area:=(jY gw V t r k q).area+1,box:=wK (jY gw V t r k q).box (wL gw k) }:=by
 unfold jY;rw[Bb,a7 h,nT,cP];simp
theorem Ko{V:List Int}{t:Int}{r:Nat->Nat}:q∈uq V t r k↔q<k/\rh V t r q=true:=by unfold uq;rw[sS,dJ]
theorem Hh(V:List Int)(t:Int)(r:Nat->Nat)(k:Nat):(uq V t r k).Nodup:=List.Pairwise.filter _ List.nodup_range
theorem Cf(V:List Int)(t:Int)(r:Nat->Nat)(k:Nat):lQ V t r k<=k:=by
 unfold lQ uq;exact dE (nY _ _) (by simp)
theorem Fy{β:Type}[DecidableEq α]{l:List α}{f g:α->β}{q:α}(I:l.Nodup)(v:l[k]?=some q)(h:∀x∈l,x≠q->g x=f x):(l.map f).set k (g q)=l.map g:=by
 apply gG;intro i;rw[gl];have y:=(dq.1 v).1;by_cases e:k=i
 ·subst e;rw[a7 rfl,eP,a7 y,da,v];rfl
 ·rw[a8 e,da,da];cases hi:l[i]? with
  |none=>rfl
  |some x =>
   have J:=dD hi
   have z:x≠q:=by
    rintro rfl;have D:=(dq.1 hi).1;have h1:=(dq.1 hi).2;have h2:=(dq.1 v).2;exact e ((List.getElem_inj I).1 (h2.trans h1.symm))
   simp only[ku,h x J z]
theorem I3{V:List Int}{t:Int}{r:Nat->Nat}(y:∀i,i<=k->r i<=i)(I:t<=V.getD k 0)(D:r k=k) :
  j4 gw V t r (k+1)=j4 gw V t r k++[jY gw V t r (k+1) k]/\jY gw V t r k k=⟨(lQ V t r k+1:Nat),0,(k%gw:Nat),(k/gw:Nat),wL gw k⟩:=by
 have v:rh V t r k=true:=by unfold rh;simp only[cM,cT];exact⟨I,D⟩
 constructor
 ·unfold j4;rw[sx,a7 v,fq,i7];congr 1;refine eQ λq z=>yf ?_;have:=(Ko.1 z).1;unfold Ba;simp only[il,d9];right;omega
 ·have:rP V t r k k=[]:=by
   unfold rP;rw[nu];intro i hi;have:=y i (by have:=dJ.1 hi;omega);have:=dJ.1 hi;unfold Ba;simp only[cM,cT];omega
  unfold jY;rw[this];rfl
theorem Hi{V:List Int}{t:Int}{r:Nat->Nat}(O:r k=q)(L:q<k)(I:r q=q)(J:t<=V.getD q 0) :
  j4 gw V t r (k+1)=(j4 gw V t r k).set (lQ V t r q) (jY gw V t r (k+1) q)/\(j4 gw V t r k)[lQ V t r q]?=some (jY gw V t r k q):=by
 have y:rh V t r q=true:=by unfold rh;simp only[cM,cT];exact⟨J,I⟩
 have z:rh V t r k=false:=by unfold rh;simp only[il,d9];right;omega
 have v:(uq V t r k)[lQ V t r q]?=some q:=Ce L y;constructor
 ·unfold j4;rw[sx,a8 (by simp[z])];symm;refine Fy (Hh _ _ _ _) v λx S D=>yf ?_;unfold Ba;simp only[il,d9];right;rw[O];exact λe=>D e.symm
 ·unfold j4;rw[da,v];rfl
theorem Hj{V:List Int}{t:Int}{r:Nat->Nat}(v:¬t<=V.getD k 0):j4 gw V t r (k+1)=j4 gw V t r k:=by
 unfold j4;rw[sx,a8 (by unfold rh;simp only[cM,cT];exact λh=>v h.1)];refine eQ λq _=>yf ?_;unfold Ba;simp only[il,d9];exact .inl v
theorem Hk{V:List Int}{t:Int}{r:Nat->Nat}(J:1<=gw/\gw<=1024)(D:gh<=1024)(z:V.length=gw*gh)(O:k<=V.length)(L:q<V.length):(jY gw V t r k q).box.right:=by
 unfold jY
 have y:∀(l:List Nat)(b:RV),(∀i∈l,i<V.length)->b.right->(l.foldl (λb i=>wK b (wL gw i)) b).right:=by
  intro l;induction l with
  |nil=>intro b _ v;exact v
  |cons a l ih=>intro b I v;exact ih _ (λi hi=>I i (cW _ hi)) (I1 v (yd J D (z▸I a (by simp))))
 refine y _ _ (λi hi=>?_) (yd J D (z▸L));unfold rP at hi;have:=dJ.1 (sS.1 hi).1;omega
theorem Cg(n:Nat):List.replicate n (ii 0)=fB n (λ_=>0):=by
 symm;rw[n3];refine⟨lP _ _,λv y=>?_⟩;obtain⟨i,_,rfl⟩:=fC.1 y;rfl
theorem Eh{l:List PV}{a a':PV}{d:Nat}{cs:List Value}(h:l[k]?=some a)(hd:d+cs.length<=8)(e:a'.cells=a.cells.take d++cs++a.cells.drop (d+cs.length)) :
  (ko l).take (k*8+d)++cs++(ko l).drop (k*8+d+cs.length)=ko (l.set k a'):=ye (f:=PV.cells) (λ_=>rfl) h hd e
theorem Kp{l:List PV}{a:PV}(h:l[k]?=some a)(v:j<8):(ko l)[k*8+j]?=a.cells[j]?:=qe (f:=PV.cells) (m:=8) (λ_=>rfl) h v
theorem Kq{l:List PV}{a:PV}(h:l[k]?=some a):((ko l).drop (k*8+4)).take 4=a.box.cells:=by
 have:=qF (f:=PV.cells) (m:=8) (λ_=>rfl) l k a 4 4 h om;exact this
def aa2(gw gh:Nat)(V:List Int)(t:Int)(W:World)(v:Value)(w':World):Prop:=∃r,I2 gw V t r/\∃A1 c1 A2 c2,v=.tuple #[.slice A1 V.length c1,.slice A2 (lQ V t r V.length) c2,ii 0] /\
 St No W w' [.row 228 8 A2 (lQ V t r V.length) c2 (ko (j4 gw V t r V.length)),.row 2 1 A1 V.length c1 (fB V.length (sN V t r))]
section
variable{cap:Nat}
theorem aaN(t:Int)(hG:eJ W p gw gh cc A cap bs Rs) :
  Fn prog 60 [pt p,ii t] W (aa2 gw gh (dw gw gh cc) t W):=by
 have hw:=hG.sw;have hh:=hG.sh;have ao:=qf gw gh cc;have hm:1<=gw*gh/\gw*gh<=1024*1024:=⟨fy hw.1 hh.1,fy hw.2 hh.2⟩;have bE:gw<=gw*gh:=eS _ om;have ap:=Tt hG;rw[<-ao]at ap;have aK:(dw gw gh cc).length=gw*gh:=ao;generalize dw gw gh cc=V at *;have aP:∀i,i<V.length->(cY V)[(i:Int).toNat * 1]?=some (ii (V.getD i 0)):=λi hi=>by rw[cG,b7];exact gc (kr hi)
 have S:=St.start W;refine zI func60 ?_;refine zK (ap) ?_;rintro _ ca ⟨I,U,rfl,aj,av,be⟩;have S:=S.pushRow aj av be;refine zN ?_;intro al ce bT S;refine zS ?_;intro cg S;refine zK (VM (W:=_) t gh hw.1 om om om (S.rd (i:=1) rfl)) ?_;rintro _ ch ⟨f0,aM,ag,ai,rfl,an,aN,bf⟩;have S:=S.pushRow an aN bf;refine zg ?_;refine nD fZ jR rfl rfl rfl (n:=V.length) (c:=V.length) om om om om S ?_;intro ah cj bU S bG;refine zg ?_;have ak:=aM.roots;have au:=aM.ok;generalize bv:eR f0=r at *;have bF:dO ag:=an.someA om;have bw:dO I:=aj.someA om;rw[Cg]at S;have S:=S.pushNil 228 8
 refine dl (λm e w=>∃(k:Nat)(f:Nat->Nat)(y:Option Addr)(D:Nat),k+m=V.length/\SL e [(1,ii t),(7,pt al),(9,.slice ag V.length ai),(10,.slice ah V.length V.length),(11,.slice y (lQ V t r k) D),(34,.slice I V.length U),(35,ii V.length),(36,ii k)]/\Dp V.length f/\(∀j,j<V.length->eR f j=r j) /\
  St No W w [.row 228 8 y (lQ V t r k) D (ko (j4 gw V t r k)),.row 2 1 ah V.length V.length (fB V.length λj=>if j<k then sN V t r j else 0),.row 3 1 ag V.length ai (fB V.length f),.blk al 220 [ii gw,ii gh,.slice I V.length U],.row 2 1 I V.length U (cY V)]) V.length
  ⟨0,f0,none,0,om,sl,au,λj _=>by rw[bv],by
   have e1:(fB V.length λj=>if j<0 then sN V t r j else 0)=fB V.length (λ_=>0):=lq λi _=>rfl;rw[e1];exact S⟩ ?_
 rintro m e w ⟨k,f,y,D,hk,aE,hf,aw,S⟩;rw[aE.fold];have bD:=Cf V t r k;refine zB ?_ ?_
 ·intro hc;have ab:k<V.length:=om;have bq:=aP k ab;refine z ?_;refine zx ?_;refine dH (eI iY rfl rfl (S.rd (i:=4) rfl) bq) ?_;refine zB ?_ ?_
  ·intro J;refine zg ?_;have ad:¬t<=V.getD k 0:=om;have aR:sN V t r k=0:=a8 ad
   have L:lQ V t r (k+1)=lQ V t r k:=by
    unfold lQ;rw[sx,a8];unfold rh;simp only[cM,cT];exact λh=>ad h.1
   refine⟨m-1,om,k+1,f,y,D,om,⟨rfl,rfl,rfl,rfl,by rw[L];rfl,rfl,rfl,ie om,trivial⟩,hf,aw,?_⟩
   have e1:(fB V.length λj=>if j<k+1 then sN V t r j else 0)=fB V.length (λj=>if j<k then sN V t r j else 0):=lq λi _=>by
    by_cases e:i=k
    ·subst e;rw[a7 om,a8 om,aR]
    ·by_cases h:i<k
     ·rw[a7 om,a7 h]
     ·rw[a8 om,a8 h]
   rw[L,Hj ad,e1];exact S
  ·intro J;have aF:=yd hw hh.2 (aK▸ab);have bZ:=ak.le k ab;have aV:t<=V.getD (r k) 0:=(ak.conn k ab).ge J;have aq:=ak.idem k ab;refine zC (Tu (W:=w) k gh V.length hw.1 om) ?_;intro ck bV S;refine zN ?_;intro ba bH bz S;refine zS ?_;intro bI S;refine zN ?_;intro am bJ bA S;refine zS ?_;intro bK S;refine zK (I0 k om ab hf (S.row (i:=4) rfl)) ?_;rintro _ bL ⟨rfl,f1,bm,bu,bi,bg⟩;have S:=S.set (i:=4) (h':=.row 3 1 ag V.length ai (fB V.length f1)) rfl rfl bg (λg h=>.inl h) bi (λg h=>.inl h);rw[aw k ab];refine z ?_;refine ze ?_;have aO:∀j,j<V.length->eR f1 j=r j:=λj hj=>(bu j hj).trans (aw j hj);have ac:sN V t r k=lQ V t r (r k)+1:=a7 J;have az:sN V t r (r k)=lQ V t r (r k)+1:=by unfold sN;rw[a7 aV,aq]
   have bX:=Cf V t r (r k);have aa:(j4 gw V t r k).length=lQ V t r k:=by unfold j4 lQ;rw[eP]
   repeat refine dm ?_
   refine dz ?_;iterate 3 refine dU (jx rfl) ?_
   first|refine eF ?_|(refine di ?_;show CW _ _ _ _ _ _)|refine di ?_
   repeat refine dm ?_
   refine gP (M:=λe w=>∃(O:List PV)(y:Option Addr)(D:Nat),O.length=lQ V t r (k+1)/\O[lQ V t r (r k)]?=some (jY gw V t r k (r k))/\O.set (lQ V t r (r k)) (jY gw V t r (k+1) (r k))=j4 gw V t r (k+1)/\SL e [(1,ii t),(7,pt al),(9,.slice ag V.length ai),(10,.slice ah V.length V.length),(12,ii k),(14,pt ba),(15,pt am),(16,ii (r k:Nat)),(34,.slice I V.length U),(35,ii V.length),(36,ii k),(11,.slice y (lQ V t r (k+1)) D)]/\St No W w [.blk am 43 (wL gw k).cells,.row 228 8 y (lQ V t r (k+1)) D (ko O),.row 2 1 ah V.length V.length (fB V.length λj=>if j<k\/(j=k/\r k=k)then sN V t r j else 0),.row 3 1 ag V.length ai (fB V.length f1),.blk al 220 [ii gw,ii gh,.slice I V.length U],.row 2 1 I V.length U (cY V)]) ?_ ?_
   ·skip;refine zB ?_ ?_
    ·intro aD;have v:r k=k:=om;obtain⟨aS,bt⟩:=I3 (gw:=gw) (V:=V) (t:=t) (r:=r) (k:=k) (λi hi=>ak.le i om) J v
     have L:lQ V t r (k+1)=lQ V t r k+1:=by
      unfold lQ;rw[sx,a7]
      ·simp
      unfold rh;simp only[cM,cT];exact⟨J,v⟩
     refine zg ?_;refine yb S ?_;intro aZ bM bB S aY;refine fM (i:=3) S rfl (λh=>rfl) qa WU rfl rfl rfl rfl (by simp) om (S.rd (i:=0) rfl) rfl om ?_;intro aG aH bN S ae;refine zg ?_;refine jk (i:=4) S rfl (cR _) rfl rfl rfl rfl (by rw[lP];omega) rfl ?_;intro bO S;refine ze ?_;refine⟨j4 gw V t r k++[jY gw V t r k k],aG,aH,by rw[cP,aa,L];rfl,?_,?_,⟨rfl,rfl,rfl,rfl,rfl,rfl,rfl,rfl,rfl,rfl,rfl,by rw[L];rfl,trivial⟩,?_⟩
     ·rw[v,fU om,aa,j8];rfl
     ·rw[v,aS,kp _ _ om,aa,j8];rfl
     ·have S:=S.sub (.cons _ (.cons_cons _ (.cons _ (.cons_cons _ (.cons_cons _ (.cons_cons _ (.cons_cons _ (.cons_cons _ .slnil))))))));rw[cG,b7,tH]at S
      have e1:(fB V.length λj=>if j<k\/(j=k/\r k=k)then sN V t r j else 0)=fB V.length (tc (λj=>if j<k then sN V t r j else 0) k (lQ V t r k+1)):=lq λi _=>by
       by_cases e:i=k
       ·subst e;rw[pO,a7 (.inr ⟨rfl,v⟩),ac,v]
       ·rw[pP e];by_cases h:i<k
        ·rw[a7 (.inl h),a7 h]
        ·rw[a8 (λh2=>h2.elim h (λh3=>e h3.1)),a8 h]
      have e2:ko (j4 gw V t r k++[jY gw V t r k k])=ko (j4 gw V t r k)++(jY gw V t r k k).cells:=by simp[ko]
      rw[e1,L,e2,bt];exact S
    ·intro aD;have v:r k≠k:=om;have br:r k<k:=om;obtain⟨aB,bk⟩:=Hi (gw:=gw) (V:=V) (t:=t) (r:=r) (k:=k) rfl br aq aV
     have L:lQ V t r (k+1)=lQ V t r k:=by
      unfold lQ;rw[sx,a8];unfold rh;simp only[cM,cT];exact λh=>v h.2
     refine zg ?_;refine⟨j4 gw V t r k,y,D,by rw[L,aa],bk,aB.symm,⟨rfl,rfl,rfl,rfl,rfl,rfl,rfl,rfl,rfl,rfl,rfl,by rw[L];rfl,trivial⟩,?_⟩;have S:=S.sub (.cons_cons _ (.cons _ (.cons_cons _ (.cons_cons _ (.cons_cons _ (.cons_cons _ (.cons_cons _ .slnil)))))))
     have e1:(fB V.length λj=>if j<k\/(j=k/\r k=k)then sN V t r j else 0)=fB V.length (λj=>if j<k then sN V t r j else 0):=lq λi _=>by
      by_cases h:i<k
      ·rw[a7 (.inl h),a7 h]
      ·rw[a8 (λh2=>h2.elim h (λh3=>v h3.2)),a8 h]
     rw[e1,L];exact S
   ·rintro e2 w2 ⟨O,y,D,bW,ar,bh,aE,S⟩;rw[aE.fold];have aU:r k<V.length:=om
    have bn:(fB V.length λj=>if j<k\/(j=k/\r k=k)then sN V t r j else 0)[((r k:Nat):Int).toNat * 1]?=some (ii (sN V t r k:Nat)):=by
     rw[cG,b7,pT aU,a7 ((eV (r k) k).imp id (λh=>⟨om,om⟩)),az,ac]
    have bo:(fB V.length λj=>if j<k+1 then sN V t r j else 0)[(k:Int).toNat * 1]?=some (ii (sN V t r k:Nat)):=by
     rw[cG,b7,pT ab,a7 om]
    have e1:fB V.length (tc (λj=>if j<k\/(j=k/\r k=k)then sN V t r j else 0) k (sN V t r k))=fB V.length (λj=>if j<k+1 then sN V t r j else 0):=lq λi _=>by
     by_cases e:i=k
     ·subst e;rw[pO,a7 om]
     ·rw[pP e];by_cases h:i<k
      ·rw[a7 (.inl h),a7 om]
      ·rw[a8 (λh2=>h2.elim h (λh3=>e h3.1)),a8 om]
    have aQ:=(dq.1 ar).1;have ae:dO y:=(S.row (i:=1) rfl).someA om;have aI:((sN V t r k:Nat):Int)-1=((lQ V t r (r k):Nat):Int):=by rw[ac];omega
    have bp:(ko O)[((lQ V t r (r k):Nat):Int).toNat * 8+1]?=some (ii (jY gw V t r k (r k)).area):=by rw[b7,Kp ar om];rfl
    have aX:=Cf V t r (k+1);(iterate 4 refine z ?_);refine zx ?_;refine dH (eI iY rfl rfl (S.rd (i:=2) rfl) bn) ?_;refine zg ?_;refine jk (i:=2) S rfl (cR _) rfl rfl rfl rfl (by rw[lP];omega) rfl ?_;intro bP S;rw[cG,b7,tH,e1]at S;(iterate 3 refine z ?_);refine zx ?_;refine dH (eI iY rfl rfl (S.rd (i:=2) rfl) bo) ?_;refine zr ?_;rw[aI];refine dU (sj qa sizeOf228 rfl rfl ae om om) ?_;refine dU (jx rfl) ?_;first|refine eF ?_|(refine di ?_;show CW _ _ _ _ _ _)|refine di ?_
    have bl:=Hk (gw:=gw) (gh:=gh) (V:=V) (t:=t) (r:=r) (k:=k) (q:=r k) hw hh.2 aK om aU
    have bj:(jY gw V t r k (r k)).area<=1048576:=by
     have:(rP V t r (r k) k).length<=k:=dE (nY _ _) (by simp);show(((rP V t r (r k) k).length:Nat):Int)<=_;omega
    have aW:0<=(jY gw V t r k (r k)).area:=m6 _;have aT:=Kn (gw:=gw) (V:=V) (t:=t) (r:=r) (k:=k) (q:=r k) (by unfold Ba;simp[J]<;>exact J);generalize bY:jY gw V t r k (r k)=pa at *;generalize lQ V t r (r k)=Z at *;obtain⟨pb,aC⟩:∃pb:PV,pb={ pa with area:=pa.area+1 }:=⟨_,rfl⟩
    have bb:((ko O).set ((Z:Int).toNat * 8+1) (ii (pa.area+1)))=ko (O.set Z pb):=by
     rw[b7,Qy (by rw[za];omega)];exact Eh (d:=1) (cs:=[ii (pa.area+1)]) ar (by simp) (by rw[aC];rfl)
    have aJ:(O.set Z pb)[Z]?=some pb:=by rw[gl,a7 rfl,a7 aQ]
    have aL:((ko (O.set Z pb)).drop ((Z:Int).toNat * 8+4)).take 4=[ii pa.box.x0,ii pa.box.y0,ii pa.box.x1,ii pa.box.y1]:=by
     rw[b7,Kq aJ,aC];rfl
    have aA:(ko (O.set Z pb)).length=O.length*8:=by rw[za,pe]
    have bc:(ko (O.set Z pb)).take ((Z:Int).toNat * 8+4)++(wK pa.box (wL gw k)).cells++(ko (O.set Z pb)).drop ((Z:Int).toNat * 8+4+4)=ko (O.set Z (jY gw V t r (k+1) (r k))):=by
     have:=Eh (l:=O.set Z pb) (k:=Z) (a:=pb) (a':=jY gw V t r (k+1) (r k)) (d:=4) (cs:=(wK pa.box (wL gw k)).cells) aJ (by simp[RV.cells]) (by rw[aT,aC];rfl);rw[List.set_set]at this;rw[b7];exact this
    repeat refine dm ?_
    refine dz ?_;refine dU (jx rfl) ?_;refine dU (Pc rfl ae) ?_;refine dU (Pb qU rfl cR rfl rfl ae) ?_;refine dH (eI iY rfl rfl (S.rd (i:=1) rfl) bp) ?_;refine zg ?_;refine jk (i:=1) S rfl (cR _) rfl rfl rfl rfl (show(Z:Int).toNat * 8+1<(ko O).length by rw[za];omega) rfl ?_;intro bQ S;have S:=S.as_ (i:=1) (h':=.row 228 8 y (lQ V t r (k+1)) D (ko (O.set Z pb))) rfl rfl (λh=>h.congr bb) (λg h=>h);refine zD [0,1,2,3,4,5,6] [7,8,9] ?_;refine fo (λwq hq=>fb dL rfl (fS _) rfl ((S.gr hq).rd (i:=1) rfl) aL rfl rfl) ?_;refine zP (λwq hq=>VN pa.box (wL gw k) bl aF wq) ?_;refine zE ?_;intro bR bC S;refine tF (i:=1) S rfl (fS _) rfl rfl rfl rfl (show(Z:Int).toNat * 8+4+4<=(ko (O.set Z pb)).length by rw[aA];omega) rfl rfl ?_;intro bS S;have S:=S.as_ (i:=1) (h':=.row 228 8 y (lQ V t r (k+1)) D (ko (O.set Z (jY gw V t r (k+1) (r k))))) rfl rfl (λh=>h.congr bc) (λg h=>h);refine zg ?_;rw[bh]at S;exact⟨m-1,om,k+1,f1,y,D,om,sl,bm,aO,S.sub (.cons _ (.cons_cons _ (.cons_cons _ (.cons_cons _ (.cons_cons _ (.cons_cons _ .slnil))))))⟩
 ·intro hc;refine zg ?_;obtain rfl:k=V.length:=om;have S:=S.as_ (i:=1) (h':=.row 2 1 ah V.length V.length (fB V.length (sN V t r))) rfl rfl (λh=>h.congr (lq λi hi=>a7 hi)) (λg h=>h);exact tE rfl rfl rfl ⟨r,ak,ah,V.length,y,D,rfl,S.sub (.cons_cons _ (.cons_cons _ (.cons _ (.cons _ (.cons _ .slnil)))))⟩
end
section
variable{ps:String}
theorem Tw{y:Operand}{k:IntKind}(v:ev e x=.int .u64 a)(z:ev e y=.int k 8)(D:0<=a):iE P e ⟨d,.binOp .shr t x y t',ty,ps,af,none⟩ (.int .u64 (a/256)):=by
 intro w
 have h:(binOp .shr t (.int .u64 a) (.int k 8)).run P w=.ok (.int .u64 (a/256)) w:=by
  have:a.fdiv 256=a/256:=jp _ om;simp[binOp,Op.shift,IntKind.bits,this]
 simp[gd,execOp,v,z,eqGuard,h]
end
def td(n:Nat):Nat:=if n=0 then 0 else Nat.log2 n+1
theorem Kr(h:256<=n):td n=td (n/256)+8:=by
 unfold td;rw[a8 om,a8 om]
 have h1:Nat.log2 n=Nat.log2 (n/256)+8:=by
  rw[kY n,a7 om,kY (n/2),a7 om,kY (n/2/2),a7 om,kY (n/2/2/2),a7 om,kY (n/2/2/2/2),a7 om,
   kY (n/2/2/2/2/2),a7 om,kY (n/2/2/2/2/2/2),a7 om,kY (n/2/2/2/2/2/2/2),a7 om]
  rw[(om:n/2/2/2/2/2/2/2/2=n/256)]
 omega
theorem Ks(n:Nat)(L:n<=1024):Fn prog 262 [.int .u64 n] W (dp (ii (td n:Nat)) W):=by
 have y:∀m:Nat,m<256->td m<=8:=by decide+kernel
 by_cases D:n<256
 ·have v:=y n D;have S:=St.start W;refine zI func262 ?_;refine zg ?_;refine dU (s9 (B:=false) rfl rfl (iO om)) ?_;refine zg ?_;refine dU (s9 (B:=false) rfl rfl (iO om)) ?_;refine zg ?_;refine dU (s9 (B:=false) rfl rfl (iO om)) ?_;refine zg ?_;refine Y9 (n:=n) (m:=n) rfl (by rw[gD];omega) ?_;refine dU (wk (b:=UInt8.ofNat (td n)) fk rfl rfl om ?_) ?_
  ·rw[b7];clear v S;revert n;intro n _ D;revert n;decide+kernel
  refine Y9 (n:=((UInt8.ofNat (td n)).toNat:Int)) (m:=(td n:Nat)) rfl (by rw[show(UInt8.ofNat (td n)).toNat=td n by simp;omega];exact gC _ om) ?_;refine zX ?_;exact⟨ie om,S.out⟩
 ·have z:=Kr (n:=n) om;have v:=y (n/256) om;have I:(n:Int)/256=((n/256:Nat):Int):=om;obtain⟨q,J⟩:∃q,q=n/256:=⟨_,rfl⟩;rw[<-J]at z v I;have D:q<256:=om;have S:=St.start W;refine zI func262 ?_;refine zg ?_;refine dU (s9 (B:=false) rfl rfl (iO om)) ?_;refine zg ?_;refine dU (s9 (B:=false) rfl rfl (iO om)) ?_;refine zg ?_;refine dU (s9 (B:=true) rfl rfl (fD om)) ?_;refine zg ?_;refine dU (Tw rfl rfl om) ?_;rw[I];refine zg ?_;refine Y9 (n:=q) (m:=q) rfl (by rw[gD];omega) ?_;refine dU (wk (b:=UInt8.ofNat (td q)) fk rfl rfl om ?_) ?_
  ·rw[b7];clear v S z J I;revert q;intro q D;revert q;decide+kernel
  refine Y9 (n:=((UInt8.ofNat (td q)).toNat:Int)) (m:=(td q:Nat)) rfl (by rw[show(UInt8.ofNat (td q)).toNat=td q by simp;omega];exact gC _ om) ?_;refine zX ?_;exact⟨ie om,S.out⟩
theorem Ph(n:Nat)(h1:1<=n)(y:n<=1024):Fn prog 221 [ii n] W (dp (ii (Nat.log2 n:Nat)) W):=by
 have D:td n=Nat.log2 n+1:=a8 om;have I:=Nat.log2_le_self n;have S:=St.start W;refine zI func221 ?_;refine zg ?_;refine Y9 rfl (re _ om) ?_;refine zC (Ks n y) ?_;intro z v S;refine zX ?_;exact⟨ie om,S.out⟩
def wm(V:List Int)(gw:Nat):Nat->Nat->Nat->RG
 |0,x,y=>⟨V.getD (y*gw+x) 0,V.getD (y*gw+x) 0⟩
 |k+1,x,y=>mE (mE (wm V gw k x y) (wm V gw k (x+2^k) y)) (mE (wm V gw k x (y+2^k)) (wm V gw k (x+2^k) (y+2^k)))
structure vH(v:Nat->Nat->Int)(P:Nat->Nat->Prop)(r:RG):Prop where
 all:∀x y,P x y->r.lo<=v x y/\v x y<=r.hi
 lo:∃x y,P x y/\v x y=r.lo
 hi:∃x y,P x y/\v x y=r.hi
theorem vH.uniq{v:Nat->Nat->Int}{P:Nat->Nat->Prop}{r:RG}(h:vH v P r)(h':vH v P r'):r=r':=by
 obtain⟨x1,y1,y,e1⟩:=h.lo;obtain⟨J,S,p2,e2⟩:=h.hi;obtain⟨L,U,z,e3⟩:=h'.lo;obtain⟨O,V,D,e4⟩:=h'.hi;have Z:=h'.all x1 y1 y;have a2:=h'.all J S p2;have a3:=h.all L U z;have a4:=h.all O V D;obtain⟨l,u⟩:=r;obtain⟨l',I⟩:=r';dsimp only at *;rw[(om:l=l'),(om:u=I)]
theorem vH.join{v:Nat->Nat->Int}{P Q R:Nat->Nat->Prop}{a b:RG}(h:vH v P a)(h':vH v Q b)(D:∀x y,R x y↔P x y\/Q x y):vH v R (mE a b):=by
 refine⟨λx y I=>?_,?_,?_⟩
 ·unfold mE;dsimp only;rcases (D x y).1 I with p|q
  ·have:=h.all x y p;omega
  ·have:=h'.all x y q;omega
 ·unfold mE;dsimp only;rcases me a.lo b.lo with e|e
  ·obtain⟨x,y,p,z⟩:=h.lo;exact⟨x,y,(D x y).2 (.inl p),by rw[z];omega⟩
  ·obtain⟨x,y,p,z⟩:=h'.lo;exact⟨x,y,(D x y).2 (.inr p),by rw[z];omega⟩
 ·unfold mE;dsimp only;rcases me a.hi b.hi with e|e
  ·obtain⟨x,y,p,z⟩:=h'.hi;exact⟨x,y,(D x y).2 (.inr p),by rw[z];omega⟩
  ·obtain⟨x,y,p,z⟩:=h.hi;exact⟨x,y,(D x y).2 (.inl p),by rw[z];omega⟩
def Bx(V:List Int)(gw:Nat)(x y:Nat):Int:=V.getD (y*gw+x) 0
def nh(x0 y0 x1 y1:Nat):Nat->Nat->Prop:=λx y=>(x0<=x/\x<=x1)/\y0<=y/\y<=y1
theorem Ch(V:List Int)(gw:Nat):∀k x y,vH (Bx V gw) (nh x y (x+2^k-1) (y+2^k-1)) (wm V gw k x y)
 |0,x,y=>by
  refine⟨λJ L h=>?_,⟨x,y,?_,rfl⟩,⟨x,y,?_,rfl⟩⟩
  ·unfold nh at h
   simp only[kX]at h
   obtain rfl:J=x:=om
   obtain rfl:L=y:=om;exact⟨ij _,ij _⟩
  ·unfold nh;simp
  ·unfold nh;simp
 |k+1,x,y=>by
  have O:0<2^k:=mT k;have e:2^(k+1)=2*2^k:=by rw[gb,cD]
  have h1:=Ch V gw k x y;have h2:=Ch V gw k (x+2^k) y;have D:=Ch V gw k x (y+2^k);have I:=Ch V gw k (x+2^k) (y+2^k);have v:=h1.join (R:=nh x y (x+2^(k+1)-1) (y+2^k-1)) h2 (λa b=>by unfold nh;omega);have z:=D.join (R:=nh x (y+2^k) (x+2^(k+1)-1) (y+2^(k+1)-1)) I (λa b=>by unfold nh;omega);exact v.join z (λa b=>by unfold nh;omega)
def f7(gw k:Nat):Nat:=gw+1-2^k
def tf(V:List Int)(gw gh k:Nat):List RG:=(List.range (f7 gw k*f7 gh k)).map λi=>wm V gw k (i%f7 gw k) (i/f7 gw k)
theorem Dq(V:List Int)(gw gh k:Nat):(tf V gw gh k).length=f7 gw k*f7 gh k:=by simp[tf]
theorem zj(V:List Int){x y:Nat}(z:x<f7 gw k)(D:y<f7 gh k):(tf V gw gh k)[y*f7 gw k+x]?=some (wm V gw k x y):=by
 have h1:=jo (Y:=y) z
 have v:y*f7 gw k+x<f7 gw k*f7 gh k:=by
  have:=cI (f7 gw k) (show y+1<=f7 gh k from D);rw[cX,cD (f7 gh k)]at this;omega
 unfold tf;rw[da,eu v,ku,h1.1,h1.2]
end Go.Proofs.YtcalhocphkbbgaaGreatDoor
