/- hachuretop.WholeLevels: a part of the proof that the law returns true at every input; no condition of its own. -/
import Derived.Test.YtjfeklflkikapaaGreatDoorKG
import Derived.Shelf.Strconv.Itoa4
import Derived.Shelf.Strconv.ParseIntPublic10
import Derived.Shelf.Strings.Split
import Derived.Shelf.Strings.Prefix
import Derived.Shelf.Strings.OnBuilder
set_option maxRecDepth 100000
set_option maxHeartbeats 16000000
set_option linter.unusedVariables false
set_option linter.unusedSimpArgs false
namespace Go.Proofs.YtjfeklflkikapaaGreatDoor
open Go.Proofs.Tryz Go.RowKit
variable{Q:(Nat->Value)->World->Prop}{want:Array (String × TypeId)}{af:Array Edge}{ops:Array Oper}{f:FuncId}{h:HA}{a:Int}{kh kl:IntKind}{L':List HA}{hd:List Nat}{l xs:List Value}{b c c2 g i i2 j k m n p q t2 tb:Nat}{c0 cc:Nat->Int}{ns:Nat->Nat}{As:Nat->Option Addr}{F F':Nat->Prop}{e:Nat->Value}{hi lo x:Operand}{B:Option Addr}{d:Option Tmp}{P:Program}{t t' ty:TypeId}{u v1 v2 v3:Value}{W w w' wq:World}{C:World->Prop}
section
variable{ps:String}
theorem s9{y:Operand}{b:Int}{B:Bool}(z:ev e x=.int .u64 a)(D:ev e y=.int .u64 b)(v:decide (a>=b)=B):iE P e ⟨d,.binOp .geq t x y t',ty,ps,af,none⟩ (.bool B):=by
 intro w;subst v;simp[gd,execOp,z,D,eqGuard,binOp,Op.intCmp]
theorem vz{y:Operand}{k kd:IntKind}{b c:Int}(z:ev e x=.int k a)(D:ev e y=.int kd b)(I:0<=b)(v:k.wrap (a*2^(min b.toNat k.bits))=c):iE P e ⟨d,.binOp .shl t x y t',ty,ps,af,none⟩ (.int k c):=by
 intro w;subst v;have h1:¬b<0:=om;simp[gd,execOp,z,D,eqGuard,binOp,Op.shift,h1]
theorem wk{i:Operand}{s:ByteArray}{kd:IntKind}{n:Int}{b:UInt8}(z:P.underlying t=some .string)(D:ev e x=.string s)(hi:ev e i=.int kd n)(v:0<=n)(y:s[n.toNat]?=some b):iE P e ⟨d,.index t x i,ty,ps,af,none⟩ (.int .u8 b.toNat):=by
 intro w;simp[gd,execOp,D,hi,Instr.index,asIntOf,dS z,v,y]
end
structure RG where
 lo:Int
 hi:Int
variable{r':RG}
def RG.cells(r:RG):List Value:=[ii r.lo,ii r.hi]
def mE(a b:RG):RG:=⟨min a.lo b.lo,max a.hi b.hi⟩
theorem Fx(a b:RG)(W:World):Fn prog 214 [.agg a.cells.toArray,.agg b.cells.toArray] W (dp (.agg (mE a b).cells.toArray) W):=by
 unfold RG.cells;have S:=St.start W;refine zI func214 ?_;refine zN ?_;intro y L D S;refine zN ?_;intro z O I S;refine zN ?_;intro v U J S;refine zS ?_;intro V S;exact rA S ⟨rfl,S.out⟩
def mY(l:List RG):List Value:=l.flatMap RG.cells
theorem Do(l:List RG):(mY l).length=l.length*2:=lF (f:=RG.cells) (λ_=>rfl) l
theorem Cd:∀{l:List RG}{k:Nat}{r:RG},l[k]?=some r->((mY l).drop (k*2)).take 2=r.cells
 |[],k,r,h=>by cases h
 |r'::l,0,r,h=>by
  obtain rfl:r'=r:=by simpa using h
  rfl
 |r'::l,k+1,r,h=>by
  have ih:=Cd (l:=l) (k:=k) (r:=r) (by simpa using h);unfold mY at *;rw[fe,cX,<-ih];rfl
theorem HG(tb ns cs k v nc cc x y right z:Nat)(As V:Option Addr)(v0 v1:Value)(U:List Value)(l:List RG)(a b:RG)(W:World)(hT:eL W tb 340 [v0,v1,.slice As ns cs])(hS:Rd W As U)(hk:k<ns)(ac:(U.drop (k*2)).take 2=[ii v,.slice V nc cc])(Z:Rd W V (mY l))(am:l.length=nc)(I:v<=1048576)(hx:x<=1048576)(hy:y<=1048576)(hr:right<=1048576)(hb:z<=1048576)(ha:l[y*v+x]?=some a)(J:l[(y+z)*v+x+right]?=some b) :
  Fn prog 215 [pt tb,ii k,ii x,ii y,ii right,ii z] W (dp (.agg (mE a b).cells.toArray) W):=by
 have hi:=(dq.1 ha).1;have hj:=(dq.1 J).1;have ag:dO As:=hS.someA (by rcases U with _|⟨u,U⟩<;>simp_all);have ae:dO V:=Z.someA (by rw[Do];omega);have m1:y*v<=1048576*1048576:=cE hy I;have m2:(y+z)*v<=2097152*1048576:=cE om I;have e1:(y:Int)*v=((y*v:Nat):Int):=by push_cast;rfl
 have e2:((y:Int)+z)*v=(((y+z)*v:Nat):Int):=by push_cast;rfl
 have aa:=Cd ha;have ab:=Cd J;generalize y*v=p at *;generalize (y+z)*v=q at *;have L:((mY l).drop (((p:Int)+x).toNat * 2)).take 2=[ii a.lo,ii a.hi]:=by rw[(om:((p:Int)+x).toNat=p+x)];exact aa
 have O:((mY l).drop (((q:Int)+x+right).toNat * 2)).take 2=[ii b.lo,ii b.hi]:=by rw[(om:((q:Int)+x+right).toNat=q+x+right)];exact ab
 have S:=St.start W;refine zI func215 ?_;refine zN ?_;intro ah an aj S;refine zL (hT.gr S.out) ?_;refine zg ?_;refine dH (fb jx rfl (ne _) rfl (hS.gr S.out) ac rfl rfl) ?_;refine zN ?_;intro ai ao ak S;refine zS ?_;intro ad S;refine pF (C:=λwq=>Gr ad wq) [0,1,2,3,4,5,6,7,8,9,10,11,12,13,14,15,16,17,18,19,20,21,22,23] [24,25] (by kernel_rfl) (by kernel_rfl) (Gr.drew _) ?_;simp only[iS,dK,dR];refine eO (du jx rfl qD rfl rfl) ?_;refine fo (λwq D=>cV jy rfl rfl ((S.gr D).blk (i:=0) rfl) rfl) ?_;refine eO (cH rfl) ?_;refine eO (du jx rfl cR rfl rfl) ?_;refine fo (λwq D=>cV cw rfl rfl ((S.gr D).blk (i:=0) rfl) rfl) ?_;refine eO (fh rfl (by rw[e1];omega)) ?_;rw[e1];refine zQ ?_;refine fo (λwq D=>fb fK rfl (fD _) rfl (Z.gr (S.gr D).out) L rfl rfl) ?_;refine eO (du jx rfl qD rfl rfl) ?_;refine fo (λwq D=>cV jy rfl rfl ((S.gr D).blk (i:=0) rfl) rfl) ?_;iterate 2 refine eO (cH rfl) ?_
 refine eO (fh rfl om) ?_;refine eO (du jx rfl cR rfl rfl) ?_;refine fo (λwq D=>cV cw rfl rfl ((S.gr D).blk (i:=0) rfl) rfl) ?_;refine eO (fh rfl (by rw[e2];omega)) ?_;rw[e2];refine zQ ?_;refine fo (λwq D=>fb fK rfl (fD _) rfl (Z.gr (S.gr D).out) O rfl rfl) ?_;refine zE ?_;intro ap al S;refine zC (Fx a b _) ?_;refine zS ?_;intro aq S;exact rA S ⟨rfl,S.out⟩
open Go.Shelf
def Ya:Ren where
 f:=λn=>match n with|146=>282|221=>295|268=>311|138=>312|143=>313|195=>326|197=>327|218=>328|219=>329|260=>342|217=>343|225=>333|224=>332|267=>344|266=>352|314=>353|n=>n
 t:=λn=>match n with|9=>9|31=>38|3=>3|4=>4|0=>0|105=>480|21=>21|5=>5|46=>47|119=>499|139=>502|138=>501|146=>404|51=>158|n=>n
 g:=λn=>match n with|1=>3|3=>6|4=>7|n=>n
theorem Yb:Lays.n146 Tryz.prog Ya where
 mixed:=rfl
 f138:=Tryz.func312.trans rfl;f143:=Tryz.func313.trans rfl;f146:=Tryz.func282.trans rfl;f195:=Tryz.func326.trans rfl;f197:=Tryz.func327.trans rfl;f217:=Tryz.func343.trans rfl;f218:=Tryz.func328.trans rfl;f219:=Tryz.func329.trans rfl;f221:=Tryz.func295.trans rfl;f224:=Tryz.func332.trans rfl;f225:=Tryz.func333.trans rfl;f260:=Tryz.func342.trans rfl;f266:=Tryz.func352.trans rfl;f267:=Tryz.func344.trans rfl;f268:=Tryz.func311.trans rfl;f314:=Tryz.func353.trans rfl;t0:=oV;a0:=tv;z0:=ss;v0:=ph;t3:=la;a3:=qt;z3:=pN;v3:=mW;t4:=my;a4:=qr;z4:=pM;v4:=mV;t5:=mw;a5:=tu;z5:=sr;v5:=pg;t9:=jC;a9:=qq;z9:=ld;v9:=mU;t21:=qO;a21:=Tryz.isAgg21;z21:=Tryz.sizeOf21;v21:=Tryz.zeroValue21;t31:=kN;a31:=Tryz.isAgg38;z31:=Tryz.sizeOf38;v31:=Tryz.zeroValue38;t46:=qN;a46:=uX;z46:=ug;v46:=rI;t51:=qa;a51:=uk;z51:=tB;v51:=qM;t105:=Tryz.underlying480;a105:=Tryz.isAgg480;z105:=Tryz.sizeOf480;v105:=Tryz.zeroValue480;t119:=Tryz.underlying499;a119:=Tryz.isAgg499;z119:=Tryz.sizeOf499;t138:=Tryz.underlying501;a138:=Tryz.isAgg501;z138:=Tryz.sizeOf501;v138:=Tryz.zeroValue501;t139:=Tryz.underlying502;a139:=Tryz.isAgg502;z139:=Tryz.sizeOf502;v139:=Tryz.zeroValue502;t146:=Tryz.underlying404;a146:=Tryz.isAgg404;z146:=Tryz.sizeOf404;v146:=Tryz.zeroValue404;g1:=by decide+kernel
 g3:=by decide+kernel
 g4:=by decide+kernel
def Pw:Ren where
 f:=λn=>match n with|156=>237|165=>279|166=>280|169=>147|240=>227|241=>294|276=>275|277=>310|n=>n
 t:=λn=>match n with|31=>38|9=>9|3=>3|4=>4|0=>0|20=>20|72=>265|76=>270|70=>263|37=>37|75=>269|127=>362|164=>415|5=>5|80=>272|n=>n
 g:=λn=>n
theorem Px:Lays.n156 Tryz.prog Pw where
 mixed:=rfl
 f156:=Tryz.func237.trans rfl;f165:=Tryz.func279.trans rfl;f166:=Tryz.func280.trans rfl;f169:=Tryz.func147.trans rfl;f240:=Tryz.func227.trans rfl;f241:=Tryz.func294.trans rfl;f276:=Tryz.func275.trans rfl;f277:=Tryz.func310.trans rfl;t0:=oV;a0:=tv;z0:=ss;v0:=ph;t3:=la;a3:=qt;z3:=pN;v3:=mW;t4:=my;a4:=qr;z4:=pM;v4:=mV;t9:=jC;a9:=qq;z9:=ld;v9:=mU;t20:=qP;a20:=uZ;z20:=uj;v20:=rK;t31:=kN;a31:=Tryz.isAgg38;z31:=Tryz.sizeOf38;v31:=Tryz.zeroValue38;t37:=nV;a37:=uY;z37:=ui;v37:=rJ;t70:=Tryz.underlying263;a70:=Tryz.isAgg263;z70:=Tryz.sizeOf263;v70:=Tryz.zeroValue263;t72:=Tryz.underlying265;a72:=Tryz.isAgg265;z72:=Tryz.sizeOf265;v72:=Tryz.zeroValue265;t75:=Tryz.underlying269;a75:=Tryz.isAgg269;z75:=Tryz.sizeOf269;v75:=Tryz.zeroValue269;t76:=Tryz.underlying270;a76:=Tryz.isAgg270;z76:=Tryz.sizeOf270;v76:=Tryz.zeroValue270;t127:=Tryz.underlying362;a127:=Tryz.isAgg362;z127:=Tryz.sizeOf362;v127:=Tryz.zeroValue362;t164:=Tryz.underlying415;a164:=Tryz.isAgg415;z164:=Tryz.sizeOf415;v164:=Tryz.zeroValue415
def Yc:Ren where
 f:=λn=>match n with|101=>323|208=>339|206=>346|n=>n
 t:=λn=>match n with|9=>9|4=>4|3=>3|n=>n
 g:=λn=>n
theorem Yd:Lays.n101 Tryz.prog Yc where
 mixed:=rfl
 f101:=Tryz.func323.trans rfl;f206:=Tryz.func346.trans rfl;f208:=Tryz.func339.trans rfl;t3:=la;a3:=qt;z3:=pN;v3:=mW;t4:=my;a4:=qr;z4:=pM;v4:=mV;t9:=jC;a9:=qq;z9:=ld;v9:=mU
def Ye:Ren where
 f:=λn=>match n with|173=>277|246=>292|283=>305|284=>306|285=>307|286=>308|129=>254|317=>319|318=>320|319=>321|320=>322|337=>337|338=>338|n=>n
 t:=λn=>match n with|2=>2|3=>3|9=>9|4=>4|171=>456|0=>0|53=>277|37=>37|5=>5|173=>458|212=>473|51=>158|20=>20|213=>474|46=>47|232=>490|233=>491|n=>n
 g:=λn=>match n with|17=>2|18=>4|19=>5|n=>n
theorem Yf:Lays.n173 Tryz.prog Ye where
 mixed:=rfl
 f129:=Tryz.func254.trans rfl;f173:=Tryz.func277.trans rfl;f246:=Tryz.func292.trans rfl;f283:=Tryz.func305.trans rfl;f284:=Tryz.func306.trans rfl;f285:=Tryz.func307.trans rfl;f286:=Tryz.func308.trans rfl;f317:=Tryz.func319.trans rfl;f318:=Tryz.func320.trans rfl;f319:=Tryz.func321.trans rfl;f320:=Tryz.func322.trans rfl;f337:=Tryz.func337.trans rfl;f338:=Tryz.func338.trans rfl;t0:=oV;a0:=tv;z0:=ss;v0:=ph;t2:=rL;a2:=qv;z2:=Tryz.sizeOf2;v2:=Tryz.zeroValue2;t3:=la;a3:=qt;z3:=pN;v3:=mW;t4:=my;a4:=qr;z4:=pM;v4:=mV;t5:=mw;a5:=tu;z5:=sr;v5:=pg;t9:=jC;a9:=qq;z9:=ld;v9:=mU;t20:=qP;a20:=uZ;z20:=uj;v20:=rK;t37:=nV;a37:=uY;z37:=ui;v37:=rJ;t46:=qN;a46:=uX;z46:=ug;v46:=rI;t51:=qa;a51:=uk;z51:=tB;v51:=qM;t53:=Tryz.underlying277;a53:=Tryz.isAgg277;z53:=Tryz.sizeOf277;v53:=Tryz.zeroValue277;t171:=Tryz.underlying456;a171:=Tryz.isAgg456;z171:=Tryz.sizeOf456;v171:=Tryz.zeroValue456;t173:=Tryz.underlying458;a173:=Tryz.isAgg458;z173:=Tryz.sizeOf458;v173:=Tryz.zeroValue458;t212:=Tryz.underlying473;a212:=Tryz.isAgg473;z212:=Tryz.sizeOf473;v212:=Tryz.zeroValue473;t213:=Tryz.underlying474;a213:=Tryz.isAgg474;z213:=Tryz.sizeOf474;t232:=Tryz.underlying490;a232:=Tryz.isAgg490;z232:=Tryz.sizeOf490;v232:=Tryz.zeroValue490;t233:=Tryz.underlying491;a233:=Tryz.isAgg491;z233:=Tryz.sizeOf491;v233:=Tryz.zeroValue491;g17:=by decide+kernel
 g18:=by decide+kernel
 g19:=by decide+kernel
def Yg:Ren where
 f:=λn=>match n with|174=>325|247=>340|245=>341|287=>347|279=>348|280=>349|281=>350|282=>351|321=>354|322=>355|316=>356|171=>358|205=>357|243=>359|246=>292|283=>305|284=>306|285=>307|286=>308|129=>254|317=>319|318=>320|319=>321|320=>322|337=>337|338=>338|n=>n
 t:=λn=>match n with|9=>9|3=>3|2=>2|75=>269|85=>478|4=>4|167=>493|5=>5|53=>277|175=>494|46=>47|168=>496|37=>37|0=>0|210=>507|21=>21|127=>362|145=>511|143=>509|171=>456|173=>458|212=>473|51=>158|20=>20|213=>474|232=>490|233=>491|80=>272|n=>n
 g:=λn=>match n with|15=>8|16=>9|17=>2|18=>4|19=>5|n=>n
theorem Yh:LaysC.n174 Tryz.prog Yg where
 mixed:=rfl
 f129:=Tryz.func254.trans rfl;f171:=Tryz.func358.trans rfl;f174:=Tryz.func325.trans rfl;f205:=Tryz.func357.trans rfl;f243:=Tryz.func359.trans rfl;f245:=Tryz.func341.trans rfl;f246:=Tryz.func292.trans rfl;f247:=Tryz.func340.trans rfl;f279:=Tryz.func348.trans rfl;f280:=Tryz.func349.trans rfl;f281:=Tryz.func350.trans rfl;f282:=Tryz.func351.trans rfl;f283:=Tryz.func305.trans rfl;f284:=Tryz.func306.trans rfl;f285:=Tryz.func307.trans rfl;f286:=Tryz.func308.trans rfl;f287:=Tryz.func347.trans rfl;f316:=Tryz.func356.trans rfl;f317:=Tryz.func319.trans rfl;f318:=Tryz.func320.trans rfl;f319:=Tryz.func321.trans rfl;f320:=Tryz.func322.trans rfl;f321:=Tryz.func354.trans rfl;f322:=Tryz.func355.trans rfl;f337:=Tryz.func337.trans rfl;f338:=Tryz.func338.trans rfl;t0:=oV;a0:=tv;z0:=ss;v0:=ph;t2:=rL;a2:=qv;z2:=Tryz.sizeOf2;v2:=Tryz.zeroValue2;t3:=la;a3:=qt;z3:=pN;v3:=mW;t4:=my;a4:=qr;z4:=pM;v4:=mV;t5:=mw;a5:=tu;z5:=sr;v5:=pg;t9:=jC;a9:=qq;z9:=ld;v9:=mU;t20:=qP;a20:=uZ;z20:=uj;v20:=rK;t21:=qO;a21:=Tryz.isAgg21;z21:=Tryz.sizeOf21;v21:=Tryz.zeroValue21;t37:=nV;a37:=uY;z37:=ui;v37:=rJ;t46:=qN;a46:=uX;z46:=ug;v46:=rI;t51:=qa;a51:=uk;z51:=tB;v51:=qM;t53:=Tryz.underlying277;a53:=Tryz.isAgg277;z53:=Tryz.sizeOf277;v53:=Tryz.zeroValue277;t75:=Tryz.underlying269;a75:=Tryz.isAgg269;z75:=Tryz.sizeOf269;v75:=Tryz.zeroValue269;t85:=Tryz.underlying478;a85:=Tryz.isAgg478;z85:=Tryz.sizeOf478;v85:=Tryz.zeroValue478;t127:=Tryz.underlying362;a127:=Tryz.isAgg362;z127:=Tryz.sizeOf362;v127:=Tryz.zeroValue362;t143:=Tryz.underlying509;a143:=Tryz.isAgg509;z143:=Tryz.sizeOf509;v143:=Tryz.zeroValue509;t145:=Tryz.underlying511;a145:=Tryz.isAgg511;z145:=Tryz.sizeOf511;v145:=Tryz.zeroValue511;t167:=Tryz.underlying493;a167:=Tryz.isAgg493;z167:=Tryz.sizeOf493;v167:=Tryz.zeroValue493;t168:=Tryz.underlying496;a168:=Tryz.isAgg496;z168:=Tryz.sizeOf496;v168:=Tryz.zeroValue496;t171:=Tryz.underlying456;a171:=Tryz.isAgg456;z171:=Tryz.sizeOf456;v171:=Tryz.zeroValue456;t173:=Tryz.underlying458;a173:=Tryz.isAgg458;z173:=Tryz.sizeOf458;v173:=Tryz.zeroValue458;t175:=Tryz.underlying494;a175:=Tryz.isAgg494;z175:=Tryz.sizeOf494;v175:=Tryz.zeroValue494;t210:=Tryz.underlying507;a210:=Tryz.isAgg507;z210:=Tryz.sizeOf507;v210:=Tryz.zeroValue507;t212:=Tryz.underlying473;a212:=Tryz.isAgg473;z212:=Tryz.sizeOf473;v212:=Tryz.zeroValue473;t213:=Tryz.underlying474;a213:=Tryz.isAgg474;z213:=Tryz.sizeOf474;t232:=Tryz.underlying490;a232:=Tryz.isAgg490;z232:=Tryz.sizeOf490;v232:=Tryz.zeroValue490;t233:=Tryz.underlying491;a233:=Tryz.isAgg491;z233:=Tryz.sizeOf491;v233:=Tryz.zeroValue491;g15:=by decide+kernel
 g16:=by decide+kernel
 g17:=by decide+kernel
 g18:=by decide+kernel
 g19:=by decide+kernel
 t80:=Tryz.underlying272;a80:=Tryz.isAgg272;z80:=Tryz.sizeOf272;v80:=Tryz.zeroValue272;i0:=rfl;i2:=rfl;i3:=rfl;i4:=rfl;i5:=rfl;i9:=rfl;i20:=rfl;i21:=rfl;i37:=rfl;i46:=rfl;i51:=rfl;i53:=rfl;i75:=rfl;i80:=rfl;i85:=rfl;i127:=rfl;i143:=rfl;i145:=rfl;i167:=rfl;i168:=rfl;i171:=rfl;i173:=rfl;i175:=rfl;i210:=rfl;i212:=rfl;i232:=rfl;i233:=rfl;m15:=by decide+kernel
 m16:=by decide+kernel
 m17:=by decide+kernel
 m18:=by decide+kernel
 m19:=by decide+kernel
 c0:=rfl;c2:=rfl;c3:=rfl;c4:=rfl;c5:=rfl;c9:=rfl;c20:=rfl;c21:=rfl;c37:=rfl;c46:=rfl;c51:=rfl;c53:=rfl;c75:=rfl;c80:=rfl;c85:=rfl;c127:=rfl;c143:=rfl;c145:=rfl;c167:=rfl;c168:=rfl;c171:=rfl;c173:=rfl;c175:=rfl;c210:=rfl;c212:=rfl;c213:=rfl;c232:=rfl;c233:=rfl
theorem Py:Builder.Extra Tryz.prog Pw where
 sizeBuilder:=rfl
 liesBuilder:=by decide+kernel
 t5:=mw;a5:=tu;z5:=sr;v5:=pg;infoByte:=rfl;cellsByte:=rfl;sizeByte:=rfl;neB5:=by decide
def HA.it(r:Nat)(s:ByteArray)(p:Nat):HA:=⟨λg=>g=r,λw=>w.heap[r]?=some (.stringIter s p),λ_ _ h _ hB=>(h r rfl).trans hB,λ_ hB g hg=>hg▸(jq.1 hB).1⟩
section
variable{rest:List Oper}{ps:String}{L:List HA}
theorem yu{y:Operand}{a b:ByteArray}{B:Bool}(z:ev e x=.string a)(D:ev e y=.string b)(v:(a.toList==b.toList)=B):iE P e ⟨d,.binOp .eql t x y t',ty,ps,af,none⟩ (.bool B):=by
 intro w;subst v;simp[gd,execOp,z,D,eqGuard,binOp,Op.stringOp]
theorem Jp{y:Operand}{a b:ByteArray}{B:Bool}(z:ev e x=.string a)(D:ev e y=.string b)(v:(!(a.toList==b.toList))=B):iE P e ⟨d,.binOp .neq t x y t',ty,ps,af,none⟩ (.bool B):=by
 intro w;subst v;simp[gd,execOp,z,D,eqGuard,binOp,Op.stringOp]
theorem uz{y:Operand}{k:IntKind}{b:Int}{B:Bool}(z:ev e x=.int k a)(D:ev e y=.int k b)(v:decide (a<b)=B):iE P e ⟨d,.binOp .lss t x y t',ty,ps,af,none⟩ (.bool B):=by
 intro w;subst v;simp[gd,execOp,z,D,eqGuard,binOp,Op.intCmp]
theorem qA{y:Operand}{k:IntKind}{b:Int}{B:Bool}(z:ev e x=.int k a)(D:ev e y=.int k b)(v:decide (a>b)=B):iE P e ⟨d,.binOp .gtr t x y t',ty,ps,af,none⟩ (.bool B):=by
 intro w;subst v;simp[gd,execOp,z,D,eqGuard,binOp,Op.intCmp]
theorem V4(z:P.underlying t=some (.interface want))(D:ev e x=.nilIface):iE P e ⟨d,.binOp .eql t x (.const .nilIface) t',ty,ps,af,none⟩ (.bool true):=by
 intro w;have h2:ev e (.const .nilIface)=.nilIface:=rfl
 have v:∀n:Nat,(Op.equalIn (n+1) t .nilIface .nilIface).run P w=.ok true w:=λn=>by
  unfold Op.equalIn;simp[dS z]
 have y:(Op.equal t .nilIface .nilIface).run P w=.ok true w:=v 9999;simp[gd,execOp,D,h2,eqGuard,binOp,y]
theorem Pz(z:P.underlying t=some (.interface want))(D:ev e x=.nilIface):iE P e ⟨d,.binOp .neq t x (.const .nilIface) t',ty,ps,af,none⟩ (.bool false):=by
 intro w;have h2:ev e (.const .nilIface)=.nilIface:=rfl
 have v:∀n:Nat,(Op.equalIn (n+1) t .nilIface .nilIface).run P w=.ok true w:=λn=>by
  unfold Op.equalIn;simp[dS z]
 have y:(Op.equal t .nilIface .nilIface).run P w=.ok true w:=v 9999;simp[gd,execOp,D,h2,eqGuard,binOp,y,asBool]
theorem Ab{s:ByteArray}(v:P.underlying t=some .string)(y:ev e x=.string s):iE P e ⟨d,.call ⟨.builtin .len,#[x],#[t]⟩,ty,ps,af,none⟩ (ii s.size):=by
 intro w;simp[gd,execOp,y,resolve,invoke,builtin,Builtin.len_,dS v,goInt]
theorem PA{s:ByteArray}{m n:Int}(I:P.underlying t=some .string)(J:ev e x=.string s)(D:ev e lo=.int kl m)(z:ev e hi=.int kh n)(y:0<=m)(h1:m<=n)(h2:n<=s.size) :
  iE P e ⟨d,.slice t x (some lo) (some hi) none,ty,ps,af,none⟩ (.string (s.extract m.toNat n.toNat)):=by
 intro w;have v:(n.toNat:Int)=n:=Int.toNat_of_nonneg om;simp[gd,execOp,J,D,z,Instr.sliceAt,Instr.slice,dS I,Instr.sliceBounds,j0,v,y,h1,h2,(by omega:0<=n)]
theorem TR{s:ByteArray}{m:Int}(z:P.underlying t=some .string)(D:ev e x=.string s)(y:ev e lo=.int kl m)(v:0<=m)(h1:m<=s.size) :
  iE P e ⟨d,.slice t x (some lo) none none,ty,ps,af,none⟩ (.string (s.extract m.toNat s.size)):=by
 intro w;simp[gd,execOp,D,y,Instr.sliceAt,Instr.slice,dS z,Instr.sliceBounds,j0,v,h1]
theorem Nk{s:ByteArray}(S:St F W w L)(D:P.underlying t=some .string)(I:ev e x=.string s)(z:∀r w',Gr w w'->St F W w' (.it r s 0::L)->RW P ops Q rest (fI e d (pt r)) w') :
  RW P ops Q (⟨d,.range t x,ty,ps,af,none⟩::rest) e w:=by
 refine wZ (v:=pt w.heap.size) (w':=w.alloc (.stringIter s 0)) ?_ (z _ _ (Gr.alloc w _) ?_)
 ·simp[execOp,I,Instr.range,dS D,go_sem]
 ·exact S.push (Gr.alloc w _) (h:=.it w.heap.size s 0) (nH w _) (λg y=>by rw[y];exact cN _)
theorem Rb{r:Nat}{s:ByteArray}{b:UInt8}(S:St F W w L)(hi:gi L i=some (.it r s p))(hx:ev e x=.pointer (some ⟨r,0,none⟩))(y:s[p]?=some b)(hc:b.toNat<128)(hs:j7 L i (.it r s (p+1))=some L')(Z:∀w',St F W w' L'→RW P ops Q rest (fI e d (.tuple #[.bool true,.int .i64 p,.int .i32 b.toNat])) w'):RW P ops Q (⟨d,.next x true,ty,ps,af,none⟩::rest) e w:=by
  have I:w.heap[r]?=some (.stringIter s p):=S.ok hi;have O:r<w.heap.size:=(jq.1 I).1;have J:(getObj r).run P w=.ok (.stringIter s p) w:=by simp[getObj,Sem.run,I]
  have U:(setObj r (.stringIter s (p+1))).run P w=.ok () { w with heap:=w.heap.setIfInBounds r (.stringIter s (p+1)) }:=by simp[setObj,Sem.run,I]
  have D:p<s.size:=by
    rcases eV p s.size with h|h
    · exact h
    · rw[getElem?_neg _ _ om]at y;cases y
  have hd:Utf8.decode s p=(b.toNat,1):=by
    have h1:s.get! (p+0)=b:=by
      rw[eW];have:s[p]?=some (s[p]'D):=getElem?_pos s p D;rw[this]at y;injection y with y;rw[←y];show s.data[p]! =s.data[p];exact getElem!_pos s.data p D
    unfold Utf8.decode;simp only[h1];rw[a7 om]
  refine wZ (v:=.tuple #[.bool true,.int .i64 p,.int .i32 b.toNat]) (w':={ w with heap:=w.heap.setIfInBounds r (.stringIter s (p+1)) }) ?_ (Z _ (S.set (F':=λg=>g=r) hi hs ⟨rfl,rfl,rfl,by simp,λg z V=>?_⟩ (λg z=>.inl z) ?_ (λg z=>.inl z)))
  · simp[execOp,hx,Instr.next,J,D,hd,goInt,U]
  · simp only[oh]
    rw[a8 (λe=>V e.symm)]
  · show _=_
    simp[O]
theorem Re{r:Nat}{s:ByteArray}(S:St F W w L)(hi:gi L i=some (.it r s p))(J:ev e x=pt r)(D:s.size<=p)(I:RW P ops Q rest (fI e d (.tuple #[.bool false])) w):RW P ops Q (⟨d,.next x true,ty,ps,af,none⟩::rest) e w:=by
 have z:w.heap[r]?=some (.stringIter s p):=S.ok hi;have y:(getObj r).run P w=.ok (.stringIter s p) w:=by simp[getObj,Sem.run,z]
 refine wZ (v:=.tuple #[.bool false]) (w':=w) ?_ I;simp[execOp,J,Instr.next,y,Nat.not_lt.2 D]
end
theorem Xh(w:World)(t:TypeId)(s:ByteArray):Gr w (Lib.bytesWorld w t s):=Lib.bytesWorld_below _ _ _
theorem TS(s y:ByteArray){l:List ByteArray}{m:Int}(L:s.size<4294967281)(J:w.cell? ⟨3,0,none⟩=some (ii m))(h1:1<=y.size)(I:Lib.splitB y 0 (Lib.countB s y) s=l) :
  Fn prog 282 [.string s,.string y] w (λv w'=>v=.slice (some ⟨w.heap.size,0,none⟩) l.length l.length/\w'=w.alloc (.cells (l.map Value.string).toArray 9)):=by
 subst I;have z:=Lib.splitB_all y h1 0 _ s rfl;rw[z];exact jM (by kernel_rfl) ((Any.strings_Split Yb rfl s y m w L J h1).mono λe w'⟨D,hw⟩=>⟨D,hw⟩)
theorem Xi(i:Nat)(hi:i<100){s:ByteArray}(h:(⟨(Lib.decDigits i).toArray⟩:ByteArray)=s):Fn prog 277 [ii i,ii 10] W (dp (.string s) W):=by
 subst h;exact jM (by kernel_rfl) ((Any.strconv_FormatInt_10_small Yf i hi W).mono λe w'⟨v,hw⟩=>⟨v,hw▸Gr.refl W⟩)
theorem V5(s p:ByteArray){r:ByteArray}(h:(⟨(Lib.trimPrefix s.data.toList p.data.toList).toArray⟩:ByteArray)=r):Fn prog 323 [.string s,.string p] W (dp (.string r) W):=by
 subst h;exact jM (by kernel_rfl) ((Any.strings_TrimPrefix Yd s p W).mono λe w'⟨v,hw⟩=>⟨v,hw▸Gr.refl W⟩)
theorem PB(s:ByteArray){v:Int}(z:s.size<=1000)(h:Lib.parseIntB 64 s.data.toList=.ok v):Fn prog 325 [.string s,ii 10,ii 64] W (dp (.tuple #[ii v,.nilIface]) W):=by
 refine jM (by kernel_rfl) ((Any.strconv_ParseInt_10_at64_ok Yh s om v h W).mono λe w'⟨y,hw⟩=>⟨y,?_⟩);rcases hw with rfl|⟨t,rfl⟩
 ·exact Gr.refl _
 ·exact Xh _ _ _
theorem Rf{o:Nat}{x v:ByteArray}(y:W.cell? ⟨b,o,none⟩=some (.string x)):Fn prog 237 [.slice (some ⟨b,o,none⟩) 1 c,.string v] W (dp (.string x) W) :=
 jM (by kernel_rfl) ((Any.strings_Join_one Px Py b o c x v W y).mono λe w'⟨z,hw⟩=>⟨z,hw▸Gr.refl W⟩)
theorem TT{o:Nat}{xs:List ByteArray}{v r:ByteArray}(D:∀(j:Nat)x,xs[j]?=some x->W.cell? ⟨b,o+j,none⟩=some (.string x))(z:b<W.heap.size)(O:xs.length<=1000)(y:xs.length<=c)(L:(⟨(Lib.join (xs.map (·.data.toList)) v.data.toList).toArray⟩:ByteArray)=r)(J:r.size<=100000):Fn prog 237 [.slice (some ⟨b,o,none⟩) xs.length c,.string v] W (dp (.string r) W):=by
 subst L;exact jM (by kernel_rfl) ((Any.strings_Join Px Py b o c xs v W D z om y (dE (show(Lib.join (xs.map (·.data.toList)) v.data.toList).length<=100000 by simpa [ByteArray.size]using J) (by decide))).mono λe w'⟨I,hw⟩=>⟨I,hw⟩)
structure Dg(s:ByteArray)(v:Nat):Prop where
 lt:v<100
 dec:(⟨(Lib.decDigits v).toArray⟩:ByteArray)=s
 par:Lib.parseIntB 64 s.data.toList=.ok v
 trim:(⟨(Lib.trimPrefix s.data.toList [45]).toArray⟩:ByteArray)=s
 pos:0<s.size
 le:s.size<=100
 dig:∀b∈s.data.toList,48<=b.toNat/\b.toNat<=57
 zero:s[0]?=some 48->s.size=1
theorem H6{s:ByteArray}{v:Nat}(h:Dg s v):Fn prog 231 [ii v] W (dp (.string s) W):=by
 have S:=St.start W;refine zI func231 ?_;refine zC (Xi v h.lt h.dec) ?_;intro z y S;exact zZ
theorem Ga{s:ByteArray}(h:∀b∈s.data.toList,48<=b.toNat/\b.toNat<=57):Fn prog 324 [.string s] W (dp (ii s.size) W):=by
 have S:=St.start W;refine zI func324 ?_;refine zg ?_;refine Nk S fk rfl ?_;intro r J D S;refine zg ?_;refine dl (λm e w=>∃p:Nat,p+m=s.size/\SL e [(0,.string s),(6,pt r)]/\St No W w [.it r s p]) s.size ⟨0,om,sl,S⟩ ?_;clear S;rintro m e L ⟨p,I,y,S⟩;rw[y.fold];by_cases v:p<s.size
 ·have z:s[p]?=some s[p]:=getElem?_pos s p v;have hd:=h s[p] (Array.getElem_mem_toList _);generalize s[p]=b at z hd;refine zg ?_;refine Rb (i:=0) S rfl rfl z om rfl ?_;intro O S;refine zg ?_;refine cq (uz rfl rfl (cC om)) ?_;refine zg ?_;refine dr rfl ?_;refine cq (qA rfl rfl (cC om)) ?_;refine zg ?_;exact⟨m-1,om,p+1,om,sl,S⟩
 ·obtain rfl:p=s.size:=om;refine zg ?_;refine Re (i:=0) S rfl rfl (cN _) ?_;refine zg ?_;refine cq (Ab fk rfl) ?_;exact zZ
theorem TU{s:ByteArray}{v:Nat}(h:Dg s v):Fn prog 309 [.string s,ii 0] W (dp (.tuple #[ii v,ii s.size,ii 0]) W):=by
 have J:s.extract 0 s.size=s:=by simp
 have z:=h.pos;have ac:=h.le;have ab:=h.dig;have S:=St.start W;refine zI func309 ?_;refine zg ?_;refine dr rfl ?_;refine cq (Ab fk rfl) ?_;refine zg ?_;refine cq (TR fk rfl rfl (by decide) om) ?_;rw[show s.extract (0:Int).toNat s.size=s from J];refine zC (V5 s ⟨#[45]⟩ h.trim) ?_;intro ad L S;refine zg ?_;refine cq (Ab fk rfl) ?_;refine zg ?_;refine cq (Ab fk rfl) ?_;refine zg ?_;obtain⟨b,I⟩:∃b,s[0]?=some b:=⟨_,getElem?_pos s 0 z⟩;have hz:b=48->s.size=1:=λe=>h.zero (by rw[I,e])
 have D:s.extract (0:Int).toNat ((0+((s.size:Int)-0-s.size)+s.size:Int)).toNat=s:=by
  rw[(om:((0+((s.size:Int)-0-s.size)+s.size:Int)).toNat=s.size)];exact J
 by_cases y:b=48
 ·have h1:=hz y;subst y;refine zC (Ga h.dig) ?_;intro ae O S;refine zg ?_;refine dr rfl ?_;refine cq (wk (n:=0) (b:=48) fk rfl rfl (by decide) I) ?_;refine dr rfl ?_;refine cq (cH (v:=.bool true) rfl) ?_;refine zg ?_;refine cq (PA fk rfl rfl rfl (by decide) om om) ?_;rw[D];refine zC (PB s om h.par) ?_;intro ag U S;refine zg ?_;refine cq (Pz underlying269 rfl) ?_;refine zX ?_;exact⟨by rw[(om:(0+((s.size:Int)-0-s.size)+s.size:Int)=s.size)],S.out⟩
 ·have aa:¬((b.toNat:Int)=48):=λe=>y (UInt8.toNat_inj.1 (by show b.toNat=48;omega));refine zC (Ga h.dig) ?_;intro ah V S;refine zg ?_;refine dr rfl ?_;refine cq (wk (n:=0) (b:=b) fk rfl rfl (by decide) I) ?_;refine zg ?_;refine cq (PA fk rfl rfl rfl (by decide) om om) ?_;rw[D];refine zC (PB s om h.par) ?_;intro ai Z S;refine zg ?_;refine cq (Pz underlying269 rfl) ?_;refine zX ?_;exact⟨by rw[(om:(0+((s.size:Int)-0-s.size)+s.size:Int)=s.size)],S.out⟩
theorem TV{s:ByteArray}{v:Nat}(h:Dg s v):Fn prog 293 [.string s] W (dp (.tuple #[ii v,ii 0]) W):=by
 have z:=h.le;have S:=St.start W;refine zI func293 ?_;refine zC (TU h) ?_;intro D y S;refine zg ?_;refine cq (Ab fk rfl) ?_;exact zZ
theorem BI{s:ByteArray}{v:Nat}(h:Dg s v):Fn prog 278 [.string s] W (dp (ii v) W):=by
 have S:=St.start W;refine zI func278 ?_;refine zC (TV h) ?_;intro z y S;exact zZ
theorem Nl:Dg ⟨#[48]⟩ 0:=by constructor<;>decide+kernel
theorem V7:Dg ⟨#[49]⟩ 1:=by constructor<;>decide+kernel
theorem V8:Dg ⟨#[50]⟩ 2:=by constructor<;>decide+kernel
theorem V9:Dg ⟨#[53]⟩ 5:=by constructor<;>decide+kernel
theorem Wa:Dg ⟨#[55]⟩ 7:=by constructor<;>decide+kernel
theorem Yi:Dg ⟨#[49,50]⟩ 12:=by constructor<;>decide+kernel
end Go.Proofs.YtjfeklflkikapaaGreatDoor
