/- hachuretop.WholeFlat: a part of the proof that the law returns true at every input (Str, WordA, AppR, Forest, Reg); no condition of its own. -/
import Derived.Shelf.Strconv.Itoa4
import Derived.Shelf.Strconv.ParseIntPublic10
import Derived.Shelf.Strings.Split
import Derived.Shelf.Strings.Prefix
import Derived.Shelf.Strings.OnBuilder
import Derived.Test.YtipnifjmhlcehaaGreatDoorKA
import Derived.Test.YtipnifjmhlcehaaGreatDoorKC
import Derived.Test.YtipnifjmhlcehaaGreatDoorKD
import Derived.Test.YtipnifjmhlcehaaGreatDoorKE
import Derived.Test.YtipnifjmhlcehaaGreatDoorKB
set_option linter.unusedVariables false
set_option linter.unusedSimpArgs false
set_option maxRecDepth 100000
set_option maxHeartbeats 16000000
namespace Go.Proofs.YtipnifjmhlcehaaGreatDoor
section
open Go.Shelf
def jlt:Ren where
 f:=fun n=>match n with | 146=>249 | 221=>262 | 268=>278 | 138=>279 | 143=>280 | 195=>293 | 197=>294 | 218=>295 | 219=>296 | 260=>309 | 217=>310 | 225=>300 | 224=>299 | 267=>311 | 266=>319 | 314=>320 | n=>n
 t:=fun n=>match n with | 9=>9 | 31=>39 | 3=>3 | 4=>4 | 0=>0 | 105=>460 | 21=>21 | 5=>5 | 46=>318 | 119=>479 | 139=>482 | 138=>481 | 146=>381 | 51=>294 | n=>n
 g:=fun n=>match n with | 1=>3 | 3=>6 | 4=>7 | n=>n
theorem jlu:Lays.n146 Tryz.prog jlt where
 mixed:=rfl
 f138:=Tryz.func279.trans rfl
 f143:=Tryz.func280.trans rfl
 f146:=Tryz.func249.trans rfl
 f195:=Tryz.func293.trans rfl
 f197:=Tryz.func294.trans rfl
 f217:=Tryz.func310.trans rfl
 f218:=Tryz.func295.trans rfl
 f219:=Tryz.func296.trans rfl
 f221:=Tryz.func262.trans rfl
 f224:=Tryz.func299.trans rfl
 f225:=Tryz.func300.trans rfl
 f260:=Tryz.func309.trans rfl
 f266:=Tryz.func319.trans rfl
 f267:=Tryz.func311.trans rfl
 f268:=Tryz.func278.trans rfl
 f314:=Tryz.func320.trans rfl
 t0:=Tryz.underlying0
 a0:=Tryz.isAgg0
 z0:=Tryz.sizeOf0
 v0:=Tryz.zeroValue0
 t3:=q3
 a3:=Tryz.isAgg3
 z3:=qz3
 v3:=qv3
 t4:=q4
 a4:=Tryz.isAgg4
 z4:=Tryz.sizeOf4
 v4:=Tryz.zeroValue4
 t5:=q5
 a5:=Tryz.isAgg5
 z5:=qz5
 v5:=qv5
 t9:=q9
 a9:=Tryz.isAgg9
 z9:=qz9
 v9:=qv9
 t21:=q21
 a21:=Tryz.isAgg21
 z21:=Tryz.sizeOf21
 v21:=Tryz.zeroValue21
 t31:=q39
 a31:=Tryz.isAgg39
 z31:=Tryz.sizeOf39
 v31:=Tryz.zeroValue39
 t46:=Tryz.underlying318
 a46:=Tryz.isAgg318
 z46:=Tryz.sizeOf318
 v46:=Tryz.zeroValue318
 t51:=nK
 a51:=Tryz.isAgg294
 z51:=Tryz.sizeOf294
 v51:=Tryz.zeroValue294
 t105:=Tryz.underlying460
 a105:=Tryz.isAgg460
 z105:=Tryz.sizeOf460
 v105:=Tryz.zeroValue460
 t119:=Tryz.underlying479
 a119:=Tryz.isAgg479
 z119:=Tryz.sizeOf479
 t138:=Tryz.underlying481
 a138:=Tryz.isAgg481
 z138:=Tryz.sizeOf481
 v138:=Tryz.zeroValue481
 t139:=Tryz.underlying482
 a139:=Tryz.isAgg482
 z139:=Tryz.sizeOf482
 v139:=Tryz.zeroValue482
 t146:=Tryz.underlying381
 a146:=Tryz.isAgg381
 z146:=Tryz.sizeOf381
 v146:=Tryz.zeroValue381
 g1:=by decide +kernel
 g3:=by decide +kernel
 g4:=by decide +kernel
def jk9:Ren where
 f:=fun n=>match n with | 156=>205 | 165=>246 | 166=>247 | 169=>121 | 240=>195 | 241=>261 | 276=>242 | 277=>277 | n=>n
 t:=fun n=>match n with | 31=>39 | 9=>9 | 3=>3 | 4=>4 | 0=>0 | 20=>20 | 72=>233 | 76=>238 | 70=>231 | 37=>31 | 75=>237 | 127=>333 | 164=>392 | 5=>5 | 80=>240 | n=>n
 g:=fun n=>n
theorem jla:Lays.n156 Tryz.prog jk9 where
 mixed:=rfl
 f156:=Tryz.func205.trans rfl
 f165:=Tryz.func246.trans rfl
 f166:=Tryz.func247.trans rfl
 f169:=Tryz.func121.trans rfl
 f240:=Tryz.func195.trans rfl
 f241:=Tryz.func261.trans rfl
 f276:=Tryz.func242.trans rfl
 f277:=Tryz.func277.trans rfl
 t0:=Tryz.underlying0
 a0:=Tryz.isAgg0
 z0:=Tryz.sizeOf0
 v0:=Tryz.zeroValue0
 t3:=q3
 a3:=Tryz.isAgg3
 z3:=qz3
 v3:=qv3
 t4:=q4
 a4:=Tryz.isAgg4
 z4:=Tryz.sizeOf4
 v4:=Tryz.zeroValue4
 t9:=q9
 a9:=Tryz.isAgg9
 z9:=qz9
 v9:=qv9
 t20:=Tryz.underlying20
 a20:=Tryz.isAgg20
 z20:=Tryz.sizeOf20
 v20:=Tryz.zeroValue20
 t31:=q39
 a31:=Tryz.isAgg39
 z31:=Tryz.sizeOf39
 v31:=Tryz.zeroValue39
 t37:=q31
 a37:=Tryz.isAgg31
 z37:=jb3
 v37:=je1
 t70:=Tryz.underlying231
 a70:=Tryz.isAgg231
 z70:=Tryz.sizeOf231
 v70:=Tryz.zeroValue231
 t72:=Tryz.underlying233
 a72:=Tryz.isAgg233
 z72:=Tryz.sizeOf233
 v72:=Tryz.zeroValue233
 t75:=Tryz.underlying237
 a75:=Tryz.isAgg237
 z75:=Tryz.sizeOf237
 v75:=Tryz.zeroValue237
 t76:=Tryz.underlying238
 a76:=Tryz.isAgg238
 z76:=Tryz.sizeOf238
 v76:=Tryz.zeroValue238
 t127:=Tryz.underlying333
 a127:=Tryz.isAgg333
 z127:=Tryz.sizeOf333
 v127:=Tryz.zeroValue333
 t164:=Tryz.underlying392
 a164:=Tryz.isAgg392
 z164:=Tryz.sizeOf392
 v164:=Tryz.zeroValue392
def jlr:Ren where
 f:=fun n=>match n with | 101=>290 | 208=>306 | 206=>313 | n=>n
 t:=fun n=>match n with | 9=>9 | 4=>4 | 3=>3 | n=>n
 g:=fun n=>n
theorem jls:Lays.n101 Tryz.prog jlr where
 mixed:=rfl
 f101:=Tryz.func290.trans rfl
 f206:=Tryz.func313.trans rfl
 f208:=Tryz.func306.trans rfl
 t3:=q3
 a3:=Tryz.isAgg3
 z3:=qz3
 v3:=qv3
 t4:=q4
 a4:=Tryz.isAgg4
 z4:=Tryz.sizeOf4
 v4:=Tryz.zeroValue4
 t9:=q9
 a9:=Tryz.isAgg9
 z9:=qz9
 v9:=qv9
def jlD:Ren where
 f:=fun n=>match n with | 173=>244 | 246=>259 | 283=>272 | 284=>273 | 285=>274 | 286=>275 | 129=>221 | 317=>286 | 318=>287 | 319=>288 | 320=>289 | 337=>304 | 338=>305 | n=>n
 t:=fun n=>match n with | 2=>2 | 3=>3 | 9=>9 | 4=>4 | 171=>435 | 0=>0 | 53=>370 | 37=>31 | 5=>5 | 173=>437 | 212=>453 | 51=>294 | 20=>20 | 213=>454 | 46=>318 | 232=>470 | 233=>471 | n=>n
 g:=fun n=>match n with | 17=>2 | 18=>4 | 19=>5 | n=>n
theorem jlE:Lays.n173 Tryz.prog jlD where
 mixed:=rfl
 f129:=Tryz.func221.trans rfl
 f173:=Tryz.func244.trans rfl
 f246:=Tryz.func259.trans rfl
 f283:=Tryz.func272.trans rfl
 f284:=Tryz.func273.trans rfl
 f285:=Tryz.func274.trans rfl
 f286:=Tryz.func275.trans rfl
 f317:=Tryz.func286.trans rfl
 f318:=Tryz.func287.trans rfl
 f319:=Tryz.func288.trans rfl
 f320:=Tryz.func289.trans rfl
 f337:=Tryz.func304.trans rfl
 f338:=Tryz.func305.trans rfl
 t0:=Tryz.underlying0
 a0:=Tryz.isAgg0
 z0:=Tryz.sizeOf0
 v0:=Tryz.zeroValue0
 t2:=q2
 a2:=Tryz.isAgg2
 z2:=qz2
 v2:=qv2
 t3:=q3
 a3:=Tryz.isAgg3
 z3:=qz3
 v3:=qv3
 t4:=q4
 a4:=Tryz.isAgg4
 z4:=Tryz.sizeOf4
 v4:=Tryz.zeroValue4
 t5:=q5
 a5:=Tryz.isAgg5
 z5:=qz5
 v5:=qv5
 t9:=q9
 a9:=Tryz.isAgg9
 z9:=qz9
 v9:=qv9
 t20:=Tryz.underlying20
 a20:=Tryz.isAgg20
 z20:=Tryz.sizeOf20
 v20:=Tryz.zeroValue20
 t37:=q31
 a37:=Tryz.isAgg31
 z37:=jb3
 v37:=je1
 t46:=Tryz.underlying318
 a46:=Tryz.isAgg318
 z46:=Tryz.sizeOf318
 v46:=Tryz.zeroValue318
 t51:=nK
 a51:=Tryz.isAgg294
 z51:=Tryz.sizeOf294
 v51:=Tryz.zeroValue294
 t53:=fP
 a53:=Tryz.isAgg370
 z53:=Tryz.sizeOf370
 v53:=Tryz.zeroValue370
 t171:=Tryz.underlying435
 a171:=Tryz.isAgg435
 z171:=Tryz.sizeOf435
 v171:=Tryz.zeroValue435
 t173:=Tryz.underlying437
 a173:=Tryz.isAgg437
 z173:=Tryz.sizeOf437
 v173:=Tryz.zeroValue437
 t212:=Tryz.underlying453
 a212:=Tryz.isAgg453
 z212:=Tryz.sizeOf453
 v212:=Tryz.zeroValue453
 t213:=Tryz.underlying454
 a213:=Tryz.isAgg454
 z213:=Tryz.sizeOf454
 t232:=Tryz.underlying470
 a232:=Tryz.isAgg470
 z232:=Tryz.sizeOf470
 v232:=Tryz.zeroValue470
 t233:=Tryz.underlying471
 a233:=Tryz.isAgg471
 z233:=Tryz.sizeOf471
 v233:=Tryz.zeroValue471
 g17:=by decide +kernel
 g18:=by decide +kernel
 g19:=by decide +kernel
def jlz:Ren where
 f:=fun n=>match n with | 174=>292 | 247=>307 | 245=>308 | 287=>314 | 279=>315 | 280=>316 | 281=>317 | 282=>318 | 321=>321 | 322=>322 | 316=>323 | 171=>325 | 205=>324 | 243=>326 | 246=>259 | 283=>272 | 284=>273 | 285=>274 | 286=>275 | 129=>221 | 317=>286 | 318=>287 | 319=>288 | 320=>289 | 337=>304 | 338=>305 | n=>n
 t:=fun n=>match n with | 9=>9 | 3=>3 | 2=>2 | 75=>237 | 85=>458 | 4=>4 | 167=>473 | 5=>5 | 53=>370 | 175=>474 | 46=>318 | 168=>476 | 37=>31 | 0=>0 | 210=>487 | 21=>21 | 127=>333 | 145=>491 | 143=>489 | 171=>435 | 173=>437 | 212=>453 | 51=>294 | 20=>20 | 213=>454 | 232=>470 | 233=>471 | 80=>240 | n=>n
 g:=fun n=>match n with | 15=>8 | 16=>9 | 17=>2 | 18=>4 | 19=>5 | n=>n
theorem jlA:LaysC.n174 Tryz.prog jlz where
 mixed:=rfl
 f129:=Tryz.func221.trans rfl
 f171:=Tryz.func325.trans rfl
 f174:=Tryz.func292.trans rfl
 f205:=Tryz.func324.trans rfl
 f243:=Tryz.func326.trans rfl
 f245:=Tryz.func308.trans rfl
 f246:=Tryz.func259.trans rfl
 f247:=Tryz.func307.trans rfl
 f279:=Tryz.func315.trans rfl
 f280:=Tryz.func316.trans rfl
 f281:=Tryz.func317.trans rfl
 f282:=Tryz.func318.trans rfl
 f283:=Tryz.func272.trans rfl
 f284:=Tryz.func273.trans rfl
 f285:=Tryz.func274.trans rfl
 f286:=Tryz.func275.trans rfl
 f287:=Tryz.func314.trans rfl
 f316:=Tryz.func323.trans rfl
 f317:=Tryz.func286.trans rfl
 f318:=Tryz.func287.trans rfl
 f319:=Tryz.func288.trans rfl
 f320:=Tryz.func289.trans rfl
 f321:=Tryz.func321.trans rfl
 f322:=Tryz.func322.trans rfl
 f337:=Tryz.func304.trans rfl
 f338:=Tryz.func305.trans rfl
 t0:=Tryz.underlying0
 a0:=Tryz.isAgg0
 z0:=Tryz.sizeOf0
 v0:=Tryz.zeroValue0
 t2:=q2
 a2:=Tryz.isAgg2
 z2:=qz2
 v2:=qv2
 t3:=q3
 a3:=Tryz.isAgg3
 z3:=qz3
 v3:=qv3
 t4:=q4
 a4:=Tryz.isAgg4
 z4:=Tryz.sizeOf4
 v4:=Tryz.zeroValue4
 t5:=q5
 a5:=Tryz.isAgg5
 z5:=qz5
 v5:=qv5
 t9:=q9
 a9:=Tryz.isAgg9
 z9:=qz9
 v9:=qv9
 t20:=Tryz.underlying20
 a20:=Tryz.isAgg20
 z20:=Tryz.sizeOf20
 v20:=Tryz.zeroValue20
 t21:=q21
 a21:=Tryz.isAgg21
 z21:=Tryz.sizeOf21
 v21:=Tryz.zeroValue21
 t37:=q31
 a37:=Tryz.isAgg31
 z37:=jb3
 v37:=je1
 t46:=Tryz.underlying318
 a46:=Tryz.isAgg318
 z46:=Tryz.sizeOf318
 v46:=Tryz.zeroValue318
 t51:=nK
 a51:=Tryz.isAgg294
 z51:=Tryz.sizeOf294
 v51:=Tryz.zeroValue294
 t53:=fP
 a53:=Tryz.isAgg370
 z53:=Tryz.sizeOf370
 v53:=Tryz.zeroValue370
 t75:=Tryz.underlying237
 a75:=Tryz.isAgg237
 z75:=Tryz.sizeOf237
 v75:=Tryz.zeroValue237
 t85:=Tryz.underlying458
 a85:=Tryz.isAgg458
 z85:=Tryz.sizeOf458
 v85:=Tryz.zeroValue458
 t127:=Tryz.underlying333
 a127:=Tryz.isAgg333
 z127:=Tryz.sizeOf333
 v127:=Tryz.zeroValue333
 t143:=Tryz.underlying489
 a143:=Tryz.isAgg489
 z143:=Tryz.sizeOf489
 v143:=Tryz.zeroValue489
 t145:=Tryz.underlying491
 a145:=Tryz.isAgg491
 z145:=Tryz.sizeOf491
 v145:=Tryz.zeroValue491
 t167:=Tryz.underlying473
 a167:=Tryz.isAgg473
 z167:=Tryz.sizeOf473
 v167:=Tryz.zeroValue473
 t168:=Tryz.underlying476
 a168:=Tryz.isAgg476
 z168:=Tryz.sizeOf476
 v168:=Tryz.zeroValue476
 t171:=Tryz.underlying435
 a171:=Tryz.isAgg435
 z171:=Tryz.sizeOf435
 v171:=Tryz.zeroValue435
 t173:=Tryz.underlying437
 a173:=Tryz.isAgg437
 z173:=Tryz.sizeOf437
 v173:=Tryz.zeroValue437
 t175:=Tryz.underlying474
 a175:=Tryz.isAgg474
 z175:=Tryz.sizeOf474
 v175:=Tryz.zeroValue474
 t210:=Tryz.underlying487
 a210:=Tryz.isAgg487
 z210:=Tryz.sizeOf487
 v210:=Tryz.zeroValue487
 t212:=Tryz.underlying453
 a212:=Tryz.isAgg453
 z212:=Tryz.sizeOf453
 v212:=Tryz.zeroValue453
 t213:=Tryz.underlying454
 a213:=Tryz.isAgg454
 z213:=Tryz.sizeOf454
 t232:=Tryz.underlying470
 a232:=Tryz.isAgg470
 z232:=Tryz.sizeOf470
 v232:=Tryz.zeroValue470
 t233:=Tryz.underlying471
 a233:=Tryz.isAgg471
 z233:=Tryz.sizeOf471
 v233:=Tryz.zeroValue471
 g15:=by decide +kernel
 g16:=by decide +kernel
 g17:=by decide +kernel
 g18:=by decide +kernel
 g19:=by decide +kernel
 t80:=Tryz.underlying240
 a80:=Tryz.isAgg240
 z80:=Tryz.sizeOf240
 v80:=Tryz.zeroValue240
 i0:=rfl
 i2:=rfl
 i3:=rfl
 i4:=rfl
 i5:=rfl
 i9:=rfl
 i20:=rfl
 i21:=rfl
 i37:=rfl
 i46:=rfl
 i51:=rfl
 i53:=rfl
 i75:=rfl
 i80:=rfl
 i85:=rfl
 i127:=rfl
 i143:=rfl
 i145:=rfl
 i167:=rfl
 i168:=rfl
 i171:=rfl
 i173:=rfl
 i175:=rfl
 i210:=rfl
 i212:=rfl
 i232:=rfl
 i233:=rfl
 m15:=by decide +kernel
 m16:=by decide +kernel
 m17:=by decide +kernel
 m18:=by decide +kernel
 m19:=by decide +kernel
 c0:=rfl
 c2:=rfl
 c3:=rfl
 c4:=rfl
 c5:=rfl
 c9:=rfl
 c20:=rfl
 c21:=rfl
 c37:=rfl
 c46:=rfl
 c51:=rfl
 c53:=rfl
 c75:=rfl
 c80:=rfl
 c85:=rfl
 c127:=rfl
 c143:=rfl
 c145:=rfl
 c167:=rfl
 c168:=rfl
 c171:=rfl
 c173:=rfl
 c175:=rfl
 c210:=rfl
 c212:=rfl
 c213:=rfl
 c232:=rfl
 c233:=rfl
theorem jk8:Builder.Extra Tryz.prog jk9 where
 sizeBuilder:=rfl
 liesBuilder:=by decide +kernel
 t5:=q5
 a5:=Tryz.isAgg5
 z5:=qz5
 v5:=qv5
 infoByte:=rfl
 cellsByte:=rfl
 sizeByte:=rfl
 neB5:=by decide
end
section
open Go.RowKit
def HA.it (r:Nat) (s:ByteArray) (p:Nat):HA:=⟨fun g=>g=r,fun w=>w.heap[r]?=some (.stringIter s p),fun _ _ h _ hB=>(h r rfl).trans hB,fun _ hB g hg=>hg ▸ (Array.getElem?_eq_some_iff.1 hB).1⟩
section
variable {P : Program} {N : Nat} {Q : (Nat → Value) → World → Prop} {e : Nat → Value} {w : World} {ops : Array Oper} {rest : List Oper} {d : Option Tmp} {ty : TypeId} {ps : String} {af : Array Edge} {F : Nat → Prop} {W : World} {L L' : List HA}
theorem sR {t t':TypeId} {x y:Operand} {a b:ByteArray} {B:Bool} (hx:ev e x=.string a) (hy:ev e y=.string b) (hB:(a.toList == b.toList)=B):OpV P e ⟨d,.binOp .eql t x y t',ty,ps,af,none⟩ (.bool B):=by
 intro w; subst hB
 simp [OpR,execOp,hx,hy,eqGuard,binOp,Op.stringOp]
theorem jkn {t t':TypeId} {x y:Operand} {a b:ByteArray} {B:Bool} (hx:ev e x=.string a) (hy:ev e y=.string b) (hB:(!(a.toList == b.toList))=B):OpV P e ⟨d,.binOp .neq t x y t',ty,ps,af,none⟩ (.bool B):=by
 intro w; subst hB
 simp [OpR,execOp,hx,hy,eqGuard,binOp,Op.stringOp]
theorem jiY {t t':TypeId} {x y:Operand} {k:IntKind} {a b:Int} {B:Bool} (hx:ev e x=.int k a) (hy:ev e y=.int k b) (hB:decide (a < b)=B):OpV P e ⟨d,.binOp .lss t x y t',ty,ps,af,none⟩ (.bool B):=by
 intro w; subst hB
 simp [OpR,execOp,hx,hy,eqGuard,binOp,Op.intCmp]
theorem jiZ {t t':TypeId} {x y:Operand} {k:IntKind} {a b:Int} {B:Bool} (hx:ev e x=.int k a) (hy:ev e y=.int k b) (hB:decide (a > b)=B):OpV P e ⟨d,.binOp .gtr t x y t',ty,ps,af,none⟩ (.bool B):=by
 intro w; subst hB
 simp [OpR,execOp,hx,hy,eqGuard,binOp,Op.intCmp]
theorem jkm {t t':TypeId} {x:Operand} {want:Array (String × TypeId)} (hu:P.underlying t=some (.interface want)) (hx:ev e x=.nilIface):OpV P e ⟨d,.binOp .eql t x (.const .nilIface) t',ty,ps,af,none⟩ (.bool true):=by
 intro w
 have h2:ev e (.const .nilIface)=.nilIface:=rfl
 have h3:∀ n:Nat,(Op.equalIn (n+1) t .nilIface .nilIface).run P w=.ok true w:=fun n=>by
  unfold Op.equalIn
  simp [run_underlying hu]
 have h4:(Op.equal t .nilIface .nilIface).run P w=.ok true w:=h3 9999
 simp [OpR,execOp,hx,h2,eqGuard,binOp,h4]
theorem jhg {t t':TypeId} {x:Operand} {want:Array (String × TypeId)} (hu:P.underlying t=some (.interface want)) (hx:ev e x=.nilIface):OpV P e ⟨d,.binOp .neq t x (.const .nilIface) t',ty,ps,af,none⟩ (.bool false):=by
 intro w
 have h2:ev e (.const .nilIface)=.nilIface:=rfl
 have h3:∀ n:Nat,(Op.equalIn (n+1) t .nilIface .nilIface).run P w=.ok true w:=fun n=>by
  unfold Op.equalIn
  simp [run_underlying hu]
 have h4:(Op.equal t .nilIface .nilIface).run P w=.ok true w:=h3 9999
 simp [OpR,execOp,hx,h2,eqGuard,binOp,h4,asBool]
theorem bN {t:TypeId} {x:Operand} {s:ByteArray} (hu:P.underlying t=some .string) (hx:ev e x=.string s):OpV P e ⟨d,.call ⟨.builtin .len,#[x],#[t]⟩,ty,ps,af,none⟩ (ii s.size):=by
 intro w
 simp [OpR,execOp,hx,resolve,invoke,builtin,Builtin.len_,run_underlying hu,goInt]
theorem jhe {t:TypeId} {x lo hi:Operand} {s:ByteArray} {kl kh:IntKind} {m n:Int} (hu:P.underlying t=some .string) (hx:ev e x=.string s) (hl:ev e lo=.int kl m) (hh:ev e hi=.int kh n) (h0:0<=m) (h1:m<=n) (h2:n<=s.size) :
  OpV P e ⟨d,.slice t x (some lo) (some hi) none,ty,ps,af,none⟩ (.string (s.extract m.toNat n.toNat)):=by
 intro w
 have eh:(n.toNat:Int)=n:=Int.toNat_of_nonneg (by omega)
 simp [OpR,execOp,hx,hl,hh,Instr.sliceAt,Instr.slice,run_underlying hu,Instr.sliceBounds,run_sliceBound,eh,h0,h1,h2,(by omega:0<=n)]
theorem jiV {t:TypeId} {x lo:Operand} {s:ByteArray} {kl:IntKind} {m:Int} (hu:P.underlying t=some .string) (hx:ev e x=.string s) (hl:ev e lo=.int kl m) (h0:0<=m) (h1:m<=s.size) :
  OpV P e ⟨d,.slice t x (some lo) none none,ty,ps,af,none⟩ (.string (s.extract m.toNat s.size)):=by
 intro w
 simp [OpR,execOp,hx,hl,Instr.sliceAt,Instr.slice,run_underlying hu,Instr.sliceBounds,run_sliceBound,h0,h1]
theorem jeQ {t:TypeId} {x:Operand} {s:ByteArray} (S:St F W w L) (hu:P.underlying t=some .string) (hx:ev e x=.string s) (hr:∀ r w',Gr w w'->St F W w' (.it r s 0::L)->RW P ops Q rest (yU e d (pt r)) w') :
  RW P ops Q (⟨d,.range t x,ty,ps,af,none⟩::rest) e w:=by
 refine rQ (v:=pt w.heap.size) (w':=w.alloc (.stringIter s 0)) ?_ (hr _ _ (Gr.alloc w _) ?_)
 ·simp [execOp,hx,Instr.range,run_underlying hu,go_sem]
 ·exact S.push (Gr.alloc w _) (h:=.it w.heap.size s 0) (heap_alloc_new w _) (fun g hg=>by rw [hg]; exact Nat.le_refl _)
theorem jgw {i r p : Nat} {x : Operand} {s : ByteArray} {b : UInt8} (S : St F W w L) (hi : qP L i = some (.it r s p)) (hx : ev e x = .pointer (some ⟨r, 0, none⟩)) (hb : s[p]? = some b) (hc : b.toNat < 128) (hs : zF L i (.it r s (p + 1)) = some L')
    (hr : ∀ w', St F W w' L' → RW P ops Q rest (yU e d (.tuple #[.bool true, .int .i64 p, .int .i32 b.toNat])) w') : RW P ops Q (⟨d, .next x true, ty, ps, af, none⟩ :: rest) e w := by
  have h0 : w.heap[r]? = some (.stringIter s p) := S.ok hi
  have hlt : r < w.heap.size := (Array.getElem?_eq_some_iff.1 h0).1
  have hgo : (getObj r).run P w = .ok (.stringIter s p) w := by simp [getObj, Sem.run, h0]
  have hso : (setObj r (.stringIter s (p + 1))).run P w = .ok () { w with heap := w.heap.setIfInBounds r (.stringIter s (p + 1)) } := by simp [setObj, Sem.run, h0]
  have hp : p < s.size := by
    rcases Nat.lt_or_ge p s.size with h | h
    · exact h
    · rw [getElem?_neg _ _ (by omega)] at hb; cases hb
  have hd : Utf8.decode s p = (b.toNat, 1) := by
    have h1 : s.get! (p + 0) = b := by
      rw [Nat.add_zero]
      have : s[p]? = some (s[p]'hp) := getElem?_pos s p hp
      rw [this] at hb
      injection hb with hb
      rw [← hb]
      show s.data[p]! = s.data[p]
      exact getElem!_pos s.data p hp
    unfold Utf8.decode
    simp only [h1]
    rw [if_pos (by omega)]
  refine rQ (v := .tuple #[.bool true, .int .i64 p, .int .i32 b.toNat]) (w' := { w with heap := w.heap.setIfInBounds r (.stringIter s (p + 1)) }) ?_ (hr _ (S.set (F' := fun g => g = r) hi hs ⟨rfl, rfl, rfl, by simp, fun g hg hn => ?_⟩ (fun g hg => .inl hg) ?_ (fun g hg => .inl hg)))
  · simp [execOp, hx, Instr.next, hgo, hp, hd, goInt, hso]
  · simp only [Array.getElem?_setIfInBounds]
    rw [if_neg (fun e => hn e.symm)]
  · show _ = _
    simp [hlt]
theorem jgx {i r p:Nat} {x:Operand} {s:ByteArray} (S:St F W w L) (hi:qP L i=some (.it r s p)) (hx:ev e x=pt r) (hp:s.size<=p)
  (hr:RW P ops Q rest (yU e d (.tuple #[.bool false])) w):RW P ops Q (⟨d,.next x true,ty,ps,af,none⟩::rest) e w:=by
 have h0:w.heap[r]?=some (.stringIter s p):=S.ok hi
 have hgo:(getObj r).run P w=.ok (.stringIter s p) w:=by simp [getObj,Sem.run,h0]
 refine rQ (v:=.tuple #[.bool false]) (w':=w) ?_ hr
 simp [execOp,hx,Instr.next,hgo,Nat.not_lt.2 hp]
end
variable {W w : World}
theorem jlh (w:World) (t:TypeId) (s:ByteArray):Gr w (Lib.bytesWorld w t s):=Lib.bytesWorld_below _ _ _
theorem jiy (s sep:ByteArray) {l:List ByteArray} {m:Int} (hs:s.size < 4294967281) (hm:w.cell? ⟨3,0,none⟩=some (ii m)) (h1:1<=sep.size) (hl:Lib.splitB sep 0 (Lib.countB s sep) s=l) :
  Fn Tryz.prog 249 [.string s,.string sep] w (fun v w'=>v=.slice (some ⟨w.heap.size,0,none⟩) l.length l.length/\w'=w.alloc (.cells (l.map Value.string).toArray 9)):=by
 subst hl
 have hlen:=Lib.splitB_all sep h1 0 _ s rfl
 rw [hlen]
 exact kG (by kernel_rfl) ((Any.strings_Split jlu rfl s sep m w hs hm h1).mono fun e w' ⟨he,hw⟩=>⟨he,hw⟩)
theorem jlb (i:Nat) (hi:i < 100) {s:ByteArray} (h:(⟨(Lib.decDigits i).toArray⟩:ByteArray)=s):Fn Tryz.prog 244 [ii i,ii 10] W (yK (.string s) W):=by
 subst h
 exact kG (by kernel_rfl) ((Any.strconv_FormatInt_10_small jlE i hi W).mono fun e w' ⟨he,hw⟩=>⟨he,hw ▸ Gr.refl W⟩)
theorem jjY (s p:ByteArray) {r:ByteArray} (h:(⟨(Lib.trimPrefix s.data.toList p.data.toList).toArray⟩:ByteArray)=r):Fn Tryz.prog 290 [.string s,.string p] W (yK (.string r) W):=by
 subst h
 exact kG (by kernel_rfl) ((Any.strings_TrimPrefix jls s p W).mono fun e w' ⟨he,hw⟩=>⟨he,hw ▸ Gr.refl W⟩)
theorem jg3 (s:ByteArray) {v:Int} (hs:s.size<=1000) (h:Lib.parseIntB 64 s.data.toList=.ok v):Fn Tryz.prog 292 [.string s,ii 10,ii 64] W (yK (.tuple #[ii v,.nilIface]) W):=by
 refine kG (by kernel_rfl) ((Any.strconv_ParseInt_10_at64_ok jlA s (by omega) v h W).mono fun e w' ⟨he,hw⟩=>⟨he,?_⟩)
 rcases hw with rfl | ⟨t,rfl⟩
 ·exact Gr.refl _
 ·exact jlh _ _ _
theorem jht {b o c:Nat} {x sep:ByteArray} (hc:W.cell? ⟨b,o,none⟩=some (.string x)):Fn Tryz.prog 205 [.slice (some ⟨b,o,none⟩) 1 c,.string sep] W (yK (.string x) W) :=
 kG (by kernel_rfl) ((Any.strings_Join_one jla jk8 b o c x sep W hc).mono fun e w' ⟨he,hw⟩=>⟨he,hw ▸ Gr.refl W⟩)
theorem jjc {b o c:Nat} {xs:List ByteArray} {sep r:ByteArray} (hc:∀ (j:Nat) x,xs[j]?=some x->W.cell? ⟨b,o+j,none⟩=some (.string x)) (hb:b < W.heap.size) (hn:xs.length<=1000) (hcap:xs.length<=c)
  (hr:(⟨(Lib.join (xs.map (·.data.toList)) sep.data.toList).toArray⟩:ByteArray)=r) (hl:r.size<=100000):Fn Tryz.prog 205 [.slice (some ⟨b,o,none⟩) xs.length c,.string sep] W (yK (.string r) W):=by
 subst hr
 exact kG (by kernel_rfl) ((Any.strings_Join jla jk8 b o c xs sep W hc hb (by omega) hcap (Nat.le_trans (show (Lib.join (xs.map (·.data.toList)) sep.data.toList).length<=100000 by simpa [ByteArray.size] using hl) (by decide))).mono fun e w' ⟨he,hw⟩=>⟨he,hw⟩)
structure Dg (s:ByteArray) (v:Nat):Prop where
 lt:v < 100
 dec:(⟨(Lib.decDigits v).toArray⟩:ByteArray)=s
 par:Lib.parseIntB 64 s.data.toList=.ok v
 trim:(⟨(Lib.trimPrefix s.data.toList [45]).toArray⟩:ByteArray)=s
 pos:0 < s.size
 le:s.size<=100
 dig:∀ b ∈ s.data.toList,48<=b.toNat/\b.toNat<=57
 zero:s[0]?=some 48->s.size=1
theorem jcm {s:ByteArray} {v:Nat} (h:Dg s v):Fn Tryz.prog 199 [ii v] W (yK (.string s) W):=by
 have S:=St.start W
 refine zn Tryz.func199 Tryz.results199 Tryz.ntmps199 ?_
 refine z ?_; refine z ?_
 refine jC rfl (jlb v h.lt h.dec) ?_
 rintro _ w1_ ⟨rfl,g1_⟩
 have S:=S.gr g1_
 refine z ?_
 refine zq ?_
 exact yD rfl ⟨rfl,S.out⟩
theorem jap {s:ByteArray} (h:∀ b ∈ s.data.toList,48<=b.toNat/\b.toNat<=57):Fn Tryz.prog 291 [.string s] W (yK (ii s.size) W):=by
 have S:=St.start W
 refine zn Tryz.func291 Tryz.results291 Tryz.ntmps291 ?_
 refine z ?_; refine z ?_
 refine jeQ S q9 rfl ?_
 intro r w1 g1 S
 refine zc ?_
 refine jS ?_
 refine zc ?_
 refine j9 (fun m e w=>∃ p:Nat,p+m=s.size/\SL e [(0,.string s),(6,pt r)]/\St No W w [.it r s p]) s.size ⟨0,by omega,⟨rfl,rfl,trivial⟩,S⟩ ?_
 clear S
 rintro m e w2 ⟨p,hp,hsl,S⟩
 rw [hsl.fold]
 by_cases hlt:p < s.size
 ·have hb:s[p]?=some s[p]:=getElem?_pos s p hlt
  have hd:=h s[p] (Array.getElem_mem_toList _)
  generalize s[p]=b at hb hd
  refine zs ?_
  refine jgw (i:=0) S rfl rfl hb (by omega) rfl ?_
  intro w3 S
  iterate 6 refine z ?_
  refine jE (jiY rfl rfl (decide_eq_false (by omega))) ?_
  refine z ?_; refine z ?_
  refine jQ rfl ?_
  refine jE (jiZ rfl rfl (decide_eq_false (by omega))) ?_
  refine z ?_
  refine zc ?_
  refine jM rfl ?_
  refine zc ?_
  refine j5 ?_
  try show CW _ _ _ _ _ _
  exact ⟨m - 1,by omega,p+1,by omega,⟨rfl,rfl,trivial⟩,S⟩
 ·obtain rfl:p=s.size:=by omega
  refine zs ?_
  refine jgx (i:=0) S rfl rfl (Nat.le_refl _) ?_
  refine z ?_
  refine zc ?_
  refine jM rfl ?_
  refine zc ?_
  refine jY ?_
  repeat first | refine jP ?_ | refine jU ?_
  show CW _ _ _ _ _ _
  refine z ?_
  refine jE (bN q9 rfl) ?_
  refine z ?_
  refine zq ?_
  exact yD rfl ⟨rfl,S.out⟩
theorem ji3 {s:ByteArray} {v:Nat} (h:Dg s v):Fn Tryz.prog 276 [.string s,ii 0] W (yK (.tuple #[ii v,ii s.size,ii 0]) W):=by
 have hx:s.extract 0 s.size=s:=by simp
 have hpos:=h.pos
 have hle:=h.le
 have hd0:=h.dig
 have S:=St.start W
 refine zn Tryz.func276 Tryz.results276 Tryz.ntmps276 ?_
 (iterate 4 refine z ?_); refine zf ?_; iterate 3 refine z ?_
 refine jQ rfl ?_
 refine jE (bN q9 rfl) ?_
 refine zf ?_; iterate 3 refine z ?_
 refine jE (jiV q9 rfl rfl (by decide) (by omega)) ?_
 rw [show s.extract (0:Int).toNat s.size=s from hx]
 refine jC rfl (jjY s ⟨#[45]⟩ h.trim) ?_
 rintro _ w1_ ⟨rfl,g1_⟩
 have S:=S.gr g1_
 refine z ?_; refine z ?_
 refine jE (bN q9 rfl) ?_
 refine z ?_; refine zr ?_; refine z ?_
 refine jE (bN q9 rfl) ?_
 refine zr ?_; refine z ?_
 refine ze ?_
 obtain ⟨b,hb⟩:∃ b,s[0]?=some b:=⟨_,getElem?_pos s 0 hpos⟩
 have hz:b=48->s.size=1:=fun e=>h.zero (by rw [hb,e])
 have hx2:s.extract (0:Int).toNat ((0+((s.size:Int) - 0 - s.size)+s.size:Int)).toNat=s:=by
  rw [show ((0+((s.size:Int) - 0 - s.size)+s.size:Int)).toNat=s.size by omega]; exact hx
 by_cases hbz:b=48
 ·have h1:=hz hbz
  subst hbz
  refine z ?_
  refine jC rfl (jap h.dig) ?_
  rintro _ w2_ ⟨rfl,g2_⟩
  have S:=S.gr g2_
  refine z ?_; refine z ?_; refine zf ?_; refine z ?_; refine z ?_
  refine jQ rfl ?_
  refine jE (wS (n:=0) (b:=48) q9 rfl rfl (by decide) hb) ?_
  refine jQ rfl ?_
  refine jE (jA (v:=.bool true) rfl) ?_
  refine z ?_; refine z ?_; refine zf ?_; refine z ?_; refine z ?_; refine zf ?_; (iterate 5 refine z ?_); refine zr ?_; refine z ?_; refine zr ?_; iterate 4 refine z ?_
  refine jE (jhe q9 rfl rfl rfl (by decide) (by omega) (by omega)) ?_
  rw [hx2]
  refine jC rfl (jg3 s (by omega) h.par) ?_
  rintro _ w3_ ⟨rfl,g3_⟩
  have S:=S.gr g3_
  iterate 6 refine z ?_
  refine jE (jhg Tryz.underlying237 rfl) ?_
  iterate 5 refine z ?_
  refine zq ?_
  exact jeZ rfl rfl rfl ⟨by rw [show (0+((s.size:Int) - 0 - s.size)+s.size:Int)=s.size by omega],S.out⟩
 ·have hb1:¬ ((b.toNat:Int)=48):=fun e=>hbz (UInt8.toNat_inj.1 (by show b.toNat=48; omega))
  refine z ?_
  refine jC rfl (jap h.dig) ?_
  rintro _ w4_ ⟨rfl,g4_⟩
  have S:=S.gr g4_
  refine z ?_; refine z ?_; refine zf ?_; refine z ?_; refine z ?_
  refine jQ rfl ?_
  refine jE (wS (n:=0) (b:=b) q9 rfl rfl (by decide) hb) ?_
  refine zf ?_; refine z ?_; refine z ?_
  refine zw2 ⟨?_⟩
  refine z ?_; refine z ?_
  refine zw2 ⟨?_⟩
  (iterate 5 refine z ?_); refine zr ?_; refine z ?_; refine zr ?_; iterate 4 refine z ?_
  refine jE (jhe q9 rfl rfl rfl (by decide) (by omega) (by omega)) ?_
  rw [hx2]
  refine jC rfl (jg3 s (by omega) h.par) ?_
  rintro _ w5_ ⟨rfl,g5_⟩
  have S:=S.gr g5_
  iterate 6 refine z ?_
  refine jE (jhg Tryz.underlying237 rfl) ?_
  iterate 5 refine z ?_
  refine zq ?_
  exact jeZ rfl rfl rfl ⟨by rw [show (0+((s.size:Int) - 0 - s.size)+s.size:Int)=s.size by omega],S.out⟩
theorem ji4 {s:ByteArray} {v:Nat} (h:Dg s v):Fn Tryz.prog 260 [.string s] W (yK (.tuple #[ii v,ii 0]) W):=by
 have hle:=h.le
 have S:=St.start W
 refine zn Tryz.func260 Tryz.results260 Tryz.ntmps260 ?_
 iterate 3 refine z ?_
 refine jC rfl (ji3 h) ?_
 rintro _ w1_ ⟨rfl,g1_⟩
 have S:=S.gr g1_
 (iterate 8 refine z ?_); refine zf ?_; iterate 3 refine z ?_
 refine jE (bN q9 rfl) ?_
 refine zf ?_; iterate 4 refine z ?_
 refine zq ?_
 exact kY rfl rfl ⟨rfl,S.out⟩
theorem sH {s:ByteArray} {v:Nat} (h:Dg s v):Fn Tryz.prog 245 [.string s] W (yK (ii v) W):=by
 have S:=St.start W
 refine zn Tryz.func245 Tryz.results245 Tryz.ntmps245 ?_
 refine z ?_; refine z ?_
 refine jC rfl (ji4 h) ?_
 rintro _ w1_ ⟨rfl,g1_⟩
 have S:=S.gr g1_
 (iterate 6 refine z ?_); refine zf ?_; refine z ?_; refine z ?_
 refine zq ?_
 exact yD rfl ⟨rfl,S.out⟩
theorem dg0:Dg ⟨#[48]⟩ 0:=by constructor <;> decide +kernel
theorem dg1:Dg ⟨#[49]⟩ 1:=by constructor <;> decide +kernel
theorem dg2:Dg ⟨#[50]⟩ 2:=by constructor <;> decide +kernel
theorem dg5:Dg ⟨#[53]⟩ 5:=by constructor <;> decide +kernel
theorem dg7:Dg ⟨#[55]⟩ 7:=by constructor <;> decide +kernel
theorem jlH:Dg ⟨#[49,50]⟩ 12:=by constructor <;> decide +kernel
end
section
open Go.RowKit
def CS (F:Nat->Prop) (W:World) (L:List HA) (i el k n:Nat) (xs ys:List Value) (wq:World):List Value->Prop
 | []=>St F W wq L
 | [v]=>∃ A',v=.slice A' 1 1/\St F W wq (.row el k A' 1 1 ys::L)
 | [u,_]=>∃ A' c' L',u=.slice A' (n+1) c'/\zF L i (.row el k A' (n+1) c' (xs ++ ys))=some L'/\St F W wq L'
 | _=>False
section
variable {F : Nat → Prop} {W : World} {L : List HA} {i el k n : Nat} {xs ys : List Value} {wq w' : World} {τ : List Value}
theorem CS.gr (h:CS F W L i el k n xs ys wq τ) (g:Gr wq w'):CS F W L i el k n xs ys w' τ:=by
 match τ,h with
 | [],h=>exact St.gr (show St F W wq L from h) g
 | [v],⟨A',e,h⟩=>exact ⟨A',e,h.gr g⟩
 | [u,v],⟨A',c',L',e,hs,h⟩=>exact ⟨A',c',L',e,hs,h.gr g⟩
theorem jcW:∀ (L L':List HA) (i j:Nat) (h:HA),zF L i h=some L'->j ≠ i->qP L' j=qP L j:=by
 intro L
 induction L with
 | nil=>intro L' i j h hs _; cases i <;> simp [zF] at hs
 | cons a L ih =>
  intro L' i j h hs hj
  cases i with
  | zero =>
   simp only [zF,Option.some.injEq] at hs
   subst hs
   cases j with
   | zero=>exact absurd rfl hj
   | succ j=>rfl
  | succ i =>
   simp only [zF] at hs
   cases hM:zF L i h with
   | none=>rw [hM] at hs; cases hs
   | some M =>
    rw [hM] at hs
    obtain rfl:=Option.some.inj hs
    cases j with
    | zero=>rfl
    | succ j=>exact ih M i j h hM (fun e=>hj (by omega))
theorem CS.ok (h:CS F W L i el k n xs ys wq τ) {j:Nat} (hj:j ≠ i) {x:HA} (hx:qP L j=some x):x.ok wq:=by
 match τ,h with
 | [],h=>exact St.ok (show St F W wq L from h) hx
 | [v],⟨A',e,h⟩=>exact h.ok (i:=j+1) hx
 | [u,v],⟨A',c',L',e,hs,h⟩=>exact h.ok (i:=j) ((jcW _ _ _ _ _ hs hj).trans hx)
theorem CS.frw (h:CS F W L i el k n xs ys wq τ):Fr F W wq:=by
 match τ,h with
 | [],h=>exact St.fr (show St F W wq L from h)
 | [v],⟨A',e,h⟩=>exact h.fr
 | [u,v],⟨A',c',L',e,hs,h⟩=>exact h.fr
end
section
variable {P : Program} {e : Nat → Value} {d : Option Tmp} {ty : TypeId} {ps : String} {af : Array Edge} {F : Nat → Prop} {W wq : World} {L : List HA}
theorem zX {t el:TypeId} {i k n:Nat} {parts:List (Nat × Operand)} {z:Value} {l0 l xs:List Value} (hq:CS F W L i el k n xs l wq []) (hu:P.underlying t=some (.slice el)) (hs:∀ w,(sizeOf el).run P w=.ok k w) (hz:∀ w,(zeroValue el).run P w=.ok z w) (hk:z.cells.toList.length=k) (hk0:Nat.beq (1 * k) 0=false) (hn:Nat.ble (1 * k) 16777216=true)
  (h1:lay (fun i=>some (i * k,k)) ((List.replicate 1 z.cells.toList).flatten) (evp e parts)=some l0) (h2:fzl l0=some l) (hl:Nat.beq l.length (1 * k)=true) :
  qM P e ⟨d,.buildSlice t 1 parts.toArray,ty,ps,af,none⟩ wq (fun v w'=>CS F W L i el k n xs l w' [v]):=by
 refine lD (k8 hu hs hz hk hk0 hn h1 h2) ?_
 have S:St F W wq L:=hq
 refine ⟨_,rfl,S.push (Gr.alloc _ _) (h:=.row el k (some ⟨wq.heap.size,0,none⟩) 1 1 l) (Row.of_blk (Blk.new _ _ _) (Nat.eq_of_beq_eq_true hl) (by unfold maxLen; omega)) (fun g hg=>?_)⟩
 have:wq.heap.size=g:=by injection hg
 omega
theorem gF {i:Nat} {s x:Operand} {t el bytes k n c:Nat} {A:Option Addr} {z v:Value} {xs ys:List Value} (hq:CS F W L i el k n xs ys wq [v]) (hi:qP L i=some (.row el k A n c xs)) (hf:∀ h,∃ L',zF L i h=some L')
  (hu:P.underlying t=some (.slice el)) (hI:(P.info? el).map (fun i=>(i.zero,i.size,i.bytes))=some (some z,k,bytes)) (hz:Nat.beq z.cells.size k=true) (hk:Nat.blt 0 k=true)
  (hs:ev e s=.slice A n c) (hx:ev e x=v) (hm:ys.length=1 * k) (h1:(ys.all fun v=>v.oneCell')=true) (hb:(n+1) * (bytes+1)<=140737488355328) :
  qM P e ⟨d,.call ⟨.builtin .append,#[s,x],#[t,t]⟩,ty,ps,af,none⟩ wq (fun u w'=>CS F W L i el k n xs ys w' [u,v]):=by
 obtain ⟨A6,rfl,S6⟩:=hq
 have hR:Rd wq A6 ys:=(S6.row (i:=0) rfl).rd
 have S:St F W wq L:=S6.drop 1
 obtain ⟨inf,hinf,hz0,hz1,hz2⟩:=info_parts hI
 have hk0:0 < k:=Nat.le_of_ble_eq_true hk
 have hz':=Nat.eq_of_beq_eq_true hz
 have hb1:(n+1) * bytes<=140737488355328:=Nat.le_trans (Nat.mul_le_mul_left _ (by omega)) hb
 have hb2:n+1<=140737488355328:=Nat.le_trans (Nat.le_mul_of_pos_right _ (by omega)) hb
 have hRow:=S.row hi
 have hpos:0 < ys.length:=by omega
 obtain ⟨b,o,rfl⟩:=hR.someA hpos
 obtain ⟨v',w',hrun,ho,hg,_,hob⟩:=run_append_own_at (P:=P) wq 0 t ty el inf z k bytes hu hinf hz0 hz1 hz2 hz' hk0 (.slice A n c) n xs hRow ⟨b,o,none⟩ 1 1 ys hm
  (fun j u hu=>by rw [kF]; exact hR.cell rfl hu) (fun u hu=>List.all_eq_true.1 h1 u hu) (by unfold maxLen; omega) hb1 (by omega)
 obtain ⟨A',c',rfl⟩:=Own.form ho
 have hRow':Row w' el k A' (n+1) c' (xs ++ ys):=ho
 obtain ⟨L',hL'⟩:=hf (.row el k A' (n+1) c' (xs ++ ys))
 refine lD (v:=.slice A' (n+1) c') (w':=w') ?_ ⟨A',c',L',rfl,hL',?_⟩
 ·simp [execOp,resolve,invoke,builtin,hs,hx,hrun]
 ·refine S.set hi hL' (Fr.of_grown (F:=fun g=>kZ A g) hg (fun g e=>?_)) (fun g e=>.inl e) hRow' (fun g e=>?_)
  ·cases A with
   | none=>cases e
   | some a=>exact e
  ·have e':(Value.slice A' (n+1) c').ownBlock=some g:=by
    cases A' with
    | none=>cases e
    | some a=>exact e
   rw [e'] at hob
   rcases hob with h | h
   ·left
    cases A with
    | none=>cases h
    | some a=>exact h.symm
   ·injection h with h; right; omega
end
end
section
open Go.RowKit
def yL (f:Nat->Nat) (i:Nat):Nat:=if h:f i < i then yL f (f i) else i
termination_by i
def FOk (n:Nat) (f:Nat->Nat):Prop:=∀ i,i < n->f i<=i
theorem zM {f:Nat->Nat} {i:Nat} (h:f i < i):yL f i=yL f (f i):=by rw [yL,dif_pos h]
theorem kS {f:Nat->Nat} {i:Nat} (h:¬ f i < i):yL f i=i:=by rw [yL,dif_neg h]
theorem bF (f:Nat->Nat) (i:Nat):yL f i<=i:=by
 induction i using Nat.strongRecOn with
 | ind i ih =>
  by_cases h:f i < i
  ·rw [zM h]; exact Nat.le_trans (ih _ h) (Nat.le_of_lt h)
  ·rw [kS h]; exact Nat.le_refl _
theorem nA (f:Nat->Nat) (i:Nat):¬ f (yL f i) < yL f i:=by
 induction i using Nat.strongRecOn with
 | ind i ih =>
  by_cases h:f i < i
  ·rw [zM h]; exact ih _ h
  ·rw [kS h]; exact h
theorem jc0 (f:Nat->Nat) (i:Nat):yL f (yL f i)=yL f i:=kS (nA f i)
theorem gW {n i:Nat} {f:Nat->Nat} (hf:FOk n f) (hi:i < n):yL f (f i)=yL f i:=by
 by_cases h:f i < i
 ·rw [zM h]
 ·have:f i=i:=by have:=hf i hi; omega
  rw [this]
theorem jeX {n i:Nat} {f:Nat->Nat} (hf:FOk n f) (hi:i < n):f (yL f i)=yL f i:=by
 have:=nA f i
 have:=hf (yL f i) (Nat.lt_of_le_of_lt (bF f i) hi)
 omega
def wZ (f:Nat->Nat) (i v:Nat):Nat->Nat:=fun j=>if j=i then v else f j
theorem uJ (f:Nat->Nat) (i v:Nat):wZ f i v i=v:=if_pos rfl
theorem uI {f:Nat->Nat} {i v j:Nat} (h:j ≠ i):wZ f i v j=f j:=if_neg h
theorem jhF {n i:Nat} {f:Nat->Nat} (hf:FOk n f) (hi:i < n):FOk n (wZ f i (f (f i)))/\∀ j,j < n->yL (wZ f i (f (f i))) j=yL f j:=by
 have h1:=hf i hi
 have h2:=hf (f i) (by omega)
 constructor
 ·intro j hj
  by_cases e:j=i
  ·subst e; rw [uJ]; omega
  ·rw [uI e]; exact hf j hj
 ·intro j
  induction j using Nat.strongRecOn with
  | ind j ih =>
   intro hj
   by_cases e:j=i
   ·subst e
    by_cases h3:f (f j) < j
    ·have h4:wZ f j (f (f j)) j < j:=by rw [uJ]; exact h3
     rw [zM h4,uJ,ih _ h3 (by omega),gW hf (by omega),gW hf hj]
    ·have h5:f j=j:=by omega
     have h4:¬ wZ f j (f (f j)) j < j:=by rw [uJ]; exact h3
     rw [kS h4,kS (by omega)]
   ·by_cases h3:f j < j
    ·have h4:wZ f i (f (f i)) j < j:=by rw [uI e]; exact h3
     rw [zM h4,uI e,ih _ h3 (by omega),zM h3]
    ·have h4:¬ wZ f i (f (f i)) j < j:=by rw [uI e]; exact h3
     rw [kS h4,kS h3]
theorem jjd {n a b:Nat} {f:Nat->Nat} (hf:FOk n f) (ha:a < n) (hfa:f a=a) (hfb:f b=b) (hba:b<=a):FOk n (wZ f a b)/\∀ j,j < n->yL (wZ f a b) j=if yL f j=a then b else yL f j:=by
 have hra:yL f a=a:=kS (by omega)
 have hrb:yL f b=b:=kS (by omega)
 constructor
 ·intro j hj
  by_cases e:j=a
  ·subst e; rw [uJ]; exact hba
  ·rw [uI e]; exact hf j hj
 ·intro j
  induction j using Nat.strongRecOn with
  | ind j ih =>
   intro hj
   by_cases e:j=a
   ·subst e
    rw [hra,if_pos rfl]
    by_cases h3:b < j
    ·have h4:wZ f j b j < j:=by rw [uJ]; exact h3
     rw [zM h4,uJ]
     rw [kS]
     rw [uI (by omega)]
     omega
    ·have h4:¬ wZ f j b j < j:=by rw [uJ]; exact h3
     rw [kS h4]
     omega
   ·by_cases h3:f j < j
    ·have h4:wZ f a b j < j:=by rw [uI e]; exact h3
     rw [zM h4,uI e,ih _ h3 (by omega),zM h3]
    ·have h4:¬ wZ f a b j < j:=by rw [uI e]; exact h3
     rw [kS h4,kS h3,if_neg e]
def yM (n:Nat) (f:Nat->Nat):List Value:=(List.range n).map fun i=>ii (f i:Nat)
theorem kJ (n:Nat) (f:Nat->Nat):(yM n f).length=n:=by simp [yM]
theorem uG {n:Nat} {f:Nat->Nat} {i:Nat} (h:i < n):(yM n f)[i]?=some (ii (f i:Nat)):=by simp [yM,h]
theorem xD {n j v:Nat} {f:Nat->Nat}:(yM n f).set j (ii (v:Nat))=yM n (wZ f j v):=by
 apply List.ext_getElem?
 intro i
 rw [List.getElem?_set]
 by_cases hi:i < n
 ·rw [uG (f:=wZ f j v) hi]
  by_cases hij:j=i
  ·subst hij; rw [uJ]; simp [kJ,hi]
  ·rw [if_neg hij,uG hi,uI (fun e=>hij e.symm)]
 ·rw [List.getElem?_eq_none (l:=yM n (wZ f j v)) (by rw [kJ]; omega),List.getElem?_eq_none (l:=yM n f) (by rw [kJ]; omega)]
  split
  ·split
   ·rename_i h1 h2; rw [kJ] at h2; omega
   ·rfl
  ·rfl
theorem kC {n:Nat} {f f':Nat->Nat} (h:∀ i,i < n->f i=f' i):yM n f=yM n f':=by
 unfold yM
 exact List.map_congr_left fun i hi=>by rw [h i (List.mem_range.1 hi)]
section
variable {W : World} {A : Option Addr} {n c : Nat} {f : Nat → Nat}
def jew (W:World) (A:Option Addr) (n c:Nat) (R:(Nat->Nat)->Prop) (w':World):Prop:=∃ f',FOk n f'/\R (yL f')/\Row w' 3 1 A n c (yM n f')/\Fr (kZ A) W w'
theorem jcZ (i:Nat) (hn:n<=1048576) (hi:i < n) (hf:FOk n f) (hA:Row W 3 1 A n c (yM n f)) :
  Fn Tryz.prog 89 [.slice A n c,ii i] W (fun v w'=>v=ii (yL f i:Nat)/\jew W A n c (fun r=>∀ j,j < n->r j=yL f j) w'):=by
 have S:=St.start1 W (.row 3 1 A n c (yM n f)) hA
 have sa_F:yH A:=hA.someA (by omega)
 refine zn Tryz.func89 Tryz.results89 Tryz.ntmps89 ?_
 refine z ?_
 refine zc ?_
 refine jS ?_
 refine zc ?_
 refine j9 (fun m e w=>∃ (i':Nat) (f':Nat->Nat),i'=m/\i' < n/\SL e [(0,.slice A n c),(1,ii i')]/\FOk n f'/\(∀ j,j < n->yL f' j=yL f j)/\yL f i'=yL f i/\St (kZ A) W w [.row 3 1 A n c (yM n f')]) i
  ⟨i,f,rfl,hi,⟨rfl,rfl,trivial⟩,hf,fun _ _=>rfl,rfl,S⟩ ?_
 rintro m e w ⟨k,f',rfl,hk,hsl,hf',hr,hrk,S⟩
 rw [hsl.fold]
 have hfk:=hf' k hk
 have hffk:=hf' (f' k) (by omega)
 have h1:(yM n f')[(k:Int).toNat * 1]?=some (ii (f' k:Nat)):=by rw [Nat.mul_one,Int.toNat_natCast]; exact uG hk
 have h2:(yM n f')[((f' k:Nat):Int).toNat * 1]?=some (ii (f' (f' k):Nat)):=by rw [Nat.mul_one,Int.toNat_natCast]; exact uG (by omega)
 by_cases hne:f' k=k
 ·skip
  refine z ?_; refine z ?_; refine zx ?_
  refine j3 (j7 q3 rfl rfl (S.rd (i:=0) rfl) h1) ?_
  refine z ?_; refine zf ?_
  refine zc ?_
  refine jM rfl ?_
  refine zc ?_
  refine jY ?_
  repeat first | refine jP ?_ | refine jU ?_
  show CW _ _ _ _ _ _
  refine z ?_; refine z ?_
  refine zq ?_
  refine yD rfl ⟨?_,f',hf',hr,S.row (i:=0) rfl,S.fr⟩
  rw [<-hrk,<-hr k hk,kS (by omega)]
 ·have hh:=jhF hf' hk
  have h3:(yM n (wZ f' k (f' (f' k))))[(k:Int).toNat * 1]?=some (ii (f' (f' k):Nat)):=by rw [Nat.mul_one,Int.toNat_natCast,uG hk,uJ]
  refine z ?_; refine z ?_; refine zx ?_
  refine j3 (j7 q3 rfl rfl (S.rd (i:=0) rfl) h1) ?_
  refine z ?_; refine zt ?_; (iterate 5 refine z ?_); refine zx ?_
  refine j3 (j7 q3 rfl rfl (S.rd (i:=0) rfl) h1) ?_
  refine zx ?_
  refine j3 (j7 q3 rfl rfl (S.rd (i:=0) rfl) h2) ?_
  refine zx ?_
  refine qV (i:=0) S rfl (qz3 _) rfl rfl rfl rfl (by rw [kJ]; omega) rfl ?_
  intro w1_ S
  rw [Nat.mul_one,Int.toNat_natCast,xD] at S
  refine z ?_; refine z ?_; refine zx ?_
  refine j3 (j7 q3 rfl rfl (S.rd (i:=0) rfl) h3) ?_
  refine z ?_
  refine ze ?_
  refine ⟨f' (f' k),by omega,f' (f' k),_,rfl,by omega,⟨rfl,rfl,trivial⟩,hh.1,fun j hj=>(hh.2 j hj).trans (hr j hj),?_,S⟩
  rw [<-hrk,<-hr _ (by omega),<-hr k hk,gW hf' (by omega),gW hf' hk]
theorem jhv (a b : Nat) (hn : n ≤ 1048576) (ha : a < n) (hb : b < n) (hf : FOk n f) (hA : Row W 3 1 A n c (yM n f)) :
    Fn Tryz.prog 151 [.slice A n c, .int .i64 a, .int .i64 b] W (fun v w' => v = .tuple #[] ∧ jew W A n c (fun r => ∀ j, j < n → r j = if yL f j = max (yL f a) (yL f b) then min (yL f a) (yL f b) else yL f j) w') := by
  have S := St.start1 W (.row 3 1 A n c (yM n f)) hA
  have sa_F : yH A := hA.someA (by omega)
  have hra := bF f a
  have hrb := bF f b
  refine zn Tryz.func151 Tryz.results151 Tryz.ntmps151 ?_
  refine z ?_; refine z ?_
  refine jC rfl (jcZ a hn ha hf (S.row (i := 0) rfl)) ?_
  rintro _ w1_ ⟨rfl, f1, hf1, hr1, hR1, hF1⟩
  have S := S.set (i := 0) (h' := .row 3 1 A n c (yM n f1)) rfl rfl hF1 (fun g h => .inl h) hR1 (fun g h => .inl h)
  refine z ?_; refine z ?_
  refine jC rfl (jcZ b hn hb hf1 (S.row (i := 0) rfl)) ?_
  rintro _ w2_ ⟨rfl, f2, hf2, hr2, hR2, hF2⟩
  have S := S.set (i := 0) (h' := .row 3 1 A n c (yM n f2)) rfl rfl hF2 (fun g h => .inl h) hR2 (fun g h => .inl h)
  rw [hr1 b hb]
  iterate 6 refine z ?_
  rw [show max ((yL f a : Nat) : Int) ((yL f b : Nat) : Int) = ((max (yL f a) (yL f b) : Nat) : Int) by omega]
  iterate 3 refine z ?_
  rw [show min ((yL f a : Nat) : Int) ((yL f b : Nat) : Int) = ((min (yL f a) (yL f b) : Nat) : Int) by omega]
  refine zx ?_
  refine qV (i := 0) S rfl (qz3 _) rfl rfl rfl rfl (by rw [kJ]; omega) rfl ?_
  intro w3_ S
  rw [Nat.mul_one, Int.toNat_natCast, xD] at S
  refine ze ?_
  have hroot : ∀ x, x < n → f2 (yL f x) = yL f x := fun x hx => by
    have := jeX hf2 (i := x) hx
    rwa [hr2 x hx, hr1 x hx] at this
  have hj := jjd (a := max (yL f a) (yL f b)) (b := min (yL f a) (yL f b)) hf2 (by omega)
    (by rcases Nat.le_total (yL f a) (yL f b) with h | h
        · rw [Nat.max_eq_right h]; exact hroot b hb
        · rw [Nat.max_eq_left h]; exact hroot a ha)
    (by rcases Nat.le_total (yL f a) (yL f b) with h | h
        · rw [Nat.min_eq_left h]; exact hroot a ha
        · rw [Nat.min_eq_right h]; exact hroot b hb) (by omega)
  exact zN ⟨rfl, _, hj.1, fun j hj' => by rw [hj.2 j hj', hr2 j hj', hr1 j hj'], S.row (i := 0) rfl, S.fr⟩
theorem jip (n:Nat) (hn:n<=1048576) (W:World):Fn Tryz.prog 150 [ii n] W (qR id 3 1 n (yM n fun i=>i) W):=by
 have S:=St.start W
 refine zn Tryz.func150 Tryz.results150 Tryz.ntmps150 ?_
 refine z ?_; refine z ?_
 refine vU Tryz.underlying173 xU rfl rfl rfl (n:=n) (c:=n) (by omega) (by omega) (by omega) (by omega) S ?_
 intro A_F w2_ g2_ S sa_F
 iterate 4 refine z ?_
 refine zc ?_
 refine jS ?_
 refine zc ?_
 refine j9 (fun m e w=>∃ k:Nat,k+m=n/\SL e [(3,.slice A_F n n),(8,ii n),(9,ii k)]/\St No W w [.row 3 1 A_F n n (yM n fun i=>if i < k then i else 0)]) n
  ⟨0,by omega,⟨rfl,rfl,rfl,trivial⟩,by
   have e:List.replicate n (ii 0)=yM n (fun i=>if i < 0 then i else 0):=by
    symm; rw [List.eq_replicate_iff]
    refine ⟨kJ _ _,fun v hv=>?_⟩
    obtain ⟨i,_,rfl⟩:=List.mem_map.1 hv
    rfl
   rw [<-e]; exact S⟩ ?_
 rintro m e w ⟨k,hk,hsl,S⟩
 rw [hsl.fold]
 refine z ?_
 refine zk ?_ ?_
 ·intro hc
  (iterate 5 refine z ?_); refine zx ?_
  refine qV (i:=0) S rfl (qz3 _) rfl rfl rfl rfl (by rw [kJ]; omega) rfl ?_
  intro w3_ S
  rw [Nat.mul_one,Int.toNat_natCast,xD] at S
  refine zr ?_; refine z ?_
  refine ze ?_
  refine ⟨m - 1,by omega,k+1,by omega,⟨rfl,rfl,ie (by omega),trivial⟩,S.as_ (i:=0) rfl rfl (fun h=>h.congr (kC fun i hi=>?_)) (fun g h=>h)⟩
  by_cases e:i=k
  ·subst e; rw [uJ,if_pos (by omega)]
  ·rw [uI e]
   by_cases h:i < k
   ·rw [if_pos h,if_pos (by omega)]
   ·rw [if_neg h,if_neg (by omega)]
 ·intro hc
  refine zc ?_
  refine jY ?_
  repeat first | refine jP ?_ | refine jU ?_
  show CW _ _ _ _ _ _
  refine z ?_; refine z ?_
  refine zq ?_
  obtain rfl:k=n:=by omega
  exact yD rfl ((S.as_ (i:=0) (h':=.row 3 1 A_F k k (yM k fun i=>i)) rfl rfl (fun h=>h.congr (kC fun i hi=>if_pos hi)) (fun g h=>h)).retNew (i:=0) (mk:=id) rfl)
end
end
section
open Go.RowKit
def yA (gw gh:Nat) (c:Nat->Int):List Int:=(List.range (gw * gh)).map c
theorem zE (gw gh:Nat) (c:Nat->Int):(yA gw gh c).length=gw * gh:=by simp [yA]
theorem vX {V:List Int} {i:Nat} (h:i < V.length):V[i]?=some (V.getD i 0):=by
 rw [List.getD_eq_getElem?_getD,List.getElem?_eq_getElem h]; rfl
def Side (gw i j:Nat):Prop:=(j+1=i/\0 < i % gw)\/(i+1=j/\0 < j % gw)\/j+gw=i\/i+gw=j
theorem Side.symm {gw i j:Nat} (h:Side gw i j):Side gw j i:=by unfold Side at *; omega
def Adj (gw:Nat) (V:List Int) (t:Int) (i j:Nat):Prop:=i < V.length/\j < V.length/\t<=V.getD i 0/\t<=V.getD j 0/\Side gw i j
theorem Adj.symm {gw:Nat} {V:List Int} {t:Int} {i j:Nat} (h:Adj gw V t i j):Adj gw V t j i:=⟨h.2.1,h.1,h.2.2.2.1,h.2.2.1,h.2.2.2.2.symm⟩
inductive Conn (gw:Nat) (V:List Int) (t:Int):Nat->Nat->Prop
 | refl (i:Nat):Conn gw V t i i
 | step {i j k:Nat}:Adj gw V t i j->Conn gw V t j k->Conn gw V t i k
theorem Conn.trans {gw:Nat} {V:List Int} {t:Int} {i j k:Nat} (h:Conn gw V t i j) (h':Conn gw V t j k):Conn gw V t i k:=by
 induction h with
 | refl=>exact h'
 | step a _ ih=>exact .step a (ih h')
theorem Conn.symm {gw:Nat} {V:List Int} {t:Int} {i j:Nat} (h:Conn gw V t i j):Conn gw V t j i:=by
 induction h with
 | refl=>exact .refl _
 | step a _ ih=>exact ih.trans (.step a.symm (.refl _))
theorem Conn.of_adj {gw:Nat} {V:List Int} {t:Int} {i j:Nat} (h:Adj gw V t i j):Conn gw V t i j:=.step h (.refl _)
structure SetsOk (gw:Nat) (V:List Int) (t:Int) (k:Nat) (f:Nat->Nat):Prop where
 ok:FOk V.length f
 le:k<=V.length
 conn:∀ i,i < V.length->Conn gw V t i (yL f i)
 left:∀ i,i < k->t<=V.getD i 0->0 < i % gw->t<=V.getD (i - 1) 0->yL f i=yL f (i - 1)
 up:∀ i,i < k->t<=V.getD i 0->gw<=i->t<=V.getD (i - gw) 0->yL f i=yL f (i - gw)
theorem SetsOk.join {gw k:Nat} {V:List Int} {t:Int} {f f':Nat->Nat} (h:SetsOk gw V t k f) {a b:Nat} (ha:a < V.length) (hb:b < V.length) (hab:Adj gw V t a b) (hok:FOk V.length f')
  (hr:∀ j,j < V.length->yL f' j=if yL f j=max (yL f a) (yL f b) then min (yL f a) (yL f b) else yL f j):SetsOk gw V t k f'/\yL f' a=yL f' b:=by
 have hcab:Conn gw V t (yL f a) (yL f b):=((h.conn a ha).symm.trans (.of_adj hab)).trans (h.conn b hb)
 have key:Conn gw V t (max (yL f a) (yL f b)) (min (yL f a) (yL f b)):=by
  rcases Nat.le_total (yL f a) (yL f b) with e | e
  ·rw [Nat.max_eq_right e,Nat.min_eq_left e]; exact hcab.symm
  ·rw [Nat.max_eq_left e,Nat.min_eq_right e]; exact hcab
 have same:∀ i j,i < V.length->j < V.length->yL f i=yL f j->yL f' i=yL f' j:=fun i j hi hj e=>by rw [hr i hi,hr j hj,e]
 have hle:=h.le
 refine ⟨⟨hok,hle,fun i hi=>?_,fun i hi h1 h2 h3=>same _ _ (by omega) (by omega) (h.left i hi h1 h2 h3),fun i hi h1 h2 h3=>same _ _ (by omega) (by omega) (h.up i hi h1 h2 h3)⟩,?_⟩
 ·rw [hr i hi]
  split
  ·rename_i e
   have:=h.conn i hi
   rw [e] at this
   exact this.trans key
  ·exact h.conn i hi
 ·rw [hr a ha,hr b hb]
  rcases Nat.le_total (yL f a) (yL f b) with e | e
  ·rw [Nat.max_eq_right e,Nat.min_eq_left e,if_pos rfl]
   split <;> omega
  ·rw [Nat.max_eq_left e,Nat.min_eq_right e,if_pos rfl]
   split <;> omega
section
variable {W : World} {A : Option Addr} {p gw gh cap c : Nat} {V : List Int}
theorem jiM {cc:Nat->Int} {bs:Nat->Nat} {Rs:Nat->Option Nat} (hG:GridAt W p gw gh cc A cap bs Rs) :
  Fn Tryz.prog 86 [pt p] W (qR (fun v=>.tuple #[.agg #[ii gw,ii gh,v],ii 0]) 2 1 (gw * gh) (yC (yA gw gh cc)) W):=by
 have hw:=hG.sw
 have hh:=hG.sh
 have e1:((gw:Int) - 1)=((gw - 1:Nat):Int):=by omega
 have e2:((gh:Int) - 1)=((gh - 1:Nat):Int):=by omega
 have hval:∀ w,Gr W w->Fn Tryz.prog 25 [pt p,.agg #[ii 0,ii 0,ii (gw - 1),ii (gh - 1)]] w (qR (fun v=>.tuple #[v,ii 0]) 2 1 (gw * gh) (yC (yA gw gh cc)) w):=fun w g=>by
  have:=qN (W:=w) 0 0 (gw - 1) (gh - 1) (by omega) (by omega) (hG.gr g)
  rw [<-e1,<-e2,show gw - 1+1 - 0=gw by omega,show gh - 1+1 - 0=gh by omega,gK,Nat.mul_comm gh gw] at this
  exact this
 have S:=St.start W
 refine zn Tryz.func86 Tryz.results86 Tryz.ntmps86 ?_
 refine zs ?_
 refine jF (jL Tryz.zeroValue170 rfl) S ?_
 intro b_b1 w2_ g2_ S
 iterate 4 refine z ?_
 refine jC rfl (xH p gw gh _ w2_ (hG.top.gr S.out)) ?_
 rintro _ w3_ ⟨rfl,g3_⟩
 have S:=S.gr g3_
 iterate 7 refine z ?_
 refine jC rfl (fG p gw gh hw.2 hh.2 _ w3_ (hG.top.gr S.out)) ?_
 rintro _ w4_ ⟨rfl,g4_⟩
 have S:=S.gr g4_
 refine jC rfl (hval w4_ S.out) ?_
 rintro _ w5_ ⟨A_vs,c_vs,rfl,hR_vs,hf_vs,g5_⟩
 have S:=S.pushRow hR_vs hf_vs g5_
 iterate 8 refine z ?_
 refine jE (jN (pl:=[(0,1),(1,1),(2,1)]) Tryz.underlying170 Tryz.zeroValue170 (fun w=>by kernel_rfl) rfl rfl) ?_
 refine jH (i:=1) S rfl (Tryz.sizeOf170 _) rfl rfl rfl rfl rfl rfl ?_
 intro w6_ S
 refine z ?_
 refine zq ?_
 exact wQ Tryz.underlying170 rfl (Tryz.sizeOf170 _) rfl (S.blk (i:=1) rfl) rfl rfl rfl ⟨A_vs,c_vs,rfl,S.row (i:=0) rfl,SepL.fresh S (i:=0) rfl,S.out⟩
theorem jiN (i:Nat) (gh:Int) (n:Nat) (hgw:1<=gw) (hi:i<=1048576):Fn Tryz.prog 88 [.agg #[ii gw,ii gh,.slice A n c],ii i] W (yK (.agg #[ii (i % gw:Nat),ii (i / gw:Nat)]) W):=by
 have e1:(i:Int) % gw=((i % gw:Nat):Int):=by push_cast; rfl
 have e2:(i:Int) / gw=((i / gw:Nat):Int):=by push_cast; rfl
 have S:=St.start W
 refine zn Tryz.func88 Tryz.results88 Tryz.ntmps88 ?_
 refine zs ?_
 refine jF (jO rfl) S ?_
 intro b_b1 w2_ g2_ S
 refine jF (jL kL rfl) S ?_
 intro b_b3 w4_ g4_ S
 refine zc ?_
 refine yB (C:=fun wq=>Gr w4_ wq) [0,1,2,3,4,5,6,7] [8,9] (by kernel_rfl) (by kernel_rfl) (Gr.drew _) ?_
 simp only [j6,List.drop_succ_cons,List.drop_zero]
 refine y ?_; refine y ?_
 refine jV (fun wq hq=>jB q3 rfl rfl ((S.gr hq).blk (i:=1) rfl) rfl) ?_
 refine jW (kU rfl rfl (by omega) (by omega)) ?_
 rw [e1]
 refine y ?_; refine y ?_
 refine jV (fun wq hq=>jB q3 rfl rfl ((S.gr hq).blk (i:=1) rfl) rfl) ?_
 refine jW (vP rfl rfl (by omega) (by omega)) ?_
 rw [e2]
 refine yJ ?_
 intro w5_ g5_
 have S:=S.gr g5_
 refine jE (jN (pl:=[(0,1),(1,1)]) q23 kL (fun w=>by kernel_rfl) rfl rfl) ?_
 refine jH (i:=0) S rfl (qI _) rfl rfl rfl rfl rfl rfl ?_
 intro w6_ S
 refine zq ?_
 exact v8 q23 rfl (qI _) rfl (S.blk (i:=0) rfl) rfl rfl ⟨rfl,S.out⟩
theorem jj7 (t : Int) (gh : Int) (hgw : 1 ≤ gw) (hV : V.length ≤ 1048576) (hV1 : 1 ≤ V.length) (hgwV : gw ≤ V.length) (hA : Rd W A (yC V)) :
    Fn Tryz.prog 87 [.agg #[.int .i64 gw, .int .i64 gh, .slice A V.length c], .int .i64 t] W (fun v w' => ∃ f, SetsOk gw V t V.length f ∧ qR id 3 1 V.length (yM V.length f) W v w') := by
  have sa_A : yH A := hA.someA (by rw [qY]; omega)
  have hget : ∀ i, i < V.length → (yC V)[(i : Int).toNat * 1]? = some (.int .i64 (V.getD i 0)) := fun i hi => by rw [Nat.mul_one, Int.toNat_natCast]; exact qO (vX hi)
  have S := St.start W
  refine zn Tryz.func87 Tryz.results87 Tryz.ntmps87 ?_
  refine zs ?_
  refine jF (jO rfl) S ?_
  intro b_l w2_ g2_ S
  iterate 4 refine z ?_
  refine jC rfl (jip V.length hV w2_) ?_
  rintro _ w3_ ⟨A_F, c_F, rfl, hR_F, hf_F, g3_⟩
  have S := S.pushRow hR_F hf_F g3_
  iterate 5 refine z ?_
  refine zc ?_
  refine jS ?_
  refine zc ?_
  refine j9 (fun m e w => ∃ (k : Nat) (f : Nat → Nat), k + m = V.length ∧ SL e [(1, .int .i64 t), (2, .pointer (some ⟨b_l, 0, none⟩)), (5, .slice A_F V.length c_F), (13, .slice A V.length c), (14, .int .i64 V.length), (15, .int .i64 k)] ∧ SetsOk gw V t k f ∧
    St No W w [.row 3 1 A_F V.length c_F (yM V.length f), .blk b_l 170 [.int .i64 gw, .int .i64 gh, .slice A V.length c]]) V.length
    ⟨0, fun i => i, by omega, ⟨rfl, rfl, rfl, rfl, rfl, rfl, trivial⟩, ⟨fun i _ => Nat.le_refl i, Nat.zero_le _, fun i _ => by rw [kS (by omega)]; exact .refl _, fun i hi => by omega, fun i hi => by omega⟩, S⟩ ?_
  rintro m e w ⟨k, f, hk, hsl, hf, S⟩
  rw [hsl.fold]
  refine z ?_
  refine zk ?_ ?_
  · intro hc
    have hkV : k < V.length := by omega
    have hgk := hget k hkV
    refine z ?_; refine zx ?_
    refine j3 (j7 q2 rfl rfl (hA.gr S.out) hgk) ?_
    iterate 5 refine z ?_
    refine zk ?_ ?_
    · intro hlow
      refine zc ?_
      refine jY ?_
      repeat first | refine jP ?_ | refine jU ?_
      show CW _ _ _ _ _ _
      refine zr ?_; refine z ?_
      refine ze ?_
      refine ⟨m - 1, by omega, k + 1, f, by omega, ⟨rfl, rfl, rfl, rfl, rfl, ie (by omega), trivial⟩, ⟨hf.ok, hkV, hf.conn, fun i hi h1 h2 h3 => ?_, fun i hi h1 h2 h3 => ?_⟩, S⟩
      · by_cases e : i = k
        · subst e; omega
        · exact hf.left i (by omega) h1 h2 h3
      · by_cases e : i = k
        · subst e; omega
        · exact hf.up i (by omega) h1 h2 h3
    · intro hlow
      refine zc ?_
      refine j5 ?_
      try show CW _ _ _ _ _ _
      have em : (k : Int) % gw = ((k % gw : Nat) : Int) := by push_cast; rfl
      refine zc ?_
      refine qL (M := fun e w => SL e [(1, .int .i64 t), (2, .pointer (some ⟨b_l, 0, none⟩)), (5, .slice A_F V.length c_F), (6, .int .i64 k), (13, .slice A V.length c), (14, .int .i64 V.length), (15, .int .i64 k), (37, .bool (decide (0 < k % gw ∧ t ≤ V.getD (k - 1) 0)))] ∧ St No W w [.row 3 1 A_F V.length c_F (yM V.length f), .blk b_l 170 [.int .i64 gw, .int .i64 gh, .slice A V.length c]]) ?_ ?_
      · by_cases h1 : 0 < k % gw
        · have hk1 : 1 ≤ k := by rcases Nat.eq_zero_or_pos k with h | h; · subst h; simp at h1
                                 · exact h
          have hgk1 := hget (k - 1) (by omega)
          rw [show ((k - 1 : Nat) : Int) = (k : Int) - 1 by omega] at hgk1
          by_cases h2 : t ≤ V.getD (k - 1) 0
          · skip
            iterate 3 refine z ?_
            refine jE (kU rfl rfl (by omega) (by omega)) ?_
            rw [em]
            refine zw1 ⟨?_⟩
            (iterate 4 refine z ?_); refine zr ?_; refine zx ?_
            first | refine jK rfl ?_ | (refine jQ rfl ?_; refine j3 (j7 q2 rfl rfl (hA.gr S.out) hgk1) ?_)
            refine z ?_
            refine zw2 ⟨?_⟩
            refine z ?_
            refine ze ?_
            exact ⟨⟨rfl, rfl, rfl, rfl, rfl, rfl, rfl, be (decide_eq_true ⟨h1, h2⟩).symm, trivial⟩, S⟩
          · skip
            iterate 3 refine z ?_
            refine jE (kU rfl rfl (by omega) (by omega)) ?_
            rw [em]
            refine zw1 ⟨?_⟩
            (iterate 4 refine z ?_); refine zr ?_; refine zx ?_
            first | refine jK rfl ?_ | (refine jQ rfl ?_; refine j3 (j7 q2 rfl rfl (hA.gr S.out) hgk1) ?_)
            refine z ?_
            refine zw2 ⟨?_⟩
            refine z ?_
            refine ze ?_
            exact ⟨⟨rfl, rfl, rfl, rfl, rfl, rfl, rfl, be (decide_eq_false fun h => h2 h.2).symm, trivial⟩, S⟩
        · skip
          iterate 3 refine z ?_
          refine jE (kU rfl rfl (by omega) (by omega)) ?_
          rw [em]
          refine zw1 ⟨?_⟩
          (iterate 4 refine z ?_); refine zr ?_; refine zx ?_
          first | refine jK rfl ?_ | (refine jQ rfl ?_; refine j3 (j7 q2 rfl rfl (hA.gr S.out) (by assumption)) ?_)
          refine z ?_
          refine zw2 ⟨?_⟩
          refine z ?_
          refine ze ?_
          exact ⟨⟨rfl, rfl, rfl, rfl, rfl, rfl, rfl, be (decide_eq_false fun h => h1 h.1).symm, trivial⟩, S⟩
      · rintro e1 w1 ⟨hsl, S⟩
        rw [hsl.fold]
        refine zc ?_
        refine qL (M := fun e w => ∃ f, SetsOk gw V t k f ∧ (0 < k % gw → t ≤ V.getD (k - 1) 0 → yL f k = yL f (k - 1)) ∧ SL e [(1, .int .i64 t), (2, .pointer (some ⟨b_l, 0, none⟩)), (5, .slice A_F V.length c_F), (6, .int .i64 k), (13, .slice A V.length c), (14, .int .i64 V.length), (15, .int .i64 k)] ∧ St No W w [.row 3 1 A_F V.length c_F (yM V.length f), .blk b_l 170 [.int .i64 gw, .int .i64 gh, .slice A V.length c]]) ?_ ?_
        · skip
          refine zk ?_ ?_
          · intro hl
            have hk1 : 1 ≤ k := by rcases Nat.eq_zero_or_pos k with h | h; · subst h; simp at hl
                                   · exact h
            have hadj : Adj gw V t k (k - 1) := ⟨hkV, by omega, hlow, hl.2, .inl ⟨by omega, hl.1⟩⟩
            (iterate 3 refine z ?_); refine zr ?_
            rw [show (k : Int) - 1 = ((k - 1 : Nat) : Int) by omega]
            refine jC rfl (jhv k (k - 1) hV hkV (by omega) hf.ok (S.row (i := 0) rfl)) ?_
            rintro _ w4_ ⟨rfl, f1, hf1, hr1, hR1, hF1⟩
            have S := S.set (i := 0) (h' := .row 3 1 A_F V.length c_F (yM V.length f1)) rfl rfl hF1 (fun g h => .inl h) hR1 (fun g h => .inl h)
            refine ze ?_
            have hj := hf.join hkV (by omega) hadj hf1 hr1
            exact ⟨f1, hj.1, fun _ _ => hj.2, ⟨rfl, rfl, rfl, rfl, rfl, rfl, rfl, trivial⟩, S⟩
          · intro hl
            refine zc ?_
            refine j5 ?_
            try show CW _ _ _ _ _ _
            exact ⟨f, hf, fun h1 h2 => absurd ⟨h1, h2⟩ hl, ⟨rfl, rfl, rfl, rfl, rfl, rfl, rfl, trivial⟩, S⟩
        · rintro e2 w2 ⟨f2, hf2, hleft, hsl, S⟩
          rw [hsl.fold]
          refine zc ?_
          refine qL (M := fun e w => SL e [(1, .int .i64 t), (2, .pointer (some ⟨b_l, 0, none⟩)), (5, .slice A_F V.length c_F), (6, .int .i64 k), (13, .slice A V.length c), (14, .int .i64 V.length), (15, .int .i64 k), (58, .bool (decide (gw ≤ k ∧ t ≤ V.getD (k - gw) 0)))] ∧ St No W w [.row 3 1 A_F V.length c_F (yM V.length f2), .blk b_l 170 [.int .i64 gw, .int .i64 gh, .slice A V.length c]]) ?_ ?_
          · by_cases h1 : gw ≤ k
            · have hgk1 := hget (k - gw) (by omega)
              rw [show ((k - gw : Nat) : Int) = (k : Int) - gw by omega] at hgk1
              by_cases h2 : t ≤ V.getD (k - gw) 0
              · skip
                iterate 3 refine z ?_
                refine zw1 ⟨?_⟩
                (iterate 6 refine z ?_); refine zr ?_; refine zx ?_
                first | refine jK rfl ?_ | (refine jQ rfl ?_; refine j3 (j7 q2 rfl rfl (hA.gr S.out) hgk1) ?_)
                refine z ?_
                refine zw2 ⟨?_⟩
                refine z ?_
                refine ze ?_
                exact ⟨⟨rfl, rfl, rfl, rfl, rfl, rfl, rfl, be (decide_eq_true ⟨h1, h2⟩).symm, trivial⟩, S⟩
              · skip
                iterate 3 refine z ?_
                refine zw1 ⟨?_⟩
                (iterate 6 refine z ?_); refine zr ?_; refine zx ?_
                first | refine jK rfl ?_ | (refine jQ rfl ?_; refine j3 (j7 q2 rfl rfl (hA.gr S.out) hgk1) ?_)
                refine z ?_
                refine zw2 ⟨?_⟩
                refine z ?_
                refine ze ?_
                exact ⟨⟨rfl, rfl, rfl, rfl, rfl, rfl, rfl, be (decide_eq_false fun h => h2 h.2).symm, trivial⟩, S⟩
            · skip
              iterate 3 refine z ?_
              refine zw1 ⟨?_⟩
              (iterate 6 refine z ?_); refine zr ?_; refine zx ?_
              first | refine jK rfl ?_ | (refine jQ rfl ?_; refine j3 (j7 q2 rfl rfl (hA.gr S.out) (by assumption)) ?_)
              refine z ?_
              refine zw2 ⟨?_⟩
              refine z ?_
              refine ze ?_
              exact ⟨⟨rfl, rfl, rfl, rfl, rfl, rfl, rfl, be (decide_eq_false fun h => h1 h.1).symm, trivial⟩, S⟩
          · rintro e3 w3 ⟨hsl, S⟩
            rw [hsl.fold]
            refine zk ?_ ?_
            · intro hu
              have hadj : Adj gw V t k (k - gw) := ⟨hkV, by omega, hlow, hu.2, .inr (.inr (.inl (by omega)))⟩
              (iterate 5 refine z ?_); refine zr ?_
              rw [show (k : Int) - gw = ((k - gw : Nat) : Int) by omega]
              refine jC rfl (jhv k (k - gw) hV hkV (by omega) hf2.ok (S.row (i := 0) rfl)) ?_
              rintro _ w5_ ⟨rfl, f1, hf1, hr1, hR1, hF1⟩
              have S := S.set (i := 0) (h' := .row 3 1 A_F V.length c_F (yM V.length f1)) rfl rfl hF1 (fun g h => .inl h) hR1 (fun g h => .inl h)
              refine zr ?_; refine z ?_
              refine ze ?_
              have hj := hf2.join hkV (by omega) hadj hf1 hr1
              have same : ∀ i j, i < V.length → j < V.length → yL f2 i = yL f2 j → yL f1 i = yL f1 j := fun i j hi hj e => by rw [hr1 i hi, hr1 j hj, e]
              refine ⟨m - 1, by omega, k + 1, f1, by omega, ⟨rfl, rfl, rfl, rfl, rfl, ie (by omega), trivial⟩, ⟨hf1, hkV, hj.1.conn, fun i hi h1 h2 h3 => ?_, fun i hi h1 h2 h3 => ?_⟩, S⟩
              · by_cases e : i = k
                · subst e; exact same _ _ hkV (by omega) (hleft h2 h3)
                · exact hj.1.left i (by omega) h1 h2 h3
              · by_cases e : i = k
                · subst e; exact hj.2
                · exact hj.1.up i (by omega) h1 h2 h3
            · intro hu
              refine zr ?_; refine z ?_
              refine ze ?_
              refine ⟨m - 1, by omega, k + 1, f2, by omega, ⟨rfl, rfl, rfl, rfl, rfl, ie (by omega), trivial⟩, ⟨hf2.ok, hkV, hf2.conn, fun i hi h1 h2 h3 => ?_, fun i hi h1 h2 h3 => ?_⟩, S⟩
              · by_cases e : i = k
                · subst e; exact hleft h2 h3
                · exact hf2.left i (by omega) h1 h2 h3
              · by_cases e : i = k
                · subst e; exact absurd ⟨h2, h3⟩ hu
                · exact hf2.up i (by omega) h1 h2 h3
  · intro hc
    refine zc ?_
    refine jY ?_
    repeat first | refine jP ?_ | refine jU ?_
    show CW _ _ _ _ _ _
    refine z ?_; refine z ?_
    refine zq ?_
    obtain rfl : k = V.length := by omega
    exact yD rfl ⟨f, hf, S.retNew (i := 0) (mk := id) rfl⟩
end
end
end Go.Proofs.YtipnifjmhlcehaaGreatDoor
