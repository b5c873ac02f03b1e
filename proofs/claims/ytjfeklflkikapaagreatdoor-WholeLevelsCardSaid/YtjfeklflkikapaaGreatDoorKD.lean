/- hachuretop.WholeLevels: a part of the proof that the law returns true at every input; no condition of its own. -/
import Derived.Test.YtjfeklflkikapaaGreatDoorKC
set_option maxRecDepth 100000
set_option maxHeartbeats 16000000
set_option linter.unusedVariables false
set_option linter.unusedSimpArgs false
namespace Go.Proofs.YtjfeklflkikapaaGreatDoor
open Go.Proofs.Tryz Go.RowKit
variable{Qq:(Nat->Value)->Prop}{Q:(Nat->Value)->World->Prop}{af:Array Edge}{fs:Array Field}{ops:Array Oper}{rs:Array ResultVar}{fn:Func}{f:FuncId}{h:HA}{a:Int}{srest:List (Nat × Oper)}{σ:List (Nat × Value)}{Qt:List (Nat × Value)->(Nat->Value)->Prop}{Ct:List (Nat × Value)->World->Prop}{L' tl:List HA}{hd:List Nat}{args:List Operand}{l vs xs τ:List Value}{Qs:List Value->(Nat->Value)->Prop}{Cs:List Value->World->Prop}{N b c el g i j k k1 k2 m n q tb:Nat}{sp:Nat->Bool}{F:Nat->Prop}{e:Nat->Value}{op:Op}{hi x:Operand}{A l0:Option Addr}{d:Option Tmp}{P:Program}{G G' G1 G2:Prop}{dd:TypeDesc}{t ty:TypeId}{u v2:Value}{R:Value->World->Prop}{W w w' wq:World}{C:World->Prop}
theorem gm {L : List HA} {x : HA} (i : Nat) (h : gi L i = some x) : x ∈ L := dD (wI L i ▸ h)
theorem mm {L : List HA} {x : HA} (h : x ∈ L := by first|exact gm 0 rfl|exact gm 1 rfl|exact gm 2 rfl|exact gm 3 rfl|exact gm 4 rfl|exact gm 5 rfl|exact gm 6 rfl|exact gm 7 rfl|exact gm 8 rfl|exact gm 9 rfl|exact gm 10 rfl|exact gm 11 rfl|exact gm 12 rfl|exact gm 13 rfl) : x ∈ L := h
def YE : Op → Bool
  | .binOp _ _ _ _ _ => false
  | .unOp .neg _ _ => false
  | _ => true
def YF : Op → Bool
  | .binOp .add _ _ _ _ => false
  | .binOp .sub _ _ _ _ => false
  | .binOp .mul _ _ _ _ => false
  | _ => true
def X7 : Op → Bool
  | .store _ _ _ => false
  | .load _ _ => false
  | .alloc _ => false
  | .box _ _ => false
  | _ => true
class Sz (P : Program) (t : Nat) (n : outParam Nat) : Prop where h : ∀ w, (sizeOf t).run P w = .ok n w
class Zv (P : Program) (t : Nat) where
  z : Value
  h : ∀ w, (zeroValue t).run P w = .ok z w
class Bd (P : Program) (t : Nat) where
  z : Value
  pl : List (Nat × Nat)
  h : ∃ fs, P.underlying t = some (.struct fs) ∧ (∀ w, (zeroValue t).run P w = .ok z w) ∧ ∀ w, (fs.mapM fun f => (Prod.mk f.offset <$> sizeOf f.type : Sem (Nat × Nat))).run P w = .ok pl.toArray w
section
variable{σ:List Value}{τ:List (Nat × Value)}{rest:List Oper}{ps:String}
theorem oP {v : Value} (ha : YE op = true) (h : n7 (ev e) op = some v) : iE P e ⟨d, op, ty, ps, af, none⟩ v := cH h
theorem oQ {v : Value} (ha : YF op = true) (h : n7 (ev e) op = some v) : iE P e ⟨d, op, ty, ps, af, none⟩ v := cH h
theorem oD {t : TypeId} {parts : List (Nat × Operand)} {l0 l : List Value} [i : Bd P t] (h1 : yS (fun k => i.pl[k]?) i.z.cells.toList (yQ e parts) = some l0) (h2 : lj l0 = some l) : iE P e ⟨d, .build t parts.toArray, ty, ps, af, none⟩ (.agg l.toArray) := by
  obtain ⟨fs, a, b, c⟩ := i.h
  exact kL a b c h1 h2
theorem oK {t tb b o : Nat} {x : Operand} {v : Value} {l : List Value} [i : Sc P t] (hx : ev e x = .pointer (some ⟨b, o, none⟩)) (hB : eL w b tb l) (hl : l[o]? = some v) : gd P e ⟨d, .load t x, ty, ps, af, none⟩ w v := by
  obtain ⟨dd, g1, g2⟩ := i.h
  exact cV g1 g2 hx hB hl
theorem oJ {t tb b o n : Nat} {x : Operand} {cs l : List Value} [i : Ag P t n] (hx : ev e x = .pointer (some ⟨b, o, none⟩)) (hB : eL w b tb l) (hl : lj ((l.drop o).take n) = some cs) (hn : cs.length = n) : gd P e ⟨d, .load t x, ty, ps, af, none⟩ w (.agg cs.toArray) := by
  obtain ⟨⟨dd, g1, g2⟩, g3, _⟩ := i.h
  exact fx g1 g2 (g3 _) hx hB hl hn
theorem EN {F : Nat → Prop} {W : World} {L : List HA} {i a t tb b o n : Nat} {cs l : List Value} {R : Value → World → Prop} [q : Ag P t n] (S : St F W w L) (hi : gi L i = some (.blk b tb l)) (hx : e a = .pointer (some ⟨b, o, none⟩)) (hl : lj ((l.drop o).take n) = some cs) (hn : cs.length = n) (hR : R (.agg cs.toArray) w) : QF P #[.cell a t] R .ret e w := by
  obtain ⟨⟨dd, g1, g2⟩, g3, _⟩ := q.h
  exact Tb g1 g2 (g3 _) hx (S.blk hi) hl hn hR
theorem YG (k:G')(h:G'->G:=by(intro k;(first|(with_reducible refine dm ?_);exact k|(with_reducible refine dz ?_);exact k|(with_reducible refine eF ?_);exact k|(with_reducible refine gO ?_);(try show CW _ _ _ _ _ _);exact k|(with_reducible refine eX ?_ ?_);rfl;exact k|(with_reducible refine jr ?_ ?_);rfl;exact k|(with_reducible refine k0 ?_);exact k|(with_reducible refine di ?_);show CW _ _ _ _ _ _;exact k|(with_reducible refine mJ ?_);(repeat (first|with_reducible refine mL ?_|with_reducible refine oq ?_));exact k|(with_reducible refine pD ?_);(repeat (first|with_reducible refine nC ?_|with_reducible refine pE ?_));(try show CW _ _ _ _ _ _);exact k))):G:=h k
theorem ra (h : RW P ops Q (⟨d, op, ty, ps, af, none⟩ :: rest) e w) : RW P ops Q (⟨d, op, ty, ps, af, none⟩ :: rest) e w := h
theorem gS {t : TypeId} {x y : Operand} (h : RW P ops Q (⟨d, .store t x y, ty, ps, af, none⟩ :: rest) e w) : RW P ops Q (⟨d, .store t x y, ty, ps, af, none⟩ :: rest) e w := h
theorem gL {t : TypeId} {x : Operand} (h : RW P ops Q (⟨d, .load t x, ty, ps, af, none⟩ :: rest) e w) : RW P ops Q (⟨d, .load t x, ty, ps, af, none⟩ :: rest) e w := h
theorem gV (hk : X7 op = true) (h : RW P ops Q (⟨d, op, ty, ps, af, none⟩ :: rest) e w) : RW P ops Q (⟨d, op, ty, ps, af, none⟩ :: rest) e w := h
theorem qL {t : TypeId} {x : Operand} (h : RQ P ops C Qq (⟨d, .load t x, ty, ps, af, none⟩ :: rest) e) : RQ P ops C Qq (⟨d, .load t x, ty, ps, af, none⟩ :: rest) e := h
theorem qV (hk : X7 op = true) (h : RQ P ops C Qq (⟨d, op, ty, ps, af, none⟩ :: rest) e) : RQ P ops C Qq (⟨d, op, ty, ps, af, none⟩ :: rest) e := h
theorem sa (h : RS P ops Cs sp Qs ((j, ⟨d, op, ty, ps, af, none⟩) :: srest) σ e) : RS P ops Cs sp Qs ((j, ⟨d, op, ty, ps, af, none⟩) :: srest) σ e := h
theorem ta (h : TI.RS P ops Ct sp Qt ((j, ⟨d, op, ty, ps, af, none⟩) :: srest) τ e) : TI.RS P ops Ct sp Qt ((j, ⟨d, op, ty, ps, af, none⟩) :: srest) τ e := h
theorem gX {t : TypeId} {x : Operand} (h : RW P ops Q (⟨d, .box t x, ty, ps, af, none⟩ :: rest) e w) : RW P ops Q (⟨d, .box t x, ty, ps, af, none⟩ :: rest) e w := h
theorem gA {t : TypeId} (h : RW P ops Q (⟨d, .alloc t, ty, ps, af, none⟩ :: rest) e w) : RW P ops Q (⟨d, .alloc t, ty, ps, af, none⟩ :: rest) e w := h
theorem pv {o:Oper}{v:Value}(h:iE P e o v:=by (first|(with_reducible apply oP);rfl;rfl|(with_reducible apply oF);rfl|(with_reducible apply oG);rfl;(with_reducible assumption)|(with_reducible apply oL);rfl|(with_reducible apply oC true);rfl;(first|exact cF (by omega)|exact fX.2 (by omega)|exact f5.2 (by omega))|(with_reducible apply oC false);rfl;(first|exact cC (by omega)|exact et.2 (by omega)|exact eo.2 (by omega))|(with_reducible apply oW);rfl;omega|(with_reducible apply oU);rfl;omega|(with_reducible apply oI);rfl;rfl;(with_reducible assumption);omega;omega|(with_reducible apply oN);rfl;rfl|(with_reducible apply oQ);rfl;rfl|(with_reducible apply oD);rfl;rfl|(with_reducible apply Pc);rfl;(with_reducible assumption)|(with_reducible apply EW);rfl;rfl;omega;omega|(with_reducible apply xd);rfl;rfl;omega;omega)):iE P e o v:=h
theorem pr {o:Oper}{v:Value}(h:gd P e o w v:=by (first|(with_reducible apply oB);rfl;(with_reducible assumption);exact mm;rfl|(with_reducible apply oA);rfl;(with_reducible assumption);exact mm;rfl;rfl|(with_reducible apply oR);rfl;(with_reducible assumption);exact mm;(with_reducible assumption))):gd P e o w v:=h
theorem pq {o:Oper}{v:Value}{w':World}(g:Gr w w')(h:Gr w w'->gd P e o w' v:=by(intro zg;(first|(with_reducible apply oB);rfl;exact St.gr (by assumption) zg;exact mm;rfl|(with_reducible apply oA);rfl;exact St.gr (by assumption) zg;exact mm;rfl;rfl|(with_reducible apply oR);rfl;exact St.gr (by assumption) zg;exact mm;(with_reducible assumption)))):gd P e o w' v:=h g
theorem Tf {F:Nat->Prop}{W:World}{L L':List HA}{t:TypeId}{x y:Operand}(S:St F W w L)(k:∀w',St F W w' L'->RW P ops Q rest (fI e d undef) w')(h:St F W w L->(∀w',St F W w' L'->RW P ops Q rest (fI e d undef) w')->RW P ops Q (⟨d,.store t x y,ty,ps,af,none⟩::rest) e w:=by first|exact fun a b=>iy (i:=0) a rfl (Sz.h _) rfl rfl rfl rfl rfl rfl b|exact fun a b=>d8 (i:=0) a rfl (Sz.h _) rfl rfl rfl rfl rfl rfl b|exact fun a b=>iy (i:=1) a rfl (Sz.h _) rfl rfl rfl rfl rfl rfl b|exact fun a b=>d8 (i:=1) a rfl (Sz.h _) rfl rfl rfl rfl rfl rfl b|exact fun a b=>iy (i:=2) a rfl (Sz.h _) rfl rfl rfl rfl rfl rfl b|exact fun a b=>d8 (i:=2) a rfl (Sz.h _) rfl rfl rfl rfl rfl rfl b|exact fun a b=>iy (i:=3) a rfl (Sz.h _) rfl rfl rfl rfl rfl rfl b|exact fun a b=>d8 (i:=3) a rfl (Sz.h _) rfl rfl rfl rfl rfl rfl b|exact fun a b=>iy (i:=4) a rfl (Sz.h _) rfl rfl rfl rfl rfl rfl b|exact fun a b=>d8 (i:=4) a rfl (Sz.h _) rfl rfl rfl rfl rfl rfl b|exact fun a b=>iy (i:=5) a rfl (Sz.h _) rfl rfl rfl rfl rfl rfl b|exact fun a b=>d8 (i:=5) a rfl (Sz.h _) rfl rfl rfl rfl rfl rfl b|exact fun a b=>iy (i:=6) a rfl (Sz.h _) rfl rfl rfl rfl rfl rfl b|exact fun a b=>d8 (i:=6) a rfl (Sz.h _) rfl rfl rfl rfl rfl rfl b):RW P ops Q (⟨d,.store t x y,ty,ps,af,none⟩::rest) e w:=h S k
theorem YH {W : World} {t tb b o : Nat} {x : Operand} {v : Value} {l : List Value} [i : Sc P t] (hx : ev e x = .pointer (some ⟨b, o, none⟩)) (hB : eL W b tb l) (g : Gr W w) (hl : l[o]? = some v) : gd P e ⟨d, .load t x, ty, ps, af, none⟩ w v := oK hx (hB.gr g) hl
theorem YI {W : World} {t tb b o n : Nat} {x : Operand} {cs l : List Value} [i : Ag P t n] (hx : ev e x = .pointer (some ⟨b, o, none⟩)) (hB : eL W b tb l) (g : Gr W w) (hl : lj ((l.drop o).take n) = some cs) (hn : cs.length = n) : gd P e ⟨d, .load t x, ty, ps, af, none⟩ w (.agg cs.toArray) := oJ hx (hB.gr g) hl hn
theorem YJ {W : World} {t m : Nat} {x : Operand} {v : Value} {A : Option Addr} {xs : List Value} [i : Sc P t] (hx : ev e x = .pointer (jF A m)) (hR : Rd W A xs) (g : Gr W w) (hv : xs[m]? = some v) : gd P e ⟨d, .load t x, ty, ps, af, none⟩ w v := oO hx (hR.gr g) hv
theorem X8 {o:Oper}{v:Value}(h:gd P e o w v:=by (first|(with_reducible apply YH);rfl;(with_reducible assumption);exact St.out (by assumption);rfl|(with_reducible apply YI);rfl;(with_reducible assumption);exact St.out (by assumption);rfl;rfl|(with_reducible apply YJ);rfl;(with_reducible assumption);exact St.out (by assumption);(with_reducible assumption))):gd P e o w v:=h
theorem wc (k:G')(h:tA G'->G:=by(intro k;(repeat (first|(first|(with_reducible refine gL ?_);(first|refine dH pr ?_|refine dH X8 ?_)|(with_reducible refine gV ?_ ?_);rfl;refine cq pv ?_)|(with_reducible refine eD ?_ ?_);rfl|(with_reducible refine dr ?_ ?_);rfl;(first|(with_reducible refine gL ?_);(first|refine dH pr ?_|refine dH X8 ?_)|(with_reducible refine gV ?_ ?_);rfl;refine cq pv ?_)|refine YG ?_));exact k.h)):G:=h ⟨k⟩
theorem Mw (k:G')(h:tA G'->G:=by(intro k;(repeat (first|(first|(with_reducible refine qL ?_);refine fo (fun wq hq=>pq hq) ?_|(with_reducible refine qV ?_ ?_);rfl;refine eO pv ?_)|(with_reducible refine iN ?_ ?_);rfl|(with_reducible refine fO ?_ ?_);rfl;(first|(with_reducible refine qL ?_);refine fo (fun wq hq=>pq hq) ?_|(with_reducible refine qV ?_ ?_);rfl;refine eO pv ?_)));exact k.h)):G:=h ⟨k⟩
theorem VE (k:G')(h:tA G'->G:=by(intro k;(repeat (first|(with_reducible refine sa ?_);refine ot rfl pv ?_|(with_reducible refine Pa ?_ ?_);rfl|(with_reducible refine Ms ?_ ?_);rfl;(with_reducible refine sa ?_);refine ot rfl pv ?_));exact k.h)):G:=h ⟨k⟩
theorem X9 (k:G')(h:tA G'->G:=by(intro k;(repeat (first|(with_reducible refine ta ?_);refine TI.ot rfl pv ?_|(with_reducible refine TI.Pa ?_ ?_);rfl|(with_reducible refine TI.Ms ?_ ?_);rfl;(with_reducible refine ta ?_);refine TI.ot rfl pv ?_|(with_reducible refine TI.Yx ?_)|(with_reducible refine TI.IO ?_)));exact k.h)):G:=h ⟨k⟩
theorem zg (k:G')(h:tA G'->G:=by(intro k;intros;refine wc ?_;exact k.h)):G:=h ⟨k⟩
theorem zB (k1:G1)(k2:G2)(h:tA G1->tA G2->G:=by(intro k1 k2;intros;refine wc ?_;refine tV rfl (fun hc=>?_) (fun hc=>?_);((try simp only [cT,d9,fX,f5,et,eo,hZ,YP,ne_eq,fH,kw,ke,md,qB,qC,pz,pB] at hc);revert hc;exact k1.h);(try simp only [cT,d9,fX,f5,et,eo,hZ,YP,ne_eq,fH,kw,ke,md,qB,qC,pz,pB] at hc);revert hc;exact k2.h)):G:=h ⟨k1⟩ ⟨k2⟩
theorem zN (k:G')(h:tA G'->G:=by(intro k;intros;refine wc ?_;(try with_reducible refine dr (by rfl) ?_);(first|refine kq (tX rfl) (by assumption) ?_|refine kq (jV Zv.h rfl) (by assumption) ?_);exact k.h)):G:=h ⟨k⟩
theorem zS (k:G')(h:tA G'->G:=by(intro k;intros;refine wc ?_;(repeat ((try with_reducible refine dr (by rfl) ?_);(with_reducible refine gS ?_);refine Tf (by assumption) ?_;intro zw zh;refine wc ?_));revert zh;revert zw;exact k.h)):G:=h ⟨k⟩
theorem zC {f:FuncId}{vs:List Value}{R:Value->World->Prop}(hc:Fn P f vs w R)(k:G')(h:tA G'->Fn P f vs w R->G:=by(intro k zc;intros;refine wc ?_;(try with_reducible refine dr (by rfl) ?_);refine eY rfl zc ?_;rintro _ zw ⟨rfl,zr⟩;have zh:=St.gr (by assumption) zr;revert zh;revert zr;revert zw;exact k.h)):G:=h ⟨k⟩ hc
theorem zK {f:FuncId}{vs:List Value}{R:Value->World->Prop}(hc:Fn P f vs w R)(k:G')(h:tA G'->Fn P f vs w R->G:=by(intro k zc;intros;refine wc ?_;(try with_reducible refine dr (by rfl) ?_);refine eY rfl zc ?_;exact k.h)):G:=h ⟨k⟩ hc
theorem zL {b tb:Nat}{l:List Value}(hc:eL w b tb l)(k:G')(h:tA G'->eL w b tb l->G:=by(intro k zc;intros;refine wc ?_;(try with_reducible refine dr (by rfl) ?_);(first|refine dH (oK rfl zc rfl) ?_|refine dH (oJ rfl zc (by rfl) (by rfl)) ?_);exact k.h)):G:=h ⟨k⟩ hc
structure Od (hd tl : List Nat) : Prop where
  h : True
theorem od {hd tl : List Nat} {id : Nat} {l : List Oper} {Q : Exit → (Nat → Value) → World → Prop} (o : Od hd tl) (hm : P.follows .mixedOrders = true) (hB : (TI.Fc l.toArray (fun _ => false) (.chain hd) tl && ((OT.chain hd).allB fun i => decide (i < l.length)) && (tl.all fun i => decide (i < l.length)) && (hd.all fun i => decide (i < l.length))) = true)
    (h : RQ P l.toArray (fun wq => Gr w wq) (fun e' => ∀ w', Gr w w' → RW P l.toArray (fun e w => Q .normal e w) (iS l tl) e' w') (iS l hd) e) : CW P N (.region id l.toArray true) Q e w := pF hd tl hm hB (Gr.drew _) h
theorem zQ (k:G')(h:tA G'->G:=by(intro k;intros;refine Mw ?_;exact k.h)):G:=h ⟨k⟩
theorem zX (k:G')(h:tA G'->G:=by(intro k;intros;refine wc ?_;(first|refine ir rfl ?_|refine nd rfl rfl ?_|refine tE rfl rfl rfl ?_|refine CF rfl rfl rfl rfl ?_|refine EN (i:=0) (by assumption) rfl rfl (by rfl) (by rfl) ?_|refine EN (i:=1) (by assumption) rfl rfl (by rfl) (by rfl) ?_|refine EN (i:=2) (by assumption) rfl rfl (by rfl) (by rfl) ?_|refine EN (i:=3) (by assumption) rfl rfl (by rfl) (by rfl) ?_);exact k.h)):G:=h ⟨k⟩
theorem zZ (h:G:=by(intros;refine wc ?_;(first|exact ir rfl ⟨rfl,St.out (by assumption)⟩|exact nd rfl rfl ⟨rfl,St.out (by assumption)⟩|exact tE rfl rfl rfl ⟨rfl,St.out (by assumption)⟩|exact EN (i:=0) (by assumption) rfl rfl (by rfl) (by rfl) ⟨rfl,St.out (by assumption)⟩|exact EN (i:=1) (by assumption) rfl rfl (by rfl) (by rfl) ⟨rfl,St.out (by assumption)⟩|exact EN (i:=2) (by assumption) rfl rfl (by rfl) (by rfl) ⟨rfl,St.out (by assumption)⟩|exact EN (i:=3) (by assumption) rfl rfl (by rfl) (by rfl) ⟨rfl,St.out (by assumption)⟩))):G:=h
theorem zI {f : FuncId} {fn : Func} {c : Code} {args : List Value} {R : Value → World → Prop} {rs : Array ResultVar} (hf : P.funcs[f]? = some fn) (h : CW P N c (QF P rs R) (qJ args) w) (hb : fn.body = some c := by rfl) (hr : fn.results = rs := by (conv => lhs; whnf)) (hN : fn.ntmps = N := by (conv => lhs; whnf)) (hcl : o7 P f = true := by kernel_rfl) (hk : (kS N c && Nat.ble args.length N) = true := by kernel_rfl) : Fn P f args w R := Dc hf hb hr hN hcl hk h
theorem zT {A:Option Addr}{xs:List Value}{m:Nat}{v:Value}(hc:Rd w A xs)(hd:xs[m]?=some v)(k:G')(h:tA G'->Rd w A xs->xs[m]?=some v->G:=by(intro k zc zd;intros;refine wc ?_;(try with_reducible refine dr (by rfl) ?_);refine dH (oO rfl zc zd) ?_;exact k.h)):G:=h ⟨k⟩ hc hd
theorem zP {f:FuncId}{vs:List Value}{u:Value}(hc:∀w2,Gr w w2->Fn P f vs w2 (fun v w3=>v=u∧Gr w2 w3))(k:G')(h:tA G'->(∀w2,Gr w w2->Fn P f vs w2 (fun v w3=>v=u∧Gr w2 w3))->G:=by(intro k zc;intros;refine Mw ?_;(try with_reducible refine fO (by rfl) ?_);refine nA rfl (fun wq hq=>(zc wq hq).mono (fun _ _ ⟨hv,hg⟩=>⟨hv,hq.trans hg⟩)) ?_;exact k.h)):G:=h ⟨k⟩ hc
theorem zM {b tb:Nat}{l:List Value}(hc:∀w2,Gr w w2->eL w2 b tb l)(k:G')(h:tA G'->(∀w2,Gr w w2->eL w2 b tb l)->G:=by(intro k zc;intros;refine Mw ?_;(try with_reducible refine fO (by rfl) ?_);(first|refine fo (fun wq hq=>oK rfl (zc wq hq) rfl) ?_|refine fo (fun wq hq=>oJ rfl (zc wq hq) (by rfl) (by rfl)) ?_);exact k.h)):G:=h ⟨k⟩ hc
theorem zO {A:Option Addr}{xs:List Value}{m:Nat}{v:Value}(hc:∀w2,Gr w w2->Rd w2 A xs)(hd:xs[m]?=some v)(k:G')(h:tA G'->(∀w2,Gr w w2->Rd w2 A xs)->xs[m]?=some v->G:=by(intro k zc zd;intros;refine Mw ?_;(try with_reducible refine fO (by rfl) ?_);refine fo (fun wq hq=>oO rfl (zc wq hq) zd) ?_;exact k.h)):G:=h ⟨k⟩ hc hd
theorem zE (k:G')(h:tA G'->G:=by(intro k;intros;refine Mw ?_;refine vZ ?_;intro zw zr;have zh:=St.gr (by assumption) zr;refine wc ?_;revert zh;revert zr;revert zw;exact k.h)):G:=h ⟨k⟩
theorem zD (hd tl:List Nat)(k:G')(h:tA G'->Od hd tl->G:=by(intro k zo;intros;refine wc ?_;refine od zo (by kernel_rfl) (by kernel_rfl) ?_;simp only [iS,dK,dR];refine Mw ?_;exact k.h)):G:=h ⟨k⟩ ⟨trivial⟩
theorem zF (hd tl:List Nat)(k:G')(h:tA G'->Od hd tl->G:=by(intro k zo;intros;refine wc ?_;refine od zo (by kernel_rfl) (by kernel_rfl) ?_;simp only [iS,dK,dR];refine Mw ?_;refine vZ ?_;intro zw zr;have zh:=St.gr (by assumption) zr;refine wc ?_;revert zh;revert zr;revert zw;exact k.h)):G:=h ⟨k⟩ ⟨trivial⟩
theorem zW (k:G')(h:tA G'->G:=by(intro k;intros;refine X9 ?_;exact k.h)):G:=h ⟨k⟩
structure Oe (C : List Value → World → Prop) (w : World) (sp hd tl : List Nat) : Prop where
  h : C [] w.drew
theorem oe {C : List Value → World → Prop} {sp hd tl : List Nat} {id : Nat} {l : List Oper} {Q : Exit → (Nat → Value) → World → Prop} (o : Oe C w sp hd tl) (hm : P.follows .mixedOrders = true) (hB : (TI.Fc l.toArray (fun i => sp.contains i) (.chain hd) tl && ((OT.chain hd).allB fun i => decide (i < l.length)) && (tl.all fun i => decide (i < l.length)) && (hd.all fun i => decide (i < l.length))) = true)
    (h : RS P l.toArray C (fun i => sp.contains i) (fun σ e' => ∀ w', C σ w' → RW P l.toArray (fun e w => Q .normal e w) (iS l tl) e' w') (kz l hd) [] e) : CW P N (.region id l.toArray true) Q e w := IP sp hd tl hm hB o.h h
theorem zH {C:List Value->World->Prop}(sp hd tl:List Nat)(h0:C [] w.drew)(k:G')(h:tA G'->Oe C w sp hd tl->G:=by(intro k zo;intros;refine wc ?_;refine oe zo (by kernel_rfl) (by kernel_rfl) ?_;simp only [kz,iS,dK,dR];refine VE ?_;exact k.h)):G:=h ⟨k⟩ ⟨h0⟩
theorem zV {b tb:Nat}{l:List Value}(hc:∀τ w2,Cs τ w2->eL w2 b tb l)(k:G')(h:tA G'->(∀τ w2,Cs τ w2->eL w2 b tb l)->RS P ops Cs sp Qs srest σ e:=by(intro k zc;intros;refine VE ?_;(try with_reducible refine Ms (by rfl) ?_);(first|refine qo rfl (fun τ wq hq=>oK rfl (zc τ wq hq) rfl) ?_|refine qo rfl (fun τ wq hq=>oJ rfl (zc τ wq hq) (by rfl) (by rfl)) ?_);exact k.h)):RS P ops Cs sp Qs srest σ e:=h ⟨k⟩ hc
theorem zY (k:G')(h:tA G'->G:=by(intro k;intros;refine VE ?_;refine IO ?_;exact k.h)):G:=h ⟨k⟩
theorem zU {b tb:Nat}{l:List Value}(hc:∀τ w2,Ct τ w2->eL w2 b tb l)(k:G')(h:tA G'->(∀τ w2,Ct τ w2->eL w2 b tb l)->TI.RS P ops Ct sp Qt srest τ e:=by(intro k zc;intros;refine X9 ?_;(try with_reducible refine TI.Ms (by rfl) ?_);(first|refine TI.qo rfl (fun τ wq hq=>oK rfl (zc τ wq hq) rfl) ?_|refine TI.qo rfl (fun τ wq hq=>oJ rfl (zc τ wq hq) (by rfl) (by rfl)) ?_);exact k.h)):TI.RS P ops Ct sp Qt srest τ e:=h ⟨k⟩ hc
theorem zR (k:G')(h:tA G'->G:=by(intro k;intros;refine VE ?_;exact k.h)):G:=h ⟨k⟩
theorem yA (k:G')(h:tA G'->G:=by(intro k;intros;refine wc ?_;(repeat ((try with_reducible refine dr (by rfl) ?_);(first|(with_reducible refine gS ?_);refine Tf (by assumption) ?_;intro zw zi;(try clear zh);have zh:=zi;clear zi|(with_reducible refine gX ?_);refine kq (tX rfl) (by assumption) ?_;intro zb zw zr zi;clear zr;(try clear zh);have zh:=zi;clear zi|(with_reducible refine gA ?_);refine kq (jV Zv.h rfl) (by assumption) ?_;intro zb zw zr zi;clear zr;(try clear zh);have zh:=zi;clear zi);refine wc ?_));(try revert zh);(try revert zw);(repeat revert zb);exact k.h)):G:=h ⟨k⟩
theorem yX (k:G')(h:tA G'->G:=by(intro k;intros;refine wc ?_;(repeat ((try with_reducible refine dr (by rfl) ?_);(first|(with_reducible refine gS ?_);refine Tf (by assumption) ?_;intro zw zi;(try clear zh);have zh:=zi;clear zi|(with_reducible refine gX ?_);refine kq (tX rfl) (by assumption) ?_;intro zb zw zr zi;clear zr;(try clear zh);have zh:=zi;clear zi|(with_reducible refine gA ?_);refine kq (jV Zv.h rfl) (by assumption) ?_;intro zb zw zr zi;clear zr;(try clear zh);have zh:=zi;clear zi);refine wc ?_));(first|refine ir rfl ?_|refine nd rfl rfl ?_|refine tE rfl rfl rfl ?_|refine CF rfl rfl rfl rfl ?_|refine EN (i:=0) (by assumption) rfl rfl (by rfl) (by rfl) ?_|refine EN (i:=1) (by assumption) rfl rfl (by rfl) (by rfl) ?_|refine EN (i:=2) (by assumption) rfl rfl (by rfl) (by rfl) ?_|refine EN (i:=3) (by assumption) rfl rfl (by rfl) (by rfl) ?_);(try revert zh);(try revert zw);(repeat revert zb);exact k.h)):G:=h ⟨k⟩
theorem EO {f:FuncId}{vs:List Value}{R:World->Value->World->Prop}(hc:∀w,Fn P f vs w (R w))(k:G')(h:tA G'->(∀w,Fn P f vs w (R w))->G:=by(intro k zc;intros;refine wc ?_;(repeat ((try with_reducible refine dr (by rfl) ?_);(first|(with_reducible refine gS ?_);refine Tf (by assumption) ?_;intro zw zi;(try clear zh);have zh:=zi;clear zi|(with_reducible refine gX ?_);refine kq (tX rfl) (by assumption) ?_;intro zb zw zr zi;clear zr;(try clear zh);have zh:=zi;clear zi|(with_reducible refine gA ?_);refine kq (jV Zv.h rfl) (by assumption) ?_;intro zb zw zr zi;clear zr;(try clear zh);have zh:=zi;clear zi);refine wc ?_));(try with_reducible refine dr (by rfl) ?_);refine eY rfl (zc _) ?_;rintro _ zw ⟨rfl,zr⟩;have zi:=St.gr (by assumption) zr;clear zr;(try clear zh);have zh:=zi;clear zi;(try revert zh);(try revert zw);(repeat revert zb);exact k.h)):G:=h ⟨k⟩ hc
class Bs (P:Program)(t:Nat)(el k:outParam Nat) where
  z:Value
  h:P.underlying t=some (.slice el)∧(∀w,(sizeOf el).run P w=.ok k w)∧∀w,(zeroValue el).run P w=.ok z w
theorem yb {F:Nat->Prop}{W:World}{L:List HA}{t el n k:Nat}{pa:List (Nat×Operand)}{l0 l:List Value}[i:Bs P t el k](S:St F W w L)(hr:∀A w',Gr w w'->St F W w' (.row el k A n n l::L)->dO A->RW P ops Q rest (fI e d (.slice A n n)) w')(hk:i.z.cells.toList.length=k:=by rfl)(h0:Nat.beq (n*k) 0=false:=by rfl)(hn:Nat.ble (n*k) 16777216=true:=by rfl)(h1:yS (fun i=>some (i*k,k)) ((List.replicate n i.z.cells.toList).flatten) (yQ e pa)=some l0:=by rfl)(h2:lj l0=some l:=by rfl)(hl:Nat.beq l.length (n*k)=true:=by rfl):RW P ops Q (⟨d,.buildSlice t n pa.toArray,ty,ps,af,none⟩::rest) e w:=Mv i.h.1 i.h.2.1 i.h.2.2 hk h0 hn h1 h2 hl S hr
theorem sl {l:List (Nat×Value)}(h:SL e l:=by(repeat(first|exact trivial|refine ⟨by first|with_reducible rfl|exact ie (by omega)|rfl,?_⟩))):SL e l:=h
theorem rA {F:Nat->Prop}{W:World}{L:List HA}{a t tb b o n:Nat}{cs l:List Value}{R:Value->World->Prop}[q:Ag P t n](S:St F W w L)(hR:R (.agg cs.toArray) w)(hx:e a=.pointer (some ⟨b,o,none⟩):=by rfl)(hi:HA.blk b tb l∈L:=by exact mm)(hl:lj ((l.drop o).take n)=some cs:=by rfl)(hn:cs.length=n:=by rfl):QF P #[.cell a t] R .ret e w:=by
 obtain ⟨⟨dd,g1,g2⟩,g3,_⟩:=q.h
 obtain ⟨j,hj⟩:=jI hi
 exact Tb g1 g2 (g3 _) hx (S.blk (i:=j) (by rw [wI];exact hj)) hl hn hR
theorem pG {F:Nat->Prop}{W:World}{L:List HA}{a u t tb b o n:Nat}{cs l:List Value}{v2:Value}{R:Value->World->Prop}[q:Ag P t n](S:St F W w L)(hR:R (.tuple #[.agg cs.toArray,v2]) w)(hx:e a=.pointer (some ⟨b,o,none⟩):=by rfl)(hi:HA.blk b tb l∈L:=by exact mm)(hl:lj ((l.drop o).take n)=some cs:=by rfl)(hn:cs.length=n:=by rfl)(h2:fz (e u)=some v2:=by rfl):QF P #[.cell a t,.tmp u] R .ret e w:=by
 obtain ⟨⟨dd,g1,g2⟩,g3,_⟩:=q.h
 obtain ⟨j,hj⟩:=jI hi
 exact Xb g1 g2 (g3 _) hx (S.blk (i:=j) (by rw [wI];exact hj)) hl hn h2 hR
theorem yK {f:FuncId}{vs:List Value}{R:World->Value->World->Prop}(hc:∀w,Fn P f vs w (R w))(k:G')(h:tA G'->(∀w,Fn P f vs w (R w))->G:=by(intro k zc;intros;refine wc ?_;(repeat ((try with_reducible refine dr (by rfl) ?_);(first|(with_reducible refine gS ?_);refine Tf (by assumption) ?_;intro zw zi;(try clear zh);have zh:=zi;clear zi|(with_reducible refine gX ?_);refine kq (tX rfl) (by assumption) ?_;intro zb zw zr zi;clear zr;(try clear zh);have zh:=zi;clear zi|(with_reducible refine gA ?_);refine kq (jV Zv.h rfl) (by assumption) ?_;intro zb zw zr zi;clear zr;(try clear zh);have zh:=zi;clear zi);refine wc ?_));(try with_reducible refine dr (by rfl) ?_);refine eY rfl (zc _) ?_;(try revert zh);(try revert zw);(repeat revert zb);exact k.h)):G:=h ⟨k⟩ hc
theorem yI {f : FuncId} {fn : Func} {c : Code} {args : List Value} {R : Value → World → Prop} {rs : Array ResultVar} (hf : P.funcs[f]? = some fn) (h : St No w w [] → CW P N c (QF P rs R) (qJ args) w) (hb : fn.body = some c := by rfl) (hr : fn.results = rs := by (conv => lhs; whnf)) (hN : fn.ntmps = N := by (conv => lhs; whnf)) (hcl : o7 P f = true := by kernel_rfl) (hk : (kS N c && Nat.ble args.length N) = true := by kernel_rfl) : Fn P f args w R := Dc hf hb hr hN hcl hk (h (St.start w))
end
theorem oa:type_of% @zeroValue69:=@zeroValue69
theorem tt:type_of% @zeroValue67:=@zeroValue67
theorem lN:type_of% @zeroValue61:=@zeroValue61
theorem nE:type_of% @zeroValue5:=@zeroValue5
theorem sk:type_of% @zeroValue432:=@zeroValue432
theorem fy:type_of% @zeroValue43:=@zeroValue43
theorem kT:type_of% @zeroValue40:=@zeroValue40
theorem uT:type_of% @zeroValue384:=@zeroValue384
theorem uU:type_of% @zeroValue368:=@zeroValue368
theorem sq:type_of% @zeroValue343:=@zeroValue343
theorem kU:type_of% @zeroValue34:=@zeroValue34
theorem pH:type_of% @zeroValue317:=@zeroValue317
theorem tY:type_of% @zeroValue3:=@zeroValue3
theorem qp:type_of% @zeroValue29:=@zeroValue29
theorem pI:type_of% @zeroValue289:=@zeroValue289
theorem nm:type_of% @zeroValue248:=@zeroValue248
theorem pJ:type_of% @zeroValue2:=@zeroValue2
theorem uV:type_of% @zeroValue175:=@zeroValue175
theorem mf:type_of% @zeroValue151:=@zeroValue151
theorem we:type_of% @wpIn_seq:=@wpIn_seq
theorem ll:type_of% @wpIn_mono:=@wpIn_mono
theorem iY:type_of% @underlying94:=@underlying94
theorem np:type_of% @underlying91:=@underlying91
theorem fk:type_of% @underlying9:=@underlying9
theorem nq:type_of% @underlying86:=@underlying86
theorem mg:type_of% @underlying80:=@underlying80
theorem k5:type_of% @underlying78:=@underlying78
theorem fm:type_of% @underlying74:=@underlying74
theorem nr:type_of% @underlying69:=@underlying69
theorem jw:type_of% @underlying67:=@underlying67
theorem iF:type_of% @underlying64:=@underlying64
theorem k9:type_of% @underlying61:=@underlying61
theorem kg:type_of% @underlying58:=@underlying58
theorem jJ:type_of% @underlying53:=@underlying53
theorem dv:type_of% @underlying5:=@underlying5
theorem mh:type_of% @underlying47:=@underlying47
theorem eE:type_of% @underlying46:=@underlying46
theorem qS:type_of% @underlying440:=@underlying440
theorem iG:type_of% @underlying44:=@underlying44
theorem tZ:type_of% @underlying434:=@underlying434
theorem qT:type_of% @underlying433:=@underlying433
theorem kC:type_of% @underlying432:=@underlying432
theorem dL:type_of% @underlying43:=@underlying43
theorem qU:type_of% @underlying427:=@underlying427
theorem qW:type_of% @underlying418:=@underlying418
theorem iH:type_of% @underlying40:=@underlying40
theorem lz:type_of% @underlying387:=@underlying387
theorem gB:type_of% @underlying384:=@underlying384
theorem gT:type_of% @underlying38:=@underlying38
theorem dg:type_of% @underlying37:=@underlying37
theorem t6:type_of% @underlying368:=@underlying368
theorem ou:type_of% @underlying366:=@underlying366
theorem pK:type_of% @underlying36:=@underlying36
theorem fR:type_of% @underlying357:=@underlying357
theorem t7:type_of% @underlying352:=@underlying352
theorem ki:type_of% @underlying35:=@underlying35
theorem jx:type_of% @underlying343:=@underlying343
theorem jy:type_of% @underlying341:=@underlying341
theorem qX:type_of% @underlying340:=@underlying340
theorem dI:type_of% @underlying34:=@underlying34
theorem kD:type_of% @underlying338:=@underlying338
theorem qY:type_of% @underlying337:=@underlying337
theorem qZ:type_of% @underlying335:=@underlying335
theorem t8:type_of% @underlying331:=@underlying331
theorem fv:type_of% @underlying326:=@underlying326
theorem jN:type_of% @underlying319:=@underlying319
theorem gU:type_of% @underlying317:=@underlying317
theorem lB:type_of% @underlying315:=@underlying315
theorem ow:type_of% @underlying306:=@underlying306
theorem jO:type_of% @underlying303:=@underlying303
theorem jd:type_of% @underlying300:=@underlying300
theorem dB:type_of% @underlying3:=@underlying3
theorem oz:type_of% @underlying296:=@underlying296
theorem oE:type_of% @underlying294:=@underlying294
theorem fZ:type_of% @underlying29:=@underlying29
theorem jz:type_of% @underlying289:=@underlying289
theorem q4:type_of% @underlying286:=@underlying286
theorem dU:type_of% @underlying277:=@underlying277
theorem dk:type_of% @underlying27:=@underlying27
theorem q5:type_of% @underlying253:=@underlying253
theorem ua:type_of% @underlying250:=@underlying250
theorem uW:type_of% @underlying25:=@underlying25
theorem lC:type_of% @underlying248:=@underlying248
theorem mM:type_of% @underlying231:=@underlying231
theorem jA:type_of% @underlying227:=@underlying227
theorem oH:type_of% @underlying223:=@underlying223
theorem oM:type_of% @underlying215:=@underlying215
theorem fV:type_of% @underlying21:=@underlying21
theorem oS:type_of% @underlying205:=@underlying205
theorem cw:type_of% @underlying2:=@underlying2
theorem q6:type_of% @underlying183:=@underlying183
theorem fw:type_of% @underlying175:=@underlying175
theorem lD:type_of% @underlying173:=@underlying173
theorem jP:type_of% @underlying171:=@underlying171
theorem fS:type_of% @underlying158:=@underlying158
theorem ub:type_of% @underlying155:=@underlying155
theorem fK:type_of% @underlying151:=@underlying151
theorem oT:type_of% @underlying148:=@underlying148
theorem jQ:type_of% @underlying146:=@underlying146
theorem uc:type_of% @underlying139:=@underlying139
theorem mN:type_of% @underlying134:=@underlying134
theorem ud:type_of% @underlying111:=@underlying111
theorem mO:type_of% @underlying110:=@underlying110
theorem ue:type_of% @underlying104:=@underlying104
theorem uf:type_of% @underlying102:=@underlying102
theorem mP:type_of% @underlying100:=@underlying100
theorem nF:type_of% @size_zeroCells:=@size_zeroCells
theorem kj:type_of% @sizeOf94:=@sizeOf94
theorem rH:type_of% @sizeOf9:=@sizeOf9
theorem gJ:type_of% @sizeOf5:=@sizeOf5
theorem kV:type_of% @sizeOf46:=@sizeOf46
theorem sZ:type_of% @sizeOf432:=@sizeOf432
theorem dV:type_of% @sizeOf43:=@sizeOf43
theorem p7:type_of% @sizeOf40:=@sizeOf40
theorem lm:type_of% @sizeOf384:=@sizeOf384
theorem ml:type_of% @sizeOf37:=@sizeOf37
theorem vr:type_of% @sizeOf368:=@sizeOf368
theorem gE:type_of% @sizeOf357:=@sizeOf357
theorem p8:type_of% @sizeOf35:=@sizeOf35
theorem ne:type_of% @sizeOf343:=@sizeOf343
theorem qD:type_of% @sizeOf341:=@sizeOf341
theorem dW:type_of% @sizeOf34:=@sizeOf34
theorem jl:type_of% @sizeOf317:=@sizeOf317
theorem fa:type_of% @sizeOf3:=@sizeOf3
theorem gF:type_of% @sizeOf29:=@sizeOf29
theorem kO:type_of% @sizeOf289:=@sizeOf289
theorem iO:type_of% @sizeOf27:=@sizeOf27
theorem kP:type_of% @sizeOf248:=@sizeOf248
theorem vt:type_of% @sizeOf231:=@sizeOf231
theorem s4:type_of% @sizeOf227:=@sizeOf227
theorem je:type_of% @sizeOf21:=@sizeOf21
theorem cR:type_of% @sizeOf2:=@sizeOf2
theorem qE:type_of% @sizeOf173:=@sizeOf173
theorem fD:type_of% @sizeOf151:=@sizeOf151
theorem s6:type_of% @sizeOf111:=@sizeOf111
theorem s7:type_of% @sizeOf104:=@sizeOf104
theorem dS:type_of% @run_underlying:=@run_underlying
theorem j0:type_of% @run_sliceBound:=@run_sliceBound
theorem pL:type_of% @run_firstCells_some:=@run_firstCells_some
theorem sV:type_of% @run_equalIn_agg:=@run_equalIn_agg
theorem uK:type_of% @run_append_own_at:=@run_append_own_at
theorem vu:type_of% @mapM_mono:=@mapM_mono
theorem nG:type_of% @info_parts:=@info_parts
theorem nH:type_of% @heap_alloc_new:=@heap_alloc_new
theorem p9:type_of% @grownCap_le_maxLen:=@grownCap_le_maxLen
theorem Fg:type_of% @execOp_put:=@execOp_put
theorem xG:type_of% @callsIn_wide:=@callsIn_wide
theorem JZ:type_of% @World.ownsRow_nil:=@World.ownsRow_nil
theorem s8:type_of% @World.cell?_of_block:=@World.cell?_of_block
theorem q7:type_of% @World.block_lt_of_cell?:=@World.block_lt_of_cell?
theorem mU:type_of% @Tryz.zeroValue9:=@Tryz.zeroValue9
theorem pg:type_of% @Tryz.zeroValue5:=@Tryz.zeroValue5
theorem rI:type_of% @Tryz.zeroValue47:=@Tryz.zeroValue47
theorem mV:type_of% @Tryz.zeroValue4:=@Tryz.zeroValue4
theorem rJ:type_of% @Tryz.zeroValue37:=@Tryz.zeroValue37
theorem mW:type_of% @Tryz.zeroValue3:=@Tryz.zeroValue3
theorem rK:type_of% @Tryz.zeroValue20:=@Tryz.zeroValue20
theorem qM:type_of% @Tryz.zeroValue158:=@Tryz.zeroValue158
theorem ph:type_of% @Tryz.zeroValue0:=@Tryz.zeroValue0
theorem jC:type_of% @Tryz.underlying9:=@Tryz.underlying9
theorem mw:type_of% @Tryz.underlying5:=@Tryz.underlying5
theorem qN:type_of% @Tryz.underlying47:=@Tryz.underlying47
theorem my:type_of% @Tryz.underlying4:=@Tryz.underlying4
theorem kN:type_of% @Tryz.underlying38:=@Tryz.underlying38
theorem nV:type_of% @Tryz.underlying37:=@Tryz.underlying37
theorem la:type_of% @Tryz.underlying3:=@Tryz.underlying3
theorem qO:type_of% @Tryz.underlying21:=@Tryz.underlying21
theorem qP:type_of% @Tryz.underlying20:=@Tryz.underlying20
theorem rL:type_of% @Tryz.underlying2:=@Tryz.underlying2
theorem qa:type_of% @Tryz.underlying158:=@Tryz.underlying158
theorem oV:type_of% @Tryz.underlying0:=@Tryz.underlying0
theorem ld:type_of% @Tryz.sizeOf9:=@Tryz.sizeOf9
theorem sr:type_of% @Tryz.sizeOf5:=@Tryz.sizeOf5
theorem ug:type_of% @Tryz.sizeOf47:=@Tryz.sizeOf47
theorem pM:type_of% @Tryz.sizeOf4:=@Tryz.sizeOf4
theorem ui:type_of% @Tryz.sizeOf37:=@Tryz.sizeOf37
theorem pN:type_of% @Tryz.sizeOf3:=@Tryz.sizeOf3
theorem uj:type_of% @Tryz.sizeOf20:=@Tryz.sizeOf20
theorem tB:type_of% @Tryz.sizeOf158:=@Tryz.sizeOf158
theorem ss:type_of% @Tryz.sizeOf0:=@Tryz.sizeOf0
theorem qq:type_of% @Tryz.isAgg9:=@Tryz.isAgg9
theorem tu:type_of% @Tryz.isAgg5:=@Tryz.isAgg5
theorem uX:type_of% @Tryz.isAgg47:=@Tryz.isAgg47
theorem qr:type_of% @Tryz.isAgg4:=@Tryz.isAgg4
theorem uY:type_of% @Tryz.isAgg37:=@Tryz.isAgg37
theorem qt:type_of% @Tryz.isAgg3:=@Tryz.isAgg3
theorem uZ:type_of% @Tryz.isAgg20:=@Tryz.isAgg20
theorem qv:type_of% @Tryz.isAgg2:=@Tryz.isAgg2
theorem uk:type_of% @Tryz.isAgg158:=@Tryz.isAgg158
theorem tv:type_of% @Tryz.isAgg0:=@Tryz.isAgg0
theorem oX:type_of% @TI.ot:=@TI.ot
theorem dC:type_of% @TI.de:=@TI.de
theorem xh:type_of% @TI.qo:=@TI.qo
theorem mo:type_of% @TI.IO:=@TI.IO
theorem ul:type_of% @TI.jH:=@TI.jH
theorem nf:type_of% @TI.Yy:=@TI.Yy
theorem jK:type_of% @TI.Yx:=@TI.Yx
theorem jm:type_of% @TI.Yz:=@TI.Yz
theorem nI:type_of% @TI.XX:=@TI.XX
theorem Dj:type_of% @Sem.run_bind:=@Sem.run_bind
theorem gC:type_of% @IntWalk.i64_in:=@IntWalk.i64_in
theorem gD:type_of% @IntKind.wrap_u8:=@IntKind.wrap_u8
theorem gQ:type_of% @IntKind.wrap_u64:=@IntKind.wrap_u64
theorem j3:type_of% @IntKind.wrap_u32:=@IntKind.wrap_u32
theorem oY:type_of% @IntKind.wrap_i64:=@IntKind.wrap_i64
theorem qb:type_of% @DataW.trod_int:=@DataW.trod_int
theorem um:type_of% @Below.refl:=@Below.refl
theorem P7:type_of% @Act.put_comm:=@Act.put_comm
instance:Sc prog 2:=⟨_,cw,rfl⟩
instance:Sc prog 3:=⟨_,dB,rfl⟩
instance:Sc prog 4:=⟨_,underlying4,rfl⟩
instance:Sc prog 5:=⟨_,dv,rfl⟩
instance:Sc prog 9:=⟨_,fk,rfl⟩
instance:Sc prog 21:=⟨_,fV,rfl⟩
instance:Sc prog 25:=⟨_,uW,rfl⟩
instance:Sc prog 27:=⟨_,dk,rfl⟩
instance:Sc prog 32:=⟨_,underlying32,rfl⟩
instance:Sc prog 35:=⟨_,ki,rfl⟩
instance:Sc prog 36:=⟨_,pK,rfl⟩
instance:Sc prog 37:=⟨_,dg,rfl⟩
instance:Sc prog 38:=⟨_,gT,rfl⟩
instance:Sc prog 44:=⟨_,iG,rfl⟩
instance:Sc prog 53:=⟨_,jJ,rfl⟩
instance:Sc prog 63:=⟨_,underlying63,rfl⟩
instance:Sc prog 64:=⟨_,iF,rfl⟩
instance:Sc prog 65:=⟨_,underlying65,rfl⟩
instance:Sc prog 74:=⟨_,fm,rfl⟩
instance:Sc prog 78:=⟨_,k5,rfl⟩
instance:Sc prog 100:=⟨_,mP,rfl⟩
instance:Sc prog 104:=⟨_,ue,rfl⟩
instance:Sc prog 111:=⟨_,ud,rfl⟩
instance:Sc prog 171:=⟨_,jP,rfl⟩
instance:Sc prog 175:=⟨_,fw,rfl⟩
instance:Sc prog 181:=⟨_,underlying181,rfl⟩
instance:Sc prog 250:=⟨_,ua,rfl⟩
instance:Sc prog 251:=⟨_,underlying251,rfl⟩
instance:Sc prog 294:=⟨_,oE,rfl⟩
instance:Sc prog 303:=⟨_,jO,rfl⟩
instance:Sc prog 319:=⟨_,jN,rfl⟩
instance:Sc prog 335:=⟨_,qZ,rfl⟩
instance:Sc prog 338:=⟨_,kD,rfl⟩
instance:Sc prog 341:=⟨_,jy,rfl⟩
instance:Sc prog 368:=⟨_,t6,rfl⟩
instance:Ag prog 29 3:=⟨⟨_,fZ,rfl⟩,gF,rfl⟩
instance:Ag prog 34 2:=⟨⟨_,dI,rfl⟩,dW,rfl⟩
instance:Ag prog 40 10:=⟨⟨_,iH,rfl⟩,p7,rfl⟩
instance:Ag prog 43 4:=⟨⟨_,dL,rfl⟩,dV,rfl⟩
instance:Ag prog 46 14:=⟨⟨_,eE,rfl⟩,kV,rfl⟩
instance:Ag prog 80 4:=⟨⟨_,mg,rfl⟩,sizeOf80,rfl⟩
instance:Ag prog 94 2:=⟨⟨_,iY,rfl⟩,kj,rfl⟩
instance:Ag prog 151 2:=⟨⟨_,fK,rfl⟩,fD,rfl⟩
instance:Ag prog 173 3:=⟨⟨_,lD,rfl⟩,qE,rfl⟩
instance:Ag prog 215 3:=⟨⟨_,oM,rfl⟩,sizeOf215,rfl⟩
instance:Ag prog 227 3:=⟨⟨_,jA,rfl⟩,s4,rfl⟩
instance:Ag prog 231 2:=⟨⟨_,mM,rfl⟩,vt,rfl⟩
instance:Ag prog 248 6:=⟨⟨_,lC,rfl⟩,kP,rfl⟩
instance:Ag prog 289 7:=⟨⟨_,jz,rfl⟩,kO,rfl⟩
instance:Ag prog 317 2:=⟨⟨_,gU,rfl⟩,jl,rfl⟩
instance:Ag prog 343 2:=⟨⟨_,jx,rfl⟩,ne,rfl⟩
instance:Ag prog 357 2:=⟨⟨_,fR,rfl⟩,gE,rfl⟩
instance:Ag prog 384 3:=⟨⟨_,gB,rfl⟩,lm,rfl⟩
instance:Ag prog 440 2:=⟨⟨_,qS,rfl⟩,sizeOf440,rfl⟩
instance:Sl prog 22 14:=⟨_,underlying22,kV⟩
instance:Sl prog 27 1:=⟨_,dk,cR⟩
instance:Sl prog 35 2:=⟨_,ki,dW⟩
instance:Sl prog 36 8:=⟨_,pK,sizeOf223⟩
instance:Sl prog 37 1:=⟨_,dg,gJ⟩
instance:Sl prog 38 1:=⟨_,gT,rH⟩
instance:Sl prog 44 2:=⟨_,iG,gE⟩
instance:Sl prog 74 1:=⟨_,fm,fa⟩
instance:Sl prog 78 1:=⟨_,k5,s7⟩
instance:Sl prog 86 2:=⟨_,nq,kj⟩
instance:Sl prog 91 4:=⟨_,np,dV⟩
instance:Sl prog 100 6:=⟨_,mP,kP⟩
instance:Sl prog 175 1:=⟨_,fw,je⟩
instance:Sl prog 218 1:=⟨_,underlying218,fa⟩
instance:Sl prog 294 7:=⟨_,oE,kO⟩
instance:Sl prog 303 3:=⟨_,jO,lm⟩
instance:Sl prog 319 2:=⟨_,jN,jl⟩
instance:Sl prog 335 1:=⟨_,qZ,iO⟩
instance:Sl prog 338 2:=⟨_,kD,ne⟩
instance:Sl prog 341 2:=⟨_,jy,fD⟩
instance:Sl prog 352 1:=⟨_,t7,ml⟩
instance:Sl prog 418 1:=⟨_,qW,vr⟩
instance:Fl prog 29 0 0:=⟨_,_,_,fZ,rfl,cR,rfl,rfl⟩
instance:Fl prog 29 1 1:=⟨_,_,_,fZ,rfl,cR,rfl,rfl⟩
instance:Fl prog 29 2 2:=⟨_,_,_,fZ,rfl,iO,rfl,rfl⟩
instance:Fl prog 34 0 0:=⟨_,_,_,dI,rfl,cR,rfl,rfl⟩
instance:Fl prog 34 1 1:=⟨_,_,_,dI,rfl,cR,rfl,rfl⟩
instance:Fl prog 40 0 0:=⟨_,_,_,iH,rfl,sizeOf32,rfl,rfl⟩
instance:Fl prog 40 1 1:=⟨_,_,_,iH,rfl,cR,rfl,rfl⟩
instance:Fl prog 40 2 2:=⟨_,_,_,iH,rfl,sizeOf4,rfl,rfl⟩
instance:Fl prog 40 3 3:=⟨_,_,_,iH,rfl,dW,rfl,rfl⟩
instance:Fl prog 40 4 5:=⟨_,_,_,iH,rfl,p8,rfl,rfl⟩
instance:Fl prog 40 5 6:=⟨_,_,_,iH,rfl,iO,rfl,rfl⟩
instance:Fl prog 40 6 7:=⟨_,_,_,iH,rfl,sizeOf36,rfl,rfl⟩
instance:Fl prog 43 0 0:=⟨_,_,_,dL,rfl,cR,rfl,rfl⟩
instance:Fl prog 43 1 1:=⟨_,_,_,dL,rfl,cR,rfl,rfl⟩
instance:Fl prog 43 2 2:=⟨_,_,_,dL,rfl,cR,rfl,rfl⟩
instance:Fl prog 43 3 3:=⟨_,_,_,dL,rfl,cR,rfl,rfl⟩
instance:Fl prog 46 0 0:=⟨_,_,_,eE,rfl,fa,rfl,rfl⟩
instance:Fl prog 46 1 1:=⟨_,_,_,eE,rfl,dV,rfl,rfl⟩
instance:Fl prog 46 2 5:=⟨_,_,_,eE,rfl,dW,rfl,rfl⟩
instance:Fl prog 46 3 7:=⟨_,_,_,eE,rfl,dW,rfl,rfl⟩
instance:Fl prog 46 4 9:=⟨_,_,_,eE,rfl,cR,rfl,rfl⟩
instance:Fl prog 46 5 10:=⟨_,_,_,eE,rfl,cR,rfl,rfl⟩
instance:Fl prog 46 6 11:=⟨_,_,_,eE,rfl,iO,rfl,rfl⟩
instance:Fl prog 46 7 12:=⟨_,_,_,eE,rfl,ml,rfl,rfl⟩
instance:Fl prog 46 8 13:=⟨_,_,_,eE,rfl,sizeOf44,rfl,rfl⟩
instance:Fl prog 67 0 0:=⟨_,_,_,jw,rfl,sizeOf53,rfl,rfl⟩
instance:Fl prog 67 1 1:=⟨_,_,_,jw,rfl,sizeOf63,rfl,rfl⟩
instance:Fl prog 67 2 2:=⟨_,_,_,jw,rfl,sizeOf64,rfl,rfl⟩
instance:Fl prog 67 3 3:=⟨_,_,_,jw,rfl,cR,rfl,rfl⟩
instance:Fl prog 67 4 4:=⟨_,_,_,jw,rfl,sizeOf65,rfl,rfl⟩
instance:Fl prog 80 0 0:=⟨_,_,_,mg,rfl,cR,rfl,rfl⟩
instance:Fl prog 80 1 1:=⟨_,_,_,mg,rfl,cR,rfl,rfl⟩
instance:Fl prog 80 2 2:=⟨_,_,_,mg,rfl,cR,rfl,rfl⟩
instance:Fl prog 80 3 3:=⟨_,_,_,mg,rfl,sizeOf78,rfl,rfl⟩
instance:Fl prog 94 0 0:=⟨_,_,_,iY,rfl,cR,rfl,rfl⟩
instance:Fl prog 94 1 1:=⟨_,_,_,iY,rfl,cR,rfl,rfl⟩
instance:Fl prog 102 0 0:=⟨_,_,_,uf,rfl,sizeOf100,rfl,rfl⟩
instance:Fl prog 102 1 1:=⟨_,_,_,uf,rfl,fa,rfl,rfl⟩
instance:Fl prog 151 0 0:=⟨_,_,_,fK,rfl,cR,rfl,rfl⟩
instance:Fl prog 151 1 1:=⟨_,_,_,fK,rfl,cR,rfl,rfl⟩
instance:Fl prog 155 0 0:=⟨_,_,_,ub,rfl,sizeOf25,rfl,rfl⟩
instance:Fl prog 173 0 0:=⟨_,_,_,lD,rfl,cR,rfl,rfl⟩
instance:Fl prog 173 1 1:=⟨_,_,_,lD,rfl,cR,rfl,rfl⟩
instance:Fl prog 173 2 2:=⟨_,_,_,lD,rfl,sizeOf171,rfl,rfl⟩
instance:Fl prog 183 0 0:=⟨_,_,_,q6,rfl,sizeOf53,rfl,rfl⟩
instance:Fl prog 183 1 1:=⟨_,_,_,q6,rfl,sizeOf181,rfl,rfl⟩
instance:Fl prog 183 2 2:=⟨_,_,_,q6,rfl,s6,rfl,rfl⟩
instance:Fl prog 205 0 0:=⟨_,_,_,oS,rfl,s6,rfl,rfl⟩
instance:Fl prog 205 1 1:=⟨_,_,_,oS,rfl,cR,rfl,rfl⟩
instance:Fl prog 205 2 2:=⟨_,_,_,oS,rfl,cR,rfl,rfl⟩
instance:Fl prog 205 3 3:=⟨_,_,_,oS,rfl,p8,rfl,rfl⟩
instance:Fl prog 215 0 0:=⟨_,_,_,oM,rfl,fa,rfl,rfl⟩
instance:Fl prog 215 1 1:=⟨_,_,_,oM,rfl,fa,rfl,rfl⟩
instance:Fl prog 215 2 2:=⟨_,_,_,oM,rfl,iO,rfl,rfl⟩
instance:Fl prog 223 0 0:=⟨_,_,_,oH,rfl,cR,rfl,rfl⟩
instance:Fl prog 223 1 1:=⟨_,_,_,oH,rfl,cR,rfl,rfl⟩
instance:Fl prog 223 3 4:=⟨_,_,_,oH,rfl,dV,rfl,rfl⟩
instance:Fl prog 227 0 0:=⟨_,_,_,jA,rfl,fa,rfl,rfl⟩
instance:Fl prog 227 1 1:=⟨_,_,_,jA,rfl,iO,rfl,rfl⟩
instance:Fl prog 227 2 2:=⟨_,_,_,jA,rfl,sizeOf74,rfl,rfl⟩
instance:Fl prog 231 0 0:=⟨_,_,_,mM,rfl,fa,rfl,rfl⟩
instance:Fl prog 231 1 1:=⟨_,_,_,mM,rfl,iO,rfl,rfl⟩
instance:Fl prog 248 0 0:=⟨_,_,_,lC,rfl,dV,rfl,rfl⟩
instance:Fl prog 248 1 4:=⟨_,_,_,lC,rfl,iO,rfl,rfl⟩
instance:Fl prog 248 2 5:=⟨_,_,_,lC,rfl,iO,rfl,rfl⟩
instance:Fl prog 253 0 0:=⟨_,_,_,q5,rfl,cR,rfl,rfl⟩
instance:Fl prog 253 1 1:=⟨_,_,_,q5,rfl,sizeOf250,rfl,rfl⟩
instance:Fl prog 253 2 2:=⟨_,_,_,q5,rfl,sizeOf251,rfl,rfl⟩
instance:Fl prog 265 0 0:=⟨_,_,_,underlying265,rfl,sizeOf263,rfl,rfl⟩
instance:Fl prog 265 1 1:=⟨_,_,_,underlying265,rfl,ml,rfl,rfl⟩
instance:Fl prog 286 0 0:=⟨_,_,_,q4,rfl,cR,rfl,rfl⟩
instance:Fl prog 286 1 1:=⟨_,_,_,q4,rfl,cR,rfl,rfl⟩
instance:Fl prog 286 2 2:=⟨_,_,_,q4,rfl,iO,rfl,rfl⟩
instance:Fl prog 289 0 0:=⟨_,_,_,jz,rfl,fa,rfl,rfl⟩
instance:Fl prog 289 1 1:=⟨_,_,_,jz,rfl,dW,rfl,rfl⟩
instance:Fl prog 289 2 3:=⟨_,_,_,jz,rfl,dV,rfl,rfl⟩
instance:Fl prog 296 0 0:=⟨_,_,_,oz,rfl,s6,rfl,rfl⟩
instance:Fl prog 296 1 1:=⟨_,_,_,oz,rfl,dV,rfl,rfl⟩
instance:Fl prog 296 2 5:=⟨_,_,_,oz,rfl,sizeOf294,rfl,rfl⟩
instance:Fl prog 300 0 0:=⟨_,_,_,jd,rfl,s6,rfl,rfl⟩
instance:Fl prog 300 1 1:=⟨_,_,_,jd,rfl,cR,rfl,rfl⟩
instance:Fl prog 300 2 2:=⟨_,_,_,jd,rfl,cR,rfl,rfl⟩
instance:Fl prog 300 3 3:=⟨_,_,_,jd,rfl,dV,rfl,rfl⟩
instance:Fl prog 300 4 7:=⟨_,_,_,jd,rfl,cR,rfl,rfl⟩
instance:Fl prog 305 0 0:=⟨_,_,_,underlying305,rfl,sizeOf303,rfl,rfl⟩
instance:Fl prog 317 0 0:=⟨_,_,_,gU,rfl,cR,rfl,rfl⟩
instance:Fl prog 317 1 1:=⟨_,_,_,gU,rfl,fa,rfl,rfl⟩
instance:Fl prog 331 0 0:=⟨_,_,_,t8,rfl,ml,rfl,rfl⟩
instance:Fl prog 331 1 1:=⟨_,_,_,t8,rfl,fa,rfl,rfl⟩
instance:Fl prog 337 0 0:=⟨_,_,_,qY,rfl,cR,rfl,rfl⟩
instance:Fl prog 337 1 1:=⟨_,_,_,qY,rfl,cR,rfl,rfl⟩
instance:Fl prog 337 2 2:=⟨_,_,_,qY,rfl,sizeOf335,rfl,rfl⟩
instance:Fl prog 340 0 0:=⟨_,_,_,qX,rfl,cR,rfl,rfl⟩
instance:Fl prog 340 1 1:=⟨_,_,_,qX,rfl,cR,rfl,rfl⟩
instance:Fl prog 340 2 2:=⟨_,_,_,qX,rfl,sizeOf338,rfl,rfl⟩
instance:Fl prog 343 0 0:=⟨_,_,_,jx,rfl,cR,rfl,rfl⟩
instance:Fl prog 343 1 1:=⟨_,_,_,jx,rfl,qD,rfl,rfl⟩
instance:Fl prog 357 0 0:=⟨_,_,_,fR,rfl,cR,rfl,rfl⟩
instance:Fl prog 357 1 1:=⟨_,_,_,fR,rfl,je,rfl,rfl⟩
instance:Fl prog 366 0 0:=⟨_,_,_,ou,rfl,sizeOf38,rfl,rfl⟩
instance:Fl prog 366 1 1:=⟨_,_,_,ou,rfl,sizeOf4,rfl,rfl⟩
instance:Fl prog 384 0 0:=⟨_,_,_,gB,rfl,cR,rfl,rfl⟩
instance:Fl prog 384 1 1:=⟨_,_,_,gB,rfl,cR,rfl,rfl⟩
instance:Fl prog 384 2 2:=⟨_,_,_,gB,rfl,qD,rfl,rfl⟩
instance:Fl prog 387 0 0:=⟨_,_,_,lz,rfl,cR,rfl,rfl⟩
instance:Fl prog 387 1 1:=⟨_,_,_,lz,rfl,cR,rfl,rfl⟩
instance:Fl prog 387 2 2:=⟨_,_,_,lz,rfl,dW,rfl,rfl⟩
instance:Fl prog 387 3 4:=⟨_,_,_,lz,rfl,dW,rfl,rfl⟩
instance:Fl prog 432 0 0:=⟨_,_,_,kC,rfl,sizeOf4,rfl,rfl⟩
instance:Fl prog 432 1 1:=⟨_,_,_,kC,rfl,fa,rfl,rfl⟩
instance:Fl prog 440 0 0:=⟨_,_,_,qS,rfl,fa,rfl,rfl⟩
instance:Fl prog 440 1 1:=⟨_,_,_,qS,rfl,cR,rfl,rfl⟩
instance:Pt prog 25:=⟨_,uW⟩
instance:Pt prog 53:=⟨_,jJ⟩
instance:Pt prog 63:=⟨_,underlying63⟩
instance:Pt prog 64:=⟨_,iF⟩
instance:Pt prog 65:=⟨_,underlying65⟩
instance:Pt prog 81:=⟨_,underlying81⟩
instance:Pt prog 104:=⟨_,ue⟩
instance:Pt prog 111:=⟨_,ud⟩
instance:Pt prog 181:=⟨_,underlying181⟩
instance:Pt prog 250:=⟨_,ua⟩
instance:Pt prog 251:=⟨_,underlying251⟩
instance:Sz prog 2 1:=⟨cR⟩
instance:Sz prog 3 1:=⟨fa⟩
instance:Sz prog 4 1:=⟨sizeOf4⟩
instance:Sz prog 21 1:=⟨je⟩
instance:Sz prog 27 1:=⟨iO⟩
instance:Sz prog 29 3:=⟨gF⟩
instance:Sz prog 32 1:=⟨sizeOf32⟩
instance:Sz prog 34 2:=⟨dW⟩
instance:Sz prog 35 1:=⟨p8⟩
instance:Sz prog 37 1:=⟨ml⟩
instance:Sz prog 38 1:=⟨sizeOf38⟩
instance:Sz prog 40 10:=⟨p7⟩
instance:Sz prog 43 4:=⟨dV⟩
instance:Sz prog 46 14:=⟨kV⟩
instance:Sz prog 64 1:=⟨sizeOf64⟩
instance:Sz prog 67 5:=⟨sizeOf67⟩
instance:Sz prog 78 1:=⟨sizeOf78⟩
instance:Sz prog 80 4:=⟨sizeOf80⟩
instance:Sz prog 94 2:=⟨kj⟩
instance:Sz prog 100 1:=⟨sizeOf100⟩
instance:Sz prog 104 1:=⟨s7⟩
instance:Sz prog 111 1:=⟨s6⟩
instance:Sz prog 151 2:=⟨fD⟩
instance:Sz prog 171 1:=⟨sizeOf171⟩
instance:Sz prog 173 3:=⟨qE⟩
instance:Sz prog 175 1:=⟨sizeOf175⟩
instance:Sz prog 181 1:=⟨sizeOf181⟩
instance:Sz prog 215 3:=⟨sizeOf215⟩
instance:Sz prog 227 3:=⟨s4⟩
instance:Sz prog 231 2:=⟨vt⟩
instance:Sz prog 248 6:=⟨kP⟩
instance:Sz prog 250 1:=⟨sizeOf250⟩
instance:Sz prog 251 1:=⟨sizeOf251⟩
instance:Sz prog 263 1:=⟨sizeOf263⟩
instance:Sz prog 289 7:=⟨kO⟩
instance:Sz prog 294 1:=⟨sizeOf294⟩
instance:Sz prog 303 1:=⟨sizeOf303⟩
instance:Sz prog 317 2:=⟨jl⟩
instance:Sz prog 319 1:=⟨sizeOf319⟩
instance:Sz prog 335 1:=⟨sizeOf335⟩
instance:Sz prog 338 1:=⟨sizeOf338⟩
instance:Sz prog 341 1:=⟨qD⟩
instance:Sz prog 343 2:=⟨ne⟩
instance:Sz prog 357 2:=⟨gE⟩
instance:Sz prog 384 3:=⟨lm⟩
instance:Sz prog 387 6:=⟨sizeOf387⟩
instance:Sz prog 432 2:=⟨sZ⟩
instance:Sz prog 440 2:=⟨sizeOf440⟩
instance:Zv prog 3:=⟨_,tY⟩
instance:Zv prog 29:=⟨_,qp⟩
instance:Zv prog 32:=⟨_,zeroValue32⟩
instance:Zv prog 34:=⟨_,kU⟩
instance:Zv prog 40:=⟨_,kT⟩
instance:Zv prog 43:=⟨_,fy⟩
instance:Zv prog 46:=⟨_,zeroValue46⟩
instance:Zv prog 80:=⟨_,zeroValue80⟩
instance:Zv prog 94:=⟨_,zeroValue94⟩
instance:Zv prog 151:=⟨_,mf⟩
instance:Zv prog 173:=⟨_,zeroValue173⟩
instance:Zv prog 175:=⟨_,uV⟩
instance:Zv prog 215:=⟨_,zeroValue215⟩
instance:Zv prog 227:=⟨_,zeroValue227⟩
instance:Zv prog 231:=⟨_,zeroValue231⟩
instance:Zv prog 248:=⟨_,nm⟩
instance:Zv prog 265:=⟨_,zeroValue265⟩
instance:Zv prog 289:=⟨_,pI⟩
instance:Zv prog 317:=⟨_,pH⟩
instance:Zv prog 343:=⟨_,sq⟩
instance:Zv prog 357:=⟨_,zeroValue357⟩
instance:Zv prog 384:=⟨_,uT⟩
instance:Zv prog 387:=⟨_,zeroValue387⟩
instance:Zv prog 432:=⟨_,sk⟩
instance:Zv prog 440:=⟨_,zeroValue440⟩
instance:Bs prog 27 2 1:=⟨_,dk,cR,pJ⟩
instance:Bs prog 35 34 2:=⟨_,ki,dW,kU⟩
instance:Bs prog 36 223 8:=⟨_,pK,sizeOf223,zeroValue223⟩
instance:Bs prog 37 5 1:=⟨_,dg,gJ,nE⟩
instance:Bs prog 38 9 1:=⟨_,gT,rH,zeroValue9⟩
instance:Bs prog 74 3 1:=⟨_,fm,fa,tY⟩
instance:Bs prog 78 104 1:=⟨_,k5,s7,zeroValue104⟩
instance:Bs prog 86 94 2:=⟨_,nq,kj,zeroValue94⟩
instance:Bs prog 91 43 4:=⟨_,np,dV,fy⟩
instance:Bs prog 319 317 2:=⟨_,jN,jl,pH⟩
instance:Bs prog 335 27 1:=⟨_,qZ,iO,zeroValue27⟩
instance:Bs prog 352 37 1:=⟨_,t7,ml,zeroValue37⟩
instance:Bs prog 418 368 1:=⟨_,qW,vr,uU⟩
instance:Bd prog 29:=⟨_,[(0,1),(1,1),(2,1)],_,fZ,qp,fun w=>by kernel_rfl⟩
instance:Bd prog 34:=⟨_,[(0,1),(1,1)],_,dI,kU,fun w=>by kernel_rfl⟩
instance:Bd prog 40:=⟨_,[(0,1),(1,1),(2,1),(3,2),(5,1),(6,1),(7,1),(8,1),(9,1)],_,iH,kT,fun w=>by kernel_rfl⟩
instance:Bd prog 43:=⟨_,[(0,1),(1,1),(2,1),(3,1)],_,dL,fy,fun w=>by kernel_rfl⟩
instance:Bd prog 46:=⟨_,[(0,1),(1,4),(5,2),(7,2),(9,1),(10,1),(11,1),(12,1),(13,1)],_,eE,zeroValue46,fun w=>by kernel_rfl⟩
instance:Bd prog 67:=⟨_,[(0,1),(1,1),(2,1),(3,1),(4,1)],_,jw,tt,fun w=>by kernel_rfl⟩
instance:Bd prog 80:=⟨_,[(0,1),(1,1),(2,1),(3,1)],_,mg,zeroValue80,fun w=>by kernel_rfl⟩
instance:Bd prog 94:=⟨_,[(0,1),(1,1)],_,iY,zeroValue94,fun w=>by kernel_rfl⟩
instance:Bd prog 102:=⟨_,[(0,1),(1,1)],_,uf,zeroValue102,fun w=>by kernel_rfl⟩
instance:Bd prog 148:=⟨_,[(0,1)],_,oT,zeroValue148,fun w=>by kernel_rfl⟩
instance:Bd prog 151:=⟨_,[(0,1),(1,1)],_,fK,mf,fun w=>by kernel_rfl⟩
instance:Bd prog 155:=⟨_,[(0,1)],_,ub,zeroValue155,fun w=>by kernel_rfl⟩
instance:Bd prog 173:=⟨_,[(0,1),(1,1),(2,1)],_,lD,zeroValue173,fun w=>by kernel_rfl⟩
instance:Bd prog 183:=⟨_,[(0,1),(1,1),(2,1)],_,q6,zeroValue183,fun w=>by kernel_rfl⟩
instance:Bd prog 205:=⟨_,[(0,1),(1,1),(2,1),(3,1)],_,oS,zeroValue205,fun w=>by kernel_rfl⟩
instance:Bd prog 215:=⟨_,[(0,1),(1,1),(2,1)],_,oM,zeroValue215,fun w=>by kernel_rfl⟩
instance:Bd prog 223:=⟨_,[(0,1),(1,1),(2,2),(4,4)],_,oH,zeroValue223,fun w=>by kernel_rfl⟩
instance:Bd prog 227:=⟨_,[(0,1),(1,1),(2,1)],_,jA,zeroValue227,fun w=>by kernel_rfl⟩
instance:Bd prog 231:=⟨_,[(0,1),(1,1)],_,mM,zeroValue231,fun w=>by kernel_rfl⟩
instance:Bd prog 248:=⟨_,[(0,4),(4,1),(5,1)],_,lC,nm,fun w=>by kernel_rfl⟩
instance:Bd prog 253:=⟨_,[(0,1),(1,1),(2,1)],_,q5,zeroValue253,fun w=>by kernel_rfl⟩
instance:Bd prog 286:=⟨_,[(0,1),(1,1),(2,1)],_,q4,zeroValue286,fun w=>by kernel_rfl⟩
instance:Bd prog 289:=⟨_,[(0,1),(1,2),(3,4)],_,jz,pI,fun w=>by kernel_rfl⟩
instance:Bd prog 296:=⟨_,[(0,1),(1,4),(5,1)],_,oz,zeroValue296,fun w=>by kernel_rfl⟩
instance:Bd prog 300:=⟨_,[(0,1),(1,1),(2,1),(3,4),(7,1)],_,jd,zeroValue300,fun w=>by kernel_rfl⟩
instance:Bd prog 305:=⟨_,[(0,1)],_,underlying305,zeroValue305,fun w=>by kernel_rfl⟩
instance:Bd prog 317:=⟨_,[(0,1),(1,1)],_,gU,pH,fun w=>by kernel_rfl⟩
instance:Bd prog 331:=⟨_,[(0,1),(1,1)],_,t8,zeroValue331,fun w=>by kernel_rfl⟩
instance:Bd prog 337:=⟨_,[(0,1),(1,1),(2,1)],_,qY,zeroValue337,fun w=>by kernel_rfl⟩
instance:Bd prog 340:=⟨_,[(0,1),(1,1),(2,1)],_,qX,zeroValue340,fun w=>by kernel_rfl⟩
instance:Bd prog 343:=⟨_,[(0,1),(1,1)],_,jx,sq,fun w=>by kernel_rfl⟩
instance:Bd prog 366:=⟨_,[(0,1),(1,1)],_,ou,zeroValue366,fun w=>by kernel_rfl⟩
instance:Bd prog 384:=⟨_,[(0,1),(1,1),(2,1)],_,gB,uT,fun w=>by kernel_rfl⟩
instance:Bd prog 387:=⟨_,[(0,1),(1,1),(2,2),(4,2)],_,lz,zeroValue387,fun w=>by kernel_rfl⟩
instance:Bd prog 432:=⟨_,[(0,1),(1,1)],_,kC,sk,fun w=>by kernel_rfl⟩
instance:Bd prog 440:=⟨_,[(0,1),(1,1)],_,qS,zeroValue440,fun w=>by kernel_rfl⟩
end Go.Proofs.YtjfeklflkikapaaGreatDoor
