/- A part of the proof that hachuretop.WholeErrors returns true at every input; no condition. -/
import Derived.Test.YtceahkcepefcaaaGreatDoorKB
set_option maxRecDepth 100000
set_option maxHeartbeats 16000000
set_option linter.unusedVariables false
set_option linter.unusedSimpArgs false
namespace Go.Proofs.YtceahkcepefcaaaGreatDoor
open Go.Proofs.Tryz Go.RowKit
variable{Qq:(Nat->Value)->Prop}{Q:(Nat->Value)->World->Prop}{af:Array Edge}{fs:Array Field}{ops:Array Oper}{rs:Array ResultVar}{fn:Func}{f:FuncId}{h:HA}{a:Int}{srest:List (Nat × Oper)}{σ:List (Nat × Value)}{Qt:List (Nat × Value)->(Nat->Value)->Prop}{Ct:List (Nat × Value)->World->Prop}{L' tl:List HA}{hd ks:List Nat}{args:List Operand}{l l' vs xs ys τ:List Value}{Qs:List Value->(Nat->Value)->Prop}{Cs:List Value->World->Prop}{N b bytes c c2 el el' g i j k k' k1 k2 m n q tb:Nat}{sp:Nat->Bool}{c':Nat->Int}{F:Nat->Prop}{e:Nat->Value}{op:Op}{hi x:Operand}{A B l0:Option Addr}{d:Option Tmp}{P:Program}{G G' G1 G2:Prop}{dd:TypeDesc}{t ty:TypeId}{u v2:Value}{R:Value->World->Prop}{W w w' wq:World}{C:World->Prop}
theorem gm {L : List HA} {x : HA} (i : Nat) (h : gi L i = some x) : x ∈ L := dD (wI L i ▸ h)
theorem mm {L : List HA} {x : HA} (h : x ∈ L := by first|exact gm 0 rfl|exact gm 1 rfl|exact gm 2 rfl|exact gm 3 rfl|exact gm 4 rfl|exact gm 5 rfl|exact gm 6 rfl|exact gm 7 rfl|exact gm 8 rfl|exact gm 9 rfl|exact gm 10 rfl|exact gm 11 rfl|exact gm 12 rfl|exact gm 13 rfl) : x ∈ L := h
def YE : Op → Bool
  | .binOp _ _ _ _ _ => false
  | .unOp .neg _ _ => false
  | _ => true
def YF : Op → Bool
  | .binOp .add _ _ _ _ => false
  | .binOp .sub _ _ _ _ => false
  | .binOp .mul _ _ _ _ => false
  | _ => true
def X7 : Op → Bool
  | .store _ _ _ => false
  | .load _ _ => false
  | .alloc _ => false
  | .box _ _ => false
  | _ => true
class Sz (P : Program) (t : Nat) (n : outParam Nat) : Prop where h : ∀ w, (sizeOf t).run P w = .ok n w
class Zv (P : Program) (t : Nat) where
  z : Value
  h : ∀ w, (zeroValue t).run P w = .ok z w
class Bd (P : Program) (t : Nat) where
  z : Value
  pl : List (Nat × Nat)
  h : ∃ fs, P.underlying t = some (.struct fs) ∧ (∀ w, (zeroValue t).run P w = .ok z w) ∧ ∀ w, (fs.mapM fun f => (Prod.mk f.offset <$> sizeOf f.type : Sem (Nat × Nat))).run P w = .ok pl.toArray w
section
variable{σ:List Value}{τ:List (Nat × Value)}{rest:List Oper}{ps:String}
theorem oP {v : Value} (ha : YE op = true) (h : n7 (ev e) op = some v) : iE P e ⟨d, op, ty, ps, af, none⟩ v := cH h
theorem oQ {v : Value} (ha : YF op = true) (h : n7 (ev e) op = some v) : iE P e ⟨d, op, ty, ps, af, none⟩ v := cH h
theorem oD {t : TypeId} {parts : List (Nat × Operand)} {l0 l : List Value} [i : Bd P t] (h1 : yS (fun k => i.pl[k]?) i.z.cells.toList (yQ e parts) = some l0) (h2 : lj l0 = some l) : iE P e ⟨d, .build t parts.toArray, ty, ps, af, none⟩ (.agg l.toArray) := by
  obtain ⟨fs, a, b, c⟩ := i.h
  exact kL a b c h1 h2
theorem oK {t tb b o : Nat} {x : Operand} {v : Value} {l : List Value} [i : Sc P t] (hx : ev e x = .pointer (some ⟨b, o, none⟩)) (hB : eL w b tb l) (hl : l[o]? = some v) : gd P e ⟨d, .load t x, ty, ps, af, none⟩ w v := by
  obtain ⟨dd, g1, g2⟩ := i.h
  exact cV g1 g2 hx hB hl
theorem oJ {t tb b o n : Nat} {x : Operand} {cs l : List Value} [i : Ag P t n] (hx : ev e x = .pointer (some ⟨b, o, none⟩)) (hB : eL w b tb l) (hl : lj ((l.drop o).take n) = some cs) (hn : cs.length = n) : gd P e ⟨d, .load t x, ty, ps, af, none⟩ w (.agg cs.toArray) := by
  obtain ⟨⟨dd, g1, g2⟩, g3, _⟩ := i.h
  exact fx g1 g2 (g3 _) hx hB hl hn
theorem EN {F : Nat → Prop} {W : World} {L : List HA} {i a t tb b o n : Nat} {cs l : List Value} {R : Value → World → Prop} [q : Ag P t n] (S : St F W w L) (hi : gi L i = some (.blk b tb l)) (hx : e a = .pointer (some ⟨b, o, none⟩)) (hl : lj ((l.drop o).take n) = some cs) (hn : cs.length = n) (hR : R (.agg cs.toArray) w) : QF P #[.cell a t] R .ret e w := by
  obtain ⟨⟨dd, g1, g2⟩, g3, _⟩ := q.h
  exact Tb g1 g2 (g3 _) hx (S.blk hi) hl hn hR
theorem YG (k:G')(h:G'->G:=by(intro k;(first|(with_reducible refine dm ?_);exact k|(with_reducible refine dz ?_);exact k|(with_reducible refine eF ?_);exact k|(with_reducible refine gO ?_);(try show CW _ _ _ _ _ _);exact k|(with_reducible refine eX ?_ ?_);rfl;exact k|(with_reducible refine jr ?_ ?_);rfl;exact k|(with_reducible refine k0 ?_);exact k|(with_reducible refine di ?_);show CW _ _ _ _ _ _;exact k|(with_reducible refine mJ ?_);(repeat (first|with_reducible refine mL ?_|with_reducible refine oq ?_));exact k|(with_reducible refine pD ?_);(repeat (first|with_reducible refine nC ?_|with_reducible refine pE ?_));(try show CW _ _ _ _ _ _);exact k))):G:=h k
theorem ra (h : RW P ops Q (⟨d, op, ty, ps, af, none⟩ :: rest) e w) : RW P ops Q (⟨d, op, ty, ps, af, none⟩ :: rest) e w := h
theorem gS {t : TypeId} {x y : Operand} (h : RW P ops Q (⟨d, .store t x y, ty, ps, af, none⟩ :: rest) e w) : RW P ops Q (⟨d, .store t x y, ty, ps, af, none⟩ :: rest) e w := h
theorem gL {t : TypeId} {x : Operand} (h : RW P ops Q (⟨d, .load t x, ty, ps, af, none⟩ :: rest) e w) : RW P ops Q (⟨d, .load t x, ty, ps, af, none⟩ :: rest) e w := h
theorem gV (hk : X7 op = true) (h : RW P ops Q (⟨d, op, ty, ps, af, none⟩ :: rest) e w) : RW P ops Q (⟨d, op, ty, ps, af, none⟩ :: rest) e w := h
theorem qL {t : TypeId} {x : Operand} (h : RQ P ops C Qq (⟨d, .load t x, ty, ps, af, none⟩ :: rest) e) : RQ P ops C Qq (⟨d, .load t x, ty, ps, af, none⟩ :: rest) e := h
theorem qV (hk : X7 op = true) (h : RQ P ops C Qq (⟨d, op, ty, ps, af, none⟩ :: rest) e) : RQ P ops C Qq (⟨d, op, ty, ps, af, none⟩ :: rest) e := h
theorem qa (h : RQ P ops C Qq (⟨d, op, ty, ps, af, none⟩ :: rest) e) : RQ P ops C Qq (⟨d, op, ty, ps, af, none⟩ :: rest) e := h
theorem sa (h : RS P ops Cs sp Qs ((j, ⟨d, op, ty, ps, af, none⟩) :: srest) σ e) : RS P ops Cs sp Qs ((j, ⟨d, op, ty, ps, af, none⟩) :: srest) σ e := h
theorem ta (h : TI.RS P ops Ct sp Qt ((j, ⟨d, op, ty, ps, af, none⟩) :: srest) τ e) : TI.RS P ops Ct sp Qt ((j, ⟨d, op, ty, ps, af, none⟩) :: srest) τ e := h
theorem gX {t : TypeId} {x : Operand} (h : RW P ops Q (⟨d, .box t x, ty, ps, af, none⟩ :: rest) e w) : RW P ops Q (⟨d, .box t x, ty, ps, af, none⟩ :: rest) e w := h
theorem gA {t : TypeId} (h : RW P ops Q (⟨d, .alloc t, ty, ps, af, none⟩ :: rest) e w) : RW P ops Q (⟨d, .alloc t, ty, ps, af, none⟩ :: rest) e w := h
theorem pv {o:Oper}{v:Value}(h:iE P e o v:=by (first|(with_reducible apply oP);rfl;rfl|(with_reducible apply oF);rfl|(with_reducible apply oG);rfl;(with_reducible assumption)|(with_reducible apply oL);rfl|(with_reducible apply oC true);rfl;(first|exact cF (by omega)|exact fX.2 (by omega)|exact f5.2 (by omega))|(with_reducible apply oC false);rfl;(first|exact cC (by omega)|exact et.2 (by omega)|exact eo.2 (by omega))|(with_reducible apply oW);rfl;omega|(with_reducible apply oU);rfl;omega|(with_reducible apply oI);rfl;rfl;(with_reducible assumption);omega;omega|(with_reducible apply oN);rfl;rfl|(with_reducible apply oQ);rfl;rfl|(with_reducible apply oD);rfl;rfl|(with_reducible apply Pc);rfl;(with_reducible assumption)|(with_reducible apply EW);rfl;rfl;omega;omega|(with_reducible apply xd);rfl;rfl;omega;omega)):iE P e o v:=h
theorem pr {o:Oper}{v:Value}(h:gd P e o w v:=by (first|(with_reducible apply oB);rfl;(with_reducible assumption);exact mm;rfl|(with_reducible apply oA);rfl;(with_reducible assumption);exact mm;rfl;rfl|(with_reducible apply oR);rfl;(with_reducible assumption);exact mm;(with_reducible assumption))):gd P e o w v:=h
theorem pq {o:Oper}{v:Value}{w':World}(g:Gr w w')(h:Gr w w'->gd P e o w' v:=by(intro zg;(first|(with_reducible apply oB);rfl;exact St.gr (by assumption) zg;exact mm;rfl|(with_reducible apply oA);rfl;exact St.gr (by assumption) zg;exact mm;rfl;rfl|(with_reducible apply oR);rfl;exact St.gr (by assumption) zg;exact mm;(with_reducible assumption)))):gd P e o w' v:=h g
theorem Tf {F:Nat->Prop}{W:World}{L L':List HA}{t:TypeId}{x y:Operand}(S:St F W w L)(k:∀w',St F W w' L'->RW P ops Q rest (fI e d undef) w')(h:St F W w L->(∀w',St F W w' L'->RW P ops Q rest (fI e d undef) w')->RW P ops Q (⟨d,.store t x y,ty,ps,af,none⟩::rest) e w:=by first|exact fun a b=>iy (i:=0) a rfl (Sz.h _) rfl rfl rfl rfl rfl rfl b|exact fun a b=>d8 (i:=0) a rfl (Sz.h _) rfl rfl rfl rfl rfl rfl b|exact fun a b=>iy (i:=1) a rfl (Sz.h _) rfl rfl rfl rfl rfl rfl b|exact fun a b=>d8 (i:=1) a rfl (Sz.h _) rfl rfl rfl rfl rfl rfl b|exact fun a b=>iy (i:=2) a rfl (Sz.h _) rfl rfl rfl rfl rfl rfl b|exact fun a b=>d8 (i:=2) a rfl (Sz.h _) rfl rfl rfl rfl rfl rfl b|exact fun a b=>iy (i:=3) a rfl (Sz.h _) rfl rfl rfl rfl rfl rfl b|exact fun a b=>d8 (i:=3) a rfl (Sz.h _) rfl rfl rfl rfl rfl rfl b|exact fun a b=>iy (i:=4) a rfl (Sz.h _) rfl rfl rfl rfl rfl rfl b|exact fun a b=>d8 (i:=4) a rfl (Sz.h _) rfl rfl rfl rfl rfl rfl b|exact fun a b=>iy (i:=5) a rfl (Sz.h _) rfl rfl rfl rfl rfl rfl b|exact fun a b=>d8 (i:=5) a rfl (Sz.h _) rfl rfl rfl rfl rfl rfl b|exact fun a b=>iy (i:=6) a rfl (Sz.h _) rfl rfl rfl rfl rfl rfl b|exact fun a b=>d8 (i:=6) a rfl (Sz.h _) rfl rfl rfl rfl rfl rfl b):RW P ops Q (⟨d,.store t x y,ty,ps,af,none⟩::rest) e w:=h S k
theorem YH {W : World} {t tb b o : Nat} {x : Operand} {v : Value} {l : List Value} [i : Sc P t] (hx : ev e x = .pointer (some ⟨b, o, none⟩)) (hB : eL W b tb l) (g : Gr W w) (hl : l[o]? = some v) : gd P e ⟨d, .load t x, ty, ps, af, none⟩ w v := oK hx (hB.gr g) hl
theorem YI {W : World} {t tb b o n : Nat} {x : Operand} {cs l : List Value} [i : Ag P t n] (hx : ev e x = .pointer (some ⟨b, o, none⟩)) (hB : eL W b tb l) (g : Gr W w) (hl : lj ((l.drop o).take n) = some cs) (hn : cs.length = n) : gd P e ⟨d, .load t x, ty, ps, af, none⟩ w (.agg cs.toArray) := oJ hx (hB.gr g) hl hn
theorem YJ {W : World} {t m : Nat} {x : Operand} {v : Value} {A : Option Addr} {xs : List Value} [i : Sc P t] (hx : ev e x = .pointer (jF A m)) (hR : Rd W A xs) (g : Gr W w) (hv : xs[m]? = some v) : gd P e ⟨d, .load t x, ty, ps, af, none⟩ w v := oO hx (hR.gr g) hv
theorem X8 {o:Oper}{v:Value}(h:gd P e o w v:=by (first|(with_reducible apply YH);rfl;(with_reducible assumption);exact St.out (by assumption);rfl|(with_reducible apply YI);rfl;(with_reducible assumption);exact St.out (by assumption);rfl;rfl|(with_reducible apply YJ);rfl;(with_reducible assumption);exact St.out (by assumption);(with_reducible assumption))):gd P e o w v:=h
theorem wc (k:G')(h:tA G'->G:=by(intro k;(repeat (first|(first|(with_reducible refine gL ?_);(first|refine dH pr ?_|refine dH X8 ?_)|(with_reducible refine gV ?_ ?_);rfl;refine cq pv ?_)|(with_reducible refine eD ?_ ?_);rfl|(with_reducible refine dr ?_ ?_);rfl;(first|(with_reducible refine gL ?_);(first|refine dH pr ?_|refine dH X8 ?_)|(with_reducible refine gV ?_ ?_);rfl;refine cq pv ?_)|refine YG ?_));exact k.h)):G:=h ⟨k⟩
theorem Mw (k:G')(h:tA G'->G:=by(intro k;(repeat (first|(first|(with_reducible refine qL ?_);refine fo (fun wq hq=>pq hq) ?_|(with_reducible refine qV ?_ ?_);rfl;refine eO pv ?_)|(with_reducible refine iN ?_ ?_);rfl|(with_reducible refine fO ?_ ?_);rfl;(first|(with_reducible refine qL ?_);refine fo (fun wq hq=>pq hq) ?_|(with_reducible refine qV ?_ ?_);rfl;refine eO pv ?_)));exact k.h)):G:=h ⟨k⟩
theorem VE (k:G')(h:tA G'->G:=by(intro k;(repeat (first|(with_reducible refine sa ?_);refine ot rfl pv ?_|(with_reducible refine Pa ?_ ?_);rfl|(with_reducible refine Ms ?_ ?_);rfl;(with_reducible refine sa ?_);refine ot rfl pv ?_));exact k.h)):G:=h ⟨k⟩
theorem X9 (k:G')(h:tA G'->G:=by(intro k;(repeat (first|(with_reducible refine ta ?_);refine TI.ot rfl pv ?_|(with_reducible refine TI.Pa ?_ ?_);rfl|(with_reducible refine TI.Ms ?_ ?_);rfl;(with_reducible refine ta ?_);refine TI.ot rfl pv ?_|(with_reducible refine TI.Yx ?_)|(with_reducible refine TI.IO ?_)));exact k.h)):G:=h ⟨k⟩
theorem zg (k:G')(h:tA G'->G:=by(intro k;intros;refine wc ?_;exact k.h)):G:=h ⟨k⟩
theorem zB (k1:G1)(k2:G2)(h:tA G1->tA G2->G:=by(intro k1 k2;intros;refine wc ?_;refine tV rfl (fun hc=>?_) (fun hc=>?_);((try simp only [cT,d9,fX,f5,et,eo,hZ,YP,ne_eq,fH,kw,ke,md,qB,qC,pz,pB] at hc);revert hc;exact k1.h);(try simp only [cT,d9,fX,f5,et,eo,hZ,YP,ne_eq,fH,kw,ke,md,qB,qC,pz,pB] at hc);revert hc;exact k2.h)):G:=h ⟨k1⟩ ⟨k2⟩
theorem zN (k:G')(h:tA G'->G:=by(intro k;intros;refine wc ?_;(try with_reducible refine dr (by rfl) ?_);(first|refine kq (tX rfl) (by assumption) ?_|refine kq (jV Zv.h rfl) (by assumption) ?_);exact k.h)):G:=h ⟨k⟩
theorem zS (k:G')(h:tA G'->G:=by(intro k;intros;refine wc ?_;(repeat ((try with_reducible refine dr (by rfl) ?_);(with_reducible refine gS ?_);refine Tf (by assumption) ?_;intro zw zh;refine wc ?_));revert zh;revert zw;exact k.h)):G:=h ⟨k⟩
theorem zC {f:FuncId}{vs:List Value}{R:Value->World->Prop}(hc:Fn P f vs w R)(k:G')(h:tA G'->Fn P f vs w R->G:=by(intro k zc;intros;refine wc ?_;(try with_reducible refine dr (by rfl) ?_);refine eY rfl zc ?_;rintro _ zw ⟨rfl,zr⟩;have zh:=St.gr (by assumption) zr;revert zh;revert zr;revert zw;exact k.h)):G:=h ⟨k⟩ hc
theorem zK {f:FuncId}{vs:List Value}{R:Value->World->Prop}(hc:Fn P f vs w R)(k:G')(h:tA G'->Fn P f vs w R->G:=by(intro k zc;intros;refine wc ?_;(try with_reducible refine dr (by rfl) ?_);refine eY rfl zc ?_;exact k.h)):G:=h ⟨k⟩ hc
theorem zL {b tb:Nat}{l:List Value}(hc:eL w b tb l)(k:G')(h:tA G'->eL w b tb l->G:=by(intro k zc;intros;refine wc ?_;(try with_reducible refine dr (by rfl) ?_);(first|refine dH (oK rfl zc rfl) ?_|refine dH (oJ rfl zc (by rfl) (by rfl)) ?_);exact k.h)):G:=h ⟨k⟩ hc
structure Od (hd tl : List Nat) : Prop where
  h : True
theorem od {hd tl : List Nat} {id : Nat} {l : List Oper} {Q : Exit → (Nat → Value) → World → Prop} (o : Od hd tl) (hm : P.follows .mixedOrders = true) (hB : (TI.Fc l.toArray (fun _ => false) (.chain hd) tl && ((OT.chain hd).allB fun i => decide (i < l.length)) && (tl.all fun i => decide (i < l.length)) && (hd.all fun i => decide (i < l.length))) = true)
    (h : RQ P l.toArray (fun wq => Gr w wq) (fun e' => ∀ w', Gr w w' → RW P l.toArray (fun e w => Q .normal e w) (iS l tl) e' w') (iS l hd) e) : CW P N (.region id l.toArray true) Q e w := pF hd tl hm hB (Gr.drew _) h
theorem zQ (k:G')(h:tA G'->G:=by(intro k;intros;refine Mw ?_;exact k.h)):G:=h ⟨k⟩
theorem zX (k:G')(h:tA G'->G:=by(intro k;intros;refine wc ?_;(first|refine ir rfl ?_|refine nd rfl rfl ?_|refine tE rfl rfl rfl ?_|refine CF rfl rfl rfl rfl ?_|refine EN (i:=0) (by assumption) rfl rfl (by rfl) (by rfl) ?_|refine EN (i:=1) (by assumption) rfl rfl (by rfl) (by rfl) ?_|refine EN (i:=2) (by assumption) rfl rfl (by rfl) (by rfl) ?_|refine EN (i:=3) (by assumption) rfl rfl (by rfl) (by rfl) ?_);exact k.h)):G:=h ⟨k⟩
theorem zZ (h:G:=by(intros;refine wc ?_;(first|exact ir rfl ⟨rfl,St.out (by assumption)⟩|exact nd rfl rfl ⟨rfl,St.out (by assumption)⟩|exact tE rfl rfl rfl ⟨rfl,St.out (by assumption)⟩|exact EN (i:=0) (by assumption) rfl rfl (by rfl) (by rfl) ⟨rfl,St.out (by assumption)⟩|exact EN (i:=1) (by assumption) rfl rfl (by rfl) (by rfl) ⟨rfl,St.out (by assumption)⟩|exact EN (i:=2) (by assumption) rfl rfl (by rfl) (by rfl) ⟨rfl,St.out (by assumption)⟩|exact EN (i:=3) (by assumption) rfl rfl (by rfl) (by rfl) ⟨rfl,St.out (by assumption)⟩))):G:=h
theorem zI {f : FuncId} {fn : Func} {c : Code} {args : List Value} {R : Value → World → Prop} {rs : Array ResultVar} (hf : P.funcs[f]? = some fn) (h : CW P N c (QF P rs R) (qJ args) w) (hb : fn.body = some c := by rfl) (hr : fn.results = rs := by (conv => lhs; whnf)) (hN : fn.ntmps = N := by (conv => lhs; whnf)) (hcl : o7 P f = true := by kernel_rfl) (hk : (kS N c && Nat.ble args.length N) = true := by kernel_rfl) : Fn P f args w R := Dc hf hb hr hN hcl hk h
theorem zT {A:Option Addr}{xs:List Value}{m:Nat}{v:Value}(hc:Rd w A xs)(hd:xs[m]?=some v)(k:G')(h:tA G'->Rd w A xs->xs[m]?=some v->G:=by(intro k zc zd;intros;refine wc ?_;(try with_reducible refine dr (by rfl) ?_);refine dH (oO rfl zc zd) ?_;exact k.h)):G:=h ⟨k⟩ hc hd
theorem zP {f:FuncId}{vs:List Value}{u:Value}(hc:∀w2,Gr w w2->Fn P f vs w2 (fun v w3=>v=u∧Gr w2 w3))(k:G')(h:tA G'->(∀w2,Gr w w2->Fn P f vs w2 (fun v w3=>v=u∧Gr w2 w3))->G:=by(intro k zc;intros;refine Mw ?_;(try with_reducible refine fO (by rfl) ?_);refine nA rfl (fun wq hq=>(zc wq hq).mono (fun _ _ ⟨hv,hg⟩=>⟨hv,hq.trans hg⟩)) ?_;exact k.h)):G:=h ⟨k⟩ hc
theorem zM {b tb:Nat}{l:List Value}(hc:∀w2,Gr w w2->eL w2 b tb l)(k:G')(h:tA G'->(∀w2,Gr w w2->eL w2 b tb l)->G:=by(intro k zc;intros;refine Mw ?_;(try with_reducible refine fO (by rfl) ?_);(first|refine fo (fun wq hq=>oK rfl (zc wq hq) rfl) ?_|refine fo (fun wq hq=>oJ rfl (zc wq hq) (by rfl) (by rfl)) ?_);exact k.h)):G:=h ⟨k⟩ hc
theorem zO {A:Option Addr}{xs:List Value}{m:Nat}{v:Value}(hc:∀w2,Gr w w2->Rd w2 A xs)(hd:xs[m]?=some v)(k:G')(h:tA G'->(∀w2,Gr w w2->Rd w2 A xs)->xs[m]?=some v->G:=by(intro k zc zd;intros;refine Mw ?_;(try with_reducible refine fO (by rfl) ?_);refine fo (fun wq hq=>oO rfl (zc wq hq) zd) ?_;exact k.h)):G:=h ⟨k⟩ hc hd
theorem zE (k:G')(h:tA G'->G:=by(intro k;intros;refine Mw ?_;refine vZ ?_;intro zw zr;have zh:=St.gr (by assumption) zr;refine wc ?_;revert zh;revert zr;revert zw;exact k.h)):G:=h ⟨k⟩
theorem zD (hd tl:List Nat)(k:G')(h:tA G'->Od hd tl->G:=by(intro k zo;intros;refine wc ?_;refine od zo (by kernel_rfl) (by kernel_rfl) ?_;simp only [iS,dK,dR];refine Mw ?_;exact k.h)):G:=h ⟨k⟩ ⟨trivial⟩
theorem zF (hd tl:List Nat)(k:G')(h:tA G'->Od hd tl->G:=by(intro k zo;intros;refine wc ?_;refine od zo (by kernel_rfl) (by kernel_rfl) ?_;simp only [iS,dK,dR];refine Mw ?_;refine vZ ?_;intro zw zr;have zh:=St.gr (by assumption) zr;refine wc ?_;revert zh;revert zr;revert zw;exact k.h)):G:=h ⟨k⟩ ⟨trivial⟩
theorem zW (k:G')(h:tA G'->G:=by(intro k;intros;refine X9 ?_;exact k.h)):G:=h ⟨k⟩
structure Oe (C : List Value → World → Prop) (w : World) (sp hd tl : List Nat) : Prop where
  h : C [] w.drew
theorem oe {C : List Value → World → Prop} {sp hd tl : List Nat} {id : Nat} {l : List Oper} {Q : Exit → (Nat → Value) → World → Prop} (o : Oe C w sp hd tl) (hm : P.follows .mixedOrders = true) (hB : (TI.Fc l.toArray (fun i => sp.contains i) (.chain hd) tl && ((OT.chain hd).allB fun i => decide (i < l.length)) && (tl.all fun i => decide (i < l.length)) && (hd.all fun i => decide (i < l.length))) = true)
    (h : RS P l.toArray C (fun i => sp.contains i) (fun σ e' => ∀ w', C σ w' → RW P l.toArray (fun e w => Q .normal e w) (iS l tl) e' w') (kz l hd) [] e) : CW P N (.region id l.toArray true) Q e w := IP sp hd tl hm hB o.h h
theorem zH {C:List Value->World->Prop}(sp hd tl:List Nat)(h0:C [] w.drew)(k:G')(h:tA G'->Oe C w sp hd tl->G:=by(intro k zo;intros;refine wc ?_;refine oe zo (by kernel_rfl) (by kernel_rfl) ?_;simp only [kz,iS,dK,dR];refine VE ?_;exact k.h)):G:=h ⟨k⟩ ⟨h0⟩
theorem zV {b tb:Nat}{l:List Value}(hc:∀τ w2,Cs τ w2->eL w2 b tb l)(k:G')(h:tA G'->(∀τ w2,Cs τ w2->eL w2 b tb l)->RS P ops Cs sp Qs srest σ e:=by(intro k zc;intros;refine VE ?_;(try with_reducible refine Ms (by rfl) ?_);(first|refine qo rfl (fun τ wq hq=>oK rfl (zc τ wq hq) rfl) ?_|refine qo rfl (fun τ wq hq=>oJ rfl (zc τ wq hq) (by rfl) (by rfl)) ?_);exact k.h)):RS P ops Cs sp Qs srest σ e:=h ⟨k⟩ hc
theorem zY (k:G')(h:tA G'->G:=by(intro k;intros;refine VE ?_;refine IO ?_;exact k.h)):G:=h ⟨k⟩
theorem zU {b tb:Nat}{l:List Value}(hc:∀τ w2,Ct τ w2->eL w2 b tb l)(k:G')(h:tA G'->(∀τ w2,Ct τ w2->eL w2 b tb l)->TI.RS P ops Ct sp Qt srest τ e:=by(intro k zc;intros;refine X9 ?_;(try with_reducible refine TI.Ms (by rfl) ?_);(first|refine TI.qo rfl (fun τ wq hq=>oK rfl (zc τ wq hq) rfl) ?_|refine TI.qo rfl (fun τ wq hq=>oJ rfl (zc τ wq hq) (by rfl) (by rfl)) ?_);exact k.h)):TI.RS P ops Ct sp Qt srest τ e:=h ⟨k⟩ hc
theorem zR (k:G')(h:tA G'->G:=by(intro k;intros;refine VE ?_;exact k.h)):G:=h ⟨k⟩
theorem yA (k:G')(h:tA G'->G:=by(intro k;intros;refine wc ?_;(repeat ((try with_reducible refine dr (by rfl) ?_);(first|(with_reducible refine gS ?_);refine Tf (by assumption) ?_;intro zw zi;(try clear zh);have zh:=zi;clear zi|(with_reducible refine gX ?_);refine kq (tX rfl) (by assumption) ?_;intro zb zw zr zi;clear zr;(try clear zh);have zh:=zi;clear zi|(with_reducible refine gA ?_);refine kq (jV Zv.h rfl) (by assumption) ?_;intro zb zw zr zi;clear zr;(try clear zh);have zh:=zi;clear zi);refine wc ?_));(try revert zh);(try revert zw);(repeat revert zb);exact k.h)):G:=h ⟨k⟩
theorem yX (k:G')(h:tA G'->G:=by(intro k;intros;refine wc ?_;(repeat ((try with_reducible refine dr (by rfl) ?_);(first|(with_reducible refine gS ?_);refine Tf (by assumption) ?_;intro zw zi;(try clear zh);have zh:=zi;clear zi|(with_reducible refine gX ?_);refine kq (tX rfl) (by assumption) ?_;intro zb zw zr zi;clear zr;(try clear zh);have zh:=zi;clear zi|(with_reducible refine gA ?_);refine kq (jV Zv.h rfl) (by assumption) ?_;intro zb zw zr zi;clear zr;(try clear zh);have zh:=zi;clear zi);refine wc ?_));(first|refine ir rfl ?_|refine nd rfl rfl ?_|refine tE rfl rfl rfl ?_|refine CF rfl rfl rfl rfl ?_|refine EN (i:=0) (by assumption) rfl rfl (by rfl) (by rfl) ?_|refine EN (i:=1) (by assumption) rfl rfl (by rfl) (by rfl) ?_|refine EN (i:=2) (by assumption) rfl rfl (by rfl) (by rfl) ?_|refine EN (i:=3) (by assumption) rfl rfl (by rfl) (by rfl) ?_);(try revert zh);(try revert zw);(repeat revert zb);exact k.h)):G:=h ⟨k⟩
theorem EO {f:FuncId}{vs:List Value}{R:World->Value->World->Prop}(hc:∀w,Fn P f vs w (R w))(k:G')(h:tA G'->(∀w,Fn P f vs w (R w))->G:=by(intro k zc;intros;refine wc ?_;(repeat ((try with_reducible refine dr (by rfl) ?_);(first|(with_reducible refine gS ?_);refine Tf (by assumption) ?_;intro zw zi;(try clear zh);have zh:=zi;clear zi|(with_reducible refine gX ?_);refine kq (tX rfl) (by assumption) ?_;intro zb zw zr zi;clear zr;(try clear zh);have zh:=zi;clear zi|(with_reducible refine gA ?_);refine kq (jV Zv.h rfl) (by assumption) ?_;intro zb zw zr zi;clear zr;(try clear zh);have zh:=zi;clear zi);refine wc ?_));(try with_reducible refine dr (by rfl) ?_);refine eY rfl (zc _) ?_;rintro _ zw ⟨rfl,zr⟩;have zi:=St.gr (by assumption) zr;clear zr;(try clear zh);have zh:=zi;clear zi;(try revert zh);(try revert zw);(repeat revert zb);exact k.h)):G:=h ⟨k⟩ hc
class Bs (P:Program)(t:Nat)(el k:outParam Nat) where
  z:Value
  h:P.underlying t=some (.slice el)∧(∀w,(sizeOf el).run P w=.ok k w)∧∀w,(zeroValue el).run P w=.ok z w
theorem yb {F:Nat->Prop}{W:World}{L:List HA}{t el n k:Nat}{pa:List (Nat×Operand)}{l0 l:List Value}[i:Bs P t el k](S:St F W w L)(hr:∀A w',Gr w w'->St F W w' (.row el k A n n l::L)->dO A->RW P ops Q rest (fI e d (.slice A n n)) w')(hk:i.z.cells.toList.length=k:=by rfl)(h0:Nat.beq (n*k) 0=false:=by rfl)(hn:Nat.ble (n*k) 16777216=true:=by rfl)(h1:yS (fun i=>some (i*k,k)) ((List.replicate n i.z.cells.toList).flatten) (yQ e pa)=some l0:=by rfl)(h2:lj l0=some l:=by rfl)(hl:Nat.beq l.length (n*k)=true:=by rfl):RW P ops Q (⟨d,.buildSlice t n pa.toArray,ty,ps,af,none⟩::rest) e w:=Mv i.h.1 i.h.2.1 i.h.2.2 hk h0 hn h1 h2 hl S hr
theorem sl {l:List (Nat×Value)}(h:SL e l:=by(repeat(first|exact trivial|refine ⟨by first|with_reducible rfl|exact ie (by omega)|rfl,?_⟩))):SL e l:=h
theorem rA {F:Nat->Prop}{W:World}{L:List HA}{a t tb b o n:Nat}{cs l:List Value}{R:Value->World->Prop}[q:Ag P t n](S:St F W w L)(hR:R (.agg cs.toArray) w)(hx:e a=.pointer (some ⟨b,o,none⟩):=by rfl)(hi:HA.blk b tb l∈L:=by exact mm)(hl:lj ((l.drop o).take n)=some cs:=by rfl)(hn:cs.length=n:=by rfl):QF P #[.cell a t] R .ret e w:=by
 obtain ⟨⟨dd,g1,g2⟩,g3,_⟩:=q.h
 obtain ⟨j,hj⟩:=jI hi
 exact Tb g1 g2 (g3 _) hx (S.blk (i:=j) (by rw [wI];exact hj)) hl hn hR
theorem pG {F:Nat->Prop}{W:World}{L:List HA}{a u t tb b o n:Nat}{cs l:List Value}{v2:Value}{R:Value->World->Prop}[q:Ag P t n](S:St F W w L)(hR:R (.tuple #[.agg cs.toArray,v2]) w)(hx:e a=.pointer (some ⟨b,o,none⟩):=by rfl)(hi:HA.blk b tb l∈L:=by exact mm)(hl:lj ((l.drop o).take n)=some cs:=by rfl)(hn:cs.length=n:=by rfl)(h2:fz (e u)=some v2:=by rfl):QF P #[.cell a t,.tmp u] R .ret e w:=by
 obtain ⟨⟨dd,g1,g2⟩,g3,_⟩:=q.h
 obtain ⟨j,hj⟩:=jI hi
 exact Xb g1 g2 (g3 _) hx (S.blk (i:=j) (by rw [wI];exact hj)) hl hn h2 hR
class dI (P:Program)(t:Nat)(el k bytes:outParam Nat) where
  z:Value
  h:P.underlying t=some (.slice el)∧(P.info? el).map (fun i=>(i.zero,i.size,i.bytes))=some (some z,k,bytes)∧Nat.beq z.cells.size k=true∧Nat.blt 0 k=true
class dg (P:Program)(s t:Nat)(kd:outParam IntKind):Prop where h:(∃dd,P.underlying s=some dd)∧P.underlying t=some (.int kd)
section
variable{L:List HA}
theorem ZP {s x:Operand}{t el bytes k n c m c2 el' k':Nat}{A B:Option Addr}{xs ys:List Value}{f:HA->List HA}(i j:Nat)[I:dI P t el k bytes](S:St F W w L)(hr:∀A' c' w',St F W w' (f (.row el k A' (n+m) c' (xs++ys)))->dO A'->RW P ops Q rest (fI e d (.slice A' (n+m) c')) w')(hs:ev e s=.slice A n c:=by rfl)(hx:ev e x=.slice B m c2:=by rfl)(hi:gi L i=some (.row el k A n c xs):=by rfl)(hj:gi L j=some (.row el' k' B m c2 ys):=by rfl)(hf:∀h,j7 L i h=some (f h):=by exact fun h=>rfl)(hm:ys.length=m*k:=by simp)(h1:(ys.all fun v=>v.oneCell')=true:=by rfl)(hm0:0<m:=by omega)(hb:(n+m)*(bytes+1)<=140737488355328:=by omega):RW P ops Q (⟨d,.call ⟨.builtin .append,#[s,x],#[t,t]⟩,ty,ps,af,none⟩::rest) e w:=fM S hi hf I.h.1 I.h.2.1 I.h.2.2.1 I.h.2.2.2 hs hx hm hm0 (S.rd hj) h1 hb hr
theorem ZU {t m n:Nat}{x:Operand}{cs xs:List Value}{A:Option Addr}[i:Ag P t n](hR:Rd w A xs)(hv:(xs.drop m).take n=cs)(hr:RW P ops Q rest (fI e d (.agg cs.toArray)) w)(hx:ev e x=.pointer (jF A m):=by rfl)(hn:cs.length=n:=by rfl):RW P ops Q (⟨d,.load t x,ty,ps,af,none⟩::rest) e w:=by
 obtain ⟨⟨dd,g1,g2⟩,g3,g4⟩:=i.h
 exact dH (fb g1 g2 (g3 _) hx hR hv hn g4) hr
theorem Y9 {s t:Nat}{ks kd:IntKind}{n m:Int}{x:Operand}[i:dg P s t kd](hx:ev e x=.int ks n)(hm:kd.wrap n=m)(hr:RW P ops Q rest (fI e d (.int kd m)) w):RW P ops Q (⟨d,.convert s t x,ty,ps,af,none⟩::rest) e w:=by
 obtain ⟨⟨dd,h1⟩,h2⟩:=i.h
 exact cq (dY h1 h2 hx hm) hr
theorem Z1 {t tb:Nat}{x y:Operand}{b o n:Nat}{l cs l':List Value}(i:Nat)[z:Sz P t n](S:St F W w L)(hr:∀w',St F W w' L'->RW P ops Q rest (fI e d undef) w')(hi:gi L i=some (.blk b tb l):=by rfl)(hx:ev e x=.pointer (some ⟨b,o,none⟩):=by rfl)(hy:ev e y=.agg cs.toArray:=by rfl)(hn:cs.length=n:=by rfl)(hl':lj (l.take o++cs++l.drop (o+n))=some l':=by rfl)(ho:((cs.all fun v=>v.oneCell')&&Nat.ble (o+n) l.length)=true:=by rfl)(hs:j7 L i (.blk b tb l')=some L':=by rfl):RW P ops Q (⟨d,.store t x y,ty,ps,af,none⟩::rest) e w:=d8 S hi (z.h _) hx hy hn hl' ho hs hr
end
theorem yK {f:FuncId}{vs:List Value}{R:World->Value->World->Prop}(hc:∀w,Fn P f vs w (R w))(k:G')(h:tA G'->(∀w,Fn P f vs w (R w))->G:=by(intro k zc;intros;refine wc ?_;(repeat ((try with_reducible refine dr (by rfl) ?_);(first|(with_reducible refine gS ?_);refine Tf (by assumption) ?_;intro zw zi;(try clear zh);have zh:=zi;clear zi|(with_reducible refine gX ?_);refine kq (tX rfl) (by assumption) ?_;intro zb zw zr zi;clear zr;(try clear zh);have zh:=zi;clear zi|(with_reducible refine gA ?_);refine kq (jV Zv.h rfl) (by assumption) ?_;intro zb zw zr zi;clear zr;(try clear zh);have zh:=zi;clear zi);refine wc ?_));(try with_reducible refine dr (by rfl) ?_);refine eY rfl (zc _) ?_;(try revert zh);(try revert zw);(repeat revert zb);exact k.h)):G:=h ⟨k⟩ hc
theorem yI {f : FuncId} {fn : Func} {c : Code} {args : List Value} {R : Value → World → Prop} {rs : Array ResultVar} (hf : P.funcs[f]? = some fn) (h : St No w w [] → CW P N c (QF P rs R) (qJ args) w) (hb : fn.body = some c := by rfl) (hr : fn.results = rs := by (conv => lhs; whnf)) (hN : fn.ntmps = N := by (conv => lhs; whnf)) (hcl : o7 P f = true := by kernel_rfl) (hk : (kS N c && Nat.ble args.length N) = true := by kernel_rfl) : Fn P f args w R := Dc hf hb hr hN hcl hk (h (St.start w))
end
theorem ZC:type_of% @zeroValue73:=@zeroValue73
theorem aaa:type_of% @zeroValue71:=@zeroValue71
theorem Zn:type_of% @zeroValue65:=@zeroValue65
theorem nE:type_of% @zeroValue5:=@zeroValue5
theorem Zx:type_of% @zeroValue46:=@zeroValue46
theorem Z4:type_of% @zeroValue436:=@zeroValue436
theorem aar:type_of% @zeroValue388:=@zeroValue388
theorem ZQ:type_of% @zeroValue38:=@zeroValue38
theorem aas:type_of% @zeroValue372:=@zeroValue372
theorem Z5:type_of% @zeroValue346:=@zeroValue346
theorem ZI:type_of% @zeroValue320:=@zeroValue320
theorem tY:type_of% @zeroValue3:=@zeroValue3
theorem ZJ:type_of% @zeroValue292:=@zeroValue292
theorem Za:type_of% @zeroValue26:=@zeroValue26
theorem nm:type_of% @zeroValue248:=@zeroValue248
theorem Ac:type_of% @zeroValue24:=@zeroValue24
theorem pJ:type_of% @zeroValue2:=@zeroValue2
theorem aat:type_of% @zeroValue161:=@zeroValue161
theorem Zo:type_of% @zeroValue153:=@zeroValue153
theorem aau:type_of% @zeroValue102:=@zeroValue102
theorem we:type_of% @wpIn_seq:=@wpIn_seq
theorem ll:type_of% @wpIn_mono:=@wpIn_mono
theorem Zy:type_of% @underlying99:=@underlying99
theorem iY:type_of% @underlying94:=@underlying94
theorem fk:type_of% @underlying9:=@underlying9
theorem aav:type_of% @underlying87:=@underlying87
theorem Zp:type_of% @underlying85:=@underlying85
theorem Zh:type_of% @underlying83:=@underlying83
theorem YR:type_of% @underlying79:=@underlying79
theorem Zz:type_of% @underlying73:=@underlying73
theorem YY:type_of% @underlying71:=@underlying71
theorem YU:type_of% @underlying68:=@underlying68
theorem Zi:type_of% @underlying65:=@underlying65
theorem Zb:type_of% @underlying62:=@underlying62
theorem dv:type_of% @underlying5:=@underlying5
theorem Y5:type_of% @underlying48:=@underlying48
theorem eE:type_of% @underlying46:=@underlying46
theorem ZX:type_of% @underlying444:=@underlying444
theorem iG:type_of% @underlying44:=@underlying44
theorem aae:type_of% @underlying438:=@underlying438
theorem ZY:type_of% @underlying437:=@underlying437
theorem Zc:type_of% @underlying436:=@underlying436
theorem ZZ:type_of% @underlying431:=@underlying431
theorem dL:type_of% @underlying43:=@underlying43
theorem Z0:type_of% @underlying422:=@underlying422
theorem ZK:type_of% @underlying42:=@underlying42
theorem Z6:type_of% @underlying41:=@underlying41
theorem Y6:type_of% @underlying391:=@underlying391
theorem YV:type_of% @underlying388:=@underlying388
theorem gT:type_of% @underlying38:=@underlying38
theorem aaf:type_of% @underlying372:=@underlying372
theorem ZD:type_of% @underlying370:=@underlying370
theorem Zd:type_of% @underlying361:=@underlying361
theorem aag:type_of% @underlying356:=@underlying356
theorem ki:type_of% @underlying35:=@underlying35
theorem Ze:type_of% @underlying346:=@underlying346
theorem YZ:type_of% @underlying344:=@underlying344
theorem jx:type_of% @underlying343:=@underlying343
theorem jy:type_of% @underlying341:=@underlying341
theorem qX:type_of% @underlying340:=@underlying340
theorem kD:type_of% @underlying338:=@underlying338
theorem aah:type_of% @underlying334:=@underlying334
theorem S3:type_of% @underlying329:=@underlying329
theorem Y7:type_of% @underlying322:=@underlying322
theorem YT:type_of% @underlying320:=@underlying320
theorem Zk:type_of% @underlying318:=@underlying318
theorem sd:type_of% @underlying31:=@underlying31
theorem ZE:type_of% @underlying309:=@underlying309
theorem ow:type_of% @underlying306:=@underlying306
theorem jO:type_of% @underlying303:=@underlying303
theorem dB:type_of% @underlying3:=@underlying3
theorem ZF:type_of% @underlying299:=@underlying299
theorem ZG:type_of% @underlying297:=@underlying297
theorem Y3:type_of% @underlying292:=@underlying292
theorem fZ:type_of% @underlying29:=@underlying29
theorem jz:type_of% @underlying289:=@underlying289
theorem q8:type_of% @underlying28:=@underlying28
theorem dU:type_of% @underlying277:=@underlying277
theorem dk:type_of% @underlying27:=@underlying27
theorem q9:type_of% @underlying26:=@underlying26
theorem q5:type_of% @underlying253:=@underlying253
theorem ua:type_of% @underlying250:=@underlying250
theorem lC:type_of% @underlying248:=@underlying248
theorem xa:type_of% @underlying24:=@underlying24
theorem mM:type_of% @underlying231:=@underlying231
theorem jA:type_of% @underlying227:=@underlying227
theorem oH:type_of% @underlying223:=@underlying223
theorem oM:type_of% @underlying215:=@underlying215
theorem fV:type_of% @underlying21:=@underlying21
theorem oS:type_of% @underlying205:=@underlying205
theorem cw:type_of% @underlying2:=@underlying2
theorem q6:type_of% @underlying183:=@underlying183
theorem Zr:type_of% @underlying168:=@underlying168
theorem aai:type_of% @underlying165:=@underlying165
theorem z1:type_of% @underlying161:=@underlying161
theorem Zl:type_of% @underlying159:=@underlying159
theorem Y8:type_of% @underlying157:=@underlying157
theorem YQ:type_of% @underlying153:=@underlying153
theorem ZH:type_of% @underlying150:=@underlying150
theorem oT:type_of% @underlying148:=@underlying148
theorem aaj:type_of% @underlying141:=@underlying141
theorem Zs:type_of% @underlying136:=@underlying136
theorem aak:type_of% @underlying115:=@underlying115
theorem Zt:type_of% @underlying114:=@underlying114
theorem mO:type_of% @underlying110:=@underlying110
theorem Zu:type_of% @underlying108:=@underlying108
theorem uf:type_of% @underlying102:=@underlying102
theorem nF:type_of% @size_zeroCells:=@size_zeroCells
theorem rH:type_of% @sizeOf9:=@sizeOf9
theorem aal:type_of% @sizeOf87:=@sizeOf87
theorem gJ:type_of% @sizeOf5:=@sizeOf5
theorem Z7:type_of% @sizeOf436:=@sizeOf436
theorem ZL:type_of% @sizeOf42:=@sizeOf42
theorem ZR:type_of% @sizeOf388:=@sizeOf388
theorem YX:type_of% @sizeOf38:=@sizeOf38
theorem aax:type_of% @sizeOf372:=@sizeOf372
theorem Zj:type_of% @sizeOf361:=@sizeOf361
theorem Z8:type_of% @sizeOf346:=@sizeOf346
theorem ZS:type_of% @sizeOf344:=@sizeOf344
theorem YW:type_of% @sizeOf320:=@sizeOf320
theorem Zm:type_of% @sizeOf31:=@sizeOf31
theorem fa:type_of% @sizeOf3:=@sizeOf3
theorem Zg:type_of% @sizeOf292:=@sizeOf292
theorem Zq:type_of% @sizeOf28:=@sizeOf28
theorem iO:type_of% @sizeOf27:=@sizeOf27
theorem ya:type_of% @sizeOf26:=@sizeOf26
theorem kP:type_of% @sizeOf248:=@sizeOf248
theorem yr:type_of% @sizeOf24:=@sizeOf24
theorem vt:type_of% @sizeOf231:=@sizeOf231
theorem s4:type_of% @sizeOf227:=@sizeOf227
theorem je:type_of% @sizeOf21:=@sizeOf21
theorem cR:type_of% @sizeOf2:=@sizeOf2
theorem aay:type_of% @sizeOf159:=@sizeOf159
theorem YS:type_of% @sizeOf153:=@sizeOf153
theorem Z9:type_of% @sizeOf115:=@sizeOf115
theorem ZT:type_of% @sizeOf102:=@sizeOf102
theorem dS:type_of% @run_underlying:=@run_underlying
theorem j0:type_of% @run_sliceBound:=@run_sliceBound
theorem pL:type_of% @run_firstCells_some:=@run_firstCells_some
theorem uK:type_of% @run_append_own_at:=@run_append_own_at
theorem vu:type_of% @mapM_mono:=@mapM_mono
theorem nG:type_of% @info_parts:=@info_parts
theorem nH:type_of% @heap_alloc_new:=@heap_alloc_new
theorem p9:type_of% @grownCap_le_maxLen:=@grownCap_le_maxLen
theorem Fg:type_of% @execOp_put:=@execOp_put
theorem xG:type_of% @callsIn_wide:=@callsIn_wide
theorem JZ:type_of% @World.ownsRow_nil:=@World.ownsRow_nil
theorem s8:type_of% @World.cell?_of_block:=@World.cell?_of_block
theorem q7:type_of% @World.block_lt_of_cell?:=@World.block_lt_of_cell?
theorem mU:type_of% @Tryz.zeroValue9:=@Tryz.zeroValue9
theorem pg:type_of% @Tryz.zeroValue5:=@Tryz.zeroValue5
theorem mV:type_of% @Tryz.zeroValue4:=@Tryz.zeroValue4
theorem ZV:type_of% @Tryz.zeroValue351:=@Tryz.zeroValue351
theorem mW:type_of% @Tryz.zeroValue3:=@Tryz.zeroValue3
theorem Z2:type_of% @Tryz.zeroValue28:=@Tryz.zeroValue28
theorem rK:type_of% @Tryz.zeroValue20:=@Tryz.zeroValue20
theorem ZW:type_of% @Tryz.zeroValue168:=@Tryz.zeroValue168
theorem ph:type_of% @Tryz.zeroValue0:=@Tryz.zeroValue0
theorem jC:type_of% @Tryz.underlying9:=@Tryz.underlying9
theorem mw:type_of% @Tryz.underlying5:=@Tryz.underlying5
theorem Zf:type_of% @Tryz.underlying44:=@Tryz.underlying44
theorem my:type_of% @Tryz.underlying4:=@Tryz.underlying4
theorem ZM:type_of% @Tryz.underlying351:=@Tryz.underlying351
theorem la:type_of% @Tryz.underlying3:=@Tryz.underlying3
theorem ZA:type_of% @Tryz.underlying28:=@Tryz.underlying28
theorem qO:type_of% @Tryz.underlying21:=@Tryz.underlying21
theorem qP:type_of% @Tryz.underlying20:=@Tryz.underlying20
theorem rL:type_of% @Tryz.underlying2:=@Tryz.underlying2
theorem ZN:type_of% @Tryz.underlying168:=@Tryz.underlying168
theorem oV:type_of% @Tryz.underlying0:=@Tryz.underlying0
theorem ld:type_of% @Tryz.sizeOf9:=@Tryz.sizeOf9
theorem sr:type_of% @Tryz.sizeOf5:=@Tryz.sizeOf5
theorem pM:type_of% @Tryz.sizeOf4:=@Tryz.sizeOf4
theorem aab:type_of% @Tryz.sizeOf351:=@Tryz.sizeOf351
theorem pN:type_of% @Tryz.sizeOf3:=@Tryz.sizeOf3
theorem aam:type_of% @Tryz.sizeOf28:=@Tryz.sizeOf28
theorem uj:type_of% @Tryz.sizeOf20:=@Tryz.sizeOf20
theorem aac:type_of% @Tryz.sizeOf168:=@Tryz.sizeOf168
theorem ss:type_of% @Tryz.sizeOf0:=@Tryz.sizeOf0
theorem qq:type_of% @Tryz.isAgg9:=@Tryz.isAgg9
theorem tu:type_of% @Tryz.isAgg5:=@Tryz.isAgg5
theorem qr:type_of% @Tryz.isAgg4:=@Tryz.isAgg4
theorem aan:type_of% @Tryz.isAgg351:=@Tryz.isAgg351
theorem qt:type_of% @Tryz.isAgg3:=@Tryz.isAgg3
theorem aaw:type_of% @Tryz.isAgg28:=@Tryz.isAgg28
theorem uZ:type_of% @Tryz.isAgg20:=@Tryz.isAgg20
theorem qv:type_of% @Tryz.isAgg2:=@Tryz.isAgg2
theorem aao:type_of% @Tryz.isAgg168:=@Tryz.isAgg168
theorem tv:type_of% @Tryz.isAgg0:=@Tryz.isAgg0
theorem oX:type_of% @TI.ot:=@TI.ot
theorem dC:type_of% @TI.de:=@TI.de
theorem xh:type_of% @TI.qo:=@TI.qo
theorem mo:type_of% @TI.IO:=@TI.IO
theorem ul:type_of% @TI.jH:=@TI.jH
theorem nf:type_of% @TI.Yy:=@TI.Yy
theorem jK:type_of% @TI.Yx:=@TI.Yx
theorem jm:type_of% @TI.Yz:=@TI.Yz
theorem nI:type_of% @TI.XX:=@TI.XX
theorem Dj:type_of% @Sem.run_bind:=@Sem.run_bind
theorem gC:type_of% @IntWalk.i64_in:=@IntWalk.i64_in
theorem gD:type_of% @IntKind.wrap_u8:=@IntKind.wrap_u8
theorem gQ:type_of% @IntKind.wrap_u64:=@IntKind.wrap_u64
theorem j3:type_of% @IntKind.wrap_u32:=@IntKind.wrap_u32
theorem oY:type_of% @IntKind.wrap_i64:=@IntKind.wrap_i64
theorem qb:type_of% @DataW.trod_int:=@DataW.trod_int
theorem um:type_of% @Below.refl:=@Below.refl
theorem P7:type_of% @Act.put_comm:=@Act.put_comm
instance:Sc prog 2:=⟨_,cw,rfl⟩
instance:Sc prog 3:=⟨_,dB,rfl⟩
instance:Sc prog 4:=⟨_,underlying4,rfl⟩
instance:Sc prog 5:=⟨_,dv,rfl⟩
instance:Sc prog 9:=⟨_,fk,rfl⟩
instance:Sc prog 21:=⟨_,fV,rfl⟩
instance:Sc prog 27:=⟨_,dk,rfl⟩
instance:Sc prog 28:=⟨_,q8,rfl⟩
instance:Sc prog 29:=⟨_,fZ,rfl⟩
instance:Sc prog 35:=⟨_,ki,rfl⟩
instance:Sc prog 41:=⟨_,Z6,rfl⟩
instance:Sc prog 42:=⟨_,ZK,rfl⟩
instance:Sc prog 43:=⟨_,dL,rfl⟩
instance:Sc prog 44:=⟨_,iG,rfl⟩
instance:Sc prog 48:=⟨_,Y5,rfl⟩
instance:Sc prog 67:=⟨_,underlying67,rfl⟩
instance:Sc prog 68:=⟨_,YU,rfl⟩
instance:Sc prog 69:=⟨_,underlying69,rfl⟩
instance:Sc prog 79:=⟨_,YR,rfl⟩
instance:Sc prog 83:=⟨_,Zh,rfl⟩
instance:Sc prog 87:=⟨_,aav,rfl⟩
instance:Sc prog 108:=⟨_,Zu,rfl⟩
instance:Sc prog 115:=⟨_,aak,rfl⟩
instance:Sc prog 157:=⟨_,Y8,rfl⟩
instance:Sc prog 161:=⟨_,z1,rfl⟩
instance:Sc prog 181:=⟨_,underlying181,rfl⟩
instance:Sc prog 250:=⟨_,ua,rfl⟩
instance:Sc prog 251:=⟨_,underlying251,rfl⟩
instance:Sc prog 297:=⟨_,ZG,rfl⟩
instance:Sc prog 306:=⟨_,ow,rfl⟩
instance:Sc prog 322:=⟨_,Y7,rfl⟩
instance:Sc prog 338:=⟨_,kD,rfl⟩
instance:Sc prog 341:=⟨_,jy,rfl⟩
instance:Sc prog 344:=⟨_,YZ,rfl⟩
instance:Sc prog 372:=⟨_,aaf,rfl⟩
instance:dg prog 2 21 .i32:=⟨⟨_,cw⟩,fV⟩
instance:dg prog 2 277 .u64:=⟨⟨_,cw⟩,dU⟩
instance:dg prog 2 329 .i32:=⟨⟨_,cw⟩,S3⟩
instance:dg prog 3 5 .u8:=⟨⟨_,dB⟩,dv⟩
instance:dg prog 3 351 .u64:=⟨⟨_,dB⟩,underlying351⟩
instance:dg prog 5 3 .i64:=⟨⟨_,dv⟩,dB⟩
instance:dg prog 5 168 .u32:=⟨⟨_,dv⟩,Zr⟩
instance:dg prog 5 277 .u64:=⟨⟨_,dv⟩,dU⟩
instance:dg prog 21 2 .i64:=⟨⟨_,fV⟩,cw⟩
instance:dg prog 21 5 .u8:=⟨⟨_,fV⟩,dv⟩
instance:dg prog 21 168 .u32:=⟨⟨_,fV⟩,Zr⟩
instance:dg prog 168 5 .u8:=⟨⟨_,Zr⟩,dv⟩
instance:dg prog 277 2 .i64:=⟨⟨_,dU⟩,cw⟩
instance:dg prog 277 5 .u8:=⟨⟨_,dU⟩,dv⟩
instance:dg prog 329 2 .i64:=⟨⟨_,S3⟩,cw⟩
instance:dg prog 351 3 .i64:=⟨⟨_,underlying351⟩,dB⟩
instance:dI prog 27 2 1 8:=⟨.int .i64 0,dk,by kernel_rfl,rfl,rfl⟩
instance:dI prog 28 5 1 1:=⟨.int .u8 0,q8,by kernel_rfl,rfl,rfl⟩
instance:dI prog 42 26 2 16:=⟨.agg #[.int .i64 0,.int .i64 0],ZK,by kernel_rfl,rfl,rfl⟩
instance:dI prog 43 223 8 64:=⟨.agg #[.int .i64 0,.int .i64 0,.int .i64 0,.int .i64 0,.int .i64 0,.int .i64 0,.int .i64 0,.int .i64 0],dL,by kernel_rfl,rfl,rfl⟩
instance:dI prog 44 9 1 16:=⟨.string ByteArray.empty,iG,by kernel_rfl,rfl,rfl⟩
instance:dI prog 79 3 1 8:=⟨.int .i64 0,YR,by kernel_rfl,rfl,rfl⟩
instance:dI prog 83 87 1 8:=⟨.pointer none,Zh,by kernel_rfl,rfl,rfl⟩
instance:dI prog 94 102 2 16:=⟨.agg #[.int .i64 0,.int .i64 0],iY,by kernel_rfl,rfl,rfl⟩
instance:dI prog 99 24 4 32:=⟨.agg #[.int .i64 0,.int .i64 0,.int .i64 0,.int .i64 0],Zy,by kernel_rfl,rfl,rfl⟩
instance:dI prog 161 21 1 4:=⟨.int .i32 0,z1,by kernel_rfl,rfl,rfl⟩
instance:dI prog 338 27 1 24:=⟨.slice none 0 0,kD,by kernel_rfl,rfl,rfl⟩
instance:dI prog 356 28 1 24:=⟨.slice none 0 0,aag,by kernel_rfl,rfl,rfl⟩
instance:Ag prog 24 4:=⟨⟨_,xa,rfl⟩,yr,rfl⟩
instance:Ag prog 26 2:=⟨⟨_,q9,rfl⟩,ya,rfl⟩
instance:Ag prog 31 14:=⟨⟨_,sd,rfl⟩,Zm,rfl⟩
instance:Ag prog 38 3:=⟨⟨_,gT,rfl⟩,YX,rfl⟩
instance:Ag prog 46 10:=⟨⟨_,eE,rfl⟩,sizeOf46,rfl⟩
instance:Ag prog 85 4:=⟨⟨_,Zp,rfl⟩,sizeOf85,rfl⟩
instance:Ag prog 102 2:=⟨⟨_,uf,rfl⟩,ZT,rfl⟩
instance:Ag prog 153 2:=⟨⟨_,YQ,rfl⟩,YS,rfl⟩
instance:Ag prog 159 3:=⟨⟨_,Zl,rfl⟩,aay,rfl⟩
instance:Ag prog 215 3:=⟨⟨_,oM,rfl⟩,sizeOf215,rfl⟩
instance:Ag prog 227 3:=⟨⟨_,jA,rfl⟩,s4,rfl⟩
instance:Ag prog 231 2:=⟨⟨_,mM,rfl⟩,vt,rfl⟩
instance:Ag prog 248 6:=⟨⟨_,lC,rfl⟩,kP,rfl⟩
instance:Ag prog 292 7:=⟨⟨_,Y3,rfl⟩,Zg,rfl⟩
instance:Ag prog 320 2:=⟨⟨_,YT,rfl⟩,YW,rfl⟩
instance:Ag prog 346 2:=⟨⟨_,Ze,rfl⟩,Z8,rfl⟩
instance:Ag prog 361 2:=⟨⟨_,Zd,rfl⟩,Zj,rfl⟩
instance:Ag prog 388 3:=⟨⟨_,YV,rfl⟩,ZR,rfl⟩
instance:Ag prog 444 2:=⟨⟨_,ZX,rfl⟩,sizeOf444,rfl⟩
instance:Sl prog 22 14:=⟨_,underlying22,Zm⟩
instance:Sl prog 27 1:=⟨_,dk,cR⟩
instance:Sl prog 28 1:=⟨_,q8,gJ⟩
instance:Sl prog 29 2:=⟨_,fZ,Zj⟩
instance:Sl prog 42 2:=⟨_,ZK,ya⟩
instance:Sl prog 43 8:=⟨_,dL,sizeOf223⟩
instance:Sl prog 44 1:=⟨_,iG,rH⟩
instance:Sl prog 79 1:=⟨_,YR,fa⟩
instance:Sl prog 83 1:=⟨_,Zh,aal⟩
instance:Sl prog 94 2:=⟨_,iY,ZT⟩
instance:Sl prog 99 4:=⟨_,Zy,yr⟩
instance:Sl prog 108 6:=⟨_,Zu,kP⟩
instance:Sl prog 161 1:=⟨_,z1,je⟩
instance:Sl prog 218 1:=⟨_,underlying218,fa⟩
instance:Sl prog 297 7:=⟨_,ZG,Zg⟩
instance:Sl prog 306 3:=⟨_,ow,ZR⟩
instance:Sl prog 322 2:=⟨_,Y7,YW⟩
instance:Sl prog 338 1:=⟨_,kD,iO⟩
instance:Sl prog 341 2:=⟨_,jy,Z8⟩
instance:Sl prog 344 2:=⟨_,YZ,YS⟩
instance:Sl prog 356 1:=⟨_,aag,Zq⟩
instance:Sl prog 422 1:=⟨_,Z0,aax⟩
instance:Fl prog 24 0 0:=⟨_,_,_,xa,rfl,cR,rfl,rfl⟩
instance:Fl prog 24 1 1:=⟨_,_,_,xa,rfl,cR,rfl,rfl⟩
instance:Fl prog 24 2 2:=⟨_,_,_,xa,rfl,cR,rfl,rfl⟩
instance:Fl prog 24 3 3:=⟨_,_,_,xa,rfl,cR,rfl,rfl⟩
instance:Fl prog 26 0 0:=⟨_,_,_,q9,rfl,cR,rfl,rfl⟩
instance:Fl prog 26 1 1:=⟨_,_,_,q9,rfl,cR,rfl,rfl⟩
instance:Fl prog 31 0 0:=⟨_,_,_,sd,rfl,fa,rfl,rfl⟩
instance:Fl prog 31 1 1:=⟨_,_,_,sd,rfl,yr,rfl,rfl⟩
instance:Fl prog 31 2 5:=⟨_,_,_,sd,rfl,ya,rfl,rfl⟩
instance:Fl prog 31 3 7:=⟨_,_,_,sd,rfl,ya,rfl,rfl⟩
instance:Fl prog 31 4 9:=⟨_,_,_,sd,rfl,cR,rfl,rfl⟩
instance:Fl prog 31 5 10:=⟨_,_,_,sd,rfl,cR,rfl,rfl⟩
instance:Fl prog 31 6 11:=⟨_,_,_,sd,rfl,iO,rfl,rfl⟩
instance:Fl prog 31 7 12:=⟨_,_,_,sd,rfl,Zq,rfl,rfl⟩
instance:Fl prog 31 8 13:=⟨_,_,_,sd,rfl,sizeOf29,rfl,rfl⟩
instance:Fl prog 38 0 0:=⟨_,_,_,gT,rfl,cR,rfl,rfl⟩
instance:Fl prog 38 1 1:=⟨_,_,_,gT,rfl,cR,rfl,rfl⟩
instance:Fl prog 38 2 2:=⟨_,_,_,gT,rfl,iO,rfl,rfl⟩
instance:Fl prog 46 0 0:=⟨_,_,_,eE,rfl,sizeOf41,rfl,rfl⟩
instance:Fl prog 46 1 1:=⟨_,_,_,eE,rfl,cR,rfl,rfl⟩
instance:Fl prog 46 2 2:=⟨_,_,_,eE,rfl,sizeOf4,rfl,rfl⟩
instance:Fl prog 46 3 3:=⟨_,_,_,eE,rfl,ya,rfl,rfl⟩
instance:Fl prog 46 4 5:=⟨_,_,_,eE,rfl,ZL,rfl,rfl⟩
instance:Fl prog 46 5 6:=⟨_,_,_,eE,rfl,iO,rfl,rfl⟩
instance:Fl prog 46 6 7:=⟨_,_,_,eE,rfl,sizeOf43,rfl,rfl⟩
instance:Fl prog 71 0 0:=⟨_,_,_,YY,rfl,sizeOf48,rfl,rfl⟩
instance:Fl prog 71 1 1:=⟨_,_,_,YY,rfl,sizeOf67,rfl,rfl⟩
instance:Fl prog 71 2 2:=⟨_,_,_,YY,rfl,sizeOf68,rfl,rfl⟩
instance:Fl prog 71 3 3:=⟨_,_,_,YY,rfl,cR,rfl,rfl⟩
instance:Fl prog 71 4 4:=⟨_,_,_,YY,rfl,sizeOf69,rfl,rfl⟩
instance:Fl prog 85 0 0:=⟨_,_,_,Zp,rfl,cR,rfl,rfl⟩
instance:Fl prog 85 1 1:=⟨_,_,_,Zp,rfl,cR,rfl,rfl⟩
instance:Fl prog 85 2 2:=⟨_,_,_,Zp,rfl,cR,rfl,rfl⟩
instance:Fl prog 85 3 3:=⟨_,_,_,Zp,rfl,sizeOf83,rfl,rfl⟩
instance:Fl prog 102 0 0:=⟨_,_,_,uf,rfl,cR,rfl,rfl⟩
instance:Fl prog 102 1 1:=⟨_,_,_,uf,rfl,cR,rfl,rfl⟩
instance:Fl prog 110 0 0:=⟨_,_,_,mO,rfl,sizeOf108,rfl,rfl⟩
instance:Fl prog 110 1 1:=⟨_,_,_,mO,rfl,fa,rfl,rfl⟩
instance:Fl prog 153 0 0:=⟨_,_,_,YQ,rfl,cR,rfl,rfl⟩
instance:Fl prog 153 1 1:=⟨_,_,_,YQ,rfl,cR,rfl,rfl⟩
instance:Fl prog 159 0 0:=⟨_,_,_,Zl,rfl,cR,rfl,rfl⟩
instance:Fl prog 159 1 1:=⟨_,_,_,Zl,rfl,cR,rfl,rfl⟩
instance:Fl prog 159 2 2:=⟨_,_,_,Zl,rfl,sizeOf157,rfl,rfl⟩
instance:Fl prog 165 0 0:=⟨_,_,_,aai,rfl,sizeOf35,rfl,rfl⟩
instance:Fl prog 183 0 0:=⟨_,_,_,q6,rfl,sizeOf48,rfl,rfl⟩
instance:Fl prog 183 1 1:=⟨_,_,_,q6,rfl,sizeOf181,rfl,rfl⟩
instance:Fl prog 183 2 2:=⟨_,_,_,q6,rfl,Z9,rfl,rfl⟩
instance:Fl prog 205 0 0:=⟨_,_,_,oS,rfl,Z9,rfl,rfl⟩
instance:Fl prog 205 1 1:=⟨_,_,_,oS,rfl,cR,rfl,rfl⟩
instance:Fl prog 205 2 2:=⟨_,_,_,oS,rfl,cR,rfl,rfl⟩
instance:Fl prog 205 3 3:=⟨_,_,_,oS,rfl,ZL,rfl,rfl⟩
instance:Fl prog 215 0 0:=⟨_,_,_,oM,rfl,fa,rfl,rfl⟩
instance:Fl prog 215 1 1:=⟨_,_,_,oM,rfl,fa,rfl,rfl⟩
instance:Fl prog 215 2 2:=⟨_,_,_,oM,rfl,iO,rfl,rfl⟩
instance:Fl prog 223 0 0:=⟨_,_,_,oH,rfl,cR,rfl,rfl⟩
instance:Fl prog 223 1 1:=⟨_,_,_,oH,rfl,cR,rfl,rfl⟩
instance:Fl prog 223 3 4:=⟨_,_,_,oH,rfl,yr,rfl,rfl⟩
instance:Fl prog 227 0 0:=⟨_,_,_,jA,rfl,fa,rfl,rfl⟩
instance:Fl prog 227 1 1:=⟨_,_,_,jA,rfl,iO,rfl,rfl⟩
instance:Fl prog 227 2 2:=⟨_,_,_,jA,rfl,sizeOf79,rfl,rfl⟩
instance:Fl prog 231 0 0:=⟨_,_,_,mM,rfl,fa,rfl,rfl⟩
instance:Fl prog 231 1 1:=⟨_,_,_,mM,rfl,iO,rfl,rfl⟩
instance:Fl prog 248 0 0:=⟨_,_,_,lC,rfl,yr,rfl,rfl⟩
instance:Fl prog 248 1 4:=⟨_,_,_,lC,rfl,iO,rfl,rfl⟩
instance:Fl prog 248 2 5:=⟨_,_,_,lC,rfl,iO,rfl,rfl⟩
instance:Fl prog 253 0 0:=⟨_,_,_,q5,rfl,cR,rfl,rfl⟩
instance:Fl prog 253 1 1:=⟨_,_,_,q5,rfl,sizeOf250,rfl,rfl⟩
instance:Fl prog 253 2 2:=⟨_,_,_,q5,rfl,sizeOf251,rfl,rfl⟩
instance:Fl prog 265 0 0:=⟨_,_,_,underlying265,rfl,sizeOf263,rfl,rfl⟩
instance:Fl prog 265 1 1:=⟨_,_,_,underlying265,rfl,Zq,rfl,rfl⟩
instance:Fl prog 289 0 0:=⟨_,_,_,jz,rfl,cR,rfl,rfl⟩
instance:Fl prog 289 1 1:=⟨_,_,_,jz,rfl,cR,rfl,rfl⟩
instance:Fl prog 289 2 2:=⟨_,_,_,jz,rfl,iO,rfl,rfl⟩
instance:Fl prog 292 0 0:=⟨_,_,_,Y3,rfl,fa,rfl,rfl⟩
instance:Fl prog 292 1 1:=⟨_,_,_,Y3,rfl,ya,rfl,rfl⟩
instance:Fl prog 292 2 3:=⟨_,_,_,Y3,rfl,yr,rfl,rfl⟩
instance:Fl prog 299 0 0:=⟨_,_,_,ZF,rfl,Z9,rfl,rfl⟩
instance:Fl prog 299 1 1:=⟨_,_,_,ZF,rfl,yr,rfl,rfl⟩
instance:Fl prog 299 2 5:=⟨_,_,_,ZF,rfl,sizeOf297,rfl,rfl⟩
instance:Fl prog 303 0 0:=⟨_,_,_,jO,rfl,Z9,rfl,rfl⟩
instance:Fl prog 303 1 1:=⟨_,_,_,jO,rfl,cR,rfl,rfl⟩
instance:Fl prog 303 2 2:=⟨_,_,_,jO,rfl,cR,rfl,rfl⟩
instance:Fl prog 303 3 3:=⟨_,_,_,jO,rfl,yr,rfl,rfl⟩
instance:Fl prog 303 4 7:=⟨_,_,_,jO,rfl,cR,rfl,rfl⟩
instance:Fl prog 308 0 0:=⟨_,_,_,underlying308,rfl,sizeOf306,rfl,rfl⟩
instance:Fl prog 320 0 0:=⟨_,_,_,YT,rfl,cR,rfl,rfl⟩
instance:Fl prog 320 1 1:=⟨_,_,_,YT,rfl,fa,rfl,rfl⟩
instance:Fl prog 334 0 0:=⟨_,_,_,aah,rfl,Zq,rfl,rfl⟩
instance:Fl prog 334 1 1:=⟨_,_,_,aah,rfl,fa,rfl,rfl⟩
instance:Fl prog 340 0 0:=⟨_,_,_,qX,rfl,cR,rfl,rfl⟩
instance:Fl prog 340 1 1:=⟨_,_,_,qX,rfl,cR,rfl,rfl⟩
instance:Fl prog 340 2 2:=⟨_,_,_,qX,rfl,sizeOf338,rfl,rfl⟩
instance:Fl prog 343 0 0:=⟨_,_,_,jx,rfl,cR,rfl,rfl⟩
instance:Fl prog 343 1 1:=⟨_,_,_,jx,rfl,cR,rfl,rfl⟩
instance:Fl prog 343 2 2:=⟨_,_,_,jx,rfl,sizeOf341,rfl,rfl⟩
instance:Fl prog 346 0 0:=⟨_,_,_,Ze,rfl,cR,rfl,rfl⟩
instance:Fl prog 346 1 1:=⟨_,_,_,Ze,rfl,ZS,rfl,rfl⟩
instance:Fl prog 361 0 0:=⟨_,_,_,Zd,rfl,cR,rfl,rfl⟩
instance:Fl prog 361 1 1:=⟨_,_,_,Zd,rfl,je,rfl,rfl⟩
instance:Fl prog 370 0 0:=⟨_,_,_,ZD,rfl,sizeOf44,rfl,rfl⟩
instance:Fl prog 370 1 1:=⟨_,_,_,ZD,rfl,sizeOf4,rfl,rfl⟩
instance:Fl prog 388 0 0:=⟨_,_,_,YV,rfl,cR,rfl,rfl⟩
instance:Fl prog 388 1 1:=⟨_,_,_,YV,rfl,cR,rfl,rfl⟩
instance:Fl prog 388 2 2:=⟨_,_,_,YV,rfl,ZS,rfl,rfl⟩
instance:Fl prog 391 0 0:=⟨_,_,_,Y6,rfl,cR,rfl,rfl⟩
instance:Fl prog 391 1 1:=⟨_,_,_,Y6,rfl,cR,rfl,rfl⟩
instance:Fl prog 391 2 2:=⟨_,_,_,Y6,rfl,ya,rfl,rfl⟩
instance:Fl prog 391 3 4:=⟨_,_,_,Y6,rfl,ya,rfl,rfl⟩
instance:Fl prog 436 0 0:=⟨_,_,_,Zc,rfl,sizeOf4,rfl,rfl⟩
instance:Fl prog 436 1 1:=⟨_,_,_,Zc,rfl,fa,rfl,rfl⟩
instance:Fl prog 444 0 0:=⟨_,_,_,ZX,rfl,fa,rfl,rfl⟩
instance:Fl prog 444 1 1:=⟨_,_,_,ZX,rfl,cR,rfl,rfl⟩
instance:Pt prog 35:=⟨_,ki⟩
instance:Pt prog 48:=⟨_,Y5⟩
instance:Pt prog 67:=⟨_,underlying67⟩
instance:Pt prog 68:=⟨_,YU⟩
instance:Pt prog 69:=⟨_,underlying69⟩
instance:Pt prog 87:=⟨_,aav⟩
instance:Pt prog 89:=⟨_,underlying89⟩
instance:Pt prog 115:=⟨_,aak⟩
instance:Pt prog 181:=⟨_,underlying181⟩
instance:Pt prog 250:=⟨_,ua⟩
instance:Pt prog 251:=⟨_,underlying251⟩
instance:Sz prog 2 1:=⟨cR⟩
instance:Sz prog 3 1:=⟨fa⟩
instance:Sz prog 4 1:=⟨sizeOf4⟩
instance:Sz prog 21 1:=⟨je⟩
instance:Sz prog 24 4:=⟨yr⟩
instance:Sz prog 26 2:=⟨ya⟩
instance:Sz prog 27 1:=⟨iO⟩
instance:Sz prog 28 1:=⟨Zq⟩
instance:Sz prog 31 14:=⟨Zm⟩
instance:Sz prog 38 3:=⟨YX⟩
instance:Sz prog 41 1:=⟨sizeOf41⟩
instance:Sz prog 42 1:=⟨ZL⟩
instance:Sz prog 44 1:=⟨sizeOf44⟩
instance:Sz prog 46 10:=⟨sizeOf46⟩
instance:Sz prog 68 1:=⟨sizeOf68⟩
instance:Sz prog 71 5:=⟨sizeOf71⟩
instance:Sz prog 83 1:=⟨sizeOf83⟩
instance:Sz prog 85 4:=⟨sizeOf85⟩
instance:Sz prog 87 1:=⟨aal⟩
instance:Sz prog 102 2:=⟨ZT⟩
instance:Sz prog 108 1:=⟨sizeOf108⟩
instance:Sz prog 115 1:=⟨Z9⟩
instance:Sz prog 153 2:=⟨YS⟩
instance:Sz prog 157 1:=⟨sizeOf157⟩
instance:Sz prog 159 3:=⟨aay⟩
instance:Sz prog 161 1:=⟨sizeOf161⟩
instance:Sz prog 181 1:=⟨sizeOf181⟩
instance:Sz prog 215 3:=⟨sizeOf215⟩
instance:Sz prog 227 3:=⟨s4⟩
instance:Sz prog 231 2:=⟨vt⟩
instance:Sz prog 248 6:=⟨kP⟩
instance:Sz prog 250 1:=⟨sizeOf250⟩
instance:Sz prog 251 1:=⟨sizeOf251⟩
instance:Sz prog 263 1:=⟨sizeOf263⟩
instance:Sz prog 292 7:=⟨Zg⟩
instance:Sz prog 297 1:=⟨sizeOf297⟩
instance:Sz prog 306 1:=⟨sizeOf306⟩
instance:Sz prog 320 2:=⟨YW⟩
instance:Sz prog 322 1:=⟨sizeOf322⟩
instance:Sz prog 338 1:=⟨sizeOf338⟩
instance:Sz prog 341 1:=⟨sizeOf341⟩
instance:Sz prog 344 1:=⟨ZS⟩
instance:Sz prog 346 2:=⟨Z8⟩
instance:Sz prog 361 2:=⟨Zj⟩
instance:Sz prog 388 3:=⟨ZR⟩
instance:Sz prog 391 6:=⟨sizeOf391⟩
instance:Sz prog 436 2:=⟨Z7⟩
instance:Sz prog 444 2:=⟨sizeOf444⟩
instance:Zv prog 3:=⟨_,tY⟩
instance:Zv prog 24:=⟨_,Ac⟩
instance:Zv prog 26:=⟨_,Za⟩
instance:Zv prog 31:=⟨_,zeroValue31⟩
instance:Zv prog 38:=⟨_,ZQ⟩
instance:Zv prog 41:=⟨_,zeroValue41⟩
instance:Zv prog 46:=⟨_,Zx⟩
instance:Zv prog 85:=⟨_,zeroValue85⟩
instance:Zv prog 102:=⟨_,aau⟩
instance:Zv prog 153:=⟨_,Zo⟩
instance:Zv prog 159:=⟨_,zeroValue159⟩
instance:Zv prog 161:=⟨_,aat⟩
instance:Zv prog 215:=⟨_,zeroValue215⟩
instance:Zv prog 227:=⟨_,zeroValue227⟩
instance:Zv prog 231:=⟨_,zeroValue231⟩
instance:Zv prog 248:=⟨_,nm⟩
instance:Zv prog 265:=⟨_,zeroValue265⟩
instance:Zv prog 292:=⟨_,ZJ⟩
instance:Zv prog 320:=⟨_,ZI⟩
instance:Zv prog 346:=⟨_,Z5⟩
instance:Zv prog 361:=⟨_,zeroValue361⟩
instance:Zv prog 388:=⟨_,aar⟩
instance:Zv prog 391:=⟨_,zeroValue391⟩
instance:Zv prog 436:=⟨_,Z4⟩
instance:Zv prog 444:=⟨_,zeroValue444⟩
instance:Bs prog 22 31 14:=⟨_,underlying22,Zm,zeroValue31⟩
instance:Bs prog 27 2 1:=⟨_,dk,cR,pJ⟩
instance:Bs prog 28 5 1:=⟨_,q8,gJ,nE⟩
instance:Bs prog 42 26 2:=⟨_,ZK,ya,Za⟩
instance:Bs prog 43 223 8:=⟨_,dL,sizeOf223,zeroValue223⟩
instance:Bs prog 44 9 1:=⟨_,iG,rH,zeroValue9⟩
instance:Bs prog 79 3 1:=⟨_,YR,fa,tY⟩
instance:Bs prog 83 87 1:=⟨_,Zh,aal,zeroValue87⟩
instance:Bs prog 94 102 2:=⟨_,iY,ZT,aau⟩
instance:Bs prog 99 24 4:=⟨_,Zy,yr,Ac⟩
instance:Bs prog 322 320 2:=⟨_,Y7,YW,ZI⟩
instance:Bs prog 338 27 1:=⟨_,kD,iO,zeroValue27⟩
instance:Bs prog 356 28 1:=⟨_,aag,Zq,zeroValue28⟩
instance:Bs prog 422 372 1:=⟨_,Z0,aax,aas⟩
instance:Bd prog 24:=⟨_,[(0,1),(1,1),(2,1),(3,1)],_,xa,Ac,fun w=>by kernel_rfl⟩
instance:Bd prog 26:=⟨_,[(0,1),(1,1)],_,q9,Za,fun w=>by kernel_rfl⟩
instance:Bd prog 31:=⟨_,[(0,1),(1,4),(5,2),(7,2),(9,1),(10,1),(11,1),(12,1),(13,1)],_,sd,zeroValue31,fun w=>by kernel_rfl⟩
instance:Bd prog 38:=⟨_,[(0,1),(1,1),(2,1)],_,gT,ZQ,fun w=>by kernel_rfl⟩
instance:Bd prog 46:=⟨_,[(0,1),(1,1),(2,1),(3,2),(5,1),(6,1),(7,1),(8,1),(9,1)],_,eE,Zx,fun w=>by kernel_rfl⟩
instance:Bd prog 71:=⟨_,[(0,1),(1,1),(2,1),(3,1),(4,1)],_,YY,aaa,fun w=>by kernel_rfl⟩
instance:Bd prog 85:=⟨_,[(0,1),(1,1),(2,1),(3,1)],_,Zp,zeroValue85,fun w=>by kernel_rfl⟩
instance:Bd prog 102:=⟨_,[(0,1),(1,1)],_,uf,aau,fun w=>by kernel_rfl⟩
instance:Bd prog 110:=⟨_,[(0,1),(1,1)],_,mO,zeroValue110,fun w=>by kernel_rfl⟩
instance:Bd prog 150:=⟨_,[(0,1)],_,ZH,zeroValue150,fun w=>by kernel_rfl⟩
instance:Bd prog 153:=⟨_,[(0,1),(1,1)],_,YQ,Zo,fun w=>by kernel_rfl⟩
instance:Bd prog 159:=⟨_,[(0,1),(1,1),(2,1)],_,Zl,zeroValue159,fun w=>by kernel_rfl⟩
instance:Bd prog 165:=⟨_,[(0,1)],_,aai,zeroValue165,fun w=>by kernel_rfl⟩
instance:Bd prog 183:=⟨_,[(0,1),(1,1),(2,1)],_,q6,zeroValue183,fun w=>by kernel_rfl⟩
instance:Bd prog 205:=⟨_,[(0,1),(1,1),(2,1),(3,1)],_,oS,zeroValue205,fun w=>by kernel_rfl⟩
instance:Bd prog 215:=⟨_,[(0,1),(1,1),(2,1)],_,oM,zeroValue215,fun w=>by kernel_rfl⟩
instance:Bd prog 223:=⟨_,[(0,1),(1,1),(2,2),(4,4)],_,oH,zeroValue223,fun w=>by kernel_rfl⟩
instance:Bd prog 227:=⟨_,[(0,1),(1,1),(2,1)],_,jA,zeroValue227,fun w=>by kernel_rfl⟩
instance:Bd prog 231:=⟨_,[(0,1),(1,1)],_,mM,zeroValue231,fun w=>by kernel_rfl⟩
instance:Bd prog 248:=⟨_,[(0,4),(4,1),(5,1)],_,lC,nm,fun w=>by kernel_rfl⟩
instance:Bd prog 253:=⟨_,[(0,1),(1,1),(2,1)],_,q5,zeroValue253,fun w=>by kernel_rfl⟩
instance:Bd prog 289:=⟨_,[(0,1),(1,1),(2,1)],_,jz,zeroValue289,fun w=>by kernel_rfl⟩
instance:Bd prog 292:=⟨_,[(0,1),(1,2),(3,4)],_,Y3,ZJ,fun w=>by kernel_rfl⟩
instance:Bd prog 299:=⟨_,[(0,1),(1,4),(5,1)],_,ZF,zeroValue299,fun w=>by kernel_rfl⟩
instance:Bd prog 303:=⟨_,[(0,1),(1,1),(2,1),(3,4),(7,1)],_,jO,zeroValue303,fun w=>by kernel_rfl⟩
instance:Bd prog 308:=⟨_,[(0,1)],_,underlying308,zeroValue308,fun w=>by kernel_rfl⟩
instance:Bd prog 320:=⟨_,[(0,1),(1,1)],_,YT,ZI,fun w=>by kernel_rfl⟩
instance:Bd prog 334:=⟨_,[(0,1),(1,1)],_,aah,zeroValue334,fun w=>by kernel_rfl⟩
instance:Bd prog 340:=⟨_,[(0,1),(1,1),(2,1)],_,qX,zeroValue340,fun w=>by kernel_rfl⟩
instance:Bd prog 343:=⟨_,[(0,1),(1,1),(2,1)],_,jx,zeroValue343,fun w=>by kernel_rfl⟩
instance:Bd prog 346:=⟨_,[(0,1),(1,1)],_,Ze,Z5,fun w=>by kernel_rfl⟩
instance:Bd prog 370:=⟨_,[(0,1),(1,1)],_,ZD,zeroValue370,fun w=>by kernel_rfl⟩
instance:Bd prog 388:=⟨_,[(0,1),(1,1),(2,1)],_,YV,aar,fun w=>by kernel_rfl⟩
instance:Bd prog 391:=⟨_,[(0,1),(1,1),(2,2),(4,2)],_,Y6,zeroValue391,fun w=>by kernel_rfl⟩
instance:Bd prog 436:=⟨_,[(0,1),(1,1)],_,Zc,Z4,fun w=>by kernel_rfl⟩
instance:Bd prog 444:=⟨_,[(0,1),(1,1)],_,ZX,zeroValue444,fun w=>by kernel_rfl⟩
end Go.Proofs.YtceahkcepefcaaaGreatDoor
