/- A part of the proof that hachuretop.WholeCharts and hachuretop.WholeWater returns true at every input; no condition. -/
import Derived.Test.YtcalhocphkbbgaaGreatDoorKB
set_option maxRecDepth 100000
set_option maxHeartbeats 16000000
set_option linter.unusedVariables false
set_option linter.unusedSimpArgs false
namespace Go.Proofs.YtcalhocphkbbgaaGreatDoor
open Go.Proofs.Tryz Go.RowKit
variable{Qq:(Nat->Value)->Prop}{Q:(Nat->Value)->World->Prop}{af:Array Edge}{fs:Array Field}{ops:Array Oper}{rs:Array ResultVar}{fn:Func}{f:FuncId}{h:HA}{a:Int}{srest:List (Nat × Oper)}{σ:List (Nat × Value)}{Qt:List (Nat × Value)->(Nat->Value)->Prop}{Ct:List (Nat × Value)->World->Prop}{L' tl:List HA}{hd ks:List Nat}{args:List Operand}{l l' vs xs ys τ:List Value}{Qs:List Value->(Nat->Value)->Prop}{Cs:List Value->World->Prop}{N b bytes c c2 el el' g i j k k' k1 k2 m n q tb:Nat}{sp:Nat->Bool}{c':Nat->Int}{F:Nat->Prop}{e:Nat->Value}{op:Op}{hi x:Operand}{A B l0:Option Addr}{d:Option Tmp}{P:Program}{G G' G1 G2:Prop}{dd:TypeDesc}{t ty:TypeId}{u v2:Value}{R:Value->World->Prop}{W w w' wq:World}{C:World->Prop}
theorem gm {L : List HA} {x : HA} (i : Nat) (h : gi L i = some x) : x ∈ L := dD (wI L i ▸ h)
theorem mm {L : List HA} {x : HA} (h : x ∈ L := by first|exact gm 0 rfl|exact gm 1 rfl|exact gm 2 rfl|exact gm 3 rfl|exact gm 4 rfl|exact gm 5 rfl|exact gm 6 rfl|exact gm 7 rfl|exact gm 8 rfl|exact gm 9 rfl|exact gm 10 rfl|exact gm 11 rfl|exact gm 12 rfl|exact gm 13 rfl) : x ∈ L := h
def YE : Op → Bool
  | .binOp _ _ _ _ _ => false
  | .unOp .neg _ _ => false
  | _ => true
def YF : Op → Bool
  | .binOp .add _ _ _ _ => false
  | .binOp .sub _ _ _ _ => false
  | .binOp .mul _ _ _ _ => false
  | _ => true
def X7 : Op → Bool
  | .store _ _ _ => false
  | .load _ _ => false
  | .alloc _ => false
  | .box _ _ => false
  | _ => true
class Sz (P : Program) (t : Nat) (n : outParam Nat) : Prop where h : ∀ w, (sizeOf t).run P w = .ok n w
class Zv (P : Program) (t : Nat) where
  z : Value
  h : ∀ w, (zeroValue t).run P w = .ok z w
class Bd (P : Program) (t : Nat) where
  z : Value
  pl : List (Nat × Nat)
  h : ∃ fs, P.underlying t = some (.struct fs) ∧ (∀ w, (zeroValue t).run P w = .ok z w) ∧ ∀ w, (fs.mapM fun f => (Prod.mk f.offset <$> sizeOf f.type : Sem (Nat × Nat))).run P w = .ok pl.toArray w
section
variable{σ:List Value}{τ:List (Nat × Value)}{rest:List Oper}{ps:String}
theorem oP {v : Value} (ha : YE op = true) (h : n7 (ev e) op = some v) : iE P e ⟨d, op, ty, ps, af, none⟩ v := jx h
theorem oQ {v : Value} (ha : YF op = true) (h : n7 (ev e) op = some v) : iE P e ⟨d, op, ty, ps, af, none⟩ v := jx h
theorem oD {t : TypeId} {parts : List (Nat × Operand)} {l0 l : List Value} [i : Bd P t] (h1 : yS (fun k => i.pl[k]?) i.z.cells.toList (yQ e parts) = some l0) (h2 : lj l0 = some l) : iE P e ⟨d, .build t parts.toArray, ty, ps, af, none⟩ (.agg l.toArray) := by
  obtain ⟨fs, a, b, c⟩ := i.h
  exact kL a b c h1 h2
theorem oK {t tb b o : Nat} {x : Operand} {v : Value} {l : List Value} [i : Sc P t] (hx : ev e x = .pointer (some ⟨b, o, none⟩)) (hB : eL w b tb l) (hl : l[o]? = some v) : gd P e ⟨d, .load t x, ty, ps, af, none⟩ w v := by
  obtain ⟨dd, g1, g2⟩ := i.h
  exact cV g1 g2 hx hB hl
theorem oJ {t tb b o n : Nat} {x : Operand} {cs l : List Value} [i : Ag P t n] (hx : ev e x = .pointer (some ⟨b, o, none⟩)) (hB : eL w b tb l) (hl : lj ((l.drop o).take n) = some cs) (hn : cs.length = n) : gd P e ⟨d, .load t x, ty, ps, af, none⟩ w (.agg cs.toArray) := by
  obtain ⟨⟨dd, g1, g2⟩, g3, _⟩ := i.h
  exact fx g1 g2 (g3 _) hx hB hl hn
theorem EN {F : Nat → Prop} {W : World} {L : List HA} {i a t tb b o n : Nat} {cs l : List Value} {R : Value → World → Prop} [q : Ag P t n] (S : St F W w L) (hi : gi L i = some (.blk b tb l)) (hx : e a = .pointer (some ⟨b, o, none⟩)) (hl : lj ((l.drop o).take n) = some cs) (hn : cs.length = n) (hR : R (.agg cs.toArray) w) : QF P #[.cell a t] R .ret e w := by
  obtain ⟨⟨dd, g1, g2⟩, g3, _⟩ := q.h
  exact Tb g1 g2 (g3 _) hx (S.blk hi) hl hn hR
theorem YG (k:G')(h:G'->G:=by(intro k;(first|(with_reducible refine dm ?_);exact k|(with_reducible refine dz ?_);exact k|(with_reducible refine eF ?_);exact k|(with_reducible refine gO ?_);(try show CW _ _ _ _ _ _);exact k|(with_reducible refine eX ?_ ?_);rfl;exact k|(with_reducible refine jr ?_ ?_);rfl;exact k|(with_reducible refine k0 ?_);exact k|(with_reducible refine di ?_);show CW _ _ _ _ _ _;exact k|(with_reducible refine mJ ?_);(repeat (first|with_reducible refine mL ?_|with_reducible refine oq ?_));exact k|(with_reducible refine pD ?_);(repeat (first|with_reducible refine nC ?_|with_reducible refine pE ?_));(try show CW _ _ _ _ _ _);exact k))):G:=h k
theorem ra (h : RW P ops Q (⟨d, op, ty, ps, af, none⟩ :: rest) e w) : RW P ops Q (⟨d, op, ty, ps, af, none⟩ :: rest) e w := h
theorem gS {t : TypeId} {x y : Operand} (h : RW P ops Q (⟨d, .store t x y, ty, ps, af, none⟩ :: rest) e w) : RW P ops Q (⟨d, .store t x y, ty, ps, af, none⟩ :: rest) e w := h
theorem gL {t : TypeId} {x : Operand} (h : RW P ops Q (⟨d, .load t x, ty, ps, af, none⟩ :: rest) e w) : RW P ops Q (⟨d, .load t x, ty, ps, af, none⟩ :: rest) e w := h
theorem gV (hk : X7 op = true) (h : RW P ops Q (⟨d, op, ty, ps, af, none⟩ :: rest) e w) : RW P ops Q (⟨d, op, ty, ps, af, none⟩ :: rest) e w := h
theorem qL {t : TypeId} {x : Operand} (h : RQ P ops C Qq (⟨d, .load t x, ty, ps, af, none⟩ :: rest) e) : RQ P ops C Qq (⟨d, .load t x, ty, ps, af, none⟩ :: rest) e := h
theorem qV (hk : X7 op = true) (h : RQ P ops C Qq (⟨d, op, ty, ps, af, none⟩ :: rest) e) : RQ P ops C Qq (⟨d, op, ty, ps, af, none⟩ :: rest) e := h
theorem sa (h : RS P ops Cs sp Qs ((j, ⟨d, op, ty, ps, af, none⟩) :: srest) σ e) : RS P ops Cs sp Qs ((j, ⟨d, op, ty, ps, af, none⟩) :: srest) σ e := h
theorem ta (h : TI.RS P ops Ct sp Qt ((j, ⟨d, op, ty, ps, af, none⟩) :: srest) τ e) : TI.RS P ops Ct sp Qt ((j, ⟨d, op, ty, ps, af, none⟩) :: srest) τ e := h
theorem gX {t : TypeId} {x : Operand} (h : RW P ops Q (⟨d, .box t x, ty, ps, af, none⟩ :: rest) e w) : RW P ops Q (⟨d, .box t x, ty, ps, af, none⟩ :: rest) e w := h
theorem gA {t : TypeId} (h : RW P ops Q (⟨d, .alloc t, ty, ps, af, none⟩ :: rest) e w) : RW P ops Q (⟨d, .alloc t, ty, ps, af, none⟩ :: rest) e w := h
theorem pv {o:Oper}{v:Value}(h:iE P e o v:=by (first|(with_reducible apply oP);rfl;rfl|(with_reducible apply oF);rfl|(with_reducible apply oG);rfl;(with_reducible assumption)|(with_reducible apply oL);rfl|(with_reducible apply oC true);rfl;(first|exact decide_eq_true (by omega)|exact beq_iff_eq.2 (by omega)|exact bne_iff_ne.2 (by omega))|(with_reducible apply oC false);rfl;(first|exact decide_eq_false (by omega)|exact beq_eq_false_iff_ne.2 (by omega)|exact bne_eq_false_iff_eq.2 (by omega))|(with_reducible apply oW);rfl;omega|(with_reducible apply oU);rfl;omega|(with_reducible apply oI);rfl;rfl;(with_reducible assumption);omega;omega|(with_reducible apply oN);rfl;rfl|(with_reducible apply oQ);rfl;rfl|(with_reducible apply oD);rfl;rfl|(with_reducible apply Pc);rfl;(with_reducible assumption)|(with_reducible apply EW);rfl;rfl;omega;omega|(with_reducible apply xd);rfl;rfl;omega;omega)):iE P e o v:=h
theorem pr {o:Oper}{v:Value}(h:gd P e o w v:=by (first|(with_reducible apply oB);rfl;(with_reducible assumption);exact mm;rfl|(with_reducible apply oA);rfl;(with_reducible assumption);exact mm;rfl;rfl|(with_reducible apply oR);rfl;(with_reducible assumption);exact mm;(with_reducible assumption))):gd P e o w v:=h
theorem pq {o:Oper}{v:Value}{w':World}(g:Gr w w')(h:Gr w w'->gd P e o w' v:=by(intro zg;(first|(with_reducible apply oB);rfl;exact St.gr (by assumption) zg;exact mm;rfl|(with_reducible apply oA);rfl;exact St.gr (by assumption) zg;exact mm;rfl;rfl|(with_reducible apply oR);rfl;exact St.gr (by assumption) zg;exact mm;(with_reducible assumption)))):gd P e o w' v:=h g
theorem Tf {F:Nat->Prop}{W:World}{L L':List HA}{t:TypeId}{x y:Operand}(S:St F W w L)(k:∀w',St F W w' L'->RW P ops Q rest (fI e d undef) w')(h:St F W w L->(∀w',St F W w' L'->RW P ops Q rest (fI e d undef) w')->RW P ops Q (⟨d,.store t x y,ty,ps,af,none⟩::rest) e w:=by first|exact fun a b=>iy (i:=0) a rfl (Sz.h _) rfl rfl rfl rfl rfl rfl b|exact fun a b=>d8 (i:=0) a rfl (Sz.h _) rfl rfl rfl rfl rfl rfl b|exact fun a b=>iy (i:=1) a rfl (Sz.h _) rfl rfl rfl rfl rfl rfl b|exact fun a b=>d8 (i:=1) a rfl (Sz.h _) rfl rfl rfl rfl rfl rfl b|exact fun a b=>iy (i:=2) a rfl (Sz.h _) rfl rfl rfl rfl rfl rfl b|exact fun a b=>d8 (i:=2) a rfl (Sz.h _) rfl rfl rfl rfl rfl rfl b|exact fun a b=>iy (i:=3) a rfl (Sz.h _) rfl rfl rfl rfl rfl rfl b|exact fun a b=>d8 (i:=3) a rfl (Sz.h _) rfl rfl rfl rfl rfl rfl b|exact fun a b=>iy (i:=4) a rfl (Sz.h _) rfl rfl rfl rfl rfl rfl b|exact fun a b=>d8 (i:=4) a rfl (Sz.h _) rfl rfl rfl rfl rfl rfl b|exact fun a b=>iy (i:=5) a rfl (Sz.h _) rfl rfl rfl rfl rfl rfl b|exact fun a b=>d8 (i:=5) a rfl (Sz.h _) rfl rfl rfl rfl rfl rfl b|exact fun a b=>iy (i:=6) a rfl (Sz.h _) rfl rfl rfl rfl rfl rfl b|exact fun a b=>d8 (i:=6) a rfl (Sz.h _) rfl rfl rfl rfl rfl rfl b):RW P ops Q (⟨d,.store t x y,ty,ps,af,none⟩::rest) e w:=h S k
theorem YH {W : World} {t tb b o : Nat} {x : Operand} {v : Value} {l : List Value} [i : Sc P t] (hx : ev e x = .pointer (some ⟨b, o, none⟩)) (hB : eL W b tb l) (g : Gr W w) (hl : l[o]? = some v) : gd P e ⟨d, .load t x, ty, ps, af, none⟩ w v := oK hx (hB.gr g) hl
theorem YI {W : World} {t tb b o n : Nat} {x : Operand} {cs l : List Value} [i : Ag P t n] (hx : ev e x = .pointer (some ⟨b, o, none⟩)) (hB : eL W b tb l) (g : Gr W w) (hl : lj ((l.drop o).take n) = some cs) (hn : cs.length = n) : gd P e ⟨d, .load t x, ty, ps, af, none⟩ w (.agg cs.toArray) := oJ hx (hB.gr g) hl hn
theorem YJ {W : World} {t m : Nat} {x : Operand} {v : Value} {A : Option Addr} {xs : List Value} [i : Sc P t] (hx : ev e x = .pointer (at_ A m)) (hR : Rd W A xs) (g : Gr W w) (hv : xs[m]? = some v) : gd P e ⟨d, .load t x, ty, ps, af, none⟩ w v := oO hx (hR.gr g) hv
theorem X8 {o:Oper}{v:Value}(h:gd P e o w v:=by (first|(with_reducible apply YH);rfl;(with_reducible assumption);exact St.out (by assumption);rfl|(with_reducible apply YI);rfl;(with_reducible assumption);exact St.out (by assumption);rfl;rfl|(with_reducible apply YJ);rfl;(with_reducible assumption);exact St.out (by assumption);(with_reducible assumption))):gd P e o w v:=h
theorem wc (k:G')(h:tA G'->G:=by(intro k;(repeat (first|(first|(with_reducible refine gL ?_);(first|refine dH pr ?_|refine dH X8 ?_)|(with_reducible refine gV ?_ ?_);rfl;refine dU pv ?_)|(with_reducible refine eD ?_ ?_);rfl|(with_reducible refine dr ?_ ?_);rfl;(first|(with_reducible refine gL ?_);(first|refine dH pr ?_|refine dH X8 ?_)|(with_reducible refine gV ?_ ?_);rfl;refine dU pv ?_)|refine YG ?_));exact k.h)):G:=h ⟨k⟩
theorem Mw (k:G')(h:tA G'->G:=by(intro k;(repeat (first|(first|(with_reducible refine qL ?_);refine fo (fun wq hq=>pq hq) ?_|(with_reducible refine qV ?_ ?_);rfl;refine eO pv ?_)|(with_reducible refine iN ?_ ?_);rfl|(with_reducible refine fO ?_ ?_);rfl;(first|(with_reducible refine qL ?_);refine fo (fun wq hq=>pq hq) ?_|(with_reducible refine qV ?_ ?_);rfl;refine eO pv ?_)));exact k.h)):G:=h ⟨k⟩
theorem VE (k:G')(h:tA G'->G:=by(intro k;(repeat (first|(with_reducible refine sa ?_);refine ot rfl pv ?_|(with_reducible refine Pa ?_ ?_);rfl|(with_reducible refine Ms ?_ ?_);rfl;(with_reducible refine sa ?_);refine ot rfl pv ?_));exact k.h)):G:=h ⟨k⟩
theorem X9 (k:G')(h:tA G'->G:=by(intro k;(repeat (first|(with_reducible refine ta ?_);refine TI.ot rfl pv ?_|(with_reducible refine TI.Pa ?_ ?_);rfl|(with_reducible refine TI.Ms ?_ ?_);rfl;(with_reducible refine ta ?_);refine TI.ot rfl pv ?_|(with_reducible refine TI.Yx ?_)|(with_reducible refine TI.IO ?_)));exact k.h)):G:=h ⟨k⟩
theorem zg (k:G')(h:tA G'->G:=by(intro k;intros;refine wc ?_;exact k.h)):G:=h ⟨k⟩
theorem zB (k1:G1)(k2:G2)(h:tA G1->tA G2->G:=by(intro k1 k2;intros;refine wc ?_;refine tV rfl (fun hc=>?_) (fun hc=>?_);((try simp only [decide_eq_true_eq,decide_eq_false_iff_not,beq_iff_eq,bne_iff_ne,beq_eq_false_iff_ne,bne_eq_false_iff_eq,hZ,YP,ne_eq,fH,kw,ke,md,gt_iff_lt,ge_iff_le,pz,pB] at hc);revert hc;exact k1.h);(try simp only [decide_eq_true_eq,decide_eq_false_iff_not,beq_iff_eq,bne_iff_ne,beq_eq_false_iff_ne,bne_eq_false_iff_eq,hZ,YP,ne_eq,fH,kw,ke,md,gt_iff_lt,ge_iff_le,pz,pB] at hc);revert hc;exact k2.h)):G:=h ⟨k1⟩ ⟨k2⟩
theorem zN (k:G')(h:tA G'->G:=by(intro k;intros;refine wc ?_;(try with_reducible refine dr (by rfl) ?_);(first|refine kq (tX rfl) (by assumption) ?_|refine kq (jV Zv.h rfl) (by assumption) ?_);exact k.h)):G:=h ⟨k⟩
theorem zS (k:G')(h:tA G'->G:=by(intro k;intros;refine wc ?_;(repeat ((try with_reducible refine dr (by rfl) ?_);(with_reducible refine gS ?_);refine Tf (by assumption) ?_;intro zw zh;refine wc ?_));revert zh;revert zw;exact k.h)):G:=h ⟨k⟩
theorem zC {f:FuncId}{vs:List Value}{R:Value->World->Prop}(hc:Fn P f vs w R)(k:G')(h:tA G'->Fn P f vs w R->G:=by(intro k zc;intros;refine wc ?_;(try with_reducible refine dr (by rfl) ?_);refine eY rfl zc ?_;rintro _ zw ⟨rfl,zr⟩;have zh:=St.gr (by assumption) zr;revert zh;revert zr;revert zw;exact k.h)):G:=h ⟨k⟩ hc
theorem zK {f:FuncId}{vs:List Value}{R:Value->World->Prop}(hc:Fn P f vs w R)(k:G')(h:tA G'->Fn P f vs w R->G:=by(intro k zc;intros;refine wc ?_;(try with_reducible refine dr (by rfl) ?_);refine eY rfl zc ?_;exact k.h)):G:=h ⟨k⟩ hc
theorem zL {b tb:Nat}{l:List Value}(hc:eL w b tb l)(k:G')(h:tA G'->eL w b tb l->G:=by(intro k zc;intros;refine wc ?_;(try with_reducible refine dr (by rfl) ?_);(first|refine dH (oK rfl zc rfl) ?_|refine dH (oJ rfl zc (by rfl) (by rfl)) ?_);exact k.h)):G:=h ⟨k⟩ hc
structure Od (hd tl : List Nat) : Prop where
  h : True
theorem od {hd tl : List Nat} {id : Nat} {l : List Oper} {Q : Exit → (Nat → Value) → World → Prop} (o : Od hd tl) (hm : P.follows .mixedOrders = true) (hB : (TI.Fc l.toArray (fun _ => false) (.chain hd) tl && ((OT.chain hd).allB fun i => decide (i < l.length)) && (tl.all fun i => decide (i < l.length)) && (hd.all fun i => decide (i < l.length))) = true)
    (h : RQ P l.toArray (fun wq => Gr w wq) (fun e' => ∀ w', Gr w w' → RW P l.toArray (fun e w => Q .normal e w) (iS l tl) e' w') (iS l hd) e) : CW P N (.region id l.toArray true) Q e w := pF hd tl hm hB (Gr.drew _) h
theorem zQ (k:G')(h:tA G'->G:=by(intro k;intros;refine Mw ?_;exact k.h)):G:=h ⟨k⟩
theorem zX (k:G')(h:tA G'->G:=by(intro k;intros;refine wc ?_;(first|refine ir rfl ?_|refine nd rfl rfl ?_|refine tE rfl rfl rfl ?_|refine CF rfl rfl rfl rfl ?_|refine EN (i:=0) (by assumption) rfl rfl (by rfl) (by rfl) ?_|refine EN (i:=1) (by assumption) rfl rfl (by rfl) (by rfl) ?_|refine EN (i:=2) (by assumption) rfl rfl (by rfl) (by rfl) ?_|refine EN (i:=3) (by assumption) rfl rfl (by rfl) (by rfl) ?_);exact k.h)):G:=h ⟨k⟩
theorem zZ (h:G:=by(intros;refine wc ?_;(first|exact ir rfl ⟨rfl,St.out (by assumption)⟩|exact nd rfl rfl ⟨rfl,St.out (by assumption)⟩|exact tE rfl rfl rfl ⟨rfl,St.out (by assumption)⟩|exact EN (i:=0) (by assumption) rfl rfl (by rfl) (by rfl) ⟨rfl,St.out (by assumption)⟩|exact EN (i:=1) (by assumption) rfl rfl (by rfl) (by rfl) ⟨rfl,St.out (by assumption)⟩|exact EN (i:=2) (by assumption) rfl rfl (by rfl) (by rfl) ⟨rfl,St.out (by assumption)⟩|exact EN (i:=3) (by assumption) rfl rfl (by rfl) (by rfl) ⟨rfl,St.out (by assumption)⟩))):G:=h
theorem zI {f : FuncId} {fn : Func} {c : Code} {args : List Value} {R : Value → World → Prop} {rs : Array ResultVar} (hf : P.funcs[f]? = some fn) (h : CW P N c (QF P rs R) (qJ args) w) (hb : fn.body = some c := by rfl) (hr : fn.results = rs := by (conv => lhs; whnf)) (hN : fn.ntmps = N := by (conv => lhs; whnf)) (hcl : o7 P f = true := by kernel_rfl) (hk : (kS N c && Nat.ble args.length N) = true := by kernel_rfl) : Fn P f args w R := Dc hf hb hr hN hcl hk h
theorem zT {A:Option Addr}{xs:List Value}{m:Nat}{v:Value}(hc:Rd w A xs)(hd:xs[m]?=some v)(k:G')(h:tA G'->Rd w A xs->xs[m]?=some v->G:=by(intro k zc zd;intros;refine wc ?_;(try with_reducible refine dr (by rfl) ?_);refine dH (oO rfl zc zd) ?_;exact k.h)):G:=h ⟨k⟩ hc hd
theorem zP {f:FuncId}{vs:List Value}{u:Value}(hc:∀w2,Gr w w2->Fn P f vs w2 (fun v w3=>v=u∧Gr w2 w3))(k:G')(h:tA G'->(∀w2,Gr w w2->Fn P f vs w2 (fun v w3=>v=u∧Gr w2 w3))->G:=by(intro k zc;intros;refine Mw ?_;(try with_reducible refine fO (by rfl) ?_);refine nA rfl (fun wq hq=>(zc wq hq).mono (fun _ _ ⟨hv,hg⟩=>⟨hv,hq.trans hg⟩)) ?_;exact k.h)):G:=h ⟨k⟩ hc
theorem zM {b tb:Nat}{l:List Value}(hc:∀w2,Gr w w2->eL w2 b tb l)(k:G')(h:tA G'->(∀w2,Gr w w2->eL w2 b tb l)->G:=by(intro k zc;intros;refine Mw ?_;(try with_reducible refine fO (by rfl) ?_);(first|refine fo (fun wq hq=>oK rfl (zc wq hq) rfl) ?_|refine fo (fun wq hq=>oJ rfl (zc wq hq) (by rfl) (by rfl)) ?_);exact k.h)):G:=h ⟨k⟩ hc
theorem zO {A:Option Addr}{xs:List Value}{m:Nat}{v:Value}(hc:∀w2,Gr w w2->Rd w2 A xs)(hd:xs[m]?=some v)(k:G')(h:tA G'->(∀w2,Gr w w2->Rd w2 A xs)->xs[m]?=some v->G:=by(intro k zc zd;intros;refine Mw ?_;(try with_reducible refine fO (by rfl) ?_);refine fo (fun wq hq=>oO rfl (zc wq hq) zd) ?_;exact k.h)):G:=h ⟨k⟩ hc hd
theorem zE (k:G')(h:tA G'->G:=by(intro k;intros;refine Mw ?_;refine vZ ?_;intro zw zr;have zh:=St.gr (by assumption) zr;refine wc ?_;revert zh;revert zr;revert zw;exact k.h)):G:=h ⟨k⟩
theorem zD (hd tl:List Nat)(k:G')(h:tA G'->Od hd tl->G:=by(intro k zo;intros;refine wc ?_;refine od zo (by kernel_rfl) (by kernel_rfl) ?_;simp only [iS,dK,dR];refine Mw ?_;exact k.h)):G:=h ⟨k⟩ ⟨trivial⟩
theorem zF (hd tl:List Nat)(k:G')(h:tA G'->Od hd tl->G:=by(intro k zo;intros;refine wc ?_;refine od zo (by kernel_rfl) (by kernel_rfl) ?_;simp only [iS,dK,dR];refine Mw ?_;refine vZ ?_;intro zw zr;have zh:=St.gr (by assumption) zr;refine wc ?_;revert zh;revert zr;revert zw;exact k.h)):G:=h ⟨k⟩ ⟨trivial⟩
theorem zW (k:G')(h:tA G'->G:=by(intro k;intros;refine X9 ?_;exact k.h)):G:=h ⟨k⟩
structure Oe (C : List Value → World → Prop) (w : World) (sp hd tl : List Nat) : Prop where
  h : C [] w.drew
theorem oe {C : List Value → World → Prop} {sp hd tl : List Nat} {id : Nat} {l : List Oper} {Q : Exit → (Nat → Value) → World → Prop} (o : Oe C w sp hd tl) (hm : P.follows .mixedOrders = true) (hB : (TI.Fc l.toArray (fun i => sp.contains i) (.chain hd) tl && ((OT.chain hd).allB fun i => decide (i < l.length)) && (tl.all fun i => decide (i < l.length)) && (hd.all fun i => decide (i < l.length))) = true)
    (h : RS P l.toArray C (fun i => sp.contains i) (fun σ e' => ∀ w', C σ w' → RW P l.toArray (fun e w => Q .normal e w) (iS l tl) e' w') (kz l hd) [] e) : CW P N (.region id l.toArray true) Q e w := IP sp hd tl hm hB o.h h
theorem zH {C:List Value->World->Prop}(sp hd tl:List Nat)(h0:C [] w.drew)(k:G')(h:tA G'->Oe C w sp hd tl->G:=by(intro k zo;intros;refine wc ?_;refine oe zo (by kernel_rfl) (by kernel_rfl) ?_;simp only [kz,iS,dK,dR];refine VE ?_;exact k.h)):G:=h ⟨k⟩ ⟨h0⟩
theorem zV {b tb:Nat}{l:List Value}(hc:∀τ w2,Cs τ w2->eL w2 b tb l)(k:G')(h:tA G'->(∀τ w2,Cs τ w2->eL w2 b tb l)->RS P ops Cs sp Qs srest σ e:=by(intro k zc;intros;refine VE ?_;(try with_reducible refine Ms (by rfl) ?_);(first|refine qo rfl (fun τ wq hq=>oK rfl (zc τ wq hq) rfl) ?_|refine qo rfl (fun τ wq hq=>oJ rfl (zc τ wq hq) (by rfl) (by rfl)) ?_);exact k.h)):RS P ops Cs sp Qs srest σ e:=h ⟨k⟩ hc
theorem zY (k:G')(h:tA G'->G:=by(intro k;intros;refine VE ?_;refine IO ?_;exact k.h)):G:=h ⟨k⟩
theorem zU {b tb:Nat}{l:List Value}(hc:∀τ w2,Ct τ w2->eL w2 b tb l)(k:G')(h:tA G'->(∀τ w2,Ct τ w2->eL w2 b tb l)->TI.RS P ops Ct sp Qt srest τ e:=by(intro k zc;intros;refine X9 ?_;(try with_reducible refine TI.Ms (by rfl) ?_);(first|refine TI.qo rfl (fun τ wq hq=>oK rfl (zc τ wq hq) rfl) ?_|refine TI.qo rfl (fun τ wq hq=>oJ rfl (zc τ wq hq) (by rfl) (by rfl)) ?_);exact k.h)):TI.RS P ops Ct sp Qt srest τ e:=h ⟨k⟩ hc
theorem zR (k:G')(h:tA G'->G:=by(intro k;intros;refine VE ?_;exact k.h)):G:=h ⟨k⟩
theorem yA (k:G')(h:tA G'->G:=by(intro k;intros;refine wc ?_;(repeat ((try with_reducible refine dr (by rfl) ?_);(first|(with_reducible refine gS ?_);refine Tf (by assumption) ?_;intro zw zi;(try clear zh);have zh:=zi;clear zi|(with_reducible refine gX ?_);refine kq (tX rfl) (by assumption) ?_;intro zb zw zr zi;clear zr;(try clear zh);have zh:=zi;clear zi|(with_reducible refine gA ?_);refine kq (jV Zv.h rfl) (by assumption) ?_;intro zb zw zr zi;clear zr;(try clear zh);have zh:=zi;clear zi);refine wc ?_));(try revert zh);(try revert zw);(repeat revert zb);exact k.h)):G:=h ⟨k⟩
theorem yX (k:G')(h:tA G'->G:=by(intro k;intros;refine wc ?_;(repeat ((try with_reducible refine dr (by rfl) ?_);(first|(with_reducible refine gS ?_);refine Tf (by assumption) ?_;intro zw zi;(try clear zh);have zh:=zi;clear zi|(with_reducible refine gX ?_);refine kq (tX rfl) (by assumption) ?_;intro zb zw zr zi;clear zr;(try clear zh);have zh:=zi;clear zi|(with_reducible refine gA ?_);refine kq (jV Zv.h rfl) (by assumption) ?_;intro zb zw zr zi;clear zr;(try clear zh);have zh:=zi;clear zi);refine wc ?_));(first|refine ir rfl ?_|refine nd rfl rfl ?_|refine tE rfl rfl rfl ?_|refine CF rfl rfl rfl rfl ?_|refine EN (i:=0) (by assumption) rfl rfl (by rfl) (by rfl) ?_|refine EN (i:=1) (by assumption) rfl rfl (by rfl) (by rfl) ?_|refine EN (i:=2) (by assumption) rfl rfl (by rfl) (by rfl) ?_|refine EN (i:=3) (by assumption) rfl rfl (by rfl) (by rfl) ?_);(try revert zh);(try revert zw);(repeat revert zb);exact k.h)):G:=h ⟨k⟩
theorem EO {f:FuncId}{vs:List Value}{R:World->Value->World->Prop}(hc:∀w,Fn P f vs w (R w))(k:G')(h:tA G'->(∀w,Fn P f vs w (R w))->G:=by(intro k zc;intros;refine wc ?_;(repeat ((try with_reducible refine dr (by rfl) ?_);(first|(with_reducible refine gS ?_);refine Tf (by assumption) ?_;intro zw zi;(try clear zh);have zh:=zi;clear zi|(with_reducible refine gX ?_);refine kq (tX rfl) (by assumption) ?_;intro zb zw zr zi;clear zr;(try clear zh);have zh:=zi;clear zi|(with_reducible refine gA ?_);refine kq (jV Zv.h rfl) (by assumption) ?_;intro zb zw zr zi;clear zr;(try clear zh);have zh:=zi;clear zi);refine wc ?_));(try with_reducible refine dr (by rfl) ?_);refine eY rfl (zc _) ?_;rintro _ zw ⟨rfl,zr⟩;have zi:=St.gr (by assumption) zr;clear zr;(try clear zh);have zh:=zi;clear zi;(try revert zh);(try revert zw);(repeat revert zb);exact k.h)):G:=h ⟨k⟩ hc
class Bs (P:Program)(t:Nat)(el k:outParam Nat) where
  z:Value
  h:P.underlying t=some (.slice el)∧(∀w,(sizeOf el).run P w=.ok k w)∧∀w,(zeroValue el).run P w=.ok z w
theorem yb {F:Nat->Prop}{W:World}{L:List HA}{t el n k:Nat}{pa:List (Nat×Operand)}{l0 l:List Value}[i:Bs P t el k](S:St F W w L)(hr:∀A w',Gr w w'->St F W w' (.row el k A n n l::L)->dO A->RW P ops Q rest (fI e d (.slice A n n)) w')(hk:i.z.cells.toList.length=k:=by rfl)(h0:Nat.beq (n*k) 0=false:=by rfl)(hn:Nat.ble (n*k) 16777216=true:=by rfl)(h1:yS (fun i=>some (i*k,k)) ((List.replicate n i.z.cells.toList).flatten) (yQ e pa)=some l0:=by rfl)(h2:lj l0=some l:=by rfl)(hl:Nat.beq l.length (n*k)=true:=by rfl):RW P ops Q (⟨d,.buildSlice t n pa.toArray,ty,ps,af,none⟩::rest) e w:=Mv i.h.1 i.h.2.1 i.h.2.2 hk h0 hn h1 h2 hl S hr
theorem sl {l:List (Nat×Value)}(h:SL e l:=by(repeat(first|exact trivial|refine ⟨by first|with_reducible rfl|exact ie (by omega)|rfl,?_⟩))):SL e l:=h
theorem rA {F:Nat->Prop}{W:World}{L:List HA}{a t tb b o n:Nat}{cs l:List Value}{R:Value->World->Prop}[q:Ag P t n](S:St F W w L)(hR:R (.agg cs.toArray) w)(hx:e a=.pointer (some ⟨b,o,none⟩):=by rfl)(hi:HA.blk b tb l∈L:=by exact mm)(hl:lj ((l.drop o).take n)=some cs:=by rfl)(hn:cs.length=n:=by rfl):QF P #[.cell a t] R .ret e w:=by
 obtain ⟨⟨dd,g1,g2⟩,g3,_⟩:=q.h
 obtain ⟨j,hj⟩:=jI hi
 exact Tb g1 g2 (g3 _) hx (S.blk (i:=j) (by rw [wI];exact hj)) hl hn hR
theorem pG {F:Nat->Prop}{W:World}{L:List HA}{a u t tb b o n:Nat}{cs l:List Value}{v2:Value}{R:Value->World->Prop}[q:Ag P t n](S:St F W w L)(hR:R (.tuple #[.agg cs.toArray,v2]) w)(hx:e a=.pointer (some ⟨b,o,none⟩):=by rfl)(hi:HA.blk b tb l∈L:=by exact mm)(hl:lj ((l.drop o).take n)=some cs:=by rfl)(hn:cs.length=n:=by rfl)(h2:fz (e u)=some v2:=by rfl):QF P #[.cell a t,.tmp u] R .ret e w:=by
 obtain ⟨⟨dd,g1,g2⟩,g3,_⟩:=q.h
 obtain ⟨j,hj⟩:=jI hi
 exact Xb g1 g2 (g3 _) hx (S.blk (i:=j) (by rw [wI];exact hj)) hl hn h2 hR
class dI (P:Program)(t:Nat)(el k bytes:outParam Nat) where
  z:Value
  h:P.underlying t=some (.slice el)∧(P.info? el).map (fun i=>(i.zero,i.size,i.bytes))=some (some z,k,bytes)∧Nat.beq z.cells.size k=true∧Nat.blt 0 k=true
class dg (P:Program)(s t:Nat)(kd:outParam IntKind):Prop where h:(∃dd,P.underlying s=some dd)∧P.underlying t=some (.int kd)
section
variable{L:List HA}
theorem ZP {s x:Operand}{t el bytes k n c m c2 el' k':Nat}{A B:Option Addr}{xs ys:List Value}{f:HA->List HA}(i j:Nat)[I:dI P t el k bytes](S:St F W w L)(hr:∀A' c' w',St F W w' (f (.row el k A' (n+m) c' (xs++ys)))->dO A'->RW P ops Q rest (fI e d (.slice A' (n+m) c')) w')(hs:ev e s=.slice A n c:=by rfl)(hx:ev e x=.slice B m c2:=by rfl)(hi:gi L i=some (.row el k A n c xs):=by rfl)(hj:gi L j=some (.row el' k' B m c2 ys):=by rfl)(hf:∀h,j7 L i h=some (f h):=by exact fun h=>rfl)(hm:ys.length=m*k:=by simp)(h1:(ys.all fun v=>v.oneCell')=true:=by rfl)(hm0:0<m:=by omega)(hb:(n+m)*(bytes+1)<=140737488355328:=by omega):RW P ops Q (⟨d,.call ⟨.builtin .append,#[s,x],#[t,t]⟩,ty,ps,af,none⟩::rest) e w:=fM S hi hf I.h.1 I.h.2.1 I.h.2.2.1 I.h.2.2.2 hs hx hm hm0 (S.rd hj) h1 hb hr
theorem ZU {t m n:Nat}{x:Operand}{cs xs:List Value}{A:Option Addr}[i:Ag P t n](hR:Rd w A xs)(hv:(xs.drop m).take n=cs)(hr:RW P ops Q rest (fI e d (.agg cs.toArray)) w)(hx:ev e x=.pointer (at_ A m):=by rfl)(hn:cs.length=n:=by rfl):RW P ops Q (⟨d,.load t x,ty,ps,af,none⟩::rest) e w:=by
 obtain ⟨⟨dd,g1,g2⟩,g3,g4⟩:=i.h
 exact dH (fb g1 g2 (g3 _) hx hR hv hn g4) hr
theorem Y9 {s t:Nat}{ks kd:IntKind}{n m:Int}{x:Operand}[i:dg P s t kd](hx:ev e x=.int ks n)(hm:kd.wrap n=m)(hr:RW P ops Q rest (fI e d (.int kd m)) w):RW P ops Q (⟨d,.convert s t x,ty,ps,af,none⟩::rest) e w:=by
 obtain ⟨⟨dd,h1⟩,h2⟩:=i.h
 exact dU (dY h1 h2 hx hm) hr
theorem Z1 {t tb:Nat}{x y:Operand}{b o n:Nat}{l cs l':List Value}(i:Nat)[z:Sz P t n](S:St F W w L)(hr:∀w',St F W w' L'->RW P ops Q rest (fI e d undef) w')(hi:gi L i=some (.blk b tb l):=by rfl)(hx:ev e x=.pointer (some ⟨b,o,none⟩):=by rfl)(hy:ev e y=.agg cs.toArray:=by rfl)(hn:cs.length=n:=by rfl)(hl':lj (l.take o++cs++l.drop (o+n))=some l':=by rfl)(ho:((cs.all fun v=>v.oneCell')&&Nat.ble (o+n) l.length)=true:=by rfl)(hs:j7 L i (.blk b tb l')=some L':=by rfl):RW P ops Q (⟨d,.store t x y,ty,ps,af,none⟩::rest) e w:=d8 S hi (z.h _) hx hy hn hl' ho hs hr
end
theorem yK {f:FuncId}{vs:List Value}{R:World->Value->World->Prop}(hc:∀w,Fn P f vs w (R w))(k:G')(h:tA G'->(∀w,Fn P f vs w (R w))->G:=by(intro k zc;intros;refine wc ?_;(repeat ((try with_reducible refine dr (by rfl) ?_);(first|(with_reducible refine gS ?_);refine Tf (by assumption) ?_;intro zw zi;(try clear zh);have zh:=zi;clear zi|(with_reducible refine gX ?_);refine kq (tX rfl) (by assumption) ?_;intro zb zw zr zi;clear zr;(try clear zh);have zh:=zi;clear zi|(with_reducible refine gA ?_);refine kq (jV Zv.h rfl) (by assumption) ?_;intro zb zw zr zi;clear zr;(try clear zh);have zh:=zi;clear zi);refine wc ?_));(try with_reducible refine dr (by rfl) ?_);refine eY rfl (zc _) ?_;(try revert zh);(try revert zw);(repeat revert zb);exact k.h)):G:=h ⟨k⟩ hc
theorem yI {f : FuncId} {fn : Func} {c : Code} {args : List Value} {R : Value → World → Prop} {rs : Array ResultVar} (hf : P.funcs[f]? = some fn) (h : St No w w [] → CW P N c (QF P rs R) (qJ args) w) (hb : fn.body = some c := by rfl) (hr : fn.results = rs := by (conv => lhs; whnf)) (hN : fn.ntmps = N := by (conv => lhs; whnf)) (hcl : o7 P f = true := by kernel_rfl) (hk : (kS N c && Nat.ble args.length N) = true := by kernel_rfl) : Fn P f args w R := Dc hf hb hr hN hcl hk (h (St.start w))
end
theorem qE:type_of% @zeroValue75:=@zeroValue75
theorem ZC:type_of% @zeroValue73:=@zeroValue73
theorem mP:type_of% @zeroValue67:=@zeroValue67
theorem nE:type_of% @zeroValue5:=@zeroValue5
theorem uX:type_of% @zeroValue437:=@zeroValue437
theorem gE:type_of% @zeroValue43:=@zeroValue43
theorem pI:type_of% @zeroValue40:=@zeroValue40
theorem IF:type_of% @zeroValue389:=@zeroValue389
theorem I4:type_of% @zeroValue373:=@zeroValue373
theorem uY:type_of% @zeroValue350:=@zeroValue350
theorem rJ:type_of% @zeroValue324:=@zeroValue324
theorem s7:type_of% @zeroValue31:=@zeroValue31
theorem tY:type_of% @zeroValue3:=@zeroValue3
theorem sk:type_of% @zeroValue296:=@zeroValue296
theorem p7:type_of% @zeroValue253:=@zeroValue253
theorem Ac:type_of% @zeroValue24:=@zeroValue24
theorem pJ:type_of% @zeroValue2:=@zeroValue2
theorem JV:type_of% @zeroValue166:=@zeroValue166
theorem ne:type_of% @zeroValue158:=@zeroValue158
theorem JW:type_of% @zeroValue107:=@zeroValue107
theorem we:type_of% @wpIn_seq:=@wpIn_seq
theorem ll:type_of% @wpIn_mono:=@wpIn_mono
theorem Zy:type_of% @underlying99:=@underlying99
theorem JX:type_of% @underlying92:=@underlying92
theorem np:type_of% @underlying90:=@underlying90
theorem fk:type_of% @underlying9:=@underlying9
theorem mf:type_of% @underlying88:=@underlying88
theorem iF:type_of% @underlying84:=@underlying84
theorem mg:type_of% @underlying82:=@underlying82
theorem p8:type_of% @underlying75:=@underlying75
theorem Zz:type_of% @underlying73:=@underlying73
theorem jl:type_of% @underlying70:=@underlying70
theorem mh:type_of% @underlying67:=@underlying67
theorem k9:type_of% @underlying64:=@underlying64
theorem dv:type_of% @underlying5:=@underlying5
theorem kO:type_of% @underlying47:=@underlying47
theorem eE:type_of% @underlying46:=@underlying46
theorem ud:type_of% @underlying445:=@underlying445
theorem iG:type_of% @underlying44:=@underlying44
theorem ue:type_of% @underlying439:=@underlying439
theorem aae:type_of% @underlying438:=@underlying438
theorem ZY:type_of% @underlying437:=@underlying437
theorem qM:type_of% @underlying432:=@underlying432
theorem dL:type_of% @underlying43:=@underlying43
theorem ug:type_of% @underlying423:=@underlying423
theorem jw:type_of% @underlying40:=@underlying40
theorem tt:type_of% @underlying4:=@underlying4
theorem kT:type_of% @underlying392:=@underlying392
theorem jJ:type_of% @underlying389:=@underlying389
theorem gT:type_of% @underlying38:=@underlying38
theorem Bo:type_of% @underlying373:=@underlying373
theorem qN:type_of% @underlying371:=@underlying371
theorem fR:type_of% @underlying37:=@underlying37
theorem C8:type_of% @underlying360:=@underlying360
theorem qa:type_of% @underlying36:=@underlying36
theorem lm:type_of% @underlying350:=@underlying350
theorem ki:type_of% @underlying35:=@underlying35
theorem kg:type_of% @underlying348:=@underlying348
theorem ui:type_of% @underlying347:=@underlying347
theorem lz:type_of% @underlying345:=@underlying345
theorem YZ:type_of% @underlying344:=@underlying344
theorem uk:type_of% @underlying342:=@underlying342
theorem kD:type_of% @underlying338:=@underlying338
theorem gF:type_of% @underlying333:=@underlying333
theorem kU:type_of% @underlying326:=@underlying326
theorem jd:type_of% @underlying324:=@underlying324
theorem Y7:type_of% @underlying322:=@underlying322
theorem qS:type_of% @underlying313:=@underlying313
theorem kV:type_of% @underlying310:=@underlying310
theorem sd:type_of% @underlying31:=@underlying31
theorem jP:type_of% @underlying307:=@underlying307
theorem jO:type_of% @underlying303:=@underlying303
theorem qT:type_of% @underlying301:=@underlying301
theorem dB:type_of% @underlying3:=@underlying3
theorem kj:type_of% @underlying296:=@underlying296
theorem uT:type_of% @underlying293:=@underlying293
theorem fZ:type_of% @underlying29:=@underlying29
theorem kC:type_of% @underlying281:=@underlying281
theorem dk:type_of% @underlying27:=@underlying27
theorem uU:type_of% @underlying258:=@underlying258
theorem DC:type_of% @underlying255:=@underlying255
theorem q5:type_of% @underlying253:=@underlying253
theorem xa:type_of% @underlying24:=@underlying24
theorem oa:type_of% @underlying236:=@underlying236
theorem kN:type_of% @underlying232:=@underlying232
theorem qU:type_of% @underlying228:=@underlying228
theorem qW:type_of% @underlying220:=@underlying220
theorem qY:type_of% @underlying210:=@underlying210
theorem fV:type_of% @underlying21:=@underlying21
theorem iY:type_of% @underlying2:=@underlying2
theorem uV:type_of% @underlying188:=@underlying188
theorem ml:type_of% @underlying173:=@underlying173
theorem Fj:type_of% @underlying170:=@underlying170
theorem gB:type_of% @underlying166:=@underlying166
theorem mN:type_of% @underlying164:=@underlying164
theorem k5:type_of% @underlying162:=@underlying162
theorem gU:type_of% @underlying158:=@underlying158
theorem qZ:type_of% @underlying155:=@underlying155
theorem YQ:type_of% @underlying153:=@underlying153
theorem Fk:type_of% @underlying146:=@underlying146
theorem aaj:type_of% @underlying141:=@underlying141
theorem G8:type_of% @underlying120:=@underlying120
theorem ou:type_of% @underlying119:=@underlying119
theorem aak:type_of% @underlying115:=@underlying115
theorem oz:type_of% @underlying113:=@underlying113
theorem lB:type_of% @underlying107:=@underlying107
theorem oE:type_of% @underlying104:=@underlying104
theorem nF:type_of% @size_zeroCells:=@size_zeroCells
theorem G9:type_of% @sizeOf92:=@sizeOf92
theorem rH:type_of% @sizeOf9:=@sizeOf9
theorem nq:type_of% @sizeOf82:=@sizeOf82
theorem gJ:type_of% @sizeOf5:=@sizeOf5
theorem q4:type_of% @sizeOf46:=@sizeOf46
theorem x8:type_of% @sizeOf437:=@sizeOf437
theorem fS:type_of% @sizeOf43:=@sizeOf43
theorem tZ:type_of% @sizeOf389:=@sizeOf389
theorem YX:type_of% @sizeOf38:=@sizeOf38
theorem Ml:type_of% @sizeOf373:=@sizeOf373
theorem nr:type_of% @sizeOf37:=@sizeOf37
theorem yJ:type_of% @sizeOf350:=@sizeOf350
theorem sV:type_of% @sizeOf35:=@sizeOf35
theorem t6:type_of% @sizeOf348:=@sizeOf348
theorem jQ:type_of% @sizeOf324:=@sizeOf324
theorem Zm:type_of% @sizeOf31:=@sizeOf31
theorem fa:type_of% @sizeOf3:=@sizeOf3
theorem lN:type_of% @sizeOf296:=@sizeOf296
theorem jN:type_of% @sizeOf29:=@sizeOf29
theorem nV:type_of% @sizeOf253:=@sizeOf253
theorem jy:type_of% @sizeOf24:=@sizeOf24
theorem MD:type_of% @sizeOf236:=@sizeOf236
theorem AV:type_of% @sizeOf232:=@sizeOf232
theorem je:type_of% @sizeOf21:=@sizeOf21
theorem cR:type_of% @sizeOf2:=@sizeOf2
theorem M2:type_of% @sizeOf164:=@sizeOf164
theorem iH:type_of% @sizeOf158:=@sizeOf158
theorem Bl:type_of% @sizeOf120:=@sizeOf120
theorem t7:type_of% @sizeOf107:=@sizeOf107
theorem dS:type_of% @run_underlying:=@run_underlying
theorem j0:type_of% @run_sliceBound:=@run_sliceBound
theorem pL:type_of% @run_firstCells_some:=@run_firstCells_some
theorem wA:type_of% @run_equalIn_agg:=@run_equalIn_agg
theorem uK:type_of% @run_append_own_at:=@run_append_own_at
theorem tB:type_of% @returnsInHanded_of_calls:=@returnsInHanded_of_calls
theorem lr:type_of% @or_false:=@or_false
theorem qp:type_of% @of_decide_eq_true:=@of_decide_eq_true
theorem vu:type_of% @mapM_mono:=@mapM_mono
theorem nG:type_of% @info_parts:=@info_parts
theorem rq:type_of% @if_true:=@if_true
theorem a7:type_of% @if_pos:=@if_pos
theorem a8:type_of% @if_neg:=@if_neg
theorem pW:type_of% @if_false:=@if_false
theorem nH:type_of% @heap_alloc_new:=@heap_alloc_new
theorem qB:type_of% @gt_iff_lt:=@gt_iff_lt
theorem p9:type_of% @grownCap_le_maxLen:=@grownCap_le_maxLen
theorem qC:type_of% @ge_iff_le:=@ge_iff_le
theorem Fg:type_of% @execOp_put:=@execOp_put
theorem iu:type_of% @decide_eq_true_iff:=@decide_eq_true_iff
theorem cT:type_of% @decide_eq_true_eq:=@decide_eq_true_eq
theorem fD:type_of% @decide_eq_true:=@decide_eq_true
theorem d9:type_of% @decide_eq_false_iff_not:=@decide_eq_false_iff_not
theorem iO:type_of% @decide_eq_false:=@decide_eq_false
theorem xG:type_of% @callsIn_wide:=@callsIn_wide
theorem f5:type_of% @bne_iff_ne:=@bne_iff_ne
theorem eo:type_of% @bne_eq_false_iff_eq:=@bne_eq_false_iff_eq
theorem fE:type_of% @beq_self_eq_true:=@beq_self_eq_true
theorem fX:type_of% @beq_iff_eq:=@beq_iff_eq
theorem et:type_of% @beq_eq_false_iff_ne:=@beq_eq_false_iff_ne
theorem rI:type_of% @World.var?_cell:=@World.var?_cell
theorem JZ:type_of% @World.ownsRow_nil:=@World.ownsRow_nil
theorem s8:type_of% @World.cell?_of_block:=@World.cell?_of_block
theorem q7:type_of% @World.block_lt_of_cell?:=@World.block_lt_of_cell?
theorem mU:type_of% @Tryz.zeroValue9:=@Tryz.zeroValue9
theorem pg:type_of% @Tryz.zeroValue5:=@Tryz.zeroValue5
theorem mV:type_of% @Tryz.zeroValue4:=@Tryz.zeroValue4
theorem uW:type_of% @Tryz.zeroValue37:=@Tryz.zeroValue37
theorem t8:type_of% @Tryz.zeroValue355:=@Tryz.zeroValue355
theorem mW:type_of% @Tryz.zeroValue3:=@Tryz.zeroValue3
theorem rK:type_of% @Tryz.zeroValue20:=@Tryz.zeroValue20
theorem ub:type_of% @Tryz.zeroValue173:=@Tryz.zeroValue173
theorem ph:type_of% @Tryz.zeroValue0:=@Tryz.zeroValue0
theorem jC:type_of% @Tryz.underlying9:=@Tryz.underlying9
theorem mw:type_of% @Tryz.underlying5:=@Tryz.underlying5
theorem my:type_of% @Tryz.underlying4:=@Tryz.underlying4
theorem lD:type_of% @Tryz.underlying38:=@Tryz.underlying38
theorem qD:type_of% @Tryz.underlying37:=@Tryz.underlying37
theorem sZ:type_of% @Tryz.underlying355:=@Tryz.underlying355
theorem la:type_of% @Tryz.underlying3:=@Tryz.underlying3
theorem qO:type_of% @Tryz.underlying21:=@Tryz.underlying21
theorem qP:type_of% @Tryz.underlying20:=@Tryz.underlying20
theorem rL:type_of% @Tryz.underlying2:=@Tryz.underlying2
theorem s6:type_of% @Tryz.underlying173:=@Tryz.underlying173
theorem oV:type_of% @Tryz.underlying0:=@Tryz.underlying0
theorem ld:type_of% @Tryz.sizeOf9:=@Tryz.sizeOf9
theorem sr:type_of% @Tryz.sizeOf5:=@Tryz.sizeOf5
theorem pM:type_of% @Tryz.sizeOf4:=@Tryz.sizeOf4
theorem Ha:type_of% @Tryz.sizeOf37:=@Tryz.sizeOf37
theorem Bm:type_of% @Tryz.sizeOf355:=@Tryz.sizeOf355
theorem pN:type_of% @Tryz.sizeOf3:=@Tryz.sizeOf3
theorem uj:type_of% @Tryz.sizeOf20:=@Tryz.sizeOf20
theorem Bn:type_of% @Tryz.sizeOf173:=@Tryz.sizeOf173
theorem ss:type_of% @Tryz.sizeOf0:=@Tryz.sizeOf0
theorem qq:type_of% @Tryz.isAgg9:=@Tryz.isAgg9
theorem tu:type_of% @Tryz.isAgg5:=@Tryz.isAgg5
theorem qr:type_of% @Tryz.isAgg4:=@Tryz.isAgg4
theorem KI:type_of% @Tryz.isAgg37:=@Tryz.isAgg37
theorem Hb:type_of% @Tryz.isAgg355:=@Tryz.isAgg355
theorem qt:type_of% @Tryz.isAgg3:=@Tryz.isAgg3
theorem uZ:type_of% @Tryz.isAgg20:=@Tryz.isAgg20
theorem qv:type_of% @Tryz.isAgg2:=@Tryz.isAgg2
theorem Hu:type_of% @Tryz.isAgg173:=@Tryz.isAgg173
theorem tv:type_of% @Tryz.isAgg0:=@Tryz.isAgg0
theorem oX:type_of% @TI.ot:=@TI.ot
theorem dC:type_of% @TI.de:=@TI.de
theorem xh:type_of% @TI.qo:=@TI.qo
theorem mo:type_of% @TI.IO:=@TI.IO
theorem ul:type_of% @TI.jH:=@TI.jH
theorem nf:type_of% @TI.Yy:=@TI.Yy
theorem jK:type_of% @TI.Yx:=@TI.Yx
theorem jm:type_of% @TI.Yz:=@TI.Yz
theorem nI:type_of% @TI.XX:=@TI.XX
theorem Dj:type_of% @Sem.run_bind:=@Sem.run_bind
theorem pH:type_of% @IntWalk.u8_in:=@IntWalk.u8_in
theorem gC:type_of% @IntWalk.i64_in:=@IntWalk.i64_in
theorem gD:type_of% @IntKind.wrap_u8:=@IntKind.wrap_u8
theorem gQ:type_of% @IntKind.wrap_u64:=@IntKind.wrap_u64
theorem j3:type_of% @IntKind.wrap_u32:=@IntKind.wrap_u32
theorem oY:type_of% @IntKind.wrap_i64:=@IntKind.wrap_i64
theorem qb:type_of% @DataW.trod_int:=@DataW.trod_int
theorem vr:type_of% @ChangeSpec.post_blind:=@ChangeSpec.post_blind
theorem um:type_of% @Below.refl:=@Below.refl
theorem P7:type_of% @Act.put_comm:=@Act.put_comm
instance:Sc prog 2:=⟨_,iY,rfl⟩
instance:Sc prog 3:=⟨_,dB,rfl⟩
instance:Sc prog 4:=⟨_,tt,rfl⟩
instance:Sc prog 5:=⟨_,dv,rfl⟩
instance:Sc prog 9:=⟨_,fk,rfl⟩
instance:Sc prog 21:=⟨_,fV,rfl⟩
instance:Sc prog 27:=⟨_,dk,rfl⟩
instance:Sc prog 29:=⟨_,fZ,rfl⟩
instance:Sc prog 34:=⟨_,underlying34,rfl⟩
instance:Sc prog 35:=⟨_,ki,rfl⟩
instance:Sc prog 36:=⟨_,qa,rfl⟩
instance:Sc prog 37:=⟨_,fR,rfl⟩
instance:Sc prog 38:=⟨_,gT,rfl⟩
instance:Sc prog 44:=⟨_,iG,rfl⟩
instance:Sc prog 47:=⟨_,kO,rfl⟩
instance:Sc prog 69:=⟨_,underlying69,rfl⟩
instance:Sc prog 70:=⟨_,jl,rfl⟩
instance:Sc prog 71:=⟨_,underlying71,rfl⟩
instance:Sc prog 84:=⟨_,iF,rfl⟩
instance:Sc prog 88:=⟨_,mf,rfl⟩
instance:Sc prog 92:=⟨_,JX,rfl⟩
instance:Sc prog 113:=⟨_,oz,rfl⟩
instance:Sc prog 120:=⟨_,G8,rfl⟩
instance:Sc prog 162:=⟨_,k5,rfl⟩
instance:Sc prog 166:=⟨_,gB,rfl⟩
instance:Sc prog 186:=⟨_,underlying186,rfl⟩
instance:Sc prog 255:=⟨_,DC,rfl⟩
instance:Sc prog 256:=⟨_,underlying256,rfl⟩
instance:Sc prog 301:=⟨_,qT,rfl⟩
instance:Sc prog 310:=⟨_,kV,rfl⟩
instance:Sc prog 326:=⟨_,kU,rfl⟩
instance:Sc prog 342:=⟨_,uk,rfl⟩
instance:Sc prog 345:=⟨_,lz,rfl⟩
instance:Sc prog 348:=⟨_,kg,rfl⟩
instance:Sc prog 373:=⟨_,Bo,rfl⟩
instance:dg prog 2 21 .i32:=⟨⟨_,iY⟩,fV⟩
instance:dg prog 2 281 .u64:=⟨⟨_,iY⟩,kC⟩
instance:dg prog 2 333 .i32:=⟨⟨_,iY⟩,gF⟩
instance:dg prog 3 5 .u8:=⟨⟨_,dB⟩,dv⟩
instance:dg prog 3 355 .u64:=⟨⟨_,dB⟩,underlying355⟩
instance:dg prog 5 3 .i64:=⟨⟨_,dv⟩,dB⟩
instance:dg prog 5 173 .u32:=⟨⟨_,dv⟩,ml⟩
instance:dg prog 5 281 .u64:=⟨⟨_,dv⟩,kC⟩
instance:dg prog 21 2 .i64:=⟨⟨_,fV⟩,iY⟩
instance:dg prog 21 5 .u8:=⟨⟨_,fV⟩,dv⟩
instance:dg prog 21 173 .u32:=⟨⟨_,fV⟩,ml⟩
instance:dg prog 173 5 .u8:=⟨⟨_,ml⟩,dv⟩
instance:dg prog 281 2 .i64:=⟨⟨_,kC⟩,iY⟩
instance:dg prog 281 5 .u8:=⟨⟨_,kC⟩,dv⟩
instance:dg prog 333 2 .i64:=⟨⟨_,gF⟩,iY⟩
instance:dg prog 355 3 .i64:=⟨⟨_,underlying355⟩,dB⟩
instance:dI prog 29 2 1 8:=⟨.int .i64 0,fZ,by kernel_rfl,rfl,rfl⟩
instance:dI prog 35 24 2 16:=⟨.agg #[.int .i64 0,.int .i64 0],ki,by kernel_rfl,rfl,rfl⟩
instance:dI prog 36 228 8 64:=⟨.agg #[.int .i64 0,.int .i64 0,.int .i64 0,.int .i64 0,.int .i64 0,.int .i64 0,.int .i64 0,.int .i64 0],qa,by kernel_rfl,rfl,rfl⟩
instance:dI prog 37 5 1 1:=⟨.int .u8 0,fR,by kernel_rfl,rfl,rfl⟩
instance:dI prog 38 9 1 16:=⟨.string ByteArray.empty,gT,by kernel_rfl,rfl,rfl⟩
instance:dI prog 84 3 1 8:=⟨.int .i64 0,iF,by kernel_rfl,rfl,rfl⟩
instance:dI prog 88 92 1 8:=⟨.pointer none,mf,by kernel_rfl,rfl,rfl⟩
instance:dI prog 99 107 2 16:=⟨.agg #[.int .i64 0,.int .i64 0],Zy,by kernel_rfl,rfl,rfl⟩
instance:dI prog 104 43 4 32:=⟨.agg #[.int .i64 0,.int .i64 0,.int .i64 0,.int .i64 0],oE,by kernel_rfl,rfl,rfl⟩
instance:dI prog 166 21 1 4:=⟨.int .i32 0,gB,by kernel_rfl,rfl,rfl⟩
instance:dI prog 342 29 1 24:=⟨.slice none 0 0,uk,by kernel_rfl,rfl,rfl⟩
instance:dI prog 360 37 1 24:=⟨.slice none 0 0,C8,by kernel_rfl,rfl,rfl⟩
instance:Ag prog 24 2:=⟨⟨_,xa,rfl⟩,jy,rfl⟩
instance:Ag prog 31 3:=⟨⟨_,sd,rfl⟩,Zm,rfl⟩
instance:Ag prog 40 10:=⟨⟨_,jw,rfl⟩,sizeOf40,rfl⟩
instance:Ag prog 43 4:=⟨⟨_,dL,rfl⟩,fS,rfl⟩
instance:Ag prog 46 14:=⟨⟨_,eE,rfl⟩,q4,rfl⟩
instance:Ag prog 82 2:=⟨⟨_,mg,rfl⟩,nq,rfl⟩
instance:Ag prog 90 4:=⟨⟨_,np,rfl⟩,sizeOf90,rfl⟩
instance:Ag prog 107 2:=⟨⟨_,lB,rfl⟩,t7,rfl⟩
instance:Ag prog 158 2:=⟨⟨_,gU,rfl⟩,iH,rfl⟩
instance:Ag prog 164 3:=⟨⟨_,mN,rfl⟩,M2,rfl⟩
instance:Ag prog 220 3:=⟨⟨_,qW,rfl⟩,sizeOf220,rfl⟩
instance:Ag prog 232 3:=⟨⟨_,kN,rfl⟩,AV,rfl⟩
instance:Ag prog 236 2:=⟨⟨_,oa,rfl⟩,MD,rfl⟩
instance:Ag prog 253 6:=⟨⟨_,q5,rfl⟩,nV,rfl⟩
instance:Ag prog 296 7:=⟨⟨_,kj,rfl⟩,lN,rfl⟩
instance:Ag prog 324 2:=⟨⟨_,jd,rfl⟩,jQ,rfl⟩
instance:Ag prog 350 2:=⟨⟨_,lm,rfl⟩,yJ,rfl⟩
instance:Ag prog 389 3:=⟨⟨_,jJ,rfl⟩,tZ,rfl⟩
instance:Ag prog 445 2:=⟨⟨_,ud,rfl⟩,sizeOf445,rfl⟩
instance:Sl prog 22 14:=⟨_,underlying22,q4⟩
instance:Sl prog 29 1:=⟨_,fZ,cR⟩
instance:Sl prog 35 2:=⟨_,ki,jy⟩
instance:Sl prog 36 8:=⟨_,qa,sizeOf228⟩
instance:Sl prog 37 1:=⟨_,fR,gJ⟩
instance:Sl prog 38 1:=⟨_,gT,rH⟩
instance:Sl prog 44 2:=⟨_,iG,nq⟩
instance:Sl prog 84 1:=⟨_,iF,fa⟩
instance:Sl prog 88 1:=⟨_,mf,G9⟩
instance:Sl prog 99 2:=⟨_,Zy,t7⟩
instance:Sl prog 104 4:=⟨_,oE,fS⟩
instance:Sl prog 113 6:=⟨_,oz,nV⟩
instance:Sl prog 166 1:=⟨_,gB,je⟩
instance:Sl prog 223 1:=⟨_,underlying223,fa⟩
instance:Sl prog 301 7:=⟨_,qT,lN⟩
instance:Sl prog 310 3:=⟨_,kV,tZ⟩
instance:Sl prog 326 2:=⟨_,kU,jQ⟩
instance:Sl prog 342 1:=⟨_,uk,jN⟩
instance:Sl prog 345 2:=⟨_,lz,yJ⟩
instance:Sl prog 348 2:=⟨_,kg,iH⟩
instance:Sl prog 360 1:=⟨_,C8,nr⟩
instance:Sl prog 423 1:=⟨_,ug,Ml⟩
instance:Fl prog 24 0 0:=⟨_,_,_,xa,rfl,cR,rfl,rfl⟩
instance:Fl prog 24 1 1:=⟨_,_,_,xa,rfl,cR,rfl,rfl⟩
instance:Fl prog 31 0 0:=⟨_,_,_,sd,rfl,cR,rfl,rfl⟩
instance:Fl prog 31 1 1:=⟨_,_,_,sd,rfl,cR,rfl,rfl⟩
instance:Fl prog 31 2 2:=⟨_,_,_,sd,rfl,jN,rfl,rfl⟩
instance:Fl prog 40 0 0:=⟨_,_,_,jw,rfl,sizeOf34,rfl,rfl⟩
instance:Fl prog 40 1 1:=⟨_,_,_,jw,rfl,cR,rfl,rfl⟩
instance:Fl prog 40 2 2:=⟨_,_,_,jw,rfl,sizeOf4,rfl,rfl⟩
instance:Fl prog 40 3 3:=⟨_,_,_,jw,rfl,jy,rfl,rfl⟩
instance:Fl prog 40 4 5:=⟨_,_,_,jw,rfl,sV,rfl,rfl⟩
instance:Fl prog 40 5 6:=⟨_,_,_,jw,rfl,jN,rfl,rfl⟩
instance:Fl prog 40 6 7:=⟨_,_,_,jw,rfl,sizeOf36,rfl,rfl⟩
instance:Fl prog 40 8 9:=⟨_,_,_,jw,rfl,YX,rfl,rfl⟩
instance:Fl prog 43 0 0:=⟨_,_,_,dL,rfl,cR,rfl,rfl⟩
instance:Fl prog 43 1 1:=⟨_,_,_,dL,rfl,cR,rfl,rfl⟩
instance:Fl prog 43 2 2:=⟨_,_,_,dL,rfl,cR,rfl,rfl⟩
instance:Fl prog 43 3 3:=⟨_,_,_,dL,rfl,cR,rfl,rfl⟩
instance:Fl prog 46 0 0:=⟨_,_,_,eE,rfl,fa,rfl,rfl⟩
instance:Fl prog 46 1 1:=⟨_,_,_,eE,rfl,fS,rfl,rfl⟩
instance:Fl prog 46 2 5:=⟨_,_,_,eE,rfl,jy,rfl,rfl⟩
instance:Fl prog 46 3 7:=⟨_,_,_,eE,rfl,jy,rfl,rfl⟩
instance:Fl prog 46 4 9:=⟨_,_,_,eE,rfl,cR,rfl,rfl⟩
instance:Fl prog 46 5 10:=⟨_,_,_,eE,rfl,cR,rfl,rfl⟩
instance:Fl prog 46 6 11:=⟨_,_,_,eE,rfl,jN,rfl,rfl⟩
instance:Fl prog 46 7 12:=⟨_,_,_,eE,rfl,nr,rfl,rfl⟩
instance:Fl prog 46 8 13:=⟨_,_,_,eE,rfl,sizeOf44,rfl,rfl⟩
instance:Fl prog 73 0 0:=⟨_,_,_,Zz,rfl,sizeOf47,rfl,rfl⟩
instance:Fl prog 73 1 1:=⟨_,_,_,Zz,rfl,sizeOf69,rfl,rfl⟩
instance:Fl prog 73 2 2:=⟨_,_,_,Zz,rfl,sizeOf70,rfl,rfl⟩
instance:Fl prog 73 3 3:=⟨_,_,_,Zz,rfl,cR,rfl,rfl⟩
instance:Fl prog 73 4 4:=⟨_,_,_,Zz,rfl,sizeOf71,rfl,rfl⟩
instance:Fl prog 82 0 0:=⟨_,_,_,mg,rfl,cR,rfl,rfl⟩
instance:Fl prog 82 1 1:=⟨_,_,_,mg,rfl,je,rfl,rfl⟩
instance:Fl prog 90 0 0:=⟨_,_,_,np,rfl,cR,rfl,rfl⟩
instance:Fl prog 90 1 1:=⟨_,_,_,np,rfl,cR,rfl,rfl⟩
instance:Fl prog 90 2 2:=⟨_,_,_,np,rfl,cR,rfl,rfl⟩
instance:Fl prog 90 3 3:=⟨_,_,_,np,rfl,sizeOf88,rfl,rfl⟩
instance:Fl prog 107 0 0:=⟨_,_,_,lB,rfl,cR,rfl,rfl⟩
instance:Fl prog 107 1 1:=⟨_,_,_,lB,rfl,cR,rfl,rfl⟩
instance:Fl prog 115 0 0:=⟨_,_,_,aak,rfl,sizeOf113,rfl,rfl⟩
instance:Fl prog 115 1 1:=⟨_,_,_,aak,rfl,fa,rfl,rfl⟩
instance:Fl prog 158 0 0:=⟨_,_,_,gU,rfl,cR,rfl,rfl⟩
instance:Fl prog 158 1 1:=⟨_,_,_,gU,rfl,cR,rfl,rfl⟩
instance:Fl prog 164 0 0:=⟨_,_,_,mN,rfl,cR,rfl,rfl⟩
instance:Fl prog 164 1 1:=⟨_,_,_,mN,rfl,cR,rfl,rfl⟩
instance:Fl prog 164 2 2:=⟨_,_,_,mN,rfl,sizeOf162,rfl,rfl⟩
instance:Fl prog 170 0 0:=⟨_,_,_,Fj,rfl,sizeOf27,rfl,rfl⟩
instance:Fl prog 188 0 0:=⟨_,_,_,uV,rfl,sizeOf47,rfl,rfl⟩
instance:Fl prog 188 1 1:=⟨_,_,_,uV,rfl,sizeOf186,rfl,rfl⟩
instance:Fl prog 188 2 2:=⟨_,_,_,uV,rfl,Bl,rfl,rfl⟩
instance:Fl prog 210 0 0:=⟨_,_,_,qY,rfl,Bl,rfl,rfl⟩
instance:Fl prog 210 1 1:=⟨_,_,_,qY,rfl,cR,rfl,rfl⟩
instance:Fl prog 210 2 2:=⟨_,_,_,qY,rfl,cR,rfl,rfl⟩
instance:Fl prog 210 3 3:=⟨_,_,_,qY,rfl,sV,rfl,rfl⟩
instance:Fl prog 220 0 0:=⟨_,_,_,qW,rfl,fa,rfl,rfl⟩
instance:Fl prog 220 1 1:=⟨_,_,_,qW,rfl,fa,rfl,rfl⟩
instance:Fl prog 220 2 2:=⟨_,_,_,qW,rfl,jN,rfl,rfl⟩
instance:Fl prog 228 0 0:=⟨_,_,_,qU,rfl,cR,rfl,rfl⟩
instance:Fl prog 228 1 1:=⟨_,_,_,qU,rfl,cR,rfl,rfl⟩
instance:Fl prog 228 3 4:=⟨_,_,_,qU,rfl,fS,rfl,rfl⟩
instance:Fl prog 232 0 0:=⟨_,_,_,kN,rfl,fa,rfl,rfl⟩
instance:Fl prog 232 1 1:=⟨_,_,_,kN,rfl,jN,rfl,rfl⟩
instance:Fl prog 232 2 2:=⟨_,_,_,kN,rfl,sizeOf84,rfl,rfl⟩
instance:Fl prog 236 0 0:=⟨_,_,_,oa,rfl,fa,rfl,rfl⟩
instance:Fl prog 236 1 1:=⟨_,_,_,oa,rfl,jN,rfl,rfl⟩
instance:Fl prog 253 0 0:=⟨_,_,_,q5,rfl,fS,rfl,rfl⟩
instance:Fl prog 253 1 4:=⟨_,_,_,q5,rfl,jN,rfl,rfl⟩
instance:Fl prog 253 2 5:=⟨_,_,_,q5,rfl,jN,rfl,rfl⟩
instance:Fl prog 258 0 0:=⟨_,_,_,uU,rfl,cR,rfl,rfl⟩
instance:Fl prog 258 1 1:=⟨_,_,_,uU,rfl,sizeOf255,rfl,rfl⟩
instance:Fl prog 258 2 2:=⟨_,_,_,uU,rfl,sizeOf256,rfl,rfl⟩
instance:Fl prog 269 0 0:=⟨_,_,_,underlying269,rfl,sizeOf267,rfl,rfl⟩
instance:Fl prog 269 1 1:=⟨_,_,_,underlying269,rfl,nr,rfl,rfl⟩
instance:Fl prog 293 0 0:=⟨_,_,_,uT,rfl,cR,rfl,rfl⟩
instance:Fl prog 293 1 1:=⟨_,_,_,uT,rfl,cR,rfl,rfl⟩
instance:Fl prog 293 2 2:=⟨_,_,_,uT,rfl,jN,rfl,rfl⟩
instance:Fl prog 296 0 0:=⟨_,_,_,kj,rfl,fa,rfl,rfl⟩
instance:Fl prog 296 1 1:=⟨_,_,_,kj,rfl,jy,rfl,rfl⟩
instance:Fl prog 296 2 3:=⟨_,_,_,kj,rfl,fS,rfl,rfl⟩
instance:Fl prog 303 0 0:=⟨_,_,_,jO,rfl,Bl,rfl,rfl⟩
instance:Fl prog 303 1 1:=⟨_,_,_,jO,rfl,fS,rfl,rfl⟩
instance:Fl prog 303 2 5:=⟨_,_,_,jO,rfl,sizeOf301,rfl,rfl⟩
instance:Fl prog 307 0 0:=⟨_,_,_,jP,rfl,Bl,rfl,rfl⟩
instance:Fl prog 307 1 1:=⟨_,_,_,jP,rfl,cR,rfl,rfl⟩
instance:Fl prog 307 2 2:=⟨_,_,_,jP,rfl,cR,rfl,rfl⟩
instance:Fl prog 307 3 3:=⟨_,_,_,jP,rfl,fS,rfl,rfl⟩
instance:Fl prog 307 4 7:=⟨_,_,_,jP,rfl,cR,rfl,rfl⟩
instance:Fl prog 312 0 0:=⟨_,_,_,underlying312,rfl,sizeOf310,rfl,rfl⟩
instance:Fl prog 324 0 0:=⟨_,_,_,jd,rfl,cR,rfl,rfl⟩
instance:Fl prog 324 1 1:=⟨_,_,_,jd,rfl,fa,rfl,rfl⟩
instance:Fl prog 338 0 0:=⟨_,_,_,kD,rfl,nr,rfl,rfl⟩
instance:Fl prog 338 1 1:=⟨_,_,_,kD,rfl,fa,rfl,rfl⟩
instance:Fl prog 344 0 0:=⟨_,_,_,YZ,rfl,cR,rfl,rfl⟩
instance:Fl prog 344 1 1:=⟨_,_,_,YZ,rfl,cR,rfl,rfl⟩
instance:Fl prog 344 2 2:=⟨_,_,_,YZ,rfl,sizeOf342,rfl,rfl⟩
instance:Fl prog 347 0 0:=⟨_,_,_,ui,rfl,cR,rfl,rfl⟩
instance:Fl prog 347 1 1:=⟨_,_,_,ui,rfl,cR,rfl,rfl⟩
instance:Fl prog 347 2 2:=⟨_,_,_,ui,rfl,sizeOf345,rfl,rfl⟩
instance:Fl prog 350 0 0:=⟨_,_,_,lm,rfl,cR,rfl,rfl⟩
instance:Fl prog 350 1 1:=⟨_,_,_,lm,rfl,t6,rfl,rfl⟩
instance:Fl prog 371 0 0:=⟨_,_,_,qN,rfl,YX,rfl,rfl⟩
instance:Fl prog 371 1 1:=⟨_,_,_,qN,rfl,sizeOf4,rfl,rfl⟩
instance:Fl prog 389 0 0:=⟨_,_,_,jJ,rfl,cR,rfl,rfl⟩
instance:Fl prog 389 1 1:=⟨_,_,_,jJ,rfl,cR,rfl,rfl⟩
instance:Fl prog 389 2 2:=⟨_,_,_,jJ,rfl,t6,rfl,rfl⟩
instance:Fl prog 392 0 0:=⟨_,_,_,kT,rfl,cR,rfl,rfl⟩
instance:Fl prog 392 1 1:=⟨_,_,_,kT,rfl,cR,rfl,rfl⟩
instance:Fl prog 392 2 2:=⟨_,_,_,kT,rfl,jy,rfl,rfl⟩
instance:Fl prog 392 3 4:=⟨_,_,_,kT,rfl,jy,rfl,rfl⟩
instance:Fl prog 437 0 0:=⟨_,_,_,ZY,rfl,sizeOf4,rfl,rfl⟩
instance:Fl prog 437 1 1:=⟨_,_,_,ZY,rfl,fa,rfl,rfl⟩
instance:Fl prog 445 0 0:=⟨_,_,_,ud,rfl,fa,rfl,rfl⟩
instance:Fl prog 445 1 1:=⟨_,_,_,ud,rfl,cR,rfl,rfl⟩
instance:Pt prog 27:=⟨_,dk⟩
instance:Pt prog 47:=⟨_,kO⟩
instance:Pt prog 69:=⟨_,underlying69⟩
instance:Pt prog 70:=⟨_,jl⟩
instance:Pt prog 71:=⟨_,underlying71⟩
instance:Pt prog 92:=⟨_,JX⟩
instance:Pt prog 94:=⟨_,underlying94⟩
instance:Pt prog 120:=⟨_,G8⟩
instance:Pt prog 186:=⟨_,underlying186⟩
instance:Pt prog 255:=⟨_,DC⟩
instance:Pt prog 256:=⟨_,underlying256⟩
instance:Sz prog 2 1:=⟨cR⟩
instance:Sz prog 3 1:=⟨fa⟩
instance:Sz prog 4 1:=⟨sizeOf4⟩
instance:Sz prog 21 1:=⟨je⟩
instance:Sz prog 24 2:=⟨jy⟩
instance:Sz prog 29 1:=⟨jN⟩
instance:Sz prog 31 3:=⟨Zm⟩
instance:Sz prog 34 1:=⟨sizeOf34⟩
instance:Sz prog 35 1:=⟨sV⟩
instance:Sz prog 37 1:=⟨nr⟩
instance:Sz prog 38 1:=⟨YX⟩
instance:Sz prog 40 10:=⟨sizeOf40⟩
instance:Sz prog 43 4:=⟨fS⟩
instance:Sz prog 46 14:=⟨q4⟩
instance:Sz prog 70 1:=⟨sizeOf70⟩
instance:Sz prog 73 5:=⟨sizeOf73⟩
instance:Sz prog 82 2:=⟨nq⟩
instance:Sz prog 88 1:=⟨sizeOf88⟩
instance:Sz prog 90 4:=⟨sizeOf90⟩
instance:Sz prog 92 1:=⟨G9⟩
instance:Sz prog 107 2:=⟨t7⟩
instance:Sz prog 113 1:=⟨sizeOf113⟩
instance:Sz prog 120 1:=⟨Bl⟩
instance:Sz prog 158 2:=⟨iH⟩
instance:Sz prog 162 1:=⟨sizeOf162⟩
instance:Sz prog 164 3:=⟨M2⟩
instance:Sz prog 166 1:=⟨sizeOf166⟩
instance:Sz prog 186 1:=⟨sizeOf186⟩
instance:Sz prog 220 3:=⟨sizeOf220⟩
instance:Sz prog 232 3:=⟨AV⟩
instance:Sz prog 236 2:=⟨MD⟩
instance:Sz prog 253 6:=⟨nV⟩
instance:Sz prog 255 1:=⟨sizeOf255⟩
instance:Sz prog 256 1:=⟨sizeOf256⟩
instance:Sz prog 267 1:=⟨sizeOf267⟩
instance:Sz prog 296 7:=⟨lN⟩
instance:Sz prog 301 1:=⟨sizeOf301⟩
instance:Sz prog 310 1:=⟨sizeOf310⟩
instance:Sz prog 324 2:=⟨jQ⟩
instance:Sz prog 326 1:=⟨sizeOf326⟩
instance:Sz prog 342 1:=⟨sizeOf342⟩
instance:Sz prog 345 1:=⟨sizeOf345⟩
instance:Sz prog 348 1:=⟨t6⟩
instance:Sz prog 350 2:=⟨yJ⟩
instance:Sz prog 389 3:=⟨tZ⟩
instance:Sz prog 392 6:=⟨sizeOf392⟩
instance:Sz prog 437 2:=⟨x8⟩
instance:Sz prog 445 2:=⟨sizeOf445⟩
instance:Zv prog 3:=⟨_,tY⟩
instance:Zv prog 24:=⟨_,Ac⟩
instance:Zv prog 31:=⟨_,s7⟩
instance:Zv prog 34:=⟨_,zeroValue34⟩
instance:Zv prog 40:=⟨_,pI⟩
instance:Zv prog 43:=⟨_,gE⟩
instance:Zv prog 46:=⟨_,zeroValue46⟩
instance:Zv prog 82:=⟨_,zeroValue82⟩
instance:Zv prog 90:=⟨_,zeroValue90⟩
instance:Zv prog 107:=⟨_,JW⟩
instance:Zv prog 158:=⟨_,ne⟩
instance:Zv prog 164:=⟨_,zeroValue164⟩
instance:Zv prog 166:=⟨_,JV⟩
instance:Zv prog 220:=⟨_,zeroValue220⟩
instance:Zv prog 232:=⟨_,zeroValue232⟩
instance:Zv prog 236:=⟨_,zeroValue236⟩
instance:Zv prog 253:=⟨_,p7⟩
instance:Zv prog 269:=⟨_,zeroValue269⟩
instance:Zv prog 296:=⟨_,sk⟩
instance:Zv prog 324:=⟨_,rJ⟩
instance:Zv prog 350:=⟨_,uY⟩
instance:Zv prog 389:=⟨_,IF⟩
instance:Zv prog 392:=⟨_,zeroValue392⟩
instance:Zv prog 437:=⟨_,uX⟩
instance:Zv prog 445:=⟨_,zeroValue445⟩
instance:Bs prog 29 2 1:=⟨_,fZ,cR,pJ⟩
instance:Bs prog 35 24 2:=⟨_,ki,jy,Ac⟩
instance:Bs prog 36 228 8:=⟨_,qa,sizeOf228,zeroValue228⟩
instance:Bs prog 37 5 1:=⟨_,fR,gJ,nE⟩
instance:Bs prog 38 9 1:=⟨_,gT,rH,zeroValue9⟩
instance:Bs prog 84 3 1:=⟨_,iF,fa,tY⟩
instance:Bs prog 88 92 1:=⟨_,mf,G9,zeroValue92⟩
instance:Bs prog 99 107 2:=⟨_,Zy,t7,JW⟩
instance:Bs prog 104 43 4:=⟨_,oE,fS,gE⟩
instance:Bs prog 326 324 2:=⟨_,kU,jQ,rJ⟩
instance:Bs prog 342 29 1:=⟨_,uk,jN,zeroValue29⟩
instance:Bs prog 360 37 1:=⟨_,C8,nr,zeroValue37⟩
instance:Bs prog 423 373 1:=⟨_,ug,Ml,I4⟩
instance:Bd prog 24:=⟨_,[(0,1),(1,1)],_,xa,Ac,fun w=>by kernel_rfl⟩
instance:Bd prog 31:=⟨_,[(0,1),(1,1),(2,1)],_,sd,s7,fun w=>by kernel_rfl⟩
instance:Bd prog 40:=⟨_,[(0,1),(1,1),(2,1),(3,2),(5,1),(6,1),(7,1),(8,1),(9,1)],_,jw,pI,fun w=>by kernel_rfl⟩
instance:Bd prog 43:=⟨_,[(0,1),(1,1),(2,1),(3,1)],_,dL,gE,fun w=>by kernel_rfl⟩
instance:Bd prog 46:=⟨_,[(0,1),(1,4),(5,2),(7,2),(9,1),(10,1),(11,1),(12,1),(13,1)],_,eE,zeroValue46,fun w=>by kernel_rfl⟩
instance:Bd prog 73:=⟨_,[(0,1),(1,1),(2,1),(3,1),(4,1)],_,Zz,ZC,fun w=>by kernel_rfl⟩
instance:Bd prog 90:=⟨_,[(0,1),(1,1),(2,1),(3,1)],_,np,zeroValue90,fun w=>by kernel_rfl⟩
instance:Bd prog 107:=⟨_,[(0,1),(1,1)],_,lB,JW,fun w=>by kernel_rfl⟩
instance:Bd prog 115:=⟨_,[(0,1),(1,1)],_,aak,zeroValue115,fun w=>by kernel_rfl⟩
instance:Bd prog 155:=⟨_,[(0,1)],_,qZ,zeroValue155,fun w=>by kernel_rfl⟩
instance:Bd prog 158:=⟨_,[(0,1),(1,1)],_,gU,ne,fun w=>by kernel_rfl⟩
instance:Bd prog 164:=⟨_,[(0,1),(1,1),(2,1)],_,mN,zeroValue164,fun w=>by kernel_rfl⟩
instance:Bd prog 170:=⟨_,[(0,1)],_,Fj,zeroValue170,fun w=>by kernel_rfl⟩
instance:Bd prog 188:=⟨_,[(0,1),(1,1),(2,1)],_,uV,zeroValue188,fun w=>by kernel_rfl⟩
instance:Bd prog 210:=⟨_,[(0,1),(1,1),(2,1),(3,1)],_,qY,zeroValue210,fun w=>by kernel_rfl⟩
instance:Bd prog 220:=⟨_,[(0,1),(1,1),(2,1)],_,qW,zeroValue220,fun w=>by kernel_rfl⟩
instance:Bd prog 228:=⟨_,[(0,1),(1,1),(2,2),(4,4)],_,qU,zeroValue228,fun w=>by kernel_rfl⟩
instance:Bd prog 232:=⟨_,[(0,1),(1,1),(2,1)],_,kN,zeroValue232,fun w=>by kernel_rfl⟩
instance:Bd prog 236:=⟨_,[(0,1),(1,1)],_,oa,zeroValue236,fun w=>by kernel_rfl⟩
instance:Bd prog 253:=⟨_,[(0,4),(4,1),(5,1)],_,q5,p7,fun w=>by kernel_rfl⟩
instance:Bd prog 258:=⟨_,[(0,1),(1,1),(2,1)],_,uU,zeroValue258,fun w=>by kernel_rfl⟩
instance:Bd prog 293:=⟨_,[(0,1),(1,1),(2,1)],_,uT,zeroValue293,fun w=>by kernel_rfl⟩
instance:Bd prog 296:=⟨_,[(0,1),(1,2),(3,4)],_,kj,sk,fun w=>by kernel_rfl⟩
instance:Bd prog 303:=⟨_,[(0,1),(1,4),(5,1)],_,jO,zeroValue303,fun w=>by kernel_rfl⟩
instance:Bd prog 307:=⟨_,[(0,1),(1,1),(2,1),(3,4),(7,1)],_,jP,zeroValue307,fun w=>by kernel_rfl⟩
instance:Bd prog 312:=⟨_,[(0,1)],_,underlying312,zeroValue312,fun w=>by kernel_rfl⟩
instance:Bd prog 324:=⟨_,[(0,1),(1,1)],_,jd,rJ,fun w=>by kernel_rfl⟩
instance:Bd prog 338:=⟨_,[(0,1),(1,1)],_,kD,zeroValue338,fun w=>by kernel_rfl⟩
instance:Bd prog 344:=⟨_,[(0,1),(1,1),(2,1)],_,YZ,zeroValue344,fun w=>by kernel_rfl⟩
instance:Bd prog 347:=⟨_,[(0,1),(1,1),(2,1)],_,ui,zeroValue347,fun w=>by kernel_rfl⟩
instance:Bd prog 350:=⟨_,[(0,1),(1,1)],_,lm,uY,fun w=>by kernel_rfl⟩
instance:Bd prog 371:=⟨_,[(0,1),(1,1)],_,qN,zeroValue371,fun w=>by kernel_rfl⟩
instance:Bd prog 389:=⟨_,[(0,1),(1,1),(2,1)],_,jJ,IF,fun w=>by kernel_rfl⟩
instance:Bd prog 392:=⟨_,[(0,1),(1,1),(2,2),(4,2)],_,kT,zeroValue392,fun w=>by kernel_rfl⟩
instance:Bd prog 437:=⟨_,[(0,1),(1,1)],_,ZY,uX,fun w=>by kernel_rfl⟩
instance:Bd prog 445:=⟨_,[(0,1),(1,1)],_,ud,zeroValue445,fun w=>by kernel_rfl⟩
end Go.Proofs.YtcalhocphkbbgaaGreatDoor
