/- A part of the proof that hachuretop.WholeCharts and hachuretop.WholeWater returns true at every input; no condition. -/
import Derived.Test.YtcalhocphkbbgaaGreatDoorProg
import Derived.WalkKit
import Derived.WalkSpells
import Derived.WalkLawsBesides
import Derived.BigQuiet
import Derived.Deep.QuietTactic
import Derived.Lib.Hide
import Derived.Deep.RegionHeld3
import Derived.Deep.LoopGhost
import Derived.OrdersIn
import Derived.TacticsIn
import Derived.Maps.AppendAt
import Derived.Deep.AppendLies
set_option maxRecDepth 100000
set_option maxHeartbeats 16000000
set_option linter.unusedVariables false
set_option linter.unusedSimpArgs false
namespace Go.Proofs.YtcalhocphkbbgaaGreatDoor
open Go.Proofs.Tryz Go.RowKit
variable{Qq:(Nat->Value)->Prop}{Q:(Nat->Value)->World->Prop}{listed:Array Bool}{af:Array Edge}{fs:Array Field}{ops:Array Oper}{rs:Array ResultVar}{tys:Array TypeId}{bd sg:Code}{Q':Exit->Act->World->Prop}{fd:Field}{fn:Func}{f:FuncId}{a a':Int}{K:List (Nat × Value)->Act->Prop}{df:List Deferred}{hd ks:List Nat}{args:List Operand}{l l' vs xs:List Value}{N b b' bytes c c2 cur el g i j k k' m n n' p size tb:Nat}{c':Nat->Int}{R':Nat->Nat->Bool}{F:Nat->Prop}{e:Nat->Value}{op:Op}{hi x:Operand}{A B l0:Option Addr}{ro:Option Nat}{d:Option Tmp}{P:Program}{dd:TypeDesc}{t t' te ty:TypeId}{rv u v1 v2 v3:Value}{R:Value->World->Prop}{W w w' w0:World}{C:World->Prop}
theorem om {p:Prop} (h:p:=by omega):p:=h
theorem ku:type_of% @Option.map_some:=@Option.map_some
theorem fl:type_of% @Option.map_eq_some_iff:=@Option.map_eq_some_iff
theorem qm:type_of% @Option.isSome_iff_exists:=@Option.isSome_iff_exists
theorem iv:type_of% @Option.bind_eq_some_iff:=@Option.bind_eq_some_iff
theorem iD:type_of% @Nat.zero_mul:=@Nat.zero_mul
theorem ib:type_of% @Nat.zero_le:=@Nat.zero_le
theorem eH:type_of% @Nat.zero_add:=@Nat.zero_add
theorem mT:type_of% @Nat.two_pow_pos:=@Nat.two_pow_pos
theorem sF:type_of% @Nat.testBit_shiftLeft:=@Nat.testBit_shiftLeft
theorem cX:type_of% @Nat.succ_mul:=@Nat.succ_mul
theorem j8:type_of% @Nat.sub_self:=@Nat.sub_self
theorem kX:type_of% @Nat.pow_zero:=@Nat.pow_zero
theorem gb:type_of% @Nat.pow_succ:=@Nat.pow_succ
theorem ic:type_of% @Nat.pow_pos:=@Nat.pow_pos
theorem fP:type_of% @Nat.pow_le_pow_right:=@Nat.pow_le_pow_right
theorem fT:type_of% @Nat.pos_of_ne_zero:=@Nat.pos_of_ne_zero
theorem kR:type_of% @Nat.one_mul:=@Nat.one_mul
theorem sP:type_of% @Nat.not_lt_zero:=@Nat.not_lt_zero
theorem nk:type_of% @Nat.mul_succ:=@Nat.mul_succ
theorem j5:type_of% @Nat.mul_pos:=@Nat.mul_pos
theorem cG:type_of% @Nat.mul_one:=@Nat.mul_one
theorem kJ:type_of% @Nat.mul_mod_right:=@Nat.mul_mod_right
theorem cI:type_of% @Nat.mul_le_mul_right:=@Nat.mul_le_mul_right
theorem eZ:type_of% @Nat.mul_le_mul_left:=@Nat.mul_le_mul_left
theorem fy:type_of% @Nat.mul_le_mul:=@Nat.mul_le_mul
theorem cD:type_of% @Nat.mul_comm:=@Nat.mul_comm
theorem oc:type_of% @Nat.mul_assoc:=@Nat.mul_assoc
theorem j9:type_of% @Nat.mul_add_mod_self_right:=@Nat.mul_add_mod_self_right
theorem fp:type_of% @Nat.mul_add_mod:=@Nat.mul_add_mod
theorem fF:type_of% @Nat.mul_add_div:=@Nat.mul_add_div
theorem lL:type_of% @Nat.mul_add:=@Nat.mul_add
theorem ma:type_of% @Nat.mod_two_eq_zero_or_one:=@Nat.mod_two_eq_zero_or_one
theorem dt:type_of% @Nat.mod_lt:=@Nat.mod_lt
theorem dT:type_of% @Nat.mod_eq_of_lt:=@Nat.mod_eq_of_lt
theorem rt:type_of% @Nat.min_le_right:=@Nat.min_le_right
theorem ms:type_of% @Nat.min_eq_right:=@Nat.min_eq_right
theorem io:type_of% @Nat.min_eq_left:=@Nat.min_eq_left
theorem ru:type_of% @Nat.max_eq_right:=@Nat.max_eq_right
theorem sQ:type_of% @Nat.max_eq_left:=@Nat.max_eq_left
theorem qG:type_of% @Nat.lt_trichotomy:=@Nat.lt_trichotomy
theorem eV:type_of% @Nat.lt_or_ge:=@Nat.lt_or_ge
theorem fg:type_of% @Nat.lt_of_lt_of_le:=@Nat.lt_of_lt_of_le
theorem rx:type_of% @Nat.log2_self_le:=@Nat.log2_self_le
theorem kY:type_of% @Nat.log2_def:=@Nat.log2_def
theorem dE:type_of% @Nat.le_trans:=@Nat.le_trans
theorem rY:type_of% @Nat.le_total:=@Nat.le_total
theorem lM:type_of% @Nat.le_succ:=@Nat.le_succ
theorem fK:type_of% @Nat.le_refl:=@Nat.le_refl
theorem nR:type_of% @Nat.le_of_lt_succ:=@Nat.le_of_lt_succ
theorem uN:type_of% @Nat.le_of_eq:=@Nat.le_of_eq
theorem eC:type_of% @Nat.le_of_ble_eq_true:=@Nat.le_of_ble_eq_true
theorem eS:type_of% @Nat.le_mul_of_pos_right:=@Nat.le_mul_of_pos_right
theorem sG:type_of% @Nat.le_div_iff_mul_le:=@Nat.le_div_iff_mul_le
theorem iZ:type_of% @Nat.eq_zero_or_pos:=@Nat.eq_zero_or_pos
theorem eU:type_of% @Nat.eq_of_beq_eq_true:=@Nat.eq_of_beq_eq_true
theorem ig:type_of% @Nat.div_one:=@Nat.div_one
theorem cS:type_of% @Nat.div_lt_of_lt_mul:=@Nat.div_lt_of_lt_mul
theorem sH:type_of% @Nat.div_lt_iff_lt_mul:=@Nat.div_lt_iff_lt_mul
theorem sR:type_of% @Nat.div_le_self:=@Nat.div_le_self
theorem ji:type_of% @Nat.div_le_div_right:=@Nat.div_le_div_right
theorem ee:type_of% @Nat.div_eq_of_lt:=@Nat.div_eq_of_lt
theorem gv:type_of% @Nat.div_div_eq_div_mul:=@Nat.div_div_eq_div_mul
theorem dP:type_of% @Nat.div_add_mod:=@Nat.div_add_mod
theorem eW:type_of% @Nat.add_zero:=@Nat.add_zero
theorem iw:type_of% @Nat.add_sub_cancel_left:=@Nat.add_sub_cancel_left
theorem eA:type_of% @Nat.add_sub_cancel:=@Nat.add_sub_cancel
theorem pn:type_of% @Nat.add_mul_mod_self_right:=@Nat.add_mul_mod_self_right
theorem lU:type_of% @Nat.add_mul_div_right:=@Nat.add_mul_div_right
theorem iI:type_of% @Nat.add_mul:=@Nat.add_mul
theorem ka:type_of% @Nat.add_comm:=@Nat.add_comm
theorem mI:type_of% @Nat.add_assoc:=@Nat.add_assoc
theorem nt:type_of% @List.take_take:=@List.take_take
theorem ip:type_of% @List.take_succ_eq_append_getElem:=@List.take_succ_eq_append_getElem
theorem po:type_of% @List.take_succ_cons:=@List.take_succ_cons
theorem pu:type_of% @List.take_subset_take_left:=@List.take_subset_take_left
theorem qR:type_of% @List.take_set:=@List.take_set
theorem fN:type_of% @List.take_of_length_le:=@List.take_of_length_le
theorem i6:type_of% @List.take_length:=@List.take_length
theorem pX:type_of% @List.take_left:=@List.take_left
theorem lg:type_of% @List.take_append_of_le_length:=@List.take_append_of_le_length
theorem lV:type_of% @List.take_append_drop:=@List.take_append_drop
theorem jB:type_of% @List.take_append:=@List.take_append
theorem kK:type_of% @List.take_add_one:=@List.take_add_one
theorem tQ:type_of% @List.sum_cons:=@List.sum_cons
theorem iP:type_of% @List.sublist_append_right:=@List.sublist_append_right
theorem nS:type_of% @List.size_toArray:=@List.size_toArray
theorem kp:type_of% @List.set_append_right:=@List.set_append_right
theorem rz:type_of% @List.range_succ_eq_map:=@List.range_succ_eq_map
theorem eG:type_of% @List.range_succ:=@List.range_succ
theorem pY:type_of% @List.range_add:=@List.range_add
theorem ef:type_of% @List.perm_middle:=@List.perm_middle
theorem ft:type_of% @List.perm_append_comm:=@List.perm_append_comm
theorem gM:type_of% @List.not_mem_nil:=@List.not_mem_nil
theorem rC:type_of% @List.nil_sublist:=@List.nil_sublist
theorem jL:type_of% @List.nil_append:=@List.nil_append
theorem dM:type_of% @List.mem_singleton:=@List.mem_singleton
theorem dJ:type_of% @List.mem_range:=@List.mem_range
theorem jj:type_of% @List.mem_of_mem_take:=@List.mem_of_mem_take
theorem dD:type_of% @List.mem_of_getElem?:=@List.mem_of_getElem?
theorem fC:type_of% @List.mem_map:=@List.mem_map
theorem gK:type_of% @List.mem_iff_getElem:=@List.mem_iff_getElem
theorem og:type_of% @List.mem_flatMap:=@List.mem_flatMap
theorem sS:type_of% @List.mem_filter:=@List.mem_filter
theorem eB:type_of% @List.mem_cons_self:=@List.mem_cons_self
theorem cW:type_of% @List.mem_cons_of_mem:=@List.mem_cons_of_mem
theorem dy:type_of% @List.mem_cons:=@List.mem_cons
theorem lW:type_of% @List.mem_append_right:=@List.mem_append_right
theorem f6:type_of% @List.mem_append_left:=@List.mem_append_left
theorem ez:type_of% @List.mem_append:=@List.mem_append
theorem i7:type_of% @List.map_singleton:=@List.map_singleton
theorem uO:type_of% @List.map_set:=@List.map_set
theorem rZ:type_of% @List.map_map:=@List.map_map
theorem pd:type_of% @List.map_const':=@List.map_const'
theorem iJ:type_of% @List.map_cons:=@List.map_cons
theorem eQ:type_of% @List.map_congr_left:=@List.map_congr_left
theorem fq:type_of% @List.map_append:=@List.map_append
theorem cZ:type_of% @List.lookup_cons:=@List.lookup_cons
theorem d7:type_of% @List.length_take:=@List.length_take
theorem iV:type_of% @List.length_singleton:=@List.length_singleton
theorem pe:type_of% @List.length_set:=@List.length_set
theorem lX:type_of% @List.length_replicate:=@List.length_replicate
theorem gk:type_of% @List.length_range:=@List.length_range
theorem sT:type_of% @List.length_nil:=@List.length_nil
theorem eP:type_of% @List.length_map:=@List.length_map
theorem nY:type_of% @List.length_filter_le:=@List.length_filter_le
theorem i8:type_of% @List.length_drop:=@List.length_drop
theorem fc:type_of% @List.length_cons:=@List.length_cons
theorem cP:type_of% @List.length_append:=@List.length_append
theorem fY:type_of% @List.getElem_mem:=@List.getElem_mem
theorem nZ:type_of% @List.getElem?_toArray:=@List.getElem?_toArray
theorem fJ:type_of% @List.getElem?_take:=@List.getElem?_take
theorem lv:type_of% @List.getElem?_set_self:=@List.getElem?_set_self
theorem gl:type_of% @List.getElem?_set:=@List.getElem?_set
theorem eu:type_of% @List.getElem?_range:=@List.getElem?_range
theorem jI:type_of% @List.getElem?_of_mem:=@List.getElem?_of_mem
theorem da:type_of% @List.getElem?_map:=@List.getElem?_map
theorem dq:type_of% @List.getElem?_eq_some_iff:=@List.getElem?_eq_some_iff
theorem dZ:type_of% @List.getElem?_eq_none:=@List.getElem?_eq_none
theorem fw:type_of% @List.getElem?_eq_getElem:=@List.getElem?_eq_getElem
theorem jD:type_of% @List.getElem?_drop:=@List.getElem?_drop
theorem fU:type_of% @List.getElem?_append_right:=@List.getElem?_append_right
theorem gt:type_of% @List.getElem?_append_left:=@List.getElem?_append_left
theorem cO:type_of% @List.getD_eq_getElem?_getD:=@List.getD_eq_getElem?_getD
theorem pK:type_of% @List.foldl_cons:=@List.foldl_cons
theorem nT:type_of% @List.foldl_append:=@List.foldl_append
theorem pw:type_of% @List.flatten_append:=@List.flatten_append
theorem lx:type_of% @List.flatMap_singleton:=@List.flatMap_singleton
theorem iA:type_of% @List.flatMap_def:=@List.flatMap_def
theorem fe:type_of% @List.flatMap_cons:=@List.flatMap_cons
theorem kZ:type_of% @List.flatMap_append:=@List.flatMap_append
theorem nu:type_of% @List.filter_eq_nil_iff:=@List.filter_eq_nil_iff
theorem ix:type_of% @List.filter_append:=@List.filter_append
theorem gG:type_of% @List.ext_getElem?:=@List.ext_getElem?
theorem n3:type_of% @List.eq_replicate_iff:=@List.eq_replicate_iff
theorem mQ:type_of% @List.eq_of_mem_replicate:=@List.eq_of_mem_replicate
theorem gj:type_of% @List.eq_nil_of_length_eq_zero:=@List.eq_nil_of_length_eq_zero
theorem dR:type_of% @List.drop_zero:=@List.drop_zero
theorem dK:type_of% @List.drop_succ_cons:=@List.drop_succ_cons
theorem px:type_of% @List.drop_set_of_lt:=@List.drop_set_of_lt
theorem nv:type_of% @List.drop_of_length_le:=@List.drop_of_length_le
theorem jE:type_of% @List.drop_left:=@List.drop_left
theorem nw:type_of% @List.drop_eq_nil_of_le:=@List.drop_eq_nil_of_le
theorem dX:type_of% @List.drop_eq_getElem_cons:=@List.drop_eq_getElem_cons
theorem nW:type_of% @List.drop_append_of_le_length:=@List.drop_append_of_le_length
theorem n4:type_of% @List.contains_iff_mem:=@List.contains_iff_mem
theorem sI:type_of% @List.concat_eq_append:=@List.concat_eq_append
theorem fG:type_of% @List.append_nil:=@List.append_nil
theorem cL:type_of% @List.append_assoc:=@List.append_assoc
theorem jZ:type_of% @List.any_eq_true:=@List.any_eq_true
theorem nU:type_of% @List.any_eq_false:=@List.any_eq_false
theorem dh:type_of% @List.all_eq_true:=@List.all_eq_true
theorem kB:type_of% @List.all_cons:=@List.all_cons
theorem cQ:type_of% @List.Sublist.refl:=@List.Sublist.refl
theorem iQ:type_of% @List.Sublist.append:=@List.Sublist.append
theorem tz:type_of% @List.Perm.swap:=@List.Perm.swap
theorem pZ:type_of% @List.Perm.cons:=@List.Perm.cons
theorem lY:type_of% @List.Perm.append_left:=@List.Perm.append_left
theorem b7:type_of% @Int.toNat_natCast:=@Int.toNat_natCast
theorem mc:type_of% @Int.tmod_eq_emod_of_nonneg:=@Int.tmod_eq_emod_of_nonneg
theorem py:type_of% @Int.tdiv_eq_ediv_of_nonneg:=@Int.tdiv_eq_ediv_of_nonneg
theorem jG:type_of% @Int.one_mul:=@Int.one_mul
theorem ke:type_of% @Int.ofNat_lt:=@Int.ofNat_lt
theorem md:type_of% @Int.ofNat_le:=@Int.ofNat_le
theorem pz:type_of% @Int.not_lt:=@Int.not_lt
theorem pB:type_of% @Int.not_le:=@Int.not_le
theorem m6:type_of% @Int.natCast_nonneg:=@Int.natCast_nonneg
theorem kv:type_of% @Int.natCast_mul:=@Int.natCast_mul
theorem kw:type_of% @Int.natCast_inj:=@Int.natCast_inj
theorem r5:type_of% @Int.mul_zero:=@Int.mul_zero
theorem sJ:type_of% @Int.mul_tdiv_add_tmod:=@Int.mul_tdiv_add_tmod
theorem p5:type_of% @Int.mul_nonneg:=@Int.mul_nonneg
theorem fu:type_of% @Int.mul_le_mul_of_nonneg_right:=@Int.mul_le_mul_of_nonneg_right
theorem li:type_of% @Int.mul_le_mul_of_nonneg_left:=@Int.mul_le_mul_of_nonneg_left
theorem iW:type_of% @Int.mul_comm:=@Int.mul_comm
theorem uP:type_of% @Int.le_trans:=@Int.le_trans
theorem me:type_of% @Int.le_total:=@Int.le_total
theorem ij:type_of% @Int.le_refl:=@Int.le_refl
theorem r9:type_of% @Int.le_of_eq:=@Int.le_of_eq
theorem jp:type_of% @Int.fdiv_eq_ediv_of_nonneg:=@Int.fdiv_eq_ediv_of_nonneg
theorem cJ:type_of% @Int.eq_ofNat_of_zero_le:=@Int.eq_ofNat_of_zero_le
theorem sU:type_of% @Int.ediv_nonneg:=@Int.ediv_nonneg
theorem rD:type_of% @Int.ediv_eq_zero_of_lt:=@Int.ediv_eq_zero_of_lt
theorem sf:type_of% @Int.add_zero:=@Int.add_zero
theorem sK:type_of% @Int.add_mul_ediv_left:=@Int.add_mul_ediv_left
theorem j6:type_of% @Int.add_mul:=@Int.add_mul
theorem fH:type_of% @Decidable.not_not:=@Decidable.not_not
theorem fv:type_of% @Decidable.em:=@Decidable.em
theorem uc:type_of% @ByteArray.ext:=@ByteArray.ext
theorem tR:type_of% @Bool.true_and:=@Bool.true_and
theorem ky:type_of% @Bool.or_eq_true:=@Bool.or_eq_true
theorem hZ:type_of% @Bool.not_eq_true':=@Bool.not_eq_true'
theorem YP:type_of% @Bool.not_eq_false':=@Bool.not_eq_false'
theorem tS:type_of% @Bool.false_or:=@Bool.false_or
theorem m7:type_of% @Bool.false_eq_true:=@Bool.false_eq_true
theorem nz:type_of% @Bool.false_and:=@Bool.false_and
theorem iq:type_of% @Bool.eq_iff_iff:=@Bool.eq_iff_iff
theorem qn:type_of% @Bool.eq_false_or_eq_true:=@Bool.eq_false_or_eq_true
theorem cM:type_of% @Bool.and_eq_true:=@Bool.and_eq_true
theorem il:type_of% @Bool.and_eq_false_iff:=@Bool.and_eq_false_iff
theorem m8:type_of% @BitVec.toNat_ofInt:=@BitVec.toNat_ofInt
theorem rE:type_of% @BitVec.toNat_and:=@BitVec.toNat_and
theorem rF:type_of% @Array.toList_map:=@Array.toList_map
theorem iB:type_of% @Array.toList_inj:=@Array.toList_inj
theorem o6:type_of% @Array.toArray_toList:=@Array.toArray_toList
theorem qH:type_of% @Array.size_append:=@Array.size_append
theorem pC:type_of% @Array.length_toList:=@Array.length_toList
theorem oh:type_of% @Array.getElem?_setIfInBounds:=@Array.getElem?_setIfInBounds
theorem mR:type_of% @Array.getElem?_replicate:=@Array.getElem?_replicate
theorem sL:type_of% @Array.getElem?_modify:=@Array.getElem?_modify
theorem jq:type_of% @Array.getElem?_eq_some_iff:=@Array.getElem?_eq_some_iff
theorem iK:type_of% @Array.getElem?_eq_none:=@Array.getElem?_eq_none
theorem n5:type_of% @Array.getElem?_append:=@Array.getElem?_append
theorem dN:type_of% @Array.getD_eq_getD_getElem?:=@Array.getD_eq_getD_getElem?
theorem Xa{v:World}(y:Below W.heap.size W v):(∀b o,b<W.heap.size->v.cell? ⟨b,o,none⟩=W.cell? ⟨b,o,none⟩)/\(∀b o,b<W.heap.size->v.frozen? ⟨b,o,none⟩=W.frozen? ⟨b,o,none⟩) :=
 ⟨λb o h=>y.cell h,λb o h=>y.frozen h⟩
def wD(w:World):Type:={ w':World//Below w.heap.size w w' }
def wD.at_{w:World}(g:wD w):World:=g.1
theorem wD.below(g:wD w):Below w.heap.size w g.at_:=g.2
instance (w:World):Nonempty (wD w):=⟨⟨w,Below.refl _ _⟩⟩
theorem EL{id:Nat}{Q:Exit->Act->World->Prop}{a:Act}{l:List Oper}(y:P.follows .mixedOrders=true)(v:Region.lexB .any l.toArray=true)(h:wpQuiet P l.toArray (λw'=>∃g:wD w,w'=g.at_) (λa'=>∀w',(∃g:wD w,w'=g.at_)->Q .normal a' w') l a):(Code.region id l.toArray true).wp P Q a w :=
 wp_region_quiet (C:=λw'=>∃g:wD w,w'=g.at_) y v ⟨⟨w.drew,(Below.refl _ _).drew⟩,rfl⟩ om
theorem J0{args:Array Value}{g:wD w}{v:Value}(h:Calls P f args g.at_ λe w'=>e=.returned v/\Below g.at_.heap.size g.at_ w'):Calls P f args g.at_ λe y=>e=.returned v/\∃z:wD w,y=z.at_ :=
 h.mono λ_ w'⟨D,hb⟩=>⟨D,⟨w',g.below.trans (hb.mono g.below.size)⟩,rfl⟩
theorem II(g:wD w){o:Nat}{v:Option Value}(y:b<w.heap.size)(z:w.cell? ⟨b,o,none⟩=v):g.at_.cell? ⟨b,o,none⟩=v:=(g.below.cell y).trans z
def xD(ops:Array Oper)(i:Nat):List Nat :=
 match ops[i]? with
 |some o=>(o.after.toList.filter (Region.binds .any)).map (·.on)
 |none=>[]
def vm(ops:Array Oper):Nat->Nat->List Nat
 |0,_=>[]
 |f+1,i=>xD ops i++(xD ops i).flatMap (vm ops f)
def tT(ops:Array Oper)(listed:Array Bool):Prop:=∀i,listed.getD i false=true->∀j∈xD ops i,listed.getD j false=true
theorem BU(h:i∈Region.ready .any ops listed):∀j∈xD ops i,listed.getD j false=true:=by
 obtain⟨_,o,I,v⟩:=mem_ready.1 h;intro j y;simp only[xD,I,fC,sS]at y;obtain⟨e,⟨D,z⟩,rfl⟩:=y;exact v e (by simpa using D) z
theorem BV(hc:tT ops listed):∀(f i:Nat),(∀j∈xD ops i,listed.getD j false=true)->∀j∈vm ops f i,listed.getD j false=true
 |0,_,_,_,h=>by simp[vm]at h
 |f+1,i,hp,j,h=>by
  simp only[vm,ez,og]at h
  rcases h with h|⟨k,hk,h⟩
  ·exact hp j h
  ·exact BV hc f k (hc k (hp k hk)) j h
theorem tT.set(D:tT ops listed)(I:i∈Region.ready .any ops listed):tT ops (listed.setIfInBounds i true):=by
 intro k z j y;by_cases v:i=k
 ·subst v;exact getD_set_true (BU I j y)
 ·rw[getD_set_ne false v]at z;exact getD_set_true (D k z j y)
def tU(ops:Array Oper):List Nat->Array Bool->Bool
 |[],listed=>(Region.ready .any ops listed).isEmpty
 |t::tl,listed=>decide (Region.ready .any ops listed=[t])&&tU ops tl (listed.setIfInBounds t true)
def iS(l:List Oper):List Nat->List Oper
 |[]=>[]
 |i::is=>match l.drop i with
  |o::_=>o::iS l is
  |[]=>iS l is
theorem Bp(l:List Oper):∀is:List Nat,(is.all λi=>decide (i<l.length))=true->is.map (l.toArray[·]?)=(iS l is).map some
 |[],_=>rfl
 |i::is,h=>by
  simp only[kB,cM,decide_eq_true_eq]at h
  simp only[iS,dX h.1,iJ,Bp l is h.2]
  simp[h.1]
theorem wG{p:Oper->Bool}{l:List Oper}(h:l.all p=true):∀is:List Nat,(is.all λi=>decide (i<l.length))=true->(iS l is).all p=true
 |[],_=>rfl
 |i::is,hi=>by
  simp only[kB,cM,decide_eq_true_eq]at hi
  simp only[iS,dX hi.1,kB,wG h is hi.2,Bool.and_true]
  exact dh.1 h _ (fY hi.1)
def yP(e:Nat->Value)(d:Nat)(v:Value):Nat->Value:=λk=>match Nat.beq k d with
 |true=>v
 |false=>e k
def fI(e:Nat->Value)(d:Option Tmp)(v:Value):Nat->Value:=match d with
 |some d=>yP e d v
 |none=>e
def ev(e:Nat->Value):Operand->Value
 |.tmp t=>e t
 |.const v=>v
 |.global g=>.pointer (some ⟨g,0,none⟩)
 |.func f=>.func (.func f) #[] #[]
theorem xW(e:Nat->Value)(d:Nat)(v:Value)(k:Nat):yP e d v k=if k=d then v else e k:=by
 unfold yP;by_cases h:k=d
 ·simp_all
 ·have:Nat.beq k d=false:=by
   cases y:Nat.beq k d with
   |false=>rfl
   |true=>exact absurd (eU y) h
  simp_all
theorem Da{d:Nat}{v:Value}(h:e d=v):yP e d v=e:=by
 funext k
 rw[xW];simp_all
structure oo(N:Nat)(df:List Deferred)(e:Nat->Value)(a:Act):Prop where
 defers:a.defers=df
 size:a.tmps.size=N
 get:∀k,a.tmps.getD k undef=e k
def qI(N:Nat):Option Tmp->Bool
 |some d=>Nat.blt d N
 |none=>true
theorem oo.eval{a:Act}(h:oo N df e a):a.eval=ev e:=by
 funext x
 cases x<;>simp only[Act.eval,ev]
 exact h.get _
theorem oo.put{a:Act}(h:oo N df e a)(hd:qI N d=true)(v:Value):oo N df (fI e d v) (a.put d v):=by
 cases d with
 |none=>exact h
 |some d =>
  have z:d<N:=eC hd;refine⟨h.defers,by simp[Act.put,h.size],λk=>?_⟩;show(a.tmps.setIfInBounds d v).getD k undef=yP e d v k;rw[xW];have D:=h.size;by_cases y:k=d
  ·simp_all
  ·rw[if_neg y,<-h.get k];simp only[dN,oh,if_neg (Ne.symm y)]
def yE(ops:Array Oper)(e:Nat->Value)(j:Nat):Option Bool :=
 match (ops[j]?).bind (·.dst)with
 |some d=>match e d with
  |.bool b=>some b
  |_=>none
 |none=>none
def wE(ops:Array Oper)(e:Nat->Value)(o:Oper):Bool :=
 match o.guard with
 |none=>true
 |some (j,b)=>yE ops e j==some b
theorem oo.yielded{a:Act}(h:oo N df e a)(ops:Array Oper)(j:Nat):yielded ops a.tmps j=yE ops e j:=by
 unfold Go.yielded yE;cases hd:(ops[j]?).bind (·.dst)with
 |none=>rfl
 |some d =>
  simp only[Option.bind_some];have z:=h.get d;rw[<-z];rcases eV d a.tmps.size with y|v
  ·simp[y];cases a.tmps[d]<;>rfl
  ·simp[iK v,undef]
theorem oo.wanted{a:Act}(h:oo N df e a)(ops:Array Oper)(o:Oper):Region.wanted o (Go.yielded ops a.tmps)=wE ops e o:=by
 unfold Region.wanted wE;cases o.guard with
 |none=>rfl
 |some p=>obtain⟨j,b⟩:=p;simp only[h.yielded]
def vF:Op->Bool
 |.defer _=>true
 |_=>false
def kS(N:Nat):Code->Bool
 |.region _ ops _=>(ops.toList.all λo=>qI N o.dst)&&(ops.toList.all λo=>!vF o.op)
 |.seq a b=>kS N a&&kS N b
 |.cond _ a b=>kS N a&&kS N b
 |.block _ c=>kS N c
 |.loop c=>kS N c
 |.scope c=>kS N c
 |_=>true
def wF(ro:Option Nat):Fence:={ Fence.wide with round:=ro }
section
variable{Q:Exit->Act->World->Prop}
theorem Fa{l:List Oper}(h:(l.all λo=>!vF o.op)=true){o:Oper}(y:o∈l):∀c,o.op≠.defer c:=λc v=>by
 have:=dh.1 h o y;rw[v]at this;cases this
theorem Hd(h:(ops.toList.all λo=>!vF o.op)=true){o:Oper}(v:ops[i]?=some o):∀c,o.op≠.defer c :=
 Fa h (Array.mem_toList_iff.2 (Array.mem_of_getElem? v))
theorem Oper.wpIn_of_wp{o:Oper}{a:Act}{K:Act->World->Prop}(hd:∀c,o.op≠.defer c)(h:o.wp P a w K Q):o.wpIn (wF ro) 0 P a w K Q:=by
 refine⟨λ_ _=>trivial,?_⟩;rw[show(wF ro).round=ro from rfl,Oper.semAt_eq ro _ o hd];unfold Oper.wp at h;generalize (execOp a.eval o).run P w=r at *;cases r with
 |ok x w' =>
  cases x<;>simp only[Oper.upon]at h<;>simp only[Oper.uponIn] <;>
   first
    |exact h
    |exact⟨(λh1=>by cases h1),(callsIn_wide).2 h⟩
    |skip
  case row row args =>
   refine⟨(λh1=>by cases h1),λc cs _=>?_⟩;obtain⟨v,D,z,y⟩:=h c cs;exact⟨v,D,z,stepsIn_wide.2 y⟩
 |halt x w'=>cases x<;>simp only[Oper.upon]at h<;>simp only[Oper.uponIn]<;>first|exact h|exact h.elim
theorem uQ:∀(tl:List Nat)(lt:List Oper)(listed:Array Bool)(a:Act)(w:World),tl.map (ops[·]?)=lt.map some->tU ops tl listed=true ->
  wpListIn (wF ro) 0 P ops Q lt a w->wpAnyIn (wF ro) 0 P .any ops Q tl.length listed a w
 |[],lt,listed,a,w,hl,hB,h=>by
  have:lt=[]:=by cases lt with|nil=>rfl|cons=>simp at hl
  subst this;exact⟨by simpa [tU]using hB,h⟩
 |t::tl,o::lt,listed,a,w,hl,hB,h=>by
  simp at hl;simp only[tU,cM,decide_eq_true_eq]at hB;refine⟨λh1=>(by rw[hB.1]at h1;cases h1),λi hi=>?_⟩
  rw[hB.1]at hi;have v:i=t:=by simpa using hi
  subst v;exact wpOpIn_mono (λa' w' h'=>uQ tl lt _ a' w' hl.2 hB.2 h') (by unfold wpOpIn;simp only[hl.1];exact h)
theorem Db{F:Fence}{a:Act}{c:Code}(I:Nat->Act->World->Prop)(J:Nat)(O:I J a w)(y:∀k a w,I k a w->c.wpIn F n P (Exit.then (λa' w'=>∃k',k'<k/\I k' a' w') Q) a w):(Code.loop c).wpIn F n P Q a w:=by
 refine wpIn_loop (λa w=>∃n,I n a w) (λa w=>leastOf (λn=>I n a w)) ⟨J,O⟩ ?_;intro a w L;refine wpIn_mono (y _ a w (leastOf_spec L).1) ?_;intro e a' w' z;cases e with
 |normal =>
  obtain⟨n',D,v⟩:=z;exact show _/\leastOf _<leastOf _ from ⟨⟨n',v⟩,Nat.lt_of_le_of_lt ((leastOf_spec ⟨n',v⟩).2 n' v) D⟩
 |exit id=>exact z
 |goto l=>exact z
 |ret=>exact z
 |panic S=>exact z
 |outgrown=>exact z
end
def IJ:Op->Bool
 |.call _=>true
 |_=>false
def tq(P:Program)(e:Nat->Value)(o:Oper)(w:World)(next:Value->World->Prop):Prop :=
 match (execOp (ev e) o).run P w with
 |.ok (.value v) w'=>next v w'
 |.ok .skip w'=>next undef w'
 |.ok (.enter f args) w'=>Calls P f args w' λen w''=>∃v,en=.returned v/\next v w''
 |.ok (.round l f tmps sg bd) w'=>IJ o.op=true/\RoundIn Fence.wide 0 P l f tmps sg bd w' λen w''=>∃v,en=.returned v/\next v w''
 |_=>False
def RW(P:Program)(ops:Array Oper)(Q:(Nat->Value)->World->Prop):List Oper->(Nat->Value)->World->Prop
 |[],e,w=>Q e w
 |o::rest,e,w=>if wE ops e o=true then tq P e o w (λv w'=>RW P ops Q rest (fI e o.dst v) w')else RW P ops Q rest (fI e o.dst undef) w
theorem Oper.wp_of_next{a:Act}(I:oo N df e a){o:Oper}(hd:∀c,o.op≠.defer c){next:Value->World->Prop}{K:Act->World->Prop}{Q:Exit->Act->World->Prop}(h:tq P e o w next)(y:∀v w',next v w'->K (a.put o.dst v) w'):o.wpIn (wF ro) 0 P a w K Q:=by
 refine⟨λ_ _=>trivial,?_⟩;rw[show(wF ro).round=ro from rfl,Oper.semAt_eq ro _ o hd,I.eval];unfold tq at h;generalize (execOp _ o).run P w=r at *;cases r with
 |ok n w' =>
  cases n<;>simp only[Oper.uponIn]<;>first|exact h.elim|exact y _ _ h|skip
  case enter f args =>
   exact⟨(λh1=>by cases h1),(callsIn_wide).2 (h.mono λD z⟨v,he,hn⟩=>by subst he;exact y _ _ hn)⟩
  case round l f tmps sg bd =>
   exact⟨(λh1=>by cases h1),RoundIn.mono h.2 λD z⟨v,he,hn⟩=>by subst he;exact y _ _ hn⟩
 |halt x w'=>exact h.elim
theorem sY(y:∀e a w,oo N df e a->Q e w->Q' .normal a w) :
  ∀(l:List Oper)(e:Nat->Value)(a:Act)(w:World),(l.all λo=>qI N o.dst)=true->(l.all λo=>!vF o.op)=true->oo N df e a->RW P ops Q l e w->wpListIn (wF ro) 0 P ops Q' l a w
 |[],e,a,w,_,_,hr,h=>y e a w hr h
 |o::rest,e,a,w,hd,hf,hr,h=>by
  have z:=Fa hf (eB)
  simp only[kB,cM]at hd hf;unfold wpListIn;rw[hr.wanted];simp only[RW]at h;split
  ·rename_i D;rw[if_pos D]at h;exact Oper.wp_of_next hr z h λv w' I=>sY y rest _ _ _ hd.2 hf.2 (hr.put hd.1 v) I
  ·rename_i D;rw[if_neg D]at h;exact⟨λ_ _=>trivial,sY y rest _ _ _ hd.2 hf.2 (hr.put hd.1 undef) h⟩
def J1(P:Program)(C:World->Prop)(e:Nat->Value)(o:Oper)(v:Value):Prop:=∀w,C w ->
 match (execOp (ev e) o).run P w with
 |.ok (.value u) w'=>w'=w/\u=v
 |.ok .skip w'=>w'=w/\v=undef
 |.ok (.enter f args) w'=>w'=w/\Calls P f args w (λen w''=>en=.returned v/\C w'')
 |_=>False
def RQ(P:Program)(ops:Array Oper)(C:World->Prop)(Q:(Nat->Value)->Prop):List Oper->(Nat->Value)->Prop
 |[],e=>Q e
 |o::rest,e=>if wE ops e o=true then ∃v,J1 P C e o v/\RQ P ops C Q rest (fI e o.dst v)else RQ P ops C Q rest (fI e o.dst undef)
def XT(N:Nat)(df:List Deferred)(Q:Exit->(Nat->Value)->World->Prop):Exit->Act->World->Prop:=λx a w=>∃e,oo N df e a/\Q x e w
def CW(P:Program)(N:Nat)(c:Code)(Q:Exit->(Nat->Value)->World->Prop)(e:Nat->Value)(w:World):Prop :=
 kS N c=true->∀df a,oo N df e a->∀ro,c.wpIn (wF ro) 0 P (XT N df Q) a w
def wY(next:(Nat->Value)->World->Prop)(Q:Exit->(Nat->Value)->World->Prop):Exit->(Nat->Value)->World->Prop
 |.normal,e,w=>next e w
 |x,e,w=>Q x e w
def J2(id:Nat)(Q:Exit->(Nat->Value)->World->Prop):Exit->(Nat->Value)->World->Prop
 |.exit id',e,w=>match Nat.beq id' id with
  |true=>Q .normal e w
  |false=>Q (.exit id') e w
 |x,e,w=>Q x e w
section
variable{Q:Exit->(Nat->Value)->World->Prop}
theorem CW.mono{c:Code}{Q':Exit->(Nat->Value)->World->Prop}(h:CW P N c Q e w)(z:∀x e w,Q x e w->Q' x e w):CW P N c Q' e w :=
 λy df a D ro=>wpIn_mono (h y df a D ro) λx a' w'⟨v,hr',hQ⟩=>⟨v,hr',z _ _ _ hQ⟩
theorem gO(h:Q .normal e w):CW P N .skip Q e w:=λ_ df a v ro=>wpIn_skip ⟨e,v,h⟩
theorem pD{id:Nat}(h:Q (.exit id) e w):CW P N (.exit id) Q e w:=λ_ df a v ro=>wpIn_exit ⟨e,v,h⟩
theorem mJ(h:Q .ret e w):CW P N .ret Q e w:=λ_ df a v ro=>wpIn_ret ⟨e,v,h⟩
theorem dm{x y:Code}(h:CW P N x (wY (CW P N y Q) Q) e w):CW P N (.seq x y) Q e w:=λz df a J ro=>by
 simp only[kS,cM]at z;refine wpIn_seq (wpIn_mono (h z.1 df a J ro) ?_);rintro L a' w' ⟨I,v,D⟩;cases L<;>first|exact D z.2 df a' v ro|exact⟨I,v,D⟩
theorem tV{c:Operand}{x y:Code}{t:Bool}(D:ev e c=.bool t)(J:t=true->CW P N x Q e w)(I:t=false->CW P N y Q e w):CW P N (.cond c x y) Q e w:=λv df a z ro=>by
 simp only[kS,cM]at v;exact wpIn_cond_split (by rw[z.eval];exact D) (λh=>J h v.1 df a z ro) (λh=>I h v.2 df a z ro)
theorem jr{c:Operand}{x y:Code}(v:ev e c=.bool true)(h:CW P N x Q e w):CW P N (.cond c x y) Q e w:=tV v (λ_=>h) (λh=>by cases h)
theorem eX{c:Operand}{x y:Code}(v:ev e c=.bool false)(h:CW P N y Q e w):CW P N (.cond c x y) Q e w:=tV v (λh=>by cases h) (λ_=>h)
theorem k0{id:Nat}{c:Code}(h:CW P N c (J2 id Q) e w):CW P N (.block id c) Q e w:=λL df a O ro=>by
 refine wpIn_block (wpIn_mono (h L df a O ro) ?_);rintro S a' w' ⟨I,z,D⟩;cases S with
 |exit v =>
  show if v=id then _ else _;simp only[J2]at D;by_cases y:v=id
  ·subst y;rw[if_pos rfl];simp at D;exact⟨I,z,D⟩
  ·have:Nat.beq v id=false:=by
    cases J:Nat.beq v id with
    |false=>rfl
    |true=>exact absurd (eU J) y
   rw[if_neg y];rw[this]at D;exact⟨I,z,D⟩
 |_=>exact⟨I,z,D⟩
theorem dl{c:Code}(I:Nat->(Nat->Value)->World->Prop)(n:Nat)(V:I n e w)(v:∀n e w,I n e w->CW P N c (wY (λz w'=>∃n',n'<n/\I n' z w') Q) e w):CW P N (.loop c) Q e w:=λU df a L ro=>by
 refine Db (λn a w=>∃e,oo N df e a/\I n e w) n ⟨e,L,V⟩ ?_;rintro n a w ⟨e,L,S⟩;refine wpIn_mono (v n e w S U df a L ro) ?_;rintro x a' w' ⟨z,y,O⟩;cases x with
 |normal =>
  obtain⟨n',J,D⟩:=O;exact⟨n',J,z,y,D⟩
 |_=>exact⟨z,y,O⟩
theorem dz{id:Nat}{l:List Oper}(h:RW P l.toArray (λe w=>Q .normal e w) l e w):CW P N (.region id l.toArray false) Q e w:=λv df a y ro=>by
 simp only[kS,cM]at v;exact wpIn_region_lit (sY (λe a w y h=>⟨e,y,h⟩) l e a w v.1 v.2 y h)
end
def o7(P:Program)(f:FuncId):Bool :=
 match P.funcs[f]? with
 |some fn=>!(fn.name == "runtime.NumGoroutine")&&fn.body.isSome
 |none=>false
def Fn(P:Program)(f:FuncId)(args:List Value)(w:World)(R:Value->World->Prop):Prop :=
 o7 P f=true/\Calls P f args.toArray w λen w'=>∃v,en=.returned v/\R v w'
theorem Fn.mono{args:List Value}{R':Value->World->Prop}(h:Fn P f args w R)(y:∀v w',R v w'->R' v w'):Fn P f args w R' :=
 ⟨h.1,h.2.mono λ_ _⟨v,he,hR⟩=>⟨v,he,y _ _ hR⟩⟩
theorem iX(h:o7 P f=true)(args:Array Value)(w:World):(callFunc f args).run P w=.ok (.enter f args) w:=by
 unfold o7 at h;unfold callFunc;cases v:P.funcs[f]? with
 |none=>rw[v]at h;cases h
 |some fn =>
  have h2:fn.body≠none:=by cases y:fn.body<;>simp_all
  simp_all
def qJ(args:List Value):Nat->Value:=λk=>args.getD k undef
def P4(P:Program)(R:Value->World->Prop)(rs:Array ResultVar)(e:Nat->Value)(w:World):Prop:=∃v,(∀(fn:Func)(tmps:Array Value),fn.results=rs->(∀k,tmps.getD k undef=e k)->(results fn tmps).run P w=.ok v w)/\R v w
def QF(P:Program)(rs:Array ResultVar)(R:Value->World->Prop):Exit->(Nat->Value)->World->Prop
 |.normal,e,w|.ret,e,w=>P4 P R rs e w
 |_,_,_=>False
theorem Dc{c:Code}{args:List Value}(O:P.funcs[f]?=some fn)(L:fn.body=some c)(U:fn.results=rs)(hN:fn.ntmps=N)(z:o7 P f=true)(D:(kS N c&&Nat.ble args.length N)=true)(h:CW P N c (QF P rs R) (qJ args) w):Fn P f args w R:=by
 simp only[cM]at D;have S:=eC D.2;refine⟨z,calls_of_wp O L ((wpIn_wide (n:=0)).1 ?_)⟩;refine wpIn_mono (h D.1 [] _ ⟨rfl,by simp;omega,λk=>?_⟩ none) ?_
 ·simp only[qJ,dN];grind
 ·rintro x a' w' ⟨Z,y,I⟩;cases x<;>first|exact I.elim|skip
  all_goals
   obtain⟨v,V,J⟩:=I;exact⟨y.defers,v,V fn _ U y.get,v,rfl,J⟩
def fz:Value->Option Value
 |.bool b=>some (.bool b)
 |.int k n=>some (.int k n)
 |.float k n=>some (.float k n)
 |.complex k a b=>some (.complex k a b)
 |.string s=>some (.string s)
 |.pointer a=>some (.pointer a)
 |.slice a n c=>some (.slice a n c)
 |.map r=>some (.map r)
 |.chan r=>some (.chan r)
 |.func f a b=>some (.func f a b)
 |.nilFunc=>some .nilFunc
 |.iface t v=>some (.iface t v)
 |.nilIface=>some .nilIface
 |.agg cs=>some (.agg cs)
 |.tuple vs=>some (.tuple vs)
theorem m9{v:Value}(h:fz v=some u):v=u:=by cases v<;>(simp only[fz,Option.some.injEq]at h;exact h)
def lj:List Value->Option (List Value)
 |[]=>some []
 |v::r=>match fz v,lj r with
  |some a,some b=>some (a::b)
  |_,_=>none
theorem mK:∀{l m:List Value},lj l=some m->l=m
 |[],m,h=>by simpa [lj]using h
 |v::r,m,h=>by
  simp only[lj]at h
  cases hv:fz v with
  |none=>rw[hv]at h;cases h
  |some a =>
   cases hr:lj r with
   |none=>rw[hv,hr]at h;cases h
   |some b =>
    rw[hv,hr]at h
    simp only[Option.some.injEq]at h
    rw[<-h,m9 hv,mK hr]
def gd(P:Program)(e:Nat->Value)(o:Oper)(w:World)(v:Value):Prop:=(execOp (ev e) o).run P w=.ok (.value v) w
def iE(P:Program)(e:Nat->Value)(o:Oper)(v:Value):Prop:=∀w,gd P e o w v
def S8:BinOp->Value->Value->Option Value
 |.add,.int .i64 a,.int .i64 b=>some (.int .i64 (IntKind.i64.wrap (a+b)))
 |.sub,.int .i64 a,.int .i64 b=>some (.int .i64 (IntKind.i64.wrap (a-b)))
 |.mul,.int .i64 a,.int .i64 b=>some (.int .i64 (IntKind.i64.wrap (a*b)))
 |.lss,.int .i64 a,.int .i64 b=>some (.bool (decide (a<b)))
 |.leq,.int .i64 a,.int .i64 b=>some (.bool (decide (a<=b)))
 |.gtr,.int .i64 a,.int .i64 b=>some (.bool (decide (a>b)))
 |.geq,.int .i64 a,.int .i64 b=>some (.bool (decide (a>=b)))
 |.eql,.int .i64 a,.int .i64 b=>some (.bool (a==b))
 |.neq,.int .i64 a,.int .i64 b=>some (.bool (a !=b))
 |.eql,.int .i32 a,.int .i32 b=>some (.bool (a==b))
 |.neq,.int .i32 a,.int .i32 b=>some (.bool (a !=b))
 |.eql,.int .u8 a,.int .u8 b=>some (.bool (a==b))
 |.neq,.int .u8 a,.int .u8 b=>some (.bool (a !=b))
 |.add,.int .u8 a,.int .u8 b=>some (.int .u8 (IntKind.u8.wrap (a+b)))
 |.lss,.int .u8 a,.int .u8 b=>some (.bool (decide (a<b)))
 |.gtr,.int .u8 a,.int .u8 b=>some (.bool (decide (a>b)))
 |.eql,.string a,.string b=>some (.bool (a.toList==b.toList))
 |.neq,.string a,.string b=>some (.bool (!(a.toList==b.toList)))
 |_,_,_=>none
def n7(ρ:Operand->Value):Op->Option Value
 |.move x=>fz (ρ x)
 |.assign x=>fz (ρ x)
 |.pick c a b=>match ρ c with
  |.bool true=>fz (ρ a)
  |.bool false=>fz (ρ b)
  |_=>none
 |.binOp op _ x y _=>S8 op (ρ x) (ρ y)
 |.unOp .not _ x=>match ρ x with
  |.bool b=>some (.bool (!b))
  |_=>none
 |.unOp .neg _ x=>match ρ x with
  |.int .i64 n=>some (.int .i64 (IntKind.i64.wrap (0-n)))
  |_=>none
 |.nilCheck x=>match ρ x with
  |.pointer (some a)=>some (.pointer (some a))
  |.func (.func f) a b=>some (.func (.func f) a b)
  |.iface t v=>some (.iface t v)
  |_=>none
 |.extract x i=>match ρ x with
  |.tuple vs=>match vs.toList[i]? with
   |some v=>fz v
   |none=>none
  |_=>none
 |.makeFunc f a b=>match lj (a.toList.map ρ),lj (b.toList.map ρ)with
  |some x,some y=>some (.func f x.toArray y.toArray)
  |_,_=>none
 |.call ⟨.builtin .max,args,_⟩=>match args.toList.map ρ with
  |[.int .i64 a,.int .i64 b]=>some (.int .i64 (max a b))
  |_=>none
 |.call ⟨.builtin .min,args,_⟩=>match args.toList.map ρ with
  |[.int .i64 a,.int .i64 b]=>some (.int .i64 (min a b))
  |_=>none
 |_=>none
theorem P5{op:BinOp}{y:Operand}{a b v:Value}(h:S8 op a b=some v):(do eqGuard op t x y a b;binOp op t a b:Sem Value).run P w=.ok v w:=by
 unfold S8 at h;split at h<;>first|(cases h;done)|(simp at h;subst h)<;>(simp[eqGuard,binOp,Op.intArith,Op.intCmp,Op.stringOp])
theorem VC(a b:Int):(if b>a then b else a)=max a b:=om
theorem VD(a b:Int):(if b<a then b else a)=min a b:=om
theorem jx{o:Oper}{v:Value}(h:n7 (ev e) o.op=some v):iE P e o v:=by
 intro w;unfold gd execOp;generalize ev e=ρ at h ⊢;cases z:o.op with
 |move x=>rw[z]at h;simp only[n7]at h;simp[m9 h]
 |assign x=>rw[z]at h;simp only[n7]at h;simp[m9 h]
 |pick c a b =>
  rw[z]at h;simp only[n7]at h;split at h
  ·rename_i O;simp[O,asBool,m9 h]
  ·rename_i O;simp[O,asBool,m9 h]
  ·cases h
 |binOp op t x y t' =>
  rw[z]at h;simp only[n7]at h;have:=P5 (P:=P) (w:=w) (t:=t) (x:=x) (y:=y) h;simp only[Sem.run_bind]at this ⊢;simp_all
 |unOp op t x =>
  rw[z]at h;cases op<;>simp only[n7]at h<;>first|(cases h;done)|skip
  all_goals
   split at h
   ·rename_i b Z;simp only[Option.some.injEq]at h;subst h;simp[Z,Op.unary,Op.intArith]
   ·cases h
 |nilCheck x =>
  rw[z]at h;simp only[n7]at h;split at h
  ·rename_i a I;simp only[Option.some.injEq]at h;subst h;simp[I]
  ·rename_i f a b I;simp only[Option.some.injEq]at h;subst h;simp[I]
  ·rename_i t v I;simp only[Option.some.injEq]at h;subst h;simp[I]
  ·cases h
 |extract x i =>
  rw[z]at h;simp only[n7]at h;split at h
  ·rename_i vs U;split at h
   ·rename_i u hu;have S:vs[i]?=some u:=by simpa using hu
    simp[U,Instr.extract,S,m9 h]
   ·cases h
  ·cases h
 |makeFunc f a b =>
  rw[z]at h;simp only[n7]at h;split at h
  ·rename_i x y hx hy;simp only[Option.some.injEq]at h;subst h;have h1:=mK hx;have h2:=mK hy;have J:a.map ρ=x.toArray:=by rw[<-iB,rF,h1]
   have V:b.map ρ=y.toArray:=by rw[<-iB,rF,h2]
   simp[Instr.makeFunc,J,V]
  ·cases h
 |call c =>
  rw[z]at h;obtain⟨D,args,tys⟩:=c;cases D with
  |value f=>simp[n7]at h
  |invoke r m=>simp[n7]at h
  |builtin b =>
   cases b<;>first|(simp only[n7,reduceCtorEq]at h;done)|skip
   all_goals
    simp only[n7]at h;split at h
    ·rename_i a b L;simp only[Option.some.injEq]at h;subst h
     have J:args.map ρ=#[.int .i64 a,.int .i64 b]:=by
      rw[<-iB];simpa using L
     simp[resolve,invoke,builtin,J,Builtin.max_,Builtin.min_,Builtin.max2,Builtin.min2,VC,VD]
    ·cases h
 |_=>rw[z]at h;simp[n7]at h
def eL(w:World)(b:Nat)(t:TypeId)(l:List Value):Prop:=w.heap[b]?=some (.cells l.toArray t (0,0))
def Gr(w w':World):Prop:=Below w.heap.size w w'
theorem eL.lt(h:eL w b t l):b<w.heap.size:=by
 rcases eV b w.heap.size with y|v
 ·exact y
 ·unfold eL at h;rw[iK v]at h;cases h
theorem eL.cell(h:eL w b t l)(i:Nat):w.cell? ⟨b,i,none⟩=l[i]?:=by
 rw[cell_of_row w b i l.toArray t _ h];simp
theorem eL.cellv(h:eL w b t l){v:Value}(y:l[i]?=some v):w.cell? ⟨b,i,none⟩=some v:=(h.cell i).trans y
theorem eL.free(h:eL w b t l)(i:Nat):w.frozen? ⟨b,i,none⟩=false:=frozen_of_row w b i l.toArray t h
theorem eL.keep(h:eL w b t l)(v:w'.heap[b]?=w.heap[b]?):eL w' b t l:=v.trans h
theorem eL.below{B:Nat}(h:eL w b t l)(v:Below B w w')(y:b<B):eL w' b t l:=(v.block b y).trans h
theorem eL.gr(h:eL w b t l)(g:Gr w w'):eL w' b t l:=h.below g h.lt
theorem eL.grown{v:Option Nat}(h:eL w b t l)(y:w.grownBy w' v)(z:some b≠v):eL w' b t l:=(y.block b h.lt z).trans h
theorem eL.drew(h:eL w b t l):eL w.drew b t l:=h
theorem eL.inj(h:eL w b t l)(h':eL w b t' l'):t=t'/\l=l':=by
 unfold eL at h h';simp_all
theorem eL.ne_(h:eL w b t l)(h':eL w b' t' l')(v:t≠t'):b≠b':=by
 rintro rfl;exact v (h.inj h').1
theorem Gr.refl(w:World):Gr w w:=Below.refl _ _
theorem Gr.trans{a b c:World}(h:Gr a b)(k:Gr b c):Gr a c:=Below.trans h (Below.mono k h.size)
theorem Gr.drew(w:World):Gr w w.drew:=(Below.refl _ _).drew
theorem Gr.alloc(w:World)(o:Obj):Gr w (w.alloc o):=(Below.refl _ _).alloc om _
theorem Gr.le(h:Gr w w'):w.heap.size<=w'.heap.size:=h.size
theorem Gr.store(h:Gr w0 w)(y:w.grownBy w' (some b))(z:w0.heap.size<=b):Gr w0 w' :=
 Below.grown h y h.size (λk v=>by injection v with v;omega)
theorem Gr.below{B:Nat}(h:Gr w0 w)(y:Below B w w')(v:w0.heap.size<=B):Gr w0 w':=Below.trans h (Below.mono y v)
theorem Gr.grown(h:Gr w w'):w.grownBy w' none:=⟨h.os,h.tape,h.output,h.size,λk v _=>h.block k v⟩
theorem Gr.of_grown(h:w.grownBy w' none):Gr w w':=⟨h.os,h.tape,h.output,h.size,λk v=>h.block k v (by simp)⟩
theorem eL.new(w:World)(t:TypeId)(l:List Value):eL (w.alloc (.cells l.toArray t)) w.heap.size t l:=heap_alloc_new w _
theorem eL.set_(h:eL w b t l)(i:Nat)(v:Value):eL (w.setCell ⟨b,i,none⟩ v) b t (l.set i v):=by
 unfold eL;rw[heap_setCell_same w b i l.toArray t v h];simp
theorem wH(w:World)(b i:Nat)(v:Value):w.grownBy (w.setCell ⟨b,i,none⟩ v) (some b) :=
 ⟨rfl,rfl,rfl,by simp,λk _ y=>heap_setCell_other w _ k v (λe=>y (by rw[e]))⟩
theorem AW{a b c:World}{v:Option Nat}(h:a.grownBy b v)(k:b.grownBy c v):a.grownBy c v :=
 ⟨k.os.trans h.os,k.tape.trans h.tape,k.output.trans h.output,dE h.size k.size,λi hi y=>(k.block i (fg hi h.size) y).trans (h.block i hi y)⟩
section
variable{rest:List Oper}
theorem js(b o n:Nat):(⟨b,o,none⟩:Addr).add n=⟨b,o+n,none⟩:=by
 unfold Addr.add;simp_all
theorem BW{o:Oper}(h:wE ops e o=true):RW P ops Q (o::rest) e w=tq P e o w (λv w'=>RW P ops Q rest (fI e o.dst v) w'):=by rw[RW];exact if_pos h
theorem XU{o:Oper}(h:wE ops e o=false):RW P ops Q (o::rest) e w=RW P ops Q rest (fI e o.dst undef) w:=by rw[RW];exact if_neg (by simp[h])
theorem XV{o:Oper}(h:wE ops e o=true):RQ P ops C Qq (o::rest) e=∃v,J1 P C e o v/\RQ P ops C Qq rest (fI e o.dst v):=by rw[RQ];exact if_pos h
theorem XW{o:Oper}(h:wE ops e o=false):RQ P ops C Qq (o::rest) e=RQ P ops C Qq rest (fI e o.dst undef):=by rw[RQ];exact if_neg (by simp[h])
theorem di(h:Q e w):RW P ops Q [] e w:=h
theorem dr{ps:String}{b:Bool}(h:yE ops e j=some b)(v:RW P ops Q (⟨d,op,ty,ps,af,none⟩::rest) e w):RW P ops Q (⟨d,op,ty,ps,af,some (j,b)⟩::rest) e w:=by
 rw[BW (by simp[wE,h])];exact v
theorem eD{ps:String}{b:Bool}(h:(yE ops e j==some b)=false)(v:RW P ops Q rest (fI e d undef) w):RW P ops Q (⟨d,op,ty,ps,af,some (j,b)⟩::rest) e w:=by
 rw[XU (by simp[wE,h])];exact v
theorem O8{l:List Oper}(d:Nat){B:Bool}(v:e d=.bool B)(z:B=true->RW P ops Q l (yP e d (.bool true)) w)(y:B=false->RW P ops Q l (yP e d (.bool false)) w):RW P ops Q l e w:=by
 cases B
 ·have:=y rfl;rwa[Da v]at this
 ·have:=z rfl;rwa[Da v]at this
theorem dH{ps:String}{v:Value}(h:gd P e ⟨d,op,ty,ps,af,none⟩ w v)(y:RW P ops Q rest (fI e d v) w):RW P ops Q (⟨d,op,ty,ps,af,none⟩::rest) e w:=by
 rw[BW rfl,tq];unfold gd at h;simp_all
theorem dU{ps:String}{v:Value}(h:iE P e ⟨d,op,ty,ps,af,none⟩ v)(y:RW P ops Q rest (fI e d v) w):RW P ops Q (⟨d,op,ty,ps,af,none⟩::rest) e w:=dH (h w) y
theorem wZ{ps:String}{v:Value}(h:(execOp (ev e) ⟨d,op,ty,ps,af,none⟩).run P w=.ok (.value v) w')(y:RW P ops Q rest (fI e d v) w'):RW P ops Q (⟨d,op,ty,ps,af,none⟩::rest) e w:=by
 rw[BW rfl,tq];simp_all
theorem O9{ps:String}(h:(execOp (ev e) ⟨d,op,ty,ps,af,none⟩).run P w=.ok .skip w')(v:RW P ops Q rest (fI e d undef) w'):RW P ops Q (⟨d,op,ty,ps,af,none⟩::rest) e w:=by
 rw[BW rfl,tq];simp_all
theorem tW{ps:String}{v:Value}(h:(execOp (ev e) ⟨d,op,ty,ps,af,none⟩).run P w=.ok (.value v) (w.alloc (.cells l.toArray t)))(y:∀w',Gr w w'->w'.heap.size=w.heap.size+1->eL w' w.heap.size t l->RW P ops Q rest (fI e d v) w'):RW P ops Q (⟨d,op,ty,ps,af,none⟩::rest) e w :=
 wZ h (y _ (Gr.alloc _ _) (by simp) (eL.new _ _ _))
theorem vZ(h:Qq e):RQ P ops C Qq [] e:=h
theorem fO{ps:String}{b:Bool}(h:yE ops e j=some b)(v:RQ P ops C Qq (⟨d,op,ty,ps,af,none⟩::rest) e):RQ P ops C Qq (⟨d,op,ty,ps,af,some (j,b)⟩::rest) e:=by
 rw[XV (by simp[wE,h])];exact v
theorem iN{ps:String}{b:Bool}(h:(yE ops e j==some b)=false)(v:RQ P ops C Qq rest (fI e d undef)):RQ P ops C Qq (⟨d,op,ty,ps,af,some (j,b)⟩::rest) e:=by
 rw[XW (by simp[wE,h])];exact v
theorem fo{ps:String}{v:Value}(h:∀w,C w->gd P e ⟨d,op,ty,ps,af,none⟩ w v)(y:RQ P ops C Qq rest (fI e d v)):RQ P ops C Qq (⟨d,op,ty,ps,af,none⟩::rest) e:=by
 refine⟨v,λw z=>?_,y⟩;have:=h w z;unfold gd at this;simp_all
theorem eO{ps:String}{v:Value}(h:iE P e ⟨d,op,ty,ps,af,none⟩ v)(y:RQ P ops C Qq rest (fI e d v)):RQ P ops C Qq (⟨d,op,ty,ps,af,none⟩::rest) e:=fo (λw _=>h w) y
variable{ps:String}
theorem fh{n:Int}(h:n7 (ev e) op=some (.int .i64 (IntKind.i64.wrap n)))(v:-9223372036854775808<=n/\n<=9223372036854775807):iE P e ⟨d,op,ty,ps,af,none⟩ (.int .i64 n):=by
 have:=jx (P:=P) (o:=⟨d,op,ty,ps,af,none⟩) h;rwa[IntWalk.i64_in _ v]at this
theorem ff{B b:Bool}(h:n7 (ev e) op=some (.bool B))(v:B=b):iE P e ⟨d,op,ty,ps,af,none⟩ (.bool b):=by
 subst v;exact jx h
theorem EW{y:Operand}{b:Int}(z:ev e x=.int .i64 a)(D:ev e y=.int .i64 b)(v:0<=a/\a<=9223372036854775807)(J:0<b):iE P e ⟨d,.binOp .quo t x y t',ty,ps,af,none⟩ (.int .i64 (a/b)):=by
 intro w;have h2:a/b<=a:=Int.ediv_le_self _ v.1;have I:0<=a/b:=sU v.1 om;simp[gd,execOp,z,D,eqGuard,binOp,Op.intDiv,(om:b≠0),(py v.1),(IntWalk.i64_in _ ⟨om,om⟩:IntKind.i64.wrap _=a/b)]
theorem xd{y:Operand}{b:Int}(z:ev e x=.int .i64 a)(D:ev e y=.int .i64 b)(v:0<=a)(I:0<b):iE P e ⟨d,.binOp .rem t x y t',ty,ps,af,none⟩ (.int .i64 (a%b)):=by
 intro w;simp[gd,execOp,z,D,eqGuard,binOp,Op.intDiv,(om:b≠0),(mc v)]
def sM:TypeDesc->Bool
 |.struct _|.array _ _=>true
 |_=>false
theorem si(v:P.underlying t=some dd)(w:World):(isAgg t).run P w=.ok (sM dd) w:=by
 unfold isAgg;simp[run_underlying v];cases dd<;>rfl
theorem xE{o:Nat}{v:Value}(z:P.underlying t=some dd)(hd:sM dd=false)(D:ev e x=.pointer (some ⟨b,o,none⟩))(y:w.cell? ⟨b,o,none⟩=some v):gd P e ⟨d,.load t x,ty,ps,af,none⟩ w v:=by
 simp[gd,execOp,D,Instr.loadAt,Instr.sureAddr,loadVar,si z,hd,y]
theorem cV{tb:TypeId}{o:Nat}{v:Value}(D:P.underlying t=some dd)(hd:sM dd=false)(I:ev e x=.pointer (some ⟨b,o,none⟩))(y:eL w b tb l)(z:l[o]?=some v):gd P e ⟨d,.load t x,ty,ps,af,none⟩ w v :=
 xE D hd I (y.cellv z)
theorem uR{a:Addr}{cs:List Value}(y:cs.length=n)(h:∀j v,cs[j]?=some v->w.cell? (a.add j)=some v):(loadCells a n).run P w=.ok cs.toArray w:=by
 subst y;exact run_loadCells_list w a cs h
theorem Dd{o:Nat}{cs:List Value}(D:P.underlying t=some dd)(hd:sM dd=true)(J:(sizeOf t).run P w=.ok n w)(I:ev e x=.pointer (some ⟨b,o,none⟩))(z:cs.length=n)(y:∀j v,cs[j]?=some v->w.cell? ⟨b,o+j,none⟩=some v):gd P e ⟨d,.load t x,ty,ps,af,none⟩ w (.agg cs.toArray):=by
 simp[gd,execOp,I,Instr.loadAt,Instr.sureAddr,loadVar,si D,hd,J,(uR (P:=P) z (λj v h=>by rw[js];exact y j v h))]
theorem fx{tb:TypeId}{o:Nat}{cs:List Value}(I:P.underlying t=some dd)(hd:sM dd=true)(L:(sizeOf t).run P w=.ok n w)(J:ev e x=.pointer (some ⟨b,o,none⟩))(y:eL w b tb l)(z:lj ((l.drop o).take n)=some cs)(D:cs.length=n):gd P e ⟨d,.load t x,ty,ps,af,none⟩ w (.agg cs.toArray) :=
 Dd I hd L J D λj v h=>y.cellv (by
  rw[<-mK z]at h;rw[fJ]at h;split at h
  ·simp_all
  ·cases h)
theorem du{f o:Nat}(D:P.underlying t=some (.struct fs))(y:fs[f]?=some fd)(J:∀w,(sizeOf fd.type).run P w=.ok n w)(z:Nat.beq n 0=false)(I:ev e x=.pointer (some ⟨b,o,none⟩)) :
  iE P e ⟨d,.fieldAddr t x f,ty,ps,af,none⟩ (.pointer (some ⟨b,o+fd.offset,none⟩)):=by
 intro w;have v:n≠0:=by rintro rfl;cases z
 simp[gd,execOp,I,Instr.fieldAt,Instr.sureAddr,run_underlying D,y,fieldPlace,J,v,js]
theorem P6{f:Nat}{cs:List Value}{v:Value}(D:P.underlying t=some (.struct fs))(z:fs[f]?=some fd)(hd:P.underlying fd.type=some dd)(y:sM dd=false)(J:ev e x=.agg cs.toArray)(I:cs[fd.offset]?=some v) :
  iE P e ⟨d,.field t x f,ty,ps,af,none⟩ v:=by
 intro w;simp[gd,execOp,J,Instr.field,asAgg,run_underlying D,z,part,si hd,y,I]
theorem vo{el:TypeId}{i:Operand}{o len cap:Nat}{kd:IntKind}{n:Int}(y:P.underlying t=some (.slice el))(D:∀w,(sizeOf el).run P w=.ok k w)(z:ev e x=.slice (some ⟨b,o,none⟩) len cap)(hi:ev e i=.int kd n)(v:0<=n)(h1:n<len) :
  iE P e ⟨d,.indexAddr t x i,ty,ps,af,none⟩ (.pointer (some ⟨b,o+n.toNat * k,none⟩)):=by
 intro w;simp[gd,execOp,z,hi,Instr.indexAt,asIntOf,run_underlying y,D,v,h1,js]
theorem p6{el:TypeId}(v:P.underlying t=some (.slice el))(y:ev e x=.slice A n c):iE P e ⟨d,.call ⟨.builtin .len,#[x],#[t]⟩,ty,ps,af,none⟩ (.int .i64 n):=by
 intro w;simp[gd,execOp,y,resolve,invoke,builtin,Builtin.len_,run_underlying v,goInt]
theorem dY{s:TypeId}{ks kd:IntKind}{n m:Int}(y:P.underlying s=some dd)(hd:P.underlying t=some (.int kd))(z:ev e x=.int ks n)(v:kd.wrap n=m):iE P e ⟨d,.convert s t x,ty,ps,af,none⟩ (.int kd m):=by
 intro w;simp[gd,execOp,z,convert,run_underlying y,run_underlying hd,Conv.intToInt,v]
def EX:TypeDesc->Bool
 |.interface _=>true
 |_=>false
theorem jn{v:Value}(y:P.underlying t=some dd)(hd:EX dd=false)(z:fz (ev e x)=some v):iE P e ⟨d,.makeInterface t x,ty,ps,af,none⟩ (.iface t v):=by
 intro w;have:=m9 z;subst this;cases dd<;>first|(cases hd;done)|(simp[gd,execOp,Instr.makeInterface,run_underlying y])
theorem S9{a:Option Addr}{B:Bool}(D:P.underlying t=some (.pointer te))(I:ev e x=.pointer a)(z:a.isNone=B):iE P e ⟨d,.binOp .eql t x (.const (.pointer none)) t',ty,ps,af,none⟩ (.bool B):=by
 intro w;subst z;have h2:ev e (.const _)=.pointer none:=rfl
 have v:∀n:Nat,(Op.equalIn (n+1) t (.pointer a) (.pointer none)).run P w=.ok a.isNone w:=λn=>by
  unfold Op.equalIn;cases a<;>simp[run_underlying D]
 have y:(Op.equal t _ _).run P w=.ok a.isNone w:=v 9999;cases a<;>simp[gd,execOp,I,h2,eqGuard,binOp,y]
theorem tX(v:lj (ev e x).cells.toList=some l):(execOp (ev e) ⟨d,.box t x,ty,ps,af,none⟩).run P w=.ok (.value (.pointer (some ⟨w.heap.size,0,none⟩))) (w.alloc (.cells l.toArray t)):=by
 have h':(ev e x).cells=l.toArray:=by rw[<-iB];simpa using (mK v)
 simp[execOp,Instr.box,newVar,newRow,h']
theorem jV{z:Value}(y:∀w,(zeroValue t).run P w=.ok z w)(v:z.cells.toList=l):(execOp (ev e) ⟨d,.alloc t,ty,ps,af,none⟩).run P w=.ok (.value (.pointer (some ⟨w.heap.size,0,none⟩))) (w.alloc (.cells l.toArray t)):=by
 have h':z.cells=l.toArray:=by rw[<-iB];simpa using v
 simp[execOp,Instr.alloc,y,newVar,newRow,h']
theorem Hv{tb:TypeId}{y:Operand}{o:Nat}{v:Value}(V:(sizeOf t).run P w=.ok 1 w)(S:ev e x=.pointer (some ⟨b,o,none⟩))(U:fz (ev e y)=some v)(O:v.oneCell'=true)(D:v.cells=#[v])(z:eL w b tb l)(J:l[o]?=some u)(L:∀w',w.grownBy w' (some b)->w'.heap.size=w.heap.size->eL w' b tb (l.set o v)->RW P ops Q rest (fI e d undef) w'):RW P ops Q (⟨d,.store t x y,ty,ps,af,none⟩::rest) e w:=by
 have I:=m9 U;refine O9 (w':=w.setCell ⟨b,o,none⟩ v) ?_ (L _ (wH _ _ _ _) (by simp) (z.set_ o v));simp[execOp,S,I,D,Instr.storeAt,Instr.sureAddr,storeVar,V,storeCells,(run_store P w ⟨b,o,none⟩ v .plain O),js,(z.cellv J),(z.free o)]
end
def yS:(Nat->Option (Nat×Nat))->List Value->List (Nat×Value)->Option (List Value)
 |_,cells,[]=>some cells
 |pl,cells,(i,v)::rest=>match pl i with
  |some (off,size)=>match Nat.beq v.cells.toList.length size,Nat.ble (off+size) cells.length with
   |true,true=>yS pl (cells.take off++v.cells.toList++cells.drop (off+size)) rest
   |_,_=>none
  |none=>none
theorem Mn(vs:List Value):∀(k z:Nat)(y:List Value),z+k+vs.length<=y.length->((vs.zipIdx k).foldl (λ(cs:Array Value)(p:Value×Nat)=>cs.setIfInBounds (z+p.2) p.1) y.toArray).toList=y.take (z+k)++vs++y.drop (z+k+vs.length):=by
 induction vs with
 |nil=>intro k z y h;simp
 |cons v vs ih =>
  intro k z y h;simp only[fc]at h;simp only[List.zipIdx_cons,pK,List.setIfInBounds_toArray];rw[ih (k+1) z _ (by simp;omega)];rw[qR,px om];have h1:z+(k+1)=(z+k)+1:=om
  have D:(y.take (z+k+1)).set (z+k) v=y.take (z+k)++[v]:=by
   rw[ip om,kp _ _ (by simp;omega)];have J:z+k-(y.take (z+k)).length=0:=by simp;omega
   rw[J];rfl
  rw[h1,D];have I:z+k+1+vs.length=z+k+(vs.length+1):=om;rw[I];simp
theorem v8{pl:Nat->Option (Nat×Nat)}:∀{z:List (Nat×Value)}{cells l:List Value},yS pl cells z=some l->Instr.fill pl cells.toArray z=some l.toArray
 |[],cells,l,h=>by simp only[yS,Option.some.injEq]at h;subst h;rfl
 |(i,v)::rest,cells,l,h=>by
  simp only[yS]at h
  unfold Instr.fill
  cases D:pl i with
  |none=>rw[D]at h;cases h
  |some os =>
   obtain⟨y,size⟩:=os
   rw[D]at h;simp only at h ⊢;split at h
   ·rename_i h1 h2;have h1:=eU h1;have h2:=eC h2;have L:v.cells.size=size:=by rw[<-h1];simp
    simp only[ky,decide_eq_true_eq,if_neg (by simp;omega:¬(v.cells.size≠size\/y+v.cells.size>cells.toArray.size))];have J:=Mn v.cells.toList 0 y cells om;have O:v.cells.zipIdx=(v.cells.toList.zipIdx).toArray:=iB.1 (by rw[Array.toList_zipIdx])
    have I:(v.cells.zipIdx.foldl (λ(cs)(p)=>cs.setIfInBounds (y+p.2) p.1) cells.toArray)=(cells.take y++v.cells.toList++cells.drop (y+size)).toArray:=by
     grind
    rw[I];exact v8 h
   ·cases h
section
variable{rest:List Oper}
variable{ps:String}
def yQ(e:Nat->Value):List (Nat×Operand)->List (Nat×Value)
 |[]=>[]
 |(i,x)::r=>(i,ev e x)::yQ e r
theorem EY(e:Nat->Value):∀parts:List (Nat×Operand),parts.map (λp=>(p.1,ev e p.2))=yQ e parts
 |[]=>rfl
 |p::r=>by simp only[iJ,yQ,EY e r]
theorem kL{v:List (Nat×Operand)}{z:Value}{pl:List (Nat×Nat)}{l0:List Value}(I:P.underlying t=some (.struct fs))(J:∀w,(zeroValue t).run P w=.ok z w)(D:∀w,(fs.mapM λf=>(Prod.mk f.offset<$>sizeOf f.type:Sem (Nat×Nat))).run P w=.ok pl.toArray w)(h1:yS (λi=>pl[i]?) z.cells.toList (yQ e v)=some l0)(h2:lj l0=some l):iE P e ⟨d,.build t v.toArray,ty,ps,af,none⟩ (.agg l.toArray):=by
 intro w;have y:=mK h2;subst y;simp[gd,execOp,Instr.build,J,run_underlying I,D,(EY e v),(v8 h1)]
theorem mu{el:TypeId}{v:List (Nat×Operand)}{z:Value}{l0:List Value}(hu:P.underlying t=some (.slice el))(hs:∀w,(sizeOf el).run P w=.ok k w)(hz:∀w,(zeroValue el).run P w=.ok z w)(hk:z.cells.toList.length=k)(y:Nat.beq (n*k) 0=false)(V:Nat.ble (n*k) 16777216=true)(h1:yS (λi=>some (i*k,k)) ((List.replicate n z.cells.toList).flatten) (yQ e v)=some l0)(h2:lj l0=some l) :
  (execOp (ev e) ⟨d,.buildSlice t n v.toArray,ty,ps,af,none⟩).run P w=.ok (.value (.slice (some ⟨w.heap.size,0,none⟩) n n)) (w.alloc (.cells l.toArray el)):=by
 have Z:=mK h2;subst Z;have U:=v8 h1;have O:n*k≠0:=by intro h;rw[h]at y;cases y
 have D:¬(n*k>16777216):=by have:=eC V;omega
 have aa:(z.cells.toList).toArray=z.cells:=by simp
 have J:z.cells.size=k:=by rw[<-hk];simp
 have I:(Array.range (n*k)).map (λi=>z.cells[i%z.cells.size]!)=((List.replicate n z.cells.toList).flatten).toArray:=by
  rw[<-iB];simp only[rF,Array.toList_range];clear h1 U D y V
  have S:∀m:Nat,(List.range (m*k)).map (λi=>z.cells[i%z.cells.size]!)=(List.replicate m z.cells.toList).flatten:=by
   intro m;induction m with
   |zero=>simp
   |succ m ih =>
    rw[cX,pY,fq,ih,List.replicate_succ',pw];congr 1;simp only[rZ,List.flatten_cons,List.flatten_nil,fG];apply gG;intro j;by_cases L:j<k
    ·have:(m*k+j)%k=j:=by rw[ka,pn,dT L]
     simp[L,J,this]
    ·simp[L,J]
  exact S n
 have h5:(v.map λp=>(p.1,ev e p.2))=yQ e v:=EY e v;simp[execOp,Instr.buildSlice,run_underlying hu,hs,hz,O,D,I,h5,U,newRow]
theorem eY(I:lj (args.map (ev e))=some vs)(z:Fn P f vs w R)(D:∀v w',R v w'->RW P ops Q rest (fI e d v) w') :
  RW P ops Q (⟨d,.call ⟨.value (.func f),args.toArray,tys⟩,ty,ps,af,none⟩::rest) e w:=by
 rw[BW rfl,tq]
 have y:(execOp (ev e) ⟨d,.call ⟨.value (.func f),args.toArray,tys⟩,ty,ps,af,none⟩).run P w=.ok (.enter f vs.toArray) w:=by
  have h1:ev e (.func f)=.func _ #[] #[]:=rfl;simp[execOp,resolve,h1,Deferred.ofValue,invoke,(mK I),iX z.1]
 rw[y];exact z.2.mono λJ w'⟨v,he,hR⟩=>⟨v,he,D _ _ hR⟩
theorem ju{first cap:List Value}(J:ev e x=.func (.func f) first.toArray cap.toArray)(I:lj (args.map (ev e))=some vs)(z:Fn P f (first++vs++cap) w R)(D:∀v w',R v w'->RW P ops Q rest (fI e d v) w') :
  RW P ops Q (⟨d,.call ⟨.value x,args.toArray,tys⟩,ty,ps,af,none⟩::rest) e w:=by
 rw[BW rfl,tq]
 have y:(execOp (ev e) ⟨d,.call ⟨.value x,args.toArray,tys⟩,ty,ps,af,none⟩).run P w=.ok (.enter f (first++vs++cap).toArray) w:=by
  simp[execOp,resolve,J,Deferred.ofValue,invoke,(mK I),iX z.1]
 rw[y];exact z.2.mono λL w'⟨v,he,hR⟩=>⟨v,he,D _ _ hR⟩
theorem o8{m:String}(L:ev e x=.iface t u)(D:(method (P.types.size+Made.depth) t u m).run P w=.ok (f,rv) w)(J:lj (args.map (ev e))=some vs)(z:Fn P f (rv::vs) w R)(I:∀v w',R v w'->RW P ops Q rest (fI e d v) w') :
  RW P ops Q (⟨d,.call ⟨.invoke x m,args.toArray,tys⟩,ty,ps,af,none⟩::rest) e w:=by
 rw[BW rfl,tq]
 have y:(execOp (ev e) ⟨d,.call ⟨.invoke x m,args.toArray,tys⟩,ty,ps,af,none⟩).run P w=.ok (.enter f (rv::vs).toArray) w:=by
  simp[execOp,resolve,L,invoke,callMethod,D,(mK J),iX z.1]
 rw[y];exact z.2.mono λO w'⟨v,he,hR⟩=>⟨v,he,I _ _ hR⟩
theorem nA{v:Value}(L:lj (args.map (ev e))=some vs)(z:∀w,C w->Fn P f vs w (λI w'=>I=v/\C w'))(J:RQ P ops C Qq rest (fI e d v)) :
  RQ P ops C Qq (⟨d,.call ⟨.value (.func f),args.toArray,tys⟩,ty,ps,af,none⟩::rest) e:=by
 refine⟨v,λw D=>?_,J⟩
 have y:(execOp (ev e) ⟨d,.call ⟨.value (.func f),args.toArray,tys⟩,ty,ps,af,none⟩).run P w=.ok (.enter f vs.toArray) w:=by
  have h1:ev e (.func f)=.func _ #[] #[]:=rfl;simp[execOp,resolve,h1,Deferred.ofValue,invoke,(mK L),iX (z w D).1]
 rw[y];exact⟨rfl,(z w D).2.mono λO w'⟨I,he,hv',hC'⟩=>by subst hv';exact⟨he,hC'⟩⟩
theorem Hw{first cap:List Value}{v:Value}(O:ev e x=.func (.func f) first.toArray cap.toArray)(L:lj (args.map (ev e))=some vs)(z:∀w,C w->Fn P f (first++vs++cap) w (λI w'=>I=v/\C w'))(J:RQ P ops C Qq rest (fI e d v)) :
  RQ P ops C Qq (⟨d,.call ⟨.value x,args.toArray,tys⟩,ty,ps,af,none⟩::rest) e:=by
 refine⟨v,λw D=>?_,J⟩
 have y:(execOp (ev e) ⟨d,.call ⟨.value x,args.toArray,tys⟩,ty,ps,af,none⟩).run P w=.ok (.enter f (first++vs++cap).toArray) w:=by
  simp[execOp,resolve,O,Deferred.ofValue,invoke,(mK L),iX (z w D).1]
 rw[y];exact⟨rfl,(z w D).2.mono λS w'⟨I,he,hv',hC'⟩=>by subst hv';exact⟨he,hC'⟩⟩
theorem Fb{m:String}{v:Value}(S:ev e x=.iface t u)(J:∀w,(method (P.types.size+Made.depth) t u m).run P w=.ok (f,rv) w)(O:lj (args.map (ev e))=some vs)(z:∀w,C w->Fn P f (rv::vs) w (λI w'=>I=v/\C w'))(L:RQ P ops C Qq rest (fI e d v)) :
  RQ P ops C Qq (⟨d,.call ⟨.invoke x m,args.toArray,tys⟩,ty,ps,af,none⟩::rest) e:=by
 refine⟨v,λw D=>?_,L⟩
 have y:(execOp (ev e) ⟨d,.call ⟨.invoke x m,args.toArray,tys⟩,ty,ps,af,none⟩).run P w=.ok (.enter f (rv::vs).toArray) w:=by
  simp[execOp,resolve,S,invoke,callMethod,J,(mK O),iX (z w D).1]
 rw[y];exact⟨rfl,(z w D).2.mono λU w'⟨I,he,hv',hC'⟩=>by subst hv';exact⟨he,hC'⟩⟩
end
section
variable{Q:Exit->(Nat->Value)->World->Prop}{rest:List Oper}
theorem Mo{M M':(Nat->Value)->World->Prop}(h:∀e w,M e w->M' e w):∀x e w,wY M Q x e w->wY M' Q x e w:=by
 intro x e w v;cases x<;>first|exact h _ _ v|exact v
theorem gP{x:Code}{M':(Nat->Value)->World->Prop}(M:(Nat->Value)->World->Prop)(h1:CW P N x (wY M Q) e w)(h2:∀v w',M v w'->M' v w'):CW P N x (wY M' Q) e w:=h1.mono (Mo h2)
theorem mL{M:(Nat->Value)->World->Prop}(h:Q .ret e w):wY M Q .ret e w:=h
theorem oq(h:Q .ret e w):J2 k Q .ret e w:=h
theorem nC{M:(Nat->Value)->World->Prop}(h:Q (.exit k) e w):wY M Q (.exit k) e w:=h
theorem pE(h:Q .normal e w):J2 k Q (.exit k) e w:=by
 simp only[J2,(by simp:Nat.beq k k=true)];exact h
theorem eF{next:(Nat->Value)->World->Prop}(h:next e w):RW P ops (λe w=>wY next Q .normal e w) [] e w:=h
def SL(e:Nat->Value):List (Nat×Value)->Prop
 |[]=>True
 |(k,v)::r=>e k=v/\SL e r
def Ta(e:Nat->Value):List (Nat×Value)->Nat->Value
 |[]=>e
 |(k,v)::r=>Ta (yP e k v) r
theorem SL.fold:∀{l:List (Nat×Value)},SL e l->e=Ta e l
 |[],_=>rfl
 |(k,v)::r,h=>by
  show e=Ta (yP e k v) r
  rw[Da h.1]
  exact SL.fold h.2
theorem ie{k:IntKind}{b:Int}(h:a=b):Value.int k a=Value.int k b:=by rw[h]
theorem be{a b:Bool}(h:a=b):Value.bool a=Value.bool b:=by rw[h]
theorem se(h:n=m)(h':c=k):Value.slice A n c=Value.slice A m k:=by rw[h,h']
theorem ir{t:Tmp}{v:Value}(h:fz (e t)=some v)(z:R v w):QF P #[.tmp t] R .ret e w :=
 ⟨v,λfn y I D=>by have h1:=D t;rw[m9 h]at h1;rw[results_tmp I,h1],z⟩
theorem nd{t u:Tmp}(h1:fz (e t)=some v1)(h2:fz (e u)=some v2)(I:R (.tuple #[v1,v2]) w):QF P #[.tmp t,.tmp u] R .ret e w :=
 ⟨_,λfn D J z=>by
  have v:=z t;have y:=z u;rw[m9 h1]at v;rw[m9 h2]at y;rw[results_tmp2 J,v,y],I⟩
theorem tE{t u x:Tmp}(h1:fz (e t)=some v1)(h2:fz (e u)=some v2)(J:fz (e x)=some v3)(L:R (.tuple #[v1,v2,v3]) w):QF P #[.tmp t,.tmp u,.tmp x] R .ret e w :=
 ⟨_,λfn I O v=>by
  have y:=v t;have z:=v u;have D:=v x;rw[m9 h1]at y;rw[m9 h2]at z;rw[m9 J]at D;rw[results_tmp3 O,y,z,D],L⟩
theorem W3(y:R (.tuple #[]) w):QF P #[] R .ret e w:=⟨_,λfn v z _=>results_none z _ _ _,y⟩
theorem na(y:R (.tuple #[]) w):QF P #[] R .normal e w:=⟨_,λfn v z _=>results_none z _ _ _,y⟩
theorem ly{a:Addr}{v:Value}{o:Oper}(h:gd P (λ_=>.pointer (some a)) ⟨none,.load t (.tmp 0),0,"",#[],none⟩ w v):(loadVar t a).run P w=.ok v w:=by
 simp only[gd,execOp,Instr.loadAt,Instr.sureAddr,ev,Sem.run_bind,Sem.run_pure,Result.andThen_ok]at h;cases hr:(loadVar t a).run P w with
 |ok u w'=>rw[hr]at h;simp at h;rw[h.1,h.2]
 |halt x w'=>rw[hr]at h;cases h
theorem Tb{a:Tmp}{tb:TypeId}{o:Nat}{cs:List Value}(hu:P.underlying t=some dd)(hd:sM dd=true)(hz:(sizeOf t).run P w=.ok n w)(hx:e a=.pointer (some ⟨b,o,none⟩))(hB:eL w b tb l)(hl:lj ((l.drop o).take n)=some cs)(hn:cs.length=n)(hR:R (.agg cs.toArray) w):QF P #[.cell a t] R .ret e w :=
 ⟨_,λfn tmps hr hg=>by
  have h1:=ly (o:=default) (fx (P:=P) (d:=none) (ty:=0) (ps := "") (af:=#[]) (e:=λ_=>.pointer _) (x:=.tmp 0) hu hd hz rfl hB hl hn);have g1:=hg a;rw[hx,dN]at g1;simp[results,hr,g1,asAddr,h1],hR⟩
theorem Xb{a u:Tmp}{tb:TypeId}{o:Nat}{cs:List Value}(hu:P.underlying t=some dd)(hd:sM dd=true)(hz:(sizeOf t).run P w=.ok n w)(hx:e a=.pointer (some ⟨b,o,none⟩))(hB:eL w b tb l)(hl:lj ((l.drop o).take n)=some cs)(hn:cs.length=n)(h2:fz (e u)=some v2)(hR:R (.tuple #[.agg cs.toArray,v2]) w):QF P #[.cell a t,.tmp u] R .ret e w :=
 ⟨_,λfn tmps hr hg=>by
  have h1:=ly (o:=default) (fx (P:=P) (d:=none) (ty:=0) (ps := "") (af:=#[]) (e:=λ_=>.pointer _) (x:=.tmp 0) hu hd hz rfl hB hl hn);have g1:=hg a;have g2:=hg u;rw[hx,dN]at g1;rw[m9 h2,dN]at g2;simp[results,hr,g1,g2,asAddr,h1],hR⟩
theorem jM{args:List Value}{v:Value}{R:World->Prop}(y:o7 P f=true)(h:Calls P f args.toArray w λr w'=>r=.returned v/\R w'):Fn P f args w (λD w'=>D=v/\R w') :=
 ⟨y,h.mono λ_ _⟨z,hR⟩=>⟨_,z,rfl,hR⟩⟩
theorem Bq{ps:String}{Q:(Nat->Value)->World->Prop}{tb:TypeId}{y:Operand}{o:Nat}{cs:List Value}(hz:(sizeOf t).run P w=.ok n w)(hx:ev e x=.pointer (some ⟨b,o,none⟩))(hy:ev e y=.agg cs.toArray)(hn:cs.length=n)(I:eL w b tb l)(U:lj (l.take o++cs++l.drop (o+n))=some l')(V:((cs.all λv=>v.oneCell')&&Nat.ble (o+n) l.length)=true)(hr:∀w',w.grownBy w' (some b)->w'.heap.size=w.heap.size->eL w' b tb l'->RW P ops Q rest (fI e d undef) w'):RW P ops Q (⟨d,.store t x y,ty,ps,af,none⟩::rest) e w:=by
 have hl:=mK U;subst hl;simp only[cM]at V;have L:=eC V.2
 have aa:∀(vs:List Value)(i:Nat)(w:World)(l:List Value),eL w b tb l->(∀v∈vs,v.oneCell'=true)->o+i+vs.length<=l.length ->
   ∃w',(storeCells ⟨b,o,none⟩ vs i).run P w=.ok () w'/\w.grownBy w' (some b)/\w'.heap.size=w.heap.size/\eL w' b tb (l.take (o+i)++vs++l.drop (o+i+vs.length)):=by
  intro vs;induction vs with
  |nil=>intro i w l I _ L;exact⟨w,by simp[storeCells],World.grownBy.refl _ _,rfl,by simpa using I⟩
  |cons v vs ih =>
   intro i w l I D L;simp only[fc]at L;have Z:=D v (by simp);have hc:=I.cellv (i:=o+i) (v:=l[o+i]'om) (fw om);have hf:=I.free (o+i);have h1:=run_store P w ⟨b,o+i,none⟩ v .plain Z;obtain⟨w',S,J,O,z⟩:=ih (i+1) _ _ (I.set_ (o+i) v) (λu hu=>D u (cW _ hu)) (by simp;omega);refine⟨w',?_,AW (wH w b (o+i) v) J,by simpa using O,?_⟩
   ·simp[storeCells,js,h1,stored,hc,hf,S]
   ·have e1:o+(i+1)=(o+i)+1:=om;rw[e1]at z;rw[qR,px om,ip om,kp _ _ (by simp;omega)]at z;have h5:o+i-(l.take (o+i)).length=0:=by simp;omega
    rw[h5]at z;have e2:o+i+1+vs.length=o+i+(vs.length+1):=om;rw[e2]at z;simpa using z
 obtain⟨w',S,J,O,z⟩:=aa cs 0 w l I (λv Z=>by have:=dh.1 V.1 v Z;exact this) om;refine O9 (w':=w') ?_ (hr w' J O (by simpa [hn]using z));have h6:(Value.agg cs.toArray).cells=cs.toArray:=rfl;simp[execOp,hx,hy,Instr.storeAt,Instr.sureAddr,storeVar,hz,h6,hn,S]
def wa(w:World)(base el size:Nat)(A:Option Addr)(n c:Nat)(xs:List Value):Prop:=w.ownsRow base el size (.slice A n c) n xs
theorem wa.nil(w:World)(v el size:Nat):wa w v el size none 0 0 []:=World.ownsRow_nil _ _ _ _
theorem wa.form{y:Nat}{v:Value}(h:w.ownsRow y el size v n xs):∃A c,v=.slice A n c:=by
 rcases h.2 with⟨rfl,rfl⟩|⟨g,cap,cur,rfl,_⟩
 ·simp_all
 ·simp_all
theorem wa.below{B v:Nat}(h:wa w v el size A n c xs)(D:Below B w w')(z:∀g o,A=some ⟨g,o,none⟩->g<B):wa w' v el size A n c xs:=by
 obtain⟨h1,h2⟩:=h;refine⟨h1,?_⟩;rcases h2 with h2|⟨g,cap,cur,y,I,J,r⟩
 ·simp_all
 ·refine .inr ⟨g,cap,cur,y,I,?_,r⟩;injection y with hA;exact(D.block g (z g 0 hA)).trans J
theorem wa.gr{v:Nat}(h:wa w v el size A n c xs)(z:Gr w w'):wa w' v el size A n c xs:=by
 refine h.below z λg o y=>?_;subst y;exact(h.lt g rfl).2
theorem wa.base{y v:Nat}(h:wa w y el size A n c xs)(z:v<=y):wa w v el size A n c xs:=by
 obtain⟨h1,h2⟩:=h;refine⟨h1,?_⟩;rcases h2 with h2|⟨g,cap,cur,I,D,r⟩
 ·simp_all
 ·exact Or.inr ⟨g,cap,cur,I,dE z D,r⟩
theorem wa.blk{v:Nat}(h:wa w v el size A n c xs)(O:0<n):∃g l,A=some ⟨g,0,none⟩/\v<=g/\eL w g el l/\l.length=c*size/\l.take (n*size)=xs/\n<=c:=by
 rcases h.2 with⟨_,h2⟩|⟨g,cap,cur,L,D,I,y,_,z,J⟩
 ·omega
 ·injection L with hA _ hc;subst hA;subst hc;exact⟨g,cur.toList,rfl,D,by unfold eL;simpa using I,by simpa using z,J,y⟩
theorem Mp{ps:String}{Q:(Nat->Value)->World->Prop}{s:Operand}{t y:Nat}{z:Value}(L:P.underlying t=some (.slice el))(hI:(P.info? el).map (λi=>(i.zero,i.size,i.bytes))=some (some z,size,bytes))(hz:Nat.beq z.cells.size size=true)(U:Nat.blt 0 size=true)(hs:ev e s=.slice A n c)(I:wa w y el size A n c xs)(hx:ev e x=.slice (some ⟨g,0,none⟩) m c2)(hB:eL w g tb l)(hl:l.length=m*size)(h1:(l.all λv=>v.oneCell')=true)(hb:(n+m)*(bytes+1)<=140737488355328)(D:y<=w.heap.size)(hr:∀O c' w',wa w' y el size O (n+m) c' (xs++l)->Below y w w'->w.grownBy w' (Value.slice A n c).ownBlock->RW P ops Q rest (fI e d (.slice O (n+m) c')) w') :
  RW P ops Q (⟨d,.call ⟨.builtin .append,#[s,x],#[t,t]⟩,ty,ps,af,none⟩::rest) e w:=by
 obtain⟨i,hi,Z,aa,ab⟩:=info_parts hI;have V:=eU hz;have S:0<size:=eC U;have ac:=dE (eS _ om) hb
 obtain⟨v',w',J,ho,hg,_⟩:=run_append_own w y t ty el i z size bytes L hi Z aa ab V S _ n xs I ⟨g,0,none⟩ m c2 l hl
  (λj u L=>by rw[js];exact hB.cellv (by simpa using L)) (λu L=>dh.1 h1 u L) (by unfold maxLen;omega) (dE (eZ _ om) hb) D
 obtain⟨O,c',rfl⟩:=wa.form ho;refine wZ (w':=w') ?_ (hr O c' w' ho ?_ hg)
 ·simp[execOp,resolve,invoke,builtin,hs,hx,J]
 ·exact(Below.refl _ _).grown hg D (λk hk=>(I.lt k hk).1)
end
end Go.Proofs.YtcalhocphkbbgaaGreatDoor
