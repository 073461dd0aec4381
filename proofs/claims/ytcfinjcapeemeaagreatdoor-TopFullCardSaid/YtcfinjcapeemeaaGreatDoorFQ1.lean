/- Part of the proof that the law TopFull holds for every input. -/
import Derived.Below
import Derived.BigQuiet
import Derived.Calls
import Derived.Carry
import Derived.ChangeAlike
import Derived.ChangeKeysEq
import Derived.ChangeOld
import Derived.Deep.AppendSrc
import Derived.Deep.LoopGhost
import Derived.Deep.RegionWith
import Derived.Deep.Slices
import Derived.Handy
import Derived.IntWalk
import Derived.LaidMore
import Derived.Laws.BitsLemmas
import Derived.Laws.BytesString
import Derived.Laws.CopyRow
import Derived.Laws.Cover2
import Derived.Laws.Entries
import Derived.Laws.Externs
import Derived.Laws.IdiomCopy
import Derived.Laws.MakeOwn
import Derived.Laws.NewBlocks
import Derived.Laws.StructEq
import Derived.Lib.AppendStr
import Derived.Lib.AppendZerosOnto
import Derived.Lib.BitFns
import Derived.Lib.Builder
import Derived.Lib.ConvBytes
import Derived.Lib.Hide
import Derived.Lib.LaidTab
import Derived.Lib.MakeNoZero
import Derived.Lib.Slices
import Derived.Lib.Strings
import Derived.Lib.Tables
import Derived.Lib.TrailingZeros
import Derived.Lib.UnsafeStr
import Derived.Lib.Walk
import Derived.LoopIn
import Derived.LoopN
import Derived.LoopNIn
import Derived.Maps.AppendAt
import Derived.OpenShut
import Derived.Orders
import Derived.Outline
import Derived.OwnWalkIn
import Derived.ProofKit
import Derived.RangeFuncBox
import Derived.RangeFuncLeaves
import Derived.Recover
import Derived.RegionTactic
import Derived.SevenTiedAt
import Derived.Shelf.Abstract
import Derived.Shelf.RegionOpenPlain
import Derived.Shelf.Spec.SlicesInsert
import Derived.StillTail
import Derived.Stop.Joined
import Derived.TacticsInMore
import Derived.Test.YtcfinjcapeemeaaGreatDoorCards
import Derived.Test.YtcfinjcapeemeaaGreatDoorChecked
import Derived.Test.YtcfinjcapeemeaaGreatDoorProg
import Derived.Test.YtcfinjcapeemeaaGreatDoorRows
import Derived.Test.YtcfinjcapeemeaaGreatDoorTie
import Derived.WalkKit
import Derived.WalkLawsBesides
import Derived.WalkSpells
set_option linter.all false
set_option maxRecDepth 100000
set_option maxHeartbeats 4000000
namespace Go.Proofs.YtcfinjcapeemeaaGreatDoor.S
open Go Go.RowKit IntKind Go.Proofs.Tryz
def adv:=@decide_eq_true_eq
def aup.{u}:=@Option.some.injEq.{u}
def auq:=@Nat.le_trans
def aur.{u}:=@cond_false.{u}
def aus:=@Go.Result.andThen_ok
def aut:=@decide_eq_false_iff_not
def auu.{u}:=@List.length_set.{u}
def auv:=@Bool.or_eq_false_iff
def auw.{u}:=@cond_true.{u}
def auy:=@Go.Sem.run_bind
def auz:=@Int.natCast_nonneg
def au0:=@Bool.and_eq_true
def au1.{u}:=@List.length_append.{u}
def au2:=@Nat.le_refl
def au3:=@Nat.mul_le_mul_right
def au4:=@Int.le_refl
def au5:=@Nat.lt_of_lt_of_le
def au6.{u}:=@if_neg.{u}
def au7:=@Nat.le_of_ble_eq_true
def au8.{u}:=@bne_eq_false_iff_eq.{u}
def au9.{u}:=@List.getD_eq_getElem?_getD.{u}
def ava.{u}:=@if_pos.{u}
def avb.{u}:=@List.append_assoc.{u}
def avc.{u}:=@List.getElem?_eq_getElem.{u}
def avd.{u}:=@Array.length_toList.{u}
def ave:=@Bool.not_eq_false'
def avf:=@Go.IntKind.wrap_i64
def avg:=@Go.run_underlying
def avh:=@Go.Sem.run_pure
def avi.{u}:=@List.length_cons.{u}
def avj:=@Go.Lib.cell_of_heap
def avk.{u}:=@List.length_nil.{u}
def avl.{u}:=@Array.getD_eq_getD_getElem?.{u}
def avm:=@Bool.not_eq_true'
def avn:=@decide_true
def avo.{u}:=@List.length_drop.{u}
def avp.{u}:=@List.length_take.{u}
def avq:=@Int.tmod_eq_emod_of_nonneg
def avr.{u}:=@List.take_of_length_le.{u}
def avs:=@Nat.zero_add
def avt.{u}:=@List.eq_nil_of_length_eq_zero.{u}
def avu:=@Go.IntKind.wrap_u64
def avv.{u}:=@List.mem_cons.{u}
def avw:=@Bool.not_true
def avx:=@Nat.succ_mul
def avy.{u}:=@Array.getElem?_toList.{u}
def avz:=@Bool.and_eq_false_iff
def av0.{u}:=@List.getElem_of_mem.{u}
def av1:=@Go.IntKind.wrap_u8
def av2.{u,v}:=@congrArg.{u,v}
def av3.{u}:=@List.take_succ_eq_append_getElem.{u}
def av4:=@decide_false
def av5.{u}:=@List.drop_eq_getElem_cons.{u}
def av6.{u,v}:=@Option.map_eq_some_iff.{u,v}
def av7.{u}:=@List.getElem?_take.{u}
def av8.{u}:=@List.mem_singleton.{u}
def av9:=@Bool.or_eq_true
def awa:=@Int.toNat_natCast
def awb.{u,v}:=@List.foldl_cons.{u,v}
def awc:=@Nat.zero_le
def awd:=@Bool.false_eq_true
def awe:=@Int.eq_ofNat_of_zero_le
def awf.{u,v}:=@Prod.ext.{u,v}
def awg.{u}:=@List.mem_of_mem_take.{u}
def awh.{u}:=@List.mem_cons_of_mem.{u}
def awi.{u}:=@List.take_append_drop.{u}
def awj.{u}:=@List.length_replicate.{u}
def awk.{u,v}:=@Prod.mk.injEq.{u,v}
def awl.{u}:=@List.getElem?_drop.{u}
def awm.{u}:=@bne_self_eq_false.{u}
def awn.{u,v}:=@List.foldl_append.{u,v}
def awo.{u}:=@List.drop_drop.{u}
def awp.{u}:=@Array.getElem?_eq_getElem.{u}
def awq.{u}:=@List.drop_zero.{u}
def awr:=@Nat.add_zero
def aws.{u}:=@List.append_nil.{u}
def awt.{u}:=@beq_iff_eq.{u}
def awu.{u}:=@beq_eq_false_iff_ne.{u}
def awv.{u}:=@List.nil_append.{u}
def aww.{u}:=@List.mem_append.{u}
def awx.{u}:=@List.mem_of_mem_drop.{u}
def awy:=@Int.fdiv_eq_ediv_of_nonneg
def awz.{u}:=@List.cons_append.{u}
def aw0:=@Bool.not_eq_true
def aw1:=@Int.le_trans
def aw2.{u}:=@List.ext_getElem?.{u}
def aw3.{u}:=@List.eq_of_mem_replicate.{u}
def aw4:=@Go.setRow_other
def aw5:=@Go.Lib.wpList_append_run
def aw6:=@Go.RowKit.Below.refl
def aw7.{u}:=@List.take_append_of_le_length.{u}
def aw8:=@Go.IntKind.wrap_u32
def aw9.{u}:=@List.getElem?_append_left.{u}
def axa:=@Nat.mul_sub_right_distrib
def axb:=@Nat.zero_mul
def axc.{u}:=@List.mem_of_getElem?.{u}
def axd:=@Go.setRow_heap
def axe:=@Nat.lt_or_ge
def axf:=@Int.natCast_inj
def axg:=@decide_eq_false
def axh.{u}:=@beq_self_eq_true.{u}
def axi.{u}:=@List.take_add.{u}
def axj:=@Int.tdiv_eq_ediv_of_nonneg
def axk.{u}:=@Option.some.inj.{u}
def axl.{u}:=@List.append_inj.{u}
def axm.{u,v}:=@List.map_cons.{u,v}
def axn.{u}:=@List.getElem_mem.{u}
def axo.{u,v}:=@List.flatMap_append.{u,v}
def axp.{u,v}:=@List.filterMap_cons_some.{u,v}
def axq.{u}:=@bne_iff_ne.{u}
def axr:=@decide_eq_true
def axs:=@Bool.true_and
def axt:=@List.range_succ
def axu:=@Nat.pow_le_pow_right
def axv.{u}:=@Option.getD_some.{u}
def axw.{u}:=@List.not_mem_nil.{u}
def axx:=@Go.RowKit.Below.heap_alloc
def axy.{u}:=@List.take_length.{u}
def axz:=@Go.World.size_alloc
def ax0.{u}:=@Array.getElem?_append_left.{u}
def ax1.{u}:=@List.drop_of_length_le.{u}
def ax2.{u}:=@List.getElem_cons_zero.{u}
def ax3.{u}:=@List.size_toArray.{u}
def ax4.{u,v,w}:=@Array.mapM_eq_mapM_toList.{u,v,w}
def ax5.{u,v}:=@List.length_map.{u,v}
def ax6:=@Go.bodyPost_ret
def ax7:=@Bool.or_self
def ax8.{u}:=@List.getElem_append_left.{u}
def ax9:=@Go.Lib.frozen_of_heap
def aya.{u}:=@List.drop_append_of_le_length.{u}
def ayb:=@Bool.not_false
def ayc:=@Bool.and_false
def ayd:=@Nat.le_of_eq
def aye:=@Bool.not_eq_false
def ayf.{u,v}:=@List.flatMap_cons.{u,v}
def ayg.{u}:=@List.toList_toArray.{u}
def ayh:=@Go.run_firstCells_some
def ayi:=@Go.Oper.upon_enter
def ayj.{u}:=@List.take_succ_cons.{u}
def ayk.{u}:=@List.drop_succ_cons.{u}
def ayl.{u,v}:=@List.map_append.{u,v}
def aym.{u}:=@List.cons.injEq.{u}
def ayn.{u}:=@Array.getElem?_eq_none.{u}
def ayo:=@Nat.testBit_lt_two_pow
def ayp.{u}:=@List.getElem_cons_succ.{u}
def ayq.{u}:=@List.getElem?_append_right.{u}
def ayr:=@Nat.eq_of_mul_eq_mul_right
def ays.{u}:=@List.getElem?_eq_none.{u}
def ayt:=@Go.RowKit.Below.heap_setCell
def ayu.{u}:=@List.getElem_append_right.{u}
def ayv:=@Bool.false_and
def ayw:=@Decidable.byContradiction
def ayx:=@Go.World.alloc_heap_new
def ayy.{u}:=@List.getElem_toArray.{u}
def ayz.{u}:=@Array.getElem?_push_size.{u}
def ay0.{u}:=@List.take_add_one.{u}
def ay1.{u}:=@List.getElem?_cons_zero.{u}
def ay2.{u}:=@List.getD_cons_succ.{u}
def ay3:=@false_implies
def ay4:=@Int.lt_irrefl
def ay5.{u,v}:=@Option.bind_some.{u,v}
def ay6.{u}:=@List.ext_getElem.{u}
def ay7:=@Int.mul_le_mul_of_nonneg_left
def ay8.{u}:=@List.take_zero.{u}
def ay9.{u}:=@Array.ext'.{u}
def aza:=@Nat.mul_le_mul
def azb.{u}:=@List.drop_eq_nil_of_le.{u}
def azc:=@true_and
def azd:=@Bool.true_eq_false
def aze:=@Nat.mul_comm
def azf:=@Go.Addr.add_lit
def azg:=@Nat.one_mul
def azh:=@Nat.two_pow_add_eq_or_of_lt
def azi:=@BitVec.eq_of_toNat_eq
def azj.{u}:=@if_false.{u}
def azk.{u}:=@if_true.{u}
def azl.{u}:=@List.getElem?_append.{u}
def azm.{u}:=@List.drop_take.{u}
def azn.{u}:=@List.drop_left.{u}
def azo.{u}:=@List.mem_or_eq_of_mem_set.{u}
def azp:=@Nat.mod_eq_of_lt
def azq.{u}:=@List.all_eq_true.{u}
def azr.{u}:=@List.length_ofFn.{u}
def azs:=@Nat.add_mul
def azt.{u,v}:=@List.map_congr_left.{u,v}
def azu:=@Go.run_callFunc_extern
def azv:=@Nat.le_succ
def azw:=@Nat.sub_zero
def azx.{u,v}:=@List.filterMap_cons_none.{u,v}
def azy.{u}:=@forall_const.{u}
def azz:=@Go.results_none
def az0:=@Nat.add_assoc
def az1:=@Nat.min_eq_left
def az2:=@Bool.and_true
def az3:=@Nat.testBit_mul_two_pow
def az4:=@Bool.eq_iff_iff
def az5.{u}:=@List.pairwise_singleton.{u}
def az6.{u,v}:=@List.exists_of_findSome?_eq_some.{u,v}
def az7:=@ByteArray.size_extract
def az8:=@BitVec.toNat_shiftLeft
def az9.{u,v}:=@List.getElem?_map.{u,v}
def aAa.{u}:=@List.getElem_take.{u}
def aAb:=@Nat.le_succ_of_le
def aAc:=@Nat.div_lt_iff_lt_mul
def aAd:=@Int.mul_le_mul_of_nonneg_right
def aAe:=@BitVec.toNat_setWidth
def aAf:=@Nat.and_two_pow_sub_one_eq_mod
def aAg.{u}:=@List.length_singleton.{u}
def aAh.{u}:=@List.Pairwise.sublist.{u}
def aAi:=@Go.IntKind.wrap_u16
def aAj:=@BitVec.toNat_xor
def aAk:=@Nat.lt_succ_self
def aAl:=@List.range_eq_range'
def aAm:=@Nat.eq_of_testBit_eq
def aAn.{u}:=@Array.replicate_succ.{u}
def aAo.{u}:=@Array.replicate_zero.{u}
def aAp:=@and_true
def aAq:=@Nat.div_add_mod
def aAr:=@Nat.mul_one
def aAs:=@Go.run_firstCells_none
def aAt.{u}:=@List.getD_cons_zero.{u}
def aAu:=@Int.emod_nonneg
def aAv:=@Go.Lib.run_unsafeSliceData_row
def aAw.{u}:=@List.append_toArray.{u}
def aAx:=@Go.rounds_succ
def aAy:=@Nat.eq_zero_or_pos
def aAz:=@Go.grownCap_le_maxLen
def aA0:=@Int.mul_comm
def aA1:=@or_false
def aA2:=@Int.emod_lt_of_pos
def aA3:=@BitVec.toNat_ofInt
def aA4.{u,v}:=@List.mem_map.{u,v}
def aA5.{u}:=@List.nodup_nil.{u}
def aA6:=@Int.mul_nonneg
def aA7:=@Go.run_storeCells_at
def aA8:=@Nat.mod_lt
def aA9.{u}:=@List.push_toArray.{u}
def aBa.{u}:=@List.getElem_drop.{u}
def aBb.{u}:=@List.Sublist.refl.{u}
def aBc:=@of_decide_eq_true
def aBd:=@Go.World.block_lt_of_cell?
def aBe:=@Nat.le_mul_of_pos_right
def aBf:=@Go.calls_of_wp
def aBg:=@Nat.testBit_div_two_pow
def aBh:=@List.range'_succ
def aBi:=@Nat.shiftLeft_eq
def aBj:=@Nat.le_add_right
def aBk:=@Int.natCast_add
def aBl:=@Bool.and_eq_false_imp
def aBm.{u}:=@List.set_set.{u}
def aBn:=@Go.Oper.upon_value
def aBo:=@Go.RowKit.Below.drew
def aBp:=@BitVec.msb_eq_decide
def aBq:=@Go.growslice_fits
def aBr:=@Int.pow_nonneg
def aBs:=@Bool.and_self
def aBt:=@Nat.sub_self
def aBu:=@Nat.le_of_lt
def aBv:=@Int.le_of_lt
def aBw:=@and_assoc
abbrev sQ:=Int×Int×Int×Int×Int×Int×Int×Int×Int×Int×Int×Int×Int×Int×Int×Int×Int×Int×Int×Int×Int×Int×Int×Int×Int×Int×Int×Int×Int×Int×Int×Int×Int×Int×Int×Int
abbrev ey:=Int×Int×Int×Int×Int×Int×Int×Int×Int
abbrev nG:=Int×Int×Bool×Bool×Bool×Bool
abbrev Et:=Int×Int×Int×Int×Int×Int×Int
abbrev eQ:=Int×Bool×Bool×Bool×Bool
abbrev lE:=Int×Int×Int×Int×Int×Int
abbrev Ev:=Int×Int×Int×Bool×Int
abbrev en:=Int×Int×Int×Int×Bool
abbrev eW:=ByteArray×ByteArray
abbrev aP:=Int×Int×Int×Int×Int
abbrev qs:=ByteArray×Int×Int
abbrev gw:=Int×Bool×Int×Bool
abbrev KH:=Int×Int×Int×Bool
abbrev cT:=Nat×Nat×Bool×Nat
abbrev kd:=Int×Int×Int×Int
abbrev eb:=ByteArray×Int
abbrev hM:=Nat×Bool×Nat
abbrev ay:=Int×Int×Int
abbrev ny:=Bool×Int
abbrev ir:=Int×Bool
abbrev bS:=Nat×Bool
abbrev af:=Int×Int
abbrev kH:=Int×Nat
abbrev aR:=Nat×Nat
inductive Ty where
 |int (k:IntKind)|bool|flt (k:FloatKind)|str|unit|fnt|pair (a b:Ty)|sl (e:Ty)
 deriving DecidableEq
@[reducible] def Ty.den:Ty->Type
 | .int _=>Int| .bool=>Bool| .flt _=>Nat| .str=>ByteArray| .unit=>Unit| .fnt=>Option Nat
 | .pair a b=>a.den×b.den| .sl e=>List e.den
def Ty.n:Ty->Nat
 | .unit=>0| .pair a b=>Nat.add a.n b.n|_=>1
inductive abG where
 |no|exact
inductive Cell where
 |int (k:IntKind) (n:Int)|bool (b:Bool)|flt (k:FloatKind) (n:Nat)|str (s:ByteArray)
 |bh (t:Ty) (tl:abG) (l:List t.den)
 |FL|box (k off:Nat)|elem (t:Ty) (l:List t.den) (i:Int) (off:Nat)|fn (f:Option Nat)|clo (f:FuncId) (ks:List Nat)|aelem (k off:Nat) (e:Ty) (len:Nat) (i:Int)|arrs (k off:Nat) (e:Ty) (len:Nat)
 |bq (t:Ty) (k:Nat)|velem (t:Ty) (k:Nat) (i:Int) (off:Nat)|nlb (p:Prop)
inductive SV where
 |one (c:Cell)|agg (cs:List Cell)
inductive TV where
 |v (x:SV)|tup (xs:List SV)
def app{α:Type}:List α->List α->List α
 | [],ys=>ys|x::xs,ys=>x::app xs ys
theorem bI{α:Type}(xs ys:List α):app xs ys=xs++ys:=by induction xs<;>simp[app, *]
def enc:(t:Ty)->t.den->List Cell
 | .int k,x=> [.int k x]| .bool,x=> [.bool x]| .flt k,x=> [.flt k x]| .str,x=> [.str x]| .unit,_=> []| .fnt,x=> [.fn x]
 | .pair a b,x=>app (enc a x.1) (enc b x.2)| .sl e,l=> [.bh e .no l]
def oi:IntKind->IntKind->Bool
 | .i8,.i8=>true| .i16,.i16=>true| .i32,.i32=>true| .i64,.i64=>true
 | .u8,.u8=>true| .u16,.u16=>true| .u32,.u32=>true| .u64,.u64=>true|_,_=>false
def tL:FloatKind->FloatKind->Bool
 | .f32,.f32=>true| .f64,.f64=>true|_,_=>false
theorem qm{a b:IntKind}(h:oi a b=true):a=b:=by cases a<;>cases b<;>first|rfl|cases h
theorem vN{a b:FloatKind}(h:tL a b=true):a=b:=by cases a<;>cases b<;>first|rfl|cases h
def cnd{α:Type}(b:Bool)(x y:α):α:=match b with|true=>x|false=>y
def tyeq:Ty->Ty->Bool
 | .int a,.int b=>oi a b| .bool,.bool=>true| .flt a,.flt b=>tL a b| .str,.str=>true| .unit,.unit=>true| .fnt,.fnt=>true
 | .pair a b,.pair c d=>(match tyeq a c with|true=>tyeq b d|false=>false)| .sl a,.sl b=>tyeq a b|_,_=>false
theorem ai9: ∀{a b:Ty},tyeq a b=true->a=b:=by
 intro a;induction a with
 |int k=>intro b h;cases b<;>first|(rw[qm h])|cases h
 |flt k=>intro b h;cases b<;>first|(rw[vN h])|cases h
 |pair x y g i=>
  intro b h;cases b with
  |pair c d=>
   grind [tyeq]
  |_=>cases h
 |sl x f=>intro b h;cases b<;>first|(rw[f h])|cases h
 |_=>intro b h;cases b<;>first|rfl|cases h
def castL(a b:Ty)(l:List a.den):Option (List b.den):=
 match h:tyeq a b with|true=>some (ai9 h▸l)|false=>none
def dec:(t:Ty)->List Cell->Option t.den
 | .int k=>λcs=>match cs with| [.int k' n]=>cnd (oi k k') (some n) none|_=>none
 | .bool=>λcs=>match cs with| [.bool b]=>some b|_=>none
 | .flt k=>λcs=>match cs with| [.flt k' n]=>cnd (tL k k') (some n) none|_=>none
 | .str=>λcs=>match cs with| [.str s]=>some s|_=>none
 | .unit=>λcs=>match cs with| []=>some ()|_=>none
 | .fnt=>λcs=>match cs with| [.fn f]=>some f|_=>none
 | .pair a b=>λcs=>match dec a (cs.take a.n),dec b (cs.drop a.n)with
  |some x,some y=>some (x,y)
  |_,_=>none
 | .sl e=>λcs=>match cs with| [.bh g _ l]=>castL g e l|_=>none
def jy(w:World)(X:Nat->Nat->Prop){α:Type}(n:Nat)(R:α->List Value->Prop)(l:List α)(b o:Nat):Prop:=
 (∀i (h:i<l.length),∃vs:List Value,vs.length=n/\(∀j,(a:j<n)->w.cell? ⟨b,o+(i*n+j),none⟩=some (vs.getD j undef))/\R l[i] vs)/\
 (∀p,o<=p->p<o+l.length*n-> ¬ X b p)
def LR(w:World)(X:Nat->Nat->Prop){α:Type}(n:Nat)(R:α->List Value->Prop)(l:List α)(v:Value):Prop:=
 (l= []/\v= .slice none 0 0)\/ ∃(a:Addr) (cap:Nat),v= .slice (some a) l.length cap/\l.length<=cap/\cap<=maxLen/\(l≠ []->a.spot=none)/\jy w X n R l a.block a.off
def Ty.hasSl:Ty->Bool
 | .pair a b=>match a.hasSl with|true=>true|false=>b.hasSl
 | .sl _=>true|_=>false
def Nz:Option Nat->Value
 |none=> .nilFunc|some f=> .func (.func f) #[] #[]
def TR(w:World)(X:Nat->Nat->Prop):(t:Ty)->t.den->List Value->Prop
 | .int k,x,vs=>vs= [.int k x]
 | .bool,x,vs=>vs= [.bool x]
 | .flt k,x,vs=>vs= [.float k x]
 | .str,x,vs=>vs= [.string x]
 | .unit,_,vs=>vs= []
 | .fnt,x,vs=>vs= [Nz x]
 | .pair a b,x,vs=> ∃f v2,vs=f++v2/\TR w X a x.1 f/\TR w X b x.2 v2
 | .sl e,l,vs=> ∃v,vs= [v]/\LR w X e.n (TR w X e) l v
structure dG (X:Nat->Nat->Prop) (w w':World):Prop where
 size:w.heap.size<=w'.heap.size
 cell: ∀b p,b<w.heap.size-> ¬ X b p->w'.cell? ⟨b,p,none⟩=w.cell? ⟨b,p,none⟩
 shape: ∀b,b<w.heap.size->w'.shape? b=w.shape? b
 frozen: ∀b p,b<w.heap.size->w'.frozen? ⟨b,p,none⟩=w.frozen? ⟨b,p,none⟩
def di(w:World)(X X':Nat->Nat->Prop):Prop:= ∀b p,b<w.heap.size->X' b p->X b p
theorem Ds{w:World}{b p:Nat}{v:Value}(h:w.cell? ⟨b,p,none⟩=some v):b<w.heap.size:=aBd w _ h
theorem jy.mono{w w':World}{X X':Nat->Nat->Prop}{α:Type}{n:Nat}{R g:α->List Value->Prop}{l:List α}{b o:Nat}
  (k:dG X w w') (m:di w X X') (s: ∀x vs,R x vs->g x vs) (h:jy w X n R l b o):jy w' X' n g l b o:=by
 have key: ∀i,i<l.length-> ∀j,j<n->o+(i*n+j)<o+l.length*n:=by
  intro i hi j a;have h1:(i+1)*n<=l.length*n:=au3 _ hi;grind
 refine⟨λi hi=> ?_,λp h1 h2 hX=> ?_⟩
 ·obtain⟨vs,hl,f,hr⟩:=h.1 i hi
  refine⟨vs,hl,λj a=> ?_,s _ _ hr⟩;have h0:=f j a;rw[<- h0];exact k.cell _ _ (Ds h0) (h.2 _ (by omega) (key i hi j a))
 ·have t:0<l.length:=by
   rcases aAy l.length with h0|h0
   ·rw[h0]at h2;omega
   ·exact h0
  have u:0<n:=by
   rcases aAy n with h0|h0
   ·rw[h0]at h2;omega
   ·exact h0
  obtain⟨vs,hl,f,hr⟩:=h.1 0 t;exact h.2 p h1 h2 (m b p (Ds (f 0 u)) hX)
theorem LR.mono{w w':World}{X X':Nat->Nat->Prop}{α:Type}{n:Nat}{R f:α->List Value->Prop}{l:List α}{v:Value}
  (g:dG X w w') (i:di w X X') (j: ∀x vs,R x vs->f x vs) (h:LR w X n R l v):LR w' X' n f l v:=by
 rcases h with h|⟨a,cap,h1,h2,h3,h4,h5⟩
 ·exact .inl h
 ·exact .inr ⟨a,cap,h1,h2,h3,h4,h5.mono g i j⟩
theorem TR.mono{w w':World}{X X':Nat->Nat->Prop}(f:dG X w w')(g:di w X X'):
  ∀(t:Ty) (x:t.den) (vs:List Value),TR w X t x vs->TR w' X' t x vs:=by
 intro t;induction t with
 |pair a b i j=>
  intro x vs h;obtain⟨k,v2,rfl,h1,h2⟩:=h;exact⟨k,v2,rfl,i _ _ h1,j _ _ h2⟩
 |sl e m=>
  intro l vs h;obtain⟨v,rfl,h1⟩:=h;exact⟨v,rfl,h1.mono f g m⟩
 |_=>intro x vs h;exact h
theorem TR.len{w:World}{X:Nat->Nat->Prop}: ∀(t:Ty) (x:t.den) (vs:List Value),TR w X t x vs->vs.length=t.n:=by
 intro t;induction t with
 |pair a b f g=>
  intro x vs h;obtain⟨i,v2,rfl,h1,h2⟩:=h;grind [Ty.n]
 |sl e j=>
  intro l vs h;obtain⟨v,rfl,h1⟩:=h;simp[Ty.n]
 |_=>intro x vs h;cases h;simp[Ty.n]
def aj{α β:Type}(R:α->β->Prop):List α->List β->Prop
 | [],[]=>True
 |a::f,b::bs=>R a b/\aj R f bs
 |_,_=>False
theorem aj.mono{α β:Type}{R g:α->β->Prop}(h: ∀a b,R a b->g a b): ∀{i:List α} {bs:List β},aj R i bs->aj g i bs
 | [],[],_=>trivial
 |_::_,_::_,f=>⟨h _ _ f.1,aj.mono h f.2⟩
 | [],_::_,f=>f.elim
 |_::_,[],f=>f.elim
theorem aj.length{α β:Type}{R:α->β->Prop}: ∀{f:List α} {bs:List β},aj R f bs->f.length=bs.length
 | [],[],_=>rfl
 |_::_,_::_,a=>by simp[aj.length a.2]
 | [],_::_,a=>a.elim
 |_::_,[],a=>a.elim
theorem aj.append{α β:Type}{R:α->β->Prop}: ∀{f cs:List α} {bs g:List β},aj R f bs->aj R cs g->aj R (f++cs) (bs++g)
 | [],_,[],_,_,h=>h
 |_::_,_,_::_,_,a,h=>⟨a.1,aj.append a.2 h⟩
 | [],_,_::_,_,a,_=>a.elim
 |_::_,_,[],_,a,_=>a.elim
theorem aj.split{α β:Type}{R:α->β->Prop}: ∀{g cs:List α} {bs:List β},aj R (g++cs) bs-> ∃b1 f,bs=b1++f/\aj R g b1/\aj R cs f
 | [],_,bs,h=>⟨[],bs,rfl,trivial,h⟩
 |a::g,cs,b::bs,h=>by
  obtain⟨b1,f,rfl,h1,h2⟩:=aj.split h.2;exact⟨b::b1,f,rfl,⟨h.1,h1⟩,h2⟩
 |_::_,_,[],h=>h.elim
theorem aj.get{α β:Type}{R:α->β->Prop}: ∀{g:List α} {bs:List β},aj R g bs-> ∀(i:Nat) (a:α),g[i]? =some a-> ∃b,bs[i]? =some b/\R a b
 | [],[],_,i,a,h=>by simp_all
 |_::_,_::_,f,0,a,h=>by simp at h;subst h;exact⟨_,rfl,f.1⟩
 |_::_,_::_,f,i+1,a,h=>by simpa using aj.get f.2 i a (by simp_all)
 | [],_::_,f,_,_,_=>f.elim
 |_::_,[],f,_,_,_=>f.elim
theorem aj.drop{α β:Type}{R:α->β->Prop}: ∀{f:List α} {bs:List β} (n:Nat),aj R f bs->aj R (f.drop n) (bs.drop n)
 |_,_,0,h=>by simp_all
 | [],[],_+1,_=>trivial
 |_::_,_::_,n+1,a=>by simpa using aj.drop n a.2
 | [],_::_,_,a=>a.elim
 |_::_,[],_,a=>a.elim
theorem aj.take{α β:Type}{R:α->β->Prop}: ∀{f:List α} {bs:List β} (n:Nat),aj R f bs->aj R (f.take n) (bs.take n)
 |_,_,0,h=>trivial
 | [],[],_+1,_=>trivial
 |_::_,_::_,n+1,a=>⟨a.1,aj.take n a.2⟩
 | [],_::_,_,a=>a.elim
 |_::_,[],_,a=>a.elim
theorem aj.set{α β:Type}{R:α->β->Prop}: ∀{g:List α} {bs:List β} (n:Nat) {a:α} {b:β},aj R g bs->R a b->aj R (g.set n a) (bs.set n b)
 | [],[],_,_,_,_,_=>trivial
 |_::_,_::_,0,_,_,f,h=>⟨h,f.2⟩
 |_::_,_::_,n+1,_,_,f,h=>⟨f.1,aj.set n f.2 h⟩
 | [],_::_,_,_,_,f,_=>f.elim
 |_::_,[],_,_,_,f,_=>f.elim
theorem TR.od{w:World}{X X':Nat->Nat->Prop}: ∀{t:Ty} {x:t.den} {vs:List Value},t.hasSl=false->TR w X t x vs->TR w X' t x vs:=by
 intro t;induction t with
 |pair a b g i=>
  intro x vs f h;obtain⟨j,v2,rfl,h1,h2⟩:=h;simp only[Ty.hasSl]at f;split at f
  ·cases f
  ·rename_i k;exact⟨j,v2,rfl,g k h1,i f h2⟩
 |sl e l=>intro x vs f;cases f
 |_=>intro x vs _ h;exact h
abbrev Map:=Nat->Option (aR)
def fD(p:Nat):Nat:=(p-2)/2
def pF(p a:Nat):Prop:=a=p\/(p % 2=0/\0<p/\a=p+1)
theorem pF.len{p a:Nat}(h:pF p a):fD a=fD p:=by
 rcases h with rfl|⟨h1,h2,h3⟩
 ·rfl
 grind [fD]
theorem pF.one{p a:Nat}(h:pF p a):a=1↔p=1:=by rcases h with rfl|⟨h1,h2,h3⟩<;>omega
theorem pF.pos{p a:Nat}(h:pF p a)(f:0<p):0<a:=by rcases h with rfl|⟨h1,h2,h3⟩<;>omega
theorem pF.zero{a:Nat}(h:pF 0 a):a=0:=by rcases h with rfl|⟨h1,h2,h3⟩<;>omega
theorem eN(n:Nat):fD (2*n+2)=n:=by simp_all [fD]
theorem gq(n:Nat):fD (2*n+3)=n:=by grind [fD]
def dz(m f:Map):Prop:= ∀k b p,m k=some (b,p)-> ∃a,f k=some (b,a)/\pF p a
theorem dz.of{m a:Map}(h: ∀k b p,m k=some (b,p)->a k=some (b,p)):dz m a:=λk b p f=>⟨p,h k b p f,.inl rfl⟩
theorem dz.refl(m:Map):dz m m:=dz.of λ_ _ _ h=>h
def CR(m:Map)(X:Nat->Nat->Prop)(w:World):Cell->Value->Prop
 | .int k n,v=>v= .int k n
 | .bool b,v=>v= .bool b
 | .flt k n,v=>v= .float k n
 | .str s,v=>v= .string s
 | .bh t tl l,v=>LR w X t.n (TR w X t) l v/\
  match tl with
  | .no=>True
  | .exact=>(l= []/\v= .slice none 0 0)\/l≠ []/\ ∃b T,v= .slice (some ⟨b,0,none⟩) l.length l.length/\w.shape? b=some (T,l.length*t.n)
 | .FL,v=>v= .pointer none
 | .box k off,v=> ∃b,m k=some (b,0)/\v= .pointer (some ⟨b,off,none⟩)
 | .elem t l i off,v=> ∃b o,v= .pointer (some ⟨b,o+(i.toNat*t.n+off),none⟩)/\i.toNat<l.length/\jy w X t.n (TR w X t) l b o
 | .fn f,v=>v=Nz f
 | .clo f ks,v=> ∃vs:List Value,v= .func (.func f) #[] vs.toArray/\aj (λk u=> ∃b,m k=some (b,0)/\u= .pointer (some ⟨b,0,none⟩)) ks vs
 | .arrs k off e len,v=> ∃b,m k=some (b,0)/\v= .slice (some ⟨b,off,none⟩) len len
 | .aelem k off e len i,v=> ∃b,m k=some (b,0)/\v= .pointer (some ⟨b,off+i.toNat*e.n,none⟩)/\0<=i/\i.toNat<len
 | .bq t k,v=> ∃b p,m k=some (b,p)/\0<p/\((p=1/\v= .slice none 0 0)\/
  p≠1/\ ∃cap T,v= .slice (some ⟨b,0,none⟩) (fD p) cap/\w.shape? b=some (T,cap*t.n)/\fD p<=cap/\cap<=maxLen)
 | .velem t k i off,v=> ∃b p,m k=some (b,p)/\0<p/\v= .pointer (some ⟨b,i.toNat*t.n+off,none⟩)/\i.toNat<fD p
 | .nlb p,v=> ∃b,v= .bool b/\(b=true->p)
def aE(m:Map)(X:Nat->Nat->Prop)(w:World)(cs:List Cell)(vs:List Value):Prop:=aj (CR m X w) cs vs
def SR(m:Map)(X:Nat->Nat->Prop)(w:World):SV->Value->Prop
 | .one c,v=>CR m X w c v
 | .agg cs,v=> ∃vs,v= .agg vs/\aE m X w cs vs.toList
def VR(m:Map)(X:Nat->Nat->Prop)(w:World):TV->Value->Prop
 | .v x,v=>SR m X w x v
 | .tup xs,v=> ∃vs,v= .tuple vs/\aj (SR m X w) xs vs.toList
theorem HW{w:World}{b:Nat}{x:TypeId×Nat}(h:w.shape? b=some x):b<w.heap.size:=by
 unfold World.shape? at h;grind
theorem CR.eA{m s:Map}{w w':World}{X X':Nat->Nat->Prop}(g:dG X w w')(j:di w X X')(hm:dz m s):
  ∀(c:Cell) (v:Value),CR m X w c v->CR s X' w' c v:=by
 intro c v h;cases c with
 |bh t tl l=>
  refine⟨h.1.mono g j (TR.mono g j t),?_⟩;cases tl with
  |no=>trivial
  |exact=>
   rcases h.2 with h2|⟨h2,b,T,h3,h4⟩
   ·simp_all
   ·exact .inr ⟨h2,b,T,h3,(g.shape _ (HW h4)).trans h4⟩
 |box k off=>
  obtain⟨b,h1,h2⟩:=h;obtain⟨a,h3,h4⟩:=hm _ _ _ h1;exact⟨b,by rw[h3,h4.zero],h2⟩
 |elem t l i off=>obtain⟨b,o,h1,h2,h3⟩:=h;exact⟨b,o,h1,h2,h3.mono g j (TR.mono g j t)⟩
 |clo f ks=>
  obtain⟨vs,h1,h2⟩:=h;refine⟨vs,h1,h2.mono λk u ⟨b,h3,h4⟩=> ?_⟩;obtain⟨a,h5,h6⟩:=hm _ _ _ h3;exact⟨b,by rw[h5,h6.zero],h4⟩
 |aelem k off e len i=>
  obtain⟨b,h1,h2⟩:=h;obtain⟨a,h3,h4⟩:=hm _ _ _ h1;exact⟨b,by rw[h3,h4.zero],h2⟩
 |arrs k off e len=>
  obtain⟨b,h1,h2⟩:=h;obtain⟨a,h3,h4⟩:=hm _ _ _ h1;exact⟨b,by rw[h3,h4.zero],h2⟩
 |bq t k=>
  obtain⟨b,p,h1,h2,h3⟩:=h;obtain⟨a,h4,h5⟩:=hm _ _ _ h1;refine⟨b,a,h4,h5.pos h2,?_⟩;rw[h5.len];rcases h3 with h3|⟨h3,cap,T,h6,h7,x⟩
  ·exact .inl ⟨h5.one.2 h3.1,h3.2⟩
  ·exact .inr ⟨λe=>h3 (h5.one.1 e),cap,T,h6,(g.shape _ (HW h7)).trans h7,x⟩
 |velem t k i off=>
  obtain⟨b,p,h1,h2,h3,h6⟩:=h;obtain⟨a,h4,h5⟩:=hm _ _ _ h1;exact⟨b,a,h4,h5.pos h2,h3,by rw[h5.len];omega⟩
 |_=>exact h
theorem CR.mono{m a:Map}{w w':World}{X X':Nat->Nat->Prop}(f:dG X w w')(g:di w X X')(hm: ∀k b p,m k=some (b,p)->a k=some (b,p)):
 ∀(c:Cell) (v:Value),CR m X w c v->CR a X' w' c v:=CR.eA f g (dz.of hm)
theorem SR.eA{m a:Map}{w w':World}{X X':Nat->Nat->Prop}(f:dG X w w')(g:di w X X')(hm:dz m a)
  (x:SV) (v:Value) (h:SR m X w x v):SR a X' w' x v:=by
 cases x with
 |one c=>exact CR.eA f g hm c v h
 |agg cs=>obtain⟨vs,h1,h2⟩:=h;exact⟨vs,h1,h2.mono (CR.eA f g hm)⟩
theorem SR.mono{m a:Map}{w w':World}{X X':Nat->Nat->Prop}(f:dG X w w')(g:di w X X')(hm: ∀k b p,m k=some (b,p)->a k=some (b,p))
 (x:SV) (v:Value) (h:SR m X w x v):SR a X' w' x v:=SR.eA f g (dz.of hm) x v h
theorem VR.eA{m a:Map}{w w':World}{X X':Nat->Nat->Prop}(f:dG X w w')(g:di w X X')(hm:dz m a)
  (x:TV) (v:Value) (h:VR m X w x v):VR a X' w' x v:=by
 cases x with
 |v x=>exact SR.eA f g hm x v h
 |tup xs=>obtain⟨vs,h1,h2⟩:=h;exact⟨vs,h1,h2.mono (SR.eA f g hm)⟩
theorem VR.mono{m a:Map}{w w':World}{X X':Nat->Nat->Prop}(f:dG X w w')(g:di w X X')(hm: ∀k b p,m k=some (b,p)->a k=some (b,p))
 (x:TV) (v:Value) (h:VR m X w x v):VR a X' w' x v:=VR.eA f g (dz.of hm) x v h
structure GS where
 tags:List (bS)
 tv:TV
inductive Bx where
 |cells (cs:List Cell)|ro (cs:List Cell)|tok|vec (o:Bool) (T:TypeId) (t:Ty) (l:List t.den)|kU (t:Ty) (l:List t.den)
structure ASt where
 slot:Nat->Option GS
 box:Nat->Option Bx
def Xof(m:Map)(b q:Nat):Prop:= ∃k p,m k=some (b,p)/\p % 2=0
def wc(z:aR)(n:Nat)(c:Prop):Prop:=z=(0,0)\/z=(n,n+1)/\c
def vq(w:World)(b:Nat)(vs:Array Value)(T:TypeId)(c:Prop):Prop:= ∃z,w.heap[b]? =some (.cells vs T z)/\wc z vs.size c
def jc(X:Nat->Nat->Prop)(w:World)(b:Nat)(T:TypeId)(t:Ty)(l:List t.den):Prop:=
 ∃vs cap,vq w b vs T (t= .int .u8)/\vs.size=cap*t.n/\l.length<=cap/\cap<=maxLen/\ ∀i (h:i<l.length),TR w X t l[i] ((vs.toList.drop (i*t.n)).take t.n)
def iv(m:Map)(X:Nat->Nat->Prop)(w:World)(k:Nat):Bx->Prop
 | .cells cs=> ∃b vs T,m k=some (b,0)/\w.heap[b]? =some (.cells vs T (0,0))/\aE m X w cs vs.toList
 | .ro cs=> ∃b vs T,m k=some (b,0)/\w.heap[b]? =some (.cells vs T (0,0))/\aE m X w cs vs.toList
 | .tok=>True
 | .vec o T t l=> ∃b p,m k=some (b,p)/\((l= []/\p=1)\/(p=2*l.length+2/\jc X w b T t l)\/
  (o=false/\p=2*l.length+3/\jy w X t.n (TR w X t) l b 0/\ ∃a,w.shape? b=some (a,l.length*t.n)))
 | .kU t l=> ∃b p,m k=some (b,p)/\((l= []/\p=1)\/(p=2*l.length+3/\jy w X t.n (TR w X t) l b 0))
theorem jc.mono{X X':Nat->Nat->Prop}{w w':World}{b:Nat}{T:TypeId}{t:Ty}{l:List t.den}(a:dG X w w')(f:di w X X')(hb:w'.heap[b]? =w.heap[b]?)(h:jc X w b T t l):jc X' w' b T t l:=by
 obtain⟨vs,cap,h1,h2,h3,h4,h5⟩:=h;exact⟨vs,cap,by obtain⟨z,h6,h7⟩:=h1;exact⟨z,hb.trans h6,h7⟩,h2,h3,h4,λi hi=>(h5 i hi).mono a f _ _ _⟩
theorem iv.eA{m i:Map}{w w':World}{X X':Nat->Nat->Prop}{k:Nat}{bx:Bx}(f:dG X w w')(g:di w X X')(hm:dz m i)
  (j: ∀b p,m k=some (b,p)->p % 2=0->i k=some (b,p)/\w'.heap[b]? =w.heap[b]?) (h:iv m X w k bx):iv i X' w' k bx:=by
 cases bx with
 |tok=>trivial
 |cells cs=>obtain⟨b,vs,T,h1,h2,h3⟩:=h;obtain⟨h4,h5⟩:=j _ _ h1 rfl;exact⟨b,vs,T,h4,h5.trans h2,h3.mono (CR.eA f g hm)⟩
 |ro cs=>obtain⟨b,vs,T,h1,h2,h3⟩:=h;obtain⟨h4,h5⟩:=j _ _ h1 rfl;exact⟨b,vs,T,h4,h5.trans h2,h3.mono (CR.eA f g hm)⟩
 |vec o T t l=>
  obtain⟨b,p,h1,h2⟩:=h;obtain⟨a,h3,h4⟩:=hm _ _ _ h1;rcases h2 with⟨h2,h5⟩|⟨h2,h5⟩|⟨h2,h5,h6,s,h7⟩
  ·have:a=p:=by rcases h4 with h4|h4<;>omega
   exact⟨b,a,h3,.inl ⟨h2,by omega⟩⟩
  ·obtain⟨h6,h7⟩:=j _ _ h1 (by omega)
   exact⟨b,p,h6,.inr (.inl ⟨h2,h5.mono f g h7⟩)⟩
  ·have:a=p:=by rcases h4 with h4|h4<;>omega
   exact⟨b,a,h3,.inr (.inr ⟨h2,by omega,h6.mono f g (TR.mono f g t),s,(f.shape _ (HW h7)).trans h7⟩)⟩
 |kU t l=>
  obtain⟨b,p,h1,h2⟩:=h;obtain⟨a,h4,h5⟩:=hm _ _ _ h1;rcases h2 with⟨h2,h3⟩|⟨h2,h3⟩
  ·have:a=p:=by rcases h5 with h5|h5<;>omega
   exact⟨b,a,h4,.inl ⟨h2,by omega⟩⟩
  ·have:a=p:=by rcases h5 with h5|h5<;>omega
   exact⟨b,a,h4,.inr ⟨by omega,h3.mono f g (TR.mono f g t)⟩⟩
def et(ν:Nat->Bool)(g:List (bS)):Prop:= ∀x∈g,ν x.1=x.2
def Bx.jN:Bx->Bool
 | .ro _=>true|_=>false
structure GK (gl:Nat->Prop) (u v:World):Prop where
 os:v.os=u.os
 tape:v.tape=u.tape
 size:u.heap.size<=v.heap.size
 block: ∀b,gl b->b<u.heap.size/\v.heap[b]? =u.heap[b]?
theorem GK.refl{gl:Nat->Prop}{u:World}(h: ∀b,gl b->b<u.heap.size):GK gl u u:=⟨rfl,rfl,au2 _,λb hb=>⟨h b hb,rfl⟩⟩
theorem GK.trans{gl:Nat->Prop}{u v x:World}(h1:GK gl u v)(h2:GK gl v x):GK gl u x:=
 ⟨h2.os.trans h1.os,h2.tape.trans h1.tape,auq h1.size h2.size,λb hb=>⟨(h1.block b hb).1,(h2.block b hb).2.trans (h1.block b hb).2⟩⟩
structure Fr where
 n:Nat
 w0:World
 a0:Act
 B:Nat->Prop
 D:Nat->Bool
 X0:Nat->Nat->Prop
 n0:Nat
 base:World
 gl:Nat->Prop
def XA(φ:Fr)(m:Map)(b p:Nat):Prop:=φ.X0 b p\/Xof m b p
structure aG (φ:Fr) (ν:Nat->Bool) (m:Map) (st:ASt) (a:Act) (w:World):Prop where
 tmps:a.tmps.size=φ.n
 defers:a.defers=φ.a0.defers
 slot: ∀t g,st.slot t=some g->et ν g.tags->VR m (XA φ m) w g.tv (a.tmps.getD t undef)
 skip: ∀t g,st.slot t=some g-> ¬ et ν g.tags->a.tmps.getD t undef=undef
 box: ∀k bx,st.box k=some bx->iv m (XA φ m) w k bx
 inj: ∀k k' b p p',m k=some (b,p)->m k'=some (b,p')->p % 2=0->p' % 2=0->k=k'
 low: ∀k b p,m k=some (b,p)->p % 2=0->b<w.heap.size
 bK: ∀k,st.box k=none->m k=none
 own: ∀k bx b p,st.box k=some bx->bx.jN=false->m k=some (b,p)->p % 2=0->φ.B b\/φ.w0.heap.size<=b
 vn: ∀k b p,m k=some (b,p)->p % 2=0->0<p->φ.n0<=b
 dK: ∀k b p,m k=some (b,p)->p % 2=0-> ¬ φ.gl b
 n0:φ.n0<=φ.w0.heap.size
 fN:GK φ.gl φ.base w
 aN:w.os=φ.w0.os/\w.tape=φ.w0.tape/\w.output=φ.w0.output/\φ.w0.heap.size<=w.heap.size
 dA: ∀b,b<φ.w0.heap.size-> ¬ φ.B b->w.heap[b]? =φ.w0.heap[b]?
 dW: ∀b,b<φ.w0.heap.size->w.shape? b=φ.w0.shape? b/\ ∀p,w.frozen? ⟨b,p,none⟩=φ.w0.frozen? ⟨b,p,none⟩
 x0: ∀b p,φ.X0 b p->b<φ.w0.heap.size/\ ¬ φ.B b/\ ¬ φ.gl b
 gA: ∀t,φ.D t=false->a.tmps.getD t undef=φ.a0.tmps.getD t undef
def Sat(φ:Fr)(ν:Nat->Bool)(st:ASt)(a:Act)(w:World):Prop:= ∃m,aG φ ν m st a w
def Fit:(t:Ty)->t.den->Prop
 | .pair a b,x=>Fit a x.1/\Fit b x.2
 | .sl e,l=>l.length<=maxLen/\ ∀x∈l,Fit e x
 |_,_=>True
theorem lz{w:World}{X:Nat->Nat->Prop}: ∀{t:Ty} {x:t.den} {vs:List Value},TR w X t x vs->Fit t x:=by
 intro t;induction t with
 |pair a b g j=>intro x vs h;obtain⟨m,v2,_,h1,h2⟩:=h;exact⟨g h1,j h2⟩
 |sl e k=>
  intro l vs h;obtain⟨v,_,h⟩:=h;rcases h with⟨rfl,_⟩|⟨a,cap,_,h2,h3,_,h5⟩
  ·exact⟨awc _,λx f=>by cases f⟩
  ·refine⟨auq h2 h3,λx f=> ?_⟩
   obtain⟨i,hi,rfl⟩:=av0 f;obtain⟨us,_,_,hr⟩:=h5.1 i hi;exact k hr
 |_=>intro x vs h;exact trivial
def nott:Bool->Bool|true=>false|false=>true
def andd:Bool->Bool->Bool|true,y=>y|false,_=>false
def anyB{α:Type}(p:α->Bool):List α->Bool| []=>false|x::r=>match p x with|true=>true|false=>anyB p r
def dR{α:Type}(p:α->Bool):List α->Bool| []=>true|x::r=>match p x with|true=>dR p r|false=>false
def Ty.dflt:(t:Ty)->t.den
 | .int _=>0| .bool=>false| .flt _=>0| .str=>ByteArray.empty| .unit=>()| .fnt=>none| .pair a b=>(a.dflt,b.dflt)| .sl e=>([]:List e.den)
def nth(t:Ty)(l:List t.den)(i:Int):t.den:=l.getD i.toNat t.dflt
inductive TK where
 |ed|struct (fs:List (aR))|array (len e:Nat)|slice (e:Nat)
structure TD where
 kind:TK
 ty:Ty
 agg:Bool
 bytes:Nat
 eq:Bool
inductive ah where
 |none|one (s:Option Nat)|tup (ss:List (Option Nat))
structure Ct where
 p:Ty
 ax:List (Option Nat)
 r:Ty
 ao:ah
 pre:Option (p.den->Prop)
 fresh:Option Nat:=none
 F:p.den->r.den
structure Cp where
 p:Ty
 ax:List (Option Nat)
 mask:List Bool
 sz:List Nat
 ro:Bool
 ex:Bool
 q:Ty
 r:Ty
 ao:ah
 pre:Option (p.den->Prop)
 F:p.den->r.den×q.den
 pn:Option (p.den->Bool):=none
 pv:Value:=undef
def pnB(cp:Cp)(x:cp.p.den):Bool:=match cp.pn with|none=>false|some g=>g x
structure Cm where
 p:Ty
 ax:List (Option Nat)
 q:Ty
 pre:Option (p.den->Prop)
 F:p.den->Option q.den×Int
 nw:Bool
structure Cw where
 p:Ty
 ax:List (Option Nat)
 el:TypeId
 pre:Option (p.den->List Int->Prop)
 F:p.den->List Int->List Int
inductive Am where
 |v|p|c (f:FuncId) (n:Nat)
structure Cv where
 p:Ty
 ax:List (Option Nat)
 mask:List Am
 sz:List Nat
 ro:Bool
 vi:List (hM)
 q:Ty
 r:Ty
 ao:ah
 vo:List (hM)
 pre:Option (p.den->Prop)
 F:p.den->r.den×q.den
 fz:Bool:=false
inductive Zc where
 |mk (c:Cm)|pw (c:Cw)|pv (c:Cv)
structure Fv where
 p:Ty
 ax:List (Option Nat)
 r:Ty
 ao:ah
 fs:List Nat
 F:Nat->p.den->r.den
structure Gd where
 H:World->Prop
 gl:Nat->Prop
 mono: ∀{u v:World},GK gl u v->H u->H v
 low: ∀{u:World} {b:Nat},H u->gl b->b<u.heap.size
inductive Xt where
 |Dl|f64from
def lU:Nat:=1000000
def qZ(T:Nat):Nat:=cnd (Nat.ble lU T) (Nat.sub T lU) T
def frO(o:Oper)(ct:Ct):Option Nat:=match o.guard with|none=>ct.fresh|some _=>none
structure Ctx where
 D:TypeId->Option TD
 xt:FuncId->Option Xt
 Γ:FuncId->Option Ct
 pg:FuncId->Option Cp
 zk:FuncId->Option Zc:=λ_=>none
 fv:Option Fv
 G:Gd
 gv:Nat->Option (Sigma λe:Ty=>List e.den)
 fz:Nat->List Nat
 bs:List Nat:= []
structure Eff where
 bQ:Option Prop
 dst:Option (Nat×TV)
 eT:List (Nat×Option Bx)
def applyB:List (Nat×Option Bx)->(Nat->Option Bx)->Nat->Option Bx
 | [],f=>f
 |(k,b)::r,f=>λj=>cnd (Nat.beq j k) b (applyB r f j)
def Eff.apply(tags:List (bS))(e:Eff)(st:ASt):ASt where
 slot:=match e.dst with
  |some (d,v)=>λt=>cnd (Nat.beq t d) (some ⟨tags,v⟩) (st.slot t)
  |none=>st.slot
 box:=applyB e.eT st.box
def zeroCells:Ty->List Cell
 | .int k=> [.int k 0]| .bool=> [.bool false]| .flt k=> [.flt k 0]| .str=> [.str ByteArray.empty]| .unit=> []| .fnt=> [.fn none]
 | .pair a b=>app (zeroCells a) (zeroCells b)| .sl e=> [.bh e .exact []]
def SV.cells:SV->List Cell
 | .one c=> [c]| .agg cs=>cs
def constCells:Ty->List Value->Option (List Cell)
 | .int k=>λvs=>match vs with| [.int k' n]=>cnd (oi k k') (some [.int k n]) none|_=>none
 | .bool=>λvs=>match vs with| [.bool b]=>some [.bool b]|_=>none
 | .flt k=>λvs=>match vs with| [.float k' n]=>cnd (tL k k') (some [.flt k n]) none|_=>none
 | .str=>λvs=>match vs with| [.string s]=>some [.str s]|_=>none
 | .sl e=>λvs=>match vs with| [.slice none 0 0]=>some [.bh e .exact []]|_=>none
 | .unit=>λvs=>match vs with| []=>some []|_=>none
 | .fnt=>λ_=>none
 | .pair a b=>λvs=>match constCells a (vs.take a.n),constCells b (vs.drop a.n)with
  |some x,some y=>some (app x y)
  |_,_=>none
def sub(xs:List (bS))(own:List (bS)):Bool:=dR (λx=>anyB (λy=>andd (Nat.beq x.1 y.1) (match x.2,y.2 with|true,true=>true|false,false=>true|_,_=>false)) own) xs
def constTV(ty:Option Ty):Value->Option SV
 | .int k n=>some (.one (.int k n))
 | .bool b=>some (.one (.bool b))
 | .float k n=>some (.one (.flt k n))
 | .string s=>some (.one (.str s))
 | .pointer none=>some (.one .FL)
 | .slice none 0 0=>match ty with|some (.sl e)=>some (.one (.bh e .exact []))|_=>none
 | .agg vs=>match ty with|some t=>(constCells t vs.toList).map .agg|none=>none
 |_=>none
def opnd(st:ASt)(own:List (bS))(ty:Option Ty):Operand->Option TV
 | .tmp t=>match st.slot t with
  |some g=>cnd (sub g.tags own) (some g.tv) none
  |none=>none
 | .const v=>(constTV ty v).map .v
 | .func f=>some (.v (.one (.fn (some f))))
 | .global _=>none
def opnd1(st:ASt)(own:List (bS))(ty:Option Ty)(x:Operand):Option SV:=
 match opnd st own ty x with|some (.v s)=>some s|_=>none
def opndc(st:ASt)(own:List (bS))(ty:Option Ty)(x:Operand):Option Cell:=
 match opnd st own ty x with|some (.v (.one c))=>some c|_=>none
def mkSV(agg:Bool)(cs:List Cell):Option SV:=
 cnd agg (some (.agg cs)) (match cs with| [c]=>some (.one c)|_=>none)
def mergeC(c:Bool):Cell->Cell->Option Cell
 | .int k a,.int k' b=>cnd (oi k k') (some (.int k (bif c then a else b))) none
 | .bool a,.bool b=>some (.bool (bif c then a else b))
 | .flt k a,.flt k' b=>cnd (tL k k') (some (.flt k (bif c then a else b))) none
 | .str a,.str b=>some (.str (bif c then a else b))
 | .fn a,.fn b=>some (.fn (bif c then a else b))
 | .bh e _ a,.bh f _ b=>match castL f e b with|some g=>some (.bh e .no (bif c then a else g))|none=>none
 |_,_=>none
def mergeL(c:Bool):List Cell->List Cell->Option (List Cell)
 | [],[]=>some []
 |x::xs,y::ys=>match mergeC c x y,mergeL c xs ys with|some z,some l=>some (z::l)|_,_=>none
 |_,_=>none
def putAt(e:Nat)(i:Int)(new:List Cell):Nat->Nat->List Cell->Option (List Cell)
 |0,_,[]=>some []
 |n+1,j,cs=>match mergeL (i==j) new (cs.take e),putAt e i new n (Nat.succ j) (cs.drop e)with|some z,some l=>some (app z l)|_,_=>none
 |_,_,_=>none
def len':List Cell->Nat
 | []=>0|_::r=>Nat.succ (len' r)
def intBin(a:BinOp)(k:IntKind)(x y:Int):Option (Option Prop×Cell):=
 match a with
 | .add=>some (none,.int k (k.wrap (x+y)))
 | .sub=>some (none,.int k (k.wrap (x-y)))
 | .mul=>some (none,.int k (k.wrap (x*y)))
 | .quo=>some (some (y≠0),.int k (k.wrap (x.tdiv y)))
 | .rem=>some (some (y≠0),.int k (x.tmod y))
 | .and=>some (none,.int k (k.wrap (BitVec.ofInt k.bits x&&&BitVec.ofInt k.bits y).toNat))
 | .or=>some (none,.int k (k.wrap (BitVec.ofInt k.bits x|||BitVec.ofInt k.bits y).toNat))
 | .xor=>some (none,.int k (k.wrap (BitVec.ofInt k.bits x^^^BitVec.ofInt k.bits y).toNat))
 | .andNot=>some (none,.int k (k.wrap (BitVec.ofInt k.bits x&&& ~~~BitVec.ofInt k.bits y).toNat))
 | .eql=>some (none,.bool (x==y))
 | .neq=>some (none,.bool (x !=y))
 | .lss=>some (none,.bool (decide (x<y)))
 | .leq=>some (none,.bool (decide (x<=y)))
 | .gtr=>some (none,.bool (decide (x>y)))
 | .geq=>some (none,.bool (decide (x>=y)))
 |_=>none
def fltBin(a:BinOp)(k:FloatKind)(x y:Nat):Option (Option Prop×Cell):=
 match a with
 | .eql=>some (none,.bool (k.format.order x y==some .eq))
 | .neq=>some (none,.bool (k.format.order x y !=some .eq))
 | .lss=>some (none,.bool (k.format.order x y==some .lt))
 | .leq=>some (none,.bool (k.format.order x y==some .lt||k.format.order x y==some .eq))
 | .gtr=>some (none,.bool (k.format.order x y==some .gt))
 | .geq=>some (none,.bool (k.format.order x y==some .gt||k.format.order x y==some .eq))
 | .add=>some (some ((k.format.add x y).isSome=true),.flt k ((k.format.add x y).getD 0))
 | .sub=>some (some ((k.format.sub x y).isSome=true),.flt k ((k.format.sub x y).getD 0))
 | .mul=>some (some ((k.format.mul x y).isSome=true),.flt k ((k.format.mul x y).getD 0))
 | .quo=>some (some ((k.format.div x y).isSome=true),.flt k ((k.format.div x y).getD 0))
 |_=>none
def jz(a b:ByteArray):Bool:=a.toList==b.toList
def dq(a b:ByteArray):ByteArray:=a++b
def bw(l:List Int):ByteArray:=l.foldl (λr n=>r.push (UInt8.ofNat n.toNat)) ByteArray.empty
def av(s:ByteArray):List Int:=s.data.toList.map λb=>b.toNat
def strBin(f:BinOp)(a b:ByteArray):Option (Option Prop×Cell):=
 match f with
 | .add=>some (some (a.size+(b.size:Int)<=9223372036854775807),.str (dq a b))
 | .eql=>some (none,.bool (jz a b))
 | .neq=>some (none,.bool (!jz a b))
 |_=>none
def eqTy:Ty->List Cell->List Cell->Option Bool
 | .int k=>λxs ys=>match xs,ys with| [.int f a],[.int g b]=>cnd (andd (oi k f) (oi k g)) (some (a==b)) none|_,_=>none
 | .bool=>λxs ys=>match xs,ys with| [.bool a],[.bool b]=>some (a==b)|_,_=>none
 | .pair a b=>λxs ys=>match eqTy a (xs.take a.n) (ys.take a.n),eqTy b (xs.drop a.n) (ys.drop a.n)with|some r,some s=>some (r&&s)|_,_=>none
 |_=>λ_ _=>none
def bin(C:Ctx)(op:BinOp)(t:TypeId)(x y:SV):Option (Option Prop×SV):=
 match x,y with
 | .one (.int k a),.one (.int k' b)=>match op with
  | .shl=>some (some (0<=b),.one (.int k (k.wrap (a*2^(min b.toNat k.bits)))))
  | .shr=>some (some (0<=b),.one (.int k (a.fdiv (2^(min b.toNat k.bits)))))
  |op=>cnd (oi k k') (match intBin op k a b with|some (p,c)=>some (p,.one c)|none=>none) none
 | .one (.flt k a),.one (.flt k' b)=>cnd (tL k k') (match fltBin op k a b with|some (p,c)=>some (p,.one c)|none=>none) none
 | .one (.str a),.one (.str b)=>match strBin op a b with|some (p,c)=>some (p,.one c)|none=>none
 | .one (.bh _ _ l),.one (.bh _ .exact [])=>match C.D t with
  |some d=>match d.kind,op with| .slice _,.eql=>some (none,.one (.nlb (l= [])))|_,_=>none
  |none=>none
 | .one (.bool a),.one (.bool b)=>match C.D t with
  |some d=>match d.agg,d.ty with
   |false,.bool=>match op with
    | .eql=>some (none,.one (.bool (a==b)))
    | .neq=>some (none,.one (.bool (a !=b)))
    |_=>none
   |_,_=>none
  |none=>none
 | .agg xs,.agg ys=>match C.D t with
  |some d=>cnd (andd d.eq (andd (Nat.beq (len' xs) d.ty.n) (Nat.beq (len' ys) d.ty.n))) (match op,eqTy d.ty xs ys with
   | .eql,some r=>some (none,.one (.bool r))
   | .neq,some r=>some (none,.one (.bool (!r)))
   |_,_=>none) none
  |none=>none
 |_,_=>none
def field?(C:Ctx)(s:TypeId)(f:Nat):Option (aR):=
 match C.D s with
 |some d=>match d.kind with| .struct fs=>fs[f]? |_=>none
 |none=>none
def mw(cs:List Cell)(off:Nat)(xs:List Cell):List Cell:=app (cs.take off) (app xs (cs.drop (Nat.add off (len' xs))))
def minC(a:Bool):Cell->Cell->Option Cell
 | .int k x,.int k' y=>cnd (oi k k') (some (.int k (cnd a (min x y) (max x y)))) none
 |_,_=>none
def decAll(t:Ty):Nat->List Cell->Option (List t.den)
 |0,[]=>some []
 |n+1,cs=>match dec t (cs.take t.n),decAll t n (cs.drop t.n)with|some x,some l=>some (x::l)|_,_=>none
 |_,_=>none
def repC(z:List Cell):Nat->List Cell
 |0=> []|n+1=>app z (repC z n)
def allSV(st:ASt)(own:List (bS))(a:List (Option Ty)):List Operand->Option (List SV)
 | []=>some []
 |x::xs=>match opnd1 st own (a.headD none) x,allSV st own a.tail xs with
  |some s,some l=>some (s::l)
  |_,_=>none
def shapes:List (Option Nat)->List SV->Option (List Cell)
 | [],[]=>some []
 |none::s,.one c::xs=>(shapes s xs).map λr=>c::r
 |some n::s,.agg cs::xs=>cnd (Nat.beq (len' cs) n) ((shapes s xs).map λr=>app cs r) none
 |_,_=>none
def unshape:List (Option Nat)->List Cell->Option (List SV)
 | [],[]=>some []
 |none::s,c::cs=>(unshape s cs).map λr=> .one c::r
 |some n::s,cs=>(unshape s (cs.drop n)).map λr=> .agg (cs.take n)::r
 |_,_=>none
def mkRes:ah->List Cell->Option TV
 | .none,_=>some (.tup [])
 | .one s,cs=>match unshape [s] cs with|some [x]=>some (.v x)|_=>none
 | .tup a,cs=>(unshape a cs).map .tup
def mem(t:Nat)(l:List Nat):Bool:=anyB (λy=>Nat.beq t y) l
def kf(C:Ctx)(t:TypeId):Option Ty:=(C.D t).map (·.ty)
def rdBox(st:ASt)(k:Nat):Option (List Cell):=
 match st.box k with|some (.cells cs)=>some cs|some (.ro cs)=>some cs|_=>none
def sr(C:Ctx)(t:TypeId):Option Ty:=match C.D t with|some d=>cnd d.agg none (some d.ty)|none=>none
def unvC(fr:Bool)(st:ASt):Cell->Option Cell
 | .bq e k=>match st.box k with
  |some (.vec _ _ a l)=>cnd fr none (match castL a e l with|some f=>some (.bh e .no f)|none=>none)
  |some (.kU a l)=>(match castL a e l with|some f=>some (.bh e .no f)|none=>none)
  |_=>none
 |c=>some c
def gh(fr:Bool)(st:ASt):List Cell->Option (List Cell)
 | []=>some []
 |c::r=>match unvC fr st c,gh fr st r with|some a,some f=>some (a::f)|_,_=>none
def unvS(fr:Bool)(st:ASt):SV->Option SV
 | .one c=>match unvC fr st c with|some a=>some (.one a)|none=>none
 | .agg cs=>match gh fr st cs with|some cs'=>some (.agg cs')|none=>none
def unvSs(fr:Bool)(st:ASt):List SV->Option (List SV)
 | []=>some []
 |x::r=>match unvS fr st x,unvSs fr st r with|some a,some f=>some (a::f)|_,_=>none
def vksL:List Cell->List Nat
 | []=> []| .bq _ k::r=>k::vksL r|_::r=>vksL r
def eg:List SV->List Nat
 | []=> []|x::r=>app (vksL x.cells) (eg r)
def allFz(st:ASt):List Nat->Bool
 | []=>true|k::r=>match st.box k with|some (.kU _ _)=>allFz st r|_=>false
def ej:Bool->Bool->Bool|true,_=>true|false,y=>y
def jZ{α:Type}:List α->Bool| []=>true|_::_=>false
def isSomeB{α:Type}:Option α->Bool|some _=>true|none=>false
def frCells(d:Nat):List Cell->List Cell
 | []=> []| .bh e _ _::r=> .bq e d::r|c::r=>c::frCells d r
def AG:List Cell->Option (Sigma λe:Ty=>List e.den)
 | []=>none| .bh e _ l::_=>some ⟨e,l⟩|_::r=>AG r
def mA:List Cell->Nat
 | []=>0| .bh _ _ _::r=>Nat.succ (mA r)|_::r=>mA r
def toFrz:Option Bx->Option Bx
 |some (.vec _ _ e l)=>some (.kU e l)|x=>x
def mH(k:Nat)(st:ASt):ASt:={ slot:=st.slot,box:=λu=>cnd (Nat.beq u k) (toFrz (st.box k)) (st.box u)}
def dQ:List Nat->ASt->ASt
 | [],st=>st|k::r,st=>dQ r (mH k st)
def apSrc(st:ASt)(el:Nat)(e:Ty):Cell->Option (List e.den×Option Nat×Bool)
 | .bq a k=>match st.box k with
  |some (.vec o T g l)=>match castL g e l with|some f=>cnd (andd (Nat.beq T el) (Nat.beq a.n g.n)) (some (f,some k,o)) none|none=>none
  |_=>none
 | .bh a .exact l=>match castL a e l with|some f=>some (f,none,jZ l)|none=>none
 |_=>none
def kE:Cell->Bool
 | .bh _ .exact l=>nott (jZ l)|_=>false
def apNew(st:ASt)(e:Ty):Cell->Option (List e.den)
 | .bq a k=>match unvC false st (.bq a k)with|some (.bh f _ l)=>castL f e l|_=>none
 | .bh a _ l=>castL a e l
 |_=>none
def strNew(a:TD)(e:Ty):Cell->Option (List e.den)
 | .str s=>match a.agg,a.ty with|false,.str=>castL (.int .u8) e (av s)|_,_=>none
 | .int _ n=>match a.agg,a.ty with|false,.int _=>some (List.replicate n.toNat e.dflt)|_,_=>none
 |_=>none
def amF(p:Prop):Cell->Prop
 | .int _ n=>0<=n/\p
 |_=>p
def killO:Option Nat->List (Nat×Option Bx)
 |some j=> [(j,some .tok)]|none=> []
def apT(k:Option Nat):Cell->Bool
 | .bq _ j=>match k with|some i=>nott (Nat.beq i j)|none=>true
 |_=>true
def encL(e:Ty)(q:List e.den):Nat->Nat->List Cell
 |_,0=> []|j,n+1=>app (enc e (nth e q j)) (encL e q (Nat.succ j) n)
def bc{α:Type}(l l2:List α):List α:=l2.take l.length++l.drop l2.length
def aJ(e:Ty)(l:List e.den)(i:Int)(x:e.den):List e.den:=l.set i.toNat x
def aC(e:Ty)(n:Int):List e.den:=List.replicate n.toNat e.dflt
def bM{α:Type}(l:List α)(lo hi:Int):List α:=(l.take hi.toNat).drop lo.toNat
def fillP(C:Ctx)(st:ASt)(own:List (bS))(a:Nat->Option (aR)):List (Nat×Operand)->List Cell->Option (List Cell)
 | [],cs=>some cs
 |(i,x)::r,cs=>match a i with
  |some (f,off)=>match C.D f,opnd1 st own (kf C f) x with
   |some g,some v=>cnd (andd (Nat.beq (len' v.cells) g.ty.n) (Nat.ble (Nat.add off g.ty.n) (len' cs))) (fillP C st own a r (mw cs off v.cells)) none
   |_,_=>none
  |none=>none
def outE(o:Oper)(p:Option Prop)(v:SV):Option Eff:=
 match o.dst with
 |some d=>some ⟨p,some (d,.v v),[]⟩
 |none=>none
def tt{α:Type}:List α->Nat| []=>0|_::r=>Nat.succ (tt r)
def optI(st:ASt)(own:List (bS)):Option Operand->Option Int
 |none=>some 0
 |some x=>match opndc st own none x with|some (.int _ n)=>some n|_=>none
def lS(st:ASt)(own:List (bS))(x:Option Operand)(n:Int):Option Int:=match x with
 |none=>some n
 |some x=>match opndc st own none x with|some (.int _ n)=>some n|_=>none
def aO(s:ByteArray)(n:Int):Int:=((s.data.getD n.toNat 0).toNat:Int)
def bytesTy(C:Ctx)(s:TypeId):Bool:=match C.D s with
 |some d=>match d.kind with
  | .slice el=>match sr C el with|some (.int .u8)=>true|_=>false
  |_=>false
 |none=>false
def xtOp(x:Xt)(c:Cell):Option Cell:=match x,c with
 | .Dl,.flt .f64 n=>some (.int .u64 n)
 | .f64from,.int .u64 n=>some (.flt .f64 n.toNat)
 |_,_=>none
def eV{α:Type}:List Bool->List α->List α
 |true::m,_::xs=>eV m xs|false::m,x::xs=>x::eV m xs|_,_=> []
def fj{α:Type}:List Bool->List α->List α
 |true::m,x::xs=>x::fj m xs|false::m,_::xs=>fj m xs|_,_=> []
def boxKs:List SV->Option (List Nat)
 | []=>some []
 | .one (.box k 0)::r=>(match boxKs r with|some ks=>some (k::ks)|none=>none)
 |_=>none
def zipN:List Nat->List Nat->List (aR)
 |k::ks,n::ns=>(k,n)::zipN ks ns|_,_=> []
def rdW(st:ASt):List (aR)->Option (List Cell)
 | []=>some []
 |(k,n)::r=>match st.box k,rdW st r with
  |some (.cells a),some cs=>cnd (Nat.beq (len' a) n) (some (app a cs)) none
  |_,_=>none
def kq(st:ASt):List (aR)->Option (List Cell)
 | []=>some []
 |(k,n)::r=>match rdBox st k,kq st r with
  |some a,some cs=>cnd (Nat.beq (len' a) n) (some (app a cs)) none
  |_,_=>none
def newBxs:List (aR)->List Cell->List (Nat×Option Bx)
 | [],_=> []|(k,n)::r,cs=>(k,some (.cells (cs.take n)))::newBxs r (cs.drop n)
def cI:List Nat->Nat
 | []=>0|n::r=>Nat.add n (cI r)
def eD(b:Bool):List Cell->List Cell
 | []=> []
 | .bh e tl l::r=> .bh e (match b with|true=> .exact|false=>tl) l::eD b r
 |c::r=>c::eD b r
def isEx:List Cell->Bool
 | []=>true| .bh _ .exact _::r=>isEx r| .bh _ _ _::_=>false| .bq _ _::_=>false|_::r=>isEx r
def EY:List SV->Bool
 | []=>true|x::r=>andd (isEx x.cells) (EY r)
def oM:List Nat->Bool
 | []=>true
 |x::r=>andd (nott (mem x r)) (oM r)
def eZ{α:Type}:List α->Nat| []=>0|_::r=>Nat.succ (eZ r)
def evPtr(st:ASt)(cp:Cp)(d:Nat)(a:List SV):Option Eff:=
 match boxKs (fj cp.mask a),unvSs false st (eV cp.mask a)with
 |some ks,some vs=>match cnd cp.ro (kq st (zipN ks cp.sz)) (rdW st (zipN ks cp.sz)),shapes cp.ax vs with
  |some f,some vc=>match gh true st f with
   |some g=>match dec cp.p (app vc g)with
    |some x=>match mkRes cp.ao (enc cp.r (cp.F x).1)with
     |some v=>cnd (andd (Nat.beq (eZ cp.mask) (eZ a)) (andd (Nat.beq (eZ ks) (eZ cp.sz)) (andd (oM ks) (andd (Nat.beq cp.q.n (cI cp.sz))
      (andd (ej (nott cp.ex) (andd (EY (eV cp.mask a)) (isEx f))) (ej (jZ (eg (eV cp.mask a))) (andd (nott cp.r.hasSl) (nott cp.q.hasSl))))))))
      (some ⟨(match cp.pre with|some q=>some (q x)|none=>none),some (d,v),cnd cp.ro [] (newBxs (zipN ks cp.sz) (enc cp.q (cp.F x).2))⟩) none
     |none=>none
    |none=>none
   |none=>none
  |_,_=>none
 |_,_=>none
def mq(st:ASt)(cp:Cp)(a:List SV):Option (Option Prop×Bool×List (Nat×Option Bx)):=
 match boxKs (fj cp.mask a),unvSs false st (eV cp.mask a)with
 |some ks,some vs=>match cnd cp.ro (kq st (zipN ks cp.sz)) (rdW st (zipN ks cp.sz)),shapes cp.ax vs with
  |some f,some vc=>match gh true st f with
   |some g=>match dec cp.p (app vc g)with
    |some x=>some ((match cp.pre with|some q=>some (q x)|none=>none),pnB cp x,cnd cp.ro [] (newBxs (zipN ks cp.sz) (enc cp.q (cp.F x).2)))
    |none=>none
   |none=>none
  |_,_=>none
 |_,_=>none
def E6:Option Prop->Prop->Prop
 |none,q=>q|some p,q=>p/\q
def evPtrN(st:ASt)(cp:Cp)(d:Nat)(a:List SV):Option Eff:=match evPtr st cp d a with
 |some e=>match cp.pn with
  |none=>some e
  |some _=>match mq st cp a with
   |some (_,b,_)=>some ⟨some (E6 e.bQ (b=false)),e.dst,e.eT⟩
   |none=>none
 |none=>none
def evMk(st:ASt)(cm:Cm)(d:Nat)(a:List SV):Option Eff:=
 match unvSs false st a,st.box d with
 |some xs,none=>match shapes cm.ax xs with
  |some cs=>match dec cm.p cs with
   |some x=>cnd (allFz st (eg a)) (match cm.nw with
    |true=>some ⟨some (E6 (match cm.pre with|some q=>some (q x)|none=>none) ((cm.F x).1.isSome=true)),some (d,.tup [.one (.box d 0),.one (.int .i64 0)]),[(d,some (.cells (enc cm.q ((cm.F x).1.getD cm.q.dflt))))]⟩
    |false=>some ⟨some (E6 (match cm.pre with|some q=>some (q x)|none=>none) ((cm.F x).1.isSome=false)),some (d,.tup [.one .FL,.one (.int .i64 (cm.F x).2)]),[]⟩) none
   |none=>none
  |none=>none
 |_,_=>none
def evPw(st:ASt)(a:Cw)(d:Nat)(g:List SV):Option Eff:=
 match g with
 | .one (.box k 0)::f=>match st.box k,unvSs false st f,st.box d with
  |some (.cells [c]),some xs,none=>match apSrc st a.el (.int .u8) c,shapes a.ax xs with
   |some (l,j,_),some cs=>match dec a.p cs with
    |some x=>cnd (andd (allFz st (eg f)) (nott (Nat.beq d k))) (some ⟨(match a.pre with|some q=>some (q x l)|none=>none),some (d,.tup []),(d,some (.vec false a.el (.int .u8) (a.F x l)))::(k,some (.cells [.bq (.int .u8) d]))::killO j⟩) none
    |none=>none
   |_,_=>none
  |_,_,_=>none
 |_=>none
def vnames:List (cT)->List Nat
 | []=> []|(_,k,_,_)::r=>k::vnames r
def nodup:List Nat->Bool
 | []=>true
 |x::r=>andd (nott (anyB (λy=>Nat.beq x y) r)) (nodup r)
def lookV:List (cT)->Nat->Option (hM)
 | [],_=>none
 |(p,k,o,T)::r,i=>cnd (Nat.beq i p) (some (k,o,T)) (lookV r i)
def vxC(vs:List (cT)):Nat->List Cell->List Cell
 |_,[]=> []
 |i,c::r=>(match lookV vs i with
  |some (k,_,_)=>match c with| .bh e _ _=> .bq e k|c=>c
  |none=>c)::vxC vs (Nat.succ i) r
def vxB(vs:List (cT)):Nat->List Cell->Nat->Option Bx
 |_,[],_=>none
 |i,c::r,u=>match lookV vs i with
  |some (k,o,T)=>match c with| .bh e _ l=>cnd (Nat.beq u k) (some (.vec o T e l)) (vxB vs (Nat.succ i) r u)|_=>vxB vs (Nat.succ i) r u
  |none=>vxB vs (Nat.succ i) r u
def unvX(
     st:ASt) (vs:List (cT)):Nat->List Cell->Option (List Cell)
 |_,[]=>some []
 |i,c::r=>match unvX st vs (Nat.succ i) r with
  |none=>none
  |some a=>match lookV vs i with
   |some (_,o,T)=>match c with
    | .bq e f=>match st.box f with
     |some (.vec g h j l)=>match castL j e l with|some k=>cnd (andd (Nat.beq T h) (ej (nott o) g)) (some (.bh e .no k::a)) none|none=>none
     |_=>none
    | .bh e .exact l=>cnd (ej (nott o) (jZ l)) (some (.bh e .no l::a)) none
    |_=>none
   |none=>match unvC true st c with|some m=>some (m::a)|none=>none
def keysX(vs:List (cT)):Nat->List Cell->List Nat
 |_,[]=> []
 |i,c::r=>match lookV vs i with
  |some _=>match c with| .bq _ a=>a::keysX vs (Nat.succ i) r|_=>keysX vs (Nat.succ i) r
  |none=>keysX vs (Nat.succ i) r
def nmV(b:Nat):List (hM)->List (cT)
 | []=> []|(p,o,T)::r=>(p,Nat.add b p,o,T)::nmV b r
def splitA:List Am->List SV->Option (List SV×List Nat)
 | [],[]=>some ([],[])
 | .v::m,x::xs=>match splitA m xs with|some (vs,ks)=>some (x::vs,ks)|none=>none
 | .p::m,.one (.box k 0)::xs=>match splitA m xs with|some (vs,ks)=>some (vs,k::ks)|none=>none
 | .c f n::m,.one (.clo g a)::xs=>match splitA m xs with|some (vs,ks)=>cnd (andd (Nat.beq f g) (Nat.beq (eZ a) n)) (some (vs,app a ks)) none|none=>none
 |_,_=>none
def oh(vs:List (cT)):Nat->List Cell->List (Nat×Option Bx)
 |_,[]=> []
 |i,c::r=>match lookV vs i with
  |some (k,o,T)=>(match c with| .bh e _ l=>(k,some (.vec o T e l))::oh vs (Nat.succ i) r|_=>oh vs (Nat.succ i) r)
  |none=>oh vs (Nat.succ i) r
def qu:List Nat->List (Nat×Option Bx)
 | []=> []|k::r=>(k,some .tok)::qu r
def noneL(st:ASt):List Nat->Bool
 | []=>true|k::r=>match st.box k with|none=>noneL st r|some _=>false
def qT(d:Nat):Nat:=Nat.add 200000 (Nat.mul 500 d)
def bn:Nat:=70000
def abv(cv:Cv)(d:Nat)(x:cv.p.den):List Cell:=vxC (nmV (qT d) cv.vo) 0 (enc (.pair cv.r cv.q) (cv.F x))
def slotsT:Ty->List (Option Ty)
 | .unit=> []| .pair a b=>app (slotsT a) (slotsT b)| .sl e=> [some e]|_=> [none]
def okO(vs:List (cT)):Nat->List (Option Ty)->Bool
 |_,[]=>true
 |i,none::r=>okO vs (Nat.succ i) r
 |i,some e::r=>match lookV vs i with|some (_,o,_)=>andd o (andd (nott e.hasSl) (okO vs (Nat.succ i) r))|none=>false
def mS(st:ASt)(fl:Bool)(vs:List (cT)):Nat->List Cell->Option (List Cell)
 |_,[]=>some []
 |i,c::r=>match mS st fl vs (Nat.succ i) r with
  |none=>none
  |some a=>match lookV vs i with
   |some _=>some (c::a)
   |none=>cnd fl (match unvC false st c with|some f=>some (f::a)|none=>none) (some (c::a))
def lW(vs:List (cT)):Nat->List Cell->List Nat
 |_,[]=> []
 |i,c::r=>match lookV vs i with
  |some _=>lW vs (Nat.succ i) r
  |none=>match c with| .bq _ k=>k::lW vs (Nat.succ i) r|_=>lW vs (Nat.succ i) r
def acJ(l r:List Nat):Bool:=nott (anyB (λx=>mem x r) l)
def MP(cv:Cv)(d:Nat):Bool:=okO (nmV (qT d) cv.vo) 0 (slotsT (.pair cv.r cv.q))
def frz1(k:Nat):List (Nat×Option Bx)->List (Nat×Option Bx)
 | []=> []|(u,b)::r=>(u,cnd (Nat.beq u k) (toFrz b) b)::frz1 k r
def FC:List Nat->List (Nat×Option Bx)->List (Nat×Option Bx)
 | [],l=>l|k::r,l=>FC r (frz1 k l)
def evPv(
      st:ASt) (cv:Cv) (d:Nat) (g:List SV):Option Eff:=
 match splitA cv.mask g with
 |none=>none
 |some (
      vs,ks)=>match shapes cv.ax vs,cnd cv.ro (kq st (zipN ks cv.sz)) (rdW st (zipN ks cv.sz))with
  |some vc,some f=>match mS st (MP cv d) (nmV bn cv.vi) 0 (app vc f)with
   |some a=>match unvX st (nmV bn cv.vi) 0 a with
    |some xc=>match dec cv.p xc with
     |some x=>match mkRes cv.ao ((abv cv d x).take cv.r.n)with
      |some v=>cnd (andd (Nat.beq (eZ ks) (eZ cv.sz)) (andd (oM ks) (andd (nodup (keysX (nmV bn cv.vi) 0 a)) (andd (nodup (vnames (nmV bn cv.vi))) (andd (nodup (vnames (nmV (qT d) cv.vo)))
       (andd (noneL st (vnames (nmV (qT d) cv.vo))) (andd (Nat.beq cv.q.n (cnd cv.ro 0 (cI cv.sz))) (acJ (cnd (MP cv d) (lW (nmV bn cv.vi) 0 (app vc f)) []) (keysX (nmV bn cv.vi) 0 a)))))))))
       (some ⟨(match cv.pre with|some q=>some (q x)|none=>none),some (d,v),FC (cnd cv.fz (vnames (nmV (qT d) cv.vo)) []) (app (cnd cv.ro [] (newBxs (zipN ks cv.sz) ((abv cv d x).drop cv.r.n)))
        (app (oh (nmV (qT d) cv.vo) 0 (enc (.pair cv.r cv.q) (cv.F x))) (qu (keysX (nmV bn cv.vi) 0 a))))⟩) none
      |none=>none
     |none=>none
    |none=>none
   |none=>none
  |_,_=>none
def evZ(st:ASt)(z:Zc)(d:Nat)(a:List SV):Option Eff:=match z with
 | .mk c=>evMk st c d a
 | .pw c=>evPw st c d a
 | .pv c=>evPv st c d a
def AF:List Nat->List SV
 | []=> []|k::r=> .one (.box k 0)::AF r
def evOp(
     C:Ctx) (own:List (bS)) (W:List Nat) (st:ASt) (o:Oper):Option Eff:=
 let m:=kf C o.type
 match o.op with
 | .move x=>match opnd st own m x,o.dst with|some v,some d=>some ⟨none,some (d,v),[]⟩|_,_=>none
 | .assign x=>match opnd st own m x,o.dst with|some v,some d=>some ⟨none,some (d,v),[]⟩|_,_=>none
 | .pick c a b=>match opndc st own none c,(match c with| .tmp t=>some t|_=>none)with
  |some (.bool cv),some ct=>match opndc st (cnd (mem ct W) ((ct,true)::own) own) m a,opndc st (cnd (mem ct W) ((ct,false)::own) own) m b with
   |some x,some y=>
    match a,b with
    | .const (.bool true),_=>match y with| .bool S=>outE o none (.one (.bool (cv||S)))|_=>none
    |_,.const (.bool false)=>match x with| .bool xb=>outE o none (.one (.bool (cv&&xb)))|_=>none
    |_,_=>match mergeC cv x y with|some z=>outE o none (.one z)|none=>none
   |_,_=>none
  |_,_=>none
 | .alloc t=>match C.D t,o.dst with
  |some d,some k=>match st.box k with
   |none=>some ⟨none,some (k,.v (.one (.box k 0))),[(k,some (.cells (zeroCells d.ty)))]⟩
   |some _=>none
  |_,_=>none
 | .box t x=>match opnd1 st own (kf C t) x,o.dst with
  |some v,some k=>match st.box k with
   |none=>some ⟨none,some (k,.v (.one (.box k 0))),[(k,some (.cells v.cells))]⟩
   |some _=>none
  |_,_=>none
 | .build t parts=>match C.D t with
  |some d=>match d.kind with
   | .struct fs=>match fillP C st own (λi=>fs[i]?) parts.toList (zeroCells d.ty)with|some cs=>outE o none (.agg cs)|none=>none
   | .array _ e=>match C.D e with
    |some h=>match fillP C st own (λi=>some (e,Nat.mul i h.ty.n)) parts.toList (zeroCells d.ty)with|some cs=>outE o none (.agg cs)|none=>none
    |none=>none
   |_=>none
  |none=>none
 | .buildSlice t len parts=>match C.D t with
  |some d=>
        match d.kind,d.ty with
   | .slice el,.sl e=>match fillP C st own (λi=>some (el,Nat.mul i e.n)) parts.toList (repC (zeroCells e) len)with
    |some cs=>match decAll e len cs,C.D el,o.dst with
     |some l,some h,some k=>cnd (mem k C.bs)
       (match st.box k with
        |none=>cnd (andd (Nat.beq h.ty.n e.n) (andd (Nat.ble (Nat.mul len e.n) 16777216) (Nat.ble 1 e.n))) (some ⟨none,some (k,.v (.one (.bq e k))),[(k,some (.vec true el e l))]⟩) none
        |some _=>none)
       (cnd (andd (Nat.beq h.ty.n e.n) (andd (Nat.ble (Nat.mul len e.n) 16777216) (Nat.ble 1 (Nat.mul len e.n)))) (outE o none (.one (.bh e .exact l))) none)
     |_,_,_=>none
    |none=>none
   |_,_=>none
  |none=>none
 | .load t a=>match opndc st own none a,C.D t with
  |some (.box k off),some d=>match rdBox st k with
   |some cs=>match mkSV d.agg ((cs.drop off).take d.ty.n)with|some v=>cnd (Nat.ble (Nat.add off d.ty.n) (len' cs)) (outE o none v) none|none=>none
   |none=>none
  |some (.elem e l i off),some d=>match mkSV d.agg (((enc e (nth e l i)).drop off).take d.ty.n)with
   |some v=>cnd (Nat.ble (Nat.add off d.ty.n) e.n) (outE o none v) none
   |none=>none
  |some (.aelem k off e len i),some d=>match rdBox st k with
   |some cs=>match decAll e len ((cs.drop off).take (Nat.mul len e.n))with
    |some l=>match mkSV d.agg (enc e (nth e l i))with
     |some v=>cnd (andd (Nat.beq d.ty.n e.n) (Nat.ble (Nat.add off (Nat.mul len e.n)) (len' cs))) (outE o none v) none
     |none=>none
    |none=>none
   |none=>none
  |some (.velem M k i off),some d=>match st.box k with
   |some (.vec true _ e l)=>match mkSV d.agg (((enc e (nth e l i)).drop off).take d.ty.n)with
    |some v=>cnd (andd (Nat.beq M.n e.n) (Nat.ble (Nat.add off d.ty.n) e.n)) (outE o none v) none
    |none=>none
   |_=>none
  |_,_=>none
 | .store t a x=>match(match o.dst with|some _=>none|none=>opndc st own none a),C.D t,opnd1 st own (kf C t) x with
  |some (.box k off),some d,some v=>match st.box k with
   |some (.cells cs)=>cnd (andd (Nat.beq (len' v.cells) d.ty.n) (Nat.ble (Nat.add off d.ty.n) (len' cs))) (some ⟨none,none,[(k,some (.cells (mw cs off v.cells)))]⟩) none
   |_=>none
  |some (.aelem k off e len i),some d,some v=>match st.box k with
   |some (.cells cs)=>match putAt e.n i v.cells len 0 ((cs.drop off).take (Nat.mul len e.n))with
    |some xs=>cnd (andd (Nat.beq d.ty.n e.n) (andd (Nat.beq (len' v.cells) d.ty.n) (andd (Nat.beq (len' xs) (Nat.mul len e.n)) (Nat.ble (Nat.add off (Nat.mul len e.n)) (len' cs))))) (some ⟨none,none,[(k,some (.cells (mw cs off xs)))]⟩) none
    |none=>none
   |_=>none
  |some (.velem M k i off),some d,some v=>match st.box k with
   |some (.vec true T e l)=>match dec e (mw (enc e (nth e l i)) off v.cells)with
    |some x=>cnd (andd (Nat.beq M.n e.n) (andd (Nat.beq (len' v.cells) d.ty.n) (Nat.ble (Nat.add off d.ty.n) e.n))) (some ⟨none,none,[(k,some (.vec true T e (aJ e l i x)))]⟩) none
    |none=>none
   |_=>none
  |_,_,_=>none
 | .nilCheck x=>match opndc st own none x with
  |some (.box k off)=>outE o none (.one (.box k off))
  |some (.elem e l i off)=>outE o none (.one (.elem e l i off))
  |some (.velem e k i off)=>outE o none (.one (.velem e k i off))
  |some (.aelem k off e len i)=>outE o none (.one (.aelem k off e len i))
  |some (.fn (some f))=>outE o none (.one (.fn (some f)))
  |some (.clo f ks)=>outE o none (.one (.clo f ks))
  |_=>none
 | .binOp P t x y U=>match opnd1 st own (kf C t) x,opnd1 st own (kf C U) y with
  |some a,some b=>match bin C P t a b with|some (p,v)=>outE o p v|none=>none
  |_,_=>none
 | .unOp P t x=>match P,opndc st own (kf C t) x with
  | .not,some (.bool b)=>outE o none (.one (.bool (!b)))
  | .neg,some (.int k n)=>outE o none (.one (.int k (k.wrap (0-n))))
  |_,_=>none
 | .convert s d x=>match sr C s,sr C d,opndc st own (kf C s) x with
  |some (.int _),some (.int k),some (.int _ n)=>outE o none (.one (.int k (k.wrap n)))
  |some (.int _),some (.flt k),some (.int _ n)=>outE o none (.one (.flt k (k.nearest n)))
  |some (.sl _),some .str,some c=>match bytesTy C s,apNew st (.int .u8) c with
   |true,some l=>outE o none (.one (.str (bw l)))
   |_,_=>none
  |some .str,some (.sl e),some (.str s)=>match C.D d,o.dst with
   |some dd,some k=>match dd.kind,st.box k,bytesTy C d,castL (.int .u8) e (av s)with
    | .slice el,none,true,some l=>some ⟨some ((s.size:Int)<=9223372036854775807),some (k,.v (.one (.bq e k))),[(k,some (.vec true el e l))]⟩
    |_,_,_,_=>none
   |_,_=>none
  |_,_,_=>none
 | .fieldAddr s x f=>match opndc st own none x,field? C s f with
  |some (.box k off),some w=>match C.D w.1 with|some d=>cnd (Nat.ble 1 d.ty.n) (outE o none (.one (.box k (Nat.add off w.2)))) none|none=>none
  |some (.elem e l i off),some w=>match C.D w.1 with|some d=>cnd (Nat.ble 1 d.ty.n) (outE o none (.one (.elem e l i (Nat.add off w.2)))) none|none=>none
  |some (.velem e k i off),some w=>match C.D w.1 with|some d=>cnd (Nat.ble 1 d.ty.n) (outE o none (.one (.velem e k i (Nat.add off w.2)))) none|none=>none
  |_,_=>none
 | .field s x f=>match opnd1 st own none x,field? C s f with
  |some (.agg cs),some w=>match C.D w.1 with
   |some d=>match mkSV d.agg ((cs.drop w.2).take d.ty.n)with
    |some v=>cnd (Nat.ble (Nat.add w.2 d.ty.n) (len' cs)) (outE o none v) none
    |none=>none
   |none=>none
  |_,_=>none
 | .indexAddr t (.global g) i=>match C.D t,C.gv g,opndc st own none i with
  |some d,some ⟨e,l⟩,some (.int _ n)=>match d.kind with
   | .array len el=>match C.D el with
    |some h=>cnd (andd (Nat.beq e.n h.ty.n) (Nat.beq (tt l) len)) (outE o (some (0<=n/\n<len)) (.one (.elem e l n 0))) none
    |none=>none
   |_=>none
  |_,_,_=>none
 | .indexAddr t x i=>match C.D t,opndc st own none x,opndc st own none i with
  |some d,some (.bh e _ l),some (.int _ n)=>match d.kind,d.ty with
   | .slice _,.sl I=>cnd (Nat.beq e.n I.n) (outE o (some (0<=n/\n<l.length)) (.one (.elem e l n 0))) none
   |_,_=>none
  |some d,some (.box k off),some (.int _ n)=>match d.kind,i with
   | .array len e,.const (.int _ (.ofNat Q))=>match C.D e with
    |some h=>cnd (Nat.ble (Nat.add Q 1) len) (outE o none (.one (.box k (Nat.add off (Nat.mul Q h.ty.n))))) none
    |none=>none
   | .array len e,_=>match C.D e with
    |some h=>cnd (Nat.ble 1 h.ty.n) (outE o (some (0<=n/\n<len)) (.one (.aelem k off h.ty len n))) none
    |none=>none
   |_,_=>none
  |some d,some (.bq e k),some (.int _ n)=>match d.kind,d.ty,st.box k with
   | .slice _,.sl I,some (.vec true _ J l)=>cnd (andd (Nat.beq e.n I.n) (Nat.beq J.n e.n)) (outE o (some (0<=n/\n<l.length)) (.one (.velem e k n 0))) none
   | .slice _,.sl I,some (.kU J l)=>cnd (andd (Nat.beq e.n I.n) (Nat.beq J.n e.n)) (outE o (some (0<=n/\n<l.length)) (.one (.elem J l n 0))) none
   |_,_,_=>none
  |_,_,_=>none
 | .makeSlice t x y=>match C.D t,o.dst,opndc st own none x,opndc st own none y with
  |some d,some k,some (.int _ n),some (.int _ c)=>match d.kind,d.ty,st.box k with
   | .slice el,.sl e,none=>match C.D el with
    |some h=>cnd (andd (Nat.ble 1 e.n) (Nat.beq h.ty.n e.n)) (some ⟨some (0<=n/\n=c/\c*h.bytes<=140737488355328/\c<=4611686018427387903),some (k,.v (.one (.bq e k))),[(k,some (.vec true el e (aC e n)))]⟩) none
    |none=>none
   |_,_,_=>none
  |_,_,_,_=>none
 | .slice t x lo hi V=>match C.D t,opndc st own none x,optI st own lo,V with
  |some d,some c,some l0,none=>match d.kind,d.ty,c with
   | .slice _,.sl I,.bh e _ l=>match lS st own hi l.length with
    |some h0=>cnd (Nat.beq e.n I.n) (outE o (some (0<=l0/\l0<=h0/\h0<=l.length)) (.one (.bh e .no (bM l l0 h0)))) none
    |none=>none
   | .slice _,.sl I,.bq e k=>match st.box k with
    |some (.kU J l)=>match lS st own hi l.length with
     |some h0=>cnd (andd (Nat.beq e.n I.n) (Nat.beq J.n e.n)) (outE o (some (0<=l0/\l0<=h0/\h0<=l.length)) (.one (.bh J .no (bM l l0 h0)))) none
     |none=>none
    |some (.vec N T J l)=>match lo,hi,lS st own hi l.length,o.dst with
     |none,some _,some h0,some O=>match st.box O with
      |none=>cnd (andd N (andd (Nat.ble 1 e.n) (andd (Nat.beq e.n I.n) (Nat.beq J.n e.n)))) (some ⟨some (0<=h0/\h0<=l.length),some (O,.v (.one (.bq e O))),(O,some (.vec true T J (l.take h0.toNat)))::killO (some k)⟩) none
      |some _=>none
     |_,_,_,_=>none
    |_=>none
   | .array len el,_,.box k off=>match lo,hi,C.D el with
    |none,none,some h=>outE o none (.one (.arrs k off h.ty len))
    |_,_,_=>none
   | .ed,.str,.str s=>match d.agg,lS st own hi s.size with
    |false,some h0=>outE o (some (0<=l0/\l0<=h0/\h0<=s.size)) (.one (.str (s.extract l0.toNat h0.toNat)))
    |_,_=>none
   |_,_,_=>none
  |_,_,_,_=>none
 | .index t x i=>match C.D t,opnd1 st own none x,opndc st own none i with
  |some d,some (.one (.str s)),some (.int _ n)=>match d.kind,d.agg,d.ty with
   | .ed,false,.str=>outE o (some (0<=n/\n<s.size)) (.one (.int .u8 (aO s n)))
   |_,_,_=>none
  |some d,some (.agg cs),some (.int _ n)=>match d.kind with
   | .array len e=>match C.D e with
    |some h=>match decAll h.ty len cs with
     |some l=>match mkSV h.agg (enc h.ty (nth h.ty l n))with
      |some v=>outE o (some (0<=n/\n<len)) v
      |none=>none
     |none=>none
    |none=>none
   |_=>none
  |_,_,_=>none
 | .makeFunc (.func f) first Y=>match first.toList,allSV st own [] Y.toList with
  | [],some xs=>match boxKs xs with
   |some ks=>outE o none (.one (.clo f ks))
   |none=>none
  |_,_=>none
 | .extract x i=>match opnd st own none x with
  |some (.tup xs)=>match xs[i]? with|some v=>outE o none v|none=>none
  |_=>none
 | .call c=>match c.callee with
  | .value (
       .func f)=>match C.xt f with
   |some xt=>match c.args.toList with
    | [x]=>match opndc st own none x with
     |some A=>match xtOp xt A with|some r=>outE o none (.one r)|none=>none
     |none=>none
    |_=>none
   |none=>match C.zk f with
   |some z=>match o.dst,allSV st own (c.argTypes.toList.map λt=>kf C t) c.args.toList with
    |some d,some u=>evZ st z d u
    |_,_=>none
   |none=>match C.pg f with
   |some cp=>match o.dst,allSV st own (c.argTypes.toList.map λt=>kf C t) c.args.toList with
    |some d,some u=>evPtrN st cp d u
    |_,_=>none
   |none=>match C.Γ f,o.dst with
   |some ct,some d=>match allSV st own (c.argTypes.toList.map λt=>kf C t) c.args.toList with
    |some u=>
          match unvSs false st u with
     |some xs=>match shapes ct.ax xs with
      |some cs=>match dec ct.p cs with
       |some x=>match frO o ct with
        |none=>match mkRes ct.ao (enc ct.r (ct.F x))with
         |some v=>cnd (ej (allFz st (eg u)) (nott ct.r.hasSl)) (some ⟨(match ct.pre with|some q=>some (q x)|none=>none),some (d,v),[]⟩) none
         |none=>none
        |some T=>match AG (enc ct.r (ct.F x)),mkRes ct.ao (frCells d (enc ct.r (ct.F x))),st.box d with
         |some ⟨e,l⟩,some v,none=>cnd (andd (nott e.hasSl) (andd (Nat.ble 1 e.n) (Nat.beq (mA (enc ct.r (ct.F x))) 1)))
          (cnd (Nat.ble lU T)
           (cnd (allFz st (eg u)) (some ⟨(match ct.pre with|some q=>some (q x)|none=>none),some (d,v),[(d,some (.vec false (qZ T) e l))]⟩) none)
           (some ⟨(match ct.pre with|some q=>some (q x)|none=>none),some (d,v),[(d,some (.vec true T e l))]⟩)) none
         |_,_,_=>none
       |none=>none
      |none=>none
     |none=>none
    |none=>none
   |_,_=>none
  | .value (
       .tmp t)=>match opndc st own none (.tmp t),o.dst,allSV st own (c.argTypes.toList.map λt=>kf C t) c.args.toList with
   |some (
       .fn f),some d,some u=>match C.fv,unvSs false st u with
    |some cv,some xs=>match shapes cv.ax xs with
     |some cs=>match dec cv.p cs with
      |some x=>match mkRes cv.ao (enc cv.r (cv.F (f.getD 0) x))with
       |some v=>cnd (ej (jZ (eg u)) (nott cv.r.hasSl)) (some ⟨some (∃g,f=some g/\g∈cv.fs),some (d,v),[]⟩) none
       |none=>none
      |none=>none
     |none=>none
    |_,_=>none
   |some (.clo f ks),some d,some u=>match C.zk f with
    |some z=>evZ st z d (app u (AF ks))
    |none=>match C.pg f with
     |some cp=>evPtrN st cp d (app u (AF ks))
     |none=>none
   |_,_,_=>none
  | .builtin .append=>match c.args.toList,c.argTypes.toList,o.dst with
   | [s,x],[ts,tx],some k=>match C.D ts,C.D tx,st.box k,opndc st own none s,opndc st own none x with
    |some d,some L,none,some cs,some A=>match d.kind,d.ty,L.kind with
     | .slice el,.sl e,.slice _=>match C.D el,apSrc st el e cs,apNew st e A with
      |some h,some (l1,j,N),some l2=>cnd (andd (Nat.beq ts tx) (andd (apT j A) (andd (Nat.ble 1 e.n) (Nat.beq h.ty.n e.n))))
        (some ⟨some ((l1.length+l2.length)*h.bytes<=140737488355328/\l1.length+l2.length<=4611686018427387903),some (k,.v (.one (.bq e k))),
         (k,some (.vec (ej (kE A) N) el e (l1++l2)))::killO j⟩) none
      |_,_,_=>none
     | .slice el,.sl e,.ed=>match C.D el,apSrc st el e cs,strNew L e A with
      |some h,some (l1,j,N),some l2=>cnd (andd (Nat.ble 1 e.n) (Nat.beq h.ty.n e.n))
        (some ⟨some (amF ((l1.length+l2.length)*h.bytes<=140737488355328/\l1.length+l2.length<=4611686018427387903) A),some (k,.v (.one (.bq e k))),
         (k,some (.vec (ej (kE A) N) el e (l1++l2)))::killO j⟩) none
      |_,_,_=>none
     |_,_,_=>none
    |_,_,_,_,_=>none
   |_,_,_=>none
  | .builtin .copy=>match c.args.toList,c.argTypes.toList,o.dst with
   | [s,x],[ts,tx],some k=>match C.D ts,C.D tx,opndc st own none s,opndc st own none x with
    |some d,some L,some (.bq M j),some A=>match d.kind,L.kind,st.box j with
     | .slice el,.slice _,some (.vec true T e l)=>match C.D el,apNew st e A with
      |some h,some l2=>cnd (andd (Nat.ble 1 e.n) (andd (Nat.beq h.ty.n e.n) (Nat.beq M.n e.n)))
        (some ⟨none,some (k,.v (.one (.int .i64 (min l2.length l.length)))),[(j,some (.vec true T e (bc l l2)))]⟩) none
      |_,_=>none
     |_,_,_=>none
    |some d,some L,some (.arrs j off e len),some A=>match d.kind,L.kind,st.box j with
     | .slice el,.slice _,some (.cells cs)=>match C.D el,apNew st e A,decAll e len ((cs.drop off).take (Nat.mul len e.n))with
      |some h,some l2,some l=>cnd (andd (Nat.ble 1 e.n) (andd (Nat.beq h.ty.n e.n) (Nat.ble (Nat.add off (Nat.mul len e.n)) (len' cs))))
        (some ⟨none,some (k,.v (.one (.int .i64 (min l2.length len)))),[(j,some (.cells (mw cs off (encL e (bc l l2) 0 len))))]⟩) none
      |_,_,_=>none
     |_,_,_=>none
    |_,_,_,_=>none
   |_,_,_=>none
  | .builtin .len=>match c.args.toList,c.argTypes.toList with
   | [x],ty::_=>match C.D ty with
    |some d=>match d.kind,d.agg,d.ty,opndc st own (some d.ty) x with
     | .slice _,_,_,some (.bh _ _ l)=>outE o none (.one (.int .i64 l.length))
     | .slice _,_,_,some (.bq _ k)=>match st.box k with
      |some (.vec _ _ _ l)=>outE o none (.one (.int .i64 l.length))
      |some (.kU _ l)=>outE o none (.one (.int .i64 l.length))
      |_=>none
     | .ed,false,.str,some (.str s)=>outE o none (.one (.int .i64 s.size))
     |_,_,_,_=>none
    |none=>none
   |_,_=>none
  | .builtin .min=>match c.args.toList with
   | [x,y]=>match opndc st own m x,opndc st own m y with
    |some a,some b=>match minC true a b with|some r=>outE o none (.one r)|none=>none
    |_,_=>none
   | [x,y,z]=>match opndc st own m x,opndc st own m y,opndc st own m z with
    |some a,some b,some d=>match minC true a b with
     |some q=>match minC true q d with|some r=>outE o none (.one r)|none=>none
     |none=>none
    |_,_,_=>none
   |_=>none
  | .builtin .max=>match c.args.toList with
   | [x,y]=>match opndc st own m x,opndc st own m y with
    |some a,some b=>match minC false a b with|some r=>outE o none (.one r)|none=>none
    |_,_=>none
   | [x,y,z]=>match opndc st own m x,opndc st own m y,opndc st own m z with
    |some a,some b,some d=>match minC false a b with
     |some q=>match minC false q d with|some r=>outE o none (.one r)|none=>none
     |none=>none
    |_,_,_=>none
   |_=>none
  |_=>none
 |_=>none
def ownOf(a:List Oper)(W:List Nat)(st:ASt)(o:Oper):Option (List (bS)):=
 match o.guard with
 |none=>some []
 |some (j,b)=>match(a[j]?).bind (·.dst)with
  |some d=>match st.slot d with
   |some ⟨f,.v (.one (.bool _))⟩=>cnd (mem d W) (some ((d,b)::f)) none
   |_=>none
  |none=>none
def under(st:ASt):List (bS)->Prop->Prop
 | [],p=>p
 |(d,b)::r,p=>under st r (match st.slot d with|some ⟨_,.v (.one (.bool c))⟩=>(c=b->p)|_=>p)
def me(o:Oper):Bool:=match o.guard with|none=>false|some _=>true
inductive Tr (ρ₀ ρ:Type) where
 |ret (r:ρ)|ite (c:Bool) (t e:Tr ρ₀ ρ)|bQ (p:Prop) (t:Tr ρ₀ ρ)|opt (o:Option ρ₀) (t:Tr ρ₀ ρ)|alt (p:Prop) (a b:Tr ρ₀ ρ)|bad
structure ER where
 own:List (bS)
 bQ:Option Prop
 il:Eff
def underO(st:ASt)(own:List (bS))(p:Option Prop):Option Prop:=
 match p with|some p=>some (under st own p)|none=>none
def nI(d:Option Nat)(W:List Nat):List Nat:=match d with|some d=>d::W|none=>W
def dstOk:Option (Nat×TV)->Option Nat->Bool
 |some (d,_),some a=>Nat.beq d a|none,none=>true|_,_=>false
def Ac(b c:Bool):Bool:=match b with|true=>c|false=> !c
def condOf(st:ASt):List (bS)->Option Bool
 | []=>some true
 |(d,b)::r=>match st.slot d,condOf st r with
  |some ⟨_,.v (.one (.bool c))⟩,some q=>some (match r with| []=>Ac b c|_::_=>Ac b c&&q)
  |_,_=>none
def mergeBxs(c:Bool)(st:ASt):List (Nat×Option Bx)->Option (List (Nat×Option Bx))
 | []=>some []
 |(k,some (.cells new))::r=>match st.box k,mergeBxs c st r with
  |some (.cells aN),some l=>match mergeL c new aN with|some z=>some ((k,some (.cells z))::l)|none=>none
  |_,_=>none
 |_::_=>none
def gEff(st:ASt)(own:List (bS))(o:Oper)(e:Eff):Option Eff:=
 match me o,e.eT with
 |true,x::r=>match condOf st own with
  |some c=>match mergeBxs c st (x::r)with|some l=>some ⟨e.bQ,e.dst,l⟩|none=>none
  |none=>none
 |_,_=>some e
def evList(C:Ctx)(a:List Oper):List Oper->List Nat->ASt->Option (List ER)
 | [],_,_=>some []
 |o::r,W,st=>match ownOf a W st o with
  |some own=>match evOp C own W st o with
   |some f=>match gEff st own o f with
    |some e=>cnd (dstOk e.dst o.dst)
     (match evList C a r (nI o.dst W) (e.apply own st)with
     |some l=>some (⟨own,underO st own e.bQ,e⟩::l)
     |none=>none) none
    |none=>none
   |none=>none
  |none=>none
def tb(A i:Nat):Bool:=Nat.beq (Nat.land (Nat.shiftRight A i) 1) 1
def Ej(e:Edge):Bool:=match e.ground with| .textOnly _=>false| .gcOnly _=>false|_=>true
def ancOf(k:Nat)(acc:List Nat):List Edge->Option Nat
 | []=>some 0
 |e::r=>match ancOf k acc r with
  |some A=>cnd (Ej e) (cnd (Nat.ble (Nat.succ e.on) k) (some (Nat.lor A (Nat.lor (Nat.shiftLeft 1 e.on) (acc.getD e.on 0)))) none) (some A)
  |none=>none
def ancAll:List Oper->Nat->List Nat->Option (List Nat)
 | [],_,acc=>some acc
 |o::r,k,acc=>match ancOf k acc o.after.toList with|some A=>ancAll r (Nat.succ k) (app acc [A])|none=>none
def wrOf:List Oper->Nat->Nat->Option Nat
 | [],_,_=>none
 |o::r,k,t=>match o.dst with
  |some d=>cnd (Nat.beq d t) (some k) (wrOf r (Nat.succ k) t)
  |none=>wrOf r (Nat.succ k) t
def zz(f:List Oper)(a:List Nat)(k t:Nat):Bool:=match wrOf f 0 t with
 |none=>true
 |some i=>ej (tb (a.getD k 0) i) (ej (Nat.beq i k) (tb (a.getD i 0) k))
def DL(C:Ctx)(t:TypeId):Bool:=match C.D t with|some d=>d.ty.hasSl|none=>false
def nq(C:Ctx)(o:Oper):Bool:=match o.op with
 | .load _ _=>true| .store _ _ _=>true| .buildSlice _ _ _=>true| .alloc _=>true| .box _ _=>true| .makeSlice _ _ _=>true| .slice _ _ _ _ _=>true| .indexAddr _ _ _=>true
 | .convert s d _=>ej (DL C s) (DL C d)
 | .call c=>match c.callee with| .builtin .min=>false| .builtin .max=>false| .builtin _=>true| .value (.func f)=>ej (isSomeB (C.zk f)) (ej (isSomeB (C.pg f)) (ej (DL C o.type) (anyB (DL C) c.argTypes.toList)))|_=>true
 |_=>false
def qf(o:Oper):Bool:=match o.op with
 | .store _ _ _=>true| .slice _ _ _ _ _=>true
 | .call c=>match c.callee with| .builtin .append=>true| .builtin .copy=>true| .value _=>true|_=>false
 |_=>false
def sJ(a:List Oper)(g:List Nat)(k:Nat)(h:Bool)(mk:List Nat)(f:ASt):ASt where
 slot:=λt=>cnd (zz a g k t) (f.slot t) none
 box:=λb=>cnd (andd h (andd (zz a g k b) (nott (mem b mk)))) (f.box b) (some .tok)
def applyM(u:Nat->Bool):Nat->List ER->ASt->ASt
 |_,[],st=>st
 |k,e::r,st=>applyM u (Nat.succ k) r (cnd (u k) (e.il.apply e.own st) st)
def dstsM(u:Nat->Bool):Nat->List Oper->List Nat
 |_,[]=> []
 |k,o::r=>match o.dst with|some d=>cnd (u k) (d::dstsM u (Nat.succ k) r) (dstsM u (Nat.succ k) r)|none=>dstsM u (Nat.succ k) r
def noBx(e:Eff):Bool:=match e.eT with| []=>true|_=>false
def JT(C:Ctx)(o:Oper)(e:Eff):Bool:=ej (noBx e) (andd (nq C o) (ej (qf o) (dR (λx=>match o.dst with|some d=>Nat.beq x.1 d|none=>false) e.eT)))
def zZ:List (Nat×Option Bx)->List Nat
 | []=> []|(k,_)::r=>k::zZ r
def sP(e:Eff):List Nat:=zZ e.eT
def MO:List Nat->List Nat->Bool
 | [],_=>true|x::r,l=>andd (mem x l) (MO r l)
def LU:List Nat->List Nat->Bool
 | [],_=>true|x::r,l=>andd (nott (mem x l)) (LU r l)
def vY(a:List Nat)(j k:Nat):Bool:=andd (nott (Nat.beq j k)) (andd (nott (tb (a.getD k 0) j)) (nott (tb (a.getD j 0) k)))
def BT(C:Ctx)(a:List Nat)(M:List (List Nat))(j:Nat)(ks:List Nat):Nat->List Oper->List ER->Bool
 |k,p::r,e::l=>andd (cnd (vY a j k) (andd (ej (nott (nq C p)) (MO ks (M.getD k []))) (LU ks (sP e.il))) true) (BT C a M j ks (Nat.succ k) r l)
 |_,_,_=>true
def oA(C:Ctx)(a:List Nat)(M:List (List Nat))(f:List Oper)(l:List ER):Nat->List Oper->List ER->Bool
 |j,o::r,e::q=>andd (cnd (qf o) (BT C a M j (sP e.il) 0 f l) true) (oA C a M f l (Nat.succ j) r q)
 |_,_,_=>true
def SS(a:List Nat)(k:Nat):Nat->List Oper->List ER->List Nat
 |j,o::r,e::l=>app (cnd (andd (qf o) (vY a j k)) (sP e.il) []) (SS a k (Nat.succ j) r l)
 |_,_,_=> []
def Md(a:List Nat)(f:List Oper)(l:List ER):Nat->List Oper->List (List Nat)
 |_,[]=> []|k,_::r=>SS a k 0 f l::Md a f l (Nat.succ k) r
def evDr(
    C:Ctx) (f:List Oper) (a:List Nat) (M:List (List Nat)) (g:ASt):List Oper->Nat->List ER->Option (List ER)
 | [],_,acc=>some acc
 |o::r,k,acc=>match ownOf f (dstsM (tb (a.getD k 0)) 0 f) (sJ f a k (nq C o) (M.getD k []) (applyM (tb (a.getD k 0)) 0 acc g)) o with
  |some own=>match evOp C own (dstsM (tb (a.getD k 0)) 0 f) (sJ f a k (nq C o) (M.getD k []) (applyM (tb (a.getD k 0)) 0 acc g)) o with
   |some e=>cnd (andd (dstOk e.dst o.dst) (andd (JT C o e) (nott (andd (me o) (match e.eT with| []=>false|_=>true)))))
    (evDr C f a M g r (Nat.succ k) (app acc [⟨own,underO (sJ f a k (nq C o) (M.getD k []) (applyM (tb (a.getD k 0)) 0 acc g)) own e.bQ,e⟩])) none
   |none=>none
  |none=>none
def IN(C:Ctx)(a:List Oper)(f:List Nat)(st:ASt):Option (List ER):=
 match evDr C a f [] st a 0 []with
 |some l=>cnd (oA C f [] a l 0 a l) (some l) (match evDr C a f (Md f a l 0 a) st a 0 []with
  |some g=>cnd (oA C f (Md f a l 0 a) a g 0 a g) (some g) none
  |none=>none)
 |none=>none
def Ab(C:Ctx)(d:Bool)(a:List Oper)(st:ASt):Option (List ER):=
 cnd d (match ancAll a 0 []with|some f=>IN C a f st|none=>none) (evList C a a [] st)
def applyAll:List ER->ASt->ASt
 | [],st=>st
 |e::r,st=>applyAll r (e.il.apply e.own st)
def needs{a ρ:Type}:List ER->Tr a ρ->Tr a ρ
 | [],t=>t
 |e::r,t=>match e.bQ with|some p=> .bQ p (needs r t)|none=>needs r t
def panCp(C:Ctx)(o:Oper):Option (Nat×Cp):=match o.op with
 | .call c=>match c.callee with
  | .value (.func f)=>match C.xt f with
   |none=>match C.zk f with
    |none=>match C.pg f with
     |some cp=>match cp.pn with|some _=>some (f,cp)|none=>none
     |none=>none
    |some _=>none
   |some _=>none
  |_=>none
 |_=>none
def Ww(C:Ctx):List Oper->Nat->Option Nat
 | [],_=>none
 |o::r,i=>match panCp C o with|some _=>some i|none=>Ww C r (Nat.succ i)
def Lc(C:Ctx)(st:ASt)(o:Oper)(cp:Cp):Option (Option Prop×Bool×ASt):=match o.op with
 | .call c=>match allSV st [] (c.argTypes.toList.map λt=>kf C t) c.args.toList with
  |some a=>match mq st cp a with
   |some (p,b,bx)=>some (p,b,{ slot:=st.slot,box:=applyB bx st.box})
   |none=>none
  |none=>none
 |_=>none
def Fb:Nat->List Nat
 |0=> []|n+1=>n::Fb n
def Zn(a:List Oper)(i:Nat):Bool:=match ancAll a 0 []with
 |some f=>andd (Nat.beq (Nat.succ i) (tt a)) (dR (λj=>tb (f.getD i 0) j) (Fb i))
 |none=>false
def panR(C:Ctx)(d:Bool)(a:List Oper)(l:List ER)(st:ASt)(i:Nat):Option (Option Prop×Bool×Value×ASt):=
 match a[i]? with
 |some o=>match panCp C o with
  |some (_,cp)=>match Lc C (applyAll (l.take i) st) o cp with
   |some (p,b,s)=>cnd (andd (nott (me o)) (cnd d (Zn a i) true)) (some (p,b,cp.pv,s)) none
   |none=>none
  |none=>none
 |none=>none
def aqo{a ρ:Type}(p:Option Prop)(t:Tr a ρ):Tr a ρ:=match p with|some p=> .bQ p t|none=>t
def ASt.plain(st:ASt):ASt:={ st with slot:=λt=>match st.slot t with|some ⟨[],v⟩=>some ⟨[],v⟩|_=>none}
inductive Ex where
 |normal|exit (id:Nat)|ret|dL (v:Value)
structure LS (ρ₀:Type) where
 K:Ty
 X:Ty
 ks:List (Nat×Option Nat)
 kb:List (aR)
 xs:List (Nat×Option Nat)
 xb:List (aR)
 aM:List (cT):= []
 fz:List Nat:= []
 bu:List (aR)
 bP:List (Nat×Nat×List Nat):= []
 exit:Nat
 inv:Option (K.den->X.den->Prop)
 G:K.den->X.den->X.den
 R:Option (K.den->X.den->Option ρ₀)
def cP:Code->Nat
 | .region id _ _=>id| .seq a _=>cP a| .block _ b=>cP b| .cond _ a _=>cP a| .loop b=>cP b| .scope b=>cP b|_=>0
def dsts:Code->List Nat
 | .region _ f _=>f.toList.filterMap (·.dst)
 | .seq a b=>app (dsts a) (dsts b)| .cond _ a b=>app (dsts a) (dsts b)| .block _ b=>dsts b| .loop b=>dsts b| .scope b=>dsts b|_=> []
def rdS(st:ASt):List (Nat×Option Nat)->Option (List Cell)
 | []=>some []
 |(t,f)::r=>match st.slot t,rdS st r with
  |some ⟨[],.v x⟩,some cs=>match f,x with
   |none,.one c=>some (c::cs)
   |some n,.agg a=>cnd (Nat.beq (len' a) n) (some (app a cs)) none
   |_,_=>none
  |_,_=>none
def rdB(st:ASt):List (aR)->Option (List Cell)
 | []=>some []
 |(k,n)::r=>match st.box k,rdB st r with
  |some (.cells a),some cs=>cnd (Nat.beq (len' a) n) (some (app a cs)) none
  |some (.ro a),some cs=>cnd (Nat.beq (len' a) n) (some (app a cs)) none
  |_,_=>none
def chkP(st:ASt)(a xs f:List Nat):List (aR)->Bool
 | []=>true
 |(t,k)::r=>match st.slot t with
  |some ⟨[],.v (.one (.box k' off))⟩=>andd (andd (Nat.beq k' k) (Nat.beq off 0)) (andd (nott (mem t a)) (andd (nott (mem t xs)) (andd (mem k f) (chkP st a xs f r))))
  |_=>false
def Gp:List Nat->List Nat->Bool
 | [],[]=>true|x::r,y::s=>andd (Nat.beq x y) (Gp r s)|_,_=>false
def chkC(st:ASt)(a xs h:List Nat):List (Nat×Nat×List Nat)->Bool
 | []=>true
 |(t,f,ks)::r=>match st.slot t with
  |some ⟨[],.v (.one (.clo g i))⟩=>andd (andd (Nat.beq g f) (Gp i ks)) (andd (nott (mem t a)) (andd (nott (mem t xs)) (andd (dR (λk=>mem k h) ks) (chkC st a xs h r))))
  |_=>false
def closOf:List (Nat×Nat×List Nat)->Nat->Option GS
 | [],_=>none
 |(t,f,ks)::r,u=>cnd (Nat.beq u t) (some ⟨[],.v (.one (.clo f ks))⟩) (closOf r u)
def firsts{α:Type}:List (Nat×α)->List Nat
 | []=> []|(t,_)::r=>t::firsts r
def CY:List (aR)->List Nat
 | []=> []|(_,k)::r=>k::CY r
def tm{a:Type}(s:LS a):Bool:=andd (nodup (vnames s.aM)) (dR (λk=>nott (mem k (app (firsts s.xb) (firsts s.kb)))) (vnames s.aM))
def Ae{f:Type}(s:LS f)(st:ASt)(a:List Nat):Bool:=andd (chkP st a (firsts s.xs) (app (firsts s.xb) (firsts s.kb)) s.bu) (chkC st a (firsts s.xs) (app (firsts s.xb) (firsts s.kb)) s.bP)
def acf{f:Type}(s:LS f)(st:ASt)(a:List Nat):Bool:=
 andd (Ae s st a)
  (andd (dR (λk=>mem k (CY s.bu)) (firsts s.xb)) (andd (dR (λu=>match st.box u with|none=>true|some _=>false) a) (dR (λu=>match st.box u with|none=>true|some _=>false) (vnames s.aM))))
def slotsOf:List (Nat×Option Nat)->List Cell->Nat->Option GS
 | [],_,_=>none
 |(t,none)::r,c::cs,u=>cnd (Nat.beq u t) (some ⟨[],.v (.one c)⟩) (slotsOf r cs u)
 |(t,some n)::r,cs,u=>cnd (Nat.beq u t) (some ⟨[],.v (.agg (cs.take n))⟩) (slotsOf r (cs.drop n) u)
 |(t,none)::r,[],u=>slotsOf r [] u
def shLen:List (Nat×Option Nat)->Nat
 | []=>0|(_,none)::r=>Nat.succ (shLen r)|(_,some n)::r=>Nat.add n (shLen r)
def boxesOf(mk:List Cell->Bx):List (aR)->List Cell->Nat->Option Bx
 | [],_,_=>none
 |(k,n)::r,cs,u=>cnd (Nat.beq u k) (some (mk (cs.take n))) (boxesOf mk r (cs.drop n) u)
def ptrsOf:List (aR)->Nat->Option GS
 | [],_=>none
 |(t,k)::r,u=>cnd (Nat.beq u t) (some ⟨[],.v (.one (.box k 0))⟩) (ptrsOf r u)
def ep{α:Type}(a b:Option α):Option α:=match a with|some x=>some x|none=>b
def cW{f:Type}(s:LS f)(a xc:List Cell):ASt where
 slot:=λu=>ep (ptrsOf s.bu u) (ep (closOf s.bP u) (ep (slotsOf s.xs (vxC s.aM 0 xc) u) (slotsOf s.ks a u)))
 box:=λu=>ep (boxesOf .cells s.xb ((vxC s.aM 0 xc).drop (shLen s.xs)) u) (ep (boxesOf .ro s.kb (a.drop (shLen s.ks)) u) (vxB s.aM 0 xc u))
def after{a:Type}(s:LS a)(f g:List Nat)(st:ASt)(xc:List Cell):ASt where
 slot:=λu=>ep (slotsOf s.xs (vxC s.aM 0 xc) u) (cnd (mem u f) none (st.slot u))
 box:=λu=>ep (boxesOf .cells s.xb ((vxC s.aM 0 xc).drop (shLen s.xs)) u) (ep (vxB s.aM 0 xc u) (cnd (mem u g) (some .tok) (st.box u)))
def qI(a b:Option (List Cell)):Option (List Cell):=match a,b with|some x,some y=>some (app x y)|_,_=>none
def evCode{m ρ:Type}(C:Ctx)(L:Nat->Option (LS m)):Code->ASt->(Ex->ASt->Tr m ρ)->Tr m ρ
 | .skip,st,k=>k .normal st
 | .region id h d,st,k=>cnd (nodup (h.toList.filterMap (·.dst))) (match Ab C d h.toList (dQ (C.fz id) st)with
  |some l=>match Ww C h.toList 0 with
   |none=>needs l (k .normal (applyAll l (dQ (C.fz id) st)).plain)
   |some i=>match panR C d h.toList l (dQ (C.fz id) st) i with
    |some (p,b,v,s)=>needs (l.take i) (aqo p (.ite b (k (.dL v) s.plain) (needs (l.drop i) (k .normal (applyAll l (dQ (C.fz id) st)).plain))))
    |none=> .bad
  |none=> .bad) .bad
 | .seq a b,st,k=>evCode C L a st λx f=>match x with| .normal=>evCode C L b f k|x=>k x f
 | .cond c a b,st,k=>match opndc st [] none c with
  |some (.bool cv)=> .ite cv (evCode C L a st k) (evCode C L b st k)
  |some (.nlb p)=> .alt p (evCode C L a st k) (evCode C L b st k)
  |_=> .bad
 | .block id b,st,k=>evCode C L b st λx f=>match x with
  | .exit j=>cnd (Nat.beq j id) (k .normal f) (k (.exit j) f)
  |x=>k x f
 | .exit id,st,k=>k (.exit id) st
 | .ret,st,k=>k .ret st
 | .loop body,st,k=>match L (cP body)with
  |some s=>match qI (rdS (dQ s.fz st) s.ks) (rdB (dQ s.fz st) s.kb),qI (rdS (dQ s.fz st) s.xs) (rdW (dQ s.fz st) s.xb),andd (acf s (dQ s.fz st) (dsts body)) (tm s)with
   |some w,some o,true=>match gh true (dQ s.fz st) w,unvX (dQ s.fz st) s.aM 0 o,nodup (keysX s.aM 0 o)with
    |some y,some xc,true=>match dec s.K y,dec s.X xc with
     |some t,some u=>
      let g:=k (.exit s.exit) (after s (dsts body) (keysX s.aM 0 o) (dQ s.fz st) (enc s.X (s.G t u)))
      let g:=match s.R with|none=>g|some R=> .opt (R t u) g
      match s.inv with|none=>g|some p=> .bQ (p t u) g
     |_,_=> .bad
    |_,_,_=> .bad
   |_,_,_=> .bad
  |none=> .bad
 |_,_,_=> .bad
def aa{α:Type} [Inhabited α](l:List α)(i:Int):α:=l.getD i.toNat default
def dJ{α β:Type}(o:Option α)(f:α->β)(d:β):β:=match o with|some r=>f r|none=>d
def Tr.val{a ρ:Type}(rt:a->ρ)(d:ρ):Tr a ρ->ρ
 | .ret r=>r| .ite c t e=>bif c then t.val rt d else e.val rt d| .bQ _ t=>t.val rt d
 | .opt o t=>dJ o rt (t.val rt d)
 | .alt _ _ b=>b.val rt d
 | .bad=>d
def Tr.dp{f ρ:Type}(rt:f->ρ)(Post:ρ->Prop):Tr f ρ->Prop
 | .ret r=>Post r| .ite c t e=>(c=true->t.dp rt Post)/\(c=false->e.dp rt Post)| .bQ p t=>p/\t.dp rt Post
 | .opt o t=>(∀r,o=some r->Post (rt r))/\(o=none->t.dp rt Post)
 | .alt p a b=>(p->a.dp rt Post)/\b.dp rt Post
 | .bad=>False
def Tr.leaf{a ρ:Type}:Tr a ρ->Option ρ
 | .ret r=>some r| .bQ _ t=>t.leaf|_=>none
def YS{ρ:Type}:Option ρ->Option ρ->Prop
 |some x,some y=>x=y|_,_=>False
def Tr.safe{f ρ:Type}:Tr f ρ->Prop
 | .ret _=>True| .ite c t e=>(c=true->t.safe)/\(c=false->e.safe)| .bQ p t=>p/\t.safe
 | .opt o t=>o=none->t.safe
 | .alt p a b=>(p->a.safe/\YS a.leaf b.leaf)/\b.safe
 | .bad=>False
def resCells(C:Ctx)(fn:Func)(st:ASt):List ResultVar->Option (List SV)
 | []=>some []
 | .tmp t::r=>match opnd1 st [] none (.tmp t),resCells C fn st r with|some v,some l=>some (v::l)|_,_=>none
 | .cell a t::r=>match opndc st [] none (.tmp a),C.D t,resCells C fn st r with
  |some (.box k 0),some d,some l=>match st.box k with
   |some (.cells cs)=>match mkSV d.agg (cs.take d.ty.n)with|some v=>cnd (Nat.ble d.ty.n (len' cs)) (some (v::l)) none|none=>none
   |_=>none
  |_,_,_=>none
def shapesOf:ah->List (Option Nat)
 | .none=> []| .one s=> [s]| .tup a=>a
def freshL(st:ASt)(T:Nat):List Cell->Bool
 | []=>true
 | .bh _ .exact l::r=>andd (jZ l) (freshL st T r)
 | .bh _ _ _::_=>false
 | .bq _ k::r=>match st.box k with
  |some (.vec true a _ _)=>andd (Nat.beq (qZ T) a) (freshL st T r)
  |some (.vec false a _ _)=>andd (andd (Nat.ble lU T) (Nat.beq (qZ T) a)) (freshL st T r)
  |_=>false
 |_::r=>freshL st T r
def Uq(st:ASt)(T:Nat):List SV->Bool
 | []=>true|x::r=>andd (freshL st T x.cells) (Uq st T r)
def J9(st:ASt)(xs:List SV):Option Nat->Bool
 |none=>true|some T=>Uq st T xs
def evRet(C:Ctx)(fn:Func)(ao:ah)(fr:Option Nat)(r:Ty)(x:Ex)(st:ASt):Tr r.den r.den:=
 match x,ao with
 | .exit _,_=> .bad
 | .dL _,_=> .bad
 |_,.tup [_]=> .bad
 |_,_=>match resCells C fn st fn.results.toList with
  |some a=>match unvSs false st a,J9 st a fr with
   |some xs,true=>match shapes (shapesOf ao) xs with
    |some cs=>match dec r cs with|some y=> .ret y|none=> .bad
    |none=> .bad
   |_,_=> .bad
  |none=> .bad
def initSlots:List SV->Nat->Nat->Option GS
 | [],_,_=>none
 |v::r,i,t=>cnd (Nat.beq t i) (some ⟨[],.v v⟩) (initSlots r (Nat.add i 1) t)
def evFn(C:Ctx)(fn:Func)(p:Ty)(ax:List (Option Nat))(ao:ah)(fr:Option Nat)(r:Ty)(L:Nat->Option (LS r.den))(x:p.den):Tr r.den r.den:=
 match fn.body,unshape ax (enc p x)with
 |some c,some vs=>cnd (dR (λd=>Nat.ble (Nat.succ d) fn.ntmps) (dsts c)) (evCode C L c { slot:=λt=>initSlots vs 0 t,box:=λ_=>none} (evRet C fn ao fr r)) .bad
 |_,_=> .bad
section
theorem ba{α:Type}{b:Bool}{x:Option α}{y:α}(h:cnd b x none=some y):b=true/\x=some y:=by cases b<;>simp_all [cnd]
theorem aF{a b:Bool}(h:andd a b=true):a=true/\b=true:=by cases a<;>simp_all [andd]
theorem mh{x y:Bool}(h:ej x y=true):x=true\/y=true:=by grind [ej]
theorem fX{a:Bool}(h:nott a=true):a=false:=by grind [nott]
theorem jQ{α:Type}{p:α->Bool}: ∀{l:List α},dR p l=true-> ∀x∈l,p x=true
 | [],_,_,h=>by cases h
 |a::l,h,x,f=>by
  simp only[dR]at h;split at h
  ·rcases List.mem_cons.1 f with rfl|f
   ·assumption
   ·exact jQ h x f
  ·cases h
theorem HA{α:Type}{p:α->Bool}: ∀{l:List α},anyB p l=true-> ∃x∈l,p x=true
 | [],h=>by cases h
 |a::l,h=>by
  simp only[anyB]at h;split at h
  ·simp_all
  ·obtain⟨x,f,g⟩:=HA h;grind
theorem By{α:Type}{p:α->Bool}: ∀{l:List α},anyB p l=false-> ∀x∈l,p x=false
 | [],_,_,h=>by cases h
 |a::l,h,x,f=>by
  simp only[anyB]at h;split at h
  ·cases h
  ·rcases List.mem_cons.1 f with rfl|f
   ·assumption
   ·exact By h x f
theorem cN{t:Nat}{l:List Nat}:mem t l=true↔t∈l:=by
 constructor
 ·intro h;obtain⟨x,f,g⟩:=HA h;simp_all
 ·intro h
  cases hm:mem t l with
  |true=>rfl
  |false=>have:=By hm t h;simp at this
theorem gu(l:List Cell):len' l=l.length:=by induction l<;>simp[len', *]
theorem beq_eq{a b:Nat}(h:Nat.beq a b=true):a=b:=Nat.eq_of_beq_eq_true h
theorem bV{α:Type}{a b:Nat}{x y:α}(h:a=b):cnd (Nat.beq a b) x y=x:=by simp_all [cnd]
theorem bL{α:Type}{a b:Nat}{x y:α}(h:a≠b):cnd (Nat.beq a b) x y=y:=by
 have:Nat.beq a b=false:=by grind [beq_eq]
 rw[this];rfl
theorem agL{xs own:List (bS)}{ν:Nat->Bool}(h:sub xs own=true)(f:et ν own):et ν xs:=by
 intro x g;obtain⟨y,i,j⟩:=HA (jQ h x g);obtain⟨h1,h2⟩:=aF j;rw[beq_eq h1,f y i];grind
theorem mV{X:Nat->Nat->Prop}{w w':World}(h:Below w.heap.size w w'):dG X w w':=
 ⟨h.size,λb p hb _=>by unfold World.cell?;rw[h.block b hb],λb hb=>by unfold World.shape?;rw[h.block b hb],λb p hb=>by unfold World.frozen?;rw[h.block b hb]⟩
theorem fJ{w:World}{X:Nat->Nat->Prop}:di w X X:=λ_ _ _ h=>h
section
variable {φ:Fr} {ν:Nat->Bool} {m:Map} {st:ASt} {a:Act} {w w':World} {own:List (bS)}
theorem aG.change(h:aG φ ν m st a w){f:Map}{i:Nat->Option Bx}(j:dG (XA φ m) w w')(hm:dz m f)(hX:di w (XA φ m) (XA φ f))
  (s: ∀k bx,i k=some bx->iv f (XA φ f) w' k bx)
  (inj: ∀k k' b p l,f k=some (b,p)->f k'=some (b,l)->p % 2=0->l % 2=0->k=k')
  (low: ∀k b p,f k=some (b,p)->p % 2=0->b<w'.heap.size)
  (bK: ∀k,i k=none->f k=none)
  (own: ∀k bx b p,i k=some bx->bx.jN=false->f k=some (b,p)->p % 2=0->φ.B b\/φ.w0.heap.size<=b)
  (vn: ∀k b p,f k=some (b,p)->p % 2=0->0<p->φ.n0<=b)
  (dK: ∀k b p,f k=some (b,p)->p % 2=0-> ¬ φ.gl b)
  (fN:GK φ.gl w w') (hw:w'.os=w.os/\w'.tape=w.tape/\w'.output=w.output)
  (dA: ∀b,b<φ.w0.heap.size-> ¬ φ.B b->w'.heap[b]? =w.heap[b]?):aG φ ν f { slot:=st.slot,box:=i} a w' where
 tmps:=h.tmps
 defers:=h.defers
 slot t g u ht:=(h.slot t g u ht).eA j hX hm _ _
 skip:=h.skip
 x0:=h.x0
 box:=s
 inj:=inj
 low:=low
 bK:=bK
 own:=own
 vn:=vn
 dK:=dK
 n0:=h.n0
 fN:=h.fN.trans fN
 aN:=⟨hw.1.trans h.aN.1,hw.2.1.trans h.aN.2.1,hw.2.2.trans h.aN.2.2.1,auq h.aN.2.2.2 j.size⟩
 dA b h1 h2:=(dA b h1 h2).trans (h.dA b h1 h2)
 dW b h1:=by
  have o:=au5 h1 h.aN.2.2.2;exact⟨(j.shape b o).trans (h.dW b h1).1,λp=>(j.frozen b p o).trans ((h.dW b h1).2 p)⟩
 gA:=h.gA
theorem aG.ko(h:aG φ ν m st a w): ∀b,φ.gl b->b<w.heap.size:=λb hb=>au5 (h.fN.block b hb).1 h.fN.size
theorem aG.Rb(h:aG φ ν m st a w)(hb:Below w.heap.size w w'):GK φ.gl w w':=
 ⟨hb.os,hb.tape,hb.size,λb f=>⟨h.ko b f,hb.block b (h.ko b f)⟩⟩
theorem aG.ext(h:aG φ ν m st a w)(hb:Below w.heap.size w w'):aG φ ν m st a w':=
 h.change (mV hb) (dz.refl m) fJ
  (λk bx f=>(h.box k bx f).eA (mV hb) fJ (dz.refl m) λb p h1 h2=>⟨h1,hb.block b (h.low _ _ _ h1 h2)⟩)
  h.inj (λk b p f g=>au5 (h.low k b p f g) hb.size) h.bK h.own h.vn h.dK (h.Rb hb) ⟨hb.os,hb.tape,hb.output⟩
  (λb h1 _=>hb.block b (au5 h1 h.aN.2.2.2))
theorem NR{xs:Array Value}{d:Nat}{v:Value}(h:d<xs.size):(xs.setIfInBounds d v).getD d undef=v:=by
 simp_all
theorem getD_set_ne{xs:Array Value}{d t:Nat}{v:Value}(h:t≠d):(xs.setIfInBounds d v).getD t undef=xs.getD t undef:=by
 simp_all [Ne.symm]
theorem aG.put(h:aG φ ν m st a w){d:Nat}{tv:TV}{v:Value}(j:d<φ.n)(l:φ.D d=true)(aQ:et ν own)(o:VR m (XA φ m) w tv v):
  aG φ ν m ((Eff.mk none (some (d,tv)) []).apply own st) (a.put (some d) v) w where
 tmps:=by simp[Act.put,h.tmps]
 defers:=h.defers
 slot t g f ht:=by
  simp only[Eff.apply]at f;by_cases i:t=d
  ·rw[bV i]at f
   simp only[aup]at f;subst f i;simp only[Act.put];rw[NR (by rw[h.tmps];exact j)];exact o
  ·rw[bL i]at f
   simp only[Act.put];rw[getD_set_ne i];exact h.slot t g f ht
 skip t g f ht:=by
  simp only[Eff.apply]at f;by_cases i:t=d
  ·rw[bV i]at f
   cases f;exact absurd aQ ht
  ·rw[bL i]at f
   simp only[Act.put];rw[getD_set_ne i];exact h.skip t g f ht
 x0:=h.x0
 box k bx s:=h.box k bx s
 inj:=h.inj
 bK:=h.bK
 low:=h.low
 own:=h.own
 vn:=h.vn
 dK:=h.dK
 n0:=h.n0
 fN:=h.fN
 aN:=h.aN
 dA:=h.dA
 dW:=h.dW
 gA t ht:=by
  have:t≠d:=λe=>by rw[e,l]at ht;cases ht
  simp only[Act.put];rw[getD_set_ne this];exact h.gA t ht
theorem pN{tv:TV}{p:Option Prop}{d:Nat}{eT:List (Nat×Option Bx)}:
 (Eff.mk p (some (d,tv)) eT).apply own st=(Eff.mk none (some (d,tv)) []).apply own { slot:=st.slot,box:=applyB eT st.box}:=rfl
theorem qe(h:aG φ ν m st a w){b q:Nat}(f:XA φ m b q):b<w.heap.size:=by
 rcases f with f|⟨k,p,h1,h2⟩
 ·exact au5 (h.x0 _ _ f).1 h.aN.2.2.2
 ·exact h.low _ _ _ h1 h2
theorem aG.Ea(h:aG φ ν m st a w){d b p:Nat}{bx:Bx}(z:st.box d=none)(hb:Below w.heap.size w w')(o:p % 2=0->w.heap.size<=b)(A:p % 2=0->b<w'.heap.size)
  (C: ∀j,j d=some (b,p)->dz m j->di w (XA φ m) (XA φ j)->(∀i q,XA φ j i q->XA φ m i q\/(p % 2=0/\i=b))->iv j (XA φ j) w' d bx):
  aG φ ν (λk=>if k=d then some (b,p)else m k) { slot:=st.slot,box:=λk=>if k=d then some bx else st.box k} a w':=by
 let j:=λk=>if k=d then some (b,p)else m k
 have M:=h.bK d z;have I: ∀k,k≠d->j k=m k:=λk f=>by grind
 have J:j d=some (b,p):=by grind
 have t:dz m j:=dz.of λk b p f=>by
  grind
 have hX:di w (XA φ m) (XA φ j):=by
  intro i q hl l;rcases l with l|⟨k,u,h2,h3⟩
  ·exact .inl l
  by_cases f:k=d
  ·grind
  ·exact .inr ⟨k,u,by simp_all,h3⟩
 have L:=C j J t hX (λi q l=>by
  rcases l with l|⟨k,u,h2,h3⟩
  ·exact .inl (.inl l)
  by_cases f:k=d
  ·simp_all
  ·exact .inl (.inr ⟨k,u,by simp_all,h3⟩))
 refine h.change (mV hb) t hX ?_ ?_ ?_ ?_ ?_ ?_ ?_ (h.Rb hb) ⟨hb.os,hb.tape,hb.output⟩ (λb h1 _=>hb.block b (au5 h1 h.aN.2.2.2))
 ·intro k x f
  by_cases g:k=d
  ·subst g;simp only[azk,aup]at f;subst f;exact L
  ·simp only[au6 g]at f
   exact(h.box k x f).eA (mV hb) hX t λb p h1 h2=>⟨(I k g).trans h1,hb.block b (h.low _ _ _ h1 h2)⟩
 ·intro k k' i q N h1 h2 h3 h4
  by_cases f:k=d<;>by_cases s:k'=d
  ·rw[f,s]
  ·rw[f]at h1;simp only[au6 s]at h2;have:=h.low _ _ _ h2 h4;simp at h1;have:=o (by omega);omega
  ·rw[s]at h2;simp only[au6 f]at h1;have:=h.low _ _ _ h1 h3;simp at h2;have:=o (by omega);omega
  ·simp only[au6 f]at h1;simp only[au6 s]at h2;exact h.inj _ _ _ _ _ h1 h2 h3 h4
 ·intro k i q h1 h2
  by_cases f:k=d
  ·simp only[ava f,aup,awk]at h1;have:=A (by omega);omega
  ·simp only[au6 f]at h1;have:=h.low _ _ _ h1 h2;have:=hb.size;omega
 ·intro k f
  by_cases g:k=d
  ·simp only[ava g]at f;cases f
  ·simp only[au6 g]at f⊢;exact h.bK k f
 ·intro k x i q h1 h2 h3 h4
  by_cases g:k=d
  ·simp only[ava g,aup,awk]at h3;exact .inr (by have:=h.aN.2.2.2;have:=o (by omega);omega)
  ·simp only[au6 g]at h1 h3;exact h.own k x i q h1 h2 h3 h4
 ·intro k i q h1 h2 h3
  by_cases g:k=d
  ·simp only[ava g,aup,awk]at h1;have:=h.aN.2.2.2;have:=h.n0;have:=o (by omega);omega
  ·simp only[au6 g]at h1;exact h.vn k i q h1 h2 h3
 ·intro k i q h1 h2 y
  by_cases g:k=d
  ·simp only[ava g,aup,awk]at h1;have:=h.ko i y;have:=o (by omega);omega
  ·simp only[au6 g]at h1;exact h.dK k i q h1 h2 y
theorem ua{d:Nat}{bx:Bx}{f:Nat->Option Bx}:applyB [(d,some bx)] f=λk=>if k=d then some bx else f k:=by
 funext k
 show cnd (Nat.beq k d) _ _=_;by_cases g:k=d
 ·rw[bV g,ava g]
 ·rw[bL g,au6 g];rfl
theorem aG.Ul(h:aG φ ν m st a w){d:Nat}{cs:List Cell}{vs:Array Value}{T:TypeId}(f:d<φ.n)(g:φ.D d=true)(i:st.box d=none)
  (j:aE m (XA φ m) w cs vs.toList) (aQ:et ν own):
  Sat φ ν ((Eff.mk none (some (d,.v (.one (.box d 0)))) [(d,some (.cells cs))]).apply own st) (a.put (some d) (.pointer (some ⟨w.heap.size,0,none⟩))) (w.alloc (.cells vs T)):=by
 have hb:Below w.heap.size w (w.alloc (.cells vs T)):=(aw6 _ _).alloc (au2 _) _;have l:(w.alloc (.cells vs T)).heap[w.heap.size]? =some (.cells vs T):=by grind [World.alloc]
 have h1:=h.Ea (bx:= .cells cs) i hb (λ_=>au2 _) (λ_=>by simp) (λo h2 h3 h4 _=>⟨_,vs,T,h2,l,j.mono (CR.eA (mV hb) h4 h3)⟩);refine⟨λk=>if k=d then some (w.heap.size,0)else m k,?_⟩;rw[pN,ua];exact h1.put f g aQ ⟨w.heap.size,by simp,rfl⟩
theorem aG.write(h:aG φ ν m st a w){k b p:Nat}{bx bx0:Bx}{vs l:Array Value}{T:TypeId}{z:aR}(x:st.box k=some bx0)(y:bx0.jN=false)(hm:m k=some (b,p))(o:p % 2=0)
  (hw:w.heap[b]? =some (.cells vs T z)) (A:l.size=vs.size)
  (C:dG (XA φ m) w (w.setRow b l)->(w.setRow b l).heap[b]? =some (.cells l T z)->iv m (XA φ m) (w.setRow b l) k bx) (L:bx.jN=false) (own:List (bS)):
  aG φ ν m ((Eff.mk none none [(k,some bx)]).apply own st) a (w.setRow b l):=by
 have hX: ∀q,XA φ m b q:=λq=> .inr ⟨k,p,hm,o⟩
 have t:dG (XA φ m) w (w.setRow b l):=by
  refine⟨by simp,λf p s I=> ?_,λf s=> ?_,λf p s=> ?_⟩
  ·have:f≠b:=λe=>I (e▸hX p)
   unfold World.cell?;rw[aw4 _ _ _ _ this]
  ·by_cases e:f=b
   ·subst e;unfold World.shape?;rw[axd _ _ _ _ _ _ hw,hw];simp[A]
   ·unfold World.shape?;rw[aw4 _ _ _ _ e]
  ·by_cases e:f=b
   ·subst e;unfold World.frozen?;simp only[];rw[axd _ _ _ _ _ _ hw,hw]
   ·unfold World.frozen?;simp only[];rw[aw4 _ _ _ _ e]
 have M:=h.low _ _ _ hm o;have J: ∀j f q,j≠k->m j=some (f,q)->q % 2=0->f≠b:=λj f q g h1 h2 e=>g (h.inj _ _ _ _ _ (e▸h1) hm h2 o)
 show aG φ ν m { slot:=st.slot,box:=applyB [(k,some bx)] st.box} a (w.setRow b l);rw[ua];refine h.change t (dz.refl m) fJ ?_ h.inj (λj f q h1 h2=>by rw[setRow_size];exact h.low _ _ _ h1 h2) ?_ ?_ h.vn h.dK ?_ ⟨rfl,rfl,rfl⟩ ?_
 ·intro j u g
  by_cases i:j=k
  ·subst i;simp only[azk,aup]at g;subst g;exact C t (axd _ _ _ _ _ _ hw)
  ·simp only[au6 i]at g
   exact(h.box j u g).eA t fJ (dz.refl m) λf q h1 h2=>⟨h1,aw4 _ _ _ _ (J j f q i h1 h2)⟩
 ·intro j g
  by_cases i:j=k
  ·simp only[ava i]at g;cases g
  ·simp only[au6 i]at g;exact h.bK j g
 ·intro j u f q h1 h2 h3 h4
  by_cases i:j=k
  ·exact h.own k bx0 f q x y (i▸h3) h4
  ·simp only[au6 i]at h1;exact h.own j u f q h1 h2 h3 h4
 ·exact⟨rfl,rfl,by simp,λf s=>⟨h.ko f s,aw4 _ _ _ _ (λe=>h.dK _ _ _ hm o (e▸s))⟩⟩
 ·intro f h1 h2
  have:f≠b:=λe=>by
   rcases h.own k bx0 b p x y hm o with h3|h3
   ·exact h2 (e▸h3)
   ·omega
  exact aw4 _ _ _ _ this
theorem aG.store(h:aG φ ν m st a w){k b:Nat}{cs cs':List Cell}{vs f:Array Value}{T:TypeId}(g:st.box k=some (.cells cs))(hm:m k=some (b,0))
  (hw:w.heap[b]? =some (.cells vs T (0,0))) (i:f.size=vs.size) (j:aE m (XA φ m) w cs' f.toList) (own:List (bS)):
  aG φ ν m ((Eff.mk none none [(k,some (.cells cs'))]).apply own st) a (w.setRow b f):=
 h.write (bx:= .cells cs') g rfl hm rfl hw i (λh1 h2=>⟨b,f,T,hm,h2,j.mono (CR.mono h1 fJ (λ_ _ _ h=>h))⟩) rfl own
theorem aG.akg(h:aG φ ν m st a w){d k b p pd:Nat}{bx bx0:Bx}(Z:st.box d=none)(Q:st.box k=some bx0)(S:bx0.jN=false)(hm:m k=some (b,p))(T:0<p)
  (U:dG (XA φ m) w w') (J: ∀f,(p % 2=0->f≠b)->w'.heap[f]? =w.heap[f]?) (a1:w'.heap.size=w.heap.size) (hw:w'.os=w.os/\w'.tape=w.tape/\w'.output=w.output) (a6:pd % 2=p % 2) (a7:0<pd)
  (a2: ∀o,o d=some (b,pd)->dz m o->di w (XA φ m) (XA φ o)->iv o (XA φ o) w' d bx):
  ∃o,o d=some (b,pd)/\aG φ ν o { slot:=st.slot,box:=λu=>if u=d then some bx else if u=k then some .tok else st.box u} a w':=by
 have a9:d≠k:=λe=>by simp_all
 let x:=λp=>if p % 2=0 then p+1 else p
 let o:=λj=>if j=d then some (b,pd)else if j=k then some (b,x p)else m j
 have b0:=h.bK d Z;have A:o d=some (b,pd):=by grind
 have L:o k=some (b,x p):=by grind
 have y: ∀j,j≠d->j≠k->o j=m j:=λj h1 h2=>by grind
 have b2:x p % 2=1:=by grind
 have M:dz m o:=by
  intro j f q s;by_cases g:j=d
  ·simp_all
  ·by_cases l:j=k
   ·subst l
    rw[hm]at s;cases s;refine⟨x p,L,?_⟩;simp only[x];split
    ·exact .inr ⟨by assumption,T,rfl⟩
    ·exact .inl rfl
   ·exact⟨q,by rw[y j g l];exact s,.inl rfl⟩
 have hX:di w (XA φ m) (XA φ o):=by
  rintro f q _ (h1|⟨j,p',h1,h2⟩)
  ·exact .inl h1
  ·by_cases g:j=d
   ·rw[g,A]at h1;cases h1;exact .inr ⟨k,p,hm,by omega⟩
   ·by_cases l:j=k
    ·rw[l,L]at h1;cases h1;omega
    ·exact .inr ⟨j,p',by rw[<- y j g l];exact h1,h2⟩
 have t: ∀j f q,o j=some (f,q)->q % 2=0-> ∃C I,m C=some (f,I)/\I % 2=0/\(0<q->0<I)/\((j=d/\C=k)\/(j≠d/\j≠k/\C=j)):=by
  intro j f q h1 h2;by_cases g:j=d
  ·rw[g,A]at h1;cases h1;exact⟨k,p,hm,by omega,λ_=>T,.inl ⟨g,rfl⟩⟩
  ·by_cases l:j=k
   ·rw[l,L]at h1;cases h1;omega
   ·exact⟨j,q,by rw[<- y j g l];exact h1,h2,id,.inr ⟨g,l,rfl⟩⟩
 refine⟨o,A,?_⟩;refine h.change U M hX ?_ ?_ ?_ ?_ ?_ ?_ ?_ ⟨hw.1,hw.2.1,by omega,λf V=>⟨h.ko f V,J f (λz e=>h.dK _ _ _ hm z (e▸V))⟩⟩ hw ?_
 ·intro j Y s
  by_cases g:j=d
  ·subst g;simp only[azk,aup]at s;subst s;exact a2 o A M hX
  ·by_cases l:j=k
   ·simp only[au6 g,ava l,aup]at s;subst s;trivial
   ·simp only[au6 g,au6 l]at s
    exact(h.box j Y s).eA U hX M λf q h1 h2=>⟨(y j g l).trans h1,J f (λz e=>l (h.inj _ _ _ _ _ (e▸h1) hm h2 z))⟩
 ·intro j C f q I h1 h2 h3 h4
  obtain⟨i,r,h5,h6,_,h7⟩:=t _ _ _ h1 h3;obtain⟨i',r',N,h9,_,O⟩:=t _ _ _ h2 h4;have:=h.inj _ _ _ _ _ h5 N h6 h9;rcases h7 with⟨h7,P⟩|⟨h7,P,b5⟩<;>rcases O with⟨O,a5⟩|⟨O,a5,b6⟩<;>omega
 ·intro j f q h1 h2
  obtain⟨i,r,h5,h6,_,_⟩:=t _ _ _ h1 h2;rw[a1];exact h.low _ _ _ h5 h6
 ·intro j s
  by_cases g:j=d
  ·simp only[ava g]at s;cases s
  ·by_cases l:j=k
   ·simp only[au6 g,ava l]at s;cases s
   ·simp only[au6 g,au6 l]at s;rw[y j g l];exact h.bK j s
 ·intro j Y f q h1 h2 h3 h4
  obtain⟨i,r,h5,h6,_,h7⟩:=t _ _ _ h3 h4;rcases h7 with⟨h7,rfl⟩|⟨h7,P,rfl⟩
  ·exact h.own _ _ _ _ Q S h5 h6
  ·simp only[au6 h7,au6 P]at h1;exact h.own _ _ _ _ h1 h2 h5 h6
 ·intro j f q h1 h2 h3
  obtain⟨i,r,h5,h6,N,_⟩:=t _ _ _ h1 h2;exact h.vn _ _ _ h5 h6 (N h3)
 ·intro j f q h1 h2
  obtain⟨i,r,h5,h6,_,_⟩:=t _ _ _ h1 h2;exact h.dK _ _ _ h5 h6
 ·intro f h1 h2
  exact J f λz e=>by
   rcases h.own _ _ _ _ Q S hm z with h3|h3
   ·exact h2 (e▸h3)
   ·omega
theorem aG.dead(h:aG φ ν m st a w){k:Nat}{bx bx0:Bx}(Q:st.box k=some bx0)
  (O: ∀f,(∀b p,m k=some (b,p)->p % 2=0->0<p->f k=some (b,p+1))->(∀b p,m k=some (b,p)->p % 2=1->f k=some (b,p))->dz m f->di w (XA φ m) (XA φ f)->
   (∀b p,m k=some (b,p)->p % 2=0->0<p-> ∀q,¬ XA φ f b q\/ ¬ (φ.B b\/φ.w0.heap.size<=b))->iv f (XA φ f) w k bx)
  (P: ∀b,m k≠some (b,0)):Sat φ ν { slot:=st.slot,box:=λu=>if u=k then some bx else st.box u} a w:=by
 let t:=λp=>if p % 2=0 then p+1 else p
 let f:Map:=λj=>if j=k then(m k).map (λx=>(x.1,t x.2))else m j
 have l: ∀j,j≠k->f j=m j:=λj g=>by grind
 have A: ∀b p,m k=some (b,p)->f k=some (b,t p):=λb p h=>by grind
 have S: ∀b p,f k=some (b,p)-> ∃J,m k=some (b,J)/\p=t J:=by
  intro b p h1;simp only[f,azk,av6]at h1;grind
 have s: ∀b p,f k=some (b,p)->p % 2=1:=by
  grind
 have C:dz m f:=by
  intro j b p g;by_cases i:j=k
  ·subst i
   refine⟨t p,A _ _ g,?_⟩;have h3:p≠0:=λe=>P b (e▸g)
   simp only[t];split
   ·exact .inr ⟨by assumption,by omega,by omega⟩
   ·exact .inl rfl
  ·exact⟨p,by rw[l j i];exact g,.inl rfl⟩
 have hX:di w (XA φ m) (XA φ f):=by
  rintro b q _ (h1|⟨j,p,h1,h2⟩)
  ·exact .inl h1
  ·by_cases i:j=k
   ·subst i;have:=s _ _ h1;omega
   ·exact .inr ⟨j,p,by rw[<- l j i];exact h1,h2⟩
 refine⟨f,?_⟩;have L:dG (XA φ m) w w:=⟨au2 _,λ_ _ _ _=>rfl,λ_ _=>rfl,λ_ _ _=>rfl⟩;refine h.change L C hX ?_ ?_ ?_ ?_ ?_ ?_ ?_ (GK.refl h.ko) ⟨rfl,rfl,rfl⟩ (λ_ _ _=>rfl)
 ·intro j M g
  by_cases i:j=k
  ·subst i
   simp only[azk,aup]at g;subst g;refine O f (λb p h1 h2 h3=> ?_) (λb p h1 h2=> ?_) C hX (λb p h1 h2 h3 q=> ?_)
   ·rw[A _ _ h1];simp[t,h2]
   ·rw[A _ _ h1];simp[t,h2]
   ·by_cases y:XA φ f b q
    ·rcases y with y|⟨z,N,h4,h5⟩
     ·right
      intro h6;have:=h.x0 _ _ y;rcases h6 with h6|h6
      ·exact this.2.1 h6
      ·omega
     ·exfalso
      by_cases I:z=j
      ·subst I;have:=s _ _ h4;omega
      ·rw[l z I]at h4
       exact I (h.inj _ _ _ _ _ h4 h1 h5 h2)
    ·exact .inl y
  ·simp only[au6 i]at g
   exact(h.box j M g).eA L hX C λT q h1 h2=>⟨(l j i).trans h1,rfl⟩
 ·intro j z b p N h1 h2 h3 h4
  have o:j≠k:=λe=>by have:=s b p (e▸h1);omega
  have hb:z≠k:=λe=>by have:=s b N (e▸h2);omega
  rw[l _ o]at h1;rw[l _ hb]at h2;exact h.inj _ _ _ _ _ h1 h2 h3 h4
 ·intro j b p h1 h2
  have o:j≠k:=λe=>by have:=s b p (e▸h1);omega
  rw[l _ o]at h1;exact h.low _ _ _ h1 h2
 ·intro j g
  by_cases i:j=k
  ·simp only[ava i]at g;cases g
  ·simp only[au6 i]at g;rw[l j i];exact h.bK j g
 ·intro j M b p h1 h2 h3 h4
  have o:j≠k:=λe=>by have:=s b p (e▸h3);omega
  rw[l _ o]at h3;simp only[au6 o]at h1;exact h.own _ _ _ _ h1 h2 h3 h4
 ·intro j b p h1 h2 h3
  have o:j≠k:=λe=>by have:=s b p (e▸h1);omega
  rw[l _ o]at h1;exact h.vn _ _ _ h1 h2 h3
 ·intro j b p h1 h2
  have o:j≠k:=λe=>by have:=s b p (e▸h1);omega
  rw[l _ o]at h1;exact h.dK _ _ _ h1 h2
end
end
section
def zeroVs:Ty->List Value
 | .int k=> [.int k 0]| .bool=> [.bool false]| .flt k=> [.float k 0]| .str=> [.string ByteArray.empty]| .unit=> []| .fnt=> [.nilFunc]
 | .pair a b=>zeroVs a++zeroVs b| .sl e=> [.slice none 0 0]
def cd(agg:Bool)(vs:List Value):Value:=if agg then .agg vs.toArray else vs.headD undef
def plainOk:Ty->TypeDesc->Prop
 | .int k,d=>d= .int k| .bool,d=>d= .bool| .flt k,d=>d= .float k| .str,d=>d= .string
 | .sl e,d=> ∃el,d= .slice el|_,_=>True
structure lC (P:Program) (t:TypeId) (ty:Ty) (agg:Bool):Prop where
 info: ∃i,P.info? t=some i/\i.size=ty.n/\i.zero=some (cd agg (zeroVs ty))
def kindOk(P:Program)(d:TD)(e:TypeDesc):Prop:=
 match d.kind with
 | .ed=>d.agg=false
 | .struct fs=>d.agg=true/\ ∃g,e= .struct g/\g.toList.map (λf=>(f.type,f.offset))=fs/\ ∀p∈fs,∃i,P.info? p.1=some i
 | .array len el=>d.agg=true/\e= .array len el
 | .slice el=>d.agg=false/\e= .slice el/\ ∃h j,d.ty= .sl h/\lC P el h j
structure jL (P:Program) (t:TypeId) (d:TD):Prop where
 info:lC P t d.ty d.agg
 desc: ∃e,P.underlying t=some e/\kindOk P d e/\(d.agg=false->plainOk d.ty e)
 isAgg: ∀w,(isAgg t).run P w= .ok d.agg w
 one:d.agg=false->d.ty.n=1
def ec:List (Option Nat)->List Value->List Value->Prop
 | [],[],cs=>cs= []
 |none::s,v::vs,cs=> ∃cs',cs=v::cs'/\ec s vs cs'
 |some n::s,v::vs,cs=> ∃f cs':List Value,v= .agg f.toArray/\f.length=n/\cs=f++cs'/\ec s vs cs'
 |_,_,_=>False
def ke(n0:Nat)(T:TypeId)(w:World):Cell->Value->Prop
 | .bh e _ _,v=>v= .slice none 0 0\/(∃b n cap us,v= .slice (some ⟨b,0,none⟩) n cap/\n0<=b/\vq w b us (qZ T) (e= .int .u8)/\us.size=cap*e.n/\cap<=maxLen)\/
  (Nat.ble lU T=true/\ ∃b n cap f,v= .slice (some ⟨b,0,none⟩) n cap/\w.shape? b=some (f,n*e.n)/\n*e.n=cap*e.n)
 |_,_=>True
def pj(n0:Nat)(fr:Option Nat)(w:World)(X:Nat->Nat->Prop)(ao:ah)(r:Ty)(y:r.den)(v:Value):Prop:=
 ∃cs,TR w X r y cs/\(∀T,fr=some T->aj (ke n0 T w) (enc r y) cs)/\match ao with
  | .none=>v= .tuple #[]
  | .one s=>ec [s] [v] cs
  | .tup f=> ∃vs:List Value,v= .tuple vs.toArray/\ec f vs cs
def dY(P:Program)(G:Gd)(f:FuncId)(ct:Ct):Prop:=
 ∀(x:ct.p.den) (w:World) (X:Nat->Nat->Prop) (args:Array Value) (cs:List Value),G.H w->(∀b p,X b p->b<w.heap.size/\ ¬ G.gl b)->(∀q,ct.pre=some q->q x)->ec ct.ax args.toList cs->TR w X ct.p x cs->
  Calls P f args w λe w'=> ∃v,e= .returned v/\Below w.heap.size w w'/\pj w.heap.size ct.fresh w' X ct.ao ct.r (ct.F x) v
def gr(w:World)(X:Nat->Nat->Prop):List Nat->List Nat->List Value->List Value->Prop
 | [],[],[],pc=>pc= []
 |b::bs,n::sz,v::vs,pc=>v= .pointer (some ⟨b,0,none⟩)/\(∀q,X b q)/\ ∃(us:Array Value) (T:TypeId) (f:List Value),w.heap[b]? =some (.cells us T (0,0))/\us.size=n/\pc=us.toList++f/\gr w X bs sz vs f
 |_,_,_,_=>False
structure eF (bs:List Nat) (w w':World):Prop where
 os:w'.os=w.os
 tape:w'.tape=w.tape
 output:w'.output=w.output
 size:w.heap.size<=w'.heap.size
 block: ∀k,k<w.heap.size->k∉bs->w'.heap[k]? =w.heap[k]?
 shape: ∀k,k<w.heap.size->w'.shape? k=w.shape? k
 frozen: ∀k p,k<w.heap.size->w'.frozen? ⟨k,p,none⟩=w.frozen? ⟨k,p,none⟩
def ki(P:Program)(G:Gd)(f:FuncId)(cp:Cp):Prop:=
 ∀(x:cp.p.den) (w:World) (X:Nat->Nat->Prop) (args:Array Value) (cv pc:List Value) (bs:List Nat),G.H w->(∀b p,X b p->b<w.heap.size/\ ¬ G.gl b)->(∀q,cp.pre=some q->q x)->
  args.size=cp.mask.length->bs.Nodup->ec cp.ax (eV cp.mask args.toList) cv->gr w X bs cp.sz (fj cp.mask args.toList) pc->
  aE (λ_=>none) X w (eD cp.ex (enc cp.p x)) (cv++pc)->
  Calls P f args w λe w'=>(pnB cp x=false/\ ∃v,e= .returned v/\eF (if cp.ro then[]else bs) w w'/\pj w.heap.size none w' X cp.ao cp.r (cp.F x).1 v/\
   ∃g,gr w' X bs cp.sz (fj cp.mask args.toList) g/\TR w' X cp.q (cp.F x).2 g)\/
   (pnB cp x=true/\e= .panicked [{ v:=cp.pv,recovered:=false}]/\eF (if cp.ro then[]else bs) w w'/\ ∃g,gr w' X bs cp.sz (fj cp.mask args.toList) g/\TR w' X cp.q (cp.F x).2 g)
def M0(P:Program)(G:Gd)(f:FuncId)(cm:Cm):Prop:=
 ∀(x:cm.p.den) (w:World) (X:Nat->Nat->Prop) (args:Array Value) (cs:List Value),G.H w->(∀b p,X b p->b<w.heap.size/\ ¬ G.gl b)->(∀q,cm.pre=some q->q x)->ec cm.ax args.toList cs->TR w X cm.p x cs->
  Calls P f args w λe w'=>Below w.heap.size w w'/\match(cm.F x).1 with
   |some y=> ∃(b:Nat) (us:Array Value) (T:TypeId),e= .returned (.tuple #[.pointer (some ⟨b,0,none⟩),.int .i64 0])/\w.heap.size<=b/\w'.heap[b]? =some (.cells us T (0,0))/\TR w' (λg q=>X g q\/g=b) cm.q y us.toList
   |none=>e= .returned (.tuple #[.pointer none,.int .i64 (cm.F x).2])
def lG(b f p:Nat):Map:=λk=>if k=0 then some (b,0)else if k=1 then some (f,p)else none
structure E2 (X:Nat->Nat->Prop) (w:World) (b rb p:Nat) (T T0:TypeId) (v:Value) (l:List Int):Prop where
 box:w.heap[b]? =some (.cells #[v] T0 (0,0))
 cell:CR (lG b rb p) X w (.bq (.int .u8) 1) v
 row:iv (lG b rb p) X w 1 (.vec false T (.int .u8) l)
 live:p % 2=0->rb≠b/\rb<w.heap.size
def atu(P:Program)(G:Gd)(f:FuncId)(g:Cw):Prop:=
 ∀(x:g.p.den) (l:List Int) (w:World) (X:Nat->Nat->Prop) (args:List Value) (cs:List Value) (b h p:Nat) (j:TypeId) (v:Value),G.H w->(∀b p,X b p->b<w.heap.size/\ ¬ G.gl b)->(∀q,g.pre=some q->q x l)->
  ec g.ax args cs->TR w X g.p x cs->(∀q,X b q)->(p % 2=0-> ∀q,X h q)->E2 X w b h p g.el j v l->
  Calls P f (Value.pointer (some ⟨b,0,none⟩)::args).toArray w λe w'=>e= .returned (.tuple #[])/\eF (if p % 2=0 then[b,h]else[b]) w w'/\
   ∃i k s,E2 (λo q=>X o q/\(p % 2=0->o≠h)) w' b i k g.el j s (g.F x l)/\(k % 2=0->(p % 2=0/\i=h)\/w.heap.size<=i)
def mv:List Am->List Value->List Value->List Nat->Prop
 | [],[],vs,bs=>vs= []/\bs= []
 | .v::m,a::g,vs,bs=> ∃h,vs=a::h/\mv m g h bs
 | .p::m,a::g,vs,bs=> ∃b bs',a= .pointer (some ⟨b,0,none⟩)/\bs=b::bs'/\mv m g vs bs'
 | .c f n::m,a::g,vs,bs=> ∃(us:List Value) (cs bs':List Nat),a= .func (.func f) #[] us.toArray/\cs.length=n/\aj (λb u=>u= .pointer (some ⟨b,0,none⟩)) cs us/\bs=cs++bs'/\mv m g vs bs'
 |_,_,_,_=>False
def kC(w:World):List Nat->List Nat->List Value->Prop
 | [],[],pc=>pc= []
 |b::bs,n::sz,pc=> ∃(us:Array Value) (T:TypeId) (f:List Value),w.heap[b]? =some (.cells us T (0,0))/\us.size=n/\pc=us.toList++f/\kC w bs sz f
 |_,_,_=>False
def bD(m:Map)(b:Nat):Prop:= ∃k p,m k=some (b,p)/\p % 2=0
structure RowsIn (X:Nat->Nat->Prop) (w:World) (bs:List Nat) (vs:List (cT)) (cs:List Cell) (us:List Value) (mR:Map):Prop where
 bK: ∀k,vxB vs 0 cs k=none->mR k=none
 box: ∀k bx,vxB vs 0 cs k=some bx->iv mR X w k bx
 cells:aE mR X w (vxC vs 0 cs) us
 inj: ∀k k' b p p',mR k=some (b,p)->mR k'=some (b,p')->p % 2=0->p' % 2=0->k=k'
 live: ∀k b p,mR k=some (b,p)->p % 2=0->0<p/\b∉bs/\b<w.heap.size
structure eB (L:Nat->Prop) (w w':World):Prop where
 os:w'.os=w.os
 tape:w'.tape=w.tape
 output:w'.output=w.output
 size:w.heap.size<=w'.heap.size
 block: ∀k,k<w.heap.size-> ¬ L k->w'.heap[k]? =w.heap[k]?
 shape: ∀k,k<w.heap.size->w'.shape? k=w.shape? k
 frozen: ∀k p,k<w.heap.size->w'.frozen? ⟨k,p,none⟩=w.frozen? ⟨k,p,none⟩
def zh(ao:ah)(cs:List Value)(v:Value):Prop:=match ao with
 | .none=>v= .tuple #[]
 | .one s=>ec [s] [v] cs
 | .tup f=> ∃vs:List Value,v= .tuple vs.toArray/\ec f vs cs
structure pf (cv:Cv) (x:cv.p.den) (X:Nat->Nat->Prop) (bs:List Nat) (mR:Map) (o0:Nat) (w w':World) (rv pc':List Value) (mR':Map):Prop where
 kY:if cv.ro then pc'= []else kC w' bs cv.sz pc'
 rows:RowsIn (λb q=>(X b q/\ ¬ bD mR b)\/bD mR' b) w' bs (nmV o0 cv.vo) (enc (.pair cv.r cv.q) (cv.F x)) (rv++pc') mR'
 aN: ∀b,bD mR' b->bD mR b\/w.heap.size<=b
def gG(P:Program)(G:Gd)(f:FuncId)(cv:Cv):Prop:=
 ∀(x:cv.p.den) (w:World) (X:Nat->Nat->Prop) (args:Array Value) (h cs pc:List Value) (bs:List Nat) (g:Map),G.H w->(∀b p,X b p->b<w.heap.size/\ ¬ G.gl b)->(∀q,cv.pre=some q->q x)->
  bs.Nodup->(∀b∈bs,∀q,X b q)->(∀b,bD g b-> ∀q,X b q)->mv cv.mask args.toList h bs->ec cv.ax h cs->kC w bs cv.sz pc->RowsIn X w bs (nmV bn cv.vi) (enc cv.p x) (cs++pc) g->
  Calls P f args w λe w'=> ∃v i,e= .returned v/\zh cv.ao i v/\eB (λb=>(cv.ro=false/\b∈bs)\/bD g b) w w'/\
   ∀j,nodup (vnames (nmV j cv.vo))=true-> ∃k l,pf cv x X bs g j w w' i k l
def AI(P:Program)(G:Gd)(f:FuncId):Zc->Prop
 | .mk c=>M0 P G f c
 | .pw c=>atu P G f c
 | .pv c=>gG P G f c
theorem dY.AJ{P:Program}{G:Gd}{f:FuncId}{ct:Ct}(h:dY P G f ct):dY P G f { ct with fresh:=none}:=by
 intro x w X args cs h1 h2 h3 h4 h5;refine(h x w X args cs h1 h2 h3 h4 h5).mono λe w' ⟨v,g,hb,cs',h6,h7,i⟩=>⟨v,g,hb,cs',h6,(λT j=>by cases j),i⟩
def tC(P:Program)(f:FuncId):Xt->Prop
 | .Dl=> ∀(b:Nat) (w:World),(callFunc f #[.float .f64 b]).run P w= .ok (.value (.int .u64 b)) w
 | .f64from=> ∀(n:Int) (w:World),(callFunc f #[.int .u64 n]).run P w= .ok (.value (.float .f64 n.toNat)) w
structure dr (P:Program) (C:Ctx):Prop where
 xt: ∀f x,C.xt f=some x->tC P f x
 mixed:P.follows .mixedOrders=true
 D: ∀t d,C.D t=some d->jL P t d
 Γ: ∀f ct,C.Γ f=some ct->dY P C.G f ct/\ ∃fn,P.funcs[f]? =some fn/\(fn.name== "runtime.NumGoroutine")=false/\fn.body.isNone=false
 pg: ∀f cp,C.pg f=some cp->ki P C.G f cp/\ ∃fn,P.funcs[f]? =some fn/\(fn.name== "runtime.NumGoroutine")=false/\fn.body.isNone=false
 zk: ∀f z,C.zk f=some z->AI P C.G f z/\ ∃fn,P.funcs[f]? =some fn/\(fn.name== "runtime.NumGoroutine")=false/\fn.body.isNone=false
 fv: ∀cv,C.fv=some cv-> ∀g∈cv.fs,dY P C.G g { p:=cv.p,ax:=cv.ax,r:=cv.r,ao:=cv.ao,pre:=none,fresh:=none,F:=cv.F g}/\ ∃fn,P.funcs[g]? =some fn/\(fn.name== "runtime.NumGoroutine")=false/\fn.body.isNone=false
 bytes: ∀t d i,C.D t=some d->P.info? t=some i->0<d.ty.n->i.bytes=d.bytes
 gv: ∀g e l,C.gv g=some ⟨e,l⟩-> ∃b,C.G.gl b/\ ∀(a:Act) (w:World) (X:Nat->Nat->Prop),C.G.H w->(∀b p,X b p-> ¬ C.G.gl b)->a.eval (.global g)= .pointer (some ⟨b,0,none⟩)/\jy w X e.n (TR w X e) l b 0
 eq: ∀t d,C.D t=some d->d.eq=true-> ∀(m:Map) (X:Nat->Nat->Prop) (w:World) (xs ys:List Cell) (r:Bool) (us vs:List Value),eqTy d.ty xs ys=some r->aE m X w xs us->aE m X w ys vs->
  xs.length=d.ty.n->ys.length=d.ty.n->
  (eqGuard .eql t (.tmp 0) (.tmp 0) (.agg us.toArray) (.agg vs.toArray)>>=λ_=>binOp .eql t (.agg us.toArray) (.agg vs.toArray)).run P w= .ok (.bool r) w/\
  (eqGuard .neq t (.tmp 0) (.tmp 0) (.agg us.toArray) (.agg vs.toArray)>>=λ_=>binOp .neq t (.agg us.toArray) (.agg vs.toArray)).run P w= .ok (.bool (!r)) w
section
variable {φ:Fr} {ν:Nat->Bool} {m:Map} {st:ASt} {a:Act} {w w':World} {own:List (bS)} {P:Program} {C:Ctx}
theorem adH{X:Nat->Nat->Prop}: ∀{t:Ty} {vs:List Value} {cs:List Cell},constCells t vs=some cs->aE m X w cs vs:=by
 intro t;induction t with
 |int k=>
  intro vs cs h;unfold constCells at h;split at h
  ·obtain⟨h1,h2⟩:=ba h
   cases h2;rw[qm h1];exact⟨rfl,trivial⟩
  ·cases h
 |flt k=>
  intro vs cs h;unfold constCells at h;split at h
  ·obtain⟨h1,h2⟩:=ba h
   cases h2;rw[vN h1];exact⟨rfl,trivial⟩
  ·cases h
 |sl e l=>
  intro vs cs h;unfold constCells at h;split at h
  ·cases h
   exact⟨⟨.inl ⟨rfl,rfl⟩,.inl ⟨rfl,rfl⟩⟩,trivial⟩
  ·cases h
 |unit=>
  intro vs cs h;unfold constCells at h;split at h
  ·cases h;trivial
  ·cases h
 |pair x y f g=>
  intro vs cs h;unfold constCells at h;split at h
  ·rename_i i j
   cases h;rw[bI];have:=aj.append (f i) (g j);simpa[aE]using this
  ·cases h
 |fnt=>intro vs cs h;cases h
 |_=>
  intro vs cs h;unfold constCells at h;split at h
  ·cases h
   exact⟨rfl,trivial⟩
  ·cases h
theorem aeF{X:Nat->Nat->Prop}{ty:Option Ty}{v:Value}{s:SV}(h:constTV ty v=some s):SR m X w s v:=by
 unfold constTV at h;split at h
 ·cases h;exact rfl
 ·cases h;exact rfl
 ·cases h;exact rfl
 ·cases h;exact rfl
 ·cases h;exact rfl
 ·split at h
  ·cases h;exact⟨.inl ⟨rfl,rfl⟩,.inl ⟨rfl,rfl⟩⟩
  ·cases h
 ·split at h
  ·rw[av6]at h
   obtain⟨cs,h1,rfl⟩:=h;exact⟨_,rfl,adH h1⟩
  ·cases h
 ·cases h
theorem yE(hs:aG φ ν m st a w)(i:et ν own){ty:Option Ty}{x:Operand}{tv:TV}(h:opnd st own ty x=some tv):VR m (XA φ m) w tv (a.eval x):=by
 cases x with
 |tmp t=>
  simp only[opnd]at h;split at h
  ·rename_i g j
   obtain⟨h1,h2⟩:=ba h;cases h2;exact hs.slot t g j (agL h1 i)
  ·cases h
 |const v=>
  simp only[opnd,av6]at h;obtain⟨s,h1,rfl⟩:=h;exact aeF h1
 |func f=>simp only[opnd,aup]at h;subst h;exact rfl
 |global g=>cases h
theorem lq(hs:aG φ ν m st a w)(f:et ν own){ty:Option Ty}{x:Operand}{s:SV}(h:opnd1 st own ty x=some s):SR m (XA φ m) w s (a.eval x):=by
 unfold opnd1 at h;split at h
 ·rename_i i g
  cases h;exact yE hs f g
 ·cases h
theorem bo(hs:aG φ ν m st a w)(f:et ν own){ty:Option Ty}{x:Operand}{c:Cell}(h:opndc st own ty x=some c):CR m (XA φ m) w c (a.eval x):=by
 unfold opndc at h;split at h
 ·rename_i i g
  cases h;exact yE hs f g
 ·cases h
theorem ja{X:Nat->Nat->Prop}: ∀{t:Ty} {x:t.den} {vs:List Value},TR w X t x vs->aE m X w (enc t x) vs:=by
 intro t;induction t with
 |pair a b f g=>
  intro x vs h;obtain⟨i,v2,rfl,h1,h2⟩:=h;simp only[enc,bI];exact aj.append (f h1) (g h2)
 |sl e j=>intro l vs h;obtain⟨v,rfl,h1⟩:=h;exact⟨⟨h1,trivial⟩,trivial⟩
 |unit=>intro x vs h;cases h;trivial
 |_=>intro x vs h;cases h;exact⟨rfl,trivial⟩
theorem lu: ∀(t:Ty) (x:t.den),(enc t x).length=t.n:=by
 intro t;induction t with
 |pair a b f g=>simp_all [enc,Ty.n,bI]
 |_=>simp_all [enc,Ty.n]
theorem Cd{a b:Ty}{l:List a.den}{f:List b.den}(h:castL a b l=some f): ∃e:a=b,f=e▸l:=by
 grind [castL]
theorem gZ{X:Nat->Nat->Prop}: ∀{t:Ty} {cs:List Cell} {x:t.den} {vs:List Value},dec t cs=some x->aE m X w cs vs->TR w X t x vs:=by
 intro t;induction t with
 |int k=>
  intro cs x vs h f;unfold dec at h;split at h
  ·obtain⟨h1,h2⟩:=ba h
   cases h2;match vs,f with| [v],f=>obtain⟨g,_⟩:=f;rw[<- qm h1]at g;exact av2 (· :: []) g
  ·cases h
 |flt k=>
  intro cs x vs h f;unfold dec at h;split at h
  ·obtain⟨h1,h2⟩:=ba h
   cases h2;match vs,f with| [v],f=>obtain⟨g,_⟩:=f;rw[<- vN h1]at g;exact av2 (· :: []) g
  ·cases h
 |unit=>
  intro cs x vs h f;unfold dec at h;split at h
  ·match vs,f with| [],_=>rfl
  ·cases h
 |sl e u=>
  intro cs x vs h f;unfold dec at h;split at h
  ·obtain⟨i,h2⟩:=Cd h
   subst i;subst h2;match vs,f with| [v],f=>exact⟨v,rfl,f.1.1⟩
  ·cases h
 |pair x y j l=>
  intro cs z vs h f;unfold dec at h;split at h
  ·rename_i o s
   cases h;exact⟨vs.take _,vs.drop _,(awi _ _).symm,j o (aj.take _ f),l s (aj.drop _ f)⟩
  ·cases h
 |_=>
  intro cs x vs h f;unfold dec at h;split at h
  ·cases h
   match vs,f with| [v],f=>exact av2 (· :: []) f.1
  ·cases h
end
end
section
theorem jT(b o j:Nat):(⟨b,o,none⟩:Addr).add j=⟨b,o+j,none⟩:=by
 simp_all [Addr.add]
section
variable {φ:Fr} {ν:Nat->Bool} {m:Map} {st:ASt} {a:Act} {w w':World} {own:List (bS)} {W:List Nat} {P:Program} {C:Ctx} {o:Oper} {e:Eff}
 {K:Act->World->Prop} {Q:Exit->Act->World->Prop}
theorem pV{X:Nat->Nat->Prop}{agg:Bool}{cs:List Cell}{v:SV}{vs:List Value}(h:mkSV agg cs=some v)(f:aE m X w cs vs):SR m X w v (cd agg vs):=by
 unfold mkSV at h;cases agg with
 |true=>simp only[cnd,aup]at h;subst h;exact⟨_,rfl,by omega⟩
 |false=>
  split at h
  ·cases h
   match vs,f with| [v],f=>exact f.1
  ·cases h
theorem SV.rN{X:Nat->Nat->Prop}{v:SV}{u:Value}(h:SR m X w v u):aE m X w v.cells u.cells.toList:=by
 cases v with
 |one c=>
  have h1:=h;have:u.cells= #[u]:=by
   cases c with
   |bh t tl l=>
    rcases h1.1 with⟨_,rfl⟩|⟨a,cap,rfl,_⟩<;>rfl
   |box k off=>obtain⟨b,_,rfl⟩:=h1;rfl
   |elem t l i off=>obtain⟨b,o,rfl,_⟩:=h1;rfl
   |bq t k=>obtain⟨b,p,_,_,h2⟩:=h1;rcases h2 with⟨_,rfl⟩|⟨_,cap,T,rfl,_⟩<;>rfl
   |velem t k i off=>obtain⟨b,p,_,_,rfl,_⟩:=h1;rfl
   |fn f=>cases f<;>(cases h1;rfl)
   |clo f ks=>obtain⟨vs,rfl,_⟩:=h1;rfl
   |aelem k off e len i=>obtain⟨b,_,rfl,_⟩:=h1;rfl
   |arrs k off e len=>obtain⟨b,_,rfl⟩:=h1;rfl
   |nlb p=>obtain⟨b,rfl,_⟩:=h1;rfl
   |_=>cases h1;rfl
  rw[this];exact⟨h1,trivial⟩
 |agg cs=>obtain⟨vs,rfl,h2⟩:=h;exact h2
theorem CR.one{X:Nat->Nat->Prop}{c:Cell}{u:Value}(h:CR m X w c u):u.oneCell'=true:=by
 cases c with
 |bh t tl l=>rcases h.1 with⟨_,rfl⟩|⟨a,cap,rfl,_⟩<;>rfl
 |box k off=>obtain⟨b,_,rfl⟩:=h;rfl
 |elem t l i off=>obtain⟨b,o,rfl,_⟩:=h;rfl
 |bq t k=>obtain⟨b,p,_,_,h2⟩:=h;rcases h2 with⟨_,rfl⟩|⟨_,cap,T,rfl,_⟩<;>rfl
 |velem t k i off=>obtain⟨b,p,_,_,rfl,_⟩:=h;rfl
 |fn f=>cases f<;>(cases h;rfl)
 |clo f ks=>obtain⟨vs,rfl,_⟩:=h;rfl
 |aelem k off e len i=>obtain⟨b,_,rfl,_⟩:=h;rfl
 |arrs k off e len=>obtain⟨b,_,rfl⟩:=h;rfl
 |nlb p=>obtain⟨b,rfl,_⟩:=h;rfl
 |_=>cases h;rfl
theorem run_sizeOf{t:TypeId}{ty:Ty}{f:Bool}(h:lC P t ty f):(sizeOf t).run P w= .ok ty.n w:=by
 obtain⟨i,h1,h2,h3⟩:=h.info;simp_all [sizeOf,typeInfo]
theorem NQ{t:TypeId}{ty:Ty}{f:Bool}(h:lC P t ty f):(zeroValue t).run P w= .ok (cd f (zeroVs ty)) w:=by
 obtain⟨i,h1,h2,h3⟩:=h.info;simp_all [zeroValue,typeInfo]
theorem rr{t:TypeId}{d:TD}(f:jL P t d){b o:Nat}{vs:List Value}(g:vs.length=d.ty.n)(h: ∀j,j<d.ty.n->w.cell? ⟨b,o+j,none⟩=some (vs.getD j undef))
  (i:d.agg=false->d.ty.n=1):(loadVar t ⟨b,o,none⟩).run P w= .ok (cd d.agg vs) w:=by
 unfold loadVar;simp only[auy,f.isAgg,aus];cases hd:d.agg with
 |true=>
  simp only[azk,auy,run_sizeOf f.info,aus];rw[run_loadCells w ⟨b,o,none⟩ d.ty.n (λj=>vs.getD j undef) (λj k=>by simp_all [jT])];simp only[aus,avh,cd];congr 3
  apply aw2;grind
 |false=>
  have h1:=i hd;have:=h 0 (by omega);simp only[awr]at this;simp only[awd,azj,run_load,this];match vs,g with
  | [v],_=>rfl
  | [],hl=>simp_all
  |_::_::_,hl=>simp_all
theorem fin(hs:aG φ ν m st a w'){d:Nat}{tv:TV}{v:Value}{p:Option Prop}(f:o.dst=some d)(g: ∀d,o.dst=some d->d<φ.n/\φ.D d=true)
  (i:(execOp a.eval o).run P w= .ok (.value v) w') (aQ:et ν own) (j:VR m (XA φ m) w' tv v)
  (k: ∀h w',Sat φ ν ((Eff.mk p (some (d,tv)) []).apply own st) h w'->K h w'):o.wp P a w K Q:=by
 unfold Oper.wp;rw[i];show K (a.put o.dst v) w';rw[f];exact k _ _ ⟨m,hs.put (g d f).1 (g d f).2 aQ j⟩
theorem Ht{p:Option Prop}{v:SV}(h:outE o p v=some e): ∃d,o.dst=some d/\e=⟨p,some (d,.v v),[]⟩:=by
 grind [outE]
structure mz (G:Gd) (φ:Fr):Prop where
 Gz:G.H φ.base
 gl:φ.gl=G.gl
structure At (P:Program) (C:Ctx) (φ:Fr) (ν:Nat->Bool) (own:List (bS)) (W:List Nat) (st:ASt) (o:Oper) (e:Eff) (m:Map) (a:Act) (w:World) (K:Act->World->Prop):Prop where
 ctx:dr P C
 fr:mz C.G φ
 ev:evOp C own W st o=some e
 bQ: ∀p,e.bQ=some p->p
 tags:et ν own
 yes: ∀d,d∈W-> ∀g c,st.slot d=some g->g.tv= .v (.one (.bool c))->ν d=c
 sat:aG φ ν m st a w
 dst: ∀d,o.dst=some d->d<φ.n/\φ.D d=true
 next: ∀a' w',Sat φ ν (e.apply own st) a' w'->K a' w'
theorem At.out{f:SV}{p:Option Prop}{v:Value}(h:At P C φ ν own W st o e m a w K)(g:outE o p f=some e)(i:(execOp a.eval o).run P w= .ok (.value v) w')(hb:Below w.heap.size w w')
  (j:SR m (XA φ m) w' f v):o.wp P a w K Q:=by
 obtain⟨d,k,rfl⟩:=Ht g;exact fin (tv:= .v f) (h.sat.ext hb) k h.dst i h.tags j h.next
theorem At.cq{f:SV}{p:Option Prop}{v:Value}(h:At P C φ ν own W st o e m a w K)(g:outE o p f=some e)(i:(execOp a.eval o).run P w= .ok (.value v) w)
 (j:SR m (XA φ m) w f v):o.wp P a w K Q:=h.out g i (aw6 _ _) j
theorem At.nH{f:SV}{p:Prop}(h:At P C φ ν own W st o e m a w K)(g:outE o (some p) f=some e):p:=by
 obtain⟨d,i,rfl⟩:=Ht g;exact h.bQ p rfl
theorem ajo{x:Operand}(g:o.op= .move x)(h:At P C φ ν own W st o e m a w K):o.wp P a w K Q:=by
 have f:=h.ev;simp only[evOp,g]at f;split at f
 ·rename_i v d i j
  cases f;exact fin h.sat j h.dst (by simp[execOp,g]) h.tags (yE h.sat h.tags i) h.next
 ·cases f
theorem afo{x:Operand}(g:o.op= .assign x)(h:At P C φ ν own W st o e m a w K):o.wp P a w K Q:=by
 have f:=h.ev;simp only[evOp,g]at f;split at f
 ·rename_i v d i j
  cases f;exact fin h.sat j h.dst (by simp[execOp,g]) h.tags (yE h.sat h.tags i) h.next
 ·cases f
theorem Pj{d:Nat}{b:Bool}{W:List Nat}(h:et ν own)(hb:d∈W->ν d=b):et ν (cnd (mem d W) ((d,b)::own) own):=by
 cases hm:mem d W with
 |false=>exact h
 |true=>
  intro x f;rcases List.mem_cons.1 f with rfl|f
  ·exact hb (cN.1 hm)
  ·exact h x f
theorem BN{X:Nat->Nat->Prop}{c:Bool}{x y z:Cell}{u v:Value}(h:mergeC c x y=some z)(f:c=true->CR m X w x u)(g:c=false->CR m X w y v):CR m X w z (if c then u else v):=by
 unfold mergeC at h;split at h
 ·grind [ba,qm]
 ·cases h
  cases c with
  |true=>exact f rfl
  |false=>exact g rfl
 ·obtain⟨h1,h2⟩:=ba h
  cases h2;cases c with
  |true=>exact f rfl
  |false=>rw[vN h1];exact g rfl
 ·cases h
  cases c with
  |true=>exact f rfl
  |false=>exact g rfl
 ·cases h
  cases c with
  |true=>exact f rfl
  |false=>exact g rfl
 ·split at h
  case h_2=>cases h
  rename_i j hb;obtain⟨rfl,i⟩:=Cd hb;subst i;cases h;cases c with
  |true=>exact⟨(f rfl).1,trivial⟩
  |false=>exact⟨(g rfl).1,trivial⟩
 ·cases h
theorem PM{X:Nat->Nat->Prop}{c:Bool}: ∀{xs ys zs:List Cell} {us vs:List Value},mergeL c xs ys=some zs->us.length=xs.length->vs.length=ys.length->(c=true->aE m X w xs us)->(c=false->aE m X w ys vs)->aE m X w zs (if c then us else vs)
 | [],[],zs,us,vs,h,j,k,g,i=>by
  grind [mergeL]
 |x::xs,y::ys,zs,[],vs,h,j,k,g,i=>by simp_all
 |x::xs,y::ys,zs,us,[],h,j,k,g,i=>by simp_all
 |x::xs,y::ys,zs,u::us,v::vs,h,j,k,g,i=>by
  simp only[mergeL]at h;split at h;case h_2=>cases h
  rename_i z l s hl;cases h;have h1:=BN s (λf=>(g f).1) (λf=>(i f).1);have h2:=PM hl (by simp_all) (by simp_all) (λf=>(g f).2) (λf=>(i f).2);cases c with
  |true=>exact⟨h1,h2⟩
  |false=>exact⟨h1,h2⟩
 | [],_::_,zs,us,vs,h,_,_,_,_=>by simp_all [mergeL]
 |_::_,[],zs,us,vs,h,_,_,_,_=>by simp_all [mergeL]
def putV(e:Nat)(i:Int)(f:List Value):Nat->Nat->List Value->List Value
 |0,_,us=>us
 |n+1,j,us=>(if i=j then f else us.take e)++putV e i f n (j+1) (us.drop e)
theorem QS{X:Nat->Nat->Prop}{e:Nat}{i:Int}{new:List Cell}{g:List Value}(k:aE m X w new g)(s:g.length=e): ∀{n j:Nat} {cs xs:List Cell} {us:List Value},putAt e i new n j cs=some xs->aE m X w cs us->us.length=n*e->
  aE m X w xs (putV e i g n j us)
 |0,j,cs,xs,us,h,f,hl=>by
  cases cs with
  |nil=>simp only[putAt,aup]at h;subst h;exact f
  |cons=>simp_all [putAt]
 |n+1,j,cs,xs,us,h,f,hl=>by
  simp only[putAt]at h;split at h;case h_2=>cases h
  rename_i z l t u;cases h;have x:=f.length;have h1:=PM t k.length.symm (by simp_all) (λ_=>k) (λ_=>aj.take e f);have h2:=QS k s u (aj.drop e f) (by grind);rw[bI];refine aj.append ?_ h2;simp_all [aE]
theorem SH{e:Nat}{i:Int}{f:List Value}: ∀{n j:Nat} {us:List Value},us.length=n*e->i<j->putV e i f n j us=us
 |0,j,us,hl,g=>rfl
 |n+1,j,us,hl,g=>by
  simp only[putV];rw[au6 (by omega),SH (by grind) (by omega),awi]
theorem RR{e:Nat}{i:Int}{f:List Value}(hi:0<=i): ∀{n j:Nat} {us:List Value},us.length=n*e->j<=i->i<(j+n:Int)->
  putV e i f n j us=us.take ((i.toNat-j)*e)++f++us.drop ((i.toNat-j)*e+e)
 |0,j,us,hl,h1,h2=>by omega
 |n+1,j,us,hl,h1,h2=>by
  simp only[putV];by_cases g:i=j
  ·have:i.toNat-j=0:=by omega
   rw[ava g,this,axb,ay8,awv,avs,SH (by rw[avo,hl,avx];omega) (by omega)]
  ·rw[au6 g,RR hi (by rw[avo,hl,avx];omega) (by omega) (by omega)]
   have h:(i.toNat-j)*e=e+(i.toNat - (j+1))*e:=by
    rw[show i.toNat-j=(i.toNat - (j+1))+1 by omega,avx];omega
   rw[h,awo,show e+((i.toNat - (j+1))*e+e)=e+(i.toNat - (j+1))*e+e by omega];rw[<- avb,<- avb,axi]
theorem xQ{X:Nat->Nat->Prop}{t:Ty}: ∀{n:Nat} {cs:List Cell} {l:List t.den} {vs:List Value},decAll t n cs=some l->aE m X w cs vs->
  l.length=n/\vs.length=n*t.n/\ ∀i (h:i<l.length),TR w X t l[i] ((vs.drop (i*t.n)).take t.n)
 |0,cs,l,vs,h,f=>by
  cases cs with
  |nil=>
   simp only[decAll,aup]at h;subst h;have:=f.length;grind
  |cons c cs=>simp_all [decAll]
 |n+1,cs,l,vs,h,f=>by
  simp only[decAll]at h;split at h;case h_2=>cases h
  rename_i x k g hl;cases h;obtain⟨h1,h2,h3⟩:=xQ hl (aj.drop t.n f);have j:=gZ g (aj.take t.n f);have s:=j.len;refine⟨by simp_all,by grind,λi hi=> ?_⟩;cases i with
  |zero=>simp_all
  |succ i=>
   grind [List.drop_drop,Nat.succ_mul]
theorem ajh{c x y:Operand}(s:o.op= .pick c x y)(h:At P C φ ν own W st o e m a w K):o.wp P a w K Q:=by
 have f:=h.ev;simp only[evOp,s]at f;split at f;case h_2=>cases f
 rename_i cv ct i A;have I:a.eval c= .bool cv:=bo h.sat h.tags i;have J:c= .tmp ct:=by
  revert A;cases c<;>simp
 have t:ct∈W->ν ct=cv:=by
  intro j;subst J;simp only[opndc,opnd]at i;split at i
  ·rename_i T k
   split at k
   ·rename_i g L
    obtain⟨_,h2⟩:=ba k;simp only[aup]at h2 i;exact h.yes ct j g cv L (by rw[h2,i])
   ·cases k
  ·cases i
 have l:(execOp a.eval o).run P w= .ok (.value (if cv then a.eval x else a.eval y)) w:=by
  simp[execOp,s,I,asBool]
 split at f;case h_2=>cases f
 rename_i xc M N O;have hX:cv=true->CR m (XA φ m) w xc (a.eval x):=λht=>bo h.sat (Pj h.tags λj=>by rw[t j,ht]) N
 have u:cv=false->CR m (XA φ m) w M (a.eval y):=λht=>bo h.sat (Pj h.tags λj=>by rw[t j,ht]) O
 split at f
 ·split at f
  ·rename_i U
   refine h.cq f l ?_;cases cv with
   |true=>exact rfl
   |false=>exact u rfl
  ·cases f
 ·split at f
  ·rename_i xb
   refine h.cq f l ?_;cases cv with
   |true=>exact hX rfl
   |false=>exact rfl
  ·cases f
 ·split at f
  ·rename_i z S
   exact h.cq f l (BN S hX u)
  ·cases f
theorem aew{agg:Bool}{cs:List Cell}{v:SV}(h:mkSV agg cs=some v):v.cells=cs:=by
 unfold mkSV at h;cases agg with
 |true=>simp only[cnd,aup]at h;subst h;rfl
 |false=>
  simp only[cnd]at h;split at h
  ·cases h;rfl
  simp_all
theorem uH{X:Nat->Nat->Prop}: ∀t:Ty,aE m X w (zeroCells t) (zeroVs t):=by
 intro t;induction t with
 |pair a b f g=>simp only[zeroCells,bI];exact aj.append f g
 |sl e h=>exact⟨⟨.inl ⟨rfl,rfl⟩,.inl ⟨rfl,rfl⟩⟩,trivial⟩
 |unit=>trivial
 |_=>exact⟨rfl,trivial⟩
theorem QI: ∀t:Ty,(zeroCells t).length=t.n:=by
 intro t;induction t with
 |pair a b f g=>simp_all [zeroCells,Ty.n,bI]
 |_=>rfl
theorem G4{d:TD}(h1:d.agg=false->d.ty.n=1){X:Nat->Nat->Prop}:aE m X w (zeroCells d.ty) (cd d.agg (zeroVs d.ty)).cells.toList:=by
 have: ∃v,mkSV d.agg (zeroCells d.ty)=some v:=by
  cases hd:d.agg with
  |true=>exact⟨_,rfl⟩
  |false=>
   have:=QI d.ty;rw[h1 hd]at this;match g:zeroCells d.ty,this with
   | [c],_=>exact⟨_,rfl⟩
 obtain⟨v,f⟩:=this;have:=SV.rN (pV f (uH (m:=m) (X:=X) (w:=w) d.ty));grind [aew]
theorem aiw{t:TypeId}(i:o.op= .alloc t)(h:At P C φ ν own W st o e m a w K):o.wp P a w K Q:=by
 have f:=h.ev;simp only[evOp,i]at f;split at f;case h_2=>cases f
 rename_i d k l g;split at f;case h_2=>cases f
 rename_i s;cases f;have j:=h.ctx.D t d l;have u:(execOp a.eval o).run P w= .ok (.value (.pointer (some ⟨w.heap.size,0,none⟩))) (w.alloc (.cells (cd d.agg (zeroVs d.ty)).cells t)):=by
  simp[execOp,i,Instr.alloc,NQ j.info,newVar,newRow]
 unfold Oper.wp;rw[u];show K (a.put o.dst _) _;rw[g];exact h.next _ _ (h.sat.Ul (h.dst k g).1 (h.dst k g).2 s (G4 j.one) h.tags)
theorem alI{t:TypeId}{x:Operand}(i:o.op= .box t x)(h:At P C φ ν own W st o e m a w K):o.wp P a w K Q:=by
 have f:=h.ev;simp only[evOp,i]at f;split at f;case h_2=>cases f
 rename_i v k j g;split at f;case h_2=>cases f
 rename_i l;cases f;have s:(execOp a.eval o).run P w= .ok (.value (.pointer (some ⟨w.heap.size,0,none⟩))) (w.alloc (.cells (a.eval x).cells t)):=by
  simp_all [execOp,Instr.box,newVar,newRow]
 unfold Oper.wp;rw[s];show K (a.put o.dst _) _;rw[g];exact h.next _ _ (h.sat.Ul (h.dst k g).1 (h.dst k g).2 l (SV.rN (lq h.sat h.tags j)) h.tags)
theorem xN(hs:aG φ ν m st a w){k off:Nat}{cs:List Cell}{u:Value}(f:CR m (XA φ m) w (.box k off) u)(hb:st.box k=some (.cells cs)\/st.box k=some (.ro cs)):
  ∃b vs T,m k=some (b,0)/\u= .pointer (some ⟨b,off,none⟩)/\w.heap[b]? =some (.cells vs T (0,0))/\aE m (XA φ m) w cs vs.toList:=by
 obtain⟨b,h1,rfl⟩:=f;rcases hb with hb|hb
 all_goals
  obtain⟨g,vs,T,h2,h3,h4⟩:=hs.box k _ hb;simp_all
theorem m1{b j:Nat}{vs:Array Value}{T:TypeId}{z:aR}(h:w.heap[b]? =some (.cells vs T z)):w.cell? ⟨b,j,none⟩=vs[j]? :=by
 simp[World.cell?,h]
theorem pL(g o:Nat)(t:TypeId): ∀(vs:List Value) (i:Nat) (f:Array Value) (w:World) {z:aR} {q:Prop},w.heap[g]? =some (.cells f t z)->wc z f.size q->o+i+vs.length<=f.size->(∀v∈vs,v.oneCell'=true)->
  (storeCells ⟨g,o,none⟩ vs i).run P w= .ok () (w.setRow g (f.toList.take (o+i)++vs++f.toList.drop (o+i+vs.length)).toArray)
 | [],i,f,w,z,q,h,_,_,_=>by
  simp only[storeCells,aws,avk,awr,awi,Array.toArray_toList];rw[setRow_self w g f t z h];rfl
 |v::rest,i,f,w,z,q,h,j,hl,h1=>by
  have hi:o+i<f.size:=by simp at hl;omega
  have k:(⟨g,o,none⟩:Addr).add i=⟨g,o+i,none⟩:=by unfold Addr.add;split<;>simp_all
  have l:w.cell? ⟨g,o+i,none⟩=some f[o+i]:=by simp[World.cell?,h,hi]
  have s:w.frozen? ⟨g,o+i,none⟩=false:=by
   simp only[World.frozen?,h];rcases j with rfl|⟨rfl,_⟩
   ·simp
   ·simp;omega
  have u:(store ((⟨g,o,none⟩:Addr).add i) v).run P w= .ok () (w.setRow g (f.setIfInBounds (o+i) v)):=by
   rw[k,run_store P w _ v _ (h1 v (by simp)),l];simp[s,setCell_eq_setRow w g (o+i) f t z v h]
  have y:=pL g o t rest (i+1) (f.setIfInBounds (o+i) v) (w.setRow g (f.setIfInBounds (o+i) v)) (axd w g f _ t _ h) (by simpa using j) (by simp at hl⊢;omega) (λx A=>h1 x (by simp[A]));simp only[storeCells,auy,u,aus,y,setRow_setRow];congr 3
  have e:=list_seg_step f.toList (o+i) v rest (by simp at hl⊢;omega);simpa[Array.toList_setIfInBounds,az0]using e
theorem QV(hs:aG φ ν m st a w){k b p i:Nat}{T:TypeId}{e:Ty}{l:List e.den}(hb:st.box k=some (.vec true T e l))(hm:m k=some (b,p))(hi:i<fD p):
  p=2*l.length+2/\jc (XA φ m) w b T e l:=by
 obtain⟨f,g,h1,h2⟩:=hs.box k _ hb;grind [fD]
theorem ok_load{t:TypeId}{x:Operand}(V:o.op= .load t x)(h:At P C φ ν own W st o e m a w K):o.wp P a w K Q:=by
 have g:=h.ev;simp only[evOp,V]at g;split at g;case h_5=>cases g
 ·rename_i k off d J M
  have u:=h.ctx.D t d M;have b0: ∀cs,(st.box k=some (.cells cs)\/st.box k=some (.ro cs))->
    (match mkSV d.agg ((cs.drop off).take d.ty.n)with|some v=>cnd (Nat.ble (Nat.add off d.ty.n) (len' cs)) (outE o none v) none|none=>none)=some e->o.wp P a w K Q:=by
   intro cs y g;split at g;case h_2=>cases g
   rename_i v N;obtain⟨h1,h2⟩:=ba g;have a2:off+d.ty.n<=cs.length:=by have:=au7 h1;rwa [gu]at this
   obtain⟨b,vs,T,hm,A,Y,s⟩:=xN h.sat (bo h.sat h.tags J) y;have Z:=s.length;have h8:aE m (XA φ m) w ((cs.drop off).take d.ty.n) ((vs.toList.drop off).take d.ty.n):=aj.take _ (aj.drop _ s);have O:(execOp a.eval o).run P w= .ok (.value (cd d.agg ((vs.toList.drop off).take d.ty.n))) w:=by
    simp only[execOp,V,A,Instr.loadAt,Instr.sureAddr,auy,avh,aus];rw[rr u (vs:=(vs.toList.drop off).take d.ty.n) (by simp at Z⊢;omega) (λj U=>by
     rw[m1 Y];simp at Z;rw[au9,av7,ava U,awl,avy,awp (by omega)];rfl) u.one]
    rfl
   exact h.cq h2 O (pV N h8)
  split at g
  ·rename_i cs y
   refine b0 cs ?_ g;unfold rdBox at y;split at y
   ·rename_i S;cases y;exact .inl S
   ·rename_i S;cases y;exact .inr S
   ·cases y
  ·cases g
 ·rename_i f l i off d J M
  have u:=h.ctx.D t d M;split at g;case h_2=>cases g
  rename_i v N;obtain⟨h1,h2⟩:=ba g;have a2:off+d.ty.n<=f.n:=au7 h1;obtain⟨b,o',A,hi,b2⟩:=bo h.sat h.tags J;obtain⟨vs,hl,hc,hr⟩:=b2.1 i.toNat hi;have h9:nth f l i=l[i.toNat]:=by unfold nth;rw[au9,avc hi];rfl
  have s:=ja (m:=m) hr;rw[<- h9]at s;have h8:aE m (XA φ m) w (((enc f (nth f l i)).drop off).take d.ty.n) ((vs.drop off).take d.ty.n):=aj.take _ (aj.drop _ s);have O:(execOp a.eval o).run P w= .ok (.value (cd d.agg ((vs.drop off).take d.ty.n))) w:=by
   simp only[execOp,V,A,Instr.loadAt,Instr.sureAddr,auy,avh,aus];rw[rr u (vs:=(vs.drop off).take d.ty.n) (by simp;omega) (λj U=>by
    have:=hc (off+j) (by omega);rw[show o'+(i.toNat*f.n+off)+j=o'+(i.toNat*f.n+(off+j))by omega,this];rw[au9,au9,av7,ava U,awl]) u.one]
   rfl
  exact h.cq h2 O (pV N h8)
 ·rename_i k off f len i d J M
  have u:=h.ctx.D t d M;split at g;case h_2=>cases g
  rename_i cs a1;split at g;case h_2=>cases g
  rename_i l hl;split at g;case h_2=>cases g
  rename_i v N;obtain⟨h1,h2⟩:=ba g;obtain⟨h0,h1⟩:=aF h1;have h0:=beq_eq h0;have a2:off+len*f.n<=cs.length:=by have:=au7 h1;rwa [gu]at this
  have y:st.box k=some (.cells cs)\/st.box k=some (.ro cs):=by
   unfold rdBox at a1;split at a1
   ·rename_i S;cases a1;exact .inl S
   ·rename_i S;cases a1;exact .inr S
   ·cases a1
  obtain⟨b,hm,A,b9,hi⟩:=bo h.sat h.tags J;obtain⟨b',vs,T,a6,c9,Y,s⟩:=xN (off:=0) h.sat ⟨b,hm,rfl⟩ y;rw[hm]at a6;cases a6;have Z:=s.length;rw[avd]at Z;obtain⟨g1,g2,g3⟩:=xQ hl (aj.take (len*f.n) (aj.drop off s));have a9:i.toNat<l.length:=by omega
  have a4:i.toNat*f.n+f.n<=len*f.n:=by rw[<- avx];exact au3 _ hi
  have h9:nth f l i=l[i.toNat]:=by unfold nth;rw[au9,avc a9];rfl
  have hr:=g3 i.toNat a9;have a3:=ja (m:=m) hr;rw[<- h9]at a3;clear hr g3 g2 hl;have Z:cs.length=vs.size:=by have:=s.length;rwa [avd]at this
  have d5:=h0;generalize len*f.n=L at a2 a4 a3⊢;generalize i.toNat*f.n=I at A a4 a3⊢;have O:(execOp a.eval o).run P w= .ok (.value (cd d.agg ((((vs.toList.drop off).take L).drop I).take f.n))) w:=by
   simp only[execOp,V,A,Instr.loadAt,Instr.sureAddr,auy,avh,aus];rw[rr u (vs:=(((vs.toList.drop off).take L).drop I).take f.n) (by simp;omega) (λj U=>by
    rw[m1 Y,au9,av7,ava (by omega),awl,av7,ava (by omega),awl,avy,
     show off+I+j=off+(I+j)by omega,awp (by omega)]
    rfl) u.one]
   rfl
  exact h.cq h2 O (pV N a3)
 ·rename_i e0 k i off d J M
  have u:=h.ctx.D t d M;split at g;case h_2=>cases g
  rename_i T f l y;split at g;case h_2=>cases g
  rename_i v N;obtain⟨h1,h2⟩:=ba g;obtain⟨h0,h1⟩:=aF h1;have h0:=beq_eq h0;have a2:off+d.ty.n<=f.n:=au7 h1;obtain⟨b,p,hm,hp,A,hi⟩:=bo h.sat h.tags J;obtain⟨b5,vs,cap,⟨z,Y,hz⟩,b6,e1,_,b7⟩:=QV h.sat y hm hi;rw[b5,eN]at hi;have h9:nth f l i=l[i.toNat]:=by unfold nth;rw[au9,avc hi];rfl
  have hr:=b7 i.toNat hi;have s:=ja (m:=m) hr;rw[<- h9]at s;have a4:i.toNat*f.n+f.n<=vs.size:=by rw[b6,<- avx];exact au3 _ (by omega)
  have h8:aE m (XA φ m) w (((enc f (nth f l i)).drop off).take d.ty.n) ((((vs.toList.drop (i.toNat*f.n)).take f.n).drop off).take d.ty.n):=aj.take _ (aj.drop _ s);have O:(execOp a.eval o).run P w= .ok (.value (cd d.agg ((((vs.toList.drop (i.toNat*f.n)).take f.n).drop off).take d.ty.n))) w:=by
   simp only[execOp,V,A,Instr.loadAt,Instr.sureAddr,auy,avh,aus];rw[rr u (vs:=(((vs.toList.drop (i.toNat*f.n)).take f.n).drop off).take d.ty.n) (by simp;omega) (λj U=>by
    rw[m1 Y,h0,au9,av7,ava U,awl,av7,ava (by omega),awl,avy,
     show i.toNat*f.n+off+j=i.toNat*f.n+(off+j)by omega,awp (by omega)]
    rfl) u.one]
   rfl
  exact h.cq h2 O (pV N h8)
end
end
section
section
variable {φ:Fr} {ν:Nat->Bool} {m:Map} {st:ASt} {a:Act} {w w':World} {own:List (bS)} {W:List Nat} {P:Program} {C:Ctx} {o:Oper} {e:Eff}
 {K:Act->World->Prop} {Q:Exit->Act->World->Prop}
theorem aj.right{α β:Type}{R:α->β->Prop}{S:β->Prop}(h: ∀a b,R a b->S b): ∀{g:List α} {bs:List β},aj R g bs-> ∀b∈bs,S b
 | [],[],_,_,hb=>by cases hb
 |_::_,_::_,f,b,hb=>by
  rcases List.mem_cons.1 hb with rfl|hb
  ·exact h _ _ f.1
  ·exact aj.right h f.2 b hb
 | [],_::_,f,_,_=>f.elim
 |_::_,[],f,_,_=>f.elim
theorem yq(cs:List Cell)(off:Nat)(xs:List Cell):mw cs off xs=cs.take off++xs++cs.drop (off+xs.length):=by
 simp[mw,bI,gu]
theorem Bz{α:Type}(xs new:List α)(q p:Nat)(h:q+new.length<=xs.length):
  (xs.take q++new++xs.drop (q+new.length))[p]? =if p<q then xs[p]? else if p<q+new.length then new[p-q]? else xs[p]? :=by
 grind
theorem fK{α:Type}(xs:List α)(a n j:Nat):((xs.drop a).take n)[j]? =if j<n then xs[a+j]? else none:=by
 grind
theorem ad3{i j n r:Nat}(h:j≠i)(hr:r<n):j*n+r<i*n\/i*n+n<=j*n+r:=by
 rcases Nat.lt_or_gt_of_ne h with h1|h1
 ·have:=au3 n (show j+1<=i from h1)
  rw[avx]at this;omega
 ·have:=au3 n (show i+1<=j from h1)
  rw[avx]at this;omega
theorem adJ{t:TypeId}{x y:Operand}(h9:o.op= .store t x y){A f:Ty}{k off:Nat}{i:Int}{T:TypeId}{l:List f.den}{nx:f.den}{d:TD}{v:SV}(a1:o.dst=none)
  (hx:opndc st own none x=some (.velem A k i off)) (hD:C.D t=some d) (hv:opnd1 st own (kf C t) y=some v) (O:st.box k=some (.vec true T f l))
  (a5:dec f (mw (enc f (nth f l i)) off v.cells)=some nx) (h0:A.n=f.n) (d9:v.cells.length=d.ty.n) (e3:off+d.ty.n<=f.n)
  (he:e=⟨none,none,[(k,some (.vec true T f (aJ f l i nx)))]⟩) (h:At P C φ ν own W st o e m a w K):o.wp P a w K Q:=by
 subst he;have hT:=h.ctx.D t d hD;obtain⟨b,p,hm,hp,hu,hi⟩:=bo h.sat h.tags hx;obtain⟨b0,vs,cap,⟨z,S,U⟩,V,b2,b3,Y⟩:=QV h.sat O hm hi;rw[b0,eN]at hi;have b4:nth f l i=l[i.toNat]:=by simp_all [nth]
 have hr:=Y i.toNat hi;have I:=ja (m:=m) hr;rw[<- b4]at I;have e5:i.toNat*f.n+f.n<=vs.size:=by rw[V,<- avx];exact au3 _ (by omega)
 have J:=SV.rN (lq h.sat h.tags hv);have b5:=J.length;have b6:=J.right λ_ _ h=>CR.one h
 simp only[avd]at b5;have Z:(a.eval y).cells.toList.length=d.ty.n:=by simp_all
 let s:=(a.eval y).cells.toList
 have Z:s.length=d.ty.n:=Z;let q:=i.toNat*f.n+off
 have hq:i.toNat*A.n+off=q:=by rw[h0]
 let g:Array Value:=(vs.toList.take q++s++vs.toList.drop (q+s.length)).toArray
 have b9:(execOp a.eval o).run P w= .ok .skip (w.setRow b g):=by
  have:=pL (P:=P) b q T (a.eval y).cells.toList 0 vs w S U (by omega) b6;simp only[execOp,h9,hu,Instr.storeAt,Instr.sureAddr,auy,avh,aus,storeVar,run_sizeOf hT.info,hq];rw[au6 (by omega)];rw[this];simp[g,s]
 have L:q+s.length<=vs.toList.length:=by grind
 have M:g.size=vs.size:=by simp[g,au1];simp at L;omega
 have c0:TR w (XA φ m) f nx ((g.toList.drop (i.toNat*f.n)).take f.n):=by
  refine gZ (m:=m) a5 ?_;rw[yq];have h1:=aj.append (aj.append (aj.take off I) J) (aj.drop (off+v.cells.length) I);have:(g.toList.drop (i.toNat*f.n)).take f.n=(((vs.toList.drop (i.toNat*f.n)).take f.n).take off++s++((vs.toList.drop (i.toNat*f.n)).take f.n).drop (off+v.cells.length)):=by
   apply aw2;intro j;have e6:((vs.toList.drop (i.toNat*f.n)).take f.n).length=f.n:=by simp;omega
   have e1:=Bz ((vs.toList.drop (i.toNat*f.n)).take f.n) s off j (by omega);rw[show off+v.cells.length=off+s.length by omega,e1,fK];simp only[g,ayg];rw[Bz _ _ _ _ L];simp only[fK];by_cases u:j<f.n
   ·simp only[ava u]
    by_cases h2:j<off
    ·rw[ava (by omega),ava h2]
    ·by_cases h3:j<off+s.length
     ·rw[au6 (by omega),ava (by omega),au6 h2,ava h3];congr 1;omega
     ·rw[au6 (by omega),au6 (by omega),au6 h2,au6 h3]
   ·simp only[au6 u]
    rw[au6 (by omega),au6 (by omega)]
  rw[this];exact h1
 unfold Oper.wp;rw[b9];show K (a.put o.dst undef) _;rw[a1];refine h.next _ _ ⟨m,h.sat.write (bx:= .vec true T f (aJ f l i nx)) O rfl hm (by omega) S M (λh8 d0=>⟨b,p,hm,.inr (.inl ⟨by simp[aJ];omega,g,cap,⟨z,d0,by rw[M];exact U⟩,by rw[M];exact V,by simpa[aJ]using b2,b3,λj u=> ?_⟩)⟩) rfl own⟩;have d5:j<l.length:=by simpa[aJ]using u
 by_cases N:j=i.toNat
 ·subst N
  have:(aJ f l i nx)[i.toNat]=nx:=by simp[aJ]
  rw[this];exact c0.mono h8 fJ _ _ _
 ·have:(aJ f l i nx)[j]=l[j]:=by simp[aJ,List.getElem_set,Ne.symm N]
  rw[this];have e2:(g.toList.drop (j*f.n)).take f.n=(vs.toList.drop (j*f.n)).take f.n:=by
   apply aw2;intro r;rw[fK,fK];split
   ·rename_i d7
    simp only[g,ayg];rw[Bz _ _ _ _ L];rcases ad3 N d7 with h3|h3
    ·rw[ava (by omega)]
    ·rw[au6 (by omega),au6 (by omega)]
   ·rfl
  rw[e2];exact(Y j d5).mono h8 fJ _ _ _
theorem ahP{t:TypeId}{x y:Operand}(V:o.op= .store t x y)(h:At P C φ ν own W st o e m a w K):o.wp P a w K Q:=by
 have g:=h.ev;simp only[evOp,V]at g;split at g;case h_4=>cases g
 case h_2=>
  rename_i k off f len i d v j N O;split at g;case h_2=>cases g
  rename_i cs I;split at g;case h_2=>cases g
  rename_i xs a6;obtain⟨h1,h2⟩:=ba g;obtain⟨J,s⟩:=aF h1;obtain⟨s,L⟩:=aF s;obtain⟨L,a7⟩:=aF L;have J:=beq_eq J;have s:v.cells.length=d.ty.n:=by rw[<- gu];simp_all
  have L:xs.length=len*f.n:=by rw[<- gu];simp_all
  have a9:off+len*f.n<=cs.length:=by have:=au7 a7;rwa [gu]at this
  cases h2;have u:o.dst=none/\opndc st own none x=some (.aelem k off f len i):=by
   split at j
   ·cases j
   ·rename_i S;exact⟨S,j⟩
  have Y:=h.ctx.D t d N;obtain⟨b,hm,Z,b0,hi⟩:=bo h.sat h.tags u.2;obtain⟨b',vs,T,a4,b7,U,z⟩:=xN (off:=0) h.sat ⟨b,hm,rfl⟩ (.inl I);rw[hm]at a4;cases a4;have h8:=z.length;have A:=SV.rN (lq h.sat h.tags O);have M:=A.length;have h9:=A.right λ_ _ h=>CR.one h
  simp only[avd]at h8 M;have b9:i.toNat*f.n+f.n<=len*f.n:=by rw[<- avx];exact au3 _ hi
  have a1:(a.eval y).cells.toList.length=f.n:=by rw[avd,<- M,s,J]
  have a2:(execOp a.eval o).run P w= .ok .skip (w.setRow b (vs.toList.take (off+i.toNat*f.n)++(a.eval y).cells.toList++vs.toList.drop (off+i.toNat*f.n+(a.eval y).cells.toList.length)).toArray):=by
   have:=aA7 (P:=P) b (off+i.toNat*f.n) T (a.eval y).cells.toList 0 vs w U (by rw[a1];omega) h9;simp only[execOp,V,Z,Instr.storeAt,Instr.sureAddr,auy,avh,aus,storeVar,run_sizeOf Y.info];rw[au6 (by rw[<- M,s];simp)];rw[this];simp
  unfold Oper.wp;rw[a2];show K (a.put o.dst undef) _;rw[u.1];have a5:((vs.toList.drop off).take (len*f.n)).length=len*f.n:=by simp;omega
  refine h.next _ _ ⟨m,h.sat.store I hm U ?_ ?_ own⟩
  ·simp;omega
  ·rw[yq]
   simp only[ayg];have hp:=QS A a1 a6 (aj.take (len*f.n) (aj.drop off z)) a5;rw[RR b0 a5 (by omega) (by omega)]at hp;simp only[azw]at hp;have b2:vs.toList.take (off+i.toNat*f.n)++(a.eval y).cells.toList++vs.toList.drop (off+i.toNat*f.n+(a.eval y).cells.toList.length)=
     vs.toList.take off++(((vs.toList.drop off).take (len*f.n)).take (i.toNat*f.n)++(a.eval y).cells.toList++((vs.toList.drop off).take (len*f.n)).drop (i.toNat*f.n+f.n))++vs.toList.drop (off+len*f.n):=by
    rw[a1,List.take_take,az1 (by omega),axi,azm,awo];have:vs.toList.drop (off+i.toNat*f.n+f.n)=(vs.toList.drop (off+(i.toNat*f.n+f.n))).take (len*f.n - (i.toNat*f.n+f.n))++vs.toList.drop (off+len*f.n):=by
     have h5:=(awi (len*f.n - (i.toNat*f.n+f.n)) (vs.toList.drop (off+(i.toNat*f.n+f.n)))).symm;rw[awo,show off+(i.toNat*f.n+f.n)+(len*f.n - (i.toNat*f.n+f.n))=off+len*f.n by omega]at h5;rw[<- az0]at h5⊢;exact h5
    rw[this];simp only[avb]
   rw[b2];refine aj.append (aj.append (aj.take _ z) hp) ?_;rw[L];exact aj.drop _ z
 case h_3=>
  rename_i e0 k i off d v j N O;split at g;case h_2=>cases g
  rename_i T f l I;split at g;case h_2=>cases g
  rename_i nx b4;obtain⟨h1,h2⟩:=ba g;obtain⟨J,s⟩:=aF h1;obtain⟨s,L⟩:=aF s;simp only[aup]at h2;have u:o.dst=none/\opndc st own none x=some (.velem e0 k i off):=by
   split at j
   ·cases j
   ·rename_i S;exact⟨S,j⟩
  exact adJ V u.1 u.2 N O I b4 (beq_eq J) (by rw[<- gu];exact beq_eq s) (au7 L) h2.symm h
 rename_i k off d v j N O;split at g;case h_2=>cases g
 rename_i cs I;have u:o.dst=none/\opndc st own none x=some (.box k off):=by
  split at j
  ·cases j
  ·rename_i S;exact⟨S,j⟩
 obtain⟨h1,h2⟩:=ba g;obtain⟨J,s⟩:=aF h1;cases h2;have Y:=h.ctx.D t d N;have a9:off+d.ty.n<=cs.length:=by have:=au7 s;rwa [gu]at this
 have b5:v.cells.length=d.ty.n:=by rw[<- gu];exact beq_eq J
 obtain⟨b,vs,T,hm,Z,U,z⟩:=xN h.sat (bo h.sat h.tags u.2) (.inl I);have h8:=z.length;have A:=SV.rN (lq h.sat h.tags O);have M:=A.length;have h9:=A.right λ_ _ h=>CR.one h
 simp only[avd]at h8 M;have a2:(execOp a.eval o).run P w= .ok .skip (w.setRow b (vs.toList.take off++(a.eval y).cells.toList++vs.toList.drop (off+(a.eval y).cells.toList.length)).toArray):=by
  have:=aA7 (P:=P) b off T (a.eval y).cells.toList 0 vs w U (by simp;omega) h9;simp only[execOp,V,Z,Instr.storeAt,Instr.sureAddr,auy,avh,aus,storeVar,run_sizeOf Y.info];rw[au6 (by rw[<- M,b5];simp)];rw[this];simp
 unfold Oper.wp;rw[a2];show K (a.put o.dst undef) _;rw[u.1];refine h.next _ _ ⟨m,h.sat.store I hm U ?_ ?_ own⟩
 ·simp;omega
 ·rw[yq]
  simp only[ayg];refine aj.append (aj.append (aj.take _ z) A) ?_;rw[show(a.eval y).cells.toList.length=v.cells.length from A.length.symm];exact aj.drop _ z
theorem ad9{x:Operand}(y:o.op= .nilCheck x)(h:At P C φ ν own W st o e m a w K):o.wp P a w K Q:=by
 have u:=h.ev;simp only[evOp,y]at u;split at u
 ·rename_i k off s
  have j:=bo h.sat h.tags s;obtain⟨b,h1,g⟩:=j;exact h.cq u (by simp[execOp,y,g]) ⟨b,h1,g⟩
 ·rename_i t l i off s
  have j:=bo h.sat h.tags s;obtain⟨b,z,g,h2⟩:=j;exact h.cq u (by simp[execOp,y,g]) ⟨b,z,g,h2⟩
 ·rename_i t k i off s
  have j:=bo h.sat h.tags s;obtain⟨b,p,hm,A,g,h2⟩:=j;exact h.cq u (by simp[execOp,y,g]) ⟨b,p,hm,A,g,h2⟩
 ·rename_i k off I len i s
  have j:=bo h.sat h.tags s;obtain⟨b,hm,g,h2⟩:=j;exact h.cq u (by simp[execOp,y,g]) ⟨b,hm,g,h2⟩
 ·rename_i f s
  have j:a.eval x= .func (.func f) #[] #[]:=bo h.sat h.tags s;exact h.cq u (by simp[execOp,y,j]) j
 ·rename_i f ks s
  have j:=bo h.sat h.tags s;obtain⟨vs,g,h2⟩:=j;exact h.cq u (by simp[execOp,y,g]) ⟨vs,g,h2⟩
 ·cases u
theorem aff{f:BinOp}{k:IntKind}{x y:Int}{p:Option Prop}{c:Cell}(h:intBin f k x y=some (p,c))(g: ∀q,p=some q->q)(t:TypeId):
  ∃v,(binOp f t (.int k x) (.int k y)).run P w= .ok v w/\ ∀X,CR m X w c v:=by
 unfold intBin at h;split at h;all_goals cases h
 all_goals first
  |(refine⟨_,?_,λX=>rfl⟩;simp[binOp,Op.intArith,Op.intBits,Op.intCmp];done)
  |(have h0:=g _ rfl;refine⟨_,?_,λX=>rfl⟩;simp_all [binOp,Op.intDiv])
theorem afg{f:BinOp}{k:FloatKind}{x y:Nat}{p:Option Prop}{c:Cell}(h:fltBin f k x y=some (p,c))(g: ∀q,p=some q->q)(t:TypeId):
  ∃v,(binOp f t (.float k x) (.float k y)).run P w= .ok v w/\ ∀X,CR m X w c v:=by
 unfold fltBin at h;split at h;all_goals cases h
 all_goals first
  |(refine⟨_,?_,λX=>rfl⟩;simp[binOp,Op.floatCmp];done)
  |(
   have h0:=g _ rfl;obtain⟨r,hr⟩:=Option.isSome_iff_exists.1 h0;refine⟨_,?_,λX=>rfl⟩;simp[binOp,Op.floatArith,hr])
theorem afH{f:BinOp}{x y:ByteArray}{p:Option Prop}{c:Cell}(h:strBin f x y=some (p,c))(g: ∀q,p=some q->q)(t:TypeId):
  ∃v,(binOp f t (.string x) (.string y)).run P w= .ok v w/\ ∀X,CR m X w c v:=by
 unfold strBin at h;split at h
 ·cases h
  have h0:=g _ rfl;refine⟨.string (x++y),?_,λX=>rfl⟩;have h1: ¬ (((x.size+y.size:Nat):Int)>i64.max):=by
   show¬ (((x.size+y.size:Nat):Int)>9223372036854775807);omega
  show(Op.stringOp .add x y).run P w=_;unfold Op.stringOp;simp only[au6 h1];rfl
 ·cases h
  exact⟨_,rfl,λX=>rfl⟩
 ·cases h
  exact⟨_,rfl,λX=>rfl⟩
 ·cases h
theorem Bb{f:BinOp}{t:TypeId}{x y:Operand}{u v:Value}(h:(∃k n,u= .int k n)\/(∃k n,u= .float k n)\/ ∃b,u= .bool b):(eqGuard f t x y u v).run P w= .ok () w:=by
 unfold eqGuard;rcases h with⟨k,n,rfl⟩|⟨k,n,rfl⟩|⟨b,rfl⟩<;>cases f<;>simp
theorem ad6{f:BinOp}{t:TypeId}{x y:Operand}{s:ByteArray}{v:Value}:(eqGuard f t x y (.string s) v).run P w= .ok () w:=by
 simp_all [eqGuard]
theorem Oh{f:BinOp}{t:TypeId}{x y g h:Operand}{us vs:Array Value}:eqGuard f t x y (.agg us) (.agg vs)=eqGuard f t g h (.agg us) (.agg vs):=by
 simp_all [eqGuard]
theorem GV{t:TypeId}(ht:P.underlying t=some .bool)(n:Nat)(a b:Bool):(Op.equalIn (n+1) t (.bool a) (.bool b)).run P w= .ok (a==b) w:=by
 unfold Op.equalIn;rw[auy,avg ht];rfl
theorem adZ{t:TypeId}(ht:P.underlying t=some .bool)(a b:Bool):(binOp .eql t (.bool a) (.bool b)).run P w= .ok (.bool (a==b)) w:=by
 show(Op.equal t (.bool a) (.bool b)>>=λr=>pure (Value.bool r)).run P w=_;rw[auy,show Op.equal t (.bool a) (.bool b)=Op.equalIn (9999+1) t (.bool a) (.bool b)from rfl,GV ht];rfl
theorem aek{t:TypeId}(ht:P.underlying t=some .bool)(a b:Bool):(binOp .neq t (.bool a) (.bool b)).run P w= .ok (.bool (a !=b)) w:=by
 show(Op.equal t (.bool a) (.bool b)>>=λr=>pure (Value.bool !r)).run P w=_;rw[auy,show Op.equal t (.bool a) (.bool b)=Op.equalIn (9999+1) t (.bool a) (.bool b)from rfl,GV ht];rfl
theorem Ou{t el:TypeId}{x y:Operand}(ht:P.underlying t=some (.slice el))(b:Option Addr)(n c:Nat):(eqGuard .eql t x y (.slice b n c) (.slice none 0 0)>>=λ_=>binOp .eql t (.slice b n c) (.slice none 0 0)).run P w= .ok (.bool b.isNone) w:=by
 rw[auy];have:(eqGuard .eql t x y (.slice b n c) (.slice none 0 0)).run P w= .ok () w:=by unfold eqGuard;simp
 rw[this];simp only[aus,binOp,auy];have:(Op.equal t (.slice b n c) (.slice none 0 0)).run P w= .ok b.isNone w:=by
  unfold Op.equal;show(Op.equalIn (Op.maxDepth-1+1) t _ _).run P w=_;unfold Op.equalIn;rw[auy,avg ht];cases b<;>rfl
 rw[this];rfl
theorem aiE{U:BinOp}{t yt:TypeId}{x y:Operand}(Z:o.op= .binOp U t x y yt)(h:At P C φ ν own W st o e m a w K):o.wp P a w K Q:=by
 have A:=h.ev;simp only[evOp,Z]at A;split at A;case h_2=>cases A
 rename_i sa sb hx S;split at A;case h_2=>cases A
 rename_i p v f;have hX:=lq h.sat h.tags hx;have L:=lq h.sat h.tags S;have N: ∀q,p=some q->q:=by
  obtain⟨d,hd,rfl⟩:=Ht A;exact λq hq=>h.bQ q hq
 have g: ∀u,(eqGuard U t x y (a.eval x) (a.eval y)>>=λ_=>binOp U t (a.eval x) (a.eval y)).run P w= .ok u w->SR m (XA φ m) w v u->o.wp P a w K Q:=by
  intro u s V;refine h.cq A ?_ V;simp only[execOp,Z];rw[auy,s];rfl
 clear A hx S;unfold bin at f;split at f
 ·rename_i k i k' j
  rw[hX,L]at g;split at f
  ·cases f
   have h0:=N _ rfl;refine g _ ?_ (show Value.int k _=_ from rfl);rw[auy,Bb (.inl ⟨_,_,rfl⟩)];simp[binOp,Op.shift,show¬ j<0 by omega]
  ·cases f
   have h0:=N _ rfl;refine g _ ?_ (show Value.int k _=_ from rfl);rw[auy,Bb (.inl ⟨_,_,rfl⟩)];simp[binOp,Op.shift,show¬ j<0 by omega]
  ·obtain⟨z,I⟩:=ba f
   clear f;have f:=I;clear I;have z:=qm z;subst z;split at f
   ·rename_i p' c hint
    cases f;obtain⟨u,s,J⟩:=aff hint N t;refine g u ?_ (J _);rw[auy,Bb (.inl ⟨_,_,rfl⟩)];exact s
   ·cases f
 ·rename_i k i k' j
  rw[hX,L]at g;obtain⟨z,I⟩:=ba f;clear f;have f:=I;clear I;have z:=vN z;subst z;split at f
  ·rename_i p' c a5
   cases f;obtain⟨u,s,J⟩:=afg a5 N t;refine g u ?_ (J _);rw[auy,Bb (.inr (.inl ⟨_,_,rfl⟩))];exact s
  ·cases f
 ·rename_i s1 s2
  rw[hX,L]at g;split at f
  ·rename_i p' c a6
   cases f;obtain⟨u,s,J⟩:=afH a6 N t;refine g u ?_ (J _);rw[auy,ad6];exact s
  ·cases f
 ·rename_i e1 b9 l e2
  split at f;case h_2=>cases f
  rename_i d M;split at f;case h_2=>cases f
  rename_i el z;cases f;obtain⟨de,O,Y,_⟩:=(h.ctx.D t d M).desc;unfold kindOk at Y;rw[z]at Y;obtain⟨_,rfl,_⟩:=Y;have S:a.eval y= .slice none 0 0:=by
   rcases L.2 with⟨_,h1⟩|⟨h1,_⟩
   ·exact h1
   ·exact absurd rfl h1
  rw[S]at g;rcases hX.1 with⟨h1,h2⟩|⟨ad,cap,h2,_⟩
  ·rw[h2]at g
   exact g _ (Ou O none 0 0) ⟨true,rfl,λ_=>h1⟩
  ·rw[h2]at g
   exact g _ (Ou O (some ad) l.length cap) ⟨false,rfl,λh=>by cases h⟩
 ·rename_i i j
  rw[hX,L]at g;split at f;case h_2=>cases f
  rename_i d M;split at f;case h_2=>cases f
  rename_i a9 b0;obtain⟨de,O,_,T⟩:=(h.ctx.D t d M).desc;have T:=T a9;rw[b0]at T;subst T;split at f
  ·cases f
   refine g _ ?_ (show Value.bool _=_ from rfl);exact adZ O _ _
  ·cases f
   refine g _ ?_ (show Value.bool _=_ from rfl);exact aek O _ _
  ·cases f
 ·rename_i xs ys
  obtain⟨us,s,a1⟩:=hX;obtain⟨vs,V,a2⟩:=L;rw[s,V]at g;split at f;case h_2=>cases f
  rename_i d M;obtain⟨J,I⟩:=ba f;clear f;have f:=I;clear I;obtain⟨h1,h2⟩:=aF J;obtain⟨h2,h3⟩:=aF h2;have l1:xs.length=d.ty.n:=by rw[<- gu];exact beq_eq h2
  have l2:ys.length=d.ty.n:=by rw[<- gu];exact beq_eq h3
  split at f
  ·rename_i r hr
   cases f;refine g _ ?_ (show Value.bool _=_ from rfl);rw[Oh];simpa using(h.ctx.eq t d M h1 m _ w xs ys r us.toList vs.toList hr a1 a2 l1 l2).1
  ·rename_i r hr
   cases f;refine g _ ?_ (show Value.bool _=_ from rfl);rw[Oh];simpa using(h.ctx.eq t d M h1 m _ w xs ys r us.toList vs.toList hr a1 a2 l1 l2).2
  ·cases f
 ·cases f
end
end
section
section
variable {φ:Fr} {ν:Nat->Bool} {m:Map} {st:ASt} {a:Act} {w w':World} {own:List (bS)} {W:List Nat} {P:Program} {C:Ctx} {o:Oper} {e:Eff}
 {K:Act->World->Prop} {Q:Exit->Act->World->Prop}
theorem akK{l:UnOp}{t:TypeId}{x:Operand}(g:o.op= .unOp l t x)(h:At P C φ ν own W st o e m a w K):o.wp P a w K Q:=by
 have f:=h.ev;simp only[evOp,g]at f;split at f
 ·rename_i b i
  have j:a.eval x= .bool b:=bo h.sat h.tags i;exact h.cq f (by simp[execOp,g,j,Op.unary]) rfl
 ·rename_i k n i
  have j:a.eval x= .int k n:=bo h.sat h.tags i;exact h.cq f (by simp[execOp,g,j,Op.unary,Op.intArith]) rfl
 ·cases f
theorem Bd(k:dr P C){t:TypeId}{f:Nat}{g:aR}(h:field? C t f=some g):
  ∃j i,P.underlying t=some (.struct j)/\j[f]? =some i/\i.offset=g.2/\i.type=g.1:=by
 unfold field? at h;split at h;case h_2=>simp_all
 rename_i d l;split at h;case h_2=>simp_all
 obtain⟨s,u,x,_⟩:=(k.D t d l).desc;grind [kindOk]
theorem GD{b off:Nat}{f:Field}{ty:Ty}{g:Bool}(h:lC P f.type ty g)(i:1<=ty.n):(fieldPlace ⟨b,off,none⟩ f).run P w= .ok ⟨b,off+f.offset,none⟩ w:=by
 unfold fieldPlace;rw[auy,run_sizeOf h,aus,au6 (by omega),jT];rfl
theorem adS{t:TypeId}{x:Operand}{f:Nat}(J:o.op= .fieldAddr t x f)(h:At P C φ ν own W st o e m a w K):o.wp P a w K Q:=by
 have g:=h.ev;simp only[evOp,J]at g;split at g
 ·rename_i k off j s u
  obtain⟨M,N,h1,h2,h3,h4⟩:=Bd h.ctx u;split at g;case h_2=>cases g
  rename_i d y;obtain⟨z,A⟩:=ba g;have hi:=(h.ctx.D _ d y).info;rw[<- h4]at hi;obtain⟨b,hm,I⟩:=bo h.sat h.tags s;refine h.cq A (v:= .pointer (some ⟨b,off+j.2,none⟩)) ?_ ⟨b,hm,rfl⟩;simp only[execOp,J,I,Instr.fieldAt,auy,avg h1,aus,h2,Instr.sureAddr,avh,GD hi (au7 z),h3]
 ·rename_i ty l i off j s u
  obtain⟨M,N,h1,h2,h3,h4⟩:=Bd h.ctx u;split at g;case h_2=>cases g
  rename_i d y;obtain⟨z,A⟩:=ba g;have hi:=(h.ctx.D _ d y).info;rw[<- h4]at hi;obtain⟨b,L,I,hm⟩:=bo h.sat h.tags s;refine h.cq A (v:= .pointer (some ⟨b,L+(i.toNat*ty.n+(off+j.2)),none⟩)) ?_ ⟨b,L,rfl,hm⟩;simp only[execOp,J,I,Instr.fieldAt,auy,avg h1,aus,h2,Instr.sureAddr,avh,GD hi (au7 z),h3];rw[show L+(i.toNat*ty.n+off)+j.2=L+(i.toNat*ty.n+(off+j.2))by omega]
 ·rename_i ty k i off j s u
  obtain⟨M,N,h1,h2,h3,h4⟩:=Bd h.ctx u;split at g;case h_2=>cases g
  rename_i d y;obtain⟨z,A⟩:=ba g;have hi:=(h.ctx.D _ d y).info;rw[<- h4]at hi;obtain⟨b,p,hm,O,I,S⟩:=bo h.sat h.tags s;refine h.cq A (v:= .pointer (some ⟨b,i.toNat*ty.n+(off+j.2),none⟩)) ?_ ⟨b,p,hm,O,rfl,S⟩;simp only[execOp,J,I,Instr.fieldAt,auy,avg h1,aus,h2,Instr.sureAddr,avh,GD hi (au7 z),h3];rw[show i.toNat*ty.n+off+j.2=i.toNat*ty.n+(off+j.2)by omega]
 ·cases g
theorem pT{t:TypeId}{d:TD}(f:jL P t d){us:Array Value}{off:Nat}(g:off+d.ty.n<=us.size):
  (part t us off).run P w= .ok (cd d.agg ((us.toList.drop off).take d.ty.n)) w:=by
 unfold part;rw[auy,f.isAgg,aus];cases hd:d.agg with
 |true=>
  simp only[azk,auy,run_sizeOf f.info,aus,avh,cd];congr 2
  grind
 |false=>
  have h1:=f.one hd;rw[h1]at g⊢;simp only[awd,azj,cd];rw[awp (by omega)];congr 1
  rw[List.take_one];simp[List.head?_drop,awp (show off<us.size by omega)]
theorem ahz{t:TypeId}{x:Operand}{f:Nat}(i:o.op= .field t x f)(h:At P C φ ν own W st o e m a w K):o.wp P a w K Q:=by
 have g:=h.ev;simp only[evOp,i]at g;split at g;case h_2=>cases g
 rename_i cs j u y;obtain⟨L,M,h1,h2,h3,h4⟩:=Bd h.ctx y;split at g;case h_2=>cases g
 rename_i d z;split at g;case h_2=>cases g
 rename_i v A;obtain⟨k,I⟩:=ba g;have k:j.2+d.ty.n<=cs.length:=by have:=au7 k;rwa [gu]at this
 obtain⟨us,J,l⟩:=lq h.sat h.tags u;have N:=l.length;have s:=h.ctx.D _ d z;rw[<- h4]at s;refine h.cq I (v:=cd d.agg ((us.toList.drop j.2).take d.ty.n)) ?_ (pV A (aj.take _ (aj.drop _ l)));simp only[execOp,i,J,Instr.field,auy,avg h1,aus,h2,asAgg,avh,h3];rw[pT s (by simp_all)];rfl
theorem aeD{x:Operand}{i:Nat}(g:o.op= .extract x i)(h:At P C φ ν own W st o e m a w K):o.wp P a w K Q:=by
 have f:=h.ev;simp only[evOp,g]at f;split at f;case h_2=>cases f
 rename_i xs j;split at f;case h_2=>cases f
 rename_i v k;obtain⟨vs,s,l⟩:=yE h.sat h.tags j;obtain⟨u,t,hr⟩:=l.get i v k;refine h.cq f ?_ hr;simp_all [execOp,Instr.extract]
theorem mW(g:dr P C){t:TypeId}{ty:Ty}(h:sr C t=some ty): ∃f,P.underlying t=some f/\plainOk ty f:=by
 unfold sr at h;split at h;case h_2=>cases h
 rename_i d i;cases hd:d.agg with
 |true=>rw[hd]at h;cases h
 |false=>
  simp only[cnd]at h;obtain⟨f,h1,_,h2⟩:=(g.D t d i).desc;simp_all
theorem At.hw(h:At P C φ ν own W st o e m a w K):C.G.H w:=C.G.mono (h.fr.gl▸h.sat.fN) h.fr.Gz
theorem qw(hs:aG φ ν m st a w){b q:Nat}(h:XA φ m b q): ¬ φ.gl b:=by
 rcases h with h|⟨k,p,h1,h2⟩
 ·exact(hs.x0 _ _ h).2.2
 ·exact hs.dK _ _ _ h1 h2
theorem ai4{α:Type}(l:List α):tt l=l.length:=by induction l<;>simp[tt, *]
theorem R2(hs:aG φ ν m st a w){f:Ty}{k:Nat}{v:Value}(g:CR m (XA φ m) w (.bq f k) v){n:Nat}(h: ∀b p,m k=some (b,p)->fD p=n)(h0:0<n):
  ∃b p cap T,m k=some (b,p)/\0<p/\v= .slice (some ⟨b,0,none⟩) n cap/\w.shape? b=some (T,cap*f.n)/\n<=cap/\cap<=maxLen:=by
 obtain⟨b,p,h1,h2,h3⟩:=g;grind [fD]
theorem Jd(hs:aG φ ν m st a w){k:Nat}{f:Bool}{T:TypeId}{e:Ty}{l:List e.den}(hb:st.box k=some (.vec f T e l)): ∀b p,m k=some (b,p)->fD p=l.length:=by
 intro b p hm;obtain⟨g,h,h1,h2⟩:=hs.box k _ hb;rw[hm]at h1;cases h1;rcases h2 with⟨h2,h3⟩|⟨h2,h3⟩|⟨_,h2,_⟩
 ·rw[h3,h2];rfl
 all_goals simp_all [eN,gq]
theorem R7(hs:aG φ ν m st a w){k:Nat}{e:Ty}{l:List e.den}(hb:st.box k=some (.kU e l)): ∀b p,m k=some (b,p)->fD p=l.length:=by
 intro b p hm;obtain⟨f,g,h1,h2⟩:=hs.box k _ hb;rw[hm]at h1;cases h1;rcases h2 with⟨h2,h3⟩|⟨h2,h3⟩
 ·rw[h3,h2];rfl
 simp_all [gq]
theorem adE{t:TypeId}{g:Nat}{i:Operand}(s:o.op= .indexAddr t (.global g) i)(h:At P C φ ν own W st o e m a w K):o.wp P a w K Q:=by
 have f:=h.ev;simp only[evOp,s]at f;split at f;case h_2=>cases f
 rename_i d u l x n y z hi;split at f;case h_2=>cases f
 rename_i len el A;split at f;case h_2=>cases f
 rename_i I J;obtain⟨h1,h2⟩:=ba f;obtain⟨h1,j⟩:=aF h1;have h1:=beq_eq h1;have j:=beq_eq j;rw[ai4]at j;have L:=h.nH h2;have M:a.eval i= .int x n:=bo h.sat h.tags hi;obtain⟨U,N,k,_⟩:=(h.ctx.D t d y).desc;unfold kindOk at k;rw[A]at k;obtain⟨_,rfl⟩:=k;obtain⟨b,hb,O⟩:=h.ctx.gv g u l z;obtain⟨S,T⟩:=O a w (XA φ m) h.hw (λb q hX=>h.fr.gl▸qw h.sat hX);refine h.cq h2 ?_ ⟨b,0,rfl,by omega,T⟩;simp only[execOp,s,S,M,Instr.indexAt,auy,avg N,aus,asIntOf,avh,Instr.sureAddr];rw[ava L];simp only[auy,run_sizeOf (h.ctx.D el I J).info,aus,avh,jT,<- h1,awr,avs]
theorem adV{t:TypeId}{x i:Operand}(I:o.op= .indexAddr t x i)(h:At P C φ ν own W st o e m a w K):o.wp P a w K Q:=by
 by_cases a1: ∃g,x= .global g
 ·grind [adE]
 have f:=h.ev;have a1:=λg hg=>a1 ⟨g,hg⟩
 simp only[evOp,I]at f;split at f
 ·rename_i d b0 tl l k n J L hi
  split at f;case h_2=>cases f
  rename_i el a2 u O;obtain⟨h1,h2⟩:=ba f;have h1:=beq_eq h1;have s:=h.nH h2;have V:a.eval i= .int k n:=bo h.sat h.tags hi;obtain⟨hl,_⟩:=bo h.sat h.tags L;obtain⟨M,z,j,_⟩:=(h.ctx.D t d J).desc;unfold kindOk at j;rw[u]at j;obtain⟨_,rfl,t',ag,A,S⟩:=j;rw[O]at A;cases A;rcases hl with⟨h0,_⟩|⟨ad,cap,y,c0,_,Y,b2⟩
  ·rw[h0]at s;simp at s;omega
  ·have b3:l≠ []:=by intro h0;rw[h0]at s;simp at s;omega
   obtain⟨b,o',sp⟩:=ad;have Y:=Y b3;simp only at Y;subst Y;refine h.cq h2 ?_ ⟨b,o',rfl,by omega,b2⟩;simp only[execOp,I,y,V,Instr.indexAt,auy,avg z,aus,asIntOf,avh];rw[ava s];simp only[auy,run_sizeOf S,aus,avh,jT,<- h1,awr]
 ·rename_i d k off k' n J L hi
  have a5:=bo h.sat h.tags hi;split at f;case h_3=>cases f
  case h_2=>
   rename_i len el u c9;split at f;case h_2=>cases f
   rename_i M h9;obtain⟨h1,h2⟩:=ba f;obtain⟨b,hm,y⟩:=bo h.sat h.tags L;obtain⟨e0,z,j,_⟩:=(h.ctx.D t d J).desc;unfold kindOk at j;rw[u]at j;obtain⟨_,rfl⟩:=j;have s:=h.nH h2;refine h.cq h2 ?_ ⟨b,hm,rfl,s.1,by omega⟩;simp only[CR]at a5;simp only[execOp,I,y,a5,Instr.indexAt,auy,avg z,aus,asIntOf,avh,Instr.sureAddr];rw[ava s];simp only[auy,run_sizeOf (h.ctx.D el M h9).info,aus,avh,jT]
  rename_i len el Z N u;split at f;case h_2=>cases f
  rename_i M h9;obtain⟨h1,h2⟩:=ba f;have h1:N+1<=len:=au7 h1;obtain⟨b,hm,y⟩:=bo h.sat h.tags L;obtain⟨e0,z,j,_⟩:=(h.ctx.D t d J).desc;unfold kindOk at j;rw[u]at j;obtain⟨_,rfl⟩:=j;refine h.cq h2 (v:= .pointer (some ⟨b,off+N*M.ty.n,none⟩)) ?_ ⟨b,hm,rfl⟩;have s:0<=Int.ofNat N/\Int.ofNat N<len:=⟨auz _,by simp;omega⟩;have b6:a.eval (.const (.int Z (Int.ofNat N)))= .int Z (Int.ofNat N):=rfl;simp only[execOp,I,y,b6,Instr.indexAt,auy,avg z,aus,asIntOf,avh,Instr.sureAddr];rw[ava s];simp only[auy,run_sizeOf (h.ctx.D el M h9).info,aus,avh,jT,awa,Int.ofNat_eq_natCast]
 ·rename_i d b0 k Z n J L hi
  have V:a.eval i= .int Z n:=bo h.sat h.tags hi;have hv:=bo h.sat h.tags L;obtain⟨M,z,j,_⟩:=(h.ctx.D t d J).desc;split at f
  ·rename_i el a2 T e2 l u O U
   obtain⟨h1,h2⟩:=ba f;obtain⟨h1,h8⟩:=aF h1;have h1:=beq_eq h1;have s:=h.nH h2;unfold kindOk at j;rw[u]at j;obtain⟨_,rfl,t',ag,A,S⟩:=j;rw[O]at A;cases A;obtain⟨b,p,cap,T',hm,hp,y,_⟩:=R2 h.sat hv (Jd h.sat U) (by omega);refine h.cq h2 ?_ ⟨b,p,hm,hp,rfl,by rw[Jd h.sat U b p hm];omega⟩;simp only[execOp,I,y,V,Instr.indexAt,auy,avg z,aus,asIntOf,avh];rw[ava s];simp only[auy,run_sizeOf S,aus,avh,jT,<- h1,awr,avs]
  ·rename_i el a2 e2 l u O U
   obtain⟨h1,h2⟩:=ba f;obtain⟨h1,h8⟩:=aF h1;have h1:=beq_eq h1;have h8:=beq_eq h8;have s:=h.nH h2;unfold kindOk at j;rw[u]at j;obtain⟨_,rfl,t',ag,A,S⟩:=j;rw[O]at A;cases A;obtain⟨b,p,cap,T',hm,hp,y,_⟩:=R2 h.sat hv (R7 h.sat U) (by omega);obtain⟨b',p',h3,h5⟩:=h.sat.box k _ U;rw[hm]at h3;cases h3;have h5:=(h5.resolve_left (by rintro⟨h0,_⟩;rw[h0]at s;simp at s;omega)).2;refine h.cq h2 ?_ ⟨b,0,rfl,by omega,h5⟩;simp only[execOp,I,y,V,Instr.indexAt,auy,avg z,aus,asIntOf,avh];rw[ava s];simp only[auy,run_sizeOf S,aus,avh,jT,<- h1,h8,awr,avs]
  ·cases f
 ·cases f
end
end
end Go.Proofs.YtcfinjcapeemeaaGreatDoor.S
