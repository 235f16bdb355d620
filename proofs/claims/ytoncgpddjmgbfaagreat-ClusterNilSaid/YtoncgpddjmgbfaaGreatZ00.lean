import Derived.Test.YtoncgpddjmgbfaaGreatRows
import Derived.WalkKit
import Derived.WalkLawsBesides
import Derived.WalkSpells
import Derived.ProofKit
import Derived.OpenShut
import Derived.ShutString
import Derived.ChangeOld
import Derived.Below
import Derived.Lib.Hide
import Derived.Laws.AppendOwnNone
import Derived.Lib.AppendStr
import Derived.Lib.SlBytesConst
import Derived.Deep.QuietTactic
import Derived.BigQuiet
import Derived.Deep.DeepFit
import Derived.Deep.RegionWith
import Derived.Deep.LoopGhost
import Derived.Deep.DeepCutAuto
import Derived.Orders
import Derived.Laws.Tables
import Derived.Laws.Cells
import Derived.SliceStrings
import Derived.Deep.Strs
import Derived.Deep.Slices
import Derived.ChangeArms
import Derived.Deep.Quiet
import Derived.StillTail
namespace Go.Proofs.YtoncgpddjmgbfaaGreat
open Go.RowKit Go.Proofs.Tryz
set_option maxRecDepth 100000
set_option maxHeartbeats 12800000
set_option linter.unusedVariables false
set_option linter.unusedSimpArgs false
abbrev _root_.Go.Value.i (z:Int):Value:=Value.int .i64 z
structure Kp(p:Prop):Type where
 o:p
def kp{p:Prop}(h:p):Kp p:=⟨h⟩
section
variable {A0 A1 A2 A3 A4 A5 A6 A7 A8 A9 AA AB AC AD:Prop}
def k'2(h0:A0)(h1:A1):Kp (A0∧A1):=⟨h0,h1⟩
def k'3(h0:A0)(h1:A1)(h2:A2):Kp (A0∧A1∧A2):=⟨h0,h1,h2⟩
def k'4(h0:A0)(h1:A1)(h2:A2)(h3:A3):Kp (A0∧A1∧A2∧A3):=⟨h0,h1,h2,h3⟩
def k'5(h0:A0)(h1:A1)(h2:A2)(h3:A3)(h4:A4):Kp (A0∧A1∧A2∧A3∧A4):=⟨h0,h1,h2,h3,h4⟩
def k'6(h0:A0)(h1:A1)(h2:A2)(h3:A3)(h4:A4)(h5:A5):Kp (A0∧A1∧A2∧A3∧A4∧A5):=⟨h0,h1,h2,h3,h4,h5⟩
def k'7(h0:A0)(h1:A1)(h2:A2)(h3:A3)(h4:A4)(h5:A5)(h6:A6):Kp (A0∧A1∧A2∧A3∧A4∧A5∧A6):=⟨h0,h1,h2,h3,h4,h5,h6⟩
def k'8(h0:A0)(h1:A1)(h2:A2)(h3:A3)(h4:A4)(h5:A5)(h6:A6)(h7:A7):Kp (A0∧A1∧A2∧A3∧A4∧A5∧A6∧A7):=⟨h0,h1,h2,h3,h4,h5,h6,h7⟩
def k'9(h0:A0)(h1:A1)(h2:A2)(h3:A3)(h4:A4)(h5:A5)(h6:A6)(h7:A7)(h8:A8):Kp (A0∧A1∧A2∧A3∧A4∧A5∧A6∧A7∧A8):=⟨h0,h1,h2,h3,h4,h5,h6,h7,h8⟩
def k'a(h0:A0)(h1:A1)(h2:A2)(h3:A3)(h4:A4)(h5:A5)(h6:A6)(h7:A7)(h8:A8)(h9:A9):Kp (A0∧A1∧A2∧A3∧A4∧A5∧A6∧A7∧A8∧A9):=⟨h0,h1,h2,h3,h4,h5,h6,h7,h8,h9⟩
def k'd(h0:A0)(h1:A1)(h2:A2)(h3:A3)(h4:A4)(h5:A5)(h6:A6)(h7:A7)(h8:A8)(h9:A9)(h10:AA)(h11:AB)(h12:AC):Kp (A0∧A1∧A2∧A3∧A4∧A5∧A6∧A7∧A8∧A9∧AA∧AB∧AC):=⟨h0,h1,h2,h3,h4,h5,h6,h7,h8,h9,h10,h11,h12⟩
theorem Kp.a(x:Kp (A0∧A1)):A0:=x.o.1
theorem Kp.b(x:Kp (A0∧A1∧A2)):A1:=x.o.2.1
theorem Kp.B(x:Kp (A0∧A1)):A1:=x.o.2
theorem Kp.c(x:Kp (A0∧A1∧A2∧A3)):A2:=x.o.2.2.1
theorem Kp.C(x:Kp (A0∧A1∧A2)):A2:=x.o.2.2
theorem Kp.d(x:Kp (A0∧A1∧A2∧A3∧A4)):A3:=x.o.2.2.2.1
theorem Kp.D(x:Kp (A0∧A1∧A2∧A3)):A3:=x.o.2.2.2
theorem Kp.e(x:Kp (A0∧A1∧A2∧A3∧A4∧A5)):A4:=x.o.2.2.2.2.1
theorem Kp.E(x:Kp (A0∧A1∧A2∧A3∧A4)):A4:=x.o.2.2.2.2
theorem Kp.f(x:Kp (A0∧A1∧A2∧A3∧A4∧A5∧A6)):A5:=x.o.2.2.2.2.2.1
theorem Kp.F(x:Kp (A0∧A1∧A2∧A3∧A4∧A5)):A5:=x.o.2.2.2.2.2
theorem Kp.g(x:Kp (A0∧A1∧A2∧A3∧A4∧A5∧A6∧A7)):A6:=x.o.2.2.2.2.2.2.1
theorem Kp.G(x:Kp (A0∧A1∧A2∧A3∧A4∧A5∧A6)):A6:=x.o.2.2.2.2.2.2
theorem Kp.h(x:Kp (A0∧A1∧A2∧A3∧A4∧A5∧A6∧A7∧A8)):A7:=x.o.2.2.2.2.2.2.2.1
theorem Kp.H(x:Kp (A0∧A1∧A2∧A3∧A4∧A5∧A6∧A7)):A7:=x.o.2.2.2.2.2.2.2
theorem Kp.i(x:Kp (A0∧A1∧A2∧A3∧A4∧A5∧A6∧A7∧A8∧A9)):A8:=x.o.2.2.2.2.2.2.2.2.1
theorem Kp.I(x:Kp (A0∧A1∧A2∧A3∧A4∧A5∧A6∧A7∧A8)):A8:=x.o.2.2.2.2.2.2.2.2
theorem Kp.j(x:Kp (A0∧A1∧A2∧A3∧A4∧A5∧A6∧A7∧A8∧A9∧AA)):A9:=x.o.2.2.2.2.2.2.2.2.2.1
theorem Kp.J(x:Kp (A0∧A1∧A2∧A3∧A4∧A5∧A6∧A7∧A8∧A9)):A9:=x.o.2.2.2.2.2.2.2.2.2
theorem Kp.k(x:Kp (A0∧A1∧A2∧A3∧A4∧A5∧A6∧A7∧A8∧A9∧AA∧AB)):AA:=x.o.2.2.2.2.2.2.2.2.2.2.1
theorem Kp.K(x:Kp (A0∧A1∧A2∧A3∧A4∧A5∧A6∧A7∧A8∧A9∧AA)):AA:=x.o.2.2.2.2.2.2.2.2.2.2
theorem Kp.l(x:Kp (A0∧A1∧A2∧A3∧A4∧A5∧A6∧A7∧A8∧A9∧AA∧AB∧AC)):AB:=x.o.2.2.2.2.2.2.2.2.2.2.2.1
theorem Kp.L(x:Kp (A0∧A1∧A2∧A3∧A4∧A5∧A6∧A7∧A8∧A9∧AA∧AB)):AB:=x.o.2.2.2.2.2.2.2.2.2.2.2
theorem Kp.m(x:Kp (A0∧A1∧A2∧A3∧A4∧A5∧A6∧A7∧A8∧A9∧AA∧AB∧AC∧AD)):AC:=x.o.2.2.2.2.2.2.2.2.2.2.2.2.1
theorem Kp.M(x:Kp (A0∧A1∧A2∧A3∧A4∧A5∧A6∧A7∧A8∧A9∧AA∧AB∧AC)):AC:=x.o.2.2.2.2.2.2.2.2.2.2.2.2
theorem Kp.N(x:Kp (A0∧A1∧A2∧A3∧A4∧A5∧A6∧A7∧A8∧A9∧AA∧AB∧AC∧AD)):AD:=x.o.2.2.2.2.2.2.2.2.2.2.2.2.2
end
theorem nm'{α:Sort _}(a:α):∃x,a=x:=⟨a,rfl⟩
theorem _root_.Go.RowKit.Below.on{a b c:World}(h:Below a.heap.size a b)(k:Below b.heap.size b c):Below a.heap.size a c:=h.trans (k.mono h.size)
theorem ms'{P:Program}{f:FuncId}{a:Array Value}{w:World}{v:Ending}{R:Ending→World→Prop}(h:Calls P f a w fun e w'=>e=v∧w'=w)(k:R v w):Calls P f a w R:=h.mono fun _ _ h2=>by rw[h2.1,h2.2]; exact k
theorem mb'{P:Program}{f:FuncId}{a:Array Value}{w:World}{v:Ending}{Q:World→Prop}{R:Ending→World→Prop}(h:Calls P f a w fun e w'=>e=v∧Q w')(k:∀w',Q w'→R v w'):Calls P f a w R:=h.mono fun _ w2 h2=>by rw[h2.1]; exact k w2 h2.2
abbrev Bw'(a b:World):Prop:=Below a.heap.size a b
theorem ba'(w:World)(o:Obj):Below w.heap.size w (w.alloc o):=(Below.refl _ w).alloc (Nat.le_refl _) o
abbrev z'1:List Value:=[.i 0,.slice none 0 0,.i 0,.i 0,.i 0,.i 0,.i 0,.slice none 0 0]
abbrev z'1a:Array Value:=#[.i 0,.slice none 0 0,.i 0,.i 0,.i 0,.i 0,.i 0,.slice none 0 0]
abbrev z'2:List Value:=[.i 0,.slice none 0 0,.i 0,.i 0,.i 0,.i 0,.i 0,.slice none 0 0,.slice none 0 0]
abbrev z'2a:Array Value:=#[.i 0,.slice none 0 0,.i 0,.i 0,.i 0,.i 0,.i 0,.slice none 0 0,.slice none 0 0]
abbrev z'3:List Value:=[.i 0,.i 0,.i 0,.i 0,.i 0,.i 0,.i 0,.i 0,.i 0,.i 0,.i 0]
abbrev z'3a:Array Value:=#[.i 0,.i 0,.i 0,.i 0,.i 0,.i 0,.i 0,.i 0,.i 0,.i 0,.i 0]
abbrev z'4:List Value:=[.i 0,.i 0,.i 0,.i 0]
abbrev z'4a:Array Value:=#[.i 0,.i 0,.i 0,.i 0]
abbrev z'5:List Value:=[.i 0,.i 0,.i 0,.slice none 0 0,.slice none 0 0]
abbrev z'5a:Array Value:=#[.i 0,.i 0,.i 0,.slice none 0 0,.slice none 0 0]
abbrev z'6:List Value:=[.i 0,.i 0,.i 0,.i 0,.i 0,.slice none 0 0]
abbrev z'6a:Array Value:=#[.i 0,.i 0,.i 0,.i 0,.i 0,.slice none 0 0]
abbrev z'7:List Value:=[.i 0,.i 0,.i 0,.i 0,.i 0,.i 0,.i 0,.i 0,.slice none 0 0,.i 0,.i 0,.string ⟨#[]⟩,.i 0,.i 0,.i 0,.i 0,.i 0,.i 0,.i 0,.i 0,.i 0,.i 0,.bool false]
abbrev z'7a:Array Value:=#[.i 0,.i 0,.i 0,.i 0,.i 0,.i 0,.i 0,.i 0,.slice none 0 0,.i 0,.i 0,.string ⟨#[]⟩,.i 0,.i 0,.i 0,.i 0,.i 0,.i 0,.i 0,.i 0,.i 0,.i 0,.bool false]
abbrev z'8:List Value:=[.i 0,.i 0,.i 0,.string ⟨#[]⟩,.slice none 0 0]
abbrev z'8a:Array Value:=#[.i 0,.i 0,.i 0,.string ⟨#[]⟩,.slice none 0 0]
abbrev aP:=@List.getElem?_cons_zero
abbrev aB:=@Nat.le_trans
abbrev aN:=@Nat.le_refl
abbrev aE:=@List.setIfInBounds_toArray
abbrev aC:=@List.set_cons_zero
abbrev aZ:=@List.getElem?_cons_succ
abbrev aD:=@List.set_cons_succ
abbrev aH:=@Below.refl
abbrev fE:=@List.take_succ_eq_append_getElem
abbrev aS:=@List.nil_append
abbrev aT:=@List.cons_append
abbrev bF:=@List.length_append
abbrev eF:=@List.take_of_length_le
abbrev jN:=@List.getElem?_eq_getElem
abbrev cU:=@List.getElem_mem
abbrev bH:=@Bool.and_eq_true
abbrev bS:=@List.drop_succ_cons
abbrev cH:=@List.append_assoc
abbrev eL:=@Nat.mul_le_mul_right
abbrev iF:=@List.drop_eq_getElem_cons
abbrev bU:=@List.drop_zero
abbrev cL:=@List.length_take
abbrev cY:=@Nat.lt_of_lt_of_le
abbrev dD:=@List.length_map
abbrev iY:=@List.eq_nil_of_length_eq_zero
abbrev dW:=@Nat.add_zero
abbrev dF:=@List.not_mem_nil
abbrev dM:=@List.length_drop
abbrev kA:=@List.drop_eq_nil_of_le
abbrev bD:=@List.mem_cons
abbrev gS:=@Int.toNat_natCast
abbrev eS:=@List.length_cons
abbrev dJ:=@Nat.zero_le
abbrev nF:=@List.getD_eq_getElem?_getD
abbrev dK:=@Nat.le_of_lt
abbrev lV:=@List.take_succ_cons
abbrev gK:=@Array.length_toList
abbrev fW:=@List.map_append
abbrev fF:=@List.size_toArray
abbrev fG:=@List.append_nil
abbrev pP:=@List.getElem?_append_left
abbrev nG:=@List.drop_append_of_le_length
abbrev kB:=@List.take_zero
abbrev nH:=@Nat.le_of_eq
abbrev rF:=@List.filter_cons_of_neg
abbrev tK:=@List.filter_cons_of_pos
abbrev nI:=@List.length_filter_le
abbrev fH:=@Nat.add_mul
abbrev rG:=@List.take_append_of_le_length
abbrev oL:=@Option.map_some
abbrev gL:=@Nat.zero_add
abbrev lG:=@List.getElem?_drop
abbrev pQ:=@List.getElem_map
abbrev iG:=@Int.le_refl
abbrev kU:=@Bool.true_and
abbrev mJ:=@List.map_cons
abbrev kC:=@List.take_take
abbrev rH:=@Nat.pow_le_pow_right
abbrev nJ:=@List.mem_of_getElem?
abbrev mK:=@List.flatMap_cons
abbrev gT:=@Nat.sub_mul
abbrev nK:=@List.getElem?_take
abbrev yX:=@List.length_replicate
abbrev vU:=@List.set_append_right
abbrev nL:=@List.length_nil
abbrev nM:=@List.length_set
abbrev nN:=@Nat.lt_or_ge
abbrev rI:=@List.mem_of_mem_take
abbrev rJ:=@List.filter_append
abbrev lH:=@List.length_singleton
abbrev rK:=@Bool.not_eq_true'
abbrev tL:=@Bool.false_eq_true
abbrev nO:=@Nat.min_eq_left
abbrev nP:=@List.drop_take
abbrev fR:=@And.intro
abbrev mL:=@List.all_eq_true
abbrev mM:=@List.any_eq_true
abbrev pR:=@List.take_append
abbrev Mb:=@Int.tmod_eq_emod_of_nonneg
abbrev rL:=@List.ext_getElem?
abbrev rM:=@List.getElem?_set
abbrev aCm:=@Nat.succ_le_of_lt
abbrev lW:=@Nat.add_assoc
abbrev yY:=@List.mem_or_eq_of_mem_set
abbrev yZ:=@Array.getElem?_eq_getElem
abbrev tM:=@List.take_append_drop
abbrev rO:=@Bool.eq_iff_iff
abbrev zA:=@Nat.one_le_two_pow
abbrev Mc:=@Bool.not_eq_false'
abbrev rP:=@List.pairwise_append
abbrev zB:=@Int.dvd_of_emod_eq_zero
abbrev Md:=@List.getElem?_map
abbrev Dj:=@Nat.lt_succ_of_lt
abbrev pS:=@Bool.or_eq_true
abbrev tN:=@Nat.mul_one
abbrev Me:=@List.getElem?_append_right
abbrev rQ:=@Option.getD_some
abbrev vV:=@List.map_map
abbrev rU:=@List.map_set
abbrev Dk:=@List.eraseIdx_sublist
abbrev aCe:=@Array.getElem?_toList
abbrev vW:=@List.mem_of_mem_drop
abbrev Mf:=@List.set_append_left
abbrev nQ:=@Nat.zero_mul
abbrev tO:=@Nat.sub_self
abbrev Dl:=@List.getElem_of_mem
abbrev zC:=@List.flatMap_append
abbrev aCf:=@Nat.add_sub_cancel_left
abbrev Mh:=@List.getElem_cons_succ
abbrev Dm:=@List.flatMap_singleton
abbrev Dn:=@Nat.eq_zero_or_pos
abbrev Mi:=@Array.getElem?_setIfInBounds
abbrev vX:=@List.take_left'
abbrev vY:=@List.drop_left'
abbrev Do:=@List.getElem?_eq_none
abbrev Mj:=@List.getElem?_toArray
abbrev pT:=@List.any_eq_false
abbrev Dp:=@List.pairwise_map
abbrev tP:=@Nat.lt_irrefl
abbrev Mk:=@Bool.and_false
abbrev Ml:=@Bool.not_eq_true
abbrev zD:=@List.flatMap_nil
abbrev Mm:=@List.take_length
abbrev Dq:=@Int.toNat_of_nonneg
abbrev rV:=@Nat.min_def
abbrev Dr:=@List.toList_toArray
abbrev Mn:=@List.mem_map_of_mem
abbrev vZ:=@Int.dvd_refl
abbrev aCk:=@Nat.ne_of_lt
abbrev Ds:=@List.range_succ
abbrev Dt:=@Int.dvd_trans
abbrev wA:=@List.any_cons
abbrev aCl:=@Bool.decide_and
abbrev Mo:=@List.getElem_cons_zero
abbrev Du:=@List.drop_of_length_le
abbrev Dw:=@List.flatten_cons
abbrev aCg:=@List.getElem_take
abbrev wB:=@Int.dvd_add
abbrev wD:=@Nat.pow_succ
abbrev tQ:=@List.map_nil
abbrev Mp:=@List.perm_append_comm
abbrev Mq:=@List.getElem_set_self
abbrev Dx:=@Below.heap_alloc
abbrev Mr:=@List.length_eraseIdx
abbrev Ms:=@Int.add_assoc
abbrev Mt:=@Nat.mul_comm
abbrev aCh:=@List.any_map
abbrev bI:=@bodyPost_ret
abbrev dR:=@decide_eq_false
abbrev fA:=@decide_eq_true
abbrev cI:=@wpQuiet_nil
abbrev bO:=@of_decide_eq_true
abbrev aK:=@if_pos
abbrev aF:=@if_neg
abbrev bA:=@congrArg
abbrev bM:=@Ne.symm
abbrev bZ:=@List.mem_singleton
abbrev cV:=@List.mem_append
abbrev cP:=@List.mem_map
abbrev eT:=@Array.getElem?_eq_some_iff
abbrev tR:=@Classical.not_not
abbrev dN:=@List.pairwise_cons
abbrev tS:=@Bool.eq_false_iff
abbrev bR:=@decide_eq_true_eq
abbrev iZ:=@List.getElem?_eq_some_iff
abbrev aCi:=@List.drop_eq_nil_iff
abbrev rW:=@underlying154
abbrev rX:=@underlying9
abbrev zE:=@ntmps134
abbrev tT:=@underlying5
abbrev rY:=@underlying44
abbrev iH:=@underlying38
abbrev nR:=@underlying41
abbrev tU:=@underlying46
abbrev tV:=@underlying33
abbrev tW:=@underlying36
abbrev lI:=@underlying3
abbrev zF:=@ntmps278
abbrev zG:=@results278
abbrev nS:=@results260
abbrev Dy:=@results259
abbrev wE:=@func234
abbrev wF:=@ntmps234
abbrev tX:=@results234
abbrev rZ:=@underlying58
section
theorem jO{a b:Value}(h:a=b):Ending.returned a=.returned b:=by rw[h]
theorem wG{k:IntKind}{a b:Int}(h:a=b):Value.int k a=Value.int k b:=by rw[h]
def bv(l:List UInt8):List Value:=l.map fun c=>.int .u8 (c.toNat:Int)
theorem tY(l:List UInt8):(bv l).length=l.length:=by simp[bv]
theorem zH(l m:List UInt8):bv (l++m)=bv l++bv m:=by simp[bv]
theorem Mu(l:List UInt8):∀u∈bv l,u.oneCell'=true:=by
 intro u a;obtain⟨_,_,rfl⟩:=cP.1 a;rfl
theorem zI(l:List UInt8)(i:Nat)(h:i<l.length):(bv l)[i]? =some (.int .u8 ((l[i]).toNat:Int)):=by
 simp[bv,h]
theorem Mv(l:List UInt8)(k:Nat):(bv l).take k=bv (l.take k):=by simp[bv,List.map_take]
theorem Mw(l:List UInt8)(k:Nat):(bv l).drop k=bv (l.drop k):=by simp[bv,List.map_drop]
def iv(l:List Int):List Value:=l.map (Value.int .i64)
theorem kD(l:List Int):(iv l).length=l.length:=by simp[iv]
theorem zJ(l m:List Int):iv (l++m)=iv l++iv m:=by simp[iv]
theorem tZ(l:List Int)(i:Nat)(h:i<l.length):(iv l)[i]? =some (.i (l[i])):=by
 simp[iv,h]
def Rd(w:World)(B:Nat)(A:Option Addr)(xs:List Value):Prop:=
 xs=[]∨∃b off,A=some ⟨b,off,none⟩∧b<B∧∀j u,xs[j]? =some u→w.cell? ⟨b,off+j,none⟩=some u
section
variable {w w':World}{B B':Nat}{A:Option Addr}{xs:List Value}
theorem Rd.nil:Rd w B A []:=.inl rfl
theorem Rd.keep(h:Rd w B A xs)(d:∀p:Addr,p.block<B→w'.cell? p=w.cell? p):Rd w' B A xs:=by
 rcases h with h|⟨b,g,e,a,c⟩
 .exact .inl h
 .exact .inr ⟨b,g,e,a,fun j u f=>(d _ a).trans (c j u f)⟩
theorem Rd.more(h:Rd w B A xs)(d:B≤B'):Rd w B' A xs:=by
 rcases h with h|⟨b,c,e,f,a⟩
 .exact .inl h
 .exact .inr ⟨b,c,e,by omega,a⟩
theorem Rd.below{C:Nat}(h:Rd w B A xs)(b:Below C w w')(a:B≤C):Rd w' B A xs:=h.keep fun _ c=>b.cell (cY c a)
theorem Rd.drew(h:Rd w B A xs):Rd w.drew B A xs:=h
theorem Rd.drewN(h:Rd w B A xs)(k:Nat):Rd (w.drewN k) B A xs:=h
theorem Rd.alloc(h:Rd w B A xs)(a:B≤w.heap.size)(o:Obj):Rd (w.alloc o) B A xs:=h.keep fun p b=>World.cell?_alloc_lt w o p (by omega)
theorem Rd.setCell(h:Rd w B A xs){p:Addr}(a:B≤p.block)(u:Value):Rd (w.setCell p u) B A xs:=
 h.keep fun q b=>World.cell?_setCell_other w p q u (fun e=>by subst e; omega)
theorem Rd.grown(h:Rd w B A xs){a:Option Nat}(b:w.grownBy w' a)(d:B≤w.heap.size)(c:∀g,a=some g→B≤g):Rd w' B A xs:=
 h.keep fun p f=>World.cell?_of_block (b.block p.block (by omega) (fun e=>by have:=c _ e.symm; omega))
theorem Rd.at_(h:Rd w B A xs){k:Nat}(c:k<xs.length):∃b a,A=some ⟨b,a,none⟩∧b<B∧∀j u,xs[j]? =some u→w.cell? ⟨b,a+j,none⟩=some u:=by
 rcases h with rfl|h
 .simp at c
 .exact h
theorem Rd.front(h:Rd w B A xs)(c zs:List Value)(e:xs=c++zs):Rd w B A c:=by
 subst e;rcases h with h|⟨b,g,e,d,f⟩
 .exact .inl (by simp at h; exact h.1)
 .refine .inr ⟨b,g,e,d,fun j u a=>f j u ?_⟩;rw[pP (iZ.1 a).1];exact a
theorem Rd.take(h:Rd w B A xs)(k:Nat):Rd w B A (xs.take k):=h.front _ (xs.drop k) (tM k xs).symm
theorem Rd.cut(h:Rd w B A xs){k cap:Nat}(g:xs.length≤cap):
  Rd w B (if cap=k then A else A.map (·.add k)) (xs.drop k):=by
 rcases h with rfl|⟨b,f,rfl,a,c⟩
 .exact .inl (by simp)
 .by_cases d:cap=k
  .exact .inl (kA (by omega))
  .rw[aF d];refine .inr ⟨b,f+k,by simp[Addr.add_lit],a,fun j u e=>?_⟩;rw[lW];exact c _ u (by rw[←e,lG])
theorem Rd.of_own{base:Nat}{e:TypeId}{n c:Nat}(h:w.ownsRow base e 1 (.slice A n c) n xs):Rd w w.heap.size A xs:=by
 rcases h.2 with⟨_,rfl⟩|⟨g,cap,i,f,_,b,_,_,_,_⟩
 .exact .inl (iY (by simpa using h.1))
 .have a:A=some ⟨g,0,none⟩:=by injection f
  subst a;exact .inr ⟨g,0,rfl,(eT.1 b).1,fun j u d=>by simpa [Addr.add_lit] using h.cells (g:=g) rfl j u d⟩
theorem zK{base:Nat}{e:TypeId}{size n:Nat}{v:Value}(h:w.ownsRow base e size v n xs):
  (v=.slice none 0 0∧n=0∧xs=[])∨∃g cap,v=.slice (some ⟨g,0,none⟩) n cap∧base≤g∧g<w.heap.size∧n≤cap∧cap≤maxLen:=by
 rcases h.2 with⟨rfl,rfl⟩|⟨g,cap,f,rfl,a,b,d,c,_,_⟩
 .exact .inl ⟨rfl,rfl,iY (by simpa using h.1)⟩
 .exact .inr ⟨g,cap,rfl,a,(eT.1 b).1,d,c⟩
theorem dO{base:Nat}{e:TypeId}{size n:Nat}{v:Value}(h:w.ownsRow base e size v n xs):
  ∃A c,v=.slice A n c∧n≤c∧c≤maxLen:=by
 rcases zK h with⟨rfl,rfl,_⟩|⟨g,cap,rfl,_,_,b,a⟩
 .exact⟨none,0,rfl,aN _,by unfold maxLen; omega⟩
 .exact⟨_,cap,rfl,b,a⟩
theorem Dz{base a:Nat}{e:TypeId}{size n:Nat}{v:Value}(h:w.ownsRow base e size v n xs)(f:a≤base):w.ownsRow a e size v n xs:=by
 refine⟨h.1,?_⟩;rcases h.2 with c|⟨g,cap,b,d,i,r⟩
 .exact .inl c
 .exact .inr ⟨g,cap,b,d,by omega,r⟩
theorem Ea{base C:Nat}{e:TypeId}{size n:Nat}{v:Value}(h:w.ownsRow base e size v n xs)(d:Below C w w')(j:w.heap.size≤C):w'.ownsRow base e size v n xs:=by
 refine⟨h.1,?_⟩;rcases h.2 with c|⟨g,cap,b,i,f,a,r⟩
 .exact .inl c
 .refine .inr ⟨g,cap,b,i,f,?_,r⟩;have:g<w.heap.size:=(eT.1 a).1;rw[d.block g (by omega)];exact a
end
theorem nT{P:Program}(w:World){J:Array Oper}{L:List Oper}{o:Oper}{a:Act}{Q:Exit→Act→World→Prop}(y:o.guard=none)(s x:Operand)(t:TypeId)
  (D:o.op=.call {callee:=.builtin .append,args:=#[s,x],argTypes:=#[t,t]})
  (base:Nat) (e:TypeId) (i:TypeInfo) (z:Value) (size f:Nat) (q:P.underlying t=some (.slice e)) (l:P.info? e=some i) (hz:i.zero=some z)
  (b0:i.size=size) (U:i.bytes=f) (d0:z.cells.size=size) (G:0<size)
  (v:Value) (n:Nat) (xs:List Value) (p:w.ownsRow base e size v n xs) (F:a.eval s=v)
  (B:Nat) (A:Option Addr) (m c:Nat) (d:List Value) (E:Rd w B A d) (I:a.eval x=.slice A m c) (C:d.length=m*size) (N:∀u∈d,u.oneCell'=true)
  (R:n+m≤maxLen) (V:(n+m)*f≤140737488355328) (T:base≤w.heap.size)
  (h:∀v' w',w'.ownsRow base e size v' (n+m) (xs++d)→w.grownBy w' v.ownBlock→wpList P J Q L (a.put o.dst v') w'):wpList P J Q (o::L) a w:=by
 cases A with
 |some M=>
  refine wpList_append_own w y s x t D base e i z size f q l hz b0 U d0 G v n xs F p M m c d I C ?_ N R V T fun v' w' r O _=>h v' w' r O;intro j u H;rcases E with rfl|⟨b,e0,e,_,W⟩
  .simp at H
  .injection e with e
   subst e;rw[Addr.add_lit];exact W j u H
 |none=>
  have Y:d=[]:=by
   rcases E with h|⟨b,e0,e,_⟩
   .exact h
   .cases e
  subst Y;have X:m=0:=by
   rcases Dn m with k|k
   .exact k
   .have r:=Nat.mul_pos k G;simp only[nL]at C;omega
  subst X;refine wpList_plain y fun K S=>?_;have a0:(Builtin.append_ #[t,t] o.type #[v,.slice none 0 c]).run P w=.ok v w:=by
   rcases p.2 with⟨rfl,rfl⟩|⟨g,cap,g0,rfl,_,_,Z,_⟩
   .simp[Builtin.append_,run_underlying q,sizeOf,typeInfo,l,Builtin.lenOf,Builtin.firstCells]
   .simp[Builtin.append_,run_underlying q,sizeOf,typeInfo,l,Builtin.lenOf,Builtin.firstCells,Z,storeCells]
  unfold Oper.wp;simp[execOp,D,resolve,invoke,builtin,F,I,a0,Result.andThen];exact S _ _ (h v w (by simpa using p) (World.grownBy.refl _ _))
theorem Eb{a b c:World}{d:Option Nat}(h:a.grownBy b d)(k:b.grownBy c d):a.grownBy c d:=
 ⟨k.os.trans h.os,k.tape.trans h.tape,k.output.trans h.output,aB h.size k.size,fun i e f=>(k.block i (cY e h.size) f).trans (h.block i e f)⟩
theorem sB{base e size n:Nat}{v:Value}{xs:List Value}{w w':World}(d:w.ownsRow base e size v n xs)(b:w.grownBy w' v.ownBlock)(a:base≤w.heap.size):Below base w w':=
 (aH _ _).grown b a fun k c=>(d.lt k c).1
theorem Ec{P:Program}(w:World){d:Array Oper}{f:List Oper}{o:Oper}{a:Act}{Q:Exit→Act→World→Prop}(q:o.guard=none)(s x:Operand)(t:TypeId)
  (A:o.op=.call {callee:=.builtin .append,args:=#[s,x],argTypes:=#[t,t]})
  (base:Nat) (e:TypeId) (i:TypeInfo) (z:Value) (c:Nat) (E:P.underlying t=some (.slice e)) (r:P.info? e=some i) (H:i.zero=some z)
  (D:i.size=1) (m:i.bytes=c) (I:z.cells.size=1)
  (v:Value) (n:Nat) (xs:List Value) (B:w.ownsRow base e 1 v n xs) (C:a.eval s=v)
  (u:Value) (F:u.oneCell'=true) (G:a.eval x=.slice (some ⟨w.heap.size,0,none⟩) 1 1)
  (l:n+1≤maxLen) (p:(n+1)*c≤140737488355328) (J:base≤w.heap.size)
  (h:∀v' w',w'.ownsRow base e 1 v' (n+1) (xs++[u])→w.grownBy w' v.ownBlock→wpList P d Q f (a.put o.dst v') w'):wpList P d Q (o::f) a (w.alloc (.cells #[u] e)):=by
 refine wpList_append_own _ q s x t A base e i z 1 c E r H D m I (by omega) v n xs C (B.alloc _) ⟨w.heap.size,0,none⟩ 1 1 [u] G rfl ?_ ?_ l p (by simp; omega) fun v' w' g k _=>h v' w' g (Eb (World.grownBy_alloc w _ _) k)
 .intro j y b;rw[Addr.add_lit]
  cases j with
  |zero=>
   simp at b;subst b;rw[World.cell?_alloc_at _ _ _ _ rfl];rfl
  |succ j=>simp at b
 .intro y b;simp at b;subst b;exact F
theorem wH{P:Program}(w:World)(f d e:TypeId)(k:P.underlying f=some (.slice e))(j:P.underlying e=some (.int .u8))(g:P.underlying d=some .string)
  (B:Nat) (A:Option Addr) (n c:Nat) (l:List UInt8) (r:Rd w B A (bv l)) (q:l.length=n):
  (convert f d (.slice A n c)).run P w=.ok (.string ⟨l.toArray⟩) w:=by
 subst q;rcases r with h|⟨b,s,rfl,_,p⟩
 .have:l=[]:=by cases l with |nil=>rfl|cons a t=>simp[bv]at h
  subst this
  cases A with
  |none=>exact run_convert_bytes_nil w f e k j _ _ d g
  |some o=>
   rw[run_convert_bytes_string w f d e _ _ c k j g,run_bytesToString w o _ c [] (by simp[loadCells,loadCellsFrom])];rfl
 .have h:=run_convert_bytes_arg (P:=P) w f e k j b s l.length c (l.map fun x=>(x.toNat:Int)) (by simp) (fun i m=>by
   rw[p i _ (zI l i m)];simp[m]) d g
  rw[h];simp[strOfNums]
  congr 1
  apply List.ext_getElem<;>simp
end
section
def fI(ops:Array Oper)(i:Nat):Option Tmp:=(ops[i]?).bind (·.dst)
def iJ(ops:Array Oper)(i j:Nat):Bool:=((ops[i]?).map fun o=>o.after.any fun e=>Region.binds .any e&&e.on==j).getD false
def sC(ops:Array Oper)(i:Nat):List Tmp:=((ops[i]?).map fun o=>o.looksAt ops).getD []
def sD(ops:Array Oper):Bool:=
 Region.noSelect ops&&(List.range ops.size).all fun i=>
  ((ops[i]?).map fun o=>o.after.all fun e=> !Region.binds .any e||decide (e.on<i)).getD true&&
  (List.range ops.size).all fun j=>i==j||
   match fI ops j with
   |none=>true
   |some d=>(fI ops i != some d)&&(!(sC ops i).contains d||(decide (j<i)&&iJ ops i j)||(decide (i<j)&&iJ ops j i))
def cM(ops:Array Oper)(a:Act)(x:Nat→Value)(L:Nat→Bool):Nat→Act
 |0=>a
 |k+1=>if L k then (cM ops a x L k).put (fI ops k) (x k) else cM ops a x L k
def upd(x:Nat→Value)(i:Nat)(v:Value):Nat→Value:=fun j=>if j=i then v else x j
section
variable {ops:Array Oper}{a:Act}
theorem uA(a:Act)(d:Option Tmp)(v:Value):(a.put d v).tmps.size=a.tmps.size:=by
 cases d<;>simp[Act.put]
theorem Ed(a:Act)(d:Option Tmp)(v:Value):(a.put d v).defers=a.defers:=by
 cases d<;>simp[Act.put]
theorem oM(x:Nat→Value)(L:Nat→Bool):∀k,(cM ops a x L k).tmps.size=a.tmps.size
 |0=>rfl
 |k+1=>by
  unfold cM
  split
  .rw[uA,oM x L k]
  .exact oM x L k
theorem uB{x y:Nat→Value}{L M:Nat→Bool}:∀k,(∀j,j<k→L j=M j)→(∀j,j<k→L j=true→x j=y j)→cM ops a x L k=cM ops a y M k
 |0,_,_=>rfl
 |k+1,b,c=>by
  have f:=uB (x:=x) (y:=y) k (fun j e=>b j (by omega)) (fun j e=>c j (by omega));unfold cM;rw[←b k (by omega),f]
  split
  .rename_i d; rw[c k (by omega) d]
  .rfl
theorem zL{x:Nat→Value}{L:Nat→Bool}{i:Nat}{v:Value}(c:L i=false):∀k,i<k→(∀j,j<k→j≠i→∀d,fI ops j=some d→fI ops i≠some d)→
  (cM ops a x L k).put (fI ops i) v=cM ops a (upd x i v) (fun j=>j==i||L j) k
 |0,h,_=>absurd h (by omega)
 |k+1,h,f=>by
  by_cases g:i=k
  .subst g;have e:cM ops a x L i=cM ops a (upd x i v) (fun j=>j==i||L j) i:=
    uB i (fun j l=>by simp[show j≠i by omega]) (fun j l _=>by simp[upd,show j≠i by omega])
   conv=>lhs; rw[cM,c]
   conv=>rhs; rw[cM]
   simp[e,upd]
  .have m:=zL (x:=x) (v:=v) c k (by omega) (fun j l=>f j (by omega));have b:k≠i:=fun e=>g e.symm
   conv=>lhs; rw[cM]
   conv=>rhs; rw[cM]
   have e1:(k==i||L k)=L k:=by simp[b]
   rw[e1,←m]
   split
   .rw[Act.put_comm _ _ _ (f k (by omega) b)];simp[upd,b]
   .rfl
def iK(S:List Tmp)(a b:Act):Prop:=∀t,t∈S→a.tmps[t]? =b.tmps[t]?
theorem iK.put_both{S:List Tmp}{a b:Act}(h:iK S a b)(e:a.tmps.size=b.tmps.size)(d:Option Tmp)(v:Value):iK S (a.put d v) (b.put d v):=by
 intro t c
 cases d with
 |none=>exact h t c
 |some d=>
  simp only[Act.put,Mi,e];rw[h t c]
theorem iK.put_left{S:List Tmp}{a b:Act}(h:iK S a b){d:Option Tmp}(f:∀t,d=some t→t∉S)(v:Value):iK S (a.put d v) b:=by
 intro t c
 cases d with
 |none=>exact h t c
 |some d=>
  have g:d≠t:=fun e=>f d rfl (e▸c);simp only[Act.put,Array.getElem?_setIfInBounds_ne g];exact h t c
theorem iK.symm{S:List Tmp}{a b:Act}(h:iK S a b):iK S b a:=fun t c=>(h t c).symm
theorem zM{S:List Tmp}{x:Nat→Value}{L M:Nat→Bool}:∀k,(∀j,j<k→L j≠M j→∀d,fI ops j=some d→d∉S)→iK S (cM ops a x L k) (cM ops a x M k)
 |0,_=>fun _ _=>rfl
 |k+1,h=>by
  have b:=zM (x:=x) k (fun j c=>h j (by omega));unfold cM
  cases hL:L k<;>cases hM:M k<;>simp only[tL,if_false,if_true]
  .exact b
  .exact (b.symm.put_left (h k (by omega) (by simp[hL,hM])) _).symm
  .exact b.put_left (h k (by omega) (by simp[hL,hM])) _
  .exact b.put_both (by rw[oM,oM]) _ _
theorem zN{o:Oper}(d:∀c b,o.op≠.select c b){a b:Act}(h:iK (o.looksAt ops) a b):execOp a.eval o=execOp b.eval o:=
 execOp_congr o d fun x e=>by
  cases x with
  |tmp t=>
   have:=h t (List.mem_append_left _ (List.mem_filterMap.2 ⟨.tmp t,by simpa using e,rfl⟩));simp[Act.eval,this]
  |_=>rfl
theorem zO{o:Oper}{a b:Act}(h:iK (o.looksAt ops) a b):Region.wanted o (yielded ops a.tmps)=Region.wanted o (yielded ops b.tmps):=by
 unfold Region.wanted
 cases hg:o.guard with
 |none=>rfl
 |some c=>
  obtain⟨g,e⟩:=c;have d:yielded ops a.tmps g=yielded ops b.tmps g:=by
   unfold yielded
   cases ht:(ops[g]?).bind (·.dst) with
   |none=>rfl
   |some t=>
    have:=h t (by simp[Oper.looksAt,hg,ht]);simp[this]
  simp only[d]
end
def oN(a:Act)(d:Option Tmp)(R:Value→World→Prop):Exit→Act→World→Prop:=
 fun e a' w'=>e=.normal∧∃v,a'=a.put d v∧R v w'
section
variable {P:Program}{ops:Array Oper}{Q:Exit→Act→World→Prop}{C:World→Prop}
theorem Mx{a b:Act}(h:a.tmps.size=b.tmps.size){d:Option Tmp}{v u:Value}(g:a.put d v=a.put d u):b.put d v=b.put d u:=by
 cases d with
 |none=>rfl
 |some d=>
  by_cases e:d<a.tmps.size
  .have c:=bA (fun z:Act=>z.tmps[d]?) g;simp[Act.put,e]at c;rw[c]
  .have f:¬d<b.tmps.size:=by rw[←h]; exact e
   simp[Act.put,Array.setIfInBounds,f]
theorem zP{o:Oper}{a b:Act}{w:World}{R:Value→World→Prop}{K:Act→World→Prop}(p:execOp b.eval o=execOp a.eval o)(q:a.tmps.size=b.tmps.size)
  (h:wpList P ops (oN a o.dst R) [o] a w) (z:Region.wanted o (yielded ops b.tmps)=Region.wanted o (yielded ops a.tmps))
  (l:∀v c,R v c→K (b.put o.dst v) c):
  if Region.wanted o (yielded ops b.tmps) then o.wp P b w K Q else K (b.put o.dst undef) w:=by
 rw[z];have j:∀v c,oN a o.dst R .normal (a.put o.dst v) c→K (b.put o.dst v) c:=by
  rintro v c ⟨_,u,s,m⟩;rw[Mx q s];exact l u c m
 simp only[wpList]at h
 split
 .rename_i k;rw[aK k]at h;rcases h with h|⟨_,B,c,i⟩
  .unfold Oper.wp at h ⊢;rw[p];generalize (execOp a.eval o).run P w=r at h
   cases r with
   |ok n c=>
    cases n<;>simp only[Oper.upon]at h ⊢
    case value v=>exact j _ _ h
    case skip=>exact j _ _ h
    case defer d=>
     obtain⟨_,v,y,_⟩:=h;have:=bA Act.defers y;rw[Ed,Ed]at this;simp at this
    case enter f args=>
     refine h.mono fun e A g=>?_
     cases e with
     |returned v=>exact j _ _ g
     |panicked C=>exact absurd g.1 (by simp)
     |outgrown=>obtain⟨_,_,i,_⟩:=g; cases i
    case row r args=>exact h.mono fun v A g=>j _ _ g
   |halt x c=>
    cases x<;>simp only[Oper.upon]at h ⊢
    all_goals (exact absurd h.1 (by simp))
  .obtain⟨i,_⟩:=i; cases i
 .rename_i k;rw[aF k]at h;exact j _ _ h
def phi(φs:List (Value→World→Prop))(i:Nat):Value→World→Prop:=φs.getD i fun _ _=>True
def pU(ops:Array Oper)(φs:List (Value→World→Prop))(x:Nat→Value):Nat→Tmp→World→Prop
 |0=>fun _ _=>True
 |i+1=>fun t w=>if fI ops i=some t then phi φs i (x i) w else pU ops φs x i t w
theorem uC(a:List (Value→World→Prop))(x:Nat→Value)(t:Tmp)(w:World):∀i,(∀j,j<i→fI ops j=some t→phi a j (x j) w)→pU ops a x i t w
 |0,_=>trivial
 |i+1,h=>by
  unfold pU
  split
  .rename_i b; exact h i (by omega) b
  .exact uC a x t w i fun j c=>h j (by omega)
theorem Ee(a:Act)(x:Nat→Value)(i:Nat)(n:Nat)(h:i≤n):cM ops a x (fun j=>decide (j<i)) n=cM ops a x (fun _=>true) i:=by
 induction n with
 |zero=>
   obtain rfl:i=0:=by omega
   rfl
 |succ n d=>
  by_cases b:i=n+1
  .subst b;exact uB _ (fun j c=>by simpa using c) (fun _ _ _=>rfl)
  .rw[cM];have:decide (n<i)=false:=by simp; omega
   rw[this];exact d (by omega)
theorem Ef(g:sD ops=true):Region.noSelect ops=true∧(∀i o,ops[i]? =some o→∀e∈o.after,Region.binds .any e=true→e.on<i)∧
  ∀i j d,i<ops.size→j<ops.size→i≠j→fI ops j=some d→fI ops i≠some d∧(d∈sC ops i→(j<i∧iJ ops i j=true)∨(i<j∧iJ ops j i=true)):=by
 simp only[sD,bH,mL,List.mem_range]at g;obtain⟨k,f⟩:=g;refine⟨k,fun i o h e n l=>?_,fun i j d c p r m=>?_⟩
 .have c:i<ops.size:=(eT.1 h).1;have b:=(f i c).1;rw[h]at b;simp only[oL,rQ]at b;have a:=Array.all_eq_true_iff_forall_mem.1 b e n;simpa [l] using a
 .have b:=(f i c).2 j p;simp only[pS,beq_iff_eq,r,false_or,m,bH,bne_iff_ne,ne_eq,rK,bR]at b;refine⟨b.1,fun q=>?_⟩;rcases b.2 with (a|a)|a
  .rw[List.contains_eq_mem]at a; simp[q]at a
  .exact .inl a
  .exact .inr a
theorem Eg{o:Oper}{a b:Act}{w:World}{R:Value→World→Prop}(g:∀d b,o.op≠.select d b)(c:iK (o.looksAt ops) b a)(i:a.tmps.size=b.tmps.size)
  (h:wpList P ops (oN a o.dst R) [o] a w):wpList P ops (oN b o.dst R) [o] b w:=by
 refine wpList_step fun K e=>?_;exact zP (zN g c) i h (zO c) fun v j f=>e _ _ ⟨rfl,v,rfl,f⟩
def sE(d:Option Tmp)(l:List Oper):Bool:=l.all fun o=>(d.isNone||o.dst != d)&&(match o.op with |.select .. =>false|_=>true)
def isV(c:Value):Value→World→Prop:=fun v _=>v=c
theorem bE{S:List (Value→World→Prop)→Prop}(h:∃c,∃r,S (isV c::r)):∃b,S b:=let ⟨_,r,a⟩:=h; ⟨_::r,a⟩
theorem bJ{S:List (Value→World→Prop)→Prop}(φ:Value→World→Prop)(h:∃r,S (φ::r)):∃b,S b:=let ⟨r,a⟩:=h; ⟨φ::r,a⟩
theorem cC{S:List (Value→World→Prop)→Prop}(h:S []):∃a,S a:=⟨[],h⟩
end
end
section
section
variable {P:Program}{ops:Array Oper}{K:Act→World→Prop}{Q:Exit→Act→World→Prop}
variable {fuel:Nat}{listed:Array Bool}{a:Act}{w:World}
end
end
section
def Blk(W:World)(g:Nat)(t:TypeId)(cs:List Value):Prop:=W.heap[g]? =some (.cells cs.toArray t (0,0))
section
variable {W W':World}{g g':Nat}{t:TypeId}{cs cs':List Value}
theorem Blk.lt(h:Blk W g t cs):g<W.heap.size:=(eT.1 h).1
theorem Blk.cell(h:Blk W g t cs)(j:Nat):W.cell? ⟨g,j,none⟩=cs[j]?:=by
 simp[World.cell?,show W.heap[g]? =_ from h]
theorem Blk.frozen(h:Blk W g t cs)(j:Nat):W.frozen? ⟨g,j,none⟩=false:=by simp[World.frozen?,show W.heap[g]? =_ from h]
theorem Blk.new(W:World)(t:TypeId)(cs:List Value):Blk (W.alloc (.cells cs.toArray t)) W.heap.size t cs:=heap_alloc_new W _
theorem Blk.alloc(h:Blk W g t cs)(o:Obj):Blk (W.alloc o) g t cs:=(Dx W o g h.lt).trans h
theorem Blk.below{C:Nat}(h:Blk W g t cs)(a:Below C W W')(b:g<C):Blk W' g t cs:=(a.block g b).trans h
theorem Blk.load{P:Program}(h:Blk W g t cs){k:Nat}(a:cs.length=k):Sem.run P (loadCellsFrom ⟨g,0,none⟩ 0 k #[]) W=.ok cs.toArray W:=by
 have:=run_loadCells_list (P:=P) (w:=W) ⟨g,0,none⟩ cs (fun j v b=>by
  rw[Addr.add_lit,gL,h.cell];exact b)
 rw[a]at this;simpa [loadCells] using this
theorem Blk.loadOff{P:Program}(h:Blk W g t cs)(o k:Nat)(xs:List Value)(c:(cs.drop o).take k=xs)(b:xs.length=k):Sem.run P (loadCellsFrom ⟨g,o,none⟩ 0 k #[]) W=.ok xs.toArray W:=by
 have:=run_loadCells_list (P:=P) (w:=W) ⟨g,o,none⟩ xs (fun j v a=>by
  rw[Addr.add_lit,h.cell];rw[←c,nK]at a
  split at a
  .rw[lG]at a; exact a
  .cases a)
 rw[b]at this;simpa [loadCells] using this
theorem Blk.store{P:Program}(h:Blk W g t cs)(b:cs'.length=cs.length)(a:∀u∈cs',u.oneCell'=true):Sem.run P (storeCells ⟨g,0,none⟩ cs' 0) W=.ok () (W.setRow g cs'.toArray):=by
 have:=run_storeCells_from (P:=P) g t cs' 0 cs.toArray W h (by simp[b]) a;simpa using this
theorem Blk.loadVar{P:Program}(h:Blk W g t cs){a:TypeId}{d:TypeDesc}(e:P.underlying a=some d)(b:(match d with |.struct _|.array _ _=>true|_=>false)=true)(c:(P.info? a).map (·.size)=some cs.toArray.size):
  Sem.run P (Go.loadVar a ⟨g,0,none⟩) W=.ok (.agg cs.toArray) W:=run_loadVar_row W g t a cs.toArray (0,0) d h e b c
theorem Blk.set(h:Blk W g t cs)(cs':List Value):Blk (W.setRow g cs'.toArray) g t cs':=setRow_heap W g _ _ t _ h
theorem Blk.setCell(h:Blk W g t cs)(j:Nat)(u:Value):Blk (W.setCell ⟨g,j,none⟩ u) g t (cs.set j u):=by
 have e:=setCell_eq_setRow W g j cs.toArray t (0,0) u h;rw[e];have:=setRow_heap W g _ (cs.toArray.setIfInBounds j u) t _ h;unfold Blk;rw[this];simp
theorem Blk.other(h:Blk W g t cs)(a:g≠g')(x:Array Value):Blk (W.setRow g' x) g t cs:=(setRow_other W g' g x a).trans h
theorem Blk.otherCell(h:Blk W g t cs)(a:g≠g')(j:Nat)(u:Value):Blk (W.setCell ⟨g',j,none⟩ u) g t cs:=(Below.heap_setCell W _ u g a).trans h
end
theorem eU{B:Nat}{a w:World}(h:Below B a w){g:Nat}(b:B≤g)(x:Array Value):Below B a (w.setRow g x):=
 h.trans ⟨rfl,rfl,rfl,by simp,fun k c=>setRow_other w g k x (by omega)⟩
theorem aX{P:Program}(a:Addr)(v:Value)(w:World):Sem.run P (storeCells a [v] 0) w=Sem.run P (store (a.add 0) v) w:=by
 simp only[storeCells,Sem.run_bind]
 cases Sem.run P (store (a.add 0) v) w<;>simp[Result.andThen]
structure Chg(S:Nat→Prop)(w w':World):Prop where
 os:w'.os=w.os
 tape:w'.tape=w.tape
 output:w'.output=w.output
 size:w.heap.size≤w'.heap.size
 block:∀k,k<w.heap.size→¬S k→w'.heap[k]? =w.heap[k]?
section
variable {S T:Nat→Prop}{a b c w w':World}{B g:Nat}
theorem Chg.refl(S:Nat→Prop)(w:World):Chg S w w:=⟨rfl,rfl,rfl,aN _,fun _ _ _=>rfl⟩
theorem Chg.trans(h:Chg S a b)(k:Chg T b c)(f:∀i,i<a.heap.size→T i→S i):Chg S a c:=
 ⟨k.os.trans h.os,k.tape.trans h.tape,k.output.trans h.output,aB h.size k.size,fun i d e=>(k.block i (cY d h.size) fun g=>e (f i d g)).trans (h.block i d e)⟩
theorem Chg.mono(h:Chg S a b)(d:∀i,i<a.heap.size→S i→T i):Chg T a b:=⟨h.os,h.tape,h.output,h.size,fun i c e=>h.block i c fun f=>e (d i c f)⟩
theorem Chg.of_below(h:Bw' a b):Chg S a b:=⟨h.os,h.tape,h.output,h.size,fun k c _=>h.block k c⟩
theorem Chg.below(h:Chg S a b)(c:∀i,S i→B≤i)(e:B≤a.heap.size):Below B a b:=⟨h.os,h.tape,h.output,h.size,fun k f=>h.block k (by omega) fun d=>by have:=c k d; omega⟩
theorem Chg.then(h:Chg S a b)(k:Bw' b c):Chg S a c:=h.trans (T:=S) (Chg.of_below k) fun _ _ h=>h
theorem Chg.setRow(h:Chg S a w)(b:a.heap.size≤g∨S g)(x:Array Value):Chg S a (w.setRow g x):=
 ⟨h.os,h.tape,h.output,by have:=h.size; simpa using this,fun k d c=>(setRow_other w g k x (by rintro rfl; rcases b with b|b; omega; exact c b)).trans (h.block k d c)⟩
theorem Chg.setCell(h:Chg S a w)(b:a.heap.size≤g∨S g)(j:Nat)(u:Value):Chg S a (w.setCell ⟨g,j,none⟩ u):=
 ⟨h.os,h.tape,h.output,by have:=h.size; simpa [World.setCell] using this,fun k d c=>(Below.heap_setCell w _ u k (by rintro rfl; rcases b with b|b; omega; exact c b)).trans (h.block k d c)⟩
theorem Chg.alloc(h:Chg S a w)(o:Obj):Chg S a (w.alloc o):=
 ⟨h.os,h.tape,h.output,by have:=h.size; simp; omega,fun k b c=>(Dx w o k (by have:=h.size; omega)).trans (h.block k b c)⟩
theorem Chg.drew(h:Chg S a w):Chg S a w.drew:=⟨h.os,h.tape,h.output,h.size,h.block⟩
theorem Chg.drewN(h:Chg S a w)(n:Nat):Chg S a (w.drewN n):=⟨h.os,h.tape,h.output,h.size,h.block⟩
theorem Blk.chg{t:TypeId}{cs:List Value}(h:Blk a g t cs)(c:Chg S a b)(d:¬S g):Blk b g t cs:=(c.block g h.lt d).trans h
end
end
section
open Go.RowKit Go.ChangeShapes Go.WideShapes Go.ChangeAt
theorem own:ownKnob prog.godebug=none:=by kernel_rfl
theorem laidOut:laidOutB prog=true:=by kernel_rfl
section
variable {H:Type}{enc:TypeId×Value→H}{P:Program}{w:World}{base:Nat}{spare:Nat→Bool}{held:Bool}
def sv(l:List ByteArray):List Value:=l.map Value.string
end
end
section
open Go.RowKit Go.ChangeShapes Go.WideShapes Go.ChangeAt Go.Deep
theorem wI{α:Type}(k:Nat):∀(b:List (List α)),(∀r∈b,r.length=k)→∀(i t:Nat)(a:i<b.length),t<k→b.flatten[i*k+t]? =(b[i])[t]?
 |[],_,i,t,a,_=>absurd a (by simp)
 |r::e,h,0,t,_,c=>by
  rw[Dw,nQ,gL,pP (by rw[h r (by simp)]; exact c)];rfl
 |r::e,h,i+1,t,a,c=>by
  have d:=h r (by simp);rw[Dw,Me (by rw[d,fH]; omega),d];rw[show (i+1)*k+t-k=i*k+t by rw[fH]; omega];exact wI k e (fun x f=>h x (by simp[f])) i t (by simpa using a) c
theorem zQ{α:Type}(k:Nat):∀(a:List (List α)),(∀r∈a,r.length=k)→a.flatten.length=a.length*k
 |[],_=>by simp
 |r::c,h=>by
  rw[Dw,bF,h r (by simp),zQ k c (fun x b=>h x (by simp[b])),eS,fH];omega
section
variable {H:Type}{enc:TypeId×Value→H}{P:Program}{w:World}{base:Nat}{spare:Nat→Bool}{held:Bool}
end
end
section
theorem uD(a b:Bool):(a=false∧(a&&b)=false)∨(a=true∧b=false∧(a&&b)=false)∨(a=true∧b=true∧(a&&b)=true):=by
 cases a<;>cases b<;>simp
theorem My(a b c:Bool):(a=false∧(a&&(b&&c))=false)∨(a=true∧b=false∧(a&&(b&&c))=false)∨(a=true∧b=true∧c=false∧(a&&(b&&c))=false)∨
  (a=true∧b=true∧c=true∧(a&&(b&&c))=true):=by
 cases a<;>cases b<;>cases c<;>simp
structure Bk where
 (a o:Int)
deriving DecidableEq
def Bk.cells(b:Bk):List Value:=[.i b.a,.i b.o]
def aU(o:Int):Int:=if 0≤o∧o≤8 then 2 ^ o.toNat else 0
def aW(o:Int):Int:=2 ^ o.toNat
theorem zR{o:Int}(a:0≤o)(b:o≤8):o=0∨o=1∨o=2∨o=3∨o=4∨o=5∨o=6∨o=7∨o=8:=by omega
theorem fX(o:Int):0≤aU o∧aU o≤256:=by
 unfold aU
 split
 .rename_i h;rcases zR h.1 h.2 with rfl|rfl|rfl|rfl|rfl|rfl|rfl|rfl|rfl<;>decide
 .omega
theorem zS{o:Int}(a:0≤o)(b:o≤8):1≤aU o:=by
 rcases zR a b with rfl|rfl|rfl|rfl|rfl|rfl|rfl|rfl|rfl<;>decide
theorem fJ{o:Int}(a:0≤o)(b:o≤8):aU o=aW o:=by
 unfold aU aW;rw[aK ⟨a,b⟩]
def cZ(o:Int):Bool:=decide (3≤o)&&decide (o≤8)
theorem fB{o:Int}(h:cZ o=true):3≤o∧o≤8:=by simpa [cZ] using h
def bY(o:Int)(b:Bk):Bool:=decide (0≤b.o)&&(decide (b.o≤o)&&(decide (0≤b.a)&&(decide (b.a≤aU o-aU b.o)&&decide (b.a % aU b.o=0))))
theorem Mz(a b c d e:Bool):(a=false∧(a&&(b&&(c&&(d&&e))))=false)∨(a=true∧b=false∧(a&&(b&&(c&&(d&&e))))=false)∨(a=true∧b=true∧c=false∧(a&&(b&&(c&&(d&&e))))=false)∨
  (a=true∧b=true∧c=true∧d=false∧(a&&(b&&(c&&(d&&e))))=false)∨(a=true∧b=true∧c=true∧d=true∧(a&&(b&&(c&&(d&&e))))=e):=by
 cases a<;>cases b<;>cases c<;>cases d<;>simp
def bP(b:Bk):Bk:=⟨if b.a % (2*aU b.o)=0 then b.a+aU b.o else b.a-aU b.o,b.o⟩
theorem uE(w:World)(b:Bk)(t:TypeId):(w.alloc (.cells #[.i b.a,.i b.o] t)).cell? ⟨w.heap.size,0,none⟩=some (.i b.a)∧
  (w.alloc (.cells #[.i b.a,.i b.o] t)).cell? ⟨w.heap.size,1,none⟩=some (.i b.o):=
 ⟨(Blk.new w t b.cells).cell 0,(Blk.new w t b.cells).cell 1⟩
theorem wJ{B:Nat}{a w:World}(h:Below B a w)(n:Nat):Below B a (w.drewN n):=h.trans ⟨rfl,rfl,rfl,aN _,fun _ _=>rfl⟩
theorem bL{B:Nat}{a w:World}(h:Below B a w):Below B a w.drew:=h.trans ⟨rfl,rfl,rfl,aN _,fun _ _=>rfl⟩
theorem Na:∀k:Fin 9,∀a:Fin 257,(bits .and .i64 (a.1:Int) (aU (k.1:Int)-1)==0)=decide ((a.1:Int) % aU (k.1:Int)=0):=by decide+kernel
theorem Nb{a o:Int}(b:0≤a)(d:a≤256)(c:0≤o)(e:o≤8):(bits .and .i64 a (aU o-1)==0)=decide (a % aU o=0):=by
 have h:=Na ⟨o.toNat,by omega⟩ ⟨a.toNat,by omega⟩;simp only[Dq b,Dq c]at h;exact h
theorem Nc:∀k:Fin 9,∀a:Fin 257,(a.1:Int) % aU (k.1:Int)=0→bits .xor .i64 (a.1:Int) (aU (k.1:Int))=if (a.1:Int) % (2*aU (k.1:Int))=0 then (a.1:Int)+aU (k.1:Int) else (a.1:Int)-aU (k.1:Int):=by decide+kernel
theorem Nd{a o:Int}(b:0≤a)(e:a≤256)(c:0≤o)(f:o≤8)(d:a % aU o=0):bits .xor .i64 a (aU o)=if a % (2*aU o)=0 then a+aU o else a-aU o:=by
 have h:=Nc ⟨o.toNat,by omega⟩ ⟨a.toNat,by omega⟩;simp only[Dq b,Dq c]at h;exact h d
theorem gU{o:Int}{b:Bk}(c:cZ o=true)(h:bY o b=true):0≤b.o∧b.o≤o∧o≤8∧0≤b.a∧b.a≤256∧b.a+aU b.o≤aU o∧b.a % aU b.o=0∧1≤aU b.o∧aU b.o≤256:=by
 have d:=fB c;simp only[bY,bH,bR]at h;have e:=fX o;have f:=zS h.1 (by omega);have g:=fX b.o;omega
def jA(x y:Bk):Bool:=decide (x.a<y.a+aW y.o)&&decide (y.a<x.a+aW x.o)
def aO{α:Type}(enc:α→List Value)(l:List α):List Value:=(l.map enc).flatten
def Sl{α:Type}(w:World)(B:Nat)(v:Value)(enc:α→List Value)(l:List α):Prop:=∃A c,v=.slice A l.length c∧Rd w B A (aO enc l)∧l.length≤c∧c≤maxLen
section
variable {α:Type}{enc:α→List Value}{w w':World}{B C:Nat}{v:Value}{l:List α}
theorem Sl.below(h:Sl w B v enc l)(e:Below C w w')(d:B≤C):Sl w' B v enc l:=by
 obtain⟨A,c,rfl,f,a,b⟩:=h;exact⟨A,c,rfl,f.below e d,a,b⟩
theorem Sl.more(h:Sl w B v enc l)(d:B≤C):Sl w C v enc l:=by
 obtain⟨A,c,rfl,e,a,b⟩:=h;exact⟨A,c,rfl,e.more d,a,b⟩
theorem cW(k:Nat)(b:∀a,(enc a).length=k)(l:List α):(aO enc l).length=l.length*k:=by
 have:=zQ k (l.map enc) (fun r c=>by obtain⟨a,_,rfl⟩:=cP.1 c; exact b a)
 rwa [dD]at this
theorem mN(c:∀a,∀u∈enc a,u.oneCell'=true)(l:List α):∀u∈aO enc l,u.oneCell'=true:=by
 intro u b;obtain⟨x,d,b⟩:=List.mem_flatten.1 b;obtain⟨a,_,rfl⟩:=cP.1 d;exact c a u b
theorem kE(l m:List α):aO enc (l++m)=aO enc l++aO enc m:=by simp[aO]
theorem dS{P:Program}{A:Option Addr}(k:Nat)(d:∀a,(enc a).length=k)(p:0<k)(e:Rd w B A (aO enc l))(i:Nat)(m:i<l.length):
  ∃b c,A=some ⟨b,c,none⟩∧b<B∧(∀t u,(enc (l[i]))[t]? =some u→w.cell? ⟨b,c+i*k+t,none⟩=some u)∧
   ∀n,Sem.run P (loadCellsFrom ⟨b,c+i*k,none⟩ 0 k #[]) (w.drewN n)=.ok (enc (l[i])).toArray (w.drewN n):=by
 have y:=cW k d l;have g:=fun t f=>wI k (l.map enc) (fun r e=>by obtain⟨a,_,rfl⟩:=cP.1 e; exact d a) i t (by simpa using m) f;simp only[pQ]at g;obtain⟨b,c,q,s,x⟩:=e.at_ (k:=i*k) (by rw[y]; exact Nat.mul_lt_mul_of_pos_right m p);have h:∀t u,(enc (l[i]))[t]? =some u→w.cell? ⟨b,c+i*k+t,none⟩=some u:=fun t u o=>by
  have f:t<k:=by have:=(iZ.1 o).1; rw[d]at this; exact this
  rw[lW];exact x _ _ ((g t f).trans o)
 refine⟨b,c,q,s,h,fun n=>?_⟩;have:=run_loadCells_list (P:=P) (w:=w.drewN n) ⟨b,c+i*k,none⟩ (enc (l[i])) (fun j v z=>by
  rw[Addr.add_lit];exact h j v z)
 rw[d]at this;simpa [loadCells] using this
end
theorem cO(b:Bk):b.cells.length=2:=rfl
theorem lJ(b:Bk):∀u∈b.cells,u.oneCell'=true:=by
 intro u a;simp only[Bk.cells,bD,dF,or_false]at a;rcases a with rfl|rfl<;>rfl
def bV(l:List Bk):Int:=(l.map fun b=>aW b.o).sum
end
section
structure Blw(W:World) where
 w:World
 h:Bw' W w
section
variable {P:Program}{W:World}
def Blw.at0(W:World):Blw W:=⟨W,aH _ _⟩
instance blwAny:Inhabited (Blw W):=⟨Blw.at0 W⟩
def Blw.on(p:Blw W){w:World}(h:Below p.w.heap.size p.w w):Blw W:=⟨w,p.h.on h⟩
theorem Blw.size(p:Blw W):W.heap.size≤p.w.heap.size:=p.h.size
theorem Blw.cell(p:Blw W){a:Addr}{v:Value}(b:a.block<W.heap.size)(h:W.cell? a=some v):p.w.cell? a=some v:=(p.h.cell b).trans h
theorem Blw.rd{B:Nat}{A:Option Addr}{xs:List Value}(p:Blw W)(h:Rd W B A xs)(a:B≤W.heap.size):Rd p.w B A xs:=h.below p.h a
theorem bG{a:Addr}{v:Value}(h:W.cell? a=some v):∀p:Blw W,p.w.cell? a=some v:=fun p=>p.cell (World.block_lt_of_cell? W _ h) h
theorem gV{f:FuncId}{args:Array Value}{p:Blw W}{v:Value}(h:Calls P f args p.w fun e c=>e=.returned v∧Below p.w.heap.size p.w c):Calls P f args p.w fun e d=>e=.returned v∧∃q:Blw W,d=q.w:=
 h.mono fun _ _ ⟨b,a⟩=>⟨b,p.on a,rfl⟩
theorem dP{f:FuncId}{args:Array Value}{p:Blw W}{v:Value}(h:Calls P f args p.w fun e c=>e=.returned v∧c=p.w):Calls P f args p.w fun e d=>e=.returned v∧∃q:Blw W,d=q.w:=
 h.mono fun _ _ ⟨b,a⟩=>⟨b,p,a⟩
theorem cX{id:Nat}{Q:Exit→Act→World→Prop}{a:Act}{l:List Oper}(e:P.follows .mixedOrders=true)(d:Region.lexB .any l.toArray=true)
  (h:wpQuiet P l.toArray (fun b=>∃p:Blw W,b=p.w) (fun c=>∀b,(∃p:Blw W,b=p.w)→Q .normal c b) l a):(Code.region id l.toArray true).wp P Q a W:=
 wp_region_quiet (C:=fun b=>∃p:Blw W,b=p.w) e d ⟨⟨{W with drawn:=W.drawn+1},rfl,rfl,rfl,aN _,fun _ _=>rfl⟩,rfl⟩ (by simpa using h)
variable {ops:Array Oper}{C:World→Prop}
def uF(P:Program)(ops:Array Oper)(C:World→Prop)(n:Nat)(L:Array Bool→Act→Prop):Nat→Array Bool→Act→Prop
 |0,listed,a=>L listed a
 |f+1,listed,a=>Region.ready .any ops listed≠[]∧∀i∈Region.ready .any ops listed,i<n∧qOp P ops C i (uF P ops C n L f (listed.setIfInBounds i true)) a
theorem Nf{n g:Nat}{L:Array Bool→Act→Prop}{Q:Exit→Act→World→Prop}(k:∀b a w,C w→L b a→wpAny P .any ops Q g b a w)(f:Nat):
  ∀(b:Array Bool)(a:Act)(w:World),C w→uF P ops C n L f b a→wpAny P .any ops Q (f+g) b a w:=by
 induction f with
 |zero=>intro b a w c h; rw[gL]; exact k _ _ _ c h
 |succ f o=>
  intro b a w c h;rw[Nat.add_right_comm];exact⟨fun j=>absurd j h.1,fun i l=>wpOp_of_qOp c (fun d p m e=>o _ d p m e) (h.2 i l).2⟩
theorem Ng{n i:Nat}{r:Oper}{v:Value}{L:Array Bool→Act→Prop}(z:ops[i]? =some r)(G:∀(j:Nat)(o:Oper) q b,ops[j]? =some o→o.op≠.select q b)
  (Y:Region.sinkB .any ops n=true) (N:Region.chainB .any ops n=true) (W:n<ops.size) (R:i<n) (J:∀c a,L c a→∀j∈Region.ready .any ops c,n≤j) (f:Nat):
  ∀(c:Array Bool)(a:Act),HeadInv .any ops n c→(∀j p,ops[j]? =some p→j≠i→c.getD j true=false→(∀e∈p.after,Region.binds .any e=true→e.on≠i)→r.apart ops p=true)→
   i∈Region.ready .any ops c→YieldsIn P ops C r v a→uF P ops C n L f (c.setIfInBounds i true) (a.put r.dst v)→uF P ops C n L (f+1) c a:=by
 have x:∀(c:Array Bool),HeadInv .any ops n c→i∈Region.ready .any ops c→∀j∈Region.ready .any ops c,j<n:=fun c l d j g=>by
  rcases nN j n with h|h
  .exact h
  .exact absurd g (tail_waits Y N W l _ i rfl R (mem_ready.1 d).1 j h)
 induction f with
 |zero=>
  intro c a l _ d s H;refine⟨fun h=>(by rw[h]at d; cases d),fun j g=>⟨x c l d j g,?_⟩⟩;rcases Nat.decEq j i with m|rfl
  .have y:=J _ _ H j (ready_mono g m);have B:=x c l d j g;omega
  .exact s.qOp z H
 |succ f ih=>
  intro c a l E d s H;refine⟨fun h=>(by rw[h]at d; cases d),fun j g=>⟨x c l d j g,?_⟩⟩;rcases Nat.decEq j i with m|rfl
  .obtain⟨F,p,A,K⟩:=mem_ready.1 g;have Z:=(mem_ready.1 d).1;have B:=qOp_put A (E j p A m F fun e O M Q=>by
    have y:=K e O M;rw[Q,getD_both Z]at y
    cases y) (fun q b=>G i r q b z) (fun q b=>G j p q b A) s (H.2 j (ready_mono g m)).2
   refine qOp_mono (fun I D=>ih (c.setIfInBounds j true) I (l.set g (x c l d j g)) (fun k ok T V U X=>?_) (ready_mono d (bM m)) D.1 (by rw[Array.setIfInBounds_comm _ _ m]; exact D.2)) B;refine E k ok T V ?_ X;rcases Nat.decEq j k with S|rfl
   .rwa [getD_set_ne true S]at U
   .exact F
  .exact s.qOp z H
theorem Nh{n g:Nat}{e:Act→Prop}(B:Region.noSelect ops=true)(A:Region.sinkB .any ops n=true)(y:Region.chainB .any ops n=true)(z:n<ops.size):
  ∀(l:List Oper)(k:Nat)(b:Array Bool)(a:Act),(∀j,j<l.length→l[j]? =ops[k+j]?)→k+l.length=n→HeadInv .any ops n b→Region.lexHead .any ops g l.length k b=true→
  wpQuiet P ops C e l a→uF P ops C n (fun r i=>Region.seqB .any ops g n r=true∧e i) l.length b a:=by
 intro l
 induction l with
 |nil=>
  intro k b a _ f _ c h;obtain rfl:k=n:=by simpa using f
  exact⟨by simpa [Region.lexHead] using c,h⟩
 |cons o l E=>
  intro k b a m f q c h;have d:ops[k]? =some o:=by simpa using (m 0 (by simp)).symm
  simp only[eS,Region.lexHead,bH]at c f;have p:k∈Region.ready .any ops b:=by simpa using c.1.1
  obtain⟨v,D,s⟩:=yieldsIn_of_qOp d (show qOp P ops C k (wpQuiet P ops C e l) a by unfold qOp; simp only[d]; exact h);refine Ng d (Region.noSelect_spec B) A y z (by omega) (fun r i x=>seqB_ready x.1) l.length b a q (Region.free_spec d c.1.2) p D ?_;exact E (k+1) _ _ (fun j F=>by have:=m (j+1) (by simp; omega); simpa [lW,Nat.add_comm 1 j] using this) (by omega) (q.set p (by omega)) c.2 s
theorem mO{id:Nat}{Q:Exit→Act→World→Prop}{a:Act}{l:List Oper}(n:Nat)(s:P.follows .mixedOrders=true)(d:Region.lexTailB .any l.toArray n=true)
  (h:wpQuiet P l.toArray (fun b=>∃p:Blw W,b=p.w) (fun c=>∀b,(∃p:Blw W,b=p.w)→wpList P l.toArray Q (l.drop n) c b) (l.take n) a):(Code.region id l.toArray true).wp P Q a W:=by
 simp only[Region.lexTailB,bH,bR]at d;obtain⟨⟨⟨⟨y,k⟩,x⟩,q⟩,r⟩:=d;have D:n<l.length:=by simpa using k
 have m:(l.take n).length=n:=by simp; omega
 have f:(l.drop n).length=l.toArray.size-n:=by simp
 have H:=Nh (g:=l.toArray.size-n) y x q k (l.take n) 0 (Array.replicate l.toArray.size false) a (fun j C=>by
  have:j<n:=by omega
  simp[this]) (by omega) ⟨by simp,fun j E _ i=>(by rw[getD_replicate_false]at i; cases i),fun t _ z=>getD_in (by simpa using z) (getD_replicate_false _ _)⟩ (by rw[m]; exact r) h
 have o:∃p:Blw W,({W with drawn:=W.drawn+1}:World)=p.w:=⟨⟨{W with drawn:=W.drawn+1},rfl,rfl,rfl,aN _,fun _ _=>rfl⟩,rfl⟩
 have T:=Nf (Q:=Q) (g:=l.toArray.size-n) (fun B c b A e=>by
  have:=wpAny_of_seq (md:=.any) (Q':=Q) (l.drop n) n B c b (fun j=>by simp[lG]) (by rw[f]; exact e.1) (e.2 b A)
  rwa [f]at this) _ _ _ _ o H
 rw[m,show n+(l.toArray.size-n)=l.toArray.size by omega]at T;exact wp_region_any s T
end
end
end Go.Proofs.YtoncgpddjmgbfaaGreat
