import Derived.Test.YtdoopoapbffpbaaGreatRows
import Derived.WalkKit
import Derived.WalkLawsBesides
import Derived.WalkSpells
import Derived.ProofKit
import Derived.OpenShut
import Derived.ShutString
import Derived.ChangeOld
import Derived.Below
import Derived.Lib.Hide
import Derived.Laws.AppendOwnNone
import Derived.Lib.AppendStr
import Derived.Lib.SlBytesConst
import Derived.Deep.QuietTactic
import Derived.BigQuiet
import Derived.Deep.DeepFit
import Derived.Deep.RegionWith
import Derived.Deep.LoopGhost
import Derived.Deep.DeepCutAuto
namespace Go.Proofs.YtdoopoapbffpbaaGreat
open Go.RowKit Go.Proofs.Tryz
set_option maxRecDepth 100000
set_option maxHeartbeats 12800000
set_option linter.unusedVariables false
set_option linter.unusedSimpArgs false
abbrev _root_.Go.Value.i (z:Int):Value:=Value.int .i64 z
structure Kp(p:Prop):Type where
 o:p
def kp{p:Prop}(h:p):Kp p:=⟨h⟩
section
variable {A0 A1 A2 A3 A4 A5 A6 A7 A8 A9 AA AB AC AD:Prop}
def k'2(h0:A0)(h1:A1):Kp (A0∧A1):=⟨h0,h1⟩
def k'3(h0:A0)(h1:A1)(h2:A2):Kp (A0∧A1∧A2):=⟨h0,h1,h2⟩
def k'4(h0:A0)(h1:A1)(h2:A2)(h3:A3):Kp (A0∧A1∧A2∧A3):=⟨h0,h1,h2,h3⟩
def k'5(h0:A0)(h1:A1)(h2:A2)(h3:A3)(h4:A4):Kp (A0∧A1∧A2∧A3∧A4):=⟨h0,h1,h2,h3,h4⟩
def k'6(h0:A0)(h1:A1)(h2:A2)(h3:A3)(h4:A4)(h5:A5):Kp (A0∧A1∧A2∧A3∧A4∧A5):=⟨h0,h1,h2,h3,h4,h5⟩
def k'7(h0:A0)(h1:A1)(h2:A2)(h3:A3)(h4:A4)(h5:A5)(h6:A6):Kp (A0∧A1∧A2∧A3∧A4∧A5∧A6):=⟨h0,h1,h2,h3,h4,h5,h6⟩
def k'8(h0:A0)(h1:A1)(h2:A2)(h3:A3)(h4:A4)(h5:A5)(h6:A6)(h7:A7):Kp (A0∧A1∧A2∧A3∧A4∧A5∧A6∧A7):=⟨h0,h1,h2,h3,h4,h5,h6,h7⟩
def k'9(h0:A0)(h1:A1)(h2:A2)(h3:A3)(h4:A4)(h5:A5)(h6:A6)(h7:A7)(h8:A8):Kp (A0∧A1∧A2∧A3∧A4∧A5∧A6∧A7∧A8):=⟨h0,h1,h2,h3,h4,h5,h6,h7,h8⟩
def k'a(h0:A0)(h1:A1)(h2:A2)(h3:A3)(h4:A4)(h5:A5)(h6:A6)(h7:A7)(h8:A8)(h9:A9):Kp (A0∧A1∧A2∧A3∧A4∧A5∧A6∧A7∧A8∧A9):=⟨h0,h1,h2,h3,h4,h5,h6,h7,h8,h9⟩
theorem Kp.a(x:Kp (A0∧A1)):A0:=x.o.1
theorem Kp.b(x:Kp (A0∧A1∧A2)):A1:=x.o.2.1
theorem Kp.B(x:Kp (A0∧A1)):A1:=x.o.2
theorem Kp.c(x:Kp (A0∧A1∧A2∧A3)):A2:=x.o.2.2.1
theorem Kp.C(x:Kp (A0∧A1∧A2)):A2:=x.o.2.2
theorem Kp.d(x:Kp (A0∧A1∧A2∧A3∧A4)):A3:=x.o.2.2.2.1
theorem Kp.D(x:Kp (A0∧A1∧A2∧A3)):A3:=x.o.2.2.2
theorem Kp.e(x:Kp (A0∧A1∧A2∧A3∧A4∧A5)):A4:=x.o.2.2.2.2.1
theorem Kp.E(x:Kp (A0∧A1∧A2∧A3∧A4)):A4:=x.o.2.2.2.2
theorem Kp.f(x:Kp (A0∧A1∧A2∧A3∧A4∧A5∧A6)):A5:=x.o.2.2.2.2.2.1
theorem Kp.F(x:Kp (A0∧A1∧A2∧A3∧A4∧A5)):A5:=x.o.2.2.2.2.2
theorem Kp.g(x:Kp (A0∧A1∧A2∧A3∧A4∧A5∧A6∧A7)):A6:=x.o.2.2.2.2.2.2.1
theorem Kp.G(x:Kp (A0∧A1∧A2∧A3∧A4∧A5∧A6)):A6:=x.o.2.2.2.2.2.2
theorem Kp.h(x:Kp (A0∧A1∧A2∧A3∧A4∧A5∧A6∧A7∧A8)):A7:=x.o.2.2.2.2.2.2.2.1
theorem Kp.H(x:Kp (A0∧A1∧A2∧A3∧A4∧A5∧A6∧A7)):A7:=x.o.2.2.2.2.2.2.2
theorem Kp.i(x:Kp (A0∧A1∧A2∧A3∧A4∧A5∧A6∧A7∧A8∧A9)):A8:=x.o.2.2.2.2.2.2.2.2.1
theorem Kp.I(x:Kp (A0∧A1∧A2∧A3∧A4∧A5∧A6∧A7∧A8)):A8:=x.o.2.2.2.2.2.2.2.2
theorem Kp.j(x:Kp (A0∧A1∧A2∧A3∧A4∧A5∧A6∧A7∧A8∧A9∧AA)):A9:=x.o.2.2.2.2.2.2.2.2.2.1
theorem Kp.J(x:Kp (A0∧A1∧A2∧A3∧A4∧A5∧A6∧A7∧A8∧A9)):A9:=x.o.2.2.2.2.2.2.2.2.2
theorem Kp.k(x:Kp (A0∧A1∧A2∧A3∧A4∧A5∧A6∧A7∧A8∧A9∧AA∧AB)):AA:=x.o.2.2.2.2.2.2.2.2.2.2.1
theorem Kp.K(x:Kp (A0∧A1∧A2∧A3∧A4∧A5∧A6∧A7∧A8∧A9∧AA)):AA:=x.o.2.2.2.2.2.2.2.2.2.2
theorem Kp.l(x:Kp (A0∧A1∧A2∧A3∧A4∧A5∧A6∧A7∧A8∧A9∧AA∧AB∧AC)):AB:=x.o.2.2.2.2.2.2.2.2.2.2.2.1
theorem Kp.L(x:Kp (A0∧A1∧A2∧A3∧A4∧A5∧A6∧A7∧A8∧A9∧AA∧AB)):AB:=x.o.2.2.2.2.2.2.2.2.2.2.2
theorem Kp.m(x:Kp (A0∧A1∧A2∧A3∧A4∧A5∧A6∧A7∧A8∧A9∧AA∧AB∧AC∧AD)):AC:=x.o.2.2.2.2.2.2.2.2.2.2.2.2.1
theorem Kp.M(x:Kp (A0∧A1∧A2∧A3∧A4∧A5∧A6∧A7∧A8∧A9∧AA∧AB∧AC)):AC:=x.o.2.2.2.2.2.2.2.2.2.2.2.2
theorem Kp.N(x:Kp (A0∧A1∧A2∧A3∧A4∧A5∧A6∧A7∧A8∧A9∧AA∧AB∧AC∧AD)):AD:=x.o.2.2.2.2.2.2.2.2.2.2.2.2.2
end
theorem nm'{α:Sort _}(a:α):∃x,a=x:=⟨a,rfl⟩
theorem _root_.Go.RowKit.Below.on{a b c:World}(h:Below a.heap.size a b)(k:Below b.heap.size b c):Below a.heap.size a c:=h.trans (k.mono h.size)
theorem ms'{P:Program}{f:FuncId}{a:Array Value}{w:World}{v:Ending}{R:Ending→World→Prop}(h:Calls P f a w fun e w'=>e=v∧w'=w)(k:R v w):Calls P f a w R:=h.mono fun _ _ h2=>by rw[h2.1,h2.2]; exact k
theorem mb'{P:Program}{f:FuncId}{a:Array Value}{w:World}{v:Ending}{Q:World→Prop}{R:Ending→World→Prop}(h:Calls P f a w fun e w'=>e=v∧Q w')(k:∀w',Q w'→R v w'):Calls P f a w R:=h.mono fun _ w2 h2=>by rw[h2.1]; exact k w2 h2.2
abbrev Bw'(a b:World):Prop:=Below a.heap.size a b
theorem ba'(w:World)(o:Obj):Below w.heap.size w (w.alloc o):=(Below.refl _ w).alloc (Nat.le_refl _) o
abbrev z'1:List Value:=[.i 0,.slice none 0 0,.i 0,.i 0,.i 0,.i 0,.i 0,.slice none 0 0]
abbrev z'1a:Array Value:=#[.i 0,.slice none 0 0,.i 0,.i 0,.i 0,.i 0,.i 0,.slice none 0 0]
abbrev z'2:List Value:=[.i 0,.slice none 0 0,.i 0,.i 0,.i 0,.i 0,.i 0,.slice none 0 0,.slice none 0 0]
abbrev z'2a:Array Value:=#[.i 0,.slice none 0 0,.i 0,.i 0,.i 0,.i 0,.i 0,.slice none 0 0,.slice none 0 0]
abbrev z'3:List Value:=[.i 0,.i 0,.i 0,.i 0,.i 0,.i 0,.i 0,.i 0,.i 0,.i 0,.i 0]
abbrev z'3a:Array Value:=#[.i 0,.i 0,.i 0,.i 0,.i 0,.i 0,.i 0,.i 0,.i 0,.i 0,.i 0]
abbrev z'4:List Value:=[.i 0,.i 0,.i 0,.i 0]
abbrev z'4a:Array Value:=#[.i 0,.i 0,.i 0,.i 0]
abbrev z'5:List Value:=[.i 0,.i 0,.i 0,.slice none 0 0,.slice none 0 0]
abbrev z'5a:Array Value:=#[.i 0,.i 0,.i 0,.slice none 0 0,.slice none 0 0]
abbrev z'6:List Value:=[.i 0,.i 0,.i 0,.i 0,.i 0,.slice none 0 0]
abbrev z'6a:Array Value:=#[.i 0,.i 0,.i 0,.i 0,.i 0,.slice none 0 0]
abbrev z'7:List Value:=[.i 0,.i 0,.i 0,.i 0,.i 0,.i 0,.i 0,.i 0,.slice none 0 0,.i 0,.i 0,.string ⟨#[]⟩,.i 0,.i 0,.i 0,.i 0,.i 0,.i 0,.i 0,.i 0,.i 0,.i 0,.bool false]
abbrev z'7a:Array Value:=#[.i 0,.i 0,.i 0,.i 0,.i 0,.i 0,.i 0,.i 0,.slice none 0 0,.i 0,.i 0,.string ⟨#[]⟩,.i 0,.i 0,.i 0,.i 0,.i 0,.i 0,.i 0,.i 0,.i 0,.i 0,.bool false]
abbrev z'8:List Value:=[.i 0,.i 0,.i 0,.string ⟨#[]⟩,.slice none 0 0]
abbrev z'8a:Array Value:=#[.i 0,.i 0,.i 0,.string ⟨#[]⟩,.slice none 0 0]
abbrev aG:=@List.getElem?_cons_zero
abbrev aB:=@Nat.le_trans
abbrev aD:=@Nat.le_refl
abbrev aN:=@List.setIfInBounds_toArray
abbrev aH:=@List.set_cons_zero
abbrev aK:=@List.getElem?_cons_succ
abbrev aI:=@List.set_cons_succ
abbrev aL:=@Below.refl
abbrev cV:=@List.take_succ_eq_append_getElem
abbrev aT:=@List.nil_append
abbrev aW:=@List.cons_append
abbrev bB:=@List.length_append
abbrev cN:=@List.take_of_length_le
abbrev eK:=@List.getElem?_eq_getElem
abbrev bK:=@List.getElem_mem
abbrev bI:=@Bool.and_eq_true
abbrev dO:=@List.drop_succ_cons
abbrev cR:=@List.append_assoc
abbrev dV:=@Nat.mul_le_mul_right
abbrev fG:=@List.drop_eq_getElem_cons
abbrev dP:=@List.drop_zero
abbrev cZ:=@List.length_take
abbrev eA:=@Nat.lt_of_lt_of_le
abbrev cW:=@List.length_map
abbrev hJ:=@List.eq_nil_of_length_eq_zero
abbrev cF:=@Nat.add_zero
abbrev dW:=@List.not_mem_nil
abbrev dX:=@List.length_drop
abbrev gS:=@List.drop_eq_nil_of_le
abbrev bA:=@List.mem_cons
abbrev eR:=@Int.toNat_natCast
abbrev eV:=@List.length_cons
abbrev cY:=@Nat.zero_le
abbrev kK:=@List.getD_eq_getElem?_getD
abbrev dY:=@Nat.le_of_lt
abbrev qK:=@List.take_succ_cons
abbrev hP:=@Array.length_toList
abbrev gC:=@List.map_append
abbrev gT:=@List.size_toArray
abbrev fS:=@List.append_nil
abbrev lS:=@List.getElem?_append_left
abbrev nZ:=@List.drop_append_of_le_length
abbrev mZ:=@List.take_zero
abbrev fU:=@Nat.le_of_eq
abbrev nA:=@List.filter_cons_of_neg
abbrev oA:=@List.filter_cons_of_pos
abbrev nB:=@List.length_filter_le
abbrev gE:=@Nat.add_mul
abbrev sQ:=@List.take_append_of_le_length
abbrev kL:=@Option.map_some
abbrev hY:=@Nat.zero_add
abbrev mG:=@List.getElem?_drop
abbrev kY:=@List.getElem_map
abbrev iQ:=@Int.le_refl
abbrev jF:=@Bool.true_and
abbrev kM:=@List.map_cons
abbrev kN:=@List.take_take
abbrev oX:=@Nat.pow_le_pow_right
abbrev oY:=@List.mem_of_getElem?
abbrev nC:=@List.flatMap_cons
abbrev iF:=@Nat.sub_mul
abbrev oB:=@List.getElem?_take
abbrev qL:=@List.length_replicate
abbrev qM:=@List.set_append_right
abbrev mH:=@List.length_nil
abbrev mI:=@List.length_set
abbrev mJ:=@Nat.lt_or_ge
abbrev qN:=@List.mem_of_mem_take
abbrev oZ:=@List.filter_append
abbrev uC:=@List.length_singleton
abbrev pA:=@Bool.not_eq_true'
abbrev qO:=@Bool.false_eq_true
abbrev oC:=@Nat.min_eq_left
abbrev oD:=@List.drop_take
abbrev jQ:=@And.intro
abbrev nD:=@List.all_eq_true
abbrev kZ:=@List.any_eq_true
abbrev qP:=@List.take_append
abbrev zM:=@Int.tmod_eq_emod_of_nonneg
abbrev sR:=@List.ext_getElem?
abbrev sS:=@List.getElem?_set
abbrev sU:=@Nat.succ_le_of_lt
abbrev oE:=@Nat.add_assoc
abbrev zN:=@List.mem_or_eq_of_mem_set
abbrev zO:=@Array.getElem?_eq_getElem
abbrev wB:=@List.take_append_drop
abbrev qQ:=@Bool.eq_iff_iff
abbrev uD:=@Nat.one_le_two_pow
abbrev uE:=@Bool.not_eq_false'
abbrev pB:=@List.pairwise_append
abbrev zP:=@Int.dvd_of_emod_eq_zero
abbrev wC:=@List.getElem?_map
abbrev uF:=@Nat.lt_succ_of_lt
abbrev sV:=@Bool.or_eq_true
abbrev oF:=@Nat.mul_one
abbrev Er:=@List.getElem?_append_right
abbrev uG:=@Option.getD_some
abbrev pC:=@List.map_map
abbrev pD:=@List.map_set
abbrev zQ:=@List.eraseIdx_sublist
abbrev zR:=@Array.getElem?_toList
abbrev zS:=@List.mem_of_mem_drop
abbrev zT:=@List.set_append_left
abbrev qR:=@Nat.zero_mul
abbrev qS:=@Nat.sub_self
abbrev zU:=@List.getElem_of_mem
abbrev zV:=@List.flatMap_append
abbrev Es:=@Nat.add_sub_cancel_left
abbrev Et:=@List.getElem_cons_succ
abbrev Eu:=@List.flatMap_singleton
abbrev zW:=@Nat.eq_zero_or_pos
abbrev Or:=@Array.getElem?_setIfInBounds
abbrev wD:=@List.take_left'
abbrev wG:=@List.drop_left'
abbrev Ev:=@List.getElem?_eq_none
abbrev Ew:=@List.getElem?_toArray
abbrev pF:=@List.any_eq_false
abbrev zX:=@List.pairwise_map
abbrev wH:=@Nat.lt_irrefl
abbrev wI:=@Bool.and_false
abbrev zY:=@Bool.not_eq_true
abbrev zZ:=@List.flatMap_nil
abbrev Ab:=@List.take_length
abbrev Ex:=@Int.toNat_of_nonneg
abbrev sW:=@Nat.min_def
abbrev Ey:=@List.toList_toArray
abbrev Ez:=@List.mem_map_of_mem
abbrev uH:=@Int.dvd_refl
abbrev uI:=@Nat.ne_of_lt
abbrev Ac:=@List.range_succ
abbrev wJ:=@Int.dvd_trans
abbrev wK:=@List.any_cons
abbrev Ad:=@Bool.decide_and
abbrev Ot:=@List.getElem_cons_zero
abbrev Ou:=@List.drop_of_length_le
abbrev Fa:=@List.flatten_cons
abbrev Fb:=@List.getElem_take
abbrev uJ:=@Int.dvd_add
abbrev wL:=@Nat.pow_succ
abbrev wM:=@List.map_nil
abbrev Ov:=@List.perm_append_comm
abbrev Ox:=@List.getElem_set_self
abbrev Fc:=@Below.heap_alloc
abbrev Oy:=@List.length_eraseIdx
abbrev Ag:=@Int.add_assoc
abbrev Ah:=@Nat.mul_comm
abbrev Ai:=@List.any_map
abbrev aU:=@bodyPost_ret
abbrev aX:=@decide_eq_false
abbrev bY:=@decide_eq_true
abbrev bH:=@wpQuiet_nil
abbrev bT:=@of_decide_eq_true
abbrev aE:=@if_pos
abbrev aC:=@if_neg
abbrev bG:=@congrArg
abbrev bL:=@Ne.symm
abbrev bQ:=@List.mem_singleton
abbrev dF:=@List.mem_append
abbrev cX:=@List.mem_map
abbrev fH:=@Array.getElem?_eq_some_iff
abbrev dQ:=@Classical.not_not
abbrev eE:=@List.pairwise_cons
abbrev iG:=@Bool.eq_false_iff
abbrev bP:=@decide_eq_true_eq
abbrev iH:=@List.getElem?_eq_some_iff
abbrev Fe:=@List.drop_eq_nil_iff
abbrev pG:=@underlying78
abbrev oG:=@underlying9
abbrev sX:=@underlying5
abbrev wN:=@ntmps82
abbrev Aj:=@underlying88
abbrev Am:=@ntmps186
abbrev lT:=@underlying33
abbrev fC:=@underlying27
abbrev kO:=@underlying30
abbrev Ff:=@underlying35
abbrev wO:=@underlying22
abbrev nE:=@underlying25
abbrev Fg:=@underlying34
abbrev An:=@ntmps182
abbrev dD:=@underlying3
abbrev Ap:=@ntmps253
abbrev Aq:=@results253
abbrev oH:=@results228
abbrev Fh:=@results227
abbrev wP:=@func197
abbrev wQ:=@ntmps197
abbrev uK:=@results197
abbrev As:=@ntmps207
abbrev At:=@results207
abbrev lA:=@results205
abbrev Au:=@results204
abbrev Fi:=@results155
abbrev wR:=@results83
abbrev uL:=@results28
abbrev Fj:=@results101
abbrev wS:=@underlying62
section
theorem mK{a b:Value}(h:a=b):Ending.returned a=.returned b:=by rw[h]
theorem uM{k:IntKind}{a b:Int}(h:a=b):Value.int k a=Value.int k b:=by rw[h]
def bv(l:List UInt8):List Value:=l.map fun c=>.int .u8 (c.toNat:Int)
theorem lB(l:List UInt8):(bv l).length=l.length:=by simp[bv]
theorem Ax(l m:List UInt8):bv (l++m)=bv l++bv m:=by simp[bv]
theorem Oz(l:List UInt8):∀u∈bv l,u.oneCell'=true:=by
 intro u a;obtain⟨_,_,rfl⟩:=cX.1 a;rfl
theorem wU(l:List UInt8)(i:Nat)(h:i<l.length):(bv l)[i]? =some (.int .u8 ((l[i]).toNat:Int)):=by
 simp[bv,h]
theorem Fk(l:List UInt8)(k:Nat):(bv l).take k=bv (l.take k):=by simp[bv,List.map_take]
theorem uN(l:List UInt8)(k:Nat):(bv l).drop k=bv (l.drop k):=by simp[bv,List.map_drop]
def iv(l:List Int):List Value:=l.map (Value.int .i64)
theorem fM(l:List Int):(iv l).length=l.length:=by simp[iv]
theorem oI(l m:List Int):iv (l++m)=iv l++iv m:=by simp[iv]
theorem lU(l:List Int)(i:Nat)(h:i<l.length):(iv l)[i]? =some (.i (l[i])):=by
 simp[iv,h]
def Rd(w:World)(B:Nat)(A:Option Addr)(xs:List Value):Prop:=
 xs=[]∨∃b off,A=some ⟨b,off,none⟩∧b<B∧∀j u,xs[j]? =some u→w.cell? ⟨b,off+j,none⟩=some u
section
variable {w w':World}{B B':Nat}{A:Option Addr}{xs:List Value}
theorem Rd.nil:Rd w B A []:=.inl rfl
theorem Rd.keep(h:Rd w B A xs)(d:∀p:Addr,p.block<B→w'.cell? p=w.cell? p):Rd w' B A xs:=by
 rcases h with h|⟨b,g,e,a,c⟩
 .exact .inl h
 .exact .inr ⟨b,g,e,a,fun j u f=>(d _ a).trans (c j u f)⟩
theorem Rd.more(h:Rd w B A xs)(d:B≤B'):Rd w B' A xs:=by
 rcases h with h|⟨b,c,e,f,a⟩
 .exact .inl h
 .exact .inr ⟨b,c,e,by omega,a⟩
theorem Rd.below{C:Nat}(h:Rd w B A xs)(b:Below C w w')(a:B≤C):Rd w' B A xs:=h.keep fun _ c=>b.cell (eA c a)
theorem Rd.drew(h:Rd w B A xs):Rd w.drew B A xs:=h
theorem Rd.drewN(h:Rd w B A xs)(k:Nat):Rd (w.drewN k) B A xs:=h
theorem Rd.alloc(h:Rd w B A xs)(a:B≤w.heap.size)(o:Obj):Rd (w.alloc o) B A xs:=h.keep fun p b=>World.cell?_alloc_lt w o p (by omega)
theorem Rd.setCell(h:Rd w B A xs){p:Addr}(a:B≤p.block)(u:Value):Rd (w.setCell p u) B A xs:=
 h.keep fun q b=>World.cell?_setCell_other w p q u (fun e=>by subst e; omega)
theorem Rd.grown(h:Rd w B A xs){a:Option Nat}(b:w.grownBy w' a)(d:B≤w.heap.size)(c:∀g,a=some g→B≤g):Rd w' B A xs:=
 h.keep fun p f=>World.cell?_of_block (b.block p.block (by omega) (fun e=>by have:=c _ e.symm; omega))
theorem Rd.at_(h:Rd w B A xs){k:Nat}(c:k<xs.length):∃b a,A=some ⟨b,a,none⟩∧b<B∧∀j u,xs[j]? =some u→w.cell? ⟨b,a+j,none⟩=some u:=by
 rcases h with rfl|h
 .simp at c
 .exact h
theorem Rd.front(h:Rd w B A xs)(c i:List Value)(e:xs=c++i):Rd w B A c:=by
 subst e;rcases h with h|⟨b,g,e,d,f⟩
 .exact .inl (by simp at h; exact h.1)
 .refine .inr ⟨b,g,e,d,fun j u a=>f j u ?_⟩;rw[lS (iH.1 a).1];exact a
theorem Rd.take(h:Rd w B A xs)(k:Nat):Rd w B A (xs.take k):=h.front _ (xs.drop k) (wB k xs).symm
theorem Rd.cut(h:Rd w B A xs){k cap:Nat}(g:xs.length≤cap):
  Rd w B (if cap=k then A else A.map (·.add k)) (xs.drop k):=by
 rcases h with rfl|⟨b,f,rfl,a,c⟩
 .exact .inl (by simp)
 .by_cases d:cap=k
  .exact .inl (gS (by omega))
  .rw[aC d];refine .inr ⟨b,f+k,by simp[Addr.add_lit],a,fun j u e=>?_⟩;rw[oE];exact c _ u (by rw[←e,mG])
theorem Rd.of_own{base:Nat}{e:TypeId}{n c:Nat}(h:w.ownsRow base e 1 (.slice A n c) n xs):Rd w w.heap.size A xs:=by
 rcases h.2 with⟨_,rfl⟩|⟨g,cap,i,f,_,b,_,_,_,_⟩
 .exact .inl (hJ (by simpa using h.1))
 .have a:A=some ⟨g,0,none⟩:=by injection f
  subst a;exact .inr ⟨g,0,rfl,(fH.1 b).1,fun j u d=>by simpa [Addr.add_lit] using h.cells (g:=g) rfl j u d⟩
theorem Fl{base:Nat}{e:TypeId}{size n:Nat}{v:Value}(h:w.ownsRow base e size v n xs):
  (v=.slice none 0 0∧n=0∧xs=[])∨∃g cap,v=.slice (some ⟨g,0,none⟩) n cap∧base≤g∧g<w.heap.size∧n≤cap∧cap≤maxLen:=by
 rcases h.2 with⟨rfl,rfl⟩|⟨g,cap,f,rfl,a,b,d,c,_,_⟩
 .exact .inl ⟨rfl,rfl,hJ (by simpa using h.1)⟩
 .exact .inr ⟨g,cap,rfl,a,(fH.1 b).1,d,c⟩
theorem eD{base:Nat}{e:TypeId}{size n:Nat}{v:Value}(h:w.ownsRow base e size v n xs):
  ∃A c,v=.slice A n c∧n≤c∧c≤maxLen:=by
 rcases Fl h with⟨rfl,rfl,_⟩|⟨g,cap,rfl,_,_,b,a⟩
 .exact⟨none,0,rfl,aD _,by unfold maxLen; omega⟩
 .exact⟨_,cap,rfl,b,a⟩
theorem Fm{base a:Nat}{e:TypeId}{size n:Nat}{v:Value}(h:w.ownsRow base e size v n xs)(f:a≤base):w.ownsRow a e size v n xs:=by
 refine⟨h.1,?_⟩;rcases h.2 with c|⟨g,cap,b,d,i,r⟩
 .exact .inl c
 .exact .inr ⟨g,cap,b,d,by omega,r⟩
theorem Fo{base C:Nat}{e:TypeId}{size n:Nat}{v:Value}(h:w.ownsRow base e size v n xs)(d:Below C w w')(j:w.heap.size≤C):w'.ownsRow base e size v n xs:=by
 refine⟨h.1,?_⟩;rcases h.2 with c|⟨g,cap,b,i,f,a,r⟩
 .exact .inl c
 .refine .inr ⟨g,cap,b,i,f,?_,r⟩;have:g<w.heap.size:=(fH.1 a).1;rw[d.block g (by omega)];exact a
end
theorem oJ{P:Program}(w:World){J:Array Oper}{L:List Oper}{o:Oper}{a:Act}{Q:Exit→Act→World→Prop}(y:o.guard=none)(s x:Operand)(t:TypeId)
  (D:o.op=.call {callee:=.builtin .append,args:=#[s,x],argTypes:=#[t,t]})
  (base:Nat) (e:TypeId) (i:TypeInfo) (z:Value) (size f:Nat) (q:P.underlying t=some (.slice e)) (l:P.info? e=some i) (hz:i.zero=some z)
  (b0:i.size=size) (U:i.bytes=f) (d0:z.cells.size=size) (G:0<size)
  (v:Value) (n:Nat) (xs:List Value) (p:w.ownsRow base e size v n xs) (F:a.eval s=v)
  (B:Nat) (A:Option Addr) (m c:Nat) (d:List Value) (E:Rd w B A d) (I:a.eval x=.slice A m c) (C:d.length=m*size) (N:∀u∈d,u.oneCell'=true)
  (R:n+m≤maxLen) (V:(n+m)*f≤140737488355328) (T:base≤w.heap.size)
  (h:∀v' w',w'.ownsRow base e size v' (n+m) (xs++d)→w.grownBy w' v.ownBlock→wpList P J Q L (a.put o.dst v') w'):wpList P J Q (o::L) a w:=by
 cases A with
 |some M=>
  refine wpList_append_own w y s x t D base e i z size f q l hz b0 U d0 G v n xs F p M m c d I C ?_ N R V T fun v' w' r O _=>h v' w' r O;intro j u H;rcases E with rfl|⟨b,e0,e,_,W⟩
  .simp at H
  .injection e with e
   subst e;rw[Addr.add_lit];exact W j u H
 |none=>
  have Y:d=[]:=by
   rcases E with h|⟨b,e0,e,_⟩
   .exact h
   .cases e
  subst Y;have X:m=0:=by
   rcases zW m with k|k
   .exact k
   .have r:=Nat.mul_pos k G;simp only[mH]at C;omega
  subst X;refine wpList_plain y fun K S=>?_;have a0:(Builtin.append_ #[t,t] o.type #[v,.slice none 0 c]).run P w=.ok v w:=by
   rcases p.2 with⟨rfl,rfl⟩|⟨g,cap,g0,rfl,_,_,Z,_⟩
   .simp[Builtin.append_,run_underlying q,sizeOf,typeInfo,l,Builtin.lenOf,Builtin.firstCells]
   .simp[Builtin.append_,run_underlying q,sizeOf,typeInfo,l,Builtin.lenOf,Builtin.firstCells,Z,storeCells]
  unfold Oper.wp;simp[execOp,D,resolve,invoke,builtin,F,I,a0,Result.andThen];exact S _ _ (h v w (by simpa using p) (World.grownBy.refl _ _))
theorem Fp{a b c:World}{d:Option Nat}(h:a.grownBy b d)(k:b.grownBy c d):a.grownBy c d:=
 ⟨k.os.trans h.os,k.tape.trans h.tape,k.output.trans h.output,aB h.size k.size,fun i e f=>(k.block i (eA e h.size) f).trans (h.block i e f)⟩
theorem uO{base e size n:Nat}{v:Value}{xs:List Value}{w w':World}(d:w.ownsRow base e size v n xs)(b:w.grownBy w' v.ownBlock)(a:base≤w.heap.size):Below base w w':=
 (aL _ _).grown b a fun k c=>(d.lt k c).1
theorem Pa{P:Program}(w:World){d:Array Oper}{f:List Oper}{o:Oper}{a:Act}{Q:Exit→Act→World→Prop}(q:o.guard=none)(s x:Operand)(t:TypeId)
  (A:o.op=.call {callee:=.builtin .append,args:=#[s,x],argTypes:=#[t,t]})
  (base:Nat) (e:TypeId) (i:TypeInfo) (z:Value) (c:Nat) (E:P.underlying t=some (.slice e)) (r:P.info? e=some i) (H:i.zero=some z)
  (D:i.size=1) (m:i.bytes=c) (I:z.cells.size=1)
  (v:Value) (n:Nat) (xs:List Value) (B:w.ownsRow base e 1 v n xs) (C:a.eval s=v)
  (u:Value) (F:u.oneCell'=true) (G:a.eval x=.slice (some ⟨w.heap.size,0,none⟩) 1 1)
  (l:n+1≤maxLen) (p:(n+1)*c≤140737488355328) (J:base≤w.heap.size)
  (h:∀v' w',w'.ownsRow base e 1 v' (n+1) (xs++[u])→w.grownBy w' v.ownBlock→wpList P d Q f (a.put o.dst v') w'):wpList P d Q (o::f) a (w.alloc (.cells #[u] e)):=by
 refine wpList_append_own _ q s x t A base e i z 1 c E r H D m I (by omega) v n xs C (B.alloc _) ⟨w.heap.size,0,none⟩ 1 1 [u] G rfl ?_ ?_ l p (by simp; omega) fun v' w' g k _=>h v' w' g (Fp (World.grownBy_alloc w _ _) k)
 .intro j y b;rw[Addr.add_lit]
  cases j with
  |zero=>
   simp at b;subst b;rw[World.cell?_alloc_at _ _ _ _ rfl];rfl
  |succ j=>simp at b
 .intro y b;simp at b;subst b;exact F
theorem sY{P:Program}(w:World)(f d e:TypeId)(k:P.underlying f=some (.slice e))(j:P.underlying e=some (.int .u8))(g:P.underlying d=some .string)
  (B:Nat) (A:Option Addr) (n c:Nat) (l:List UInt8) (r:Rd w B A (bv l)) (q:l.length=n):
  (convert f d (.slice A n c)).run P w=.ok (.string ⟨l.toArray⟩) w:=by
 subst q;rcases r with h|⟨b,s,rfl,_,p⟩
 .have:l=[]:=by cases l with |nil=>rfl|cons a t=>simp[bv]at h
  subst this
  cases A with
  |none=>exact run_convert_bytes_nil w f e k j _ _ d g
  |some o=>
   rw[run_convert_bytes_string w f d e _ _ c k j g,run_bytesToString w o _ c [] (by simp[loadCells,loadCellsFrom])];rfl
 .have h:=run_convert_bytes_arg (P:=P) w f e k j b s l.length c (l.map fun x=>(x.toNat:Int)) (by simp) (fun i m=>by
   rw[p i _ (wU l i m)];simp[m]) d g
  rw[h];simp[strOfNums]
  congr 1
  apply List.ext_getElem<;>simp
end
end Go.Proofs.YtdoopoapbffpbaaGreat
