import Derived.Test.YtoncgpddjmgbfaaGreatZ03
import Derived.Test.YtoncgpddjmgbfaaGreatZ04
import Derived.Test.YtoncgpddjmgbfaaGreatZ13
import Derived.Test.YtoncgpddjmgbfaaGreatZ14
import Derived.Test.YtoncgpddjmgbfaaGreatZ16
import Derived.Recover
namespace Go.Proofs.YtoncgpddjmgbfaaGreat
open Go.RowKit Go.Proofs.Tryz
set_option maxRecDepth 100000
set_option maxHeartbeats 12800000
set_option linter.unusedVariables false
set_option linter.unusedSimpArgs false
section
def iT(cs:List Value)(o:Nat)(vs:List Value):List Value:=cs.take o++vs++cs.drop (o+vs.length)
theorem Blk.storeOff'{P:Program}{g o:Nat}{t:TypeId}:∀(b:List Value)(i:Nat)(a:List Value)(W:World),Blk W g t a→o+i+b.length≤a.length→(∀u∈b,u.oneCell'=true)→Sem.run P (storeCells ⟨g,o,none⟩ b i) W=.ok () (W.setRow g (iT a (o+i) b).toArray)
 |[],i,a,W,h,d,c=>by
  have:=run_storeCells_from (P:=P) g t [] a.length a.toArray W h (by simp) (by simp);have e:iT a (o+i) []=a:=by unfold iT; simp
  rw[e];show Sem.run P (storeCells ⟨g,0,none⟩ [] a.length) W=_;rw[this];simp
 |v::f,i,a,W,h,d,c=>by
  have j:o+i<a.length:=by simp at d; omega
  have k:(⟨g,o,none⟩:Addr).add i=⟨g,o+i,none⟩:=by unfold Addr.add; split<;>simp_all
  have l:W.cell? ⟨g,o+i,none⟩=some a[o+i]:=by rw[h.cell]; simp[j]
  have m:W.frozen? ⟨g,o+i,none⟩=false:=h.frozen _;have n:Sem.run P (Go.store ((⟨g,o,none⟩:Addr).add i) v) W=.ok () (W.setCell ⟨g,o+i,none⟩ v):=by
   rw[k,run_store P W _ v _ (c v (by simp)),l];simp[m]
  have q:=Blk.storeOff' (P:=P) (o:=o) f (i+1) (a.set (o+i) v) (W.setCell ⟨g,o+i,none⟩ v) (h.setCell (o+i) v) (by simp at d ⊢; omega) fun x p=>c x (by simp[p]);simp only[storeCells,Sem.run_bind,n,Result.andThen_ok,q];rw[setCell_eq_setRow W g (o+i) a.toArray t (0,0) v h,setRow_setRow]
  congr 3
  unfold iT;rw[←lW,eS,show o+i+1+f.length=o+i+(f.length+1) by omega];rw[fE (by simpa using j),List.take_set_of_le (aN _),List.drop_set_of_lt (by omega)];simp
theorem Blk.storeOff{P:Program}{g:Nat}{t:TypeId}{b:List Value}{W:World}(h:Blk W g t b)(o:Nat)(a:List Value)(d:o+a.length≤b.length)(c:∀u∈a,u.oneCell'=true):Sem.run P (storeCells ⟨g,o,none⟩ a 0) W=.ok () (W.setRow g (iT b o a).toArray):=Blk.storeOff' a 0 b W h d c
attribute [-go_sem] loadCellsFrom storeCells
attribute [local go_sem] aX
theorem StV.one{p:StV}{b:List ObV}{w:World}{B:Nat}(h:gW w B p b):∀u∈p.cells,u.oneCell'=true:=by
 intro u a;rcases cV.1 a with a|a
 .exact HpV.one h.1.1.1.one h.1.2.2.one u a
 .rw[bZ.1 a]; exact h.2.one
theorem StV.h8(p:StV):(p.cells.drop 0).take 8=p.p.cells:=rfl
theorem StV.c8(p:StV):p.cells[8]? =some p.rv:=rfl
structure Sv(w:World)(base:Nat)(p:StV)(ps:List ObV):Prop where
 h:Hv w base p.p ps
 rows:Ow w base 141 4 p.rv Rw.cells p.rows
theorem Sv.st{w:World}{base:Nat}{p:StV}{a:List ObV}(h:Sv w base p a):gW w w.heap.size p a:=⟨h.h.wv.hpAt,h.rows.sl jP⟩
theorem Sv.below{w c:World}{base:Nat}{p:StV}{b:List ObV}(h:Sv w base p b)(a:Bw' w c):Sv c base p b:=⟨h.h.below a,h.rows.below a⟩
theorem Hv.mono{w:World}{base base2:Nat}{p:HpV}{b:List ObV}(h:Hv w base p b)(a:base2≤base):Hv w base2 p b:=⟨h.obs.mono a,h.rws.mono a,h.eq,aM.mono h.free fun _ _ h=>aB a h⟩
theorem Sv.mono{w:World}{base base2:Nat}{p:StV}{b:List ObV}(h:Sv w base p b)(a:base2≤base):Sv w base2 p b:=⟨h.h.mono a,h.rows.mono a⟩
theorem Hv.chg{w k:World}{base b:Nat}{p:HpV}{j:List ObV}{t:TypeId}{l:List Value}(h:Hv w base p j)(c:Blk w b t l)(d:Chg (fun i=>i=b) w k)(a:t≠264)(f:t≠262)(g:t≠3):Hv k base p j:=
 ⟨h.obs.chg d fun _ m e=>h.obs.ne_blk c (fun e=>a e.symm) (e▸m),(h.wv.chg c d a f g).rws,h.eq,(h.wv.chg c d a f g).free⟩
theorem Sv.chg{w f:World}{base b:Nat}{p:StV}{d:List ObV}{t:TypeId}{g:List Value}(h:Sv w base p d)(a:Blk w b t g)(c:Chg (fun i=>i=b) w f)(j:t≠264)(k:t≠262)(l:t≠3)(m:t≠141):Sv f base p d:=
 ⟨h.h.chg a c j k l,h.rows.chg c fun _ n e=>h.rows.ne_blk a (fun e=>m e.symm) (e▸n)⟩
structure SmO(p:HpV)(ps:List ObV):Prop where
 obs:ps.length≤1000
 free:p.x.free.length≤1000
 rows:∀q∈ps,q.x.ws.length≤5001∧q.x.ls.length≤5001
theorem SmO.of{w:World}{B:Nat}{p:HpV}{b:List ObV}(h:jB w B p b)(a:SmH p.x):SmO p b:=
 ⟨by have:=bA List.length h.2.1; rw[dD]at this; have:=a.obs; omega,by have:=a.free; omega,fun q c=>by have:=a.rows q.x (by rw[h.2.1]; exact cP.2 ⟨q,c,rfl⟩); omega⟩
end
section
def KpV.x(p:KpV):Kd:=⟨p.view,p.normal,p.base,p.image,p.es⟩
def kJ(w:World)(B:Nat)(p:KpV):Prop:=Sl w B p.ev En.cells p.es
def VoV.x(p:VoV):Vo:=⟨p.node,p.normal,p.base,p.number,p.commit,p.es⟩
def uX(w:World)(B:Nat)(p:VoV):Prop:=Sl w B p.ev En.cells p.es
def qM(w:World)(B:Nat)(v:Value)(vs:List VoV):Prop:=Sl w B v VoV.cells vs∧∀p∈vs,uX w B p
def Pt.cells(p:Pt):List Value:=[.i p.src,.i p.view,.i p.number,.i p.total,.string p.data]
structure RpV where
 (id nodes:Int) (k:KpV) (commit:Int) (s:StV) (timer:Int) (starts:List Int) (sv:Value) (votes:List VoV) (vv:Value) (acks:List Ak) (av:Value) (part:Pt)
def RpV.cells(p:RpV):List Value:=[.i p.id,.i p.nodes]++p.k.cells++[.i p.commit]++p.s.cells++[.i p.timer,p.sv,p.vv,p.av]++p.part.cells
def RpV.x(p:RpV):Rp:=⟨p.id,p.nodes,p.k.x,p.commit,p.s.x,p.timer,p.starts,p.votes.map (·.x),p.acks,p.part⟩
def kK(w:World)(B:Nat)(p:RpV)(ps:List ObV):Prop:=kJ w B p.k∧gW w B p.s ps∧Sl w B p.sv i1 p.starts∧qM w B p.vv p.votes∧Sl w B p.av Ak.cells p.acks
section
variable {w w':World}{B C:Nat}{v:Value}
theorem qM.below{c:List VoV}(h:qM w B v c)(b:Below C w w')(a:B≤C):qM w' B v c:=⟨h.1.below b a,fun p d=>Sl.below (h.2 p d) b a⟩
theorem qM.more{b:List VoV}(h:qM w B v b)(a:B≤C):qM w C v b:=⟨h.1.more a,fun p c=>Sl.more (h.2 p c) a⟩
theorem kK.below{p:RpV}{c:List ObV}(h:kK w B p c)(b:Below C w w')(a:B≤C):kK w' B p c:=⟨Sl.below h.1 b a,h.2.1.below b a,h.2.2.1.below b a,h.2.2.2.1.below b a,h.2.2.2.2.below b a⟩
theorem kK.more{p:RpV}{b:List ObV}(h:kK w B p b)(a:B≤C):kK w C p b:=⟨Sl.more h.1 a,h.2.1.more a,h.2.2.1.more a,h.2.2.2.1.more a,h.2.2.2.2.more a⟩
end
def KdR(k:Kd):Prop:=∀e∈k.es,enR e
def VoR(v:Vo):Prop:=∀e∈v.es,enR e
theorem Bt{p:KpV}{w:World}{B:Nat}(h:kJ w B p):∀u∈p.cells,u.oneCell'=true:=by
 intro u a;simp only[KpV.cells,bD,dF,or_false]at a;rcases a with rfl|rfl|rfl|rfl|rfl
 .rfl
 .rfl
 .rfl
 .rfl
 .exact Sl.one h
theorem Bu{p:VoV}{w:World}{B:Nat}(h:uX w B p):∀u∈p.cells,u.oneCell'=true:=by
 intro u a;simp only[VoV.cells,bD,dF,or_false]at a;rcases a with rfl|rfl|rfl|rfl|rfl|rfl
 .rfl
 .rfl
 .rfl
 .rfl
 .rfl
 .exact Sl.one h
theorem Bv(p:Pt):∀u∈p.cells,u.oneCell'=true:=by
 intro u a;simp only[Pt.cells,bD,dF,or_false]at a;rcases a with rfl|rfl|rfl|rfl|rfl<;>rfl
end
section
attribute [-go_sem] loadCellsFrom storeCells
attribute [local go_sem] aX
theorem RpV.len(p:RpV):p.cells.length=26:=rfl
theorem RpV.c0(p:RpV):p.cells[0]? =some (.i p.id):=rfl
theorem RpV.c1(p:RpV):p.cells[1]? =some (.i p.nodes):=rfl
theorem RpV.c2(p:RpV):p.cells[2]? =some (.i p.k.view):=rfl
theorem RpV.c3(p:RpV):p.cells[3]? =some (.i p.k.normal):=rfl
theorem RpV.c4(p:RpV):p.cells[4]? =some (.i p.k.base):=rfl
theorem RpV.c5(p:RpV):p.cells[5]? =some (.string p.k.image):=rfl
theorem RpV.c6(p:RpV):p.cells[6]? =some p.k.ev:=rfl
theorem RpV.c7(p:RpV):p.cells[7]? =some (.i p.commit):=rfl
theorem RpV.c17(p:RpV):p.cells[17]? =some (.i p.timer):=rfl
theorem RpV.c18(p:RpV):p.cells[18]? =some p.sv:=rfl
theorem RpV.c19(p:RpV):p.cells[19]? =some p.vv:=rfl
theorem RpV.c20(p:RpV):p.cells[20]? =some p.av:=rfl
theorem Ib{P:Program}{W:World}{g k:Nat}{t:TypeId}{a:List Value}(h:Blk W g t a)(b:a.length=k):∀p:Blw W,Sem.run P (loadCellsFrom ⟨g,0,none⟩ 0 k #[]) p.w=.ok a.toArray p.w:=fun p=>(h.below p.h h.lt).load b
theorem xV(p:KpV)(w:World)(B:Nat)(h:kJ w B p)(g:0≤p.base∧p.base≤900000000)(i:p.es.length≤1000000):Calls prog 141 #[.agg p.cells.toArray] w fun e m=>e=.returned (.i p.x.last)∧Bw' w m:=by
 obtain⟨A,c,d,-,-,-⟩:=h;obtain⟨n,b⟩:=nm' p.es.length;have j:p.x.last=p.base+n:=by rw[←b]; rfl
 rw[j];rw[b]at d i;have f:=kp (ba' w (.cells p.cells.toArray 35));have a:=Blk.new w 35 p.cells;have k:=a.cell 2;have l:=a.cell 4;change _=some (Value.i p.base)at k;rw[show p.cells[4]? =some p.ev from rfl,d]at l;obtain⟨q,r⟩:=g;generalize p.base=s at *;go_enter func141,ntmps141;go_wp2_with fail;go_ret;exact⟨rfl,f.o⟩
theorem Bx(p:RpV)(w:World)(B:Nat)(h:kJ w B p.k)(g:0≤p.k.base∧p.k.base≤900000000)(i:p.k.es.length≤1000000):Calls prog 86 #[.agg p.cells.toArray] w fun e q=>e=.returned (.i p.x.k.last)∧Bw' w q:=by
 obtain⟨A,c,d,-,-,-⟩:=h;obtain⟨n,b⟩:=nm' p.k.es.length;have j:p.x.k.last=p.k.base+n:=by rw[←b]; rfl
 rw[j];rw[b]at d i;have a:=Blk.new w 50 p.cells;have f:=kp (ba' w (.cells p.cells.toArray 50));have l:=a.cell 4;have m:=a.cell 6;rw[RpV.c4]at l;rw[RpV.c6,d]at m;obtain⟨r,s⟩:=g;generalize p.k.base=y at *;go_enter func86,ntmps86;go_wp2_with fail;go_ret;exact⟨rfl,f.o⟩
theorem By(p:RpV)(w:World):Calls prog 64 #[.agg p.cells.toArray] w fun e f=>e=.returned (.bool (gN p.x))∧Bw' w f:=by
 have a:=Blk.new w 50 p.cells;have b:=kp (ba' w (.cells p.cells.toArray 50));have c:=a.cell 2;have d:=a.cell 3;rw[RpV.c2]at c;rw[RpV.c3]at d;have g:(p.k.normal==p.k.view)=gN p.x:=rfl;generalize p.k.normal=h at *;generalize p.k.view=i at *;go_enter func64,ntmps64;go_wp2_with fail;go_ret;exact⟨rfl,b.o⟩
theorem xW(p:RpV)(w:World)(i:inR p.nodes):Calls prog 66 #[.agg p.cells.toArray] w fun e j=>e=.returned (.bool (iQ p.x))∧Bw' w j:=by
 obtain⟨l,g⟩:=nm' (w.alloc (.cells p.cells.toArray 50));have a:=Blk.new w 50 p.cells;have b:=ba' w (.cells p.cells.toArray 50);rw[g]at a b;have c:=kp b;have q:=bG (v:=.i p.id) (a.cell 0);have r:=bG (v:=.i p.nodes) (a.cell 1);have s:=bG (v:=.i p.k.view) (a.cell 2);have n:(qI p.nodes p.k.view==p.id)=iQ p.x:=rfl;have f:=kp i;go_enter func66,ntmps66;go_wp2_with fail;refine cX (by kernel_rfl) (by kernel_rfl) ?_
 repeat (go_big_quiet_step ((go_at_call 84; refine dP (Sr _ _ _ f.o))))
 refine cI ?_;rintro m ⟨⟨_,h⟩,rfl⟩;have d:=kp (c.o.on h);go_wp2_with fail;go_ret;exact⟨rfl,d.o⟩
theorem Ca(p:RpV)(w:World)(y:inR p.nodes):Calls prog 49 #[.agg p.cells.toArray] w fun e z=>e=.returned (.bool (gO p.x))∧Bw' w z:=by
 obtain⟨q,r⟩:=nm' (w.alloc (.cells p.cells.toArray 50));have d:=Blk.new w 50 p.cells;have h:=ba' w (.cells p.cells.toArray 50);rw[r]at d h;have A:=d.load (P:=prog) (k:=26) rfl;have c:=k'2 d h;obtain⟨a,g⟩:=nm' (gN p.x);obtain⟨b,j⟩:=nm' (iQ p.x);have n:=kp (by have:=By p q; rw[g]at this; exact this);have m:=kp (fun W=>by have:=xW p W y; rw[j]at this; exact this);unfold gO;rw[g,j];go_enter func49,ntmps49;go_wp2_with fail;refine mb' (n.o) fun C i=>?_;have l2:=(c.a.below i c.a.lt).load (P:=prog) (k:=26) rfl;have f:=kp (c.B.on i)
 cases a
 .go_wp2_with fail;go_ret;exact⟨rfl,f.o⟩
 go_wp2_with fail;refine mb' (m.o _) fun D s=>?_;have l:=kp (f.o.on s);go_wp2_with fail;go_ret;exact⟨rfl,l.o⟩
end
section
theorem par(w:World)(t:TypeId)(a:List Value):∃W,w.alloc (.cells a.toArray t)=W∧Blk W w.heap.size t a∧Bw' w W∧w.heap.size<W.heap.size:=
 ⟨_,rfl,Blk.new w t a,ba' w _,by simp⟩
theorem eJ(w:World)(t:TypeId)(zs a:List Value)(c:a.length=zs.length)(b:∀u∈a,u.oneCell'=true):
  ∃W,(w.alloc (.cells zs.toArray t)).setRow w.heap.size a.toArray=W∧Sem.run prog (storeCells ⟨w.heap.size,0,none⟩ a 0) (w.alloc (.cells zs.toArray t))=.ok () W∧Blk W w.heap.size t a∧Bw' w W∧w.heap.size<W.heap.size:=by
 refine⟨_,rfl,(Blk.new w t zs).store c b,(Blk.new w t zs).set a,eU (ba' w _) (aN _) _,by simp⟩
theorem Blk.put{W:World}{g:Nat}{t:TypeId}{a:List Value}(h:Blk W g t a)(cs':List Value)(c:cs'.length=a.length)(b:∀u∈cs',u.oneCell'=true):
  ∃W',W.setRow g cs'.toArray=W'∧Sem.run prog (storeCells ⟨g,0,none⟩ cs' 0) W=.ok () W'∧Blk W' g t cs'∧Chg (fun i=>i=g) W W':=
 ⟨_,rfl,h.store c b,h.set cs',(Chg.refl (fun i=>i=g) W).setRow (.inr rfl) _⟩
theorem Blk.grow{W W':World}{g:Nat}{t:TypeId}{a:List Value}(h:Blk W g t a)(b:Bw' W W'):Blk W' g t a:=h.below b h.lt
end
section
theorem Ic{l r:List UInt8}{z:Int}(h:gM l=some (z,r)):inR z:=by
 unfold gM at h
 split at h
 .cases h;unfold aA
  split
  .exact⟨by decide,by decide⟩
  .unfold inR wrap64; omega
 .cases h
theorem xX{α:Type}{one:List UInt8→Option (α×List UInt8)}{Q:α→Prop}(b:∀l x r,one l=some (x,r)→Q x):∀(n:Nat)(l:List UInt8)(xs:List α)(r:List UInt8),bN one n l=some (xs,r)→∀x∈xs,Q x
 |0,_,_,_,h=>by cases h; intro x c; cases c
 |n+1,l,xs,r,h=>by
  unfold bN at h
  split at h
  .cases h
  .rename_i e1
   split at h
   .cases h
   .rename_i e2
    cases h;intro y a;rcases bD.1 a with rfl|a
    .exact b _ _ _ e1
    .exact xX b n _ _ _ e2 y a
theorem Tc{l r:List UInt8}{x:Ob}(h:obP l=some (x,r)):∀z∈x.ws,inR z:=by
 unfold obP at h
 split at h
 .split at h
  .cases h
  split at h
  .cases h
  rename_i e1
  split at h
  .cases h
  .cases h;exact xX (fun _ _ _ h=>Ic h) _ _ _ _ e1
 .cases h
theorem Td{l:List UInt8}{x:Hp}(h:gZ l=some x):cR x=true∧hpR x:=by
 unfold gZ at h
 split at h
 .rename_i e1
  split at h
  .rename_i e2
   cases h;refine⟨e2,?_⟩;unfold hpP at e1
   split at e1
   .split at e1
    .cases e1
    split at e1
    .cases e1
    .rename_i a
     cases e1;exact fun x b=>xX (Q:=fun x:Ob=>∀z∈x.ws,inR z) (fun _ _ _ h=>Tc h) _ _ _ _ a x b
   .cases e1
  .cases h
 .cases h
theorem Te{l r:List UInt8}{x:Rw}(h:rwP l=some (x,r)):inR x.v:=by
 unfold rwP at h
 split at h
 .split at h
  .cases h
  .rename_i e1
   cases h;exact Ic e1
 .cases h
theorem uY{l:List UInt8}{s:St}(h:dX l=some s):stB s=true∧stR s:=by
 unfold dX at h
 split at h
 .split at h
  .cases h
  rename_i e1
  split at h
  .cases h
  split at h
  .cases h
  split at h
  .rename_i e2
   split at h
   .rename_i a
    cases h;exact⟨a,(Td e1).2,fun x b=>xX (Q:=fun x:Rw=>inR x.v) (fun _ _ _ h=>Te h) _ _ _ _ e2 x b⟩
   .cases h
  .cases h
 .cases h
theorem Id:∀{l:List En}{b v:Int},vwB b v l=true→∀e∈l,dQ e=true
 |[],_,_,_,_,a=>by cases a
 |x::l,b,v,h,e,a=>by
  unfold vwB at h;simp only[bH]at h;rcases bD.1 a with rfl|a
  .exact h.1
  .exact Id h.2.2 e a
structure KOk(k:Kd)(s:St):Prop where
 view:0≤k.view∧k.view≤900000000
 normal:0≤k.normal∧k.normal≤k.view
 base:0≤k.base∧k.base≤900000000
 len:(k.es.length:Int)≤4000
 fol:eO k.base k.es=true
 vw:vwB k.normal 0 k.es=true
 img:dX (kZ k.image)=some s
theorem mW{k:Kd}:dY k=true↔∃s,KOk k s:=by
 unfold dY qH aG;simp only[bH,bR,Option.isSome_iff_exists];constructor
 .rintro⟨a,b,c,⟨d,e,f⟩,s,g⟩; exact⟨s,a,b,c,d,e,f,g⟩
 .rintro⟨s,a,b,c,d,e,f,g⟩; exact⟨a,b,c,⟨d,e,f⟩,s,g⟩
theorem KOk.may{k:Kd}{s:St}(h:KOk k s):∀e∈k.es,dQ e=true:=Id h.vw
theorem Ie{k:Kd}{n:Int}(h:dY k=false):kI k n=none:=by unfold kI; rw[h]; rfl
theorem xY{k:Kd}{n:Int}(h:aG n k.base k.last=false):kI k n=none:=by unfold kI; rw[h]; split<;>rfl
theorem If{k:Kd}{n:Int}{s:St}(h:KOk k s)(a:aG n k.base k.last=true):kI k n=some (kH s (k.es.take (n-k.base).toNat)):=by
 unfold kI;rw[aK (mW.2 ⟨s,h⟩),aK a,h.img];rfl
theorem Tf(s:St)(l:List En)(k:Nat)(a:k<l.length):kH s (l.take (k+1))=(eE (kH s (l.take k)) l[k]).1:=by
 rw[fE a,Ps]
theorem Th{s:St}(b:stB s=true){e:En}(a:dQ e=true):stB (eE s e).1=true:=by
 obtain⟨f,g⟩:=jR.1 b;unfold eE
 split
 .exact b
 rename_i d
 split
 .exact b
 split
 .exact b
 unfold dQ aG at a;rw[aF d]at a;simp only[bH,bR]at a;have c:=Fy s.h e.op;unfold aG at c;simp only[bH,bR]at c;exact jR.2 ⟨Fr f e.op,Ar a.2.2.1.2 a.2.2.2 c s.rows 0 (by simp only; omega) g⟩
theorem Ig:∀{l:List En}{s:St},stB s=true→(∀e∈l,dQ e=true)→stB (kH s l)=true
 |[],_,a,_=>a
 |e::l,_,a,h=>Ig (l:=l) (Th a (h e (by simp))) fun x b=>h x (by simp[b])
theorem Cb{k:Kd}{n:Int}{s:St}(c:∀e∈k.es,inR e.u)(h:kI k n=some s):stB s=true∧stR s:=by
 cases hk:dY k
 .rw[Ie hk]at h; cases h
 obtain⟨d,H⟩:=mW.1 hk
 cases h2:aG n k.base k.last
 .rw[xY h2]at h; cases h
 rw[If H h2]at h
 cases h;have a:=uY H.img;exact Gc _ a.1 a.2 fun e b=>⟨H.may e (rI b),c e (rI b)⟩
end
section
theorem Ti(nodes a:Int)(l:List Int)(k:Nat)(b:k<l.length):oX nodes a (l.drop k)=((decide (a<l[k])&&decide (l[k]≤nodes))&&oX nodes l[k] (l.drop (k+1))):=by
 rw[iF b]; rfl
theorem Tj(nodes a:Int)(l:List Vo)(k:Nat)(b:k<l.length):oY nodes a (l.drop k)=(lP l[k]&&((decide (a<(l[k]).node)&&decide ((l[k]).node≤nodes))&&oY nodes (l[k]).node (l.drop (k+1)))):=by
 rw[iF b]; rfl
theorem Tk(nodes id last a:Int)(l:List Ak)(k:Nat)(b:k<l.length):oZ nodes id last a (l.drop k)=(((decide (a<(l[k]).n)&&decide ((l[k]).n≤nodes))&&(!decide ((l[k]).n=id)&&aG (l[k]).k 0 last))&&oZ nodes id last (l[k]).n (l.drop (k+1))):=by
 rw[iF b]; rfl
theorem Tl{s t:St}(b:stB s=true)(d:stR s)(f:stR t):decide ((if stB s=true then fK s else [])=if stB t=true then fK t else [])=decide (s=t):=by
 rw[aK b]
 by_cases a:stB t=true
 .rw[aK a]
  by_cases e:s=t
  .subst e; simp
  .rw[dR e,dR fun h=>e (Pe b d a f h)]
 .rw[aF a];have c:fK s≠[]:=fun h=>by
   have:=bA List.length h;unfold fK at this;simp only[bF,fU,nL]at this;omega
  rw[dR c,dR];rintro rfl;exact a b
end
section
attribute [-go_sem] run_eql_struct run_neq_struct
theorem Tm(a b:Pt)(w:World):Sem.run prog (binOp .eql 48 (.agg a.cells.toArray) (.agg b.cells.toArray)) w=.ok (.bool (decide (a=b))) w:=by
 obtain⟨n,o,p,q,f⟩:=a;obtain⟨r,s,x,y,g⟩:=b;simp only[Pt.cells,Pt.mk.injEq];have l:prog.underlying 48=some (.struct (prog.fieldsOf 48)):=by kernel_rfl
 have m:prog.stoodInHeld 48=false:=by kernel_rfl
 rw[run_eql_struct,show (10000:Nat)=9999+1 from rfl,run_equalIn_agg w 9999 _ _ _ l m];simp only[Program.fieldsOf,underlying48]
 go_simp
 by_cases c:n=r
 case neg=>simp[c]
 by_cases d:o=s
 case neg=>simp[c,d]
 by_cases e:p=x
 case neg=>simp[c,d,e]
 by_cases i:q=y
 case neg=>simp[c,d,e,i]
 have j:f=g↔f.toList=g.toList:=⟨fun h=>h▸rfl,fun h=>by rw[ByteArray.toList_eq,ByteArray.toList_eq]at h; exact ByteArray.ext (Array.ext' h)⟩
 by_cases k:f.toList=g.toList<;>simp[c,d,e,i,j,k]
attribute [-go_sem] loadCellsFrom storeCells
attribute [local go_sem] aX
theorem Tn(w:World):(Instr.build 48 #[]).run prog w=.ok (.agg iR.cells.toArray) w:=run_build w _ _ _ (by kernel_rfl)
attribute [-go_sem] Instr.build Instr.fill
attribute [go_sem] Tn
theorem To(p:RpV)(w:World)(X:inR p.nodes):Calls prog 89 #[.agg p.cells.toArray] w fun e m=>e=.returned (.bool (xH p.x))∧Bw' w m:=by
 obtain⟨Q,a0,s,R,-⟩:=par w 50 p.cells;obtain⟨W2,b0,s2,K,q,-⟩:=eJ Q 48 [.i 0,.i 0,.i 0,.i 0,.string ⟨#[]⟩] p.part.cells rfl (Bv p.part);have l1:=s.loadOff (P:=prog) 21 5 p.part.cells rfl rfl;have l2:=K.load (P:=prog) (k:=5) rfl;have l3:=(s.grow q).load (P:=prog) (k:=26) rfl;have l:=k'3 (s.grow q) K (R.on q);have U:=Tm p.part iR;have B:=kp (fun W=>Ca p W X);obtain⟨z,J⟩:=nm' (decide (p.part=iR));obtain⟨a,D⟩:=nm' (gO p.x);obtain⟨b,T⟩:=nm' (decide (p.k.view<p.part.view));obtain⟨c,E⟩:=nm' (aG p.part.src 1 p.nodes);obtain⟨d,F⟩:=nm' (decide (p.part.src=p.id));obtain⟨f,G⟩:=nm' (aG p.part.view p.k.view 800000000);obtain⟨g,H⟩:=nm' (aG p.part.number 1 800000000);obtain⟨h,I⟩:=nm' (aG p.part.total 1 65536);obtain⟨i,V⟩:=nm' (decide ((p.part.data.size:Int)≤p.part.total));have S:xH p.x=(z||((!a||b)&&(c&&(!d&&(f&&(g&&(h&&i))))))):=by rw[←J,←D,←T,←E,←F,←G,←H,←I,←V]; rfl
 rw[S];rw[J]at U;have d0:(p.part.src != p.id)= !d:=by rw[←F]; by_cases e:p.part.src=p.id<;>simp[e]
 have L:=kp (fun W=>E▸cK.1 p.part.src 1 p.nodes W);have M:=kp (fun W=>G▸cK.1 p.part.view p.k.view 800000000 W);have N:=kp (fun W=>H▸cK.1 p.part.number 1 800000000 W);have O:=kp (fun W=>I▸cK.1 p.part.total 1 65536 W);rw[D]at B;go_enter func89,ntmps89
 cases z
 case true=>
  go_wp2_with fail;go_ret;exact⟨rfl,l.C⟩
 go_wp2_with fail;refine mb' (B.o _) fun w3 r=>?_;have A:=kp (l.C.on r);have y:=l.a.below r l.a.lt;have n:=l.b.below r l.b.lt;have k0:=y.cell 0;have k1:=y.cell 1;have k2:=y.cell 2;rw[RpV.c0]at k0;rw[RpV.c1]at k1;rw[RpV.c2]at k2;have Y:=n.cell 0;have Z:=n.cell 1;have j2:=n.cell 2;have j3:=n.cell 3;have j4:=n.cell 4;change _=some (Value.i p.part.src)at Y;change _=some (Value.i p.part.view)at Z;change _=some (Value.i p.part.number)at j2;change _=some (Value.i p.part.total)at j3;change _=some (Value.string p.part.data)at j4
 cases a<;>cases b
 case true.false=>
  go_wp2_with fail;go_ret;exact⟨rfl,A.o⟩
 all_goals
  go_wp2_with fail;refine mb' (L.o _) fun m j=>?_;obtain rfl:=j.symm
  cases c
  case' true=>
   cases d
   case' false=>
    go_wp2_with fail;refine mb' (M.o _) fun m j=>?_;obtain rfl:=j.symm
    cases f
    case' true=>
     go_wp2_with fail;refine mb' (N.o _) fun m j=>?_;obtain rfl:=j.symm
     cases g
     case' true=>
      go_wp2_with fail;refine mb' (O.o _) fun m j=>?_;obtain rfl:=j.symm
      cases h
 all_goals
  go_wp2_with fail;go_ret;exact⟨rfl,A.o⟩
end
section
def gP:List PanicEntry:=[{v:=.iface 270 (.agg #[]),recovered:=false}]
theorem qN(w:World):Calls prog 138 #[.bool true] w fun e w'=>e=.returned (.tuple #[])∧w'=w:=by
 go_enter func138,ntmps138;go_wp2_with fail;go_end0;exact⟨rfl,rfl⟩
theorem qO(w:World):Calls prog 138 #[.bool false] w fun e w'=>e=.panicked gP∧w'=w:=by
 go_enter func138,ntmps138;go_wp2_with fail;exact⟨rfl,rfl,rfl⟩
theorem Ih(n:Int)(w:World):Calls prog 184 #[.i n,.i 0] w fun e w'=>e=.returned (.i n)∧w'=w:=by
 go_enter func184,ntmps184;go_wp2_with fail;go_ret;exact⟨rfl,rfl⟩
theorem Ii(n c:Int)(a:c≠0)(w:World):Calls prog 184 #[.i n,.i c] w fun e w'=>e=.panicked gP∧w'=w:=by
 have g:(c != 0)=true:=by simp[a]
 go_enter func184,ntmps184;go_wp2_with fail;exact⟨rfl,rfl,rfl⟩
theorem Tp(n:ByteArray)(w:World):Calls prog 133 #[.string n,.i 0] w fun e w'=>e=.returned (.string n)∧w'=w:=by
 go_enter func133,ntmps133;go_wp2_with fail;go_ret;exact⟨rfl,rfl⟩
theorem Tq(n:ByteArray)(c:Int)(a:c≠0)(w:World):Calls prog 133 #[.string n,.i c] w fun e w'=>e=.panicked gP∧w'=w:=by
 have g:(c != 0)=true:=by simp[a]
 go_enter func133,ntmps133;go_wp2_with fail;exact⟨rfl,rfl,rfl⟩
structure bX(w:World)(gi gr:Nat)(l:List UInt8):Prop where
 blk:Blk w gi 219 [.pointer (some ⟨gr,0,none⟩)]
 rd:eZ w gr l
 ne:gi≠gr
section
variable {w w':World}{gi gr:Nat}{l:List UInt8}
theorem bX.below(h:bX w gi gr l)(a:Bw' w w'):bX w' gi gr l:=⟨h.blk.below a h.blk.lt,h.rd.below a,h.ne⟩
theorem eZ.rblk(h:eZ w gr l):∃v,Blk w gr 276 [v]:=by obtain⟨A,n,c,h,-⟩:=h; exact⟨_,h⟩
theorem bX.tag(h:bX w gi gr l){i:Nat}{t:TypeId}{a:List Value}(b:Blk w i t a)(c:t≠276):i≠gr:=by
 obtain⟨v,d⟩:=h.rd.rblk;exact b.ne d c
theorem bX.step{l':List UInt8}(h:bX w gi gr l)(b:eZ w' gr l')(a:Chg (fun i=>i=gr) w w'):bX w' gi gr l':=⟨h.blk.chg a h.ne,b,h.ne⟩
theorem oA{w w':World}{g:Nat}(h:w.grownBy w' (some g)):Chg (fun i=>i=g) w w':=⟨h.os,h.tape,h.output,h.size,fun k a b=>h.block k a fun e=>b (by cases e; rfl)⟩
end
theorem iC{w:World}{gi gr:Nat}{l r:List UInt8}{n:Int}(h:bX w gi gr l)(b:bW l=some (n,r)):
  Calls prog 136 #[.pointer (some ⟨gi,0,none⟩)] w fun e w'=>e=.returned (.i n)∧bX w' gi gr r∧Chg (fun i=>i=gr) w w':=by
 unfold bW at b
 by_cases c:(num l).2.2=0
 rotate_left
 .rw[aF c]at b; cases b
 rw[aK c]at b;obtain⟨q,s⟩:(num l).1=n∧l.drop 4=r:=by cases b; exact⟨rfl,rfl⟩
 have p:(num l).2.1=4:=(zW l c).1;have g:=kp (by have:=Er gr l w h.rd; rw[c,q,p,s]at this; exact this);have y:=h.blk.cell 0;simp only[aP]at y;have k:=kp h;have j:=kp (Ih n);go_enter func136,ntmps136;go_wp2_with fail;refine (g.o).mono ?_;rintro e z ⟨rfl,m,f⟩;have d:=k'2 (k.o.step m (oA f)) (oA f);go_wp2_with fail;refine mb' (j.o _) fun w' x=>?_;obtain rfl:=x.symm;go_wp2_with fail;go_ret;exact⟨rfl,d.a,d.B⟩
theorem lE{w:World}{gi gr:Nat}{l:List UInt8}(h:bX w gi gr l)(a:bW l=none):
  Calls prog 136 #[.pointer (some ⟨gi,0,none⟩)] w fun e w'=>e=.panicked gP∧Chg (fun i=>i=gr) w w':=by
 unfold bW at a
 by_cases b:(num l).2.2=0
 .rw[aK b]at a; cases a
 have d:=kp (Er gr l w h.rd);have j:=h.blk.cell 0;simp only[aP]at j;have f:=kp (fun W=>Ii (num l).1 (num l).2.2 b W);go_enter func136,ntmps136;go_wp2_with fail;refine (d.o).mono ?_;rintro e m ⟨rfl,k,g⟩;have c:=kp (oA g);go_wp2_with fail;refine (f.o _).mono ?_;rintro e n ⟨rfl,rfl⟩;exact⟨rfl,rfl,c.o⟩
theorem Ij{w:World}{gi gr:Nat}{l r:List UInt8}{n:Int}(h:bX w gi gr l)(b:gM l=some (n,r)):
  Calls prog 186 #[.pointer (some ⟨gi,0,none⟩)] w fun e w'=>e=.returned (.i n)∧bX w' gi gr r∧Chg (fun i=>i=gr) w w':=by
 unfold gM at b
 by_cases c:(aA l).2.2=0
 rotate_left
 .rw[aF c]at b; cases b
 rw[aK c]at b;obtain⟨q,s⟩:(aA l).1=n∧l.drop 8=r:=by cases b; exact⟨rfl,rfl⟩
 have p:(aA l).2.1=8:=(Oa l c).1;have g:=kp (by have:=Es gr l w h.rd; rw[c,q,p,s]at this; exact this);have y:=h.blk.cell 0;simp only[aP]at y;have k:=kp h;have j:=kp (Ih n);go_enter func186,ntmps186;go_wp2_with fail;refine (g.o).mono ?_;rintro e z ⟨rfl,m,f⟩;have d:=k'2 (k.o.step m (oA f)) (oA f);go_wp2_with fail;refine mb' (j.o _) fun w' x=>?_;obtain rfl:=x.symm;go_wp2_with fail;go_ret;exact⟨rfl,d.a,d.B⟩
theorem Ik{w:World}{gi gr:Nat}{l:List UInt8}(h:bX w gi gr l)(a:gM l=none):
  Calls prog 186 #[.pointer (some ⟨gi,0,none⟩)] w fun e w'=>e=.panicked gP∧Chg (fun i=>i=gr) w w':=by
 unfold gM at a
 by_cases b:(aA l).2.2=0
 .rw[aK b]at a; cases a
 have d:=kp (Es gr l w h.rd);have j:=h.blk.cell 0;simp only[aP]at j;have f:=kp (fun W=>Ii (aA l).1 (aA l).2.2 b W);go_enter func186,ntmps186;go_wp2_with fail;refine (d.o).mono ?_;rintro e m ⟨rfl,k,g⟩;have c:=kp (oA g);go_wp2_with fail;refine (f.o _).mono ?_;rintro e n ⟨rfl,rfl⟩;exact⟨rfl,rfl,c.o⟩
end
section
theorem bX.at_{w d:World}{gi gr B:Nat}{l:List UInt8}(h:bX w gi gr l)(a:Below B w d)(e:gi<B)(b:gr<B):bX d gi gr l:=by
 obtain⟨A,n,c,g,i,f⟩:=h.rd;exact⟨h.blk.below a e,⟨A,n,c,(a.block gr b).trans g,i.below a (dK b),f⟩,h.ne⟩
structure Rs(w:World)(gi gr:Nat)(t:TypeId)(l:List UInt8)(zs cs:List Value)(W:World):Prop where
 inn:bX W gi gr l
 res:Blk W w.heap.size t zs
 blk:Blk W (w.heap.size+1) t cs
 chg:Chg (fun i=>i=gr) w W
 lti:gi<w.heap.size
 ltr:gr<w.heap.size
section
variable {w W W':World}{gi gr:Nat}{t:TypeId}{l l':List UInt8}{zs cs:List Value}
theorem Rs.new(h:bX w gi gr l)(t:TypeId)(cs:List Value):Rs w gi gr t l cs cs ((w.alloc (.cells cs.toArray t)).alloc (.cells cs.toArray t)):=
 have c:=ba' w (.cells cs.toArray t);have a:=(aH _ (w.alloc (.cells cs.toArray t))).alloc (aN _) (.cells cs.toArray t);have b:=Blk.new (w.alloc (.cells cs.toArray t)) t cs
 ⟨(h.below c).below a,(Blk.new w t cs).below a (Blk.new w t cs).lt,by simpa using b,((Chg.refl _ w).alloc _).alloc _,h.blk.lt,h.rd.lt⟩
theorem Rs.call(h:Rs w gi gr t l zs cs W)(b:bX W' gi gr l')(a:Chg (fun i=>i=gr) W W'):Rs w gi gr t l' zs cs W':=
 ⟨b,h.res.chg a (by have:=h.ltr; omega),h.blk.chg a (by have:=h.ltr; omega),h.chg.trans a fun _ _ h=>h,h.lti,h.ltr⟩
theorem Rs.put(h:Rs w gi gr t l zs cs W)(j:Nat)(u:Value):Rs w gi gr t l zs (cs.set j u) (W.setCell ⟨w.heap.size+1,j,none⟩ u):=
 ⟨h.inn.at_ ((aH (w.heap.size+1) W).setCell (aN _) u) (Dj h.lti) (Dj h.ltr),h.res.otherCell (by omega) j u,h.blk.setCell j u,h.chg.setCell (.inl (by omega)) j u,h.lti,h.ltr⟩
theorem Rs.grow(h:Rs w gi gr t l zs cs W)(a:Bw' W W'):Rs w gi gr t l zs cs W':=
 ⟨h.inn.below a,h.res.below a h.res.lt,h.blk.below a h.blk.lt,h.chg.then a,h.lti,h.ltr⟩
theorem Rs.end_(h:Rs w gi gr t l zs cs W)(a:Chg (fun i=>i=gr) W W'):Chg (fun i=>i=gr) w W':=h.chg.trans a fun _ _ h=>h
theorem Rs.fin(h:Rs w gi gr t l zs cs W)(xs:List Value):Blk (W.setRow w.heap.size xs.toArray) w.heap.size t xs∧bX (W.setRow w.heap.size xs.toArray) gi gr l∧Chg (fun i=>i=gr) w (W.setRow w.heap.size xs.toArray):=
 ⟨h.res.set xs,h.inn.at_ (eU (aH w.heap.size W) (aN _) _) h.lti h.ltr,h.chg.setRow (.inl (aN _)) _⟩
end
theorem Tr{l r:List UInt8}{x:Rw}(h:rwP l=some (x,r)):∃a b d,bW l=some (x.c,a)∧bW a=some (x.s,b)∧bW b=some (x.k,d)∧gM d=some (x.v,r):=by
 unfold rwP bN bN bN bN at h
 cases h1:bW l with
 |none=>simp[h1]at h
 |some e=>
  obtain⟨c,a⟩:=e
  cases h2:bW a with
  |none=>simp[h1,h2]at h
  |some f=>
   obtain⟨s,b⟩:=f
   cases h3:bW b with
   |none=>simp[h1,h2,h3]at h
   |some g=>
    obtain⟨k,d⟩:=g
    cases h4:gM d with
    |none=>simp[h1,h2,h3,h4]at h
    |some i=>
     obtain⟨v,j⟩:=i;simp[h1,h2,h3,h4]at h;obtain⟨rfl,rfl⟩:=h;exact⟨a,b,d,rfl,h2,h3,h4⟩
theorem Ts{l:List UInt8}(h:rwP l=none):bW l=none∨∃c a,bW l=some (c,a)∧(bW a=none∨∃s b,bW a=some (s,b)∧(bW b=none∨∃k d,bW b=some (k,d)∧gM d=none)):=by
 unfold rwP bN bN bN bN at h
 cases h1:bW l with
 |none=>exact .inl rfl
 |some e=>
  obtain⟨c,a⟩:=e;refine .inr ⟨c,a,rfl,?_⟩
  cases h2:bW a with
  |none=>exact .inl rfl
  |some f=>
   obtain⟨s,b⟩:=f;refine .inr ⟨s,b,rfl,?_⟩
   cases h3:bW b with
   |none=>exact .inl rfl
   |some g=>
    obtain⟨k,d⟩:=g;refine .inr ⟨k,d,rfl,?_⟩
    cases h4:gM d with
    |none=>rfl
    |some i=>simp[h1,h2,h3,h4]at h
attribute [-go_sem] loadCellsFrom storeCells
attribute [local go_sem] aX
theorem Tt{w:World}{gi gr:Nat}{l r:List UInt8}{x:Rw}(h:bX w gi gr l)(U:rwP l=some (x,r)):
  Calls prog 137 #[.pointer (some ⟨gi,0,none⟩)] w fun e F=>e=.returned (.agg x.cells.toArray)∧bX F gi gr r∧Chg (fun i=>i=gr) w F:=by
 obtain⟨r1,r2,r3,G,H,I,J⟩:=Tr U;have d:=k'4 G H I J;have E:=kp (Rs.new h 141 z'4);obtain⟨f,xs,g,j⟩:=x;simp only[]at d;go_enter func137,ntmps137;go_wp2_with fail;refine (iC E.o.inn d.a).mono ?_;rintro e w1 ⟨rfl,Q,L⟩;have n:=kp (E.o.call Q L);have V:=n.o.blk.cell 0;have y1:=n.o.blk.frozen 0;simp only[aP]at V;have y:=kp (n.o.put 0 (.i f));simp only[aC]at y;go_wp2_with fail;refine (iC y.o.inn d.b).mono ?_;rintro e w2 ⟨rfl,R,M⟩;have p:=kp (y.o.call R M);have W:=p.o.blk.cell 1;have y2:=p.o.blk.frozen 1;simp only[aP,aZ]at W;have z:=kp (p.o.put 1 (.i xs));simp only[aC,aD]at z;go_wp2_with fail;refine (iC z.o.inn d.c).mono ?_;rintro e w3 ⟨rfl,S,N⟩;have q:=kp (z.o.call S N);have X:=q.o.blk.cell 2;have y3:=q.o.blk.frozen 2;simp only[aP,aZ]at X;have A:=kp (q.o.put 2 (.i g));simp only[aC,aD]at A;go_wp2_with fail;refine (Ij A.o.inn d.D).mono ?_;rintro e w4 ⟨rfl,T,O⟩;have s:=kp (A.o.call T O);have Y:=s.o.blk.cell 3;have y4:=s.o.blk.frozen 3;simp only[aP,aZ]at Y;have m:=kp (s.o.put 3 (.i j));simp only[aC,aD]at m;have Z:=m.o.blk.load (P:=prog) (k:=4) rfl;have hS:=m.o.res.store (P:=prog) (cs':=[.i f,.i xs,.i g,.i j]) rfl (mP ⟨f,xs,g,j⟩);have C:=kp (m.o.fin [.i f,.i xs,.i g,.i j]);go_wp2_with fail;have K:=C.a.load (P:=prog) (k:=4) rfl;exact bI (v:=.agg (Rw.cells ⟨f,xs,g,j⟩).toArray) (by simp[results,results137,go_sem,K,Rw.cells]) rfl ⟨rfl,C.B⟩
theorem Tu{w:World}{gi gr:Nat}{l:List UInt8}(h:bX w gi gr l)(O:rwP l=none):
  Calls prog 137 #[.pointer (some ⟨gi,0,none⟩)] w fun e P=>e=.panicked gP∧Chg (fun i=>i=gr) w P:=by
 have d:=kp (Ts O);have j:=kp (Rs.new h 141 z'4);go_enter func137,ntmps137;rcases d with⟨p|⟨H,U,p,x|⟨xs,V,x,A|⟨R,W,A,L⟩⟩⟩⟩
 .go_wp2_with fail;refine mb' (lE j.o.inn p) fun G n=>?_;exact⟨rfl,rfl,j.o.end_ n⟩
 .have d:=k'2 p x;go_wp2_with fail;refine (iC j.o.inn d.a).mono ?_;rintro e J ⟨rfl,r,q⟩;have f:=kp (j.o.call r q);have s:=f.o.blk.cell 0;have K:=f.o.blk.frozen 0;simp only[aP]at s;have g:=kp (f.o.put 0 (.i H));simp only[aC]at g;go_wp2_with fail;refine mb' (lE g.o.inn d.B) fun G n=>?_;exact⟨rfl,rfl,g.o.end_ n⟩
 .have d:=k'3 p x A;go_wp2_with fail;refine (iC j.o.inn d.a).mono ?_;rintro e J ⟨rfl,r,q⟩;have f:=kp (j.o.call r q);have s:=f.o.blk.cell 0;have K:=f.o.blk.frozen 0;simp only[aP]at s;have g:=kp (f.o.put 0 (.i H));simp only[aC]at g;go_wp2_with fail;refine (iC g.o.inn d.b).mono ?_;rintro e Q ⟨rfl,F,E⟩;have k:=kp (g.o.call F E);have I:=k.o.blk.cell 1;have S:=k.o.blk.frozen 1;simp only[aP,aZ]at I;have m:=kp (k.o.put 1 (.i xs));simp only[aC,aD]at m;go_wp2_with fail;refine mb' (lE m.o.inn d.C) fun G n=>?_;exact⟨rfl,rfl,m.o.end_ n⟩
 .have d:=k'4 p x A L;go_wp2_with fail;refine (iC j.o.inn d.a).mono ?_;rintro e J ⟨rfl,r,q⟩;have f:=kp (j.o.call r q);have s:=f.o.blk.cell 0;have K:=f.o.blk.frozen 0;simp only[aP]at s;have g:=kp (f.o.put 0 (.i H));simp only[aC]at g;go_wp2_with fail;refine (iC g.o.inn d.b).mono ?_;rintro e Q ⟨rfl,F,E⟩;have k:=kp (g.o.call F E);have I:=k.o.blk.cell 1;have S:=k.o.blk.frozen 1;simp only[aP,aZ]at I;have m:=kp (k.o.put 1 (.i xs));simp only[aC,aD]at m;go_wp2_with fail;refine (iC m.o.inn d.c).mono ?_;rintro e X ⟨rfl,N,M⟩;have y:=kp (m.o.call N M);have T:=y.o.blk.cell 2;have Y:=y.o.blk.frozen 2;simp only[aP,aZ]at T;have z:=kp (y.o.put 2 (.i R));simp only[aC,aD]at z;go_wp2_with fail;refine mb' (Ik z.o.inn d.D) fun G n=>?_;exact⟨rfl,rfl,z.o.end_ n⟩
end
end Go.Proofs.YtoncgpddjmgbfaaGreat
