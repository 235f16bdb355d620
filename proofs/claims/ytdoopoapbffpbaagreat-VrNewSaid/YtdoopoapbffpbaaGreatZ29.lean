import Derived.Test.YtdoopoapbffpbaaGreatZ19
import Derived.Test.YtdoopoapbffpbaaGreatZ23
import Derived.Test.YtdoopoapbffpbaaGreatZ28
import Derived.WalkMore
import Derived.ScopeJumps
import Derived.OpenShut
namespace Go.Proofs.YtdoopoapbffpbaaGreat
open Go.RowKit Go.Proofs.Tryz
set_option maxRecDepth 100000
set_option maxHeartbeats 12800000
set_option linter.unusedVariables false
set_option linter.unusedSimpArgs false
section
def KpV.x(p:KpV):Kd:=⟨p.view,p.normal,p.base,p.image,p.es⟩
def fL(w:World)(B:Nat)(p:KpV):Prop:=Sl w B p.ev En.cells p.es
def VoV.x(p:VoV):Vo:=⟨p.node,p.normal,p.base,p.number,p.commit,p.es⟩
def mS(w:World)(B:Nat)(p:VoV):Prop:=Sl w B p.ev En.cells p.es
def nQ(w:World)(B:Nat)(v:Value)(vs:List VoV):Prop:=Sl w B v VoV.cells vs∧∀p∈vs,mS w B p
def Pt.cells(p:Pt):List Value:=[.i p.src,.i p.view,.i p.number,.i p.total,.string p.data]
structure RpV where
 (id nodes:Int) (k:KpV) (commit:Int) (s:StV) (timer:Int) (starts:List Int) (sv:Value) (votes:List VoV) (vv:Value) (acks:List Ak) (av:Value) (part:Pt)
def RpV.cells(p:RpV):List Value:=[.i p.id,.i p.nodes]++p.k.cells++[.i p.commit]++p.s.cells++[.i p.timer,p.sv,p.vv,p.av]++p.part.cells
def RpV.x(p:RpV):Rp:=⟨p.id,p.nodes,p.k.x,p.commit,p.s.x,p.timer,p.starts,p.votes.map (·.x),p.acks,p.part⟩
def eO(w:World)(B:Nat)(p:RpV)(ps:List ObV):Prop:=fL w B p.k∧fN w B p.s ps∧Sl w B p.sv i1 p.starts∧nQ w B p.vv p.votes∧Sl w B p.av Ak.cells p.acks
section
variable {w w':World}{B C:Nat}{v:Value}
theorem nQ.below{c:List VoV}(h:nQ w B v c)(b:Below C w w')(a:B≤C):nQ w' B v c:=⟨h.1.below b a,fun p d=>Sl.below (h.2 p d) b a⟩
theorem nQ.more{b:List VoV}(h:nQ w B v b)(a:B≤C):nQ w C v b:=⟨h.1.more a,fun p c=>Sl.more (h.2 p c) a⟩
theorem eO.below{p:RpV}{ps:List ObV}(h:eO w B p ps)(b:Below C w w')(a:B≤C):eO w' B p ps:=⟨Sl.below h.1 b a,h.2.1.below b a,h.2.2.1.below b a,h.2.2.2.1.below b a,h.2.2.2.2.below b a⟩
theorem eO.more{p:RpV}{ps:List ObV}(h:eO w B p ps)(a:B≤C):eO w C p ps:=⟨Sl.more h.1 a,h.2.1.more a,h.2.2.1.more a,h.2.2.2.1.more a,h.2.2.2.2.more a⟩
end
def KdR(k:Kd):Prop:=∀e∈k.es,enR e
def VoR(v:Vo):Prop:=∀e∈v.es,enR e
theorem Vk{p:KpV}{w:World}{B:Nat}(h:fL w B p):∀u∈p.cells,u.oneCell'=true:=by
 intro u a;simp only[KpV.cells,bA,dW,or_false]at a;rcases a with rfl|rfl|rfl|rfl|rfl
 .rfl
 .rfl
 .rfl
 .rfl
 .exact Sl.one h
theorem yK{p:VoV}{w:World}{B:Nat}(h:mS w B p):∀u∈p.cells,u.oneCell'=true:=by
 intro u a;simp only[VoV.cells,bA,dW,or_false]at a;rcases a with rfl|rfl|rfl|rfl|rfl|rfl
 .rfl
 .rfl
 .rfl
 .rfl
 .rfl
 .exact Sl.one h
theorem Dh(p:Pt):∀u∈p.cells,u.oneCell'=true:=by
 intro u a;simp only[Pt.cells,bA,dW,or_false]at a;rcases a with rfl|rfl|rfl|rfl|rfl<;>rfl
end
section
attribute [-go_sem] loadCellsFrom storeCells
attribute [local go_sem] bC
theorem RpV.len(p:RpV):p.cells.length=26:=rfl
theorem RpV.c0(p:RpV):p.cells[0]? =some (.i p.id):=rfl
theorem RpV.c1(p:RpV):p.cells[1]? =some (.i p.nodes):=rfl
theorem RpV.c2(p:RpV):p.cells[2]? =some (.i p.k.view):=rfl
theorem RpV.c3(p:RpV):p.cells[3]? =some (.i p.k.normal):=rfl
theorem RpV.c4(p:RpV):p.cells[4]? =some (.i p.k.base):=rfl
theorem RpV.c5(p:RpV):p.cells[5]? =some (.string p.k.image):=rfl
theorem RpV.c6(p:RpV):p.cells[6]? =some p.k.ev:=rfl
theorem RpV.c7(p:RpV):p.cells[7]? =some (.i p.commit):=rfl
theorem RpV.c17(p:RpV):p.cells[17]? =some (.i p.timer):=rfl
theorem RpV.c18(p:RpV):p.cells[18]? =some p.sv:=rfl
theorem RpV.c19(p:RpV):p.cells[19]? =some p.vv:=rfl
theorem RpV.c20(p:RpV):p.cells[20]? =some p.av:=rfl
theorem mC{P:Program}{W:World}{g k:Nat}{t:TypeId}{a:List Value}(h:Blk W g t a)(b:a.length=k):∀p:Blw W,Sem.run P (loadCellsFrom ⟨g,0,none⟩ 0 k #[]) p.w=.ok a.toArray p.w:=fun p=>(h.below p.h h.lt).load b
theorem rN:(∀(p:KpV)(w:World)(B:Nat)(h:fL w B p)(a:0≤p.base∧p.base≤900000000)(b:p.es.length≤1000000),Calls prog 94 #[.agg p.cells.toArray] w fun e d=>e=.returned (.i p.x.last)∧Bw' w d)∧(∀(p:KpV)(w:World)(B:Nat)(h:fL w B p)(a:0≤p.base∧p.base≤900000000)(b:p.es.length≤1000000),Calls prog 44 #[.agg p.cells.toArray] w fun e d=>e=.returned (.i p.x.last)∧Bw' w d):=by
 refine⟨?q0,?q1⟩
 all_goals
  intro p w B h a b;obtain⟨A,c,i,-,-,-⟩:=h;obtain⟨n,g⟩:=nm' p.es.length;have k:p.x.last=p.base+n:=by rw[←g]; rfl
  rw[k];rw[g]at i b;have j:=kp (ba' w (.cells p.cells.toArray 24));have f:=Blk.new w 24 p.cells;have l:=f.cell 2;have m:=f.cell 4;change _=some (Value.i p.base)at l;rw[show p.cells[4]? =some p.ev from rfl,i]at m;obtain⟨q,r⟩:=a;generalize p.base=s at *
  first |go_enter func94,ntmps94|go_enter func44,ntmps44
  go_wp2_with fail;go_ret;exact⟨rfl,j.o⟩
theorem Di(p:RpV)(w:World)(B:Nat)(h:fL w B p.k)(g:0≤p.k.base∧p.k.base≤900000000)(i:p.k.es.length≤1000000):Calls prog 36 #[.agg p.cells.toArray] w fun e q=>e=.returned (.i p.x.k.last)∧Bw' w q:=by
 obtain⟨A,c,d,-,-,-⟩:=h;obtain⟨n,b⟩:=nm' p.k.es.length;have j:p.x.k.last=p.k.base+n:=by rw[←b]; rfl
 rw[j];rw[b]at d i;have a:=Blk.new w 39 p.cells;have f:=kp (ba' w (.cells p.cells.toArray 39));have l:=a.cell 4;have m:=a.cell 6;rw[RpV.c4]at l;rw[RpV.c6,d]at m;obtain⟨r,s⟩:=g;generalize p.k.base=y at *;go_enter func36,ntmps36;go_wp2_with fail;go_ret;exact⟨rfl,f.o⟩
theorem tU:(∀(p:RpV)(w:World),Calls prog 49 #[.agg p.cells.toArray] w fun e a=>e=.returned (.bool (gY p.x))∧Bw' w a)∧(∀(p:RpV)(w:World),Calls prog 50 #[.agg p.cells.toArray] w fun e a=>e=.returned (.bool (gY p.x))∧Bw' w a):=by
 refine⟨?q0,?q1⟩
 all_goals
  intro p w;have b:=Blk.new w 39 p.cells;have c:=kp (ba' w (.cells p.cells.toArray 39));have d:=b.cell 2;have f:=b.cell 3;rw[RpV.c2]at d;rw[RpV.c3]at f;have g:(p.k.normal==p.k.view)=gY p.x:=rfl;generalize p.k.normal=h at *;generalize p.k.view=i at *
  first |go_enter func49,ntmps49|go_enter func50,ntmps50
  go_wp2_with fail;go_ret;exact⟨rfl,c.o⟩
theorem Ks(p:RpV)(w:World)(i:inR p.nodes):Calls prog 93 #[.agg p.cells.toArray] w fun e j=>e=.returned (.bool (mN p.x))∧Bw' w j:=by
 obtain⟨l,g⟩:=nm' (w.alloc (.cells p.cells.toArray 39));have a:=Blk.new w 39 p.cells;have b:=ba' w (.cells p.cells.toArray 39);rw[g]at a b;have c:=kp b;have q:=aP (v:=.i p.id) (a.cell 0);have r:=aP (v:=.i p.nodes) (a.cell 1);have s:=aP (v:=.i p.k.view) (a.cell 2);have n:(mM p.nodes p.k.view==p.id)=mN p.x:=rfl;have f:=kp i;go_enter func93,ntmps93;go_wp2_with fail;refine bJ (by kernel_rfl) (by kernel_rfl) ?_
 repeat (go_big_quiet_step ((go_at_call 138; refine dG (Uq _ _ _ f.o))))
 refine bH ?_;rintro m ⟨⟨_,h⟩,rfl⟩;have d:=kp (c.o.on h);go_wp2_with fail;go_ret;exact⟨rfl,d.o⟩
theorem Dj(p:RpV)(w:World)(y:inR p.nodes):Calls prog 51 #[.agg p.cells.toArray] w fun e z=>e=.returned (.bool (gM p.x))∧Bw' w z:=by
 obtain⟨q,r⟩:=nm' (w.alloc (.cells p.cells.toArray 39));have d:=Blk.new w 39 p.cells;have h:=ba' w (.cells p.cells.toArray 39);rw[r]at d h;have A:=d.load (P:=prog) (k:=26) rfl;have c:=k'2 d h;obtain⟨a,g⟩:=nm' (gY p.x);obtain⟨b,j⟩:=nm' (mN p.x);have n:=kp (by have:=tU.1 p q; rw[g]at this; exact this);have m:=kp (fun W=>by have:=Ks p W y; rw[j]at this; exact this);unfold gM;rw[g,j];go_enter func51,ntmps51;go_wp2_with fail;refine mb' (n.o) fun C i=>?_;have l2:=(c.a.below i c.a.lt).load (P:=prog) (k:=26) rfl;have f:=kp (c.B.on i)
 cases a
 .go_wp2_with fail;go_ret;exact⟨rfl,f.o⟩
 go_wp2_with fail;refine mb' (m.o _) fun D s=>?_;have l:=kp (f.o.on s);go_wp2_with fail;go_ret;exact⟨rfl,l.o⟩
theorem tV(p:RpV)(w:World):Calls prog 52 #[.agg p.cells.toArray] w fun e n=>e=.returned (.bool (gM p.x))∧Bw' w n:=by
 obtain⟨q,l⟩:=nm' (w.alloc (.cells p.cells.toArray 39));have c:=Blk.new w 39 p.cells;have f:=ba' w (.cells p.cells.toArray 39);rw[l]at c f;have B:=mC (P:=prog) c (k:=26) rfl;have y:=aP (v:=.i p.id) (c.cell 0);have z:=aP (v:=.i p.nodes) (c.cell 1);have A:=aP (v:=.i p.k.view) (c.cell 2);have h:=kp f;obtain⟨a,d⟩:=nm' (gY p.x);obtain⟨b,g⟩:=nm' (mN p.x);have s:(mM p.nodes p.k.view==p.id)=b:=g;have j:=kp (fun W=>by have:=tU.2 p W; rw[d]at this; exact this);unfold gM;rw[d,g];go_enter func52,ntmps52;go_wp2_with fail
 cases a
 all_goals
  refine bJ (by kernel_rfl) (by kernel_rfl) ?_
  repeat (go_big_quiet_step (first |(go_at_call 100; refine dG (Kb _ _ _))|(go_at_call 50; refine bU (j.o _))))
  refine bH ?_;rintro r ⟨⟨_,m⟩,rfl⟩;have i:=kp (h.o.on m);go_wp2_with fail;go_ret;exact⟨rfl,i.o⟩
end
section
attribute [-go_sem] loadCellsFrom storeCells
attribute [local go_sem] bC
theorem vQ(a v:Int)(l:List En)(k:Nat)(b:k<l.length):vwB a v (l.drop k)=(fY l[k]&&(aF (l[k]).v v a&&vwB a (l[k]).v (l.drop (k+1)))):=by
 rw[fG b];rfl
theorem Xr{P:Program}{a:Act}{w:World}{Q:Exit→Act→World→Prop}{c b:Code}(l:Nat)(f:findLabel c l=some b)(first:c.wp P (Exit.jump l (fun a w=>b.wp P (Exit.noGoto Q) a w) Q) a w):(Code.scope c).wp P Q a w:=by
 refine wp_scope_jumps l (fun a w=>b.wp P (Exit.noGoto Q) a w) (fun _ _=>0) f first fun a w h=>wp_mono h fun e a w d=>?_
 cases e<;>first |exact d|exact d.elim
theorem Exit.jump_ret{l:Nat}{J:Act→World→Prop}{Q:Exit→Act→World→Prop}{a:Act}{w:World}:Exit.jump l J Q .ret a w=Q .ret a w:=rfl
attribute [local go_sem] Exit.jump_ret
theorem Exit.jump_normal{l:Nat}{J:Act→World→Prop}{Q:Exit→Act→World→Prop}{a:Act}{w:World}:Exit.jump l J Q .normal a w=Q .normal a w:=rfl
attribute [local go_sem] Exit.jump_normal
theorem Exit.jump_exit{l n:Nat}{J:Act→World→Prop}{Q:Exit→Act→World→Prop}{a:Act}{w:World}:Exit.jump l J Q (.exit n) a w=Q (.exit n) a w:=rfl
attribute [local go_sem] Exit.jump_exit
theorem Lu(k:Kd):(aF k.view 0 900000000=false∧dA k=false)∨(aF k.view 0 900000000=true∧aF k.normal 0 k.view=false∧dA k=false)∨
  (aF k.view 0 900000000=true∧aF k.normal 0 k.view=true∧aF k.base 0 900000000=false∧dA k=false)∨
  (aF k.view 0 900000000=true∧aF k.normal 0 k.view=true∧aF k.base 0 900000000=true∧¬(k.es.length:Int)≤4000∧dA k=false)∨
  (aF k.view 0 900000000=true∧aF k.normal 0 k.view=true∧aF k.base 0 900000000=true∧(k.es.length:Int)≤4000∧fA k.base k.es=false∧dA k=false)∨
  (aF k.view 0 900000000=true∧aF k.normal 0 k.view=true∧aF k.base 0 900000000=true∧(k.es.length:Int)≤4000∧fA k.base k.es=true∧dA k=(vwB k.normal 0 k.es&&(dM (jK k.image)).isSome)):=by
 unfold dA rG
 cases aF k.view 0 900000000
 .exact .inl ⟨rfl,rfl⟩
 cases aF k.normal 0 k.view
 .exact .inr (.inl ⟨rfl,rfl,rfl⟩)
 cases aF k.base 0 900000000
 .exact .inr (.inr (.inl ⟨rfl,rfl,rfl,rfl⟩))
 by_cases a:(k.es.length:Int)≤4000
 .cases fA k.base k.es
  .exact .inr (.inr (.inr (.inr (.inl ⟨rfl,rfl,rfl,a,rfl,by simp⟩))))
  .exact .inr (.inr (.inr (.inr (.inr ⟨rfl,rfl,rfl,a,rfl,by simp[a]⟩))))
 .exact .inr (.inr (.inr (.inl ⟨rfl,rfl,rfl,a,by simp[a]⟩)))
theorem yU(p:KpV)(B:Nat)(w:World)(h:fL w B p)(hB:B≤w.heap.size)(hn:p.es.length≤1000000)(hr:KdR p.x)(hi:p.image.size≤maxLen):
  Calls prog 35 #[.agg p.cells.toArray] w fun e w'=>e=.returned (.i (eN 1 (dA p.x)))∧Bw' w w':=by
 obtain⟨R,hR⟩:=nm' (dA p.x);rw[hR];have M:=ba' w (.cells p.cells.toArray 24);have J:=Blk.new w 24 p.cells;obtain⟨W1,d1⟩:=nm' (w.alloc (.cells p.cells.toArray 24));rw[d1]at M J;have y:=k'2 M (aB hB M.size);have L:=kp J;have Z:=kp (Sl.below h M hB);have HI:=kp hi;have z0:=kp hr;have k0:=J.cell 0;have V:=J.cell 1;have k2:=J.cell 2;have Q:=J.cell 4;change _=some (Value.i p.view)at k0;change _=some (Value.i p.normal)at V;change _=some (Value.i p.base)at k2;obtain⟨A,c,I,-,-,-⟩:=h;obtain⟨n,U⟩:=nm' p.es.length;rw[U]at I hn;rw[show p.cells[4]? =some p.ev from rfl,I]at Q;have D:=k'2 I U;have g:=kp cJ.2.2.1;have d0:=Lu p.x;rw[hR,show (p.x.es.length:Int)=(n:Int) from by rw[show p.x.es=p.es from rfl,U]]at d0;clear M J I U hB hi hr hR;simp only[KpV.x]at d0;have HX:=kp (show p.x=⟨p.view,p.normal,p.base,p.image,p.es⟩ from rfl);go_enter func35,ntmps35;go_wp2_with fail;refine Xr 0 rfl ?_;rcases d0 with⟨f,rfl⟩|⟨f,m,rfl⟩|⟨f,m,j,rfl⟩|⟨f,m,j,h4,rfl⟩|⟨f,m,j,h4,N,rfl⟩|⟨f,m,j,h4,N,h6⟩
 .have s:=kp (fun W=>by have:=g.o p.view 0 900000000 W; rw[f]at this; exact this);clear f;go_wp2_with fail;refine ms' (s.o _) ?_;go_wp2_with fail;apply wp_goto;refine⟨rfl,?_⟩;go_wp2_with fail;rw[Exit.noGoto_ret];go_ret;exact⟨rfl,y.a⟩
 .have s:=kp (fun W=>by have:=g.o p.view 0 900000000 W; rw[f]at this; exact this);have C:=kp (fun W=>by have:=g.o p.normal 0 p.view W; rw[m]at this; exact this);clear f m;go_wp2_with fail;refine ms' (s.o _) ?_;go_wp2_with fail;refine ms' (C.o _) ?_;go_wp2_with fail;apply wp_goto;refine⟨rfl,?_⟩;go_wp2_with fail;rw[Exit.noGoto_ret];go_ret;exact⟨rfl,y.a⟩
 .have s:=kp (fun W=>by have:=g.o p.view 0 900000000 W; rw[f]at this; exact this);have C:=kp (fun W=>by have:=g.o p.normal 0 p.view W; rw[m]at this; exact this);have G:=kp (fun W=>by have:=g.o p.base 0 900000000 W; rw[j]at this; exact this);clear f m j;go_wp2_with fail;refine ms' (s.o _) ?_;go_wp2_with fail;refine ms' (C.o _) ?_;go_wp2_with fail;refine ms' (G.o _) ?_;go_wp2_with fail;apply wp_goto;refine⟨rfl,?_⟩;go_wp2_with fail;rw[Exit.noGoto_ret];go_ret;exact⟨rfl,y.a⟩
 .have s:=kp (fun W=>by have:=g.o p.view 0 900000000 W; rw[f]at this; exact this);have C:=kp (fun W=>by have:=g.o p.normal 0 p.view W; rw[m]at this; exact this);have G:=kp (fun W=>by have:=g.o p.base 0 900000000 W; rw[j]at this; exact this);clear f m j;go_wp2_with fail;refine ms' (s.o _) ?_;go_wp2_with fail;refine ms' (C.o _) ?_;go_wp2_with fail;refine ms' (G.o _) ?_;go_wp2_with fail;apply wp_goto;refine⟨rfl,?_⟩;go_wp2_with fail;rw[Exit.noGoto_ret];go_ret;exact⟨rfl,y.a⟩
 .have s:=kp (fun W=>by have:=g.o p.view 0 900000000 W; rw[f]at this; exact this);have C:=kp (fun W=>by have:=g.o p.normal 0 p.view W; rw[m]at this; exact this);have l:0≤p.base∧p.base≤900000000:=by unfold aF at j; simpa using j
  have G:=kp (fun W=>by have:=g.o p.base 0 900000000 W; rw[j]at this; exact this);have Y:=kp (by have:=yG.1 p.ev p.es p.base B W1 Z.o y.B (by have:=D.B; omega) (fun e he=>(z0.o e he).1) l.1 l.2; rw[N,D.a]at this; exact this);clear f m j l N;go_wp2_with fail;refine ms' (s.o _) ?_;go_wp2_with fail;refine ms' (C.o _) ?_;go_wp2_with fail;refine ms' (G.o _) ?_;go_wp2_with fail;refine mb' (Y.o) fun w3 l=>?_;have S:=kp (y.a.on l);clear l;go_wp2_with fail;apply wp_goto;refine⟨rfl,?_⟩;go_wp2_with fail;rw[Exit.noGoto_ret];go_ret;exact⟨rfl,S.o⟩
 .have s:=kp (fun W=>by have:=g.o p.view 0 900000000 W; rw[f]at this; exact this);have C:=kp (fun W=>by have:=g.o p.normal 0 p.view W; rw[m]at this; exact this);have l:0≤p.base∧p.base≤900000000:=by unfold aF at j; simpa using j
  have G:=kp (fun W=>by have:=g.o p.base 0 900000000 W; rw[j]at this; exact this);have Y:=kp (by have:=yG.1 p.ev p.es p.base B W1 Z.o y.B (by have:=D.B; omega) (fun e he=>(z0.o e he).1) l.1 l.2; rw[N,D.a]at this; exact this);obtain⟨rv,j0⟩:=nm' (vwB p.normal 0 p.es);rw[j0]at h6;have T:=k'2 j0 h6;clear f m j l N h6 j0;go_wp2_with fail;refine ms' (s.o _) ?_;go_wp2_with fail;refine ms' (C.o _) ?_;go_wp2_with fail;refine ms' (G.o _) ?_;go_wp2_with fail;refine mb' (Y.o) fun w3 l=>?_;have S:=k'2 l (y.a.on l);clear k0 V k2 Q;have Q:=(L.o.below l L.o.lt).cell 4;rw[show p.cells[4]? =some p.ev from rfl,D.a]at Q;clear l d1;go_wp2_with fail;clear Q;have HZ:=kp (show (z'3:List Value).length=11 from rfl)
  go_loopw [3,43] (fun v i wr=>∃k:Nat,k≤n∧i=.i k∧∃z:Int,v=.i z∧vwB p.normal z (p.es.drop k)=rv∧Bw' w wr∧Bw' W1 wr) (fun _ i _=>n-(intOf i).toNat)
  case atStart=>exact⟨0,by omega,rfl,0,rfl,T.a,S.B,S.a⟩
  case round=>
   obtain⟨k,hk,rfl,z,rfl,hf,g1,l1⟩:=hrel;have HF:=kp hf;have r:=k'2 g1 l1;clear hf g1 l1
   by_cases q2:k<n
   .have g3:(k:Int)<(n:Int):=by omega
    have g0:k<p.es.length:=by have:=D.B; omega
    have a2:=(Z.o.below r.B y.B)
    have e2:=kp a2;clear a2;obtain⟨A2,c2,b2,y1,-,-⟩:=e2.o;obtain⟨b,y2,hA,-,l2,m1⟩:=dB (P:=prog) 11 En.cells eL (by omega) y1 k g0;have j2:A2=A:=by have:=D.a; rw[b2]at this; cases this; rfl
    subst j2;subst hA;have q0:=m1 0;change Sem.run _ _ wr=.ok _ wr at q0;have HT:=kp (vQ p.normal z p.es k g0);clear l2 m1 b2 y1;generalize p.es[k]'g0=x at *;have nz:=Blk.new wr 46 z'3;have d2:=nz.store (P:=prog) (cs':=x.cells) rfl (nI x);have nb:=nz.set x.cells;have m0:=(((cL (ba' wr (.cells z'3a 46)) (aD _) x.cells.toArray)))
    have NB:=kp nb;have X:=k'2 (r.a.on m0) (r.B.on m0);have l0:=nb.load (P:=prog) (k:=11) rfl;clear nb nz m0;have HM:=kp (fun W=>vN.1 x W);have a0:=kp (HT.o.symm.trans HF.o);clear g3;have g3:(k:Int)<(n:Int):=by omega
    cases hm:fY x
    .go_wp2_with fail;clear q0 d2 l0;refine (HM.o _).mono ?_;rw[hm];rintro e w4 ⟨rfl,H⟩;have K:=kp (X.a.trans (H.mono (aB r.a.size (by simp))));clear H;go_wp2_with fail;apply wp_goto;refine⟨rfl,?_⟩;go_wp2_with fail;rw[Exit.noGoto_ret];go_ret;exact⟨by rw[T.B,←a0.o,hm]; rfl,K.o⟩
    .go_wp2_with fail;clear q0 d2 l0;refine (HM.o _).mono ?_;rw[hm];rintro e w4 ⟨rfl,H⟩;have K:=k'2 (X.a.trans (H.mono (aB r.a.size (by simp)))) (X.B.trans (H.mono (aB r.B.size (by simp))));have V:=(L.o.below K.B L.o.lt).cell 1;change _=some (Value.i p.normal)at V;have g2:=kp (NB.o.below H NB.o.lt);have j1:=g2.o.cell 1;change _=some (Value.i x.v)at j1;clear H;have y0:=kp hm;clear hm;have a1:=kp (fun W=>g.o x.v z p.normal W)
     cases hwi:aF x.v z p.normal
     .go_wp2_with fail;refine (a1.o _).mono ?_;rw[hwi];rintro e w' ⟨rfl,O⟩;obtain rfl:=O.symm;clear O;have b0:=kp hwi;clear hwi;go_wp2_with fail;apply wp_goto;refine⟨rfl,?_⟩;go_wp2_with fail;rw[Exit.noGoto_ret];go_ret;exact⟨by rw[T.B,←a0.o,y0.o,b0.o]; rfl,K.a⟩
     .go_wp2_with fail;refine (a1.o _).mono ?_;rw[hwi];rintro e w' ⟨rfl,O⟩;obtain rfl:=O.symm;clear O;have b0:=kp hwi;clear hwi;go_wp2_with fail;go_roundw
      case rel=>exact⟨k+1,by omega,by go_num,x.v,rfl,by rw[←a0.o,y0.o,b0.o]; rfl,K.a,K.B⟩
      case measure=>simp[intOf]; omega
   .obtain rfl:k=n:=by omega
    have o2:rv=true:=by
     have:=HF.o;rw[Fe.2 (by have:=D.B; omega)]at this;exact this.symm
    subst o2;have k3:=(L.o.below r.B L.o.lt).cell 3;change _=some (Value.string p.image)at k3;obtain⟨c6,W6,m2,e1,q1,z1,p1,o1⟩:=oT wr p.image HI.o;have F:=k'5 e1 q1 z1 p1 o1;clear e1 q1 z1 p1 o1;go_wp2_with fail;clear k3 m2;refine (yT _ _ _ _ p.image.data.toList W6 F.b F.c (mD _) F.d F.E).mono ?_;rintro e w7 ⟨q,qs,rfl,p2,I,e0⟩;obtain⟨o,ho⟩:=nm' ((dM p.image.data.toList).isSome);rw[ho];have HO:=kp ho;clear ho p2;have n0:=Blk.new w7 32 z'2;have hS:=n0.store (P:=prog) (cs':=q.cells) rfl (StV.one I.st);have o0:=kp (r.a.trans ((F.a.mono r.a.size).trans ((e0.mono (aB r.a.size F.a.size)).trans (cL (ba' w7 (.cells z'2a 32)) (aD _) q.cells.toArray|>.mono (aB r.a.size (aB F.a.size e0.size))))));clear n0 I e0;have HE:eN 1 R=if o then 0 else 1:=by rw[T.B,show jK p.image=p.image.data.toList from rfl,HO.o]; cases o<;>rfl
    have p0:=kp HE;clear HE
    cases o
    .simp only[qO,if_false];go_wp2_with fail;apply wp_label;go_wp2_with fail;rw[Exit.jump_ret];go_ret;exact⟨by rw[p0.o]; rfl,o0.o⟩
    .simp only[if_true];go_wp2_with fail;rw[Exit.jump_ret];go_ret;exact⟨by rw[p0.o]; rfl,o0.o⟩
end
section
open Go.RowKit Go.ChangeShapes Go.WideShapes Go.ChangeAt Go.Deep
theorem zL{z:Int}(h:(Lit.int .i64 z).wf=true):inR z:=by
 simp[Lit.wf,IntKind.min,IntKind.max,IntKind.signed,IntKind.bits]at h;exact h
theorem aBl{α:Type}{enc:α→List Value}{b:List (List Value)}{l:List α}(f:l.length=b.length)(g:∀i(h:i<l.length),∃r,b[i]? =some r∧r=enc l[i]):l.map enc=b:=by
 apply List.ext_getElem
 .simp[f]
 .intro i d e;obtain⟨r,a,c⟩:=g i (by simpa using d);rw[eK e]at a;injection a with a
  rw[kY,←c,←a]
section
variable {H:Type}{enc:TypeId×Value→H}{w:World}{base:Nat}{spare:Nat→Bool}{held:Bool}
theorem sP{α:Type}{b:α→List Value}{q:α→Prop}{C f:TypeId}{k:Nat}(z:prog.underlying C=some (.slice f))(K:prog.cellsOf f=k)(F:0<k)
  (L:∀{n:Nat}{r:List Value}{y:DataW H×List MemPlace},DataW.trod enc prog w base spare held n f r=some y→r.length=k→∃x:α,r=b x∧q x)
  {n:Nat} {v:Value} {y:DataW H×List MemPlace} (h:DataW.trod enc prog w base spare held n C [v]=some y):∃l:List α,Sl w w.heap.size v b l∧∀x∈l,q x:=by
 have P:∃A m cap,v=.slice A m cap:=by
  rcases open_slice z h with⟨e,_⟩|⟨x,l,c,_,_,_,_,e,_⟩
  .exact⟨none,0,0,by simpa using e⟩
  .exact⟨some x,l,c,by simpa using e⟩
 obtain⟨A,m,cap,rfl⟩:=P;obtain⟨d,p⟩:=y;obtain⟨B,g,o,G,I,J⟩:=Pd (d:=d) (p:=p) z K F ⟨n,h⟩;obtain⟨l,N,s⟩:=Be (p:=fun i(x:α)=>∃r,B[i]? =some r∧r=b x∧q x) B.length (fun i a=>by
  obtain⟨D,n,y,E⟩:=J _ (bK a);obtain⟨x,j,M⟩:=L E D;exact⟨x,_,eK a,j,M⟩)
 have e:=aBl (enc:=b) N (fun i a=>let ⟨r,g,o,_⟩:=s i a; ⟨r,g,o⟩);have O:l.length=m:=by omega
 subst O;refine⟨l,⟨A,cap,rfl,?_,G,I⟩,fun x j=>?_⟩
 .show Rd w w.heap.size A (l.map b).flatten;rw[e];exact g
 .obtain⟨i,a,rfl⟩:=zU j;obtain⟨_,_,_,h⟩:=s i a;exact h
theorem aBm{n:Nat}{r:List Value}{y:DataW H×List MemPlace}(h:DataW.trod enc prog w base spare held n 3 r=some y)(_:r.length=1):∃x:Int,r=i1 x∧inR x:=by
 obtain⟨z,e,-,a⟩:=DataW.trod_int dD h;exact⟨z,e,zL a⟩
theorem Eq{n:Nat}{v:Value}{y:DataW H×List MemPlace}(h:DataW.trod enc prog w base spare held n 33 [v]=some y):∃l:List Int,Sl w w.heap.size v i1 l∧∀x∈l,inR x:=sP lT (by kernel_rfl) (by omega) aBm h
theorem aBn{n:Nat}{r:List Value}{y:DataW H×List MemPlace}(h:DataW.trod enc prog w base spare held n 26 r=some y)(s:r.length=4):∃a b c d:Int,r=[.i a,.i b,.i c,.i d]:=by
 obtain⟨xs,m,_,_,_,G,f⟩:=DataW.trod_array underlying26 h
 match r,s with
 |[C,D,E,F],_=>
  have e:prog.cellsOf 3=1:=by kernel_rfl
  rw[e]at f;have g:=f 0 (by omega);have i:=f 1 (by omega);have j:=f 2 (by omega);have k:=f 3 (by omega);rw[eK (by omega)]at g i j k;simp only[oF,dP,dO,qK,mZ]at g i j k;obtain⟨x,l,_⟩:=DataW.trod_int dD g;obtain⟨z,o,_⟩:=DataW.trod_int dD i;obtain⟨A,p,_⟩:=DataW.trod_int dD j;obtain⟨B,q,_⟩:=DataW.trod_int dD k;simp at l o p q;subst l o p q;exact⟨x,z,A,B,rfl⟩
section
variable {t:TypeId}{fs:Array Field}{r:List Value}{xs:List (DataW H×List MemPlace)}{m:Nat}
def Fd(enc:TypeId×Value→H)(w:World)(base:Nat)(spare:Nat→Bool)(held:Bool)(fs:Array Field)(r:List Value):Prop:=∃m,∀(i:Nat)(f:Field),fs[i]? =some f→∃y,DataW.trod enc prog w base spare held m f.type ((r.drop f.offset).take (prog.cellsOf f.type))=some y
theorem lR{n:Nat}{y:DataW H×List MemPlace}(c:prog.underlying t=some (.struct fs))(h:DataW.trod enc prog w base spare held n t r=some y):Fd enc w base spare held fs r:=by
 obtain⟨xs,m,_,_,_,d,b⟩:=DataW.trod_struct c h;refine⟨m,fun i f a=>⟨xs[i]'(by have:=(fH.1 a).1; omega),?_⟩⟩;rw[b i f a,eK]
theorem iE(h:Fd enc w base spare held fs r)(i:Nat)(f:Field)(c:fs[i]? =some f)(k:Nat)(b:prog.cellsOf f.type=k):∃n y,DataW.trod enc prog w base spare held n f.type ((r.drop f.offset).take k)=some y:=by
 obtain⟨m,h⟩:=h;obtain⟨y,a⟩:=h i f c;rw[b]at a;exact⟨m,y,a⟩
theorem dZ(h:Fd enc w base spare held fs r)(i:Nat)(f:Field)(b:fs[i]? =some f)(c:prog.underlying f.type=some (.int .i64))(a:prog.cellsOf f.type=1):∃z,(r.drop f.offset).take 1=[.i z]∧inR z:=by
 obtain⟨n,y,g⟩:=iE h i f b 1 a;obtain⟨z,e,-,d⟩:=DataW.trod_int c g;exact⟨z,e,zL d⟩
theorem Oi(h:Fd enc w base spare held fs r)(i:Nat)(f:Field)(b:fs[i]? =some f)(c:prog.underlying f.type=some .string)(a:prog.cellsOf f.type=1):∃z,(r.drop f.offset).take 1=[.string z]:=by
 obtain⟨n,y,d⟩:=iE h i f b 1 a;obtain⟨z,e,-⟩:=DataW.trod_string c d;exact⟨z,e⟩
end
theorem aBo{n:Nat}{r:List Value}{y:DataW H×List MemPlace}(h:DataW.trod enc prog w base spare held n 44 r=some y)(q:r.length=7):∃a b c d e f g:Int,r=[.i a,.i b,.i c,.i d,.i e,.i f,.i g]∧inR a∧inR b∧inR c∧inR d∧inR e∧inR f∧inR g:=by
 have h:=lR underlying44 h
 match r,q with
 |[E,F,G,I,J,K,L],_=>
  obtain⟨a,i,s⟩:=dZ h 0 _ rfl underlying42 (by kernel_rfl);obtain⟨b,j,x⟩:=dZ h 1 _ rfl dD (by kernel_rfl);obtain⟨c,k,z⟩:=dZ h 2 _ rfl dD (by kernel_rfl);obtain⟨d,l,A⟩:=dZ h 3 _ rfl dD (by kernel_rfl);obtain⟨e,m,B⟩:=dZ h 4 _ rfl dD (by kernel_rfl);obtain⟨f,o,C⟩:=dZ h 5 _ rfl dD (by kernel_rfl);obtain⟨g,p,D⟩:=dZ h 6 _ rfl dD (by kernel_rfl);simp at i j k l m o p;subst i j k l m o p;exact⟨a,b,c,d,e,f,g,rfl,s,x,z,A,B,C,D⟩
theorem aBp{n:Nat}{r:List Value}{y:DataW H×List MemPlace}(h:DataW.trod enc prog w base spare held n 46 r=some y)(g:r.length=11):∃x:En,r=x.cells∧enR x:=by
 have h:=lR underlying46 h
 match r,g with
 |[N,O,Q,R,S,T,U,V,W,X,P],_=>
  obtain⟨B,a,i⟩:=dZ h 0 _ rfl dD (by kernel_rfl);obtain⟨C,b,j⟩:=dZ h 1 _ rfl dD (by kernel_rfl);obtain⟨E,c,l⟩:=dZ h 2 _ rfl dD (by kernel_rfl);obtain⟨F,d,m⟩:=dZ h 3 _ rfl dD (by kernel_rfl);obtain⟨_,_,f⟩:=iE h 4 _ rfl 7 (by kernel_rfl);obtain⟨G,I,J,K,L,M,D,e,o,p,q,s,z,A,k⟩:=aBo f rfl;simp at e;obtain⟨rfl,rfl,rfl,rfl,rfl,rfl,rfl⟩:=e;simp at a b c d;subst a b c d;exact⟨⟨B,C,E,F,G,I,J,K,L,M,D⟩,rfl,i,j,l,m,o,p,q,s,z,A,k⟩
theorem Oj{n:Nat}{v:Value}{y:DataW H×List MemPlace}(h:DataW.trod enc prog w base spare held n 22 [v]=some y):∃l:List En,Sl w w.heap.size v En.cells l∧∀x∈l,enR x:=sP wO (by kernel_rfl) (by omega) aBp h
theorem aBq{n:Nat}{r:List Value}{y:DataW H×List MemPlace}(h:DataW.trod enc prog w base spare held n 84 r=some y)(j:r.length=6):∃x:VoV,r=x.cells∧(mS w w.heap.size x∧VoR x.x):=by
 have h:=lR underlying84 h
 match r,j with
 |[z,A,B,C,D,f],_=>
  obtain⟨l,a,E⟩:=dZ h 0 _ rfl dD (by kernel_rfl);obtain⟨m,b,F⟩:=dZ h 1 _ rfl dD (by kernel_rfl);obtain⟨o,c,G⟩:=dZ h 2 _ rfl dD (by kernel_rfl);obtain⟨p,d,I⟩:=dZ h 3 _ rfl dD (by kernel_rfl);obtain⟨q,e,J⟩:=dZ h 4 _ rfl dD (by kernel_rfl);obtain⟨_,_,i⟩:=iE h 5 _ rfl 1 (by kernel_rfl);obtain⟨s,g,k⟩:=Oj i;simp at a b c d e;subst a b c d e;exact⟨⟨l,m,o,p,q,s,f⟩,rfl,g,k⟩
theorem aBr{n:Nat}{v:Value}{y:DataW H×List MemPlace}(h:DataW.trod enc prog w base spare held n 34 [v]=some y):∃l:List VoV,Sl w w.heap.size v VoV.cells l∧∀x∈l,mS w w.heap.size x∧VoR x.x:=sP Fg (by kernel_rfl) (by omega) aBq h
theorem Ok{n:Nat}{r:List Value}{y:DataW H×List MemPlace}(h:DataW.trod enc prog w base spare held n 88 r=some y)(c:r.length=2):∃x:Bk,r=x.cells∧True:=by
 have h:=lR Aj h
 match r,c with
 |[f,g],_=>
  obtain⟨d,a,i⟩:=dZ h 0 _ rfl dD (by kernel_rfl);obtain⟨e,b,j⟩:=dZ h 1 _ rfl dD (by kernel_rfl);simp at a b;subst a b;exact⟨⟨d,e⟩,rfl,trivial⟩
theorem aBs{n:Nat}{v:Value}{y:DataW H×List MemPlace}(h:DataW.trod enc prog w base spare held n 27 [v]=some y):∃l:List Bk,Sl w w.heap.size v Bk.cells l∧∀x∈l,True:=sP fC (by kernel_rfl) (by omega) Ok h
theorem aBt{n:Nat}{r:List Value}{y:DataW H×List MemPlace}(h:DataW.trod enc prog w base spare held n 90 r=some y)(k:r.length=5):∃x:ObV,r=x.cells∧((Sl w w.heap.size x.wv i1 x.x.ws∧Sl w w.heap.size x.lv i1 x.x.ls)∧∀z∈x.x.ws,inR z):=by
 have h:=lR underlying90 h
 match r,k with
 |[A,B,C,c,d],_=>
  obtain⟨m,a,D⟩:=dZ h 0 _ rfl dD (by kernel_rfl);obtain⟨_,_,g⟩:=iE h 1 _ rfl 2 (by kernel_rfl);obtain⟨⟨o,p⟩,b,-⟩:=Ok g rfl;simp[Bk.cells]at b;obtain⟨rfl,rfl⟩:=b;obtain⟨_,_,i⟩:=iE h 2 _ rfl 1 (by kernel_rfl);obtain⟨q,e,l⟩:=Eq i;obtain⟨_,_,j⟩:=iE h 3 _ rfl 1 (by kernel_rfl);obtain⟨s,f,E⟩:=Eq j;simp at a;subst a;exact⟨⟨⟨m,⟨o,p⟩,q,s⟩,c,d⟩,rfl,⟨e,f⟩,l⟩
theorem aBu{n:Nat}{v:Value}{y:DataW H×List MemPlace}(h:DataW.trod enc prog w base spare held n 25 [v]=some y):∃l:List ObV,Sl w w.heap.size v ObV.cells l∧∀x∈l,(Sl w w.heap.size x.wv i1 x.x.ws∧Sl w w.heap.size x.lv i1 x.x.ls)∧∀z∈x.x.ws,inR z:=sP nE (by kernel_rfl) (by omega) aBt h
theorem aBv{n:Nat}{r:List Value}{y:DataW H×List MemPlace}(h:DataW.trod enc prog w base spare held n 29 r=some y)(q:r.length=8):∃x:HpV,∃ps,r=x.cells∧gH w w.heap.size x ps∧hpR x.x∧inR x.x.next:=by
 have h:=lR underlying29 h
 match r,q with
 |[I,g,J,K,L,M,N,i],_=>
  obtain⟨A,b,O⟩:=dZ h 0 _ rfl dD (by kernel_rfl);obtain⟨_,_,l⟩:=iE h 1 _ rfl 1 (by kernel_rfl);obtain⟨f,j,e⟩:=aBu l;obtain⟨B,c,z⟩:=dZ h 2 _ rfl dD (by kernel_rfl);obtain⟨_,_,m⟩:=iE h 3 _ rfl 4 (by kernel_rfl);obtain⟨C,D,E,F,d⟩:=aBn m rfl;simp at d;obtain⟨rfl,rfl,rfl,rfl⟩:=d;obtain⟨_,_,o⟩:=iE h 4 _ rfl 1 (by kernel_rfl);obtain⟨G,k,-⟩:=aBs o;simp at b c;subst b c;refine⟨⟨⟨A,B,C,D,E,F,f.map (·.x),G⟩,g,i⟩,f,rfl,⟨⟨j,fun p a=>(e p a).1⟩,rfl,k⟩,fun x s=>?_,z⟩;obtain⟨p,a,rfl⟩:=cX.1 s;exact (e p a).2
theorem aBw{n:Nat}{r:List Value}{y:DataW H×List MemPlace}(h:DataW.trod enc prog w base spare held n 53 r=some y)(e:r.length=2):∃b a:Int,r=[.i b,.i a]∧inR a:=by
 have h:=lR underlying53 h
 match r,e with
 |[g,i],_=>
  obtain⟨b,c,j⟩:=dZ h 0 _ rfl underlying51 (by kernel_rfl);obtain⟨a,d,f⟩:=dZ h 1 _ rfl dD (by kernel_rfl);simp at c d;subst c d;exact⟨b,a,rfl,f⟩
theorem aBx{n:Nat}{r:List Value}{y:DataW H×List MemPlace}(h:DataW.trod enc prog w base spare held n 86 r=some y)(e:r.length=4):∃x:Rw,r=x.cells∧inR x.v:=by
 have h:=lR underlying86 h
 match r,e with
 |[l,m,o,p],_=>
  obtain⟨g,a,q⟩:=dZ h 0 _ rfl dD (by kernel_rfl);obtain⟨i,b,s⟩:=dZ h 1 _ rfl dD (by kernel_rfl);obtain⟨_,_,d⟩:=iE h 2 _ rfl 2 (by kernel_rfl);obtain⟨j,k,c,f⟩:=aBw d rfl;simp at c;obtain⟨rfl,rfl⟩:=c;simp at a b;subst a b;exact⟨⟨g,i,j,k⟩,rfl,f⟩
theorem aBy{n:Nat}{v:Value}{y:DataW H×List MemPlace}(h:DataW.trod enc prog w base spare held n 30 [v]=some y):∃l:List Rw,Sl w w.heap.size v Rw.cells l∧∀x∈l,inR x.v:=sP kO (by kernel_rfl) (by omega) aBx h
theorem aBz{n:Nat}{r:List Value}{y:DataW H×List MemPlace}(h:DataW.trod enc prog w base spare held n 32 r=some y)(A:r.length=9):∃x:StV,∃ps,r=x.cells∧fN w w.heap.size x ps∧stR x.x∧inR x.x.h.next:=by
 have h:=lR underlying32 h
 match r,A with
 |[b,c,d,e,f,g,i,j,a],_=>
  obtain⟨_,_,m⟩:=iE h 0 _ rfl 8 (by kernel_rfl);obtain⟨p,ps,k,z,q,s⟩:=aBv m rfl;obtain⟨_,_,o⟩:=iE h 1 _ rfl 1 (by kernel_rfl);obtain⟨C,l,B⟩:=aBy o;refine⟨⟨p,C,a⟩,ps,?_,⟨z,l⟩,⟨q,B⟩,s⟩;show [b,c,d,e,f,g,i,j]++[a]=p.cells++[a];rw[show [b,c,d,e,f,g,i,j]=p.cells from k]
theorem Ol{n:Nat}{r:List Value}{y:DataW H×List MemPlace}(h:DataW.trod enc prog w base spare held n 24 r=some y)(i:r.length=5):∃x:KpV,r=x.cells∧fL w w.heap.size x∧KdR x.x∧inR x.base:=by
 have h:=lR underlying24 h
 match r,i with
 |[s,z,A,B,e],_=>
  obtain⟨l,a,C⟩:=dZ h 0 _ rfl dD (by kernel_rfl);obtain⟨m,b,D⟩:=dZ h 1 _ rfl dD (by kernel_rfl);obtain⟨o,c,j⟩:=dZ h 2 _ rfl dD (by kernel_rfl);obtain⟨p,d⟩:=Oi h 3 _ rfl oG (by kernel_rfl);obtain⟨_,_,g⟩:=iE h 4 _ rfl 1 (by kernel_rfl);obtain⟨q,f,k⟩:=Oj g;simp at a b c d;subst a b c d;exact⟨⟨l,m,o,p,q,e⟩,rfl,f,k,j⟩
theorem aBA{n:Nat}{r:List Value}{y:DataW H×List MemPlace}(h:DataW.trod enc prog w base spare held n 92 r=some y)(c:r.length=2):∃x:Ak,r=x.cells∧True:=by
 have h:=lR underlying92 h
 match r,c with
 |[f,g],_=>
  obtain⟨d,a,i⟩:=dZ h 0 _ rfl dD (by kernel_rfl);obtain⟨e,b,j⟩:=dZ h 1 _ rfl dD (by kernel_rfl);simp at a b;subst a b;exact⟨⟨d,e⟩,rfl,trivial⟩
theorem aBB{n:Nat}{v:Value}{y:DataW H×List MemPlace}(h:DataW.trod enc prog w base spare held n 35 [v]=some y):∃l:List Ak,Sl w w.heap.size v Ak.cells l∧∀x∈l,True:=sP Ff (by kernel_rfl) (by omega) aBA h
theorem aBC{n:Nat}{r:List Value}{y:DataW H×List MemPlace}(h:DataW.trod enc prog w base spare held n 37 r=some y)(f:r.length=5):∃x:Pt,r=x.cells∧True:=by
 have h:=lR underlying37 h
 match r,f with
 |[m,o,p,q,s],_=>
  obtain⟨g,a,z⟩:=dZ h 0 _ rfl dD (by kernel_rfl);obtain⟨i,b,A⟩:=dZ h 1 _ rfl dD (by kernel_rfl);obtain⟨j,c,B⟩:=dZ h 2 _ rfl dD (by kernel_rfl);obtain⟨k,d,C⟩:=dZ h 3 _ rfl dD (by kernel_rfl);obtain⟨l,e⟩:=Oi h 4 _ rfl oG (by kernel_rfl);simp at a b c d e;subst a b c d e;exact⟨⟨g,i,j,k,l⟩,rfl,trivial⟩
structure RpR(p:RpV):Prop where
 k:KdR p.k.x∧inR p.k.base
 s:stR p.s.x∧inR p.s.x.h.next
 v:∀v∈p.votes,VoR v.x
 r:inR p.id∧inR p.nodes∧inR p.commit∧inR p.timer
theorem aBD{n:Nat}{r:List Value}{y:DataW H×List MemPlace}(h:DataW.trod enc prog w base spare held n 39 r=some y)(hr:r.length=26):∃x:RpV,∃ps,r=x.cells∧eO w w.heap.size x ps∧RpR x:=by
 have h:=lR underlying39 h
 match r,hr with
 |[a0,a1,l,C,D,E,F,a7,G,I,a,b,c,d,e,f,g,q0,i,j,m,o,q,z,A,B],_=>
  obtain⟨O,J,w0⟩:=dZ h 0 _ rfl dD (by kernel_rfl);obtain⟨P,K,w1⟩:=dZ h 1 _ rfl dD (by kernel_rfl);obtain⟨_,_,Y⟩:=iE h 2 _ rfl 5 (by kernel_rfl);obtain⟨k,U,hk,b0,d0⟩:=Ol Y rfl;obtain⟨R,M,w7⟩:=dZ h 3 _ rfl dD (by kernel_rfl);obtain⟨_,_,Z⟩:=iE h 4 _ rfl 9 (by kernel_rfl);obtain⟨s,ps,X,hs,g0,j0⟩:=aBz Z rfl;obtain⟨Q,L,l0⟩:=dZ h 5 _ rfl dD (by kernel_rfl);obtain⟨_,_,g6⟩:=iE h 6 _ rfl 1 (by kernel_rfl);obtain⟨m0,S,-⟩:=Eq g6;obtain⟨_,_,g7⟩:=iE h 7 _ rfl 1 (by kernel_rfl);obtain⟨o0,T,N⟩:=aBr g7;obtain⟨_,_,g8⟩:=iE h 8 _ rfl 1 (by kernel_rfl);obtain⟨p0,V,-⟩:=aBB g8;obtain⟨_,_,g9⟩:=iE h 9 _ rfl 5 (by kernel_rfl);obtain⟨t,W,-⟩:=aBC g9 rfl;simp at J K M L;subst J K M L;refine⟨⟨O,P,k,R,s,Q,m0,i,o0,j,p0,m,t⟩,ps,?_,⟨hk,hs,S,⟨T,fun p hp=>(N p hp).1⟩,V⟩,⟨⟨b0,d0⟩,⟨g0,j0⟩,fun v hv=>(N v hv).2,w0,w1,w7,l0⟩⟩;show [.i O,.i P]++[l,C,D,E,F]++[.i R]++[G,I,a,b,c,d,e,f,g]++[.i Q,i,j,m]++[o,q,z,A,B]=_;rw[show [l,C,D,E,F]=k.cells from U,show [G,I,a,b,c,d,e,f,g]=s.cells from X,show [o,q,z,A,B]=t.cells from W];rfl
theorem aBE{v:Value}{d:DataW H}{p:List MemPlace}{a:Array Value}(g:v=.agg a)(b:a.size=prog.cellsOf 24)(h:DataW.Trod enc prog w base spare held 24 v d p):∃x:KpV,v=.agg x.cells.toArray∧fL w w.heap.size x∧KdR x.x∧inR x.base:=by
 subst g;obtain⟨n,h⟩:=h;have e:prog.cellsOf 24=5:=by kernel_rfl
 obtain⟨x,c,f⟩:=Ol h (by rw[e]at b; simpa [Value.cells] using b);have:a.toList=x.cells:=c;exact⟨x,by rw[←this],f⟩
theorem Om{v:Value}{d:DataW H}{p:List MemPlace}{a:Array Value}(g:v=.agg a)(b:a.size=prog.cellsOf 39)(h:DataW.Trod enc prog w base spare held 39 v d p):∃x:RpV,∃ps,v=.agg x.cells.toArray∧eO w w.heap.size x ps∧RpR x:=by
 subst g;obtain⟨n,h⟩:=h;have e:prog.cellsOf 39=26:=by kernel_rfl
 obtain⟨x,ps,c,f⟩:=aBD h (by rw[e]at b; simpa [Value.cells] using b);have:a.toList=x.cells:=c;exact⟨x,ps,by rw[←this],f⟩
end
end
end Go.Proofs.YtdoopoapbffpbaaGreat
