import Derived.Test.YthalbagblhkeaaaGreatZ03
import Derived.Test.YthalbagblhkeaaaGreatZ04
import Derived.Test.YthalbagblhkeaaaGreatZ17
import Derived.Test.YthalbagblhkeaaaGreatZ19
import Derived.Defers
import Derived.Recover
import Derived.Lib.ConvBytes
namespace Go.Proofs.YthalbagblhkeaaaGreat
open Go.RowKit Go.Proofs.Tryz
set_option maxRecDepth 100000
set_option maxHeartbeats 12800000
set_option linter.unusedVariables false
set_option linter.unusedSimpArgs false
section
attribute [-go_sem] loadCellsFrom storeCells
attribute [local go_sem] bC
theorem rW:∀u∈(z'1:List Value),u.oneCell'=true:=HpV.one (p:=⟨lI,.slice none 0 0,.slice none 0 0⟩) rfl rfl
theorem Ln(d b a:Nat)(xs:List Value)(c:Int)(u:TypeId)(h:Value)(g:List PanicEntry)(w:World)(o:Blk w d 29 z'1)(r:Blk w b 29 xs)(m:Blk w a 44 [.i c])(n:xs.length=8)(p:a≠b):
  CallsD prog 191 #[.pointer (some ⟨d,0,none⟩),.pointer (some ⟨b,0,none⟩),.pointer (some ⟨a,0,none⟩)] (.panicking ({v:=.iface u h,recovered:=false}::g)) w fun e s x=>
   e=.returned (.tuple #[])∧s=.panicking ({v:=.iface u h,recovered:=true}::g)∧x=(w.setRow b z'1a).setCell ⟨a,0,none⟩ (.i 60):=by
 have j:=o.load (P:=prog) (k:=8) rfl;have l:=r.store (P:=prog) (cs':=z'1) (by rw[n]; rfl) rW;have f:=m.other p (List.toArray z'1);have c2:=f.cell 0;have i:=f.frozen 0;simp only[aG]at c2;refine callsD_of_wpS func191 rfl fun z y q=>?_;apply wpS_seq;apply wpS_region;simp[wpOpsS,go_sem,recoverD,q,ntmps191,Exit.thenS];apply wpS_seq;apply wpS_region;simp[wpOpsS,go_sem,Exit.thenS];refine wpS_cond (t:=true) (by simp[Act.eval,Array.replicate]) ?_;simp only[if_true];apply wpS_region;simp[wpOpsS,go_sem,j,l,c2,i,bodyPostS,results,results191]
theorem Xe(a b c:Value)(w:World):
  CallsD prog 191 #[a,b,c] .returning w fun e g h=>e=.returned (.tuple #[])∧g=.returning∧h=w:=by
 refine callsD_of_wpS func191 rfl fun d i f=>?_;apply wpS_seq;apply wpS_region;simp[wpOpsS,go_sem,recoverD,f,ntmps191,Exit.thenS];apply wpS_seq;apply wpS_region;simp[wpOpsS,go_sem,Exit.thenS];refine wpS_cond (t:=false) (by simp[Act.eval,Array.replicate]) ?_;simp only[qO,if_false];refine wpS_of_wp (wp_skip ?_)
 cases d
 simp_all [bodyPostS,results,results191]
def jW(w:World)(o:Option Hp)(e:Ending)(w':World):Prop:=
 ∃p ps,e=.returned (.tuple #[.agg p.cells.toArray,.i (if o.isSome then 0 else 60)])∧p.x=o.getD lI∧Hv w' w.heap.size p ps∧Bw' w w'
theorem Hv.no(w:World)(base:Nat):Hv w base ⟨lI,.slice none 0 0,.slice none 0 0⟩ []:=⟨Ow.nil _ _ _ _ _,⟨fun _ h=>(nomatch h),List.Pairwise.nil⟩,rfl,⟨rfl,.inl ⟨rfl,rfl⟩⟩⟩
theorem Lo(g:Nat)(A:Option Addr)(n c:Nat)(w:World)(h:Blk w g 200 [.slice A n c]):
  Calls prog 142 #[.pointer (some ⟨g,0,none⟩)] w fun e b=>e=.returned (.i n)∧b=w:=by
 have a:=h.cell 0;simp only[aG]at a;go_enter func142,ntmps142;go_wp2_with fail;go_ret;exact⟨rfl,rfl⟩
structure WhH(w:World)(xs:List Value)(c:Int)(W:World):Prop where
 x:Blk W w.heap.size 29 xs
 e:Blk W (w.heap.size+1) 44 [.i c]
 n:Blk W (w.heap.size+1+1) 29 z'1
 b:Bw' w W
section
variable {w W W':World}{xs:List Value}{c:Int}
theorem WhH.new(w:World):WhH w z'1 0 (((w.alloc (.cells z'1a 29)).alloc (.cells #[.i 0] 44)).alloc (.cells z'1a 29)):=by
 have a:=ba' w (.cells z'1a 29);have b:=Blk.new w 29 z'1;have c:=Blk.new (w.alloc (.cells z'1a 29)) 44 [.i 0];have d:=Blk.new ((w.alloc (.cells z'1a 29)).alloc (.cells #[.i 0] 44)) 29 z'1;exact⟨(b.alloc _).alloc _,(by simpa using c.alloc _),(by simpa using d),((a.alloc (by simp) _).alloc (by simp; omega) _)⟩
theorem WhH.grow(h:WhH w xs c W)(a:Bw' W W'):WhH w xs c W':=⟨h.x.below a h.x.lt,h.e.below a h.e.lt,h.n.below a h.n.lt,h.b.on a⟩
theorem WhH.chg{g:Nat}(h:WhH w xs c W)(a:Chg (fun i=>i=g) W W')(d:w.heap.size+1+1<g):WhH w xs c W':=⟨h.x.chg a (by omega),h.e.chg a (by omega),h.n.chg a (by omega),h.b.trans (a.below (fun i f=>by omega) h.b.size)⟩
theorem WhH.put(h:WhH w xs c W)(a:List Value):WhH w a c (W.setRow w.heap.size a.toArray):=⟨h.x.set a,h.e.other (by omega) _,h.n.other (by omega) _,cL h.b (aD _) _⟩
theorem WhH.err(h:WhH w xs c W)(d:Int):WhH w xs d (W.setCell ⟨w.heap.size+1,0,none⟩ (.i d)):=⟨h.x.otherCell (by omega) _ _,h.e.setCell 0 _,h.n.otherCell (by omega) _ _,h.b.setCell (p:=⟨w.heap.size+1,0,none⟩) (by simp only; omega) _⟩
end
theorem jW.no{w a:World}{o:Option Hp}(c:o=none)(b:Bw' w a):jW w o (.returned (.tuple #[.agg z'1a,.i 60])) a:=by
 subst c;exact⟨⟨lI,.slice none 0 0,.slice none 0 0⟩,[],rfl,rfl,Hv.no _ _,b⟩
theorem jW.yes{w a:World}{o:Option Hp}{p:HpV}{ps:List ObV}(c:o=some p.x)(d:Hv a w.heap.size p ps)(b:Bw' w a):jW w o (.returned (.tuple #[.agg p.cells.toArray,.i 0])) a:=by
 subst c;exact⟨p,ps,rfl,rfl,d,b⟩
theorem Xf(A:Option Addr)(n c B:Nat)(l:List UInt8)(w:World)(hr:Rd w B A (bv l))(W:B≤w.heap.size)(hl:l.length=n)(hc:n≤c)(hm:c≤maxLen):
  Calls prog 143 #[.slice A n c,.func (.func 144) #[] #[]] w (jW w (eZ l)):=by
 have l1:∀(V:Fn)(first cap:Array Value)(w:World),(Instr.makeFunc V first cap).run prog w=.ok (.func V first cap) w:=fun _ _ _ _=>rfl;have HT:=kp rO;have HF:=kp rP;have y:=kp (WhH.new w);have HR:=kp (Ga A n c l _ (((hr.below y.o.b W).more (aB W y.o.b.size))) hl hc hm)
 go_enter_defers func143,ntmps143
 go_wp2_with fail;refine (HR.o).mono ?_;rintro e q ⟨g,rfl,y0,L,p0⟩;have K4:=kp (y.o.grow p0);have F:=kp (show w.heap.size+1+1<g from eA y.o.n.lt y0);have T:=ba' q (.cells #[.pointer (some ⟨g,0,none⟩)] 139);have n5:=Blk.new q 139 [.pointer (some ⟨g,0,none⟩)];have J:=kp (K4.o.grow T);have HI:=kp (show cK (q.alloc (.cells #[.pointer (some ⟨g,0,none⟩)] 139)) q.heap.size g l from⟨n5,L.below T,by have:=L.lt; omega⟩);have s:=kp (Xd HI.o);have a0:=kp (show g<q.heap.size from L.lt)
 cases hp:mU l with
 |none=>
  rw[hp]at s;have H:=kp (show eZ l=none by rw[Ds,hp]);go_wp2_with fail;refine (s.o).mono ?_;rintro e E ⟨K,rfl⟩;have h:=kp (J.o.chg K F.o);refine leaves_cons (f:=191) (args:=#[.pointer (some ⟨w.heap.size+1+1,0,none⟩),.pointer (some ⟨w.heap.size,0,none⟩),.pointer (some ⟨w.heap.size+1,0,none⟩)]) (by simp) (by simp[go_sem]) ?_;refine (Ln _ _ _ _ 0 _ _ [] _ h.o.n h.o.x h.o.e rfl (by omega)).mono ?_;rintro e Y Z ⟨rfl,rfl,rfl⟩;have d:=(h.o.put z'1).err 60;have C:=d.x.load (P:=prog) (k:=8) rfl;have j:=d.e.cell 0;have G:=jW.no H.o d.b;simp only[aG]at j;simp[Leaves,settle,results,results143,go_sem,C,j,G]
 |some p=>
  obtain⟨hh,r⟩:=p;rw[hp]at s;have S:=kp hp;go_wp2_with fail;refine (s.o).mono ?_;rintro e E ⟨K,p,ps,rfl,d1,O,X⟩;have h:=kp (J.o.chg K F.o);have hS:=h.o.x.store (P:=prog) (cs':=p.cells) rfl (HpV.one O.obs.one O.free.sl.one);have d:=kp (h.o.put p.cells);obtain⟨Q,D,U,z0,-,b1,-,-⟩:=X.rd;have a1:=J.o.b;have g1:=F.o;have j1:=a0.o;have d0:=kp ((show Blk E g 200 [.slice Q D U] from z0).other (g':=w.heap.size) (by omega) p.cells.toArray);have q0:=(X.blk.other (g':=w.heap.size) (by omega) p.cells.toArray).cell 0;simp only[aG]at q0;have R:=kp b1;have I:=kp ((O.mono a1.size).chg h.o.x ((Chg.refl (fun i=>i=w.heap.size) E).setRow (.inr rfl) p.cells.toArray) (by decide) (by decide) (by decide));have b0:=kp d1;go_wp2_with fail;generalize E.setRow w.heap.size p.cells.toArray=W7 at *;go_wp2_with fail;refine mb' (Lo g Q D U _ d0.o) fun w' N=>?_;obtain rfl:=N.symm
  by_cases M:D=0
  .subst M;obtain rfl:r=[]:=hJ R.o;have l0:=kp (show eZ l=some hh by rw[Ds,S.o]);go_wp2_with fail;refine mb' (HT.o _) fun w' N=>?_;obtain rfl:=N.symm;have C:=d.o.x.load (P:=prog) (k:=8) rfl;have hS:=d.o.x.store (P:=prog) (cs':=p.cells) rfl (HpV.one I.o.obs.one I.o.free.sl.one);have z:=kp (d.o.put p.cells);have e0:=kp (I.o.chg d.o.x ((Chg.refl (fun i=>i=w.heap.size) W7).setRow (.inr rfl) p.cells.toArray) (by decide) (by decide) (by decide));have z8:=z.o.e.cell 0;have y8:=z.o.e.frozen 0;simp only[aG]at z8;have m:=kp (z.o.err 0);have j0:=kp (e0.o.chg z.o.e ((Chg.refl (fun i=>i=w.heap.size+1) _).setCell (.inr rfl) 0 (.i 0)) (by decide) (by decide) (by decide));go_wp2_with fail;refine leaves_cons (f:=191) (args:=#[.pointer (some ⟨w.heap.size+1+1,0,none⟩),.pointer (some ⟨w.heap.size,0,none⟩),.pointer (some ⟨w.heap.size+1,0,none⟩)]) (by simp) (by simp[go_sem]) ?_;refine (Xe _ _ _ _).mono ?_;rintro e Y Z ⟨rfl,rfl,rfl⟩;have o0:=m.o.x.load (P:=prog) (k:=8) rfl;have j:=m.o.e.cell 0;have m0:=jW.yes (o:=eZ l) (p:=p) (by rw[l0.o,b0.o]) j0.o m.o.b;simp only[aG]at j;simp[Leaves,settle,results,results143,go_sem,o0,j,m0]
  .have g0:((D:Int)==0)=false:=by simpa using M
   have H:=kp (show eZ l=none by
    rw[Ds,S.o]
    cases r with
    |nil=>exact absurd R.o.symm M
    |cons a r=>rfl)
   go_wp2_with fail;refine (HF.o _).mono ?_;rintro e w8 ⟨rfl,rfl⟩;refine leaves_cons (f:=191) (args:=#[.pointer (some ⟨w.heap.size+1+1,0,none⟩),.pointer (some ⟨w.heap.size,0,none⟩),.pointer (some ⟨w.heap.size+1,0,none⟩)]) (by simp) (by simp[go_sem]) ?_;refine (Ln _ _ _ _ 0 _ _ [] _ d.o.n d.o.x d.o.e rfl (by omega)).mono ?_;rintro e Y Z ⟨rfl,rfl,rfl⟩;have m:=(d.o.put z'1).err 60;have C:=m.x.load (P:=prog) (k:=8) rfl;have j:=m.e.cell 0;have G:=jW.no H.o m.b;simp only[aG]at j;simp[Leaves,settle,results,results143,go_sem,C,j,G]
theorem Xg(A:Option Addr)(n c B:Nat)(l:List UInt8)(w:World)(I:Rd w B A (bv l))(j:B≤w.heap.size)(F:l.length=n)(E:n≤c)(G:c≤maxLen):
  Calls prog 87 #[.slice A n c] w (jW w (eZ l)):=by
 have d:=ba' w (.cells z'1a 29);have K:=Blk.new w 29 z'1;have z:=kp (Xf A n c B l _ (I.below d j) (aB j d.size) F E G);have b:=k'2 d K;go_enter func87,ntmps87;go_wp2_with fail;refine (z.o).mono ?_;rintro e J ⟨p,ps,rfl,H,g,m⟩;obtain⟨f,q⟩:∃f:Int,(if (eZ l).isSome=true then (0:Int) else 60)=f:=⟨_,rfl⟩
 rw[q];have s:=kp q;have h:=b.B.below m b.B.lt;have L:=h.store (P:=prog) (cs':=p.cells) rfl (HpV.one g.obs.one g.free.sl.one);have r:=kp (cL (b.a.on m) (aD _) p.cells.toArray);have y:=kp ((g.mono (base2:=w.heap.size) (by simp)).chg h ((Chg.refl (fun i=>i=w.heap.size) J).setRow (.inr rfl) p.cells.toArray) (by decide) (by decide) (by decide));have C:=kp (h.set p.cells);have x:=kp H;go_wp2_with fail;have D:=C.o.load (P:=prog) (k:=8) rfl;exact aU (v:=.tuple #[.agg p.cells.toArray,.i f]) (by simp[results,results87,go_sem,D]) rfl ⟨p,ps,by rw[s.o],x.o,y.o,r.o⟩
end
section
theorem Xh(a b c d e f g:Bool):(a=false∧(a&&(b&&(c&&(d&&(e&&(f&&g))))))=false)∨(a=true∧b=false∧(a&&(b&&(c&&(d&&(e&&(f&&g))))))=false)∨(a=true∧b=true∧c=false∧(a&&(b&&(c&&(d&&(e&&(f&&g))))))=false)∨(a=true∧b=true∧c=true∧d=false∧(a&&(b&&(c&&(d&&(e&&(f&&g))))))=false)∨(a=true∧b=true∧c=true∧d=true∧e=false∧(a&&(b&&(c&&(d&&(e&&(f&&g))))))=false)∨(a=true∧b=true∧c=true∧d=true∧e=true∧f=false∧(a&&(b&&(c&&(d&&(e&&(f&&g))))))=false)∨(a=true∧b=true∧c=true∧d=true∧e=true∧f=true∧g=false∧(a&&(b&&(c&&(d&&(e&&(f&&g))))))=false)∨(a=true∧b=true∧c=true∧d=true∧e=true∧f=true∧g=true∧(a&&(b&&(c&&(d&&(e&&(f&&g))))))=true):=by
 cases a<;>cases b<;>cases c<;>cases d<;>cases e<;>cases f<;>cases g<;>simp
def iO(l:List Rw):Nat→Int
 |0=>0
 |k+1=>match l[k]? with |some r=>r.c|none=>0
theorem rX{l:List Rw}{k:Nat}{r:Rw}(h:l[k]? =some r):iO l (k+1)=r.c:=by
 show (match l[k]? with |some r=>r.c|none=>0)=r.c;rw[h]
theorem Lp(x:Int)(r:Rw)(l:List Rw):eP x (r::l)=((decide (x<r.c)&&decide (r.c≤4))&&(aF r.s 1 1000000&&(aF r.k 0 65535&&eP r.c l))):=rfl
theorem Xj{l:List Rw}{k:Nat}{r:Rw}{a R:Bool}{b:Int}(h:l[k]? =some r)(f:0≤if a then b else 0)(d:(a&&eP b (l.drop k))=R):
  ((a&&(decide (b<r.c)&&(decide (r.c≤4)&&(decide (1≤r.s)&&(decide (r.s≤1000000)&&(decide (0≤r.k)&&decide (r.k≤65535)))))))&&eP (iO l (k+1)) (l.drop (k+1)))=R∧
  ((a&&(decide (b<r.c)&&(decide (r.c≤4)&&(decide (1≤r.s)&&(decide (r.s≤1000000)&&(decide (0≤r.k)&&decide (r.k≤65535)))))))=true→0≤iO l (k+1)):=by
 obtain⟨g,i⟩:=iH.1 h;rw[rX h];rw[fG g,i,Lp]at d;refine⟨by rw[←d]; simp[aF,Bool.and_assoc],fun e=>?_⟩
 cases a
 .simp at e
 .simp only[if_true]at f;simp only[jF,bI,bP]at e;omega
theorem Lr(l:List Rw)(k:Nat)(a:l.length≤k)(x:Int):eP x (l.drop k)=true:=by rw[gS a]; rfl
theorem Dt(p:StV)(ps:List ObV)(B:Nat)(w:World)(h:fN w B p ps)(N:B≤w.heap.size)(hn:ps.length≤1000000)(hf:p.p.x.free.length≤900000)(hr:p.rows.length≤1000000):
  Calls prog 94 #[.agg p.cells.toArray] w fun e w'=>e=.returned (.i (eN 60 (stB p.x)))∧Bw' w w':=by
 obtain⟨R,O⟩:=nm' (stB p.x);rw[O];generalize d0:w.alloc (.cells p.cells.toArray 32)=D;have d:Blk D w.heap.size 32 p.cells:=d0▸Blk.new w 32 p.cells;have e1:Bw' w D:=d0▸ba' w _;have X:=kp e1;have Y:=kp d;have C:=k'2 (h.below e1 N) (aB N e1.size);obtain⟨n,F⟩:=nm' p.rows.length;obtain⟨A,c,U,-,-,-⟩:=h.2;have a0:=kp U;have K:=kp F;rw[F]at hr;have J:=kp (yD p.p ps B D C.a.1 C.B hn hf);obtain⟨a,Q⟩:=nm' (cO p.p.x);rw[Q]at J;have HR:=kp (show (a&&eP (iO p.rows 0) (p.rows.drop 0))=R by rw[←O,←Q]; rfl);have k0:=d.cell 0;have k1:=d.cell 1;have k2:=d.cell 2;have k3:=d.cell 3;have k4:=d.cell 4;have k5:=d.cell 5;have k6:=d.cell 6;have k7:=d.cell 7;have H:=d.cell 8;simp only[StV.cells,HpV.cells,aW,aT,aG,aK]at k0 k1 k2 k3 k4 k5 k6 k7 H;rw[U,F]at H;have o0:p.p.cells.toArray=#[.i p.p.x.order,p.p.ov,.i p.p.x.next,.i p.p.x.t0,.i p.p.x.t1,.i p.p.x.t2,.i p.p.x.t3,p.p.fv]:=rfl;rw[o0]at J;clear h U d e1 N F O Q hn hf o0;go_enter func94,ntmps94;go_wp2_with fail;refine mb' (J.o) fun w2 S=>?_;have z0:=kp S;have H:=(Y.o.below S Y.o.lt).cell 8;rw[StV.c8,a0.o,K.o]at H;have gq:(eN 1 a==0)=a:=by cases a<;>rfl
 clear S k0 k1 k2 k3 k4 k5 k6 k7;go_wp2_with fail
 go_loopw [3,4,14] (fun o l i wr=>∃(k:Nat)(m:Bool),k≤n∧o=.bool m∧i=.i k∧l=.i (iO p.rows k)∧0≤(if m then iO p.rows k else 0)∧(m&&eP (iO p.rows k) (p.rows.drop k))=R∧Bw' D wr) (fun _ _ i _=>n-(intOf i).toNat)
 case atStart=>exact⟨0,a,by omega,by first |rfl|rw[gq],rfl,rfl,by cases a<;>simp[iO],HR.o,z0.o⟩
 case round=>
  obtain⟨k,m,hk,rfl,rfl,rfl,j0,q0,T⟩:=hrel;have I:=kp T;have L:=kp q0;have Z:=kp j0;have y0:=C.a.2.below T C.B;clear T q0 j0 gq
  by_cases j1:k<n
  .have g3:(k:Int)<(n:Int):=by omega
   have z:k<p.rows.length:=by have:=K.o; omega
   obtain⟨A6,c6,V,p0,-,-⟩:=y0;rw[a0.o]at V;obtain⟨rfl,-,rfl⟩:=Value.slice.inj V;obtain⟨b,l1,rfl,-,y,-⟩:=bV (P:=prog) 4 fJ (by omega) p0 k z;have W:p.rows[k]? =some (p.rows[k]'z):=eK z;generalize p.rows[k]'z=x at *;have x0:=y 0 _ rfl;have x1:=y 1 _ rfl;have x2:=y 2 _ rfl;have x3:=y 3 _ rfl;simp only[cF]at x0;generalize e0:wr.alloc (.cells #[.i x.c,.i x.s,.i x.k,.i x.v] 117)=W5;have g0:Bw' wr W5:=e0▸ba' wr _;have G:Blk W5 wr.heap.size 117 x.cells:=e0▸Blk.new wr 117 x.cells;have s0:=G.cell 0;have s1:=G.cell 1;have s2:=G.cell 2;simp only[Rw.cells,aG,aK]at s0 s1 s2;have a1:=kp (I.o.on g0);obtain⟨lc,m0⟩:=nm' (iO p.rows k);rw[m0]at Z L ⊢;have g1:=kp (Xj W Z.o L.o);have HX:=kp W;clear V p0 y z g0 G;rcases Xh m (decide (lc<x.c)) (decide (x.c≤4)) (decide (1≤x.s)) (decide (x.s≤1000000)) (decide (0≤x.k)) (decide (x.k≤65535)) with⟨j,g⟩|⟨j,f,g⟩|⟨j,f,q,g⟩|⟨j,f,q,r,g⟩|⟨j,f,q,r,E,g⟩|⟨j,f,q,r,E,M,g⟩|⟨j,f,q,r,E,M,h6,g⟩|⟨j,f,q,r,E,M,h6,g⟩
   all_goals
    have l0:iO p.rows (k+1)=x.c:=rX HX.o;have b1:=kp g
    first |have H0:=kp j|skip
    first |have H1:=kp f|skip
    first |have H2:=kp q|skip
    first |have H3:=kp r|skip
    first |have H4:=kp E|skip
    first |have H5:=kp M|skip
    first |have H6:=kp h6|skip
    have d1:=kp l0;clear g l0 m0 W;go_wp2_with fail;go_roundw
    case rel=>
     refine⟨k+1,_,by omega,rfl,by go_num,by rw[d1.o],?_,?_,a1.o⟩
     all_goals
      have f:=g1.o;rw[b1.o]at f
      first |exact f.1|exact f.2 rfl|exact iQ 0
    case measure=>simp[intOf]; omega
  .obtain rfl:k=n:=by omega
   obtain rfl:m=R:=by
    have:=L.o;rw[Lr _ _ (by have:=K.o; omega)]at this;simpa using this
   clear y0
   cases m
   .go_wp2_with fail;go_ret;exact⟨rfl,X.o.on I.o⟩
   .go_wp2_with fail;go_ret;exact⟨rfl,X.o.on I.o⟩
end
section
attribute [-go_sem] loadCellsFrom storeCells
attribute [local go_sem] bC
theorem mD(s:ByteArray):s.data.toList.length=s.size:=hP
theorem oT(W:World)(s:ByteArray)(e:s.size≤maxLen):∃c W',Sem.run prog (convert 9 95 (.string s)) W=.ok (.slice (some ⟨W.heap.size,0,none⟩) s.size c) W'∧Bw' W W'∧Rd W' (W.heap.size+1) (some ⟨W.heap.size,0,none⟩) (bv s.data.toList)∧W.heap.size+1≤W'.heap.size∧s.size≤c∧c≤maxLen:=by
 refine⟨_,_,Lib.run_convert_string_bytes W _ _ 5 s oG aBP sX,?_,?_,?_,grownCap_ge _ _ _ _,grownCap_le_maxLen _ _ _ _ e⟩
 .refine⟨?_,?_,?_,by rw[Lib.bytesWorld_size]; omega,fun k d=>Lib.bytesWorld_at_old _ _ _ k d⟩
  .simp[Lib.bytesWorld,World.freeze];rfl
  .simp[Lib.bytesWorld,World.freeze]
  .simp[Lib.bytesWorld,World.freeze];rfl
 .refine .inr ⟨_,_,rfl,by omega,fun j u b=>?_⟩;have a:j<s.size:=by
   have:=(iH.1 b).1;rw[lB]at this
   rwa [mD]at this
  rw[hY,Lib.bytesWorld_cell _ _ _ _ a];rw[wU _ _ (by rw[mD]; exact a)]at b;rw[←b]
  congr 4
  rw[kK,eK (by rw[mD]; exact a)];rfl
 .rw[Lib.bytesWorld_size];exact aD _
theorem Xm(p:HpV)(w:World)(j:∀u∈p.cells,u.oneCell'=true):Calls prog 86 #[.agg p.cells.toArray,.i 0] w fun e n=>e=.returned (.agg p.cells.toArray)∧Bw' w n:=by
 have b:=ba' w (.cells p.cells.toArray 29);have c:=Blk.new w 29 p.cells;obtain⟨a,m⟩:=nm' (w.alloc (.cells p.cells.toArray 29));rw[m]at b c;have d:=ba' a (.cells z'1a 29);have f:=Blk.new a 29 z'1;have q:=(c.below d c.lt).load (P:=prog) (k:=8) rfl;have r:=f.store (P:=prog) (cs':=p.cells) rfl j;have i:=kp (f.set p.cells);have h:=kp (cL (b.on d) (g:=a.heap.size) b.size p.cells.toArray);go_enter func86,ntmps86;go_wp2_with fail;have l:=i.o.load (P:=prog) (k:=8) rfl;exact aU (v:=.agg p.cells.toArray) (by simp[results,results86,go_sem,l]) rfl ⟨rfl,h.o⟩
theorem Xn(p:HpV)(w:World):Calls prog 86 #[.agg p.cells.toArray,.i 60] w fun e c=>e=.panicked iD∧Bw' w c:=by
 have a:=ba' w (.cells p.cells.toArray 29);have b:=kp (a.alloc a.size (.cells z'1a 29));go_enter func86,ntmps86;go_wp2_with fail;exact⟨rfl,rfl,b.o⟩
def stP(l:List UInt8):Option (St×List UInt8):=
 if (dJ l).2.2=0 then
  match eZ (dJ l).1.data.toList with
  |none=>none
  |some h=>match bF (l.drop (dJ l).2.1) with
   |none=>none
   |some (n,r)=>if 4<n then none else
    match aZ rwP n.toNat r with
    |none=>none
    |some (rows,r2)=>if stB ⟨h,rows⟩=true then some (⟨h,rows⟩,r2) else none
 else none
theorem Du(l:List UInt8):dM l=match stP l with
  |some (s,[])=>some s
  |_=>none:=by
 unfold dM stP
 by_cases b:(dJ l).2.2=0
 .rw[aE b,aE b]
  cases eZ (dJ l).1.data.toList with
  |none=>rfl
  |some h=>
   cases bF (l.drop (dJ l).2.1) with
   |none=>rfl
   |some p=>
    obtain⟨n,r⟩:=p
    by_cases d:4<n
    .simp[d]
    .simp only[aC d]
     cases aZ rwP n.toNat r with
     |none=>rfl
     |some q=>
      obtain⟨f,e⟩:=q
      cases e with
      |nil=>by_cases c:stB ⟨h,f⟩=true<;>simp[c]
      |cons a e=>by_cases c:stB ⟨h,f⟩=true<;>simp[c]
 .rw[aC b,aC b]
theorem Ls{l:List UInt8}{h:Hp}(b:eZ l=some h):cO h=true:=by
 unfold eZ at b
 cases hp:hpP l with
 |none=>simp[hp]at b
 |some p=>
  obtain⟨x,r⟩:=p
  cases r with
  |cons a r=>simp[hp]at b
  |nil=>
   simp only[hp]at b
   by_cases c:cO x=true
   .rw[aE c]at b
    cases b;exact c
   .rw[aC c]at b
    cases b
def mE(w:World)(gi gr:Nat)(o:Option (St×List UInt8))(e:Ending)(w':World):Prop:=
 Chg (fun i=>i=gr) w w'∧match o with
  |some (s,r)=>∃p ps,e=.returned (.agg p.cells.toArray)∧p.x=s∧Sv w' w.heap.size p ps∧cK w' gi gr r
  |none=>e=.panicked iD
theorem mE.none{w b:World}{c a:Nat}{o:Option (St×List UInt8)}(e:o=none)(d:Chg (fun i=>i=a) w b):mE w c a o (.panicked iD) b:=by
 subst e;exact⟨d,rfl⟩
theorem mE.some{w a:World}{c b:Nat}{o:Option (St×List UInt8)}{r:List UInt8}{p:StV}{ps:List ObV}(g:o=some (p.x,r))(d:Chg (fun i=>i=b) w a)(e:Sv a w.heap.size p ps)(f:cK a c b r):mE w c b o (.returned (.agg p.cells.toArray)) a:=by
 subst g;exact⟨d,p,ps,rfl,rfl,e,f⟩
theorem Rs.all{w W:World}{b c:Nat}{t:TypeId}{l:List UInt8}{d e:List Value}(h:Rs w b c t l d e W)(a:List Value):Rs w b c t l d a (W.setRow (w.heap.size+1) a.toArray):=
 ⟨h.inn.at_ (cL (aL (w.heap.size+1) W) (aD _) _) (uF h.lti) (uF h.ltr),h.res.other (by omega) _,h.blk.set a,h.chg.setRow (.inl (by omega)) _,h.lti,h.ltr⟩
theorem Hv.few{w:World}{base:Nat}{p:HpV}{ps:List ObV}(h:Hv w base p ps)(a:cO p.x=true):ps.length≤256∧p.x.free.length≤256:=by
 have H:=eC.1 a;have b:=H.len;have c:ps.length=p.x.obs.length:=by rw[h.eq,cW]
 omega
theorem Xo{w:World}{N O:Nat}{l:List UInt8}(h:cK w N O l):Calls prog 85 #[.pointer (some ⟨N,0,none⟩)] w (mE w N O (stP l)):=by
 have y2:∀(fn:Fn)(first cap:Array Value)(w:World),(Instr.makeFunc fn first cap).run prog w=.ok (.func fn first cap) w:=fun _ _ _ _=>rfl;have A:=kp (Rs.new h 32 z'2);have HT:=kp rO;have HF:=kp rP;have g1:=kp We;have q0:=A.o.inn.blk.cell 0;simp only[aG]at q0;have L:=kp (Px O l _ A.o.inn.rd);go_enter func85,ntmps85
 by_cases j:(dJ l).2.2=0
 rotate_left
 .have f:=kp j;have d1:=kp (fun W=>Wg (dJ l).1 (dJ l).2.2 j W);go_wp2_with fail;refine (L.o).mono ?_;rintro e w2 ⟨rfl,h2,S⟩;have b1:=kp (oS S);go_wp2_with fail;refine (d1.o _).mono ?_;rintro e w3 ⟨rfl,rfl⟩;exact⟨rfl,mE.none (by unfold stP; rw[aC f.o]) (A.o.end_ b1.o)⟩
 have f:=kp j;rw[j]at L;have g0:=kp (Bq l f.o);obtain⟨s,hs⟩:=nm' ((dJ l).1);obtain⟨k,hk⟩:=nm' ((dJ l).2.1);rw[hs,hk]at L;rw[hs]at g0;have d:=k'2 hs hk;go_wp2_with fail;refine (L.o).mono ?_;rintro e w2 ⟨rfl,h2,S⟩;have K2:=kp (A.o.call (A.o.inn.step h2 (oS S)) (oS S));go_wp2_with fail;refine mb' (g1.o _ _) fun w' b0=>?_;obtain rfl:=b0.symm;obtain⟨c6,W6,p2,o1,b2,d2,z1,y1⟩:=oT w2 s (by have:=g0.a; unfold maxLen; omega);have Z:=kp (K2.o.grow o1);have I:=kp (Xg (some ⟨w2.heap.size,0,none⟩) s.size c6 _ s.data.toList W6 b2 d2 (mD s) z1 y1)
 cases hg:eZ s.data.toList with
 |none=>
  rw[hg]at I;have g:=kp hg;go_wp2_with fail;refine (I.o).mono ?_;rintro e w7 ⟨p,ps,rfl,-,-,a0⟩;have K7:=kp (Z.o.grow a0);go_wp2_with fail;refine mb' (Xn p _) fun w8 R=>?_;exact⟨rfl,mE.none (by unfold stP; rw[aE f.o,d.a,g.o]) (K7.o.chg.then R)⟩
 |some D=>
 rw[hg]at I;have g:=kp hg;go_wp2_with fail;refine (I.o).mono ?_;rintro e w7 ⟨p,ps,rfl,a2,d0,a0⟩;have K7:=kp (Z.o.grow a0);have X:=k'2 (d0.mono Z.o.chg.size) (HpV.one d0.obs.one d0.free.sl.one);have K:=kp (show p.x=D from a2);go_wp2_with fail;refine mb' (Xm p _ X.B) fun w8 R=>?_;have K8:=kp (K7.o.grow R);have l1:=kp (X.a.below R);have hS:=K8.o.blk.storeOff (P:=prog) 0 p.cells (by show 0+8≤9; omega) X.B;have C:=kp (K8.o.all (p.cells++[Value.slice none 0 0]));rw[show pY z'2 0 p.cells=p.cells++[Value.slice none 0 0] from rfl]at hS;have m1:=kp (l1.o.chg K8.o.blk ((Chg.refl (fun i=>i=w.heap.size+1) w8).setRow (.inr rfl) (p.cells++[Value.slice none 0 0]).toArray) (by decide) (by decide) (by decide));go_wp2_with fail
 cases hn:bF (l.drop k) with
 |none=>
  go_wp2_with fail;refine mb' (lL C.o.inn hn) fun o2 j=>?_;exact⟨rfl,mE.none (by unfold stP; rw[aE f.o,d.a,g.o,d.B]; simp only[]; rw[hn]) (C.o.end_ j)⟩
 |some l2=>
 obtain⟨z2,y0⟩:=l2;obtain⟨E,rfl,q2⟩:=rQ hn;have y:=kp hn;go_wp2_with fail;refine (iN C.o.inn y.o).mono ?_;rintro e o2 ⟨rfl,p1,m0⟩;have n:=kp (C.o.call p1 m0);obtain⟨vr,g2⟩:=C.o.inn.rd.rblk;have j1:=kp (m1.o.chg g2 m0 (by decide) (by decide) (by decide))
 by_cases l0:4<(E:Int)
 .have m:=kp l0;go_wp2_with fail;refine (Wp E 4 m.o _ _).mono ?_;rintro e F ⟨rfl,rfl⟩;exact⟨rfl,mE.none (by unfold stP; rw[aE f.o,d.a,g.o,d.B]; simp only[]; rw[y.o]; simp only[]; rw[aE m.o]) n.o.chg⟩
 have m:=kp l0;have J:=kp (yH.2 E 4 (by omega) (by omega) 92 rwP n.o.inn (fun _ _=>rfl) (fun W l h=>Wm h))
 cases hm:aZ rwP E y0 with
 |none=>
  rw[hm]at J;have q:=kp hm;go_wp2_with fail;refine (J.o).mono ?_;rintro e F ⟨j,rfl⟩;exact⟨rfl,mE.none (by unfold stP; rw[aE f.o,d.a,g.o,d.B]; simp only[]; rw[y.o]; simp only[]; rw[aC m.o,eR,q.o]) (n.o.end_ j)⟩
 |some m2=>
 obtain⟨b,e0⟩:=m2;rw[hm]at J;have q:=kp hm;go_wp2_with fail;refine (J.o).mono ?_;rintro e F ⟨o0,a3,rfl,p0,q1⟩;obtain⟨c,c11,rfl,-⟩:=eD p0;have z:=kp (n.o.call q1 o0);obtain⟨b3,j2⟩:=n.o.inn.rd.rblk;have e2:=j1.o.chg j2 o0 (by decide) (by decide) (by decide);have U:=kp (show Sv (F.setCell ⟨w.heap.size+1,8,none⟩ (.slice c b.length c11)) w.heap.size ⟨p,b,.slice c b.length c11⟩ ps from⟨e2.chg z.o.blk ((Chg.refl (fun i=>i=w.heap.size+1) F).setCell (.inr rfl) 8 _) (by decide) (by decide) (by decide),(p0.mono n.o.chg.size).blk_set z.o.blk (by decide) 8 _⟩);have g3:=(z.o.blk.cell 8).trans (show (p.cells++[Value.slice none 0 0])[8]? =some (.slice none 0 0) from rfl);have e3:=z.o.blk.frozen 8;have Y:=kp (show Rs w N O 32 e0 _ (StV.cells ⟨p,b,.slice c b.length c11⟩) (F.setCell ⟨w.heap.size+1,8,none⟩ (.slice c b.length c11)) from z.o.put 8 (.slice c b.length c11));have T:=k'2 (U.o.h.few (show cO p.x=true from by rw[K.o]; exact Ls g.o)) (qC (P:=fun _=>True) (fun _ _ _ _=>trivial) E y0 b e0 q.o).2;have hL:=Y.o.blk.load (P:=prog) (k:=9) rfl;have G:=kp (Dt ⟨p,b,.slice c b.length c11⟩ ps _ _ U.o.st (aD _) (by have:=T.a.1; omega) (aB (show p.x.free.length≤256 from T.a.2) (by omega)) (by have:=T.B; have:=m.o; show b.length≤_; omega))
 cases hst:stB ⟨D,b⟩ with
 |false=>
  have V:=kp hst;rw[show stB (StV.x ⟨p,b,.slice c b.length c11⟩)=false from by rw[show StV.x ⟨p,b,.slice c b.length c11⟩=⟨D,b⟩ from by show (⟨p.x,b⟩:St)=_; rw[K.o]]; exact hst]at G;go_wp2_with fail;refine mb' (G.o) fun z0 Q=>?_;rw[show eN 60 false=60 from rfl];have a1:=kp Q;go_wp2_with fail;refine (HF.o _).mono ?_;rintro e d3 ⟨rfl,rfl⟩;exact⟨rfl,mE.none (by unfold stP; rw[aE f.o,d.a,g.o,d.B]; simp only[]; rw[y.o]; simp only[]; rw[aC m.o,eR,q.o]; simp only[]; rw[aC (by rw[V.o]; decide)]) (Y.o.chg.then a1.o)⟩
 |true=>
  have V:=kp hst;rw[show stB (StV.x ⟨p,b,.slice c b.length c11⟩)=true from by rw[show StV.x ⟨p,b,.slice c b.length c11⟩=⟨D,b⟩ from by show (⟨p.x,b⟩:St)=_; rw[K.o]]; exact hst]at G;go_wp2_with fail;refine mb' (G.o) fun z0 Q=>?_;rw[show eN 60 true=0 from rfl];have M:=kp (Y.o.grow Q);have j0:=kp (U.o.below Q);go_wp2_with fail;refine mb' (HT.o _) fun w' b0=>?_;obtain rfl:=b0.symm;have hL:=M.o.blk.load (P:=prog) (k:=9) rfl;have hS:=M.o.res.store (P:=prog) (cs':=StV.cells ⟨p,b,.slice c b.length c11⟩) rfl (StV.one j0.o.st);have H:=k'2 (M.o.fin (StV.cells ⟨p,b,.slice c b.length c11⟩)) (j0.o.chg M.o.res ((Chg.refl (fun i=>i=w.heap.size) z0).setRow (.inr rfl) (StV.cells ⟨p,b,.slice c b.length c11⟩).toArray) (by decide) (by decide) (by decide) (by decide));go_wp2_with fail;have hR:=H.a.1.load (P:=prog) (k:=9) rfl;exact aU (v:=.agg (StV.cells ⟨p,b,.slice c b.length c11⟩).toArray) (by simp[results,results85,go_sem,hR]) rfl (mE.some (p:=⟨p,b,.slice c b.length c11⟩) (r:=e0) (by unfold stP; rw[aE f.o,d.a,g.o,d.B]; simp only[]; rw[y.o]; simp only[]; rw[aC m.o,eR,q.o]; simp only[]; rw[aE V.o,show StV.x ⟨p,b,.slice c b.length c11⟩=⟨D,b⟩ from by show (⟨p.x,b⟩:St)=_; rw[K.o]]) H.a.2.2 H.B H.a.2.1)
end
section
attribute [-go_sem] loadCellsFrom storeCells
attribute [local go_sem] bC
def kF:St:=⟨lI,[]⟩
theorem Sv.no(w:World)(base:Nat):Sv w base ⟨⟨lI,.slice none 0 0,.slice none 0 0⟩,[],.slice none 0 0⟩ []:=⟨Hv.no _ _,Ow.nil _ _ _ _ _⟩
theorem rY:∀u∈(z'2:List Value),u.oneCell'=true:=StV.one (p:=⟨⟨lI,.slice none 0 0,.slice none 0 0⟩,[],.slice none 0 0⟩) (Sv.no default 0).st
theorem Lt(d b a:Nat)(xs:List Value)(c:Int)(u:TypeId)(h:Value)(g:List PanicEntry)(w:World)(o:Blk w d 32 z'2)(r:Blk w b 32 xs)(m:Blk w a 44 [.i c])(n:xs.length=9)(p:a≠b):
  CallsD prog 140 #[.pointer (some ⟨d,0,none⟩),.pointer (some ⟨b,0,none⟩),.pointer (some ⟨a,0,none⟩)] (.panicking ({v:=.iface u h,recovered:=false}::g)) w fun e s x=>
   e=.returned (.tuple #[])∧s=.panicking ({v:=.iface u h,recovered:=true}::g)∧x=(w.setRow b z'2a).setCell ⟨a,0,none⟩ (.i 60):=by
 have j:=o.load (P:=prog) (k:=9) rfl;have l:=r.store (P:=prog) (cs':=z'2) (by rw[n]; rfl) rY;have f:=m.other p (List.toArray z'2);have c2:=f.cell 0;have i:=f.frozen 0;simp only[aG]at c2;refine callsD_of_wpS func140 rfl fun z y q=>?_;apply wpS_seq;apply wpS_region;simp[wpOpsS,go_sem,recoverD,q,ntmps140,Exit.thenS];apply wpS_seq;apply wpS_region;simp[wpOpsS,go_sem,Exit.thenS];refine wpS_cond (t:=true) (by simp[Act.eval,Array.replicate]) ?_;simp only[if_true];apply wpS_region;simp[wpOpsS,go_sem,j,l,c2,i,bodyPostS,results,results140]
theorem Xp(a b c:Value)(w:World):
  CallsD prog 140 #[a,b,c] .returning w fun e g h=>e=.returned (.tuple #[])∧g=.returning∧h=w:=by
 refine callsD_of_wpS func140 rfl fun d i f=>?_;apply wpS_seq;apply wpS_region;simp[wpOpsS,go_sem,recoverD,f,ntmps140,Exit.thenS];apply wpS_seq;apply wpS_region;simp[wpOpsS,go_sem,Exit.thenS];refine wpS_cond (t:=false) (by simp[Act.eval,Array.replicate]) ?_;simp only[qO,if_false];refine wpS_of_wp (wp_skip ?_)
 cases d
 simp_all [bodyPostS,results,results140]
def jN(w:World)(o:Option St)(e:Ending)(w':World):Prop:=
 ∃p ps,e=.returned (.tuple #[.agg p.cells.toArray,.i (if o.isSome then 0 else 60)])∧p.x=o.getD kF∧Sv w' w.heap.size p ps∧Bw' w w'
structure WhS(w:World)(xs:List Value)(c:Int)(W:World):Prop where
 x:Blk W w.heap.size 32 xs
 e:Blk W (w.heap.size+1) 44 [.i c]
 n:Blk W (w.heap.size+1+1) 32 z'2
 b:Bw' w W
section
variable {w W W':World}{xs:List Value}{c:Int}
theorem WhS.new(w:World):WhS w z'2 0 (((w.alloc (.cells z'2a 32)).alloc (.cells #[.i 0] 44)).alloc (.cells z'2a 32)):=by
 have a:=ba' w (.cells z'2a 32);have b:=Blk.new w 32 z'2;have c:=Blk.new (w.alloc (.cells z'2a 32)) 44 [.i 0];have d:=Blk.new ((w.alloc (.cells z'2a 32)).alloc (.cells #[.i 0] 44)) 32 z'2;exact⟨(b.alloc _).alloc _,(by simpa using c.alloc _),(by simpa using d),((a.alloc (by simp) _).alloc (by simp; omega) _)⟩
theorem WhS.grow(h:WhS w xs c W)(a:Bw' W W'):WhS w xs c W':=⟨h.x.below a h.x.lt,h.e.below a h.e.lt,h.n.below a h.n.lt,h.b.on a⟩
theorem WhS.chg{g:Nat}(h:WhS w xs c W)(a:Chg (fun i=>i=g) W W')(d:w.heap.size+1+1<g):WhS w xs c W':=⟨h.x.chg a (by omega),h.e.chg a (by omega),h.n.chg a (by omega),h.b.trans (a.below (fun i f=>by omega) h.b.size)⟩
theorem WhS.put(h:WhS w xs c W)(a:List Value):WhS w a c (W.setRow w.heap.size a.toArray):=⟨h.x.set a,h.e.other (by omega) _,h.n.other (by omega) _,cL h.b (aD _) _⟩
theorem WhS.err(h:WhS w xs c W)(d:Int):WhS w xs d (W.setCell ⟨w.heap.size+1,0,none⟩ (.i d)):=⟨h.x.otherCell (by omega) _ _,h.e.setCell 0 _,h.n.otherCell (by omega) _ _,h.b.setCell (p:=⟨w.heap.size+1,0,none⟩) (by simp only; omega) _⟩
end
theorem jN.no{w a:World}{o:Option St}(c:o=none)(b:Bw' w a):jN w o (.returned (.tuple #[.agg z'2a,.i 60])) a:=by
 subst c;exact⟨⟨⟨lI,.slice none 0 0,.slice none 0 0⟩,[],.slice none 0 0⟩,[],rfl,rfl,Sv.no _ _,b⟩
theorem jN.yes{w a:World}{o:Option St}{p:StV}{ps:List ObV}(c:o=some p.x)(d:Sv a w.heap.size p ps)(b:Bw' w a):jN w o (.returned (.tuple #[.agg p.cells.toArray,.i 0])) a:=by
 subst c;exact⟨p,ps,rfl,rfl,d,b⟩
theorem Xq(A:Option Addr)(n c B:Nat)(l:List UInt8)(w:World)(hr:Rd w B A (bv l))(V:B≤w.heap.size)(hl:l.length=n)(hc:n≤c)(hm:c≤maxLen):
  Calls prog 84 #[.slice A n c,.func (.func 85) #[] #[]] w (jN w (dM l)):=by
 have l1:∀(U:Fn)(first cap:Array Value)(w:World),(Instr.makeFunc U first cap).run prog w=.ok (.func U first cap) w:=fun _ _ _ _=>rfl;have HT:=kp rO;have HF:=kp rP;have y:=kp (WhS.new w);have HR:=kp (Ga A n c l _ (((hr.below y.o.b V).more (aB V y.o.b.size))) hl hc hm)
 go_enter_defers func84,ntmps84
 go_wp2_with fail;refine (HR.o).mono ?_;rintro e q ⟨g,rfl,y0,K,p0⟩;have K4:=kp (y.o.grow p0);have F:=kp (show w.heap.size+1+1<g from eA y.o.n.lt y0);have S:=ba' q (.cells #[.pointer (some ⟨g,0,none⟩)] 139);have n5:=Blk.new q 139 [.pointer (some ⟨g,0,none⟩)];have I:=kp (K4.o.grow S);have HI:=kp (show cK (q.alloc (.cells #[.pointer (some ⟨g,0,none⟩)] 139)) q.heap.size g l from⟨n5,K.below S,by have:=K.lt; omega⟩);have s:=kp (Xo HI.o);have a0:=kp (show g<q.heap.size from K.lt)
 cases hp:stP l with
 |none=>
  rw[hp]at s;have H:=kp (show dM l=none by rw[Du,hp]);go_wp2_with fail;refine (s.o).mono ?_;rintro e E ⟨J,rfl⟩;have h:=kp (I.o.chg J F.o);refine leaves_cons (f:=140) (args:=#[.pointer (some ⟨w.heap.size+1+1,0,none⟩),.pointer (some ⟨w.heap.size,0,none⟩),.pointer (some ⟨w.heap.size+1,0,none⟩)]) (by simp) (by simp[go_sem]) ?_;refine (Lt _ _ _ _ 0 _ _ [] _ h.o.n h.o.x h.o.e rfl (by omega)).mono ?_;rintro e Y Z ⟨rfl,rfl,rfl⟩;have d:=(h.o.put z'2).err 60;have C:=d.x.load (P:=prog) (k:=9) rfl;have j:=d.e.cell 0;have G:=jN.no H.o d.b;simp only[aG]at j;simp[Leaves,settle,results,results84,go_sem,C,j,G]
 |some p=>
  obtain⟨hh,r⟩:=p;rw[hp]at s;have Q:=kp hp;go_wp2_with fail;refine (s.o).mono ?_;rintro e E ⟨J,p,ps,rfl,d1,X,W⟩;have h:=kp (I.o.chg J F.o);have hS:=h.o.x.store (P:=prog) (cs':=p.cells) rfl (StV.one X.st);have d:=kp (h.o.put p.cells);obtain⟨N,D,T,z0,-,b1,-,-⟩:=W.rd;have a1:=I.o.b;have g1:=F.o;have j1:=a0.o;have d0:=kp ((show Blk E g 200 [.slice N D T] from z0).other (g':=w.heap.size) (by omega) p.cells.toArray);have q0:=(W.blk.other (g':=w.heap.size) (by omega) p.cells.toArray).cell 0;simp only[aG]at q0;have O:=kp b1;have R:=kp ((X.mono a1.size).chg h.o.x ((Chg.refl (fun i=>i=w.heap.size) E).setRow (.inr rfl) p.cells.toArray) (by decide) (by decide) (by decide) (by decide));have b0:=kp d1;go_wp2_with fail;generalize E.setRow w.heap.size p.cells.toArray=W7 at *;go_wp2_with fail;refine mb' (Lo g N D T _ d0.o) fun w' M=>?_;obtain rfl:=M.symm
  by_cases L:D=0
  .subst L;obtain rfl:r=[]:=hJ O.o;have l0:=kp (show dM l=some hh by rw[Du,Q.o]);go_wp2_with fail;refine mb' (HT.o _) fun w' M=>?_;obtain rfl:=M.symm;have C:=d.o.x.load (P:=prog) (k:=9) rfl;have hS:=d.o.x.store (P:=prog) (cs':=p.cells) rfl (StV.one R.o.st);have z:=kp (d.o.put p.cells);have e0:=kp (R.o.chg d.o.x ((Chg.refl (fun i=>i=w.heap.size) W7).setRow (.inr rfl) p.cells.toArray) (by decide) (by decide) (by decide) (by decide));have z8:=z.o.e.cell 0;have y8:=z.o.e.frozen 0;simp only[aG]at z8;have m:=kp (z.o.err 0);have j0:=kp (e0.o.chg z.o.e ((Chg.refl (fun i=>i=w.heap.size+1) _).setCell (.inr rfl) 0 (.i 0)) (by decide) (by decide) (by decide) (by decide));go_wp2_with fail;refine leaves_cons (f:=140) (args:=#[.pointer (some ⟨w.heap.size+1+1,0,none⟩),.pointer (some ⟨w.heap.size,0,none⟩),.pointer (some ⟨w.heap.size+1,0,none⟩)]) (by simp) (by simp[go_sem]) ?_;refine (Xp _ _ _ _).mono ?_;rintro e Y Z ⟨rfl,rfl,rfl⟩;have o0:=m.o.x.load (P:=prog) (k:=9) rfl;have j:=m.o.e.cell 0;have m0:=jN.yes (o:=dM l) (p:=p) (by rw[l0.o,b0.o]) j0.o m.o.b;simp only[aG]at j;simp[Leaves,settle,results,results84,go_sem,o0,j,m0]
  .have g0:((D:Int)==0)=false:=by simpa using L
   have H:=kp (show dM l=none by
    rw[Du,Q.o]
    cases r with
    |nil=>exact absurd O.o.symm L
    |cons a r=>rfl)
   go_wp2_with fail;refine (HF.o _).mono ?_;rintro e w8 ⟨rfl,rfl⟩;refine leaves_cons (f:=140) (args:=#[.pointer (some ⟨w.heap.size+1+1,0,none⟩),.pointer (some ⟨w.heap.size,0,none⟩),.pointer (some ⟨w.heap.size+1,0,none⟩)]) (by simp) (by simp[go_sem]) ?_;refine (Lt _ _ _ _ 0 _ _ [] _ d.o.n d.o.x d.o.e rfl (by omega)).mono ?_;rintro e Y Z ⟨rfl,rfl,rfl⟩;have m:=(d.o.put z'2).err 60;have C:=m.x.load (P:=prog) (k:=9) rfl;have j:=m.e.cell 0;have G:=jN.no H.o m.b;simp only[aG]at j;simp[Leaves,settle,results,results84,go_sem,C,j,G]
theorem yT(A:Option Addr)(n c B:Nat)(l:List UInt8)(w:World)(I:Rd w B A (bv l))(h:B≤w.heap.size)(F:l.length=n)(E:n≤c)(G:c≤maxLen):
  Calls prog 47 #[.slice A n c] w (jN w (dM l)):=by
 have d:=ba' w (.cells z'2a 32);have K:=Blk.new w 32 z'2;have z:=kp (Xq A n c B l _ (I.below d h) (aB h d.size) F E G);have b:=k'2 d K;go_enter func47,ntmps47;go_wp2_with fail;refine (z.o).mono ?_;rintro e J ⟨p,ps,rfl,H,q,j⟩;obtain⟨f,m⟩:∃f:Int,(if (dM l).isSome=true then (0:Int) else 60)=f:=⟨_,rfl⟩
 rw[m];have s:=kp m;have g:=b.B.below j b.B.lt;have L:=g.store (P:=prog) (cs':=p.cells) rfl (StV.one q.st);have r:=kp (cL (b.a.on j) (aD _) p.cells.toArray);have y:=kp ((q.mono (base2:=w.heap.size) (by simp)).chg g ((Chg.refl (fun i=>i=w.heap.size) J).setRow (.inr rfl) p.cells.toArray) (by decide) (by decide) (by decide) (by decide));have C:=kp (g.set p.cells);have x:=kp H;go_wp2_with fail;have D:=C.o.load (P:=prog) (k:=9) rfl;exact aU (v:=.tuple #[.agg p.cells.toArray,.i f]) (by simp[results,results47,go_sem,D]) rfl ⟨p,ps,by rw[s.o],x.o,y.o,r.o⟩
end
end Go.Proofs.YthalbagblhkeaaaGreat
