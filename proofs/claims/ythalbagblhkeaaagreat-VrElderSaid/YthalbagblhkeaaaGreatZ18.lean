import Derived.Test.YthalbagblhkeaaaGreatZ03
import Derived.Test.YthalbagblhkeaaaGreatZ13
import Derived.Test.YthalbagblhkeaaaGreatZ17
import Derived.Recover
namespace Go.Proofs.YthalbagblhkeaaaGreat
open Go.RowKit Go.Proofs.Tryz
set_option maxRecDepth 100000
set_option maxHeartbeats 12800000
set_option linter.unusedVariables false
set_option linter.unusedSimpArgs false
section
attribute [-go_sem] run_eql_struct run_neq_struct
theorem La(a b:Pt)(w:World):Sem.run prog (binOp .eql 37 (.agg a.cells.toArray) (.agg b.cells.toArray)) w=.ok (.bool (decide (a=b))) w:=by
 obtain⟨n,o,p,q,f⟩:=a;obtain⟨r,s,x,y,g⟩:=b;simp only[Pt.cells,Pt.mk.injEq];have l:prog.underlying 37=some (.struct (prog.fieldsOf 37)):=by kernel_rfl
 have m:prog.stoodInHeld 37=false:=by kernel_rfl
 rw[run_eql_struct,show (10000:Nat)=9999+1 from rfl,run_equalIn_agg w 9999 _ _ _ l m];simp only[Program.fieldsOf,underlying37]
 go_simp
 by_cases c:n=r
 case neg=>simp[c]
 by_cases d:o=s
 case neg=>simp[c,d]
 by_cases e:p=x
 case neg=>simp[c,d,e]
 by_cases i:q=y
 case neg=>simp[c,d,e,i]
 have j:f=g↔f.toList=g.toList:=⟨fun h=>h▸rfl,fun h=>by rw[ByteArray.toList_eq,ByteArray.toList_eq]at h; exact ByteArray.ext (Array.ext' h)⟩
 by_cases k:f.toList=g.toList<;>simp[c,d,e,i,j,k]
theorem Vz{t:TypeId}{a b:Array Value}{w:World}{r:Bool}(h:Sem.run prog (binOp .eql t (.agg a) (.agg b)) w=.ok (.bool r) w):Sem.run prog (binOp .neq t (.agg a) (.agg b)) w=.ok (.bool (!r)) w:=by
 simp only[binOp,Sem.run_bind]at h ⊢
 revert h
 cases (Op.equal t (.agg a) (.agg b)).run prog w with
 |ok x c=>intro h; simp[Result.andThen]at h ⊢; simp[h]
 |halt x c=>intro h; simp[Result.andThen]at h
theorem Wc(a b:Pt)(w:World):Sem.run prog (binOp .neq 37 (.agg a.cells.toArray) (.agg b.cells.toArray)) w=.ok (.bool (!decide (a=b))) w:=Vz (La a b w)
attribute [-go_sem] loadCellsFrom storeCells
attribute [local go_sem] bC
theorem Wd(w:World):(Instr.build 37 #[]).run prog w=.ok (.agg jL.cells.toArray) w:=run_build w _ _ _ (by kernel_rfl)
attribute [-go_sem] Instr.build Instr.fill
attribute [go_sem] Wd
theorem aC3(p:RpV)(w:World)(X:inR p.nodes):Calls prog 26 #[.agg p.cells.toArray] w fun e m=>e=.returned (.bool (tL p.x))∧Bw' w m:=by
 obtain⟨Q,a0,s,R,-⟩:=par w 39 p.cells;obtain⟨W2,b0,s2,K,q,-⟩:=fB Q 37 [.i 0,.i 0,.i 0,.i 0,.string ⟨#[]⟩] p.part.cells rfl (Dh p.part);have l1:=s.loadOff (P:=prog) 21 5 p.part.cells rfl rfl;have l2:=K.load (P:=prog) (k:=5) rfl;have l3:=(s.grow q).load (P:=prog) (k:=26) rfl;have l:=k'3 (s.grow q) K (R.on q);have U:=La p.part jL;have B:=kp (fun W=>Dj p W X);obtain⟨z,J⟩:=nm' (decide (p.part=jL));obtain⟨a,D⟩:=nm' (gM p.x);obtain⟨b,T⟩:=nm' (decide (p.k.view<p.part.view));obtain⟨c,E⟩:=nm' (aF p.part.src 1 p.nodes);obtain⟨d,F⟩:=nm' (decide (p.part.src=p.id));obtain⟨f,G⟩:=nm' (aF p.part.view p.k.view 800000000);obtain⟨g,H⟩:=nm' (aF p.part.number 1 800000000);obtain⟨h,I⟩:=nm' (aF p.part.total 1 65536);obtain⟨i,V⟩:=nm' (decide ((p.part.data.size:Int)≤p.part.total));have S:tL p.x=(z||((!a||b)&&(c&&(!d&&(f&&(g&&(h&&i))))))):=by rw[←J,←D,←T,←E,←F,←G,←H,←I,←V]; rfl
 rw[S];rw[J]at U;have d0:(p.part.src != p.id)= !d:=by rw[←F]; by_cases e:p.part.src=p.id<;>simp[e]
 have L:=kp (fun W=>E▸oK.1 p.part.src 1 p.nodes W);have M:=kp (fun W=>G▸oK.1 p.part.view p.k.view 800000000 W);have N:=kp (fun W=>H▸oK.1 p.part.number 1 800000000 W);have O:=kp (fun W=>I▸oK.1 p.part.total 1 65536 W);rw[D]at B;go_enter func26,ntmps26
 cases z
 case true=>
  go_wp2_with fail;go_ret;exact⟨rfl,l.C⟩
 go_wp2_with fail;refine mb' (B.o _) fun w3 r=>?_;have A:=kp (l.C.on r);have y:=l.a.below r l.a.lt;have n:=l.b.below r l.b.lt;have k0:=y.cell 0;have k1:=y.cell 1;have k2:=y.cell 2;rw[RpV.c0]at k0;rw[RpV.c1]at k1;rw[RpV.c2]at k2;have Y:=n.cell 0;have Z:=n.cell 1;have j2:=n.cell 2;have j3:=n.cell 3;have j4:=n.cell 4;change _=some (Value.i p.part.src)at Y;change _=some (Value.i p.part.view)at Z;change _=some (Value.i p.part.number)at j2;change _=some (Value.i p.part.total)at j3;change _=some (Value.string p.part.data)at j4
 cases a<;>cases b
 case true.false=>
  go_wp2_with fail;go_ret;exact⟨rfl,A.o⟩
 all_goals
  go_wp2_with fail;refine mb' (L.o _) fun m j=>?_;obtain rfl:=j.symm
  cases c
  case' true=>
   cases d
   case' false=>
    go_wp2_with fail;refine mb' (M.o _) fun m j=>?_;obtain rfl:=j.symm
    cases f
    case' true=>
     go_wp2_with fail;refine mb' (N.o _) fun m j=>?_;obtain rfl:=j.symm
     cases g
     case' true=>
      go_wp2_with fail;refine mb' (O.o _) fun m j=>?_;obtain rfl:=j.symm
      cases h
 all_goals
  go_wp2_with fail;go_ret;exact⟨rfl,A.o⟩
end
section
def iD:List PanicEntry:=[{v:=.iface 194 (.agg #[]),recovered:=false}]
theorem rO(w:World):Calls prog 93 #[.bool true] w fun e w'=>e=.returned (.tuple #[])∧w'=w:=by
 go_enter func93,ntmps93;go_wp2_with fail;go_end0;exact⟨rfl,rfl⟩
theorem rP(w:World):Calls prog 93 #[.bool false] w fun e w'=>e=.panicked iD∧w'=w:=by
 go_enter func93,ntmps93;go_wp2_with fail;exact⟨rfl,rfl,rfl⟩
theorem Lc(n:Int)(w:World):Calls prog 147 #[.i n,.i 0] w fun e w'=>e=.returned (.i n)∧w'=w:=by
 go_enter func147,ntmps147;go_wp2_with fail;go_ret;exact⟨rfl,rfl⟩
theorem Ld(n c:Int)(a:c≠0)(w:World):Calls prog 147 #[.i n,.i c] w fun e w'=>e=.panicked iD∧w'=w:=by
 have g:(c != 0)=true:=by simp[a]
 go_enter func147,ntmps147;go_wp2_with fail;exact⟨rfl,rfl,rfl⟩
theorem We(n:ByteArray)(w:World):Calls prog 88 #[.string n,.i 0] w fun e w'=>e=.returned (.string n)∧w'=w:=by
 go_enter func88,ntmps88;go_wp2_with fail;go_ret;exact⟨rfl,rfl⟩
theorem Wg(n:ByteArray)(c:Int)(a:c≠0)(w:World):Calls prog 88 #[.string n,.i c] w fun e w'=>e=.panicked iD∧w'=w:=by
 have g:(c != 0)=true:=by simp[a]
 go_enter func88,ntmps88;go_wp2_with fail;exact⟨rfl,rfl,rfl⟩
structure cK(w:World)(gi gr:Nat)(l:List UInt8):Prop where
 blk:Blk w gi 139 [.pointer (some ⟨gr,0,none⟩)]
 rd:fO w gr l
 ne:gi≠gr
section
variable {w w':World}{gi gr:Nat}{l:List UInt8}
theorem cK.below(h:cK w gi gr l)(a:Bw' w w'):cK w' gi gr l:=⟨h.blk.below a h.blk.lt,h.rd.below a,h.ne⟩
theorem fO.rblk(h:fO w gr l):∃v,Blk w gr 200 [v]:=by obtain⟨A,n,c,h,-⟩:=h; exact⟨_,h⟩
theorem cK.tag(h:cK w gi gr l){i:Nat}{t:TypeId}{a:List Value}(b:Blk w i t a)(c:t≠200):i≠gr:=by
 obtain⟨v,d⟩:=h.rd.rblk;exact b.ne d c
theorem cK.step{l':List UInt8}(h:cK w gi gr l)(b:fO w' gr l')(a:Chg (fun i=>i=gr) w w'):cK w' gi gr l':=⟨h.blk.chg a h.ne,b,h.ne⟩
theorem oS{w w':World}{g:Nat}(h:w.grownBy w' (some g)):Chg (fun i=>i=g) w w':=⟨h.os,h.tape,h.output,h.size,fun k a b=>h.block k a fun e=>b (by cases e; rfl)⟩
end
theorem iN{w:World}{gi gr:Nat}{l r:List UInt8}{n:Int}(h:cK w gi gr l)(b:bF l=some (n,r)):
  Calls prog 91 #[.pointer (some ⟨gi,0,none⟩)] w fun e w'=>e=.returned (.i n)∧cK w' gi gr r∧Chg (fun i=>i=gr) w w':=by
 unfold bF at b
 by_cases c:(num l).2.2=0
 rotate_left
 .rw[aC c]at b; cases b
 rw[aE c]at b;obtain⟨q,s⟩:(num l).1=n∧l.drop 4=r:=by cases b; exact⟨rfl,rfl⟩
 have p:(num l).2.1=4:=(uV l c).1;have g:=kp (by have:=Ge gr l w h.rd; rw[c,q,p,s]at this; exact this);have y:=h.blk.cell 0;simp only[aG]at y;have k:=kp h;have j:=kp (Lc n);go_enter func91,ntmps91;go_wp2_with fail;refine (g.o).mono ?_;rintro e z ⟨rfl,m,f⟩;have d:=k'2 (k.o.step m (oS f)) (oS f);go_wp2_with fail;refine mb' (j.o _) fun w' x=>?_;obtain rfl:=x.symm;go_wp2_with fail;go_ret;exact⟨rfl,d.a,d.B⟩
theorem lL{w:World}{gi gr:Nat}{l:List UInt8}(h:cK w gi gr l)(a:bF l=none):
  Calls prog 91 #[.pointer (some ⟨gi,0,none⟩)] w fun e w'=>e=.panicked iD∧Chg (fun i=>i=gr) w w':=by
 unfold bF at a
 by_cases b:(num l).2.2=0
 .rw[aE b]at a; cases a
 have d:=kp (Ge gr l w h.rd);have j:=h.blk.cell 0;simp only[aG]at j;have f:=kp (fun W=>Ld (num l).1 (num l).2.2 b W);go_enter func91,ntmps91;go_wp2_with fail;refine (d.o).mono ?_;rintro e m ⟨rfl,k,g⟩;have c:=kp (oS g);go_wp2_with fail;refine (f.o _).mono ?_;rintro e n ⟨rfl,rfl⟩;exact⟨rfl,rfl,c.o⟩
theorem Le{w:World}{gi gr:Nat}{l r:List UInt8}{n:Int}(h:cK w gi gr l)(b:eY l=some (n,r)):
  Calls prog 149 #[.pointer (some ⟨gi,0,none⟩)] w fun e w'=>e=.returned (.i n)∧cK w' gi gr r∧Chg (fun i=>i=gr) w w':=by
 unfold eY at b
 by_cases c:(aA l).2.2=0
 rotate_left
 .rw[aC c]at b; cases b
 rw[aE c]at b;obtain⟨q,s⟩:(aA l).1=n∧l.drop 8=r:=by cases b; exact⟨rfl,rfl⟩
 have p:(aA l).2.1=8:=(Bp l c).1;have g:=kp (by have:=Gf gr l w h.rd; rw[c,q,p,s]at this; exact this);have y:=h.blk.cell 0;simp only[aG]at y;have k:=kp h;have j:=kp (Lc n);go_enter func149,ntmps149;go_wp2_with fail;refine (g.o).mono ?_;rintro e z ⟨rfl,m,f⟩;have d:=k'2 (k.o.step m (oS f)) (oS f);go_wp2_with fail;refine mb' (j.o _) fun w' x=>?_;obtain rfl:=x.symm;go_wp2_with fail;go_ret;exact⟨rfl,d.a,d.B⟩
theorem Lf{w:World}{gi gr:Nat}{l:List UInt8}(h:cK w gi gr l)(a:eY l=none):
  Calls prog 149 #[.pointer (some ⟨gi,0,none⟩)] w fun e w'=>e=.panicked iD∧Chg (fun i=>i=gr) w w':=by
 unfold eY at a
 by_cases b:(aA l).2.2=0
 .rw[aE b]at a; cases a
 have d:=kp (Gf gr l w h.rd);have j:=h.blk.cell 0;simp only[aG]at j;have f:=kp (fun W=>Ld (aA l).1 (aA l).2.2 b W);go_enter func149,ntmps149;go_wp2_with fail;refine (d.o).mono ?_;rintro e m ⟨rfl,k,g⟩;have c:=kp (oS g);go_wp2_with fail;refine (f.o _).mono ?_;rintro e n ⟨rfl,rfl⟩;exact⟨rfl,rfl,c.o⟩
end
section
theorem cK.at_{w d:World}{gi gr B:Nat}{l:List UInt8}(h:cK w gi gr l)(a:Below B w d)(e:gi<B)(b:gr<B):cK d gi gr l:=by
 obtain⟨A,n,c,g,i,f⟩:=h.rd;exact⟨h.blk.below a e,⟨A,n,c,(a.block gr b).trans g,i.below a (dY b),f⟩,h.ne⟩
structure Rs(w:World)(gi gr:Nat)(t:TypeId)(l:List UInt8)(zs cs:List Value)(W:World):Prop where
 inn:cK W gi gr l
 res:Blk W w.heap.size t zs
 blk:Blk W (w.heap.size+1) t cs
 chg:Chg (fun i=>i=gr) w W
 lti:gi<w.heap.size
 ltr:gr<w.heap.size
section
variable {w W W':World}{gi gr:Nat}{t:TypeId}{l l':List UInt8}{zs cs:List Value}
theorem Rs.new(h:cK w gi gr l)(t:TypeId)(cs:List Value):Rs w gi gr t l cs cs ((w.alloc (.cells cs.toArray t)).alloc (.cells cs.toArray t)):=
 have c:=ba' w (.cells cs.toArray t);have a:=(aL _ (w.alloc (.cells cs.toArray t))).alloc (aD _) (.cells cs.toArray t);have b:=Blk.new (w.alloc (.cells cs.toArray t)) t cs
 ⟨(h.below c).below a,(Blk.new w t cs).below a (Blk.new w t cs).lt,by simpa using b,((Chg.refl _ w).alloc _).alloc _,h.blk.lt,h.rd.lt⟩
theorem Rs.call(h:Rs w gi gr t l zs cs W)(b:cK W' gi gr l')(a:Chg (fun i=>i=gr) W W'):Rs w gi gr t l' zs cs W':=
 ⟨b,h.res.chg a (by have:=h.ltr; omega),h.blk.chg a (by have:=h.ltr; omega),h.chg.trans a fun _ _ h=>h,h.lti,h.ltr⟩
theorem Rs.put(h:Rs w gi gr t l zs cs W)(j:Nat)(u:Value):Rs w gi gr t l zs (cs.set j u) (W.setCell ⟨w.heap.size+1,j,none⟩ u):=
 ⟨h.inn.at_ ((aL (w.heap.size+1) W).setCell (aD _) u) (uF h.lti) (uF h.ltr),h.res.otherCell (by omega) j u,h.blk.setCell j u,h.chg.setCell (.inl (by omega)) j u,h.lti,h.ltr⟩
theorem Rs.grow(h:Rs w gi gr t l zs cs W)(a:Bw' W W'):Rs w gi gr t l zs cs W':=
 ⟨h.inn.below a,h.res.below a h.res.lt,h.blk.below a h.blk.lt,h.chg.then a,h.lti,h.ltr⟩
theorem Rs.end_(h:Rs w gi gr t l zs cs W)(a:Chg (fun i=>i=gr) W W'):Chg (fun i=>i=gr) w W':=h.chg.trans a fun _ _ h=>h
theorem Rs.fin(h:Rs w gi gr t l zs cs W)(xs:List Value):Blk (W.setRow w.heap.size xs.toArray) w.heap.size t xs∧cK (W.setRow w.heap.size xs.toArray) gi gr l∧Chg (fun i=>i=gr) w (W.setRow w.heap.size xs.toArray):=
 ⟨h.res.set xs,h.inn.at_ (cL (aL w.heap.size W) (aD _) _) h.lti h.ltr,h.chg.setRow (.inl (aD _)) _⟩
end
theorem Lg{l r:List UInt8}{x:Rw}(h:rwP l=some (x,r)):∃a b d,bF l=some (x.c,a)∧bF a=some (x.s,b)∧bF b=some (x.k,d)∧eY d=some (x.v,r):=by
 unfold rwP aZ aZ aZ aZ at h
 cases h1:bF l with
 |none=>simp[h1]at h
 |some e=>
  obtain⟨c,a⟩:=e
  cases h2:bF a with
  |none=>simp[h1,h2]at h
  |some f=>
   obtain⟨s,b⟩:=f
   cases h3:bF b with
   |none=>simp[h1,h2,h3]at h
   |some g=>
    obtain⟨k,d⟩:=g
    cases h4:eY d with
    |none=>simp[h1,h2,h3,h4]at h
    |some i=>
     obtain⟨v,j⟩:=i;simp[h1,h2,h3,h4]at h;obtain⟨rfl,rfl⟩:=h;exact⟨a,b,d,rfl,h2,h3,h4⟩
theorem Lh{l:List UInt8}(h:rwP l=none):bF l=none∨∃c a,bF l=some (c,a)∧(bF a=none∨∃s b,bF a=some (s,b)∧(bF b=none∨∃k d,bF b=some (k,d)∧eY d=none)):=by
 unfold rwP aZ aZ aZ aZ at h
 cases h1:bF l with
 |none=>exact .inl rfl
 |some e=>
  obtain⟨c,a⟩:=e;refine .inr ⟨c,a,rfl,?_⟩
  cases h2:bF a with
  |none=>exact .inl rfl
  |some f=>
   obtain⟨s,b⟩:=f;refine .inr ⟨s,b,rfl,?_⟩
   cases h3:bF b with
   |none=>exact .inl rfl
   |some g=>
    obtain⟨k,d⟩:=g;refine .inr ⟨k,d,rfl,?_⟩
    cases h4:eY d with
    |none=>rfl
    |some i=>simp[h1,h2,h3,h4]at h
attribute [-go_sem] loadCellsFrom storeCells
attribute [local go_sem] bC
theorem Wh{w:World}{gi gr:Nat}{l r:List UInt8}{x:Rw}(h:cK w gi gr l)(U:rwP l=some (x,r)):
  Calls prog 92 #[.pointer (some ⟨gi,0,none⟩)] w fun e F=>e=.returned (.agg x.cells.toArray)∧cK F gi gr r∧Chg (fun i=>i=gr) w F:=by
 obtain⟨r1,r2,r3,G,H,I,J⟩:=Lg U;have d:=k'4 G H I J;have E:=kp (Rs.new h 117 z'4);obtain⟨f,xs,g,j⟩:=x;simp only[]at d;go_enter func92,ntmps92;go_wp2_with fail;refine (iN E.o.inn d.a).mono ?_;rintro e w1 ⟨rfl,Q,L⟩;have n:=kp (E.o.call Q L);have V:=n.o.blk.cell 0;have y1:=n.o.blk.frozen 0;simp only[aG]at V;have y:=kp (n.o.put 0 (.i f));simp only[aH]at y;go_wp2_with fail;refine (iN y.o.inn d.b).mono ?_;rintro e w2 ⟨rfl,R,M⟩;have p:=kp (y.o.call R M);have W:=p.o.blk.cell 1;have y2:=p.o.blk.frozen 1;simp only[aG,aK]at W;have z:=kp (p.o.put 1 (.i xs));simp only[aH,aI]at z;go_wp2_with fail;refine (iN z.o.inn d.c).mono ?_;rintro e w3 ⟨rfl,S,N⟩;have q:=kp (z.o.call S N);have X:=q.o.blk.cell 2;have y3:=q.o.blk.frozen 2;simp only[aG,aK]at X;have A:=kp (q.o.put 2 (.i g));simp only[aH,aI]at A;go_wp2_with fail;refine (Le A.o.inn d.D).mono ?_;rintro e w4 ⟨rfl,T,O⟩;have s:=kp (A.o.call T O);have Y:=s.o.blk.cell 3;have y4:=s.o.blk.frozen 3;simp only[aG,aK]at Y;have m:=kp (s.o.put 3 (.i j));simp only[aH,aI]at m;have Z:=m.o.blk.load (P:=prog) (k:=4) rfl;have hS:=m.o.res.store (P:=prog) (cs':=[.i f,.i xs,.i g,.i j]) rfl (jR ⟨f,xs,g,j⟩);have C:=kp (m.o.fin [.i f,.i xs,.i g,.i j]);go_wp2_with fail;have K:=C.a.load (P:=prog) (k:=4) rfl;exact aU (v:=.agg (Rw.cells ⟨f,xs,g,j⟩).toArray) (by simp[results,results92,go_sem,K,Rw.cells]) rfl ⟨rfl,C.B⟩
theorem Wi{w:World}{gi gr:Nat}{l:List UInt8}(h:cK w gi gr l)(O:rwP l=none):
  Calls prog 92 #[.pointer (some ⟨gi,0,none⟩)] w fun e P=>e=.panicked iD∧Chg (fun i=>i=gr) w P:=by
 have d:=kp (Lh O);have j:=kp (Rs.new h 117 z'4);go_enter func92,ntmps92;rcases d with⟨p|⟨H,U,p,x|⟨xs,V,x,A|⟨R,W,A,L⟩⟩⟩⟩
 .go_wp2_with fail;refine mb' (lL j.o.inn p) fun G n=>?_;exact⟨rfl,rfl,j.o.end_ n⟩
 .have d:=k'2 p x;go_wp2_with fail;refine (iN j.o.inn d.a).mono ?_;rintro e J ⟨rfl,r,q⟩;have f:=kp (j.o.call r q);have s:=f.o.blk.cell 0;have K:=f.o.blk.frozen 0;simp only[aG]at s;have g:=kp (f.o.put 0 (.i H));simp only[aH]at g;go_wp2_with fail;refine mb' (lL g.o.inn d.B) fun G n=>?_;exact⟨rfl,rfl,g.o.end_ n⟩
 .have d:=k'3 p x A;go_wp2_with fail;refine (iN j.o.inn d.a).mono ?_;rintro e J ⟨rfl,r,q⟩;have f:=kp (j.o.call r q);have s:=f.o.blk.cell 0;have K:=f.o.blk.frozen 0;simp only[aG]at s;have g:=kp (f.o.put 0 (.i H));simp only[aH]at g;go_wp2_with fail;refine (iN g.o.inn d.b).mono ?_;rintro e Q ⟨rfl,F,E⟩;have k:=kp (g.o.call F E);have I:=k.o.blk.cell 1;have S:=k.o.blk.frozen 1;simp only[aG,aK]at I;have m:=kp (k.o.put 1 (.i xs));simp only[aH,aI]at m;go_wp2_with fail;refine mb' (lL m.o.inn d.C) fun G n=>?_;exact⟨rfl,rfl,m.o.end_ n⟩
 .have d:=k'4 p x A L;go_wp2_with fail;refine (iN j.o.inn d.a).mono ?_;rintro e J ⟨rfl,r,q⟩;have f:=kp (j.o.call r q);have s:=f.o.blk.cell 0;have K:=f.o.blk.frozen 0;simp only[aG]at s;have g:=kp (f.o.put 0 (.i H));simp only[aH]at g;go_wp2_with fail;refine (iN g.o.inn d.b).mono ?_;rintro e Q ⟨rfl,F,E⟩;have k:=kp (g.o.call F E);have I:=k.o.blk.cell 1;have S:=k.o.blk.frozen 1;simp only[aG,aK]at I;have m:=kp (k.o.put 1 (.i xs));simp only[aH,aI]at m;go_wp2_with fail;refine (iN m.o.inn d.c).mono ?_;rintro e X ⟨rfl,N,M⟩;have y:=kp (m.o.call N M);have T:=y.o.blk.cell 2;have Y:=y.o.blk.frozen 2;simp only[aG,aK]at T;have z:=kp (y.o.put 2 (.i R));simp only[aH,aI]at z;go_wp2_with fail;refine mb' (Lf z.o.inn d.D) fun G n=>?_;exact⟨rfl,rfl,z.o.end_ n⟩
end
section
attribute [-go_sem] loadCellsFrom storeCells
attribute [local go_sem] bC
theorem qA{α:Type}(one:List UInt8→Option (α×List UInt8)):∀(n:Nat)(l:List UInt8),aZ one (n+1) l=match aZ one n l with
  |none=>none
  |some (xs,r)=>match one r with
   |none=>none
   |some (x,a)=>some (xs++[x],a)
 |0,l=>by
  simp only[aZ]
  cases one l with
  |none=>rfl
  |some p=>rfl
 |n+1,l=>by
  conv=>lhs; unfold aZ
  conv=>rhs; unfold aZ
  cases h:one l with
  |none=>rfl
  |some p=>
   obtain⟨x,r⟩:=p;simp only[];rw[qA one n r]
   cases h2:aZ one n r with
   |none=>rfl
   |some q=>
    obtain⟨xs,b⟩:=q;simp only[]
    cases h3:one b with
    |none=>rfl
    |some c=>rfl
theorem Do{α:Type}{one:List UInt8→Option (α×List UInt8)}{l:List UInt8}{i:Nat}(h:aZ one i l=none):∀{n:Nat},i≤n→aZ one n l=none:=by
 intro n c
 induction n with
 |zero=>
   obtain rfl:i=0:=by omega
   exact h
 |succ n b=>
  by_cases a:i=n+1
  .rw[←a]; exact h
  .rw[qA,b (by omega)]
theorem Chg.thenB{S:Nat→Prop}{a b c:World}(h:Chg S a b)(k:Below a.heap.size b c):Chg S a c:=⟨k.os.trans h.os,k.tape.trans h.tape,k.output.trans h.output,aB h.size k.size,fun i d e=>(k.block i d).trans (h.block i d e)⟩
def qB{α:Type}(w:World)(gi gr:Nat)(t:TypeId)(k:Nat)(enc:α→List Value)(o:Option (List α×List UInt8))(e:Ending)(w':World):Prop:=
 Chg (fun i=>i=gr) w w'∧match o with
  |some (xs,r)=>∃v,e=.returned v∧Ow w' w.heap.size t k v enc xs∧cK w' gi gr r
  |none=>e=.panicked iD
def vP{α:Type}(val:α→Value)(w:World)(gi gr:Nat)(o:Option (α×List UInt8))(e:Ending)(w':World):Prop:=
 Chg (fun i=>i=gr) w w'∧match o with
  |some (x,r)=>e=.returned (val x)∧cK w' gi gr r
  |none=>e=.panicked iD
section
variable {α:Type}{w w':World}{gi gr:Nat}{t:TypeId}{k:Nat}{enc:α→List Value}{xs:List α}{r:List UInt8}{v:Value}{e:Ending}
theorem qB.some(a:Chg (fun i=>i=gr) w w')(c:Ow w' w.heap.size t k v enc xs)(b:cK w' gi gr r):qB w gi gr t k enc (some (xs,r)) (.returned v) w':=⟨a,v,rfl,c,b⟩
theorem qB.none(a:Chg (fun i=>i=gr) w w'):qB w gi gr t k enc none (.panicked iD) w':=⟨a,rfl⟩
end
theorem Wj{w:World}{gi gr:Nat}{l:List UInt8}(h:cK w gi gr l):Calls prog 91 #[.pointer (some ⟨gi,0,none⟩)] w (vP (fun n=>.i n) w gi gr (bF l)):=by
 cases hp:bF l with
 |none=>exact (lL h hp).mono fun e w' ⟨a,b⟩=>⟨b,a⟩
 |some p=>obtain⟨x,r⟩:=p; exact (iN h hp).mono fun e w' ⟨a,b,c⟩=>⟨c,a,b⟩
theorem Wl{w:World}{gi gr:Nat}{l:List UInt8}(h:cK w gi gr l):Calls prog 149 #[.pointer (some ⟨gi,0,none⟩)] w (vP (fun n=>.i n) w gi gr (eY l)):=by
 cases hp:eY l with
 |none=>exact (Lf h hp).mono fun e w' ⟨a,b⟩=>⟨b,a⟩
 |some p=>obtain⟨x,r⟩:=p; exact (Le h hp).mono fun e w' ⟨a,b,c⟩=>⟨c,a,b⟩
theorem Wm{w:World}{gi gr:Nat}{l:List UInt8}(h:cK w gi gr l):Calls prog 92 #[.pointer (some ⟨gi,0,none⟩)] w (vP (fun x:Rw=>.agg x.cells.toArray) w gi gr (rwP l)):=by
 cases hp:rwP l with
 |none=>exact (Wi h hp).mono fun e w' ⟨a,b⟩=>⟨b,a⟩
 |some p=>obtain⟨x,r⟩:=p; exact (Wh h hp).mono fun e w' ⟨a,b,c⟩=>⟨c,a,b⟩
theorem Wp(n a:Int)(c:a<n)(f:Value)(w:World):Calls prog 90 #[.i n,.i a,f] w fun e w'=>e=.panicked iD∧w'=w:=by
 have g:decide (n≤a)=false:=by simp; omega
 have b:=kp rP;go_enter func90,ntmps90;go_wp2_with fail;refine (b.o _).mono ?_;rintro e d ⟨rfl,rfl⟩;exact⟨rfl,rfl,rfl⟩
theorem yH:(∀(n:Nat)(q:Int)(K:(n:Int)≤q)(Q:q≤65536)(F:Nat)(one:List UInt8→Option (Int×List UInt8)){w:World}{gi gr:Nat}{l:List UInt8}(h:cK w gi gr l)(V:∀args w,(callFunc F args).run prog w=.ok (.enter F args) w)(R:∀(W:World)(l:List UInt8),cK W gi gr l→Calls prog F #[.pointer (some ⟨gi,0,none⟩)] W (vP (fun n=>.i n) W gi gr (one l))),Calls prog 240 #[.i n,.i q,.func (.func F) #[.pointer (some ⟨gi,0,none⟩)] #[]] w (qB w gi gr 3 1 i1 (aZ one n l)))∧(∀(n:Nat)(q:Int)(K:(n:Int)≤q)(Q:q≤65536)(F:Nat)(one:List UInt8→Option (Rw×List UInt8)){w:World}{gi gr:Nat}{l:List UInt8}(h:cK w gi gr l)(V:∀args w,(callFunc F args).run prog w=.ok (.enter F args) w)(R:∀(W:World)(l:List UInt8),cK W gi gr l→Calls prog F #[.pointer (some ⟨gi,0,none⟩)] W (vP (fun x:Rw=>.agg x.cells.toArray) W gi gr (one l))),Calls prog 90 #[.i n,.i q,.func (.func F) #[.pointer (some ⟨gi,0,none⟩)] #[]] w (qB w gi gr 117 4 Rw.cells (aZ one n l))):=by
 refine⟨?q0,?q1⟩
 case' q0=>have y:=True.intro
 all_goals
  intro n q K Q F one w gi gr l h V R;have g:decide ((n:Int)≤q)=true:=by simpa using K
  have Z:=kp rO;have HO:=kp R;have HI:=kp h;have z:=k'2 K Q;have L:=k'2 h.blk.lt h.rd.lt
  first |go_enter func240,ntmps240|go_enter func90,ntmps90
  go_wp2_with fail;refine mb' (Z.o _) fun w' o0=>?_;obtain rfl:=o0.symm;go_wp2_with fail
  first
  |(have:=y; go_loopw [7,13] (fun v i wr=>∃k:Nat,k≤n∧i=.i k∧∃xs r,aZ one k l=some (xs,r)∧xs.length=k∧Ow wr w.heap.size 3 1 v i1 xs∧cK wr gi gr r∧Chg (fun i=>i=gr) w wr) (fun _ i _=>n-(intOf i).toNat))
  |go_loopw [7,13] (fun v i wr=>∃k:Nat,k≤n∧i=.i k∧∃xs r,aZ one k l=some (xs,r)∧xs.length=k∧Ow wr w.heap.size 117 4 v Rw.cells xs∧cK wr gi gr r∧Chg (fun i=>i=gr) w wr) (fun _ i _=>n-(intOf i).toNat)
  case atStart=>exact⟨0,by omega,rfl,[],l,rfl,rfl,Ow.nil _ _ _ _ _,HI.o,Chg.refl _ _⟩
  case round=>
   obtain⟨k,hk,rfl,xs,r,g0,p0,l0,e0,b0⟩:=hrel;have f:=k'5 g0 p0 l0 e0 b0
   by_cases z0:k<n
   .have g3:(k:Int)<(n:Int):=by omega
    have a1:(n:Int)≤65536:=by have N:=z.a; have O:=z.B; omega
    have G:=kp (HO.o wr r f.d)
    cases hx:one r with
    |none=>
     rw[hx]at G;have M:=kp hx;go_wp2_with (go_at_fn F; refine G.o.mono ?_; rintro e j ⟨A,rfl⟩);have j0:aZ one n l=none:=Do (i:=k+1) (by rw[qA,f.a]; simp only[]; rw[M.o]) (by omega);rw[j0];exact⟨rfl,qB.none (f.E.trans A fun _ _ h=>h)⟩
    |some p=>
     obtain⟨x,r'⟩:=p;rw[hx]at G;have M:=kp hx;go_wp2_with fail
     go_at_fn F
     refine G.o.mono ?_;rintro e j ⟨A,rfl,d0⟩
     first
     |(have:=y; skip)
     |simp only[Rw.cells]
     have U:=kp ((f.c).chg A fun i hi e=>by have N:=(f.c).lt hi; have O:=L.B; omega);have H:=k'3 A d0 (aB f.E.size A.size)
     first
     |(have:=y; have S:Sl (j.alloc (.cells #[.i x] 3)) (j.heap.size+1) (.slice (some ⟨j.heap.size,0,none⟩) 1 1) i1 [x]:=eQ (enc:=i1) j 3 x)
     |have S:Sl (j.alloc (.cells #[.i x.c,.i x.s,.i x.k,.i x.v] 117)) (j.heap.size+1) (.slice (some ⟨j.heap.size,0,none⟩) 1 1) Rw.cells [x]:=eQ (enc:=Rw.cells) j 117 x
     first
     |(have:=y; have P:=U.o.alloc (.cells #[.i x] 3))
     |have P:=U.o.alloc (.cells #[.i x.c,.i x.s,.i x.k,.i x.v] 117)
     first
     |(have:=y; have J:=ba' j (.cells #[.i x] 3))
     |have J:=ba' j (.cells #[.i x.c,.i x.s,.i x.k,.i x.v] 117)
     first
     |(have:=y; obtain⟨I,X⟩:=nm' (j.alloc (.cells #[.i x] 3)))
     |obtain⟨I,X⟩:=nm' (j.alloc (.cells #[.i x.c,.i x.s,.i x.k,.i x.v] 117))
     rw[X]at S P J;have m:=k'4 S P J (show w.heap.size≤I.heap.size from aB (H.C) J.size)
     first
     |(have:=y; go_wp2_with (at_builtin; refine eU (enc:=i1) I rfl (.tmp 15) (.tmp 18) 33 rfl (w.heap.size) 3 mL lT rfl (by omega) cS m.b rfl m.a rfl (fun a _=>pJ a) ?_ ?_ m.D ?_))
     |go_wp2_with (at_builtin; refine eU (enc:=Rw.cells) I rfl (.tmp 15) (.tmp 18) 30 rfl (w.heap.size) 117 rE kO rfl (by omega) fJ m.b rfl m.a rfl (fun a _=>jR a) ?_ ?_ m.D ?_)
     .have N:=f.b; have O:=z.a; have h3:=z.B; unfold maxLen; (try simp); omega
     .have N:=f.b; have O:=z.a; have h3:=z.B; (try simp); omega
     intro v3 w3 m0 Y;have T:=kp ((m.c.mono (H.C)).trans (m.b.grew Y m.D));have a0:=kp m0;have y0:=kp Y;go_wp2_with fail;go_roundw
     case rel=>
      refine⟨k+1,by omega,by go_num,xs++[x],r',by rw[qA,f.a]; simp only[]; rw[M.o],by simp[f.b],a0.o,?_,?_⟩
      .exact H.b.at_ T.o L.a L.B
      .exact (f.E.trans H.a fun _ _ h=>h).thenB T.o
     case measure=>simp[intOf]; omega
   .obtain rfl:k=n:=by omega
    go_wp2_with fail;go_ret;rw[f.a];exact qB.some f.E f.c f.d
end
section
theorem rQ{l r:List UInt8}{n:Int}(h:bF l=some (n,r)):∃k:Nat,n=k∧k≤2147483647:=by
 unfold bF at h
 by_cases a:(num l).2.2=0
 .rw[aE a]at h;obtain⟨u,b,e,-⟩:=(Gi l a).2.2;refine⟨u,?_,b⟩;rw[←e]
  cases h;rfl
 .rw[aC a]at h; cases h
theorem Ow.blk_set{α:Type}{enc:α→List Value}{w:World}{base k b:Nat}{t a:TypeId}{v:Value}{l:List α}{c:List Value}(h:Ow w base t k v enc l)(d:Blk w b a c)(g:t≠a)(j:Nat)(u:Value):Ow (w.setCell ⟨b,j,none⟩ u) base t k v enc l:=
 h.chg ((Chg.refl (fun i=>i=b) w).setCell (.inr rfl) j u) fun _ f e=>h.ne_blk d g (e▸f)
theorem Ow.row_set{α:Type}{enc:α→List Value}{w:World}{base k b:Nat}{t a:TypeId}{v:Value}{l:List α}{c:List Value}(h:Ow w base t k v enc l)(d:Blk w b a c)(g:t≠a)(xs:List Value):Ow (w.setRow b xs.toArray) base t k v enc l:=
 h.chg ((Chg.refl (fun i=>i=b) w).setRow (.inr rfl) _) fun _ f e=>h.ne_blk d g (e▸f)
theorem tX(a b c:Int){u v:Value}(e:u.oneCell'=true)(f:v.oneCell'=true):∀x∈[Value.i a,.i b,.i c,u,v],x.oneCell'=true:=by
 intro x d;simp only[bA,dW,or_false]at d;rcases d with rfl|rfl|rfl|rfl|rfl
 .rfl
 .rfl
 .rfl
 .exact e
 .exact f
attribute [-go_sem] loadCellsFrom storeCells
attribute [local go_sem] bC
def ObR(w:World)(gi gr:Nat)(o:Option (Ob×List UInt8))(e:Ending)(w':World):Prop:=
 Chg (fun i=>i=gr) w w'∧match o with
  |some (x,r)=>∃p:ObV,e=.returned (.agg p.cells.toArray)∧p.x=x∧Ow w' w.heap.size 3 1 p.wv i1 x.ws∧Ow w' w.heap.size 3 1 p.lv i1 x.ls∧Apt p.wv p.lv∧cK w' gi gr r
  |none=>e=.panicked iD
theorem ObR.none{w b:World}{c a:Nat}{o:Option (Ob×List UInt8)}(e:o=none)(d:Chg (fun i=>i=a) w b):ObR w c a o (.panicked iD) b:=by
 subst e;exact⟨d,rfl⟩
theorem ObR.some{w a:World}{e d:Nat}{o:Option (Ob×List UInt8)}{x:Ob}{r:List UInt8}(c b:Value)(l:o=some (x,r))(k:Chg (fun i=>i=d) w a)(f:Ow a w.heap.size 3 1 c i1 x.ws)(g:Ow a w.heap.size 3 1 b i1 x.ls)(h:Apt c b)(j:cK a e d r):
  ObR w e d o (.returned (.agg (ObV.cells ⟨x,c,b⟩).toArray)) a:=by
 subst l;exact⟨k,⟨x,c,b⟩,rfl,rfl,f,g,h,j⟩
theorem Wq{w:World}{M Y:Nat}{l:List UInt8}(h:cK w M Y l):Calls prog 193 #[.pointer (some ⟨M,0,none⟩)] w (ObR w M Y (obP l)):=by
 have b2:∀(fn:Fn)(first cap:Array Value)(w:World),(Instr.makeFunc fn first cap).run prog w=.ok (.func fn first cap) w:=fun _ _ _ _=>rfl;have U:=kp (Rs.new h 152 z'5);have HT:=kp rO;have HF:=kp rP;have o0:=kp Cp;have m0:=kp (fun(n:Nat)(s:Int)(hn:(n:Int)≤s)(hm:s≤65536)(W:World)(l:List UInt8)(h:cK W M Y l)=>yH.1 n s hn hm 91 bF h (fun _ _=>rfl) (fun W l h=>Wj h));have l0:=kp (fun(n:Nat)(s:Int)(hn:(n:Int)≤s)(hm:s≤65536)(W:World)(l:List UInt8)(h:cK W M Y l)=>yH.1 n s hn hm 149 eY h (fun _ _=>rfl) (fun W l h=>Wl h));go_enter func193,ntmps193
 cases N:bF l with
 |none=>
  go_wp2_with fail;refine mb' (lL U.o.inn N) fun E c=>?_;exact⟨rfl,ObR.none (by simp[obP,aZ,N]) (U.o.end_ c)⟩
 |some p1=>
  obtain⟨p,r1⟩:=p1;have j:=kp N;go_wp2_with fail;refine (iN U.o.inn j.o).mono ?_;rintro e w1 ⟨rfl,d1,q0⟩;have Z:=kp (U.o.call d1 q0);have z1:=Z.o.blk.cell 0;have y1:=Z.o.blk.frozen 0;simp only[aG]at z1;have K:=kp (Z.o.put 0 (.i p));simp only[aH]at K
  cases D:bF r1 with
  |none=>
   go_wp2_with fail;refine mb' (lL K.o.inn D) fun E c=>?_;exact⟨rfl,ObR.none (by simp[obP,aZ,j.o,D]) (K.o.end_ c)⟩
  |some p2=>
   obtain⟨m,r2⟩:=p2;have q:=kp D;go_wp2_with fail;refine (iN K.o.inn q.o).mono ?_;rintro e w2 ⟨rfl,g1,y0⟩;have J2:=kp (K.o.call g1 y0);have z2:=J2.o.blk.cell 1;have y2:=J2.o.blk.frozen 1;simp only[aG,aK]at z2;have L:=kp (J2.o.put 1 (.i m));simp only[aH,aI]at L
   cases h3:bF r2 with
   |none=>
    go_wp2_with fail;refine mb' (lL L.o.inn h3) fun E c=>?_;exact⟨rfl,ObR.none (by simp[obP,aZ,j.o,q.o,h3]) (L.o.end_ c)⟩
   |some p3=>
    obtain⟨nw,r3⟩:=p3;obtain⟨Q,rfl,a2⟩:=rQ h3;have y:=k'2 h3 a2;go_wp2_with fail;refine (iN L.o.inn y.a).mono ?_;rintro e w3 ⟨rfl,j1,z0⟩;have V:=kp (L.o.call j1 z0)
    cases h4:bF r3 with
    |none=>
     go_wp2_with fail;refine mb' (lL V.o.inn h4) fun E c=>?_;exact⟨rfl,ObR.none (by simp[obP,aZ,j.o,q.o,y.a,h4]) (V.o.end_ c)⟩
    |some p4=>
     obtain⟨nl,r4⟩:=p4;obtain⟨O,rfl,q1⟩:=rQ h4;have I:=k'2 h4 q1;go_wp2_with fail;refine (iN V.o.inn I.a).mono ?_;rintro e w4 ⟨rfl,l1,a1⟩;have K4:=kp (V.o.call l1 a1);obtain⟨d,g0⟩:=nm' (bX Q O);have H:=kp g0;go_wp2_with fail;refine mb' (o0.o Q O _) fun w' b0=>?_;obtain rfl:=b0.symm;rw[g0];have z5:=K4.o.blk.cell 2;have y5:=K4.o.blk.frozen 2;simp only[aG,aK]at z5;have r:=kp (K4.o.put 2 (.i d));simp only[aH,aI]at r;have x5:=r.o.blk.cell 2;simp only[aG,aK]at x5
     by_cases hd:d<0
     .have g5:decide (0≤d)=false:=by simp; omega
      have F:=kp hd;go_wp2_with fail;refine (HF.o _).mono ?_;rintro e E ⟨rfl,rfl⟩;exact⟨rfl,ObR.none (by simp[obP,aZ,j.o,q.o,y.a,I.a,H.o,F.o]) r.o.chg⟩
     have g5:decide (0≤d)=true:=by simp; omega
     have HR:=kp (oP (n:=Q) (k:=O) (by rw[H.o]; exact hd));have F:=kp hd;go_wp2_with fail;refine mb' (HT.o _) fun w' b0=>?_;obtain rfl:=b0.symm;have R:=kp (l0.o Q 32 (by have:=HR.o; omega) (by omega) _ _ r.o.inn)
     cases h6:aZ eY Q r4 with
     |none=>
      rw[h6]at R;go_wp2_with fail;refine (R.o).mono ?_;rintro e E ⟨c,rfl⟩;exact⟨rfl,ObR.none (by simp[obP,aZ,j.o,q.o,y.a,I.a,H.o,F.o,h6]) (r.o.end_ c)⟩
     |some p6=>
      obtain⟨ws,r6⟩:=p6;rw[h6]at R;have d0:=kp h6;go_wp2_with fail;refine (R.o).mono ?_;rintro e w6 ⟨b1,wv,rfl,j0,m1⟩;obtain⟨g,c6,rfl,-⟩:=eD j0;have T:=kp (r.o.call m1 b1);have O6:=kp (j0.mono (by have:=r.o.chg.size; exact this));have z6:=T.o.blk.cell 3;have y6:=T.o.blk.frozen 3;simp only[aG,aK]at z6;have z:=kp (T.o.put 3 (.slice g ws.length c6));simp only[aH,aI]at z;have S:=kp (m0.o O 16 (by have:=HR.o; omega) (by omega) _ _ z.o.inn)
      cases h7:aZ bF O r6 with
      |none=>
       rw[h7]at S;go_wp2_with fail;refine (S.o).mono ?_;rintro e E ⟨c,rfl⟩;exact⟨rfl,ObR.none (by simp[obP,aZ,j.o,q.o,y.a,I.a,H.o,F.o,d0.o,h7]) (z.o.end_ c)⟩
      |some p7=>
       obtain⟨ls,r7⟩:=p7;rw[h7]at S;have p0:=kp h7;go_wp2_with fail;refine (S.o).mono ?_;rintro e w7 ⟨e0,lv,rfl,a0,o1⟩;obtain⟨f,c7,rfl,-⟩:=eD a0;have O7:=k'3 (a0.mono (by have:=z.o.chg.size; exact this)) (((O6.o.blk_set T.o.blk (by decide) 3 (.slice g ws.length c6)).chg e0 fun i hi e=>by have N:=O6.o.lt hi; have D:=z.o.ltr; omega)) (show Apt (.slice g ws.length c6) (.slice f ls.length c7) from fun i hi hj=>by have N:=O6.o.lt hi; have D:=a0.lt hj; simp at D; omega);have J:=kp (z.o.call o1 e0);have z7:=J.o.blk.cell 4;have y7:=J.o.blk.frozen 4;simp only[aG,aK]at z7;have A:=kp (J.o.put 4 (.slice f ls.length c7));simp only[aH,aI]at A;have X:=k'2 (O7.a.blk_set J.o.blk (by decide) 4 (.slice f ls.length c7)) (O7.b.blk_set J.o.blk (by decide) 4 (.slice f ls.length c7));have hL:=A.o.blk.load (P:=prog) (k:=5) rfl;have hS:=A.o.res.store (P:=prog) (cs':=[.i p,.i m,.i d,.slice g ws.length c6,.slice f ls.length c7]) rfl (tX p m d (Ow.one X.B) (Ow.one X.a));have G:=k'3 (A.o.fin [.i p,.i m,.i d,.slice g ws.length c6,.slice f ls.length c7]) (X.a.row_set A.o.res (by decide) [.i p,.i m,.i d,.slice g ws.length c6,.slice f ls.length c7]) (X.B.row_set A.o.res (by decide) [.i p,.i m,.i d,.slice g ws.length c6,.slice f ls.length c7]);go_wp2_with fail;have hR:=G.a.1.load (P:=prog) (k:=5) rfl;exact aU (v:=.agg (ObV.cells ⟨⟨p,⟨m,d⟩,ws,ls⟩,(.slice g ws.length c6),(.slice f ls.length c7)⟩).toArray) (by simp[results,results193,go_sem,hR,ObV.cells]) rfl (ObR.some (x:=⟨p,⟨m,d⟩,ws,ls⟩) (.slice g ws.length c6) (.slice f ls.length c7) (by simp[obP,aZ,j.o,q.o,y.a,I.a,H.o,F.o,d0.o,p0.o]) G.a.2.2 G.C G.b O7.C G.a.2.1)
end
section
attribute [-go_sem] loadCellsFrom storeCells
attribute [local go_sem] bC
def rU(sz:Int)(b:Bk)(p:ObV):Bool:=decide (p.x.b.a≤sz)&&(decide (b.a<p.x.b.a+aQ p.x.b.o)&&decide (p.x.b.a<b.a+aQ b.o))
theorem Wr(p:ObV)(l:Int)(b:Bk)(y r s:Nat)(W:World)(A:Blk W y 3 [.i l])(z:Blk W r 150 b.cells)(i:Blk W s 3 [.i (b.a+aQ b.o)])(D:0≤p.x.b.a)(E:p.x.b.a≤2147483647):
  Calls prog 243 #[.agg p.cells.toArray,.pointer (some ⟨y,0,none⟩),.pointer (some ⟨r,0,none⟩),.pointer (some ⟨s,0,none⟩)] W fun e N=>e=.returned (.bool (rU l b p))∧Bw' W N:=by
 obtain⟨⟨n,⟨c,f⟩,ws,ls⟩,m,j⟩:=p;obtain⟨q,h⟩:=b;unfold rU;simp only at D E i ⊢;have T:=gF f;have U:=gF h;obtain⟨O,F⟩:=nm' (W.alloc (.cells (ObV.cells ⟨⟨n,⟨c,f⟩,ws,ls⟩,m,j⟩).toArray 152));have k:=Blk.new W 152 (ObV.cells ⟨⟨n,⟨c,f⟩,ws,ls⟩,m,j⟩);have d:=ba' W (.cells (ObV.cells ⟨⟨n,⟨c,f⟩,ws,ls⟩,m,j⟩).toArray 152);rw[F]at k d;have V:=aP ((A.below d A.lt).cell 0);have Q:=aP ((z.below d z.lt).cell 0);have S:=aP ((i.below d i.lt).cell 0);have X:=aP (k.cell 1);have Y:=aP (k.cell 2);have C:=kp d;obtain⟨K,H⟩:∃t,decide (c≤l)=t:=⟨_,rfl⟩
 obtain⟨L,I⟩:∃t,decide (q<c+aQ f)=t:=⟨_,rfl⟩
 obtain⟨M,J⟩:∃t,decide (c<q+aQ h)=t:=⟨_,rfl⟩
 rw[H,I,J];generalize aQ h=R at *;go_enter func243,ntmps243;rcases Pe K L M with⟨rfl,g⟩|⟨rfl,rfl,g⟩|⟨rfl,rfl,rfl,g⟩|⟨rfl,rfl,rfl,g⟩
 all_goals
  rw[g];go_wp2_with fail;refine bJ (by kernel_rfl) (by kernel_rfl) ?_
  repeat (go_big_quiet_step ((go_at_call 200; refine dG (iT _ _))))
  refine bH ?_;rintro P ⟨⟨_,G⟩,rfl⟩;have B:=kp (C.o.on G);go_wp2_with fail;go_ret;exact⟨rfl,B.o⟩
end
end Go.Proofs.YthalbagblhkeaaaGreat
