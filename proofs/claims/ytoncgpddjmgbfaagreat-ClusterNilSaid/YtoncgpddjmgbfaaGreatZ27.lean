import Derived.Test.YtoncgpddjmgbfaaGreatZ25
import Derived.Test.YtoncgpddjmgbfaaGreatZ26
namespace Go.Proofs.YtoncgpddjmgbfaaGreat
open Go.RowKit Go.Proofs.Tryz
set_option maxRecDepth 100000
set_option maxHeartbeats 12800000
set_option linter.unusedVariables false
set_option linter.unusedSimpArgs false
section
attribute [-go_sem] loadCellsFrom storeCells run_eql_struct run_neq_struct Instr.build
attribute [local go_sem] aX eM Jo
theorem En.fold(p:En):List.foldl (fun(a:Array Value)(x:Value×Nat)=>a.setIfInBounds x.snd x.fst) z'3a p.cells.zipIdx=p.cells.toArray:=by
 simp[En.cells]
attribute [local go_sem] En.fold
def KpV.more(p:KpV)(v:Value)(e:En):KpV:=⟨p.view,p.normal,p.base,p.image,p.es++[e],v⟩
structure SvE(k:KpV)(c:RcV):Prop where
 kind:c.kind=2
 n:c.entry.n=k.x.last+1
 base:0≤k.base∧k.base≤900000000
 top:0≤k.x.last∧k.x.last≤900000000
 len:k.es.length<4000
 img:k.image.size≤maxLen
 kr:KdR k.x
 er:enR c.entry
 ok:dY k.x=true
 ok2:dY (k.x.add c.entry)=true
theorem Ka(p:KpV):p.cells[4]? =some p.ev:=rfl
theorem Yh{g base:Nat}(p:KpV)(c:RcV)(w:World)(Z:Blk w g 163 p.cells)(J:Ow w base 122 11 p.ev En.cells p.es)(r:base≤w.heap.size)(s:SvE p c):
  Calls prog 82 #[.pointer (some ⟨g,0,none⟩),.agg c.cells.toArray] w fun e w'=>e=.returned (.i 0)∧∃v,Blk w' g 163 (p.more v c.entry).cells∧Ow w' base 122 11 v En.cells (p.es++[c.entry])∧Chg (fun i=>i=g∨p.ev.ownBlock=some i) w w':=by
 have q0:p.es.length≤1000000:=by have:=s.len; omega
 obtain⟨W1,l0,x1,L,z1⟩:=par w 124 c.cells;have y1:=Z.grow L;have o1:=J.below L;have j0:=x1.cell 0;rw[show c.cells[0]? =some (.i c.kind) from rfl,s.kind]at j0;have l1:=y1.load (P:=prog) (k:=5) rfl;have l:=k'8 y1 x1 L o1 Z.lt (fun i Y=>(J.lt (i:=i) Y).2) r s;have HL:=kp (xV p W1 W1.heap.size (o1.sl eM) s.base q0);clear x1 y1 L z1 o1 Z J r s;go_enter func82,ntmps82;go_wp2_with fail;refine mb' (HL.o) fun G X=>?_;have x2:=l.b.grow X;have j2:G.cell? ⟨w.heap.size,0,none⟩=some (.i 2):=(x2.cell 0).trans (by rw[show c.cells[0]? =some (.i c.kind) from rfl,l.H.kind]);have l2:=x2.loadOff (P:=prog) 5 11 c.entry.cells rfl rfl;obtain⟨T,a0⟩:=nm' (G.alloc (.cells c.entry.cells.toArray 122));have s3:=gG (enc:=En.cells) G 122 c.entry;have V:=ba' G (.cells c.entry.cells.toArray 122);have z3:(G.alloc (.cells c.entry.cells.toArray 122)).heap.size=G.heap.size+1:=by simp
 rw[a0]at s3 V z3;have g0:=kp (by
  have:=uV.1 _ [c.entry] p.x.last T.heap.size T (z3▸s3) (aN _) (by simp) (fun e y=>by rw[bZ.1 y]; exact l.H.er.1) l.H.top.1 l.H.top.2;rw[show eO p.x.last [c.entry]=true by unfold eO; rw[fA l.H.n]; rfl]at this;exact this)
 have d0:=kp (X.on V);clear x2 s3 V z3 X;go_wp2_with fail;refine mb' (g0.o) fun w4 b0=>?_;have I:=d0.o.on b0;have A:=k'4 (l.a.grow I) (l.b.grow I) (l.d.below I) (l.c.on I);clear I b0 j0 j2 l1 l2 a0 l0;go_wp2_with fail;have E:=kp (fun W(j:Chg (fun i=>p.ev.ownBlock=some i) w4 W∧Ow W base 122 11 p.ev En.cells p.es)=>fR (A.a.chg j.1 (A.c.ne_blk A.a (by decide))) (A.b.chg j.1 fun Y=>tP _ (l.f _ Y)));have p0:base≤w4.heap.size:=aB l.g A.D.size;refine fM 13 (fun W=>Chg (fun i=>p.ev.ownBlock=some i) w4 W∧Ow W base 122 11 p.ev En.cells p.es) (jJ 9 fun i=>p.ev.ownBlock=some i) (by kernel_rfl) (by kernel_rfl) ⟨(Chg.refl _ _).drew,A.c.below (bL (aH _ _))⟩ ?_
 iterate 8 (refine bE ?_; apply Exists.intro)
 refine bJ (fun u W=>∃b,u=.slice (some ⟨b,0,none⟩) 1 1∧(b<W.heap.size∧p.ev.ownBlock≠some b)∧Sl W (b+1) u En.cells [c.entry]) ?_;refine bJ (fun u W=>Ow W base 122 11 u En.cells (p.es++[c.entry])) ?_
 iterate 3 (refine bE ?_; apply Exists.intro)
 refine cC ⟨?pers,?walk⟩
 case walk=>
  iterate 5
   apply bB (by kernel_rfl) (by intro t w h; cases h; exact trivial) rfl
   .intro W j m; go_wp2_with fail;exact⟨rfl,_,rfl,j,cN (by decide) (aH _ _),rfl⟩
   simp only[Act.put,aE,aC,aD]
  apply bB (by kernel_rfl) (by intro t w h; cases h; exact trivial) rfl
  .intro W j m; have q:=(E.o W j).1.cell 4; rw[Ka]at q; go_wp2_with fail;exact⟨rfl,_,rfl,j,cN (by decide) (aH _ _),rfl⟩
  simp only[Act.put,aE,aC,aD];apply bB (by kernel_rfl) (by intro t w h; cases h; exact trivial) rfl
  .intro W j m; go_wp2_with fail;exact⟨rfl,_,rfl,j,cN (by decide) (aH _ _),rfl⟩
  simp only[Act.put,aE,aC,aD];apply bB (by kernel_rfl) (by intro t w h; cases h; exact trivial) rfl
  .intro W j m; have q:=(E.o W j).2.loadOff (P:=prog) 5 11 c.entry.cells rfl rfl; go_wp2_with fail;exact⟨rfl,_,rfl,j,cN (by decide) (aH _ _),rfl⟩
  simp only[Act.put,aE,aC,aD];refine⟨fun W j m=>?_,fun u7=>?_⟩
  .go_wp2_with fail;have s:=gG (enc:=En.cells) W 122 c.entry;have F:=fR (j.1.alloc (.cells c.entry.cells.toArray 122)) (j.2.alloc (.cells c.entry.cells.toArray 122));have B:=cN (e:=9) (k:=8) (S:=fun i=>p.ev.ownBlock=some i) (by decide) (ba' W (.cells c.entry.cells.toArray 122));have r:W.heap.size<(W.alloc (.cells c.entry.cells.toArray 122)).heap.size:=by simp
   have hn:¬p.ev.ownBlock=some W.heap.size:=fun y=>by have:=(j.2.lt y).2; omega
   generalize W.alloc (.cells c.entry.cells.toArray 122)=W' at s F B r ⊢;exact⟨rfl,_,rfl,F,B,_,rfl,⟨r,hn⟩,s⟩
  simp only[Act.put,aE,aC,aD];refine⟨fun W j m=>?_,fun u8=>?_⟩
  .have f7:=m 51 (bO (by kernel_rfl));obtain⟨b,rfl,d1,a1⟩:=f7;have o0:base≤W.heap.size:=aB p0 j.1.size;go_wp2_with (at_builtin; refine jD (enc:=En.cells) W rfl (.tmp 48) (.tmp 51) 33 rfl base 122 xB tV rfl (by omega) eM j.2 rfl a1 rfl (fun a _=>kV a) ?_ ?_ o0 ?_)
   .have:=l.H.len; unfold maxLen; show p.es.length+1≤_; omega
   .have:=l.H.len; show (p.es.length+1)*88≤_; omega
   intro v' T J z0 hg g1;exact⟨rfl,_,rfl,⟨j.1.trans (eX hg) (fun _ _ h=>h),z0⟩,pA (eX hg),J⟩
  simp only[Act.put,aE,aC,aD]
  iterate 3
   apply bB (by kernel_rfl) (by intro t w h; cases h; exact trivial) rfl
   .intro W j m; go_wp2_with fail;exact⟨rfl,_,rfl,j,cN (by decide) (aH _ _),rfl⟩
   simp only[Act.put,aE,aC,aD]
  intro W j m;have M:=m 52;have q:=(E.o W j).1.cell 4;have qf:=(E.o W j).1.frozen 4;rw[Ka]at q;obtain⟨z,c8,rfl,_,_⟩:=dO M;rw[bF,lH]at M;have K:Blk (W.setCell ⟨g,4,none⟩ (.slice z (p.es.length+1) c8)) g 163 (p.more (.slice z (p.es.length+1) c8) c.entry).cells:=(E.o W j).1.setCell 4 _;have c9:=(Chg.refl (fun i=>i=g) W).setCell (.inr rfl) 4 (.slice z (p.es.length+1) c8);have O:=M.chg_blk (E.o W j).1 c9 (by decide);have F:=((Chg.of_below (S:=fun i=>i=g∨p.ev.ownBlock=some i) A.D).trans j.1 fun _ _ h=>.inr h).trans c9 fun _ _ h=>.inl h;obtain⟨U,m0⟩:=nm' (W.setCell ⟨g,4,none⟩ (.slice z (p.es.length+1) c8));rw[m0]at K O F c9;have k4:U.cell? ⟨g,4,none⟩=some (.slice z (p.es.length+1) c8):=K.cell 4;have l9:=K.load (P:=prog) (k:=5) rfl;have g3:¬(4000:Int)<((p.es.length+1:Nat):Int):=by have:=l.H.len; omega
  have R:=k'3 K O F;have e0:=kp (by
   have:=pI (p.more (.slice z (p.es.length+1) c8) c.entry) U.heap.size U (show Sl _ _ _ _ _ from O.sl eM) (aN _) (by show (p.es++[c.entry]).length≤_; have:=l.H.len; simp; omega)
    (fun e y=>by
     rcases cV.1 y with y|y
     .exact l.H.kr e y
     .rw[bZ.1 y]; exact l.H.er) l.H.img
   rw[show dY (p.more (.slice z (p.es.length+1) c8) c.entry).x=true from l.H.ok2]at this;exact this)
  clear m j M K O F c9;go_wp2_with fail;refine mb' (e0.o) fun j1 N=>?_;have Q:=k'3 (R.a.grow N) (R.b.below N) (R.C.then N);clear N k4 l9 q qf;unfold dG;go_wp2_with fail;go_ret;exact⟨rfl,_,Q.a,Q.b,Q.C⟩
 case pers=>
  refine⟨pv',pv',pv',pv',pv',pv',pv',pv',?_,?_,pv',pv',pv',trivial⟩
  .rintro i u W W' _ ⟨b,rfl,r,s⟩ B;exact⟨b,rfl,⟨cY r.1 (lQ B).size,r.2⟩,sP s (lQ B) r.2 r.1⟩
  .rintro i u W W' y0 h1 B;exact h1.below (pB B y0)
theorem Yi(p:KpV)(c:RcV)(w:World)(B:Nat)(h:kJ w B p)(T:B≤w.heap.size)(y:SvE p c):
  Calls prog 43 #[.agg p.cells.toArray,.agg c.cells.toArray] w fun e w'=>∃v,e=.returned (.tuple #[.agg (p.more v c.entry).cells.toArray,.i 0])∧Ow w' w.heap.size 122 11 v En.cells (p.es++[c.entry])∧Bw' w w':=by
 have V:p.es.length≤1000000:=by have:=y.len; omega
 obtain⟨W1,o0,Y,I,z1⟩:=par w 35 p.cells;obtain⟨W2,p0,x2,Q,z2⟩:=par W1 124 c.cells;obtain⟨N,g0,x3,R,z3⟩:=par W2 35 sY;unfold sY at g0;have r:=Q.on R;have S:=Sl.below h (I.on r) T;have J:B≤N.heap.size:=aB T (I.on r).size;have HR:=kp (by have:=pI p B N S J V y.kr y.img; rw[y.ok]at this; exact this);have l0:=(Y.grow r).load (P:=prog) (k:=5) rfl;have g:=k'8 (Y.grow r) (x2.grow R) x3 (I.on r) z1 z2 Q.size z3;have HS:=kp (fun(W:World)(b:Bw' N W)=>fam'3.2.2.2.2.1 p.ev p.es B W (Sl.below S b J) (aB J b.size) V);have j:=kp y;clear Y x2 x3 I Q R r z1 z2 z3 S h T J y V;go_enter func43,ntmps43;go_wp2_with fail;refine mb' (HR.o) fun E U=>?_;have k4:E.cell? ⟨w.heap.size,4,none⟩=some p.ev:=(g.a.grow U).cell 4;have l:=kp U;clear U l0;unfold dG;go_wp2_with fail;refine (HS.o E l.o).mono ?_;rintro e F ⟨v,rfl,A,m⟩;have A:Ow F E.heap.size 122 11 v En.cells p.es:=A;obtain⟨q,x,rfl,-⟩:=dO A;have G:=(g.a.grow l.o).grow m;have k5:F.cell? ⟨w.heap.size,4,none⟩=some p.ev:=G.cell 4;have f5:=G.frozen 4;have Z:Blk (F.setCell ⟨w.heap.size,4,none⟩ (.slice q p.es.length x)) w.heap.size 35 (p.own (.slice q p.es.length x)).cells:=G.setCell 4 _;have c6:=(Chg.refl (fun i=>i=w.heap.size) F).setCell (.inr rfl) 4 (.slice q p.es.length x);obtain⟨O,j0⟩:∃W,F.setCell ⟨w.heap.size,4,none⟩ (.slice q p.es.length x)=W:=⟨_,rfl⟩
 rw[j0]at Z c6;have l6:=Z.load (P:=prog) (k:=5) rfl;have o6:=A.chg_blk G c6 (by decide);obtain⟨W7,q0,x7,s,z7⟩:=par O 163 (p.own (.slice q p.es.length x)).cells;have X:=o6.below s;have xr:=(((g.b.grow l.o).grow m).chg c6 (by have:=g.o; omega)).grow s;have l7:=xr.load (P:=prog) (k:=17) rfl;have y7:=(((g.c.grow l.o).grow m).chg c6 (by have:=g.o; omega)).grow s;have K:=g.d.on (l.o.on m);have a0:=K.trans ((c6.below (B:=w.heap.size) (fun i z=>by omega) K.size).trans (s.mono (aB K.size c6.size)));have d0:W2.heap.size<O.heap.size:=cY g.H (aB (l.o.on m).size c6.size);have b0:w.heap.size≤E.heap.size:=aB g.d.size l.o.size;have f:=k'6 X y7 a0 d0 b0 (aB g.d.size (aB (l.o.on m).size c6.size));have e0:=kp (Yh (p.own (.slice q p.es.length x)) c W7 x7 X (aB m.size (aB c6.size s.size)) ⟨j.o.kind,j.o.n,j.o.base,j.o.top,j.o.len,j.o.img,j.o.kr,j.o.er,j.o.ok,j.o.ok2⟩);have m0:=kp x7;clear A G Z c6 o6 x7 s z7 X xr y7 K a0 d0 b0 m k4;go_wp2_with fail;refine (e0.o).mono ?_;rintro e w8 ⟨rfl,D,M,C,L⟩;have M:Blk w8 O.heap.size 163 (p.more D c.entry).cells:=M;have C:Ow w8 E.heap.size 122 11 D En.cells (p.es++[c.entry]):=C;have l8:=M.load (P:=prog) (k:=5) rfl;have y8:=f.b.chg L (fun z=>z.elim (fun e=>by have:=f.o; omega) fun e=>f.a.ne_blk f.b (by decide) e);obtain⟨W9,y0,s9,x9,c9⟩:=y8.put (p.more D c.entry).cells rfl (sV (p:=p.more D c.entry) C.one);have l9:=x9.load (P:=prog) (k:=5) rfl;have HF:=k'2 ((C.chg_blk y8 c9 (by decide)).mono f.e) (f.c.trans ((L.below (B:=w.heap.size) (fun i z=>z.elim (fun e=>by have:=f.o; omega) fun e=>by have:=(f.a.lt e).1; have:=f.o; omega) f.c.size).trans (c9.below (B:=w.heap.size) (fun i z=>by have:=g.o; omega) (aB f.c.size L.size))));clear M y8 C x9 c9 L;go_wp2_with fail;exact bI (v:=.tuple #[.agg (p.more D c.entry).cells.toArray,.i 0]) (by simp[results,results43,go_sem,l9]) rfl ⟨_,rfl,HF.a,HF.B⟩
end
section
attribute [-go_sem] loadCellsFrom storeCells run_eql_struct run_neq_struct
attribute [local go_sem] aX RcV.fold oF
def tB(B:Nat)(p:KpV)(x:En)(z:Value)(W:World):Prop:=∃v,z=.tuple #[.agg (p.more v x).cells.toArray,.i 0]∧Ow W B 122 11 v En.cells (p.es++[x])
theorem tB.stab(B:Nat)(p:KpV)(x:En):jU 35 (tB B p x):=
 ⟨fun _ _ _ ⟨v,e,h⟩ b=>⟨v,e,h.below b⟩,fun _ W a _ cs' ⟨v,e,h⟩ c=>⟨v,e,h.chg_blk c ((Chg.refl (fun i=>i=a) W).setRow (.inr rfl) cs') (by decide)⟩⟩
theorem Yj{tl:List Value}{g base:Nat}(p:WkV)(ps:List ObV)(c:RcV)(w:World)(h:WkO w base g 101 tl p ps)(hm:Ow w base 122 11 c.ev En.cells c.es)(hn:p.rs.length<1000000)(j:base≤w.heap.size)(H:SvE p.r.k c):
  Calls prog 60 #[.pointer (some ⟨g,0,none⟩),.agg c.cells.toArray] w fun e w'=>e=.returned (.tuple #[])∧∃v v',WkO w' base g 101 tl ⟨p.r.kept (p.r.k.more v c.entry),p.rs++[c],v',p.ms,p.mv⟩ ps∧Chg (fun i=>i=g∨p.rv.ownBlock=some i) w w'∧(∀k,v'.ownBlock=some k→p.rv.ownBlock=some k∨w.heap.size≤k):=by
 obtain⟨E,j1,x1,b1,z1⟩:=par w 124 c.cells;have C:=k'4 (h.below b1) b1 x1 (hm.below b1);have J:=k'4 h.blk.lt (fun i T=>(h.rs.lt (i:=i) T).2) j hn;have HL:=kp (fun(W:World)(j:Bw' E W)=>(C.a.blk.grow j).loadOff (P:=prog) 2 5 p.r.k.cells rfl rfl);have HM:=kp (fun(W:World)(j:Bw' E W)=>Yi p.r.k c W W.heap.size ((C.a.rep.es.below j).sl eM) (aN _) H);clear x1 b1 z1 h hm hn j H;go_enter func60,ntmps60;go_wp2_with fail;have M:=kp (show Bw' E E.drew from bL (aH _ _));refine eY 12 (CAl E.drew 35 sY 73 [] (tB E.drew.heap.size p.r.k c.entry) mE 6 7 8 10 1000 11) (fun _=>eQ) (by kernel_rfl) (by kernel_rfl) CAl.start ?_
 iterate 6 (refine bE ?_; apply Exists.intro)
 iterate 3 (refine bJ dV ?_)
 refine bJ Jl ?_
 iterate 2 (refine bJ dV ?_)
 refine cC ⟨?_,?_⟩
 rotate_left
 .iterate 6
   apply bQ (by kernel_rfl) (by intro t w h; cases h; exact trivial) rfl
   .intro X W' d n A l f;have l1:=HL.o W' (M.o.on d.bel);have l2:=(C.c.grow (M.o.on d.bel)).load (P:=prog) (k:=17) rfl;go_wp2_with fail;exact⟨rfl,_,rfl,d.other (by decide),aV,rfl⟩
   simp only[Act.put,aE,aC,aD,aS,aT]
  refine⟨fun X W' d n A l f=>?_,fun u6=>?_⟩
  .go_wp2_with fail;refine (HM.o W' (M.o.on d.bel)).mono ?_;rintro e p1 ⟨v,rfl,s,e0⟩;have I:=d.doCall (tB.stab _ _ _) n e0 ⟨v,rfl,s.mono d.bel.size⟩ (by decide);clear s e0;go_wp2_with fail;exact⟨rfl,_,rfl,I,aV,trivial⟩
  simp only[Act.put,aE,aC,aD,aS,aT];refine⟨fun X W' d n A l f=>?_,fun Y=>?_⟩
  .have O:X 6=some u6:=l 6 13 u6 (by kernel_rfl) (by kernel_rfl) (bO (by kernel_rfl)) rfl;go_wp2_with fail;exact⟨rfl,_,rfl,d.doMv O (by decide),aV,trivial⟩
  simp only[Act.put,aE,aC,aD,aS,aT];refine⟨fun X W' d n A l f=>?_,fun L=>?_⟩
  .have Q:X 7=some Y:=l 7 6 Y (by kernel_rfl) (by kernel_rfl) (bO (by kernel_rfl)) rfl;have O:=d.mv _ Q;obtain⟨v,rfl,-⟩:=d.call _ O;have I:=d.doExt n O ⟨_,rfl⟩ (by decide);clear O Q;go_wp2_with fail;exact⟨rfl,_,rfl,I,aV,trivial⟩
  simp only[Act.put,aE,aC,aD,aS,aT];refine⟨fun X W' d n A l f=>?_,fun u9=>?_⟩
  .have Q:X 7=some Y:=l 7 6 Y (by kernel_rfl) (by kernel_rfl) (bO (by kernel_rfl)) rfl;obtain⟨v,rfl,-⟩:=d.call _ (d.mv _ Q);clear Q;go_wp2_with fail;exact⟨rfl,_,rfl,d.other (by decide),aV,rfl⟩
  simp only[Act.put,aE,aC,aD,aS,aT];refine⟨fun X W' d n A l f=>?_,fun a0=>?_⟩
  .have I:=d.doAlloc (tB.stab _ _ _) n (by decide);go_wp2_with fail;exact⟨rfl,_,rfl,I,aV,trivial⟩
  simp only[Act.put,aE,aC,aD,aS,aT];refine⟨fun X W' d n A l f=>?_,fun g1=>?_⟩
  .have h7:X 10=some a0:=l 10 4 a0 (by kernel_rfl) (by kernel_rfl) (bO (by kernel_rfl)) rfl;have h5:X 8=some L:=l 8 14 L (by kernel_rfl) (by kernel_rfl) (bO (by kernel_rfl)) rfl;obtain⟨u,U,y,F⟩:=d.ext _ h5;obtain⟨v,G,s⟩:=d.call _ U;rw[F]at G;obtain⟨rfl,-⟩:L=.agg (p.r.k.more v c.entry).cells.toArray∧y=.i 0:=by simpa using G
   obtain⟨a,cs,rfl,-⟩:=d.al _ h7;obtain⟨hk,I⟩:=d.doStore (u:=undef) (tB.stab _ _ _) (by decide) n h7 h5 (by decide);have o1:=hk.store (P:=prog) (cs':=(p.r.k.more v c.entry).cells) rfl (sV (p:=p.r.k.more v c.entry) s.one);clear hk F G U h7 h5 s;go_wp2_with fail;exact⟨rfl,undef,rfl,I,aV,trivial⟩
  simp only[Act.put,aS,aT];intro W9 d f;have z:Jl u9 W9:=f 15
  cases z;clear f;simp only[bS,bU];obtain⟨u,U,y,F⟩:=d.ext L rfl;obtain⟨v,G,s⟩:=d.call _ U;rw[F]at G;obtain⟨rfl,-⟩:L=.agg (p.r.k.more v c.entry).cells.toArray∧y=.i 0:=by simpa using G
  obtain⟨a,cs,rfl,q0,l0,-,g0⟩:=d.al a0 rfl;obtain rfl:(p.r.k.more v c.entry).cells=cs:=by have:=g0 g1 rfl; simpa using this
  have l9:=l0.load (P:=prog) (k:=5) rfl;have R:=M.o.on d.bel;have h9:=C.a.below R;have x9:=C.c.grow R;have m9:=C.D.below R;have hd:base≤E.drew.heap.size:=aB J.c (aB C.b.size M.o.size);obtain⟨d0,d1,K,c10⟩:=h9.keep (.inl rfl) (k:=p.r.k.more v c.entry) (s.mono hd);have b0:=x9.chg c10 (by have:=J.a; omega);have m0:=m9.chg_blk h9.blk c10 (by decide);obtain⟨k',j0⟩:=nm' (p.r.k.more v c.entry);rw[j0]at K d1 l9;have m:=k'4 K b0 m0 ((Chg.of_below (S:=fun i=>i=g) (C.b.on R)).trans c10 fun _ _ h=>h);have Z:=kp (fun W(d:Chg (fun i=>p.rv.ownBlock=some i) d0 W∧Ow W base 124 17 p.rv RcV.cells p.rs)=>fR (K.blk.chg d.1 (K.rs.ne_blk K.blk (by decide))) (b0.chg d.1 fun T=>tP _ (J.b _ T)));have HE:=kp j0;clear d F G U q0 l0 g0 s R h9 x9 m9 hd K c10 b0 m0;go_wp2_with fail;refine fM 12 (fun W=>Chg (fun i=>p.rv.ownBlock=some i) d0 W∧Ow W base 124 17 p.rv RcV.cells p.rs) (jJ 8 fun i=>p.rv.ownBlock=some i) (by kernel_rfl) (by kernel_rfl) ⟨(Chg.refl _ _).drew,m.a.rs.below (bL (aH _ _))⟩ ?_
  iterate 7 (refine bE ?_; apply Exists.intro)
  refine bJ (fun u W=>∃b,u=.slice (some ⟨b,0,none⟩) 1 1∧(b<W.heap.size∧p.rv.ownBlock≠some b)∧Sl W (b+1) u RcV.cells [c]) ?_;refine bJ (fun u W=>Ow W base 124 17 u RcV.cells (p.rs++[c])∧∀k,u.ownBlock=some k→p.rv.ownBlock=some k∨w.heap.size≤k) ?_
  iterate 3 (refine bE ?_; apply Exists.intro)
  refine cC ⟨?pers,?walk⟩
  case walk=>
   iterate 5
    apply bB (by kernel_rfl) (by intro t w h; cases h; exact trivial) rfl
    .intro W d f; go_wp2_with fail;exact⟨rfl,_,rfl,d,cN (by decide) (aH _ _),rfl⟩
    simp only[Act.put,aE,aC,aD]
   apply bB (by kernel_rfl) (by intro t w h; cases h; exact trivial) rfl
   .intro W d f; have q:=(Z.o W d).1.cell 26; rw[Jn]at q; go_wp2_with fail;exact⟨rfl,_,rfl,d,cN (by decide) (aH _ _),rfl⟩
   simp only[Act.put,aE,aC,aD];apply bB (by kernel_rfl) (by intro t w h; cases h; exact trivial) rfl
   .intro W d f; have q:=(Z.o W d).2.load (P:=prog) (k:=17) rfl; go_wp2_with fail;exact⟨rfl,_,rfl,d,cN (by decide) (aH _ _),rfl⟩
   simp only[Act.put,aE,aC,aD];refine⟨fun W d f=>?_,fun Y=>?_⟩
   .go_wp2_with fail;have H:=gG (enc:=RcV.cells) W 124 c;have hc:=fR (d.1.alloc (.cells c.cells.toArray 124)) (d.2.alloc (.cells c.cells.toArray 124));have z:=cN (e:=8) (k:=7) (S:=fun i=>p.rv.ownBlock=some i) (by decide) (ba' W (.cells c.cells.toArray 124));have j:W.heap.size<(W.alloc (.cells c.cells.toArray 124)).heap.size:=by simp
    have hn:¬p.rv.ownBlock=some W.heap.size:=fun F=>by have:=(d.2.lt F).2; omega
    generalize W.alloc (.cells c.cells.toArray 124)=W' at H hc z j ⊢;exact⟨rfl,_,rfl,hc,z,_,rfl,⟨j,hn⟩,H⟩
   simp only[Act.put,aE,aC,aD];refine⟨fun W d f=>?_,fun L=>?_⟩
   .have f7:=f 32 (bO (by kernel_rfl));obtain⟨b,rfl,m1,a1⟩:=f7;have o0:base≤W.heap.size:=aB J.c (aB m.D.size d.1.size);go_wp2_with (at_builtin; refine jD (enc:=RcV.cells) W rfl (.tmp 30) (.tmp 32) 66 rfl base 124 Jm underlying66 rfl (by omega) oF d.2 rfl a1 rfl (fun a ha=>by rw[bZ.1 ha]; exact Cp (Ow.one m.c)) ?_ ?_ o0 ?_)
    .have:=J.D; unfold maxLen; show p.rs.length+1≤_; omega
    .have:=J.D; show (p.rs.length+1)*160≤_; omega
    intro v' W3 s z0 hg p0;exact⟨rfl,_,rfl,⟨d.1.trans (eX hg) (fun _ _ h=>h),z0⟩,pA (eX hg),s,fun k hk=>(p0 k hk).imp id (aB (aB m.D.size d.1.size))⟩
   simp only[Act.put,aE,aC,aD]
   iterate 3
    apply bB (by kernel_rfl) (by intro t w h; cases h; exact trivial) rfl
    .intro W d f; go_wp2_with fail;exact⟨rfl,_,rfl,d,cN (by decide) (aH _ _),rfl⟩
    simp only[Act.put,aE,aC,aD]
   intro W d f;have N:=f 33;obtain⟨N,f9⟩:=N;have q:=(Z.o W d).1.cell 26;have qf:=(Z.o W d).1.frozen 26;rw[Jn]at q;have A:=m.a.saved (.inl rfl) d.1 N (fun x V=>by
    rcases cV.1 V with V|V
    .exact (m.a.rse x V).chg_row m.a.rs d.1 (by decide)
    .rw[bZ.1 V];exact (m.c).chg_row m.a.rs d.1 (by decide))
   have HW:=kp A;have H9:=kp f9;obtain⟨A8,c8,rfl,_,_⟩:=dO N;rw[bF,lH]at HW H9;clear f d N f9 A;go_wp2_with fail;go_end0;refine⟨rfl,v,_,?_,?_,H9.o⟩
   .rw[HE.o]; exact HW.a
   .exact (m.D.mono fun i _ T=>.inl T).trans HW.B fun _ _ h=>h
  case pers=>
   refine⟨pv',pv',pv',pv',pv',pv',pv',?_,?_,pv',pv',pv',trivial⟩
   .rintro i u W W' _ ⟨b,rfl,j,H⟩ z;exact⟨b,rfl,⟨cY j.1 (lQ z).size,j.2⟩,sP H (lQ z) j.2 j.1⟩
   .rintro i u W W' y0 ⟨h1,h2⟩ z;exact⟨h1.below (pB z y0),h2⟩
 .exact⟨pv',pv',pv',pv',pv',pv',fun _ _ _ _ _ h _=>h,fun _ _ _ _ _ h _=>h,fun _ _ _ _ _ h _=>h,fun _ _ _ _ _ h _=>h,fun _ _ _ _ _ h _=>h,fun _ _ _ _ _ h _=>h,trivial⟩
def gQ(e:En):RcV:=⟨2,0,0,0,⟨#[]⟩,e,[],.slice none 0 0⟩
theorem Kb{g base:Nat}(p:WkV)(c:List ObV)(x:En)(w:World)(h:WkO w base g 101 [] p c)(l:base≤w.heap.size)(S:WpS p.x)(a:nA p.r.k.x x=true)(j:enR x):
  Calls prog 60 #[.pointer (some ⟨g,0,none⟩),.agg (gQ x).cells.toArray] w fun e f=>e=.returned (.tuple #[])∧∃p',Gn w f base g p p' c∧p'.x=p.x.keep x:=by
 have d:=S.log;have y:=S.top;have s:=S.rs;have b:=S.img;rw[show p.x.rs.length=p.rs.length from dD _]at s;unfold nA at a;simp only[bH,bR]at a;refine (Yj p c (gQ x) w h (Ow.nil _ _ _ _ _) (by omega) l ⟨rfl,a.1,d.1,⟨d.2.2.1,y⟩,a.2.1,by unfold maxLen; exact aB b (by decide),S.kr,j,S.kept,a.2.2⟩).mono ?_;rintro e f ⟨rfl,v,v',q,m,o⟩;refine⟨rfl,_,⟨q,m.mono fun i _ b=>b.imp id .inl,o,fun k n=>.inl n⟩,?_⟩;unfold WkV.x Wp.keep;simp only[fW];rfl
end
section
attribute [-go_sem] loadCellsFrom storeCells run_eql_struct run_neq_struct
attribute [local go_sem] aX mZ
theorem Yk(v:Value)(l:List En)(p:En→Bool)(g:Nat)(O:Array Value)(B:Nat)(w:World)(h:Sl w B v En.cells l)(S:B≤w.heap.size)(V:l.length≤1000000)
  (Z:∀args w,(callFunc g args).run prog w=.ok (.enter g args) w)
  (M:∀(W:World)(x:En),x∈l→Bw' w W→Calls prog g (#[(.agg (En.cells x).toArray)]++O) W fun e E=>e=.returned (.bool (p x))∧Bw' W E):
  Calls prog 99 #[v,.func (.func g) #[] O] w fun e E=>e=.returned (.i (eC p l))∧Bw' w E:=by
 obtain⟨A,c,rfl,N,I,U⟩:=h;obtain⟨n,D⟩:=nm' l.length;rw[D]at I V ⊢;have H:=k'2 N D; clear N I U D;have Q:=kp M; clear M;go_enter func99,ntmps99;go_wp2_with fail
 go_loopw [5,8] (fun _ i wr=>∃k:Nat,k≤n∧i=.i k∧(∀y∈l.take k,p y=false)∧Bw' w wr) (fun _ i _=>n-(intOf i).toNat)
 case atStart=>exact⟨0,by omega,rfl,by simp,aH _ _⟩
 case round=>
  obtain⟨k,hk,rfl,K,G⟩:=hrel;have s:=kp K;have f:=kp G;clear K G
  by_cases a0:k<n
  .have g3:(k:Int)<(n:Int):=by omega
   have q:k<l.length:=by have:=H.B; omega
   obtain⟨b,b0,R,_,T,L⟩:=dS (P:=prog) 11 eM (by omega) (H.a.below f.o S) k q;subst R;have X:=L 0;change Sem.run _ _ wr=.ok _ wr at X;clear T L;have z:=k'3 (fE q) (qC p l k q) (cU q);generalize l[k]'q=x at *;have J:=Q.o wr x z.C f.o;have F:=kp J; clear J
   cases hpx:p x
   .have j:=kp hpx; clear hpx;go_wp2_with (go_at_fn g; refine F.o.mono ?_; rintro e Y ⟨rfl,m⟩; rw[j.o]);have r:=kp (f.o.on m); clear m;go_roundw
    case rel=>
     refine⟨k+1,by omega,by go_num,fun y d=>?_,r.o⟩;rw[z.a]at d;rcases cV.1 d with d|d
     .exact s.o y d
     .rw[bZ.1 d]; exact j.o
    case measure=>simp[intOf]; omega
   .have j:=kp hpx; clear hpx;go_wp2_with (go_at_fn g; refine F.o.mono ?_; rintro e Y ⟨rfl,m⟩; rw[j.o]);have r:=kp (f.o.on m); clear m;go_ret;exact⟨by rw[z.b j.o s.o]; rfl,r.o⟩
  .obtain rfl:k=n:=by omega
   go_wp2_with fail;go_ret;exact⟨by rw[uN p l (fun y d=>s.o y (by rw[eF (by have:=H.B; omega)]; exact d))]; rfl,f.o⟩
theorem Ct(v:Value)(l:List En)(p:En→Bool)(g:Nat)(c:Array Value)(B:Nat)(w:World)(h:Sl w B v En.cells l)(s:B≤w.heap.size)(y:l.length≤1000000)
  (f:∀args w,(callFunc g args).run prog w=.ok (.enter g args) w)
  (k:∀(W:World)(x:En),x∈l→Bw' w W→Calls prog g (#[(.agg (En.cells x).toArray)]++c) W fun e d=>e=.returned (.bool (p x))∧Bw' W d):
  Calls prog 61 #[v,.func (.func g) #[] c] w fun e d=>e=.returned (.bool (l.any p))∧Bw' w d:=by
 have j:=Yk v l p g c B w h s y f k;have q:=kp j;obtain⟨z,b⟩:=nm' (eC p l);have a:=sM p l;rw[b]at a;have m:=kp a;have r:=kp b;clear j k h b a f;go_enter func61,ntmps61;go_wp2_with fail;refine mb' q.o fun A i=>?_;rw[r.o];have n:=kp i; clear i;go_wp2_with fail;go_ret;exact⟨jO (bA Value.bool m.o),n.o⟩
theorem Kc:(∀(x:En)(w:World),Calls prog 62 #[.agg x.cells.toArray] w fun e a=>e=.returned (.bool (!dQ x))∧Bw' w a)∧(∀(x:En)(w:World),Calls prog 149 #[.agg x.cells.toArray] w fun e a=>e=.returned (.bool (!dQ x))∧Bw' w a):=by
 refine⟨?q0,?q1⟩
 all_goals
  intro x w;obtain⟨h,l,f,c,j⟩:=par w 122 x.cells;have m:=f.load (P:=prog) (k:=11) rfl;have b:=kp (xU x h);have g:=kp c;clear f c j;obtain⟨z,d⟩:=nm' (dQ x);rw[d]at b ⊢;clear d
  first |go_enter func62,ntmps62|go_enter func149,ntmps149
  go_wp2_with fail;refine mb' (b.o) fun n i=>?_;go_wp2_with fail;go_ret;exact⟨rfl,g.o.on i⟩
def vI(commit c s:Int)(e:En):Bool:=decide (commit<e.n)&&(decide (e.c=c)&&decide (s≤e.s))
theorem Yl(x:En)(a c s:Int)(k l m:Nat)(w:World)(q:Blk w k 3 [.i a])(r:Blk w l 3 [.i c])(y:Blk w m 3 [.i s]):
  Calls prog 98 #[.agg x.cells.toArray,.pointer (some ⟨k,0,none⟩),.pointer (some ⟨l,0,none⟩),.pointer (some ⟨m,0,none⟩)] w fun e B=>e=.returned (.bool (vI a c s x))∧Bw' w B:=by
 obtain⟨b,D,g,f,C⟩:=par w 122 x.cells;have E:b.cell? ⟨w.heap.size,0,none⟩=some (.i x.n):=g.cell 0;have F:b.cell? ⟨w.heap.size,2,none⟩=some (.i x.c):=g.cell 2;have G:b.cell? ⟨w.heap.size,3,none⟩=some (.i x.s):=g.cell 3;have H:b.cell? ⟨k,0,none⟩=some (.i a):=(q.grow f).cell 0;have I:b.cell? ⟨l,0,none⟩=some (.i c):=(r.grow f).cell 0;have J:b.cell? ⟨m,0,none⟩=some (.i s):=(y.grow f).cell 0;have j:=kp f;clear g f C q r y;unfold vI;generalize x.n=n at *;generalize x.c=p at *;generalize x.s=xs at *
 by_cases z:a<n
 .by_cases d:p=c
  .have e2:(p==c)=true:=by simp[d]
   have i:=kp d
   by_cases A:s≤xs
   all_goals
    clear d;go_enter func98,ntmps98;go_wp2_with fail;go_ret;refine⟨jO (bA Value.bool ?_),j.o⟩;simp[z,i.o,A]
  .have e2:(p==c)=false:=by simp[d]
   have i:=kp d;clear d;go_enter func98,ntmps98;go_wp2_with fail;go_ret;refine⟨jO (bA Value.bool ?_),j.o⟩;simp[i.o]
 .go_enter func98,ntmps98;go_wp2_with fail;go_ret;refine⟨jO (bA Value.bool ?_),j.o⟩;simp;intro h;omega
theorem Ym(p:KpV)(a c s:Int)(B:Nat)(w:World)(h:kJ w B p)(n:B≤w.heap.size)(y:p.es.length≤1000000)(K:KdR p.x)(I:p.image.size≤maxLen)(J:dY p.x=true):
  Calls prog 59 #[.agg p.cells.toArray,.i a,.i c,.i s] w fun e U=>e=.returned (.bool (p.es.any (vI a c s)))∧Bw' w U:=by
 obtain⟨C,a0,z,H,V⟩:=par w 35 p.cells;obtain⟨D,b0,M,j,X⟩:=par C 3 [.i a];obtain⟨F,d0,N,g,Y⟩:=par D 3 [.i c];obtain⟨G,e0,O,aQ,Z⟩:=par F 3 [.i s];have b:=H.on (j.on (g.on aQ));have m:=Sl.below h b n;have l:=aB n b.size;have R:=kp (by have:=pI p B G m l y K I; rw[J]at this; exact this);have T:=(z.grow (j.on (g.on aQ))).load (P:=prog) (k:=5) rfl;have f:=k'5 (z.grow (j.on (g.on aQ))) (M.grow (g.on aQ)) (N.grow aQ) O b;have Q:=kp (fun(W:World)(i:Bw' G W)=>Ct p.ev p.es (vI a c s) 98 #[.pointer (some ⟨C.heap.size,0,none⟩),.pointer (some ⟨D.heap.size,0,none⟩),.pointer (some ⟨F.heap.size,0,none⟩)] B W (Sl.below m i l) (aB l i.size) y
  (enters_of func98 (by kernel_rfl) rfl) fun W' x _ q=>Yl x a c s _ _ _ W' ((f.b.grow i).grow q) ((f.c.grow i).grow q) ((f.d.grow i).grow q))
 clear z M N O H j g aQ V X Y Z b m l h n y K I J;go_enter func59,ntmps59;go_wp2_with fail;refine mb' (R.o) fun L r=>?_;have k4:L.cell? ⟨w.heap.size,4,none⟩=some p.ev:=(f.a.grow r).cell 4;have A:=kp r;clear r T;unfold dG;go_wp2_with fail;refine mb' (Q.o L A.o) fun w6 S=>?_;go_wp2_with fail;go_ret;exact⟨rfl,f.E.on (A.o.on S)⟩
end
section
attribute [-go_sem] loadCellsFrom storeCells run_eql_struct run_neq_struct
attribute [local go_sem] aX
structure qZ(W0:World)(a:Nat)(cs:List Value)(X:Nat→Option Value)(W:World):Prop where
 c:Chg (fun i=>i=a) W0 W
 b:∃ds,Blk W a 50 ds∧ds.length=cs.length∧∀s,X 8=some s→ds=cs
section
variable {W0 W:World}{a:Nat}{cs:List Value}{X:Nat→Option Value}
theorem qZ.other{j:Nat}{u:Value}(h:qZ W0 a cs X W)(g:8≠j):qZ W0 a cs (aY X j u) W:=
 ⟨h.c,h.b.imp fun _ ⟨d,e,f⟩=>⟨d,e,by rw[aI g]; exact f⟩⟩
theorem qZ.put{u:Value}(h:qZ W0 a cs X W):qZ W0 a cs (aY X 8 u) (W.setRow a cs.toArray):=by
 obtain⟨e,d,-,-⟩:=h.b;exact⟨h.c.trans ((Chg.refl (fun i=>i=a) W).setRow (.inr rfl) _) fun _ _ h=>h,cs,d.set cs,rfl,fun _ _=>rfl⟩
end
end
section
attribute [-go_sem] loadCellsFrom storeCells run_eql_struct run_neq_struct Instr.build
attribute [local go_sem] aX
structure TkV(r:Rp):Prop where
 nodes:3≤r.nodes∧r.nodes≤7
 id:1≤r.id∧r.id≤r.nodes
 kept:dY r.k=true
 view:0≤r.k.view∧r.k.view≤800000000
 base:0≤r.k.base∧r.k.base≤900000000
 len:r.k.es.length≤4000
 timer:0≤r.timer∧r.timer≤1000
theorem Yn{r:Rp}(h:cS r=true):TkV r:=by
 simp only[cS,dY,qH,iB,aG,bH,pS,bR]at h;obtain⟨l,⟨b,c⟩,a,d,m,⟨e,f⟩,-⟩:=h;have g:=a;obtain⟨⟨i,n⟩,⟨o,p⟩,⟨j,k⟩,⟨q,-⟩,-⟩:=a;refine⟨by omega,⟨b,c⟩,?_,⟨i,d⟩,⟨j,k⟩,by omega,⟨e,f⟩⟩;simp only[dY,qH,aG,bH,bR];exact g
theorem rA(w:World):(Instr.build 68 #[]).run prog w=.ok (.agg #[.slice none 0 0,.slice none 0 0]) w:=run_build w _ _ _ (by kernel_rfl)
theorem tD(w:World):(Instr.build 50 #[]).run prog w=.ok (.agg jM.cells.toArray) w:=run_build w _ _ _ (by kernel_rfl)
def Yo(last commit:Int):MgV:=⟨3,0,0,0,0,last,0,commit,[],.slice none 0 0,0,0,⟨#[]⟩,0,dU,0,0,false⟩
theorem Cu(last a:Int)(w:World):(Instr.build 75 #[(0,.i 3),(5,.i last),(7,.i a)]).run prog w=.ok (.agg (Yo last a).cells.toArray) w:=run_build w _ _ _ (by kernel_rfl)
attribute [local go_sem] rA tD Cu
def RpV.timed(r:RpV)(t:Int):RpV:=⟨r.id,r.nodes,r.k,r.commit,r.s,t,r.starts,r.sv,r.votes,r.vv,r.acks,r.av,r.part⟩
theorem WkO.clock{w:World}{base g:Nat}{t:TypeId}{b:List Value}{p:WkV}{a:List ObV}(h:WkO w base g t b p a)(d:pJ t)(u:Int):
  WkO (w.setCell ⟨g,17,none⟩ (.i u)) base g t b ⟨p.r.timed u,p.rs,p.rv,p.ms,p.mv⟩ a∧Chg (fun i=>i=g) w (w.setCell ⟨g,17,none⟩ (.i u)):=by
 have c:=(Chg.refl (fun i=>i=g) w).setCell (.inr rfl) 17 (.i u);exact⟨h.put d (h.blk.setCell 17 _) c ⟨h.rep.es,h.rep.st,h.rep.starts,h.rep.votes,h.rep.ves,h.rep.acks⟩,c⟩
structure rB(w w':World)(R:Rp×List Rc×List Mg)(e:Ending):Prop where
 o:∃(p:WkV)(ps:List ObV),e=.returned (.tuple #[.agg p.r.cells.toArray,.agg #[p.rv,p.mv]])∧p.r.x=R.1∧p.rs.map (·.x)=R.2.1∧p.ms.map (·.x)=R.2.2∧RpO w' w.heap.size p.r ps∧
  Ow w' w.heap.size 124 17 p.rv RcV.cells p.rs∧(∀x∈p.rs,Ow w' w.heap.size 122 11 x.ev En.cells x.es)∧Ow w' w.heap.size 75 23 p.mv MgV.cells p.ms∧∀x∈p.ms,Ow w' w.heap.size 122 11 x.ev En.cells x.es
 bel:Bw' w w'
end
section
attribute [-go_sem] loadCellsFrom storeCells run_eql_struct run_neq_struct Instr.build
attribute [local go_sem] aX rA tD Cu
theorem Yp{w:World}{base g:Nat}{t:TypeId}{c:List Value}{p:WkV}{b:List ObV}(h:WkO w base g t c p b):∀u∈[p.rv,p.mv],u.oneCell'=true:=fun u a=>by
 rcases bD.1 a with rfl|a
 .exact h.rs.one
 .rw[bZ.1 a]; exact h.ms.one
end
section
attribute [-go_sem] loadCellsFrom storeCells run_eql_struct run_neq_struct Instr.build
attribute [local go_sem] aX rA tD Cu mZ
def Yq(g:Nat)(u:Value)(W:World):Prop:=∃b,u=.func (.func 85) #[] #[.pointer (some ⟨b,0,none⟩)]∧Blk W b 99 [.pointer (some ⟨g,0,none⟩)]
end
end Go.Proofs.YtoncgpddjmgbfaaGreat
