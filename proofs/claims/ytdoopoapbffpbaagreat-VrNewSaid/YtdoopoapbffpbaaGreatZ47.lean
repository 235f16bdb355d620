import Derived.Test.YtdoopoapbffpbaaGreatZ12
import Derived.Test.YtdoopoapbffpbaaGreatZ46
import Derived.StillTailTactics
namespace Go.Proofs.YtdoopoapbffpbaaGreat
open Go.RowKit Go.Proofs.Tryz
set_option maxRecDepth 100000
set_option maxHeartbeats 12800000
set_option linter.unusedVariables false
set_option linter.unusedSimpArgs false
section
attribute [-go_sem] loadCellsFrom storeCells run_eql_struct run_neq_struct
attribute [local go_sem] bC
theorem aAG(w:World):
  Calls prog 209 #[.i 1] w fun e a=>e=.returned (.tuple #[.pointer (some ⟨w.heap.size,0,none⟩),.i 0])∧Blk a w.heap.size 266 [.slice none 0 0,.i 1]∧Bw' w a:=by
 go_enter func209,ntmps209;go_wp2_with fail;go_ret2;exact⟨rfl,Blk.new _ _ [.slice none 0 0,.i 1],ba' _ _⟩
theorem aAH(p:MgV)(B:Nat)(w:World)(h:Sl w B p.ev En.cells p.es)(x:B≤w.heap.size)(E:p.es.length≤1000000):
  Calls prog 234 #[.agg p.cells.toArray] w fun e H=>∃v,e=.returned (.agg (p.own v).cells.toArray)∧Ow H w.heap.size 46 11 v En.cells p.es∧Bw' w H:=by
 obtain⟨O,Y,K,n,L⟩:=par w 55 p.cells;obtain⟨D,Z,I,j,M⟩:=par O 55 z'7;have y:=K.grow j;have F:=y.cell 8;change _=some p.ev at F;have N:=kp (fam'6.2.2.2.2.1 p.ev p.es B D (Sl.below h (n.on j) x) (aB x (n.on j).size) E);have g:=k'5 y I (n.on j) L M;clear K y I n j L M h x E;go_enter func234,ntmps234;go_wp2_with fail;refine (N.o).mono ?_;rintro e s ⟨v,rfl,l,q⟩;have l:Ow s D.heap.size 46 11 v En.cells p.es:=l;obtain⟨d,f,rfl,-⟩:=eD l;have m:=g.a.grow q;have S:=m.cell 8;change _=some p.ev at S;have X:=m.frozen 8;have z:Blk (s.setCell ⟨w.heap.size,8,none⟩ (.slice d p.es.length f)) w.heap.size 55 (p.own (.slice d p.es.length f)).cells:=m.setCell 8 _;have c4:=(Chg.refl (fun i=>i=w.heap.size) s).setCell (.inr rfl) 8 (.slice d p.es.length f);obtain⟨U,Q⟩:∃W,s.setCell ⟨w.heap.size,8,none⟩ (.slice d p.es.length f)=W:=⟨_,rfl⟩
 rw[Q]at z c4;have l4:=z.load (P:=prog) (k:=23) rfl;have A:=(g.b.grow q).chg c4 (by have:=g.o; omega);have G:=l.chg_blk m c4 (by decide);obtain⟨V,a0,s5,J,c5⟩:=A.put (p.own (.slice d p.es.length f)).cells rfl (nV (p:=p.own (.slice d p.es.length f)) rfl);have T:=J.load (P:=prog) (k:=23) rfl;have r:=g.c.on q;have C:=k'2 ((G.chg_blk A c5 (by decide)).mono g.c.size) (r.trans ((c4.below (B:=w.heap.size) (fun i R=>by omega) r.size).trans (c5.below (B:=w.heap.size) (fun i R=>by have:=g.o; omega) (aB r.size c4.size))));clear m z c4 A G J c5 r q l F;go_wp2_with fail;exact aU (v:=.agg (p.own (.slice d p.es.length f)).cells.toArray) (by simp[results,results234,go_sem,T]) rfl ⟨_,rfl,C.a,C.B⟩
end
section
attribute [-go_sem] loadCellsFrom storeCells run_eql_struct run_neq_struct
attribute [local go_sem] bC
theorem aAI{g c:Nat}{A:Option Addr}{m:Int}(w:World)(h:Blk w g 266 [.slice A 1 c,.i m]):
  Calls prog 260 #[.pointer (some ⟨g,0,none⟩),.i 0] w fun e a=>e=.returned (.bool true)∧a=w:=by
 have b:w.cell? ⟨g,0,none⟩=some (.slice A 1 c):=h.cell 0;clear h;go_enter func260,ntmps260;go_wp2_with fail;go_ret;exact⟨rfl,rfl⟩
theorem aAJ{g c:Nat}{A:Option Addr}{m:Int}(w:World)(h:Blk w g 266 [.slice A 1 c,.i m]):
  Calls prog 235 #[.pointer (some ⟨g,0,none⟩),.i 0] w fun e b=>e=.returned (.i 0)∧b=w:=by
 have a:=kp (aAI w h);clear h;go_enter func235,ntmps235;go_wp2_with fail;refine (a.o).mono ?_;rintro e d ⟨rfl,rfl⟩;go_wp2_with fail;go_ret;exact⟨rfl,rfl⟩
end
section
attribute [-go_sem] loadCellsFrom storeCells run_eql_struct run_neq_struct
attribute [local go_sem] bC MgV.fold fF
theorem aAK{g a:Nat}(m:MgV)(B:Nat)(w:World)(h:Blk w g 266 [.slice none 0 0,.i 1])(E:Sl w B (.slice (some ⟨a,0,none⟩) 1 1) MgV.cells [m])(G:m.ev.oneCell'=true):
  Calls prog 233 #[.pointer (some ⟨g,0,none⟩),.slice (some ⟨a,0,none⟩) 1 1] w fun e y=>e=.returned (.tuple #[])∧∃v,Blk y g 266 [v,.i 1]∧Ow y w.heap.size 55 23 v MgV.cells [m]∧Chg (fun i=>i=g) w y:=by
 have P:w.cell? ⟨g,0,none⟩=some (.slice none 0 0):=h.cell 0;have n:=k'3 h E G;clear h E G;go_enter func233,ntmps233;go_wp2_with (at_builtin; refine mO (enc:=MgV.cells) w rfl (.tmp 8) (.tmp 9) 62 rfl w.heap.size 55 zF wS rfl (by omega) fF (Ow.nil _ _ _ _ _) rfl n.b rfl (fun x L=>by rw[bQ.1 L]; exact nV n.C) ?_ ?_ (aD _) ?_)
 .unfold maxLen; show 0+1≤_; decide
 .show (0+1)*208≤_; decide
 intro v z r _ F K;obtain⟨b,c,rfl,-,-,J,-⟩:=r.at_ fF (by decide) (by show 0<1; decide);have q:=(Ow.nil w w.heap.size 55 23 MgV.cells).grew F (aD _);have d:=n.a.grow q;have M:z.cell? ⟨g,0,none⟩=some (.slice none 0 0):=d.cell 0;have I:=d.frozen 0;have f:=d.setCell 0 (.slice (some ⟨b,0,none⟩) 1 c);have c3:=(Chg.refl (fun i=>i=g) z).setCell (.inr rfl) 0 (.slice (some ⟨b,0,none⟩) 1 c);have s:=r.chg_blk d c3 (by decide);obtain⟨A,D⟩:∃W,z.setCell ⟨g,0,none⟩ (.slice (some ⟨b,0,none⟩) 1 c)=W:=⟨_,rfl⟩
 rw[D]at f c3 s;have o:=k'3 f s ((Chg.of_below (S:=fun i=>i=g) q).trans c3 fun _ _ h=>h);have N:=aP (show A.cell? ⟨g,0,none⟩=some (.slice (some ⟨b,0,none⟩) 1 c) from f.cell 0);have O:=aP (show A.cell? ⟨g,1,none⟩=some (.i 1) from f.cell 1);have R:1≤c:=J;clear d f c3 r s q F K;go_wp2_with fail;clear M I P D;refine uT 19 (by kernel_rfl) (by kernel_rfl) ?_;simp only[qK,mZ,dO,dP]
 repeat (go_big_quiet_step (fail))
 refine bH ?_;rintro p ⟨⟨_,k⟩,rfl⟩;have j:=o.a.grow k;have T:p.cell? ⟨g,0,none⟩=some (.slice (some ⟨b,0,none⟩) 1 c):=j.cell 0;have Q:=j.frozen 0;have H:Blk (p.setCell ⟨g,0,none⟩ (.slice (some ⟨b,0,none⟩) 1 c)) g 266 [.slice (some ⟨b,0,none⟩) 1 c,.i 1]:=j.setCell 0 _;have c5:=(Chg.refl (fun i=>i=g) p).setCell (.inr rfl) 0 (.slice (some ⟨b,0,none⟩) 1 c);have l:=k'3 H ((o.b.below k).chg_blk j c5 (by decide)) ((o.C.trans (Chg.of_below (S:=fun i=>i=g) k) fun _ _ h=>h).trans c5 fun _ _ h=>h);clear j H c5 k N O;go_wp2_with fail;go_end0;exact⟨rfl,_,l.a,l.b,l.C⟩
end
section
attribute [-go_sem] loadCellsFrom storeCells run_eql_struct run_neq_struct
attribute [local go_sem] bC MgV.fold fF
def Eh(w:World)(g:Nat)(m:MgV)(W:World):Prop:=∃ev v,Blk W g 266 [v,.i 1]∧Ow W w.heap.size 55 23 v MgV.cells [m.own ev]∧Ow W w.heap.size 46 11 ev En.cells m.es∧Chg (fun i=>i=g) w W
def MgO(B:Nat)(m:MgV)(u:Value)(W:World):Prop:=∃ev,u=.agg (m.own ev).cells.toArray∧Ow W B 46 11 ev En.cells m.es
def MgL(B:Nat)(m:MgV)(u:Value)(W:World):Prop:=∃a ev,u=.slice (some ⟨a,0,none⟩) 1 1∧a<W.heap.size∧Sl W (a+1) u MgV.cells [m.own ev]∧Ow W B 46 11 ev En.cells m.es
theorem aAL{g a:Nat}(m:MgV)(B:Nat)(w:World)(h:Blk w g 266 [.slice none 0 0,.i 1])(O:Sl w B (.slice (some ⟨a,0,none⟩) 1 1) MgV.cells [m])(N:B≤w.heap.size)(R:Sl w B m.ev En.cells m.es)(V:m.es.length≤1000000)(T:m.kind≠0):
  Calls prog 210 #[.pointer (some ⟨g,0,none⟩),.slice (some ⟨a,0,none⟩) 1 1] w fun e w'=>e=.returned (.i 0)∧Eh w g m w':=by
 have l:=k'5 h O N R V;have j0:=T;clear h O N R V;go_enter func210,ntmps210;go_wp2_with fail
 go_loopw [11] (fun i wr=>(i=.i 0∧Bw' w wr)∨(i=.i 1∧Eh w g m wr)) (fun i _=>1-(intOf i).toNat)
 case atStart=>exact .inl ⟨rfl,aL _ _⟩
 case round=>
  rcases hrel with⟨rfl,G⟩|⟨rfl,Z⟩
  .obtain⟨A,cc,K,e0,-,-⟩:=l.b.below G l.c
   cases K;obtain⟨b,o0,K,-,-,U⟩:=dB (P:=prog) 23 MgV.cells fF (by decide) e0 0 (by show 0<1; decide)
   cases K;have l0:Sem.run prog (loadCellsFrom ⟨a,0,none⟩ 0 23 #[]) wr=.ok m.cells.toArray wr:=U 0;obtain⟨j,b0,s2,L,M,-⟩:=fB wr 55 z'7 m.cells rfl (nV l.d.one);have D:=k'2 L (G.on M);have k0:=L.cell 0;change _=some (Value.i m.kind)at k0;clear U L M G;go_wp2_with fail;rw[show (m.kind != 0)=true by simp[T]];clear l0 s2 b0;have p:=k'2 (D.B.on (bR (aL j.heap.size j))) (D.a.below (bR (aL j.heap.size j)) D.a.lt);have HO:=kp (fun(W:World)(b:Below j.drew.heap.size j.drew W)=>aAH m B W (Sl.below l.d (p.a.on b) l.c) (aB l.c (p.a.on b).size) l.E);refine kU 6 (fun W'=>Below j.drew.heap.size j.drew W') (fun _=>rM) (by kernel_rfl) (by kernel_rfl) (aL _ _) ?_
   iterate 4 (refine bO ?_; apply Exists.intro)
   refine bS (MgO j.drew.heap.size m) ?_;refine bS (MgL j.drew.heap.size m) ?_;refine dR ⟨?pers,?walk⟩
   case walk=>
    iterate 4
     apply Sz (by kernel_rfl) (by intro t w h; cases h; exact trivial) rfl
     .intro W' f n; have q1:=(p.B.grow f).load (P:=prog) (k:=23) rfl; go_wp2_with fail;exact⟨rfl,_,rfl,f,aL _ _,rfl⟩
     simp only[Act.put,aN,aH,aI]
    refine⟨fun W' f n=>?_,fun u4=>?_⟩
    .go_wp2_with fail;refine (HO.o W' f).mono ?_;rintro e w2 ⟨v2,rfl,d0,Q⟩;go_wp2_with fail;exact⟨rfl,.agg (m.own v2).cells.toArray,rfl,f.on Q,Q,⟨v2,rfl,Ow.mono d0 f.size⟩⟩
    simp only[Act.put,aN,aH,aI];refine⟨fun W' f n=>?_,fun u5=>?_⟩
    .have f4:=n 22 (bT (by kernel_rfl));obtain⟨ev,rfl,I⟩:=f4;go_wp2_with fail;have z:=eQ (enc:=MgV.cells) W' 55 (m.own ev);have x:=ba' W' (.cells (m.own ev).cells.toArray 55);have r:W'.heap.size<(W'.alloc (.cells (m.own ev).cells.toArray 55)).heap.size:=by simp
     have X:=I.below x;generalize W'.alloc (.cells (m.own ev).cells.toArray 55)=W5 at z x r X ⊢;exact⟨rfl,.slice (some ⟨W'.heap.size,0,none⟩) 1 1,rfl,f.on x,x,⟨W'.heap.size,ev,rfl,r,z,X⟩⟩
    simp only[Act.put,aN,aH,aI];intro W9 f n;have f5:=n 23;obtain⟨F,ev,rfl,m0,a0,J⟩:=f5;clear n;simp only[dO,dP];have y:=p.a.on f;have HA:=kp (aAK (m.own ev) (F+1) W9 (l.a.grow y) a0 J.one);have s:=k'3 J y (l.a.grow y);clear a0 J y f;go_wp2_with fail;refine (HA.o).mono ?_;rintro e g0 ⟨rfl,v,hx,Y,H⟩;have HZ:=kp (show Eh w g m g0 from⟨ev,v,hx,Y.mono s.b.size,(s.a.chg_blk s.C H (by decide)).mono p.a.size,(Chg.of_below (S:=fun i=>i=g) s.b).trans H fun _ _ h=>h⟩);clear hx Y H;go_wp2_with fail;go_roundw
    case rel=>exact .inr ⟨by go_num,HZ.o⟩
    case measure=>simp[intOf]
   case pers=>
    exact⟨pv',pv',pv',pv',fun _ _ _ _ _ ⟨ev,e,h⟩ q=>⟨ev,e,h.below q⟩,fun _ _ _ _ _ ⟨F,ev,e,r,z,I⟩ q=>⟨F,ev,e,eA r q.size,Sl.below z q r,I.below q⟩,trivial⟩
  .have HQ:=kp Z;clear Z;go_wp2_with fail;go_ret;exact⟨rfl,HQ.o⟩
end
section
attribute [-go_sem] loadCellsFrom storeCells
attribute [local go_sem] bC fF
def mX:List Value:=z'7
theorem Nm(w:World)(g b c:Nat)(a:Array Value)(k:TypeId)(h:w.heap[g]? =some (.cells a 55 (0,0)))(f:b+23≤a.size):
  Sem.run prog (Builtin.clear_ #[62] k #[.slice (some ⟨g,b,none⟩) 1 c]) w=.ok (.tuple #[]) (w.setRow g (a.toList.take b++mX++a.toList.drop (b+mX.length)).toArray):=by
 have i:(underlying 62).run prog w=.ok (.slice 55) w:=by simp[run_underlying wS]
 have j:(zeroValue 55).run prog w=.ok (.agg mX.toArray) w:=by simp[mX]
 have d:=run_storeCells_at prog g b 55 mX 0 a w h (by simpa [mX] using f) (by simp[mX,Value.oneCell']);simp only[cF]at d;have e:(Builtin.zeroCells (Value.agg mX.toArray).cells 1).toList=mX:=by kernel_rfl
 unfold Builtin.clear_;simp only[Sem.run_bind,i,Result.andThen_ok,Ew,aG,j,e,d,Sem.run_pure]
theorem aAM{S:Nat→Prop}{v:Value}{l:List MgV}(i j:Nat)(w:World)(h:OR w S 55 23 v MgV.cells l)(o0:∀u∈aM MgV.cells l,u.oneCell'=true)(W:i<l.length)(L:j=i+1):
  Calls prog 236 #[v,.i i,.i j] w fun e w'=>∃v',e=.returned v'∧OR w' S 55 23 v' MgV.cells (l.eraseIdx i)∧Chg (fun k=>some k=v.ownBlock) w w'∧v'.ownBlock=v.ownBlock:=by
 unfold OR at *;obtain⟨g,m,cap,p,rfl,hs,hg,X,hm,y0,O⟩:=h.form (by omega);obtain⟨n,N⟩:=nm' l.length;rw[N]at W X O h ⊢;have H:=k'7 h hs hg y0 O o0 N;have HJ:=kp L;have Q:=kp (show (l.eraseIdx i).length=n-1 by rw[Oy,N,aE W]);clear h hs hg y0 O o0 N;have a1:((i:Int)==(j:Int))=false:=by simp; omega
 have a2:(j:Int)≤(n:Int):=by omega
 have a3:(n:Int)≤(cap:Int):=by omega
 have a4:(i:Int)≤(cap:Int):=by omega
 have a5:(i:Int)≤(j:Int):=by omega
 obtain⟨i0,l0,d2,z0,e2⟩:=info_parts zF;obtain⟨r,P⟩:=nm' w.drew;have j0:r.heap[g]? =some (.cells p 55 (0,0)):=by rw[←P]; exact H.c
 have a0:Chg (fun k=>some k=(Value.slice (some ⟨g,m,none⟩) n cap).ownBlock) w r:=by rw[←P]; exact (Chg.refl _ _).drew
 have p0:Rd r r.heap.size (some ⟨g,m,none⟩) (aM MgV.cells l):=by rw[←P]; exact H.a.rd
 have B:=k'3 j0 a0 p0; clear j0 a0 p0;have Y:=kp P; clear P;have g0:∀(I F:List Value)(s:World)(q:Array Value),(aM MgV.cells l).drop (j*23)=I→q=(p.toList.take (m+i*23)++I++p.toList.drop (m+i*23+I.length)).toArray→F.length=23→s=(r.setRow g q)→
   m+(n-1)*23+F.length≤q.size∧aO (s.setRow g (q.toList.take (m+(n-1)*23)++F++q.toList.drop (m+(n-1)*23+F.length)).toArray) S 55 23 (.slice (some ⟨g,m,none⟩) (n-1) cap) (n-1) (aM MgV.cells (l.eraseIdx i))∧
    Chg (fun k=>some k=(Value.slice (some ⟨g,m,none⟩) n cap).ownBlock) w (s.setRow g (q.toList.take (m+(n-1)*23)++F++q.toList.drop (m+(n-1)*23+F.length)).toArray):=by
  intro I F s q m0 x g2 y;subst y;have N:I.length=(n-j)*23:=by rw[←m0,dX,eB 23 fF,H.G,iF]
  have d0:cap*23≤p.size-m:=by have:=H.d; omega
  have q1:n*23≤cap*23:=dV _ X;have o1:i*23+23≤n*23:=by have:=dV 23 W; omega
  have p1:j*23=i*23+23:=by rw[L]; omega
  have y1:(n-j)*23=n*23-j*23:=iF ..;have M:(n-1)*23=n*23-23:=by rw[iF]
  have z1:q.size=p.size:=by
   rw[x];simp only[gT,bB,cZ,dX,hP];omega
  have D:=setRow_heap r g p q 55 (0,0) B.a;refine⟨by omega,⟨?_,.inr ⟨g,m,cap,_,rfl,H.b,setRow_heap _ g q _ _ (0,0) D,by omega,hm,?_,?_⟩⟩,?_⟩
  .rw[eB 23 fF,Q.o]
  .simp only[gT,bB,cZ,dX,hP];omega
  .rw[←Cx 23 fF];simp only[cR];rw[nZ (by simp; omega),sQ (by simp; omega),oD,show m+(n-1)*23-m=(n-1)*23 by omega,kN,Nat.min_self];rw[x];simp only[cR];rw[nZ (by simp; omega),qP,oD,show m+i*23-m=i*23 by omega,cZ,dX,hP,
    show min (i*23) (p.size-m)=i*23 by omega,kN,show min ((n-1)*23) (i*23)=i*23 by omega]
   rw[qP,show (n-1)*23-i*23=I.length by omega,Ab,qS,mZ,fS,←m0,L]
   congr 1
   have O:=H.e;rw[←O,kN]
   congr 1
   omega
  .exact (B.b.setRow (.inr (by simp[Value.ownBlock])) _).setRow (.inr (by simp[Value.ownBlock])) _
 have U:=kp g0; clear g0;have b0:∀t u,(aM MgV.cells l)[t]? =some u→r.cell? ⟨g,m+t,none⟩=some u:=by
  intro t u A;rcases B.C with h|⟨b',j2,e,_,hc⟩
  .rw[h]at A; cases A
  .cases e;exact hc t u A
 have d1:=kp b0; clear b0;obtain⟨E,M⟩:=nm' (n-1);rw[M]at U Q;have b1:(E:Int)≤(n:Int):=by omega
 have b2:n-E=1:=by omega
 have b3:¬cap=E:=by omega
 have l1:=kp b2;have V:=kp (show (aM MgV.cells l).length=n*23 by rw[eB 23 fF,H.G]);have m1:=k'2 M b3
 by_cases j1:cap=j
 .subst j1;obtain rfl:n=cap:=by omega
  have Z:i=E:=by omega
  have E0:=kp Z;have T:=kp (show (aM MgV.cells l).drop (n*23)=[] from gS (by rw[V.o]; exact aD _));have R:m+i*23+0≤p.size:=by have:=H.d; omega
  clear L M Z;go_enter func236,ntmps236;go_wp2_with fail
  go_still_tail 6,(by kernel_rfl)
  change wpList _ _ _ _ _ w.drew;rw[Y.o];refine tQ r rfl (.tmp 22) (.tmp 25) _ rfl 55 i0 23 wS l0 z0 g m i n p B.a rfl ⟨g,m,none⟩ 0 0 [] rfl rfl (by intro j u h; cases h) (by intro u h; cases h) (by omega) R ?_;obtain⟨s,y⟩:=nm' (r.setRow g (p.toList.take (m+i*23)++[]++p.toList.drop (m+i*23+([]:List Value).length)).toArray);rw[y,cF,E0.o];have K:=kp y; clear y;obtain⟨q,x⟩:=nm' ((p.toList.take (m+i*23)++[]++p.toList.drop (m+i*23+([]:List Value).length)).toArray);have z:=U.o [] mX s q T.o x.symm rfl (by rw[←K.o,x]);have D:s.heap[g]? =some (.cells q 55 (0,0)):=by rw[←K.o,x]; exact setRow_heap r g p _ _ _ B.a
  have d0:=fun c=>Nm s g (m+E*23) c q 0 D z.1;simp only[cR]at z;have J:=kp z;clear z D x;go_wp2_with fail;go_ret;refine⟨_,rfl,?_,J.C,rfl⟩;rw[Q.o];exact J.b
 .have g1:=kp (show i+(n-j)=E by omega);have R:m+i*23+((aM MgV.cells l).drop (j*23)).length≤p.size:=by
   rw[dX,V.o];have:=H.d;have h1:n*23≤cap*23:=dV _ X;have h2:i*23≤j*23:=dV _ (by omega);have h3:j*23≤n*23:=dV _ (by omega);omega
  have q0:i+(n-j)≤cap:=by omega
  have T:=kp (show ((aM MgV.cells l).drop (j*23)).length=(n-j)*23 by rw[dX,V.o,iF]);have e1:=kp (show ∀u∈(aM MgV.cells l).drop (j*23),u.oneCell'=true from fun u A=>H.f u (zS A));clear L M;go_enter func236,ntmps236;go_wp2_with fail
  go_still_tail 6,(by kernel_rfl)
  change wpList _ _ _ _ _ w.drew;rw[Y.o];refine tQ r rfl (.tmp 22) (.tmp 25) _ rfl 55 i0 23 wS l0 z0 g m i cap p B.a rfl ⟨g,m+j*23,none⟩ (n-j) (cap-j) ((aM MgV.cells l).drop (j*23)) rfl T.o ?_ e1.o q0 R ?_
  .intro t u A;rw[Addr.add_lit,oE];exact d1.o _ u (by rw[mG]at A; exact A)
  obtain⟨s,y⟩:=nm' (r.setRow g (p.toList.take (m+i*23)++(aM MgV.cells l).drop (j*23)++p.toList.drop (m+i*23+((aM MgV.cells l).drop (j*23)).length)).toArray);rw[y,g1.o];have K:=kp y; clear y;obtain⟨q,x⟩:=nm' ((p.toList.take (m+i*23)++(aM MgV.cells l).drop (j*23)++p.toList.drop (m+i*23+((aM MgV.cells l).drop (j*23)).length)).toArray);have z:=U.o _ mX s q rfl x.symm rfl (by rw[←K.o,x]);have D:s.heap[g]? =some (.cells q 55 (0,0)):=by rw[←K.o,x]; exact setRow_heap r g p _ _ _ B.a
  have d0:=fun c=>Nm s g (m+E*23) c q 0 D z.1;simp only[cR]at z;have J:=kp z;clear z D x R q0;go_wp2_with fail;go_ret;refine⟨_,rfl,?_,J.C,rfl⟩;rw[Q.o];exact J.b
end
section
attribute [-go_sem] loadCellsFrom storeCells run_eql_struct run_neq_struct
attribute [local go_sem] bC MgV.fold fF
theorem aAN{g B:Nat}{v:Value}(m:MgV)(w:World)(h:Blk w g 266 [v,.i 1])(s:Ow w B 55 23 v MgV.cells [m])(D:m.ev.oneCell'=true):
  Calls prog 211 #[.pointer (some ⟨g,0,none⟩),.i 0] w fun e w'=>e=.returned (.tuple #[.agg m.cells.toArray,.i 0])∧Chg (fun k=>k=g∨v.ownBlock=some k) w w':=by
 obtain⟨b,c,rfl,-,-,Q,-⟩:=s.at_ fF (by decide) (by show 0<1; decide);obtain⟨n,j0,z0,r,Y⟩:=par w 55 z'7;have C:=h.grow r;have G:=s.below r;have a0:=kp (aAJ n C);have q0:n.cell? ⟨g,0,none⟩=some (.slice (some ⟨b,0,none⟩) 1 c):=C.cell 0;obtain⟨A,cc,F,V,-,-⟩:=G.sl fF
 cases F;obtain⟨_,_,F,-,-,T⟩:=dB (P:=prog) 23 MgV.cells fF (by decide) V 0 (by show 0<1; decide)
 cases F;have l0:Sem.run prog (loadCellsFrom ⟨b,0,none⟩ 0 23 #[]) n=.ok m.cells.toArray n:=T 0;obtain⟨O,m0,s1,x1,p,-⟩:=fB n 55 z'7 m.cells rfl (nV D);have K:=C.grow p;have z1:=z0.grow p;have H:=G.below p;have q1:O.cell? ⟨g,0,none⟩=some (.slice (some ⟨b,0,none⟩) 1 c):=K.cell 0;have R:=aAM (S:=fun _=>True) (l:=[m]) 0 1 O (aO.of_own H fun _ _ _=>trivial) (fun u y=>by rw[show aM MgV.cells [m]=m.cells++[] from rfl,fS]at y; exact nV D u y) (by show 0<1; decide) rfl;have HD:=kp R;have HM:=kp (nV D);have j:=k'9 x1 K z1 H r p Y h.lt s;have hc:1≤c:=Q;clear C G z0 r V T x1 K z1 H p R h s Y Q;go_enter func211,ntmps211;go_wp2_with fail;refine ms' (a0.o) ?_;go_wp2_with fail;refine (HD.o).mono ?_;rintro e z ⟨Z,rfl,x,q,-⟩;have x:OR z (fun _=>True) 55 23 Z MgV.cells []:=x;obtain⟨N,c2,rfl,-⟩:∃A k,Z=.slice A 0 k∧_:=aO.slice x;have U:(Value.slice (some ⟨b,0,none⟩) 1 c).ownBlock≠some g:=j.d.ne_blk j.b (by decide);have e0:b<w.heap.size:=(j.I.lt rfl).2;have g0:=j.h;have X:=j.g;have E:∀k,w.heap.size≤k→¬some k=(Value.slice (some ⟨b,0,none⟩) 1 c).ownBlock:=fun k hk e=>by
  have e:some k=some b:=e
  cases e;omega
 have L:=j.b.chg q fun e=>U e.symm;have x2:=j.a.chg q (E _ (dY X));have z2:=j.c.chg q (E _ (aD _));have k2:z.cell? ⟨g,0,none⟩=some (.slice (some ⟨b,0,none⟩) 1 c):=L.cell 0;have f2:=L.frozen 0;have c3:=(Chg.refl (fun i=>i=g) z).setCell (.inr rfl) 0 (.slice N 0 c2);have J:=x2.chg c3 (by omega);have M:=z2.chg c3 (by omega);obtain⟨W3,d0⟩:∃W,z.setCell ⟨g,0,none⟩ (.slice N 0 c2)=W:=⟨_,rfl⟩
 rw[d0]at c3 J M;have l3:=J.load (P:=prog) (k:=23) rfl;obtain⟨W4,p0,s4,x4,c4⟩:=M.put m.cells rfl (fun u y=>HM.o u y);have l4:=x4.load (P:=prog) (k:=23) rfl;have HF:=kp (show Chg (fun k=>k=g∨(Value.slice (some ⟨b,0,none⟩) 1 c).ownBlock=some k) w W4 from
  ((((Chg.of_below j.e).trans (Chg.of_below (S:=fun _=>False) j.f) fun _ _ h=>h.elim).trans q fun i _ h=>.inr h.symm).trans c3 fun i _ h=>.inl h).trans c4 fun i hi h=>by omega)
 clear L x2 z2 J M x4 c3 c4 q x E U e0 g0 X q1;go_wp2_with fail;exact aU (v:=.tuple #[.agg m.cells.toArray,.i 0]) (by simp[results,results211,go_sem,l4]) rfl ⟨rfl,HF.o⟩
end
end Go.Proofs.YtdoopoapbffpbaaGreat
