import Derived.Test.YtdoopoapbffpbaaGreatZ15
import Derived.Test.YtdoopoapbffpbaaGreatZ42
namespace Go.Proofs.YtdoopoapbffpbaaGreat
open Go.RowKit Go.Proofs.Tryz
set_option maxRecDepth 100000
set_option maxHeartbeats 12800000
set_option linter.unusedVariables false
set_option linter.unusedSimpArgs false
section
attribute [-go_sem] loadCellsFrom storeCells run_eql_struct run_neq_struct Instr.build
attribute [local go_sem] bC VoV.fold
theorem aAs{id nodes:Int}{k:KpV}{q:StV}{a:List ObV}{v:Value}(h:RpS (jP id nodes k q) a):RpS (jP id nodes (k.own v) q) a:=⟨h.k,h.s,h.l,h.v,h.r,h.z⟩
def Nh(id nodes:Int)(k:KpV)(q:StV)(base:Nat)(z:Value)(W:World):Prop:=∃v,z=.agg (jP id nodes (k.own v) q).cells.toArray∧Ow W base 46 11 v En.cells k.es
def Ni(k:KpV)(base:Nat)(z:Value)(W:World):Prop:=∃v,z=.agg (k.own v).cells.toArray∧Ow W base 46 11 v En.cells k.es
def AtR(base:Nat)(z:Value)(W:World):Prop:=∃a,z=.pointer (some ⟨a,0,none⟩)∧base≤a∧Blk W a 39 dN
theorem aAt(id nodes:Int)(k:KpV)(B:Nat)(w:World)(h:fL w B k)(hB:B≤w.heap.size)(G:KdR k.x∧k.es.length≤1000000∧k.image.size≤1000000)(hr:inR id∧inR nodes∧inR k.base):
  Calls prog 9 #[.i id,.i nodes,.agg k.cells.toArray] w (Nc w (kC id nodes k.x)):=by
 rw[Nb];obtain⟨o,s⟩:=nm' (dM (jK k.image));rw[show dM (jK k.x.image)=o from s];obtain⟨O,r⟩:∃O,(if dI (kW id nodes k.x (o.getD kF))=true then some (kW id nodes k.x (o.getD kF)) else none)=O:=⟨_,rfl⟩
 rw[r];obtain⟨W1,p1,y1,b1,z1⟩:=par w 24 k.cells;obtain⟨W2,o0,x2,L,z2⟩:=par W1 39 dN;unfold dN at o0;have hb:=b1.on L;have k3:=(y1.grow L).cell 3;change _=some (Value.string k.image)at k3;obtain⟨c5,W5,e2,C,d1,e1,a1,z0⟩:=oT W2 k.image (aB G.2.2 (by decide));have J:=k'5 C d1 e1 a1 z0;have z:=k'4 ((y1.grow L).grow C) (x2.grow C) (hb.on C) z1;have y:=k'4 h hB G hr;have HO:=k'2 s r;clear C d1 e1 a1 z0 hb y1 b1 z1 x2 L z2 h hB G hr s r;go_enter func9,ntmps9;go_wp2_with fail;clear e2 p1 o0 k3;refine (Dy _ _ _ _ k.image.data.toList W5 J.b J.c (mD _) J.d J.E).mono ?_;rintro e w6 ⟨q,qs,rfl,b0,a0,q0⟩;have s:dM k.image.data.toList=o:=HO.a;rw[s]at b0 ⊢;obtain⟨gc,y0⟩:∃gc:Int,(if o.isSome=true then 0 else 60)=gc:=⟨_,rfl⟩
 rw[y0];clear y0;obtain⟨j,d2,s7,x7,V,z7⟩:=fB w6 32 z'2 q.cells rfl (StV.one a0.st);have N:=bR (aL j.heap.size j);have M:=(q0.on V).on N;have l:=k'5 (z.a.grow M) (z.b.grow M) (z.c.on M) (x7.grow N) ((a0.ws.mono z.c.size).below (V.on N));have S:=k'2 s b0;clear a0 q0 x7 V z7 N M s b0;go_wp2_with fail;clear s7 d2;have m1:=kp (fun(W:World)(hw:Below j.drew.heap.size j.drew W)=>uA.1 k B W (Sl.below y.a (l.c.on hw) y.b) (aB y.b (l.c.on hw).size) y.c.2.1);refine kU 9 (fun W'=>Below j.drew.heap.size j.drew W') (fun _=>rM) (by kernel_rfl) (by kernel_rfl) (aL _ _) ?_
 iterate 3 (refine bO ?_; apply Exists.intro)
 refine bS (Ni k j.drew.heap.size) ?_
 iterate 3 (refine bO ?_; apply Exists.intro)
 refine bS (Nh id nodes k q j.drew.heap.size) ?_;refine bS (AtR j.drew.heap.size) ?_;refine dR ⟨?pers,?walk⟩
 case walk=>
  iterate 3
   apply Sz (by kernel_rfl) (by intro t w h; cases h; exact trivial) rfl
   .intro W' f n; have q1:=(l.a.grow f).load (P:=prog) (k:=5) rfl; go_wp2_with fail;exact⟨rfl,_,rfl,f,aL _ _,rfl⟩
   simp only[Act.put,aN,aH,aI]
  refine⟨fun W' f n=>?_,fun u3=>?_⟩
  .go_wp2_with fail;refine (m1.o W' f).mono ?_;rintro e w2 ⟨v2,rfl,j2,p0⟩;go_wp2_with fail;exact⟨rfl,_,rfl,f.on p0,p0,⟨v2,rfl,Ow.mono j2 f.size⟩⟩
  simp only[Act.put,aN,aH,aI]
  iterate 3
   apply Sz (by kernel_rfl) (by intro t w h; cases h; exact trivial) rfl
   .intro W' f n; have q1:W'.cell? ⟨w.heap.size,2,none⟩=some (.i k.base):=(l.a.grow f).cell 2; have q2:=(l.d.grow f).load (P:=prog) (k:=9) rfl; go_wp2_with fail;exact⟨rfl,_,rfl,f,aL _ _,rfl⟩
   simp only[Act.put,aN,aH,aI]
  refine⟨fun W' f n=>?_,fun u7=>?_⟩
  .have h3:Ni k j.drew.heap.size u3 W':=n 21 (bT (by kernel_rfl));obtain⟨v,rfl,H⟩:=h3;clear n;go_wp2_with fail;exact⟨rfl,_,rfl,f,aL _ _,⟨v,rfl,H⟩⟩
  simp only[Act.put,aN,aH,aI];refine⟨fun W' f n=>?_,fun u8=>?_⟩
  .have x8:=Blk.new W' 39 dN;have cD:=ba' W' (.cells dN.toArray 39);go_wp2_with fail;exact⟨rfl,_,rfl,f.on cD,cD,⟨W'.heap.size,rfl,f.size,x8⟩⟩
  simp only[Act.put,aN,aH,aI];intro U f n;have f7:Nh id nodes k q j.drew.heap.size u7 U:=n 25;have f8:AtR j.drew.heap.size u8 U:=n 10;clear n;simp only[dO,dP];obtain⟨v,rfl,H⟩:=f7;obtain⟨a,rfl,g2,Q⟩:=f8;obtain⟨T,a2,m2,l0,c10⟩:=Q.put (jP id nodes (k.own v) q).cells rfl (gR (Eg (w:=U) (k:=k.own v) (H.sl eL) (l.E.below f).st rfl));have F:=l.c;have g0:RpO T w.heap.size (jP id nodes (k.own v) q) qs:=⟨(H.mono F.size).chg_blk Q c10 (by decide),(l.E.below f).chg Q c10 (by decide) (by decide) (by decide) (by decide),Ow.nil _ _ _ _ _,Ow.nil _ _ _ _ _,fun _ h=>(nomatch h),Ow.nil _ _ _ _ _⟩
  have l1:=(l.b.grow f).chg c10 (show ¬W1.heap.size=a from fun e=>by have:=l.b.lt; omega);have m0:=(F.on f).trans (c10.below (B:=w.heap.size) (fun i hi=>by have:=F.size; omega) (F.on f).size);have g1:=aAs (v:=v) (Nf (id:=id) (nodes:=nodes) y.c y.D (Nd S.a S.B l.E.st));have d0:(jP id nodes (k.own v) q).x=kW id nodes k.x (o.getD kF):=by rw[←S.B]; rfl
  have HC:=kp (zB (jP id nodes (k.own v) q) qs T.heap.size T g0.rpAt (aD _) g1);obtain⟨g,Z⟩:=nm' (dI (kW id nodes k.x (o.getD kF)));rw[d0,Z]at HC;have X:=HO.B;rw[Z]at X;have R:=k'2 X d0;have p:=k'4 l0 g0 l1 m0;have l2:=l0.load (P:=prog) (k:=26) rfl;clear f H g2 Q l0 c10 F g0 l1 m0 g1 d0 Z X a2;go_wp2_with fail;refine mb' (HC.o) fun j1 m=>?_;clear l2 m2
  cases g
  case false=>
   obtain⟨o1,Y,o2,I,c12⟩:=(p.c.grow m).put jX.cells rfl (gR (oW j1 j1.heap.size).rpAt);have e0:=I.load (P:=prog) (k:=26) rfl;have K:=kp ((p.D.on m).trans (c12.below (B:=w.heap.size) (fun i hi=>by have:=z.D; omega) (p.D.on m).size));have r:=R.a;obtain rfl:O=none:=by rw[←r]; rfl
   clear I c12 Y m r;go_wp2_with fail;exact aU (v:=.tuple #[.agg jX.cells.toArray,.i 1]) (by simp[results,results9,go_sem,e0]) rfl ⟨jX,[],rfl,rfl,oW _ _,K.o⟩
  have r:=R.a;obtain rfl:O=some (kW id nodes k.x (o.getD kF)):=by rw[←r]; rfl
  have p2:=(p.a.grow m).load (P:=prog) (k:=26) rfl;have j0:=p.b.below m;obtain⟨o1,Y,o2,I,c12⟩:=(p.c.grow m).put (jP id nodes (k.own v) q).cells rfl (gR j0.rpAt);have e0:=I.load (P:=prog) (k:=26) rfl;have K:=k'2 (j0.chg (p.c.grow m) c12 (by decide)) ((p.D.on m).trans (c12.below (B:=w.heap.size) (fun i hi=>by have:=z.D; omega) (p.D.on m).size));clear r j0 m I c12 Y;go_wp2_with fail;exact aU (v:=.tuple #[.agg (jP id nodes (k.own v) q).cells.toArray,.i 0]) (by simp[results,results9,go_sem,e0]) rfl ⟨jP id nodes (k.own v) q,qs,rfl,R.B,K.a,K.B⟩
 case pers=>exact⟨pv',pv',pv',fun _ _ _ _ _ ⟨v,e,h⟩ A=>⟨v,e,h.below A⟩,pv',pv',pv',fun _ _ _ _ _ ⟨v,e,h⟩ A=>⟨v,e,h.below A⟩,fun _ _ _ _ _ ⟨a,e,h,G⟩ A=>⟨a,e,h,G.grow A⟩,trivial⟩
end
section
attribute [-go_sem] loadCellsFrom storeCells run_eql_struct run_neq_struct
attribute [local go_sem] bC VoV.fold
def st3:St:=⟨Uj 3,[]⟩
def kd3:Kd:=⟨0,0,0,iP st3,[]⟩
def kp3:KpV:=⟨0,0,0,iP st3,[],.slice none 0 0⟩
theorem Nj:stB st3=true:=by decide+kernel
theorem aAu(q:HpV)(w:World):(Instr.build 32 #[(0,.agg q.cells.toArray)]).run prog w=.ok (.agg (StV.cells ⟨q,[],.slice none 0 0⟩).toArray) w:=run_build w _ _ _ (by kernel_rfl)
theorem aAv(s:ByteArray)(w:World):(Instr.build 24 #[(3,.string s)]).run prog w=.ok (.agg (KpV.cells ⟨0,0,0,s,[],.slice none 0 0⟩).toArray) w:=run_build w _ _ _ (by kernel_rfl)
attribute [go_sem] aAu aAv
def kJ(v:Value):HpV:=⟨⟨3,1,0,0,0,0,[],[⟨0,3⟩]⟩,.slice none 0 0,v⟩
theorem aAw(w:World):
  Calls prog 208 #[.i 3] w fun e l=>∃v,e=.returned (.tuple #[.agg (kJ v).cells.toArray,.i 0])∧Ow l w.heap.size 88 2 v Bk.cells [⟨0,3⟩]∧Bw' w l:=by
 have n:=kp (fun W=>by have:=Cw 3 W; rw[show cP 3=true from rfl]at this; exact this);go_enter func208,ntmps208;go_wp2_with fail;refine (n.o _).mono ?_;rintro e m ⟨v,rfl,j,g⟩;have h:=(Blk.new w 29 z'1).below g (by simp);have k:=fun r z f=>h.store (P:=prog) (cs':=r) z f;have d:=k'3 j g h;clear j g h;obtain⟨A,c,rfl,B⟩:=d.a.sl bM;have f:=k (HpV.cells ⟨⟨3,1,0,0,0,0,[],[⟨0,3⟩]⟩,.slice none 0 0,.slice A 1 c⟩) rfl (HpV.one rfl rfl);clear k B;unfold HpV.cells at f;go_wp2_with fail;have q:=kp (d.C.set (HpV.cells ⟨⟨3,1,0,0,0,0,[],[⟨0,3⟩]⟩,.slice none 0 0,.slice A 1 c⟩));have p:=kp (cL ((ba' w _).trans (d.b.mono (by simp))) (aD _) (HpV.cells ⟨⟨3,1,0,0,0,0,[],[⟨0,3⟩]⟩,.slice none 0 0,.slice A 1 c⟩).toArray);have s:Ow _ _ 88 2 (.slice A 1 c) Bk.cells [⟨0,3⟩]:=d.a.chg ((Chg.refl (fun i=>i=w.heap.size) m).setRow (.inr rfl) (HpV.cells ⟨⟨3,1,0,0,0,0,[],[⟨0,3⟩]⟩,.slice none 0 0,.slice A 1 c⟩).toArray) fun i y e=>by have:=(d.a.lt y).1; simp at this; omega
 have x:Sem.run prog (loadCellsFrom ⟨w.heap.size,0,none⟩ 0 8 #[]) (m.setRow w.heap.size #[.i 3,.slice none 0 0,.i 1,.i 0,.i 0,.i 0,.i 0,.slice A 1 c])=.ok #[.i 3,.slice none 0 0,.i 1,.i 0,.i 0,.i 0,.i 0,.slice A 1 c] _:=q.o.load (P:=prog) rfl;exact aU (v:=.tuple #[.agg (HpV.cells ⟨⟨3,1,0,0,0,0,[],[⟨0,3⟩]⟩,.slice none 0 0,.slice A 1 c⟩).toArray,.i 0]) (by simp[results,results208,go_sem,x,HpV.cells]) rfl ⟨_,rfl,Ow.mono s (by simp),p.o⟩
attribute [-go_sem] Instr.build
theorem aAx(w:World):
  Calls prog 157 #[.i 3] w fun e p=>∃v,e=.returned (.tuple #[.agg (StV.cells ⟨kJ v,[],.slice none 0 0⟩).toArray,.i 0])∧Ow p w.heap.size 88 2 v Bk.cells [⟨0,3⟩]∧Bw' w p:=by
 obtain⟨y,z,q,m,E⟩:=par w 32 mF;unfold mF at z;have f:=k'2 q m;have x:=kp (aAw y);clear q m E;go_enter func157,ntmps157;go_wp2_with fail;refine (x.o).mono ?_;rintro e D ⟨v,rfl,d,h⟩;obtain⟨F,H,K,r,c,-⟩:=fB D 29 z'1 (kJ v).cells rfl (HpV.one rfl d.one);have J:=r.load (P:=prog) (k:=8) rfl;have n:=d.below c;have j:=(f.a.grow h).grow c;obtain⟨G,A,L,s,c4⟩:=j.put (StV.cells ⟨kJ v,[],.slice none 0 0⟩) rfl (fun u b=>by
  rcases dF.1 b with b|b
  .exact HpV.one rfl d.one u b
  .rw[bQ.1 b]; rfl)
 have C:=s.load (P:=prog) (k:=9) rfl;have g:=f.B.on (h.on c);have l:=k'2 ((n.chg_blk j c4 (by decide)).mono f.B.size) (g.trans (c4.below (B:=w.heap.size) (fun i I=>by omega) g.size));clear d h r c n j s c4 g A;go_wp2_with fail;exact aU (v:=.tuple #[.agg (StV.cells ⟨kJ v,[],.slice none 0 0⟩).toArray,.i 0]) (by simp[results,results157,go_sem,C]) rfl ⟨v,rfl,l.a,l.B⟩
theorem aAy{w:World}{base:Nat}{v:Value}(h:Ow w base 88 2 v Bk.cells [⟨0,3⟩]):Ws w base ⟨kJ v,[],.slice none 0 0⟩ []:=
 ⟨⟨aO.nil _ _ _ _,⟨fun _ h=>(nomatch h),.nil⟩,rfl,OR.of_ow h fun _ h _=>h⟩,aO.nil _ _ _ _⟩
theorem aAz(w:World):
  Calls prog 102 #[.i 3] w fun e R=>e=.returned (.tuple #[.agg kp3.cells.toArray,.i 0])∧Bw' w R:=by
 obtain⟨I,J,A,p,T⟩:=par w 24 z'8;have l:=k'2 A p;have G:=kp (aAx I);clear A p T;go_enter func102,ntmps102;go_wp2_with fail;refine (G.o).mono ?_;rintro e S ⟨v,rfl,r,f⟩;have j:=aAy r;obtain⟨n,K,Q,C,b,-⟩:=fB S 32 z'2 (StV.cells ⟨kJ v,[],.slice none 0 0⟩) rfl (StV.one j.st);have N:=C.load (P:=prog) (k:=9) rfl;have H:=kp (by
  have:=Mr ⟨kJ v,[],.slice none 0 0⟩ [] n.heap.size n (j.below b).st (aD _) (by simp) (by show ([⟨0,3⟩]:List Bk).length≤900000; simp) (by simp);rw[show stB (StV.x ⟨kJ v,[],.slice none 0 0⟩)=true from Nj]at this;exact this)
 have d:=k'2 (l.a.grow (f.on b)) (l.B.on (f.on b));clear r f j C b;go_wp2_with fail;refine (H.o).mono ?_;rintro e z ⟨X,rfl,s,c⟩;rw[show eN 60 true=0 from rfl];obtain⟨E,c4,rfl,h⟩:=s rfl;rw[show StV.x ⟨kJ v,[],.slice none 0 0⟩=st3 from rfl]at h ⊢;have g:=sY (P:=prog) z 78 9 5 pG sX oG z.heap.size E (gI st3).length c4 (gI st3) h rfl;rw[show (⟨(gI st3).toArray⟩:ByteArray)=iP st3 by unfold iP; rw[aE Nj]]at g;obtain⟨m,q⟩:=nm' ((gI st3).length);rw[q]at g ⊢;obtain⟨U,L,y,D,c5⟩:=(d.a.grow c).put kp3.cells rfl (mW rfl);have O:=D.load (P:=prog) (k:=5) rfl;have F:=kp ((d.B.on c).trans (c5.below (B:=w.heap.size) (fun i V=>by omega) (d.B.on c).size));unfold kp3 at y;clear s h q c D c5 L N Q K J;obtain⟨W,M⟩:=nm' (iP st3);rw[M]at g y;go_wp2_with fail;exact aU (v:=.tuple #[.agg kp3.cells.toArray,.i 0]) (by simp[results,results102,go_sem,O]) rfl ⟨rfl,F.o⟩
end
section
def rT(t:Int):Rp:=⟨2,3,kd3,0,st3,t,[],[],[],jL⟩
theorem aA9:dM (jK kd3.image)=some st3:=by decide+kernel
theorem zJ:∀n∈List.range 14,dI (rT ((n:Nat):Int))=true:=by decide+kernel
theorem Eo(t:Int):gM (rT t)=false:=rfl
theorem Oe:kC 2 3 kd3=some (rT 0):=by
 unfold kC;rw[aA9];show (if dI (rT 0)=true then some (rT 0) else none)=some (rT 0);rw[aE (show dI (rT 0)=true from zJ 0 (by decide))]
theorem aBa(n:Nat)(h:n<13):cU (rT n)=(rT (n+1:Nat),[],[]):=by
 unfold cU;rw[aE (zJ n (List.mem_range.2 (by omega))),aC (by rw[Eo]; decide),aC (by show ¬(10+2*(2:Int)≤min ((n:Int)+1) 1000); omega)];show ((⟨2,3,kd3,0,st3,min ((n:Int)+1) 1000,[],[],[],jL⟩:Rp),([]:List Rc),([]:List Mg))=_;rw[show min ((n:Int)+1) 1000=((n+1:Nat):Int) by omega];rfl
theorem aBb:cU (rT 13)=(rI (rT 13),[vE 1],[nL 2 1 1,nL 2 1 3]):=by
 unfold cU;rw[aE (show dI (rT 13)=true from zJ 13 (by decide)),aC (by rw[Eo]; decide),aE (by decide)];rfl
def sN:Nat→Rp×List Rc×List Mg
 |0=>(rT 0,[],[])
 |k+1=>cU (sN k).1
theorem Of:∀n,n<14→(sN n).1=rT n
 |0,_=>rfl
 |n+1,h=>by
  show (cU (sN n).1).1=_;rw[Of n (by omega),aBa n (by omega)]
theorem aBc:sN 14=(rI (rT 13),[vE 1],[nL 2 1 1,nL 2 1 3]):=by
 show cU (sN 13).1=_;rw[Of 13 (by omega)];exact aBb
end
end Go.Proofs.YtdoopoapbffpbaaGreat
