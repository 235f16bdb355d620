import Derived.Test.YtdoopoapbffpbaaGreatZ41
namespace Go.Proofs.YtdoopoapbffpbaaGreat
open Go.RowKit Go.Proofs.Tryz
set_option maxRecDepth 100000
set_option maxHeartbeats 12800000
set_option linter.unusedVariables false
set_option linter.unusedSimpArgs false
section
attribute [-go_sem] loadCellsFrom storeCells run_eql_struct run_neq_struct
attribute [local go_sem] bC
theorem VoV.fold(p:VoV):List.foldl (fun(cs:Array Value)(x:Value×Nat)=>cs.setIfInBounds x.snd x.fst) z'6a p.cells.zipIdx=p.cells.toArray:=by
 obtain⟨a,b,c,d,e,f,g⟩:=p;simp[VoV.cells]
attribute [local go_sem] VoV.fold
structure RpO(w:World)(base:Nat)(p:RpV)(ps:List ObV):Prop where
 es:Ow w base 46 11 p.k.ev En.cells p.k.es
 st:Ws w base p.s ps
 starts:Ow w base 3 1 p.sv i1 p.starts
 votes:Ow w base 84 6 p.vv VoV.cells p.votes
 ves:∀v∈p.votes,Ow w base 46 11 v.ev En.cells v.es
 acks:Ow w base 92 2 p.av Ak.cells p.acks
section
variable {w w':World}{base base2 b:Nat}{p:RpV}{ps:List ObV}{t:TypeId}{cs:List Value}
theorem RpO.below(h:RpO w base p ps)(a:Bw' w w'):RpO w' base p ps:=⟨h.es.below a,h.st.below a,h.starts.below a,h.votes.below a,fun v b=>(h.ves v b).below a,h.acks.below a⟩
theorem RpO.mono(h:RpO w base p ps)(a:base2≤base):RpO w base2 p ps:=⟨h.es.mono a,h.st.mono a,h.starts.mono a,h.votes.mono a,fun v b=>(h.ves v b).mono a,h.acks.mono a⟩
theorem RpO.rpAt(h:RpO w base p ps):eO w w.heap.size p ps:=⟨h.es.sl eL,h.st.st,h.starts.sl cS,⟨h.votes.sl iS,fun v a=>(h.ves v a).sl eL⟩,h.acks.sl nH⟩
theorem Ow.chg_blk{α:Type}{enc:α→List Value}{k:Nat}{a:TypeId}{v:Value}{l:List α}(h:Ow w base a k v enc l)(c:Blk w b t cs)(d:Chg (fun i=>i=b) w w')(g:a≠t):Ow w' base a k v enc l:=h.chg d fun _ f e=>h.ne_blk c g (e▸f)
theorem RpO.chg(h:RpO w base p ps)(c:Blk w b t cs)(d:Chg (fun i=>i=b) w w')(a:t≠90∧t≠88∧t≠3∧t≠86∧t≠46∧t≠84∧t≠92):RpO w' base p ps:=
 ⟨h.es.chg_blk c d (bL a.2.2.2.2.1),h.st.chg c d a.1 a.2.1 a.2.2.1 a.2.2.2.1,h.starts.chg_blk c d (bL a.2.2.1),h.votes.chg_blk c d (bL a.2.2.2.2.2.1),fun v e=>(h.ves v e).chg_blk c d (bL a.2.2.2.2.1),h.acks.chg_blk c d (bL a.2.2.2.2.2.2)⟩
end
def VsO(w:World)(base:Nat)(v:Value)(xs:List Vo):Prop:=∃l:List VoV,l.map (·.x)=xs∧Ow w base 84 6 v VoV.cells l∧∀u∈l,Ow w base 46 11 u.ev En.cells u.es
theorem gR{p:RpV}{ps:List ObV}{w:World}{B:Nat}(h:eO w B p ps):∀u∈p.cells,u.oneCell'=true:=by
 intro u a;simp only[RpV.cells,dF]at a;rcases a with (((((a|a)|a)|a)|a)|a)
 .simp only[bA,dW,or_false]at a; rcases a with rfl|rfl<;>rfl
 .exact Vk h.1 u a
 .simp only[bA,dW,or_false]at a; rcases a with rfl; rfl
 .exact StV.one h.2.1 u a
 .simp only[bA,dW,or_false]at a;rcases a with rfl|rfl|rfl|rfl
  .rfl
  .exact h.2.2.1.one
  .exact h.2.2.2.1.1.one
  .exact h.2.2.2.2.one
 .exact Dh _ u a
theorem Blk.off{W:World}{g:Nat}{t:TypeId}{cs:List Value}(h:Blk W g t cs)(o:Nat)(a cs':List Value)(c:pY cs o a=cs')(d:o+a.length≤cs.length)(b:∀u∈a,u.oneCell'=true):
  ∃W',W.setRow g cs'.toArray=W'∧Sem.run prog (storeCells ⟨g,o,none⟩ a 0) W=.ok () W'∧Blk W' g t cs'∧Chg (fun i=>i=g) W W':=by
 subst c;exact⟨_,rfl,h.storeOff o a d b,h.set _,(Chg.refl (fun i=>i=g) W).setRow (.inr rfl) _⟩
section
variable {α:Type}{enc:α→List Value}{w w':World}{base base2 k:Nat}{p:RpV}{q:StV}{ps:List ObV}{t:TypeId}{v:Value}{l:List α}
theorem Ow.chg_row{β:Type}{b:β→List Value}{c:Nat}{a:TypeId}{d:Value}{l2:List β}(h:Ow w base2 a c d b l2)(j:Ow w base t k v enc l)(f:Chg (fun i=>v.ownBlock=some i) w w')(m:t≠a):Ow w' base2 a c d b l2:=h.chg f fun i g e=>j.apt h m i e g
theorem Ws.chg_row(h:Ws w base2 q ps)(b:Ow w base t k v enc l)(c:Chg (fun i=>v.ownBlock=some i) w w')(g:t≠90)(j:t≠88)(d:t≠3)(m:t≠86):Ws w' base2 q ps:=
 ⟨⟨aO.chg h.h.obs c fun i a e=>b.apt_or h.h.obs g i e a.symm,h.h.rws.chg c fun p f i a=>⟨fun e=>b.apt (h.h.rws.row p f).1 d i a e,fun e=>b.apt (h.h.rws.row p f).2 d i a e⟩,h.h.eq,aO.chg h.h.free c fun i a e=>b.apt_or h.h.free j i e a.symm⟩,aO.chg h.rows c fun i a e=>b.apt_or h.rows m i e a.symm⟩
end
end
section
attribute [-go_sem] loadCellsFrom storeCells run_eql_struct run_neq_struct
attribute [local go_sem] bC VoV.fold
def dN:List Value:=[.i 0,.i 0,.i 0,.i 0,.i 0,.string ⟨#[]⟩,.slice none 0 0,.i 0,.i 0,.slice none 0 0,.i 0,.i 0,.i 0,.i 0,.i 0,.slice none 0 0,.slice none 0 0,.i 0,.slice none 0 0,.slice none 0 0,.slice none 0 0,.i 0,.i 0,.i 0,.i 0,.string ⟨#[]⟩]
theorem aAe{w a:World}{v:Value}(h:w.grownBy a v.ownBlock):Chg (fun i=>v.ownBlock=some i) w a:=fZ h
def RpV.mk'(p:RpV)(kv:Value)(q:StV)(sv:Value)(vs:List VoV)(vv:Value)(av:Value):RpV:=⟨p.id,p.nodes,p.k.own kv,p.commit,q,p.timer,p.starts,sv,vs,vv,p.acks,av,p.part⟩
structure OwF(w W:World)(g0 g1:Nat)(cs:List Value):Prop where
 x:Blk W g0 39 cs
 r:Blk W g1 39 dN
 b:Bw' w W
 ne:w.heap.size≤g0∧g0<g1
theorem OwF.below{w W W':World}{d e:Nat}{c:List Value}(h:OwF w W d e c)(a:Bw' W W'):OwF w W' d e c:=⟨h.x.grow a,h.r.grow a,h.b.on a,h.ne⟩
theorem OwF.chg{w W W':World}{a c:Nat}{e cs':List Value}(h:OwF w W a c e)(f:Blk W' a 39 cs')(d:Chg (fun i=>i=a) W W'):OwF w W' a c cs':=⟨f,h.r.chg d (by have:=h.ne; omega),h.b.trans (d.below (fun i g=>by have:=h.ne; omega) h.b.size),h.ne⟩
theorem OwF.row{α:Type}{enc:α→List Value}{w W W':World}{f g k:Nat}{d:List Value}{t:TypeId}{v:Value}{l:List α}(h:OwF w W f g d)(c:Ow W w.heap.size t k v enc l)(a:Chg (fun i=>v.ownBlock=some i) W W')(j:39≠t):OwF w W' f g d:=
 ⟨h.x.chg a fun e=>c.ne_blk h.x (bL j) e,h.r.chg a fun e=>c.ne_blk h.r (bL j) e,h.b.trans (a.below (fun _ m=>(Ow.lt c m).1) h.b.size),h.ne⟩
theorem Mw(p:RpV)(ps:List ObV)(B:Nat)(w:World)(h:eO w B p ps)(hB:B≤w.heap.size)(S:RpS p ps):
  Calls prog 20 #[.agg p.cells.toArray] w fun e w'=>∃p' j5,e=.returned (.agg p'.cells.toArray)∧p'.x=p.x∧RpO w' w.heap.size p' j5∧Bw' w w':=by
 obtain⟨W1,a5,y1,b1,z1⟩:=par w 39 p.cells;obtain⟨W2,b3,x2,b2,z2⟩:=par W1 39 dN;unfold dN at b3;have y:=b1.on b2;have HF:=kp (OwF.mk (y1.grow b2) x2 y ⟨aD _,z1⟩);have I:=k'3 (h.below y hB) (aB hB y.size) S;have g0:=kp (fun(W:World)(d:Bw' w W)=>h.below d hB);have e0:=kp hB;have l0:=HF.o.x.loadOff (P:=prog) 2 5 p.k.cells rfl rfl;have HOk:=kp (uA.1 p.k B W2 I.a.1 I.b (by have:=S.k.2.1; omega));clear y1 b1 z1 x2 b2 z2 y h hB S;go_enter func20,ntmps20;go_wp2_with fail;refine (HOk.o).mono ?_;rintro e w3 ⟨g,rfl,q1,y0⟩;obtain⟨W3,b5,s3,x3,c3⟩:=(HF.o.x.grow y0).off 2 (p.k.own g).cells (p.mk' g p.s p.sv p.votes p.vv p.av).cells rfl (by show 2+5≤26; omega) (mW q1.one);have J:=kp ((HF.o.below y0).chg x3 c3);have HK:=kp ((q1.chg_blk (HF.o.x.grow y0) c3 (by decide)).mono HF.o.b.size);clear q1 y0 x3 c3 l0 a5 b3;have l8:=J.o.x.loadOff (P:=prog) 8 9 p.s.cells rfl rfl;have y4:=kp (Kr p.s ps B W3 (g0.o W3 J.o.b).2.1 (aB e0.o J.o.b.size) I.C.s.1 (by have:=I.C.s.2.1; omega));go_wp2_with fail;refine (y4.o).mono ?_;rintro e w4 ⟨q,qs,rfl,z3,g2,a0⟩;obtain⟨Y,d5,s4,x4,c4⟩:=(J.o.x.grow a0).off 8 q.cells (p.mk' g q p.sv p.votes p.vv p.av).cells rfl (by show 8+9≤26; omega) (StV.one g2.st);have X:=kp ((J.o.below a0).chg x4 c4);have q4:=kp ((HK.o.below a0).chg_blk (J.o.x.grow a0) c4 (by decide));have p2:=k'2 z3 ((g2.ws.mono J.o.b.size).chg (J.o.x.grow a0) c4 (by decide) (by decide) (by decide) (by decide));clear z3 g2 a0 x4 c4 l8 s3 b5;have m1:=g0.o Y X.o.b;have T:=m1.2.2.1;obtain⟨A1,c1,a1,-,-,-⟩:=m1.2.2.1;obtain⟨m,d2⟩:∃n,p.starts.length=n:=⟨_,rfl⟩
 rw[d2]at a1;rw[a1]at T;have g1:=X.o.x.cell 18;rw[show (p.mk' g q p.sv p.votes p.vv p.av).cells[18]? =some p.sv from rfl,a1]at g1;have j0:=k'4 T (aB e0.o X.o.b.size) d2 I.C.l.1;clear m1 T a1 d2;go_wp2_with (at_builtin; refine eU (enc:=i1) Y rfl (.tmp 16) (.tmp 18) 33 rfl Y.heap.size 3 mL lT rfl (by omega) cS (Ow.nil _ _ _ _ _) rfl j0.a rfl (fun a _=>pJ a) ?_ ?_ (aD _) ?_)
 .have:=j0.C; unfold maxLen; simp; omega
 .have:=j0.C; simp; omega
 intro sv w5 R hg;have b0:Bw' Y w5:=Ow.grew (Ow.nil Y Y.heap.size 3 1 i1) hg (aD _);obtain⟨j,c5,hv,-⟩:=R.sl cS;rw[j0.c]at hv;subst hv;have V:=X.o.x.grow b0;have g1:=V.cell 18;have z4:=V.frozen 18;change _=some p.sv at g1;have x6:Blk _ _ _ (p.mk' g q (.slice j m c5) p.votes p.vv p.av).cells:=V.setCell 18 (.slice j m c5);have c6:=(Chg.refl (fun i=>i=w.heap.size) w5).setCell (.inr rfl) 18 (.slice j m c5);have l2:=kp ((X.o.below b0).chg x6 c6);have o2:=kp ((q4.o.below b0).chg_blk V c6 (by decide));have j1:=k'2 p2.a ((p2.B.below b0).chg V c6 (by decide) (by decide) (by decide) (by decide));have y2:=kp ((R.mono X.o.b.size).chg_blk V c6 (by decide));obtain⟨W6,d3⟩:=nm' (w5.setCell ⟨w.heap.size,18,none⟩ (.slice j m c5));rw[d3]at l2 o2 j1 y2;clear R hg b0 V x6 c6 s4 d5;obtain⟨U,q3⟩:∃n,p.votes.length=n:=⟨_,rfl⟩
 have N:=k'2 q3 I.C.l.2.1;have p3:U≤1000:=by have:=N.o; omega
 clear q3;go_wp2_with fail;clear g1 z4 d3
 go_loopw [4,5] (fun v i wr=>∃k:Nat,k≤U∧i=.i k∧OwF w wr w.heap.size W1.heap.size (p.mk' g q (.slice j m c5) p.votes p.vv p.av).cells∧Ow wr w.heap.size 46 11 g En.cells p.k.es∧Ws wr w.heap.size q qs∧Ow wr w.heap.size 3 1 (.slice j m c5) i1 p.starts∧VsO wr w.heap.size v ((p.votes.take k).map (·.x))) (fun _ i _=>U-(intOf i).toNat)
 case atStart=>exact⟨0,by omega,rfl,l2.o,o2.o,j1.B,y2.o,⟨[],rfl,Ow.nil _ _ _ _ _,fun _ h=>(nomatch h)⟩⟩
 case round=>
  obtain⟨k,hk,rfl,hf,j3,e4,d4,l,o3,a2,m3⟩:=hrel;obtain⟨A,F,rfl,-⟩:=eD a2;have hI:=(g0.o wr hf.b).2.2.2.1;obtain⟨A2,c2,d1,a4,-,-⟩:=hI.1;rw[N.a]at d1;have m4:=hf.x.cell 19;rw[show (p.mk' g q (.slice j m c5) p.votes p.vv p.av).cells[19]? =some p.vv from rfl,d1]at m4;have E:=k'7 hf j3 e4 d4 o3 a2 m3;have HV:=k'3 hI.2 a4 d1;clear hf j3 e4 d4 o3 a2 m3 hI a4 d1
  by_cases p5:k<U
  .have g3:(k:Int)<(U:Int):=by omega
   have Q:k<p.votes.length:=by have:=N.a; omega
   obtain⟨b,q5,rfl,-,-,l3⟩:=dB (P:=prog) 6 VoV.cells iS (by omega) HV.b k Q;have q0:=l3 0;change Sem.run _ _ wr=.ok _ wr at q0;have g4:p.votes.take (k+1)=p.votes.take k++[p.votes[k]'Q]:=cV Q;have l4:=HV.a _ (bK Q);have j4:=(I.C.v _ (bK Q)).1;clear l3;generalize p.votes[k]'Q=x at *;have HO:=kp (uA.2.1 x B wr l4 (aB e0.o E.a.b.size) j4);have HT:=kp g4;clear g4 l4 j4 Q;go_wp2_with fail;refine (HO.o).mono ?_;rintro e w8 ⟨ev,rfl,z0,z⟩;obtain⟨W9,p1,s9,x9,b9,-⟩:=fB w8 84 z'6 (x.own ev).cells rfl (Ed z0.one);have l9:=x9.load (P:=prog) (k:=6) rfl;have hx:=eQ (enc:=VoV.cells) W9 84 (x.own ev);have o0:=ba' W9 (.cells (x.own ev).cells.toArray 84);obtain⟨a3,p0⟩:∃W,W9.alloc (.cells (x.own ev).cells.toArray 84)=W:=⟨_,rfl⟩
   rw[p0]at hx o0;have y:=z.on (b9.on o0);have HE:=kp (z0.below (b9.on o0));have D:=k'3 (E.f.below y) y hx;have h1:=z0.one;have p4:=kp h1;clear q0 m4 z z0 x9 b9 hx o0 y p3;go_wp2_with (at_builtin; refine eU (enc:=VoV.cells) a3 rfl (.tmp 35) (.tmp 37) 34 rfl w.heap.size 84 Ho Fg rfl (by omega) iS D.a rfl D.C rfl (fun a ha=>by rw[bQ.1 ha]; exact Ed p4.o) ?_ ?_ (aB E.a.b.size D.b.size) ?_)
   .have:=bG List.length E.e; simp only[cW,cZ]at this; have:=N.B; unfold maxLen; simp; omega
   .have:=bG List.length E.e; simp only[cW,cZ]at this; have:=N.B; simp; omega
   intro l5 d0 y3 e3;have O:=aAe e3;have d:=E.o;have y:=D.b;have HN:=kp (show OwF w d0 w.heap.size W1.heap.size (p.mk' g q (.slice j m c5) p.votes p.vv p.av).cells∧Ow d0 w.heap.size 46 11 g En.cells p.k.es∧Ws d0 w.heap.size q qs∧Ow d0 w.heap.size 3 1 (.slice j m c5) i1 p.starts∧VsO d0 w.heap.size l5 ((p.votes.take (k+1)).map (·.x)) from
    ⟨(d.1.below y).row D.a O (by decide),(d.2.1.below y).chg_row D.a O (by decide),(d.2.2.1.below y).chg_row D.a O (by decide) (by decide) (by decide) (by decide),(d.2.2.2.1.below y).chg_row D.a O (by decide),
     ⟨l++[x.own ev],by rw[HT.o,gC,gC,d.2.2.2.2.1]; rfl,y3,fun u G=>by
      rcases dF.1 G with G|G
      .exact ((d.2.2.2.2.2.2 u G).below y).chg_row D.a O (by decide)
      .rw[bQ.1 G];exact (HE.o.mono d.1.b.size).chg_row D.a O (by decide)⟩⟩)
   have p3:U≤1000:=by have:=N.o; omega
   clear O d y y3 e3 l9 s9 p1 p0 h1;go_wp2_with fail;go_roundw
   case rel=>exact⟨k+1,by omega,by go_num,HN.o⟩
   case measure=>simp[intOf]; omega
  .obtain rfl:U=k:=by omega
   have m5:=E.a.x.frozen 19;have x7:Blk _ _ _ (p.mk' g q (.slice j m c5) l (.slice A l.length F) p.av).cells:=E.a.x.setCell 19 (.slice A l.length F);have c7:=(Chg.refl (fun i=>i=w.heap.size) wr).setCell (.inr rfl) 19 (.slice A l.length F);have d:=E.o;have L:=kp (d.1.chg x7 c7);have q2:=k'5 (d.2.1.chg_blk d.1.x c7 (by decide)) (d.2.2.1.chg d.1.x c7 (by decide) (by decide) (by decide) (by decide)) (d.2.2.2.1.chg_blk d.1.x c7 (by decide)) (d.2.2.2.2.2.1.chg_blk d.1.x c7 (by decide)) (fun u G=>(d.2.2.2.2.2.2 u G).chg_blk d.1.x c7 (by decide));obtain⟨Z,e5⟩:∃W,wr.setCell ⟨w.heap.size,19,none⟩ (.slice A l.length F)=W:=⟨_,rfl⟩
   rw[e5]at L q2;have o1:=g0.o Z L.o.b;have T:=o1.2.2.2.2;obtain⟨A3,c3,e1,-,-,-⟩:=o1.2.2.2.2;obtain⟨K,e2⟩:∃n,p.acks.length=n:=⟨_,rfl⟩
   rw[e2]at e1;rw[e1]at T;have j2:=L.o.x.cell 20;rw[show (p.mk' g q (.slice j m c5) l (.slice A l.length F) p.av).cells[20]? =some p.av from rfl,e1]at j2;have m0:=k'4 T (aB e0.o L.o.b.size) e2 I.C.l.2.2;clear o1 T e1 e2 d x7 c7;go_wp2_with (at_builtin; refine eU (enc:=Ak.cells) Z rfl (.tmp 41) (.tmp 43) 35 rfl Z.heap.size 92 Hn Ff rfl (by omega) nH (Ow.nil _ _ _ _ _) rfl m0.a rfl (fun a _=>wX a) ?_ ?_ (aD _) ?_)
   .have:=m0.C; unfold maxLen; simp; omega
   .have:=m0.C; simp; omega
   intro av w8 R hg;have z:Bw' Z w8:=Ow.grew (Ow.nil Z Z.heap.size 92 2 Ak.cells) hg (aD _);obtain⟨H,c8,hv,-⟩:=R.sl nH;rw[m0.c]at hv;subst hv;have x8:=L.o.x.grow z;have j2:=x8.cell 20;have o5:=x8.frozen 20;change _=some p.av at j2;have x9:Blk _ _ _ (p.mk' g q (.slice j m c5) l (.slice A l.length F) (.slice H K c8)).cells:=x8.setCell 20 (.slice H K c8);have c9:=(Chg.refl (fun i=>i=w.heap.size) w8).setCell (.inr rfl) 20 (.slice H K c8);have hr:=q2.o;have o9:RpO w8 w.heap.size (p.mk' g q (.slice j m c5) l (.slice A l.length F) (.slice H K c8)) qs:=⟨hr.1.below z,hr.2.1.below z,hr.2.2.1.below z,hr.2.2.2.1.below z,fun u G=>(hr.2.2.2.2 u G).below z,R.mono L.o.b.size⟩
   have M:=kp ((L.o.below z).chg x9 c9);have o9:=o9.chg x8 c9 (by decide);obtain⟨W9,p1⟩:∃W,w8.setCell ⟨w.heap.size,20,none⟩ (.slice H K c8)=W:=⟨_,rfl⟩
   rw[p1]at M o9;have l9:=M.o.x.load (P:=prog) (k:=26) rfl;obtain⟨a3,p0,y5,o4,l1⟩:=M.o.r.put (p.mk' g q (.slice j m c5) l (.slice A l.length F) (.slice H K c8)).cells rfl (gR o9.rpAt);have g5:=o4.load (P:=prog) (k:=26) rfl;have m2:=k'2 (o9.chg M.o.r l1 (by decide)) (M.o.b.trans (l1.below (B:=w.heap.size) (fun i hi=>by have:=M.o.ne; omega) M.o.b.size));have hx:(p.mk' g q (.slice j m c5) l (.slice A l.length F) (.slice H K c8)).x=p.x:=by
    have h1:=E.e;rw[cN (by have:=N.a; omega)]at h1;show Rp.mk p.id p.nodes p.k.x p.commit q.x p.timer p.starts (l.map (·.x)) p.acks p.part=_;rw[h1,j1.a];rfl
   have HX:=kp hx;clear z R hg x8 x9 c9 hr o9 o4 l1 p0 hx;go_wp2_with fail;exact aU (v:=.agg (p.mk' g q (.slice j m c5) l (.slice A l.length F) (.slice H K c8)).cells.toArray) (by simp[results,results20,go_sem,g5]) rfl ⟨_,qs,rfl,HX.o,m2.a,m2.B⟩
end
section
attribute [-go_sem] loadCellsFrom storeCells run_eql_struct run_neq_struct
attribute [local go_sem] bC VoV.fold
def VsK(w:World)(base:Nat)(v:Value)(k:Nat)(vs:List VoV):Prop:=∃l:List VoV,l.map (·.x)=vs.map (·.x)∧Ow w base 84 6 v VoV.cells l∧(∀u∈l.take k,Ow w base 46 11 u.ev En.cells u.es)∧l.drop k=vs.drop k
theorem VsK.below{w c:World}{base k:Nat}{v:Value}{b:List VoV}(h:VsK w base v k b)(a:Bw' w c):VsK c base v k b:=
 h.imp fun _ ⟨d,e,f,g⟩=>⟨d,e.below a,fun u i=>(f u i).below a,g⟩
theorem aAl{α:Type}{l:List α}{k:Nat}{a:α}(h:l[k]? =some a):l.set k a=l:=sR fun i=>by
 rw[sS]
 split
 .rename_i b;subst b
  split
  .exact h.symm
  .rename_i c;exact absurd (iH.1 h).1 c
 .rfl
theorem aAm{α:Type}(l:List α)(k:Nat)(b:k<l.length)(y:α):(l.set k y).take (k+1)=l.take k++[y]∧(l.set k y).drop (k+1)=l.drop (k+1):=by
 rw[List.set_eq_take_append_cons_drop,aE b,show l.take k++y::l.drop (k+1)=(l.take k++[y])++l.drop (k+1) by simp];have a:(l.take k++[y]).length=k+1:=by simp; omega
 exact⟨wD a,wG a⟩
theorem aAn{s:St}(a:stB s=true):(iP s).size≤65536:=by
 unfold iP;rw[aE a];obtain⟨c,d⟩:=kA.1 a;have e:=Cf c;have f:=(vA s.rows 0 (by omega) d).2;have b:=jU jH 20 Mq s.rows;show (gI s).toArray.size≤65536;unfold gI;simp only[gT,bB,gX,b];omega
theorem aAo{s:St}(a:stB s=true)(b:stR s):dM (iP s).data.toList=some s:=by
 unfold iP;rw[aE a];simpa using Cg a b
theorem Na(p:RpV)(ps:List ObV)(B:Nat)(w:World)(h:eO w B p ps)(hB:B≤w.heap.size)(S:RpS p ps)(hs:stB p.s.x=true):
  Calls prog 27 #[.agg p.cells.toArray] w fun e w'=>∃p' d8,e=.returned (.agg p'.cells.toArray)∧p'.x=p.x∧RpO w' w.heap.size p' d8∧Bw' w w':=by
 obtain⟨W1,j7,y1,b1,z1⟩:=par w 39 p.cells;obtain⟨W2,a4,x2,b2,z2⟩:=par W1 39 dN;unfold dN at a4;have z:=b1.on b2;have HF:=kp (OwF.mk (y1.grow b2) x2 z ⟨aD _,z1⟩);have X:=k'3 (h.below z hB) (aB hB z.size) S;have l0:=kp (fun(W:World)(m:Bw' w W)=>h.below m hB);have Z:=k'2 hB hs;have k6:=HF.o.x.cell 6;rw[RpV.c6]at k6;have e6:=kp (fam'6.2.2.2.2.1 p.k.ev p.k.es B W2 X.a.1 X.b (by have:=S.k.2.1; omega));clear y1 b1 z1 x2 b2 z2 z h hB S hs;go_enter func27,ntmps27;go_wp2_with fail;refine (e6.o).mono ?_;rintro e w3 ⟨kv,rfl,e1,y2⟩;clear j7 a4;have e1:Ow w3 W2.heap.size 46 11 kv En.cells p.k.es:=e1;obtain⟨F,G,rfl,-⟩:=eD e1;have x3:=HF.o.x.grow y2;have k6:=x3.cell 6;have f6:=x3.frozen 6;rw[RpV.c6]at k6;have x4:Blk _ _ _ (p.mk' (.slice F p.k.es.length G) p.s p.sv p.votes p.vv p.av).cells:=x3.setCell 6 (.slice F p.k.es.length G);have c4:=(Chg.refl (fun i=>i=w.heap.size) w3).setCell (.inr rfl) 6 (.slice F p.k.es.length G);have a0:=kp ((HF.o.below y2).chg x4 c4);have e2:=kp ((e1.mono HF.o.b.size).chg_blk x3 c4 (by decide));obtain⟨W4,p2⟩:∃W,w3.setCell ⟨w.heap.size,6,none⟩ (.slice F p.k.es.length G)=W:=⟨_,rfl⟩
 rw[p2]at a0 e2;have l8:=a0.o.x.loadOff (P:=prog) 8 9 p.s.cells rfl rfl;have p6:=kp (Ea p.s ps B W4 (l0.o W4 a0.o.b).2.1 (aB Z.a a0.o.b.size) (by have:=X.C.s.1.obs; omega) (by have:=X.C.s.1.free; omega) (by have:=X.C.s.2.1; omega));clear e1 y2 x3 x4 c4;obtain⟨V,e5⟩:=nm' p.k.es.length;rw[e5]at p2 a0 e2;go_wp2_with fail;refine mb' (p6.o) fun w5 g4=>?_;have j3:=aAn Z.B;obtain⟨t1,p5⟩:∃t,iP p.s.x=t:=⟨_,rfl⟩
 have a3:=aAo Z.B X.C.s.2.2.1;rw[p5]at j3 a3 ⊢;obtain⟨c5,W5,p7,d1,j5,l5,p0,a5⟩:=oT w5 t1 (aB j3 (by decide));have j0:=k'5 (g4.on d1) j5 l5 p0 a5;have m6:=kp a3;clear g4 d1 j5 l5 p0 a5 j3 a3 p5 e5 l8;go_wp2_with fail;clear p7 p2;refine (yT _ _ _ _ t1.data.toList W5 j0.b j0.c (mD _) j0.d j0.E).mono ?_;rintro e w6 ⟨q,qs,rfl,j1,e3,d1⟩;rw[m6.o]at j1 ⊢;have j1:q.x=p.s.x:=j1;have z:=j0.a.on d1;obtain⟨A,m7,s7,x7,c7⟩:=(a0.o.x.grow z).off 8 q.cells (p.mk' (.slice F V G) q p.sv p.votes p.vv p.av).cells rfl (by show 8+9≤26; omega) (StV.one e3.st);have j6:=kp ((a0.o.below z).chg x7 c7);have o6:=kp ((e2.o.below z).chg_blk (a0.o.x.grow z) c7 (by decide));have p3:=k'2 j1 ((e3.ws.mono (aB a0.o.b.size j0.a.size)).chg (a0.o.x.grow z) c7 (by decide) (by decide) (by decide) (by decide));clear j1 e3 d1 z x7 c7;go_wp2_with fail;clear s7 m7;have Q:=kp (j6.o.below (bR (aL _ A)));have d6:=kp (fun(W:World)(m:Below A.drew.heap.size A.drew W)=>fam'6.1 p.sv p.starts B W (l0.o W (Q.o.b.on m)).2.2.1 (aB Z.a (Q.o.b.on m).size) (by have:=X.C.l.1; omega));have a6:=kp (fun(W:World)(m:Below A.drew.heap.size A.drew W)=>fam'6.2.2.2.1 p.av p.acks B W (l0.o W (Q.o.b.on m)).2.2.2.2 (aB Z.a (Q.o.b.on m).size) (by have:=X.C.l.2.2; omega));have g6:=kp (fun(W:World)(m:Below A.drew.heap.size A.drew W)=>fam'6.2.2.2.2.2.2 p.vv p.votes B W (l0.o W (Q.o.b.on m)).2.2.2.1.1 (aB Z.a (Q.o.b.on m).size) (by have:=X.C.l.2.1; omega) (fun x hx=>yK ((l0.o W (Q.o.b.on m)).2.2.2.1.2 x hx)));refine kU 10 (fun W'=>Below A.drew.heap.size A.drew W') (fun _=>rM) (by kernel_rfl) (by kernel_rfl) (aL _ _) ?_
 iterate 2 (refine bO ?_; apply Exists.intro)
 refine bS (fun u W'=>Ow W' A.drew.heap.size 3 1 u i1 p.starts) ?_
 iterate 2 (refine bO ?_; apply Exists.intro)
 refine bS (fun u W'=>Ow W' A.drew.heap.size 92 2 u Ak.cells p.acks) ?_
 iterate 2 (refine bO ?_; apply Exists.intro)
 refine bS (fun u W'=>Ow W' A.drew.heap.size 84 6 u VoV.cells p.votes) ?_;refine bO ?_; apply Exists.intro;refine dR ⟨?pers,?walk⟩
 case walk=>
  iterate 2
   apply Sz (by kernel_rfl) (by intro t w h; cases h; exact trivial) rfl
   .intro W' f I; have q1:W'.cell? ⟨w.heap.size,18,none⟩=some p.sv:=(Q.o.below f).x.cell 18; go_wp2_with fail;exact⟨rfl,_,rfl,f,aL _ _,rfl⟩
   simp only[Act.put,aN,aH,aI]
  refine⟨fun W' f I=>?_,fun u2=>?_⟩
  .go_wp2_with fail;refine (d6.o W' f).mono ?_;rintro e w2 ⟨v2,rfl,g0,Y⟩;go_wp2_with fail;exact⟨rfl,_,rfl,f.on Y,Y,Ow.mono g0 f.size⟩
  simp only[Act.put,aN,aH,aI]
  iterate 2
   apply Sz (by kernel_rfl) (by intro t w h; cases h; exact trivial) rfl
   .intro W' f I; have q1:W'.cell? ⟨w.heap.size,20,none⟩=some p.av:=(Q.o.below f).x.cell 20; go_wp2_with fail;exact⟨rfl,_,rfl,f,aL _ _,rfl⟩
   simp only[Act.put,aN,aH,aI]
  refine⟨fun W' f I=>?_,fun u5=>?_⟩
  .go_wp2_with fail;refine (a6.o W' f).mono ?_;rintro e w2 ⟨v2,rfl,g0,Y⟩;go_wp2_with fail;exact⟨rfl,_,rfl,f.on Y,Y,Ow.mono g0 f.size⟩
  simp only[Act.put,aN,aH,aI]
  iterate 2
   apply Sz (by kernel_rfl) (by intro t w h; cases h; exact trivial) rfl
   .intro W' f I; have q1:W'.cell? ⟨w.heap.size,19,none⟩=some p.vv:=(Q.o.below f).x.cell 19; go_wp2_with fail;exact⟨rfl,_,rfl,f,aL _ _,rfl⟩
   simp only[Act.put,aN,aH,aI]
  refine⟨fun W' f I=>?_,fun u8=>?_⟩
  .go_wp2_with fail;refine (g6.o W' f).mono ?_;rintro e w2 ⟨v2,rfl,g0,Y⟩;go_wp2_with fail;exact⟨rfl,_,rfl,f.on Y,Y,Ow.mono g0 f.size⟩
  simp only[Act.put,aN,aH,aI];apply Sz (by kernel_rfl) (by intro t w h; cases h; exact trivial) rfl
  .intro W' f I; go_wp2_with fail;exact⟨rfl,_,rfl,f,aL _ _,rfl⟩
  simp only[Act.put,aN,aH,aI];intro W8 f I;have f2:Ow W8 A.drew.heap.size 3 1 u2 i1 p.starts:=I 22;have f5:Ow W8 A.drew.heap.size 92 2 u5 Ak.cells p.acks:=I 25;have f8:Ow W8 A.drew.heap.size 84 6 u8 VoV.cells p.votes:=I 28;clear I;simp only[dO,dP];obtain⟨J,c2,rfl,-⟩:=eD f2;obtain⟨N,c5,rfl,-⟩:=eD f5;obtain⟨O,c8,rfl,-⟩:=eD f8;obtain⟨M,d3⟩:∃n,p.starts.length=n:=⟨_,rfl⟩
  obtain⟨T,p0⟩:∃n,p.acks.length=n:=⟨_,rfl⟩
  obtain⟨y,a2⟩:∃n,p.votes.length=n:=⟨_,rfl⟩
  have HN:=k'2 a2 X.C.l.2.1;rw[d3]at f2;rw[p0]at f5;rw[a2]at f8;rw[d3,p0,a2];clear d3 p0 a2;have x8:=(Q.o.below f).x;have y6:W8.cell? ⟨w.heap.size,18,none⟩=some p.sv:=x8.cell 18;have b7:=x8.frozen 18;have x9:Blk _ _ _ (p.mk' (.slice F V G) q (.slice J M c2) p.votes p.vv p.av).cells:=x8.setCell 18 (.slice J M c2);have d9:=(Chg.refl (fun i=>i=w.heap.size) W8).setCell (.inr rfl) 18 (.slice J M c2);obtain⟨W9,d4⟩:∃W,W8.setCell ⟨w.heap.size,18,none⟩ (.slice J M c2)=W:=⟨_,rfl⟩
  rw[d4]at x9 d9;have a7:W9.cell? ⟨w.heap.size,20,none⟩=some p.av:=x9.cell 20;have e7:=x9.frozen 20;have e0:Blk _ _ _ (p.mk' (.slice F V G) q (.slice J M c2) p.votes p.vv (.slice N T c5)).cells:=x9.setCell 20 (.slice N T c5);have m2:=d9.trans ((Chg.refl (fun i=>i=w.heap.size) W9).setCell (.inr rfl) 20 (.slice N T c5)) fun _ _ h=>h;obtain⟨z0,o1⟩:∃W,W9.setCell ⟨w.heap.size,20,none⟩ (.slice N T c5)=W:=⟨_,rfl⟩
  rw[o1]at e0 m2;have l2:z0.cell? ⟨w.heap.size,19,none⟩=some p.vv:=e0.cell 19;have d7:=e0.frozen 19;have d2:Blk _ _ _ (p.mk' (.slice F V G) q (.slice J M c2) p.votes (.slice O y c8) (.slice N T c5)).cells:=e0.setCell 19 (.slice O y c8);have d0:=m2.trans ((Chg.refl (fun i=>i=w.heap.size) z0).setCell (.inr rfl) 19 (.slice O y c8)) fun _ _ h=>h;obtain⟨m0,y3⟩:∃W,z0.setCell ⟨w.heap.size,19,none⟩ (.slice O y c8)=W:=⟨_,rfl⟩
  rw[y3]at d2 d0;have l6:=kp ((Q.o.below f).chg d2 d0);have p1:=Q.o.b.size;have q6:=kp (show Ow m0 w.heap.size 46 11 (.slice F V G) En.cells p.k.es∧Ws m0 w.heap.size q qs∧Ow m0 w.heap.size 3 1 (.slice J M c2) i1 p.starts∧Ow m0 w.heap.size 92 2 (.slice N T c5) Ak.cells p.acks∧VsK m0 w.heap.size (.slice O y c8) 0 p.votes from
   ⟨((o6.o.below (bR (aL _ A))).below f).chg_blk x8 d0 (by decide),((p3.B.below (bR (aL _ A))).below f).chg x8 d0 (by decide) (by decide) (by decide) (by decide),(f2.mono p1).chg_blk x8 d0 (by decide),(f5.mono p1).chg_blk x8 d0 (by decide),⟨p.votes,rfl,(f8.mono p1).chg_blk x8 d0 (by decide),fun _ h=>(by simp at h),rfl⟩⟩)
  clear x8 x9 d9 e0 m2 d0 f2 f5 f8 p1 f;have z6:m0.cell? ⟨w.heap.size,19,none⟩=some (.slice O y c8):=d2.cell 19;clear d2;have b5:y≤1000:=by have:=HN.o; omega
  go_wp2_with fail;clear y6 b7 a7 e7 l2 d7 z6 d4 o1 y3
  go_loopw [35] (fun i wr=>∃k:Nat,k≤y∧i=.i k∧OwF w wr w.heap.size W1.heap.size (p.mk' (.slice F V G) q (.slice J M c2) p.votes (.slice O y c8) (.slice N T c5)).cells∧Ow wr w.heap.size 46 11 (.slice F V G) En.cells p.k.es∧Ws wr w.heap.size q qs∧Ow wr w.heap.size 3 1 (.slice J M c2) i1 p.starts∧Ow wr w.heap.size 92 2 (.slice N T c5) Ak.cells p.acks∧VsK wr w.heap.size (.slice O y c8) k p.votes) (fun i _=>y-(intOf i).toNat)
  case atStart=>exact⟨0,by omega,rfl,l6.o,q6.o⟩
  case round=>
   obtain⟨k,hk,rfl,hf,o4,o5,m5,e4,l,b3,z4,q4,p4⟩:=hrel;have R:=k'8 hf o4 o5 m5 e4 b3 q4 p4;have y4:l.length=y:=by have:=bG List.length b3; simp at this; have:=HN.a; omega
   have g2:=kp z4;clear hf o4 o5 m5 e4 b3 q4 p4 z4
   by_cases j8:k<y
   .have g3:(k:Int)<(y:Int):=by omega
    have b0:k<l.length:=by omega
    have g1:k<p.votes.length:=by have:=HN.a; omega
    obtain⟨b,cb,hv,j4,l4,-,-,m4,y7⟩:=g2.o.at_ iS (by omega) (by omega);obtain⟨hA,-,-⟩:=Value.slice.inj hv;subst hA;have hx:l[k]=p.votes[k]:=by
     have:=R.H;rw[fG b0,fG g1]at this;exact (List.cons.inj this).1
    have q0:=Ie (P:=prog) (w:=wr) (b:=b) (o:=k*6) (VoV.cells l[k]) (fun t u hu=>m4 k b0 t u hu);rw[show (VoV.cells l[k]).length=6 from rfl]at q0;have l3:mS wr B p.votes[k]:=(l0.o wr R.a.b).2.2.2.1.2 _ (bK g1);have q5:=(X.C.v _ (bK g1)).1;have HS:=kp (aAm l k b0);have HG:=k'4 b0 (eK b0) (Nat.zero_lt_of_lt b0) (fun(W:World)(L:Ow W w.heap.size 84 6 (.slice (some ⟨b,0,none⟩) y c8) VoV.cells l)=>show W.cell? ⟨b,k*6+5,none⟩=some (l[k]).ev∧W.frozen? ⟨b,k*6+5,none⟩=false from by
     obtain⟨b',_,z7,-,-,-,-,o7,q7⟩:=L.at_ iS (by omega) (Nat.zero_lt_of_lt b0);obtain⟨g7,-,-⟩:=Value.slice.inj z7
     cases g7;exact⟨o7 k b0 5 _ rfl,q7 _⟩)
    have HP:=kp (fun(u:Value)(W:World)(L:Ow W w.heap.size 84 6 (.slice (some ⟨b,0,none⟩) y c8) VoV.cells l)=>Ow.put L iS k b0 (j:=5) (by omega) u (x':=(l[k]).own u) rfl);rw[hx]at q0 HG HP;clear m4 hv hx;generalize p.votes[k]'g1=x at *;obtain⟨K,l7,e8,z5,m1,-⟩:=fB wr 84 z'6 x.cells rfl (yK l3);have l2:wr.cell? ⟨w.heap.size,19,none⟩=some (.slice (some ⟨b,0,none⟩) y c8):=R.a.x.cell 19;have U:=k'7 z5 (R.a.below m1) (Sl.below l3 m1 (aB Z.a R.a.b.size)) q5 m1 j4 l4;clear z5 m1 l3 q5 b0 g1 j4 l4 y4 b5;go_wp2_with fail;clear q0 e8 l7 l2 y7;have j2:=k'2 (U.a.below (bR (aL K.heap.size K)) U.a.lt) (U.b.below (bR (aL K.heap.size K)));have b6:=kp (fun(W:World)(m:Below K.drew.heap.size K.drew W)=>fam'6.2.2.2.2.1 x.ev x.es B W (Sl.below (Sl.below U.c (bR (aL K.heap.size K)) (aB Z.a U.b.b.size)) m (aB Z.a U.b.b.size)) (aB (aB Z.a U.b.b.size) m.size) U.d);refine kU 6 (fun W'=>Below K.drew.heap.size K.drew W') (fun _=>rM) (by kernel_rfl) (by kernel_rfl) (aL _ _) ?_
    iterate 5 (refine bO ?_; apply Exists.intro)
    refine bS (fun u W'=>Ow W' K.drew.heap.size 46 11 u En.cells x.es) ?_;refine dR ⟨?pers2,?walk2⟩
    case walk2=>
     iterate 5
      apply Sz (by kernel_rfl) (by intro t w h; cases h; exact trivial) rfl
      .intro W' f I; have q1:W'.cell? ⟨w.heap.size,19,none⟩=some (.slice (some ⟨b,0,none⟩) y c8):=(j2.B.below f).x.cell 19; have q2:W'.cell? ⟨wr.heap.size,5,none⟩=some x.ev:=(j2.a.grow f).cell 5; go_wp2_with fail;exact⟨rfl,_,rfl,f,aL _ _,rfl⟩
      simp only[Act.put,aN,aH,aI]
     refine⟨fun W' f I=>?_,fun u5=>?_⟩
     .go_wp2_with fail;refine (b6.o W' f).mono ?_;rintro e w2 ⟨v2,rfl,g0,Y⟩;go_wp2_with fail;exact⟨rfl,_,rfl,f.on Y,Y,Ow.mono g0 f.size⟩
     simp only[Act.put,aN,aH,aI];intro o0 f I;have f5:Ow o0 K.drew.heap.size 46 11 u5 En.cells x.es:=I 45;clear I;simp only[dO,dP];obtain⟨y0,a1,rfl,-⟩:=eD f5;obtain⟨l1,d5⟩:∃n,x.es.length=n:=⟨_,rfl⟩
     rw[d5]at f5 ⊢;clear d5;have z:=(U.e.on (bR (aL K.heap.size K))).on f;have L:=g2.o.below z;obtain⟨q3,g5⟩:=HG.D o0 L;have hc:=(Chg.refl (fun i=>(Value.slice (some ⟨b,0,none⟩) y c8).ownBlock=some i) o0).setCell (g:=b) (.inr rfl) (k*6+5) (.slice y0 l1 a1);have hp:=HP.o (.slice y0 l1 a1) o0 L;have m:=R.o;have o3:=k'6 ((j2.B.below f).row L hc (by decide)) ((m.2.1.below z).chg_row L hc (by decide)) ((m.2.2.1.below z).chg_row L hc (by decide) (by decide) (by decide) (by decide)) ((m.2.2.2.1.below z).chg_row L hc (by decide)) ((m.2.2.2.2.1.below z).chg_row L hc (by decide)) (show VsK (o0.setCell ⟨b,k*6+5,none⟩ (.slice y0 l1 a1)) w.heap.size (.slice (some ⟨b,0,none⟩) y c8) (k+1) p.votes from
       ⟨l.set k (x.own (.slice y0 l1 a1)),by rw[pD,←m.2.2.2.2.2.1]; exact aAl (by rw[wC,HG.b]; rfl),hp,fun u hu=>by
        rw[(HS.o _).1]at hu;rcases dF.1 hu with hu|hu
        .exact ((m.2.2.2.2.2.2.1 u hu).below z).chg_row L hc (by decide)
        .rw[bQ.1 hu];exact (Ow.mono f5 U.b.b.size).chg_row L hc (by decide),by
        rw[(HS.o _).2];have:=bG List.tail m.2.2.2.2.2.2.2;simpa using this⟩)
     obtain⟨g8,z3⟩:∃W,o0.setCell ⟨b,k*6+5,none⟩ (.slice y0 l1 a1)=W:=⟨_,rfl⟩
     rw[z3]at o3;have b5:y≤1000:=by have:=HN.o; omega
     have g3:(k:Int)<(y:Int):=by omega
     clear z L hc hp m f5 f;go_wp2_with fail;clear q3 g5 z3;go_roundw
     case rel=>exact⟨k+1,by omega,by go_num,o3.o⟩
     case measure=>simp[intOf]; omega
    case pers2=>exact⟨pv',pv',pv',pv',pv',fun _ _ _ _ _ h hR=>h.below hR,trivial⟩
   .obtain rfl:y=k:=by omega
    have l9:=R.a.x.load (P:=prog) (k:=26) rfl;have m:=R.o;have o9:RpO wr w.heap.size (p.mk' (.slice F V G) q (.slice J M c2) l (.slice O y c8) (.slice N T c5)) qs:=⟨m.2.1,m.2.2.1,m.2.2.2.1,g2.o,fun u hu=>m.2.2.2.2.2.2.1 u (by rw[cN (by omega)]; exact hu),m.2.2.2.2.1⟩
    obtain⟨z0,o1,y5,e0,o2⟩:=R.a.r.put (p.mk' (.slice F V G) q (.slice J M c2) l (.slice O y c8) (.slice N T c5)).cells rfl (gR o9.rpAt);have y5:Sem.run prog (storeCells ⟨W1.heap.size,0,none⟩ (p.mk' (.slice F V G) q (.slice J M c2) p.votes (.slice O y c8) (.slice N T c5)).cells 0) wr=.ok () z0:=y5;have a8:=e0.load (P:=prog) (k:=26) rfl;have m3:=k'2 (o9.chg R.a.r o2 (by decide)) (R.a.b.trans (o2.below (B:=w.heap.size) (fun i hi=>by have:=R.a.ne; omega) R.a.b.size));have U:=kp (show (p.mk' (.slice F V G) q (.slice J M c2) l (.slice O y c8) (.slice N T c5)).x=p.x by
     show Rp.mk p.id p.nodes p.k.x p.commit q.x p.timer p.starts (l.map (·.x)) p.acks p.part=_;rw[m.2.2.2.2.2.1,p3.a];rfl)
    clear m o9 e0 o2 o1 y4;go_wp2_with fail;exact aU (v:=.agg (p.mk' (.slice F V G) q (.slice J M c2) l (.slice O y c8) (.slice N T c5)).cells.toArray) (by simp[results,results27,go_sem,a8]) rfl ⟨_,qs,rfl,U.o,m3.a,m3.B⟩
 case pers=>exact⟨pv',pv',fun _ _ _ _ _ h hR=>h.below hR,pv',pv',fun _ _ _ _ _ h hR=>h.below hR,pv',pv',fun _ _ _ _ _ h hR=>h.below hR,pv',trivial⟩
end
section
attribute [-go_sem] loadCellsFrom storeCells run_eql_struct run_neq_struct Instr.build
attribute [local go_sem] bC VoV.fold
def kW(id nodes:Int)(k:Kd)(s:St):Rp:=⟨id,nodes,k,k.base,s,0,[],[],[],jL⟩
def zE(id nodes base:Int)(k:KpV)(q:StV):RpV:=⟨id,nodes,k,base,q,0,[],.slice none 0 0,[],.slice none 0 0,[],.slice none 0 0,jL⟩
def jP(id nodes:Int)(k:KpV)(q:StV):RpV:=zE id nodes k.base k q
def jX:RpV:=⟨0,0,⟨0,0,0,⟨#[]⟩,[],.slice none 0 0⟩,0,lP,0,[],.slice none 0 0,[],.slice none 0 0,[],.slice none 0 0,jL⟩
theorem Nb(id nodes:Int)(k:Kd):kC id nodes k=if dI (kW id nodes k ((dM (jK k.image)).getD kF))=true then some (kW id nodes k ((dM (jK k.image)).getD kF)) else none:=by
 unfold kC
 cases h:dM (jK k.image) with
 |some s=>rfl
 |none=>
  rw[aC];intro a;have b:dA k=true:=by
   unfold dI kW at a;simp only[bI]at a;exact a.2.2.1
  obtain⟨s,c⟩:=pZ.1 b;rw[c.img]at h
  cases h
def Nc(w:World)(o:Option Rp)(e:Ending)(w':World):Prop:=
 ∃p ps,e=.returned (.tuple #[.agg p.cells.toArray,.i (if o.isSome then 0 else 1)])∧p.x=o.getD oQ∧RpO w' w.heap.size p ps∧Bw' w w'
theorem oW(w:World)(base:Nat):RpO w base jX []:=⟨Ow.nil _ _ _ _ _,tY _ _,Ow.nil _ _ _ _ _,Ow.nil _ _ _ _ _,fun _ h=>(nomatch h),Ow.nil _ _ _ _ _⟩
theorem Eg{w:World}{B:Nat}{id nodes:Int}{k:KpV}{q:StV}{a:List ObV}(c:fL w B k)(d:fN w B q a)(b:B=w.heap.size):eO w B (jP id nodes k q) a:=by
 subst b;exact⟨c,d,(Ow.nil w w.heap.size 3 1 i1).sl cS,⟨(Ow.nil w w.heap.size 84 6 VoV.cells).sl iS,fun _ h=>(nomatch h)⟩,(Ow.nil w w.heap.size 92 2 Ak.cells).sl nH⟩
theorem Nd{o:Option St}{l:List UInt8}{q:StV}{c:List ObV}{w:World}{B:Nat}(g:dM l=o)(a:q.x=o.getD kF)(h:fN w B q c):SmO q.p c∧q.rows.length≤1000∧stR q.x∧inR q.x.h.next:=by
 cases o with
 |some s=>
  obtain⟨b,d⟩:=tW g;have a:q.x=s:=a;rw[←a]at b d;have H:=eC.1 (kA.1 b).1;have j:=rZ (kA.1 b).2 (by omega);have e:q.x.rows=q.rows:=rfl;rw[e]at j;have m:=H.next;exact⟨SmO.ok h.1 H,by omega,d,⟨by have e:q.x.h=q.p.x:=rfl; omega,by have e:q.x.h=q.p.x:=rfl; omega⟩⟩
 |none=>
  have a:q.x=kF:=a;have f:q.p.x=lI:=bG St.h a;have k:q.rows=[]:=bG St.rows a;have i:c=[]:=by have:=h.1.2.1; rw[f]at this; simpa [lI] using this.symm
  subst i;refine⟨⟨by simp,by rw[f]; simp[lI],fun _ h=>(nomatch h)⟩,by rw[k]; simp,by rw[a]; exact⟨fun _ h=>(nomatch h),fun _ h=>(nomatch h)⟩,by rw[a]; exact⟨by decide,by decide⟩⟩
theorem aAp(id nodes base:Int)(k:KpV)(w:World):(Instr.build 39 #[(0,.i id),(1,.i nodes),(2,.agg k.cells.toArray),(3,.i base)]).run prog w=.ok (.agg (zE id nodes base k lP).cells.toArray) w:=run_build w _ _ _ (by kernel_rfl)
theorem aAq(id nodes base:Int)(k:KpV)(q:StV)(w:World):(Instr.build 39 #[(0,.i id),(1,.i nodes),(2,.agg k.cells.toArray),(3,.i base),(4,.agg q.cells.toArray)]).run prog w=.ok (.agg (zE id nodes base k q).cells.toArray) w:=run_build w _ _ _ (by kernel_rfl)
theorem aAr(w:World):(Instr.build 39 #[]).run prog w=.ok (.agg jX.cells.toArray) w:=run_build w _ _ _ (by kernel_rfl)
attribute [go_sem] aAp aAq aAr
theorem Nf{id nodes:Int}{k:KpV}{q:StV}{c:List ObV}(d:KdR k.x∧k.es.length≤1000000∧k.image.size≤1000000)(a:inR id∧inR nodes∧inR k.base)(b:SmO q.p c∧q.rows.length≤1000∧stR q.x∧inR q.x.h.next):RpS (jP id nodes k q) c:=
 ⟨d,b,⟨cY _,cY _,cY _⟩,fun _ h=>(nomatch h),⟨a.1,a.2.1,a.2.2,(show (-9223372036854775808:Int)≤0 by decide),(show (0:Int)≤9223372036854775807 by decide)⟩,fun u e=>by have:=b.1.rows u e; omega⟩
theorem Ng(id nodes:Int)(k:KpV)(B:Nat)(w:World)(h:fL w B k)(R:B≤w.heap.size)(Y:KdR k.x∧k.es.length≤1000000∧k.image.size≤1000000)(y:inR id∧inR nodes∧inR k.base):
  Calls prog 8 #[.i id,.i nodes,.agg k.cells.toArray] w (Nc w (kC id nodes k.x)):=by
 rw[Nb];obtain⟨o,n⟩:=nm' (dM (jK k.image));rw[show dM (jK k.x.image)=o from n];obtain⟨O,l⟩:∃O,(if dI (kW id nodes k.x (o.getD kF))=true then some (kW id nodes k.x (o.getD kF)) else none)=O:=⟨_,rfl⟩
 rw[l];obtain⟨W1,g1,V,b1,z1⟩:=par w 24 k.cells;obtain⟨p,g0,x2,H,z2⟩:=par W1 39 dN;unfold dN at g0;have l0:=(V.grow H).load (P:=prog) (k:=5) rfl;have k2:=(V.grow H).cell 2;change _=some (Value.i k.base)at k2;have S:=b1.on H;obtain⟨W3,l1,s3,x3,N,z3⟩:=fB p 39 dN (jP id nodes k lP).cells rfl (gR (Eg (w:=p) (Sl.more (Sl.below h S R) (aB R S.size)) (tY p p.heap.size).st rfl));have s3:Sem.run prog (storeCells ⟨p.heap.size,0,none⟩ (zE id nodes k.base k lP).cells 0) (p.alloc (.cells #[.i 0,.i 0,.i 0,.i 0,.i 0,.string ⟨#[]⟩,.slice none 0 0,.i 0,.i 0,.slice none 0 0,.i 0,.i 0,.i 0,.i 0,.i 0,.slice none 0 0,.slice none 0 0,.i 0,.slice none 0 0,.slice none 0 0,.slice none 0 0,.i 0,.i 0,.i 0,.i 0,.string ⟨#[]⟩] 39))=.ok () W3:=s3;have k3:=((V.grow H).grow N).cell 3;change _=some (Value.string k.image)at k3;obtain⟨c5,W5,p1,I,y0,z0,p0,o0⟩:=oT W3 k.image (aB Y.2.2 (by decide));have L:=k'5 I y0 z0 p0 o0;have f:=k'5 (x3.grow I) ((x2.grow N).grow I) ((S.on N).on I) z1 (eA z2 (aD _));have A:=k'4 h R Y y;have HO:=k'2 n l;clear l1 x3 N z3 I y0 z0 p0 o0 S V b1 z1 x2 H z2 h R Y y n l;go_enter func8,ntmps8;go_wp2_with fail;clear p1 g1 g0 l0 k2 s3 k3;refine (yT _ _ _ _ k.image.data.toList W5 L.b L.c (mD _) L.d L.E).mono ?_;rintro e w6 ⟨q,qs,rfl,K,a0,r⟩;have n:dM k.image.data.toList=o:=HO.a;rw[n]at K ⊢;obtain⟨gc,j0⟩:∃gc:Int,(if o.isSome=true then 0 else 60)=gc:=⟨_,rfl⟩
 rw[j0];clear j0;obtain⟨G,m1,s7,x7,c7⟩:=(f.a.grow r).off 8 q.cells (jP id nodes k q).cells rfl (by show 8+9≤26; omega) (StV.one a0.st);have hz:=(f.b.grow r).chg c7 (show ¬W1.heap.size=p.heap.size from fun e=>by have:=f.E; omega);have d0:=(a0.ws.mono f.c.size).chg (f.a.grow r) c7 (by decide) (by decide) (by decide) (by decide);have T:=(f.c.on r).trans (c7.below (B:=w.heap.size) (fun i hi=>by have:=f.d; have:=f.E; omega) (f.c.on r).size);have m0:fL G G.heap.size k:=Sl.more (Sl.below A.a T A.b) (aB A.b T.size);have b0:=Nf (id:=id) (nodes:=nodes) A.c A.D (Nd n K d0.st);have e0:(jP id nodes k q).x=kW id nodes k.x (o.getD kF):=by rw[←K]; rfl
 have X:=Eg (id:=id) (nodes:=nodes) m0 d0.st rfl;have HC:=kp (vX (jP id nodes k q) qs G.heap.size G X (aD _) b0);obtain⟨g,U⟩:=nm' (dI (kW id nodes k.x (o.getD kF)));rw[e0,U]at HC;have W:=HO.B;rw[U]at W;have M:=k'3 W U e0;have m:=k'5 x7 hz T X b0;have HZ:=k'2 n K;have l7:=x7.load (P:=prog) (k:=26) rfl;clear K a0 r c7 hz d0 T m0 b0 X e0 U W n x7 m1;go_wp2_with fail;refine mb' (HC.o) fun w8 j=>?_;clear l7 s7
 cases g
 case false=>
  rw[show eN 1 false=1 from rfl];obtain⟨W9,o1,s9,x9,c9⟩:=(m.b.grow j).put jX.cells rfl (gR (oW w8 w8.heap.size).rpAt);have l9:=x9.load (P:=prog) (k:=26) rfl;have F:=kp ((m.c.on j).trans (c9.below (B:=w.heap.size) (fun i hi=>by have:=f.d; omega) (m.c.on j).size));have l:=M.a;obtain rfl:O=none:=by rw[←l]; rfl
  clear x9 c9 o1 j l;go_wp2_with fail;exact aU (v:=.tuple #[.agg jX.cells.toArray,.i 1]) (by simp[results,results8,go_sem,l9]) rfl ⟨jX,[],rfl,rfl,oW _ _,F.o⟩
 rw[show eN 1 true=0 from rfl];have l:=M.a;obtain rfl:O=some (kW id nodes k.x (o.getD kF)):=by rw[←l]; rfl
 have a1:stB q.x=true:=by
  have y:=M.b;unfold dI kW at y;simp only[bI]at y;obtain⟨s,hs⟩:=pZ.1 y.2.2.1;have h1:dM k.image.data.toList=some s:=hs.img;have Q:=HZ.B;rw[←HZ.a,h1]at Q;have Q:q.x=s:=Q;rw[Q];exact (tW h1).1
 have l8:=(m.a.grow j).load (P:=prog) (k:=26) rfl;have e1:=kp (Na (jP id nodes k q) qs G.heap.size w8 (m.d.below j (aD _)) j.size m.E a1);have z:=k'2 (m.b.grow j) (m.c.on j);clear l a1 j;go_wp2_with fail;refine (e1.o).mono ?_;rintro e w9 ⟨p',a2,rfl,q0,Z,J⟩;obtain⟨d2,j1,e2,d1,c10⟩:=(z.a.grow J).put p'.cells rfl (gR Z.rpAt);have q1:=d1.load (P:=prog) (k:=26) rfl;have F:=k'3 q0 ((Z.mono z.B.size).chg (z.a.grow J) c10 (by decide)) ((z.B.on J).trans (c10.below (B:=w.heap.size) (fun i hi=>by have:=f.d; omega) (z.B.on J).size));clear l8 q0 Z J d1 c10 j1;go_wp2_with fail;exact aU (v:=.tuple #[.agg p'.cells.toArray,.i 0]) (by simp[results,results8,go_sem,q1]) rfl ⟨p',a2,rfl,F.a.trans M.C,F.b,F.C⟩
end
end Go.Proofs.YtdoopoapbffpbaaGreat
