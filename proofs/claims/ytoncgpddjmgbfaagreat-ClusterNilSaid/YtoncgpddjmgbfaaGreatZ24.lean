import Derived.Test.YtoncgpddjmgbfaaGreatZ12
import Derived.Test.YtoncgpddjmgbfaaGreatZ23
namespace Go.Proofs.YtoncgpddjmgbfaaGreat
open Go.RowKit Go.Proofs.Tryz
set_option maxRecDepth 100000
set_option maxHeartbeats 12800000
set_option linter.unusedVariables false
set_option linter.unusedSimpArgs false
section
attribute [-go_sem] loadCellsFrom storeCells run_eql_struct run_neq_struct
attribute [local go_sem] aX
def KpV.own(p:KpV)(v:Value):KpV:=⟨p.view,p.normal,p.base,p.image,p.es,v⟩
def VoV.own(p:VoV)(v:Value):VoV:=⟨p.node,p.normal,p.base,p.number,p.commit,p.es,v⟩
def MgV.own(p:MgV)(v:Value):MgV:=⟨p.kind,p.src,p.dst,p.view,p.normal,p.number,p.base,p.commit,p.es,v,p.offset,p.total,p.data,p.seq,p.op,p.code,p.value,p.ok⟩
theorem fD{p:MgV}(h:p.ev.oneCell'=true):∀u∈p.cells,u.oneCell'=true:=by
 intro u a;simp only[MgV.cells,Opn.cells,aT,aS,bD,dF,or_false]at a;rcases a with rfl|rfl|rfl|rfl|rfl|rfl|rfl|rfl|rfl|rfl|rfl|rfl|rfl|rfl|rfl|rfl|rfl|rfl|rfl|rfl|rfl|rfl|rfl<;>first |rfl|exact h
theorem sV{p:KpV}(h:p.ev.oneCell'=true):∀u∈p.cells,u.oneCell'=true:=by
 intro u a;simp only[KpV.cells,bD,dF,or_false]at a;rcases a with rfl|rfl|rfl|rfl|rfl<;>first |rfl|exact h
end
section
attribute [-go_sem] run_eql_struct run_neq_struct
attribute [-go_sem] loadCellsFrom storeCells
attribute [local go_sem] aX
theorem oF(p:RcV):p.cells.length=17:=rfl
theorem dA(p:MgV):p.cells.length=23:=rfl
def Cn(w:World)(B:Nat)(v:Value)(l:List RcV):Prop:=Sl w B v RcV.cells l∧∀p∈l,Sl w B p.ev En.cells p.es
def Co(w:World)(B:Nat)(v:Value)(l:List MgV):Prop:=Sl w B v MgV.cells l∧∀p∈l,Sl w B p.ev En.cells p.es
theorem Cn.below{w c:World}{B C:Nat}{v:Value}{l:List RcV}(h:Cn w B v l)(b:Below C w c)(a:B≤C):Cn c B v l:=⟨h.1.below b a,fun p d=>(h.2 p d).below b a⟩
theorem Co.below{w c:World}{B C:Nat}{v:Value}{l:List MgV}(h:Co w B v l)(b:Below C w c)(a:B≤C):Co c B v l:=⟨h.1.below b a,fun p d=>(h.2 p d).below b a⟩
end
section
attribute [-go_sem] loadCellsFrom storeCells run_eql_struct run_neq_struct
attribute [local go_sem] aX
theorem VoV.fold(p:VoV):List.foldl (fun(cs:Array Value)(x:Value×Nat)=>cs.setIfInBounds x.snd x.fst) z'6a p.cells.zipIdx=p.cells.toArray:=by
 obtain⟨a,b,c,d,e,f,g⟩:=p;simp[VoV.cells]
attribute [local go_sem] VoV.fold
structure RpO(w:World)(base:Nat)(p:RpV)(ps:List ObV):Prop where
 es:Ow w base 122 11 p.k.ev En.cells p.k.es
 st:Ws w base p.s ps
 starts:Ow w base 3 1 p.sv i1 p.starts
 votes:Ow w base 175 6 p.vv VoV.cells p.votes
 ves:∀v∈p.votes,Ow w base 122 11 v.ev En.cells v.es
 acks:Ow w base 172 2 p.av Ak.cells p.acks
section
variable {w w':World}{base base2 b:Nat}{p:RpV}{ps:List ObV}{t:TypeId}{cs:List Value}
theorem RpO.below(h:RpO w base p ps)(a:Bw' w w'):RpO w' base p ps:=⟨h.es.below a,h.st.below a,h.starts.below a,h.votes.below a,fun v b=>(h.ves v b).below a,h.acks.below a⟩
theorem RpO.mono(h:RpO w base p ps)(a:base2≤base):RpO w base2 p ps:=⟨h.es.mono a,h.st.mono a,h.starts.mono a,h.votes.mono a,fun v b=>(h.ves v b).mono a,h.acks.mono a⟩
theorem RpO.rpAt(h:RpO w base p ps):kK w w.heap.size p ps:=⟨h.es.sl eM,h.st.st,h.starts.sl eG,⟨h.votes.sl oP,fun v a=>(h.ves v a).sl eM⟩,h.acks.sl lK⟩
theorem Ow.chg_blk{α:Type}{enc:α→List Value}{k:Nat}{a:TypeId}{v:Value}{l:List α}(h:Ow w base a k v enc l)(c:Blk w b t cs)(d:Chg (fun i=>i=b) w w')(g:a≠t):Ow w' base a k v enc l:=h.chg d fun _ f e=>h.ne_blk c g (e▸f)
theorem RpO.chg(h:RpO w base p ps)(c:Blk w b t cs)(d:Chg (fun i=>i=b) w w')(a:t≠264∧t≠262∧t≠3∧t≠141∧t≠122∧t≠175∧t≠172):RpO w' base p ps:=
 ⟨h.es.chg_blk c d (bM a.2.2.2.2.1),h.st.chg c d a.1 a.2.1 a.2.2.1 a.2.2.2.1,h.starts.chg_blk c d (bM a.2.2.1),h.votes.chg_blk c d (bM a.2.2.2.2.2.1),fun v e=>(h.ves v e).chg_blk c d (bM a.2.2.2.2.1),h.acks.chg_blk c d (bM a.2.2.2.2.2.2)⟩
end
theorem lT{p:RpV}{ps:List ObV}{w:World}{B:Nat}(h:kK w B p ps):∀u∈p.cells,u.oneCell'=true:=by
 intro u a;simp only[RpV.cells,cV]at a;rcases a with (((((a|a)|a)|a)|a)|a)
 .simp only[bD,dF,or_false]at a; rcases a with rfl|rfl<;>rfl
 .exact Bt h.1 u a
 .simp only[bD,dF,or_false]at a; rcases a with rfl; rfl
 .exact StV.one h.2.1 u a
 .simp only[bD,dF,or_false]at a;rcases a with rfl|rfl|rfl|rfl
  .rfl
  .exact h.2.2.1.one
  .exact h.2.2.2.1.1.one
  .exact h.2.2.2.2.one
 .exact Bv _ u a
theorem Blk.off{W:World}{g:Nat}{t:TypeId}{cs:List Value}(h:Blk W g t cs)(o:Nat)(a cs':List Value)(c:iT cs o a=cs')(d:o+a.length≤cs.length)(b:∀u∈a,u.oneCell'=true):
  ∃W',W.setRow g cs'.toArray=W'∧Sem.run prog (storeCells ⟨g,o,none⟩ a 0) W=.ok () W'∧Blk W' g t cs'∧Chg (fun i=>i=g) W W':=by
 subst c;exact⟨_,rfl,h.storeOff o a d b,h.set _,(Chg.refl (fun i=>i=g) W).setRow (.inr rfl) _⟩
section
variable {α:Type}{enc:α→List Value}{w w':World}{base base2 k:Nat}{p:RpV}{q:StV}{ps:List ObV}{t:TypeId}{v:Value}{l:List α}
theorem Ow.chg_row{β:Type}{b:β→List Value}{c:Nat}{a:TypeId}{v2:Value}{l2:List β}(h:Ow w base2 a c v2 b l2)(g:Ow w base t k v enc l)(d:Chg (fun i=>v.ownBlock=some i) w w')(j:t≠a):Ow w' base2 a c v2 b l2:=h.chg d fun i f e=>g.apt h j i e f
theorem Ws.chg_row(h:Ws w base2 q ps)(b:Ow w base t k v enc l)(c:Chg (fun i=>v.ownBlock=some i) w w')(g:t≠264)(j:t≠262)(d:t≠3)(m:t≠141):Ws w' base2 q ps:=
 ⟨⟨aM.chg h.h.obs c fun i a e=>b.apt_or h.h.obs g i e a.symm,h.h.rws.chg c fun p f i a=>⟨fun e=>b.apt (h.h.rws.row p f).1 d i a e,fun e=>b.apt (h.h.rws.row p f).2 d i a e⟩,h.h.eq,aM.chg h.h.free c fun i a e=>b.apt_or h.h.free j i e a.symm⟩,aM.chg h.rows c fun i a e=>b.apt_or h.rows m i e a.symm⟩
end
end
section
attribute [-go_sem] loadCellsFrom storeCells run_eql_struct run_neq_struct
attribute [local go_sem] aX VoV.fold
def iE:List Value:=[.i 0,.i 0,.i 0,.i 0,.i 0,.string ⟨#[]⟩,.slice none 0 0,.i 0,.i 0,.slice none 0 0,.i 0,.i 0,.i 0,.i 0,.i 0,.slice none 0 0,.slice none 0 0,.i 0,.slice none 0 0,.slice none 0 0,.slice none 0 0,.i 0,.i 0,.i 0,.i 0,.string ⟨#[]⟩]
def RpV.mk'(p:RpV)(kv:Value)(q:StV)(sv:Value)(vs:List VoV)(vv:Value)(av:Value):RpV:=⟨p.id,p.nodes,p.k.own kv,p.commit,q,p.timer,p.starts,sv,vs,vv,p.acks,av,p.part⟩
structure OwF(w W:World)(g0 g1:Nat)(cs:List Value):Prop where
 x:Blk W g0 50 cs
 r:Blk W g1 50 iE
 b:Bw' w W
 ne:w.heap.size≤g0∧g0<g1
theorem OwF.below{w W W':World}{d e:Nat}{c:List Value}(h:OwF w W d e c)(a:Bw' W W'):OwF w W' d e c:=⟨h.x.grow a,h.r.grow a,h.b.on a,h.ne⟩
theorem OwF.chg{w W W':World}{a c:Nat}{e cs':List Value}(h:OwF w W a c e)(f:Blk W' a 50 cs')(d:Chg (fun i=>i=a) W W'):OwF w W' a c cs':=⟨f,h.r.chg d (by have:=h.ne; omega),h.b.trans (d.below (fun i g=>by have:=h.ne; omega) h.b.size),h.ne⟩
theorem OwF.row{α:Type}{enc:α→List Value}{w W W':World}{f g k:Nat}{d:List Value}{t:TypeId}{v:Value}{l:List α}(h:OwF w W f g d)(c:Ow W w.heap.size t k v enc l)(a:Chg (fun i=>v.ownBlock=some i) W W')(j:50≠t):OwF w W' f g d:=
 ⟨h.x.chg a fun e=>c.ne_blk h.x (bM j) e,h.r.chg a fun e=>c.ne_blk h.r (bM j) e,h.b.trans (a.below (fun _ m=>(Ow.lt c m).1) h.b.size),h.ne⟩
end
section
attribute [-go_sem] loadCellsFrom storeCells run_eql_struct run_neq_struct
attribute [local go_sem] aX VoV.fold
def VsK(w:World)(base:Nat)(v:Value)(k:Nat)(vs:List VoV):Prop:=∃l:List VoV,l.map (·.x)=vs.map (·.x)∧Ow w base 175 6 v VoV.cells l∧(∀u∈l.take k,Ow w base 122 11 u.ev En.cells u.es)∧l.drop k=vs.drop k
theorem VsK.below{w c:World}{base k:Nat}{v:Value}{b:List VoV}(h:VsK w base v k b)(a:Bw' w c):VsK c base v k b:=
 h.imp fun _ ⟨d,e,f,g⟩=>⟨d,e.below a,fun u i=>(f u i).below a,g⟩
theorem Wy{α:Type}{l:List α}{k:Nat}{a:α}(h:l[k]? =some a):l.set k a=l:=rL fun i=>by
 rw[rM]
 split
 .rename_i b;subst b
  split
  .exact h.symm
  .rename_i c;exact absurd (iZ.1 h).1 c
 .rfl
theorem Wz{α:Type}(l:List α)(k:Nat)(b:k<l.length)(y:α):(l.set k y).take (k+1)=l.take k++[y]∧(l.set k y).drop (k+1)=l.drop (k+1):=by
 rw[List.set_eq_take_append_cons_drop,aK b,show l.take k++y::l.drop (k+1)=(l.take k++[y])++l.drop (k+1) by simp];have a:(l.take k++[y]).length=k+1:=by simp; omega
 exact⟨vX a,vY a⟩
theorem Xa{s:St}(a:stB s=true):(iD s).size≤65536:=by
 unfold iD;rw[aK a];obtain⟨c,d⟩:=jR.1 a;have e1:=Ai c;have e2:=(wY s.rows 0 (by omega) d).2;have b:=jI jC 20 Jb s.rows;show (fK s).toArray.size≤65536;unfold fK;simp only[fF,bF,fU,b];omega
theorem Xb{s:St}(a:stB s=true)(b:stR s):dX (iD s).data.toList=some s:=by
 unfold iD;rw[aK a];simpa using Aj a b
theorem Jg(p:RpV)(ps:List ObV)(B:Nat)(w:World)(h:kK w B p ps)(hB:B≤w.heap.size)(S:RpS p ps)(hs:stB p.s.x=true):
  Calls prog 55 #[.agg p.cells.toArray] w fun e w'=>∃p' ps',e=.returned (.agg p'.cells.toArray)∧p'.x=p.x∧RpO w' w.heap.size p' ps'∧Bw' w w':=by
 obtain⟨W1,l7,y1,b1,z1⟩:=par w 50 p.cells;obtain⟨W2,d4,x2,b2,z2⟩:=par W1 50 iE;unfold iE at d4;have z:=b1.on b2;have HF:=kp (OwF.mk (y1.grow b2) x2 z ⟨aN _,z1⟩);have X:=k'3 (h.below z hB) (aB hB z.size) S;have l0:=kp (fun(W:World)(m:Bw' w W)=>h.below m hB);have Z:=k'2 hB hs;have k6:=HF.o.x.cell 6;rw[RpV.c6]at k6;have g6:=kp (fam'3.2.2.2.2.1 p.k.ev p.k.es B W2 X.a.1 X.b (by have:=S.k.2.1; omega));clear y1 b1 z1 x2 b2 z2 z h hB S hs;go_enter func55,ntmps55;go_wp2_with fail;refine (g6.o).mono ?_;rintro e w3 ⟨kv,rfl,g1,a3⟩;clear l7 d4;have g1:Ow w3 W2.heap.size 122 11 kv En.cells p.k.es:=g1;obtain⟨F,G,rfl,-⟩:=dO g1;have x3:=HF.o.x.grow a3;have k6:=x3.cell 6;have f6:=x3.frozen 6;rw[RpV.c6]at k6;have x4:Blk _ _ _ (p.mk' (.slice F p.k.es.length G) p.s p.sv p.votes p.vv p.av).cells:=x3.setCell 6 (.slice F p.k.es.length G);have c4:=(Chg.refl (fun i=>i=w.heap.size) w3).setCell (.inr rfl) 6 (.slice F p.k.es.length G);have a0:=kp ((HF.o.below a3).chg x4 c4);have j2:=kp ((g1.mono HF.o.b.size).chg_blk x3 c4 (by decide));obtain⟨W4,y2⟩:∃W,w3.setCell ⟨w.heap.size,6,none⟩ (.slice F p.k.es.length G)=W:=⟨_,rfl⟩
 rw[y2]at a0 j2;have l8:=a0.o.x.loadOff (P:=prog) 8 9 p.s.cells rfl rfl;have q6:=kp (Cm p.s ps B W4 (l0.o W4 a0.o.b).2.1 (aB Z.a a0.o.b.size) (by have:=X.C.s.1.obs; omega) (by have:=X.C.s.1.free; omega) (by have:=X.C.s.2.1; omega));clear g1 a3 x3 x4 c4;obtain⟨V,j5⟩:=nm' p.k.es.length;rw[j5]at y2 a0 j2;go_wp2_with fail;refine mb' (q6.o) fun w5 j4=>?_;have l3:=Xa Z.B;obtain⟨t1,q5⟩:∃t,iD p.s.x=t:=⟨_,rfl⟩
 have b3:=Xb Z.B X.C.s.2.2.1;rw[q5]at l3 b3 ⊢;obtain⟨c5,W5,q7,d1,l5,m5,p0,b5⟩:=vB w5 t1 (aB l3 (by decide));have j0:=k'5 (j4.on d1) l5 m5 p0 b5;have o6:=kp b3;clear j4 d1 l5 m5 p0 b5 l3 b3 q5 j5 l8;go_wp2_with fail;clear q7 y2;refine (yG _ _ _ _ t1.data.toList W5 j0.b j0.c (pH _) j0.d j0.E).mono ?_;rintro e w6 ⟨q,qs,rfl,l1,j3,d1⟩;rw[o6.o]at l1 ⊢;have l1:q.x=p.s.x:=l1;have z:=j0.a.on d1;obtain⟨A,o7,s7,x7,c7⟩:=(a0.o.x.grow z).off 8 q.cells (p.mk' (.slice F V G) q p.sv p.votes p.vv p.av).cells rfl (by show 8+9≤26; omega) (StV.one j3.st);have l6:=kp ((a0.o.below z).chg x7 c7);have p6:=kp ((j2.o.below z).chg_blk (a0.o.x.grow z) c7 (by decide));have y3:=k'2 l1 ((j3.ws.mono (aB a0.o.b.size j0.a.size)).chg (a0.o.x.grow z) c7 (by decide) (by decide) (by decide) (by decide));clear l1 j3 d1 z x7 c7;go_wp2_with fail;clear s7 o7;have Q:=kp (l6.o.below (bL (aH _ A)));have e6:=kp (fun(W:World)(m:Below A.drew.heap.size A.drew W)=>fam'3.1 p.sv p.starts B W (l0.o W (Q.o.b.on m)).2.2.1 (aB Z.a (Q.o.b.on m).size) (by have:=X.C.l.1; omega));have b6:=kp (fun(W:World)(m:Below A.drew.heap.size A.drew W)=>fam'3.2.2.2.1 p.av p.acks B W (l0.o W (Q.o.b.on m)).2.2.2.2 (aB Z.a (Q.o.b.on m).size) (by have:=X.C.l.2.2; omega));have j6:=kp (fun(W:World)(m:Below A.drew.heap.size A.drew W)=>fam'3.2.2.2.2.2.2 p.vv p.votes B W (l0.o W (Q.o.b.on m)).2.2.2.1.1 (aB Z.a (Q.o.b.on m).size) (by have:=X.C.l.2.1; omega) (fun x hx=>Bu ((l0.o W (Q.o.b.on m)).2.2.2.1.2 x hx)));refine fM 10 (fun W'=>Below A.drew.heap.size A.drew W') (fun _=>jK) (by kernel_rfl) (by kernel_rfl) (aH _ _) ?_
 iterate 2 (refine bE ?_; apply Exists.intro)
 refine bJ (fun u W'=>Ow W' A.drew.heap.size 3 1 u i1 p.starts) ?_
 iterate 2 (refine bE ?_; apply Exists.intro)
 refine bJ (fun u W'=>Ow W' A.drew.heap.size 172 2 u Ak.cells p.acks) ?_
 iterate 2 (refine bE ?_; apply Exists.intro)
 refine bJ (fun u W'=>Ow W' A.drew.heap.size 175 6 u VoV.cells p.votes) ?_;refine bE ?_; apply Exists.intro;refine cC ⟨?pers,?walk⟩
 case walk=>
  iterate 2
   apply bB (by kernel_rfl) (by intro t w h; cases h; exact trivial) rfl
   .intro W' f I; have q1:W'.cell? ⟨w.heap.size,18,none⟩=some p.sv:=(Q.o.below f).x.cell 18; go_wp2_with fail;exact⟨rfl,_,rfl,f,aH _ _,rfl⟩
   simp only[Act.put,aE,aC,aD]
  refine⟨fun W' f I=>?_,fun u2=>?_⟩
  .go_wp2_with fail;refine (e6.o W' f).mono ?_;rintro e w2 ⟨v2,rfl,g0,Y⟩;go_wp2_with fail;exact⟨rfl,_,rfl,f.on Y,Y,Ow.mono g0 f.size⟩
  simp only[Act.put,aE,aC,aD]
  iterate 2
   apply bB (by kernel_rfl) (by intro t w h; cases h; exact trivial) rfl
   .intro W' f I; have q1:W'.cell? ⟨w.heap.size,20,none⟩=some p.av:=(Q.o.below f).x.cell 20; go_wp2_with fail;exact⟨rfl,_,rfl,f,aH _ _,rfl⟩
   simp only[Act.put,aE,aC,aD]
  refine⟨fun W' f I=>?_,fun u5=>?_⟩
  .go_wp2_with fail;refine (b6.o W' f).mono ?_;rintro e w2 ⟨v2,rfl,g0,Y⟩;go_wp2_with fail;exact⟨rfl,_,rfl,f.on Y,Y,Ow.mono g0 f.size⟩
  simp only[Act.put,aE,aC,aD]
  iterate 2
   apply bB (by kernel_rfl) (by intro t w h; cases h; exact trivial) rfl
   .intro W' f I; have q1:W'.cell? ⟨w.heap.size,19,none⟩=some p.vv:=(Q.o.below f).x.cell 19; go_wp2_with fail;exact⟨rfl,_,rfl,f,aH _ _,rfl⟩
   simp only[Act.put,aE,aC,aD]
  refine⟨fun W' f I=>?_,fun u8=>?_⟩
  .go_wp2_with fail;refine (j6.o W' f).mono ?_;rintro e w2 ⟨v2,rfl,g0,Y⟩;go_wp2_with fail;exact⟨rfl,_,rfl,f.on Y,Y,Ow.mono g0 f.size⟩
  simp only[Act.put,aE,aC,aD];apply bB (by kernel_rfl) (by intro t w h; cases h; exact trivial) rfl
  .intro W' f I; go_wp2_with fail;exact⟨rfl,_,rfl,f,aH _ _,rfl⟩
  simp only[Act.put,aE,aC,aD];intro W8 f I;have f2:Ow W8 A.drew.heap.size 3 1 u2 i1 p.starts:=I 22;have f5:Ow W8 A.drew.heap.size 172 2 u5 Ak.cells p.acks:=I 25;have f8:Ow W8 A.drew.heap.size 175 6 u8 VoV.cells p.votes:=I 28;clear I;simp only[bS,bU];obtain⟨J,c2,rfl,-⟩:=dO f2;obtain⟨N,c5,rfl,-⟩:=dO f5;obtain⟨O,c8,rfl,-⟩:=dO f8;obtain⟨M,e3⟩:∃n,p.starts.length=n:=⟨_,rfl⟩
  obtain⟨T,p0⟩:∃n,p.acks.length=n:=⟨_,rfl⟩
  obtain⟨y,d2⟩:∃n,p.votes.length=n:=⟨_,rfl⟩
  have HN:=k'2 d2 X.C.l.2.1;rw[e3]at f2;rw[p0]at f5;rw[d2]at f8;rw[e3,p0,d2];clear e3 p0 d2;have x8:=(Q.o.below f).x;have z6:W8.cell? ⟨w.heap.size,18,none⟩=some p.sv:=x8.cell 18;have d7:=x8.frozen 18;have x9:Blk _ _ _ (p.mk' (.slice F V G) q (.slice J M c2) p.votes p.vv p.av).cells:=x8.setCell 18 (.slice J M c2);have d9:=(Chg.refl (fun i=>i=w.heap.size) W8).setCell (.inr rfl) 18 (.slice J M c2);obtain⟨W9,e4⟩:∃W,W8.setCell ⟨w.heap.size,18,none⟩ (.slice J M c2)=W:=⟨_,rfl⟩
  rw[e4]at x9 d9;have b7:W9.cell? ⟨w.heap.size,20,none⟩=some p.av:=x9.cell 20;have g7:=x9.frozen 20;have e0:Blk _ _ _ (p.mk' (.slice F V G) q (.slice J M c2) p.votes p.vv (.slice N T c5)).cells:=x9.setCell 20 (.slice N T c5);have p2:=d9.trans ((Chg.refl (fun i=>i=w.heap.size) W9).setCell (.inr rfl) 20 (.slice N T c5)) fun _ _ h=>h;obtain⟨z0,p1⟩:∃W,W9.setCell ⟨w.heap.size,20,none⟩ (.slice N T c5)=W:=⟨_,rfl⟩
  rw[p1]at e0 p2;have o2:z0.cell? ⟨w.heap.size,19,none⟩=some p.vv:=e0.cell 19;have e7:=e0.frozen 19;have g2:Blk _ _ _ (p.mk' (.slice F V G) q (.slice J M c2) p.votes (.slice O y c8) (.slice N T c5)).cells:=e0.setCell 19 (.slice O y c8);have d0:=p2.trans ((Chg.refl (fun i=>i=w.heap.size) z0).setCell (.inr rfl) 19 (.slice O y c8)) fun _ _ h=>h;obtain⟨m0,z3⟩:∃W,z0.setCell ⟨w.heap.size,19,none⟩ (.slice O y c8)=W:=⟨_,rfl⟩
  rw[z3]at g2 d0;have m6:=kp ((Q.o.below f).chg g2 d0);have a2:=Q.o.b.size;have y6:=kp (show Ow m0 w.heap.size 122 11 (.slice F V G) En.cells p.k.es∧Ws m0 w.heap.size q qs∧Ow m0 w.heap.size 3 1 (.slice J M c2) i1 p.starts∧Ow m0 w.heap.size 172 2 (.slice N T c5) Ak.cells p.acks∧VsK m0 w.heap.size (.slice O y c8) 0 p.votes from
   ⟨((p6.o.below (bL (aH _ A))).below f).chg_blk x8 d0 (by decide),((y3.B.below (bL (aH _ A))).below f).chg x8 d0 (by decide) (by decide) (by decide) (by decide),(f2.mono a2).chg_blk x8 d0 (by decide),(f5.mono a2).chg_blk x8 d0 (by decide),⟨p.votes,rfl,(f8.mono a2).chg_blk x8 d0 (by decide),fun _ h=>(by simp at h),rfl⟩⟩)
  clear x8 x9 d9 e0 p2 d0 f2 f5 f8 a2 f;have a7:m0.cell? ⟨w.heap.size,19,none⟩=some (.slice O y c8):=g2.cell 19;clear g2;have d5:y≤1000:=by have:=HN.o; omega
  go_wp2_with fail;clear z6 d7 b7 g7 o2 e7 a7 e4 p1 z3
  go_loopw [35] (fun i wr=>∃k:Nat,k≤y∧i=.i k∧OwF w wr w.heap.size W1.heap.size (p.mk' (.slice F V G) q (.slice J M c2) p.votes (.slice O y c8) (.slice N T c5)).cells∧Ow wr w.heap.size 122 11 (.slice F V G) En.cells p.k.es∧Ws wr w.heap.size q qs∧Ow wr w.heap.size 3 1 (.slice J M c2) i1 p.starts∧Ow wr w.heap.size 172 2 (.slice N T c5) Ak.cells p.acks∧VsK wr w.heap.size (.slice O y c8) k p.votes) (fun i _=>y-(intOf i).toNat)
  case atStart=>exact⟨0,by omega,rfl,m6.o,y6.o⟩
  case round=>
   obtain⟨k,hk,rfl,hf,p4,p5,o5,g4,l,d3,a5,y4,q4⟩:=hrel;have R:=k'8 hf p4 p5 o5 g4 d3 y4 q4;have z4:l.length=y:=by have:=bA List.length d3; simp at this; have:=HN.a; omega
   have l2:=kp a5;clear hf p4 p5 o5 g4 d3 y4 q4 a5
   by_cases j8:k<y
   .have g3:(k:Int)<(y:Int):=by omega
    have b0:k<l.length:=by omega
    have j1:k<p.votes.length:=by have:=HN.a; omega
    obtain⟨b,cb,hv,l4,m4,-,-,o4,z7⟩:=l2.o.at_ oP (by omega) (by omega);obtain⟨hA,-,-⟩:=Value.slice.inj hv;subst hA;have hx:l[k]=p.votes[k]:=by
     have:=R.H;rw[iF b0,iF j1]at this;exact (List.cons.inj this).1
    have q0:=xJ (P:=prog) (w:=wr) (b:=b) (o:=k*6) (VoV.cells l[k]) (fun t u hu=>o4 k b0 t u hu);rw[show (VoV.cells l[k]).length=6 from rfl]at q0;have m3:uX wr B p.votes[k]:=(l0.o wr R.a.b).2.2.2.1.2 _ (cU j1);have y5:=(X.C.v _ (cU j1)).1;have HS:=kp (Wz l k b0);have HG:=k'4 b0 (jN b0) (Nat.zero_lt_of_lt b0) (fun(W:World)(L:Ow W w.heap.size 175 6 (.slice (some ⟨b,0,none⟩) y c8) VoV.cells l)=>show W.cell? ⟨b,k*6+5,none⟩=some (l[k]).ev∧W.frozen? ⟨b,k*6+5,none⟩=false from by
     obtain⟨b',_,a8,-,-,-,-,p7,y7⟩:=L.at_ oP (by omega) (Nat.zero_lt_of_lt b0);obtain⟨j7,-,-⟩:=Value.slice.inj a8
     cases j7;exact⟨p7 k b0 5 _ rfl,y7 _⟩)
    have HP:=kp (fun(u:Value)(W:World)(L:Ow W w.heap.size 175 6 (.slice (some ⟨b,0,none⟩) y c8) VoV.cells l)=>Ow.put L oP k b0 (j:=5) (by omega) u (x':=(l[k]).own u) rfl);rw[hx]at q0 HG HP;clear o4 hv hx;generalize p.votes[k]'j1=x at *;obtain⟨K,m7,e8,a6,o1,-⟩:=eJ wr 175 z'6 x.cells rfl (Bu m3);have o2:wr.cell? ⟨w.heap.size,19,none⟩=some (.slice (some ⟨b,0,none⟩) y c8):=R.a.x.cell 19;have U:=k'7 a6 (R.a.below o1) (Sl.below m3 o1 (aB Z.a R.a.b.size)) y5 o1 l4 m4;clear a6 o1 m3 y5 b0 j1 l4 m4 z4 d5;go_wp2_with fail;clear q0 e8 m7 o2 z7;have m2:=k'2 (U.a.below (bL (aH K.heap.size K)) U.a.lt) (U.b.below (bL (aH K.heap.size K)));have d6:=kp (fun(W:World)(m:Below K.drew.heap.size K.drew W)=>fam'3.2.2.2.2.1 x.ev x.es B W (Sl.below (Sl.below U.c (bL (aH K.heap.size K)) (aB Z.a U.b.b.size)) m (aB Z.a U.b.b.size)) (aB (aB Z.a U.b.b.size) m.size) U.d);refine fM 6 (fun W'=>Below K.drew.heap.size K.drew W') (fun _=>jK) (by kernel_rfl) (by kernel_rfl) (aH _ _) ?_
    iterate 5 (refine bE ?_; apply Exists.intro)
    refine bJ (fun u W'=>Ow W' K.drew.heap.size 122 11 u En.cells x.es) ?_;refine cC ⟨?pers2,?walk2⟩
    case walk2=>
     iterate 5
      apply bB (by kernel_rfl) (by intro t w h; cases h; exact trivial) rfl
      .intro W' f I; have q1:W'.cell? ⟨w.heap.size,19,none⟩=some (.slice (some ⟨b,0,none⟩) y c8):=(m2.B.below f).x.cell 19; have q2:W'.cell? ⟨wr.heap.size,5,none⟩=some x.ev:=(m2.a.grow f).cell 5; go_wp2_with fail;exact⟨rfl,_,rfl,f,aH _ _,rfl⟩
      simp only[Act.put,aE,aC,aD]
     refine⟨fun W' f I=>?_,fun u5=>?_⟩
     .go_wp2_with fail;refine (d6.o W' f).mono ?_;rintro e w2 ⟨v2,rfl,g0,Y⟩;go_wp2_with fail;exact⟨rfl,_,rfl,f.on Y,Y,Ow.mono g0 f.size⟩
     simp only[Act.put,aE,aC,aD];intro o0 f I;have f5:Ow o0 K.drew.heap.size 122 11 u5 En.cells x.es:=I 45;clear I;simp only[bS,bU];obtain⟨y0,a1,rfl,-⟩:=dO f5;obtain⟨m1,e5⟩:∃n,x.es.length=n:=⟨_,rfl⟩
     rw[e5]at f5 ⊢;clear e5;have z:=(U.e.on (bL (aH K.heap.size K))).on f;have L:=l2.o.below z;obtain⟨q3,g5⟩:=HG.D o0 L;have hc:=(Chg.refl (fun i=>(Value.slice (some ⟨b,0,none⟩) y c8).ownBlock=some i) o0).setCell (g:=b) (.inr rfl) (k*6+5) (.slice y0 m1 a1);have hp:=HP.o (.slice y0 m1 a1) o0 L;have m:=R.o;have p3:=k'6 ((m2.B.below f).row L hc (by decide)) ((m.2.1.below z).chg_row L hc (by decide)) ((m.2.2.1.below z).chg_row L hc (by decide) (by decide) (by decide) (by decide)) ((m.2.2.2.1.below z).chg_row L hc (by decide)) ((m.2.2.2.2.1.below z).chg_row L hc (by decide)) (show VsK (o0.setCell ⟨b,k*6+5,none⟩ (.slice y0 m1 a1)) w.heap.size (.slice (some ⟨b,0,none⟩) y c8) (k+1) p.votes from
       ⟨l.set k (x.own (.slice y0 m1 a1)),by rw[rU,←m.2.2.2.2.2.1]; exact Wy (by rw[Md,HG.b]; rfl),hp,fun u hu=>by
        rw[(HS.o _).1]at hu;rcases cV.1 hu with hu|hu
        .exact ((m.2.2.2.2.2.2.1 u hu).below z).chg_row L hc (by decide)
        .rw[bZ.1 hu];exact (Ow.mono f5 U.b.b.size).chg_row L hc (by decide),by
        rw[(HS.o _).2];have:=bA List.tail m.2.2.2.2.2.2.2;simpa using this⟩)
     obtain⟨g8,a4⟩:∃W,o0.setCell ⟨b,k*6+5,none⟩ (.slice y0 m1 a1)=W:=⟨_,rfl⟩
     rw[a4]at p3;have d5:y≤1000:=by have:=HN.o; omega
     have g3:(k:Int)<(y:Int):=by omega
     clear z L hc hp m f5 f;go_wp2_with fail;clear q3 g5 a4;go_roundw
     case rel=>exact⟨k+1,by omega,by go_num,p3.o⟩
     case measure=>simp[intOf]; omega
    case pers2=>exact⟨pv',pv',pv',pv',pv',fun _ _ _ _ _ h hR=>h.below hR,trivial⟩
   .obtain rfl:y=k:=by omega
    have l9:=R.a.x.load (P:=prog) (k:=26) rfl;have m:=R.o;have o9:RpO wr w.heap.size (p.mk' (.slice F V G) q (.slice J M c2) l (.slice O y c8) (.slice N T c5)) qs:=⟨m.2.1,m.2.2.1,m.2.2.2.1,l2.o,fun u hu=>m.2.2.2.2.2.2.1 u (by rw[eF (by omega)]; exact hu),m.2.2.2.2.1⟩
    obtain⟨z0,p1,z5,e0,e10⟩:=R.a.r.put (p.mk' (.slice F V G) q (.slice J M c2) l (.slice O y c8) (.slice N T c5)).cells rfl (lT o9.rpAt);have z5:Sem.run prog (storeCells ⟨W1.heap.size,0,none⟩ (p.mk' (.slice F V G) q (.slice J M c2) p.votes (.slice O y c8) (.slice N T c5)).cells 0) wr=.ok () z0:=z5;have d8:=e0.load (P:=prog) (k:=26) rfl;have o3:=k'2 (o9.chg R.a.r e10 (by decide)) (R.a.b.trans (e10.below (B:=w.heap.size) (fun i hi=>by have:=R.a.ne; omega) R.a.b.size));have U:=kp (show (p.mk' (.slice F V G) q (.slice J M c2) l (.slice O y c8) (.slice N T c5)).x=p.x by
     show Rp.mk p.id p.nodes p.k.x p.commit q.x p.timer p.starts (l.map (·.x)) p.acks p.part=_;rw[m.2.2.2.2.2.1,y3.a];rfl)
    clear m o9 e0 e10 p1 z4;go_wp2_with fail;exact bI (v:=.agg (p.mk' (.slice F V G) q (.slice J M c2) l (.slice O y c8) (.slice N T c5)).cells.toArray) (by simp[results,results55,go_sem,d8]) rfl ⟨_,qs,rfl,U.o,o3.a,o3.B⟩
 case pers=>exact⟨pv',pv',fun _ _ _ _ _ h hR=>h.below hR,pv',pv',fun _ _ _ _ _ h hR=>h.below hR,pv',pv',fun _ _ _ _ _ h hR=>h.below hR,pv',trivial⟩
end
section
attribute [-go_sem] loadCellsFrom storeCells run_eql_struct run_neq_struct Instr.build
attribute [local go_sem] aX VoV.fold
def oG(id nodes:Int)(k:Kd)(s:St):Rp:=⟨id,nodes,k,k.base,s,0,[],[],[],iR⟩
def yI(id nodes base:Int)(k:KpV)(q:StV):RpV:=⟨id,nodes,k,base,q,0,[],.slice none 0 0,[],.slice none 0 0,[],.slice none 0 0,iR⟩
def qT(id nodes:Int)(k:KpV)(q:StV):RpV:=yI id nodes k.base k q
def jM:RpV:=⟨0,0,⟨0,0,0,⟨#[]⟩,[],.slice none 0 0⟩,0,oD,0,[],.slice none 0 0,[],.slice none 0 0,[],.slice none 0 0,iR⟩
theorem Xc(id nodes:Int)(k:Kd):lZ id nodes k=if cS (oG id nodes k ((dX (kZ k.image)).getD mY))=true then some (oG id nodes k ((dX (kZ k.image)).getD mY)) else none:=by
 unfold lZ
 cases h:dX (kZ k.image) with
 |some s=>rfl
 |none=>
  rw[aF];intro a;have b:dY k=true:=by
   unfold cS oG at a;simp only[bH]at a;exact a.2.2.1
  obtain⟨s,c⟩:=mW.1 b;rw[c.img]at h
  cases h
def Xd(w:World)(o:Option Rp)(e:Ending)(w':World):Prop:=
 ∃p ps,e=.returned (.tuple #[.agg p.cells.toArray,.i (if o.isSome then 0 else 1)])∧p.x=o.getD qK∧RpO w' w.heap.size p ps∧Bw' w w'
theorem vE(w:World)(base:Nat):RpO w base jM []:=⟨Ow.nil _ _ _ _ _,yH _ _,Ow.nil _ _ _ _ _,Ow.nil _ _ _ _ _,fun _ h=>(nomatch h),Ow.nil _ _ _ _ _⟩
theorem Jh{w:World}{B:Nat}{id nodes:Int}{k:KpV}{q:StV}{a:List ObV}(c:kJ w B k)(d:gW w B q a)(b:B=w.heap.size):kK w B (qT id nodes k q) a:=by
 subst b;exact⟨c,d,(Ow.nil w w.heap.size 3 1 i1).sl eG,⟨(Ow.nil w w.heap.size 175 6 VoV.cells).sl oP,fun _ h=>(nomatch h)⟩,(Ow.nil w w.heap.size 172 2 Ak.cells).sl lK⟩
theorem Xe{o:Option St}{l:List UInt8}{q:StV}{c:List ObV}{w:World}{B:Nat}(g:dX l=o)(a:q.x=o.getD mY)(h:gW w B q c):SmO q.p c∧q.rows.length≤1000∧stR q.x∧inR q.x.h.next:=by
 cases o with
 |some s=>
  obtain⟨b,d⟩:=uY g;have a:q.x=s:=a;rw[←a]at b d;have H:=gE.1 (jR.1 b).1;have j:=qR (jR.1 b).2 (by omega);have e:q.x.rows=q.rows:=rfl;rw[e]at j;have m:=H.next;exact⟨SmO.ok h.1 H,by omega,d,⟨by have e:q.x.h=q.p.x:=rfl; omega,by have e:q.x.h=q.p.x:=rfl; omega⟩⟩
 |none=>
  have a:q.x=mY:=a;have f:q.p.x=lA:=bA St.h a;have k:q.rows=[]:=bA St.rows a;have i:c=[]:=by have:=h.1.2.1; rw[f]at this; simpa [lA] using this.symm
  subst i;refine⟨⟨by simp,by rw[f]; simp[lA],fun _ h=>(nomatch h)⟩,by rw[k]; simp,by rw[a]; exact⟨fun _ h=>(nomatch h),fun _ h=>(nomatch h)⟩,by rw[a]; exact⟨by decide,by decide⟩⟩
theorem Xf(id nodes base:Int)(k:KpV)(w:World):(Instr.build 50 #[(0,.i id),(1,.i nodes),(2,.agg k.cells.toArray),(3,.i base)]).run prog w=.ok (.agg (yI id nodes base k oD).cells.toArray) w:=run_build w _ _ _ (by kernel_rfl)
theorem Xg(id nodes base:Int)(k:KpV)(q:StV)(w:World):(Instr.build 50 #[(0,.i id),(1,.i nodes),(2,.agg k.cells.toArray),(3,.i base),(4,.agg q.cells.toArray)]).run prog w=.ok (.agg (yI id nodes base k q).cells.toArray) w:=run_build w _ _ _ (by kernel_rfl)
theorem Xh(w:World):(Instr.build 50 #[]).run prog w=.ok (.agg jM.cells.toArray) w:=run_build w _ _ _ (by kernel_rfl)
attribute [go_sem] Xf Xg Xh
theorem Xi{id nodes:Int}{k:KpV}{q:StV}{c:List ObV}(d:KdR k.x∧k.es.length≤1000000∧k.image.size≤1000000)(a:inR id∧inR nodes∧inR k.base)(b:SmO q.p c∧q.rows.length≤1000∧stR q.x∧inR q.x.h.next):RpS (qT id nodes k q) c:=
 ⟨d,b,⟨dJ _,dJ _,dJ _⟩,fun _ h=>(nomatch h),⟨a.1,a.2.1,a.2.2,(show (-9223372036854775808:Int)≤0 by decide),(show (0:Int)≤9223372036854775807 by decide)⟩,fun u e=>by have:=b.1.rows u e; omega⟩
theorem Xj(id nodes:Int)(k:KpV)(B:Nat)(w:World)(h:kJ w B k)(R:B≤w.heap.size)(Y:KdR k.x∧k.es.length≤1000000∧k.image.size≤1000000)(y:inR id∧inR nodes∧inR k.base):
  Calls prog 36 #[.i id,.i nodes,.agg k.cells.toArray] w (Xd w (lZ id nodes k.x)):=by
 rw[Xc];obtain⟨o,n⟩:=nm' (dX (kZ k.image));rw[show dX (kZ k.x.image)=o from n];obtain⟨O,l⟩:∃O,(if cS (oG id nodes k.x (o.getD mY))=true then some (oG id nodes k.x (o.getD mY)) else none)=O:=⟨_,rfl⟩
 rw[l];obtain⟨W1,j1,V,b1,z1⟩:=par w 35 k.cells;obtain⟨p,g0,x2,H,z2⟩:=par W1 50 iE;unfold iE at g0;have l0:=(V.grow H).load (P:=prog) (k:=5) rfl;have k2:=(V.grow H).cell 2;change _=some (Value.i k.base)at k2;have S:=b1.on H;obtain⟨W3,m1,s3,x3,N,z3⟩:=eJ p 50 iE (qT id nodes k oD).cells rfl (lT (Jh (w:=p) (Sl.more (Sl.below h S R) (aB R S.size)) (yH p p.heap.size).st rfl));have s3:Sem.run prog (storeCells ⟨p.heap.size,0,none⟩ (yI id nodes k.base k oD).cells 0) (p.alloc (.cells #[.i 0,.i 0,.i 0,.i 0,.i 0,.string ⟨#[]⟩,.slice none 0 0,.i 0,.i 0,.slice none 0 0,.i 0,.i 0,.i 0,.i 0,.i 0,.slice none 0 0,.slice none 0 0,.i 0,.slice none 0 0,.slice none 0 0,.slice none 0 0,.i 0,.i 0,.i 0,.i 0,.string ⟨#[]⟩] 50))=.ok () W3:=s3;have k3:=((V.grow H).grow N).cell 3;change _=some (Value.string k.image)at k3;obtain⟨c5,W5,q1,I,y0,z0,p0,o0⟩:=vB W3 k.image (aB Y.2.2 (by decide));have L:=k'5 I y0 z0 p0 o0;have f:=k'5 (x3.grow I) ((x2.grow N).grow I) ((S.on N).on I) z1 (cY z2 (aN _));have A:=k'4 h R Y y;have HO:=k'2 n l;clear m1 x3 N z3 I y0 z0 p0 o0 S V b1 z1 x2 H z2 h R Y y n l;go_enter func36,ntmps36;go_wp2_with fail;clear q1 j1 g0 l0 k2 s3 k3;refine (yG _ _ _ _ k.image.data.toList W5 L.b L.c (pH _) L.d L.E).mono ?_;rintro e w6 ⟨q,qs,rfl,K,a0,r⟩;have n:dX k.image.data.toList=o:=HO.a;rw[n]at K ⊢;obtain⟨gc,j0⟩:∃gc:Int,(if o.isSome=true then 0 else 60)=gc:=⟨_,rfl⟩
 rw[j0];clear j0;obtain⟨G,o1,s7,x7,c7⟩:=(f.a.grow r).off 8 q.cells (qT id nodes k q).cells rfl (by show 8+9≤26; omega) (StV.one a0.st);have hz:=(f.b.grow r).chg c7 (show ¬W1.heap.size=p.heap.size from fun e=>by have:=f.E; omega);have d0:=(a0.ws.mono f.c.size).chg (f.a.grow r) c7 (by decide) (by decide) (by decide) (by decide);have T:=(f.c.on r).trans (c7.below (B:=w.heap.size) (fun i hi=>by have:=f.d; have:=f.E; omega) (f.c.on r).size);have m0:kJ G G.heap.size k:=Sl.more (Sl.below A.a T A.b) (aB A.b T.size);have b0:=Xi (id:=id) (nodes:=nodes) A.c A.D (Xe n K d0.st);have e0:(qT id nodes k q).x=oG id nodes k.x (o.getD mY):=by rw[←K]; rfl
 have X:=Jh (id:=id) (nodes:=nodes) m0 d0.st rfl;have HC:=kp (Jd (qT id nodes k q) qs G.heap.size G X (aN _) b0);obtain⟨g,U⟩:=nm' (cS (oG id nodes k.x (o.getD mY)));rw[e0,U]at HC;have W:=HO.B;rw[U]at W;have M:=k'3 W U e0;have m:=k'5 x7 hz T X b0;have HZ:=k'2 n K;have l7:=x7.load (P:=prog) (k:=26) rfl;clear K a0 r c7 hz d0 T m0 b0 X e0 U W n x7 o1;go_wp2_with fail;refine mb' (HC.o) fun w8 j=>?_;clear l7 s7
 cases g
 case false=>
  rw[show dG 1 false=1 from rfl];obtain⟨W9,p1,s9,x9,c9⟩:=(m.b.grow j).put jM.cells rfl (lT (vE w8 w8.heap.size).rpAt);have l9:=x9.load (P:=prog) (k:=26) rfl;have F:=kp ((m.c.on j).trans (c9.below (B:=w.heap.size) (fun i hi=>by have:=f.d; omega) (m.c.on j).size));have l:=M.a;obtain rfl:O=none:=by rw[←l]; rfl
  clear x9 c9 p1 j l;go_wp2_with fail;exact bI (v:=.tuple #[.agg jM.cells.toArray,.i 1]) (by simp[results,results36,go_sem,l9]) rfl ⟨jM,[],rfl,rfl,vE _ _,F.o⟩
 rw[show dG 1 true=0 from rfl];have l:=M.a;obtain rfl:O=some (oG id nodes k.x (o.getD mY)):=by rw[←l]; rfl
 have a1:stB q.x=true:=by
  have y:=M.b;unfold cS oG at y;simp only[bH]at y;obtain⟨s,hs⟩:=mW.1 y.2.2.1;have h1:dX k.image.data.toList=some s:=hs.img;have Q:=HZ.B;rw[←HZ.a,h1]at Q;have Q:q.x=s:=Q;rw[Q];exact (uY h1).1
 have l8:=(m.a.grow j).load (P:=prog) (k:=26) rfl;have g1:=kp (Jg (qT id nodes k q) qs G.heap.size w8 (m.d.below j (aN _)) j.size m.E a1);have z:=k'2 (m.b.grow j) (m.c.on j);clear l a1 j;go_wp2_with fail;refine (g1.o).mono ?_;rintro e w9 ⟨p',ps',rfl,q0,Z,J⟩;obtain⟨d2,l1,g2,d1,c10⟩:=(z.a.grow J).put p'.cells rfl (lT Z.rpAt);have a2:=d1.load (P:=prog) (k:=26) rfl;have F:=k'3 q0 ((Z.mono z.B.size).chg (z.a.grow J) c10 (by decide)) ((z.B.on J).trans (c10.below (B:=w.heap.size) (fun i hi=>by have:=f.d; omega) (z.B.on J).size));clear l8 q0 Z J d1 c10 l1;go_wp2_with fail;exact bI (v:=.tuple #[.agg p'.cells.toArray,.i 0]) (by simp[results,results36,go_sem,a2]) rfl ⟨p',ps',rfl,F.a.trans M.C,F.b,F.C⟩
end
section
attribute [-go_sem] loadCellsFrom storeCells run_eql_struct run_neq_struct Instr.build
attribute [local go_sem] aX VoV.fold
end
section
attribute [-go_sem] loadCellsFrom storeCells run_eql_struct run_neq_struct
attribute [local go_sem] aX VoV.fold
def st3:St:=⟨Sb 3,[]⟩
def kd3:Kd:=⟨0,0,0,iD st3,[]⟩
def kp3:KpV:=⟨0,0,0,iD st3,[],.slice none 0 0⟩
theorem Ji:stB st3=true:=by decide+kernel
theorem Xk(q:HpV)(w:World):(Instr.build 43 #[(0,.agg q.cells.toArray)]).run prog w=.ok (.agg (StV.cells ⟨q,[],.slice none 0 0⟩).toArray) w:=run_build w _ _ _ (by kernel_rfl)
theorem Xl(s:ByteArray)(w:World):(Instr.build 35 #[(3,.string s)]).run prog w=.ok (.agg (KpV.cells ⟨0,0,0,s,[],.slice none 0 0⟩).toArray) w:=run_build w _ _ _ (by kernel_rfl)
attribute [go_sem] Xk Xl
def lU(v:Value):HpV:=⟨⟨3,1,0,0,0,0,[],[⟨0,3⟩]⟩,.slice none 0 0,v⟩
theorem Xm(w:World):
  Calls prog 123 #[.i 3] w fun e l=>∃v,e=.returned (.tuple #[.agg (lU v).cells.toArray,.i 0])∧Ow l w.heap.size 262 2 v Bk.cells [⟨0,3⟩]∧Bw' w l:=by
 have n:=kp (fun W=>by have:=Bh 3 W; rw[show cZ 3=true from rfl]at this; exact this);go_enter func123,ntmps123;go_wp2_with fail;refine (n.o _).mono ?_;rintro e m ⟨v,rfl,j,g⟩;have h:=(Blk.new w 40 z'1).below g (by simp);have k:=fun r z f=>h.store (P:=prog) (cs':=r) z f;have d:=k'3 j g h;clear j g h;obtain⟨A,c,rfl,B⟩:=d.a.sl cO;have f:=k (HpV.cells ⟨⟨3,1,0,0,0,0,[],[⟨0,3⟩]⟩,.slice none 0 0,.slice A 1 c⟩) rfl (HpV.one rfl rfl);clear k B;unfold HpV.cells at f;go_wp2_with fail;have q:=kp (d.C.set (HpV.cells ⟨⟨3,1,0,0,0,0,[],[⟨0,3⟩]⟩,.slice none 0 0,.slice A 1 c⟩));have p:=kp (eU ((ba' w _).trans (d.b.mono (by simp))) (aN _) (HpV.cells ⟨⟨3,1,0,0,0,0,[],[⟨0,3⟩]⟩,.slice none 0 0,.slice A 1 c⟩).toArray);have s:Ow _ _ 262 2 (.slice A 1 c) Bk.cells [⟨0,3⟩]:=d.a.chg ((Chg.refl (fun i=>i=w.heap.size) m).setRow (.inr rfl) (HpV.cells ⟨⟨3,1,0,0,0,0,[],[⟨0,3⟩]⟩,.slice none 0 0,.slice A 1 c⟩).toArray) fun i y e=>by have:=(d.a.lt y).1; simp at this; omega
 have x:Sem.run prog (loadCellsFrom ⟨w.heap.size,0,none⟩ 0 8 #[]) (m.setRow w.heap.size #[.i 3,.slice none 0 0,.i 1,.i 0,.i 0,.i 0,.i 0,.slice A 1 c])=.ok #[.i 3,.slice none 0 0,.i 1,.i 0,.i 0,.i 0,.i 0,.slice A 1 c] _:=q.o.load (P:=prog) rfl;exact bI (v:=.tuple #[.agg (HpV.cells ⟨⟨3,1,0,0,0,0,[],[⟨0,3⟩]⟩,.slice none 0 0,.slice A 1 c⟩).toArray,.i 0]) (by simp[results,results123,go_sem,x,HpV.cells]) rfl ⟨_,rfl,Ow.mono s (by simp),p.o⟩
attribute [-go_sem] Instr.build
theorem Xn(w:World):
  Calls prog 76 #[.i 3] w fun e p=>∃v,e=.returned (.tuple #[.agg (StV.cells ⟨lU v,[],.slice none 0 0⟩).toArray,.i 0])∧Ow p w.heap.size 262 2 v Bk.cells [⟨0,3⟩]∧Bw' w p:=by
 obtain⟨y,z,q,m,E⟩:=par w 43 iU;unfold iU at z;have f:=k'2 q m;have x:=kp (Xm y);clear q m E;go_enter func76,ntmps76;go_wp2_with fail;refine (x.o).mono ?_;rintro e D ⟨v,rfl,d,h⟩;obtain⟨F,H,K,r,c,-⟩:=eJ D 40 z'1 (lU v).cells rfl (HpV.one rfl d.one);have J:=r.load (P:=prog) (k:=8) rfl;have n:=d.below c;have j:=(f.a.grow h).grow c;obtain⟨G,A,L,s,c4⟩:=j.put (StV.cells ⟨lU v,[],.slice none 0 0⟩) rfl (fun u b=>by
  rcases cV.1 b with b|b
  .exact HpV.one rfl d.one u b
  .rw[bZ.1 b]; rfl)
 have C:=s.load (P:=prog) (k:=9) rfl;have g:=f.B.on (h.on c);have l:=k'2 ((n.chg_blk j c4 (by decide)).mono f.B.size) (g.trans (c4.below (B:=w.heap.size) (fun i I=>by omega) g.size));clear d h r c n j s c4 g A;go_wp2_with fail;exact bI (v:=.tuple #[.agg (StV.cells ⟨lU v,[],.slice none 0 0⟩).toArray,.i 0]) (by simp[results,results76,go_sem,C]) rfl ⟨v,rfl,l.a,l.B⟩
theorem Xo{w:World}{base:Nat}{v:Value}(h:Ow w base 262 2 v Bk.cells [⟨0,3⟩]):Ws w base ⟨lU v,[],.slice none 0 0⟩ []:=
 ⟨⟨aM.nil _ _ _ _,⟨fun _ h=>(nomatch h),.nil⟩,rfl,OR.of_ow h fun _ h _=>h⟩,aM.nil _ _ _ _⟩
theorem Jj(w:World):
  Calls prog 33 #[.i 3] w fun e R=>e=.returned (.tuple #[.agg kp3.cells.toArray,.i 0])∧Bw' w R:=by
 obtain⟨I,J,A,p,T⟩:=par w 35 z'8;have l:=k'2 A p;have G:=kp (Xn I);clear A p T;go_enter func33,ntmps33;go_wp2_with fail;refine (G.o).mono ?_;rintro e S ⟨v,rfl,r,f⟩;have j:=Xo r;obtain⟨n,K,Q,C,b,-⟩:=eJ S 43 z'2 (StV.cells ⟨lU v,[],.slice none 0 0⟩) rfl (StV.one j.st);have N:=C.load (P:=prog) (k:=9) rfl;have H:=kp (by
  have:=Jc ⟨lU v,[],.slice none 0 0⟩ [] n.heap.size n (j.below b).st (aN _) (by simp) (by show ([⟨0,3⟩]:List Bk).length≤900000; simp) (by simp);rw[show stB (StV.x ⟨lU v,[],.slice none 0 0⟩)=true from Ji]at this;exact this)
 have d:=k'2 (l.a.grow (f.on b)) (l.B.on (f.on b));clear r f j C b;go_wp2_with fail;refine (H.o).mono ?_;rintro e z ⟨X,rfl,s,c⟩;rw[show dG 60 true=0 from rfl];obtain⟨E,c4,rfl,h⟩:=s rfl;rw[show StV.x ⟨lU v,[],.slice none 0 0⟩=st3 from rfl]at h ⊢;have g:=wH (P:=prog) z 154 9 5 rW tT rX z.heap.size E (fK st3).length c4 (fK st3) h rfl;rw[show (⟨(fK st3).toArray⟩:ByteArray)=iD st3 by unfold iD; rw[aK Ji]]at g;obtain⟨m,q⟩:=nm' ((fK st3).length);rw[q]at g ⊢;obtain⟨U,L,y,D,c5⟩:=(d.a.grow c).put kp3.cells rfl (sV rfl);have O:=D.load (P:=prog) (k:=5) rfl;have F:=kp ((d.B.on c).trans (c5.below (B:=w.heap.size) (fun i V=>by omega) (d.B.on c).size));unfold kp3 at y;clear s h q c D c5 L N Q K J;obtain⟨W,M⟩:=nm' (iD st3);rw[M]at g y;go_wp2_with fail;exact bI (v:=.tuple #[.agg kp3.cells.toArray,.i 0]) (by simp[results,results33,go_sem,O]) rfl ⟨rfl,F.o⟩
end
end Go.Proofs.YtoncgpddjmgbfaaGreat
