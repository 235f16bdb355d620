import Derived.Test.YthalbagblhkeaaaGreatZ16
import Derived.Test.YthalbagblhkeaaaGreatZ17
import Derived.Test.YthalbagblhkeaaaGreatZ21
import Derived.Test.YthalbagblhkeaaaGreatZ22
import Derived.Test.YthalbagblhkeaaaGreatZ23
namespace Go.Proofs.YthalbagblhkeaaaGreat
open Go.RowKit Go.Proofs.Tryz
set_option maxRecDepth 100000
set_option maxHeartbeats 12800000
set_option linter.unusedVariables false
set_option linter.unusedSimpArgs false
section
structure qE(t:TypeId)(Φ:Value→World→Prop):Prop where
 grow:∀z W W',Φ z W→Bw' W W'→Φ z W'
 put:∀z W a cs cs',Φ z W→Blk W a t cs→Φ z (W.setRow a cs')
theorem qF{X:Nat→Option Value}{k:Nat}{v:Value}:bD X k v k=some v:=aE rfl
structure CAl(Wa:World)(t:TypeId)(zs:List Value)(t2:TypeId)(zs2:List Value)(Φ:Value→World→Prop)(E:Value→Value→Prop)(kc km ke ka kb ks:Nat)(X:Nat→Option Value)(W:World):Prop where
 bel:Bw' Wa W
 call:∀z,X kc=some z→Φ z W
 mv:∀z,X km=some z→X kc=some z
 ext:∀z,X ke=some z→∃u,X kc=some u∧E u z
 al:∀z,X ka=some z→∃a cs,z=.pointer (some ⟨a,0,none⟩)∧Wa.heap.size≤a∧Blk W a t cs∧(X ks=none→cs=zs)∧∀s,X ks=some s→X ke=some (.agg cs.toArray)
 al2:∀z,X kb=some z→∃b,z=.pointer (some ⟨b,0,none⟩)∧Wa.heap.size≤b∧Blk W b t2 zs2
 st:∀s,X ks=some s→(X ka).isSome=true
section
variable {Wa W W':World}{t t2:TypeId}{zs zs2:List Value}{Φ:Value→World→Prop}{E:Value→Value→Prop}{kc km ke ka kb ks:Nat}{X:Nat→Option Value}{u z:Value}
theorem CAl.start:CAl Wa t zs t2 zs2 Φ E kc km ke ka kb ks (fun _=>none) Wa:=
 ⟨.refl _ _,fun _ h=>(nomatch h),fun _ h=>(nomatch h),fun _ h=>(nomatch h),fun _ h=>(nomatch h),fun _ h=>(nomatch h),fun _ h=>(nomatch h)⟩
theorem CAl.other{j:Nat}(h:CAl Wa t zs t2 zs2 Φ E kc km ke ka kb ks X W)(n:kc≠j∧km≠j∧ke≠j∧ka≠j∧kb≠j∧ks≠j):CAl Wa t zs t2 zs2 Φ E kc km ke ka kb ks (bD X j u) W:=by
 obtain⟨g,f,i,k,l,m⟩:=n;have e1:=aR (X:=X) (v:=u) g;have d:=aR (X:=X) (v:=u) f;have a:=aR (X:=X) (v:=u) i;have b:=aR (X:=X) (v:=u) k;have e:=aR (X:=X) (v:=u) l;have c:=aR (X:=X) (v:=u) m;exact⟨h.bel,by rw[e1]; exact h.call,by rw[d,e1]; exact h.mv,by rw[e1,a]; exact h.ext,by rw[b,c,a]; exact h.al,by rw[e]; exact h.al2,by rw[c,b]; exact h.st⟩
theorem CAl.grow(h:CAl Wa t zs t2 zs2 Φ E kc km ke ka kb ks X W)(i:qE t Φ)(b:Bw' W W'):CAl Wa t zs t2 zs2 Φ E kc km ke ka kb ks X W':=
 ⟨h.bel.on b,fun z a=>i.grow _ _ _ (h.call z a) b,h.mv,h.ext,fun z a=>(h.al z a).imp fun _ ⟨f,e,d,c,g⟩=>⟨f,e,d,c.grow b,g⟩,
  fun z a=>(h.al2 z a).imp fun _ ⟨e,d,c⟩=>⟨e,d,c.grow b⟩,h.st⟩
theorem CAl.doCall(h:CAl Wa t zs t2 zs2 Φ E kc km ke ka kb ks X W)(s:qE t Φ)(e:X kc=none)(p:Bw' W W')(r:Φ z W')(q:km≠kc∧ke≠kc∧ka≠kc∧kb≠kc∧ks≠kc):CAl Wa t zs t2 zs2 Φ E kc km ke ka kb ks (bD X kc z) W':=by
 have g:=h.grow s p;obtain⟨k,l,m,n,o⟩:=q;have i:=aR (X:=X) (v:=z) k;have b:=aR (X:=X) (v:=z) l;have c:=aR (X:=X) (v:=z) m;have j:=aR (X:=X) (v:=z) n;have d:=aR (X:=X) (v:=z) o;refine⟨g.bel,fun u a=>?_,fun u a=>?_,fun u a=>?_,by rw[c,d,b]; exact g.al,by rw[j]; exact g.al2,by rw[d,c]; exact g.st⟩
 .rw[qF]at a; cases a; exact r
 .rw[i]at a; have:=h.mv u a; rw[e]at this; cases this
 .rw[b]at a;obtain⟨v,f,-⟩:=h.ext u a;rw[e]at f; cases f
theorem CAl.doMv(h:CAl Wa t zs t2 zs2 Φ E kc km ke ka kb ks X W)(m:X kc=some u)(l:kc≠km∧ke≠km∧ka≠km∧kb≠km∧ks≠km):CAl Wa t zs t2 zs2 Φ E kc km ke ka kb ks (bD X km u) W:=by
 obtain⟨f,g,i,j,k⟩:=l;have e1:=aR (X:=X) (v:=u) f;have a:=aR (X:=X) (v:=u) g;have b:=aR (X:=X) (v:=u) i;have e:=aR (X:=X) (v:=u) j;have c:=aR (X:=X) (v:=u) k;exact⟨h.bel,by rw[e1]; exact h.call,fun v d=>by rw[qF]at d; cases d; rw[e1]; exact m,by rw[e1,a]; exact h.ext,by rw[b,c,a]; exact h.al,by rw[e]; exact h.al2,by rw[c,b]; exact h.st⟩
theorem CAl.doExt(h:CAl Wa t zs t2 zs2 Φ E kc km ke ka kb ks X W)(p:X ke=none)(B:X kc=some u)(q:E u z)(r:kc≠ke∧km≠ke∧ka≠ke∧kb≠ke∧ks≠ke):CAl Wa t zs t2 zs2 Φ E kc km ke ka kb ks (bD X ke z) W:=by
 obtain⟨c,k,m,n,o⟩:=r;have e1:=aR (X:=X) (v:=z) c;have i:=aR (X:=X) (v:=z) k;have d:=aR (X:=X) (v:=z) m;have j:=aR (X:=X) (v:=z) n;have f:=aR (X:=X) (v:=z) o;refine⟨h.bel,by rw[e1]; exact h.call,by rw[i,e1]; exact h.mv,fun v b=>?_,?_,by rw[j]; exact h.al2,by rw[f,d]; exact h.st⟩
 .rw[qF]at b; cases b;exact⟨u,by rw[e1]; exact B,q⟩
 .rw[d,f];intro v b;obtain⟨a,g,e,y,x,c,l⟩:=h.al v b;exact⟨a,g,e,y,x,c,fun s A=>by have:=l s A; rw[p]at this; cases this⟩
theorem CAl.noSt(h:CAl Wa t zs t2 zs2 Φ E kc km ke ka kb ks X W)(a:X ka=none):X ks=none:=by
 cases hs:X ks with
 |none=>rfl
 |some s=>have:=h.st s hs; rw[a]at this; cases this
theorem CAl.doAlloc(h:CAl Wa t zs t2 zs2 Φ E kc km ke ka kb ks X W)(q:qE t Φ)(n:X ka=none)(o:kc≠ka∧km≠ka∧ke≠ka∧kb≠ka∧ks≠ka):CAl Wa t zs t2 zs2 Φ E kc km ke ka kb ks (bD X ka (.pointer (some ⟨W.heap.size,0,none⟩))) (W.alloc (.cells zs.toArray t)):=by
 have g:=h.grow q (ba' W (.cells zs.toArray t));have p:=h.noSt n;obtain⟨j,i,k,l,m⟩:=o;have e1:=aR (X:=X) (v:=.pointer (some ⟨W.heap.size,0,none⟩)) j;have c:=aR (X:=X) (v:=.pointer (some ⟨W.heap.size,0,none⟩)) i;have d:=aR (X:=X) (v:=.pointer (some ⟨W.heap.size,0,none⟩)) k;have e:=aR (X:=X) (v:=.pointer (some ⟨W.heap.size,0,none⟩)) l;have f:=aR (X:=X) (v:=.pointer (some ⟨W.heap.size,0,none⟩)) m;refine⟨g.bel,by rw[e1]; exact g.call,by rw[c,e1]; exact g.mv,by rw[e1,d]; exact g.ext,fun v b=>?_,by rw[e]; exact g.al2,fun s _=>by rw[qF]; rfl⟩;rw[qF]at b; cases b;exact⟨_,zs,rfl,h.bel.size,Blk.new W t zs,fun _=>rfl,fun s a=>by rw[f,p]at a; cases a⟩
theorem CAl.doAlloc2(h:CAl Wa t zs t2 zs2 Φ E kc km ke ka kb ks X W)(n:qE t Φ)(m:kc≠kb∧km≠kb∧ke≠kb∧ka≠kb∧ks≠kb):CAl Wa t zs t2 zs2 Φ E kc km ke ka kb ks (bD X kb (.pointer (some ⟨W.heap.size,0,none⟩))) (W.alloc (.cells zs2.toArray t2)):=by
 have g:=h.grow n (ba' W (.cells zs2.toArray t2));obtain⟨i,f,j,k,l⟩:=m;have e1:=aR (X:=X) (v:=.pointer (some ⟨W.heap.size,0,none⟩)) i;have e:=aR (X:=X) (v:=.pointer (some ⟨W.heap.size,0,none⟩)) f;have a:=aR (X:=X) (v:=.pointer (some ⟨W.heap.size,0,none⟩)) j;have b:=aR (X:=X) (v:=.pointer (some ⟨W.heap.size,0,none⟩)) k;have c:=aR (X:=X) (v:=.pointer (some ⟨W.heap.size,0,none⟩)) l;refine⟨g.bel,by rw[e1]; exact g.call,by rw[e,e1]; exact g.mv,by rw[e1,a]; exact g.ext,by rw[b,c,a]; exact g.al,fun v d=>?_,by rw[c,b]; exact g.st⟩;rw[qF]at d; cases d;exact⟨_,rfl,h.bel.size,Blk.new W t2 zs2⟩
theorem CAl.doStore{a:Nat}{d:List Value}(h:CAl Wa t zs t2 zs2 Φ E kc km ke ka kb ks X W)(F:qE t Φ)(D:t≠t2)(y:X ks=none)(i:X ka=some (.pointer (some ⟨a,0,none⟩)))(A:X ke=some (.agg d.toArray))(B:kc≠ks∧km≠ks∧ke≠ks∧ka≠ks∧kb≠ks):
  Blk W a t zs∧CAl Wa t zs t2 zs2 Φ E kc km ke ka kb ks (bD X ks u) (W.setRow a d.toArray):=by
 obtain⟨G,cs',e,m,f,g,-⟩:=h.al _ i
 cases e;obtain rfl:=g y;obtain⟨g,p,q,r,x⟩:=B;have e1:=aR (X:=X) (v:=u) g;have n:=aR (X:=X) (v:=u) p;have j:=aR (X:=X) (v:=u) q;have k:=aR (X:=X) (v:=u) r;have o:=aR (X:=X) (v:=u) x;refine⟨f,cL h.bel m _,?_,by rw[n,e1]; exact h.mv,by rw[e1,j]; exact h.ext,?_,?_,?_⟩
 .rw[e1]; exact fun z c=>F.put _ _ _ _ _ (h.call z c) f
 .intro z c;rw[k,i]at c
  cases c;exact⟨a,d,rfl,m,f.set d,fun h=>(by rw[qF]at h; cases h),fun s _=>by rw[j]; exact A⟩
 .intro z c;rw[o]at c;obtain⟨b,e,C,l⟩:=h.al2 z c;exact⟨b,e,C,l.other (l.ne f D.symm) _⟩
 .intro s _; rw[k,i]; rfl
end
end
section
attribute [-go_sem] loadCellsFrom storeCells Instr.build
attribute [local go_sem] bC
def zA(Wa:World)(s:St)(z:Value)(W:World):Prop:=∃q qs c d,z=.tuple #[.agg q.cells.toArray,.agg #[.i c,.i d]]∧q.x=s∧Ws W Wa.heap.size q qs
theorem zA.stab(Wa:World)(s:St):qE 32 (zA Wa s):=
 ⟨fun _ _ _ ⟨q,f,c,d,e,b,h⟩ g=>⟨q,f,c,d,e,b,h.below g⟩,fun _ W a _ cs' ⟨q,f,c,d,e,b,h⟩ j=>⟨q,f,c,d,e,b,h.chg j ((Chg.refl (fun i=>i=a) W).setRow (.inr rfl) cs') (by decide) (by decide) (by decide) (by decide)⟩⟩
def vY(u z:Value):Prop:=∃y,u=.tuple #[z,y]
end
section
attribute [-go_sem] loadCellsFrom storeCells
attribute [local go_sem] bC
end
section
attribute [-go_sem] loadCellsFrom storeCells
attribute [local go_sem] bC
theorem aC4(p:RpV)(ps:List ObV)(B:Nat)(w:World)(h:eO w B p ps)(f:B≤w.heap.size)(S:RpS p ps):
  Calls prog 18 #[.agg p.cells.toArray] w fun e C=>e=.returned (.bool (dI p.x&&gM p.x))∧Bw' w C:=by
 obtain⟨q,y,i,c,G⟩:=par w 39 p.cells;have b:=kp c;have n:=kp i;obtain⟨s,e1⟩:∃a,dI p.x=a:=⟨_,rfl⟩
 obtain⟨D,d⟩:∃a,gM p.x=a:=⟨_,rfl⟩
 have l:=kp (by have:=vX p ps B q (h.below c f) (aB f c.size) S; rw[e1]at this; exact this);have m:=kp (fun W=>by have:=Dj p W S.r.2.1; rw[d]at this; exact this);have z:=i.load (P:=prog) (k:=26) rfl;rw[e1,d];clear e1 d i c h f S;go_enter func18,ntmps18;go_wp2_with fail;refine mb' (l.o) fun E g=>?_;have b:=kp (b.o.on g);have A:=(n.o.grow g).load (P:=prog) (k:=26) rfl;clear z y g
 cases s
 case' true=>
  go_wp2_with fail;refine mb' (m.o _) fun F j=>?_;have b:=kp (b.o.on j);clear A j
 all_goals
  go_wp2_with fail;go_ret;exact⟨rfl,b.o⟩
theorem Mt(p q:KpV)(B:Nat)(w:World)(h:fL w B p)(y:fL w B q)(k:B≤w.heap.size)(A:p.es.length≤1000000):
  Calls prog 16 #[.agg p.cells.toArray,.agg q.cells.toArray] w fun e X=>e=.returned (.bool (decide (p.x=q.x)))∧Bw' w X:=by
 obtain⟨E,G,C,s,Y⟩:=par w 24 p.cells;obtain⟨F,H,d,i,Z⟩:=par E 24 q.cells;have c:=C.grow i;have f:=s.on i;have g:=kp f;obtain⟨l,T⟩:∃a,(p.view==q.view)=a:=⟨_,rfl⟩
 obtain⟨m,U⟩:∃a,(p.normal==q.normal)=a:=⟨_,rfl⟩
 obtain⟨n,V⟩:∃a,(p.base==q.base)=a:=⟨_,rfl⟩
 obtain⟨r,W⟩:∃a,(p.image.toList==q.image.toList)=a:=⟨_,rfl⟩
 obtain⟨b,j⟩:=nm' (decide (p.es=q.es));have z:decide (p.x=q.x)=((l&&(m&&(n&&(r&&b))))):=by
  rw[←T,←U,←V,←W,←j,yZ];unfold KpV.x;simp only[Kd.mk.injEq,Ad];rfl
 rw[z];have D:=kp (by have:=Nq.2.2 p.ev q.ev p.es q.es B F (Sl.below h f k) (Sl.below y f k) A; rw[j]at this; exact this);have N:=c.cell 0;change _=some (Value.i p.view)at N;have I:=d.cell 0;change _=some (Value.i q.view)at I;have O:=c.cell 1;change _=some (Value.i p.normal)at O;have J:=d.cell 1;change _=some (Value.i q.normal)at J;have P:=c.cell 2;change _=some (Value.i p.base)at P;have K:=d.cell 2;change _=some (Value.i q.base)at K;have Q:=c.cell 3;change _=some (Value.string p.image)at Q;have L:=d.cell 3;change _=some (Value.string q.image)at L;have R:=c.cell 4;have M:=d.cell 4;change _=some p.ev at R;change _=some q.ev at M;clear z j c d C s i f h y k A Y Z;go_enter func16,ntmps16
 cases l
 case' true=>
  cases m
  case' true=>
   cases n
   case' true=>
    cases r
    case' true=>
     go_wp2_with fail;refine D.o.mono ?_;rintro e w3 ⟨rfl,S,rfl⟩;have g:=kp (gG g.o S);clear G H
 all_goals
  go_wp2_with fail;go_ret;exact⟨rfl,g.o⟩
theorem Zz(p q:VoV)(B:Nat)(w:World)(h:mS w B p)(z:mS w B q)(k:B≤w.heap.size)(C:p.es.length≤1000000):
  Calls prog 80 #[.agg p.cells.toArray,.agg q.cells.toArray] w fun e w'=>e=.returned (.bool (decide (p.x=q.x)))∧Bw' w w':=by
 obtain⟨F,H,D,y,z1⟩:=par w 103 p.cells;obtain⟨G,I,d,i,z2⟩:=par F 103 q.cells;have c:=D.grow i;have f:=y.on i;have g:=kp f;obtain⟨l,W⟩:∃a,(p.node==q.node)=a:=⟨_,rfl⟩
 obtain⟨m,X⟩:∃a,(p.normal==q.normal)=a:=⟨_,rfl⟩
 obtain⟨n,Y⟩:∃a,(p.base==q.base)=a:=⟨_,rfl⟩
 obtain⟨r,Z⟩:∃a,(p.number==q.number)=a:=⟨_,rfl⟩
 obtain⟨s,u4⟩:∃a,(p.commit==q.commit)=a:=⟨_,rfl⟩
 obtain⟨b,j⟩:=nm' (decide (p.es=q.es));have A:decide (p.x=q.x)=((l&&(m&&(n&&(r&&(s&&b)))))):=by
  rw[←W,←X,←Y,←Z,←u4,←j];unfold VoV.x;simp only[Vo.mk.injEq,Ad];rfl
 rw[A];have E:=kp (by have:=Nq.2.2 p.ev q.ev p.es q.es B G (Sl.below h f k) (Sl.below z f k) C; rw[j]at this; exact this);have P:=c.cell 0;change _=some (Value.i p.node)at P;have J:=d.cell 0;change _=some (Value.i q.node)at J;have Q:=c.cell 1;change _=some (Value.i p.normal)at Q;have K:=d.cell 1;change _=some (Value.i q.normal)at K;have R:=c.cell 2;change _=some (Value.i p.base)at R;have L:=d.cell 2;change _=some (Value.i q.base)at L;have S:=c.cell 3;change _=some (Value.i p.number)at S;have M:=d.cell 3;change _=some (Value.i q.number)at M;have T:=c.cell 4;change _=some (Value.i p.commit)at T;have N:=d.cell 4;change _=some (Value.i q.commit)at N;have U:=c.cell 5;have O:=d.cell 5;change _=some p.ev at U;change _=some q.ev at O;clear A j c d D y i f h z k C z1 z2;go_enter func80,ntmps80
 cases l
 case' true=>
  cases m
  case' true=>
   cases n
   case' true=>
    cases r
    case' true=>
     cases s
     case' true=>
      go_wp2_with fail;refine E.o.mono ?_;rintro e w3 ⟨rfl,V,rfl⟩;have g:=kp (gG g.o V);clear H I
 all_goals
  go_wp2_with fail;go_ret;exact⟨rfl,g.o⟩
end
section
attribute [-go_sem] loadCellsFrom storeCells
attribute [local go_sem] bC
theorem aAa(va vb:Value)(f g:List VoV)(B:Nat)(w:World)(N:nQ w B va f)(O:nQ w B vb g)(U:B≤w.heap.size)(hn:f.length≤1000000)(X:∀v∈f,v.es.length≤1000000):
  Calls prog 38 #[va,vb] w fun e w'=>e=.returned (.bool (decide (f.map (·.x)=g.map (·.x))))∧Bw' w w':=by
 obtain⟨R,M⟩:∃R,decide (f.map (·.x)=g.map (·.x))=R:=⟨_,rfl⟩
 rw[M];have J:=k'3 N.2 O.2 X;obtain⟨A,c,rfl,H,-,-⟩:=N.1;obtain⟨A',c',rfl,g0,-,-⟩:=O.1;obtain⟨n,F⟩:=nm' f.length;obtain⟨m,Q⟩:=nm' g.length;rw[F]at hn ⊢;rw[Q];have s:=k'3 M F Q;have p:=k'3 H g0 U;clear M F Q H g0 U N O X
 by_cases I:n=m
 .have c1:((n:Int) != (m:Int))=false:=by simp[I]
  have K:=kp I;clear I;go_enter func38,ntmps38;go_wp2_with fail;clear c1
  go_loopw [5] (fun i wr=>∃k:Nat,k≤n∧i=.i k∧(f.take k).map (·.x)=(g.take k).map (·.x)∧Bw' w wr) (fun i _=>n-(intOf i).toNat)
  case atStart=>exact⟨0,by omega,rfl,by simp,.refl _ _⟩
  case round=>
   obtain⟨k,hk,rfl,Y,W⟩:=hrel;have S:=kp Y;have j:=kp W;clear Y W
   by_cases q0:k<n
   .have g3:(k:Int)<(n:Int):=by omega
    have g4:(k:Int)<(m:Int):=by have:=K.o; omega
    have z:k<f.length:=by have:=s.b; omega
    have D:k<g.length:=by have:=s.C; have:=K.o; omega
    obtain⟨b,o0,rfl,-,-,-⟩:=dB (P:=prog) 6 VoV.cells iS (by omega) p.a k z;obtain⟨b2,p0,rfl,-,-,-⟩:=dB (P:=prog) 6 VoV.cells iS (by omega) p.b k D;have lx:∀r:Blw wr,Sem.run prog (loadCellsFrom ⟨b,o0+k*6,none⟩ 0 6 #[]) r.w=.ok (VoV.cells f[k]).toArray r.w:=fun r=>by
     obtain⟨_,_,L,-,-,F⟩:=dB (P:=prog) 6 VoV.cells iS (by omega) (p.a.below (j.o.on r.h) p.C) k z
     cases L;exact F 0
    have ly:∀r:Blw wr,Sem.run prog (loadCellsFrom ⟨b2,p0+k*6,none⟩ 0 6 #[]) r.w=.ok (VoV.cells g[k]).toArray r.w:=fun r=>by
     obtain⟨_,_,L,-,-,F⟩:=dB (P:=prog) 6 VoV.cells iS (by omega) (p.b.below (j.o.on r.h) p.C) k D
     cases L;exact F 0
    have j0:f.take (k+1)=f.take k++[f[k]'z]:=cV z;have l0:g.take (k+1)=g.take k++[g[k]'D]:=cV D;have b0:=J.a _ (bK z);have d0:=J.b _ (bK D);have e0:=J.C _ (bK z);have Z:=eK z;have a0:=eK D;generalize f[k]'z=x at *;generalize g[k]'D=y at *;obtain⟨r,H⟩:=nm' (decide (x.x=y.x));have HS:=kp (fun(q:Blw wr)=>H▸Zz x y w.heap.size q.w (Sl.more (Sl.below b0 (j.o.on q.h) p.C) p.C) (Sl.more (Sl.below d0 (j.o.on q.h) p.C) p.C) (j.o.on q.h).size e0);have G:=k'5 H j0 l0 Z a0;clear j0 l0 b0 d0 e0 Z a0 H z D;go_wp2_with fail;refine bJ (by kernel_rfl) (by kernel_rfl) ?_
    repeat (go_big_quiet_step ((go_at_call 80; refine bU (HS.o _))))
    refine bH ?_;rintro W5 ⟨⟨_,V⟩,rfl⟩;have j:=kp (j.o.on V);clear V lx ly
    cases r
    case false=>
     obtain rfl:R=false:=by
      rw[←s.a];exact aX fun h=>by
       have T:=bG (fun l=>l[k]?) h;simp only[wC,G.d,G.E,kL,Option.some.injEq]at T;exact of_decide_eq_false G.a T
     go_wp2_with fail;go_ret;exact⟨rfl,j.o⟩
    have m0:=bT G.a;have HX:=kp m0;clear m0;go_wp2_with fail;go_roundw
    case rel=>exact⟨k+1,by omega,by go_num,by rw[G.b,G.c,gC,gC,S.o,kM,kM,HX.o],j.o⟩
    case measure=>simp[intOf]; omega
   .obtain rfl:n=k:=by omega
    obtain rfl:R=true:=by
     rw[←s.a];have:=S.o;rw[cN (by have:=s.b; omega),cN (by have:=s.C; have:=K.o; omega)]at this;exact bY this
    go_wp2_with fail;go_ret;exact⟨rfl,j.o⟩
 .have c1:((n:Int) != (m:Int))=true:=by simp; omega
  obtain rfl:R=false:=by
   rw[←s.a];exact aX fun h=>I (by have:=bG List.length h; simp at this; have:=s.b; have:=s.C; omega)
  clear I;go_enter func38,ntmps38;go_wp2_with fail;go_ret;exact⟨rfl,.refl _ _⟩
structure RcV where
 (kind view src number:Int) (image:ByteArray) (entry:En) (es:List En) (ev:Value)
def RcV.cells(p:RcV):List Value:=[.i p.kind,.i p.view,.i p.src,.i p.number,.string p.image]++p.entry.cells++[p.ev]
def RcV.x(p:RcV):Rc:=⟨p.kind,p.view,p.src,p.number,p.image,p.entry,p.es⟩
def zC:RcV:=⟨0,0,0,0,⟨#[]⟩,Cn,[],.slice none 0 0⟩
structure SmK(p:KpV):Prop where
 es:p.es.length≤300
 image:p.image.size≤100000
theorem Mu(p:KpV)(B:Nat)(w:World)(h:fL w B p):
  Calls prog 51 #[.agg p.cells.toArray,.agg zC.cells.toArray] w (NoR w (SmK p)):=by
 obtain⟨q,H,l,j,E⟩:=par w 24 p.cells;obtain⟨G,I,f,b,F⟩:=par q 101 zC.cells;have e:=l.grow b;have a:=kp (j.on b);obtain⟨A,c,k,-,-,-⟩:=h;obtain⟨n,d⟩:=nm' p.es.length;obtain⟨m,x⟩:=nm' p.image.size;have D:=e.cell 4;have C:=e.cell 3;rw[show p.cells[4]? =some p.ev from rfl,k,d]at D;change _=some (Value.string p.image)at C;have y:=f.cell 16;have z:=f.cell 4;change _=some (Value.slice none 0 0)at y;change _=some (Value.string ⟨#[]⟩)at z;have i:=k'2 d x;clear e f l j b E F k d;go_enter func51,ntmps51
 by_cases c1:300<n
 .have r:decide (300<(n:Int))=true:=by simp; omega
  clear c1;go_wp2_with fail;go_ret;exact NoR.of (fun h=>by cases h) a.o
 have r:decide (300<(n:Int))=false:=by simp; omega
 by_cases c2:100000<m
 .have s:decide (100000<(m:Int))=true:=by simp; omega
  clear c2;go_wp2_with fail;go_ret;exact NoR.of (fun h=>by cases h) a.o
 have s:decide (100000<(m:Int))=false:=by simp; omega
 have g:=k'2 c1 c2;clear c1 c2;go_wp2_with fail;go_ret;exact NoR.of (fun _=>⟨by have:=g.o; have:=i.o; omega,by have:=g.o; have:=i.o; omega⟩) a.o
structure SmV(vs:List VoV)(p:KpV):Prop where
 k:SmK p
 len:vs.length≤50
 es:∀v∈vs,v.es.length≤200
theorem aAb(w:World):(Instr.build 101 #[]).run prog w=.ok (.agg zC.cells.toArray) w:=run_build w _ _ _ (by kernel_rfl)
attribute [-go_sem] Instr.build
attribute [go_sem] aAb
theorem aAc(v:Value)(f:List VoV)(p:KpV)(B:Nat)(w:World)(d:nQ w B v f)(h:fL w B p)(z:B≤w.heap.size):
  Calls prog 19 #[v,.agg p.cells.toArray] w (NoR w (SmV f p)):=by
 obtain⟨K,W,T,l,z1⟩:=par w 24 p.cells;have s:=kp l;have H:=d.below l z;obtain⟨A,c,rfl,q,-,-⟩:=H.1;obtain⟨n,G⟩:=nm' f.length;have g:=k'4 q G (aB z l.size) H.2;have Y:=T.load (P:=prog) (k:=5) rfl;have U:=kp (Mu p B K (Sl.below h l z));rw[G];clear q G d H h T l z1 z;go_enter func19,ntmps19
 by_cases c1:50<n
 .have L:decide (50<(n:Int))=true:=by simp; omega
  clear c1;go_wp2_with fail;go_ret;exact NoR.of (fun h=>by cases h) s.o
 have L:decide (50<(n:Int))=false:=by simp; omega
 go_wp2_with fail;refine (U.o).mono ?_;rintro e w2 ⟨r,rfl,q,M⟩;have E:=k'2 q M;clear q M Y W
 cases r
 case true=>
  go_wp2_with fail;go_ret;exact NoR.of (fun h=>by cases h) (s.o.on E.B)
 go_wp2_with fail;clear L
 go_loopw [5] (fun i wr=>∃k:Nat,k≤n∧i=.i k∧(∀v∈f.take k,v.es.length≤200)∧Bw' K wr) (fun i _=>n-(intOf i).toNat)
 case atStart=>exact⟨0,by omega,rfl,by simp,E.B⟩
 case round=>
  obtain⟨k,hk,rfl,R,N⟩:=hrel;have I:=kp R;have y:=kp N;clear R N
  by_cases a0:k<n
  .have g3:(k:Int)<(n:Int):=by omega
   have j:k<f.length:=by have:=g.b; omega
   obtain⟨b,b0,rfl,-,O,-⟩:=dB (P:=prog) 6 VoV.cells iS (by omega) (g.a.below y.o g.c) k j;have Z:=O 5 _ rfl;have S:f.take (k+1)=f.take k++[f[k]'j]:=cV j;have X:=g.D _ (bK j);clear O;generalize f[k]'j=x at *;obtain⟨A2,c2,Q,-,-,-⟩:=X;obtain⟨m,F⟩:=nm' x.es.length;rw[Q,F]at Z;have J:=k'2 S F;clear S F Q j
   by_cases c2:200<m
   .have V:decide (200<(m:Int))=true:=by simp; omega
    clear c2;go_wp2_with fail;go_ret;exact NoR.of (fun h=>by cases h) (s.o.on y.o)
   have V:decide (200<(m:Int))=false:=by simp; omega
   have C:=kp c2;clear c2;go_wp2_with fail;go_roundw
   case rel=>
    refine⟨k+1,by omega,by go_num,fun v d=>?_,y.o⟩;rw[J.a]at d;rcases dF.1 d with d|d
    .exact I.o v d
    .rw[bQ.1 d,J.B]; have:=C.o; omega
   case measure=>simp[intOf]; omega
  .obtain rfl:n=k:=by omega
   have C:=kp c1;clear c1;go_wp2_with fail;go_ret;exact NoR.of (fun _=>⟨E.a rfl,by have:=C.o; have:=g.b; omega,fun v d=>I.o v (by rw[cN (by have:=g.b; omega)]; exact d)⟩) (s.o.on y.o)
structure MgV where
 (kind src dst view normal number base commit:Int) (es:List En) (ev:Value) (offset total:Int) (data:ByteArray) (seq:Int) (op:Opn) (code value:Int) (ok:Bool)
def MgV.cells(p:MgV):List Value:=[.i p.kind,.i p.src,.i p.dst,.i p.view,.i p.normal,.i p.number,.i p.base,.i p.commit,p.ev,.i p.offset,.i p.total,.string p.data,.i p.seq]++p.op.cells++[.i p.code,.i p.value,.bool p.ok]
def MgV.x(p:MgV):Mg:=⟨p.kind,p.src,p.dst,p.view,p.normal,p.number,p.base,p.commit,p.es,p.offset,p.total,p.data,p.seq,p.op,p.code,p.value,p.ok⟩
def zD:MgV:=⟨0,0,0,0,0,0,0,0,[],.slice none 0 0,0,0,⟨#[]⟩,0,pV,0,0,false⟩
structure SmR(p:RpV):Prop where
 v:SmV p.votes p.k
 s:SmH p.s.p.x∧p.s.rows.length≤1000
 starts:p.starts.length≤100
 acks:p.acks.length≤100
 data:p.part.data.size≤100000
end
section
attribute [-go_sem] loadCellsFrom storeCells run_eql_struct run_neq_struct
attribute [local go_sem] bC
theorem aAd(p q:RpV):decide (p.x=q.x)=(decide (p.id=q.id)&&(decide (p.nodes=q.nodes)&&(decide (p.commit=q.commit)&&(decide (p.timer=q.timer)&&(decide (p.part=q.part)&&(decide (p.starts=q.starts)&&
  (decide (p.k.x=q.k.x)&&(decide (p.s.x=q.s.x)&&(decide (p.votes.map (·.x)=q.votes.map (·.x))&&decide (p.acks=q.acks)))))))))):=by
 simp only[←Ad];refine decide_eq_decide.2 ?_;simp only[RpV.x,Rp.mk.injEq];exact⟨fun⟨a,b,c,d,e,f,g,h,i,j⟩=>⟨a,b,d,f,j,g,c,e,h,i⟩,fun⟨a,b,d,f,j,g,c,e,h,i⟩=>⟨a,b,c,d,e,f,g,h,i,j⟩⟩
theorem Ec(p q:RpV)(ps qs:List ObV)(B:Nat)(w:World)(h:eO w B p ps)(Z:eO w B q qs)(C:B≤w.heap.size)(S:RpS p ps):
  Calls prog 10 #[.agg p.cells.toArray,.agg q.cells.toArray] w fun e w'=>e=.returned (.bool (decide (p.x=q.x)))∧Bw' w w':=by
 obtain⟨W1,p1,y1,X,z1⟩:=par w 39 p.cells;obtain⟨m,q1,n,D,z2⟩:=par W1 39 q.cells;have y:=X.on D;have i:=kp y;have j:=k'2 (y1.grow D) n;have d:=k'4 (h.below y C) (Z.below y C) (aB C y.size) S;obtain⟨R,I⟩:∃a,decide (p.id=q.id)=a:=⟨_,rfl⟩
 obtain⟨T,J⟩:∃a,decide (p.nodes=q.nodes)=a:=⟨_,rfl⟩
 obtain⟨U,K⟩:∃a,decide (p.commit=q.commit)=a:=⟨_,rfl⟩
 obtain⟨V,L⟩:∃a,decide (p.timer=q.timer)=a:=⟨_,rfl⟩
 obtain⟨a4,M⟩:∃a,decide (p.part=q.part)=a:=⟨_,rfl⟩
 obtain⟨a5,N⟩:∃a,decide (p.starts=q.starts)=a:=⟨_,rfl⟩
 obtain⟨d1,v1⟩:∃a,decide (p.k.x=q.k.x)=a:=⟨_,rfl⟩
 obtain⟨d2,v2⟩:∃a,decide (p.s.x=q.s.x)=a:=⟨_,rfl⟩
 obtain⟨d3,O⟩:∃a,decide (p.votes.map (·.x)=q.votes.map (·.x))=a:=⟨_,rfl⟩
 obtain⟨d4,Q⟩:∃a,decide (p.acks=q.acks)=a:=⟨_,rfl⟩
 have E:=aAd p q;rw[I,J,K,L,M,N,v1,v2,O,Q]at E;rw[E];have HI:=kp (N▸rN.2 p.sv q.sv p.starts q.starts B m d.a.2.2.1 d.b.2.2.1 (by have:=S.l.1; omega));have z0:=kp (fun(W:World)(g:Bw' m W)=>v1▸Mt p.k q.k B W (Sl.below d.a.1 g d.c) (Sl.below d.b.1 g d.c) (aB d.c g.size) S.k.2.1);have m1:=kp (fun(W:World)(g:Bw' m W)=>v2▸Kq p.s q.s ps qs B W (d.a.2.1.below g d.c) (d.b.2.1.below g d.c) (aB d.c g.size) (by have:=S.s.1.obs; omega) (by have:=S.s.1.free; omega) S.z (by have:=S.s.2.1; omega));have o1:=kp (fun(W:World)(g:Bw' m W)=>O▸aAa p.vv q.vv p.votes q.votes B W (d.a.2.2.2.1.below g d.c) (d.b.2.2.2.1.below g d.c) (aB d.c g.size) (by have:=S.l.2.1; omega) (fun v hv=>(S.v v hv).1));have y0:=kp (fun(W:World)(g:Bw' m W)=>Q▸Nq.2.1 p.av q.av p.acks q.acks B W (d.a.2.2.2.2.below g d.c) (d.b.2.2.2.2.below g d.c) (by have:=S.l.2.2; omega));have g0:(p.id != q.id)= !R:=by rw[←I]; rfl
 have g1:(p.nodes != q.nodes)= !T:=by rw[←J]; rfl
 have g2:(p.commit != q.commit)= !U:=by rw[←K]; rfl
 have g3:(p.timer != q.timer)= !V:=by rw[←L]; rfl
 have Y:=Wc p.part q.part m;rw[M]at Y;have r:=j.a;have k0:=r.cell 0;have k1:=r.cell 1;have k7:=r.cell 7;have m0:=r.cell 17;have o0:=r.cell 18;rw[RpV.c0]at k0;rw[RpV.c1]at k1;rw[RpV.c7]at k7;rw[RpV.c17]at m0;rw[RpV.c18]at o0;have j0:=n.cell 0;have j1:=n.cell 1;have j7:=n.cell 7;have b0:=n.cell 17;have d0:=n.cell 18;rw[RpV.c0]at j0;rw[RpV.c1]at j1;rw[RpV.c7]at j7;rw[RpV.c17]at b0;rw[RpV.c18]at d0;have A:=r.loadOff (P:=prog) 21 5 p.part.cells rfl rfl;have l2:=n.loadOff (P:=prog) 21 5 q.part.cells rfl rfl;clear E I J K L M N v1 v2 O Q r n y1 X D y h Z C S z1 z2;go_enter func10,ntmps10
 cases R
 case' true=>
  cases T
  case' true=>
   cases U
   case' true=>
    cases V
    case' true=>
     cases a4
     case' true=>
      go_wp2_with fail;refine HI.o.mono ?_;rintro e w3 ⟨rfl,nd,rfl⟩;have i:=kp (gG i.o nd);have f:=kp (gG (aL m.heap.size m) nd);clear p1 q1 k0 k1 k7 m0 o0 j0 j1 j7 b0 d0 A l2 g0 g1 g2 g3 Y
      cases a5
      case' true=>
       have A:=(j.a.grow f.o).loadOff (P:=prog) 2 5 p.k.cells rfl rfl;have l2:=(j.B.grow f.o).loadOff (P:=prog) 2 5 q.k.cells rfl rfl;go_wp2_with fail;refine mb' (z0.o _ f.o) fun w4 F=>?_;have i:=kp (i.o.on F);have f:=kp (f.o.on F);clear F A l2
       cases d1
       case' true=>
        have A:=(j.a.grow f.o).loadOff (P:=prog) 8 9 p.s.cells rfl rfl;have l2:=(j.B.grow f.o).loadOff (P:=prog) 8 9 q.s.cells rfl rfl;go_wp2_with fail;refine mb' (m1.o _ f.o) fun w5 G=>?_;have i:=kp (i.o.on G);have f:=kp (f.o.on G);clear G A l2
        cases d2
        case' true=>
         have p0:=(j.a.grow f.o).cell 19;have e0:=(j.B.grow f.o).cell 19;rw[RpV.c19]at p0;rw[RpV.c19]at e0;go_wp2_with fail;refine mb' (o1.o _ f.o) fun w6 H=>?_;have i:=kp (i.o.on H);have f:=kp (f.o.on H);clear H p0 e0
         cases d3
         case' true=>
          have q0:=(j.a.grow f.o).cell 20;have l0:=(j.B.grow f.o).cell 20;rw[RpV.c20]at q0;rw[RpV.c20]at l0;go_wp2_with fail;refine (y0.o _ f.o).mono ?_;rintro e w7 ⟨rfl,e2,rfl⟩;have i:=kp (gG i.o e2);clear q0 l0
 all_goals
  go_wp2_with fail;go_ret;exact⟨rfl,i.o⟩
end
section
attribute [-go_sem] loadCellsFrom storeCells run_eql_struct run_neq_struct
attribute [local go_sem] bC
def KpV.own(p:KpV)(v:Value):KpV:=⟨p.view,p.normal,p.base,p.image,p.es,v⟩
def VoV.own(p:VoV)(v:Value):VoV:=⟨p.node,p.normal,p.base,p.number,p.commit,p.es,v⟩
def MgV.own(p:MgV)(v:Value):MgV:=⟨p.kind,p.src,p.dst,p.view,p.normal,p.number,p.base,p.commit,p.es,v,p.offset,p.total,p.data,p.seq,p.op,p.code,p.value,p.ok⟩
theorem nV{p:MgV}(h:p.ev.oneCell'=true):∀u∈p.cells,u.oneCell'=true:=by
 intro u a;simp only[MgV.cells,Opn.cells,aW,aT,bA,dW,or_false]at a;rcases a with rfl|rfl|rfl|rfl|rfl|rfl|rfl|rfl|rfl|rfl|rfl|rfl|rfl|rfl|rfl|rfl|rfl|rfl|rfl|rfl|rfl|rfl|rfl<;>first |rfl|exact h
theorem mW{p:KpV}(h:p.ev.oneCell'=true):∀u∈p.cells,u.oneCell'=true:=by
 intro u a;simp only[KpV.cells,bA,dW,or_false]at a;rcases a with rfl|rfl|rfl|rfl|rfl<;>first |rfl|exact h
end
section
attribute [-go_sem] run_eql_struct run_neq_struct
attribute [-go_sem] loadCellsFrom storeCells
attribute [local go_sem] bC
theorem nW(p:RcV):p.cells.length=17:=rfl
theorem fF(p:MgV):p.cells.length=23:=rfl
def sC(w:World)(B:Nat)(v:Value)(l:List RcV):Prop:=Sl w B v RcV.cells l∧∀p∈l,Sl w B p.ev En.cells p.es
def sD(w:World)(B:Nat)(v:Value)(l:List MgV):Prop:=Sl w B v MgV.cells l∧∀p∈l,Sl w B p.ev En.cells p.es
theorem sC.below{w c:World}{B C:Nat}{v:Value}{l:List RcV}(h:sC w B v l)(b:Below C w c)(a:B≤C):sC c B v l:=⟨h.1.below b a,fun p d=>(h.2 p d).below b a⟩
theorem sD.below{w c:World}{B C:Nat}{v:Value}{l:List MgV}(h:sD w B v l)(b:Below C w c)(a:B≤C):sD c B v l:=⟨h.1.below b a,fun p d=>(h.2 p d).below b a⟩
end
section
attribute [-go_sem] loadCellsFrom storeCells run_eql_struct run_neq_struct
attribute [local go_sem] bC
theorem VoV.fold(p:VoV):List.foldl (fun(cs:Array Value)(x:Value×Nat)=>cs.setIfInBounds x.snd x.fst) z'6a p.cells.zipIdx=p.cells.toArray:=by
 obtain⟨a,b,c,d,e,f,g⟩:=p;simp[VoV.cells]
attribute [local go_sem] VoV.fold
structure RpO(w:World)(base:Nat)(p:RpV)(ps:List ObV):Prop where
 es:Ow w base 93 11 p.k.ev En.cells p.k.es
 st:Ws w base p.s ps
 starts:Ow w base 3 1 p.sv i1 p.starts
 votes:Ow w base 103 6 p.vv VoV.cells p.votes
 ves:∀v∈p.votes,Ow w base 93 11 v.ev En.cells v.es
 acks:Ow w base 109 2 p.av Ak.cells p.acks
section
variable {w w':World}{base base2 b:Nat}{p:RpV}{ps:List ObV}{t:TypeId}{cs:List Value}
theorem RpO.below(h:RpO w base p ps)(a:Bw' w w'):RpO w' base p ps:=⟨h.es.below a,h.st.below a,h.starts.below a,h.votes.below a,fun v b=>(h.ves v b).below a,h.acks.below a⟩
theorem RpO.mono(h:RpO w base p ps)(a:base2≤base):RpO w base2 p ps:=⟨h.es.mono a,h.st.mono a,h.starts.mono a,h.votes.mono a,fun v b=>(h.ves v b).mono a,h.acks.mono a⟩
theorem RpO.rpAt(h:RpO w base p ps):eO w w.heap.size p ps:=⟨h.es.sl eL,h.st.st,h.starts.sl cS,⟨h.votes.sl iS,fun v a=>(h.ves v a).sl eL⟩,h.acks.sl nH⟩
theorem Ow.chg_blk{α:Type}{enc:α→List Value}{k:Nat}{a:TypeId}{v:Value}{l:List α}(h:Ow w base a k v enc l)(c:Blk w b t cs)(d:Chg (fun i=>i=b) w w')(g:a≠t):Ow w' base a k v enc l:=h.chg d fun _ f e=>h.ne_blk c g (e▸f)
theorem RpO.chg(h:RpO w base p ps)(c:Blk w b t cs)(d:Chg (fun i=>i=b) w w')(a:t≠152∧t≠150∧t≠3∧t≠117∧t≠93∧t≠103∧t≠109):RpO w' base p ps:=
 ⟨h.es.chg_blk c d (bL a.2.2.2.2.1),h.st.chg c d a.1 a.2.1 a.2.2.1 a.2.2.2.1,h.starts.chg_blk c d (bL a.2.2.1),h.votes.chg_blk c d (bL a.2.2.2.2.2.1),fun v e=>(h.ves v e).chg_blk c d (bL a.2.2.2.2.1),h.acks.chg_blk c d (bL a.2.2.2.2.2.2)⟩
end
theorem gR{p:RpV}{ps:List ObV}{w:World}{B:Nat}(h:eO w B p ps):∀u∈p.cells,u.oneCell'=true:=by
 intro u a;simp only[RpV.cells,dF]at a;rcases a with (((((a|a)|a)|a)|a)|a)
 .simp only[bA,dW,or_false]at a; rcases a with rfl|rfl<;>rfl
 .exact Vk h.1 u a
 .simp only[bA,dW,or_false]at a; rcases a with rfl; rfl
 .exact StV.one h.2.1 u a
 .simp only[bA,dW,or_false]at a;rcases a with rfl|rfl|rfl|rfl
  .rfl
  .exact h.2.2.1.one
  .exact h.2.2.2.1.1.one
  .exact h.2.2.2.2.one
 .exact Dh _ u a
theorem Blk.off{W:World}{g:Nat}{t:TypeId}{cs:List Value}(h:Blk W g t cs)(o:Nat)(a cs':List Value)(c:pY cs o a=cs')(d:o+a.length≤cs.length)(b:∀u∈a,u.oneCell'=true):
  ∃W',W.setRow g cs'.toArray=W'∧Sem.run prog (storeCells ⟨g,o,none⟩ a 0) W=.ok () W'∧Blk W' g t cs'∧Chg (fun i=>i=g) W W':=by
 subst c;exact⟨_,rfl,h.storeOff o a d b,h.set _,(Chg.refl (fun i=>i=g) W).setRow (.inr rfl) _⟩
section
variable {α:Type}{enc:α→List Value}{w w':World}{base base2 k:Nat}{p:RpV}{q:StV}{ps:List ObV}{t:TypeId}{v:Value}{l:List α}
theorem Ow.chg_row{β:Type}{b:β→List Value}{c:Nat}{a:TypeId}{v2:Value}{l2:List β}(h:Ow w base2 a c v2 b l2)(g:Ow w base t k v enc l)(d:Chg (fun i=>v.ownBlock=some i) w w')(j:t≠a):Ow w' base2 a c v2 b l2:=h.chg d fun i f e=>g.apt h j i e f
theorem Ws.chg_row(h:Ws w base2 q ps)(b:Ow w base t k v enc l)(c:Chg (fun i=>v.ownBlock=some i) w w')(g:t≠152)(j:t≠150)(d:t≠3)(m:t≠117):Ws w' base2 q ps:=
 ⟨⟨aO.chg h.h.obs c fun i a e=>b.apt_or h.h.obs g i e a.symm,h.h.rws.chg c fun p f i a=>⟨fun e=>b.apt (h.h.rws.row p f).1 d i a e,fun e=>b.apt (h.h.rws.row p f).2 d i a e⟩,h.h.eq,aO.chg h.h.free c fun i a e=>b.apt_or h.h.free j i e a.symm⟩,aO.chg h.rows c fun i a e=>b.apt_or h.rows m i e a.symm⟩
end
end
section
attribute [-go_sem] loadCellsFrom storeCells run_eql_struct run_neq_struct
attribute [local go_sem] bC VoV.fold
def dN:List Value:=[.i 0,.i 0,.i 0,.i 0,.i 0,.string ⟨#[]⟩,.slice none 0 0,.i 0,.i 0,.slice none 0 0,.i 0,.i 0,.i 0,.i 0,.i 0,.slice none 0 0,.slice none 0 0,.i 0,.slice none 0 0,.slice none 0 0,.slice none 0 0,.i 0,.i 0,.i 0,.i 0,.string ⟨#[]⟩]
def RpV.mk'(p:RpV)(kv:Value)(q:StV)(sv:Value)(vs:List VoV)(vv:Value)(av:Value):RpV:=⟨p.id,p.nodes,p.k.own kv,p.commit,q,p.timer,p.starts,sv,vs,vv,p.acks,av,p.part⟩
structure OwF(w W:World)(g0 g1:Nat)(cs:List Value):Prop where
 x:Blk W g0 39 cs
 r:Blk W g1 39 dN
 b:Bw' w W
 ne:w.heap.size≤g0∧g0<g1
theorem OwF.below{w W W':World}{d e:Nat}{c:List Value}(h:OwF w W d e c)(a:Bw' W W'):OwF w W' d e c:=⟨h.x.grow a,h.r.grow a,h.b.on a,h.ne⟩
theorem OwF.chg{w W W':World}{a c:Nat}{e cs':List Value}(h:OwF w W a c e)(f:Blk W' a 39 cs')(d:Chg (fun i=>i=a) W W'):OwF w W' a c cs':=⟨f,h.r.chg d (by have:=h.ne; omega),h.b.trans (d.below (fun i g=>by have:=h.ne; omega) h.b.size),h.ne⟩
theorem OwF.row{α:Type}{enc:α→List Value}{w W W':World}{f g k:Nat}{d:List Value}{t:TypeId}{v:Value}{l:List α}(h:OwF w W f g d)(c:Ow W w.heap.size t k v enc l)(a:Chg (fun i=>v.ownBlock=some i) W W')(j:39≠t):OwF w W' f g d:=
 ⟨h.x.chg a fun e=>c.ne_blk h.x (bL j) e,h.r.chg a fun e=>c.ne_blk h.r (bL j) e,h.b.trans (a.below (fun _ m=>(Ow.lt c m).1) h.b.size),h.ne⟩
end
end Go.Proofs.YthalbagblhkeaaaGreat
