import Derived.Test.YthalbagblhkeaaaGreatZ20
import Derived.Test.YthalbagblhkeaaaGreatZ21
import Derived.Test.YthalbagblhkeaaaGreatZ22
namespace Go.Proofs.YthalbagblhkeaaaGreat
open Go.RowKit Go.Proofs.Tryz
set_option maxRecDepth 100000
set_option maxHeartbeats 12800000
set_option linter.unusedVariables false
set_option linter.unusedSimpArgs false
section
theorem Rd.le{w:World}{B a:Nat}{A:Option Addr}{xs:List Value}(h:Rd w B A xs)(c:B≤a):Rd w a A xs:=by
 rcases h with h|⟨b,f,e,d,h⟩
 .exact .inl h
 .exact .inr ⟨b,f,e,eA d c,h⟩
theorem Dz{w:World}{base k n:Nat}{t:TypeId}{v:Value}{xs:List Value}(h:w.ownsRow base t k v n xs):∃A c,v=.slice A n c:=by
 rcases h.2 with⟨e,a⟩|⟨b,c,d,e,_⟩
 .exact⟨none,0,by rw[e,a]⟩
 .exact⟨_,c,e⟩
structure fE(w:World)(g:Nat)(l:List UInt8):Prop where
 o:∃A c,Blk w g 164 [.slice A l.length c]∧Rd w w.heap.size A (bv l)∧∀b off,A=some ⟨b,off,none⟩→bv l≠[]→∃cs,w.heap[b]? =some (.cells cs 5 (0,0))
theorem fE.lt{w:World}{g:Nat}{l:List UInt8}(h:fE w g l):g<w.heap.size:=by obtain⟨A,c,a,-⟩:=h.o; exact a.lt
theorem fE.nil{w:World}{g:Nat}{A:Option Addr}{c:Nat}(h:Blk w g 164 [.slice A 0 c]):fE w g []:=⟨A,c,h,.inl rfl,fun _ _ _ h=>absurd rfl h⟩
theorem fE.below{w i:World}{g:Nat}{l:List UInt8}(h:fE w g l)(a:Bw' w i):fE i g l:=by
 obtain⟨A,c,f,m,n⟩:=h.o;exact⟨A,c,f.below a f.lt,Rd.le (m.below a (aD _)) a.size,fun b p e k=>by
  obtain⟨j,d⟩:=n b p e k;exact⟨j,(a.block b (fH.1 d).1).trans d⟩⟩
theorem fE.put{w:World}{g base n:Nat}{v:Value}{l:List UInt8}{i:List Value}(h:Blk w g 164 i)(o:i.length=1)(z:w.ownsRow base 5 1 v n (bv l))(r:n=l.length):fE (w.setCell ⟨g,0,none⟩ v) g l:=by
 subst r;have k:=h.setCell 0 v;rw[show i.set 0 v=[v] by cases i with |nil=>simp at o|cons a t=>cases t with |nil=>rfl|cons _ _=>simp at o]at k;have D:=lB l;rcases z.2 with⟨m,e⟩|⟨b,c,s,m,C,d,r,E,F,A⟩
 .have e1:l=[]:=List.length_eq_zero_iff.1 e;subst e1;subst m;exact .nil k
 .subst m;have y:g≠b:=fun e=>by
   subst e;have x:w.heap[g]? =_:=h;rw[x]at d;have:=(Option.some.inj d)
   simp only[Obj.cells.injEq]at this;exact absurd this.2.1 (by decide)
  have q:(w.setCell ⟨g,0,none⟩ (.slice (some ⟨b,0,none⟩) l.length c)).heap[b]? =w.heap[b]?:=Below.heap_setCell w _ _ b (fun e=>y e.symm);refine⟨_,c,k,.inr ⟨b,0,rfl,?_,fun j u f=>?_⟩,fun B G e _=>by cases e; exact⟨s,q.trans d⟩⟩
  .have:=(fH.1 d).1;simpa [World.setCell] using this
  .rw[hY];have p:w.cell? ⟨b,j,none⟩=some u:=by
    rw[←A]at f;rw[oB]at f
    split at f
    .simp only[World.cell?,d]; simpa using f
    .cases f
   rw[World.cell?]at p ⊢;rw[q];exact p
def InN(ns:List Int):Prop:=∀n∈ns,okN n
theorem Zm(g B:Nat)(l:List UInt8)(v:Value)(ns:List Int)(w:World)(h:fE w g l)(hv:Sl w B v i1 ns)(U:B≤w.heap.size)(Y:∀A n c b a,v=.slice A n c→A=some ⟨b,a,none⟩→ns≠[]→b≠g)(hn:InN ns)(Z:l.length+4*ns.length≤1000000):
  Calls prog 110 #[.pointer (some ⟨g,0,none⟩),v] w fun e H=>e=.returned (.tuple #[])∧fE H g (l++ns.flatMap aS)∧Chg (fun i=>i=g) w H:=by
 obtain⟨A,c,rfl,hr,hc,hm⟩:=hv;obtain⟨n,C⟩:=nm' ns.length;have f:=kp C;rw[C]at Z ⊢;have S:=kp hr;have K:=kp U;have M:=kp (fun b a(e:A=some ⟨b,a,none⟩)(q:ns≠[])=>Y A _ c b a rfl e q);have N:=kp hn;have O:=kp h;go_enter func110,ntmps110;go_wp2_with fail
 go_loopw [8] (fun i wr=>∃k:Nat,k≤n∧i=.i k∧fE wr g (l++(ns.take k).flatMap aS)∧Chg (fun i=>i=g) w wr) (fun i _=>n-(intOf i).toNat)
 case atStart=>exact⟨0,by omega,rfl,by simpa using O.o,Chg.refl _ _⟩
 case round=>
  obtain⟨k,hk,rfl,ho,E⟩:=hrel;have HOk:=kp ho;have y:=kp E
  by_cases d0:k<n
  .have g3:(k:Int)<n:=by omega
   have d:k<ns.length:=by have:=f.o; omega
   have G:=N.o _ (bK d);have q:ns≠[]:=fun e=>by rw[e]at d; simp at d
   obtain⟨b,a,z,hb,X,-⟩:=bV (P:=prog) 1 cS (by omega) S.o k d;have V:=M.o b a z q;subst z;have j:=X 0 _ rfl;simp only[cF,oF]at j;have W:wr.heap[b]? =w.heap[b]?:=E.block b (by have:=K.o; omega) V;have j:wr.cell? ⟨b,a+k,none⟩=some (.i ns[k]):=by
    rw[World.cell?]at j ⊢;rw[W]; exact j
   have b0:ns.take (k+1)=ns.take k++[ns[k]]:=cV d;generalize ns[k]'d=x at *;obtain⟨u,hu⟩:∃u:Nat,x=u:=⟨x.toNat,by have:=G.1; omega⟩
   subst hu;have T:=kp b0;obtain⟨I,c1,m,a0,-⟩:=HOk.o.o;have F:(l++(ns.take k).flatMap aS).length=l.length+4*k:=by rw[bB,jU _ 4 gX,cZ]; have:=f.o; omega
   rw[F]at m;have y0:=m.cell 0;have s:=kp m;simp only[aG]at y0;have R:=kp (Po I (l.length+4*k) c1 (l++(ns.take k).flatMap aS) u wr a0 F (by omega) (by have:=G.2; omega));go_wp2_with fail;refine (R.o).mono ?_;rintro e w2 ⟨v2,rfl,r,D⟩;have p:=s.o.below D s.o.lt;have z0:=p.cell 0;have f0:=p.frozen 0;simp only[aG]at z0;obtain⟨J,c2,rfl⟩:=Dz r;rw[←Ax]at r;have Q:=kp (fE.put p rfl r (by rw[bB,jZ,bB,jU _ 4 gX,cZ]; have:=f.o; omega));have L:=kp ((y.o.then D).setCell (.inr rfl) 0 (.slice J (l.length+4*k+4) c2));go_wp2_with fail;go_roundw
   case rel=>exact⟨k+1,by omega,by go_num,by rw[T.o,zV,Eu,←cR]; exact Q.o,L.o⟩
   case measure=>simp[intOf]; omega
  .obtain rfl:k=n:=by omega
   rw[cN (by have:=f.o; omega)]at HOk;go_wp2_with fail;go_end0;exact⟨rfl,HOk.o,y.o⟩
theorem Zn(g B:Nat)(l:List UInt8)(v:Value)(ns:List Int)(w:World)(h:fE w g l)(hv:Sl w B v i1 ns)(S:B≤w.heap.size)(W:∀A n c b a,v=.slice A n c→A=some ⟨b,a,none⟩→ns≠[]→b≠g)(X:l.length+8*ns.length≤1000000):
  Calls prog 111 #[.pointer (some ⟨g,0,none⟩),v] w fun e G=>e=.returned (.tuple #[])∧fE G g (l++ns.flatMap cD)∧Chg (fun i=>i=g) w G:=by
 obtain⟨A,c,rfl,Z,hc,hm⟩:=hv;obtain⟨n,C⟩:=nm' ns.length;have f:=kp C;rw[C]at X ⊢;have Q:=kp Z;have J:=kp S;have L:=kp (fun b a(e:A=some ⟨b,a,none⟩)(q:ns≠[])=>W A _ c b a rfl e q);have M:=kp h;go_enter func111,ntmps111;go_wp2_with fail
 go_loopw [8] (fun i wr=>∃k:Nat,k≤n∧i=.i k∧fE wr g (l++(ns.take k).flatMap cD)∧Chg (fun i=>i=g) w wr) (fun i _=>n-(intOf i).toNat)
 case atStart=>exact⟨0,by omega,rfl,by simpa using M.o,Chg.refl _ _⟩
 case round=>
  obtain⟨k,hk,rfl,Y,E⟩:=hrel;have HOk:=kp Y;have y:=kp E
  by_cases d0:k<n
  .have g3:(k:Int)<n:=by omega
   have d:k<ns.length:=by have:=f.o; omega
   have q:ns≠[]:=fun e=>by rw[e]at d; simp at d
   obtain⟨b,a,z,hb,V,-⟩:=bV (P:=prog) 1 cS (by omega) Q.o k d;have T:=L.o b a z q;subst z;have j:=V 0 _ rfl;simp only[cF,oF]at j;have U:wr.heap[b]? =w.heap[b]?:=E.block b (by have:=J.o; omega) T;have j:wr.cell? ⟨b,a+k,none⟩=some (.i ns[k]):=by
    rw[World.cell?]at j ⊢;rw[U]; exact j
   have b0:ns.take (k+1)=ns.take k++[ns[k]]:=cV d;generalize ns[k]'d=x at *;have R:=kp b0;obtain⟨H,c1,m,a0,-⟩:=HOk.o.o;have F:(l++(ns.take k).flatMap cD).length=l.length+8*k:=by rw[bB,jU _ 8 uZ,cZ]; have:=f.o; omega
   rw[F]at m;have y0:=m.cell 0;have s:=kp m;simp only[aG]at y0;have O:=kp (Pq H (l.length+8*k) c1 (l++(ns.take k).flatMap cD) x wr a0 F (by omega));go_wp2_with fail;refine (O.o).mono ?_;rintro e w2 ⟨v2,rfl,r,D⟩;have p:=s.o.below D s.o.lt;have z0:=p.cell 0;have f0:=p.frozen 0;simp only[aG]at z0;obtain⟨I,c2,rfl⟩:=Dz r;rw[←Ax]at r;have N:=kp (fE.put p rfl r (by rw[bB,jZ,bB,jU _ 8 uZ,cZ]; have:=f.o; omega));have K:=kp ((y.o.then D).setCell (.inr rfl) 0 (.slice I (l.length+8*k+8) c2));go_wp2_with fail;go_roundw
   case rel=>exact⟨k+1,by omega,by go_num,by rw[R.o,zV,Eu,←cR]; exact N.o,K.o⟩
   case measure=>simp[intOf]; omega
  .obtain rfl:k=n:=by omega
   rw[cN (by have:=f.o; omega)]at HOk;go_wp2_with fail;go_end0;exact⟨rfl,HOk.o,y.o⟩
end
section
theorem Zo(w:World)(l:List Int)(b:l.length≤1000):Sl (w.alloc (.cells (iv l).toArray 3)) (w.heap.size+1) (.slice (some ⟨w.heap.size,0,none⟩) l.length l.length) i1 l:=by
 refine⟨_,_,rfl,.inr ⟨w.heap.size,0,rfl,by omega,fun j u a=>?_⟩,aD _,by unfold maxLen; omega⟩;rw[hY,(Blk.new w 3 (iv l)).cell,←pK];exact a
def jE(W:World)(g:Nat)(v:Value)(ns:List Int):Prop:=∃B,Sl W B v i1 ns∧B≤W.heap.size∧∀A n c b off,v=.slice A n c→A=some ⟨b,off,none⟩→ns≠[]→b≠g
theorem jE.low{W:World}{B g:Nat}{v:Value}{ns:List Int}(h:Sl W B v i1 ns)(i:B≤g)(j:g≤W.heap.size):jE W g v ns:=by
 refine⟨B,h,aB i j,fun A n c b r l f k=>?_⟩;obtain⟨m,p,e,a,-,-⟩:=h;rw[l]at e;obtain⟨rfl,-,-⟩:=Value.slice.inj e;rcases a with a|⟨o,s,d,q,-⟩
 .exact absurd (by cases ns with |nil=>rfl|cons x t=>rw[pK]at a; simp[iv]at a) k
 .rw[f]at d; cases d; omega
theorem jE.new{W:World}{g:Nat}{ns:List Int}(d:ns.length≤1000)(f:g<W.heap.size):jE (W.alloc (.cells (iv ns).toArray 3)) g (.slice (some ⟨W.heap.size,0,none⟩) ns.length ns.length) ns:=
 ⟨_,Zo W ns d,by simp,fun A n c b h e a _=>by
  obtain⟨rfl,-,-⟩:=Value.slice.inj e
  cases a; omega⟩
theorem sA{w:World}{g:Nat}{l:List UInt8}{v:Value}{ns:List Int}(h:fE w g l)(f:jE w g v ns)(k:InN ns)(j:l.length+4*ns.length≤1000000):
  Calls prog 110 #[.pointer (some ⟨g,0,none⟩),v] w fun e a=>e=.returned (.tuple #[])∧fE a g (l++ns.flatMap aS)∧Chg (fun i=>i=g) w a:=by
 obtain⟨B,b,c,d⟩:=f;exact Zm g B l v ns w h b c d k j
theorem Mo{w:World}{g:Nat}{l:List UInt8}{v:Value}{ns:List Int}(h:fE w g l)(f:jE w g v ns)(j:l.length+8*ns.length≤1000000):
  Calls prog 111 #[.pointer (some ⟨g,0,none⟩),v] w fun e a=>e=.returned (.tuple #[])∧fE a g (l++ns.flatMap cD)∧Chg (fun i=>i=g) w a:=by
 obtain⟨B,b,c,d⟩:=f;exact Zn g B l v ns w h b c d j
def vW(w:World)(B:Nat)(v:Value)(l:List UInt8):Prop:=∃A c,v=.slice A l.length c∧Rd w B A (bv l)
theorem vW.below{w a:World}{B C:Nat}{v:Value}{l:List UInt8}(h:vW w B v l)(d:Below C w a)(b:B≤C):vW a B v l:=by
 obtain⟨A,c,e,f⟩:=h;exact⟨A,c,e,f.below d b⟩
theorem Mp:∀(l:List Ob),(∀x∈l,x.ws.length≤32∧x.ls.length≤16)→(l.flatMap iZ).length≤336*l.length
 |[],_=>aD _
 |x::l,h=>by
  have b:=h x (by simp);have c:=Mp l fun y a=>h y (by simp[a]);rw[nC,bB,Hm,eV];omega
def oV(h:Hp):List UInt8:=aS h.order++aS h.next++h.tops.flatMap aS++aS h.obs.length
theorem Zp(h:Hp):(oV h).length=28:=by
 unfold oV;rw[bB,bB,bB,gX,gX,gX,jU _ 4 gX]; rfl
theorem Zq(p:HpV)(ps:List ObV)(B:Nat)(w:World)(h:gH w B p ps)(hB:B≤w.heap.size)(H:cO p.x=true):
  Calls prog 108 #[.agg p.cells.toArray] w fun e w'=>∃v,e=.returned (.tuple #[v,.i 0])∧vW w' w'.heap.size v (cT p.x)∧Bw' w w':=by
 have hH:=eC.1 H;have HH:=kp hH;have HK:=kp hH.okN;have o0:=kp hH.len;generalize y0:w.alloc (.cells p.cells.toArray 29)=W1;have r:Blk W1 w.heap.size 29 p.cells:=y0▸Blk.new w 29 p.cells;have e1:Bw' w W1:=y0▸ba' w _;have g5:=kp e1;have m0:=kp r;have R:=k'2 (h.below e1 hB) (aB hB e1.size);have HE:=kp h.2.1;have g4:ps.length=p.x.obs.length:=by rw[h.2.1,cW]
 have l2:=kp (by have:=yD p ps B W1 R.a R.B (by have:=o0.o; omega) (by have:=o0.o; omega); rw[H]at this; exact this);obtain⟨n,hN⟩:=nm' ps.length;obtain⟨A,c,p4,-,-,-⟩:=h.1.1;have q0:=kp p4;have O:=k'2 hN (show p.x.obs.length=n by rw[←g4]; exact hN);have b7:n≤256:=by have:=o0.o; have:=O.o; omega
 have k0:=(cI.of r).c0;have N:=(cI.of r).c1;have k2:=(cI.of r).c2;have k3:=(cI.of r).c3;have k4:=(cI.of r).c4;have k5:=(cI.of r).c5;have k6:=(cI.of r).c6;have k7:=(cI.of r).c7;rw[show p.cells.toArray=#[.i p.x.order,p.ov,.i p.x.next,.i p.x.t0,.i p.x.t1,.i p.x.t2,.i p.x.t3,p.fv] from rfl]at l2 y0 ⊢;clear h r e1 hB hN hH H g4 p4;go_enter func108,ntmps108;go_wp2_with fail;refine mb' (l2.o) fun w2 F=>?_;have q6:=kp F;have y3:=m0.o.below F m0.o.lt;obtain⟨g,hg⟩:=nm' w2.heap.size;have h3:=Blk.new w2 164 [.slice none 0 0];have J:=ba' w2 (.cells [Value.slice none 0 0].toArray 164);obtain⟨d,m3⟩:=nm' (w2.alloc (.cells #[.slice none 0 0] 164));rw[show ([Value.slice none 0 0].toArray:Array Value)=#[.slice none 0 0] from rfl,m3]at J;rw[show ([Value.slice none 0 0].toArray:Array Value)=#[.slice none 0 0] from rfl,m3]at h3;rw[hg]at h3 J;have HG:=kp hg;have y6:=kp J;have s:=kp (fE.nil h3);have G:=kp (show w.heap.size<g by rw[←hg]; exact eA m0.o.lt F.size);have Z:=kp (show Blk d w.heap.size 29 p.cells from y3.below J G.o);have E:=kp (show gH d B p ps∧B≤g from⟨(R.a.below F R.B).below J (by rw[←hg]; exact aB R.B F.size),by rw[←hg]; exact aB R.B F.size⟩);have e5:=kp (show Bw' w d from (g5.o.on F).trans (J.mono (dY G.o)));clear F y3 h3 J k0 N k2 k3 k4 k5 k6 k7;have k0:=(cI.of Z.o).c0;have k2:=(cI.of Z.o).c2;have z0:=jE.new (W:=d) (g:=g) (ns:=[p.x.order,p.x.next]) (by simp) s.o.lt;have e4:=ba' d (.cells (iv [p.x.order,p.x.next]).toArray 3);obtain⟨W4,j6⟩:=nm' (d.alloc (.cells #[.i p.x.order,.i p.x.next] 3));rw[show (iv [p.x.order,p.x.next]).toArray=#[.i p.x.order,.i p.x.next] from rfl,j6]at z0 e4;have j5:=kp (sA (s.o.below e4) z0 (by intro z l; simp only[bA,dW,or_false]at l; rcases l with rfl|rfl; exact HK.a; exact HK.b) (by simp));have b2:=kp (e4.mono (dY s.o.lt));clear z0 e4;go_wp2_with fail;refine (j5.o).mono ?_;rintro e w5 ⟨rfl,j4,z3⟩;have p0:=kp j4;have d2:=kp (show Below g d w5 from b2.o.trans (z3.below (fun i e=>fU e.symm) (by have:=b2.o.size; have:=s.o.lt; omega)));clear j4 z3 k0 k2;have K:=Z.o.below d2.o G.o;have p3:jE w5 g (.slice (some ⟨w.heap.size,3,none⟩) 4 4) p.x.tops:=by
  refine jE.low (B:=w.heap.size+1) ⟨_,_,rfl,.inr ⟨w.heap.size,3,rfl,by omega,fun j u hu=>?_⟩,aD _,by unfold maxLen; omega⟩ G.o (by have:=p0.o.lt; omega);rw[K.cell];rw[pK]at hu;have hj:j<4:=by
   obtain⟨hj,-⟩:=iH.1 hu;exact hj
  rw[←hu]
  match j,hj with
  |0,_=>rfl
  |1,_=>rfl
  |2,_=>rfl
  |3,_=>rfl
 have l5:=kp (sA p0.o p3 (fun z l=>HK.c z l) (by simp[gX]; show 4+4+4*4≤_; omega));clear p3 K;go_wp2_with fail;refine (l5.o).mono ?_;rintro e w6 ⟨rfl,l4,a4⟩;have z2:=kp l4;have g0:=kp (show Below g d w6 from d2.o.trans (a4.below (fun i e=>fU e.symm) (by have:=p0.o.lt; omega)));clear l4 a4;have N:=(cI.of (Z.o.below g0.o G.o)).c1;rw[q0.o,O.a]at N;have S:=jE.new (W:=w6) (g:=g) (ns:=[(n:Int)]) (by simp) z2.o.lt;have e7:=ba' w6 (.cells (iv [(n:Int)]).toArray 3);obtain⟨W7,m6⟩:=nm' (w6.alloc (.cells #[.i n] 3));rw[show (iv [(n:Int)]).toArray=#[.i (n:Int)] from rfl,m6]at S e7;have o5:=kp (sA (z2.o.below e7) S (by intro z l; rw[bQ.1 l]; exact⟨by omega,by omega⟩) (by have h1:(p.x.tops.flatMap aS).length=16:=jU _ 4 gX p.x.tops; simp only[bB,h1,nC,zZ,mH,gX,eV]; omega));have g2:=kp (g0.o.trans (e7.mono (aB (by have:=s.o.lt; omega) g0.o.size)));clear S e7;go_wp2_with fail;refine (o5.o).mono ?_;rintro e Y ⟨rfl,d0,T⟩;have b6:=kp (show fE Y g (oV p.x++(p.x.obs.take 0).flatMap iZ) by
  have:oV p.x++(p.x.obs.take 0).flatMap iZ=[]++[p.x.order,p.x.next].flatMap aS++p.x.tops.flatMap aS++[(n:Int)].flatMap aS:=by
   unfold oV; rw[O.B]; simp
  rw[this]; exact d0)
 have j2:=kp (show Below g d Y from g2.o.trans (T.below (fun i e=>fU e.symm) (aB (by have:=s.o.lt; omega) g2.o.size)));clear d0 T N;have N:=(cI.of (Z.o.below j2.o G.o)).c1;rw[q0.o,O.a]at N;go_wp2_with fail;clear N
 go_loopw [32] (fun i wr=>∃k:Nat,k≤n∧i=.i k∧fE wr g (oV p.x++(p.x.obs.take k).flatMap iZ)∧Below g d wr) (fun i _=>n-(intOf i).toNat)
 case atStart=>exact⟨0,by omega,rfl,b6.o,j2.o⟩
 case round=>
  obtain⟨k,hk,rfl,X,d1⟩:=hrel;have Q:=kp X;have HB:=kp d1;have d3:=kp (E.a.below d1 E.B);clear X d1
  by_cases a7:k<n
  .have g3:(k:Int)<(n:Int):=by omega
   have V:k<ps.length:=by have:=O.a; omega
   obtain⟨A6,c6,y1,y4,-,-⟩:=d3.a.1;rw[q0.o]at y1;obtain⟨rfl,-,rfl⟩:=Value.slice.inj y1;obtain⟨b,d7,rfl,-,U,-⟩:=bV (P:=prog) 5 cM (by omega) y4 k V;have a5:ps[k]∈ps:=bK V;have a2:ps[k]? =some (ps[k]'V):=eK V;generalize ps[k]'V=x at *;have q1:p.x.obs[k]? =some x.x:=by rw[HE.o,wC,a2]; rfl
   have z4:p.x.obs.take (k+1)=p.x.obs.take k++[x.x]:=by
    obtain⟨o6,p6⟩:=iH.1 q1;rw[cV o6,p6]
   have m1:=oY q1;have l3:=kp a2;have a0:=k'3 z4 (HK.D _ m1) (HH.o.lens m1);have e0:=d3.a.2 x a5;have z6:=kp e0;obtain⟨Aw,cw,z1,-,-,-⟩:=e0.1;obtain⟨Al,cl,l1,-,-,-⟩:=e0.2;have j3:=k'2 z1 l1;have j1:(oV p.x++(p.x.obs.take k).flatMap iZ).length≤28+336*k:=by
    rw[bB,Zp];have:=Mp (p.x.obs.take k) fun y hy=>HH.o.lens (qN hy);rw[cZ]at this;have:min k p.x.obs.length≤k:=Nat.min_le_left ..;omega
   obtain⟨L,hL⟩:=nm' (oV p.x++(p.x.obs.take k).flatMap iZ);rw[hL]at Q j1;have p2:=kp j1;have a6:=kp hL;have x0:=U 0 _ rfl;have x1:=U 1 _ rfl;have x2:=U 2 _ rfl;have x3:=U 3 _ rfl;have x4:=U 4 _ rfl;simp only[cF]at x0;obtain⟨f,p1⟩:=nm' x.x.ws.length;obtain⟨q,o1⟩:=nm' x.x.ls.length;rw[z1,p1]at x3;rw[l1,o1]at x4;have I:=k'2 p1 o1;have g9:f≤32∧q≤16:=by have:=a0.C; omega
   have q2:=kp g9;generalize o3:wr.alloc (.cells #[.i x.x.h,.i x.x.b.a,.i x.x.b.o,.slice Aw f cw,.slice Al q cl] 152)=W5;have K:Bw' wr W5:=o3▸ba' wr _;have M:Blk W5 wr.heap.size 152 [.i x.x.h,.i x.x.b.a,.i x.x.b.o,.slice Aw f cw,.slice Al q cl]:=o3▸Blk.new wr 152 [.i x.x.h,.i x.x.b.a,.i x.x.b.o,.slice Aw f cw,.slice Al q cl];have s0:=M.cell 0;have s1:=M.cell 1;have s3:=M.cell 3;have s4:=M.cell 4;simp only[aG,aK]at s0 s1 s3 s4;have m2:=kp (show g<wr.heap.size from Q.o.lt);have y2:=kp (Q.o.below K);have b5:=kp (HB.o.trans (K.mono (dY Q.o.lt)));have a1:=jE.new (W:=W5) (g:=g) (ns:=[x.x.h,x.x.b.a,(f:Int),(q:Int)]) (by simp) y2.o.lt;have e6:=ba' W5 (.cells (iv [x.x.h,x.x.b.a,(f:Int),(q:Int)]).toArray 3);obtain⟨W6,l6⟩:=nm' (W5.alloc (.cells #[.i x.x.h,.i x.x.b.a,.i f,.i q] 3));rw[show (iv [x.x.h,x.x.b.a,(f:Int),(q:Int)]).toArray=#[.i x.x.h,.i x.x.b.a,.i (f:Int),.i (q:Int)] from rfl,l6]at a1 e6;have m5:=kp (sA (y2.o.below e6) a1 (by
    intro z l;simp only[bA,dW,or_false]at l;rcases l with rfl|rfl|rfl|rfl
    .exact a0.b.1
    .exact a0.b.2.1
    .exact⟨by omega,by omega⟩
    .exact⟨by omega,by omega⟩) (by show L.length+4*4≤_; omega))
   have y5:=kp (M.below e6 M.lt);have e2:=kp (b5.o.trans (e6.mono (aB (dY Q.o.lt) K.size)));clear z4 m1 e0 z1 l1 j1 U y4 y1 a5 a2 q1 V hL p1 o1 K M a1 e6;go_wp2_with fail;refine (m5.o).mono ?_;rintro e w7 ⟨rfl,m4,g1⟩;have a3:=kp m4;have o2:=kp (y5.o.chg g1 (fun e=>by have:=m2.o; omega));have j0:=kp (show Below g d w7 from e2.o.trans (g1.below (fun i e=>fU e.symm) (aB (by have:=s.o.lt; omega) e2.o.size)));clear m4 g1 s0 s1 s3 s4 x0 x1 x2 x3 x4;have s3:=o2.o.cell 3;simp only[aG,aK]at s3;have S:jE w7 g (.slice Aw f cw) x.x.ws:=by
    have:=jE.low (W:=w7) ((E.a.below j0.o E.B).1.2 x ?_).1 E.B (dY a3.o.lt)
    .rw[j3.a,I.a]at this; exact this
    .have:=l3.o; exact oY this
   have p5:=kp (Mo a3.o S (by rw[bB,jU _ 4 gX,I.a]; have:=p2.o; have:=q2.o; show L.length+4*4+8*f≤_; omega));clear S;go_wp2_with fail;refine (p5.o).mono ?_;rintro e Y ⟨rfl,d0,T⟩;have b3:=kp d0;have z5:=kp (o2.o.chg T (fun e=>by have:=m2.o; omega));have l0:=kp (show Below g d Y from j0.o.trans (T.below (fun i e=>fU e.symm) (aB (by have:=s.o.lt; omega) j0.o.size)));clear d0 T s3;have s4:=z5.o.cell 4;simp only[aG,aK]at s4;have q3:jE Y g (.slice Al q cl) x.x.ls:=by
    have:=jE.low (W:=Y) ((E.a.below l0.o E.B).1.2 x (oY l3.o)).2 E.B (dY b3.o.lt);rw[j3.B,I.B]at this; exact this
   have q5:=kp (sA b3.o q3 (fun z l=>a0.b.2.2.2 z l) (by rw[bB,bB,jU _ 4 gX,jU _ 8 uZ,I.a,I.B]; have:=p2.o; have:=q2.o; show L.length+4*4+8*f+4*q≤_; omega));clear q3;go_wp2_with fail;refine (q5.o).mono ?_;rintro e w9 ⟨rfl,o4,d4⟩;have d6:=kp o4;have d5:=kp (show Below g d w9 from l0.o.trans (d4.below (fun i e=>fU e.symm) (aB (by have:=s.o.lt; omega) l0.o.size)));clear o4 d4 s4;go_wp2_with fail;go_roundw
   case rel=>
    refine⟨k+1,by omega,by go_num,?_,d5.o⟩;have h9:=d6.o;rw[a0.a,zV,←cR,a6.o,Eu];unfold iZ;rw[I.a,I.B];simpa [cR] using h9
   case measure=>simp[intOf]; omega
  .obtain rfl:k=n:=by omega
   have X:=Q.o;rw[cN (by have:=O.B; omega)]at X;obtain⟨A9,c9,b1,q4,-⟩:=X.o;obtain⟨m,hm⟩:=nm' ((oV p.x++p.x.obs.flatMap iZ).length);rw[hm]at b1;have HM:=kp (show (cT p.x).length=m from hm);have s0:=b1.cell 0;simp only[aG]at s0;have g6:=kp (show Rd wr wr.heap.size A9 (bv (cT p.x)) from q4);clear X b1 q4 hm;go_wp2_with fail;go_ret2;exact⟨.slice A9 m c9,rfl,⟨A9,c9,by rw[HM.o],g6.o⟩,e5.o.trans (HB.o.mono (dY G.o))⟩
end
section
theorem Mq(x:Rw):(jH x).length=20:=by unfold jH; simp only[bB,gX,uZ]
theorem Mr(p:StV)(ps:List ObV)(B:Nat)(w:World)(h:fN w B p ps)(hB:B≤w.heap.size)(hn:ps.length≤1000000)(hf:p.p.x.free.length≤900000)(hr:p.rows.length≤1000000):
  Calls prog 60 #[.agg p.cells.toArray] w fun e w'=>∃v,e=.returned (.tuple #[v,.i (eN 60 (stB p.x))])∧(stB p.x=true→vW w' w'.heap.size v (gI p.x))∧Bw' w w':=by
 generalize j1:w.alloc (.cells p.cells.toArray 32)=M;have b0:Blk M w.heap.size 32 p.cells:=j1▸Blk.new w 32 p.cells;have e1:Bw' w M:=j1▸ba' w _;have o2:=kp e1;have d:=kp b0;have r:=k'2 (h.below e1 hB) (aB hB e1.size);obtain⟨n,hN⟩:=nm' p.rows.length;obtain⟨A,c,j4,-,-,-⟩:=h.2;have d1:=kp j4;have E:=kp hN;have p0:=kp (Dt p ps B M r.a r.B hn hf hr);rw[hN]at hr;have Y:=d.o.cell 0;have Z:=d.o.cell 1;have k2:=d.o.cell 2;have k3:=d.o.cell 3;have k4:=d.o.cell 4;have k5:=d.o.cell 5;have k6:=d.o.cell 6;have k7:=d.o.cell 7;have j:=d.o.cell 8;simp only[StV.cells,HpV.cells,aW,aT,aG,aK]at Y Z k2 k3 k4 k5 k6 k7 j;rw[show p.cells.toArray=#[.i p.p.x.order,p.p.ov,.i p.p.x.next,.i p.p.x.t0,.i p.p.x.t1,.i p.p.x.t2,.i p.p.x.t3,p.p.fv,p.rv] from rfl]at p0 j1 ⊢;obtain⟨R,hR⟩:=nm' (stB p.x);rw[hR]at p0 ⊢;have HR:=kp hR;clear h j4 b0 e1 hB hN hR hn hf;go_enter func60,ntmps60;go_wp2_with fail;refine mb' (p0.o) fun w2 G=>?_;have d2:=kp G;clear Y Z k2 k3 k4 k5 k6 k7 j
 cases R
 .have S:eN 60 false=60:=rfl;rw[S];clear S G;go_wp2_with fail;go_ret2;exact⟨_,rfl,(fun h=>by cases h),o2.o.on d2.o⟩
 have S:eN 60 true=0:=rfl;rw[S];clear S;have X:=HR.o;unfold stB at X;simp only[bI]at X;have p2:=kp (show cO p.p.x=true from X.1);have a3:=kp (vA p.rows 0 (iQ 0) X.2);have a7:n≤4:=by have:=a3.B; have:=E.o; omega
 have l:=d.o.below G d.o.lt;have z2:=kp (Zq p.p ps B w2 (r.a.1.below G r.B) (aB r.B G.size) p2.o);have Y:=l.cell 0;have Z:=l.cell 1;have k2:=l.cell 2;have k3:=l.cell 3;have k4:=l.cell 4;have k5:=l.cell 5;have k6:=l.cell 6;have k7:=l.cell 7;have j:=l.cell 8;simp only[StV.cells,HpV.cells,aW,aT,aG,aK]at Y Z k2 k3 k4 k5 k6 k7 j;rw[show p.p.cells.toArray=#[.i p.p.x.order,p.p.ov,.i p.p.x.next,.i p.p.x.t0,.i p.p.x.t1,.i p.p.x.t2,.i p.p.x.t3,p.p.fv] from rfl]at z2;clear X l G;go_wp2_with fail;refine (z2.o).mono ?_;rintro e w3 ⟨v3,rfl,p6,e3⟩;have m0:=kp (d2.o.on e3);obtain⟨A3,c3,rfl,z1⟩:=p6;obtain⟨m3,j0⟩:=nm' ((cT p.p.x).length);rw[j0];have q2:=k'2 j0 (Cf p2.o);have q6:=kp z1;obtain⟨g,hg⟩:=nm' w3.heap.size;have T:=Blk.new w3 164 [.slice none 0 0];have O:=ba' w3 (.cells [Value.slice none 0 0].toArray 164);obtain⟨f,d6⟩:=nm' (w3.alloc (.cells #[.slice none 0 0] 164));rw[show ([Value.slice none 0 0].toArray:Array Value)=#[.slice none 0 0] from rfl,d6]at T O;have o6:=sY (P:=prog) f 95 9 5 aBP sX oG w3.heap.size A3 m3 c3 (cT p.p.x) (z1.below O (aD _)) j0;rw[hg]at T O;have HG:=kp hg;have y0:=kp (fE.nil T);have o0:=kp T;have g1:M.heap.size≤g:=by rw[←hg]; exact m0.o.size
 have q0:=kp (show w.heap.size<g by rw[←hg]; exact eA d.o.lt m0.o.size);have d0:Bw' M f:=m0.o.trans (O.mono g1);have m2:=kp (d.o.below d0 d.o.lt);have b3:=kp (show fN f B p ps∧B≤g from⟨r.a.below d0 r.B,aB r.B g1⟩);have a5:=kp (show Bw' w f from o2.o.on d0);have a6:=kp (Pp none 0 0 [] ⟨(cT p.p.x).toArray⟩ f (.inl rfl) rfl (by omega) (by have:=q2.o; show (cT p.p.x).toArray.size≤_; rw[gT]; omega));clear e3 z1 j0 T O g1 d0 Y Z k2 k3 k4 k5 k6 k7 j;go_wp2_with fail;refine (a6.o).mono ?_;rintro e w5 ⟨v5,rfl,l0,y⟩;obtain⟨A5,c5,rfl⟩:=Dz l0;have U:=o0.o.below y o0.o.lt;obtain⟨K,q1⟩:=nm' (0+4+(⟨(cT p.p.x).toArray⟩:ByteArray).size);rw[q1]at l0 ⊢;have p3:K=(aS (cT p.p.x).length++cT p.p.x).length:=by
  rw[←q1,bB,gX];show 0+4+(cT p.p.x).toArray.size=_;rw[gT]
 have q3:w5.ownsRow f.heap.size 5 1 (.slice A5 K c5) K (bv (aS (cT p.p.x).length++cT p.p.x)):=by
  have e:bv []++bv (beN 4 (⟨(cT p.p.x).toArray⟩:ByteArray).size)++bv (⟨(cT p.p.x).toArray⟩:ByteArray).data.toList=bv (aS (cT p.p.x).length++cT p.p.x):=by
   rw[Ax]; unfold aS;show []++bv (beN 4 (cT p.p.x).toArray.size)++bv (cT p.p.x).toArray.toList=_;rw[gT,aT]; rfl
  rw[←e]; exact l0
 have y1:=fE.put U rfl q3 p3;have e0:Below g f (w5.setCell ⟨g,0,none⟩ (.slice A5 K c5)):=
  (y.mono (dY o0.o.lt)).trans (((Chg.refl (fun i=>i=g) w5).setCell (.inr rfl) 0 (.slice A5 K c5)).below (fun i e=>fU e.symm) (dY U.lt))
 have z0:=U.cell 0;have f0:=U.frozen 0;simp only[aG]at z0;obtain⟨W6,g6⟩:=nm' (w5.setCell ⟨g,0,none⟩ (.slice A5 K c5));rw[g6]at y1 e0;have a1:=kp y1;have q4:=kp e0;have j:=(m2.o.below e0 q0.o).cell 8;rw[StV.c8,d1.o,E.o]at j;have C:=jE.new (W:=W6) (g:=g) (ns:=[(n:Int)]) (by simp) a1.o.lt;have q:=ba' W6 (.cells (iv [(n:Int)]).toArray 3);obtain⟨W7,l6⟩:=nm' (W6.alloc (.cells #[.i n] 3));rw[show (iv [(n:Int)]).toArray=#[.i (n:Int)] from rfl,l6]at C q;have o3:(aS (cT p.p.x).length++cT p.p.x).length≤4128:=by have:=q2.o; rw[bB,gX]; omega
 have o5:=kp o3;have d5:=kp (sA (a1.o.below q) C (by intro z hz; rw[bQ.1 hz]; exact⟨by omega,by omega⟩) (by show (aS (cT p.p.x).length++cT p.p.x).length+4*1≤_; omega));have g2:=kp (q4.o.trans (q.mono (dY a1.o.lt)));clear C q l0 q3 q1 p3 U y y1 e0 o3 o6;go_wp2_with fail;refine (d5.o).mono ?_;rintro e w8 ⟨rfl,z3,j3⟩;have y5:=kp (show fE w8 g (aS (cT p.p.x).length++cT p.p.x++aS n++(p.rows.take 0).flatMap jH) by simpa using z3);have j2:=kp (show Below g f w8 from g2.o.trans (j3.below (fun i e=>fU e.symm) (aB (by have:=y0.o.lt; omega) g2.o.size)));clear z3 j3 j z0 f0;have j:=(m2.o.below j2.o q0.o).cell 8;rw[StV.c8,d1.o,E.o]at j;go_wp2_with fail;clear j
 go_loopw [41] (fun i wr=>∃k:Nat,k≤n∧i=.i k∧fE wr g (aS (cT p.p.x).length++cT p.p.x++aS n++(p.rows.take k).flatMap jH)∧Below g f wr) (fun i _=>n-(intOf i).toNat)
 case atStart=>exact⟨0,by omega,rfl,y5.o,j2.o⟩
 case round=>
  obtain⟨k,hk,rfl,J,m1⟩:=hrel;have F:=kp J;have HB:=kp m1;have l4:=b3.a.2.below m1 b3.B;clear J m1
  by_cases z6:k<n
  .have g3:(k:Int)<(n:Int):=by omega
   have I:k<p.rows.length:=by have:=E.o; omega
   obtain⟨A6,c6,b2,g4,-,-⟩:=l4;rw[d1.o]at b2;obtain⟨rfl,-,rfl⟩:=Value.slice.inj b2;obtain⟨b,b7,rfl,-,V,-⟩:=bV (P:=prog) 4 fJ (by omega) g4 k I;have m4:p.rows.take (k+1)=p.rows.take k++[p.rows[k]'I]:=cV I;have o4:p.rows[k]∈p.rows:=bK I;generalize p.rows[k]'I=x at *;have a0:=k'2 m4 (a3.a x o4);have p1:(aS (cT p.p.x).length++cT p.p.x++aS n++(p.rows.take k).flatMap jH).length≤4132+20*k:=by
    rw[bB,bB,gX,jU _ 20 Mq,cZ];have:=o5.o;have:min k p.rows.length≤k:=Nat.min_le_left ..;omega
   obtain⟨L,hL⟩:=nm' (aS (cT p.p.x).length++cT p.p.x++aS n++(p.rows.take k).flatMap jH);rw[hL]at F p1;have p5:=kp p1;have q5:=kp hL;have x0:=V 0 _ rfl;have x1:=V 1 _ rfl;have x2:=V 2 _ rfl;have x3:=V 3 _ rfl;simp only[cF]at x0;generalize d3:wr.alloc (.cells #[.i x.c,.i x.s,.i x.k,.i x.v] 117)=N;have y:Bw' wr N:=d3▸ba' wr _;have H:Blk N wr.heap.size 117 [.i x.c,.i x.s,.i x.k,.i x.v]:=d3▸Blk.new wr 117 [.i x.c,.i x.s,.i x.k,.i x.v];have s0:=H.cell 0;have s1:=H.cell 1;have s2:=H.cell 2;simp only[aG,aK]at s0 s1 s2;have g5:=kp (show g<wr.heap.size from F.o.lt);have y2:=kp (F.o.below y);have p4:=kp (HB.o.trans (y.mono (dY F.o.lt)));have l1:=jE.new (W:=N) (g:=g) (ns:=[x.c,x.s,x.k]) (by simp) y2.o.lt;have Q:=ba' N (.cells (iv [x.c,x.s,x.k]).toArray 3);obtain⟨y6,j6⟩:=nm' (N.alloc (.cells #[.i x.c,.i x.s,.i x.k] 3));rw[show (iv [x.c,x.s,x.k]).toArray=#[.i x.c,.i x.s,.i x.k] from rfl,j6]at l1 Q;have b5:=kp (sA (y2.o.below Q) l1 (by
    intro z hz;simp only[bA,dW,or_false]at hz;rcases hz with rfl|rfl|rfl
    .exact a0.b
    .exact a0.c
    .exact a0.D) (by show L.length+4*3≤_; omega))
   have j5:=kp (H.below Q H.lt);have e2:=kp (p4.o.trans (Q.mono (aB (dY F.o.lt) y.size)));clear m4 o4 p1 V g4 b2 I hL y H l1 Q;go_wp2_with fail;refine (b5.o).mono ?_;rintro e w7 ⟨rfl,y3,o1⟩;have b1:=kp y3;have l5:=kp (j5.o.chg o1 (fun e=>by have:=g5.o; omega));have y4:=kp (show Below g f w7 from e2.o.trans (o1.below (fun i e=>fU e.symm) (aB (by have:=y0.o.lt; omega) e2.o.size)));clear y3 o1 s0 s1 s2 x0 x1 x2 x3;have s3:=l5.o.cell 3;simp only[aG,aK]at s3;have C:=jE.new (W:=w7) (g:=g) (ns:=[x.v]) (by simp) b1.o.lt;have q:=ba' w7 (.cells (iv [x.v]).toArray 3);obtain⟨W8,m6⟩:=nm' (w7.alloc (.cells #[.i x.v] 3));rw[show (iv [x.v]).toArray=#[.i x.v] from rfl,m6]at C q;have e5:=kp (Mo (b1.o.below q) C (by rw[bB,jU _ 4 gX]; have:=p5.o; show L.length+4*3+8*1≤_; omega));have l2:=kp (y4.o.trans (q.mono (dY b1.o.lt)));clear C q;go_wp2_with fail;refine (e5.o).mono ?_;rintro e w9 ⟨rfl,a4,l3⟩;have z5:=kp a4;have z4:=kp (show Below g f w9 from l2.o.trans (l3.below (fun i e=>fU e.symm) (aB (by have:=y0.o.lt; omega) l2.o.size)));clear a4 l3 s3;go_wp2_with fail;go_roundw
   case rel=>
    refine⟨k+1,by omega,by go_num,?_,z4.o⟩;have h9:=z5.o;rw[a0.a,zV,←cR,q5.o,Eu];unfold jH;simpa [cR] using h9
   case measure=>simp[intOf]; omega
  .obtain rfl:k=n:=by omega
   have J:=F.o;rw[cN (by have:=E.o; omega)]at J;obtain⟨A9,c9,g0,a2,-⟩:=J.o;have d4:gI p.x=aS (cT p.p.x).length++cT p.p.x++aS k++p.rows.flatMap jH:=by
    unfold gI StV.x;rw[E.o]
   rw[←d4]at g0 a2;obtain⟨m,hm⟩:=nm' ((gI p.x).length);rw[hm]at g0;have HM:=kp hm;have s0:=g0.cell 0;simp only[aG]at s0;have b6:=kp a2;clear J g0 a2 hm d4 l4;go_wp2_with fail;go_ret2;exact⟨.slice A9 m c9,rfl,⟨A9,c9,by rw[HM.o],b6.o⟩,a5.o.trans (HB.o.mono (dY q0.o))⟩
def iP(s:St):ByteArray:=if stB s=true then ⟨(gI s).toArray⟩ else ⟨#[]⟩
theorem Ea(p:StV)(ps:List ObV)(B:Nat)(w:World)(h:fN w B p ps)(d:B≤w.heap.size)(r:ps.length≤1000000)(n:p.p.x.free.length≤900000)(s:p.rows.length≤1000000):
  Calls prog 28 #[.agg p.cells.toArray] w fun e O=>e=.returned (.string (iP p.x))∧Bw' w O:=by
 generalize f:w.alloc (.cells p.cells.toArray 32)=c;have j:Blk c w.heap.size 32 p.cells:=f▸Blk.new w 32 p.cells;have e1:Bw' w c:=f▸ba' w _;have a:=kp j;have L:=kp e1;have b:=kp (Mr p ps B c (h.below e1 d) (aB d e1.size) r n s);have z:=a.o.cell 0;have A:=a.o.cell 1;have C:=a.o.cell 2;have D:=a.o.cell 3;have E:=a.o.cell 4;have F:=a.o.cell 5;have G:=a.o.cell 6;have H:=a.o.cell 7;have I:=a.o.cell 8;simp only[StV.cells,HpV.cells,aW,aT,aG,aK]at z A C D E F G H I;rw[show p.cells.toArray=#[.i p.p.x.order,p.p.ov,.i p.p.x.next,.i p.p.x.t0,.i p.p.x.t1,.i p.p.x.t2,.i p.p.x.t3,p.p.fv,p.rv] from rfl]at b f ⊢;unfold iP;obtain⟨R,k⟩:=nm' (stB p.x);rw[k]at b ⊢;clear h j e1 d k r n s;go_enter func28,ntmps28;go_wp2_with fail;refine (b.o).mono ?_;rintro e J ⟨Q,rfl,g,l⟩;have i:=kp (L.o.on l);clear l z A C D E F G H I
 cases R
 .have M:(eN 60 false != 0)=true:=rfl;clear g;go_wp2_with fail;go_ret;exact⟨rfl,i.o⟩
 have M:(eN 60 true != 0)=false:=rfl;obtain⟨K,c3,rfl,y⟩:=g rfl;have N:=sY (P:=prog) J 95 9 5 aBP sX oG J.heap.size K (gI p.x).length c3 (gI p.x) y rfl;obtain⟨m,q⟩:=nm' ((gI p.x).length);rw[q]at N ⊢;clear g y q;go_wp2_with fail;go_ret;exact⟨rfl,i.o⟩
end
section
attribute [-go_sem] loadCellsFrom storeCells
attribute [local go_sem] bC
theorem Zr{s t:St}(c:stB s=true)(d:stR s)(e:stR t):decide (iP s=iP t)=decide (s=t):=by
 rw[←Vy c d e];refine decide_eq_decide.2 ?_;unfold iP;rw[aE c,aE c];constructor
 .intro h
  split<;>rename_i a
  .rw[aE a]at h;have:=bG (fun b:ByteArray=>b.data.toList) h;simpa using this
  .rw[aC a]at h;have:=bG (fun b:ByteArray=>b.data.toList) h;simpa using this
 .intro h
  split<;>rename_i a
  .rw[aE a]at h; rw[h]
  .rw[aC a]at h; rw[h]
theorem yZ(s t:ByteArray):(s.toList==t.toList)=decide (s=t):=by
 have e:s.toList=t.toList↔s=t:=⟨fun h=>by rw[ByteArray.toList_eq,ByteArray.toList_eq]at h; exact ByteArray.ext (Array.ext' h),fun h=>h▸rfl⟩
 by_cases h:s=t
 .rw[bY h]; simpa using e.2 h
 .rw[aX h]; simpa using fun a=>h (e.1 a)
theorem vX(p:RpV)(ps:List ObV)(B:Nat)(w:World)(h:eO w B p ps)(V:B≤w.heap.size)(S:RpS p ps):
  Calls prog 7 #[.agg p.cells.toArray] w fun e w'=>e=.returned (.i (eN 1 (dI p.x)))∧Bw' w w':=by
 obtain⟨K,y1,A,H,z1⟩:=par w 39 p.cells;have i:=kp A;have d:=k'3 (h.below H V) (aB V H.size) S;have g:=kp H;have f:=kp (aL K.heap.size K);obtain⟨a1,e1⟩:∃a,kB p.nodes=a:=⟨_,rfl⟩
 obtain⟨a2,N⟩:∃a,aF p.id 1 p.nodes=a:=⟨_,rfl⟩
 obtain⟨G,I⟩:∃a,dA p.x.k=a:=⟨_,rfl⟩
 obtain⟨a4,u4⟩:∃a,decide (p.k.view≤800000000)=a:=⟨_,rfl⟩
 obtain⟨L,O⟩:∃a,decide (p.x.k.last≤800000000)=a:=⟨_,rfl⟩
 obtain⟨a6,Q⟩:∃a,aF p.timer 0 1000=a:=⟨_,rfl⟩
 obtain⟨a7,R⟩:∃a,rH p.x=a:=⟨_,rfl⟩
 obtain⟨a8,T⟩:∃a,tL p.x=a:=⟨_,rfl⟩
 obtain⟨M,U⟩:∃a,decide (iB p.x.k p.commit=some p.s.x)=a:=⟨_,rfl⟩
 have hR:dI p.x=(a1&&(a2&&(G&&(a4&&(L&&(a6&&(a7&&(a8&&M)))))))):=by rw[←e1,←N,←I,←u4,←O,←Q,←R,←T,←U]; rfl
 rw[hR];have z0:=kp (fun W=>e1▸Jx p.nodes W S.r.2.1);have d1:=kp (fun W=>N▸oK.1 p.id 1 p.nodes W);have g1:=kp (by have:=yU p.k B K d.a.1 d.b S.k.2.1 S.k.1 (aB S.k.2.2 (by decide)); rw[show dA p.k.x=G from I]at this; exact this);have j1:=kp (fun W=>Q▸oK.1 p.timer 0 1000 W);have hk:G=true→∃s,KOk p.x.k s:=fun h=>pZ.1 (I.trans h);have u5:decide (800000000<p.x.k.last)= !L:=by rw[←O]; exact (by rw[←decide_not]; exact decide_eq_decide.2 (by omega))
 have m:=k'4 R T U hk;have k0:=A.cell 0;have k1:=A.cell 1;rw[RpV.c0]at k0;rw[RpV.c1]at k1;have l2:=A.loadOff (P:=prog) 2 5 p.k.cells rfl rfl;clear hR e1 N I O Q R T U hk A H h V S;go_enter func7,ntmps7;go_wp2_with fail;refine ms' (z0.o _) ?_;clear y1
 cases a1
 case' true=>
  go_wp2_with fail;refine ms' (d1.o _) ?_
  cases a2
  case' true=>
   go_wp2_with fail;refine mb' (g1.o) fun w3 X=>?_;have g:=kp (g.o.on X);have f:=kp X;have k2:=(i.o.grow f.o).cell 2;rw[RpV.c2]at k2;clear k0 k1 l2 X
   cases G
   case' true=>
    cases a4
    case' true=>
     have z:=(i.o.grow f.o).load (P:=prog) (k:=26) rfl;have HL:=kp (by obtain⟨s,hs⟩:=m.D rfl; exact Di p w3 B (Sl.below d.a.1 f.o d.b) hs.base d.C.k.2.1);go_wp2_with fail;refine mb' (HL.o) fun w4 Y=>?_;have g:=kp (g.o.on Y);have f:=kp (f.o.on Y);clear z k2 Y
     cases L
     case' true=>
      have y0:=(i.o.grow f.o).cell 17;rw[RpV.c17]at y0;go_wp2_with fail;refine ms' (j1.o _) ?_
      cases a6
      case' true=>
       have z:=(i.o.grow f.o).load (P:=prog) (k:=26) rfl;have q1:=kp (by obtain⟨s,hs⟩:=m.D rfl; have:=Yq p ps B w4 (d.a.below f.o d.b) (aB d.b f.o.size) d.C hs.base; rw[m.a]at this; exact this);go_wp2_with fail;refine mb' (q1.o) fun w5 Z=>?_;have g:=kp (g.o.on Z);have f:=kp (f.o.on Z);clear z y0 Z
       cases a7
       case' true=>
        have z:=(i.o.grow f.o).load (P:=prog) (k:=26) rfl;have l1:=kp (by have:=aC3 p w5 d.C.r.2.1; rw[m.b]at this; exact this);go_wp2_with fail;refine mb' (l1.o) fun w6 a0=>?_;have g:=kp (g.o.on a0);have f:=kp (f.o.on a0);clear z a0
        cases a8
        case' true=>
         have y6:=i.o.grow f.o;have l2:=y6.loadOff (P:=prog) 2 5 p.k.cells rfl rfl;have k7:=y6.cell 7;rw[RpV.c7]at k7;have p1:=kp (Zl p.k p.commit B w6 (Sl.below d.a.1 f.o d.b) (aB d.b f.o.size) d.C.k.2.1 d.C.k.1 (aB d.C.k.2.2 (by decide)) d.C.r.2.2.1);clear y6;go_wp2_with fail;refine (p1.o).mono ?_;rintro e w7 ⟨q,qs,c,rfl,q0,p0,m0,b0⟩;obtain⟨F,b2,s8,x8,cD,-⟩:=fB w7 32 z'2 q.cells rfl (StV.one m0.st);have g:=kp (g.o.on (b0.on cD));have f:=kp (f.o.on (b0.on cD));have E:=k'3 q0 p0 (m0.below cD);have HX:=kp x8;clear l2 k7 b0 cD q0 p0 m0 x8;go_wp2_with fail;clear s8 b2;have j:=m.c
         cases ho:iB p.k.x p.commit with
         |none=>
          rw[show iB p.x.k p.commit=none from ho]at j;obtain rfl:M=false:=by rw[←j]; rfl
          have u9:(c != 0)=true:=by simpa using E.b ho
          clear j ho;refine bJ (by kernel_rfl) (by kernel_rfl) ?_
          repeat (go_big_quiet_step (fail))
          refine bH ?_;rintro W9 ⟨⟨_,n⟩,rfl⟩;have g:=kp (g.o.on n);clear n;go_wp2_with fail;go_ret;exact⟨rfl,g.o⟩
         |some s=>
          rw[show iB p.x.k p.commit=some s from ho]at j;obtain⟨rfl,y⟩:=E.a s ho;have J:=Dn (k:=p.k.x) (fun e he=>(d.C.k.1 e he).2.2.2.2.2.2.2.2.2.1) ho;have l:decide (iP q.x=iP p.s.x)=M:=by rw[←j,Zr (y▸J.1) (y▸J.2) d.C.s.2.2.1,y]; exact decide_eq_decide.2 (by simp)
          obtain⟨t1,g0⟩:∃t,iP q.x=t:=⟨_,rfl⟩
          obtain⟨t2,j0⟩:∃t,iP p.s.x=t:=⟨_,rfl⟩
          rw[g0,j0,←yZ]at l;have HC:=kp l;clear j;have l8:=mC (P:=prog) HX.o (k:=9) rfl;have l4:∀r:Blw F,Sem.run prog (loadCellsFrom ⟨w.heap.size,8,none⟩ 0 9 #[]) r.w=.ok p.s.cells.toArray r.w:=fun r=>(i.o.grow (f.o.on r.h)).loadOff 8 9 p.s.cells rfl rfl;have d0:stB q.x=true:=y▸J.1;have e0:=SmO.ok E.C.st.1 (eC.1 (kA.1 d0).1);have d2:q.rows.length≤4:=by have:=rZ (kA.1 d0).2 (by omega); have e:q.x.rows=q.rows:=rfl; rw[e]at this; omega
          have m1:=kp (fun(r:Blw F)=>g0▸Ea q qs F.heap.size r.w (E.C.st.below r.h (aD _)) r.h.size (by have:=e0.obs; omega) (by have:=e0.free; omega) (by omega));have o1:=kp (fun(r:Blw F)=>j0▸Ea p.s ps B r.w (d.a.2.1.below (f.o.on r.h) d.b) (aB d.b (f.o.on r.h).size) (by have:=d.C.s.1.obs; omega) (by have:=d.C.s.1.free; omega) (by have:=d.C.s.2.1; omega));have u8:((0:Int) != 0)=false:=rfl;clear d0 e0 d2 J y g0 j0 ho l;refine bJ (by kernel_rfl) (by kernel_rfl) ?_
          repeat (go_big_quiet_step (first |(go_at_call 28; first |with_reducible refine bU (m1.o _)|with_reducible refine bU (o1.o _))))
          refine bH ?_;rintro W9 ⟨⟨_,n⟩,rfl⟩;have g:=kp (g.o.on n);clear n l8 l4;go_wp2_with fail
          all_goals
           rename_i o0;have l:=HC.o
           cases hbb:(t1.toList==t2.toList)
           all_goals
            rw[hbb]at o0 l
            first
            |exact absurd o0 (by decide)
            |subst l
             go_ret;exact⟨rfl,g.o⟩
 all_goals
  go_wp2_with fail;go_ret;exact⟨rfl,g.o⟩
end
section
attribute [-go_sem] loadCellsFrom storeCells
attribute [local go_sem] bC
end
section
attribute [-go_sem] loadCellsFrom storeCells
attribute [local go_sem] bC
end
end Go.Proofs.YthalbagblhkeaaaGreat
