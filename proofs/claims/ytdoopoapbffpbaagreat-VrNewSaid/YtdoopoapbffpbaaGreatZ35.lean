import Derived.Test.YtdoopoapbffpbaaGreatZ07
import Derived.Test.YtdoopoapbffpbaaGreatZ19
import Derived.Test.YtdoopoapbffpbaaGreatZ23
namespace Go.Proofs.YtdoopoapbffpbaaGreat
open Go.RowKit Go.Proofs.Tryz
set_option maxRecDepth 100000
set_option maxHeartbeats 12800000
set_option linter.unusedVariables false
set_option linter.unusedSimpArgs false
section
attribute [-go_sem] loadCellsFrom storeCells
attribute [local go_sem] bC
theorem Mf(c:Int):∀(l:List Rw)(k:Nat)(a:k<l.length),(l[k]).c=c→(∀y∈l.take k,decide (y.c=c)=false)→jB c l=l[k]:=by
 intro l k a h b
 induction l generalizing k with
 |nil=>simp at a
 |cons x l f=>
  cases k with
  |zero=>
   unfold jB;rw[List.find?_cons_of_pos (by simpa using h)];rfl
  |succ k=>
   have d:=b x (by simp);have:=f k (by simpa using a) (by simpa using h) fun y e=>b y (by simp[e]);unfold jB at this ⊢;rw[List.find?_cons_of_neg (by simpa using d)];simpa using this
theorem Mh(c:Int)(l:List Rw)(h:∀y∈l,decide (y.c=c)=false):jB c l=⟨0,0,0,0⟩:=by
 unfold jB;rw[List.find?_eq_none.2 fun y a=>by simpa using h y a];rfl
theorem StV.len(p:StV):p.cells.length=9:=rfl
theorem Yr(x:Rw)(c:Int)(b:Nat)(W:World)(d:Blk W b 3 [.i c]):
  Calls prog 194 #[.agg x.cells.toArray,.pointer (some ⟨b,0,none⟩)] W fun e g=>e=.returned (.bool (decide (x.c=c)))∧Bw' W g:=by
 have a:=ba' W (.cells x.cells.toArray 86);have h:=Blk.new W 86 x.cells;have j:=h.cell 0;change _=some (Value.i x.c)at j;have i:=(d.below a d.lt).cell 0;simp only[aG]at i;have k:(x.c==c)=decide (x.c=c):=rfl;have f:=kp a;go_enter func194,ntmps194;go_wp2_with fail;go_ret;exact⟨rfl,f.o⟩
def Mi(w:World)(c:Int)(rows:List Rw)(e:Ending)(w':World):Prop:=
 ∃b,e=.returned (.tuple #[.agg (jB c rows).cells.toArray,.bool b])∧Bw' w w'
theorem Ys(p:StV)(ps:List ObV)(c:Int)(B:Nat)(w:World)(h:fN w B p ps)(N:B≤w.heap.size)(Y:p.rows.length≤1000000):
  Calls prog 154 #[.agg p.cells.toArray,.i c] w (Mi w c p.rows):=by
 obtain⟨R,O⟩:=nm' (jB c p.rows);have z:=ba' w (.cells p.cells.toArray 32);have F:=Blk.new w 32 p.cells;obtain⟨f,S⟩:=nm' (w.alloc (.cells p.cells.toArray 32));rw[S]at z F;have C:=ba' f (.cells z'4a 86);have M:=Blk.new f 86 z'4;obtain⟨J,T⟩:=nm' (f.alloc (.cells z'4a 86));rw[T]at C M;have r:=kp (z.on C);have K:=kp (F.below C F.lt);have l:=kp M;obtain⟨A,cc,E,Z,U,hm⟩:=h.2;obtain⟨n,L⟩:=nm' p.rows.length;rw[L]at Y U E;have H:=k'4 (Z.below r.o N) L O E;have q8:=K.o.cell 8;rw[StV.c8,E]at q8;have G:=k'2 z.size (show w.heap.size<J.heap.size from K.o.lt);go_enter func154,ntmps154;go_wp2_with fail
 go_loopw [6] (fun i wr=>∃k:Nat,k≤n∧i=.i k∧(∀y∈p.rows.take k,decide (y.c=c)=false)∧wr=J) (fun i _=>n-(intOf i).toNat)
 case atStart=>exact⟨0,by omega,rfl,by simp,rfl⟩
 case round=>
  obtain⟨k,hk,rfl,W,rfl⟩:=hrel;have s:=kp W
  by_cases b0:k<n
  .have g3:(k:Int)<(n:Int):=by omega
   have m:k<p.rows.length:=by have:=H.b; omega
   obtain⟨b,d0,rfl,-,V,X⟩:=dB (P:=prog) 4 Rw.cells fJ (by omega) H.a k m;have q0:=V 0 _ rfl;have l0:=X 0;change Sem.run _ _ wr=.ok _ wr at l0;simp only[cF]at q0;have I:=k'2 (cV m) (Mf c p.rows k m);generalize p.rows[k]'m=x at *
   by_cases q:x.c=c
   .have a0:(x.c==c)=true:=by simpa using q
    have e:=kp ((I.B q s.o).symm.trans H.c);have Q:=l.o.store (P:=prog) (cs':=x.cells) rfl (jR x);have j:=k'2 (l.o.set x.cells) (cL r.o (g:=f.heap.size) G.a x.cells.toArray);go_wp2_with fail;have D:=j.a.load (P:=prog) (k:=4) rfl;exact aU (v:=.tuple #[.agg x.cells.toArray,.bool true]) (by simp[results,results154,go_sem,D]) rfl ⟨true,by rw[H.c,←e.o],j.B⟩
   .have a0:(x.c==c)=false:=by simpa using q
    have e:=kp q;go_wp2_with fail;go_roundw
    case rel=>
     refine⟨k+1,by omega,by go_num,fun y d=>?_,trivial⟩;rw[I.a]at d;rcases dF.1 d with d|d
     .exact s.o y d
     .rw[bQ.1 d]; simpa using e.o
    case measure=>simp[intOf]; omega
  .obtain rfl:k=n:=by omega
   have e:=kp (Mh c p.rows fun y d=>s.o y (by rw[cN (by have:=H.b; omega)]; exact d));have Q:=l.o.store (P:=prog) (cs':=z'4) rfl (jR ⟨0,0,0,0⟩);have j:=k'2 (l.o.set z'4) (cL r.o (g:=f.heap.size) G.a z'4a);go_wp2_with fail;have D:=j.a.load (P:=prog) (k:=4) rfl;exact aU (v:=.tuple #[.agg z'4a,.bool false]) (by simp[results,results154,go_sem,D]) rfl ⟨false,by rw[e.o]; rfl,j.B⟩
theorem Yt(c:Int)(l:List Rw):(∀y∈l,decide (y.c=c)=false)∨∃k,∃d:k<l.length,(l[k]).c=c∧∀y∈l.take k,decide (y.c=c)=false:=by
 induction l with
 |nil=>exact .inl fun y a=>by cases a
 |cons x l g=>
  by_cases b:x.c=c
  .exact .inr ⟨0,by simp,by simpa using b,fun y a=>by simp at a⟩
  .rcases g with h|⟨k,d,e,f⟩
   .refine .inl fun y a=>?_;rcases bA.1 a with rfl|a
    .simpa using b
    .exact h y a
   .refine .inr ⟨k+1,by simpa using d,by simpa using e,fun y a=>?_⟩;rw[qK]at a;rcases bA.1 a with rfl|a
    .simpa using b
    .exact f y a
theorem Yu(p:StV)(ps:List ObV)(c:Int)(B:Nat)(w:World)(h:fN w B p ps)(E:B≤w.heap.size)(U:p.rows.length≤1000000):
  Calls prog 139 #[.agg p.cells.toArray,.i c] w (Mi w c p.rows):=by
 have j0:∀(O:Fn)(first cap:Array Value)(w:World),(Instr.makeFunc O first cap).run prog w=.ok (.func O first cap) w:=fun _ _ _ _=>rfl;have z:=ba' w (.cells p.cells.toArray 32);have q:=Blk.new w 32 p.cells;obtain⟨j,Z⟩:=nm' (w.alloc (.cells p.cells.toArray 32));rw[Z]at z q;have f:=ba' j (.cells #[.i c] 3);have M:=Blk.new j 3 [.i c];obtain⟨l,a0⟩:=nm' (j.alloc (.cells #[.i c] 3));rw[a0]at f M;have C:=ba' l (.cells z'4a 86);have V:=Blk.new l 86 z'4;obtain⟨X,b0⟩:=nm' (l.alloc (.cells z'4a 86));rw[b0]at C V;have d:=k'2 ((z.on f).trans (C.mono (aB z.size f.size))) (aB z.size f.size);have J:=kp ((q.below f q.lt).below C (q.below f q.lt).lt);have N:=kp (M.below C M.lt);have y:=kp V;have i:=kp (xN.2.1 p.rv p.rows (fun r=>decide (r.c=c)) 194 #[.pointer (some ⟨j.heap.size,0,none⟩)] B X (h.2.below d.a E) (aB E d.a.size) U (enters_of func194 (by kernel_rfl) rfl) (fun W x _ hb=>Yr x c j.heap.size W (N.o.below hb N.o.lt)));obtain⟨A,cc,G,e0,hc,hm⟩:=h.2;obtain⟨n,T⟩:=nm' p.rows.length;rw[T]at U hc G;have H:=k'4 (e0.below d.a E) T G (aB E d.a.size);have q8:=J.o.cell 8;rw[StV.c8,G]at q8;rw[G]at i;go_enter func139,ntmps139;rcases Yt c p.rows with Q|⟨k,F,R,S⟩
 .rw[vB _ _ Q]at i;have I:=kp (Mh c p.rows Q);go_wp2_with fail;refine mb' (i.o) fun L e=>?_;have s:=y.o.below e y.o.lt;have Y:=s.store (P:=prog) (cs':=z'4) rfl (jR ⟨0,0,0,0⟩);have m:=k'2 (s.set z'4) (cL (d.a.on e) (g:=l.heap.size) d.B z'4a);go_wp2_with fail;have K:=m.a.load (P:=prog) (k:=4) rfl;exact aU (v:=.tuple #[.agg z'4a,.bool false]) (by simp[results,results139,go_sem,K]) rfl ⟨false,by rw[I.o]; rfl,m.B⟩
 .rw[rF _ _ k F (by simpa using R) S]at i;have I:=kp (Mf c p.rows k F R S);have g3:(k:Int)<(n:Int):=by have:=H.b; omega
  go_wp2_with fail;refine mb' (i.o) fun L e=>?_;have q9:=(J.o.below e J.o.lt).cell 8;rw[StV.c8,H.c]at q9;obtain⟨b,m0,rfl,-,g0,d0⟩:=dB (P:=prog) 4 Rw.cells fJ (by omega) (H.a.below e H.D) k F;have l0:=d0 0;change Sem.run _ _ L=.ok _ L at l0;generalize p.rows[k]'F=x at *;have s:=y.o.below e y.o.lt;have Y:=s.store (P:=prog) (cs':=x.cells) rfl (jR x);have m:=k'2 (s.set x.cells) (cL (d.a.on e) (g:=l.heap.size) d.B x.cells.toArray);go_wp2_with fail;have K:=m.a.load (P:=prog) (k:=4) rfl;exact aU (v:=.tuple #[.agg x.cells.toArray,.bool true]) (by simp[results,results139,go_sem,K]) rfl ⟨true,by rw[I.o],m.B⟩
end
section
def lO(x:Rw)(c:Int)(r:Rw):Bool:=decide (r.c=c)&& !decide (c=x.c)
theorem Yv(x:Rw)(l:List Rw)(n:Nat)(c:Int):jJ x l (n+1) c=(l.filter (lO x c)++if c=x.c then [x] else [])++jJ x l n (c+1):=rfl
theorem Yw(v:Value)(l:List Rw)(x:Rw)(B:Nat)(w:World)(h:Sl w B v Rw.cells l)(hB:B≤w.heap.size)(hn:l.length≤1000):
  Calls prog 156 #[v,.agg x.cells.toArray] w fun e w'=>∃v',e=.returned v'∧Ow w' w.heap.size 86 4 v' Rw.cells (jJ x l 4 1)∧Bw' w w':=by
 obtain⟨A,c0,rfl,hr,hc,hm⟩:=h;obtain⟨n,hl⟩:=nm' l.length;rw[hl]at hc hn ⊢;obtain⟨R,hR⟩:=nm' (jJ x l 4 1);rw[hR];have V:=ba' w (.cells #[.i x.c,.i x.s,.i x.k,.i x.v] 86);have HK:=kp (Blk.new w 86 [.i x.c,.i x.s,.i x.k,.i x.v]);have p0:=kp (hr.below V hB);have HB:=kp V;have l0:=kp (aB hB V.size);have Z:=k'2 hl hn;have HR:=kp hR;clear hr hl hc hm V hB hR;show Calls _ _ #[_,.agg #[.i x.c,.i x.s,.i x.k,.i x.v]] _ _;go_enter func156,ntmps156;go_wp2_with fail;generalize w.alloc (.cells #[.i x.c,.i x.s,.i x.k,.i x.v] 86)=W at *
 go_loopw [5,6] (fun v c wr=>∃(j:Nat)(y:List Rw),j≤4∧c=.i ((j+1:Nat):Int)∧Ow wr W.heap.size 86 4 v Rw.cells y∧Bw' W wr∧y.length≤j*1001∧y++jJ x l (4-j) ((j+1:Nat):Int)=R) (fun _ c _=>5-(intOf c).toNat)
 case atStart=>exact⟨0,[],by omega,rfl,Ow.nil _ _ _ _ _,aL _ _,by simp,HR.o⟩
 case round=>
  obtain⟨j,y,hj,rfl,S,I,g0,j0⟩:=hrel;have p:=k'4 S I g0 j0;clear S I g0 j0;obtain⟨d,X⟩:∃d:Int,((j+1:Nat):Int)=d:=⟨_,rfl⟩
  rw[X]at p ⊢;have K:=kp X
  by_cases a1:j<4
  .have g3:decide (d≤4)=true:=by simp; omega
   clear X;go_wp2_with fail
   go_loopw [5,7] (fun v i w2=>∃k:Nat,k≤n∧i=.i k∧Ow w2 W.heap.size 86 4 v Rw.cells (y++(l.take k).filter (lO x d))∧Bw' W w2) (fun _ i _=>n-(intOf i).toNat)
   case atStart=>exact⟨0,by omega,rfl,p.a.eqv (by simp),p.b⟩
   case round=>
    obtain⟨k,hk,rfl,S,I⟩:=hrel;have G:=kp S;have m:=kp I;have Q:=HK.o.below I HK.o.lt;have y0:=Q.cell 0;have y1:=Q.cell 1;have y2:=Q.cell 2;have y3:=Q.cell 3;simp only[aG,aK]at y0 y1 y2 y3;clear S I Q
    by_cases z0:k<n
    .have g4:(k:Int)<(n:Int):=by omega
     have b0:k<l.length:=by have:=Z.a; omega
     obtain⟨b,b1,hA,_,O,_⟩:=bV (P:=prog) 4 fJ (by omega) (p0.o.below m.o l0.o) k b0;subst hA;have x0:=O 0 _ rfl;have x1:=O 1 _ rfl;have x2:=O 2 _ rfl;have x3:=O 3 _ rfl;simp only[cF]at x0;have HT:=kp (cV b0);have d0:=kp (show (y++(l.take k).filter (lO x d)).length≤1000000 by
      have f:=nB (lO x d) (l.take k);have z:=p.c;have h3:j*1001≤4*1001:=dV _ (by omega);rw[bB]; rw[cZ]at f; omega)
     generalize l[k]'b0=r at *;clear O;have q0:(r.c==d)=false∨((r.c==d)=true∧(d != x.c)=false)∨((r.c==d)=true∧(d != x.c)=true):=by
      cases (r.c==d)<;>cases (d != x.c)<;>simp
     rcases q0 with f|⟨f,z⟩|⟨f,z⟩
     .have L:=kp (show lO x d r=false by unfold lO; simp at f; simp[f]);go_wp2_with fail;go_roundw
      case rel=>exact⟨k+1,by omega,by go_num,G.o.eqv (by rw[HT.o,oZ,nA (by rw[L.o]; decide)]; simp),m.o⟩
      case measure=>simp[intOf]; omega
     .have L:=kp (show lO x d r=false by unfold lO; simp at z; simp[z]);go_wp2_with fail;go_roundw
      case rel=>exact⟨k+1,by omega,by go_num,G.o.eqv (by rw[HT.o,oZ,nA (by rw[L.o]; decide)]; simp),m.o⟩
      case measure=>simp[intOf]; omega
     .have L:=kp (show lO x d r=true by unfold lO; simp at f z; simp[f,z]);have F:Sl (wr.alloc (.cells #[.i r.c,.i r.s,.i r.k,.i r.v] 86)) (wr.heap.size+1) (.slice (some ⟨wr.heap.size,0,none⟩) 1 1) Rw.cells [r]:=eQ (enc:=Rw.cells) wr 86 r;have C:=G.o.alloc (.cells #[.i r.c,.i r.s,.i r.k,.i r.v] 86);have q:=ba' wr (.cells #[.i r.c,.i r.s,.i r.k,.i r.v] 86);obtain⟨M,N⟩:=nm' (wr.alloc (.cells #[.i r.c,.i r.s,.i r.k,.i r.v] 86));rw[N]at F C q;have g:=k'4 F C q (show W.heap.size≤M.heap.size from aB (m.o.size) q.size);clear F C q;go_wp2_with (at_builtin; refine eU (enc:=Rw.cells) M rfl (.tmp 31) (.tmp 36) 30 rfl (W.heap.size) 86 rE kO rfl (by omega) fJ g.b rfl g.a rfl (fun a _=>jR a) ?_ ?_ g.D ?_)
      .have:=d0.o; rw[bB]at this; unfold maxLen; (try simp); omega
      .have:=d0.o; rw[bB]at this; (try simp); omega
      intro v3 w3 T E;have Y:=kp ((g.c.mono (m.o.size)).trans (g.b.grew E g.D));have a0:=kp T;have o0:=kp E;clear T E N;go_wp2_with fail;go_roundw
      case rel=>exact⟨k+1,by omega,by go_num,a0.o.eqv (by rw[HT.o,oZ,oA (by rw[L.o])]; simp),m.o.trans Y.o⟩
      case measure=>simp[intOf]; omega
    .obtain rfl:k=n:=by omega
     have m0:=kp (show l.take k=l from cN (by have:=Z.a; omega));rw[m0.o]at G;have H:wrap64 (d+1)=((j+1+1:Nat):Int):=by have:=K.o; unfold wrap64; omega
     have e0:=kp (show y++((l.filter (lO x d)++if d=x.c then [x] else [])++jJ x l (4-(j+1)) ((j+1+1:Nat):Int))=R by
      have f:=p.D;rw[show 4-j=(4-(j+1))+1 by omega,Yv,show d+1=((j+1+1:Nat):Int) by have:=K.o; omega]at f;exact f)
     have U:=kp (show (y++l.filter (lO x d)).length≤j*1001+1000 by
      have f:=nB (lO x d) l;have z:=p.c;have:=Z.o;rw[bB]; omega)
     by_cases J:d=x.c
     .have e1:(d==x.c)=true:=by simp[J]
      have HX:=kp J;clear J H;have F:Sl (wr.alloc (.cells #[.i x.c,.i x.s,.i x.k,.i x.v] 86)) (wr.heap.size+1) (.slice (some ⟨wr.heap.size,0,none⟩) 1 1) Rw.cells [x]:=eQ (enc:=Rw.cells) wr 86 x;have C:=G.o.alloc (.cells #[.i x.c,.i x.s,.i x.k,.i x.v] 86);have q:=ba' wr (.cells #[.i x.c,.i x.s,.i x.k,.i x.v] 86);obtain⟨M,N⟩:=nm' (wr.alloc (.cells #[.i x.c,.i x.s,.i x.k,.i x.v] 86));rw[N]at F C q;have g:=k'4 F C q (show W.heap.size≤M.heap.size from aB (m.o.size) q.size);clear F C q;go_wp2_with (at_builtin; refine eU (enc:=Rw.cells) M rfl (.tmp 42) (.tmp 44) 30 rfl (W.heap.size) 86 rE kO rfl (by omega) fJ g.b rfl g.a rfl (fun a _=>jR a) ?_ ?_ g.D ?_)
      .have:=U.o; rw[bB]at this; unfold maxLen; (try simp); omega
      .have:=U.o; rw[bB]at this; (try simp); omega
      intro v3 w3 T E;have Y:=kp ((g.c.mono (m.o.size)).trans (g.b.grew E g.D));have a0:=kp T;have o0:=kp E;clear T E N;have H:wrap64 (d+1)=((j+1+1:Nat):Int):=by have:=K.o; unfold wrap64; omega
      go_wp2_with fail;go_roundw
      case rel=>
       refine⟨j+1,_,by omega,by rw[H],a0.o,m.o.trans Y.o,?_,?_⟩
       .have:=U.o; rw[bB]at this; simp; omega
       .have f:=e0.o;rw[aE HX.o]at f;simpa using f
      case measure=>simp only[intOf,H]; have:=K.o; omega
     .have e1:(d==x.c)=false:=by simp[J]
      have HX:=kp J;clear J;go_wp2_with fail;go_roundw
      case rel=>
       refine⟨j+1,_,by omega,by rw[H],G.o,m.o,?_,?_⟩
       .have:=U.o; omega
       .have f:=e0.o;rw[aC HX.o]at f;simpa using f
      case measure=>simp only[intOf,H]; have:=K.o; omega
  .obtain rfl:j=4:=by omega
   have g3:decide (d≤4)=false:=by simp; omega
   clear X;go_wp2_with fail;go_ret;refine⟨_,rfl,(p.a.eqv (by have:=p.D; rw[←this]; simp[jJ])).mono HB.o.size,HB.o.on p.b⟩
end
section
attribute [-go_sem] loadCellsFrom storeCells
attribute [local go_sem] bC
def mF:List Value:=z'2
structure Ws(w:World)(base:Nat)(p:StV)(ps:List ObV):Prop where
 h:Wv w base p.p ps
 rows:OR w (fun i=>base≤i) 86 4 p.rv Rw.cells p.rows
structure DoF(w W:World)(g0 g1 gs gr:Nat)(cs:List Value)(x:En):Prop where
 st:Blk W g0 32 cs
 e:Blk W g1 46 x.cells
 s:Blk W gs 32 mF
 r:bZ W gr 0 0
 ne:g0≠gs
 lo:w.heap.size≤g0∧w.heap.size≤gs∧w.heap.size≤gr
 b:Bw' w W
section
variable {w w' W W':World}{base base2 g0 g1 gs gr b:Nat}{cs cs':List Value}{x:En}{p p':StV}{ps ps':List ObV}{t:TypeId}
theorem Ws.st(h:Ws w base p ps):fN w w.heap.size p ps:=⟨h.h.hpAt,h.rows.sl⟩
theorem Ws.below(h:Ws w base p ps)(a:Bw' w w'):Ws w' base p ps:=⟨h.h.below a,h.rows.below a⟩
theorem Ws.mono(h:Ws w base p ps)(a:base2≤base):Ws w base2 p ps:=⟨h.h.mono a,aO.mono h.rows fun _ _ h=>aB a h⟩
theorem Ws.chg(h:Ws w base p ps)(a:Blk w b t cs)(c:Chg (fun i=>i=b) w w')(d:t≠90)(f:t≠88)(g:t≠3)(j:t≠86):Ws w' base p ps:=
 ⟨h.h.chg a c d f g,aO.chg h.rows c fun _ k e=>aO.not_blk h.rows a j (e▸k)⟩
theorem Sv.ws(h:Sv w base p ps):Ws w base p ps:=⟨h.h.wv,OR.of_ow h.rows fun _ h _=>h⟩
theorem DoF.below(h:DoF w W g0 g1 gs gr cs x)(a:Bw' W W'):DoF w W' g0 g1 gs gr cs x:=
 ⟨h.st.below a h.st.lt,h.e.below a h.e.lt,h.s.below a h.s.lt,h.r.below a,h.ne,h.lo,h.b.on a⟩
theorem DoF.drew(h:DoF w W g0 g1 gs gr cs x):DoF w W.drew g0 g1 gs gr cs x:=h.below (bR (aL _ _))
theorem DoF.put(h:DoF w W g0 g1 gs gr cs x)(cs':List Value):DoF w (W.setRow g0 cs'.toArray) g0 g1 gs gr cs' x:=
 ⟨h.st.set cs',h.e.other (h.e.ne h.st (by decide)) _,h.s.other (bL h.ne) _,Blk.other h.r (Blk.ne h.r h.st (by decide)) _,h.ne,h.lo,cL h.b h.lo.1 _⟩
theorem DoF.of(w:World)(cs:List Value)(x:En):∃a b c i,w.alloc (.cells cs.toArray 32)=a∧a.alloc (.cells x.cells.toArray 46)=b∧
  b.alloc (.cells z'2a 32)=c∧c.alloc (.cells #[.i 0,.i 0] 53)=i∧DoF w i w.heap.size a.heap.size b.heap.size c.heap.size cs x:=by
 refine⟨_,_,_,_,rfl,rfl,rfl,rfl,?_⟩;generalize l:w.alloc (.cells cs.toArray 32)=a;generalize m:a.alloc (.cells x.cells.toArray 46)=b;generalize n:b.alloc (.cells z'2a 32)=c;have e:Blk a w.heap.size 32 cs:=l▸Blk.new w _ cs;have j:Blk b a.heap.size 46 x.cells:=m▸Blk.new a _ x.cells;have k:Blk c b.heap.size 32 mF:=n▸Blk.new b _ mF;have f:Bw' w a:=l▸ba' w _;have d:Bw' a b:=m▸ba' a _;have g:Bw' b c:=n▸ba' b _;have h:=ba' c (.cells #[.i 0,.i 0] 53);have c0:=(e.below d e.lt).below g (e.below d e.lt).lt;have c1:=j.below g j.lt;exact⟨c0.below h c0.lt,c1.below h c1.lt,k.below h k.lt,bZ.new c,by have:=e.lt; have:=d.size; omega,⟨aD _,aB f.size d.size,aB (aB f.size d.size) g.size⟩,
  ((f.on d).trans (g.mono (aB f.size d.size))).trans (h.mono (aB (aB f.size d.size) g.size))⟩
theorem DoF.fin(h:DoF w W g0 g1 gs gr cs x)(j:Ws W w.heap.size p ps)(c d:Int):
  ∃e a,e=W.setRow gs p.cells.toArray∧Sem.run prog (storeCells ⟨gs,0,none⟩ p.cells 0) W=.ok () e∧Sem.run prog (storeCells ⟨gr,0,none⟩ [.i c,.i d] 0) e=.ok () a∧
   Sem.run prog (loadCellsFrom ⟨gs,0,none⟩ 0 9 #[]) a=.ok p.cells.toArray a∧Sem.run prog (loadCellsFrom ⟨gr,0,none⟩ 0 2 #[]) a=.ok #[.i c,.i d] a∧Ws a w.heap.size p ps∧Bw' w a:=by
 have m:=(Chg.refl (fun i=>i=gs) W).setRow (.inr rfl) p.cells.toArray;have l:=j.chg h.s m (by decide) (by decide) (by decide) (by decide);have f:bZ (W.setRow gs p.cells.toArray) gr 0 0:=Blk.other h.r (Blk.ne h.r h.s (by decide)) _;have k:=h.s.set p.cells;have cD:=cL h.b h.lo.2.1 p.cells.toArray;have n:=h.s.store (P:=prog) (cs':=p.cells) rfl (StV.one j.st);generalize W.setRow gs p.cells.toArray=e at *;have g:=(Chg.refl (fun i=>i=gr) e).setRow (.inr rfl) #[.i c,.i d];exact⟨e,_,rfl,n,f.store c d,(k.chg g (k.ne f (by decide))).load rfl,(f.set c d).load,l.chg f g (by decide) (by decide) (by decide) (by decide),cL cD h.lo.2.2 _⟩
end
theorem SmO.ok{w:World}{B:Nat}{p:HpV}{ps:List ObV}(h:gH w B p ps)(H:HOk p.x):SmO p ps:=SmO.of h ⟨by have:=H.len; omega,by have:=H.len; omega,fun x a=>by have:=H.lens a; omega⟩
theorem rZ:∀{l:List Rw}{a:Int},eP a l=true→a≤4→(l.length:Int)≤4-a
 |[],_,_,h=>by simp; omega
 |r::l,a,h,_=>by
  obtain⟨d,b,_,_,c⟩:=jI.1 h;have:=rZ c b;simp only[eV]; omega
def Mj(w:World)(R:St×Int×Int)(e:Ending)(w':World):Prop:=
 ∃p ps,e=.returned (.tuple #[.agg p.cells.toArray,.agg #[.i R.2.1,.i R.2.2]])∧p.x=R.1∧Ws w' w.heap.size p ps∧Bw' w w'
theorem Yx(q:HpV)(A:Option Addr)(n c:Nat)(w:World):(Instr.build 32 #[(0,.agg q.cells.toArray),(1,.slice A n c)]).run prog w=.ok (.agg (StV.cells ⟨q,[],.slice A n c⟩).toArray) w:=run_build w _ _ _ (by kernel_rfl)
theorem Yy(w:World):(Instr.build 53 #[]).run prog w=.ok (.agg #[.i 0,.i 0]) w:=run_build w _ _ _ (by kernel_rfl)
theorem Yz(c:Int)(w:World):(Instr.build 53 #[(0,.i c)]).run prog w=.ok (.agg #[.i c,.i 0]) w:=run_build w _ _ _ (by kernel_rfl)
theorem Za(a b c d:Int)(w:World):(Instr.build 86 #[(0,.i a),(1,.i b),(2,.agg #[.i c,.i d])]).run prog w=.ok (.agg #[.i a,.i b,.i c,.i d]) w:=run_build w _ _ _ (by kernel_rfl)
theorem Zb(w:World):(Instr.build 86 #[]).run prog w=.ok (.agg z'4a) w:=run_build w _ _ _ (by kernel_rfl)
theorem Zc(w:World):(Instr.build 32 #[]).run prog w=.ok (.agg mF.toArray) w:=run_build w _ _ _ (by kernel_rfl)
theorem Zd(w:World):(Instr.build 44 #[]).run prog w=.ok (.agg #[.i 0,.i 0,.i 0,.i 0,.i 0,.i 0,.i 0]) w:=run_build w _ _ _ (by kernel_rfl)
attribute [-go_sem] Instr.build Instr.fill
attribute [go_sem] Yx Yy Yz Za Zb Zc Zd
structure DnC(Wa:World)(gs:Nat)(q:HpV)(l:List Rw)(X:Nat→Option Value)(W:World):Prop where
 pre:X 9=none→X 12=none→W=Wa
 post:∀v,X 9=some v→X 12=none→Ow W Wa.heap.size 86 4 v Rw.cells l∧Bw' Wa W
 b10:∀z,X 10=some z→∃v,X 9=some v∧z=.agg (StV.cells ⟨q,l,v⟩).toArray
 fin:∀u,X 12=some u→∃v W0,X 10=some (.agg (StV.cells ⟨q,l,v⟩).toArray)∧Ow W0 Wa.heap.size 86 4 v Rw.cells l∧Bw' Wa W0∧W=W0.setRow gs (StV.cells ⟨q,l,v⟩).toArray
section
variable {Wa W W':World}{gs g:Nat}{q:HpV}{l:List Rw}{X:Nat→Option Value}{t:TypeId}{cs:List Value}
theorem DnC.blk(h:DnC Wa gs q l X W)(a:Blk Wa g t cs)(c:g≠gs):Blk W g t cs:=by
 cases h2:X 12 with
 |some u=>
  obtain⟨v,d,-,-,b,rfl⟩:=h.fin u h2;exact (a.below b a.lt).other c _
 |none=>
  cases h1:X 9 with
  |none=>rw[h.pre h1 h2]; exact a
  |some v=>exact a.below (h.post v h1 h2).2 a.lt
theorem DnC.other{j:Nat}{u:Value}(h:DnC Wa gs q l X W)(d:j≠9)(e:j≠10)(f:j≠12):DnC Wa gs q l (bD X j u) W:=by
 have b:bD X j u 9=X 9:=aR (bL d);have c:bD X j u 10=X 10:=aR (bL e);have a:bD X j u 12=X 12:=aR (bL f);exact⟨by rw[b,a]; exact h.pre,by rw[b,a]; exact h.post,by rw[b,c]; exact h.b10,by rw[c,a]; exact h.fin⟩
theorem DnC.no10(h:DnC Wa gs q l X W)(a:X 10=none):X 12=none:=by
 cases h2:X 12 with
 |none=>rfl
 |some u=>obtain⟨v,b,e,-⟩:=h.fin u h2; rw[a]at e; cases e
theorem DnC.no9(h:DnC Wa gs q l X W)(a:X 9=none):X 10=none:=by
 cases h2:X 10 with
 |none=>rfl
 |some u=>obtain⟨v,e,-⟩:=h.b10 u h2; rw[a]at e; cases e
theorem DnC.build{v:Value}(h:DnC Wa gs q l X W)(g:X 9=some v):DnC Wa gs q l (bD X 10 (.agg (StV.cells ⟨q,l,v⟩).toArray)) W:=by
 have b:bD X 10 (.agg (StV.cells ⟨q,l,v⟩).toArray) 9=X 9:=aR (by decide);have c:bD X 10 (.agg (StV.cells ⟨q,l,v⟩).toArray) 10=some (.agg (StV.cells ⟨q,l,v⟩).toArray):=by simp[bD]
 have a:bD X 10 (.agg (StV.cells ⟨q,l,v⟩).toArray) 12=X 12:=aR (by decide);refine⟨by rw[b,a]; exact h.pre,by rw[b,a]; exact h.post,fun z i=>?_,fun u f=>?_⟩
 .rw[c]at i; cases i; exact⟨v,by rw[b]; exact g,rfl⟩
 .rw[a]at f;obtain⟨v',j,e,m,n,o⟩:=h.fin u f;obtain⟨x,d,k⟩:=h.b10 _ e;rw[g]at d
  cases d;exact⟨v,j,c,by
   have:v'=v:=by
    have s:(StV.cells ⟨q,l,v'⟩).toArray=(StV.cells ⟨q,l,v⟩).toArray:=by injection k
    have r:StV.cells ⟨q,l,v'⟩=StV.cells ⟨q,l,v⟩:=by simpa using s
    have p:=List.append_cancel_left r;simpa using p
   subst this;exact⟨m,n,o⟩⟩
theorem DnC.store{v u:Value}(h:DnC Wa gs q l X W)(e:X 10=some (.agg (StV.cells ⟨q,l,v⟩).toArray))(c:Ow W Wa.heap.size 86 4 v Rw.cells l∧Bw' Wa W):DnC Wa gs q l (bD X 12 u) (W.setRow gs (StV.cells ⟨q,l,v⟩).toArray):=by
 have d:bD X 12 u 9=X 9:=aR (by decide);have a:bD X 12 u 10=X 10:=aR (by decide);have b:bD X 12 u 12=some u:=by simp[bD]
 refine⟨fun _ h=>(by rw[b]at h; cases h),fun _ _ h=>(by rw[b]at h; cases h),by rw[d,a]; exact h.b10,fun _ _=>⟨v,W,by rw[a]; exact e,c.1,c.2,rfl⟩⟩
theorem DnC.call{v:Value}(i:X 12=none)(j:X 10=none)(g:Ow W' Wa.heap.size 86 4 v Rw.cells l)(f:Bw' Wa W'):DnC Wa gs q l (bD X 9 v) W':=by
 have b:bD X 9 v 9=some v:=by simp[bD]
 have d:bD X 9 v 10=X 10:=aR (by decide);have e:bD X 9 v 12=X 12:=aR (by decide);refine⟨fun h=>(by rw[b]at h; cases h),fun u a _=>?_,fun z c=>?_,fun u a=>?_⟩
 .rw[b]at a; cases a; exact⟨g,f⟩
 .rw[d,j]at c; cases c
 .rw[e,i]at a; cases a
end
theorem Ze(p:StV)(ps:List ObV)(x:En)(B:Nat)(w:World)(h:fN w B p ps)(hB:B≤w.heap.size)(H:stB p.x=true)(V:fY x=true):
  Calls prog 101 #[.agg p.cells.toArray,.agg x.cells.toArray] w (Mj w (jC p.x x)):=by
 obtain⟨R,l⟩:=nm' (jC p.x x);rw[l];obtain⟨hh,q1⟩:=kA.1 H;have HH:=eC.1 hh;have b3:p.rows.length≤4:=by have:=rZ q1 (by omega); have e:p.x.rows=p.rows:=rfl; rw[e]at this; omega
 obtain⟨W1,W2,W3,W4,y3,z3,a4,d4,hd⟩:=DoF.of w p.cells x;have m3:=kp (Kr p ps B W4 (h.below hd.b hB) (aB hB hd.b.size) (SmO.ok h.1 HH) (by omega));have HD:=kp hd;have HR:=k'4 l HH q1 b3;have HM:=kp V;have l0:=hd.st.load (P:=prog) (k:=9) rfl;clear h hB hd l b3 q1 HH hh H V;go_enter func101,ntmps101;go_wp2_with fail;refine (m3.o).mono ?_;rintro e w5 ⟨m,g0,rfl,a1,z1,p2⟩;have p0:=HD.o.below p2;have z0:=p0.st.store (P:=prog) (cs':=m.cells) rfl (StV.one z1.st);have a2:=(z1.mono (base2:=w.heap.size) HD.o.b.size).chg p0.st ((Chg.refl (fun i=>i=w.heap.size) w5).setRow (.inr rfl) m.cells.toArray) (by decide) (by decide) (by decide) (by decide);have j0:=kp (p0.put m.cells);obtain⟨W6,o2⟩:=nm' (w5.setRow w.heap.size m.cells.toArray);rw[o2]at z0 a2 j0;have q2:m.p.x=p.p.x:=bG St.h a1;have d3:m.rows=p.rows:=bG St.rows a1;have b2:=kp a2;have O:=k'3 a1 q2 d3;clear p0 p2 z1 o2 l0 a2 a1 q2 d3;have l1:=j0.o.st.load (P:=prog) (k:=9) rfl;have e2:=j0.o.e.cell 2;change _=some (Value.i x.c)at e2;go_wp2_with fail;refine (Ys m g0 x.c W6.heap.size W6 b2.o.st (aD _) (by rw[O.C]; have:=HR.D; omega)).mono ?_;rintro e Y ⟨bb,rfl,j1⟩;rw[O.C];obtain⟨f,hf⟩:=nm' (jB x.c p.rows);rw[hf];have HF:=kp hf;clear hf l1 e2 z0;have nz:=Blk.new Y 86 z'4;have j3:=nz.store (P:=prog) (cs':=f.cells) rfl (by intro u hu; simp[Rw.cells]at hu; rcases hu with rfl|rfl|rfl|rfl<;>rfl);have nb:=nz.set f.cells;have n:=j1.trans (cL (ba' Y (.cells z'4a 86)) (aD _) f.cells.toArray|>.mono j1.size);obtain⟨W8,g1⟩:=nm' ((Y.alloc (.cells z'4a 86)).setRow Y.heap.size f.cells.toArray);rw[g1]at nb n;rw[show (Y.alloc (.cells z'4.toArray 86)).setRow Y.heap.size f.cells.toArray=W8 from g1]at j3;have F:=kp (j0.o.below n);have d0:=kp (b2.o.below n);have d1:=kp nb;clear nb nz n g1 j1;have e2:=F.o.e.cell 2;have e3:=F.o.e.cell 3;change _=some (Value.i x.c)at e2;change _=some (Value.i x.s)at e3;have f1:=d1.o.cell 1;change _=some (Value.i f.s)at f1;have l:=HR.a;unfold jC at l;rw[show p.x.rows=p.rows from rfl,HF.o]at l
 by_cases hc:x.c=0
 .have c0:(x.c==0)=true:=by simp[hc]
  rw[aE hc]at l;have G:=kp l;clear l hc;have l8:=F.o.st.load (P:=prog) (k:=9) rfl;obtain⟨V8,V9,-,y0,y1,a0,b0,M,J⟩:=F.o.fin d0.o.ws 0 0;have r:=k'2 M J;clear M J;go_wp2_with fail;exact aU (v:=.tuple #[.agg m.cells.toArray,.agg #[.i 0,.i 0]]) (by simp[results,Fj,go_sem,a0,b0]) rfl ⟨m,g0,by rw[←G.o],by rw[←G.o]; exact O.a,r.a,r.B⟩
 have c0:(x.c==0)=false:=by simp[hc]
 rw[aC hc]at l;have HC:=kp hc;clear hc
 by_cases hs:x.s<f.s
 .have c1:decide (x.s<f.s)=true:=by simp[hs]
  rw[aE hs]at l;have G:=kp l;clear l hs;have l8:=F.o.st.load (P:=prog) (k:=9) rfl;obtain⟨V8,V9,-,y0,y1,a0,b0,M,J⟩:=F.o.fin d0.o.ws 130 0;have r:=k'2 M J;clear M J;go_wp2_with fail;exact aU (v:=.tuple #[.agg m.cells.toArray,.agg #[.i 130,.i 0]]) (by simp[results,Fj,go_sem,a0,b0]) rfl ⟨m,g0,by rw[←G.o],by rw[←G.o]; exact O.a,r.a,r.B⟩
 have c1:decide (x.s<f.s)=false:=by simp; omega
 rw[aC hs]at l;clear hs
 by_cases K:f.s=x.s
 .have c2:(f.s==x.s)=true:=by simp[K]
  rw[aE K]at l;have G:=kp l;clear l K;go_wp2_with fail;have hD:=F.o.drew;obtain⟨V8,V9,e0,y0,y1,a0,b0,M,J⟩:=hD.fin (d0.o.ws.below (bR (aL _ _))) f.k f.v;have m0:=kp hD;have r:=k'3 M J e0;have e1:=kp (show Blk W8.drew Y.heap.size 86 f.cells from d1.o.below (bR (aL _ _)) d1.o.lt);clear M J hD e2 e3 f1 c0 c1 c2 e0;refine fR 4 (Two 3 W8.drew V8) (fun _=>fK) (by kernel_rfl) (by kernel_rfl) (Two.start _ _ _) ?_
  iterate 3 (refine bO ?_; apply Exists.intro)
  refine bS eM ?_;refine dR ⟨?pers,?walk⟩
  case walk=>
   iterate 3
    apply Ug (by kernel_rfl) (by intro t w h; cases h; exact trivial) rfl
    .intro X W' g I hw U N;have hn:=g.all (P:=fun W=>Blk W Y.heap.size 86 f.cells) e1.o (by rw[r.C]; exact Blk.other e1.o (e1.o.ne m0.o.s (by decide)) _);have hg:=g.all (P:=fun W=>Blk W w.heap.size 32 m.cells) m0.o.st (by rw[r.C]; exact Blk.other m0.o.st m0.o.ne _);have l0:=hg.load (P:=prog) (k:=9) rfl;have l1:=hn.loadOff (P:=prog) 2 2 [.i f.k,.i f.v] rfl rfl;clear hg hn;go_wp2_with fail;exact⟨rfl,_,rfl,g.other (by decide),aV,rfl⟩
    simp only[Act.put,aN,aH,aI,aT,aW]
   refine⟨fun X W' g I hw U N=>?_,fun u5=>?_⟩
   .obtain rfl:=g.1 I;go_wp2_with fail;exact⟨rfl,undef,rfl,Two.at_,aV,trivial⟩
   simp only[Act.put,aT,aW];intro W9 g N;clear N;obtain rfl:=g.2 rfl;simp only[dO,dP];go_wp2_with fail;exact aU (v:=.tuple #[.agg m.cells.toArray,.agg #[.i f.k,.i f.v]]) (by simp[results,Fj,go_sem,a0,b0]) rfl ⟨m,g0,by rw[←G.o],by rw[←G.o]; exact O.a,r.a,r.b⟩
  case pers=>exact⟨pv',pv',pv',fun _ _ _ _ _ h _=>h,trivial⟩
 have c2:(f.s==x.s)=false:=by simp[K]
 rw[aC K]at l;have G:=kp l;have q3:=k'2 K HF.o;clear l K;have l4:=F.o.st.loadOff (P:=prog) 0 8 m.p.cells rfl rfl;have l5:=F.o.e.loadOff (P:=prog) 4 7 x.op.cells rfl rfl;go_wp2_with fail;refine (Vf m.p g0 x.op W8.heap.size W8 d0.o.ws.h.hpAt (aD _) (by rw[O.b]; exact HR.b)).mono ?_;rintro e Q ⟨q,qs,rfl,a3,z2,m1⟩;obtain⟨cd,o1⟩:=nm' ((dU m.p.x x.op).2);rw[o1];obtain⟨y,z⟩:=cd;have Z:=k'5 a3 z2 o1 (F.o.below m1) (d0.o.below m1);clear l4 l5 a3 z2 o1 m1 e2 e3 f1 c0 c1 c2 j3;have n0:=(Blk.new Q 29 kE).alloc (.cells #[.i 0,.i 0] 53);have r0:=bZ.new (Q.alloc (.cells z'1a 29));have n:=((ba' Q (.cells z'1a 29)).alloc (by simp) (.cells #[.i 0,.i 0] 53))
 obtain⟨S,o0⟩:=nm' (Q.alloc (.cells z'1a 29));rw[show Q.alloc (.cells kE.toArray 29)=S from o0]at n0;rw[o0]at r0 n;obtain⟨A2,g2⟩:=nm' (S.alloc (.cells #[.i 0,.i 0] 53));rw[g2]at n0 r0 n;have y2:Q.heap.size≤S.heap.size:=by rw[←o0]; simp
 have s0:=n0.store (P:=prog) (cs':=q.cells) rfl Z.b.one;have r1:bZ (A2.setRow Q.heap.size q.cells.toArray) S.heap.size 0 0:=Blk.other r0 (Blk.ne r0 n0 (by decide)) _;have n1:=n0.set q.cells;have n:=cL n (aD _) q.cells.toArray;obtain⟨A3,j2⟩:=nm' (A2.setRow Q.heap.size q.cells.toArray);rw[j2]at s0 r1 n1 n;have s1:=r1.store y z;have r2:=r1.set y z;have n2:Blk (A3.setRow S.heap.size #[.i y,.i z]) Q.heap.size 29 q.cells:=n1.other (n1.ne r1 (by decide)) _;have n:=cL n y2 #[.i y,.i z];obtain⟨A4,m2⟩:=nm' (A3.setRow S.heap.size #[.i y,.i z]);rw[m2]at s1 r2 n2 n;have j:=k'4 (jQ (n2.below (bR (aL _ _)) n2.lt) (r2.below (bR (aL _ _)))) (Z.d.below n).drew ((Z.b.below n).below (bR (aL _ _))) ((Z.E.below n).below (bR (aL _ _)));clear n0 r0 n r1 n1 r2 n2 y2 j2 m2;go_wp2_with fail;clear s0 s1 o0 g2;obtain⟨L,hL⟩:=nm' (jJ ⟨x.c,x.s,y,z⟩ p.rows 4 1);have HL:=kp hL;have o3:=kp (fun(w':World)=>by have:=Yw m.rv p.rows ⟨x.c,x.s,y,z⟩ A4.drew.heap.size A4.drew (O.C▸j.D.st.2) (aD _) (by have:=HR.D; omega); rw[hL]at this; exact this);clear hL;refine fR 13 (DnC A4.drew W2.heap.size q L) (fun _=>fK) (by kernel_rfl) (by kernel_rfl) ⟨fun _ _=>rfl,(fun _ h=>by cases h),(fun _ h=>by cases h),fun _ h=>by cases h⟩ ?_
 iterate 9 (refine bO ?_; apply Exists.intro)
 iterate 2 (refine bS eM ?_)
 refine bO ?_; apply Exists.intro;refine bS eM ?_;refine dR ⟨?pers2,?walk2⟩
 case walk2=>
  iterate 9
   apply Ug (by kernel_rfl) (by intro t w h; cases h; exact trivial) rfl
   .intro X W' g I hw U N;have hg:=g.blk j.b.st j.b.ne;have hn:=g.blk j.a.1 (j.a.1.ne j.b.s (by decide));have hr:bZ W' S.heap.size y z:=g.blk j.a.2 (Blk.ne j.a.2 j.b.s (by decide));have K:=g.blk j.b.e (j.b.e.ne j.b.s (by decide));have l0:=hn.load (P:=prog) (k:=8) rfl;have l1:=hr.load;have l2:=hg.cell 8;change _=some m.rv at l2;have l3:=K.cell 2;change _=some (Value.i x.c)at l3;have l4:=K.cell 3;change _=some (Value.i x.s)at l4;clear hg hn hr K;go_wp2_with fail;exact⟨rfl,_,rfl,g.other (by decide) (by decide) (by decide),aV,rfl⟩
   simp only[Act.put,aN,aH,aI,aT,aW]
  refine⟨fun X W' g I hw U N=>?_,fun u9=>?_⟩
  .have T:=g.no9 I;have d2:=g.no10 T;obtain rfl:=g.pre I d2;go_wp2_with fail;refine (o3.o A4).mono ?_;rintro e g4 ⟨v',rfl,q0,hb⟩;go_wp2_with fail;exact⟨rfl,_,rfl,DnC.call d2 T q0 hb,aV,trivial⟩
  simp only[Act.put,aN,aH,aI,aT,aW];refine⟨fun X W' g I hw U N=>?_,fun b1=>?_⟩
  .have h9:X 9=some u9:=U 9 59 u9 (by kernel_rfl) (by kernel_rfl) (bT (by kernel_rfl)) rfl;have p3:=kp (g.build h9);obtain⟨A,c,rfl,-⟩:=eD (g.post u9 h9 (g.no10 I)).1;clear h9;go_wp2_with fail;exact⟨rfl,_,rfl,p3.o,aV,trivial⟩
  simp only[Act.put,aN,aH,aI,aT,aW];apply Ug (by kernel_rfl) (by intro t w h; cases h; exact trivial) rfl
  .intro X W' g I hw U N;have hr:bZ W' S.heap.size y z:=g.blk j.a.2 (Blk.ne j.a.2 j.b.s (by decide));have l1:=hr.load;clear hr;go_wp2_with fail;exact⟨rfl,_,rfl,g.other (by decide) (by decide) (by decide),aV,rfl⟩
  simp only[Act.put,aN,aH,aI,aT,aW];refine⟨fun X W' g I hw U N=>?_,fun e4=>?_⟩
  .have T:X 10=some b1:=U 10 60 b1 (by kernel_rfl) (by kernel_rfl) (bT (by kernel_rfl)) rfl;obtain⟨v,h9,rfl⟩:=g.b10 b1 T;have ho:=g.post v h9 I;have hs:=(j.b.s.below ho.2 j.b.s.lt).store (P:=prog) (cs':=StV.cells ⟨q,L,v⟩) rfl (StV.one (B:=W'.heap.size) ⟨(j.c.below ho.2).hpAt,ho.1.sl fJ⟩);have z0:=g.store (u:=undef) T ho;go_wp2_with fail;exact⟨rfl,undef,rfl,z0,aV,trivial⟩
  simp only[Act.put,aT,aW];intro W9 g N;clear N;obtain⟨v,W0,T,q0,hb,rfl⟩:=g.fin _ rfl;obtain rfl:b1=.agg (StV.cells ⟨q,L,v⟩).toArray:=by cases T; rfl
  simp only[dO,dP];have hD:=j.b.below hb;have g3:Ws W0 w.heap.size ⟨q,L,v⟩ qs:=⟨(j.c.mono F.o.b.size).below hb,OR.of_ow (q0.mono j.b.b.size) fun _ h _=>h⟩
  obtain⟨V8,V9,e0,y0,y1,a0,b0,M,J⟩:=hD.fin g3 y z;have r:=k'2 M J;rw[←e0];clear e0 g3 hD hb q0 g T y0 M J;go_wp2_with fail;refine aU (v:=.tuple #[.agg (StV.cells ⟨q,L,v⟩).toArray,.agg #[.i y,.i z]]) (by simp[results,Fj,go_sem,a0,b0]) rfl ⟨⟨q,L,v⟩,qs,?_,?_,r.a,r.B⟩
  .have h1:=Z.c;rw[O.b]at h1;rw[←G.o,show p.x.h=p.p.x from rfl,h1]
  .have h1:=Z.c;have h2:=Z.a;rw[O.b]at h1 h2;have V:=HM.o;unfold fY aF at V;rw[aC HC.o]at V;simp only[bI,bP]at V;rw[←G.o,show p.x.h=p.p.x from rfl,h1];have h3:=Sc (x:=⟨x.c,x.s,y,z⟩) V.2.2.1.1 V.2.2.1.2 HR.c;rw[show p.x.rows=p.rows from rfl,HL.o]at h3;rw[←h2];show (⟨q.x,L⟩:St)=⟨q.x,jV ⟨x.c,x.s,y,z⟩ p.rows⟩;rw[h3]
 case pers2=>exact⟨pv',pv',pv',pv',pv',pv',pv',pv',pv',fun _ _ _ _ _ h _=>h,fun _ _ _ _ _ h _=>h,pv',fun _ _ _ _ _ h _=>h,trivial⟩
end
end Go.Proofs.YtdoopoapbffpbaaGreat
