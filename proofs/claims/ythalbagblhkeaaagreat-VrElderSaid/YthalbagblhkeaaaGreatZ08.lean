import Derived.Test.YthalbagblhkeaaaGreatZ07
import Derived.StillTailTactics
namespace Go.Proofs.YthalbagblhkeaaaGreat
open Go.RowKit Go.Proofs.Tryz
set_option maxRecDepth 100000
set_option maxHeartbeats 12800000
set_option linter.unusedVariables false
set_option linter.unusedSimpArgs false
section
attribute [-go_sem] loadCellsFrom storeCells
attribute [local go_sem] bC
theorem tQ{P:Program}(w:World){p:Array Oper}{q:List Oper}{o:Oper}{a:Act}{Q:Exit→Act→World→Prop}(B:o.guard=none)(s x:Operand)(t:TypeId)
  (F:o.op=.call {callee:=.builtin .append,args:=#[s,x],argTypes:=#[t,t]})
  (e:TypeId) (i:TypeInfo) (size:Nat) (L:P.underlying t=some (.slice e)) (C:P.info? e=some i) (J:i.size=size)
  (g f d l:Nat) (k:Array Value) (A:w.heap[g]? =some (.cells k e (0,0))) (I:a.eval s=.slice (some ⟨g,f,none⟩) d l)
  (n:Addr) (m c:Nat) (b:List Value) (M:a.eval x=.slice (some n) m c) (D:b.length=m*size) (E:∀j u,b[j]? =some u→w.cell? (n.add j)=some u) (r:∀u∈b,u.oneCell'=true)
  (H:d+m≤l) (z:f+d*size+b.length≤k.size)
  (h:wpList P p Q q (a.put o.dst (.slice (some ⟨g,f,none⟩) (d+m) l)) (w.setRow g (k.toList.take (f+d*size)++b++k.toList.drop (f+d*size+b.length)).toArray)):
  wpList P p Q (o::q) a w:=by
 subst J;refine wpList_plain B fun K y=>?_;have G:=xX (P:=P) w t o.type e i L C g f d l k A n m c b D E r H z;unfold Oper.wp execOp;simp only[F,resolve,invoke,builtin,Sem.run_bind,Sem.run_pure,Result.andThen_ok,List.map_toArray,kM,wM,I,M,G];exact y _ _ h
section
variable {α:Type}{enc:α→List Value}
theorem yA(k:Nat)(b:∀a,(enc a).length=k):∀(l:List α)(j:Nat),(aM enc l).take (j*k)=aM enc (l.take j)
 |[],j=>by simp[aM]
 |a::l,0=>by simp[aM]
 |a::l,j+1=>by
  have e:aM enc (a::l)=enc a++aM enc l:=rfl;rw[e,qP,cN (by rw[b,gE]; omega),b,show (j+1)*k-k=j*k by rw[gE]; omega,yA k b l];rfl
theorem yB(k:Nat)(b:∀a,(enc a).length=k):∀(l:List α)(j:Nat),(aM enc l).drop (j*k)=aM enc (l.drop j)
 |[],j=>by simp[aM]
 |a::l,0=>by simp
 |a::l,j+1=>by
  have e:aM enc (a::l)=enc a++aM enc l:=rfl;rw[e,List.drop_append,gS (by rw[b,gE]; omega),aT,b,show (j+1)*k-k=j*k by rw[gE]; omega,yB k b l];rfl
theorem Cx(k:Nat)(b:∀a,(enc a).length=k)(l:List α)(i:Nat):(aM enc l).take (i*k)++(aM enc l).drop ((i+1)*k)=aM enc (l.eraseIdx i):=by
 rw[yA k b,yB k b,←lV,List.eraseIdx_eq_take_drop_succ]
end
def mP:List Value:=[.i 0,.i 0]
theorem Ix(w:World)(g b c:Nat)(a:Array Value)(k:TypeId)(h:w.heap[g]? =some (.cells a 150 (0,0)))(f:b+2≤a.size):
  Sem.run prog (Builtin.clear_ #[27] k #[.slice (some ⟨g,b,none⟩) 1 c]) w=.ok (.tuple #[]) (w.setRow g (a.toList.take b++mP++a.toList.drop (b+mP.length)).toArray):=by
 have i:(underlying 27).run prog w=.ok (.slice 150) w:=by simp[run_underlying fC]
 have j:(zeroValue 150).run prog w=.ok (.agg mP.toArray) w:=by simp[mP]
 have d:=run_storeCells_at prog g b 150 mP 0 a w h (by simpa [mP] using f) (by simp[mP,Value.oneCell']);simp only[cF]at d;have e:(Builtin.zeroCells (Value.agg mP.toArray).cells 1).toList=mP:=by kernel_rfl
 unfold Builtin.clear_;simp only[Sem.run_bind,i,Result.andThen_ok,Ew,aG,j,e,d,Sem.run_pure]
theorem Tp{S:Nat→Prop}{v:Value}{l:List Bk}(i j:Nat)(w:World)(h:OR w S 150 2 v Bk.cells l)(o0:∀u∈aM Bk.cells l,u.oneCell'=true)(W:i<l.length)(L:j=i+1):
  Calls prog 302 #[v,.i i,.i j] w fun e w'=>∃v',e=.returned v'∧OR w' S 150 2 v' Bk.cells (l.eraseIdx i)∧Chg (fun k=>some k=v.ownBlock) w w'∧v'.ownBlock=v.ownBlock:=by
 unfold OR at *;obtain⟨g,m,cap,p,rfl,hs,hg,X,hm,y0,O⟩:=h.form (by omega);obtain⟨n,N⟩:=nm' l.length;rw[N]at W X O h ⊢;have H:=k'7 h hs hg y0 O o0 N;have HJ:=kp L;have Q:=kp (show (l.eraseIdx i).length=n-1 by rw[Oy,N,aE W]);clear h hs hg y0 O o0 N;have a1:((i:Int)==(j:Int))=false:=by simp; omega
 have a2:(j:Int)≤(n:Int):=by omega
 have a3:(n:Int)≤(cap:Int):=by omega
 have a4:(i:Int)≤(cap:Int):=by omega
 have a5:(i:Int)≤(j:Int):=by omega
 obtain⟨i0,l0,e2,z0,g2⟩:=info_parts jA;obtain⟨r,P⟩:=nm' w.drew;have j0:r.heap[g]? =some (.cells p 150 (0,0)):=by rw[←P]; exact H.c
 have a0:Chg (fun k=>some k=(Value.slice (some ⟨g,m,none⟩) n cap).ownBlock) w r:=by rw[←P]; exact (Chg.refl _ _).drew
 have p0:Rd r r.heap.size (some ⟨g,m,none⟩) (aM Bk.cells l):=by rw[←P]; exact H.a.rd
 have B:=k'3 j0 a0 p0; clear j0 a0 p0;have Y:=kp P; clear P;have g0:∀(I F:List Value)(s:World)(q:Array Value),(aM Bk.cells l).drop (j*2)=I→q=(p.toList.take (m+i*2)++I++p.toList.drop (m+i*2+I.length)).toArray→F.length=2→s=(r.setRow g q)→
   m+(n-1)*2+F.length≤q.size∧aO (s.setRow g (q.toList.take (m+(n-1)*2)++F++q.toList.drop (m+(n-1)*2+F.length)).toArray) S 150 2 (.slice (some ⟨g,m,none⟩) (n-1) cap) (n-1) (aM Bk.cells (l.eraseIdx i))∧
    Chg (fun k=>some k=(Value.slice (some ⟨g,m,none⟩) n cap).ownBlock) w (s.setRow g (q.toList.take (m+(n-1)*2)++F++q.toList.drop (m+(n-1)*2+F.length)).toArray):=by
  intro I F s q m0 x j2 y;subst y;have N:I.length=(n-j)*2:=by rw[←m0,dX,eB 2 bM,H.G,iF]
  have d0:cap*2≤p.size-m:=by have:=H.d; omega
  have y1:n*2≤cap*2:=dV _ X;have p1:i*2+2≤n*2:=by have:=dV 2 W; omega
  have q1:j*2=i*2+2:=by rw[L]; omega
  have z1:(n-j)*2=n*2-j*2:=iF ..;have M:(n-1)*2=n*2-2:=by rw[iF]
  have d2:q.size=p.size:=by
   rw[x];simp only[gT,bB,cZ,dX,hP];omega
  have D:=setRow_heap r g p q 150 (0,0) B.a;refine⟨by omega,⟨?_,.inr ⟨g,m,cap,_,rfl,H.b,setRow_heap _ g q _ _ (0,0) D,by omega,hm,?_,?_⟩⟩,?_⟩
  .rw[eB 2 bM,Q.o]
  .simp only[gT,bB,cZ,dX,hP];omega
  .rw[←Cx 2 bM];simp only[cR];rw[nZ (by simp; omega),sQ (by simp; omega),oD,show m+(n-1)*2-m=(n-1)*2 by omega,kN,Nat.min_self];rw[x];simp only[cR];rw[nZ (by simp; omega),qP,oD,show m+i*2-m=i*2 by omega,cZ,dX,hP,
    show min (i*2) (p.size-m)=i*2 by omega,kN,show min ((n-1)*2) (i*2)=i*2 by omega]
   rw[qP,show (n-1)*2-i*2=I.length by omega,Ab,qS,mZ,fS,←m0,L]
   congr 1
   have O:=H.e;rw[←O,kN]
   congr 1
   omega
  .exact (B.b.setRow (.inr (by simp[Value.ownBlock])) _).setRow (.inr (by simp[Value.ownBlock])) _
 have U:=kp g0; clear g0;have b0:∀t u,(aM Bk.cells l)[t]? =some u→r.cell? ⟨g,m+t,none⟩=some u:=by
  intro t u A;rcases B.C with h|⟨b',l2,e,_,hc⟩
  .rw[h]at A; cases A
  .cases e;exact hc t u A
 have d1:=kp b0; clear b0;obtain⟨E,M⟩:=nm' (n-1);rw[M]at U Q;have b1:(E:Int)≤(n:Int):=by omega
 have b2:n-E=1:=by omega
 have b3:¬cap=E:=by omega
 have m1:=kp b2;have V:=kp (show (aM Bk.cells l).length=n*2 by rw[eB 2 bM,H.G]);have o1:=k'2 M b3
 by_cases l1:cap=j
 .subst l1;obtain rfl:n=cap:=by omega
  have Z:i=E:=by omega
  have E0:=kp Z;have T:=kp (show (aM Bk.cells l).drop (n*2)=[] from gS (by rw[V.o]; exact aD _));have R:m+i*2+0≤p.size:=by have:=H.d; omega
  clear L M Z;go_enter func302,ntmps302;go_wp2_with fail
  go_still_tail 6,(by kernel_rfl)
  change wpList _ _ _ _ _ w.drew;rw[Y.o];refine tQ r rfl (.tmp 22) (.tmp 25) _ rfl 150 i0 2 fC l0 z0 g m i n p B.a rfl ⟨g,m,none⟩ 0 0 [] rfl rfl (by intro j u h; cases h) (by intro u h; cases h) (by omega) R ?_;obtain⟨s,y⟩:=nm' (r.setRow g (p.toList.take (m+i*2)++[]++p.toList.drop (m+i*2+([]:List Value).length)).toArray);rw[y,cF,E0.o];have K:=kp y; clear y;obtain⟨q,x⟩:=nm' ((p.toList.take (m+i*2)++[]++p.toList.drop (m+i*2+([]:List Value).length)).toArray);have z:=U.o [] mP s q T.o x.symm rfl (by rw[←K.o,x]);have D:s.heap[g]? =some (.cells q 150 (0,0)):=by rw[←K.o,x]; exact setRow_heap r g p _ _ _ B.a
  have d0:=fun c=>Ix s g (m+E*2) c q 0 D z.1;simp only[cR]at z;have J:=kp z;clear z D x;go_wp2_with fail;go_ret;refine⟨_,rfl,?_,J.C,rfl⟩;rw[Q.o];exact J.b
 .have j1:=kp (show i+(n-j)=E by omega);have R:m+i*2+((aM Bk.cells l).drop (j*2)).length≤p.size:=by
   rw[dX,V.o];have:=H.d;have h1:n*2≤cap*2:=dV _ X;have h2:i*2≤j*2:=dV _ (by omega);have h3:j*2≤n*2:=dV _ (by omega);omega
  have q0:i+(n-j)≤cap:=by omega
  have T:=kp (show ((aM Bk.cells l).drop (j*2)).length=(n-j)*2 by rw[dX,V.o,iF]);have g1:=kp (show ∀u∈(aM Bk.cells l).drop (j*2),u.oneCell'=true from fun u A=>H.f u (zS A));clear L M;go_enter func302,ntmps302;go_wp2_with fail
  go_still_tail 6,(by kernel_rfl)
  change wpList _ _ _ _ _ w.drew;rw[Y.o];refine tQ r rfl (.tmp 22) (.tmp 25) _ rfl 150 i0 2 fC l0 z0 g m i cap p B.a rfl ⟨g,m+j*2,none⟩ (n-j) (cap-j) ((aM Bk.cells l).drop (j*2)) rfl T.o ?_ g1.o q0 R ?_
  .intro t u A;rw[Addr.add_lit,oE];exact d1.o _ u (by rw[mG]at A; exact A)
  obtain⟨s,y⟩:=nm' (r.setRow g (p.toList.take (m+i*2)++(aM Bk.cells l).drop (j*2)++p.toList.drop (m+i*2+((aM Bk.cells l).drop (j*2)).length)).toArray);rw[y,j1.o];have K:=kp y; clear y;obtain⟨q,x⟩:=nm' ((p.toList.take (m+i*2)++(aM Bk.cells l).drop (j*2)++p.toList.drop (m+i*2+((aM Bk.cells l).drop (j*2)).length)).toArray);have z:=U.o _ mP s q rfl x.symm rfl (by rw[←K.o,x]);have D:s.heap[g]? =some (.cells q 150 (0,0)):=by rw[←K.o,x]; exact setRow_heap r g p _ _ _ B.a
  have d0:=fun c=>Ix s g (m+E*2) c q 0 D z.1;simp only[cR]at z;have J:=kp z;clear z D x R q0;go_wp2_with fail;go_ret;refine⟨_,rfl,?_,J.C,rfl⟩;rw[Q.o];exact J.b
def mQ:List Value:=z'5
theorem Iy(w:World)(g b c:Nat)(a:Array Value)(k:TypeId)(h:w.heap[g]? =some (.cells a 152 (0,0)))(f:b+5≤a.size):
  Sem.run prog (Builtin.clear_ #[25] k #[.slice (some ⟨g,b,none⟩) 1 c]) w=.ok (.tuple #[]) (w.setRow g (a.toList.take b++mQ++a.toList.drop (b+mQ.length)).toArray):=by
 have i:(underlying 25).run prog w=.ok (.slice 152) w:=by simp[run_underlying nE]
 have j:(zeroValue 152).run prog w=.ok (.agg mQ.toArray) w:=by simp[mQ]
 have d:=run_storeCells_at prog g b 152 mQ 0 a w h (by simpa [mQ] using f) (by simp[mQ,Value.oneCell']);simp only[cF]at d;have e:(Builtin.zeroCells (Value.agg mQ.toArray).cells 1).toList=mQ:=by kernel_rfl
 unfold Builtin.clear_;simp only[Sem.run_bind,i,Result.andThen_ok,Ew,aG,j,e,d,Sem.run_pure]
theorem Tq{S:Nat→Prop}{v:Value}{l:List ObV}(i j:Nat)(w:World)(h:OR w S 152 5 v ObV.cells l)(o0:∀u∈aM ObV.cells l,u.oneCell'=true)(W:i<l.length)(L:j=i+1):
  Calls prog 284 #[v,.i i,.i j] w fun e w'=>∃v',e=.returned v'∧OR w' S 152 5 v' ObV.cells (l.eraseIdx i)∧Chg (fun k=>some k=v.ownBlock) w w'∧v'.ownBlock=v.ownBlock:=by
 unfold OR at *;obtain⟨g,m,cap,p,rfl,hs,hg,X,hm,y0,O⟩:=h.form (by omega);obtain⟨n,N⟩:=nm' l.length;rw[N]at W X O h ⊢;have H:=k'7 h hs hg y0 O o0 N;have HJ:=kp L;have Q:=kp (show (l.eraseIdx i).length=n-1 by rw[Oy,N,aE W]);clear h hs hg y0 O o0 N;have a1:((i:Int)==(j:Int))=false:=by simp; omega
 have a2:(j:Int)≤(n:Int):=by omega
 have a3:(n:Int)≤(cap:Int):=by omega
 have a4:(i:Int)≤(cap:Int):=by omega
 have a5:(i:Int)≤(j:Int):=by omega
 obtain⟨i0,l0,e2,z0,g2⟩:=info_parts pS;obtain⟨r,P⟩:=nm' w.drew;have j0:r.heap[g]? =some (.cells p 152 (0,0)):=by rw[←P]; exact H.c
 have a0:Chg (fun k=>some k=(Value.slice (some ⟨g,m,none⟩) n cap).ownBlock) w r:=by rw[←P]; exact (Chg.refl _ _).drew
 have p0:Rd r r.heap.size (some ⟨g,m,none⟩) (aM ObV.cells l):=by rw[←P]; exact H.a.rd
 have B:=k'3 j0 a0 p0; clear j0 a0 p0;have Y:=kp P; clear P;have g0:∀(I F:List Value)(s:World)(q:Array Value),(aM ObV.cells l).drop (j*5)=I→q=(p.toList.take (m+i*5)++I++p.toList.drop (m+i*5+I.length)).toArray→F.length=5→s=(r.setRow g q)→
   m+(n-1)*5+F.length≤q.size∧aO (s.setRow g (q.toList.take (m+(n-1)*5)++F++q.toList.drop (m+(n-1)*5+F.length)).toArray) S 152 5 (.slice (some ⟨g,m,none⟩) (n-1) cap) (n-1) (aM ObV.cells (l.eraseIdx i))∧
    Chg (fun k=>some k=(Value.slice (some ⟨g,m,none⟩) n cap).ownBlock) w (s.setRow g (q.toList.take (m+(n-1)*5)++F++q.toList.drop (m+(n-1)*5+F.length)).toArray):=by
  intro I F s q m0 x j2 y;subst y;have N:I.length=(n-j)*5:=by rw[←m0,dX,eB 5 cM,H.G,iF]
  have d0:cap*5≤p.size-m:=by have:=H.d; omega
  have y1:n*5≤cap*5:=dV _ X;have p1:i*5+5≤n*5:=by have:=dV 5 W; omega
  have q1:j*5=i*5+5:=by rw[L]; omega
  have z1:(n-j)*5=n*5-j*5:=iF ..;have M:(n-1)*5=n*5-5:=by rw[iF]
  have d2:q.size=p.size:=by
   rw[x];simp only[gT,bB,cZ,dX,hP];omega
  have D:=setRow_heap r g p q 152 (0,0) B.a;refine⟨by omega,⟨?_,.inr ⟨g,m,cap,_,rfl,H.b,setRow_heap _ g q _ _ (0,0) D,by omega,hm,?_,?_⟩⟩,?_⟩
  .rw[eB 5 cM,Q.o]
  .simp only[gT,bB,cZ,dX,hP];omega
  .rw[←Cx 5 cM];simp only[cR];rw[nZ (by simp; omega),sQ (by simp; omega),oD,show m+(n-1)*5-m=(n-1)*5 by omega,kN,Nat.min_self];rw[x];simp only[cR];rw[nZ (by simp; omega),qP,oD,show m+i*5-m=i*5 by omega,cZ,dX,hP,
    show min (i*5) (p.size-m)=i*5 by omega,kN,show min ((n-1)*5) (i*5)=i*5 by omega]
   rw[qP,show (n-1)*5-i*5=I.length by omega,Ab,qS,mZ,fS,←m0,L]
   congr 1
   have O:=H.e;rw[←O,kN]
   congr 1
   omega
  .exact (B.b.setRow (.inr (by simp[Value.ownBlock])) _).setRow (.inr (by simp[Value.ownBlock])) _
 have U:=kp g0; clear g0;have b0:∀t u,(aM ObV.cells l)[t]? =some u→r.cell? ⟨g,m+t,none⟩=some u:=by
  intro t u A;rcases B.C with h|⟨b',l2,e,_,hc⟩
  .rw[h]at A; cases A
  .cases e;exact hc t u A
 have d1:=kp b0; clear b0;obtain⟨E,M⟩:=nm' (n-1);rw[M]at U Q;have b1:(E:Int)≤(n:Int):=by omega
 have b2:n-E=1:=by omega
 have b3:¬cap=E:=by omega
 have m1:=kp b2;have V:=kp (show (aM ObV.cells l).length=n*5 by rw[eB 5 cM,H.G]);have o1:=k'2 M b3
 by_cases l1:cap=j
 .subst l1;obtain rfl:n=cap:=by omega
  have Z:i=E:=by omega
  have E0:=kp Z;have T:=kp (show (aM ObV.cells l).drop (n*5)=[] from gS (by rw[V.o]; exact aD _));have R:m+i*5+0≤p.size:=by have:=H.d; omega
  clear L M Z;go_enter func284,ntmps284;go_wp2_with fail
  go_still_tail 6,(by kernel_rfl)
  change wpList _ _ _ _ _ w.drew;rw[Y.o];refine tQ r rfl (.tmp 22) (.tmp 25) _ rfl 152 i0 5 nE l0 z0 g m i n p B.a rfl ⟨g,m,none⟩ 0 0 [] rfl rfl (by intro j u h; cases h) (by intro u h; cases h) (by omega) R ?_;obtain⟨s,y⟩:=nm' (r.setRow g (p.toList.take (m+i*5)++[]++p.toList.drop (m+i*5+([]:List Value).length)).toArray);rw[y,cF,E0.o];have K:=kp y; clear y;obtain⟨q,x⟩:=nm' ((p.toList.take (m+i*5)++[]++p.toList.drop (m+i*5+([]:List Value).length)).toArray);have z:=U.o [] mQ s q T.o x.symm rfl (by rw[←K.o,x]);have D:s.heap[g]? =some (.cells q 152 (0,0)):=by rw[←K.o,x]; exact setRow_heap r g p _ _ _ B.a
  have d0:=fun c=>Iy s g (m+E*5) c q 0 D z.1;simp only[cR]at z;have J:=kp z;clear z D x;go_wp2_with fail;go_ret;refine⟨_,rfl,?_,J.C,rfl⟩;rw[Q.o];exact J.b
 .have j1:=kp (show i+(n-j)=E by omega);have R:m+i*5+((aM ObV.cells l).drop (j*5)).length≤p.size:=by
   rw[dX,V.o];have:=H.d;have h1:n*5≤cap*5:=dV _ X;have h2:i*5≤j*5:=dV _ (by omega);have h3:j*5≤n*5:=dV _ (by omega);omega
  have q0:i+(n-j)≤cap:=by omega
  have T:=kp (show ((aM ObV.cells l).drop (j*5)).length=(n-j)*5 by rw[dX,V.o,iF]);have g1:=kp (show ∀u∈(aM ObV.cells l).drop (j*5),u.oneCell'=true from fun u A=>H.f u (zS A));clear L M;go_enter func284,ntmps284;go_wp2_with fail
  go_still_tail 6,(by kernel_rfl)
  change wpList _ _ _ _ _ w.drew;rw[Y.o];refine tQ r rfl (.tmp 22) (.tmp 25) _ rfl 152 i0 5 nE l0 z0 g m i cap p B.a rfl ⟨g,m+j*5,none⟩ (n-j) (cap-j) ((aM ObV.cells l).drop (j*5)) rfl T.o ?_ g1.o q0 R ?_
  .intro t u A;rw[Addr.add_lit,oE];exact d1.o _ u (by rw[mG]at A; exact A)
  obtain⟨s,y⟩:=nm' (r.setRow g (p.toList.take (m+i*5)++(aM ObV.cells l).drop (j*5)++p.toList.drop (m+i*5+((aM ObV.cells l).drop (j*5)).length)).toArray);rw[y,j1.o];have K:=kp y; clear y;obtain⟨q,x⟩:=nm' ((p.toList.take (m+i*5)++(aM ObV.cells l).drop (j*5)++p.toList.drop (m+i*5+((aM ObV.cells l).drop (j*5)).length)).toArray);have z:=U.o _ mQ s q rfl x.symm rfl (by rw[←K.o,x]);have D:s.heap[g]? =some (.cells q 152 (0,0)):=by rw[←K.o,x]; exact setRow_heap r g p _ _ _ B.a
  have d0:=fun c=>Iy s g (m+E*5) c q 0 D z.1;simp only[cR]at z;have J:=kp z;clear z D x R q0;go_wp2_with fail;go_ret;refine⟨_,rfl,?_,J.C,rfl⟩;rw[Q.o];exact J.b
end
section
attribute [-go_sem] run_eql_struct run_neq_struct
theorem Tr(v:Value)(l:List Bk)(y:Bk)(B:Nat)(w:World)(h:Sl w B v Bk.cells l)(E:B≤w.heap.size)(R:l.length≤1000000):
  Calls prog 301 #[v,.agg y.cells.toArray] w fun e T=>e=.returned (.i (eI (fun x=>decide (y=x)) l))∧Bw' w T:=by
 obtain⟨A,c,rfl,S,N,hm⟩:=h;obtain⟨n,I⟩:=nm' l.length;rw[I]at N R ⊢;have m:=ba' w (.cells #[.i y.a,.i y.o] 150);have r:=kp (Blk.new w 150 [.i y.a,.i y.o]);have K:=kp (S.below m E);have p:=kp m;have J:=kp (aB E m.size);have s:=kp I;show Calls _ _ #[_,.agg #[.i y.a,.i y.o]] _ _;go_enter func301,ntmps301;go_wp2_with fail;generalize w.alloc (.cells #[.i y.a,.i y.o] 150)=W at *
 go_loopw [8] (fun i wr=>∃k:Nat,k≤n∧i=.i k∧(∀x∈l.take k,decide (y=x)=false)∧Bw' W wr) (fun i _=>n-(intOf i).toNat)
 case atStart=>exact⟨0,by omega,rfl,by simp,aL _ _⟩
 case round=>
  obtain⟨k,Y,rfl,Q,F⟩:=hrel;have j:=kp Q;have g:=kp F;have H:=r.o.below F r.o.lt;have y0:=aP (H.cell 0);have y1:=aP (H.cell 1)
  by_cases Z:k<n
  .have X:(k:Int)<(n:Int):=by omega
   have f:k<l.length:=by have:=s.o; omega
   obtain⟨b,a0,L,_,G,_⟩:=bV (P:=prog) 2 bM (by omega) (K.o.below g.o J.o) k f;subst L;have U:=aP (G 0 _ rfl);have x1:=aP (G 1 _ rfl);simp only[cF]at U;have C:=k'2 (cV f) (rF (fun x=>decide (y=x)) l k f);generalize l[k]'f=x at *;have O:∀w,Sem.run prog (binOp .eql 150 (.agg #[.i y.a,.i y.o]) (.agg #[.i x.a,.i x.o])) w=.ok (.bool (decide (y=x))) w:=fun w=>cJ.2 y x w
   cases hyx:decide (y=x)
   all_goals
    rw[hyx]at O;have D:=kp hyx;go_wp2_with fail;refine bJ (by kernel_rfl) (by kernel_rfl) ?_
    repeat (go_big_quiet_step (fail))
    refine bH ?_;rintro V ⟨⟨_,M⟩,rfl⟩;have q:=kp (g.o.on M);go_wp2_with fail
   .go_roundw
    case rel=>
     refine⟨k+1,by omega,by go_num,fun z d=>?_,q.o⟩;rw[C.a]at d;rcases dF.1 d with d|d
     .exact j.o z d
     .rw[bQ.1 d]; exact D.o
    case measure=>simp[intOf]; omega
   .go_ret;exact⟨by rw[C.B D.o j.o]; rfl,p.o.on q.o⟩
  .obtain rfl:k=n:=by omega
   go_wp2_with fail;go_ret;exact⟨by rw[vB _ l (fun z d=>j.o z (by rw[cN (by have:=s.o; omega)]; exact d))]; rfl,p.o.on g.o⟩
end
section
open Go.RowKit Go.Lib
attribute [-go_sem] loadCellsFrom storeCells
attribute [local go_sem] bC
theorem Iz(A Z X Y:List Value)(a:Nat)(d:A.length=a)(c1 c2:List Value)(b:c1=(A++Z).take a++X++(A++Z).drop (a+X.length))(c:c2=c1.take (a+X.length)++Y++c1.drop (a+X.length+Y.length))(f:X.length+Y.length≤Z.length):
  c2.take (a+X.length+Y.length)=A++X++Y∧c1.length=A.length+Z.length∧c2.length=A.length+Z.length:=by
 have e1:c1.take (a+X.length)=A++X:=by
  rw[b,sQ (by simp; omega),←d,List.take_left];rw[cN (by simp)]
 have e:c1.length=A.length+Z.length:=by rw[b]; simp; omega
 refine⟨?_,e,?_⟩
 .rw[c,e1,sQ (by simp; omega),cN (by simp; omega)]
 .rw[c]; simp; omega
theorem Ja(c xs X:List Value)(b a N:Nat)(i:(c.drop b).take N=xs)(k:xs.length=N)(h:a≤N)(l:b+N+X.length≤c.length)(c1 c2:List Value)
  (d:c1=c.take (b+(a+X.length))++xs.drop a++c.drop (b+(a+X.length)+(xs.drop a).length)) (e:c2=c1.take (b+a)++X++c1.drop (b+a+X.length)):
  (c2.drop b).take (N+X.length)=xs.take a++X++xs.drop a∧c1.length=c.length∧c2.length=c.length:=by
 have j:c1.length=c.length:=by rw[d]; simp; omega
 refine⟨?_,j,by rw[e]; simp; omega⟩;have e1:c1.take (b+a)=c.take (b+a):=by
  rw[d,cR,sQ (by simp; omega),kN,oC (by omega)]
 have f:c1.drop (b+a+X.length)=xs.drop a++c.drop (b+(a+X.length)+(xs.drop a).length):=by
  rw[d,cR,nZ (by simp; omega),Ou (by simp; omega),aT]
 have g:(c.take (b+a)).drop b=xs.take a:=by
  rw[oD,show b+a-b=a by omega,←i,kN,oC h]
 rw[e,e1,f,cR,nZ (by simp; omega),g,←cR,←cR,sQ (by simp; omega)];exact cN (by simp; omega)
theorem yC{w:World}{g c n:Nat}{t:TypeId}{b:Array Value}{xs:List Value}(d:w.heap[g]? =some (.cells b t (0,0)))(e:(b.toList.drop c).take n=xs):∀j u,xs[j]? =some u→w.cell? ⟨g,c+j,none⟩=some u:=fun j u a=>by
 rw[←e,oB]at a
 split at a
 .rw[mG]at a;simp only[World.cell?,d];simpa using a
 .cases a
end
end Go.Proofs.YthalbagblhkeaaaGreat
