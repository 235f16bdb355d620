import Derived.Test.YtoncgpddjmgbfaaGreatZ07
import Derived.StillTailTactics
namespace Go.Proofs.YtoncgpddjmgbfaaGreat
open Go.RowKit Go.Proofs.Tryz
set_option maxRecDepth 100000
set_option maxHeartbeats 12800000
set_option linter.unusedVariables false
set_option linter.unusedSimpArgs false
section
attribute [-go_sem] loadCellsFrom storeCells
attribute [local go_sem] aX
theorem sQ{P:Program}(w:World){p:Array Oper}{q:List Oper}{o:Oper}{a:Act}{Q:Exit→Act→World→Prop}(B:o.guard=none)(s x:Operand)(t:TypeId)
  (F:o.op=.call {callee:=.builtin .append,args:=#[s,x],argTypes:=#[t,t]})
  (e:TypeId) (i:TypeInfo) (size:Nat) (L:P.underlying t=some (.slice e)) (C:P.info? e=some i) (J:i.size=size)
  (g f d l:Nat) (k:Array Value) (A:w.heap[g]? =some (.cells k e (0,0))) (I:a.eval s=.slice (some ⟨g,f,none⟩) d l)
  (n:Addr) (m c:Nat) (b:List Value) (M:a.eval x=.slice (some n) m c) (D:b.length=m*size) (E:∀j u,b[j]? =some u→w.cell? (n.add j)=some u) (r:∀u∈b,u.oneCell'=true)
  (H:d+m≤l) (z:f+d*size+b.length≤k.size)
  (h:wpList P p Q q (a.put o.dst (.slice (some ⟨g,f,none⟩) (d+m) l)) (w.setRow g (k.toList.take (f+d*size)++b++k.toList.drop (f+d*size+b.length)).toArray)):
  wpList P p Q (o::q) a w:=by
 subst J;refine wpList_plain B fun K y=>?_;have G:=xP (P:=P) w t o.type e i L C g f d l k A n m c b D E r H z;unfold Oper.wp execOp;simp only[F,resolve,invoke,builtin,Sem.run_bind,Sem.run_pure,Result.andThen_ok,List.map_toArray,mJ,tQ,I,M,G];exact y _ _ h
section
variable {α:Type}{enc:α→List Value}
theorem xR(k:Nat)(b:∀a,(enc a).length=k):∀(l:List α)(j:Nat),(aO enc l).take (j*k)=aO enc (l.take j)
 |[],j=>by simp[aO]
 |a::l,0=>by simp[aO]
 |a::l,j+1=>by
  have e:aO enc (a::l)=enc a++aO enc l:=rfl;rw[e,pR,eF (by rw[b,fH]; omega),b,show (j+1)*k-k=j*k by rw[fH]; omega,xR k b l];rfl
theorem sR(k:Nat)(b:∀a,(enc a).length=k):∀(l:List α)(j:Nat),(aO enc l).drop (j*k)=aO enc (l.drop j)
 |[],j=>by simp[aO]
 |a::l,0=>by simp
 |a::l,j+1=>by
  have e:aO enc (a::l)=enc a++aO enc l:=rfl;rw[e,List.drop_append,kA (by rw[b,fH]; omega),aS,b,show (j+1)*k-k=j*k by rw[fH]; omega,sR k b l];rfl
theorem Bi(k:Nat)(b:∀a,(enc a).length=k)(l:List α)(i:Nat):(aO enc l).take (i*k)++(aO enc l).drop ((i+1)*k)=aO enc (l.eraseIdx i):=by
 rw[xR k b,sR k b,←kE,List.eraseIdx_eq_take_drop_succ]
end
def mA:List Value:=[.i 0,.i 0]
theorem Gy(w:World)(g b c:Nat)(a:Array Value)(k:TypeId)(h:w.heap[g]? =some (.cells a 262 (0,0)))(f:b+2≤a.size):
  Sem.run prog (Builtin.clear_ #[38] k #[.slice (some ⟨g,b,none⟩) 1 c]) w=.ok (.tuple #[]) (w.setRow g (a.toList.take b++mA++a.toList.drop (b+mA.length)).toArray):=by
 have i:(underlying 38).run prog w=.ok (.slice 262) w:=by simp[run_underlying iH]
 have j:(zeroValue 262).run prog w=.ok (.agg mA.toArray) w:=by simp[mA]
 have d:=run_storeCells_at prog g b 262 mA 0 a w h (by simpa [mA] using f) (by simp[mA,Value.oneCell']);simp only[dW]at d;have e:(Builtin.zeroCells (Value.agg mA.toArray).cells 1).toList=mA:=by kernel_rfl
 unfold Builtin.clear_;simp only[Sem.run_bind,i,Result.andThen_ok,Mj,aP,j,e,d,Sem.run_pure]
theorem Rf{S:Nat→Prop}{v:Value}{l:List Bk}(i j:Nat)(w:World)(h:OR w S 262 2 v Bk.cells l)(m0:∀u∈aO Bk.cells l,u.oneCell'=true)(V:i<l.length)(K:j=i+1):
  Calls prog 304 #[v,.i i,.i j] w fun e w'=>∃v',e=.returned v'∧OR w' S 262 2 v' Bk.cells (l.eraseIdx i)∧Chg (fun k=>some k=v.ownBlock) w w'∧v'.ownBlock=v.ownBlock:=by
 unfold OR at *;obtain⟨g,m,cap,p,rfl,hs,hg,W,hm,q0,N⟩:=h.form (by omega);obtain⟨n,M⟩:=nm' l.length;rw[M]at V W N h ⊢;have H:=k'7 h hs hg q0 N m0 M;have HJ:=kp K;have P:=kp (show (l.eraseIdx i).length=n-1 by rw[Mr,M,aK V]);clear h hs hg q0 N m0 M;have a1:((i:Int)==(j:Int))=false:=by simp; omega
 have a2:(j:Int)≤(n:Int):=by omega
 have a3:(n:Int)≤(cap:Int):=by omega
 have a4:(i:Int)≤(cap:Int):=by omega
 have a5:(i:Int)≤(j:Int):=by omega
 obtain⟨i0,j0,d2,y0,g2⟩:=info_parts nY;obtain⟨r,O⟩:=nm' w.drew;have g0:r.heap[g]? =some (.cells p 262 (0,0)):=by rw[←O]; exact H.c
 have Z:Chg (fun k=>some k=(Value.slice (some ⟨g,m,none⟩) n cap).ownBlock) w r:=by rw[←O]; exact (Chg.refl _ _).drew
 have o0:Rd r r.heap.size (some ⟨g,m,none⟩) (aO Bk.cells l):=by rw[←O]; exact H.a.rd
 have B:=k'3 g0 Z o0; clear g0 Z o0;have X:=kp O; clear O;have d0:∀(F zs:List Value)(s:World)(q:Array Value),(aO Bk.cells l).drop (j*2)=F→q=(p.toList.take (m+i*2)++F++p.toList.drop (m+i*2+F.length)).toArray→zs.length=2→s=(r.setRow g q)→
   m+(n-1)*2+zs.length≤q.size∧aM (s.setRow g (q.toList.take (m+(n-1)*2)++zs++q.toList.drop (m+(n-1)*2+zs.length)).toArray) S 262 2 (.slice (some ⟨g,m,none⟩) (n-1) cap) (n-1) (aO Bk.cells (l.eraseIdx i))∧
    Chg (fun k=>some k=(Value.slice (some ⟨g,m,none⟩) n cap).ownBlock) w (s.setRow g (q.toList.take (m+(n-1)*2)++zs++q.toList.drop (m+(n-1)*2+zs.length)).toArray):=by
  intro F zs s q l0 x j2 y;subst y;have M:F.length=(n-j)*2:=by rw[←l0,dM,cW 2 cO,H.G,gT]
  have b0:cap*2≤p.size-m:=by have:=H.d; omega
  have q1:n*2≤cap*2:=eL _ W;have o1:i*2+2≤n*2:=by have:=eL 2 V; omega
  have p1:j*2=i*2+2:=by rw[K]; omega
  have y1:(n-j)*2=n*2-j*2:=gT ..;have L:(n-1)*2=n*2-2:=by rw[gT]
  have z1:q.size=p.size:=by
   rw[x];simp only[fF,bF,cL,dM,gK];omega
  have D:=setRow_heap r g p q 262 (0,0) B.a;refine⟨by omega,⟨?_,.inr ⟨g,m,cap,_,rfl,H.b,setRow_heap _ g q _ _ (0,0) D,by omega,hm,?_,?_⟩⟩,?_⟩
  .rw[cW 2 cO,P.o]
  .simp only[fF,bF,cL,dM,gK];omega
  .rw[←Bi 2 cO];simp only[cH];rw[nG (by simp; omega),rG (by simp; omega),nP,show m+(n-1)*2-m=(n-1)*2 by omega,kC,Nat.min_self];rw[x];simp only[cH];rw[nG (by simp; omega),pR,nP,show m+i*2-m=i*2 by omega,cL,dM,gK,
    show min (i*2) (p.size-m)=i*2 by omega,kC,show min ((n-1)*2) (i*2)=i*2 by omega]
   rw[pR,show (n-1)*2-i*2=F.length by omega,Mm,tO,kB,fG,←l0,K]
   congr 1
   have N:=H.e;rw[←N,kC]
   congr 1
   omega
  .exact (B.b.setRow (.inr (by simp[Value.ownBlock])) _).setRow (.inr (by simp[Value.ownBlock])) _
 have T:=kp d0; clear d0;have a0:∀t u,(aO Bk.cells l)[t]? =some u→r.cell? ⟨g,m+t,none⟩=some u:=by
  intro t u A;rcases B.C with h|⟨b',l2,e,_,hc⟩
  .rw[h]at A; cases A
  .cases e;exact hc t u A
 have z0:=kp a0; clear a0;obtain⟨E,L⟩:=nm' (n-1);rw[L]at T P;have b1:(E:Int)≤(n:Int):=by omega
 have b2:n-E=1:=by omega
 have b3:¬cap=E:=by omega
 have l1:=kp b2;have U:=kp (show (aO Bk.cells l).length=n*2 by rw[cW 2 cO,H.G]);have m1:=k'2 L b3
 by_cases j1:cap=j
 .subst j1;obtain rfl:n=cap:=by omega
  have Y:i=E:=by omega
  have E0:=kp Y;have R:=kp (show (aO Bk.cells l).drop (n*2)=[] from kA (by rw[U.o]; exact aN _));have Q:m+i*2+0≤p.size:=by have:=H.d; omega
  clear K L Y;go_enter func304,ntmps304;go_wp2_with fail
  go_still_tail 6,(by kernel_rfl)
  change wpList _ _ _ _ _ w.drew;rw[X.o];refine sQ r rfl (.tmp 22) (.tmp 25) _ rfl 262 i0 2 iH j0 y0 g m i n p B.a rfl ⟨g,m,none⟩ 0 0 [] rfl rfl (by intro j u h; cases h) (by intro u h; cases h) (by omega) Q ?_;obtain⟨s,y⟩:=nm' (r.setRow g (p.toList.take (m+i*2)++[]++p.toList.drop (m+i*2+([]:List Value).length)).toArray);rw[y,dW,E0.o];have J:=kp y; clear y;obtain⟨q,x⟩:=nm' ((p.toList.take (m+i*2)++[]++p.toList.drop (m+i*2+([]:List Value).length)).toArray);have z:=T.o [] mA s q R.o x.symm rfl (by rw[←J.o,x]);have D:s.heap[g]? =some (.cells q 262 (0,0)):=by rw[←J.o,x]; exact setRow_heap r g p _ _ _ B.a
  have b0:=fun c=>Gy s g (m+E*2) c q 0 D z.1;simp only[cH]at z;have I:=kp z;clear z D x;go_wp2_with fail;go_ret;refine⟨_,rfl,?_,I.C,rfl⟩;rw[P.o];exact I.b
 .have g1:=kp (show i+(n-j)=E by omega);have Q:m+i*2+((aO Bk.cells l).drop (j*2)).length≤p.size:=by
   rw[dM,U.o];have:=H.d;have h1:n*2≤cap*2:=eL _ W;have h2:i*2≤j*2:=eL _ (by omega);have h3:j*2≤n*2:=eL _ (by omega);omega
  have p0:i+(n-j)≤cap:=by omega
  have R:=kp (show ((aO Bk.cells l).drop (j*2)).length=(n-j)*2 by rw[dM,U.o,gT]);have d1:=kp (show ∀u∈(aO Bk.cells l).drop (j*2),u.oneCell'=true from fun u A=>H.f u (vW A));clear K L;go_enter func304,ntmps304;go_wp2_with fail
  go_still_tail 6,(by kernel_rfl)
  change wpList _ _ _ _ _ w.drew;rw[X.o];refine sQ r rfl (.tmp 22) (.tmp 25) _ rfl 262 i0 2 iH j0 y0 g m i cap p B.a rfl ⟨g,m+j*2,none⟩ (n-j) (cap-j) ((aO Bk.cells l).drop (j*2)) rfl R.o ?_ d1.o p0 Q ?_
  .intro t u A;rw[Addr.add_lit,lW];exact z0.o _ u (by rw[lG]at A; exact A)
  obtain⟨s,y⟩:=nm' (r.setRow g (p.toList.take (m+i*2)++(aO Bk.cells l).drop (j*2)++p.toList.drop (m+i*2+((aO Bk.cells l).drop (j*2)).length)).toArray);rw[y,g1.o];have J:=kp y; clear y;obtain⟨q,x⟩:=nm' ((p.toList.take (m+i*2)++(aO Bk.cells l).drop (j*2)++p.toList.drop (m+i*2+((aO Bk.cells l).drop (j*2)).length)).toArray);have z:=T.o _ mA s q rfl x.symm rfl (by rw[←J.o,x]);have D:s.heap[g]? =some (.cells q 262 (0,0)):=by rw[←J.o,x]; exact setRow_heap r g p _ _ _ B.a
  have b0:=fun c=>Gy s g (m+E*2) c q 0 D z.1;simp only[cH]at z;have I:=kp z;clear z D x Q p0;go_wp2_with fail;go_ret;refine⟨_,rfl,?_,I.C,rfl⟩;rw[P.o];exact I.b
def mB:List Value:=z'5
theorem Gz(w:World)(g b c:Nat)(a:Array Value)(k:TypeId)(h:w.heap[g]? =some (.cells a 264 (0,0)))(f:b+5≤a.size):
  Sem.run prog (Builtin.clear_ #[36] k #[.slice (some ⟨g,b,none⟩) 1 c]) w=.ok (.tuple #[]) (w.setRow g (a.toList.take b++mB++a.toList.drop (b+mB.length)).toArray):=by
 have i:(underlying 36).run prog w=.ok (.slice 264) w:=by simp[run_underlying tW]
 have j:(zeroValue 264).run prog w=.ok (.agg mB.toArray) w:=by simp[mB]
 have d:=run_storeCells_at prog g b 264 mB 0 a w h (by simpa [mB] using f) (by simp[mB,Value.oneCell']);simp only[dW]at d;have e:(Builtin.zeroCells (Value.agg mB.toArray).cells 1).toList=mB:=by kernel_rfl
 unfold Builtin.clear_;simp only[Sem.run_bind,i,Result.andThen_ok,Mj,aP,j,e,d,Sem.run_pure]
theorem Rg{S:Nat→Prop}{v:Value}{l:List ObV}(i j:Nat)(w:World)(h:OR w S 264 5 v ObV.cells l)(m0:∀u∈aO ObV.cells l,u.oneCell'=true)(V:i<l.length)(K:j=i+1):
  Calls prog 290 #[v,.i i,.i j] w fun e w'=>∃v',e=.returned v'∧OR w' S 264 5 v' ObV.cells (l.eraseIdx i)∧Chg (fun k=>some k=v.ownBlock) w w'∧v'.ownBlock=v.ownBlock:=by
 unfold OR at *;obtain⟨g,m,cap,p,rfl,hs,hg,W,hm,q0,N⟩:=h.form (by omega);obtain⟨n,M⟩:=nm' l.length;rw[M]at V W N h ⊢;have H:=k'7 h hs hg q0 N m0 M;have HJ:=kp K;have P:=kp (show (l.eraseIdx i).length=n-1 by rw[Mr,M,aK V]);clear h hs hg q0 N m0 M;have a1:((i:Int)==(j:Int))=false:=by simp; omega
 have a2:(j:Int)≤(n:Int):=by omega
 have a3:(n:Int)≤(cap:Int):=by omega
 have a4:(i:Int)≤(cap:Int):=by omega
 have a5:(i:Int)≤(j:Int):=by omega
 obtain⟨i0,j0,d2,y0,g2⟩:=info_parts xC;obtain⟨r,O⟩:=nm' w.drew;have g0:r.heap[g]? =some (.cells p 264 (0,0)):=by rw[←O]; exact H.c
 have Z:Chg (fun k=>some k=(Value.slice (some ⟨g,m,none⟩) n cap).ownBlock) w r:=by rw[←O]; exact (Chg.refl _ _).drew
 have o0:Rd r r.heap.size (some ⟨g,m,none⟩) (aO ObV.cells l):=by rw[←O]; exact H.a.rd
 have B:=k'3 g0 Z o0; clear g0 Z o0;have X:=kp O; clear O;have d0:∀(F zs:List Value)(s:World)(q:Array Value),(aO ObV.cells l).drop (j*5)=F→q=(p.toList.take (m+i*5)++F++p.toList.drop (m+i*5+F.length)).toArray→zs.length=5→s=(r.setRow g q)→
   m+(n-1)*5+zs.length≤q.size∧aM (s.setRow g (q.toList.take (m+(n-1)*5)++zs++q.toList.drop (m+(n-1)*5+zs.length)).toArray) S 264 5 (.slice (some ⟨g,m,none⟩) (n-1) cap) (n-1) (aO ObV.cells (l.eraseIdx i))∧
    Chg (fun k=>some k=(Value.slice (some ⟨g,m,none⟩) n cap).ownBlock) w (s.setRow g (q.toList.take (m+(n-1)*5)++zs++q.toList.drop (m+(n-1)*5+zs.length)).toArray):=by
  intro F zs s q l0 x j2 y;subst y;have M:F.length=(n-j)*5:=by rw[←l0,dM,cW 5 eV,H.G,gT]
  have b0:cap*5≤p.size-m:=by have:=H.d; omega
  have q1:n*5≤cap*5:=eL _ W;have o1:i*5+5≤n*5:=by have:=eL 5 V; omega
  have p1:j*5=i*5+5:=by rw[K]; omega
  have y1:(n-j)*5=n*5-j*5:=gT ..;have L:(n-1)*5=n*5-5:=by rw[gT]
  have z1:q.size=p.size:=by
   rw[x];simp only[fF,bF,cL,dM,gK];omega
  have D:=setRow_heap r g p q 264 (0,0) B.a;refine⟨by omega,⟨?_,.inr ⟨g,m,cap,_,rfl,H.b,setRow_heap _ g q _ _ (0,0) D,by omega,hm,?_,?_⟩⟩,?_⟩
  .rw[cW 5 eV,P.o]
  .simp only[fF,bF,cL,dM,gK];omega
  .rw[←Bi 5 eV];simp only[cH];rw[nG (by simp; omega),rG (by simp; omega),nP,show m+(n-1)*5-m=(n-1)*5 by omega,kC,Nat.min_self];rw[x];simp only[cH];rw[nG (by simp; omega),pR,nP,show m+i*5-m=i*5 by omega,cL,dM,gK,
    show min (i*5) (p.size-m)=i*5 by omega,kC,show min ((n-1)*5) (i*5)=i*5 by omega]
   rw[pR,show (n-1)*5-i*5=F.length by omega,Mm,tO,kB,fG,←l0,K]
   congr 1
   have N:=H.e;rw[←N,kC]
   congr 1
   omega
  .exact (B.b.setRow (.inr (by simp[Value.ownBlock])) _).setRow (.inr (by simp[Value.ownBlock])) _
 have T:=kp d0; clear d0;have a0:∀t u,(aO ObV.cells l)[t]? =some u→r.cell? ⟨g,m+t,none⟩=some u:=by
  intro t u A;rcases B.C with h|⟨b',l2,e,_,hc⟩
  .rw[h]at A; cases A
  .cases e;exact hc t u A
 have z0:=kp a0; clear a0;obtain⟨E,L⟩:=nm' (n-1);rw[L]at T P;have b1:(E:Int)≤(n:Int):=by omega
 have b2:n-E=1:=by omega
 have b3:¬cap=E:=by omega
 have l1:=kp b2;have U:=kp (show (aO ObV.cells l).length=n*5 by rw[cW 5 eV,H.G]);have m1:=k'2 L b3
 by_cases j1:cap=j
 .subst j1;obtain rfl:n=cap:=by omega
  have Y:i=E:=by omega
  have E0:=kp Y;have R:=kp (show (aO ObV.cells l).drop (n*5)=[] from kA (by rw[U.o]; exact aN _));have Q:m+i*5+0≤p.size:=by have:=H.d; omega
  clear K L Y;go_enter func290,ntmps290;go_wp2_with fail
  go_still_tail 6,(by kernel_rfl)
  change wpList _ _ _ _ _ w.drew;rw[X.o];refine sQ r rfl (.tmp 22) (.tmp 25) _ rfl 264 i0 5 tW j0 y0 g m i n p B.a rfl ⟨g,m,none⟩ 0 0 [] rfl rfl (by intro j u h; cases h) (by intro u h; cases h) (by omega) Q ?_;obtain⟨s,y⟩:=nm' (r.setRow g (p.toList.take (m+i*5)++[]++p.toList.drop (m+i*5+([]:List Value).length)).toArray);rw[y,dW,E0.o];have J:=kp y; clear y;obtain⟨q,x⟩:=nm' ((p.toList.take (m+i*5)++[]++p.toList.drop (m+i*5+([]:List Value).length)).toArray);have z:=T.o [] mB s q R.o x.symm rfl (by rw[←J.o,x]);have D:s.heap[g]? =some (.cells q 264 (0,0)):=by rw[←J.o,x]; exact setRow_heap r g p _ _ _ B.a
  have b0:=fun c=>Gz s g (m+E*5) c q 0 D z.1;simp only[cH]at z;have I:=kp z;clear z D x;go_wp2_with fail;go_ret;refine⟨_,rfl,?_,I.C,rfl⟩;rw[P.o];exact I.b
 .have g1:=kp (show i+(n-j)=E by omega);have Q:m+i*5+((aO ObV.cells l).drop (j*5)).length≤p.size:=by
   rw[dM,U.o];have:=H.d;have h1:n*5≤cap*5:=eL _ W;have h2:i*5≤j*5:=eL _ (by omega);have h3:j*5≤n*5:=eL _ (by omega);omega
  have p0:i+(n-j)≤cap:=by omega
  have R:=kp (show ((aO ObV.cells l).drop (j*5)).length=(n-j)*5 by rw[dM,U.o,gT]);have d1:=kp (show ∀u∈(aO ObV.cells l).drop (j*5),u.oneCell'=true from fun u A=>H.f u (vW A));clear K L;go_enter func290,ntmps290;go_wp2_with fail
  go_still_tail 6,(by kernel_rfl)
  change wpList _ _ _ _ _ w.drew;rw[X.o];refine sQ r rfl (.tmp 22) (.tmp 25) _ rfl 264 i0 5 tW j0 y0 g m i cap p B.a rfl ⟨g,m+j*5,none⟩ (n-j) (cap-j) ((aO ObV.cells l).drop (j*5)) rfl R.o ?_ d1.o p0 Q ?_
  .intro t u A;rw[Addr.add_lit,lW];exact z0.o _ u (by rw[lG]at A; exact A)
  obtain⟨s,y⟩:=nm' (r.setRow g (p.toList.take (m+i*5)++(aO ObV.cells l).drop (j*5)++p.toList.drop (m+i*5+((aO ObV.cells l).drop (j*5)).length)).toArray);rw[y,g1.o];have J:=kp y; clear y;obtain⟨q,x⟩:=nm' ((p.toList.take (m+i*5)++(aO ObV.cells l).drop (j*5)++p.toList.drop (m+i*5+((aO ObV.cells l).drop (j*5)).length)).toArray);have z:=T.o _ mB s q rfl x.symm rfl (by rw[←J.o,x]);have D:s.heap[g]? =some (.cells q 264 (0,0)):=by rw[←J.o,x]; exact setRow_heap r g p _ _ _ B.a
  have b0:=fun c=>Gz s g (m+E*5) c q 0 D z.1;simp only[cH]at z;have I:=kp z;clear z D x Q p0;go_wp2_with fail;go_ret;refine⟨_,rfl,?_,I.C,rfl⟩;rw[P.o];exact I.b
end
section
attribute [-go_sem] run_eql_struct run_neq_struct
theorem Rh(v:Value)(l:List Bk)(y:Bk)(B:Nat)(w:World)(h:Sl w B v Bk.cells l)(E:B≤w.heap.size)(R:l.length≤1000000):
  Calls prog 303 #[v,.agg y.cells.toArray] w fun e T=>e=.returned (.i (eC (fun x=>decide (y=x)) l))∧Bw' w T:=by
 obtain⟨A,c,rfl,S,N,hm⟩:=h;obtain⟨n,I⟩:=nm' l.length;rw[I]at N R ⊢;have m:=ba' w (.cells #[.i y.a,.i y.o] 262);have r:=kp (Blk.new w 262 [.i y.a,.i y.o]);have K:=kp (S.below m E);have p:=kp m;have J:=kp (aB E m.size);have s:=kp I;show Calls _ _ #[_,.agg #[.i y.a,.i y.o]] _ _;go_enter func303,ntmps303;go_wp2_with fail;generalize w.alloc (.cells #[.i y.a,.i y.o] 262)=W at *
 go_loopw [8] (fun i wr=>∃k:Nat,k≤n∧i=.i k∧(∀x∈l.take k,decide (y=x)=false)∧Bw' W wr) (fun i _=>n-(intOf i).toNat)
 case atStart=>exact⟨0,by omega,rfl,by simp,aH _ _⟩
 case round=>
  obtain⟨k,Y,rfl,Q,F⟩:=hrel;have j:=kp Q;have g:=kp F;have H:=r.o.below F r.o.lt;have y0:=bG (H.cell 0);have y1:=bG (H.cell 1)
  by_cases Z:k<n
  .have X:(k:Int)<(n:Int):=by omega
   have f:k<l.length:=by have:=s.o; omega
   obtain⟨b,a0,L,_,G,_⟩:=dS (P:=prog) 2 cO (by omega) (K.o.below g.o J.o) k f;subst L;have U:=bG (G 0 _ rfl);have x1:=bG (G 1 _ rfl);simp only[dW]at U;have C:=k'2 (fE f) (qC (fun x=>decide (y=x)) l k f);generalize l[k]'f=x at *;have O:∀w,Sem.run prog (binOp .eql 262 (.agg #[.i y.a,.i y.o]) (.agg #[.i x.a,.i x.o])) w=.ok (.bool (decide (y=x))) w:=fun w=>Ex y x w
   cases hyx:decide (y=x)
   all_goals
    rw[hyx]at O;have D:=kp hyx;go_wp2_with fail;refine cX (by kernel_rfl) (by kernel_rfl) ?_
    repeat (go_big_quiet_step (fail))
    refine cI ?_;rintro V ⟨⟨_,M⟩,rfl⟩;have q:=kp (g.o.on M);go_wp2_with fail
   .go_roundw
    case rel=>
     refine⟨k+1,by omega,by go_num,fun z d=>?_,q.o⟩;rw[C.a]at d;rcases cV.1 d with d|d
     .exact j.o z d
     .rw[bZ.1 d]; exact D.o
    case measure=>simp[intOf]; omega
   .go_ret;exact⟨by rw[C.B D.o j.o]; rfl,p.o.on q.o⟩
  .obtain rfl:k=n:=by omega
   go_wp2_with fail;go_ret;exact⟨by rw[uN _ l (fun z d=>j.o z (by rw[eF (by have:=s.o; omega)]; exact d))]; rfl,p.o.on g.o⟩
end
section
open Go.RowKit Go.Lib
attribute [-go_sem] loadCellsFrom storeCells
attribute [local go_sem] aX
theorem Ha(A Z X Y:List Value)(a:Nat)(d:A.length=a)(c1 c2:List Value)(b:c1=(A++Z).take a++X++(A++Z).drop (a+X.length))(c:c2=c1.take (a+X.length)++Y++c1.drop (a+X.length+Y.length))(f:X.length+Y.length≤Z.length):
  c2.take (a+X.length+Y.length)=A++X++Y∧c1.length=A.length+Z.length∧c2.length=A.length+Z.length:=by
 have e1:c1.take (a+X.length)=A++X:=by
  rw[b,rG (by simp; omega),←d,List.take_left];rw[eF (by simp)]
 have e:c1.length=A.length+Z.length:=by rw[b]; simp; omega
 refine⟨?_,e,?_⟩
 .rw[c,e1,rG (by simp; omega),eF (by simp; omega)]
 .rw[c]; simp; omega
theorem Hc(c xs X:List Value)(b a N:Nat)(h:(c.drop b).take N=xs)(j:xs.length=N)(g:a≤N)(k:b+N+X.length≤c.length)(c1 c2:List Value)
  (d:c1=c.take (b+(a+X.length))++xs.drop a++c.drop (b+(a+X.length)+(xs.drop a).length)) (e:c2=c1.take (b+a)++X++c1.drop (b+a+X.length)):
  (c2.drop b).take (N+X.length)=xs.take a++X++xs.drop a∧c1.length=c.length∧c2.length=c.length:=by
 have i:c1.length=c.length:=by rw[d]; simp; omega
 refine⟨?_,i,by rw[e]; simp; omega⟩;have e1:c1.take (b+a)=c.take (b+a):=by
  rw[d,cH,rG (by simp; omega),kC,nO (by omega)]
 have e2:c1.drop (b+a+X.length)=xs.drop a++c.drop (b+(a+X.length)+(xs.drop a).length):=by
  rw[d,cH,nG (by simp; omega),Du (by simp; omega),aS]
 have f:(c.take (b+a)).drop b=xs.take a:=by
  rw[nP,show b+a-b=a by omega,←h,kC,nO g]
 rw[e,e1,e2,cH,nG (by simp; omega),f,←cH,←cH,rG (by simp; omega)];exact eF (by simp; omega)
theorem xS{w:World}{g c n:Nat}{t:TypeId}{b:Array Value}{xs:List Value}(d:w.heap[g]? =some (.cells b t (0,0)))(e:(b.toList.drop c).take n=xs):∀j u,xs[j]? =some u→w.cell? ⟨g,c+j,none⟩=some u:=fun j u a=>by
 rw[←e,nK]at a
 split at a
 .rw[lG]at a;simp only[World.cell?,d];simpa using a
 .cases a
end
end Go.Proofs.YtoncgpddjmgbfaaGreat
