import Derived.Test.YtoncgpddjmgbfaaGreatZ08
namespace Go.Proofs.YtoncgpddjmgbfaaGreat
open Go.RowKit Go.Proofs.Tryz
set_option maxRecDepth 100000
set_option maxHeartbeats 12800000
set_option linter.unusedVariables false
set_option linter.unusedSimpArgs false
section
open Go.RowKit Go.Lib
attribute [-go_sem] loadCellsFrom storeCells
attribute [local go_sem] aX
theorem Hd{S:Nat→Prop}{v:Value}{l l2:List Bk}(i x:Nat)(w:World)(h:OR w S 262 2 v Bk.cells l)(h2:Blk w x 262 (aO Bk.cells l2))(g3:some x≠v.ownBlock)(hi:i≤l.length)(hm:0<l2.length)(hS:∀i,w.heap.size≤i→S i)(hN:l.length+l2.length≤1000000):
  Calls prog 257 #[v,.i i,.slice (some ⟨x,0,none⟩) l2.length l2.length] w fun e w'=>∃v',e=.returned v'∧OR w' S 262 2 v' Bk.cells (l.take i++l2++l.drop i)∧Chg (fun k=>some k=v.ownBlock) w w'∧(∀k,some k=v'.ownBlock→some k=v.ownBlock∨w.heap.size≤k):=by
 obtain⟨n,hn⟩:=nm' l.length;obtain⟨m,a2⟩:=nm' l2.length;obtain⟨xs,p0⟩:=nm' (aO Bk.cells l);obtain⟨X,hX⟩:=nm' (aO Bk.cells l2);have q3:xs.length=n*2:=by rw[←p0,cW 2 cO,hn]
 have y2:X.length=m*2:=by rw[←hX,cW 2 cO,a2]
 have p3:∀u∈xs,u.oneCell'=true:=p0▸mN lJ l;have p2:∀u∈X,u.oneCell'=true:=hX▸mN lJ l2;have l3:aO Bk.cells (l.take i++l2++l.drop i)=xs.take (i*2)++X++xs.drop (i*2):=by rw[kE,kE,←xR 2 cO,←sR 2 cO,p0,hX]
 have m3:(l.take i++l2++l.drop i).length=n+m:=by simp; omega
 unfold OR at *;rw[hX]at h2;rw[m3,l3];rw[hn,p0]at h;rw[a2]at hN hm ⊢;rw[hn]at hi hN;obtain⟨i0,l0,d2,q0,g1⟩:=info_parts nY;have q2:∀W:World,Chg (fun k=>some k=v.ownBlock) w W→∀j u,X[j]? =some u→W.cell? ((⟨x,0,none⟩:Addr).add j)=some u:=fun W N j u hu=>by
  rw[Addr.add_lit,gL,(h2.chg N g3).cell];exact hu
 have q:=k'3 y2 p2 q2;have H:=k'3 h q3 p3;have j1:=kp h2;have HS:=kp hS;have b5:=h2.lt;have m0:((m:Int)==0)=false:=by simp; omega
 clear hn a2 p0 hX l3 m3 q3 y2 p3 p2 h2 q2 hS
 by_cases b3:i=n
 .subst b3;have e0:xs.take (i*2)++X++xs.drop (i*2)=xs++X:=by rw[eF (by rw[H.b]; exact aN _),Du (by rw[H.b]; exact aN _),fG]
  rw[e0];clear e0;obtain⟨A,c,rfl,e3,Y⟩:=aM.slice h;have j4:c≤9223372036854775807:=by unfold maxLen at Y; omega
  clear h Y
  by_cases l4:c=i
  .subst l4;go_enter func257,ntmps257;go_wp2_with (at_builtin; refine uS w rfl (.tmp 23) (.tmp 24) _ rfl 262 i0 _ 2 16 iH l0 d2 q0 g1 rfl (by omega) S _ _ xs rfl H.a HS.o ⟨x,0,none⟩ m m X rfl q.a (q.C w (Chg.refl _ _)) q.b ?_ ?_ ?_)
   .unfold maxLen; omega
   .omega
   intro v' w' hr N ho;have M:=k'3 hr N ho;clear hr N ho;go_wp2_with fail;go_ret;exact⟨_,rfl,M.a,M.b,M.C⟩
  .go_enter func257,ntmps257;go_wp2_with (at_builtin; refine uS w rfl (.tmp 23) (.tmp 24) _ rfl 262 i0 _ 2 16 iH l0 d2 q0 g1 rfl (by omega) S _ _ xs rfl H.a HS.o ⟨x,0,none⟩ m m X rfl q.a (q.C w (Chg.refl _ _)) q.b ?_ ?_ ?_)
   .unfold maxLen; omega
   .omega
   intro v' w' hr N ho;have M:=k'3 hr N ho;clear hr N ho;go_wp2_with fail;go_ret;exact⟨_,rfl,M.a,M.b,M.C⟩
 .have a5:i<n:=by omega
  obtain⟨g,f,c,F,rfl,o2,hg,e3,Y,z2,o3⟩:=aM.form h (by omega);have j4:c≤9223372036854775807:=by unfold maxLen at Y; omega
  have s:=k'5 o2 hg z2 o3 Y;have o4:g≠x:=fun e=>g3 (by rw[e]; rfl);have m4:g<w.heap.size:=(eT.1 hg).1;have q1:((i:Int)==(n:Int))=false:=by simp; omega
  have b0:(prog.info? 262).map (·.size)=some 2:=by rw[l0]; simp[q0]
  have c1:¬c=i:=by omega
  have ik:i*2≤n*2:=eL _ (by omega);have nk:n*2≤c*2:=eL _ e3;have L:(xs.drop (i*2)).length=(n-i)*2:=by rw[dM,H.b,gT]
  have z0:∀u∈xs.drop (i*2),u.oneCell'=true:=fun u hu=>H.C u (vW hu);have d1:∀W:World,W.heap[g]? =some (.cells F 262 (0,0))→∀j u,(xs.drop (i*2))[j]? =some u→W.cell? ((⟨g,f+i*2,none⟩:Addr).add j)=some u:=fun W hW j u hu=>by
   rw[Addr.add_lit,lW];exact xS hW s.d _ u (by rw[lG]at hu; exact hu)
  clear h o2 hg z2 o3 Y b3
  by_cases q4:c<n+m
  .
   have j3:(Builtin.firstCells i0.size i (.slice (some ⟨g,f,none⟩) i c)).run prog w.drew=.ok (xs.take (i*2)).toArray w.drew:=by
    rw[q0];exact run_firstCells_some w.drew 2 i ⟨g,f,none⟩ i c (xs.take (i*2)) (by rw[cL,H.b]; omega) (fun j u hj=>by
     rw[Addr.add_lit];rw[nK]at hj
     split at hj
     .exact xS (w:=w.drew) s.b s.d j u hj
     .cases hj)
   have d3:(n:Int)+(m:Int)-(i:Int)=((n+m-i:Nat):Int):=by omega
   have z1:i+(n+m-i)=n+m:=by omega
   obtain⟨G,hG⟩:=nm' (grownCap w (n+m) c 262);have m2:n+m≤G:=by rw[←hG]; exact grownCap_ge w _ _ _
   have m1:G≤maxLen:=by rw[←hG]; exact grownCap_le_maxLen w (n+m) c 262 (by unfold maxLen; omega)
   have z4:G≤9223372036854775807:=by unfold maxLen at m1; omega
   obtain⟨Z,hZ⟩:=nm' ((Builtin.zeroCells (Value.cells (.agg #[.i 0,.i 0])) (n+m-i)++Builtin.zeroCells (Value.cells (.agg #[.i 0,.i 0])) (G-(n+m))).toList);have j0:Z.length=(G-i)*2:=by
    rw[←hZ];simp[Builtin.zeroCells,Value.cells];omega
   have b2:∀p,(Builtin.append_ #[38,3] p #[.slice (some ⟨g,f,none⟩) i c,.i ((n:Int)+(m:Int)-(i:Int))]).run prog w=.ok (.slice (some ⟨w.heap.size,0,none⟩) (n+m) G) (w.drew.alloc (.cells (xs.take (i*2)++Z).toArray 262)):=fun p=>by
    have h:=Lib.run_append_grow_zeros w 38 3 p 262 i0 _ .i64 .i64 iH lI l0 d2 (some ⟨g,f,none⟩) i c (xs.take (i*2)) j3 (n+m-i) (by omega) (by omega) (by omega) (by omega) (by rw[g1]; omega) (by rw[g1,z1]; exact growslice_fits q4 (by omega));rw[z1,hG,←d3]at h;rw[h,←hZ]
    congr 3
    simp
   obtain⟨D,d0⟩:=nm' (w.drew.alloc (.cells (xs.take (i*2)++Z).toArray 262));rw[d0]at b2;have o1:D.heap[w.heap.size]? =some (.cells (xs.take (i*2)++Z).toArray 262 (0,0)):=by rw[←d0]; exact heap_alloc_new w.drew _
   have y1:Chg (fun k=>some k=(Value.slice (some ⟨g,f,none⟩) n c).ownBlock) w D:=by rw[←d0]; exact (Chg.refl _ _).drew.alloc _
   have a3:D.heap[g]? =some (.cells F 262 (0,0)):=by rw[←d0]; exact (Dx w.drew _ g m4).trans s.b
   have y0:(xs.take (i*2)).length=i*2:=by rw[cL,H.b]; omega
   have j2:i*2+m*2+(n-i)*2=(n+m)*2:=by rw[←fH,←fH]; congr 1; omega
   have d4:(n+m)*2≤G*2:=eL _ m2;have g4:(G-i)*2=G*2-i*2:=gT ..;obtain⟨z,O⟩:=nm' ((xs.take (i*2)++Z).take (i*2)++X++(xs.take (i*2)++Z).drop (i*2+X.length));obtain⟨J,Q⟩:=nm' (z.take (i*2+X.length)++xs.drop (i*2)++z.drop (i*2+X.length+(xs.drop (i*2)).length));have a1:=Ha (xs.take (i*2)) Z X (xs.drop (i*2)) (i*2) y0 z J O.symm Q.symm (by rw[q.a,L,j0]; omega);have R:∀p y,(Builtin.copy_ #[38,38] p #[.slice (some ⟨w.heap.size,i*2,none⟩) (n+m-i) y,.slice (some ⟨x,0,none⟩) m m]).run prog D=.ok (goInt m) (D.setRow w.heap.size z.toArray):=fun p y=>by
    have:=pC (P:=prog) D 38 38 p 262 2 w.heap.size (i*2) (n+m-i) y ⟨x,0,none⟩ m m _ 262 X m iH b0 o1 (by simp only[rV]; split<;>omega) q.a (q.C D y1) (by simp; rw[q.a,j0,H.b]; omega) q.b;rw[this];simp only[O]
   obtain⟨r,I⟩:=nm' (D.setRow w.heap.size z.toArray);rw[I]at R;have p1:r.drew.heap[w.heap.size]? =some (.cells z.toArray 262 (0,0)):=by rw[←I]; exact setRow_heap D _ _ _ _ _ o1
   have V:Chg (fun k=>some k=(Value.slice (some ⟨g,f,none⟩) n c).ownBlock) w r.drew:=by rw[←I]; exact (y1.setRow (.inl (aN _)) _).drew
   have a0:r.drew.heap[g]? =some (.cells F 262 (0,0)):=by rw[←I]; exact (setRow_other D _ g _ (by omega)).trans a3
   have T:∀p y U,(Builtin.copy_ #[38,38] p #[.slice (some ⟨w.heap.size,(i+m)*2,none⟩) (n+m-(i+m)) y,.slice (some ⟨g,f+i*2,none⟩) (n-i) U]).run prog r.drew=.ok (goInt ((n-i:Nat):Int)) (r.drew.setRow w.heap.size J.toArray):=fun p y U=>by
    have:=pC (P:=prog) r.drew 38 38 p 262 2 w.heap.size ((i+m)*2) (n+m-(i+m)) y ⟨g,f+i*2,none⟩ (n-i) U _ 262 (xs.drop (i*2)) (n-i) iH b0 p1 (by simp only[rV]; split<;>omega) L (d1 _ a0) (by rw[L,fF,a1.2.1,y0,j0,fH]; omega) z0;rw[this,show (i+m)*2=i*2+X.length by rw[q.a,fH]];simp only[Q]
   obtain⟨W3,K⟩:=nm' (r.drew.setRow w.heap.size J.toArray);rw[K]at T;have HF:=kp (show aM W3 S 262 2 (.slice (some ⟨w.heap.size,0,none⟩) (n+m) G) (n+m) (xs.take (i*2)++X++xs.drop (i*2))∧Chg (fun k=>some k=(Value.slice (some ⟨g,f,none⟩) n c).ownBlock) w W3 from by
    refine⟨⟨by simp[q.a,H.b]; omega,.inr ⟨w.heap.size,0,G,J.toArray,rfl,HS.o _ (aN _),by rw[←K]; exact setRow_heap _ _ _ _ _ _ p1,m2,m1,?_,?_⟩⟩,by rw[←K]; exact V.setRow (.inl (aN _)) _⟩
    .rw[fF,a1.2.2,y0,j0]; omega
    .rw[Dr,bU,←a1.1,q.a,L,j2])
   have HA:=kp R;have l1:=kp T;have a4:=kp b2;have gi:¬G=i:=by omega
   have e4:¬G=i+m:=by omega
   have w1:IntKind.i64.wrap ((i:Int)+(m:Int))=(i:Int)+(m:Int):=by rw[IntKind.wrap_i64]; omega
   have w2:(0:Int)≤(i:Int)+(m:Int):=by omega
   have w3:((i:Int)+(m:Int)).toNat=i+m:=by omega
   clear j3 d3 z1 hG m1 hZ j0 b2 d0 o1 y1 a3 y0 j2 d4 g4 O Q a1 R I p1 V a0 T K b0 L z0 d1 ik nk;go_enter func257,ntmps257;go_wp2_with (first |(at_builtin; refine Lib.wpList_append_run _ rfl _ _ _ _ rfl _ _ rfl rfl _ _ (a4.o _) ?_)|(refine pD (o:=⟨some 45,_,_,_,_,_⟩) D rfl (.tmp 43) (.tmp 44) 38 38 rfl (.slice (some ⟨w.heap.size,i*2,none⟩) (n+m-i) (G-i)) (.slice (some ⟨x,0,none⟩) m m) rfl rfl (HA.o _ _) ?_))
   go_still_tail 8,(by kernel_rfl)
   change wpList _ _ _ _ _ r.drew;refine pD _ rfl _ _ 38 38 rfl _ _ rfl rfl (l1.o _ _ _) ?_;go_wp2_with fail;go_ret;exact⟨_,rfl,HF.a,HF.B,fun k hk=>.inr (by simp[Value.ownBlock]at hk; omega)⟩
  .have g0:=q.a;obtain⟨z,O⟩:=nm' (F.toList.take (f+(i*2+X.length))++xs.drop (i*2)++F.toList.drop (f+(i*2+X.length)+(xs.drop (i*2)).length));obtain⟨J,Q⟩:=nm' (z.take (f+i*2)++X++z.drop (f+i*2+X.length));have y4:(n+m)*2≤c*2:=eL _ (by omega);have y3:(n+m)*2=n*2+m*2:=fH ..;have g2:(i+m)*2=i*2+X.length:=by rw[g0,fH]
   have b1:=Hc F.toList xs X f (i*2) (n*2) s.d H.b ik (by rw[g0,gK]; have:=s.c; omega) z J O.symm Q.symm;have p4:(n-i)*2=n*2-i*2:=gT ..;have R:∀p y U,(Builtin.copy_ #[38,38] p #[.slice (some ⟨g,f+(i+m)*2,none⟩) (n+m-(i+m)) y,.slice (some ⟨g,f+i*2,none⟩) (n+m-i) U]).run prog w.drew=.ok (goInt ((n-i:Nat):Int)) (w.drew.setRow g z.toArray):=fun p y U=>by
    have:=pC (P:=prog) w.drew 38 38 p 262 2 g (f+(i+m)*2) (n+m-(i+m)) y ⟨g,f+i*2,none⟩ (n+m-i) U F 262 (xs.drop (i*2)) (n-i) iH b0 s.b (by simp only[rV]; split<;>omega) L (d1 _ s.b) (by have:=s.c; rw[L,g2]; omega) z0;rw[this,g2,O]
   obtain⟨r,I⟩:=nm' (w.drew.setRow g z.toArray);rw[I]at R;have V:Chg (fun k=>some k=(Value.slice (some ⟨g,f,none⟩) n c).ownBlock) w r:=by rw[←I]; exact (Chg.refl (fun k=>some k=(Value.slice (some ⟨g,f,none⟩) n c).ownBlock) w).drew.setRow (.inr rfl) _
   have a0:r.heap[g]? =some (.cells z.toArray 262 (0,0)):=by rw[←I]; exact setRow_heap w.drew _ _ _ _ _ s.b
   have T:∀p y,(Builtin.copy_ #[38,38] p #[.slice (some ⟨g,f+i*2,none⟩) (n+m-i) y,.slice (some ⟨x,0,none⟩) m m]).run prog r=.ok (goInt m) (r.setRow g J.toArray):=fun p y=>by
    have:=pC (P:=prog) r 38 38 p 262 2 g (f+i*2) (n+m-i) y ⟨x,0,none⟩ m m z.toArray 262 X m iH b0 a0 (by simp only[rV]; split<;>omega) g0 (q.C r V) (by have e1:=b1.2.1; have e2:F.toList.length=F.size:=gK; have:=s.c; simp only[fF]; omega) q.b;rw[this];simp only[Q]
   obtain⟨W3,K⟩:=nm' (r.setRow g J.toArray);rw[K]at T;have HF:=kp (show aM W3 S 262 2 (.slice (some ⟨g,f,none⟩) (n+m) c) (n+m) (xs.take (i*2)++X++xs.drop (i*2))∧Chg (fun k=>some k=(Value.slice (some ⟨g,f,none⟩) n c).ownBlock) w W3 from by
    refine⟨⟨by simp[q.a,H.b]; omega,.inr ⟨g,f,c,J.toArray,rfl,s.a,by rw[←K]; exact setRow_heap _ _ _ _ _ _ a0,by omega,s.E,?_,?_⟩⟩,by rw[←K]; exact V.setRow (.inr rfl) _⟩
    .rw[fF,b1.2.2,gK]; exact s.c
    .rw[Dr,←b1.1,g0,y3])
   have o0:∀lb cb,(callFunc 276 #[.slice (some ⟨x,0,none⟩) m m,.slice (some ⟨g,f+(i+m)*2,none⟩) lb cb]).run prog w=.ok (.value (.bool false)) w:=fun lb cb=>by
    rw[run_callFunc_extern func276 (by kernel_rfl) (by kernel_rfl) (by kernel_rfl) (e:=Extern.SlicesOverlaps.overlaps #[38,38] #[4]) (by kernel_rfl),
     Lib.run_overlaps_apart w 38 4 262 iH 2 (fun w=>by simp[Go.sizeOf,typeInfo,l0,q0]) ⟨x,0,none⟩ ⟨g,f+(i+m)*2,none⟩ m m lb cb (bM o4) 262 262 X.length F.size (by simp[World.shape?,show w.heap[x]? =_ from j1.o]) (by simp[World.shape?,s.b]) (by have:=s.c; omega) (j1.o.frozen _) (j1.o.frozen _)]
    rfl
   have z3:=kp o0;have HA:=kp R;have l1:=kp T;have e4:¬c=i+m:=by omega
   have w1:IntKind.i64.wrap ((i:Int)+(m:Int))=(i:Int)+(m:Int):=by rw[IntKind.wrap_i64]; omega
   have w2:(0:Int)≤(i:Int)+(m:Int):=by omega
   have w3:((i:Int)+(m:Int)).toNat=i+m:=by omega
   have w4:(i:Int)≤(n:Int)+(m:Int):=by omega
   clear O Q y4 y3 g2 b1 p4 R I V a0 T K g0 b0 L z0 d1 ik nk o0;have o0:=z3.o;go_enter func257,ntmps257;go_wp2_with (simp only[o0]);clear o0
   go_still_tail 8,(by kernel_rfl)
   change wpList _ _ _ _ _ w.drew;refine pD _ rfl _ _ 38 38 rfl _ _ rfl rfl (HA.o _ _ _) ?_;go_wp2_with (refine pD (o:=⟨some 82,_,_,_,_,_⟩) r rfl (.tmp 80) (.tmp 81) 38 38 rfl (.slice (some ⟨g,f+i*2,none⟩) (n+m-i) (c-i)) (.slice (some ⟨x,0,none⟩) m m) rfl rfl (l1.o _ _) ?_);go_ret;exact⟨_,rfl,HF.a,HF.B,fun k hk=>.inl hk⟩
theorem Ri{S:Nat→Prop}{v:Value}{l l2:List Rw}(i x:Nat)(w:World)(h:OR w S 141 4 v Rw.cells l)(h2:Blk w x 141 (aO Rw.cells l2))(g3:some x≠v.ownBlock)(hi:i≤l.length)(hm:0<l2.length)(hS:∀i,w.heap.size≤i→S i)(hN:l.length+l2.length≤1000000):
  Calls prog 191 #[v,.i i,.slice (some ⟨x,0,none⟩) l2.length l2.length] w fun e w'=>∃v',e=.returned v'∧OR w' S 141 4 v' Rw.cells (l.take i++l2++l.drop i)∧Chg (fun k=>some k=v.ownBlock) w w'∧(∀k,some k=v'.ownBlock→some k=v.ownBlock∨w.heap.size≤k):=by
 obtain⟨n,hn⟩:=nm' l.length;obtain⟨m,a2⟩:=nm' l2.length;obtain⟨xs,p0⟩:=nm' (aO Rw.cells l);obtain⟨X,hX⟩:=nm' (aO Rw.cells l2);have q3:xs.length=n*4:=by rw[←p0,cW 4 jP,hn]
 have y2:X.length=m*4:=by rw[←hX,cW 4 jP,a2]
 have p3:∀u∈xs,u.oneCell'=true:=p0▸mN mP l;have p2:∀u∈X,u.oneCell'=true:=hX▸mN mP l2;have l3:aO Rw.cells (l.take i++l2++l.drop i)=xs.take (i*4)++X++xs.drop (i*4):=by rw[kE,kE,←xR 4 jP,←sR 4 jP,p0,hX]
 have m3:(l.take i++l2++l.drop i).length=n+m:=by simp; omega
 unfold OR at *;rw[hX]at h2;rw[m3,l3];rw[hn,p0]at h;rw[a2]at hN hm ⊢;rw[hn]at hi hN;obtain⟨i0,l0,d2,q0,g1⟩:=info_parts Am;have q2:∀W:World,Chg (fun k=>some k=v.ownBlock) w W→∀j u,X[j]? =some u→W.cell? ((⟨x,0,none⟩:Addr).add j)=some u:=fun W N j u hu=>by
  rw[Addr.add_lit,gL,(h2.chg N g3).cell];exact hu
 have q:=k'3 y2 p2 q2;have H:=k'3 h q3 p3;have j1:=kp h2;have HS:=kp hS;have b5:=h2.lt;have m0:((m:Int)==0)=false:=by simp; omega
 clear hn a2 p0 hX l3 m3 q3 y2 p3 p2 h2 q2 hS
 by_cases b3:i=n
 .subst b3;have e0:xs.take (i*4)++X++xs.drop (i*4)=xs++X:=by rw[eF (by rw[H.b]; exact aN _),Du (by rw[H.b]; exact aN _),fG]
  rw[e0];clear e0;obtain⟨A,c,rfl,e3,Y⟩:=aM.slice h;have j4:c≤9223372036854775807:=by unfold maxLen at Y; omega
  clear h Y
  by_cases l4:c=i
  .subst l4;go_enter func191,ntmps191;go_wp2_with (at_builtin; refine uS w rfl (.tmp 23) (.tmp 24) _ rfl 141 i0 _ 4 32 nR l0 d2 q0 g1 rfl (by omega) S _ _ xs rfl H.a HS.o ⟨x,0,none⟩ m m X rfl q.a (q.C w (Chg.refl _ _)) q.b ?_ ?_ ?_)
   .unfold maxLen; omega
   .omega
   intro v' w' hr N ho;have M:=k'3 hr N ho;clear hr N ho;go_wp2_with fail;go_ret;exact⟨_,rfl,M.a,M.b,M.C⟩
  .go_enter func191,ntmps191;go_wp2_with (at_builtin; refine uS w rfl (.tmp 23) (.tmp 24) _ rfl 141 i0 _ 4 32 nR l0 d2 q0 g1 rfl (by omega) S _ _ xs rfl H.a HS.o ⟨x,0,none⟩ m m X rfl q.a (q.C w (Chg.refl _ _)) q.b ?_ ?_ ?_)
   .unfold maxLen; omega
   .omega
   intro v' w' hr N ho;have M:=k'3 hr N ho;clear hr N ho;go_wp2_with fail;go_ret;exact⟨_,rfl,M.a,M.b,M.C⟩
 .have a5:i<n:=by omega
  obtain⟨g,f,c,F,rfl,o2,hg,e3,Y,z2,o3⟩:=aM.form h (by omega);have j4:c≤9223372036854775807:=by unfold maxLen at Y; omega
  have s:=k'5 o2 hg z2 o3 Y;have o4:g≠x:=fun e=>g3 (by rw[e]; rfl);have m4:g<w.heap.size:=(eT.1 hg).1;have q1:((i:Int)==(n:Int))=false:=by simp; omega
  have b0:(prog.info? 141).map (·.size)=some 4:=by rw[l0]; simp[q0]
  have c1:¬c=i:=by omega
  have ik:i*4≤n*4:=eL _ (by omega);have nk:n*4≤c*4:=eL _ e3;have L:(xs.drop (i*4)).length=(n-i)*4:=by rw[dM,H.b,gT]
  have z0:∀u∈xs.drop (i*4),u.oneCell'=true:=fun u hu=>H.C u (vW hu);have d1:∀W:World,W.heap[g]? =some (.cells F 141 (0,0))→∀j u,(xs.drop (i*4))[j]? =some u→W.cell? ((⟨g,f+i*4,none⟩:Addr).add j)=some u:=fun W hW j u hu=>by
   rw[Addr.add_lit,lW];exact xS hW s.d _ u (by rw[lG]at hu; exact hu)
  clear h o2 hg z2 o3 Y b3
  by_cases q4:c<n+m
  .
   have j3:(Builtin.firstCells i0.size i (.slice (some ⟨g,f,none⟩) i c)).run prog w.drew=.ok (xs.take (i*4)).toArray w.drew:=by
    rw[q0];exact run_firstCells_some w.drew 4 i ⟨g,f,none⟩ i c (xs.take (i*4)) (by rw[cL,H.b]; omega) (fun j u hj=>by
     rw[Addr.add_lit];rw[nK]at hj
     split at hj
     .exact xS (w:=w.drew) s.b s.d j u hj
     .cases hj)
   have d3:(n:Int)+(m:Int)-(i:Int)=((n+m-i:Nat):Int):=by omega
   have z1:i+(n+m-i)=n+m:=by omega
   obtain⟨G,hG⟩:=nm' (grownCap w (n+m) c 141);have m2:n+m≤G:=by rw[←hG]; exact grownCap_ge w _ _ _
   have m1:G≤maxLen:=by rw[←hG]; exact grownCap_le_maxLen w (n+m) c 141 (by unfold maxLen; omega)
   have z4:G≤9223372036854775807:=by unfold maxLen at m1; omega
   obtain⟨Z,hZ⟩:=nm' ((Builtin.zeroCells (Value.cells (.agg z'4a)) (n+m-i)++Builtin.zeroCells (Value.cells (.agg z'4a)) (G-(n+m))).toList);have j0:Z.length=(G-i)*4:=by
    rw[←hZ];simp[Builtin.zeroCells,Value.cells];omega
   have b2:∀p,(Builtin.append_ #[41,3] p #[.slice (some ⟨g,f,none⟩) i c,.i ((n:Int)+(m:Int)-(i:Int))]).run prog w=.ok (.slice (some ⟨w.heap.size,0,none⟩) (n+m) G) (w.drew.alloc (.cells (xs.take (i*4)++Z).toArray 141)):=fun p=>by
    have h:=Lib.run_append_grow_zeros w 41 3 p 141 i0 _ .i64 .i64 nR lI l0 d2 (some ⟨g,f,none⟩) i c (xs.take (i*4)) j3 (n+m-i) (by omega) (by omega) (by omega) (by omega) (by rw[g1]; omega) (by rw[g1,z1]; exact growslice_fits q4 (by omega));rw[z1,hG,←d3]at h;rw[h,←hZ]
    congr 3
    simp
   obtain⟨D,d0⟩:=nm' (w.drew.alloc (.cells (xs.take (i*4)++Z).toArray 141));rw[d0]at b2;have o1:D.heap[w.heap.size]? =some (.cells (xs.take (i*4)++Z).toArray 141 (0,0)):=by rw[←d0]; exact heap_alloc_new w.drew _
   have y1:Chg (fun k=>some k=(Value.slice (some ⟨g,f,none⟩) n c).ownBlock) w D:=by rw[←d0]; exact (Chg.refl _ _).drew.alloc _
   have a3:D.heap[g]? =some (.cells F 141 (0,0)):=by rw[←d0]; exact (Dx w.drew _ g m4).trans s.b
   have y0:(xs.take (i*4)).length=i*4:=by rw[cL,H.b]; omega
   have j2:i*4+m*4+(n-i)*4=(n+m)*4:=by rw[←fH,←fH]; congr 1; omega
   have d4:(n+m)*4≤G*4:=eL _ m2;have g4:(G-i)*4=G*4-i*4:=gT ..;obtain⟨z,O⟩:=nm' ((xs.take (i*4)++Z).take (i*4)++X++(xs.take (i*4)++Z).drop (i*4+X.length));obtain⟨J,Q⟩:=nm' (z.take (i*4+X.length)++xs.drop (i*4)++z.drop (i*4+X.length+(xs.drop (i*4)).length));have a1:=Ha (xs.take (i*4)) Z X (xs.drop (i*4)) (i*4) y0 z J O.symm Q.symm (by rw[q.a,L,j0]; omega);have R:∀p y,(Builtin.copy_ #[41,41] p #[.slice (some ⟨w.heap.size,i*4,none⟩) (n+m-i) y,.slice (some ⟨x,0,none⟩) m m]).run prog D=.ok (goInt m) (D.setRow w.heap.size z.toArray):=fun p y=>by
    have:=pC (P:=prog) D 41 41 p 141 4 w.heap.size (i*4) (n+m-i) y ⟨x,0,none⟩ m m _ 141 X m nR b0 o1 (by simp only[rV]; split<;>omega) q.a (q.C D y1) (by simp; rw[q.a,j0,H.b]; omega) q.b;rw[this];simp only[O]
   obtain⟨r,I⟩:=nm' (D.setRow w.heap.size z.toArray);rw[I]at R;have p1:r.drew.heap[w.heap.size]? =some (.cells z.toArray 141 (0,0)):=by rw[←I]; exact setRow_heap D _ _ _ _ _ o1
   have V:Chg (fun k=>some k=(Value.slice (some ⟨g,f,none⟩) n c).ownBlock) w r.drew:=by rw[←I]; exact (y1.setRow (.inl (aN _)) _).drew
   have a0:r.drew.heap[g]? =some (.cells F 141 (0,0)):=by rw[←I]; exact (setRow_other D _ g _ (by omega)).trans a3
   have T:∀p y U,(Builtin.copy_ #[41,41] p #[.slice (some ⟨w.heap.size,(i+m)*4,none⟩) (n+m-(i+m)) y,.slice (some ⟨g,f+i*4,none⟩) (n-i) U]).run prog r.drew=.ok (goInt ((n-i:Nat):Int)) (r.drew.setRow w.heap.size J.toArray):=fun p y U=>by
    have:=pC (P:=prog) r.drew 41 41 p 141 4 w.heap.size ((i+m)*4) (n+m-(i+m)) y ⟨g,f+i*4,none⟩ (n-i) U _ 141 (xs.drop (i*4)) (n-i) nR b0 p1 (by simp only[rV]; split<;>omega) L (d1 _ a0) (by rw[L,fF,a1.2.1,y0,j0,fH]; omega) z0;rw[this,show (i+m)*4=i*4+X.length by rw[q.a,fH]];simp only[Q]
   obtain⟨W3,K⟩:=nm' (r.drew.setRow w.heap.size J.toArray);rw[K]at T;have HF:=kp (show aM W3 S 141 4 (.slice (some ⟨w.heap.size,0,none⟩) (n+m) G) (n+m) (xs.take (i*4)++X++xs.drop (i*4))∧Chg (fun k=>some k=(Value.slice (some ⟨g,f,none⟩) n c).ownBlock) w W3 from by
    refine⟨⟨by simp[q.a,H.b]; omega,.inr ⟨w.heap.size,0,G,J.toArray,rfl,HS.o _ (aN _),by rw[←K]; exact setRow_heap _ _ _ _ _ _ p1,m2,m1,?_,?_⟩⟩,by rw[←K]; exact V.setRow (.inl (aN _)) _⟩
    .rw[fF,a1.2.2,y0,j0]; omega
    .rw[Dr,bU,←a1.1,q.a,L,j2])
   have HA:=kp R;have l1:=kp T;have a4:=kp b2;have gi:¬G=i:=by omega
   have e4:¬G=i+m:=by omega
   have w1:IntKind.i64.wrap ((i:Int)+(m:Int))=(i:Int)+(m:Int):=by rw[IntKind.wrap_i64]; omega
   have w2:(0:Int)≤(i:Int)+(m:Int):=by omega
   have w3:((i:Int)+(m:Int)).toNat=i+m:=by omega
   clear j3 d3 z1 hG m1 hZ j0 b2 d0 o1 y1 a3 y0 j2 d4 g4 O Q a1 R I p1 V a0 T K b0 L z0 d1 ik nk;go_enter func191,ntmps191;go_wp2_with (first |(at_builtin; refine Lib.wpList_append_run _ rfl _ _ _ _ rfl _ _ rfl rfl _ _ (a4.o _) ?_)|(refine pD (o:=⟨some 45,_,_,_,_,_⟩) D rfl (.tmp 43) (.tmp 44) 41 41 rfl (.slice (some ⟨w.heap.size,i*4,none⟩) (n+m-i) (G-i)) (.slice (some ⟨x,0,none⟩) m m) rfl rfl (HA.o _ _) ?_))
   go_still_tail 8,(by kernel_rfl)
   change wpList _ _ _ _ _ r.drew;refine pD _ rfl _ _ 41 41 rfl _ _ rfl rfl (l1.o _ _ _) ?_;go_wp2_with fail;go_ret;exact⟨_,rfl,HF.a,HF.B,fun k hk=>.inr (by simp[Value.ownBlock]at hk; omega)⟩
  .have g0:=q.a;obtain⟨z,O⟩:=nm' (F.toList.take (f+(i*4+X.length))++xs.drop (i*4)++F.toList.drop (f+(i*4+X.length)+(xs.drop (i*4)).length));obtain⟨J,Q⟩:=nm' (z.take (f+i*4)++X++z.drop (f+i*4+X.length));have y4:(n+m)*4≤c*4:=eL _ (by omega);have y3:(n+m)*4=n*4+m*4:=fH ..;have g2:(i+m)*4=i*4+X.length:=by rw[g0,fH]
   have b1:=Hc F.toList xs X f (i*4) (n*4) s.d H.b ik (by rw[g0,gK]; have:=s.c; omega) z J O.symm Q.symm;have p4:(n-i)*4=n*4-i*4:=gT ..;have R:∀p y U,(Builtin.copy_ #[41,41] p #[.slice (some ⟨g,f+(i+m)*4,none⟩) (n+m-(i+m)) y,.slice (some ⟨g,f+i*4,none⟩) (n+m-i) U]).run prog w.drew=.ok (goInt ((n-i:Nat):Int)) (w.drew.setRow g z.toArray):=fun p y U=>by
    have:=pC (P:=prog) w.drew 41 41 p 141 4 g (f+(i+m)*4) (n+m-(i+m)) y ⟨g,f+i*4,none⟩ (n+m-i) U F 141 (xs.drop (i*4)) (n-i) nR b0 s.b (by simp only[rV]; split<;>omega) L (d1 _ s.b) (by have:=s.c; rw[L,g2]; omega) z0;rw[this,g2,O]
   obtain⟨r,I⟩:=nm' (w.drew.setRow g z.toArray);rw[I]at R;have V:Chg (fun k=>some k=(Value.slice (some ⟨g,f,none⟩) n c).ownBlock) w r:=by rw[←I]; exact (Chg.refl (fun k=>some k=(Value.slice (some ⟨g,f,none⟩) n c).ownBlock) w).drew.setRow (.inr rfl) _
   have a0:r.heap[g]? =some (.cells z.toArray 141 (0,0)):=by rw[←I]; exact setRow_heap w.drew _ _ _ _ _ s.b
   have T:∀p y,(Builtin.copy_ #[41,41] p #[.slice (some ⟨g,f+i*4,none⟩) (n+m-i) y,.slice (some ⟨x,0,none⟩) m m]).run prog r=.ok (goInt m) (r.setRow g J.toArray):=fun p y=>by
    have:=pC (P:=prog) r 41 41 p 141 4 g (f+i*4) (n+m-i) y ⟨x,0,none⟩ m m z.toArray 141 X m nR b0 a0 (by simp only[rV]; split<;>omega) g0 (q.C r V) (by have e1:=b1.2.1; have e2:F.toList.length=F.size:=gK; have:=s.c; simp only[fF]; omega) q.b;rw[this];simp only[Q]
   obtain⟨W3,K⟩:=nm' (r.setRow g J.toArray);rw[K]at T;have HF:=kp (show aM W3 S 141 4 (.slice (some ⟨g,f,none⟩) (n+m) c) (n+m) (xs.take (i*4)++X++xs.drop (i*4))∧Chg (fun k=>some k=(Value.slice (some ⟨g,f,none⟩) n c).ownBlock) w W3 from by
    refine⟨⟨by simp[q.a,H.b]; omega,.inr ⟨g,f,c,J.toArray,rfl,s.a,by rw[←K]; exact setRow_heap _ _ _ _ _ _ a0,by omega,s.E,?_,?_⟩⟩,by rw[←K]; exact V.setRow (.inr rfl) _⟩
    .rw[fF,b1.2.2,gK]; exact s.c
    .rw[Dr,←b1.1,g0,y3])
   have o0:∀lb cb,(callFunc 235 #[.slice (some ⟨x,0,none⟩) m m,.slice (some ⟨g,f+(i+m)*4,none⟩) lb cb]).run prog w=.ok (.value (.bool false)) w:=fun lb cb=>by
    rw[run_callFunc_extern func235 (by kernel_rfl) (by kernel_rfl) (by kernel_rfl) (e:=Extern.SlicesOverlaps.overlaps #[41,41] #[4]) (by kernel_rfl),
     Lib.run_overlaps_apart w 41 4 141 nR 4 (fun w=>by simp[Go.sizeOf,typeInfo,l0,q0]) ⟨x,0,none⟩ ⟨g,f+(i+m)*4,none⟩ m m lb cb (bM o4) 141 141 X.length F.size (by simp[World.shape?,show w.heap[x]? =_ from j1.o]) (by simp[World.shape?,s.b]) (by have:=s.c; omega) (j1.o.frozen _) (j1.o.frozen _)]
    rfl
   have z3:=kp o0;have HA:=kp R;have l1:=kp T;have e4:¬c=i+m:=by omega
   have w1:IntKind.i64.wrap ((i:Int)+(m:Int))=(i:Int)+(m:Int):=by rw[IntKind.wrap_i64]; omega
   have w2:(0:Int)≤(i:Int)+(m:Int):=by omega
   have w3:((i:Int)+(m:Int)).toNat=i+m:=by omega
   have w4:(i:Int)≤(n:Int)+(m:Int):=by omega
   clear O Q y4 y3 g2 b1 p4 R I V a0 T K g0 b0 L z0 d1 ik nk o0;have o0:=z3.o;go_enter func191,ntmps191;go_wp2_with (simp only[o0]);clear o0
   go_still_tail 8,(by kernel_rfl)
   change wpList _ _ _ _ _ w.drew;refine pD _ rfl _ _ 41 41 rfl _ _ rfl rfl (HA.o _ _ _) ?_;go_wp2_with (refine pD (o:=⟨some 82,_,_,_,_,_⟩) r rfl (.tmp 80) (.tmp 81) 41 41 rfl (.slice (some ⟨g,f+i*4,none⟩) (n+m-i) (c-i)) (.slice (some ⟨x,0,none⟩) m m) rfl rfl (l1.o _ _) ?_);go_ret;exact⟨_,rfl,HF.a,HF.B,fun k hk=>.inl hk⟩
end
end Go.Proofs.YtoncgpddjmgbfaaGreat
