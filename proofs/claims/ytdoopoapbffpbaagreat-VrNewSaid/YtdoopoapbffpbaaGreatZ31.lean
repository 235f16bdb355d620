import Derived.Test.YtdoopoapbffpbaaGreatZ24
import Derived.Test.YtdoopoapbffpbaaGreatZ25
import Derived.Test.YtdoopoapbffpbaaGreatZ26
namespace Go.Proofs.YtdoopoapbffpbaaGreat
open Go.RowKit Go.Proofs.Tryz
set_option maxRecDepth 100000
set_option maxHeartbeats 12800000
set_option linter.unusedVariables false
set_option linter.unusedSimpArgs false
section
attribute [-go_sem] loadCellsFrom storeCells
attribute [local go_sem] bC
structure Gw(w:World)(l:List UInt8)(b:Bool)(cs:List Value)(W:World):Prop where
 inn:RIn W (w.heap.size+1) l b
 res:Blk W w.heap.size 29 z'1
 blk:Blk W (w.heap.size+1+1) 29 cs
 low:Bw' w W
section
variable {w W W':World}{l l':List UInt8}{b b':Bool}{cs:List Value}
theorem Gw.new{A:Option Addr}{n c B:Nat}(i:Rd w B A (bv l))(d:B≤w.heap.size)(f:l.length=n)(e:n≤c)(h:c≤maxLen):Gw w l false z'1 ((((w.alloc (.cells z'1a 29)).alloc (.cells #[.slice A n c,.bool false] 144)).alloc (.cells z'1a 29)).setRow (w.heap.size+1+1) z'1a):=by
 have b:=ba' w (.cells z'1a 29);have j:=Blk.new w 29 z'1;have k:=Blk.new (w.alloc (.cells z'1a 29)) 144 [.slice A n c,.bool false];have o:=Blk.new ((w.alloc (.cells z'1a 29)).alloc (.cells #[.slice A n c,.bool false] 144)) 29 z'1;have a:=cL ((b.alloc (by simp) (.cells #[.slice A n c,.bool false] 144)).alloc (by simp; omega) (.cells z'1a 29)) (g:=w.heap.size+1+1) (by omega) z'1a;have m:Blk ((w.alloc (.cells z'1a 29)).alloc (.cells #[.slice A n c,.bool false] 144)) (w.heap.size+1) 144 [.slice A n c,.bool false]:=by simpa using k
 have p:Blk (((w.alloc (.cells z'1a 29)).alloc (.cells #[.slice A n c,.bool false] 144)).alloc (.cells z'1a 29)) (w.heap.size+1+1) 29 z'1:=by simpa using o
 exact⟨⟨A,n,c,(m.alloc _).other (by omega) _,(i.below a d).more (by omega),f,e,h⟩,((j.alloc _).alloc _).other (by omega) _,p.set z'1,a⟩
theorem Gw.call(h:Gw w l b cs W)(c:RIn W' (w.heap.size+1) l' b')(a:Chg (fun i=>i=w.heap.size+1) W W'):Gw w l' b' cs W':=
 ⟨c,h.res.chg a (by omega),h.blk.chg a (by omega),h.low.trans (a.below (fun i c=>by omega) h.low.size)⟩
theorem Gw.put(h:Gw w l b cs W)(j:Nat)(u:Value):Gw w l b (cs.set j u) (W.setCell ⟨w.heap.size+1+1,j,none⟩ u):=
 ⟨h.inn.at_ ((aL (w.heap.size+1+1) W).setCell (aD _) u) (Nat.lt_succ_self _),h.res.otherCell (by omega) j u,h.blk.setCell j u,h.low.setCell (p:=⟨w.heap.size+1+1,j,none⟩) (by simp only; omega) u⟩
theorem Gw.grow(h:Gw w l b cs W)(a:Bw' W W'):Gw w l b cs W':=
 ⟨h.inn.below a,h.res.below a h.res.lt,h.blk.below a h.blk.lt,h.low.on a⟩
theorem Gw.own{α:Type}{enc:α→List Value}{k:Nat}{f:TypeId}{v:Value}{xs:List α}(h:Gw w l b cs W)(c:Ow W (w.heap.size+1+1) f k v enc xs)(e:f≠29)(g:W.grownBy W' v.ownBlock):Gw w l b cs W':=by
 have a:=vT g;have d:=a.below (B:=w.heap.size+1+1) (fun i j=>(c.lt j).1) (dY h.blk.lt);exact⟨h.inn.at_ d (Nat.lt_succ_self _),h.res.chg a (c.ne_blk h.res e),h.blk.chg a (c.ne_blk h.blk e),h.low.trans (d.mono (by omega))⟩
theorem RIn.left{n:Nat}(h:RIn W n l b):∃A k c,W.cell? ⟨n,0,none⟩=some (.slice A k c)∧l.length=k:=by
 obtain⟨A,k,c,a,-,d,-⟩:=h;exact⟨A,k,c,a.cell 0,d⟩
end
theorem Rws.grown{α:Type}{enc:α→List Value}{k base:Nat}{t:TypeId}{v:Value}{xs:List α}{W W':World}{base2:Nat}{ps:List ObV}(b:Ow W base t k v enc xs)(h:Rws W base2 ps)(c:t≠3)(a:W.grownBy W' v.ownBlock):Rws W' base2 ps:=
 ⟨fun z d=>⟨b.other (h.row z d).1 c a,b.other (h.row z d).2 c a⟩,h.sep⟩
theorem Lx{α:Type}{F:RF α}{n:Nat}{l r c:List UInt8}{b b' a:Bool}{x:α}{xs:List α}(h:F l b=(x,r,b'))(d:dC F n r b'=(xs,c,a)):dC F (n+1) l b=(x::xs,c,a):=by
 rw[dC,h];simp only;rw[d]
theorem Ly{α:Type}{F:RF α}{n:Nat}{l r c:List UInt8}{b b' a:Bool}{x:α}{xs:List α}(h:dC F n l b=(xs,r,b'))(d:F r b'=(x,c,a)):dC F (n+1) l b=(xs++[x],c,a):=by
 rw[yV,h];simp only;rw[d]
theorem Ye{k:Nat}(t:Nat→Int)(x:Int):(List.range k).map t++[x]=(List.range (k+1)).map (fun j=>if j=k then x else t j):=by
 rw[Ac,gC]
 congr 1
 .refine List.map_congr_left fun j a=>?_;rw[aC (by have:=List.mem_range.1 a; omega)]
 .simp
theorem Lz{α:Type}(F:RF α)(m:Nat)(l:List UInt8):gP F (m+1) l false=((F l false).1::(gP F m (F l false).2.1 (F l false).2.2).1,(gP F m (F l false).2.1 (F l false).2.2).2):=rfl
theorem Yf(A:Option Addr)(n c B:Nat)(l:List UInt8)(w:World)(hr:Rd w B A (bv l))(hB:B≤w.heap.size)(hl:l.length=n)(hc:n≤c)(hm:c≤maxLen):
  Calls prog 83 #[.slice A n c] w (jW w (eZ l)):=by
 obtain⟨R,hR⟩:=nm' (eZ l);rw[hR];rw[←Yd]at hR;obtain⟨⟨f,l1,b1⟩,s⟩:∃q,cQ l false=q:=⟨_,rfl⟩
 obtain⟨⟨y,l2,b2⟩,Q⟩:∃q,cQ l1 b1=q:=⟨_,rfl⟩
 have K0:=kp (Gw.new hr hB hl hc hm);have x3:=Blk.new ((w.alloc (.cells z'1a 29)).alloc (.cells #[.slice A n c,.bool false] 144)) 29 z'1;have g6:Blk (((w.alloc (.cells z'1a 29)).alloc (.cells #[.slice A n c,.bool false] 144)).alloc (.cells z'1a 29)) (w.heap.size+1+1) 29 z'1:=by simpa using x3
 have o7:=g6.store (P:=prog) (cs':=z'1) rfl rW;have H1:=kp s;have H2:=kp Q;have HR:=kp hR;clear s Q hR hr hB hl hc hm x3 g6;go_enter func83,ntmps83;go_wp2_with fail;refine (lN K0.o.inn).mono ?_;rintro e w1 ⟨rfl,a3,p4⟩;rw[H1.o]at a3 ⊢;have J1:=kp (K0.o.call a3 p4);clear a3 p4;have z1:=J1.o.blk.cell 0;have y1:=J1.o.blk.frozen 0;simp only[aG]at z1;have K1:=kp (J1.o.put 0 (.i f));simp only[aH]at K1;go_wp2_with fail;refine (lN K1.o.inn).mono ?_;rintro e w2 ⟨rfl,b3,q4⟩;rw[H2.o]at b3 ⊢;have J2:=kp (K1.o.call b3 q4);clear b3 q4;have z2:=J2.o.blk.cell 2;have y2:=J2.o.blk.frozen 2;simp only[aG,aK]at z2;have K2:=kp (J2.o.put 2 (.i y));simp only[aH,aI]at K2;go_wp2_with fail;clear o7 z1 y1 z2 y2
 go_loopw [6] (fun i wr=>∃k:Nat,k≤4∧i=.i k∧∃(t:Nat→Int)(r:List UInt8)(b:Bool),dC cQ k l2 b2=((List.range k).map t,r,b)∧(∀j,k≤j→t j=0)∧Gw w r b [.i f,.slice none 0 0,.i y,.i (t 0),.i (t 1),.i (t 2),.i (t 3),.slice none 0 0] wr) (fun i _=>4-(intOf i).toNat)
 case atStart=>exact⟨0,by omega,rfl,fun _=>0,l2,b2,rfl,fun _ _=>rfl,K2.o⟩
 case round=>
  obtain⟨k,hk,rfl,t,r,b,g5,z5,p5⟩:=hrel;have HK:=k'3 g5 z5 p5;clear g5 z5 p5
  by_cases e5:k<4
  .have g3:(k:Int)<4:=by omega
   obtain⟨⟨x,r',b'⟩,h3⟩:∃q,cQ r b=q:=⟨_,rfl⟩
   have H3:=kp h3;clear h3;go_wp2_with fail;refine (lN HK.C.inn).mono ?_;rintro e w3 ⟨rfl,d3,y4⟩;rw[H3.o]at d3 ⊢;have J3:=kp (HK.C.call d3 y4);clear d3 y4;have z3:=(J3.o.blk.cell (3+k)).trans (Ll e5 _ _ _ _ t);have y3:=J3.o.blk.frozen (3+k);have j3:=J3.o.put (3+k) (.i x);rw[Lm e5]at j3;have K3:=kp j3;clear j3;go_wp2_with fail;go_roundw
   case rel=>
    refine⟨k+1,by omega,by go_num,fun j=>if j=k then x else t j,r',b',?_,fun j hj=>?_,K3.o⟩
    .rw[Ly HK.a H3.o,Ye]
    .simp only[];rw[aC (by omega)];exact HK.b j (by omega)
   case measure=>simp[intOf]; omega
  .obtain rfl:k=4:=by omega
   have e4:=kp (show dC cQ 4 l2 b2=([t 0,t 1,t 2,t 3],r,b) from HK.a);have K6:=kp HK.C;clear HK;generalize t 0=D at *;generalize t 1=F at *;generalize t 2=G at *;generalize t 3=H at *;obtain⟨⟨n7,l7,b7⟩,h7⟩:∃q,cQ r b=q:=⟨_,rfl⟩
   obtain⟨S,m3,d5⟩:=vS r b;rw[h7]at m3;simp only at m3;subst m3;have H7:=kp h7;have l6:=kp (show dC cQ 7 l false=([f,y,D,F,G,H,(S:Int)],l7,b7) from Lx H1.o (Lx H2.o (Ly e4.o H7.o)));clear h7 e4;go_wp2_with fail;refine (lN K6.o.inn).mono ?_;rintro e w7 ⟨rfl,e3,z4⟩;rw[H7.o]at e3 ⊢;have K7:=kp (K6.o.call e3 z4);clear e3 z4;obtain⟨N,hN⟩:=nm' (min S 257);obtain⟨⟨g,l8,cD⟩,hQ⟩:∃q,gP jO N l7 b7=q:=⟨_,rfl⟩
   have d0:=kp (show (if cD=true∨l8≠[]∨cP f=false∨(S:Int)≠g.length then none else if cO (eS f y D F G H g)=true then some (eS f y D F G H g) else none)=R from by
    rw[←HR.o];unfold Dx;rw[l6.o];simp only[];rw[eR,hN,hQ])
   have HN:=k'2 hN d5;have HQ:=kp hQ;clear hN hQ d5;go_wp2_with fail
   go_loopw [8] (fun i wr=>∃k:Nat,k≤N∧i=.i k∧∃(ps:List ObV)(r:List UInt8)(b:Bool)(ov:Value),(ps.map (·.x)++(gP jO (N-k) r b).1=g∧(gP jO (N-k) r b).2=(l8,cD)∧ps.length=k)∧Gw w r b [.i f,ov,.i y,.i D,.i F,.i G,.i H,.slice none 0 0] wr∧Ow wr (w.heap.size+1+1) 90 5 ov ObV.cells ps∧Rws wr (w.heap.size+1+1) ps) (fun i _=>N-(intOf i).toNat)
   case atStart=>exact⟨0,by omega,rfl,[],l7,b7,_,⟨by rw[Nat.sub_zero,HQ.o]; rfl,by rw[Nat.sub_zero,HQ.o],rfl⟩,K7.o,Ow.nil _ _ _ _ _,⟨fun _ h=>(nomatch h),List.Pairwise.nil⟩⟩
   case round=>
    obtain⟨k,hk,rfl,ps,r,b,ov,hq,q2,m5,q5⟩:=hrel;have m:=k'3 q2 m5 q5;have HP:=kp hq;obtain⟨f1,f2⟩:=q2.inn.facts;have z7:(k:Int)≤257:=by have:=HN.a; omega
    clear hq q2 m5 q5 f2
    by_cases d1:k<N∧b=false
    .obtain⟨b5,rfl⟩:=d1;have g1:decide ((k:Int)<(S:Int))=true:=by have:=HN.a; simp; omega
     have g2:decide ((k:Int)≤256)=true:=by have:=HN.a; simp; omega
     have q7:(k:Int)<(S:Int):=by have:=HN.a; omega
     have y7:(k:Int)≤256:=by have:=HN.a; omega
     obtain⟨⟨x,r',b'⟩,hx⟩:∃q,jO r false=q:=⟨_,rfl⟩
     have HX:=kp hx;have q6:=kp (by have:=Xy m.a.inn; rw[hx]at this; exact this);have m2:=kp (show ps.map (·.x)++x::(gP jO (N-(k+1)) r' b').1=g∧(gP jO (N-(k+1)) r' b').2=(l8,cD)∧ps.length=k from by
      have s:=HP.o;rw[show N-k=N-(k+1)+1 by omega,Lz,hx]at s;exact s)
     clear hx;go_wp2_with fail;refine (q6.o).mono ?_;rintro e w8 ⟨⟨⟨J,⟨I,K⟩,ws,ls⟩,U,T⟩,rfl,e1,m0,o0,o4,a5,p1⟩;change (⟨J,⟨I,K⟩,ws,ls⟩:Ob)=x at e1;simp only[ObV.cells];have l5:∀z∈ps,∀i,i=w.heap.size+1→z.wv.ownBlock≠some i∧z.lv.ownBlock≠some i:=fun z hz i L=>⟨fun e=>by have s:=((m.C.row z hz).1).lt e; omega,fun e=>by have s:=((m.C.row z hz).2).lt e; omega⟩
     have b6:w.heap.size+1+1≤wr.heap.size:=dY m.a.blk.lt;have K8:=kp (m.a.call a5 p1);have j5:=(m.b).chg p1 fun i L e=>by have s:=(m.b).lt L; omega
     have o5:Rws w8 (w.heap.size+1+1) (ps++[⟨⟨J,⟨I,K⟩,ws,ls⟩,U,T⟩]):=(m.C.chg p1 l5).snoc ((show Ow w8 wr.heap.size _ 1 U i1 ws from by rw[show x.ws=ws from by rw[←e1]]at m0; exact m0).mono b6) ((show Ow w8 wr.heap.size _ 1 T i1 ls from by rw[show x.ls=ls from by rw[←e1]]at o0; exact o0).mono b6) o4 fun z hz=>by
      have a1:=fun i L=>((m.C.row z hz).1).lt (i:=i) L;have a2:=fun i L=>((m.C.row z hz).2).lt (i:=i) L;refine⟨fun i L hj=>?_,fun i L hj=>?_,fun i L hj=>?_,fun i L hj=>?_⟩
      .have:=a1 i L; have:=m0.lt hj; omega
      .have:=a1 i L; have:=o0.lt hj; omega
      .have:=a2 i L; have:=m0.lt hj; omega
      .have:=a2 i L; have:=o0.lt hj; omega
     have o3:=tX J I K m0.one o0.one;have nz:=Blk.new w8 90 z'5;have d6:=nz.store (P:=prog) (cs':=[.i J,.i I,.i K,U,T]) rfl o3;have nb:=nz.set [.i J,.i I,.i K,U,T];have j1:=cL (ba' w8 (.cells z'5a 90)) (aD _) #[.i J,.i I,.i K,U,T];obtain⟨W9,m4⟩:=nm' ((w8.alloc (.cells z'5a 90)).setRow w8.heap.size #[.i J,.i I,.i K,U,T]);rw[m4]at d6 nb j1;have g7:=nb.load (P:=prog) (k:=5) rfl;have K9:=kp (K8.o.grow j1);have z9:=K9.o.blk.cell 1;simp only[aG,aK]at z9;have q3:Sl (W9.alloc (.cells #[.i J,.i I,.i K,U,T] 90)) (W9.heap.size+1) (.slice (some ⟨W9.heap.size,0,none⟩) 1 1) ObV.cells [⟨⟨J,⟨I,K⟩,ws,ls⟩,U,T⟩]:=eQ (enc:=ObV.cells) W9 90 ⟨⟨J,⟨I,K⟩,ws,ls⟩,U,T⟩;have o2:=(j5.below j1).alloc (.cells #[.i J,.i I,.i K,U,T] 90);have y0:=ba' W9 (.cells #[.i J,.i I,.i K,U,T] 90);obtain⟨W2,l4⟩:=nm' (W9.alloc (.cells #[.i J,.i I,.i K,U,T] 90));rw[l4]at q3 o2 y0;have b0:=kp (K9.o.grow y0);have e0:=k'5 q3 o2 y0 ((o5.below j1).below y0) (show w.heap.size+1+1≤W2.heap.size from dY b0.o.blk.lt);have HH:=k'2 o3 e1;clear q3 o2 y0 o5 a5 p1 o3 l5 m0 o0 o4 j5 nz nb j1 f1 e1;go_wp2_with (at_builtin; refine eU (enc:=ObV.cells) W2 rfl (.tmp 50) (.tmp 52) 25 rfl (w.heap.size+1+1) 90 pS nE rfl (by omega) cM e0.b rfl e0.a rfl (fun a ha=>by rw[bQ.1 ha]; exact HH.a) ?_ ?_ e0.E ?_)
     .have s:=HP.C; unfold maxLen; (try simp); omega
     .have s:=HP.C; (try simp); omega
     intro v3 w3 p3 p2;obtain⟨A3,c3,a6,-⟩:=eD p3;rw[show (ps++[(⟨⟨J,⟨I,K⟩,ws,ls⟩,U,T⟩:ObV)]).length=ps.length+1 by simp]at a6;subst a6;have q0:=kp (b0.o.own e0.b (by decide) p2);have z6:=kp (Rws.grown e0.b e0.d (by decide) p2);have p6:=kp p3;clear p3 p2 l4 m4 d6 g7 z9;have p7:=q0.o.blk.cell 1;have d8:=q0.o.blk.frozen 1;simp only[aG,aK]at p7;have Z:=kp (q0.o.put 1 (.slice A3 (ps.length+1) c3));simp only[aH,aI]at Z;have g4:=k'2 (p6.o.blk_set q0.o.blk (by decide) 1 (.slice A3 (ps.length+1) c3)) (z6.o.blk_set q0.o.blk (by decide) 1 (.slice A3 (ps.length+1) c3));go_wp2_with fail;go_roundw
     case rel=>
      refine⟨k+1,by omega,by go_num,ps++[⟨⟨J,⟨I,K⟩,ws,ls⟩,U,T⟩],r',b',_,⟨?_,m2.b,by simp[m2.C]⟩,Z.o,g4.a,g4.B⟩;rw[←m2.a,gC,cR]
      congr 1
      show (⟨J,⟨I,K⟩,ws,ls⟩:Ob)::_=x::_;rw[show x=⟨J,⟨I,K⟩,ws,ls⟩ from HH.B.symm];rfl
     case measure=>simp[intOf]; omega
    .have hE:g=ps.map (·.x)∧l8=r∧cD=b:=by
      have s:=HP.o;have e:gP jO (N-k) r b=([],r,b):=by
       cases b with
       |true=>exact vR _ _ _
       |false=>
        rw[show N-k=0 by
         have:¬k<N:=fun h=>d1 ⟨h,rfl⟩;omega]
        rfl
      rw[e]at s;obtain⟨Q,h3,-⟩:=s;injection h3 with h3 h4
      exact⟨by rw[←Q,fS],h3.symm,h4.symm⟩
     obtain⟨A8,k8,c8,q8,l3⟩:=m.a.inn.left;have HE:=kp hE;have j2:=kp l3
     cases b with
     |true=>
      have a0:=kp (show R=none from by rw[←d0.o,aE (.inl HE.C)]);have hS:=m.a.res.store (P:=prog) (cs':=z'1) rfl rW;have O:=k'2 (m.a.res.set z'1) (cL m.a.low (aD _) z'1a);clear hE d1 l3;have j0:(k:Int)<(S:Int)∧(k:Int)≤256∨(k:Int)<(S:Int)∧¬(k:Int)≤256∨¬(k:Int)<(S:Int):=by omega
      rcases j0 with⟨g1,g2⟩|⟨g1,g2⟩|g1
      all_goals
       go_wp2_with fail;have Y:=O.a.load (P:=prog) (k:=8) rfl;exact aU (v:=.tuple #[.agg z'1a,.i 60]) (by simp[results,wR,go_sem,Y]) rfl (jW.no a0.o O.B)
     |false=>
      have b5:k=N:=by
       have:¬k<N:=fun h=>d1 ⟨h,rfl⟩;omega
      have j0:(k:Int)<(S:Int)∧¬(k:Int)≤256∨¬(k:Int)<(S:Int):=by have:=HN.a; omega
      clear hE d1 b5 l3;obtain⟨V,X,m7⟩:∃A c,ov=.slice A ps.length c:=by
       obtain⟨A0,c0,h0,-⟩:=eD m.b;exact⟨A0,c0,h0⟩
      subst m7;have z1:=m.a.blk.cell 1;have z0:=m.a.blk.cell 0;simp only[aG,aK]at z0 z1
      by_cases e7:0<k8
      .have a0:=kp (show R=none from by
        rw[←d0.o,aE (.inr (.inl (by rw[HE.b]; intro h; rw[h]at j2; have:=j2.o; simp at this; omega)))])
       have hS:=m.a.res.store (P:=prog) (cs':=z'1) rfl rW;have O:=k'2 (m.a.res.set z'1) (cL m.a.low (aD _) z'1a);rcases j0 with⟨g1,g2⟩|g1
       all_goals
        go_wp2_with fail;have Y:=O.a.load (P:=prog) (k:=8) rfl;exact aU (v:=.tuple #[.agg z'1a,.i 60]) (by simp[results,wR,go_sem,Y]) rfl (jW.no a0.o O.B)
      obtain rfl:k8=0:=by omega
      clear e7
      cases hrg:cP f with
      |false=>
       have a0:=kp (show R=none from by rw[←d0.o,aE (.inr (.inr (.inl hrg)))]);have p0:=kp (fun W=>by have:=oK.2 f W; rw[hrg]at this; exact this);clear hrg;have hS:=m.a.res.store (P:=prog) (cs':=z'1) rfl rW;have O:=k'2 (m.a.res.set z'1) (cL m.a.low (aD _) z'1a);rcases j0 with⟨g1,g2⟩|g1
       all_goals
        go_wp2_with fail;refine ms' (p0.o _) ?_;go_wp2_with fail;have Y:=O.a.load (P:=prog) (k:=8) rfl;exact aU (v:=.tuple #[.agg z'1a,.i 60]) (by simp[results,wR,go_sem,Y]) rfl (jW.no a0.o O.B)
      |true=>
       have j4:=kp (fun W=>by have:=oK.2 f W; rw[hrg]at this; exact this);have p0:=kp hrg;clear hrg
       by_cases l0:(S:Int)=(ps.length:Int)
       .have j7:((S:Int) != (ps.length:Int))=false:=by simpa using l0
        have a4:=kp (show ¬(cD=true∨l8≠[]∨cP f=false∨(S:Int)≠g.length) from by
         rintro (h|h|h|h)
         .rw[HE.C]at h; cases h
         .rw[HE.b]at h;exact h (hJ j2.o)
         .rw[p0.o]at h; cases h
         .rw[HE.a,cW]at h;exact h l0)
        clear l0;rcases j0 with⟨g1,g2⟩|g1
        all_goals
         go_wp2_with fail;refine ms' (j4.o _) ?_;have m6:=kp (show aZ obP N l7=some (g,l8) from by
          cases hb7:b7 with
          |true=>
           have s:=HQ.o;rw[hb7,vR]at s;injection s with _ s
           injection s with _ s
           rw[HE.C]at s
           cases s
          |false=>
           have s:=HQ.o;rw[hb7]at s
           cases hm:aZ obP N l7 with
           |none=>
            have Q:=(yW.till N).no l7 hm;rw[s]at Q;exact absurd (Q.symm.trans HE.C) (by decide)
           |some q=>
            obtain⟨os,rr⟩:=q;have Q:=(yW.till N).ok l7 os rr hm;rw[s]at Q;injection Q with Q h3;injection h3 with h3 h4;rw[Q,h3])
         have j6:=kp (qC (fun l x r h=>Lk h) N l7 g l8 m6.o);have y6:=kp (fun p(hp:p∈ps)=>j6.a p.x (by rw[HE.a]; exact cX.2 ⟨p,hp,rfl⟩));have d4:=kp (show ps.length≤257 from by have s:=HN.a; have Q:=HP.C; omega);have o6:=kp (show inR y from by
          obtain⟨u,hu,a8⟩:=vS l1 b1;rw[H2.o]at hu;simp only at hu;rw[hu];exact⟨by omega,by omega⟩)
         go_wp2_with fail;have z0:=m.a.blk.cell 0;have z1:=m.a.blk.cell 1;simp only[aG,aK]at z0 z1;clear f1 q8;go_wp2_with fail;refine (Ya f (.slice V ps.length X) ps _ _ p0.o (m.b.sl cM) (aD _) (by have:=d4.o; omega) y6.o).mono ?_;rintro e w9 ⟨v9,rfl,q1,o1⟩;obtain⟨M,c9,rfl,-⟩:=eD q1;have y5:cC (ps.map (·.x.b)) f.toNat 0=cC (g.map fun x:Ob=>x.b) f.toNat 0:=by rw[HE.a,pC]; rfl
         rw[y5]at q1 ⊢;have K9:=kp (m.a.grow o1);have O9:=k'3 (m.b.below o1) (m.C.below o1) (show OR w9 (fun i=>w.heap.size≤i) 88 2 _ Bk.cells _ from OR.of_ow q1 fun i L _=>aB m.a.low.size L);clear q1 o1 z0 z1 y5;have z9:=K9.o.blk.cell 7;have y9:=K9.o.blk.frozen 7;simp only[aG,aK]at z9;have b0:=kp (K9.o.put 7 (.slice M (cC (g.map fun x:Ob=>x.b) f.toNat 0).length c9));simp only[aH,aI]at b0;have e2:=kp (show Hv (w9.setCell ⟨w.heap.size+1+1,7,none⟩ (.slice M (cC (g.map fun x:Ob=>x.b) f.toNat 0).length c9)) w.heap.size ⟨eS f y D F G H g,.slice V ps.length X,.slice M (cC (g.map fun x:Ob=>x.b) f.toNat 0).length c9⟩ ps from
          ⟨(O9.a.mono (by omega)).blk_set K9.o.blk (by decide) _ _,(O9.b.mono (by omega)).blk_set K9.o.blk (by decide) _ _,HE.a,OR.blk_set O9.C K9.o.blk (by decide) _ _⟩)
         have Y:=b0.o.blk.load (P:=prog) (k:=8) rfl;have m1:=kp (Ij ⟨eS f y D F G H g,.slice V ps.length X,.slice M (cC (g.map fun x:Ob=>x.b) f.toNat 0).length c9⟩ ps _ _ e2.o.wv.hpAt (aD _) (by have:=d4.o; omega) (by
          have s:=eF p0.o;have Q:2 ^ f.toNat≤2 ^ 8:=oX (by omega) (by omega);have h3:=yP (g.map fun x:Ob=>x.b) f.toNat 0;show (cC (g.map fun x:Ob=>x.b) f.toNat 0).length≤900000;omega) o6.o)
         cases hh:cO (eS f y D F G H g) with
         |false=>
          have a0:=kp (show R=none from by rw[←d0.o,aC a4.o,aC (by rw[hh]; decide)]);rw[show cO (HpV.x ⟨eS f y D F G H g,.slice V ps.length X,.slice M (cC (g.map fun x:Ob=>x.b) f.toNat 0).length c9⟩)=false from hh]at m1;clear hh;go_wp2_with fail;refine mb' (m1.o) fun e6 g0=>?_;have Z:=kp (b0.o.grow g0);clear g0 Y;have hS:=Z.o.res.store (P:=prog) (cs':=z'1) rfl rW;have O:=k'2 (Z.o.res.set z'1) (cL Z.o.low (aD _) z'1a);go_wp2_with fail;have Y:=O.a.load (P:=prog) (k:=8) rfl;exact aU (v:=.tuple #[.agg z'1a,.i 60]) (by simp[results,wR,go_sem,Y]) rfl (jW.no a0.o O.B)
         |true=>
          have d7:=kp (show R=some (HpV.x ⟨eS f y D F G H g,.slice V ps.length X,.slice M (cC (g.map fun x:Ob=>x.b) f.toNat 0).length c9⟩) from by rw[←d0.o,aC a4.o,aE hh]);rw[show cO (HpV.x ⟨eS f y D F G H g,.slice V ps.length X,.slice M (cC (g.map fun x:Ob=>x.b) f.toNat 0).length c9⟩)=true from hh]at m1;clear hh;go_wp2_with fail;refine mb' (m1.o) fun e6 g0=>?_;have Z:=kp (b0.o.grow g0);have a7:=kp (e2.o.below g0);clear g0 Y;have Y:=Z.o.blk.load (P:=prog) (k:=8) rfl;have hS:=Z.o.res.store (P:=prog) (cs':=[.i f,.slice V ps.length X,.i y,.i D,.i F,.i G,.i H,.slice M (cC (g.map fun x:Ob=>x.b) f.toNat 0).length c9]) rfl (HpV.one (p:=⟨eS f y D F G H g,.slice V ps.length X,.slice M (cC (g.map fun x:Ob=>x.b) f.toNat 0).length c9⟩) e2.o.obs.one rfl);have d2:=k'3 (Z.o.res.set [.i f,.slice V ps.length X,.i y,.i D,.i F,.i G,.i H,.slice M (cC (g.map fun x:Ob=>x.b) f.toNat 0).length c9]) (cL Z.o.low (aD _) #[.i f,.slice V ps.length X,.i y,.i D,.i F,.i G,.i H,.slice M (cC (g.map fun x:Ob=>x.b) f.toNat 0).length c9]) (a7.o.chg Z.o.res ((Chg.refl (fun i=>i=w.heap.size) e6).setRow (.inr rfl) (List.toArray [.i f,.slice V ps.length X,.i y,.i D,.i F,.i G,.i H,.slice M (cC (g.map fun x:Ob=>x.b) f.toNat 0).length c9])) (by decide) (by decide) (by decide));go_wp2_with fail;have hR:=d2.a.load (P:=prog) (k:=8) rfl;exact aU (v:=.tuple #[.agg (HpV.cells ⟨eS f y D F G H g,.slice V ps.length X,.slice M (cC (g.map fun x:Ob=>x.b) f.toNat 0).length c9⟩).toArray,.i 0]) (by simp[results,wR,go_sem,hR,HpV.cells,eS]) rfl (jW.yes (p:=⟨eS f y D F G H g,.slice V ps.length X,.slice M (cC (g.map fun x:Ob=>x.b) f.toNat 0).length c9⟩) d7.o d2.C d2.b)
       .have j7:((S:Int) != (ps.length:Int))=true:=by simpa using l0
        have a0:=kp (show R=none from by rw[←d0.o,aE (.inr (.inr (.inr (by rw[HE.a,cW]; exact l0))))]);clear l0;have hS:=m.a.res.store (P:=prog) (cs':=z'1) rfl rW;have O:=k'2 (m.a.res.set z'1) (cL m.a.low (aD _) z'1a);rcases j0 with⟨g1,g2⟩|g1
        all_goals
         go_wp2_with fail;refine ms' (j4.o _) ?_;go_wp2_with fail;have Y:=O.a.load (P:=prog) (k:=8) rfl;exact aU (v:=.tuple #[.agg z'1a,.i 60]) (by simp[results,wR,go_sem,Y]) rfl (jW.no a0.o O.B)
end
end Go.Proofs.YtdoopoapbffpbaaGreat
