import Derived.Test.YtoncgpddjmgbfaaGreatZ05
namespace Go.Proofs.YtoncgpddjmgbfaaGreat
open Go.RowKit Go.Proofs.Tryz
set_option maxRecDepth 100000
set_option maxHeartbeats 12800000
set_option linter.unusedVariables false
set_option linter.unusedSimpArgs false
section
theorem Gq(v:Value)(w:World):Sem.run prog (Instr.typeAssert (.iface 262 v) 20 262 false) w=.ok v w:=by kernel_rfl
attribute [local go_sem] Gq
theorem Bg{base g:Nat}{v:Value}{l:List Bk}(w:World)(h:Que w base g v l):
  Calls prog 325 #[.pointer (some ⟨g,0,none⟩)] w fun e w'=>e=.returned (.i l.length)∧w'=w:=by
 obtain⟨A,c,rfl,_⟩:=dO h.row;have a:=h.blk.cell 0;simp only[aP]at a;clear h;go_enter func325,ntmps325;go_wp2_with fail;go_ret;exact⟨rfl,rfl⟩
section
variable {α:Type}{enc:α→List Value}{w w':World}{base k g:Nat}{t t2:TypeId}{v:Value}{l:List α}{cs:List Value}{S:Nat→Prop}
theorem Ow.chg(h:Ow w base t k v enc l)(g:Chg S w w')(j:∀i,v.ownBlock=some i→¬S i):Ow w' base t k v enc l:=by
 refine⟨h.1,?_⟩;rcases h.2 with e|⟨b,cap,d,c,f,a,r⟩
 .exact .inl e
 .exact .inr ⟨b,cap,d,c,f,(g.block b (eT.1 a).1 (j b (by rw[c]; rfl))).trans a,r⟩
theorem Ow.ne_blk(h:Ow w base t k v enc l)(a:Blk w g t2 cs)(c:t≠t2):v.ownBlock≠some g:=fun d=>by
 obtain⟨c1,f,b⟩:=Lib.ownsRow_kind h g d;have:=(show w.heap[g]? =_ from a).symm.trans b;injection this with e;injection e with _ e2;exact c e2.symm
theorem Ow.front{n c b:Nat}{x:α}(h:Ow w base t k (.slice (some ⟨b,0,none⟩) (n+1) c) enc (l++[x]))(d:∀a,(enc a).length=k):Ow w base t k (.slice (some ⟨b,0,none⟩) n c) enc l:=by
 have y:=h.1;unfold Ow at h ⊢;rw[bF,lH,kE]at h;rcases h.2 with⟨e,_⟩|⟨s,cap,g,e,j,m,z,o,q,r⟩
 .cases e
 .injection e with e1 e2 i
  subst i;injection e1 with e1
  injection e1 with e1
  subst e1;have p:n=l.length:=by omega
  subst p;refine⟨cW k d l,.inr ⟨b,c,g,rfl,j,m,by omega,o,q,?_⟩⟩;have f:=bA (List.take (l.length*k)) r;rw[kC,nO (eL _ (by omega)),←cW k d l,List.take_left]at f;rw[←cW k d l];exact f
end
theorem Qp{base g:Nat}{v:Value}{l:List Bk}(x:Bk)(w:World)(h:Que w base g v (l++[x]))(z:l.length<1000000):
  Calls prog 327 #[.pointer (some ⟨g,0,none⟩)] w fun e w'=>e=.returned (.iface 262 (.agg x.cells.toArray))∧∃v',Que w' base g v' l∧QTo w w' g v v':=by
 obtain⟨b,c,rfl,A,B,d,D,j⟩:=h.at_ l.length (by simp);obtain⟨r,s,_,_⟩:=j l.length (by simp);have q:=h.blk.cell 0;simp only[aP]at q;have p:atB (l++[x]) l.length=x:=by rw[xO (by simp)]; simp
 rw[p]at r s;rw[bF,lH]at *;have H:=kp h;have E:=h.ne;have F:=h.blk.frozen 0;have C:=h.blk.lt;obtain⟨n,k⟩:=nm' l.length;rw[k]at z d r s q;clear h j p;go_enter func327,ntmps327;go_wp2_with fail;refine bI (v:=.iface 262 (.agg x.cells.toArray)) (by simp[results,results327,go_sem]; rfl) rfl ⟨rfl,?_⟩;have m:=(k▸H.o.row:Ow w base 262 2 (.slice (some ⟨b,0,none⟩) (n+1) c) Bk.cells (l++[x])).front cO;have d:=((Chg.refl (fun i=>i=g) w).setCell (.inr rfl) 0 (.slice (some ⟨b,0,none⟩) n c)).alloc (.cells #[.i x.a,.i x.o] 262);exact⟨_,⟨(H.o.blk.setCell 0 _).alloc _,m.chg d (fun i f y=>m.ne_blk H.o.blk (by decide) (y▸f)),H.o.lo⟩,d.mono fun i _ f=>.inl f,fun _ h=>.inl h⟩
theorem sP{α:Type}{enc:α→List Value}{w w':World}{B b a n c:Nat}{S:Nat→Prop}{l:List α}(h:Sl w B (.slice (some ⟨b,a,none⟩) n c) enc l)(m:Chg S w w')(g:¬S b)(i:b<w.heap.size):Sl w' B (.slice (some ⟨b,a,none⟩) n c) enc l:=by
 obtain⟨A,c2,e,p,d,f⟩:=h
 cases e;refine⟨_,_,rfl,?_,d,f⟩;rcases p with h|⟨r,s,e,k,o⟩
 .exact .inl h
 .cases e;exact .inr ⟨_,_,rfl,k,fun j u q=>(World.cell?_of_block (m.block b i g)).trans (o j u q)⟩
theorem Ow.lt{α:Type}{enc:α→List Value}{w:World}{base k:Nat}{t:TypeId}{v:Value}{l:List α}(h:Ow w base t k v enc l){i:Nat}(a:v.ownBlock=some i):base≤i∧i<w.heap.size:=World.ownsRow.lt h i a
theorem Que.blk_chg{w w':World}{base g:Nat}{v:Value}{l:List Bk}(h:Que w base g v l)(a:Chg (fun i=>v.ownBlock=some i) w w'):Blk w' g 373 [v]:=by
 refine h.blk.chg a fun c=>?_;obtain⟨c1,d,b⟩:=Lib.ownsRow_kind h.row g c;have:=(show w.heap[g]? =_ from h.blk).symm.trans b;simp at this
theorem Qq{base g:Nat}{v:Value}{l:List Bk}(x:Bk)(w:World)(h:Que w base g v l)(D:l.length<1000000)(f:base≤w.heap.size):
  Calls prog 328 #[.pointer (some ⟨g,0,none⟩),.iface 262 (.agg x.cells.toArray)] w fun e w'=>e=.returned (.tuple #[])∧∃v',Que w' base g v' (l++[x])∧QTo w w' g v v':=by
 have H:=kp h;have m:=kp (fun W(c:Chg (fun i=>v.ownBlock=some i) w W∧Ow W base 262 2 v Bk.cells l)=>h.blk_chg c.1);have y:=kp D;show Calls prog _ #[_,.iface _ (.agg #[.i x.a,.i x.o])] _ _;clear h D;go_enter func328,ntmps328;go_wp2_with fail;refine fM 11 (fun W=>Chg (fun i=>v.ownBlock=some i) w W∧Ow W base 262 2 v Bk.cells l) (jJ 8 fun i=>v.ownBlock=some i) (by kernel_rfl) (by kernel_rfl) ⟨(Chg.refl _ _).drew,H.o.row.below (bL (aH _ _))⟩ ?_
 iterate 7 (refine bE ?_; apply Exists.intro)
 refine bJ (fun u W=>∃b,u=.slice (some ⟨b,0,none⟩) 1 1∧(b<W.heap.size∧v.ownBlock≠some b)∧Sl W (b+1) u Bk.cells [x]) ?_;refine bJ (fun u W=>Ow W base 262 2 u Bk.cells (l++[x])∧∀k,u.ownBlock=some k→v.ownBlock=some k∨w.heap.size≤k) ?_
 iterate 2 (refine bE ?_; apply Exists.intro)
 refine cC ⟨?pers,?walk⟩
 case walk=>
  iterate 4
   apply bB (by kernel_rfl) (by intro t w h; cases h; exact trivial) rfl
   .intro W c d; go_wp2_with fail;exact⟨rfl,_,rfl,c,cN (by decide) (aH _ _),rfl⟩
   simp only[Act.put,aE,aC,aD]
  apply bB (by kernel_rfl) (by intro t w h; cases h; exact trivial) rfl
  .intro W c d; have q:=(m.o W c).cell 0; simp only[aP]at q; go_wp2_with fail;exact⟨rfl,_,rfl,c,cN (by decide) (aH _ _),rfl⟩
  simp only[Act.put,aE,aC,aD]
  iterate 2
   apply bB (by kernel_rfl) (by intro t w h; cases h; exact trivial) rfl
   .intro W c d; go_wp2_with fail;exact⟨rfl,_,rfl,c,cN (by decide) (aH _ _),rfl⟩
   simp only[Act.put,aE,aC,aD]
  refine⟨fun W c d=>?_,fun V=>?_⟩
  .go_wp2_with fail;exact⟨rfl,_,rfl,⟨c.1.alloc _,c.2.alloc _⟩,cN (by decide) (ba' _ _),_,rfl,⟨by simp,fun r=>by have:=(c.2.lt r).2; omega⟩,gG (enc:=Bk.cells) W 262 x⟩
  simp only[Act.put,aE,aC,aD];refine⟨fun W c d=>?_,fun X=>?_⟩
  .have F:=d 11 (bO (by kernel_rfl));obtain⟨b,rfl,T,Q⟩:=F;have J:base≤W.heap.size:=aB f c.1.size;go_wp2_with (at_builtin; refine jD (enc:=Bk.cells) W rfl (.tmp 8) (.tmp 11) 38 rfl base 262 nY iH rfl (by omega) cO c.2 rfl Q rfl (fun a _=>lJ a) ?_ ?_ J ?_)
   .have:=y.o; unfold maxLen; show l.length+1≤_; omega
   .have:=y.o; show (l.length+1)*16≤_; omega
   intro v' S N O C K;exact⟨rfl,_,rfl,⟨c.1.trans (eX C) (fun _ _ h=>h),O⟩,pA (eX C),N,fun k L=>(K k L).imp id (aB c.1.size)⟩
  simp only[Act.put,aE,aC,aD]
  iterate 2
   apply bB (by kernel_rfl) (by intro t w h; cases h; exact trivial) rfl
   .intro W c d; go_wp2_with fail;exact⟨rfl,_,rfl,c,cN (by decide) (aH _ _),rfl⟩
   simp only[Act.put,aE,aC,aD]
  intro W c d;have j:=d 12;obtain⟨j,A⟩:=j;have q:=(m.o W c).cell 0;have U:=(m.o W c).frozen 0;have E:=kp c;have z:=kp (m.o W c);have p:=kp j;have B:=kp A;simp only[bS,bU,aP]at q ⊢;obtain⟨R,c8,rfl,_,_⟩:=dO j;rw[bF,lH]at p B;clear d c j A;go_wp2_with fail;go_end0;refine⟨rfl,_,⟨z.o.setCell 0 _,p.o.chg ((Chg.refl (fun i=>i=g) W).setCell (.inr rfl) 0 _) (fun i s r=>p.o.ne_blk z.o (by decide) (r▸s)),H.o.lo⟩,(E.a.mono fun i _ s=>.inr s).setCell (.inr (.inl rfl)) 0 _,B.o⟩
 case pers=>
  refine⟨pv',pv',pv',pv',pv',pv',pv',?_,?_,pv',pv',trivial⟩
  .rintro i u W W' _ ⟨b,rfl,f,P⟩ n;exact⟨b,rfl,⟨cY f.1 (lQ n).size,f.2⟩,sP P (lQ n) f.2 f.1⟩
  .rintro i u W W' M ⟨G,I⟩ n;exact⟨G.below (pB n M),I⟩
end
section
theorem Gr(a:Addr)(w:World):Sem.run prog (method 511 367 (.agg #[.pointer (some a)]) "Len") w=.ok (325,.pointer (some a)) w:=by kernel_rfl
theorem Gs(a:Addr)(w:World):Sem.run prog (method 511 367 (.agg #[.pointer (some a)]) "Less") w=.ok (326,.pointer (some a)) w:=by kernel_rfl
theorem Gt(a:Addr)(w:World):Sem.run prog (method 511 367 (.agg #[.pointer (some a)]) "Swap") w=.ok (329,.pointer (some a)) w:=by kernel_rfl
theorem Gu(a:Addr)(w:World):Sem.run prog (method 511 367 (.agg #[.pointer (some a)]) "Push") w=.ok (328,.pointer (some a)) w:=by kernel_rfl
theorem Gw(a:Addr)(w:World):Sem.run prog (method 511 367 (.agg #[.pointer (some a)]) "Pop") w=.ok (327,.pointer (some a)) w:=by kernel_rfl
attribute [local go_sem] Gr Gs Gt Gu Gw
theorem uT{base g:Nat}{v:Value}{l:List Bk}{a b:Int}(i j:Nat)(w:World)(h:Que w base g v l)(f:i<l.length)(k:j<l.length)(c:a=i)(d:b=j):
  Calls prog 326 #[.pointer (some ⟨g,0,none⟩),.i a,.i b] w fun e m=>e=.returned (.bool (lB (atB l i) (atB l j)))∧Bw' w m:=by
 subst c d;exact Qk i j w h f k
theorem uU{base g:Nat}{v:Value}{l:List Bk}{a b:Int}(i j:Nat)(w:World)(h:Que w base g v l)(k:i<l.length)(m:j<l.length)(d:a=i)(f:b=j):
  Calls prog 329 #[.pointer (some ⟨g,0,none⟩),.i a,.i b] w fun e c=>e=.returned (.tuple #[])∧Que c base g v (lC l i j)∧QTo w c g v v:=by
 subst d f;exact Ql i j w h k m
def IsB(e:Ending):Prop:=∃b,e=.returned (.bool b)
theorem isB(b:Bool):IsB (.returned (.bool b)):=⟨b,rfl⟩
structure Qr(l l':List Bk)(i0 n:Nat):Prop where
 perm:l'.Perm l
 same:∀k,n≤k→atB l' k=atB l k
 heap:mT (atB l) (i0+1) n→mT (atB l') i0 n
theorem Gx{base g:Nat}{v:Value}{l:List Bk}(B n:Nat)(w:World)(h:Que w base g v l)(hn:n≤l.length)(hi:B≤1000000)(g0:n≤1000000):
  Calls prog 298 #[qV g,.i B,.i n] w fun e V=>IsB e∧∃l',Que V base g v l'∧QTo w V g v v∧Qr l l' B n:=by
 unfold qV;have H:=kp h;have S:=kp hn;go_enter func298,ntmps298;go_wp2_with fail
 go_loopw [7] (fun i wr=>∃k:Nat,i=.i k∧B≤k∧k≤1000000∧∃l',Que wr base g v l'∧QTo w wr g v v∧l'.Perm l∧(∀k,n≤k→atB l' k=atB l k)∧(mT (atB l) (B+1) n→uQ (atB l') B n k)) (fun i _=>2000000-(intOf i).toNat)
 case atStart=>exact⟨B,rfl,aN _,hi,l,H.o,QTo.of (aH _ _),.refl _,fun _ _=>rfl,Qf⟩
 case round=>
  obtain⟨k,rfl,P,e0,l',Z,hT,U,d0,hh⟩:=hrel;have C:=kp Z;have d:=k'4 hT U d0 hh;have R:=kp U.length_eq
  by_cases h1:2*k+1<n
  .have X:(2:Int)*k+1<n:=by omega
   have a0:2*k+1<l'.length:=by have:=R.o; have:=S.o; omega
   have T:∀(c:Nat),fO k c→c=2*k+1∨c=2*k+2:=fun c f=>f
   by_cases h2:2*k+2<n
   .have Y:(2:Int)*k+1+1<n:=by omega
    have b0:2*k+2<l'.length:=by have:=R.o; have:=S.o; omega
    have M:=kp (uT (a:=2*k+1+1) (b:=2*k+1) (2*k+2) (2*k+1) wr C.o b0 a0 (by omega) (by omega));have N:=kp T
    cases hlj:lB (atB l' (2*k+2)) (atB l' (2*k+1))
    .have O:=kp hlj;rw[hlj]at M;go_wp2_with fail;refine mb' M.o fun Q I=>?_;have y:=kp (QTo.of (v:=v) (g:=g) I);have s:=kp (C.o.below I);have x:=kp (show ∀c,fO k c→c<n→LeB (atB l' (2*k+1)) (atB l' c) from fun c f _=>by
           rcases N.o c f with rfl|rfl
           .exact LeB.refl _
           .exact xL.1 O.o)
     have m:=kp (uT (a:=2*k+1) (b:=k) (2*k+1) k Q s.o (by omega) (by omega) (by omega) rfl)
     cases hlt:lB (atB l' (2*k+1)) (atB l' k)
     .have r:=kp hlt;rw[hlt]at m;go_wp2_with fail;refine mb' m.o fun z p=>?_;have j:=kp p;go_wp2_with fail;go_ret;refine⟨isB _,l',s.o.below j.o,(d.a.trans y.o).trans (QTo.of j.o),d.b,d.c,fun h=>xN (d.D h) fun c f A=>(xL.1 r.o).trans (x.o c f A)⟩
     .have r:=kp hlt;rw[hlt]at m;go_wp2_with fail;refine mb' m.o fun z p=>?_;have j:=kp p;have F:=kp (uU (a:=k) (b:=2*k+1) k (2*k+1) z (s.o.below p) (by omega) (by omega) rfl (by omega));go_wp2_with fail;refine F.o.mono ?_;rintro e W ⟨rfl,K,L⟩;have E:=kp K;have G:=kp L;go_wp2_with fail;go_roundw
      case rel=>
       refine⟨2*k+1,by go_num,by omega,by omega,lC l' k (2*k+1),E.o,((d.a.trans y.o).trans (QTo.of j.o)).trans G.o,(uR (by omega) (by omega)).trans d.b,fun q J=>?_,fun h=>?_⟩
       .rw[qL (by omega) (by omega)];unfold mU;rw[aF (by omega),aF (by omega)];exact d.c q J
       .rw[qL (by omega) (by omega)];exact Bb (d.D h) P (by unfold fO; omega) (by omega) (xM r.o) x.o
      case measure=>simp[intOf]; omega
    .have O:=kp hlj;rw[hlj]at M;go_wp2_with fail;refine mb' M.o fun Q I=>?_;have y:=kp (QTo.of (v:=v) (g:=g) I);have s:=kp (C.o.below I);have x:=kp (show ∀c,fO k c→c<n→LeB (atB l' (2*k+2)) (atB l' c) from fun c f _=>by
           rcases N.o c f with rfl|rfl
           .exact xM O.o
           .exact LeB.refl _)
     have m:=kp (uT (a:=2*k+1+1) (b:=k) (2*k+2) k Q s.o (by omega) (by omega) (by omega) rfl)
     cases hlt:lB (atB l' (2*k+2)) (atB l' k)
     .have r:=kp hlt;rw[hlt]at m;go_wp2_with fail;refine mb' m.o fun z p=>?_;have j:=kp p;go_wp2_with fail;go_ret;refine⟨isB _,l',s.o.below j.o,(d.a.trans y.o).trans (QTo.of j.o),d.b,d.c,fun h=>xN (d.D h) fun c f A=>(xL.1 r.o).trans (x.o c f A)⟩
     .have r:=kp hlt;rw[hlt]at m;go_wp2_with fail;refine mb' m.o fun z p=>?_;have j:=kp p;have F:=kp (uU (a:=k) (b:=2*k+1+1) k (2*k+2) z (s.o.below p) (by omega) (by omega) rfl (by omega));go_wp2_with fail;refine F.o.mono ?_;rintro e W ⟨rfl,K,L⟩;have E:=kp K;have G:=kp L;go_wp2_with fail;go_roundw
      case rel=>
       refine⟨2*k+2,by go_num,by omega,by omega,lC l' k (2*k+2),E.o,((d.a.trans y.o).trans (QTo.of j.o)).trans G.o,(uR (by omega) (by omega)).trans d.b,fun q J=>?_,fun h=>?_⟩
       .rw[qL (by omega) (by omega)];unfold mU;rw[aF (by omega),aF (by omega)];exact d.c q J
       .rw[qL (by omega) (by omega)];exact Bb (d.D h) P (by unfold fO; omega) (by omega) (xM r.o) x.o
      case measure=>simp[intOf]; omega
   .have Y:¬(2:Int)*k+1+1<n:=by omega
    have N:=kp T;have y:=kp (QTo.of (v:=v) (g:=g) (aH wr.heap.size wr));have s:=kp (C.o.below (aH wr.heap.size wr));have x:=kp (show ∀c,fO k c→c<n→LeB (atB l' (2*k+1)) (atB l' c) from fun c f A=>by
         rcases N.o c f with rfl|rfl
         .exact LeB.refl _
         .omega)
    have m:=kp (uT (a:=2*k+1) (b:=k) (2*k+1) k wr s.o (by omega) (by omega) (by omega) rfl)
    cases hlt:lB (atB l' (2*k+1)) (atB l' k)
    .have r:=kp hlt;rw[hlt]at m;go_wp2_with fail;refine mb' m.o fun z p=>?_;have j:=kp p;go_wp2_with fail;go_ret;refine⟨isB _,l',s.o.below j.o,(d.a.trans y.o).trans (QTo.of j.o),d.b,d.c,fun h=>xN (d.D h) fun c f A=>(xL.1 r.o).trans (x.o c f A)⟩
    .have r:=kp hlt;rw[hlt]at m;go_wp2_with fail;refine mb' m.o fun z p=>?_;have j:=kp p;have F:=kp (uU (a:=k) (b:=2*k+1) k (2*k+1) z (s.o.below p) (by omega) (by omega) rfl (by omega));go_wp2_with fail;refine F.o.mono ?_;rintro e W ⟨rfl,K,L⟩;have E:=kp K;have G:=kp L;go_wp2_with fail;go_roundw
     case rel=>
      refine⟨2*k+1,by go_num,by omega,by omega,lC l' k (2*k+1),E.o,((d.a.trans y.o).trans (QTo.of j.o)).trans G.o,(uR (by omega) (by omega)).trans d.b,fun q J=>?_,fun h=>?_⟩
      .rw[qL (by omega) (by omega)];unfold mU;rw[aF (by omega),aF (by omega)];exact d.c q J
      .rw[qL (by omega) (by omega)];exact Bb (d.D h) P (by unfold fO; omega) (by omega) (xM r.o) x.o
     case measure=>simp[intOf]; omega
  .have X:¬(2:Int)*k+1<n:=by omega
   go_wp2_with fail;go_ret;exact⟨isB _,l',C.o,d.a,d.b,d.c,fun h=>xN (d.D h) fun c f A=>by unfold fO at f; omega⟩
end
section
attribute [local go_sem] Gr Gs Gt Gu Gw
theorem Qs{base g:Nat}{v:Value}{l:List Bk}{a:Int}(r:Nat)(w:World)(h:Que w base g v l)(s:r<l.length)(P:l.length≤1000000)(G:a=r):
  Calls prog 299 #[qV g,.i a] w fun e x=>e=.returned (.tuple #[])∧∃l',Que x base g v l'∧QTo w x g v v∧l'.Perm l:=by
 subst G;unfold qV;have H:=kp h;have M:=kp s;go_enter func299,ntmps299;go_wp2_with fail
 go_loopw [1] (fun i wr=>∃k:Nat,i=.i k∧k≤1000000∧∃l',k<l'.length∧Que wr base g v l'∧QTo w wr g v v∧l'.Perm l) (fun i _=>(intOf i).toNat)
 case atStart=>exact⟨r,rfl,by omega,l,s,H.o,QTo.of (aH _ _),.refl _⟩
 case round=>
  obtain⟨k,rfl,O,l',q,E,F,J⟩:=hrel;have j:=kp E;have c:=k'2 F J;rcases Dn k with rfl|N
  .go_wp2_with fail;go_end0;exact⟨rfl,l',j.o,c.a,c.B⟩
  .obtain⟨i,I⟩:∃i:Nat,(k-1) / 2=i:=⟨_,rfl⟩
   have D:((k:Int)-1) / 2=(i:Int):=by omega
   have e1:((k:Int)-1).tdiv 2=(i:Int):=by rw[Int.tdiv_eq_ediv_of_nonneg (by omega)]; exact D
   have e2:((i:Int)==(k:Int))=false:=by simp; omega
   have f:=kp (uT (a:=k) (b:=i) k i wr j.o q (by omega) rfl rfl);have n:=kp I
   cases hlt:lB (atB l' k) (atB l' i)
   .rw[hlt]at f;go_wp2_with fail;refine mb' f.o fun y m=>?_;have d:=kp m;go_wp2_with fail;go_end0;exact⟨rfl,l',j.o.below d.o,c.a.trans (QTo.of d.o),c.B⟩
   .rw[hlt]at f;go_wp2_with fail;refine mb' f.o fun y m=>?_;have d:=kp m;have p:i<l'.length:=by have:=n.o; omega
    have A:=kp (uU (a:=i) (b:=k) i k y (j.o.below m) p q rfl rfl);go_wp2_with fail;refine A.o.mono ?_;rintro e Q ⟨rfl,K,L⟩;have z:=kp K;have C:=kp L;go_wp2_with fail;go_roundw
    case rel=>exact⟨i,rfl,by have:=n.o; omega,lC l' i k,by rw[Bc]; exact p,z.o,(c.a.trans (QTo.of d.o)).trans C.o,(uR p q).trans c.B⟩
    case measure=>have:=n.o; simp[intOf]; omega
theorem Qt{base g:Nat}{v:Value}{l:List Bk}(w:World)(h:Que w base g v l)(N:l.length≤1000000):
  Calls prog 297 #[qV g] w fun e f=>e=.returned (.tuple #[])∧∃l',Que f base g v l'∧QTo w f g v v∧l'.Perm l∧mT (atB l') 0 l'.length:=by
 have H:=kp h;have x:=kp (Bg w h);obtain⟨n,B⟩:=nm' l.length;rw[B]at N x;have E:=kp B;have L:((n:Int)).tdiv 2=((n / 2:Nat):Int):=by rw[Int.tdiv_eq_ediv_of_nonneg (by omega)]; omega
 have j:(n:Int) / 2=((n / 2:Nat):Int):=by omega
 obtain⟨m,A⟩:=nm' (n / 2);rw[A]at L j;have y:=kp A;have U:m≤1000000:=by have:=y.o; omega
 unfold qV;go_enter func297,ntmps297;go_wp2_with fail;refine x.o.mono ?_;rintro e f ⟨rfl,rfl⟩;go_wp2_with fail
 go_loopw [3] (fun i wr=>∃k:Nat,k≤m∧i=.i ((k:Int)-1)∧∃l',Que wr base g v l'∧QTo f wr g v v∧l'.Perm l∧mT (atB l') k n) (fun i _=>(intOf i+1).toNat)
 case atStart=>exact⟨m,aN _,rfl,l,H.o,QTo.of (aH _ _),.refl _,fun p q c K R=>by have:=y.o; unfold fO at K; omega⟩
 case round=>
  obtain⟨k,S,rfl,l',I,J,q,M⟩:=hrel;have z:=kp I;have d:=k'3 J q M;have s:=kp (show l'.length=n by rw[q.length_eq]; exact E.o);rcases Dn k with rfl|T
  .go_wp2_with fail;go_end0;exact⟨rfl,l',z.o,d.a,d.b,s.o▸d.C⟩
  .have Q:(0:Int)≤(k:Int)-1:=by omega
   obtain⟨i,rfl⟩:∃i,k=i+1:=⟨k-1,by omega⟩
   have e1:((i+1:Nat):Int)-1=(i:Int):=by omega
   rw[e1];have D:=kp (Gx i n wr z.o (by rw[s.o]; exact aN _) (by omega) (by omega));go_wp2_with fail;refine D.o.mono ?_;rintro e V ⟨⟨b,rfl⟩,l2,O,P,j⟩;have F:=kp O;have G:=kp P;have r:=kp j;go_wp2_with fail;go_roundw
   case rel=>exact⟨i,by omega,rfl,l2,F.o,d.a.trans G.o,r.o.perm.trans d.b,r.o.heap d.C⟩
   case measure=>simp[intOf]
theorem Qu{base g:Nat}{v:Value}{l:List Bk}(w:World)(h:Que w base g v l)(P:l.length≤1000000)(Z:0<l.length)(O:mT (atB l) 0 l.length):
  Calls prog 287 #[qV g] w fun e m=>∃(x:Bk)(l':List Bk)(v':Value),e=.returned (.iface 262 (.agg x.cells.toArray))∧Que m base g v' l'∧QTo w m g v v'∧l.Perm (x::l')∧∀y∈l,LeB x y:=by
 have H:=kp h;have p:=kp (Bg w h);obtain⟨n,r⟩:∃n,l.length=n+1:=⟨l.length-1,by omega⟩
 rw[r]at P p;have c:=kp r;have D:=kp O;have J:=kp (uU (a:=0) (b:=n) 0 n w h (by omega) (by omega) rfl rfl);unfold qV;have e1:((n+1:Nat):Int)-1=(n:Int):=by omega
 go_enter func287,ntmps287;go_wp2_with fail;refine p.o.mono ?_;rintro e m ⟨rfl,rfl⟩;go_wp2_with fail;refine J.o.mono ?_;rintro e W ⟨rfl,z,S⟩;have Y:=kp z;have K:=kp S;have C:=kp (Gx 0 n W z (by rw[Bc,c.o]; omega) (by omega) (by omega));go_wp2_with fail;refine C.o.mono ?_;rintro e X ⟨⟨b,rfl⟩,d,A,T,f⟩;have a0:d.length=n+1:=by rw[f.perm.length_eq,Bc]; exact c.o
 have B:d=d.take n++[atB l 0]:=by
  have N:atB d n=atB l 0:=by
   rw[f.same n (aN _),qL (by rw[c.o]; omega) (by rw[c.o]; omega)];unfold mU
   by_cases s:n=0
   .subst s; rw[aK rfl]
   .rw[aF s,aK rfl]
  rw[←N,xO (by omega),←fE (by omega)];exact (eF (by omega)).symm
 have Q:l.Perm (atB l 0::d.take n):=by
  have:=(f.perm.trans (uR (l:=l) (i:=0) (j:=n) (by rw[c.o]; omega) (by rw[c.o]; omega))).symm;rw[B]at this;refine this.trans ?_;exact Mp
 have F:=kp Q;have E:=kp (show ∀y∈l,LeB (atB l 0) y from fun y V=>by
  obtain⟨k,q,rfl⟩:=Dl V;have:=Qg D.o k q
  rwa [xO q]at this)
 rw[B]at A;have G:=kp (Qp (atB l 0) X A (by rw[cL]; omega));have L:=kp T;go_wp2_with fail;refine G.o.mono ?_;rintro e w4 ⟨rfl,v4,R,U⟩;have I:=kp R;have M:=kp U;go_wp2_with fail;go_ret;exact⟨_,_,_,rfl,I.o,(K.o.trans L.o).trans M.o,F.o,E.o⟩
theorem Qv{base g:Nat}{v:Value}{l:List Bk}(x:Bk)(w:World)(h:Que w base g v l)(d:l.length<1000000)(s:base≤w.heap.size):
  Calls prog 288 #[qV g,.iface 262 (.agg x.cells.toArray)] w fun e b=>e=.returned (.tuple #[])∧∃v' l',Que b base g v' l'∧QTo w b g v v'∧l'.Perm (x::l):=by
 have k:=kp (Qq x w h d s);have j:=kp d;have C:l.length≤1000000:=by omega
 unfold qV;go_enter func288,ntmps288;go_wp2_with fail;refine k.o.mono ?_;rintro e i ⟨rfl,v2,f,z⟩;have c:=kp (Bg i f);have p:=kp z;have r:=kp (Qs (a:=(l.length:Int)) l.length i f (by simp) (by have:=j.o; simp; omega) rfl);have e1:(l++[x]).length=l.length+1:=by simp
 rw[e1]at c;go_wp2_with fail;refine c.o.mono ?_;rintro e b ⟨rfl,rfl⟩;go_wp2_with fail;refine r.o.mono ?_;rintro e D ⟨rfl,B,y,A,hp3⟩;have n:=kp y;have q:=kp A;have m:=kp hp3;go_wp2_with fail;go_end0;exact⟨rfl,_,B,n.o,p.o.trans q.o,m.o.trans Mp⟩
end
section
theorem Bh(o:Int)(w:World):Calls prog 172 #[.i o] w fun e w'=>∃v,e=.returned (.tuple #[v,.i (dG 1 (cZ o))])∧Ow w' w.heap.size 262 2 v Bk.cells (if cZ o=true then [⟨0,o⟩] else [])∧Bw' w w':=by
 cases hr:cZ o
 .have H:=kp hr;go_enter func172,ntmps172;go_wp2_with fail;refine mb' (wO o w) fun w' a=>?_;obtain rfl:=a.symm;rw[H.o];go_wp2_with fail;go_ret2;exact⟨_,rfl,Ow.nil _ _ _ _ _,aH _ _⟩
 .have H:=kp hr;go_enter func172,ntmps172;go_wp2_with fail;refine mb' (wO o w) fun w' a=>?_;obtain rfl:=a.symm;rw[H.o];go_wp2_with fail;go_ret2;refine⟨_,rfl,?_,ba' _ _⟩;exact⟨rfl,.inr ⟨w.heap.size,1,#[.i 0,.i o],rfl,aN _,heap_alloc_new w _,aN _,by unfold maxLen; omega,rfl,rfl⟩⟩
theorem Qw(f:Int)(c:Nat)(x:Bk)(W:World)(d:W.cell? ⟨c,0,none⟩=some (.i f)):
  Calls prog 296 (#[.agg x.cells.toArray]++#[.pointer (some ⟨c,0,none⟩)]) W fun e w'=>e=.returned (.bool (decide (f≤x.o)))∧Bw' W w':=by
 show Calls _ _ #[.agg #[.i x.a,.i x.o],.pointer (some ⟨c,0,none⟩)] _ _;have i:=(uE W x 262).2;have b:=ba' W (.cells #[.i x.a,.i x.o] 262);have g:=kp b;have h:=World.block_lt_of_cell? W _ d;have j:=(b.cell h).trans d;go_enter func296,ntmps296;go_wp2_with fail;go_ret;exact⟨rfl,g.o⟩
theorem Qx(o a:Int)(v:Value)(B:Nat)(l:List Bk)(w:World)(A:Sl w B v Bk.cells l)(f:B≤w.heap.size)(G:l.length≤900000)(m:gX o l=true)(E:0≤a)(F:a≤o):
  Calls prog 285 #[.i o,v,.i a] w fun e w'=>e=.returned (.bool (l.any fun b=>decide (a≤b.o)))∧Bw' w w':=by
 have g:=ba' w (.cells #[.i a] 3);have k:=kp (A.below g f);have h:=kp (Blk.new w 3 [.i a]);have c:=kp g;have D:=kp m;have i:=kp f;have j:=kp (pV o v B l _ k.o (aB f g.size) (by omega));rw[m]at j;go_enter func285,ntmps285;go_wp2_with fail;refine mb' j.o fun C d=>?_;have q:=kp d;have n:=h.o.below d h.o.lt;have p:=n.cell 0;simp only[aP]at p;have s:=kp (uO.2.2 v l (fun b=>decide (a≤b.o)) 296 #[.pointer (some ⟨w.heap.size,0,none⟩)] B C (k.o.below d (aB i.o c.o.size)) (aB (aB i.o c.o.size) d.size) (by omega) (enters_of func296 (by kernel_rfl) rfl)
  (fun W' x _ y=>Qw a w.heap.size x W' ((y.cell n.lt).trans p)))
 go_wp2_with fail;refine mb' s.o fun H z=>?_;have r:=kp z;go_wp2_with fail;go_ret;exact⟨rfl,c.o.trans ((q.o.on r.o).mono c.o.size)⟩
structure Qd(w:World)(base gB gD:Nat)(vq vs:Value)(lq ls:List Bk):Prop where
 que:Que w base gB vq lq
 small:Ow w base 262 2 vs Bk.cells ls
 sep:∀i,vs.ownBlock=some i→vq.ownBlock≠some i
 ptr:Blk w gD 367 [.pointer (some ⟨gB,0,none⟩)]
section
variable {w w':World}{base gB gD:Nat}{vq vs vq' vs':Value}{lq ls lq' ls':List Bk}
theorem Qd.below(h:Qd w base gB gD vq vs lq ls)(a:Bw' w w'):Qd w' base gB gD vq vs lq ls:=⟨h.que.below a,h.small.below a,h.sep,h.ptr.below a h.ptr.lt⟩
theorem Qd.gne(h:Qd w base gB gD vq vs lq ls):gD≠gB:=by
 rintro rfl;have:=(show w.heap[gD]? =_ from h.ptr).symm.trans h.que.blk;simp at this
theorem Qd.big(h:Qd w base gB gD vq vs lq ls)(d:Que w' base gB vq' lq')(b:QTo w w' gB vq vq'):Qd w' base gB gD vq' vs lq' ls:=
 ⟨d,h.small.qto b (h.small.ne_blk h.que.blk (by decide)) h.sep,fun i c a=>(b.own i a).elim (h.sep i c) fun f=>by have:=(h.small.lt c).2; omega,
  h.ptr.chg b.chg fun e=>e.elim h.gne fun a=>h.que.row.ne_blk h.ptr (by decide) a⟩
theorem Qd.little(h:Qd w base gB gD vq vs lq ls)(f:Ow w' base 262 2 vs' Bk.cells ls')(b:Chg (fun i=>vs.ownBlock=some i) w w')(e:∀i,vs'.ownBlock=some i→vs.ownBlock=some i∨w.heap.size≤i):Qd w' base gB gD vq vs' lq ls':=
 ⟨⟨h.que.blk.chg b (h.small.ne_blk h.que.blk (by decide)),h.que.row.chg b (fun i c a=>h.sep i a c),h.que.lo⟩,f,fun i c a=>(e i c).elim (fun d=>h.sep i d a) fun g=>by have:=(h.que.row.lt a).2; omega,
  h.ptr.chg b (h.small.ne_blk h.ptr (by decide))⟩
theorem Qd.other{z:Nat}{e:List Value}(h:Qd w base gB gD vq vs lq ls)(d:Blk w z 367 e)(f:gD≠z)(b:Chg (fun i=>i=z) w w'):Qd w' base gB gD vq vs lq ls:=
 ⟨⟨h.que.blk.chg b (fun a=>by subst a; have:=(show w.heap[gB]? =_ from h.que.blk).symm.trans d; simp at this),h.que.row.chg b (fun i c a=>h.que.row.ne_blk d (by decide) (a▸c)),h.que.lo⟩,
  h.small.chg b (fun i c a=>h.small.ne_blk d (by decide) (a▸c)),h.sep,h.ptr.chg b f⟩
end
def fN(want:Int)(b:Bk):Bool:=decide (want≤b.o)
theorem Qy(f:Int)(v:Value)(B:Nat)(l:List Bk)(w:World)(hv:Sl w B v Bk.cells l)(hB:B≤w.heap.size)(hn:l.length≤900000):
  Calls prog 286 #[v,.i f] w fun e w'=>∃gB gD vq vs lq,e=.returned (.tuple #[.agg #[.pointer (some ⟨gB,0,none⟩)],vs])∧Qd w' w.heap.size gB gD vq vs lq (l.filter fun b=> !fN f b)∧lq.Perm (l.filter (fN f))∧mT (atB lq) 0 lq.length∧Bw' w w':=by
 obtain⟨A,c,rfl,J,hc,hm⟩:=hv;obtain⟨n,hl⟩:=nm' l.length;rw[hl]at hc hn ⊢;have X:=kp hl;have o1:=kp J;have h0:Qd ((((w.alloc (.cells #[.pointer none] 367)).alloc (.cells #[.slice none 0 0] 373)).alloc (.cells #[] 262)).alloc (.cells #[.pointer (some ⟨w.heap.size+1,0,none⟩)] 367)) w.heap.size (w.heap.size+1) (w.heap.size+1+1+1) (.slice none 0 0) (.slice (some ⟨w.heap.size+1+1,0,none⟩) 0 0) [] []:=by
  have F:=Blk.new (w.alloc (.cells #[.pointer none] 367)) 373 [.slice none 0 0];have z:=World.ownsRow_made (base:=w.heap.size) (e:=262) (size:=2) ((w.alloc (.cells #[.pointer none] 367)).alloc (.cells #[.slice none 0 0] 373)) #[] 0 (by simp; omega) (by unfold maxLen; omega) rfl;have hp:=Blk.new ((((w.alloc (.cells #[.pointer none] 367)).alloc (.cells #[.slice none 0 0] 373)).alloc (.cells #[] 262))) 367 [.pointer (some ⟨w.heap.size+1,0,none⟩)];simp only[World.size_alloc]at F z hp;exact⟨⟨(F.alloc _).alloc _,Ow.nil _ _ _ _ _,by omega⟩,World.ownsRow.alloc z _,(fun _ _ h=>by cases h),hp⟩
 have a2:=(((ba' w (.cells #[.pointer none] 367)).alloc (by simp) (.cells #[.slice none 0 0] 373)).alloc (by simp; omega) (.cells #[] 262)).alloc (by simp; omega) (.cells #[.pointer (some ⟨w.heap.size+1,0,none⟩)] 367);have o2:=(((Blk.new w 367 [.pointer none]).alloc (.cells #[.slice none 0 0] 373)).alloc (.cells #[] 262)).alloc (.cells #[.pointer (some ⟨w.heap.size+1,0,none⟩)] 367);have U:=k'3 h0 a2 o2;have l3:n≤9223372036854775807:=by omega
 go_enter func286,ntmps286;go_wp2_with fail
 go_loopw [7,16] (fun vs i wr=>∃k:Nat,k≤n∧i=.i k∧∃vq,Qd wr w.heap.size (w.heap.size+1) (w.heap.size+1+1+1) vq vs ((l.take k).filter (fN f)) ((l.take k).filter fun b=> !fN f b)∧Bw' w wr∧Blk wr w.heap.size 367 [.pointer none]) (fun _ i _=>n-(intOf i).toNat)
 case atStart=>exact⟨0,by omega,rfl,_,U.a,U.b,U.C⟩
 case round=>
  obtain⟨k,hk,rfl,vq,hq,a0,p2⟩:=hrel;have m:=kp hq;have M:=kp a0;have O:=kp p2
  by_cases j3:k<n
  .have g3:(k:Int)<(n:Int):=by omega
   have d0:k<l.length:=by have:=X.o; omega
   obtain⟨b,j1,hA,e3,d1,_⟩:=dS (P:=prog) 2 cO (by omega) (o1.o.below M.o hB) k d0;subst hA;have x0:wr.cell? ⟨b,j1+k*2+0,none⟩=some (.i l[k].a):=d1 0 _ rfl;have x1:wr.cell? ⟨b,j1+k*2+1,none⟩=some (.i l[k].o):=d1 1 _ rfl;simp only[dW]at x0;have Q:=kp (fE d0);generalize l[k]'d0=x at *;obtain⟨lq,e0⟩:=nm' ((l.take k).filter (fN f));obtain⟨ls,g0⟩:=nm' ((l.take k).filter fun b=> !fN f b);have m3:lq.length≤k:=by rw[←e0]; exact aB (nI _ _) (by rw[cL]; omega)
   have o3:ls.length≤k:=by rw[←g0]; exact aB (nI _ _) (by rw[cL]; omega)
   rw[e0,g0]at m;have N:=k'2 e0 g0;have S:=ba' wr (.cells #[.i x.a,.i x.o] 262);have b3:=Blk.new wr 262 [.i x.a,.i x.o];obtain⟨j,a1⟩:=nm' (wr.alloc (.cells #[.i x.a,.i x.o] 262));rw[a1]at S;have Y:=kp (show Blk j wr.heap.size 262 [.i x.a,.i x.o] from a1▸b3);have g:=kp (m.o.below S);have G:=kp (M.o.on S);have r:=kp (O.o.below S O.o.lt);have y1:=Y.o.cell 1;simp only[aP,aZ]at y1
   by_cases hw:f≤x.o
   .have L:=kp hw;go_wp2_with fail;have D:=kp (fun W(d:Chg (fun i=>vq.ownBlock=some i) j W∧Ow W w.heap.size 262 2 vq Bk.cells lq)=>
     fR (g.o.ptr.chg d.1 (g.o.que.row.ne_blk g.o.ptr (by decide))) (fR (g.o.que.blk_chg d.1) (Y.o.chg d.1 fun s=>by have:=(m.o.que.row.lt s).2; omega)))
    refine fM 12 (fun W=>Chg (fun i=>vq.ownBlock=some i) j W∧Ow W w.heap.size 262 2 vq Bk.cells lq) (jJ 9 fun i=>vq.ownBlock=some i) (by kernel_rfl) (by kernel_rfl) ⟨(Chg.refl _ _).drew,g.o.que.row.below (bL (aH _ _))⟩ ?_
    iterate 8 (refine bE ?_; apply Exists.intro)
    refine bJ (fun u W=>∃b,u=.slice (some ⟨b,0,none⟩) 1 1∧(b<W.heap.size∧vq.ownBlock≠some b)∧Sl W (b+1) u Bk.cells [x]) ?_;refine bJ (fun u W=>Ow W w.heap.size 262 2 u Bk.cells (lq++[x])∧∀k,u.ownBlock=some k→vq.ownBlock=some k∨j.heap.size≤k) ?_
    iterate 2 (refine bE ?_; apply Exists.intro)
    refine cC ⟨?pers,?walk⟩
    case walk=>
     iterate 8
      apply bB (by kernel_rfl) (by intro t w h; cases h; exact trivial) rfl
      .intro W d H; have q:=(D.o W d).1.cell 0; have q2:=(D.o W d).2.1.cell 0; have q3:=(D.o W d).2.2.cell 0; have q4:=(D.o W d).2.2.cell 1; simp only[aP,aZ]at q q2 q3 q4; go_wp2_with fail;exact⟨rfl,_,rfl,d,cN (by decide) (aH _ _),rfl⟩
      simp only[Act.put,aE,aC,aD]
     refine⟨fun W d H=>?_,fun u8=>?_⟩
     .go_wp2_with fail;exact⟨rfl,_,rfl,⟨d.1.alloc _,d.2.alloc _⟩,cN (by decide) (ba' _ _),_,rfl,⟨by simp,fun s=>by have:=(d.2.lt s).2; omega⟩,gG (enc:=Bk.cells) W 262 x⟩
     simp only[Act.put,aE,aC,aD];refine⟨fun W d H=>?_,fun u9=>?_⟩
     .have f7:=H 32 (bO (by kernel_rfl));obtain⟨b,rfl,d3,z2⟩:=f7;have a0:w.heap.size≤W.heap.size:=aB G.o.size d.1.size;go_wp2_with (at_builtin; refine jD (enc:=Bk.cells) W rfl (.tmp 30) (.tmp 32) 38 rfl w.heap.size 262 nY iH rfl (by omega) cO d.2 rfl z2 rfl (fun a _=>lJ a) ?_ ?_ a0 ?_)
      .unfold maxLen; show lq.length+1≤_; omega
      .show (lq.length+1)*16≤_; omega
      intro v' Z ho g1 I b0;exact⟨rfl,_,rfl,⟨d.1.trans (eX I) (fun _ _ h=>h),g1⟩,pA (eX I),ho,fun k hk=>(b0 k hk).imp id (aB d.1.size)⟩
     simp only[Act.put,aE,aC,aD]
     iterate 2
      apply bB (by kernel_rfl) (by intro t w h; cases h; exact trivial) rfl
      .intro W d H; go_wp2_with fail;exact⟨rfl,_,rfl,d,cN (by decide) (aH _ _),rfl⟩
      simp only[Act.put,aE,aC,aD]
     intro W d H;have R:=H 33;obtain⟨R,f9⟩:=R;have q:=(D.o W d).2.1.cell 0;have qf:=(D.o W d).2.1.frozen 0;have HW:=kp d;have E:=kp (D.o W d);have h8:=kp R;have h9:=kp f9;simp only[bS,bU,aP]at q ⊢;obtain⟨K,c8,rfl,_,_⟩:=dO R;rw[bF,lH]at h8 h9;go_wp2_with fail;go_roundw
     case rel=>
      have j0:Que (W.setCell ⟨w.heap.size+1,0,none⟩ (.slice K (lq.length+1) c8)) w.heap.size (w.heap.size+1) (.slice K (lq.length+1) c8) (lq++[x]):=
       ⟨E.b.setCell 0 _,h8.o.chg ((Chg.refl (fun i=>i=w.heap.size+1) W).setCell (.inr rfl) 0 _) (fun i y s=>h8.o.ne_blk E.b (by decide) (s▸y)),g.o.que.lo⟩
      have l0:QTo j (W.setCell ⟨w.heap.size+1,0,none⟩ (.slice K (lq.length+1) c8)) (w.heap.size+1) vq (.slice K (lq.length+1) c8):=⟨(HW.a.mono fun i _ y=>.inr y).setCell (.inr (.inl rfl)) 0 _,h9.o⟩
      have m2:=g.o.big j0 l0;refine⟨k+1,by omega,by go_num,.slice K (lq.length+1) c8,?_,?_,?_⟩
      .have e1:(l.take (k+1)).filter (fN f)=lq++[x]:=by rw[Q.o,rJ,N.a]; simp[fN,L.o]
       have e2:((l.take (k+1)).filter fun b=> !fN f b)=ls:=by rw[Q.o,rJ,N.B]; simp[fN,L.o]
       rw[e1,e2];exact m2
      .exact G.o.trans (l0.chg.below (fun i y=>y.elim (fun e=>by omega) fun e=>(g.o.que.row.lt e).1) G.o.size)
      .refine r.o.chg l0.chg (fun z=>z.elim (fun e=>by omega) fun s=>g.o.que.row.ne_blk r.o (by decide) s)
     case measure=>simp[intOf]; omega
    case pers=>
     refine⟨pv',pv',pv',pv',pv',pv',pv',pv',?_,?_,pv',pv',trivial⟩
     .rintro i u W W' _ ⟨b,rfl,F,z⟩ J;exact⟨b,rfl,⟨cY F.1 (lQ J).size,F.2⟩,sP z (lQ J) F.2 F.1⟩
     .rintro i u W W' d2 ⟨h1,h2⟩ J;exact⟨h1.below (pB J d2),h2⟩
   .have g2:x.o<f:=by omega
    have L:=kp hw;have y0:=Y.o.cell 0;simp only[aP]at y0;have y2:=gG (enc:=Bk.cells) j 262 x;have T:=ba' j (.cells #[.i x.a,.i x.o] 262);obtain⟨Z,b1⟩:=nm' (j.alloc (.cells #[.i x.a,.i x.o] 262));rw[b1]at T;have p1:=kp (show Sl Z (j.heap.size+1) (.slice (some ⟨j.heap.size,0,none⟩) 1 1) Bk.cells [x] from b1▸y2);have E:=kp (g.o.below T);have V:=kp (G.o.on T);have q0:=kp (r.o.below T r.o.lt);go_wp2_with (at_builtin; refine jD (enc:=Bk.cells) Z rfl (.tmp 36) (.tmp 38) 38 rfl w.heap.size 262 nY iH rfl (by omega) cO E.o.small rfl p1.o rfl (fun a _=>lJ a) ?_ ?_ V.o.size ?_)
    .unfold maxLen; show ls.length+1≤_; omega
    .show (ls.length+1)*16≤_; omega
    intro v' W4 ho g1 I b0;have m1:=kp (E.o.little ho (eX I) b0);have l1:=kp (V.o.trans ((eX I).below (fun i y=>(E.o.small.lt y).1) V.o.size));have q1:=kp (q0.o.chg (eX I) (E.o.small.ne_blk q0.o (by decide)));go_wp2_with fail;go_roundw
    case rel=>
     refine⟨k+1,by omega,by go_num,vq,?_,l1.o,q1.o⟩;have e1:(l.take (k+1)).filter (fN f)=lq:=by rw[Q.o,rJ,N.a]; simp[fN,L.o]
     have e2:((l.take (k+1)).filter fun b=> !fN f b)=ls++[x]:=by rw[Q.o,rJ,N.B]; simp[fN,L.o]
     rw[e1,e2];exact m1.o
    case measure=>simp[intOf]; omega
  .obtain rfl:n=k:=by omega
   have a3:l.take n=l:=eF (by have:=X.o; omega);rw[a3]at m;have j0:(l.filter (fN f)).length≤1000000:=by have:=nI (fN f) l; have:=X.o; omega
   have HI:=kp (Qt wr m.o.que j0);have q:=m.o.ptr.cell 0;simp only[aP]at q;unfold qV at HI;go_wp2_with fail;refine HI.o.mono ?_;rintro e w2 ⟨rfl,lq,l2,m0,j2,b2⟩;have g:=kp (m.o.big l2 m0);have G:=kp (M.o.trans (m0.chg.below (fun i y=>y.elim (fun e=>by omega) fun e=>(m.o.que.row.lt e).1) M.o.size));have r:=kp (O.o.chg m0.chg (fun z=>z.elim (fun e=>by omega) fun s=>m.o.que.row.ne_blk O.o (by decide) s));have o0:=k'2 j2 b2;have q2:=g.o.ptr.cell 0;have z0:=r.o.cell 0;have z1:=r.o.frozen 0;simp only[aP]at q2 z0;go_wp2_with fail;have hc:=(Chg.refl (fun i=>i=w.heap.size) w2).setCell (.inr rfl) 0 (.pointer (some ⟨w.heap.size+1,0,none⟩));have p0:=(r.o.setCell 0 (.pointer (some ⟨w.heap.size+1,0,none⟩))).cell 0;have HF:=k'2 (g.o.other r.o (by omega) hc) (G.o.setCell (p:=⟨w.heap.size,0,none⟩) (aN _) (.pointer (some ⟨w.heap.size+1,0,none⟩)));simp only[aC,aP]at p0;generalize w2.setCell ⟨w.heap.size,0,none⟩ (.pointer (some ⟨w.heap.size+1,0,none⟩))=W5 at *;refine bI (v:=.tuple #[.agg #[.pointer (some ⟨w.heap.size+1,0,none⟩)],_]) (by simp[results,results286,go_sem,p0]) rfl ⟨_,_,_,_,lq,rfl,HF.a,o0.a,o0.B,HF.B⟩
end
end Go.Proofs.YtoncgpddjmgbfaaGreat
