import Derived.Test.YtoncgpddjmgbfaaGreatZ23
import Derived.Test.YtoncgpddjmgbfaaGreatZ33
namespace Go.Proofs.YtoncgpddjmgbfaaGreat
open Go.RowKit Go.Proofs.Tryz
set_option maxRecDepth 100000
set_option maxHeartbeats 12800000
set_option linter.unusedVariables false
set_option linter.unusedSimpArgs false
section
attribute [-go_sem] loadCellsFrom storeCells run_eql_struct run_neq_struct
attribute [local go_sem] aX MgV.fold dA
structure yR(w W:World)(base g most:Nat)(v v':Value)(l l':List MgV)(xs:List Mg):Prop where
 b:dI W base g most v' (l++l')
 x:l'.map (·.x)=xs
 c:Chg (iX g v) w W
 o:∀k,some k=v'.ownBlock→some k=v.ownBlock∨w.heap.size≤k
def gR(l:List MgV):List Mg:=(l.map (·.x)).filter fun m=>decide (m.kind≠0)
theorem aBm(l:List MgV)(m:MgV):gR (l++[m])=if m.kind=0 then gR l else gR l++[m.x]:=by
 unfold gR;rw[fW,rJ]
 by_cases h:m.kind=0
 .rw[aK h]; simp[MgV.x,h]
 .rw[aF h]; simp[MgV.x,h]
theorem Dg{base M g D n:Nat}{v va:Value}{l p:List MgV}(w:World)(h:dI w base g D v l)(z:Ow w M 75 23 va MgV.cells p)(he:∀x∈p,Ow w M 122 11 x.ev En.cells x.es∧x.es.length≤1000000)(U:∀i,va.ownBlock=some i→some i≠v.ownBlock)(F:base≤w.heap.size)(Y:p.length=n)(C:l.length+n≤D)(h2:D≤200):
  Calls prog 24 #[.pointer (some ⟨g,0,none⟩),va] w fun e w'=>e=.returned (.i 0)∧∃v' l',yR w w' base g D v v' l l' (gR p):=by
 obtain⟨A,c,rfl,-⟩:=dO z;rw[Y]at z U ⊢;have r:=k'8 h z he U F Y C h2;have j1:n≤200:=by omega
 clear h z he U F C h2 Y;go_enter func24,ntmps24;go_wp2_with fail
 go_loopw [11] (fun i wr=>∃k:Nat,k≤n∧i=.i k∧∃v' l',yR w wr base g D v v' l l' (gR (p.take k))) (fun i _=>n-(intOf i).toNat)
 case atStart=>exact⟨0,dJ _,rfl,v,[],by rw[fG]; exact r.a,by simp[gR],Chg.refl _ _,fun _ h=>.inl h⟩
 case round=>
  obtain⟨k,hk,rfl,v',l',j⟩:=hrel
  by_cases b1:k<n
  .have X:k<p.length:=by rw[r.f]; exact b1
   have m0:Ow wr M 75 23 (.slice A n c) MgV.cells p:=r.b.chg j.c fun i I T=>by
    rcases T with rfl|T
    .exact r.b.ne_blk r.a.blk (by decide) I
    .exact r.d i I T
   obtain⟨b,c2,hv,-,-,-,-,d0,-⟩:=m0.at_ dA (by decide) (by omega);have hA:A=some ⟨b,0,none⟩:=by injection hv
   clear hv;subst hA;obtain⟨m,z⟩:=nm' (p[k]);have y0:gR (p.take (k+1))=if m.kind=0 then gR (p.take k) else gR (p.take k)++[m.x]:=by rw[fE X,z]; exact aBm _ _
   have V:Ow wr M 122 11 m.ev En.cells m.es∧m.es.length≤1000000:=by
    have:=r.c m (z▸cU X);exact⟨this.1.tg (r.a.cht j.c) (by unfold kT; decide),this.2⟩
   have l0:Sem.run prog (loadCellsFrom ⟨b,k*23,none⟩ 0 23 #[]) wr=.ok m.cells.toArray wr:=by
    have:=xJ (P:=prog) (w:=wr) (b:=b) (o:=k*23) m.cells (fun t u hu=>d0 k X t u (by rw[z]; exact hu))
    rwa [dA]at this
   obtain⟨y,b0,s2,x2,b2,-⟩:=eJ wr 75 iW m.cells rfl (fD V.1.one);unfold iW at b0 s2;have q:=k'5 x2 b2 y0 V j;have k0:=x2.cell 0;change _=some (Value.i m.kind)at k0;have g3:(k:Int)<(n:Int):=by omega
   clear d0 x2 b2 y0 V j m0 z
   by_cases J:m.kind=0
   .have e0:(m.kind != 0)=false:=by simp[J]
    have S:=kp J;clear J;have L:yR w y base g D v v' l l' (gR (p.take (k+1))):=by
     rw[q.c,aK S.o];have j:=q.E;exact⟨j.b.below q.b,j.x,j.c.then q.b,j.o⟩
    have HR:=kp L;clear L;go_wp2_with fail;go_roundw
    case rel=>exact⟨k+1,by omega,by go_num,v',l',HR.o⟩
    case measure=>simp[intOf]; omega
   have e0:(m.kind != 0)=true:=by simp[J]
   have S:=kp J;clear J;go_wp2_with fail;clear l0 s2 b0;have N:=bL (aH y.heap.size y);have R:=k'2 N (q.a.grow N);have HO:=kp (fun(W:World)(b:Below y.drew.heap.size y.drew W)=>Jp m W.heap.size W (((q.d.1.below q.b).below (N.on b)).sl eM) (aN _) q.d.2);clear N;refine fM 6 (fun W'=>Below y.drew.heap.size y.drew W') (fun _=>jK) (by kernel_rfl) (by kernel_rfl) (aH _ _) ?_
   iterate 4 (refine bE ?_; apply Exists.intro)
   refine bJ (MgO y.drew.heap.size m) ?_;refine bJ (MgL y.drew.heap.size m) ?_;refine cC ⟨?pers,?walk⟩
   case walk=>
    iterate 4
     apply bB (by kernel_rfl) (by intro t w h; cases h; exact trivial) rfl
     .intro W' s G; have q1:=(R.B.grow s).load (P:=prog) (k:=23) rfl; go_wp2_with fail;exact⟨rfl,_,rfl,s,aH _ _,rfl⟩
     simp only[Act.put,aE,aC,aD]
    refine⟨fun W' s G=>?_,fun u4=>?_⟩
    .go_wp2_with fail;refine (HO.o W' s).mono ?_;rintro e w2 ⟨v2,rfl,d1,g0⟩;go_wp2_with fail;exact⟨rfl,.agg (m.own v2).cells.toArray,rfl,s.on g0,g0,⟨v2,rfl,Ow.mono d1 s.size⟩⟩
    simp only[Act.put,aE,aC,aD];refine⟨fun W' s G=>?_,fun u5=>?_⟩
    .have f4:=G 22 (bO (by kernel_rfl));obtain⟨ev,rfl,Z⟩:=f4;go_wp2_with fail;have Q:=gG (enc:=MgV.cells) W' 75 (m.own ev);have F:=ba' W' (.cells (m.own ev).cells.toArray 75);have C:W'.heap.size<(W'.alloc (.cells (m.own ev).cells.toArray 75)).heap.size:=by simp
     have o0:=Z.below F;generalize W'.alloc (.cells (m.own ev).cells.toArray 75)=W5 at Q F C o0 ⊢;exact⟨rfl,.slice (some ⟨W'.heap.size,0,none⟩) 1 1,rfl,s.on F,F,⟨W'.heap.size,ev,rfl,C,Q,o0⟩⟩
    simp only[Act.put,aE,aC,aD];intro W9 s G;have f5:=G 23;obtain⟨a5,ev,rfl,a1,q0,p0⟩:=f5;clear G;simp only[bS,bU];have O:=q.b.on (R.a.on s);have j:=q.E;have a0:base≤wr.heap.size:=aB r.e j.c.size;have j0:(l++l').length+1≤D:=by
     have h3:=bA List.length j.x;have h4:(gR (p.take k)).length≤k:=by unfold gR; exact aB (nI _ _) (by rw[dD,cL]; omega)
     rw[dD]at h3;have:=r.g;rw[bF]; omega
    have HA:=kp (aBl (m.own ev) W9 (j.b.below O) q0 (p0.mono (aB a0 (aB q.b.size R.a.size))) (aB a0 O.size) j0 r.H);have HB:=kp O;clear q0 p0 O s j0 a0 a1 j;go_wp2_with fail;refine (HA.o).mono ?_;rintro e g1 ⟨rfl,v2,L,hc,z0⟩;have HZ:=kp (show yR w g1 base g D v v2 l (l'++[m.own ev]) (gR (p.take (k+1))) by
     have j:=q.E;refine⟨by rw[←cH]; exact L,?_,aBi (j.c.then HB.o) (fun i I=>?_) hc,fun i I=>?_⟩
     .rw[q.c,aF S.o,fW,j.x]; rfl
     .exact j.o i I
     .rcases z0 i I with h|h
      .exact j.o i h
      .exact .inr (aB (aB j.c.size HB.o.size) h))
    clear L hc z0;go_wp2_with fail;go_roundw
    case rel=>exact⟨k+1,by omega,by go_num,v2,_,HZ.o⟩
    case measure=>simp[intOf]; omega
   case pers=>
    exact⟨pv',pv',pv',pv',fun _ _ _ _ _ ⟨ev,e,h⟩ K=>⟨ev,e,h.below K⟩,fun _ _ _ _ _ ⟨a5,ev,e,C,Q,Z⟩ K=>⟨a5,ev,e,cY C K.size,Sl.below Q K C,Z.below K⟩,trivial⟩
  .obtain rfl:k=n:=by omega
   rw[eF (by rw[r.f]; exact aN _)]at j;have HQ:=kp j;clear j;go_wp2_with fail;go_ret;exact⟨rfl,v',l',HQ.o⟩
end
section
attribute [-go_sem] loadCellsFrom storeCells run_eql_struct run_neq_struct
attribute [local go_sem] aX MgV.fold dA
theorem aBn{g base M:Nat}{v:Value}{l:List MgV}(m:MgV)(w:World)(h:dI w base g M v (m::l))(hb:base≤w.heap.size):
  Calls prog 18 #[.pointer (some ⟨g,0,none⟩),.i 0] w fun e w'=>e=.returned (.tuple #[.agg m.cells.toArray,.i 0])∧∃v',dI w' base g M v' l∧Chg (iX g v) w w'∧v'.ownBlock=v.ownBlock:=by
 have T:m.ev.oneCell'=true:=(h.es m (List.mem_cons_self ..)).one;obtain⟨C,o0,z0,Q,s0⟩:=par w 75 iW;have s:=h.below Q;have V:=Li 0 C s;rw[show (decide ((0:Int)≤0)&&decide ((0:Int)<((m::l).length:Int)))=true by simp,aK rfl]at V;have m0:=kp V;obtain⟨b,p,cap,y1,rfl,o1,-,e0,g1,-⟩:=aM.form s.row (by show 0<(m::l).length; simp);have q0:C.cell? ⟨g,0,none⟩=some (.slice (some ⟨b,p,none⟩) (m::l).length cap):=s.blk.cell 0;obtain⟨_,_,hv,-,d1,a0⟩:=iS (P:=prog) 23 MgV.cells dA (by decide) (aM.rd s.row) 0 (by show 0<(m::l).length; simp)
 cases hv;have l0:Sem.run prog (loadCellsFrom ⟨b,p,none⟩ 0 23 #[]) C=.ok m.cells.toArray C:=by have:=a0 0; rw[nQ,dW]at this; exact this
 obtain⟨W1,p0,s1,x1,J,-⟩:=eJ C 75 iW m.cells rfl (fD T);have D:=s.below J;have q1:W1.cell? ⟨g,0,none⟩=some (.slice (some ⟨b,p,none⟩) (m::l).length cap):=D.blk.cell 0;have HD:=kp (Jr (S:=fun i=>base≤i) (l:=m::l) 0 1 W1 D.row (fun u G=>by
  obtain⟨xs,p1,G⟩:=List.mem_flatten.1 G;obtain⟨y,hy,rfl⟩:=cP.1 p1;exact fD (D.es y hy).one u G) (by simp) rfl)
 have j:=k'8 x1 D (z0.grow J) Q J s0 h hb;have HM:=kp (fD T);obtain⟨N,E⟩:=nm' ((m::l).length);rw[E]at q0 q1 HD;have z1:1≤N:=by rw[←E]; simp
 have HN:=kp E;have b2:N≤cap:=by rw[←E]; exact e0
 clear h s z0 Q V o1 d1 a0 x1 J D T s0 hb E e0 g1;unfold iW at o0 p0 s1;go_enter func18,ntmps18;go_wp2_with fail;refine ms' (m0.o) ?_;go_wp2_with fail;refine (HD.o).mono ?_;rintro e H ⟨v2,rfl,q,F,L⟩;have q:OR H (fun i=>base≤i) 75 23 v2 MgV.cells l:=q;obtain⟨r,c2,rfl,-⟩:∃A k,v2=.slice A l.length k∧_:=aM.slice q;obtain⟨z,d0⟩:∃n,l.length=n:=⟨_,rfl⟩
 rw[d0]at q L ⊢;have g0:some g≠(Value.slice (some ⟨b,p,none⟩) N cap).ownBlock:=by
  have:=aM.not_blk j.b.row j.b.blk (by decide);exact this
 have a1:b<w.heap.size:=(aM.lt j.g.row b rfl).2;have j1:=j.g.blk.lt;have j0:=j.f;have U:∀k,w.heap.size≤k→¬some k=(Value.slice (some ⟨b,p,none⟩) N cap).ownBlock:=fun k hk e=>by
  have e:some k=some b:=e
  cases e;omega
 have I:=j.b.blk.chg F g0;have x2:=j.a.chg F (U _ (dK j0));have z2:=j.c.chg F (U _ (aN _));have k2:H.cell? ⟨g,0,none⟩=some (.slice (some ⟨b,p,none⟩) (m::l).length cap):=I.cell 0;rw[HN.o]at k2;have f2:=I.frozen 0;have c3:=(Chg.refl (fun i=>i=g) H).setCell (.inr rfl) 0 (.slice r z c2);have Z:Blk (H.setCell ⟨g,0,none⟩ (.slice r z c2)) g 116 [.slice r z c2,.i M]:=I.setCell 0 _;have X:=q.chg c3 fun i K e=>aM.not_blk q I (by decide) (e▸K);have Y:=x2.chg c3 (by omega);have z3:=z2.chg c3 (by omega);obtain⟨W3,y0⟩:∃W,H.setCell ⟨g,0,none⟩ (.slice r z c2)=W:=⟨_,rfl⟩
 rw[y0]at c3 Y z3 Z X;have l3:=Y.load (P:=prog) (k:=23) rfl;obtain⟨O,a2,s4,x4,c4⟩:=z3.put m.cells rfl (fun u G=>HM.o u G);have l4:=x4.load (P:=prog) (k:=23) rfl;have R:Chg (iX g (.slice (some ⟨b,p,none⟩) (m::l).length cap)) w O:=by
  rw[HN.o];exact ((((Chg.of_below j.d).trans (Chg.of_below (S:=fun _=>False) j.e) fun _ _ h=>h.elim).trans F fun i _ h=>.inr h).trans c3 fun i _ h=>.inl h).trans c4 fun i K h=>by omega
 have hT:=j.g.cht R;have r4:=X.chg c4 fun i K e=>by
  have l1:some i=(Value.slice (some ⟨b,p,none⟩) N cap).ownBlock:=by rw[←L]; exact K
  have m1:some i=some b:=l1
  cases m1;omega
 have HF:=kp (show dI O base g M (.slice r z c2) l∧Chg (iX g (.slice (some ⟨b,p,none⟩) (m::l).length cap)) w O from
  ⟨⟨j.g.b,Z.chg c4 (by omega),by unfold OR at *; exact r4,fun x hx=>(j.g.es x (List.mem_cons_of_mem _ hx)).tg hT (by unfold kT; decide)⟩,R⟩)
 have HV:=kp (show (Value.slice r z c2).ownBlock=(Value.slice (some ⟨b,p,none⟩) (m::l).length cap).ownBlock from L);clear I x2 z2 Z X r4 Y z3 x4 c3 c4 F q L U g0 a1 j1 j0 q1 R hT d0;go_wp2_with fail;exact bI (v:=.tuple #[.agg m.cells.toArray,.i 0]) (by simp[results,results18,go_sem,l4]) rfl ⟨rfl,_,HF.a,HF.B,HV.o⟩
theorem aBo(w:World):(Instr.build 75 #[]).run prog w=.ok (.agg jV.cells.toArray) w:=run_build w _ _ _ (by kernel_rfl)
attribute [-go_sem] Instr.build
attribute [local go_sem] aBo
theorem aBp{g base r:Nat}{v:Value}{l:List MgV}(i:Nat)(w:World)(h:dI w base g r v l)(c:l.length≤i):
  Calls prog 18 #[.pointer (some ⟨g,0,none⟩),.i i] w fun e x=>∃z,e=.returned (.tuple #[z,.i 120])∧z=.agg jV.cells.toArray∧Bw' w x:=by
 obtain⟨n,p,f,a,s⟩:=par w 75 iW;have b:=Li (i:Int) n (h.below a);rw[show (decide ((0:Int)≤(i:Int))&&decide ((i:Int)<(l.length:Int)))=false by simp; omega,aF (by decide)]at b;have m:=kp b;obtain⟨y,A,C,d,c4⟩:=f.put jV.cells rfl (fD rfl);have q:=d.load (P:=prog) (k:=23) rfl;have j:=kp (a.trans (c4.below (B:=w.heap.size) (fun i c=>by omega) a.size));clear h b a s f d c4 c;unfold iW at p;go_enter func18,ntmps18;go_wp2_with fail;refine ms' (m.o) ?_;go_wp2_with fail;exact bI (v:=.tuple #[.agg jV.cells.toArray,.i 120]) (by simp[results,results18,go_sem,q]) rfl ⟨_,rfl,rfl,j.o⟩
end
section
structure fV where
 (r:RpV) (k:KpV) (down:Bool) (armed:Int)
def fV.cells(s:fV):List Value:=s.r.cells++s.k.cells++[.bool s.down,.i s.armed]
def nD:fV:=⟨jM,⟨0,0,0,⟨#[]⟩,[],.slice none 0 0⟩,false,0⟩
def fV.of(r:RpV)(k:KpV):fV:=⟨r,k,false,-1⟩
theorem aBq{s:fV}(h:∀u∈s.r.cells,u.oneCell'=true)(b:∀u∈s.k.cells,u.oneCell'=true):∀u∈s.cells,u.oneCell'=true:=by
 intro u a;unfold fV.cells at a;rcases cV.1 a with a|a
 .rcases cV.1 a with a|a
  .exact h u a
  .exact b u a
 .rcases bD.1 a with rfl|a
  .rfl
  .rw[bZ.1 a]; rfl
structure bC where
 (a b c:fV) (cv net:Value)
def bC.cells(q:bC):List Value:=[.i 3]++q.a.cells++q.b.cells++q.c.cells++nD.cells++nD.cells++nD.cells++nD.cells++[q.cv,q.net]
def bC.seat(q:bC):Nat→fV
 |0=>q.a
 |1=>q.b
 |_=>q.c
def bC.sit(q:bC)(i:Nat)(s:fV):bC:=match i with
 |0=>⟨s,q.b,q.c,q.cv,q.net⟩
 |1=>⟨q.a,s,q.c,q.cv,q.net⟩
 |_=>⟨q.a,q.b,s,q.cv,q.net⟩
theorem jZ{i:Nat}(h:i<3):i=0∨i=1∨i=2:=by omega
section
variable {q:bC}{i j:Nat}{s:fV}
theorem bC.len(q:bC):q.cells.length=234:=by kernel_rfl
theorem bC.sit_self(h:i<3):(q.sit i s).seat i=s:=by rcases jZ h with rfl|rfl|rfl<;>rfl
theorem bC.sit_ne(h:i<3)(a:j<3)(b:j≠i):(q.sit i s).seat j=q.seat j:=by rcases jZ h with rfl|rfl|rfl<;>rcases jZ a with rfl|rfl|rfl<;>first |rfl|exact absurd rfl b
theorem bC.sit_cv(q:bC)(i:Nat)(s:fV):(q.sit i s).cv=q.cv∧(q.sit i s).net=q.net:=by unfold bC.sit; split<;>exact⟨rfl,rfl⟩
theorem bC.sit_sit(h:i<3)(a:fV):(q.sit i s).sit i a=q.sit i a:=by rcases jZ h with rfl|rfl|rfl<;>rfl
theorem bC.take_r(q:bC)(h:i<3):(q.cells.drop (1+i*33)).take 26=(q.seat i).r.cells:=by rcases jZ h with rfl|rfl|rfl<;>kernel_rfl
theorem bC.c_down(q:bC)(h:i<3):q.cells[1+i*33+31]? =some (.bool (q.seat i).down):=by rcases jZ h with rfl|rfl|rfl<;>kernel_rfl
theorem bC.c_armed(q:bC)(h:i<3):q.cells[1+i*33+32]? =some (.i (q.seat i).armed):=by rcases jZ h with rfl|rfl|rfl<;>kernel_rfl
theorem bC.put_seat(q:bC)(h:i<3)(s:fV):iT q.cells (1+i*33) s.cells=(q.sit i s).cells:=by rcases jZ h with rfl|rfl|rfl<;>kernel_rfl
theorem bC.put_r(q:bC)(h:i<3)(r:RpV):iT q.cells (1+i*33) r.cells=(q.sit i {q.seat i with r:=r}).cells:=by rcases jZ h with rfl|rfl|rfl<;>kernel_rfl
theorem bC.put_k(q:bC)(h:i<3)(k:KpV):iT q.cells (1+i*33+26) k.cells=(q.sit i {q.seat i with k:=k}).cells:=by rcases jZ h with rfl|rfl|rfl<;>kernel_rfl
theorem bC.c_cv(q:bC):q.cells[232]? =some q.cv:=by kernel_rfl
theorem bC.c_net(q:bC):q.cells[233]? =some q.net:=by kernel_rfl
end
structure ClO(W:World)(base g:Nat)(q:bC)(ps:Nat→List ObV)(bg:Nat)(bv:Value)(ms:List MgV)(c:cD):Prop where
 lo:base≤g
 b:Blk W g 80 q.cells
 net:q.net=.pointer (some ⟨bg,0,none⟩)
 s:∀i,i<3→RpO W base (q.seat i).r (ps i)
 bag:dI W base bg 200 bv ms
 cl:OR W (fun i=>base≤i) 54 13 q.cv cD.cells [c]
def rE(t:TypeId):Prop:=t=80∨t=54∨t=116∨t=75
def fQ(t:TypeId):Prop:=t=264∨t=262∨t=3∨t=141∨t=122∨t=175∨t=172
section
variable {W W':World}{base base2 g bg:Nat}{q:bC}{ps:Nat→List ObV}{bv:Value}{ms:List MgV}{c:cD}{r:RpV}{rs:List ObV}{T:TypeId→Prop}
theorem Ws.tg{p:StV}(h:Ws W base p rs)(a:ChT T W W')(b:∀t,fQ t→¬T t):Ws W' base p rs:=
 ⟨⟨OR.tg h.h.obs a (b _ (by unfold fQ; decide)),⟨fun x c=>⟨(h.h.rws.row x c).1.tg a (b _ (by unfold fQ; decide)),(h.h.rws.row x c).2.tg a (b _ (by unfold fQ; decide))⟩,h.h.rws.sep⟩,h.h.eq,OR.tg h.h.free a (b _ (by unfold fQ; decide))⟩,OR.tg h.rows a (b _ (by unfold fQ; decide))⟩
theorem RpO.tg(h:RpO W base r rs)(a:ChT T W W')(b:∀t,fQ t→¬T t):RpO W' base r rs:=
 ⟨h.es.tg a (b _ (by unfold fQ; decide)),h.st.tg a b,h.starts.tg a (b _ (by unfold fQ; decide)),h.votes.tg a (b _ (by unfold fQ; decide)),fun v c=>(h.ves v c).tg a (b _ (by unfold fQ; decide)),h.acks.tg a (b _ (by unfold fQ; decide))⟩
theorem ClO.below(h:ClO W base g q ps bg bv ms c)(a:Bw' W W'):ClO W' base g q ps bg bv ms c:=⟨h.lo,h.b.grow a,h.net,fun i d=>(h.s i d).below a,h.bag.below a,h.cl.below a⟩
end
end
section
structure ClG(base:Nat)(w w':World):Prop where
 t:ChT rE w w'
 b:Below base w w'
theorem yS:∀t,fQ t→¬t=80:=fun t a e=>by subst e; revert a; unfold fQ; decide
theorem aBr:∀t,fQ t→¬t=54:=fun t a e=>by subst e; revert a; unfold fQ; decide
theorem aBs:∀t,fQ t→¬kT t:=fun t a e=>by rcases e with rfl|rfl<;>(revert a; unfold fQ; decide)
section
variable {L:List Rp}{N:List Mg}{W W' W'':World}{base g bg:Nat}{q q':bC}{ps ps':Nat→List ObV}{bv bv':Value}{ms ms':List MgV}{c c':cD}
theorem ClG.refl:ClG base W W:=⟨ChT.refl _ _,aH _ _⟩
theorem ClG.trans(h:ClG base W W')(a:ClG base W' W''):ClG base W W'':=⟨h.t.trans a.t,h.b.trans a.b⟩
theorem ClG.of_below(a:Bw' W W')(h:base≤W.heap.size):ClG base W W':=⟨ChT.of_below a,a.mono h⟩
theorem ClO.sz(h:ClO W base g q ps bg bv ms c):base≤W.heap.size:=dK (Nat.lt_of_le_of_lt h.lo h.b.lt)
theorem ClO.tg{T:TypeId→Prop}(h:ClO W base g q ps bg bv ms c)(d:ChT T W W')(e:∀t,fQ t→¬T t)(a:∀t,rE t→¬T t):ClO W' base g q ps bg bv ms c:=
 ⟨h.lo,h.b.tg d (a _ (.inl rfl)),h.net,fun i f=>(h.s i f).tg d e,h.bag.tg d ⟨a _ (.inr (.inr (.inl rfl))),a _ (.inr (.inr (.inr rfl))),e _ (by unfold fQ; decide)⟩,h.cl.tg d (a _ (.inr (.inl rfl)))⟩
theorem ClO.store(h:ClO W base g q ps bg bv ms c)(f:Blk W' g 80 q'.cells)(d:Chg (fun i=>i=g) W W')(j:q'.net=q.net)(m:q'.cv=q.cv)(k:∀i,i<3→RpO W base (q'.seat i).r (ps' i)):ClO W' base g q' ps' bg bv ms c∧ClG base W W':=by
 have a:ChT (fun t=>t=80) W W':=ChT.blk h.b rfl d;refine⟨⟨h.lo,f,j.trans h.net,fun i e=>(k i e).tg a yS,h.bag.tg a (by decide),?_⟩,⟨a.more fun t l=>.inl l,d.below (B:=base) (fun i e=>by have:=h.lo; omega) h.sz⟩⟩;rw[m];exact h.cl.tg a (by decide)
theorem ClO.put(h:ClO W base g q ps bg bv ms c)(f:dI W' base bg 200 bv' ms')(e:Chg (iX bg bv) W W'):ClO W' base g q ps bg bv' ms' c∧ClG base W W':=by
 have d:ChT kT W W':=h.bag.cht e;refine⟨⟨h.lo,h.b.tg d (by unfold kT; decide),h.net,fun i a=>(h.s i a).tg d aBs,f,h.cl.tg d (by unfold kT; decide)⟩,⟨d.more fun t j=>j.elim (fun h=>.inr (.inr (.inr h))) fun h=>.inr (.inr (.inl h)),e.below (B:=base) (fun i a=>?_) h.sz⟩⟩;rcases a with rfl|a
 .exact h.bag.b
 .exact (aM.lt h.bag.row i a).1
theorem ClO.cli(h:ClO W base g q ps bg bv ms c)(j:OR W' (fun i=>base≤i) 54 13 q.cv cD.cells [c'])(f:Chg (fun i=>some i=q.cv.ownBlock) W W'):ClO W' base g q ps bg bv ms c'∧ClG base W W':=by
 have d:ChT (fun t=>t=54) W W':=ChT.of f fun i a _=>by
  obtain⟨c0,e⟩:=aM.tag h.cl a;exact⟨_,_,_,e,rfl⟩
 refine⟨⟨h.lo,h.b.tg d (by decide),h.net,fun i a=>(h.s i a).tg d aBr,h.bag.tg d (by decide),j⟩,⟨d.more fun t k=>.inr (.inl k),f.below (B:=base) (fun i a=>?_) h.sz⟩⟩;exact (aM.lt h.cl i a).1
structure ClS(W:World)(base g:Nat)(L:List Rp)(N:List Mg)(c:cD):Prop where
 o:∃q ps bg bv ms,ClO W base g q ps bg bv ms c∧ms.map (·.x)=N∧∀i,i<3→L[i]? =some (q.seat i).r.x∧(q.seat i).down=false∧(q.seat i).armed= -1
theorem ClS.below(h:ClS W base g L N c)(d:Bw' W W'):ClS W' base g L N c:=by
 obtain⟨q,ps,bg,bv,ms,a,b⟩:=h.o;exact⟨q,ps,bg,bv,ms,a.below d,b⟩
end
end
section
attribute [-go_sem] loadCellsFrom storeCells run_eql_struct run_neq_struct Instr.build
attribute [local go_sem] aX
theorem Dh{g:Nat}{q:bC}{i:Nat}{n:Int}(W:World)(h:Blk W g 80 q.cells)(a:i<3)(b:n=(i:Int)+1):
  Calls prog 12 #[.pointer (some ⟨g,0,none⟩),.i n] W fun e c=>e=.returned (.pointer (some ⟨g,1+i*33,none⟩))∧c=W:=by
 have d:W.cell? ⟨g,0,none⟩=some (.i 3):=h.cell 0;clear h;obtain⟨rfl,rfl⟩|⟨rfl,rfl⟩|⟨rfl,rfl⟩:(i=0∧n=1)∨(i=1∧n=2)∨(i=2∧n=3):=by omega
 all_goals
  clear a b;go_enter func12,ntmps12;go_wp2_with fail;go_ret;exact⟨rfl,rfl⟩
theorem aBt{g:Nat}(W:World):Calls prog 12 #[.pointer (some ⟨g,0,none⟩),.i (-1)] W fun e a=>e=.returned (.pointer none)∧a=W:=by
 go_enter func12,ntmps12;go_wp2_with fail;go_ret;exact⟨rfl,rfl⟩
theorem aBu{g:Nat}{q:bC}(W:World)(h:Blk W g 80 q.cells):
  Calls prog 26 #[.pointer (some ⟨g,1,none⟩),.i (-1)] W fun e j=>e=.returned (.i 0)∧∃q':bC,q'=q.sit 0 {q.seat 0 with down:=true,armed:= -1}∧Blk j g 80 q'.cells∧Chg (fun i=>i=g) W j:=by
 have m:=h.cell 32;have p:=h.frozen 32;rw[show q.cells[32]? =some (.bool (q.seat 0).down) by kernel_rfl]at m;have b:Blk (W.setCell ⟨g,32,none⟩ (.bool true)) g 80 (q.cells.set 32 (.bool true)):=h.setCell 32 _;have c1:=(Chg.refl (fun i=>i=g) W).setCell (.inr rfl) 32 (.bool true);obtain⟨d,k⟩:=nm' (W.setCell ⟨g,32,none⟩ (.bool true));rw[k]at b c1;have n:=b.cell 33;have r:=b.frozen 33;rw[show (q.cells.set 32 (.bool true))[33]? =some (.i (q.seat 0).armed) by kernel_rfl]at n;have c:Blk (d.setCell ⟨g,33,none⟩ (.i (-1))) g 80 ((q.cells.set 32 (.bool true)).set 33 (.i (-1))):=b.setCell 33 _;have c2:=(Chg.refl (fun i=>i=g) d).setCell (.inr rfl) 33 (.i (-1));obtain⟨o,l⟩:=nm' (d.setCell ⟨g,33,none⟩ (.i (-1)));rw[l]at c c2;rw[show (q.cells.set 32 (.bool true)).set 33 (.i (-1))=(q.sit 0 {q.seat 0 with down:=true,armed:= -1}).cells by kernel_rfl]at c;have f:=k'2 c (c1.trans c2 fun _ _ h=>h);clear h b c c1 c2;go_enter func26,ntmps26;go_wp2_with fail;go_ret;exact⟨rfl,_,rfl,f.a,f.B⟩
structure Lj(w w':World)(base g:Nat)(q:bC)(i:Nat)(r:RpV)(ps:Nat→List ObV)(rs:List ObV)(bg:Nat)(ms:List MgV)(c:cD)(more:List MgV):Prop where
 o:∃bv' ms',ClO w' base g (q.sit i (fV.of r r.k)) (fun j=>if j=i then rs else ps j) bg bv' (ms++ms') c∧ms'.map (·.x)=gR more
 g:ClG base w w'
theorem aBv{base N g O:Nat}{q:bC}{ps:Nat→List ObV}{bv:Value}{Y:List MgV}{c:cD}{i:Nat}{r:RpV}{rs:List ObV}{rv Z:Value}{E:List MgV}(w:World)(h:ClO w base g q ps O bv Y c)(C:i<3)(hd:(q.seat i).down=false)(ha:(q.seat i).armed= -1)(W:RpO w base r rs)
  (hm:Ow w N 75 23 Z MgV.cells E) (he:∀x∈E,Ow w N 122 11 x.ev En.cells x.es∧x.es.length≤1000000) (b0:∀k,some k=bv.ownBlock→k<N) (hl:Y.length+E.length≤200):
  Calls prog 19 #[.pointer (some ⟨g,0,none⟩),.pointer (some ⟨g,1+i*33,none⟩),.agg r.cells.toArray,.agg #[rv,Z]] w fun e w'=>e=.returned (.tuple #[])∧Lj w w' base g q i r ps rs O Y c E:=by
 obtain⟨W1,y0,x1,b1,z1⟩:=par w 50 r.cells;obtain⟨I,z0,M,b2,z2⟩:=par W1 68 [rv,Z];have hb:=b1.on b2;have Q:=h.below hb;obtain⟨o,V⟩:=nm' (1+i*33);have k1:=Q.b.cell (1+i*33+32);rw[q.c_armed C,ha,V]at k1;have m0:∀u∈r.cells,u.oneCell'=true:=lT W.rpAt;have l0:∀u∈r.k.cells,u.oneCell'=true:=Bt W.rpAt.1;have e0:g<w.heap.size:=h.b.lt;have aJ:∀q':bC,q'.cells.length=234:=bC.len;have j0:o+26+5≤234:=by omega
 have p1:iT q.cells o r.cells=(q.sit i {q.seat i with r:=r}).cells:=V▸q.put_r C r;have p2:iT (q.sit i {q.seat i with r:=r}).cells (o+26) r.k.cells=(q.sit i (fV.of r r.k)).cells:=by
  rw[←V,bC.put_k _ C,bC.sit_self C,bC.sit_sit C];show (q.sit i ⟨r,r.k,(q.seat i).down,(q.seat i).armed⟩).cells=_;rw[hd,ha];rfl
 have G:=k'4 (Q.b.grow (bL (aH _ I))) ((x1.grow b2).grow (bL (aH _ I))) (M.grow (bL (aH _ I))) (hb.on (bL (aH _ I)));have z:=k'6 h W hm he b0 hl;have p:=k'8 m0 l0 e0 j0 p1 p2 C z1;clear h W hm he b0 hl x1 M b1 b2 z1 z2 hb Q m0 l0 e0 j0 p1 p2 hd ha aJ;rw[V];go_enter func19,ntmps19;go_wp2_with fail;clear k1;have g1:=bC.len q;refine eY 10 (SwO I.drew g 80 q.cells (q.sit i {q.seat i with r:=r}).cells 7) (fun _=>eQ) (by kernel_rfl) (by kernel_rfl) (SwO.start G.a) ?_
 iterate 7 (refine bE ?_; apply Exists.intro)
 refine bJ dV ?_
 iterate 2 (refine bE ?_; apply Exists.intro)
 refine cC ⟨?_,?_⟩
 rotate_left
 .iterate 7
   apply bQ (by kernel_rfl) (by intro t w h; cases h; exact trivial) rfl
   .intro X W' m hX hw hV R;have xb:=G.b.chg m.c (by have:=p.o; omega);have l1:=xb.load (P:=prog) (k:=26) rfl;have l2:=xb.loadOff (P:=prog) 2 5 r.k.cells rfl rfl;clear xb;go_wp2_with fail;exact⟨rfl,_,rfl,m.other (by decide),aV,rfl⟩
   simp only[Act.put,aE,aC,aD,aS,aT]
  refine⟨fun X W' m hX hw hV R=>?_,fun u7=>?_⟩
  .have B:=m.n hX;obtain⟨W5,a1,s5,x5,c5⟩:=B.off o r.cells _ p.e (by rw[bC.len]; have:=p.d; have:r.cells.length=26:=rfl; omega) p.a;have p0:=m.put (u:=undef) x5 c5;clear B x5 c5;go_wp2_with fail;exact⟨rfl,undef,rfl,p0,aV,trivial⟩
  simp only[Act.put,aS,aT]
  iterate 2
   apply bQ (by kernel_rfl) (by intro t w h; cases h; exact trivial) rfl
   .intro X W' m hX hw hV R;go_wp2_with fail;exact⟨rfl,_,rfl,m.other (by decide),aV,rfl⟩
   simp only[Act.put,aE,aC,aD,aS,aT]
  intro W8 m R;clear R;simp only[bS,bU];have B:=m.y u7 rfl;obtain⟨W9,d1,s9,x9,c9⟩:=B.off (o+26) r.k.cells _ p.f (by rw[bC.len]; have:=p.d; have:r.k.cells.length=5:=rfl; omega) p.b;have U:=(Chg.of_below (S:=fun i=>i=g) G.D).trans ((m.c).trans c9 fun _ _ h=>h) fun _ _ h=>h;obtain⟨l,J⟩:=ClO.store (ps':=fun j=>if j=i then rs else ps j) z.a x9 U (bC.sit_cv q i _).2 (bC.sit_cv q i _).1 (fun j hj=>by
   by_cases a0:j=i
   .subst a0;rw[bC.sit_self hj,aK rfl];exact z.b
   .rw[bC.sit_ne p.g hj a0,aF a0];exact z.a.s j hj)
  have M:=(G.c.chg (m.c.trans c9 fun _ _ h=>h) (by have:=p.o; have:=G.D.size; exact fun e=>absurd e (Nat.ne_of_gt (cY p.c (dK p.H)))))
  have kn:=bG (show W9.cell? ⟨g,233,none⟩=some (.pointer (some ⟨O,0,none⟩)) by have:=l.b.cell 233; rw[bC.c_net,l.net]at this; exact this);have km:=bG (show W9.cell? ⟨W1.heap.size,1,none⟩=some Z from M.cell 1);have g0:=z.c.chg_blk z.a.b U (by decide);have d0:∀x∈E,Ow W9 N 122 11 x.ev En.cells x.es∧x.es.length≤1000000:=fun x L=>⟨(z.d x L).1.chg_blk z.a.b U (by decide),(z.d x L).2⟩
  have A:=k'4 l J g0 d0;clear B x9 c9 U l J M m g0 d0;go_wp2_with fail;clear s9;refine mO 6 (by kernel_rfl) (by kernel_rfl) ?_;simp only[lV,kB,bS,bU]
  repeat (go_big_quiet_step (fail))
  refine cI ?_;rintro o0 ⟨⟨_,K⟩,rfl⟩;have l:=A.a.below K;have HP:=kp (Dg o0 l.bag (A.c.below K) (fun x L=>⟨(A.D x L).1.below K,(A.D x L).2⟩) (fun k B e=>by have h1:=(A.c.lt B).1; have Q:=z.e k e; omega) l.sz rfl z.F (aN _));have HC:=kp l;have HB:=kp (A.b.trans (ClG.of_below K A.a.sz));clear l K;go_wp2_with fail;refine (HP.o).mono ?_;rintro e q0 ⟨rfl,v',l',T⟩;obtain⟨l,J⟩:=HC.o.put T.b T.c;have HF:=kp (show Lj w q0 base g q i r ps rs O Y c E from⟨⟨v',l',l,T.x⟩,HB.o.trans J⟩);clear l J T;go_wp2_with fail;exact bI (v:=.tuple #[]) (by simp[results,results19,go_sem]) rfl ⟨rfl,HF.o⟩
 .exact⟨pv',pv',pv',pv',pv',pv',pv',fun _ _ _ _ _ h _=>h,pv',pv',trivial⟩
end
section
attribute [-go_sem] loadCellsFrom storeCells run_eql_struct run_neq_struct Instr.build
attribute [local go_sem] aX
def Di:cD:=⟨1,3,1,0,1,false,dU⟩
def vP:cD:=⟨1,3,1,0,1,true,dU⟩
theorem aBw(w:World):Calls prog 23 #[.agg dZ.cells.toArray,.agg opB.cells.toArray] w fun e w'=>e=.returned (.tuple #[.agg dC.cells.toArray,.agg fP.cells.toArray,.i 0])∧Bw' w w':=by
 obtain⟨W1,j1,x1,S,z1⟩:=par w 54 dZ.cells;obtain⟨N,p1,x2,T,z2⟩:=par W1 25 opB.cells;obtain⟨O,j0,x3,D,z3⟩:=par N 54 eK;obtain⟨W4,l0,x4,aQ,z4⟩:=par O 75 jE;unfold eK at j0;unfold jE at l0;have r:=x1.grow (T.on (D.on aQ));have l1:=r.load (P:=prog) (k:=13) rfl;have HC:=kp (Df dZ W4 Lg);have j:=k'9 r (x2.grow (D.on aQ)) (x3.grow aQ) x4 (S.on (T.on (D.on aQ))) z1 (show W1.heap.size<N.heap.size from z2) (show N.heap.size<O.heap.size from z3) z4;have Z:=kp S.size;clear x1 x2 x3 x4 S T D aQ z1 z2 z3 z4 r;go_enter func23,ntmps23;go_wp2_with fail;refine mb' (HC.o) fun f m=>?_;have a1:=kp m;have r:=j.a.grow m;have k2:f.cell? ⟨w.heap.size,2,none⟩=some (.i 0):=r.cell 2;have k5:f.cell? ⟨w.heap.size,5,none⟩=some (.bool false):=r.cell 5;have l5:=r.load (P:=prog) (k:=13) rfl;obtain⟨s,m0,J,b6,z6⟩:=par f 131 dZ.cells;have j2:s.cell? ⟨f.heap.size,2,none⟩=some (.i 0):=J.cell 2;have f2:=J.frozen 2;have x7:Blk (s.setCell ⟨f.heap.size,2,none⟩ (.i 1)) f.heap.size 131 Di.cells:=J.setCell 2 _;have c7:=(Chg.refl (fun i=>i=f.heap.size) s).setCell (.inr rfl) 2 (.i 1);have p0:=Lf dZ f;have x:=m.on b6;have Y:=kp (fun(W:World)(G:Chg (fun i=>i=f.heap.size) s W)=>fR ((j.b.grow x).chg G (by have:=j.o; have:=m.size; omega)) (fR ((j.c.grow x).chg G (by have:=j.o; have:=m.size; omega)) (fR ((j.d.grow x).chg G (by have:=j.o; have:=m.size; omega)) (show Bw' w W from (j.e.on x).trans (G.below (B:=w.heap.size) (fun i hi=>by have:=j.e.size; have:=m.size; omega) (j.e.on x).size)))));have K:=k'2 x7 c7;have HS:=kp (show O.heap.size<f.heap.size from cY j.I m.size);clear m x r J b6 z6 x7 c7 l1;go_wp2_with fail;clear k2 k5 l5 j2 f2 p0;obtain⟨Q,a0⟩:∃W,s.setCell ⟨f.heap.size,2,none⟩ (.i 1)=W:=⟨_,rfl⟩
 rw[a0]at K ⊢;have L:=k'2 (show Blk Q.drew f.heap.size 131 Di.cells from K.a.grow (bL (aH _ _))) (show Chg (fun i=>i=f.heap.size) s Q.drew from K.B.drew);clear m0 a0;refine eY 10 (SwO Q.drew f.heap.size 131 Di.cells vP.cells 6) (fun _=>eQ) (by kernel_rfl) (by kernel_rfl) (SwO.start L.a) ?_
 iterate 6 (refine bE ?_; apply Exists.intro)
 refine bJ dV ?_
 iterate 3 (refine bE ?_; apply Exists.intro)
 refine cC ⟨?_,?_⟩
 rotate_left
 .iterate 6
   apply bQ (by kernel_rfl) (by intro t w h; cases h; exact trivial) rfl
   .intro X W' g C H E l;have l3:=(Y.o W' (L.B.trans g.c fun _ _ h=>h)).1.load (P:=prog) (k:=7) rfl;go_wp2_with fail;exact⟨rfl,_,rfl,g.other (by decide),aV,rfl⟩
   simp only[Act.put,aE,aC,aD,aS,aT]
  refine⟨fun X W' g C H E l=>?_,fun u6=>?_⟩
  .have q:=g.n C;have k5:W'.cell? ⟨f.heap.size,5,none⟩=some (.bool false):=q.cell 5;have f5:=q.frozen 5;have x5:Blk (W'.setCell ⟨f.heap.size,5,none⟩ (.bool true)) f.heap.size 131 vP.cells:=q.setCell 5 _;have q0:=g.put (u:=undef) x5 ((Chg.refl (fun i=>i=f.heap.size) W').setCell (.inr rfl) 5 (.bool true));clear q x5;go_wp2_with fail;exact⟨rfl,undef,rfl,q0,aV,trivial⟩
  simp only[Act.put,aS,aT]
  iterate 3
   apply bQ (by kernel_rfl) (by intro t w h; cases h; exact trivial) rfl
   .intro X W' g C H E l;go_wp2_with fail;exact⟨rfl,_,rfl,g.other (by decide),aV,rfl⟩
   simp only[Act.put,aE,aC,aD,aS,aT]
  intro R g l;clear l;simp only[bS,bU];have q:=g.y u6 rfl;have s9:=q.storeOff (P:=prog) 6 opB.cells (by decide) (fun u hu=>kQ dC u (by unfold cD.cells; exact List.mem_append_right _ hu));have U:Blk (R.setRow f.heap.size (iT vP.cells 6 opB.cells).toArray) f.heap.size 131 dC.cells:=q.set _;have c9:=(Chg.refl (fun i=>i=f.heap.size) R).setRow (.inr rfl) (iT vP.cells 6 opB.cells).toArray;obtain⟨A,b0⟩:∃W,R.setRow f.heap.size (iT vP.cells 6 opB.cells).toArray=W:=⟨_,rfl⟩
  rw[b0]at s9 U c9;have V:=k'2 U ((L.B.trans g.c fun _ _ h=>h).trans c9 fun _ _ h=>h);clear q U c9 g b0;go_wp2_with fail;clear s9;have M:=k'2 (V.a.grow (bL (aH A.heap.size A))) (show Chg (fun i=>i=f.heap.size) s A.drew from V.B.drew);refine eY 6 (fun _ W=>Below A.drew.heap.size A.drew W) (fun _=>eQ) (by kernel_rfl) (by kernel_rfl) (aH _ _) ?_
  iterate 5 (refine bE ?_; apply Exists.intro)
  refine bJ (fun z _=>z=.agg fP.cells.toArray) ?_;refine cC ⟨?_,?_⟩
  rotate_left
  .iterate 5
    apply bQ (by kernel_rfl) (by intro t w h; cases h; exact trivial) rfl
    .intro X W' g C H E l;have l3:=(M.a.grow g).load (P:=prog) (k:=13) rfl;go_wp2_with fail;exact⟨rfl,_,rfl,g,aV,rfl⟩
    simp only[Act.put,aE,aC,aD,aS,aT]
   refine⟨fun X W' g C H E l=>?_,fun u5=>?_⟩
   .have HM:=kp (aA9 W' (M.a.grow g));have HB:=kp g;clear g;go_wp2_with fail;refine mb' (HM.o) fun w2 o0=>?_;go_wp2_with fail;exact⟨rfl,_,rfl,HB.o.on o0,aV,rfl⟩
   simp only[Act.put,aE,aC,aD,aS,aT];intro g0 g l;have h5:u5=.agg fP.cells.toArray:=l 57;clear l;subst h5;simp only[bS,bU];obtain⟨-,h3,h4,F⟩:=Y.o g0 (M.B.then g);obtain⟨d1,m1,q1,d0,c11⟩:=h3.put dC.cells rfl (kQ dC);have y4:=h4.chg c11 (by have:=HS.o; have:=j.o; omega);obtain⟨g1,o1,a2,e0,c12⟩:=y4.put fP.cells rfl (fD (p:=fP) rfl);have y0:=(d0.chg c12 (by have:=j.o; omega)).load (P:=prog) (k:=13) rfl;have z0:=e0.load (P:=prog) (k:=23) rfl;have HE:=kp (F.trans ((c11.below (B:=w.heap.size) (fun i hi=>by have:=j.o; have:=Z.o; omega) F.size).trans (c12.below (B:=w.heap.size) (fun i hi=>by have:=j.o; have:=Z.o; omega) (aB F.size c11.size))));clear h3 h4 F d0 c11 y4 e0 c12 g;go_wp2_with fail;exact bI (v:=.tuple #[.agg dC.cells.toArray,.agg fP.cells.toArray,.i 0]) (by simp[results,results23,go_sem,y0,z0]) rfl ⟨rfl,HE.o⟩
  .exact⟨pv',pv',pv',pv',pv',fun _ _ _ _ _ h _=>h,trivial⟩
 .exact⟨pv',pv',pv',pv',pv',pv',fun _ _ _ _ _ h _=>h,pv',pv',pv',trivial⟩
structure yT(m:MgV):Prop where
 k:m.kind=2
 s:m.src=1
 d:m.dst= -1
 q:m.seq=1
 v:m.view=0
 o:m.ok=true
theorem aBx(m:MgV)(w:World)(hm:yT m):Calls prog 44 #[.agg dC.cells.toArray,.agg m.cells.toArray] w fun e w'=>e=.returned (.tuple #[.agg kR.cells.toArray,.agg jV.cells.toArray,.bool true,.i 0])∧Bw' w w':=by
 obtain⟨j,g2,x1,Q,z1⟩:=par w 54 dC.cells;obtain⟨N,o2,x2,R,z2⟩:=par j 75 m.cells;obtain⟨O,o0,x3,F,z3⟩:=par N 54 eK;obtain⟨W4,p0,x4,aQ,z4⟩:=par O 75 jE;unfold eK at o0;unfold jE at p0;have n:=x1.grow (R.on (F.on aQ));have l1:=n.load (P:=prog) (k:=13) rfl;have HC:=kp (Df dC W4 aA7);have g:=k'9 n (x2.grow (F.on aQ)) (x3.grow aQ) x4 (Q.on (R.on (F.on aQ))) z1 (show j.heap.size<N.heap.size from z2) (show N.heap.size<O.heap.size from z3) z4;have p:=kp hm;have Z:=kp Q.size;clear x1 x2 x3 x4 Q R F aQ z1 z2 z3 z4 n hm;go_enter func44,ntmps44;go_wp2_with fail;refine mb' (HC.o) fun f H=>?_;have n:=g.a.grow H;have z:=g.b.grow H;have k0:f.cell? ⟨w.heap.size,0,none⟩=some (.i 1):=n.cell 0;have k1:f.cell? ⟨w.heap.size,1,none⟩=some (.i 3):=n.cell 1;have k2:f.cell? ⟨w.heap.size,2,none⟩=some (.i 1):=n.cell 2;have k5:f.cell? ⟨w.heap.size,5,none⟩=some (.bool true):=n.cell 5;have l5:=n.load (P:=prog) (k:=13) rfl;have m0:f.cell? ⟨j.heap.size,0,none⟩=some (.i 2):=by rw[←p.o.k]; exact z.cell 0
 have m1:f.cell? ⟨j.heap.size,1,none⟩=some (.i 1):=by rw[←p.o.s]; exact z.cell 1
 have m2:f.cell? ⟨j.heap.size,2,none⟩=some (.i (-1)):=by rw[←p.o.d]; exact z.cell 2
 have m3:f.cell? ⟨j.heap.size,3,none⟩=some (.i 0):=by rw[←p.o.v]; exact z.cell 3
 have j1:f.cell? ⟨j.heap.size,12,none⟩=some (.i 1):=by rw[←p.o.q]; exact z.cell 12
 have x:=kp H;clear n z H l1;go_wp2_with fail;refine ms' (tG 1 1 3 f rfl) ?_;go_wp2_with fail;refine ms' (tG 0 0 900000000 f rfl) ?_;obtain⟨C,q0,V,b6,z6⟩:=par f 131 dC.cells;have a1:=Lf dC f;have l:=x.o.on b6;have T:=(g.b.grow l)
 have Y:=kp (fun(W:World)(J:Chg (fun i=>i=f.heap.size) C W)=>fR (T.chg J (by have:=g.o; have:=x.o.size; omega)) (fR ((g.c.grow l).chg J (by have:=g.o; have:=x.o.size; omega)) (fR ((g.d.grow l).chg J (by have:=g.o; have:=x.o.size; omega)) (show Bw' w W from (g.e.on l).trans (J.below (B:=w.heap.size) (fun i hi=>by have:=g.e.size; have:=x.o.size; omega) (g.e.on l).size)))));have HS:=kp (show O.heap.size<f.heap.size from cY g.I x.o.size);have g0:=kp V;have j3:=bG (show C.cell? ⟨f.heap.size,3,none⟩=some (.i 0) from V.cell 3);have n3:=bG (show C.cell? ⟨j.heap.size,3,none⟩=some (.i 0) by rw[←p.o.v]; exact T.cell 3);clear V b6 z6 l T;go_wp2_with fail;clear k0 k1 k2 k5 l5 m0 m1 m2 m3 j1 a1 q0;refine mO 12 (by kernel_rfl) (by kernel_rfl) ?_;simp only[lV,kB,bS,bU]
 repeat (go_big_quiet_step (fail))
 refine cI ?_;rintro D ⟨⟨_,l⟩,rfl⟩;have L:=g0.o.grow l;have k3:D.cell? ⟨f.heap.size,3,none⟩=some (.i 0):=L.cell 3;have f3:=L.frozen 3;have y:Blk (D.setCell ⟨f.heap.size,3,none⟩ (.i 0)) f.heap.size 131 dC.cells:=L.setCell 3 _;have c8:Chg (fun i=>i=f.heap.size) C (D.setCell ⟨f.heap.size,3,none⟩ (.i 0)):=(Chg.of_below (S:=fun i=>i=f.heap.size) l).setCell (.inr rfl) 3 _;obtain⟨r,y0⟩:∃W,D.setCell ⟨f.heap.size,3,none⟩ (.i 0)=W:=⟨_,rfl⟩
 rw[y0]at y c8;have H8:=k'2 y c8;obtain⟨X,-⟩:=Y.o r c8;have q2:r.cell? ⟨j.heap.size,22,none⟩=some (.bool true):=by rw[←p.o.o]; exact X.cell 22
 have m1:r.cell? ⟨j.heap.size,1,none⟩=some (.i 1):=by rw[←p.o.s]; exact X.cell 1
 have k4:r.cell? ⟨f.heap.size,4,none⟩=some (.i 1):=y.cell 4;have f4:=y.frozen 4;have A:Blk (r.setCell ⟨f.heap.size,4,none⟩ (.i 1)) f.heap.size 131 dC.cells:=y.setCell 4 _;have c9:=(Chg.refl (fun i=>i=f.heap.size) r).setCell (.inr rfl) 4 (.i 1);obtain⟨E,z0⟩:∃W,r.setCell ⟨f.heap.size,4,none⟩ (.i 1)=W:=⟨_,rfl⟩
 rw[z0]at A c9;have k5:E.cell? ⟨f.heap.size,5,none⟩=some (.bool true):=A.cell 5;have f5:=A.frozen 5;have K:Blk (E.setCell ⟨f.heap.size,5,none⟩ (.bool false)) f.heap.size 131 (cD.cells ⟨1,3,1,0,1,false,opB⟩):=A.setCell 5 _;have c10:=(Chg.refl (fun i=>i=f.heap.size) E).setCell (.inr rfl) 5 (.bool false);obtain⟨M,j0⟩:∃W,E.setCell ⟨f.heap.size,5,none⟩ (.bool false)=W:=⟨_,rfl⟩
 rw[j0]at K c10;have o1:=K.storeOff (P:=prog) 6 dU.cells (by decide) (fun u hu=>kQ kR u (by unfold cD.cells; exact List.mem_append_right _ hu));have U:Blk (M.setRow f.heap.size (iT (cD.cells ⟨1,3,1,0,1,false,opB⟩) 6 dU.cells).toArray) f.heap.size 131 kR.cells:=K.set _;have c11:=(Chg.refl (fun i=>i=f.heap.size) M).setRow (.inr rfl) (iT (cD.cells ⟨1,3,1,0,1,false,opB⟩) 6 dU.cells).toArray;obtain⟨a0,l0⟩:∃W,M.setRow f.heap.size (iT (cD.cells ⟨1,3,1,0,1,false,opB⟩) 6 dU.cells).toArray=W:=⟨_,rfl⟩
 rw[l0]at o1 U c11;have p2:=U.load (P:=prog) (k:=13) rfl;have b0:=((c8.trans c9 fun _ _ h=>h).trans c10 fun _ _ h=>h).trans c11 fun _ _ h=>h;obtain⟨-,h3,h4,G⟩:=Y.o a0 b0;obtain⟨p1,j2,a3,d0,c12⟩:=h3.put kR.cells rfl (kQ kR);have y4:=h4.chg c12 (by have:=HS.o; have:=g.o; omega);obtain⟨q1,l2,d3,e0,c13⟩:=y4.put jV.cells rfl (fD rfl);have d1:=(d0.chg c13 (by have:=g.o; omega)).load (P:=prog) (k:=13) rfl;have g1:=e0.load (P:=prog) (k:=23) rfl;have HE:=kp (G.trans ((c12.below (B:=w.heap.size) (fun i hi=>by have:=g.o; have:=Z.o; omega) G.size).trans (c13.below (B:=w.heap.size) (fun i hi=>by have:=g.o; have:=Z.o; omega) (aB G.size c12.size))));have a2:=Ld r;have d2:=aA5 a0;clear h3 h4 G d0 c12 y4 e0 c13 b0 L y c8 c9 A c10 K c11 U X l j3 n3;go_wp2_with fail;exact bI (v:=.tuple #[.agg kR.cells.toArray,.agg jV.cells.toArray,.bool true,.i 0]) (by simp[results,results44,go_sem,d1,g1]) rfl ⟨rfl,HE.o⟩
end
end Go.Proofs.YtoncgpddjmgbfaaGreat
