import Derived.Test.YtdoopoapbffpbaaGreatZ29
import Derived.Test.YtdoopoapbffpbaaGreatZ32
namespace Go.Proofs.YtdoopoapbffpbaaGreat
open Go.RowKit Go.Proofs.Tryz
set_option maxRecDepth 100000
set_option maxHeartbeats 12800000
set_option linter.unusedVariables false
set_option linter.unusedSimpArgs false
section
attribute [-go_sem] loadCellsFrom storeCells
attribute [local go_sem] bC
def kH(l:List En):Nat→Int
 |0=>0
 |k+1=>((l[k]?).map (·.v)).getD 0
theorem yX(l:List En)(k:Nat)(a:k<l.length):kH l (k+1)=(l[k]).v:=by
 show ((l[k]?).map (·.v)).getD 0=_;rw[eK a];rfl
theorem Mc{x:En}(h:fY x=true):0≤x.v:=by
 unfold fY aF at h;simp only[bI,bP]at h;exact h.2.1.1
theorem Yk(k:Kd):(k.view<0∧dA k=false)∨(¬k.view<0∧900000000<k.view∧dA k=false)∨(¬k.view<0∧¬900000000<k.view∧k.normal<0∧dA k=false)∨
  (¬k.view<0∧¬900000000<k.view∧¬k.normal<0∧k.view<k.normal∧dA k=false)∨
  (¬k.view<0∧¬900000000<k.view∧¬k.normal<0∧¬k.view<k.normal∧k.base<0∧dA k=false)∨
  (¬k.view<0∧¬900000000<k.view∧¬k.normal<0∧¬k.view<k.normal∧¬k.base<0∧900000000<k.base∧dA k=false)∨
  (¬k.view<0∧¬900000000<k.view∧¬k.normal<0∧¬k.view<k.normal∧¬k.base<0∧¬900000000<k.base∧4000<(k.es.length:Int)∧dA k=false)∨
  (¬k.view<0∧¬900000000<k.view∧¬k.normal<0∧¬k.view<k.normal∧¬k.base<0∧¬900000000<k.base∧¬4000<(k.es.length:Int)∧fA k.base k.es=false∧dA k=false)∨
  (¬k.view<0∧¬900000000<k.view∧¬k.normal<0∧¬k.view<k.normal∧¬k.base<0∧¬900000000<k.base∧¬4000<(k.es.length:Int)∧fA k.base k.es=true∧dA k=(vwB k.normal 0 k.es&&(dM (jK k.image)).isSome)):=by
 have l:∀{a b c:Int},aF a b c=false↔(a<b∨c<a):=fun{a b c}=>by unfold aF; simp; omega
 have i:∀{a b c:Int},aF a b c=true↔(¬a<b∧¬c<a):=fun{a b c}=>by unfold aF; simp
 rcases Lu k with⟨d,h⟩|⟨d,e,h⟩|⟨d,e,f,h⟩|⟨d,e,f,m,h⟩|⟨d,e,f,m,j,h⟩|⟨d,e,f,m,j,h⟩
 .rw[l]at d
  by_cases g:k.view<0
  .exact .inl ⟨g,h⟩
  .exact .inr (.inl ⟨g,by omega,h⟩)
 .rw[i]at d; rw[l]at e
  by_cases g:k.normal<0
  .exact .inr (.inr (.inl ⟨d.1,d.2,g,h⟩))
  .exact .inr (.inr (.inr (.inl ⟨d.1,d.2,g,by omega,h⟩)))
 .rw[i]at d e; rw[l]at f
  by_cases g:k.base<0
  .exact .inr (.inr (.inr (.inr (.inl ⟨d.1,d.2,e.1,e.2,g,h⟩))))
  .exact .inr (.inr (.inr (.inr (.inr (.inl ⟨d.1,d.2,e.1,e.2,g,by omega,h⟩)))))
 .rw[i]at d e f;exact .inr (.inr (.inr (.inr (.inr (.inr (.inl ⟨d.1,d.2,e.1,e.2,f.1,f.2,by omega,h⟩))))))
 .rw[i]at d e f;exact .inr (.inr (.inr (.inr (.inr (.inr (.inr (.inl ⟨d.1,d.2,e.1,e.2,f.1,f.2,by omega,j,h⟩)))))))
 .rw[i]at d e f;exact .inr (.inr (.inr (.inr (.inr (.inr (.inr (.inr ⟨d.1,d.2,e.1,e.2,f.1,f.2,by omega,j,h⟩)))))))
theorem Md(v:Vo):(aF v.node 1 7=false∧iC v=false)∨(aF v.node 1 7=true∧aF v.normal 0 900000000=false∧iC v=false)∨
  (aF v.node 1 7=true∧aF v.normal 0 900000000=true∧aF v.base 0 900000000=false∧iC v=false)∨
  (aF v.node 1 7=true∧aF v.normal 0 900000000=true∧aF v.base 0 900000000=true∧¬(v.es.length:Int)≤4000∧iC v=false)∨
  (aF v.node 1 7=true∧aF v.normal 0 900000000=true∧aF v.base 0 900000000=true∧(v.es.length:Int)≤4000∧fA v.base v.es=false∧iC v=false)∨
  (aF v.node 1 7=true∧aF v.normal 0 900000000=true∧aF v.base 0 900000000=true∧(v.es.length:Int)≤4000∧fA v.base v.es=true∧iC v=(vwB v.normal 0 v.es&&(decide (v.number=v.base+v.es.length)&&aF v.commit v.base v.number))):=by
 unfold iC rG
 cases aF v.node 1 7
 .exact .inl ⟨rfl,rfl⟩
 cases aF v.normal 0 900000000
 .exact .inr (.inl ⟨rfl,rfl,rfl⟩)
 cases aF v.base 0 900000000
 .exact .inr (.inr (.inl ⟨rfl,rfl,rfl,rfl⟩))
 by_cases a:(v.es.length:Int)≤4000
 .cases fA v.base v.es
  .exact .inr (.inr (.inr (.inr (.inl ⟨rfl,rfl,rfl,a,rfl,by simp⟩))))
  .exact .inr (.inr (.inr (.inr (.inr ⟨rfl,rfl,rfl,a,rfl,by simp[a]⟩))))
 .exact .inr (.inr (.inr (.inl ⟨rfl,rfl,rfl,a,by simp[a]⟩)))
theorem yY(p:KpV)(B:Nat)(w:World)(h:fL w B p)(hB:B≤w.heap.size)(hn:p.es.length≤1000000)(hr:KdR p.x)(hi:p.image.size≤maxLen):
  Calls prog 43 #[.agg p.cells.toArray] w fun e w'=>e=.returned (.bool (dA p.x))∧Bw' w w':=by
 obtain⟨R,hR⟩:=nm' (dA p.x);rw[hR];have b1:=ba' w (.cells p.cells.toArray 24);have V:=Blk.new w 24 p.cells;obtain⟨W1,z1⟩:=nm' (w.alloc (.cells p.cells.toArray 24));rw[z1]at b1 V;have s:=k'2 b1 (aB hB b1.size);have X:=kp V;have HS:=kp (Sl.below h b1 hB);have q1:=kp hr;have k0:=V.cell 0;change _=some (Value.i p.view)at k0;have k1:=V.cell 1;change _=some (Value.i p.normal)at k1;have k2:=V.cell 2;change _=some (Value.i p.base)at k2;have k4:=V.cell 4;obtain⟨A,c,T,-,-,-⟩:=h;obtain⟨n,hl⟩:=nm' p.es.length;rw[hl]at T hn;rw[show p.cells[4]? =some p.ev from rfl,T]at k4;have C:=k'2 T hl;have e1:=Yk p.x;rw[hR,show (p.x.es.length:Int)=(n:Int) from by rw[show p.x.es=p.es from rfl,hl]]at e1;simp only[KpV.x]at e1;have HI:=kp hi;clear b1 V T hl hB hi hr hR;go_enter func43,ntmps43;rcases e1 with⟨f,rfl⟩|⟨f,g,rfl⟩|⟨f,g,j,rfl⟩|⟨f,g,j,l,rfl⟩|⟨f,g,j,l,r,rfl⟩|⟨f,g,j,l,r,z,rfl⟩|⟨f,g,j,l,r,z,J,rfl⟩|⟨f,g,j,l,r,z,J,h8,rfl⟩|⟨f,g,j,l,r,z,J,h8,h9⟩
 .have F:=bY f;clear f;go_wp2_with fail;go_ret;exact⟨rfl,s.a⟩
 .have F:=aX f;have I:=bY g;clear f g;go_wp2_with fail;go_ret;exact⟨rfl,s.a⟩
 .have F:=aX f;have I:=aX g;have S:=bY j;clear f g j;go_wp2_with fail;go_ret;exact⟨rfl,s.a⟩
 .have F:=aX f;have I:=aX g;have S:=aX j;have Y:=bY l;clear f g j l;go_wp2_with fail;go_ret;exact⟨rfl,s.a⟩
 .have F:=aX f;have I:=aX g;have S:=aX j;have Y:=aX l;have d5:=bY r;clear f g j l r;go_wp2_with fail;go_ret;exact⟨rfl,s.a⟩
 .have F:=aX f;have I:=aX g;have S:=aX j;have Y:=aX l;have d5:=aX r;have d6:=bY z;clear f g j l r z;go_wp2_with fail;go_ret;exact⟨rfl,s.a⟩
 .have F:=aX f;have I:=aX g;have S:=aX j;have Y:=aX l;have d5:=aX r;have d6:=aX z;have d7:=bY J;clear f g j l r z J;go_wp2_with fail;go_ret;exact⟨rfl,s.a⟩
 .have o0:=kp (by have:=yH.1 p.ev p.es p.base B W1 HS.o s.B (by have:=C.B; omega) (fun e he=>(q1.o e he).1) (by omega) (by omega); rw[h8,C.a]at this; exact this);have F:=aX f;have I:=aX g;have S:=aX j;have Y:=aX l;have d5:=aX r;have d6:=aX z;have d7:=aX J;clear f g j l r z J h8;go_wp2_with fail;refine mb' (o0.o) fun w3 Z=>?_;have d0:=kp (s.a.on Z);clear Z;go_wp2_with fail;go_ret;exact⟨rfl,d0.o⟩
 .have o0:=kp (by have:=yH.1 p.ev p.es p.base B W1 HS.o s.B (by have:=C.B; omega) (fun e he=>(q1.o e he).1) (by omega) (by omega); rw[h8,C.a]at this; exact this);obtain⟨rv,o1⟩:=nm' (vwB p.normal 0 p.es);rw[o1]at h9;have b0:=k'2 o1 h9;have F:=aX f;have I:=aX g;have S:=aX j;have Y:=aX l;have d5:=aX r;have d6:=aX z;have d7:=aX J;clear f g j l r z J h8 h9 o1;go_wp2_with fail;refine mb' (o0.o) fun w3 Z=>?_;have d0:=k'2 Z (s.a.on Z);clear k0 k1 k2 k4 F I S Y d5 d6 d7;clear Z z1;go_wp2_with fail
  go_loopw [3] (fun i wr=>∃k:Nat,k≤n∧i=.i k∧vwB p.normal (kH p.es k) (p.es.drop k)=rv∧Bw' w wr∧Bw' W1 wr) (fun i _=>n-(intOf i).toNat)
  case atStart=>exact⟨0,by omega,rfl,b0.a,d0.B,d0.a⟩
  case round=>
   obtain⟨k,hk,rfl,hf,b2,l1⟩:=hrel;have HF:=kp hf;have G:=k'2 b2 l1;have XR:=kp (X.o.below l1 X.o.lt);clear hf b2 l1;have ke:=XR.o.cell 4;rw[show p.cells[4]? =some p.ev from rfl,C.a]at ke
   by_cases g4:k<n
   .have g3:(k:Int)<(n:Int):=by omega
    have e0:k<p.es.length:=by have:=C.B; omega
    have o3:=kp (HS.o.below G.B s.B);obtain⟨A2,c2,e3,z2,-,-⟩:=o3.o;obtain⟨b,l3,hA,-,q3,l2⟩:=dB (P:=prog) 11 En.cells eL (by omega) z2 k e0;have p3:A2=A:=by have:=C.a; rw[e3]at this; cases this; rfl
    subst p3;subst hA;have U:=l2 0;change Sem.run _ _ wr=.ok _ wr at U;have HT:=kp (vQ p.normal (kH p.es k) p.es k e0);have p0:=kp (yX p.es k e0);clear q3 l2 e3 z2;obtain⟨x,hx⟩:=nm' (p.es[k]'e0);rw[hx]at U HT p0;clear hx;have nz:=Blk.new wr 46 z'3;have a0:=nz.store (P:=prog) (cs':=x.cells) rfl (nI x);have nb:=nz.set x.cells;have m0:=(((cL (ba' wr (.cells z'3a 46)) (aD _) x.cells.toArray)))
    obtain⟨Wn,a1⟩:=nm' ((wr.alloc (.cells z'3a 46)).setRow wr.heap.size x.cells.toArray);rw[a1]at nb m0;rw[show (wr.alloc (.cells z'3.toArray 46)).setRow wr.heap.size x.cells.toArray=Wn from a1]at a0;have D:=k'2 (G.a.on m0) (G.B.on m0);have XN:=kp (X.o.below D.B X.o.lt);have m3:=kp (HS.o.below D.B s.B);have l0:=mC (P:=prog) (k:=11) nb rfl;have L:=nb.cell 1;change _=some (Value.i x.v)at L;have L:=aP L;have i1:=XN.o.cell 1;change _=some (Value.i p.normal)at i1;have i1:=aP i1;have K:=XN.o.cell 4;rw[show p.cells[4]? =some p.ev from rfl,C.a]at K;have K:=aP K;clear nb nz m0 a1;have O:=kp (fun W=>vN.2 x W);have H:=kp (HT.o.symm.trans HF.o)
    by_cases hm:fY x=true
    rotate_left
    .rw[zY]at hm;rw[hm]at O H;clear hm;go_wp2_with fail;clear U a0 ke;refine bJ (by kernel_rfl) (by kernel_rfl) ?_
     repeat (go_big_quiet_step ((go_at_call 98; refine bU (O.o _))))
     refine bH ?_;rintro W5 ⟨⟨_,m⟩,rfl⟩;have y:=kp (D.a.on m);clear m l0 L i1 K;go_wp2_with fail;go_ret;exact⟨by rw[b0.B,←H.o]; rfl,y.o⟩
    rw[hm]at O H;have j0:=Mc hm;clear hm
    by_cases g0:p.normal<x.v
    .have g7:decide (p.normal<x.v)=true:=by simp; omega
     have Q:=kp (show aF x.v (kH p.es k) p.normal=false by unfold aF; simp; omega);clear g0 j0;go_wp2_with fail;clear U a0 ke;refine bJ (by kernel_rfl) (by kernel_rfl) ?_
     repeat (go_big_quiet_step ((go_at_call 98; refine bU (O.o _))))
     refine bH ?_;rintro W5 ⟨⟨_,m⟩,rfl⟩;have y:=kp (D.a.on m);clear m l0 L i1 K;go_wp2_with fail;go_ret;exact⟨by rw[b0.B,←H.o,Q.o]; rfl,y.o⟩
    have g7:decide (p.normal<x.v)=false:=by simp; omega
    by_cases m1:k=0
    .have g5:decide (0<k)=false:=by simp; omega
     have Q:=kp (show aF x.v (kH p.es k) p.normal=true by rw[m1]; unfold aF kH; simp; omega);clear g0 j0 m1;go_wp2_with fail;clear U a0 ke;refine bJ (by kernel_rfl) (by kernel_rfl) ?_
     repeat (go_big_quiet_step ((go_at_call 98; refine bU (O.o _))))
     refine bH ?_;rintro W5 ⟨⟨_,m⟩,rfl⟩;have y:=k'2 (D.a.on m) (D.B.on m);clear m l0 L i1 K;go_wp2_with fail;go_roundw
     case rel=>exact⟨k+1,by omega,by go_num,by rw[p0.o,←H.o,Q.o]; rfl,y.a,y.B⟩
     case measure=>simp[intOf]; omega
    obtain⟨M,g2⟩:∃M,k=M+1:=⟨k-1,by omega⟩
    have j2:M<p.es.length:=by omega
    obtain⟨A3,c3,j3,a3,-,-⟩:=m3.o;obtain⟨b',e4,z0,-,e2,-⟩:=dB (P:=prog) 11 En.cells eL (by omega) a3 M j2;have y1:A3=some ⟨b,l3,none⟩:=by have:=C.a; rw[j3]at this; cases this; rfl
    rw[y1]at z0;obtain⟨rfl,rfl⟩:b=b'∧l3=e4:=by cases z0; exact⟨rfl,rfl⟩
    have y0:=e2 1 _ rfl;rw[show (p.es[M]).v=kH p.es k by rw[g2,yX p.es M j2]]at y0;have y0:=aP y0;obtain⟨lv,m2⟩:=nm' (kH p.es k);rw[m2]at y0 H;have g5:decide (0<k)=true:=by simp; omega
    have gk:(k:Int)-1=(M:Int):=by omega
    have g6:(M:Int)<(n:Int):=by omega
    clear j3 a3 e2 y1 z0 m2 g2 m1
    by_cases o2:x.v<lv
    .have g8:decide (x.v<lv)=true:=by simp; omega
     have Q:=kp (show aF x.v lv p.normal=false by unfold aF; simp; omega);clear o2 g0 j0;go_wp2_with fail;clear U a0 ke;refine bJ (by kernel_rfl) (by kernel_rfl) ?_
     repeat (go_big_quiet_step ((go_at_call 98; refine bU (O.o _))))
     refine bH ?_;rintro W5 ⟨⟨_,m⟩,rfl⟩;have y:=kp (D.a.on m);clear m l0 L i1 K y0;go_wp2_with fail;go_ret;exact⟨by rw[b0.B,←H.o,Q.o]; rfl,y.o⟩
    .have g8:decide (x.v<lv)=false:=by simp; omega
     have Q:=kp (show aF x.v lv p.normal=true by unfold aF; simp; omega);clear o2 g0 j0;go_wp2_with fail;clear U a0 ke;refine bJ (by kernel_rfl) (by kernel_rfl) ?_
     repeat (go_big_quiet_step ((go_at_call 98; refine bU (O.o _))))
     refine bH ?_;rintro W5 ⟨⟨_,m⟩,rfl⟩;have y:=k'2 (D.a.on m) (D.B.on m);clear m l0 L i1 K y0;go_wp2_with fail;go_roundw
     case rel=>exact⟨k+1,by omega,by go_num,by rw[p0.o,←H.o,Q.o]; rfl,y.a,y.B⟩
     case measure=>simp[intOf]; omega
   .obtain rfl:k=n:=by omega
    have z3:rv=true:=by
     have:=HF.o;rw[Fe.2 (by have:=C.B; omega)]at this;exact this.symm
    subst z3;have k3:=(X.o.below G.B X.o.lt).cell 3;change _=some (Value.string p.image)at k3;obtain⟨c6,W6,y3,a2,y2,b3,q2,p2⟩:=oT wr p.image HI.o;have N:=k'5 a2 y2 b3 q2 p2;clear a2 y2 b3 q2 p2;go_wp2_with fail;clear k3 y3;refine (Dy _ _ _ _ p.image.data.toList W6 N.b N.c (mD _) N.d N.E).mono ?_;rintro e w7 ⟨q,qs,rfl,a4,T,g1⟩;obtain⟨o,ho⟩:=nm' ((dM p.image.data.toList).isSome);rw[ho];have HO:=kp ho;clear ho a4;have n0:=Blk.new w7 32 z'2;have hS:=n0.store (P:=prog) (cs':=q.cells) rfl (StV.one T.st);have p1:=kp (G.a.trans ((N.a.mono G.a.size).trans ((g1.mono (aB G.a.size N.a.size)).trans (cL (ba' w7 (.cells z'2a 32)) (aD _) q.cells.toArray|>.mono (aB G.a.size (aB N.a.size g1.size))))));clear n0 T g1;have HE:=kp (show R=o by rw[b0.B,show jK p.image=p.image.data.toList from rfl,HO.o]; rfl)
    cases o
    .simp only[qO,if_false];go_wp2_with fail;go_ret;exact⟨by rw[HE.o]; rfl,p1.o⟩
    .simp only[if_true];go_wp2_with fail;go_ret;exact⟨by rw[HE.o]; rfl,p1.o⟩
end
end Go.Proofs.YtdoopoapbffpbaaGreat
