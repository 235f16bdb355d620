import Derived.Test.YthalbagblhkeaaaGreatZ03
import Derived.Test.YthalbagblhkeaaaGreatZ04
import Derived.Test.YthalbagblhkeaaaGreatZ17
import Derived.Test.YthalbagblhkeaaaGreatZ18
import Derived.Test.YthalbagblhkeaaaGreatZ19
import Derived.Test.YthalbagblhkeaaaGreatZ20
import Derived.WalkMore
import Derived.ScopeJumps
namespace Go.Proofs.YthalbagblhkeaaaGreat
open Go.RowKit Go.Proofs.Tryz
set_option maxRecDepth 100000
set_option maxHeartbeats 12800000
set_option linter.unusedVariables false
set_option linter.unusedSimpArgs false
section
attribute [-go_sem] loadCellsFrom storeCells
attribute [local go_sem] bC
theorem vQ(a v:Int)(l:List En)(k:Nat)(b:k<l.length):vwB a v (l.drop k)=(fY l[k]&&(aF (l[k]).v v a&&vwB a (l[k]).v (l.drop (k+1)))):=by
 rw[fG b];rfl
theorem Xr{P:Program}{a:Act}{w:World}{Q:Exit→Act→World→Prop}{c b:Code}(l:Nat)(f:findLabel c l=some b)(first:c.wp P (Exit.jump l (fun a w=>b.wp P (Exit.noGoto Q) a w) Q) a w):(Code.scope c).wp P Q a w:=by
 refine wp_scope_jumps l (fun a w=>b.wp P (Exit.noGoto Q) a w) (fun _ _=>0) f first fun a w h=>wp_mono h fun e a w d=>?_
 cases e<;>first |exact d|exact d.elim
theorem Exit.jump_ret{l:Nat}{J:Act→World→Prop}{Q:Exit→Act→World→Prop}{a:Act}{w:World}:Exit.jump l J Q .ret a w=Q .ret a w:=rfl
attribute [local go_sem] Exit.jump_ret
theorem Exit.jump_normal{l:Nat}{J:Act→World→Prop}{Q:Exit→Act→World→Prop}{a:Act}{w:World}:Exit.jump l J Q .normal a w=Q .normal a w:=rfl
attribute [local go_sem] Exit.jump_normal
theorem Exit.jump_exit{l n:Nat}{J:Act→World→Prop}{Q:Exit→Act→World→Prop}{a:Act}{w:World}:Exit.jump l J Q (.exit n) a w=Q (.exit n) a w:=rfl
attribute [local go_sem] Exit.jump_exit
theorem Lu(k:Kd):(aF k.view 0 900000000=false∧dA k=false)∨(aF k.view 0 900000000=true∧aF k.normal 0 k.view=false∧dA k=false)∨
  (aF k.view 0 900000000=true∧aF k.normal 0 k.view=true∧aF k.base 0 900000000=false∧dA k=false)∨
  (aF k.view 0 900000000=true∧aF k.normal 0 k.view=true∧aF k.base 0 900000000=true∧¬(k.es.length:Int)≤4000∧dA k=false)∨
  (aF k.view 0 900000000=true∧aF k.normal 0 k.view=true∧aF k.base 0 900000000=true∧(k.es.length:Int)≤4000∧fA k.base k.es=false∧dA k=false)∨
  (aF k.view 0 900000000=true∧aF k.normal 0 k.view=true∧aF k.base 0 900000000=true∧(k.es.length:Int)≤4000∧fA k.base k.es=true∧dA k=(vwB k.normal 0 k.es&&(dM (jK k.image)).isSome)):=by
 unfold dA rG
 cases aF k.view 0 900000000
 .exact .inl ⟨rfl,rfl⟩
 cases aF k.normal 0 k.view
 .exact .inr (.inl ⟨rfl,rfl,rfl⟩)
 cases aF k.base 0 900000000
 .exact .inr (.inr (.inl ⟨rfl,rfl,rfl,rfl⟩))
 by_cases a:(k.es.length:Int)≤4000
 .cases fA k.base k.es
  .exact .inr (.inr (.inr (.inr (.inl ⟨rfl,rfl,rfl,a,rfl,by simp⟩))))
  .exact .inr (.inr (.inr (.inr (.inr ⟨rfl,rfl,rfl,a,rfl,by simp[a]⟩))))
 .exact .inr (.inr (.inr (.inl ⟨rfl,rfl,rfl,a,by simp[a]⟩)))
theorem yU(p:KpV)(B:Nat)(w:World)(h:fL w B p)(hB:B≤w.heap.size)(hn:p.es.length≤1000000)(hr:KdR p.x)(hi:p.image.size≤maxLen):
  Calls prog 23 #[.agg p.cells.toArray] w fun e w'=>e=.returned (.i (eN 1 (dA p.x)))∧Bw' w w':=by
 obtain⟨R,hR⟩:=nm' (dA p.x);rw[hR];have M:=ba' w (.cells p.cells.toArray 24);have J:=Blk.new w 24 p.cells;obtain⟨W1,d1⟩:=nm' (w.alloc (.cells p.cells.toArray 24));rw[d1]at M J;have y:=k'2 M (aB hB M.size);have L:=kp J;have Z:=kp (Sl.below h M hB);have HI:=kp hi;have z0:=kp hr;have k0:=J.cell 0;have V:=J.cell 1;have k2:=J.cell 2;have Q:=J.cell 4;change _=some (Value.i p.view)at k0;change _=some (Value.i p.normal)at V;change _=some (Value.i p.base)at k2;obtain⟨A,c,I,-,-,-⟩:=h;obtain⟨n,U⟩:=nm' p.es.length;rw[U]at I hn;rw[show p.cells[4]? =some p.ev from rfl,I]at Q;have D:=k'2 I U;have g:=kp oK.2.1;have d0:=Lu p.x;rw[hR,show (p.x.es.length:Int)=(n:Int) from by rw[show p.x.es=p.es from rfl,U]]at d0;clear M J I U hB hi hr hR;simp only[KpV.x]at d0;have HX:=kp (show p.x=⟨p.view,p.normal,p.base,p.image,p.es⟩ from rfl);go_enter func23,ntmps23;go_wp2_with fail;refine Xr 0 rfl ?_;rcases d0 with⟨f,rfl⟩|⟨f,m,rfl⟩|⟨f,m,j,rfl⟩|⟨f,m,j,h4,rfl⟩|⟨f,m,j,h4,N,rfl⟩|⟨f,m,j,h4,N,h6⟩
 .have s:=kp (fun W=>by have:=g.o p.view 0 900000000 W; rw[f]at this; exact this);clear f;go_wp2_with fail;refine ms' (s.o _) ?_;go_wp2_with fail;apply wp_goto;refine⟨rfl,?_⟩;go_wp2_with fail;rw[Exit.noGoto_ret];go_ret;exact⟨rfl,y.a⟩
 .have s:=kp (fun W=>by have:=g.o p.view 0 900000000 W; rw[f]at this; exact this);have C:=kp (fun W=>by have:=g.o p.normal 0 p.view W; rw[m]at this; exact this);clear f m;go_wp2_with fail;refine ms' (s.o _) ?_;go_wp2_with fail;refine ms' (C.o _) ?_;go_wp2_with fail;apply wp_goto;refine⟨rfl,?_⟩;go_wp2_with fail;rw[Exit.noGoto_ret];go_ret;exact⟨rfl,y.a⟩
 .have s:=kp (fun W=>by have:=g.o p.view 0 900000000 W; rw[f]at this; exact this);have C:=kp (fun W=>by have:=g.o p.normal 0 p.view W; rw[m]at this; exact this);have G:=kp (fun W=>by have:=g.o p.base 0 900000000 W; rw[j]at this; exact this);clear f m j;go_wp2_with fail;refine ms' (s.o _) ?_;go_wp2_with fail;refine ms' (C.o _) ?_;go_wp2_with fail;refine ms' (G.o _) ?_;go_wp2_with fail;apply wp_goto;refine⟨rfl,?_⟩;go_wp2_with fail;rw[Exit.noGoto_ret];go_ret;exact⟨rfl,y.a⟩
 .have s:=kp (fun W=>by have:=g.o p.view 0 900000000 W; rw[f]at this; exact this);have C:=kp (fun W=>by have:=g.o p.normal 0 p.view W; rw[m]at this; exact this);have G:=kp (fun W=>by have:=g.o p.base 0 900000000 W; rw[j]at this; exact this);clear f m j;go_wp2_with fail;refine ms' (s.o _) ?_;go_wp2_with fail;refine ms' (C.o _) ?_;go_wp2_with fail;refine ms' (G.o _) ?_;go_wp2_with fail;apply wp_goto;refine⟨rfl,?_⟩;go_wp2_with fail;rw[Exit.noGoto_ret];go_ret;exact⟨rfl,y.a⟩
 .have s:=kp (fun W=>by have:=g.o p.view 0 900000000 W; rw[f]at this; exact this);have C:=kp (fun W=>by have:=g.o p.normal 0 p.view W; rw[m]at this; exact this);have l:0≤p.base∧p.base≤900000000:=by unfold aF at j; simpa using j
  have G:=kp (fun W=>by have:=g.o p.base 0 900000000 W; rw[j]at this; exact this);have Y:=kp (by have:=vN.1 p.ev p.es p.base B W1 Z.o y.B (by have:=D.B; omega) (fun e he=>(z0.o e he).1) l.1 l.2; rw[N,D.a]at this; exact this);clear f m j l N;go_wp2_with fail;refine ms' (s.o _) ?_;go_wp2_with fail;refine ms' (C.o _) ?_;go_wp2_with fail;refine ms' (G.o _) ?_;go_wp2_with fail;refine mb' (Y.o) fun w3 l=>?_;have S:=kp (y.a.on l);clear l;go_wp2_with fail;apply wp_goto;refine⟨rfl,?_⟩;go_wp2_with fail;rw[Exit.noGoto_ret];go_ret;exact⟨rfl,S.o⟩
 .have s:=kp (fun W=>by have:=g.o p.view 0 900000000 W; rw[f]at this; exact this);have C:=kp (fun W=>by have:=g.o p.normal 0 p.view W; rw[m]at this; exact this);have l:0≤p.base∧p.base≤900000000:=by unfold aF at j; simpa using j
  have G:=kp (fun W=>by have:=g.o p.base 0 900000000 W; rw[j]at this; exact this);have Y:=kp (by have:=vN.1 p.ev p.es p.base B W1 Z.o y.B (by have:=D.B; omega) (fun e he=>(z0.o e he).1) l.1 l.2; rw[N,D.a]at this; exact this);obtain⟨rv,j0⟩:=nm' (vwB p.normal 0 p.es);rw[j0]at h6;have T:=k'2 j0 h6;clear f m j l N h6 j0;go_wp2_with fail;refine ms' (s.o _) ?_;go_wp2_with fail;refine ms' (C.o _) ?_;go_wp2_with fail;refine ms' (G.o _) ?_;go_wp2_with fail;refine mb' (Y.o) fun w3 l=>?_;have S:=k'2 l (y.a.on l);clear k0 V k2 Q;have Q:=(L.o.below l L.o.lt).cell 4;rw[show p.cells[4]? =some p.ev from rfl,D.a]at Q;clear l d1;go_wp2_with fail;clear Q;have HZ:=kp (show (z'3:List Value).length=11 from rfl)
  go_loopw [3,43] (fun v i wr=>∃k:Nat,k≤n∧i=.i k∧∃z:Int,v=.i z∧vwB p.normal z (p.es.drop k)=rv∧Bw' w wr∧Bw' W1 wr) (fun _ i _=>n-(intOf i).toNat)
  case atStart=>exact⟨0,by omega,rfl,0,rfl,T.a,S.B,S.a⟩
  case round=>
   obtain⟨k,hk,rfl,z,rfl,hf,l1,m1⟩:=hrel;have HF:=kp hf;have r:=k'2 l1 m1;clear hf l1 m1
   by_cases y2:k<n
   .have g3:(k:Int)<(n:Int):=by omega
    have g0:k<p.es.length:=by have:=D.B; omega
    have b2:=(Z.o.below r.B y.B)
    have g2:=kp b2;clear b2;obtain⟨A2,c2,d2,z1,-,-⟩:=g2.o;obtain⟨b,z2,hA,-,m2,o1⟩:=dB (P:=prog) 11 En.cells eL (by omega) z1 k g0;have l2:A2=A:=by have:=D.a; rw[d2]at this; cases this; rfl
    subst l2;subst hA;have q0:=o1 0;change Sem.run _ _ wr=.ok _ wr at q0;have HT:=kp (vQ p.normal z p.es k g0);clear m2 o1 d2 z1;generalize p.es[k]'g0=x at *;have nz:=Blk.new wr 93 z'3;have e2:=nz.store (P:=prog) (cs':=x.cells) rfl (nI x);have nb:=nz.set x.cells;have m0:=(((cL (ba' wr (.cells z'3a 93)) (aD _) x.cells.toArray)))
    have NB:=kp nb;have X:=k'2 (r.a.on m0) (r.B.on m0);have l0:=nb.load (P:=prog) (k:=11) rfl;clear nb nz m0;have HM:=kp (fun W=>aB7 x W);have a0:=kp (HT.o.symm.trans HF.o);clear g3;have g3:(k:Int)<(n:Int):=by omega
    cases hm:fY x
    .go_wp2_with fail;clear q0 e2 l0;refine (HM.o _).mono ?_;rw[hm];rintro e w4 ⟨rfl,H⟩;have K:=kp (X.a.trans (H.mono (aB r.a.size (by simp))));clear H;go_wp2_with fail;apply wp_goto;refine⟨rfl,?_⟩;go_wp2_with fail;rw[Exit.noGoto_ret];go_ret;exact⟨by rw[T.B,←a0.o,hm]; rfl,K.o⟩
    .go_wp2_with fail;clear q0 e2 l0;refine (HM.o _).mono ?_;rw[hm];rintro e w4 ⟨rfl,H⟩;have K:=k'2 (X.a.trans (H.mono (aB r.a.size (by simp)))) (X.B.trans (H.mono (aB r.B.size (by simp))));have V:=(L.o.below K.B L.o.lt).cell 1;change _=some (Value.i p.normal)at V;have j2:=kp (NB.o.below H NB.o.lt);have j1:=j2.o.cell 1;change _=some (Value.i x.v)at j1;clear H;have y0:=kp hm;clear hm;have a1:=kp (fun W=>g.o x.v z p.normal W)
     cases hwi:aF x.v z p.normal
     .go_wp2_with fail;refine (a1.o _).mono ?_;rw[hwi];rintro e w' ⟨rfl,O⟩;obtain rfl:=O.symm;clear O;have b0:=kp hwi;clear hwi;go_wp2_with fail;apply wp_goto;refine⟨rfl,?_⟩;go_wp2_with fail;rw[Exit.noGoto_ret];go_ret;exact⟨by rw[T.B,←a0.o,y0.o,b0.o]; rfl,K.a⟩
     .go_wp2_with fail;refine (a1.o _).mono ?_;rw[hwi];rintro e w' ⟨rfl,O⟩;obtain rfl:=O.symm;clear O;have b0:=kp hwi;clear hwi;go_wp2_with fail;go_roundw
      case rel=>exact⟨k+1,by omega,by go_num,x.v,rfl,by rw[←a0.o,y0.o,b0.o]; rfl,K.a,K.B⟩
      case measure=>simp[intOf]; omega
   .obtain rfl:k=n:=by omega
    have p2:rv=true:=by
     have:=HF.o;rw[Fe.2 (by have:=D.B; omega)]at this;exact this.symm
    subst p2;have k3:=(L.o.below r.B L.o.lt).cell 3;change _=some (Value.string p.image)at k3;obtain⟨c6,W6,o2,g1,y1,a2,q1,p1⟩:=oT wr p.image HI.o;have F:=k'5 g1 y1 a2 q1 p1;clear g1 y1 a2 q1 p1;go_wp2_with fail;clear k3 o2;refine (yT _ _ _ _ p.image.data.toList W6 F.b F.c (mD _) F.d F.E).mono ?_;rintro e w7 ⟨q,qs,rfl,q2,I,e0⟩;obtain⟨o,ho⟩:=nm' ((dM p.image.data.toList).isSome);rw[ho];have HO:=kp ho;clear ho q2;have n0:=Blk.new w7 32 z'2;have hS:=n0.store (P:=prog) (cs':=q.cells) rfl (StV.one I.st);have o0:=kp (r.a.trans ((F.a.mono r.a.size).trans ((e0.mono (aB r.a.size F.a.size)).trans (cL (ba' w7 (.cells z'2a 32)) (aD _) q.cells.toArray|>.mono (aB r.a.size (aB F.a.size e0.size))))));clear n0 I e0;have HE:eN 1 R=if o then 0 else 1:=by rw[T.B,show jK p.image=p.image.data.toList from rfl,HO.o]; cases o<;>rfl
    have p0:=kp HE;clear HE
    cases o
    .simp only[qO,if_false];go_wp2_with fail;apply wp_label;go_wp2_with fail;rw[Exit.jump_ret];go_ret;exact⟨by rw[p0.o]; rfl,o0.o⟩
    .simp only[if_true];go_wp2_with fail;rw[Exit.jump_ret];go_ret;exact⟨by rw[p0.o]; rfl,o0.o⟩
end
section

end
section

end
section
attribute [-go_sem] loadCellsFrom storeCells
attribute [local go_sem] bC
section
variable {w w' W W':World}{g B:Nat}{l:List UInt8}{b:Bool}
end
section
variable {w W W':World}{g:Nat}{t:TypeId}{l l':List UInt8}{b b':Bool}{zs cs:List Value}
end
end
section

end
section

end
section
attribute [-go_sem] loadCellsFrom storeCells
attribute [local go_sem] bC
section
variable {w W W':World}{l l':List UInt8}{b b':Bool}{cs:List Value}
end
theorem Rws.grown{α:Type}{enc:α→List Value}{k base:Nat}{t:TypeId}{v:Value}{xs:List α}{W W':World}{base2:Nat}{ps:List ObV}(b:Ow W base t k v enc xs)(h:Rws W base2 ps)(c:t≠3)(a:W.grownBy W' v.ownBlock):Rws W' base2 ps:=
 ⟨fun z d=>⟨b.other (h.row z d).1 c a,b.other (h.row z d).2 c a⟩,h.sep⟩
end
section

end
section
attribute [-go_sem] loadCellsFrom storeCells
attribute [local go_sem] bC
section
variable {w W W':World}{g sb:Nat}{l l':List UInt8}{b b':Bool}{cs:List Value}
end
section
variable {w wr W W':World}{g sb:Nat}{l l':List UInt8}{b b':Bool}{cs rc:List Value}
end
theorem Hv.row{w W':World}{base base2 k:Nat}{p:HpV}{ps:List ObV}{v:Value}{xs:List Rw}(h:Hv w base p ps)(b:Ow w base2 117 k v Rw.cells xs)(a:w.grownBy W' v.ownBlock):Hv W' base p ps:=
 ⟨b.other h.obs (by decide) a,Rws.grown b h.rws (by decide) a,h.eq,aO.chg h.free (fZ a) fun i g e=>by
  obtain⟨c,f⟩:=aO.tag h.free g;obtain⟨c2,j,d⟩:=b.tag e;rw[f]at d
  cases d⟩
end
section
attribute [-go_sem] loadCellsFrom storeCells
attribute [local go_sem] bC
theorem Md(v:Vo):(aF v.node 1 7=false∧iC v=false)∨(aF v.node 1 7=true∧aF v.normal 0 900000000=false∧iC v=false)∨
  (aF v.node 1 7=true∧aF v.normal 0 900000000=true∧aF v.base 0 900000000=false∧iC v=false)∨
  (aF v.node 1 7=true∧aF v.normal 0 900000000=true∧aF v.base 0 900000000=true∧¬(v.es.length:Int)≤4000∧iC v=false)∨
  (aF v.node 1 7=true∧aF v.normal 0 900000000=true∧aF v.base 0 900000000=true∧(v.es.length:Int)≤4000∧fA v.base v.es=false∧iC v=false)∨
  (aF v.node 1 7=true∧aF v.normal 0 900000000=true∧aF v.base 0 900000000=true∧(v.es.length:Int)≤4000∧fA v.base v.es=true∧iC v=(vwB v.normal 0 v.es&&(decide (v.number=v.base+v.es.length)&&aF v.commit v.base v.number))):=by
 unfold iC rG
 cases aF v.node 1 7
 .exact .inl ⟨rfl,rfl⟩
 cases aF v.normal 0 900000000
 .exact .inr (.inl ⟨rfl,rfl,rfl⟩)
 cases aF v.base 0 900000000
 .exact .inr (.inr (.inl ⟨rfl,rfl,rfl,rfl⟩))
 by_cases a:(v.es.length:Int)≤4000
 .cases fA v.base v.es
  .exact .inr (.inr (.inr (.inr (.inl ⟨rfl,rfl,rfl,a,rfl,by simp⟩))))
  .exact .inr (.inr (.inr (.inr (.inr ⟨rfl,rfl,rfl,a,rfl,by simp[a]⟩))))
 .exact .inr (.inr (.inr (.inl ⟨rfl,rfl,rfl,a,by simp[a]⟩)))
end
section
attribute [-go_sem] loadCellsFrom storeCells
attribute [local go_sem] bC
theorem Yl(p:VoV)(B:Nat)(w:World)(h:mS w B p)(hB:B≤w.heap.size)(hn:p.es.length≤1000000)(hr:VoR p.x):
  Calls prog 56 #[.agg p.cells.toArray] w fun e w'=>e=.returned (.i (eN 150 (iC p.x)))∧Bw' w w':=by
 obtain⟨R,hR⟩:=nm' (iC p.x);rw[hR];have V:=ba' w (.cells p.cells.toArray 103);have E:=Blk.new w 103 p.cells;obtain⟨S,g1⟩:=nm' (w.alloc (.cells p.cells.toArray 103));rw[g1]at V E;have J:=k'2 V (aB hB V.size);have g:=kp E;have HS:=kp (Sl.below h V hB);have z1:=kp hr;have k0:=E.cell 0;change _=some (Value.i p.node)at k0;have k1:=E.cell 1;change _=some (Value.i p.normal)at k1;have k2:=E.cell 2;change _=some (Value.i p.base)at k2;have k3:=E.cell 3;change _=some (Value.i p.number)at k3;have k4:=E.cell 4;change _=some (Value.i p.commit)at k4;have m:=E.cell 5;obtain⟨A,c,hv,-,-,-⟩:=h;obtain⟨n,hl⟩:=nm' p.es.length;rw[hl]at hv hn;rw[show p.cells[5]? =some p.ev from rfl,hv]at m;have j:=k'2 hv hl;have m1:=Md p.x;rw[hR,show (p.x.es.length:Int)=(n:Int) from by rw[show p.x.es=p.es from rfl,hl]]at m1;simp only[VoV.x]at m1;have G:=kp oK.2.2.2.1;clear V E hv hl hB hr hR;go_enter func56,ntmps56;rcases m1 with⟨s,y⟩|⟨s,H,y⟩|⟨s,H,l,y⟩|⟨s,H,l,I,y⟩|⟨s,H,l,I,X,y⟩|⟨s,H,l,I,X,y⟩
 rotate_left 5
 .have p0:=kp (fun W=>by have:=G.o p.node 1 7 W; rw[s]at this; exact this);have y0:=kp (fun W=>by have:=G.o p.normal 0 900000000 W; rw[H]at this; exact this);have z0:=kp (fun W=>by have:=G.o p.base 0 900000000 W; rw[l]at this; exact this);have f:0≤p.base∧p.base≤900000000:=by unfold aF at l; simpa using l
  have g0:=kp (by have:=vN.2 p.ev p.es p.base B S HS.o J.B (by have:=j.B; omega) (fun e he=>(z1.o e he).1) f.1 f.2; rw[X,j.a]at this; exact this);have b2:=k'2 f I;obtain⟨rv,p1⟩:=nm' (vwB p.normal 0 p.es);rw[p1]at y;have T:=k'2 p1 y;have d4:=bY I;clear s H l f X y p1 I;go_wp2_with fail;refine ms' (p0.o _) ?_;go_wp2_with fail;refine ms' (y0.o _) ?_;go_wp2_with fail;refine ms' (z0.o _) ?_;go_wp2_with fail;refine mb' (g0.o) fun w3 f=>?_;have F:=k'2 f (J.a.on f);clear k0 k1 k2 k3 k4 m f g1;have m:=(g.o.below F.a g.o.lt).cell 5;rw[show p.cells[5]? =some p.ev from rfl,j.a]at m;go_wp2_with fail;clear m
  go_loopw [3,4,36] (fun ok v i wr=>∃q:Bool,ok=.bool q∧∃k:Nat,k≤n∧i=.i k∧∃z:Int,v=.i z∧(q&&vwB p.normal z (p.es.drop k))=rv∧Bw' w wr∧Bw' S wr) (fun _ _ i _=>n-(intOf i).toNat)
  case atStart=>exact⟨true,rfl,0,by omega,rfl,0,rfl,T.a,F.B,F.a⟩
  case round=>
   obtain⟨q,rfl,k,hk,rfl,z,rfl,hf,Y,Z⟩:=hrel;have HF:=kp hf;have d:=k'2 Y Z;clear Y Z hf
   by_cases l2:k<n
   .have g3:(k:Int)<(n:Int):=by omega
    have K:k<p.es.length:=by have:=j.B; omega
    have o0:=kp (HS.o.below d.B J.B);obtain⟨A2,c2,d0,b0,-,-⟩:=o0.o;obtain⟨b,m2,hA,-,o1,a0⟩:=dB (P:=prog) 11 En.cells eL (by omega) b0 k K;have d1:A2=A:=by have:=j.a; rw[d0]at this; cases this; rfl
    subst d1;subst hA;have N:=a0 0;change Sem.run _ _ wr=.ok _ wr at N;clear o1 a0 d0 b0;obtain⟨x,hx⟩:=nm' (p.es[k]'K);have HT:=kp (fun z=>vQ p.normal z p.es k K);rw[hx]at N HT;clear hx;obtain⟨Wn,l1,y1,D,M,-⟩:=fB wr 93 z'3 x.cells rfl (nI x);have r:=k'2 (d.a.on M) (d.B.on M);have U:=kp D;have l0:=D.load (P:=prog) (k:=11) rfl;have L:=D.cell 1;change _=some (Value.i x.v)at L;clear D M l1;have m0:=kp (show (q&&(fY x&&(aF x.v z p.normal&&vwB p.normal x.v (p.es.drop (k+1)))))=rv by rw[←HT.o z]; exact HF.o)
    cases q
    .go_wp2_with fail;go_roundw
     case rel=>exact⟨false,rfl,k+1,by omega,by go_num,x.v,rfl,m0.o,r.a,r.B⟩
     case measure=>simp[intOf]; omega
    have HM:=kp (fun W=>aB7 x W)
    cases hm:fY x
    .have j0:=kp hm;go_wp2_with fail;clear N y1 l0;refine (HM.o _).mono ?_;rw[hm];rintro e w4 ⟨rfl,C⟩;have O:=k'2 (r.a.on C) (r.B.on C);have a1:=kp (U.o.below C U.o.lt);have L:=a1.o.cell 1;change _=some (Value.i x.v)at L;clear C hm;go_wp2_with fail;go_roundw
     case rel=>exact⟨false,rfl,k+1,by omega,by go_num,x.v,rfl,by rw[←m0.o,j0.o]; rfl,O.a,O.B⟩
     case measure=>simp[intOf]; omega
    .have j0:=kp hm;go_wp2_with fail;clear N y1 l0;refine (HM.o _).mono ?_;rw[hm];rintro e w4 ⟨rfl,C⟩;have O:=k'2 (r.a.on C) (r.B.on C);have a1:=kp (U.o.below C U.o.lt);have L:=a1.o.cell 1;change _=some (Value.i x.v)at L;have k1:=(g.o.below O.B g.o.lt).cell 1;change _=some (Value.i p.normal)at k1;clear C hm;obtain⟨wi,q1⟩:=nm' (aF x.v z p.normal);have g2:=kp (fun W=>by have:=G.o x.v z p.normal W; rw[q1]at this; exact this);have d2:=kp q1;clear q1;go_wp2_with fail;refine ms' (g2.o _) ?_;go_wp2_with fail;go_roundw
     case rel=>exact⟨wi,rfl,k+1,by omega,by go_num,x.v,rfl,by rw[←m0.o,j0.o,d2.o]; rfl,O.a,O.B⟩
     case measure=>simp[intOf]; omega
   .obtain rfl:k=n:=by omega
    have j2:q=rv:=by
     have:=HF.o;rw[Fe.2 (by have:=j.B; omega)]at this;simpa [vwB] using this
    subst j2;have m:=(g.o.below d.B g.o.lt).cell 5;rw[show p.cells[5]? =some p.ev from rfl,j.a]at m;have k2:=(g.o.below d.B g.o.lt).cell 2;change _=some (Value.i p.base)at k2;have k3:=(g.o.below d.B g.o.lt).cell 3;change _=some (Value.i p.number)at k3;have k4:=(g.o.below d.B g.o.lt).cell 4;change _=some (Value.i p.commit)at k4
    cases q
    .have Q:=kp (show R=false by rw[T.B]; rfl);go_wp2_with fail;go_ret;exact⟨by rw[Q.o]; rfl,d.a⟩
    have a2:=b2.o
    by_cases e0:p.number=p.base+k
    .have g4:(p.number != wrap64 (p.base+k))=false:=by simp; unfold wrap64; omega
     have Q:=kp (show R=aF p.commit p.base p.number by rw[T.B]; exact (show (true&&(decide (p.number=p.base+(k:Int))&&aF p.commit p.base p.number))=_ by rw[bY e0]; simp));have e2:=kp (fun W=>by have:=G.o p.commit p.base p.number W; rw[←Q.o]at this; exact this);clear e0 a2 T Q;go_wp2_with fail;refine ms' (e2.o _) ?_
     cases R
     .go_wp2_with fail;go_ret;exact⟨rfl,d.a⟩
     .go_wp2_with fail;go_ret;exact⟨rfl,d.a⟩
    .have g4:(p.number != wrap64 (p.base+k))=true:=by simp; unfold wrap64; omega
     have Q:=kp (show R=false by rw[T.B]; exact (show (true&&(decide (p.number=p.base+(k:Int))&&aF p.commit p.base p.number))=_ by rw[aX e0]; simp));clear e0 a2;go_wp2_with fail;go_ret;exact⟨by rw[Q.o]; rfl,d.a⟩
 all_goals
  have p0:=kp (fun W=>by have:=G.o p.node 1 7 W; rw[s]at this; exact this)
  try have y0:=kp (fun W=>by have:=G.o p.normal 0 900000000 W; rw[H]at this; exact this)
  try have z0:=kp (fun W=>by have:=G.o p.base 0 900000000 W; rw[l]at this; exact this)
  try have f:0≤p.base∧p.base≤900000000:=by unfold aF at l; simpa using l
  try have g0:=kp (by have:=vN.2 p.ev p.es p.base B S HS.o J.B (by have:=j.B; omega) (fun e he=>(z1.o e he).1) f.1 f.2; rw[X,j.a]at this; exact this)
  try have d4:=bY I
  try have d4:=aX I
  subst y;clear s
  try clear H
  try clear l f
  try clear I
  try clear X
  go_wp2_with fail;refine ms' (p0.o _) ?_
  try
   go_wp2_with fail;refine ms' (y0.o _) ?_
  try
   go_wp2_with fail;refine ms' (z0.o _) ?_
  have F:=k'2 (aL S.heap.size S) J.a
  try
   go_wp2_with fail;refine mb' (g0.o) fun w3 f=>?_;have F:=k'2 f (J.a.on f);clear f m
  clear k0 k1 k2 k3 k4 g1;have m:=(g.o.below F.a g.o.lt).cell 5;rw[show p.cells[5]? =some p.ev from rfl,j.a]at m;go_wp2_with fail;clear m
  go_loopw [3,4,36] (fun ok v i wr=>ok=.bool false∧∃k:Nat,k≤n∧i=.i k∧∃z:Int,v=.i z∧Bw' w wr∧Bw' S wr) (fun _ _ i _=>n-(intOf i).toNat)
  case atStart=>exact⟨rfl,0,by omega,rfl,0,rfl,F.B,F.a⟩
  case round=>
   obtain⟨rfl,k,hk,rfl,z,rfl,Y,Z⟩:=hrel;have d:=k'2 Y Z;clear Y Z
   by_cases l2:k<n
   .have g3:(k:Int)<(n:Int):=by omega
    have K:k<p.es.length:=by have:=j.B; omega
    have o0:=kp (HS.o.below d.B J.B);obtain⟨A2,c2,d0,b0,-,-⟩:=o0.o;obtain⟨b,m2,hA,-,o1,a0⟩:=dB (P:=prog) 11 En.cells eL (by omega) b0 k K;have d1:A2=A:=by have:=j.a; rw[d0]at this; cases this; rfl
    subst d1;subst hA;have N:=a0 0;change Sem.run _ _ wr=.ok _ wr at N;clear o1 a0 d0 b0;obtain⟨x,hx⟩:=nm' (p.es[k]'K);have HT:=kp (fun z=>vQ p.normal z p.es k K);rw[hx]at N HT;clear hx;obtain⟨Wn,l1,y1,D,M,-⟩:=fB wr 93 z'3 x.cells rfl (nI x);have r:=k'2 (d.a.on M) (d.B.on M);have U:=kp D;have l0:=D.load (P:=prog) (k:=11) rfl;have L:=D.cell 1;change _=some (Value.i x.v)at L;clear D M l1;go_wp2_with fail;go_roundw
    case rel=>exact⟨rfl,k+1,by omega,by go_num,x.v,rfl,r.a,r.B⟩
    case measure=>simp[intOf]; omega
   .obtain rfl:k=n:=by omega
    go_wp2_with fail;go_ret;exact⟨rfl,d.a⟩
end
section
attribute [-go_sem] loadCellsFrom storeCells
attribute [local go_sem] bC
structure RpS(p:RpV)(ps:List ObV):Prop where
 k:KdR p.k.x∧p.k.es.length≤1000000∧p.k.image.size≤1000000
 s:SmO p.s.p ps∧p.s.rows.length≤1000∧stR p.s.x∧inR p.s.x.h.next
 l:p.starts.length≤1000∧p.votes.length≤1000∧p.acks.length≤1000
 v:∀v∈p.votes,v.es.length≤1000000∧VoR v.x
 r:inR p.id∧inR p.nodes∧inR p.commit∧inR p.timer
 z:∀u∈ps,u.x.ws.length≤1000000∧u.x.ls.length≤1000000
theorem Ym(nodes a:Int){l:List Int}{k:Nat}(h:l.length≤k):lY nodes a (l.drop k)=true:=by rw[gS h]; rfl
theorem Yn(nodes a:Int){l:List Vo}{k:Nat}(h:l.length≤k):lZ nodes a (l.drop k)=true:=by rw[gS h]; rfl
theorem Yo(nodes id last a:Int){l:List Ak}{k:Nat}(h:l.length≤k):mA nodes id last a (l.drop k)=true:=by rw[gS h]; rfl
theorem Me{α β:Type}(l:List α)(m:List β):(l.isEmpty&&m.isEmpty)=(((l.length:Nat):Int)+((m.length:Nat):Int)==0):=by
 cases l<;>cases m<;>simp<;>omega
theorem Yp{α:Type}(l:List α):l.isEmpty=(((l.length:Nat):Int)==0):=by
 cases l<;>simp<;>omega
theorem Yq(p:RpV)(ps:List ObV)(B:Nat)(w:World)(h:eO w B p ps)(hB:B≤w.heap.size)(S:RpS p ps)(hb:0≤p.k.base∧p.k.base≤900000000):
  Calls prog 25 #[.agg p.cells.toArray] w fun e w'=>e=.returned (.bool (rH p.x))∧Bw' w w':=by
 obtain⟨W1,d4,x1,b1,z1⟩:=par w 39 p.cells;have d:=k'2 x1 b1;have X:=h.below b1 hB;have HN:=kp (fun W=>aCn p W);have g1:=kp (fun W=>Ks p W S.r.2.1);have q3:=kp (fun W(hw:Bw' W1 W)=>Di p W B (Sl.below X.1 hw (aB hB b1.size)) hb S.k.2.1);have G:=k'3 X (aB hB b1.size) S;obtain⟨A1,c1,z0,l3,e4,m4⟩:=X.2.2.1;obtain⟨A2,c2,g2,m3,g4,o4⟩:=X.2.2.2.1.1;obtain⟨A3,c3,j2,o3,j4,p4⟩:=X.2.2.2.2;have k1:=x1.cell 1;have o0:=x1.cell 18;rw[RpV.c1]at k1;obtain⟨O,m0⟩:∃n,p.starts.length=n:=⟨_,rfl⟩
 obtain⟨F,Y⟩:∃n,p.votes.length=n:=⟨_,rfl⟩
 obtain⟨m,Z⟩:∃n,p.acks.length=n:=⟨_,rfl⟩
 rw[m0]at z0;rw[Y]at g2;rw[Z]at j2;rw[RpV.c18,z0]at o0;have hl:=S.l;rw[m0,Y,Z]at hl;obtain⟨y4,z4,a5⟩:=hl;obtain⟨r1,b2⟩:∃r,lY p.nodes 0 p.starts=r:=⟨_,rfl⟩
 obtain⟨R,d2⟩:∃r,lZ p.nodes 0 (p.votes.map (·.x))=r:=⟨_,rfl⟩
 obtain⟨r3,e2⟩:∃r,mA p.nodes p.id p.x.k.last 0 p.acks=r:=⟨_,rfl⟩
 obtain⟨nb,q1⟩:∃r,gY p.x=r:=⟨_,rfl⟩
 obtain⟨lb,p1⟩:∃r,mN p.x=r:=⟨_,rfl⟩
 have b0:=Me p.starts (p.votes.map (·.x));have d0:=Me (p.votes.map (·.x)) p.acks;have e3:=Yp p.acks;rw[cW,m0,Y]at b0;rw[cW,Y,Z]at d0;rw[Z]at e3;obtain⟨r4,E⟩:∃r,(if nb=true then ((O:Int)+(F:Int)==0)&&(((m:Int)==0)||lb) else if lb=true then ((m:Int)==0) else ((F:Int)+(m:Int)==0))=r:=⟨_,rfl⟩
 have hR:rH p.x=(r1&&(R&&(r3&&r4))):=by
  rw[←b2,←d2,←e2,←E,←q1,←p1,←b0,←d0,←e3]; rfl
 have y0:=kp E;rw[hR];simp only[q1]at HN;simp only[p1]at g1;have a0:=k'4 l3 z0 m0 b2;have J:=k'4 m3 g2 Y d2;have K:=k'4 o3 j2 Z e2;clear hR b2 d2 e2 E q1 p1 b0 d0 e3 l3 z0 m0 e4 m4 m3 g2 Y g4 o4 o3 j2 Z j4 p4 X x1 b1 h hB hb S;go_enter func25,ntmps25;go_wp2_with fail;clear d4
 go_loopw [3,13] (fun v i wr=>∃k:Nat,k≤O∧i=.i k∧∃z:Int,v=.i z∧lY p.nodes z (p.starts.drop k)=r1∧W1=wr) (fun _ i _=>O-(intOf i).toNat)
 case atStart=>exact⟨0,by omega,rfl,0,rfl,a0.D,rfl⟩
 case round=>
  obtain⟨k,hk,rfl,z,rfl,H,rfl⟩:=hrel;have HF:=kp H;clear H
  by_cases j3:k<O
  .have g3:(k:Int)<(O:Int):=by omega
   have f:k<p.starts.length:=by have:=a0.c; omega
   obtain⟨b,p3,rfl,-,d3,-⟩:=dB (P:=prog) 1 i1 cS (by omega) a0.a k f;have Q:=d3 0 _ rfl;simp only[cF,oF]at Q;have HT:=kp (Vv p.nodes z p.starts k f);clear d3;generalize p.starts[k]'f=x at *;have j:=kp (HF.o.symm.trans HT.o)
   by_cases g:x≤z
   .have u1:decide (x≤z)=true:=by simp[g]
    obtain rfl:r1=false:=by rw[j.o,aX (by omega)]; rfl
    clear g;go_wp2_with fail;go_ret;exact⟨rfl,d.B⟩
   have u1:decide (x≤z)=false:=by simp[g]
   by_cases s:p.nodes<x
   .have u2:decide (p.nodes<x)=true:=by simp[s]
    obtain rfl:r1=false:=by rw[j.o,aX (show ¬x≤p.nodes by omega)]; simp
    clear g s;go_wp2_with fail;go_ret;exact⟨rfl,d.B⟩
   have u2:decide (p.nodes<x)=false:=by simp[s]
   have d1:=kp (show lY p.nodes x (p.starts.drop (k+1))=r1 by rw[j.o,bY (show z<x by omega),bY (show x≤p.nodes by omega)]; rfl);clear g s;go_wp2_with fail;go_roundw
   case rel=>exact⟨k+1,by omega,by go_num,x,rfl,d1.o,trivial⟩
   case measure=>simp[intOf]; omega
  .obtain rfl:O=k:=by omega
   obtain rfl:r1=true:=HF.o.symm.trans (Ym _ _ (by have:=a0.c; omega));clear o0;have M:=d.a.cell 19;rw[RpV.c19,J.b]at M;go_wp2_with fail;clear k1 M
   go_loopw [3,31] (fun v i wr=>∃k:Nat,k≤F∧i=.i k∧∃z:Int,v=.i z∧lZ p.nodes z ((p.votes.map (·.x)).drop k)=R∧Bw' W1 wr) (fun _ i _=>F-(intOf i).toNat)
   case atStart=>exact⟨0,by omega,rfl,0,rfl,J.D,.refl _ _⟩
   case round=>
    obtain⟨k,hk,rfl,z,rfl,H,g0⟩:=hrel;have HF:=kp H;have V:=kp g0;clear H g0
    by_cases j3:k<F
    .have g3:(k:Int)<(F:Int):=by omega
     have f:k<p.votes.length:=by have:=J.c; omega
     obtain⟨b,p3,rfl,-,-,l0⟩:=dB (P:=prog) 6 VoV.cells iS (by omega) (J.a.below V.o G.b) k f;have Q:=l0 0;change Sem.run _ _ wr=.ok _ wr at Q;have L:=Vw p.nodes z (p.votes.map (·.x)) k (by simpa using f);rw[kY]at L;have hx:p.votes[k]'f∈p.votes:=bK f;clear l0;generalize p.votes[k]'f=x at *;have j:=kp (HF.o.symm.trans L);have m2:mS wr B x:=Sl.below (G.a.2.2.2.1.2 x hx) V.o G.b;obtain⟨W4,o1,s4,T,aS,-⟩:=fB wr 103 z'6 x.cells rfl (yK m2);have I:=kp (V.o.on aS);have z2:=kp T;have m1:=Yl x B W4 (Sl.below m2 aS (aB G.b V.o.size)) (aB G.b I.o.size) (G.C.v x hx).1 (G.C.v x hx).2;obtain⟨vb,l2⟩:∃r,iC x.x=r:=⟨_,rfl⟩
     rw[l2]at m1;have y3:=kp m1;have q2:=kp l2;have l4:=T.load (P:=prog) (k:=6) rfl;clear m1 l2 hx L m2 T aS;go_wp2_with fail;refine mb' (y3.o) fun w5 A=>?_;clear Q s4 l4 o1;have y:=kp (I.o.on A);have x5:=z2.o.below A z2.o.lt;have j0:=x5.cell 0;change _=some (Value.i x.node)at j0;have k1:=(d.a.below y.o d.a.lt).cell 1;rw[RpV.c1]at k1;clear x5 A
     cases vb
     case false=>
      obtain rfl:R=false:=by rw[j.o,q2.o]; rfl
      rw[show eN 150 false=150 from rfl];go_wp2_with fail;go_ret;exact⟨rfl,d.B.on y.o⟩
     rw[show eN 150 true=0 from rfl]
     by_cases g:x.node≤z
     .have u1:decide (x.node≤z)=true:=by simp[g]
      obtain rfl:R=false:=by rw[j.o,aX (show ¬z<x.x.node from fun h=>by have h:z<x.node:=h; omega)]; simp
      clear g;go_wp2_with fail;go_ret;exact⟨rfl,d.B.on y.o⟩
     have u1:decide (x.node≤z)=false:=by simp[g]
     by_cases s:p.nodes<x.node
     .have u2:decide (p.nodes<x.node)=true:=by simp[s]
      obtain rfl:R=false:=by rw[j.o,aX (show ¬x.x.node≤p.nodes from fun h=>by have h:x.node≤p.nodes:=h; omega)]; simp
      clear g s;go_wp2_with fail;go_ret;exact⟨rfl,d.B.on y.o⟩
     have u2:decide (p.nodes<x.node)=false:=by simp[s]
     have d1:=kp (show lZ p.nodes x.node ((p.votes.map (·.x)).drop (k+1))=R by rw[j.o,q2.o,bY (show z<x.x.node from Int.not_le.1 g),bY (show x.x.node≤p.nodes from Int.not_lt.1 s)]; rfl);clear g s;go_wp2_with fail;go_roundw
     case rel=>exact⟨k+1,by omega,by go_num,x.node,rfl,d1.o,y.o⟩
     case measure=>simp[intOf]; omega
    .obtain rfl:F=k:=by omega
     obtain rfl:R=true:=HF.o.symm.trans (Yn _ _ (by have:=J.c; simp; omega));have N:=(d.a.below V.o d.a.lt).cell 20;rw[RpV.c20,K.b]at N;go_wp2_with fail;clear N
     go_loopw [3,57] (fun v i wr=>∃k:Nat,k≤m∧i=.i k∧∃z:Int,v=.i z∧mA p.nodes p.id p.x.k.last z (p.acks.drop k)=r3∧Bw' W1 wr) (fun _ i _=>m-(intOf i).toNat)
     case atStart=>exact⟨0,by omega,rfl,0,rfl,K.D,V.o⟩
     case round=>
      obtain⟨k,hk,rfl,z,rfl,H,g0⟩:=hrel;have HG:=kp H;have p0:=kp g0;clear H g0
      by_cases j3:k<m
      .have g3:(k:Int)<(m:Int):=by omega
       have f:k<p.acks.length:=by have:=K.c; omega
       obtain⟨b,p3,rfl,-,-,l0⟩:=dB (P:=prog) 2 Ak.cells nH (by omega) (K.a.below p0.o G.b) k f;have Q:=l0 0;change Sem.run _ _ wr=.ok _ wr at Q;have L:=Vx p.nodes p.id p.x.k.last z p.acks k f;rw[HG.o]at L;clear l0;generalize p.acks[k]'f=x at *;obtain⟨W4,o1,s4,T,aS,-⟩:=fB wr 109 [.i 0,.i 0] x.cells rfl (wX x);have I:=kp (p0.o.on aS);have y1:=d.a.below I.o d.a.lt;have j0:=aP (v:=.i x.n) (T.cell 0);have j1:=aP (v:=.i x.k) (T.cell 1);have k0:=aP (v:=.i p.id) (y1.cell 0);have k1:=aP (v:=.i p.nodes) (y1.cell 1);have l1:=mC (P:=prog) y1 (k:=26) rfl;have p2:=kp (fun(q:Blw W4)=>q3.o q.w (I.o.on q.h));obtain⟨a1,u1⟩:∃a,decide (x.n≤z)=a:=⟨_,rfl⟩
       obtain⟨a2,u2⟩:∃a,decide (p.nodes<x.n)=a:=⟨_,rfl⟩
       obtain⟨a3,u3⟩:∃a,decide (x.n=p.id)=a:=⟨_,rfl⟩
       obtain⟨a4,u4⟩:∃a,aF x.k 0 p.x.k.last=a:=⟨_,rfl⟩
       have j:=kp (show r3=(((!a1&& !a2)&&(!a3&&a4))&&mA p.nodes p.id p.x.k.last x.n (p.acks.drop (k+1))) by
        rw[L,←u1,←u2,←u3,←u4,show decide (z<x.n)= !decide (x.n≤z) by rw[←decide_not]; exact decide_eq_decide.2 (by omega),show decide (x.n≤p.nodes)= !decide (p.nodes<x.n) by rw[←decide_not]; exact decide_eq_decide.2 (by omega)])
       have b5:(x.n==p.id)=a3:=u3;have y2:=kp (fun W=>u4▸oK.1 x.k 0 p.x.k.last W);clear L u3 u4 T aS y1;go_wp2_with fail;clear Q s4 o1
       cases a1
       case' false=>
        cases a2
        case' false=>
         cases a3
         case' false=>
          cases a4
          case true=>
           refine bJ (by kernel_rfl) (by kernel_rfl) ?_
           repeat (go_big_quiet_step (first |(go_at_call 24; refine bU (p2.o _))|(go_at_call 22; refine dG (y2.o _))))
           refine bH ?_;rintro W5 ⟨⟨_,A⟩,rfl⟩;have j0:=j0 ⟨W5,A⟩;have y:=kp (I.o.on A);clear j1 k0 k1 l1;go_wp2_with fail;go_roundw
           case rel=>exact⟨k+1,by omega,by go_num,x.n,rfl,j.o.symm,y.o⟩
           case measure=>simp[intOf]; omega
       all_goals
        obtain rfl:r3=false:=j.o;refine bJ (by kernel_rfl) (by kernel_rfl) ?_
        repeat (go_big_quiet_step (first |(go_at_call 24; refine bU (p2.o _))|(go_at_call 22; refine dG (y2.o _))))
        refine bH ?_;rintro W5 ⟨⟨_,A⟩,rfl⟩;have y:=kp (I.o.on A);clear A;go_wp2_with fail;go_ret;exact⟨rfl,d.B.on y.o⟩
      .obtain rfl:m=k:=by omega
       obtain rfl:r3=true:=HG.o.symm.trans (Yo _ _ _ _ (by have:=K.c; omega));have l1:=(d.a.below p0.o d.a.lt).load (P:=prog) (k:=26) rfl;obtain⟨z3,b0⟩:∃a,((O:Int)+(F:Int)==0)=a:=⟨_,rfl⟩
       obtain⟨q4,d0⟩:∃a,((F:Int)+(m:Int)==0)=a:=⟨_,rfl⟩
       obtain⟨f3,e3⟩:∃a,((m:Int)==0)=a:=⟨_,rfl⟩
       have E:=y0.o;rw[b0,d0,e3]at E;have y0:=kp E;clear E;go_wp2_with fail;refine mb' (HN.o _) fun w6 b3=>?_;have U:=kp (p0.o.on b3);clear b3 l1;have l1:=(d.a.below U.o d.a.lt).load (P:=prog) (k:=26) rfl
       cases nb
       .go_wp2_with fail;refine mb' (g1.o _) fun w7 e0=>?_;have o2:=kp (U.o.on e0);have y7:=d.a.below o2.o d.a.lt;have M:=y7.cell 19;rw[RpV.c19,J.b]at M;have N:=y7.cell 20;rw[RpV.c20,K.b]at N;clear e0 l1 y7
        cases lb
        all_goals
         obtain rfl:=y0.o;go_wp2_with fail;go_ret;exact⟨rfl,d.B.on o2.o⟩
       have y6:=d.a.below U.o d.a.lt;have o0:=y6.cell 18;rw[RpV.c18,a0.b]at o0;have M:=y6.cell 19;rw[RpV.c19,J.b]at M;have N:=y6.cell 20;rw[RpV.c20,K.b]at N;clear y6
       cases z3
       case' true=>
        cases f3
        case' false=>
         go_wp2_with fail;refine mb' (g1.o _) fun w7 e0=>?_;have U:=kp (U.o.on e0);clear e0 l1 o0 M N
       all_goals
        have E:=y0.o
        try cases lb
        all_goals
         obtain rfl:=E;go_wp2_with fail;go_ret;exact⟨rfl,d.B.on U.o⟩
end
section
attribute [-go_sem] loadCellsFrom storeCells
attribute [local go_sem] bC
theorem Mf(c:Int):∀(l:List Rw)(k:Nat)(a:k<l.length),(l[k]).c=c→(∀y∈l.take k,decide (y.c=c)=false)→jB c l=l[k]:=by
 intro l k a h b
 induction l generalizing k with
 |nil=>simp at a
 |cons x l f=>
  cases k with
  |zero=>
   unfold jB;rw[List.find?_cons_of_pos (by simpa using h)];rfl
  |succ k=>
   have d:=b x (by simp);have:=f k (by simpa using a) (by simpa using h) fun y e=>b y (by simp[e]);unfold jB at this ⊢;rw[List.find?_cons_of_neg (by simpa using d)];simpa using this
theorem Mh(c:Int)(l:List Rw)(h:∀y∈l,decide (y.c=c)=false):jB c l=⟨0,0,0,0⟩:=by
 unfold jB;rw[List.find?_eq_none.2 fun y a=>by simpa using h y a];rfl
theorem StV.len(p:StV):p.cells.length=9:=rfl
theorem Yr(x:Rw)(c:Int)(b:Nat)(W:World)(d:Blk W b 3 [.i c]):
  Calls prog 115 #[.agg x.cells.toArray,.pointer (some ⟨b,0,none⟩)] W fun e g=>e=.returned (.bool (decide (x.c=c)))∧Bw' W g:=by
 have a:=ba' W (.cells x.cells.toArray 117);have h:=Blk.new W 117 x.cells;have j:=h.cell 0;change _=some (Value.i x.c)at j;have i:=(d.below a d.lt).cell 0;simp only[aG]at i;have k:(x.c==c)=decide (x.c=c):=rfl;have f:=kp a;go_enter func115,ntmps115;go_wp2_with fail;go_ret;exact⟨rfl,f.o⟩
def Mi(w:World)(c:Int)(rows:List Rw)(e:Ending)(w':World):Prop:=
 ∃b,e=.returned (.tuple #[.agg (jB c rows).cells.toArray,.bool b])∧Bw' w w'
theorem Yt(c:Int)(l:List Rw):(∀y∈l,decide (y.c=c)=false)∨∃k,∃d:k<l.length,(l[k]).c=c∧∀y∈l.take k,decide (y.c=c)=false:=by
 induction l with
 |nil=>exact .inl fun y a=>by cases a
 |cons x l g=>
  by_cases b:x.c=c
  .exact .inr ⟨0,by simp,by simpa using b,fun y a=>by simp at a⟩
  .rcases g with h|⟨k,d,e,f⟩
   .refine .inl fun y a=>?_;rcases bA.1 a with rfl|a
    .simpa using b
    .exact h y a
   .refine .inr ⟨k+1,by simpa using d,by simpa using e,fun y a=>?_⟩;rw[qK]at a;rcases bA.1 a with rfl|a
    .simpa using b
    .exact f y a
theorem Yu(p:StV)(ps:List ObV)(c:Int)(B:Nat)(w:World)(h:fN w B p ps)(E:B≤w.heap.size)(U:p.rows.length≤1000000):
  Calls prog 64 #[.agg p.cells.toArray,.i c] w (Mi w c p.rows):=by
 have j0:∀(O:Fn)(first cap:Array Value)(w:World),(Instr.makeFunc O first cap).run prog w=.ok (.func O first cap) w:=fun _ _ _ _=>rfl;have z:=ba' w (.cells p.cells.toArray 32);have q:=Blk.new w 32 p.cells;obtain⟨j,Z⟩:=nm' (w.alloc (.cells p.cells.toArray 32));rw[Z]at z q;have f:=ba' j (.cells #[.i c] 3);have M:=Blk.new j 3 [.i c];obtain⟨l,a0⟩:=nm' (j.alloc (.cells #[.i c] 3));rw[a0]at f M;have C:=ba' l (.cells z'4a 117);have V:=Blk.new l 117 z'4;obtain⟨X,b0⟩:=nm' (l.alloc (.cells z'4a 117));rw[b0]at C V;have d:=k'2 ((z.on f).trans (C.mono (aB z.size f.size))) (aB z.size f.size);have J:=kp ((q.below f q.lt).below C (q.below f q.lt).lt);have N:=kp (M.below C M.lt);have y:=kp V;have i:=kp (Jz.2.1 p.rv p.rows (fun r=>decide (r.c=c)) 115 #[.pointer (some ⟨j.heap.size,0,none⟩)] B X (h.2.below d.a E) (aB E d.a.size) U (enters_of func115 (by kernel_rfl) rfl) (fun W x _ hb=>Yr x c j.heap.size W (N.o.below hb N.o.lt)));obtain⟨A,cc,G,e0,hc,hm⟩:=h.2;obtain⟨n,T⟩:=nm' p.rows.length;rw[T]at U hc G;have H:=k'4 (e0.below d.a E) T G (aB E d.a.size);have q8:=J.o.cell 8;rw[StV.c8,G]at q8;rw[G]at i;go_enter func64,ntmps64;rcases Yt c p.rows with Q|⟨k,F,R,S⟩
 .rw[vB _ _ Q]at i;have I:=kp (Mh c p.rows Q);go_wp2_with fail;refine mb' (i.o) fun L e=>?_;have s:=y.o.below e y.o.lt;have Y:=s.store (P:=prog) (cs':=z'4) rfl (jR ⟨0,0,0,0⟩);have m:=k'2 (s.set z'4) (cL (d.a.on e) (g:=l.heap.size) d.B z'4a);go_wp2_with fail;have K:=m.a.load (P:=prog) (k:=4) rfl;exact aU (v:=.tuple #[.agg z'4a,.bool false]) (by simp[results,results64,go_sem,K]) rfl ⟨false,by rw[I.o]; rfl,m.B⟩
 .rw[rF _ _ k F (by simpa using R) S]at i;have I:=kp (Mf c p.rows k F R S);have g3:(k:Int)<(n:Int):=by have:=H.b; omega
  go_wp2_with fail;refine mb' (i.o) fun L e=>?_;have q9:=(J.o.below e J.o.lt).cell 8;rw[StV.c8,H.c]at q9;obtain⟨b,m0,rfl,-,g0,d0⟩:=dB (P:=prog) 4 Rw.cells fJ (by omega) (H.a.below e H.D) k F;have l0:=d0 0;change Sem.run _ _ L=.ok _ L at l0;generalize p.rows[k]'F=x at *;have s:=y.o.below e y.o.lt;have Y:=s.store (P:=prog) (cs':=x.cells) rfl (jR x);have m:=k'2 (s.set x.cells) (cL (d.a.on e) (g:=l.heap.size) d.B x.cells.toArray);go_wp2_with fail;have K:=m.a.load (P:=prog) (k:=4) rfl;exact aU (v:=.tuple #[.agg x.cells.toArray,.bool true]) (by simp[results,results64,go_sem,K]) rfl ⟨true,by rw[I.o],m.B⟩
end
section

end
end Go.Proofs.YthalbagblhkeaaaGreat
