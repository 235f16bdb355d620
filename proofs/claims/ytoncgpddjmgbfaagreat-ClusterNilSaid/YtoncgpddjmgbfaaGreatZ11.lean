import Derived.Test.YtoncgpddjmgbfaaGreatZ04
namespace Go.Proofs.YtoncgpddjmgbfaaGreat
open Go.RowKit Go.Proofs.Tryz
set_option maxRecDepth 100000
set_option maxHeartbeats 12800000
set_option linter.unusedVariables false
set_option linter.unusedSimpArgs false
section
theorem Hh{α:Type}(a:α→Int):∀(l:List α),l.Pairwise (fun x y=>a x<a y)→iA a l
 |[],_=>trivial
 |_::l,h=>⟨(dN.1 h).1,Hh a l (dN.1 h).2⟩
theorem Rr(w:World)(a b:Obj):∃q c,(w.alloc a).alloc b=Go.Sort.grow (w.drewN q) c:=⟨0,_,by rw[Go.Sort.alloc_eq_grow,Go.Sort.alloc_eq_grow,Go.Sort.grow_grow]; rfl⟩
theorem Rt(x y:Bk)(W:World):Calls prog 222 #[.agg x.cells.toArray,.agg y.cells.toArray] W fun e f=>e=.returned (.i (nZ x y))∧∃q d,f=Go.Sort.grow (W.drewN q) d:=by
 have b:=kp (Rr W (.cells #[.i x.a,.i x.o] 262) (.cells #[.i y.a,.i y.o] 262));unfold nZ;change Calls _ _ #[.agg #[.i x.a,.i x.o],.agg #[.i y.a,.i y.o]] W _;obtain⟨g,c,h,i,j,k,_⟩:=zZ W x y 262;subst c;go_enter func222,ntmps222;go_wp2_with fail;refine ms' (qG x.a y.a _) ?_;go_wp2_with fail;go_ret;exact⟨rfl,b.o⟩
theorem Ru(g:Nat)(p:HpV)(a:List ObV)(t:Int)(B:Nat)(W:World)(b:eP W g 40 p)(c:Sl W B p.ov ObV.cells a)(j:B≤W.heap.size)(k:a.length≤1000000)(l:iA (fun p:ObV=>p.x.h) a):
  Calls prog 223 #[.i t,.pointer (some ⟨g,0,none⟩)] W fun e m=>e=.returned (.bool (!eI (a.map (·.x)) t))∧Bw' W m:=by
 have i:=kp (Gf p.ov a t B W c j k l);have n:=b.c1;clear b c;generalize eI (a.map (·.x)) t=y at *;go_enter func223,ntmps223;go_wp2_with fail;refine mb' i.o fun q d=>?_;have f:=kp d; clear d;go_wp2_with fail;go_ret;exact⟨rfl,f.o⟩
structure sS(next:Int)(l:List Ob)(L:Int):Prop where
 zero:0≤L
 le:∀y∈l,0<y.h∧y.h≤L∧y.h<next
 rise:l.Pairwise (fun x y=>x.h<y.h)
theorem sS.snoc{next L:Int}{l:List Ob}{y:Ob}(s:sS next l L)(c:L<y.h)(d:y.h<next):sS next (l++[y]) y.h:=by
 refine⟨by have:=s.zero; omega,fun z a=>?_,?_⟩
 .rcases cV.1 a with a|a
  .have:=s.le z a; omega
  .rw[bZ.1 a]; have:=s.zero; omega
 .rw[rP];exact⟨s.rise,by simp,fun z a u b=>by rw[bZ.1 b]; have:=s.le z a; omega⟩
theorem Blk.grew{α:Type}{enc:α→List Value}{w d:World}{base k g:Nat}{t a:TypeId}{v:Value}{l:List α}{b:List Value}(h:Blk w g a b)(m:Ow w base t k v enc l)(n:t≠a)(j:w.grownBy d v.ownBlock):Blk d g a b:=by
 refine (j.block g h.lt fun i=>?_).trans h;obtain⟨c1,o,f⟩:=Lib.ownsRow_kind m g i.symm;have c:w.heap[g]? =_:=h;rw[f]at c;injection c with e
 injection e with _ e2
 exact n e2
def lR(l:List Ob):List Int:=(l.map (·.ls)).flatten
theorem Hi(l:List Ob)(y:Ob):lR (l++[y])=lR l++y.ls:=by simp[lR]
theorem Rv{h:Hp}{m:List Bk}{L:Int}(f:gX h.order h.free=true)(j:aG h.next 1 1000001=true)(i:(h.obs.length:Int)≤256)(d:sS h.next h.obs L)(k:h.obs.all (obM h.order)=true)(l:(lO h).Perm m)(o:m.Pairwise (fun x y=>x.a≤y.a))(g:iN 0 m=true):
  cR h=(decide (bV m=aU h.order)&&(!((lR h.obs).any fun t=> !eI h.obs t)&& !(h.tops.any fun t=> !eI h.obs t))):=by
 have b:=Fj l o f k;rw[g,kU]at b;have n:sJ h.next 0 h.obs=true:=(Ah _ _ _).2 ⟨fun x c=>by have:=d.le x c; omega,d.rise⟩;have e1:(!((lR h.obs).any fun t=> !eI h.obs t))=wU h:=by
  unfold wU lR;rw[rO,rK,pT,mL];constructor
  .intro e x c;rw[mL];intro t b;have:=e t (List.mem_flatten.2 ⟨_,cP.2 ⟨x,c,rfl⟩,b⟩);simpa using this
  .intro e t b;obtain⟨r,d,b⟩:=List.mem_flatten.1 b;obtain⟨x,c,rfl⟩:=cP.1 d;have:=mL.1 (e x c) t b;simpa using this
 have e2:(!(h.tops.any fun t=> !eI h.obs t))=h.tops.all (eI h.obs):=by
  rw[rO,rK,pT,mL];exact forall_congr' fun t=>forall_congr' fun _=>by simp
 rw[e1,e2,b];unfold cR;rw[f,j,n,fA i];simp only[kU]
 cases h.obs.all (obB h.order)<;>rfl
theorem Rx{h:Hp}{m:List Bk}(e:gX h.order h.free=true)(f:h.obs.all (obM h.order)=true)(g:(lO h).Perm m)(i:m.Pairwise (fun x y=>x.a≤y.a))(d:iN 0 m=false):cR h=false:=by
 have c:=Fj g i e f;rw[d,Bool.false_and]at c;rw[tS];intro b;unfold cR at b;simp only[bH]at b;rw[b.2.2.2.2.1,b.2.2.2.2.2.1]at c
 cases c
theorem Bj{o:Int}{x:Ob}(h:obM o x=true):x.ls.length≤16∧0≤x.b.o:=by
 unfold obM aG at h;simp only[bH,bR]at h;have:=qB (n:=x.ws.length) (k:=x.ls.length) (by omega);omega
theorem Bl:∀(l:List Bk)(E:Int)(b:Bk)(m:List Bk),(∀x∈l,0≤x.o∧x.o≤8)→iN E l=true→iN E (l++b::m)=(decide (b.a=E+bV l)&&iN (E+bV l+aU b.o) m)
 |[],E,b,m,_,_=>by
  have e:bV []=0:=rfl;rw[e,Int.add_zero];rfl
 |x::l,E,b,m,c,h=>by
  have d:=c x (by simp);simp only[iN,bH,bR]at h;show (decide (x.a=E)&&iN (E+aU x.o) (l++b::m))=_;rw[fA h.1,kU,Bl l _ b m (fun y f=>c y (by simp[f])) h.2,iM,fJ d.1 d.2,←Ms]
theorem xT(p:HpV)(f:List ObV)(B:Nat)(w:World)(h:jB w B p f)(hB:B≤w.heap.size)(hn:f.length≤1000000)(G5:p.x.free.length≤900000):
  Calls prog 173 #[.agg p.cells.toArray] w fun e d=>e=.returned (.i (dG 1 (cR p.x)))∧Bw' w d:=by
 have e3:p.x.free.length≤1000000:=by omega
 obtain⟨r,g7⟩:=nm' (cR p.x);rw[g7];have V:=kp g7; clear g7;have l9:=Blk.new w 40 p.cells;have H:=ba' w (.cells p.cells.toArray 40);have hW:B≤(w.alloc (.cells p.cells.toArray 40)).heap.size:=by simp; omega
 have hH:=eP.of l9;have T:=kp (h.below H hB);have Q:=kp H;have HH:=kp hH;have X:=kp hW;have R:=kp (show w.heap.size≤(w.alloc (.cells p.cells.toArray 40)).heap.size by simp);obtain⟨n,hl⟩:=nm' f.length;rw[hl]at hn;have G0:p.x.obs.length=n:=by rw[h.2.1,dD,hl]
 have HL:=k'2 hl G0;obtain⟨A,c,p4,_,_,_⟩:=h.1.1;rw[hl]at p4;have g4:=kp p4;clear h l9 H hW;go_enter func173,ntmps173;go_wp2_with fail;generalize w.alloc (.cells p.cells.toArray 40)=W at *;have q0:=bG hH.c0;have q1:=hH.c1;rw[p4]at q1;have q1:=bG q1;have q2:=bG hH.c2;have q7:=bG hH.c7;have j0:=kp (show ∀q:Blw W,Sl q.w B p.fv Bk.cells p.x.free∧B≤q.w.heap.size from fun q=>⟨Sl.blw q T.C X.o,aB X.o q.size⟩);clear hH hl p4;rcases Px (!gX p.x.order p.x.free) (!aG p.x.next 1 1000001) (decide (256<(n:Int))) false with G|⟨G,S⟩|⟨G,S,hc⟩|⟨_,_,_,hd⟩|⟨G,S,hc,_⟩
 rotate_left 3
 .cases hd
 rotate_left 1
 .simp only[rK]at G;obtain rfl:r=false:=by rw[←V.o]; exact tS.2 fun h=>by have:=(Gh (gE.1 h)).1; rw[G]at this; cases this
  have HF:=kp G;have z0:=kp (show ∀q:Blw W,Calls prog 216 #[.i p.x.order,p.fv] q.w (fun e d=>e=.returned (.i 1)∧Below q.w.heap.size q.w d) from fun q=>by have:=pV p.x.order p.fv B p.x.free q.w (j0.o q).1 (j0.o q).2 e3; rw[HF.o]at this; exact this);clear G;refine cX (by kernel_rfl) (by kernel_rfl) ?_
  repeat (go_big_quiet_step ((go_at_call 216; with_reducible refine gV (z0.o _))))
  refine cI ?_;rintro W1 ⟨⟨_,H⟩,rfl⟩;have y0:=kp H;clear H q0 q1 q2 q7;go_wp2_with fail;go_ret;exact⟨rfl,Q.o.trans (y0.o.mono R.o)⟩
 .simp only[rK,Mc]at G S;obtain rfl:r=false:=by
   rw[←V.o];refine tS.2 fun h=>?_;unfold cR at h;simp only[bH]at h;rw[h.2.1]at S
   cases S
  have HF:=kp G;have z0:=kp (show ∀q:Blw W,Calls prog 216 #[.i p.x.order,p.fv] q.w (fun e d=>e=.returned (.i 0)∧Below q.w.heap.size q.w d) from fun q=>by have:=pV p.x.order p.fv B p.x.free q.w (j0.o q).1 (j0.o q).2 e3; rw[HF.o]at this; exact this);have HN:=kp S;have o2:=kp (show ∀w,Calls prog 217 #[.i p.x.next,.i 1,.i 1000001] w (fun e d=>e=.returned (.bool false)∧d=w) from fun w=>by have:=cK.2.2.2.2 p.x.next 1 1000001 w; rw[HN.o]at this; exact this);clear G S;refine cX (by kernel_rfl) (by kernel_rfl) ?_
  repeat (go_big_quiet_step (first |(go_at_call 216; with_reducible refine gV (z0.o _))|(go_at_call 217; with_reducible refine dP (o2.o _))))
  refine cI ?_;rintro W1 ⟨⟨_,H⟩,rfl⟩;have y0:=kp H;clear H q0 q1 q2 q7;go_wp2_with fail;go_ret;exact⟨rfl,Q.o.trans (y0.o.mono R.o)⟩
 .simp only[Mc,bR]at G S hc;obtain rfl:r=false:=by rw[←V.o]; exact tS.2 fun h=>by have:=(Gh (gE.1 h)).2; rw[HL.B]at this; omega
  have HF:=kp G;have z0:=kp (show ∀q:Blw W,Calls prog 216 #[.i p.x.order,p.fv] q.w (fun e d=>e=.returned (.i 0)∧Below q.w.heap.size q.w d) from fun q=>by have:=pV p.x.order p.fv B p.x.free q.w (j0.o q).1 (j0.o q).2 e3; rw[HF.o]at this; exact this);have HN:=kp S;have o2:=kp (show ∀w,Calls prog 217 #[.i p.x.next,.i 1,.i 1000001] w (fun e d=>e=.returned (.bool true)∧d=w) from fun w=>by have:=cK.2.2.2.2 p.x.next 1 1000001 w; rw[HN.o]at this; exact this);clear G S;refine cX (by kernel_rfl) (by kernel_rfl) ?_
  repeat (go_big_quiet_step (first |(go_at_call 216; with_reducible refine gV (z0.o _))|(go_at_call 217; with_reducible refine dP (o2.o _))|(go_at_call 218; refine dP (v:=.i 256) (iL 8 _))))
  refine cI ?_;rintro W1 ⟨⟨_,H⟩,rfl⟩;have y0:=kp H;clear H q0 q1 q2 q7;go_wp2_with fail;go_ret;exact⟨rfl,Q.o.trans (y0.o.mono R.o)⟩
 simp only[Mc,decide_eq_false_iff_not]at G S hc;have HF:=kp G;have HN:=kp S;have z0:=kp (show ∀q:Blw W,Calls prog 216 #[.i p.x.order,p.fv] q.w (fun e d=>e=.returned (.i 0)∧Below q.w.heap.size q.w d) from fun q=>by have:=pV p.x.order p.fv B p.x.free q.w (j0.o q).1 (j0.o q).2 e3; rw[HF.o]at this; exact this);have o2:=kp (show ∀w,Calls prog 217 #[.i p.x.next,.i 1,.i 1000001] w (fun e d=>e=.returned (.bool true)∧d=w) from fun w=>by have:=cK.2.2.2.2 p.x.next 1 1000001 w; rw[HN.o]at this; exact this);clear G S;refine cX (by kernel_rfl) (by kernel_rfl) ?_
 repeat (go_big_quiet_step (first |(go_at_call 216; with_reducible refine gV (z0.o _))|(go_at_call 217; with_reducible refine dP (o2.o _))|(go_at_call 218; refine dP (v:=.i 256) (iL 8 _))))
 refine cI ?_;rintro W1 ⟨⟨_,H⟩,rfl⟩;have y0:=kp H;have C4:=kp (HH.o.below H);have p1:=C4.o.c1;rw[g4.o]at p1;clear H q0 q1 q2 q7;have HO:=kp ((lX _ _).1 HF.o);go_wp2_with fail
 go_loopw [3,37] (fun e i wr=>∃k:Nat,k≤n∧i=.i k∧(∃L,e=.i L∧sS p.x.next (p.x.obs.take k) L∧(L=0∨∃z∈p.x.obs.take k,z.h=L))∧Bw' W wr) (fun _ i _=>n-(intOf i).toNat)
 case atStart=>exact⟨0,by omega,rfl,⟨0,rfl,⟨by omega,by simp,by simp⟩,.inl rfl⟩,y0.o⟩
 case round=>
  obtain⟨k,hk,rfl,⟨L,rfl,hS,hU⟩,d0⟩:=hrel;have HS:=kp hS;have HU:=kp hU;clear hU;have I:=kp d0;have HI:=kp (HH.o.below d0);clear hS d0
  by_cases z6:k<n
  .have g3:(k:Int)<(n:Int):=by omega
   have g:k<f.length:=by have:=HL.o; omega
   have b1:=T.o.below I.o X.o;obtain⟨Aw,cw,Al,cl,o0,U,m3,d3,j1⟩:=Ay b1.1 k g;obtain⟨A',c',l3,hr,_,_⟩:=b1.1.1;obtain rfl:A'=A:=by have:=g4.o; rw[l3]at this; injection this
   obtain⟨b,O,hA,g9,D,_⟩:=dS (P:=prog) 5 eV (by omega) hr k g;subst hA;have x0:wr.cell? ⟨b,O+k*5+0,none⟩=some (.i f[k].x.h):=D 0 _ rfl;have x1:wr.cell? ⟨b,O+k*5+1,none⟩=some (.i f[k].x.b.a):=D 1 _ rfl;have x2:wr.cell? ⟨b,O+k*5+2,none⟩=some (.i f[k].x.b.o):=D 2 _ rfl;have x3:wr.cell? ⟨b,O+k*5+3,none⟩=some f[k].wv:=D 3 _ rfl;have x4:wr.cell? ⟨b,O+k*5+4,none⟩=some f[k].lv:=D 4 _ rfl;simp only[dW]at x0;have HT:=kp (show p.x.obs.take (k+1)=p.x.obs.take k++[f[k].x] by
    have ho:=T.b;rw[ho,fE (by simpa using g),pQ])
   have C9:=kp (show f[k].x∈p.x.obs.drop k by rw[T.b,←List.map_drop]; exact cP.2 ⟨f[k],by rw[iF g]; exact List.mem_cons_self,rfl⟩);clear D hr l3 b1;have a4:=kp (show f[k].x∈p.x.obs by rw[T.b]; exact cP.2 ⟨_,cU g,rfl⟩);generalize f[k]'g=y at *;obtain⟨M,l1⟩:=nm' y.x.ls.length;rw[l1]at U j1;have l5:=kp l1; clear l1;have E8:y.x.ws.length≤9223372036854775807:=by unfold maxLen at d3; omega
   have E7:M≤9223372036854775807:=by unfold maxLen at j1; omega
   clear d3 j1;rw[o0]at x3;rw[U]at x4;have D2:=kp m3; clear m3;have o1:gH (wr.alloc (.cells #[.i y.x.h,.i y.x.b.a,.i y.x.b.o,.slice Aw y.x.ws.length cw,.slice Al M cl] 264)) wr.heap.size 264 y:=.of (by
    have:=Blk.new wr 264 y.cells;unfold ObV.cells at this;rw[o0,U]at this;unfold ObV.cells;rw[o0,U];exact this)
   have a0:=ba' wr (.cells #[.i y.x.h,.i y.x.b.a,.i y.x.b.o,.slice Aw y.x.ws.length cw,.slice Al M cl] 264);obtain⟨W2,a3⟩:=nm' (wr.alloc (.cells #[.i y.x.h,.i y.x.b.a,.i y.x.b.o,.slice Aw y.x.ws.length cw,.slice Al M cl] 264));rw[a3]at o1 a0;have z2:=kp o1;have g2:=kp (I.o.on a0);have d5:=kp a0;have C1:=kp (show B≤wr.heap.size from aB X.o I.o.size);clear o1 a0;have q2:W2.cell? ⟨w.heap.size,2,none⟩=some (.i p.x.next):=(d5.o.cell HI.o.blk.lt).trans HI.o.c2;have Y:=z2.o.c0;rcases (show (y.x.h≤L)∨(L<y.x.h∧p.x.next≤y.x.h)∨(L<y.x.h∧y.x.h<p.x.next) by omega) with h1|⟨h1,h2⟩|⟨h1,h2⟩
   .obtain rfl:r=false:=by
     rw[←V.o];refine tS.2 fun h=>?_;rcases HU.o with h0|⟨z,s,G6⟩
     .have:=(gE.1 h).rise.1 _ a4.o; omega
     .have hr:=(gE.1 h).rise.2;rw[←tM k p.x.obs,rP]at hr;have:=hr.2.2 z s _ C9.o;omega
    go_wp2_with fail;go_ret;exact⟨rfl,Q.o.trans (g2.o.mono R.o)⟩
   .obtain rfl:r=false:=by
     rw[←V.o];exact tS.2 fun h=>by have:=((gE.1 h).rise.1 _ a4.o).2; omega
    go_wp2_with fail;go_ret;exact⟨rfl,Q.o.trans (g2.o.mono R.o)⟩
   .have j8:=k'2 h1 h2;go_wp2_with fail;go_roundw
    case rel=>exact⟨k+1,by omega,by go_num,⟨y.x.h,rfl,by rw[HT.o]; exact HS.o.snoc j8.a j8.B,.inr ⟨y.x,by rw[HT.o]; simp,rfl⟩⟩,g2.o⟩
    case measure=>simp[intOf]; omega
  .obtain rfl:n=k:=by omega
   have l8:=kp (show sS p.x.next p.x.obs L by have:=HS.o; rwa [eF (by have:=HL.B; omega)]at this);have a9:=T.o.below I.o X.o;have b9:B≤wr.heap.size:=aB X.o I.o.size;have y3:=kp (fam'3.2.1 p.fv p.x.free B wr a9.2.2 b9 e3);have d7:=HI.o.c7;clear a9 b9 z6;go_wp2_with fail;refine y3.o.mono ?_;rintro e w5 ⟨v5,rfl,q9,m0⟩;have D1:=kp (show Ow w5 W.heap.size 262 2 v5 Bk.cells p.x.free from Dz q9 I.o.size);have y':=kp (I.o.on m0);have C6:=kp (HI.o.below m0);clear q9 m0 d7;have d1:=C6.o.c1;rw[g4.o]at d1;go_wp2_with fail
   go_loopw [6,7,61] (fun v6 v7 i wr=>∃k:Nat,k≤n∧i=.i k∧(Ow wr W.heap.size 3 1 v6 i1 (lR (p.x.obs.take k))∧(lR (p.x.obs.take k)).length≤16*k)∧Ow wr W.heap.size 262 2 v7 Bk.cells (p.x.free++(p.x.obs.take k).map (·.b))∧(∀y∈p.x.obs.take k,obM p.x.order y=true)∧Bw' W wr) (fun _ _ i _=>n-(intOf i).toNat)
   case atStart=>exact⟨0,by omega,rfl,⟨Ow.nil _ _ _ _ _,by simp[lR]⟩,by simpa using D1.o,by simp,y'.o⟩
   case round=>
    obtain⟨k,hk,rfl,⟨h6,p8⟩,h7,m1,d0⟩:=hrel;have H6:=k'2 h6 p8;have H7:=kp h7;have g8:=kp m1;have I:=kp d0;have HI:=kp (HH.o.below d0);clear h6 p8 h7 m1 d0 d1
    by_cases z6:k<n
    .have g3:(k:Int)<(n:Int):=by omega
     have g:k<f.length:=by have:=HL.o; omega
     have b1:=T.o.below I.o X.o;obtain⟨Aw,cw,Al,cl,o0,U,m3,d3,j1⟩:=Ay b1.1 k g;obtain⟨A',c',l3,hr,_,_⟩:=b1.1.1;obtain rfl:A'=A:=by have:=g4.o; rw[l3]at this; injection this
     obtain⟨b,O,hA,g9,D,_⟩:=dS (P:=prog) 5 eV (by omega) hr k g;subst hA;have x0:wr.cell? ⟨b,O+k*5+0,none⟩=some (.i f[k].x.h):=D 0 _ rfl;have x1:wr.cell? ⟨b,O+k*5+1,none⟩=some (.i f[k].x.b.a):=D 1 _ rfl;have x2:wr.cell? ⟨b,O+k*5+2,none⟩=some (.i f[k].x.b.o):=D 2 _ rfl;have x3:wr.cell? ⟨b,O+k*5+3,none⟩=some f[k].wv:=D 3 _ rfl;have x4:wr.cell? ⟨b,O+k*5+4,none⟩=some f[k].lv:=D 4 _ rfl;simp only[dW]at x0;have HT:=kp (show p.x.obs.take (k+1)=p.x.obs.take k++[f[k].x] by
      have ho:=T.b;rw[ho,fE (by simpa using g),pQ])
     clear D hr l3 b1;have D4:=kp (T.a.2 _ (cU g)).2;have a4:=kp (show f[k].x∈p.x.obs by rw[T.b]; exact cP.2 ⟨_,cU g,rfl⟩);generalize f[k]'g=y at *;obtain⟨M,l1⟩:=nm' y.x.ls.length;rw[l1]at U j1;have l5:=kp l1; clear l1;have E8:y.x.ws.length≤9223372036854775807:=by unfold maxLen at d3; omega
     have E7:M≤9223372036854775807:=by unfold maxLen at j1; omega
     clear d3 j1;rw[o0]at x3;rw[U]at x4;have D2:=kp m3; clear m3;have o1:gH (wr.alloc (.cells #[.i y.x.h,.i y.x.b.a,.i y.x.b.o,.slice Aw y.x.ws.length cw,.slice Al M cl] 264)) wr.heap.size 264 y:=.of (by
      have:=Blk.new wr 264 y.cells;unfold ObV.cells at this;rw[o0,U]at this;unfold ObV.cells;rw[o0,U];exact this)
     have a0:=ba' wr (.cells #[.i y.x.h,.i y.x.b.a,.i y.x.b.o,.slice Aw y.x.ws.length cw,.slice Al M cl] 264);obtain⟨W2,a3⟩:=nm' (wr.alloc (.cells #[.i y.x.h,.i y.x.b.a,.i y.x.b.o,.slice Aw y.x.ws.length cw,.slice Al M cl] 264));rw[a3]at o1 a0;have z2:=kp o1;have g2:=kp (I.o.on a0);have d5:=kp a0;have C1:=kp (show B≤wr.heap.size from aB X.o I.o.size);clear o1 a0;have y5:=H6.a.alloc (.cells #[.i y.x.h,.i y.x.b.a,.i y.x.b.o,.slice Aw y.x.ws.length cw,.slice Al M cl] 264);have b6:=H7.o.alloc (.cells #[.i y.x.h,.i y.x.b.a,.i y.x.b.o,.slice Aw y.x.ws.length cw,.slice Al M cl] 264);rw[a3]at y5 b6;have y1:=z2.o.c1;have y2:=z2.o.c2;obtain⟨W3,d9⟩:=nm' (W2.alloc (.cells #[.i y.x.b.a,.i y.x.b.o] 262));have b3:=ba' W2 (.cells #[.i y.x.b.a,.i y.x.b.o] 262);have o4:=Blk.new W2 262 y.x.b.cells;unfold Bk.cells at o4;have z5:=y5.alloc (.cells #[.i y.x.b.a,.i y.x.b.o] 262);have d6:=b6.alloc (.cells #[.i y.x.b.a,.i y.x.b.o] 262);rw[d9]at b3 o4 z5 d6;have p5:=kp (z2.o.below b3);have z3:=kp o4;have y7:=kp (d5.o.on b3);have j2:=kp (g2.o.on b3);have C5:=kp (HI.o.below y7.o);have e':=kp z5;have m':=kp d6;clear b3 o4 y5 b6 z5 d6;go_wp2_with fail;clear x0 x1 x2 x3 x4 a3 d9 y1 y2;have Y:=bG (z3.o.cell 0);have f1:=bG (z3.o.cell 1);have f3:=p5.o.c3;rw[o0]at f3;have f3:=bG f3;have Z:=p5.o.c4;rw[U]at Z;have Z:=bG Z;have f5:=bG C5.o.c0;obtain⟨z,s⟩:=nm' (cQ y.x.ws.length M);have HZ:=kp s; clear s;have G2:(z != y.x.b.o)=true∨(z=y.x.b.o∧aG y.x.b.o 0 p.x.order=false)∨(z=y.x.b.o∧aG y.x.b.o 0 p.x.order=true∧aG y.x.b.a 0 (aU p.x.order)=false)∨
       (z=y.x.b.o∧aG y.x.b.o 0 p.x.order=true∧aG y.x.b.a 0 (aU p.x.order)=true∧¬y.x.b.a % aU y.x.b.o=0)∨(z=y.x.b.o∧aG y.x.b.o 0 p.x.order=true∧aG y.x.b.a 0 (aU p.x.order)=true∧y.x.b.a % aU y.x.b.o=0):=by
      by_cases h:z=y.x.b.o
      .cases aG y.x.b.o 0 p.x.order
       .exact .inr (.inl ⟨h,rfl⟩)
       .cases aG y.x.b.a 0 (aU p.x.order)
        .exact .inr (.inr (.inl ⟨h,rfl,rfl⟩))
        .by_cases h2:y.x.b.a % aU y.x.b.o=0
         .exact .inr (.inr (.inr (.inr ⟨h,rfl,rfl,h2⟩)))
         .exact .inr (.inr (.inr (.inl ⟨h,rfl,rfl,h2⟩)))
      .exact .inl (by simpa using h)
     have e4:=kp (show obM p.x.order y.x=false→cR p.x=false from fun ho=>by
      refine tS.2 fun h=>?_;have he:=(gE.1 h).each _ a4.o;have:=On HO.a (show obB p.x.order y.x=true by unfold obB; rw[bH,bR]; exact he);rw[ho]at this
      cases this)
     have l2:=kp (show ∀w,Calls prog 220 #[.i y.x.ws.length,.i M] w (fun e d=>e=.returned (.i z)∧d=w) from fun w=>by rw[←HZ.o]; exact Ax _ _ _);rcases G2 with K|⟨K,F⟩|⟨K,F,J⟩|⟨K,F,J,g0⟩|⟨K,F,J,g0⟩
     .obtain rfl:r=false:=by
       rw[←V.o];exact e4.o (by unfold obM; rw[l5.o,HZ.o,dR (by simpa using K)]; rfl)
      refine cX (by kernel_rfl) (by kernel_rfl) ?_
      repeat (go_big_quiet_step ((go_at_call 220; with_reducible refine dP (l2.o _))))
      refine cI ?_;rintro W4 ⟨⟨_,l⟩,rfl⟩;have e0:=kp (j2.o.on l);clear l Y f1 f3 Z f5;go_wp2_with fail;go_ret;exact⟨rfl,Q.o.trans (e0.o.mono R.o)⟩
     .have e1:(z != y.x.b.o)=false:=by simp[K]
      have a1:=kp (show ∀w,Calls prog 217 #[.i y.x.b.o,.i 0,.i p.x.order] w (fun e d=>e=.returned (.bool false)∧d=w) from fun w=>by rw[←F]; exact cK.2.2.2.2 _ _ _ _);obtain rfl:r=false:=by
       rw[←V.o];exact e4.o (by unfold obM; rw[F]; simp)
      clear K F;refine cX (by kernel_rfl) (by kernel_rfl) ?_
      repeat (go_big_quiet_step (first |(go_at_call 220; with_reducible refine dP (l2.o _))|(go_at_call 217; with_reducible refine dP (a1.o _))))
      refine cI ?_;rintro W4 ⟨⟨_,l⟩,rfl⟩;have e0:=kp (j2.o.on l);clear l Y f1 f3 Z f5;go_wp2_with fail;go_ret;exact⟨rfl,Q.o.trans (e0.o.mono R.o)⟩
     .have e1:(z != y.x.b.o)=false:=by simp[K]
      have a1:=kp (show ∀w,Calls prog 217 #[.i y.x.b.o,.i 0,.i p.x.order] w (fun e d=>e=.returned (.bool true)∧d=w) from fun w=>by rw[←F]; exact cK.2.2.2.2 _ _ _ _);have m2:=kp (show ∀w,Calls prog 217 #[.i y.x.b.a,.i 0,.i (aU p.x.order)] w (fun e d=>e=.returned (.bool false)∧d=w) from fun w=>by rw[←J]; exact cK.2.2.2.2 _ _ _ _);obtain rfl:r=false:=by
       rw[←V.o];exact e4.o (by unfold obM; rw[J]; simp)
      clear K F J;refine cX (by kernel_rfl) (by kernel_rfl) ?_
      repeat (go_big_quiet_step (first |(go_at_call 220; with_reducible refine dP (l2.o _))|(go_at_call 217; with_reducible refine dP (a1.o _))|(go_at_call 217; with_reducible refine dP (m2.o _))|(go_at_call 218; with_reducible refine dP (iL _ _))))
      refine cI ?_;rintro W4 ⟨⟨_,l⟩,rfl⟩;have e0:=kp (j2.o.on l);clear l Y f1 f3 Z f5;go_wp2_with fail;go_ret;exact⟨rfl,Q.o.trans (e0.o.mono R.o)⟩
     .have e1:(z != y.x.b.o)=false:=by simp[K]
      have a1:=kp (show ∀w,Calls prog 217 #[.i y.x.b.o,.i 0,.i p.x.order] w (fun e d=>e=.returned (.bool true)∧d=w) from fun w=>by rw[←F]; exact cK.2.2.2.2 _ _ _ _);have m2:=kp (show ∀w,Calls prog 217 #[.i y.x.b.a,.i 0,.i (aU p.x.order)] w (fun e d=>e=.returned (.bool true)∧d=w) from fun w=>by rw[←J]; exact cK.2.2.2.2 _ _ _ _);obtain⟨wz,p0⟩:=nm' (aU y.x.b.o);have h8:=fB HO.a;have E9:0≤y.x.b.o∧y.x.b.o≤p.x.order:=by unfold aG at F; simpa using F
      have l6:0≤y.x.b.a∧y.x.b.a≤aU p.x.order:=by unfold aG at J; simpa using J
      have w1:=zS (o:=y.x.b.o) (by omega) (by omega);have w2:=fX y.x.b.o;have w3:=fX p.x.order;rw[p0]at w1 w2 g0;have ht:y.x.b.a.tmod wz=y.x.b.a % wz:=Mb l6.1;have o5:=kp (show ∀w,Calls prog 218 #[.i p.x.order] w (fun e d=>e=.returned (.i (aU p.x.order))∧d=w) from fun w=>iL _ _);have m5:=kp (show ∀w,Calls prog 218 #[.i y.x.b.o] w (fun e d=>e=.returned (.i wz)∧d=w) from fun w=>by rw[←p0]; exact iL _ _);have e2:(y.x.b.a % wz != 0)=true:=by simpa using g0
      obtain rfl:r=false:=by
       rw[←V.o];exact e4.o (by unfold obM; rw[p0,dR g0]; simp)
      clear K F J g0 p0;refine cX (by kernel_rfl) (by kernel_rfl) ?_
      repeat (go_big_quiet_step (first |(go_at_call 220; with_reducible refine dP (l2.o _))|(go_at_call 217; with_reducible refine dP (a1.o _))|(go_at_call 217; with_reducible refine dP (m2.o _))|(go_at_call 218; with_reducible refine dP (m5.o _))|(go_at_call 218; with_reducible refine dP (o5.o _))))
      refine cI ?_;rintro W4 ⟨⟨_,l⟩,rfl⟩;have e0:=kp (j2.o.on l);clear l Y f1 f3 Z f5;go_wp2_with fail;go_ret;exact⟨rfl,Q.o.trans (e0.o.mono R.o)⟩
     .have e1:(z != y.x.b.o)=false:=by simp[K]
      have a1:=kp (show ∀w,Calls prog 217 #[.i y.x.b.o,.i 0,.i p.x.order] w (fun e d=>e=.returned (.bool true)∧d=w) from fun w=>by rw[←F]; exact cK.2.2.2.2 _ _ _ _);have m2:=kp (show ∀w,Calls prog 217 #[.i y.x.b.a,.i 0,.i (aU p.x.order)] w (fun e d=>e=.returned (.bool true)∧d=w) from fun w=>by rw[←J]; exact cK.2.2.2.2 _ _ _ _);have j4:=kp (show obM p.x.order y.x=true by unfold obM; rw[l5.o,HZ.o,F,J,fA g0,fA K]; rfl);obtain⟨wz,p0⟩:=nm' (aU y.x.b.o);have h8:=fB HO.a;have E9:0≤y.x.b.o∧y.x.b.o≤p.x.order:=by unfold aG at F; simpa using F
      have l6:0≤y.x.b.a∧y.x.b.a≤aU p.x.order:=by unfold aG at J; simpa using J
      have w1:=zS (o:=y.x.b.o) (by omega) (by omega);have w2:=fX y.x.b.o;have w3:=fX p.x.order;rw[p0]at w1 w2 g0;have ht:y.x.b.a.tmod wz=y.x.b.a % wz:=Mb l6.1;have o5:=kp (show ∀w,Calls prog 218 #[.i p.x.order] w (fun e d=>e=.returned (.i (aU p.x.order))∧d=w) from fun w=>iL _ _);have m5:=kp (show ∀w,Calls prog 218 #[.i y.x.b.o] w (fun e d=>e=.returned (.i wz)∧d=w) from fun w=>by rw[←p0]; exact iL _ _);have e2:(y.x.b.a % wz != 0)=false:=by simpa using g0
      clear K F J g0 p0;refine cX (by kernel_rfl) (by kernel_rfl) ?_
      repeat (go_big_quiet_step (first |(go_at_call 220; with_reducible refine dP (l2.o _))|(go_at_call 217; with_reducible refine dP (a1.o _))|(go_at_call 217; with_reducible refine dP (m2.o _))|(go_at_call 218; with_reducible refine dP (m5.o _))|(go_at_call 218; with_reducible refine dP (o5.o _))))
      refine cI ?_;rintro W4 ⟨⟨_,l⟩,rfl⟩;have e0:=kp (j2.o.on l);have E1:=kp (p5.o.below l);have y6:=z3.o.below l z3.o.lt;have C2:=kp (y7.o.on l);have o8:=e'.o.below l;have q8:=m'.o.below l;clear l Y f1 f3 Z f5 e1 e2 ht w1 w2 w3;have Y:=y6.cell 0;have f1:=y6.cell 1;simp only[aP,aZ]at Y f1;obtain⟨W5,j6⟩:=nm' (W4.alloc (.cells #[.i y.x.b.a,.i y.x.b.o] 262));have l7:Sl (W4.alloc (.cells #[.i y.x.b.a,.i y.x.b.o] 262)) (W4.heap.size+1) (.slice (some ⟨W4.heap.size,0,none⟩) 1 1) Bk.cells [y.x.b]:=gG (enc:=Bk.cells) W4 262 y.x.b;have a6:=o8.alloc (.cells #[.i y.x.b.a,.i y.x.b.o] 262);have e6:=q8.alloc (.cells #[.i y.x.b.a,.i y.x.b.o] 262);have m0:=ba' W4 (.cells #[.i y.x.b.a,.i y.x.b.o] 262);rw[j6]at l7 a6 e6 m0;have E3:=kp l7;have g':=kp a6;have o3:=kp e6;have a5:=kp (e0.o.on m0);have m8:=kp (E1.o.blk.alloc (.cells #[.i y.x.b.a,.i y.x.b.o] 262));rw[j6]at m8;have G3:=kp (C2.o.on m0);clear y6 o8 q8 l7 a6 e6 m0;have m9:((p.x.free++(p.x.obs.take k).map (·.b)).length:Nat)≤1000000:=by
       rw[bF,dD,cL];omega
      have a8:=kp m9; clear m9;go_wp2_with (at_builtin; refine uP (enc:=Bk.cells) W5 rfl (.tmp 103) (.tmp 105) 38 rfl W.heap.size 262 nY iH rfl (by omega) cO o3.o rfl E3.o rfl (fun a _=>lJ a) ?_ ?_ a5.o.size ?_)
      .have:=a8.o; unfold maxLen; simp only[eS,nL]; omega
      .have:=a8.o; simp only[eS,nL]; omega
      intro v8 W6 y8 m4;have p3:=kp (a5.o.trans (o3.o.grew m4 a5.o.size));have y4:=kp (o3.o.other g'.o (by decide) m4);have E2:=kp (m8.o.grew o3.o (by decide) m4);have o':=kp y8;have D6:=kp (show Sl W6 B (.slice Al M cl) i1 y.x.ls from U▸D4.o.below p3.o X.o);clear y8 m4 j6 Y f1;have Z:=(gH.of E2.o).c4;rw[U]at Z;go_wp2_with (at_builtin; refine uP (enc:=i1) W6 rfl (.tmp 107) (.tmp 109) 44 rfl W.heap.size 3 xA rY rfl (by omega) eG y4.o rfl D6.o rfl (fun a _=>zT a) ?_ ?_ p3.o.size ?_)
      .have h1:=H6.B; have h2:=Bj j4.o; unfold maxLen; omega
      .have h1:=H6.B; have h2:=Bj j4.o; omega
      intro v9 W7 z8 p6;have z':=kp (p3.o.trans (y4.o.grew p6 p3.o.size));have p':=kp (y4.o.other o'.o (by decide) p6);have q':=kp z8;clear z8 p6 Z;go_wp2_with fail;go_roundw
      case rel=>
       refine⟨k+1,by omega,by go_num,⟨by rw[HT.o,Hi]; exact q'.o,?_⟩,p'.o.eqv (by rw[HT.o,fW,List.map_take]; simp),fun z s=>?_,z'.o⟩
       .rw[HT.o,Hi,bF];have h1:=H6.B; have h2:=Bj j4.o;omega
       .rw[HT.o]at s;rcases cV.1 s with s|s
        .exact g8.o z s
        .rw[bZ.1 s]; exact j4.o
      case measure=>simp[intOf]; omega
    .obtain rfl:n=k:=by omega
     have a':p.x.obs.take n=p.x.obs:=eF (by have:=HL.B; omega);have h6:=H6.o;have h7:=H7.o;have m1:=g8.o;rw[a']at h6 h7 m1;obtain⟨N,hN⟩:=nm' ((lO p.x).length);have G4:N≤901000:=by rw[←hN]; unfold lO; rw[bF,dD,HL.B]; omega
     have m7:=k'2 h6.1 (show (lR p.x.obs).length≤1000000 by omega);have z4:=kp (h7.eqv (l':=lO p.x) rfl);have e8:=kp (show p.x.obs.all (obM p.x.order)=true from mL.2 m1);have D3:=kp (show ∀x∈lO p.x,0≤x.o∧x.o≤8 from fun x hx=>by
      have h8:=fB HO.a;rcases cV.1 hx with hx|hx
      .have:=gU HO.a (HO.b x hx); omega
      .obtain⟨y,hy,rfl⟩:=cP.1 hx;have:=m1 y hy;unfold obM aG at this;simp only[bH,bR]at this;omega)
     have D0:=kp hN;have D7:=kp (Gk 222 (enters_of func222 (by kernel_rfl) rfl) Rt _ (lO p.x) W.heap.size wr z4.o I.o.size (by omega));clear h6 h7 m1 a' hN;go_wp2_with fail;refine D7.o.mono ?_;rintro e w8 ⟨rfl,m,q4,z9,o9,q6⟩;have p7:=kp (I.o.trans (z4.o.grew q6 I.o.size));have j':=kp (z4.o.other m7.a (by decide) q6);have l4:=k'2 q4 z9;have a7:m.length=N:=by rw[←q4.length_eq]; exact D0.o
     have q5:=kp a7;have d4:=kp (show ∀x∈m,0≤x.o∧x.o≤8 from fun x hx=>D3.o x (q4.mem_iff.2 hx));obtain⟨A7,c7,b',y9,E6,_⟩:=o9.sl cO;rw[a7]at b' E6;have C8:=kp y9;clear q4 z9 o9 q6 a7 y9;have g1:N≤9223372036854775807:=by omega
     subst b';go_wp2_with fail
     go_loopw [11,116] (fun e i wr=>∃k:Nat,k≤N∧i=.i k∧(∃E,e=.i E∧E=bV (m.take k))∧iN 0 (m.take k)=true∧Bw' w8 wr) (fun _ i _=>N-(intOf i).toNat)
     case atStart=>exact⟨0,by omega,rfl,⟨0,rfl,rfl⟩,rfl,aH _ _⟩
     case round=>
      obtain⟨k,hk,rfl,⟨E,rfl,hE⟩,b2,d0⟩:=hrel;have HE:=kp hE;have g5:=kp b2;have q3:=kp d0;have E5:=Ew (m.take k) fun y hy=>(d4.o y (rI hy)).2;rw[←hE,cL,q5.o,nO hk]at E5;clear hE b2 d0
      by_cases z6:k<N
      .have g3:(k:Int)<(N:Int):=by omega
       have g:k<m.length:=by have:=q5.o; omega
       obtain⟨b,O,hA,g9,D,_⟩:=dS (P:=prog) 2 cO (by omega) (C8.o.below q3.o (aN _)) k g;subst hA;have x0:wr.cell? ⟨b,O+k*2+0,none⟩=some (.i m[k].a):=D 0 _ rfl;have x1:wr.cell? ⟨b,O+k*2+1,none⟩=some (.i m[k].o):=D 1 _ rfl;simp only[dW]at x0;have e7:=d4.o _ (cU g);have m6:=Bl (m.take k) 0 m[k] (m.drop (k+1)) (fun y hy=>d4.o y (rI hy)) g5.o;rw[←iF g,tM,Int.zero_add,←HE.o]at m6;have o6:=Bl (m.take k) 0 m[k] [] (fun y hy=>d4.o y (rI hy)) g5.o;rw[←fE g,Int.zero_add,←HE.o]at o6;have d':bV (m.take (k+1))=E+aW m[k].o:=by rw[fE g,Oe,HE.o]
       have HD:=k'3 m6 o6 d';have j7:=fJ e7.1 e7.2;have G1:=fX m[k].o;clear D m6 o6 d';generalize m[k]'g=y at *;obtain⟨z,s⟩:=nm' (aU y.o);rw[s]at j7 G1;have p2:=kp (show ∀w,Calls prog 218 #[.i y.o] w (fun e d=>e=.returned (.i z)∧d=w) from fun w=>by rw[←s]; exact iL _ _);have D5:=kp j7;clear s j7 e7;have j3:=Blk.new wr 262 [.i y.a,.i y.o];have b7:=ba' wr (.cells #[.i y.a,.i y.o] 262);obtain⟨W9,e9⟩:=nm' (wr.alloc (.cells #[.i y.a,.i y.o] 262));have j3:Blk W9 wr.heap.size 262 [.i y.a,.i y.o]:=e9▸j3;rw[e9]at b7;have d8:=kp (q3.o.on b7);have Y:=j3.cell 0;have f1:=j3.cell 1;simp only[aP,aZ]at Y f1;clear j3 b7
       by_cases d2:y.a=E
       .have e1:(y.a != E)=false:=by simp[d2]
        have E4:=kp d2;clear d2;go_wp2_with fail;refine (p2.o _).mono ?_;rintro e d ⟨rfl,rfl⟩;go_wp2_with fail;go_roundw
        case rel=>
         refine⟨k+1,by omega,by go_num,⟨E+z,by go_num,by rw[HD.C,D5.o]⟩,?_,d8.o⟩;rw[HD.b,E4.o];simp[iN]
        case measure=>simp[intOf]; omega
       .have e1:(y.a != E)=true:=by simpa using d2
        obtain rfl:r=false:=by
         rw[←V.o];refine Rx HF.o e8.o l4.a l4.B ?_;rw[HD.a,dR d2];rfl
        clear d2;go_wp2_with fail;go_ret;exact⟨rfl,Q.o.trans ((p7.o.on d8.o).mono R.o)⟩
      .obtain rfl:N=k:=by omega
       have p9:m.take N=m:=eF (by have:=q5.o; omega);have hE:=HE.o;have b2:=g5.o;rw[p9]at hE b2;have b0:=Rv (h:=p.x) (m:=m) (L:=L) HF.o HN.o (by rw[HL.B]; omega) l8.o e8.o l4.a l4.B b2;rw[V.o,←hE]at b0;have C3:=kp b0;have z1:=kp (p7.o.on q3.o);have j5:=kp (HH.o.below z1.o);have o7:=kp (T.o.below z1.o X.o);have g6:B≤wr.heap.size:=aB X.o z1.o.size;have C7:=kp (show iA (fun p:ObV=>p.x.h) f from Hh _ _ (by
        have:=l8.o.rise;rw[T.b,Dp]at this;exact this))
       have y3:=kp (show ∀(t:Int)(W':World),Bw' wr W'→Calls prog 223 (#[.i t]++#[.pointer (some ⟨w.heap.size,0,none⟩)]) W' fun e d=>e=.returned (.bool (!eI p.x.obs t))∧Bw' W' d from fun t W' l0=>by
        have:=Ru w.heap.size p f t B W' (j5.o.below l0) (o7.a.1.below l0 g6) (aB g6 l0.size) (by have:=HL.a; omega) C7.o;rw[←o7.b]at this;exact this)
       have z7:=kp (uO.1 _ (lR p.x.obs) (fun t=> !eI p.x.obs t) 223 #[.pointer (some ⟨w.heap.size,0,none⟩)] wr.heap.size wr ((j'.o.below q3.o).sl eG) (aN _) m7.B (enters_of func223 (by kernel_rfl) rfl) (fun W' t _ l0=>y3.o t W' l0));have D9:=kp (show ∀W',Bw' wr W'→Calls prog 225 #[.slice (some ⟨w.heap.size,3,none⟩) 4 4,.func (.func 223) #[] #[.pointer (some ⟨w.heap.size,0,none⟩)]] W' (fun e d=>e=.returned (.bool (p.x.tops.any fun t=> !eI p.x.obs t))∧Bw' W' d) from fun W' l0=>by
        have hI:=j5.o.below l0;refine uO.1 (.slice (some ⟨w.heap.size,3,none⟩) 4 4) p.x.tops (fun t=> !eI p.x.obs t) 223 #[.pointer (some ⟨w.heap.size,0,none⟩)] W'.heap.size W' ⟨_,_,rfl,.inr ⟨_,_,rfl,hI.blk.lt,fun j u hu=>?_⟩,by show 4≤4; omega,by unfold maxLen; omega⟩ (aN _) (by show 4≤1000000; omega) (enters_of func223 (by kernel_rfl) rfl) (fun W2 t _ a0=>y3.o t W2 (l0.on a0));rw[oO]at hu
        match j,hu with
        |0,hu=>cases hu; exact hI.c3
        |1,hu=>cases hu; exact hI.c4
        |2,hu=>cases hu; exact hI.c5
        |3,hu=>cases hu; exact hI.c6)
       have q0:=j5.o.c0;obtain⟨z,s⟩:=nm' (aU p.x.order);rw[s]at b0;have p2:=kp (show ∀w,Calls prog 218 #[.i p.x.order] w (fun e d=>e=.returned (.i z)∧d=w) from fun w=>by rw[←s]; exact iL _ _);have hd:(E != z)= !decide (E=z):=by rw[rO]; simp
       clear hE b2 s g6 C3 p9
       cases hc1:decide (E=z)
       .rw[hc1]at hd b0;obtain rfl:r=false:=b0;clear hc1;go_wp2_with fail;refine (p2.o _).mono ?_;rintro e d ⟨rfl,rfl⟩;go_wp2_with fail;go_ret;exact⟨rfl,Q.o.trans (z1.o.mono R.o)⟩
       .rw[hc1,kU]at b0;rw[hc1]at hd;clear hc1
        cases hc2:(lR p.x.obs).any fun t=> !eI p.x.obs t
        .rw[hc2]at b0;have e5:=kp (hc2▸z7.o);clear hc2
         cases hc3:p.x.tops.any fun t=> !eI p.x.obs t
         all_goals
          rw[hc3]at b0;have E0:=kp (hc3▸D9.o);subst b0;clear hc3;go_wp2_with fail;refine (p2.o _).mono ?_;rintro e d ⟨rfl,rfl⟩;go_wp2_with fail;refine mb' e5.o fun wa a2=>?_;have b5:=kp (z1.o.on a2);have D8:=kp (E0.o wa a2);clear a2 q0;go_wp2_with fail;refine mb' D8.o fun wb j9=>?_;have C0:=kp (b5.o.on j9);clear j9;go_wp2_with fail;go_ret;exact⟨rfl,Q.o.trans (C0.o.mono R.o)⟩
        .rw[hc2]at b0;have e5:=kp (hc2▸z7.o);obtain rfl:r=false:=b0;clear hc2;go_wp2_with fail;refine (p2.o _).mono ?_;rintro e d ⟨rfl,rfl⟩;go_wp2_with fail;refine mb' e5.o fun wa a2=>?_;have b5:=kp (z1.o.on a2);clear a2 q0;go_wp2_with fail;go_ret;exact⟨rfl,Q.o.trans (b5.o.mono R.o)⟩
end
end Go.Proofs.YtoncgpddjmgbfaaGreat
