import Derived.Test.YthalbagblhkeaaaGreatZ04
namespace Go.Proofs.YthalbagblhkeaaaGreat
open Go.RowKit Go.Proofs.Tryz
set_option maxRecDepth 100000
set_option maxHeartbeats 12800000
set_option linter.unusedVariables false
set_option linter.unusedSimpArgs false
section
theorem Jg{α:Type}(a:α→Int):∀(l:List α),l.Pairwise (fun x y=>a x<a y)→iL a l
 |[],_=>trivial
 |_::l,h=>⟨(eE.1 h).1,Jg a l (eE.1 h).2⟩
theorem Ua(w:World)(a b:Obj):∃q c,(w.alloc a).alloc b=Go.Sort.grow (w.drewN q) c:=⟨0,_,by rw[Go.Sort.alloc_eq_grow,Go.Sort.alloc_eq_grow,Go.Sort.grow_grow]; rfl⟩
theorem Ub(x y:Bk)(W:World):Calls prog 204 #[.agg x.cells.toArray,.agg y.cells.toArray] W fun e f=>e=.returned (.i (oR x y))∧∃q d,f=Go.Sort.grow (W.drewN q) d:=by
 have b:=kp (Ua W (.cells #[.i x.a,.i x.o] 150) (.cells #[.i y.a,.i y.o] 150));unfold oR;change Calls _ _ #[.agg #[.i x.a,.i x.o],.agg #[.i y.a,.i y.o]] W _;obtain⟨g,c,h,i,j,k,_⟩:=xB W x y 150;subst c;go_enter func204,ntmps204;go_wp2_with fail;refine ms' (tJ x.a y.a _) ?_;go_wp2_with fail;go_ret;exact⟨rfl,b.o⟩
theorem Uc(g:Nat)(p:HpV)(ps:List ObV)(t:Int)(B:Nat)(W:World)(a:cI W g 29 p)(b:Sl W B p.ov ObV.cells ps)(i:B≤W.heap.size)(j:ps.length≤1000000)(k:iL (fun p:ObV=>p.x.h) ps):
  Calls prog 205 #[.i t,.pointer (some ⟨g,0,none⟩)] W fun e l=>e=.returned (.bool (!dS (ps.map (·.x)) t))∧Bw' W l:=by
 have f:=kp (Id p.ov ps t B W b i j k);have m:=a.c1;clear a b;generalize dS (ps.map (·.x)) t=y at *;go_enter func205,ntmps205;go_wp2_with fail;refine mb' f.o fun n c=>?_;have d:=kp c; clear c;go_wp2_with fail;go_ret;exact⟨rfl,d.o⟩
structure tR(next:Int)(l:List Ob)(L:Int):Prop where
 zero:0≤L
 le:∀y∈l,0<y.h∧y.h≤L∧y.h<next
 rise:l.Pairwise (fun x y=>x.h<y.h)
theorem tR.snoc{next L:Int}{l:List Ob}{y:Ob}(s:tR next l L)(c:L<y.h)(d:y.h<next):tR next (l++[y]) y.h:=by
 refine⟨by have:=s.zero; omega,fun z a=>?_,?_⟩
 .rcases dF.1 a with a|a
  .have:=s.le z a; omega
  .rw[bQ.1 a]; have:=s.zero; omega
 .rw[pB];exact⟨s.rise,by simp,fun z a u b=>by rw[bQ.1 b]; have:=s.le z a; omega⟩
theorem Blk.grew{α:Type}{enc:α→List Value}{w d:World}{base k g:Nat}{t a:TypeId}{v:Value}{l:List α}{b:List Value}(h:Blk w g a b)(n:Ow w base t k v enc l)(o:t≠a)(m:w.grownBy d v.ownBlock):Blk d g a b:=by
 refine (m.block g h.lt fun j=>?_).trans h;obtain⟨c1,p,i⟩:=Lib.ownsRow_kind n g j.symm;have c:w.heap[g]? =_:=h;rw[i]at c;injection c with e
 injection e with _ f
 exact o f
def mB(l:List Ob):List Int:=(l.map (·.ls)).flatten
theorem Jh(l:List Ob)(y:Ob):mB (l++[y])=mB l++y.ls:=by simp[mB]
theorem Ud{h:Hp}{m:List Bk}{L:Int}(f:gL h.order h.free=true)(k:aF h.next 1 1000001=true)(j:(h.obs.length:Int)≤256)(d:tR h.next h.obs L)(l:h.obs.all (obM h.order)=true)(n:(lX h).Perm m)(p:m.Pairwise (fun x y=>x.a≤y.a))(i:iV 0 m=true):
  cO h=(decide (bW m=aQ h.order)&&(!((mB h.obs).any fun t=> !dS h.obs t)&& !(h.tops.any fun t=> !dS h.obs t))):=by
 have b:=Hc n p f l;rw[i,jF]at b;have o:tH h.next 0 h.obs=true:=(Ce _ _ _).2 ⟨fun x c=>by have:=d.le x c; omega,d.rise⟩;have e1:(!((mB h.obs).any fun t=> !dS h.obs t))=xK h:=by
  unfold xK mB;rw[qQ,pA,pF,nD];constructor
  .intro e x c;rw[nD];intro t b;have:=e t (List.mem_flatten.2 ⟨_,cX.2 ⟨x,c,rfl⟩,b⟩);simpa using this
  .intro e t b;obtain⟨r,d,b⟩:=List.mem_flatten.1 b;obtain⟨x,c,rfl⟩:=cX.1 d;have:=nD.1 (e x c) t b;simpa using this
 have g:(!(h.tops.any fun t=> !dS h.obs t))=h.tops.all (dS h.obs):=by
  rw[qQ,pA,pF,nD];exact forall_congr' fun t=>forall_congr' fun _=>by simp
 rw[e1,g,b];unfold cO;rw[f,k,o,bY j];simp only[jF]
 cases h.obs.all (obB h.order)<;>rfl
theorem Ue{h:Hp}{m:List Bk}(e:gL h.order h.free=true)(f:h.obs.all (obM h.order)=true)(g:(lX h).Perm m)(i:m.Pairwise (fun x y=>x.a≤y.a))(d:iV 0 m=false):cO h=false:=by
 have c:=Hc g i e f;rw[d,Bool.false_and]at c;rw[iG];intro b;unfold cO at b;simp only[bI]at b;rw[b.2.2.2.2.1,b.2.2.2.2.2.1]at c
 cases c
theorem Cy{o:Int}{x:Ob}(h:obM o x=true):x.ls.length≤16∧0≤x.b.o:=by
 unfold obM aF at h;simp only[bI,bP]at h;have:=oP (n:=x.ws.length) (k:=x.ls.length) (by omega);omega
theorem Cz:∀(l:List Bk)(E:Int)(b:Bk)(m:List Bk),(∀x∈l,0≤x.o∧x.o≤8)→iV E l=true→iV E (l++b::m)=(decide (b.a=E+bW l)&&iV (E+bW l+aQ b.o) m)
 |[],E,b,m,_,_=>by
  have e:bW []=0:=rfl;rw[e,Int.add_zero];rfl
 |x::l,E,b,m,c,h=>by
  have d:=c x (by simp);simp only[iV,bI,bP]at h;show (decide (x.a=E)&&iV (E+aQ x.o) (l++b::m))=_;rw[bY h.1,jF,Cz l _ b m (fun y f=>c y (by simp[f])) h.2,iU,fD d.1 d.2,←Ag]
theorem yD(p:HpV)(ps:List ObV)(B:Nat)(w:World)(h:gH w B p ps)(hB:B≤w.heap.size)(hn:ps.length≤1000000)(G4:p.x.free.length≤900000):
  Calls prog 150 #[.agg p.cells.toArray] w fun e d=>e=.returned (.i (eN 1 (cO p.x)))∧Bw' w d:=by
 have d3:p.x.free.length≤1000000:=by omega
 obtain⟨r,e7⟩:=nm' (cO p.x);rw[e7];have U:=kp e7; clear e7;have j9:=Blk.new w 29 p.cells;have G:=ba' w (.cells p.cells.toArray 29);have hW:B≤(w.alloc (.cells p.cells.toArray 29)).heap.size:=by simp; omega
 have hH:=cI.of j9;have S:=kp (h.below G hB);have O:=kp G;have HH:=kp hH;have V:=kp hW;have Q:=kp (show w.heap.size≤(w.alloc (.cells p.cells.toArray 29)).heap.size by simp);obtain⟨n,hl⟩:=nm' ps.length;rw[hl]at hn;have E9:p.x.obs.length=n:=by rw[h.2.1,cW,hl]
 have HL:=k'2 hl E9;obtain⟨A,c,o4,_,_,_⟩:=h.1.1;rw[hl]at o4;have e4:=kp o4;clear h j9 G hW;go_enter func150,ntmps150;go_wp2_with fail;generalize w.alloc (.cells p.cells.toArray 29)=W at *;have q0:=aP hH.c0;have q1:=hH.c1;rw[o4]at q1;have q1:=aP q1;have q2:=aP hH.c2;have q7:=aP hH.c7;have g0:=kp (show ∀q:Blw W,Sl q.w B p.fv Bk.cells p.x.free∧B≤q.w.heap.size from fun q=>⟨Sl.blw q S.C V.o,aB V.o q.size⟩);clear hH hl o4;rcases Ii (!gL p.x.order p.x.free) (!aF p.x.next 1 1000001) (decide (256<(n:Int))) false with F|⟨F,R⟩|⟨F,R,hc⟩|⟨_,_,_,hd⟩|⟨F,R,hc,_⟩
 rotate_left 3
 .cases hd
 rotate_left 1
 .simp only[pA]at F;obtain rfl:r=false:=by rw[←U.o]; exact iG.2 fun h=>by have:=(xR (eC.1 h)).1; rw[F]at this; cases this
  have HF:=kp F;have y0:=kp (show ∀q:Blw W,Calls prog 198 #[.i p.x.order,p.fv] q.w (fun e d=>e=.returned (.i 1)∧Below q.w.heap.size q.w d) from fun q=>by have:=qU p.x.order p.fv B p.x.free q.w (g0.o q).1 (g0.o q).2 d3; rw[HF.o]at this; exact this);clear F;refine bJ (by kernel_rfl) (by kernel_rfl) ?_
  repeat (go_big_quiet_step ((go_at_call 198; with_reducible refine bU (y0.o _))))
  refine bH ?_;rintro W1 ⟨⟨_,G⟩,rfl⟩;have p0:=kp G;clear G q0 q1 q2 q7;go_wp2_with fail;go_ret;exact⟨rfl,O.o.trans (p0.o.mono Q.o)⟩
 .simp only[pA,uE]at F R;obtain rfl:r=false:=by
   rw[←U.o];refine iG.2 fun h=>?_;unfold cO at h;simp only[bI]at h;rw[h.2.1]at R
   cases R
  have HF:=kp F;have y0:=kp (show ∀q:Blw W,Calls prog 198 #[.i p.x.order,p.fv] q.w (fun e d=>e=.returned (.i 0)∧Below q.w.heap.size q.w d) from fun q=>by have:=qU p.x.order p.fv B p.x.free q.w (g0.o q).1 (g0.o q).2 d3; rw[HF.o]at this; exact this);have HN:=kp R;have m2:=kp (show ∀w,Calls prog 199 #[.i p.x.next,.i 1,.i 1000001] w (fun e d=>e=.returned (.bool false)∧d=w) from fun w=>by have:=oK.2.2.2.2 p.x.next 1 1000001 w; rw[HN.o]at this; exact this);clear F R;refine bJ (by kernel_rfl) (by kernel_rfl) ?_
  repeat (go_big_quiet_step (first |(go_at_call 198; with_reducible refine bU (y0.o _))|(go_at_call 199; with_reducible refine dG (m2.o _))))
  refine bH ?_;rintro W1 ⟨⟨_,G⟩,rfl⟩;have p0:=kp G;clear G q0 q1 q2 q7;go_wp2_with fail;go_ret;exact⟨rfl,O.o.trans (p0.o.mono Q.o)⟩
 .simp only[uE,bP]at F R hc;obtain rfl:r=false:=by rw[←U.o]; exact iG.2 fun h=>by have:=(xR (eC.1 h)).2; rw[HL.B]at this; omega
  have HF:=kp F;have y0:=kp (show ∀q:Blw W,Calls prog 198 #[.i p.x.order,p.fv] q.w (fun e d=>e=.returned (.i 0)∧Below q.w.heap.size q.w d) from fun q=>by have:=qU p.x.order p.fv B p.x.free q.w (g0.o q).1 (g0.o q).2 d3; rw[HF.o]at this; exact this);have HN:=kp R;have m2:=kp (show ∀w,Calls prog 199 #[.i p.x.next,.i 1,.i 1000001] w (fun e d=>e=.returned (.bool true)∧d=w) from fun w=>by have:=oK.2.2.2.2 p.x.next 1 1000001 w; rw[HN.o]at this; exact this);clear F R;refine bJ (by kernel_rfl) (by kernel_rfl) ?_
  repeat (go_big_quiet_step (first |(go_at_call 198; with_reducible refine bU (y0.o _))|(go_at_call 199; with_reducible refine dG (m2.o _))|(go_at_call 200; refine dG (v:=.i 256) (iT 8 _))))
  refine bH ?_;rintro W1 ⟨⟨_,G⟩,rfl⟩;have p0:=kp G;clear G q0 q1 q2 q7;go_wp2_with fail;go_ret;exact⟨rfl,O.o.trans (p0.o.mono Q.o)⟩
 simp only[uE,decide_eq_false_iff_not]at F R hc;have HF:=kp F;have HN:=kp R;have y0:=kp (show ∀q:Blw W,Calls prog 198 #[.i p.x.order,p.fv] q.w (fun e d=>e=.returned (.i 0)∧Below q.w.heap.size q.w d) from fun q=>by have:=qU p.x.order p.fv B p.x.free q.w (g0.o q).1 (g0.o q).2 d3; rw[HF.o]at this; exact this);have m2:=kp (show ∀w,Calls prog 199 #[.i p.x.next,.i 1,.i 1000001] w (fun e d=>e=.returned (.bool true)∧d=w) from fun w=>by have:=oK.2.2.2.2 p.x.next 1 1000001 w; rw[HN.o]at this; exact this);clear F R;refine bJ (by kernel_rfl) (by kernel_rfl) ?_
 repeat (go_big_quiet_step (first |(go_at_call 198; with_reducible refine bU (y0.o _))|(go_at_call 199; with_reducible refine dG (m2.o _))|(go_at_call 200; refine dG (v:=.i 256) (iT 8 _))))
 refine bH ?_;rintro W1 ⟨⟨_,G⟩,rfl⟩;have p0:=kp G;have C3:=kp (HH.o.below G);have p1:=C3.o.c1;rw[e4.o]at p1;clear G q0 q1 q2 q7;have HO:=kp ((iJ _ _).1 HF.o);go_wp2_with fail
 go_loopw [3,37] (fun e i wr=>∃k:Nat,k≤n∧i=.i k∧(∃L,e=.i L∧tR p.x.next (p.x.obs.take k) L∧(L=0∨∃z∈p.x.obs.take k,z.h=L))∧Bw' W wr) (fun _ i _=>n-(intOf i).toNat)
 case atStart=>exact⟨0,by omega,rfl,⟨0,rfl,⟨by omega,by simp,by simp⟩,.inl rfl⟩,p0.o⟩
 case round=>
  obtain⟨k,hk,rfl,⟨L,rfl,hS,hU⟩,b0⟩:=hrel;have HS:=kp hS;have HU:=kp hU;clear hU;have H:=kp b0;have HI:=kp (HH.o.below b0);clear hS b0
  by_cases y6:k<n
  .have g3:(k:Int)<(n:Int):=by omega
   have f:k<ps.length:=by have:=HL.o; omega
   have a1:=S.o.below H.o V.o;obtain⟨Aw,cw,Al,cl,m0,T,l3,b3,b1⟩:=vH a1.1 k f;obtain⟨A',c',j3,hr,_,_⟩:=a1.1.1;obtain rfl:A'=A:=by have:=e4.o; rw[j3]at this; injection this
   obtain⟨b,M,hA,e9,s,_⟩:=bV (P:=prog) 5 cM (by omega) hr k f;subst hA;have x0:wr.cell? ⟨b,M+k*5+0,none⟩=some (.i ps[k].x.h):=s 0 _ rfl;have x1:wr.cell? ⟨b,M+k*5+1,none⟩=some (.i ps[k].x.b.a):=s 1 _ rfl;have x2:wr.cell? ⟨b,M+k*5+2,none⟩=some (.i ps[k].x.b.o):=s 2 _ rfl;have x3:wr.cell? ⟨b,M+k*5+3,none⟩=some ps[k].wv:=s 3 _ rfl;have x4:wr.cell? ⟨b,M+k*5+4,none⟩=some ps[k].lv:=s 4 _ rfl;simp only[cF]at x0;have HT:=kp (show p.x.obs.take (k+1)=p.x.obs.take k++[ps[k].x] by
    have ho:=S.b;rw[ho,cV (by simpa using f),kY])
   have C8:=kp (show ps[k].x∈p.x.obs.drop k by rw[S.b,←List.map_drop]; exact cX.2 ⟨ps[k],by rw[fG f]; exact List.mem_cons_self,rfl⟩);clear s hr j3 a1;have z3:=kp (show ps[k].x∈p.x.obs by rw[S.b]; exact cX.2 ⟨_,bK f,rfl⟩);generalize ps[k]'f=y at *;obtain⟨K,j1⟩:=nm' y.x.ls.length;rw[j1]at T b1;have j5:=kp j1; clear j1;have E7:y.x.ws.length≤9223372036854775807:=by unfold maxLen at b3; omega
   have E6:K≤9223372036854775807:=by unfold maxLen at b1; omega
   clear b3 b1;rw[m0]at x3;rw[T]at x4;have D1:=kp l3; clear l3;have m1:gJ (wr.alloc (.cells #[.i y.x.h,.i y.x.b.a,.i y.x.b.o,.slice Aw y.x.ws.length cw,.slice Al K cl] 152)) wr.heap.size 152 y:=.of (by
    have:=Blk.new wr 152 y.cells;unfold ObV.cells at this;rw[m0,T]at this;unfold ObV.cells;rw[m0,T];exact this)
   have Z:=ba' wr (.cells #[.i y.x.h,.i y.x.b.a,.i y.x.b.o,.slice Aw y.x.ws.length cw,.slice Al K cl] 152);obtain⟨W2,z2⟩:=nm' (wr.alloc (.cells #[.i y.x.h,.i y.x.b.a,.i y.x.b.o,.slice Aw y.x.ws.length cw,.slice Al K cl] 152));rw[z2]at m1 Z;have p2:=kp m1;have d2:=kp (H.o.on Z);have b5:=kp Z;have C0:=kp (show B≤wr.heap.size from aB V.o H.o.size);clear m1 Z;have q2:W2.cell? ⟨w.heap.size,2,none⟩=some (.i p.x.next):=(b5.o.cell HI.o.blk.lt).trans HI.o.c2;have X:=p2.o.c0;rcases (show (y.x.h≤L)∨(L<y.x.h∧p.x.next≤y.x.h)∨(L<y.x.h∧y.x.h<p.x.next) by omega) with h1|⟨h1,h2⟩|⟨h1,h2⟩
   .obtain rfl:r=false:=by
     rw[←U.o];refine iG.2 fun h=>?_;rcases HU.o with h0|⟨z,l,G5⟩
     .have:=(eC.1 h).rise.1 _ z3.o; omega
     .have hr:=(eC.1 h).rise.2;rw[←wB k p.x.obs,pB]at hr;have:=hr.2.2 z l _ C8.o;omega
    go_wp2_with fail;go_ret;exact⟨rfl,O.o.trans (d2.o.mono Q.o)⟩
   .obtain rfl:r=false:=by
     rw[←U.o];exact iG.2 fun h=>by have:=((eC.1 h).rise.1 _ z3.o).2; omega
    go_wp2_with fail;go_ret;exact⟨rfl,O.o.trans (d2.o.mono Q.o)⟩
   .have g8:=k'2 h1 h2;go_wp2_with fail;go_roundw
    case rel=>exact⟨k+1,by omega,by go_num,⟨y.x.h,rfl,by rw[HT.o]; exact HS.o.snoc g8.a g8.B,.inr ⟨y.x,by rw[HT.o]; simp,rfl⟩⟩,d2.o⟩
    case measure=>simp[intOf]; omega
  .obtain rfl:n=k:=by omega
   have j8:=kp (show tR p.x.next p.x.obs L by have:=HS.o; rwa [cN (by have:=HL.B; omega)]at this);have z8:=S.o.below H.o V.o;have a9:B≤wr.heap.size:=aB V.o H.o.size;have q3:=kp (fam'4.2.1 p.fv p.x.free B wr z8.2.2 a9 d3);have d7:=HI.o.c7;clear z8 a9 y6;go_wp2_with fail;refine q3.o.mono ?_;rintro e w5 ⟨v5,rfl,p9,l0⟩;have D0:=kp (show Ow w5 W.heap.size 150 2 v5 Bk.cells p.x.free from Fm p9 H.o.size);have q':=kp (H.o.on l0);have C5:=kp (HI.o.below l0);clear p9 l0 d7;have d1:=C5.o.c1;rw[e4.o]at d1;go_wp2_with fail
   go_loopw [6,7,61] (fun v6 v7 i wr=>∃k:Nat,k≤n∧i=.i k∧(Ow wr W.heap.size 3 1 v6 i1 (mB (p.x.obs.take k))∧(mB (p.x.obs.take k)).length≤16*k)∧Ow wr W.heap.size 150 2 v7 Bk.cells (p.x.free++(p.x.obs.take k).map (·.b))∧(∀y∈p.x.obs.take k,obM p.x.order y=true)∧Bw' W wr) (fun _ _ i _=>n-(intOf i).toNat)
   case atStart=>exact⟨0,by omega,rfl,⟨Ow.nil _ _ _ _ _,by simp[mB]⟩,by simpa using D0.o,by simp,q'.o⟩
   case round=>
    obtain⟨k,hk,rfl,⟨h6,o8⟩,h7,l1,b0⟩:=hrel;have H6:=k'2 h6 o8;have H7:=kp h7;have e8:=kp l1;have H:=kp b0;have HI:=kp (HH.o.below b0);clear h6 o8 h7 l1 b0 d1
    by_cases y6:k<n
    .have g3:(k:Int)<(n:Int):=by omega
     have f:k<ps.length:=by have:=HL.o; omega
     have a1:=S.o.below H.o V.o;obtain⟨Aw,cw,Al,cl,m0,T,l3,b3,b1⟩:=vH a1.1 k f;obtain⟨A',c',j3,hr,_,_⟩:=a1.1.1;obtain rfl:A'=A:=by have:=e4.o; rw[j3]at this; injection this
     obtain⟨b,M,hA,e9,s,_⟩:=bV (P:=prog) 5 cM (by omega) hr k f;subst hA;have x0:wr.cell? ⟨b,M+k*5+0,none⟩=some (.i ps[k].x.h):=s 0 _ rfl;have x1:wr.cell? ⟨b,M+k*5+1,none⟩=some (.i ps[k].x.b.a):=s 1 _ rfl;have x2:wr.cell? ⟨b,M+k*5+2,none⟩=some (.i ps[k].x.b.o):=s 2 _ rfl;have x3:wr.cell? ⟨b,M+k*5+3,none⟩=some ps[k].wv:=s 3 _ rfl;have x4:wr.cell? ⟨b,M+k*5+4,none⟩=some ps[k].lv:=s 4 _ rfl;simp only[cF]at x0;have HT:=kp (show p.x.obs.take (k+1)=p.x.obs.take k++[ps[k].x] by
      have ho:=S.b;rw[ho,cV (by simpa using f),kY])
     clear s hr j3 a1;have D3:=kp (S.a.2 _ (bK f)).2;have z3:=kp (show ps[k].x∈p.x.obs by rw[S.b]; exact cX.2 ⟨_,bK f,rfl⟩);generalize ps[k]'f=y at *;obtain⟨K,j1⟩:=nm' y.x.ls.length;rw[j1]at T b1;have j5:=kp j1; clear j1;have E7:y.x.ws.length≤9223372036854775807:=by unfold maxLen at b3; omega
     have E6:K≤9223372036854775807:=by unfold maxLen at b1; omega
     clear b3 b1;rw[m0]at x3;rw[T]at x4;have D1:=kp l3; clear l3;have m1:gJ (wr.alloc (.cells #[.i y.x.h,.i y.x.b.a,.i y.x.b.o,.slice Aw y.x.ws.length cw,.slice Al K cl] 152)) wr.heap.size 152 y:=.of (by
      have:=Blk.new wr 152 y.cells;unfold ObV.cells at this;rw[m0,T]at this;unfold ObV.cells;rw[m0,T];exact this)
     have Z:=ba' wr (.cells #[.i y.x.h,.i y.x.b.a,.i y.x.b.o,.slice Aw y.x.ws.length cw,.slice Al K cl] 152);obtain⟨W2,z2⟩:=nm' (wr.alloc (.cells #[.i y.x.h,.i y.x.b.a,.i y.x.b.o,.slice Aw y.x.ws.length cw,.slice Al K cl] 152));rw[z2]at m1 Z;have p2:=kp m1;have d2:=kp (H.o.on Z);have b5:=kp Z;have C0:=kp (show B≤wr.heap.size from aB V.o H.o.size);clear m1 Z;have q5:=H6.a.alloc (.cells #[.i y.x.h,.i y.x.b.a,.i y.x.b.o,.slice Aw y.x.ws.length cw,.slice Al K cl] 152);have a6:=H7.o.alloc (.cells #[.i y.x.h,.i y.x.b.a,.i y.x.b.o,.slice Aw y.x.ws.length cw,.slice Al K cl] 152);rw[z2]at q5 a6;have y1:=p2.o.c1;have y2:=p2.o.c2;obtain⟨W3,b9⟩:=nm' (W2.alloc (.cells #[.i y.x.b.a,.i y.x.b.o] 150));have a3:=ba' W2 (.cells #[.i y.x.b.a,.i y.x.b.o] 150);have m4:=Blk.new W2 150 y.x.b.cells;unfold Bk.cells at m4;have y5:=q5.alloc (.cells #[.i y.x.b.a,.i y.x.b.o] 150);have b6:=a6.alloc (.cells #[.i y.x.b.a,.i y.x.b.o] 150);rw[b9]at a3 m4 y5 b6;have o5:=kp (p2.o.below a3);have y3:=kp m4;have p7:=kp (b5.o.on a3);have g2:=kp (d2.o.on a3);have C4:=kp (HI.o.below p7.o);have d':=kp y5;have j':=kp b6;clear a3 m4 q5 a6 y5 b6;go_wp2_with fail;clear x0 x1 x2 x3 x4 z2 b9 y1 y2;have X:=aP (y3.o.cell 0);have f1:=aP (y3.o.cell 1);have f3:=o5.o.c3;rw[m0]at f3;have f3:=aP f3;have Y:=o5.o.c4;rw[T]at Y;have Y:=aP Y;have f5:=aP C4.o.c0;obtain⟨z,l⟩:=nm' (bX y.x.ws.length K);have HZ:=kp l; clear l;have G1:(z != y.x.b.o)=true∨(z=y.x.b.o∧aF y.x.b.o 0 p.x.order=false)∨(z=y.x.b.o∧aF y.x.b.o 0 p.x.order=true∧aF y.x.b.a 0 (aQ p.x.order)=false)∨
       (z=y.x.b.o∧aF y.x.b.o 0 p.x.order=true∧aF y.x.b.a 0 (aQ p.x.order)=true∧¬y.x.b.a % aQ y.x.b.o=0)∨(z=y.x.b.o∧aF y.x.b.o 0 p.x.order=true∧aF y.x.b.a 0 (aQ p.x.order)=true∧y.x.b.a % aQ y.x.b.o=0):=by
      by_cases h:z=y.x.b.o
      .cases aF y.x.b.o 0 p.x.order
       .exact .inr (.inl ⟨h,rfl⟩)
       .cases aF y.x.b.a 0 (aQ p.x.order)
        .exact .inr (.inr (.inl ⟨h,rfl,rfl⟩))
        .by_cases h2:y.x.b.a % aQ y.x.b.o=0
         .exact .inr (.inr (.inr (.inr ⟨h,rfl,rfl,h2⟩)))
         .exact .inr (.inr (.inr (.inl ⟨h,rfl,rfl,h2⟩)))
      .exact .inl (by simpa using h)
     have d4:=kp (show obM p.x.order y.x=false→cO p.x=false from fun ho=>by
      refine iG.2 fun h=>?_;have he:=(eC.1 h).each _ z3.o;have:=Qt HO.a (show obB p.x.order y.x=true by unfold obB; rw[bI,bP]; exact he);rw[ho]at this
      cases this)
     have j2:=kp (show ∀w,Calls prog 202 #[.i y.x.ws.length,.i K] w (fun e d=>e=.returned (.i z)∧d=w) from fun w=>by rw[←HZ.o]; exact Cp _ _ _);rcases G1 with J|⟨J,D⟩|⟨J,D,I⟩|⟨J,D,I,e0⟩|⟨J,D,I,e0⟩
     .obtain rfl:r=false:=by
       rw[←U.o];exact d4.o (by unfold obM; rw[j5.o,HZ.o,aX (by simpa using J)]; rfl)
      refine bJ (by kernel_rfl) (by kernel_rfl) ?_
      repeat (go_big_quiet_step ((go_at_call 202; with_reducible refine dG (j2.o _))))
      refine bH ?_;rintro W4 ⟨⟨_,g⟩,rfl⟩;have d0:=kp (g2.o.on g);clear g X f1 f3 Y f5;go_wp2_with fail;go_ret;exact⟨rfl,O.o.trans (d0.o.mono Q.o)⟩
     .have e1:(z != y.x.b.o)=false:=by simp[J]
      have z0:=kp (show ∀w,Calls prog 199 #[.i y.x.b.o,.i 0,.i p.x.order] w (fun e d=>e=.returned (.bool false)∧d=w) from fun w=>by rw[←D]; exact oK.2.2.2.2 _ _ _ _);obtain rfl:r=false:=by
       rw[←U.o];exact d4.o (by unfold obM; rw[D]; simp)
      clear J D;refine bJ (by kernel_rfl) (by kernel_rfl) ?_
      repeat (go_big_quiet_step (first |(go_at_call 202; with_reducible refine dG (j2.o _))|(go_at_call 199; with_reducible refine dG (z0.o _))))
      refine bH ?_;rintro W4 ⟨⟨_,g⟩,rfl⟩;have d0:=kp (g2.o.on g);clear g X f1 f3 Y f5;go_wp2_with fail;go_ret;exact⟨rfl,O.o.trans (d0.o.mono Q.o)⟩
     .have e1:(z != y.x.b.o)=false:=by simp[J]
      have z0:=kp (show ∀w,Calls prog 199 #[.i y.x.b.o,.i 0,.i p.x.order] w (fun e d=>e=.returned (.bool true)∧d=w) from fun w=>by rw[←D]; exact oK.2.2.2.2 _ _ _ _);have l2:=kp (show ∀w,Calls prog 199 #[.i y.x.b.a,.i 0,.i (aQ p.x.order)] w (fun e d=>e=.returned (.bool false)∧d=w) from fun w=>by rw[←I]; exact oK.2.2.2.2 _ _ _ _);obtain rfl:r=false:=by
       rw[←U.o];exact d4.o (by unfold obM; rw[I]; simp)
      clear J D I;refine bJ (by kernel_rfl) (by kernel_rfl) ?_
      repeat (go_big_quiet_step (first |(go_at_call 202; with_reducible refine dG (j2.o _))|(go_at_call 199; with_reducible refine dG (z0.o _))|(go_at_call 199; with_reducible refine dG (l2.o _))|(go_at_call 200; with_reducible refine dG (iT _ _))))
      refine bH ?_;rintro W4 ⟨⟨_,g⟩,rfl⟩;have d0:=kp (g2.o.on g);clear g X f1 f3 Y f5;go_wp2_with fail;go_ret;exact⟨rfl,O.o.trans (d0.o.mono Q.o)⟩
     .have e1:(z != y.x.b.o)=false:=by simp[J]
      have z0:=kp (show ∀w,Calls prog 199 #[.i y.x.b.o,.i 0,.i p.x.order] w (fun e d=>e=.returned (.bool true)∧d=w) from fun w=>by rw[←D]; exact oK.2.2.2.2 _ _ _ _);have l2:=kp (show ∀w,Calls prog 199 #[.i y.x.b.a,.i 0,.i (aQ p.x.order)] w (fun e d=>e=.returned (.bool true)∧d=w) from fun w=>by rw[←I]; exact oK.2.2.2.2 _ _ _ _);obtain⟨wz,o0⟩:=nm' (aQ y.x.b.o);have h8:=eF HO.a;have E8:0≤y.x.b.o∧y.x.b.o≤p.x.order:=by unfold aF at D; simpa using D
      have j6:0≤y.x.b.a∧y.x.b.a≤aQ p.x.order:=by unfold aF at I; simpa using I
      have w1:=wW (o:=y.x.b.o) (by omega) (by omega);have w2:=gF y.x.b.o;have w3:=gF p.x.order;rw[o0]at w1 w2 e0;have ht:y.x.b.a.tmod wz=y.x.b.a % wz:=zM j6.1;have m5:=kp (show ∀w,Calls prog 200 #[.i p.x.order] w (fun e d=>e=.returned (.i (aQ p.x.order))∧d=w) from fun w=>iT _ _);have l5:=kp (show ∀w,Calls prog 200 #[.i y.x.b.o] w (fun e d=>e=.returned (.i wz)∧d=w) from fun w=>by rw[←o0]; exact iT _ _);have e2:(y.x.b.a % wz != 0)=true:=by simpa using e0
      obtain rfl:r=false:=by
       rw[←U.o];exact d4.o (by unfold obM; rw[o0,aX e0]; simp)
      clear J D I e0 o0;refine bJ (by kernel_rfl) (by kernel_rfl) ?_
      repeat (go_big_quiet_step (first |(go_at_call 202; with_reducible refine dG (j2.o _))|(go_at_call 199; with_reducible refine dG (z0.o _))|(go_at_call 199; with_reducible refine dG (l2.o _))|(go_at_call 200; with_reducible refine dG (l5.o _))|(go_at_call 200; with_reducible refine dG (m5.o _))))
      refine bH ?_;rintro W4 ⟨⟨_,g⟩,rfl⟩;have d0:=kp (g2.o.on g);clear g X f1 f3 Y f5;go_wp2_with fail;go_ret;exact⟨rfl,O.o.trans (d0.o.mono Q.o)⟩
     .have e1:(z != y.x.b.o)=false:=by simp[J]
      have z0:=kp (show ∀w,Calls prog 199 #[.i y.x.b.o,.i 0,.i p.x.order] w (fun e d=>e=.returned (.bool true)∧d=w) from fun w=>by rw[←D]; exact oK.2.2.2.2 _ _ _ _);have l2:=kp (show ∀w,Calls prog 199 #[.i y.x.b.a,.i 0,.i (aQ p.x.order)] w (fun e d=>e=.returned (.bool true)∧d=w) from fun w=>by rw[←I]; exact oK.2.2.2.2 _ _ _ _);have g4:=kp (show obM p.x.order y.x=true by unfold obM; rw[j5.o,HZ.o,D,I,bY e0,bY J]; rfl);obtain⟨wz,o0⟩:=nm' (aQ y.x.b.o);have h8:=eF HO.a;have E8:0≤y.x.b.o∧y.x.b.o≤p.x.order:=by unfold aF at D; simpa using D
      have j6:0≤y.x.b.a∧y.x.b.a≤aQ p.x.order:=by unfold aF at I; simpa using I
      have w1:=wW (o:=y.x.b.o) (by omega) (by omega);have w2:=gF y.x.b.o;have w3:=gF p.x.order;rw[o0]at w1 w2 e0;have ht:y.x.b.a.tmod wz=y.x.b.a % wz:=zM j6.1;have m5:=kp (show ∀w,Calls prog 200 #[.i p.x.order] w (fun e d=>e=.returned (.i (aQ p.x.order))∧d=w) from fun w=>iT _ _);have l5:=kp (show ∀w,Calls prog 200 #[.i y.x.b.o] w (fun e d=>e=.returned (.i wz)∧d=w) from fun w=>by rw[←o0]; exact iT _ _);have e2:(y.x.b.a % wz != 0)=false:=by simpa using e0
      clear J D I e0 o0;refine bJ (by kernel_rfl) (by kernel_rfl) ?_
      repeat (go_big_quiet_step (first |(go_at_call 202; with_reducible refine dG (j2.o _))|(go_at_call 199; with_reducible refine dG (z0.o _))|(go_at_call 199; with_reducible refine dG (l2.o _))|(go_at_call 200; with_reducible refine dG (l5.o _))|(go_at_call 200; with_reducible refine dG (m5.o _))))
      refine bH ?_;rintro W4 ⟨⟨_,g⟩,rfl⟩;have d0:=kp (g2.o.on g);have E0:=kp (o5.o.below g);have q6:=y3.o.below g y3.o.lt;have C1:=kp (p7.o.on g);have m8:=d'.o.below g;have p8:=j'.o.below g;clear g X f1 f3 Y f5 e1 e2 ht w1 w2 w3;have X:=q6.cell 0;have f1:=q6.cell 1;simp only[aG,aK]at X f1;obtain⟨W5,g6⟩:=nm' (W4.alloc (.cells #[.i y.x.b.a,.i y.x.b.o] 150));have j7:Sl (W4.alloc (.cells #[.i y.x.b.a,.i y.x.b.o] 150)) (W4.heap.size+1) (.slice (some ⟨W4.heap.size,0,none⟩) 1 1) Bk.cells [y.x.b]:=eQ (enc:=Bk.cells) W4 150 y.x.b;have z5:=m8.alloc (.cells #[.i y.x.b.a,.i y.x.b.o] 150);have d6:=p8.alloc (.cells #[.i y.x.b.a,.i y.x.b.o] 150);have l0:=ba' W4 (.cells #[.i y.x.b.a,.i y.x.b.o] 150);rw[g6]at j7 z5 d6 l0;have E2:=kp j7;have e':=kp z5;have m3:=kp d6;have z4:=kp (d0.o.on l0);have l8:=kp (E0.o.blk.alloc (.cells #[.i y.x.b.a,.i y.x.b.o] 150));rw[g6]at l8;have G2:=kp (C1.o.on l0);clear q6 m8 p8 j7 z5 d6 l0;have l9:((p.x.free++(p.x.obs.take k).map (·.b)).length:Nat)≤1000000:=by
       rw[bB,cW,cZ];omega
      have z7:=kp l9; clear l9;go_wp2_with (at_builtin; refine eU (enc:=Bk.cells) W5 rfl (.tmp 103) (.tmp 105) 27 rfl W.heap.size 150 jA fC rfl (by omega) bM m3.o rfl E2.o rfl (fun a _=>gU a) ?_ ?_ z4.o.size ?_)
      .have:=z7.o; unfold maxLen; simp only[eV,mH]; omega
      .have:=z7.o; simp only[eV,mH]; omega
      intro v8 W6 q8 l4;have o3:=kp (z4.o.trans (m3.o.grew l4 z4.o.size));have q4:=kp (m3.o.other e'.o (by decide) l4);have E1:=kp (l8.o.grew m3.o (by decide) l4);have m':=kp q8;have D5:=kp (show Sl W6 B (.slice Al K cl) i1 y.x.ls from T▸D3.o.below o3.o V.o);clear q8 l4 g6 X f1;have Y:=(gJ.of E1.o).c4;rw[T]at Y;go_wp2_with (at_builtin; refine eU (enc:=i1) W6 rfl (.tmp 107) (.tmp 109) 33 rfl W.heap.size 3 mL lT rfl (by omega) cS q4.o rfl D5.o rfl (fun a _=>pJ a) ?_ ?_ o3.o.size ?_)
      .have h1:=H6.B; have h2:=Cy g4.o; unfold maxLen; omega
      .have h1:=H6.B; have h2:=Cy g4.o; omega
      intro v9 W7 y8 o6;have y':=kp (o3.o.trans (q4.o.grew o6 o3.o.size));have o':=kp (q4.o.other m'.o (by decide) o6);have p':=kp y8;clear y8 o6 Y;go_wp2_with fail;go_roundw
      case rel=>
       refine⟨k+1,by omega,by go_num,⟨by rw[HT.o,Jh]; exact p'.o,?_⟩,o'.o.eqv (by rw[HT.o,gC,List.map_take]; simp),fun z l=>?_,y'.o⟩
       .rw[HT.o,Jh,bB];have h1:=H6.B; have h2:=Cy g4.o;omega
       .rw[HT.o]at l;rcases dF.1 l with l|l
        .exact e8.o z l
        .rw[bQ.1 l]; exact g4.o
      case measure=>simp[intOf]; omega
    .obtain rfl:n=k:=by omega
     have z9:p.x.obs.take n=p.x.obs:=cN (by have:=HL.B; omega);have h6:=H6.o;have h7:=H7.o;have l1:=e8.o;rw[z9]at h6 h7 l1;obtain⟨N,hN⟩:=nm' ((lX p.x).length);have G3:N≤901000:=by rw[←hN]; unfold lX; rw[bB,cW,HL.B]; omega
     have l7:=k'2 h6.1 (show (mB p.x.obs).length≤1000000 by omega);have y4:=kp (h7.eqv (l':=lX p.x) rfl);have d8:=kp (show p.x.obs.all (obM p.x.order)=true from nD.2 l1);have D2:=kp (show ∀x∈lX p.x,0≤x.o∧x.o≤8 from fun x hx=>by
      have h8:=eF HO.a;rcases dF.1 hx with hx|hx
      .have:=fI HO.a (HO.b x hx); omega
      .obtain⟨y,hy,rfl⟩:=cX.1 hx;have:=l1 y hy;unfold obM aF at this;simp only[bI,bP]at this;omega)
     have C9:=kp hN;have D6:=kp (Im 204 (enters_of func204 (by kernel_rfl) rfl) Ub _ (lX p.x) W.heap.size wr y4.o H.o.size (by omega));clear h6 h7 l1 z9 hN;go_wp2_with fail;refine D6.o.mono ?_;rintro e w8 ⟨rfl,m,p4,y9,m9,p6⟩;have o7:=kp (H.o.trans (y4.o.grew p6 H.o.size));have g':=kp (y4.o.other l7.a (by decide) p6);have j4:=k'2 p4 y9;have z6:m.length=N:=by rw[←p4.length_eq]; exact C9.o
     have p5:=kp z6;have a4:=kp (show ∀x∈m,0≤x.o∧x.o≤8 from fun x hx=>D2.o x (p4.mem_iff.2 hx));obtain⟨A7,c7,a',q9,E5,_⟩:=m9.sl bM;rw[z6]at a' E5;have C7:=kp q9;clear p4 y9 m9 p6 z6 q9;have g1:N≤9223372036854775807:=by omega
     subst a';go_wp2_with fail
     go_loopw [11,116] (fun e i wr=>∃k:Nat,k≤N∧i=.i k∧(∃E,e=.i E∧E=bW (m.take k))∧iV 0 (m.take k)=true∧Bw' w8 wr) (fun _ i _=>N-(intOf i).toNat)
     case atStart=>exact⟨0,by omega,rfl,⟨0,rfl,rfl⟩,rfl,aL _ _⟩
     case round=>
      obtain⟨k,hk,rfl,⟨E,rfl,hE⟩,a2,b0⟩:=hrel;have HE:=kp hE;have e5:=kp a2;have p3:=kp b0;have E4:=Bs (m.take k) fun y hy=>(a4.o y (qN hy)).2;rw[←hE,cZ,p5.o,oC hk]at E4;clear hE a2 b0
      by_cases y6:k<N
      .have g3:(k:Int)<(N:Int):=by omega
       have f:k<m.length:=by have:=p5.o; omega
       obtain⟨b,M,hA,e9,s,_⟩:=bV (P:=prog) 2 bM (by omega) (C7.o.below p3.o (aD _)) k f;subst hA;have x0:wr.cell? ⟨b,M+k*2+0,none⟩=some (.i m[k].a):=s 0 _ rfl;have x1:wr.cell? ⟨b,M+k*2+1,none⟩=some (.i m[k].o):=s 1 _ rfl;simp only[cF]at x0;have b7:=a4.o _ (bK f);have l6:=Cz (m.take k) 0 m[k] (m.drop (k+1)) (fun y hy=>a4.o y (qN hy)) e5.o;rw[←fG f,wB,Int.zero_add,←HE.o]at l6;have m6:=Cz (m.take k) 0 m[k] [] (fun y hy=>a4.o y (qN hy)) e5.o;rw[←cV f,Int.zero_add,←HE.o]at m6;have b':bW (m.take (k+1))=E+aJ m[k].o:=by rw[cV f,Gn,HE.o]
       have HD:=k'3 l6 m6 b';have g7:=fD b7.1 b7.2;have G0:=gF m[k].o;clear s l6 m6 b';generalize m[k]'f=y at *;obtain⟨z,l⟩:=nm' (aQ y.o);rw[l]at g7 G0;have o2:=kp (show ∀w,Calls prog 200 #[.i y.o] w (fun e d=>e=.returned (.i z)∧d=w) from fun w=>by rw[←l]; exact iT _ _);have D4:=kp g7;clear l g7 b7;have e3:=Blk.new wr 150 [.i y.a,.i y.o];have a7:=ba' wr (.cells #[.i y.a,.i y.o] 150);obtain⟨W9,d9⟩:=nm' (wr.alloc (.cells #[.i y.a,.i y.o] 150));have e3:Blk W9 wr.heap.size 150 [.i y.a,.i y.o]:=d9▸e3;rw[d9]at a7;have a8:=kp (p3.o.on a7);have X:=e3.cell 0;have f1:=e3.cell 1;simp only[aG,aK]at X f1;clear e3 a7
       by_cases b2:y.a=E
       .have e1:(y.a != E)=false:=by simp[b2]
        have E3:=kp b2;clear b2;go_wp2_with fail;refine (o2.o _).mono ?_;rintro e d ⟨rfl,rfl⟩;go_wp2_with fail;go_roundw
        case rel=>
         refine⟨k+1,by omega,by go_num,⟨E+z,by go_num,by rw[HD.C,D4.o]⟩,?_,a8.o⟩;rw[HD.b,E3.o];simp[iV]
        case measure=>simp[intOf]; omega
       .have e1:(y.a != E)=true:=by simpa using b2
        obtain rfl:r=false:=by
         rw[←U.o];refine Ue HF.o d8.o j4.a j4.B ?_;rw[HD.a,aX b2];rfl
        clear b2;go_wp2_with fail;go_ret;exact⟨rfl,O.o.trans ((o7.o.on a8.o).mono Q.o)⟩
      .obtain rfl:N=k:=by omega
       have o9:m.take N=m:=cN (by have:=p5.o; omega);have hE:=HE.o;have a2:=e5.o;rw[o9]at hE a2;have a0:=Ud (h:=p.x) (m:=m) (L:=L) HF.o HN.o (by rw[HL.B]; omega) j8.o d8.o j4.a j4.B a2;rw[U.o,←hE]at a0;have C2:=kp a0;have o1:=kp (o7.o.on p3.o);have g5:=kp (HH.o.below o1.o);have m7:=kp (S.o.below o1.o V.o);have e6:B≤wr.heap.size:=aB V.o o1.o.size;have C6:=kp (show iL (fun p:ObV=>p.x.h) ps from Jg _ _ (by
        have:=j8.o.rise;rw[S.b,zX]at this;exact this))
       have q3:=kp (show ∀(t:Int)(W':World),Bw' wr W'→Calls prog 205 (#[.i t]++#[.pointer (some ⟨w.heap.size,0,none⟩)]) W' fun e d=>e=.returned (.bool (!dS p.x.obs t))∧Bw' W' d from fun t W' j0=>by
        have:=Uc w.heap.size p ps t B W' (g5.o.below j0) (m7.a.1.below j0 e6) (aB e6 j0.size) (by have:=HL.a; omega) C6.o;rw[←m7.b]at this;exact this)
       have y7:=kp (tU.1 _ (mB p.x.obs) (fun t=> !dS p.x.obs t) 205 #[.pointer (some ⟨w.heap.size,0,none⟩)] wr.heap.size wr ((g'.o.below p3.o).sl cS) (aD _) l7.B (enters_of func205 (by kernel_rfl) rfl) (fun W' t _ j0=>q3.o t W' j0));have D8:=kp (show ∀W',Bw' wr W'→Calls prog 207 #[.slice (some ⟨w.heap.size,3,none⟩) 4 4,.func (.func 205) #[] #[.pointer (some ⟨w.heap.size,0,none⟩)]] W' (fun e d=>e=.returned (.bool (p.x.tops.any fun t=> !dS p.x.obs t))∧Bw' W' d) from fun W' j0=>by
        have hI:=g5.o.below j0;refine tU.1 (.slice (some ⟨w.heap.size,3,none⟩) 4 4) p.x.tops (fun t=> !dS p.x.obs t) 205 #[.pointer (some ⟨w.heap.size,0,none⟩)] W'.heap.size W' ⟨_,_,rfl,.inr ⟨_,_,rfl,hI.blk.lt,fun j u hu=>?_⟩,by show 4≤4; omega,by unfold maxLen; omega⟩ (aD _) (by show 4≤1000000; omega) (enters_of func205 (by kernel_rfl) rfl) (fun W2 t _ Z=>q3.o t W2 (j0.on Z));rw[pK]at hu
        match j,hu with
        |0,hu=>cases hu; exact hI.c3
        |1,hu=>cases hu; exact hI.c4
        |2,hu=>cases hu; exact hI.c5
        |3,hu=>cases hu; exact hI.c6)
       have q0:=g5.o.c0;obtain⟨z,l⟩:=nm' (aQ p.x.order);rw[l]at a0;have o2:=kp (show ∀w,Calls prog 200 #[.i p.x.order] w (fun e d=>e=.returned (.i z)∧d=w) from fun w=>by rw[←l]; exact iT _ _);have hd:(E != z)= !decide (E=z):=by rw[qQ]; simp
       clear hE a2 l e6 C2 o9
       cases hc1:decide (E=z)
       .rw[hc1]at hd a0;obtain rfl:r=false:=a0;clear hc1;go_wp2_with fail;refine (o2.o _).mono ?_;rintro e d ⟨rfl,rfl⟩;go_wp2_with fail;go_ret;exact⟨rfl,O.o.trans (o1.o.mono Q.o)⟩
       .rw[hc1,jF]at a0;rw[hc1]at hd;clear hc1
        cases hc2:(mB p.x.obs).any fun t=> !dS p.x.obs t
        .rw[hc2]at a0;have d5:=kp (hc2▸y7.o);clear hc2
         cases hc3:p.x.tops.any fun t=> !dS p.x.obs t
         all_goals
          rw[hc3]at a0;have D9:=kp (hc3▸D8.o);subst a0;clear hc3;go_wp2_with fail;refine (o2.o _).mono ?_;rintro e d ⟨rfl,rfl⟩;go_wp2_with fail;refine mb' d5.o fun wa z1=>?_;have a5:=kp (o1.o.on z1);have D7:=kp (D9.o wa z1);clear z1 q0;go_wp2_with fail;refine mb' D7.o fun wb g9=>?_;have z':=kp (a5.o.on g9);clear g9;go_wp2_with fail;go_ret;exact⟨rfl,O.o.trans (z'.o.mono Q.o)⟩
        .rw[hc2]at a0;have d5:=kp (hc2▸y7.o);obtain rfl:r=false:=a0;clear hc2;go_wp2_with fail;refine (o2.o _).mono ?_;rintro e d ⟨rfl,rfl⟩;go_wp2_with fail;refine mb' d5.o fun wa z1=>?_;have a5:=kp (o1.o.on z1);clear z1 q0;go_wp2_with fail;go_ret;exact⟨rfl,O.o.trans (a5.o.mono Q.o)⟩
end
end Go.Proofs.YthalbagblhkeaaaGreat
