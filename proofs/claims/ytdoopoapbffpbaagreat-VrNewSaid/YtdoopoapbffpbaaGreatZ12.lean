import Derived.Test.YtdoopoapbffpbaaGreatZ11
import Derived.Lib.AppendZerosOnto
import Derived.Lib.Overlaps
import Derived.Laws.Externs
import Derived.StillTailTactics
namespace Go.Proofs.YtdoopoapbffpbaaGreat
open Go.RowKit Go.Proofs.Tryz
set_option maxRecDepth 100000
set_option maxHeartbeats 12800000
set_option linter.unusedVariables false
set_option linter.unusedSimpArgs false
section
theorem Cw(o:Int)(w:World):Calls prog 168 #[.i o] w fun e w'=>∃v,e=.returned (.tuple #[v,.i (eN 1 (cP o))])∧Ow w' w.heap.size 88 2 v Bk.cells (if cP o=true then [⟨0,o⟩] else [])∧Bw' w w':=by
 cases hr:cP o
 .have H:=kp hr;go_enter func168,ntmps168;go_wp2_with fail;refine mb' (oK.1 o w) fun w' a=>?_;obtain rfl:=a.symm;rw[H.o];go_wp2_with fail;go_ret2;exact⟨_,rfl,Ow.nil _ _ _ _ _,aL _ _⟩
 .have H:=kp hr;go_enter func168,ntmps168;go_wp2_with fail;refine mb' (oK.1 o w) fun w' a=>?_;obtain rfl:=a.symm;rw[H.o];go_wp2_with fail;go_ret2;refine⟨_,rfl,?_,ba' _ _⟩;exact⟨rfl,.inr ⟨w.heap.size,1,#[.i 0,.i o],rfl,aD _,heap_alloc_new w _,aD _,by unfold maxLen; omega,rfl,rfl⟩⟩
theorem Ti(f:Int)(c:Nat)(x:Bk)(W:World)(d:W.cell? ⟨c,0,none⟩=some (.i f)):
  Calls prog 279 (#[.agg x.cells.toArray]++#[.pointer (some ⟨c,0,none⟩)]) W fun e w'=>e=.returned (.bool (decide (f≤x.o)))∧Bw' W w':=by
 show Calls _ _ #[.agg #[.i x.a,.i x.o],.pointer (some ⟨c,0,none⟩)] _ _;have i:=(tC W x 88).2;have b:=ba' W (.cells #[.i x.a,.i x.o] 88);have g:=kp b;have h:=World.block_lt_of_cell? W _ d;have j:=(b.cell h).trans d;go_enter func279,ntmps279;go_wp2_with fail;go_ret;exact⟨rfl,g.o⟩
theorem Tj(o a:Int)(v:Value)(B:Nat)(l:List Bk)(w:World)(A:Sl w B v Bk.cells l)(f:B≤w.heap.size)(G:l.length≤900000)(m:gL o l=true)(E:0≤a)(F:a≤o):
  Calls prog 267 #[.i o,v,.i a] w fun e w'=>e=.returned (.bool (l.any fun b=>decide (a≤b.o)))∧Bw' w w':=by
 have g:=ba' w (.cells #[.i a] 3);have k:=kp (A.below g f);have h:=kp (Blk.new w 3 [.i a]);have c:=kp g;have D:=kp m;have i:=kp f;have j:=kp (qU o v B l _ k.o (aB f g.size) (by omega));rw[m]at j;go_enter func267,ntmps267;go_wp2_with fail;refine mb' j.o fun C d=>?_;have q:=kp d;have n:=h.o.below d h.o.lt;have p:=n.cell 0;simp only[aG]at p;have s:=kp (vC.2.2 v l (fun b=>decide (a≤b.o)) 279 #[.pointer (some ⟨w.heap.size,0,none⟩)] B C (k.o.below d (aB i.o c.o.size)) (aB (aB i.o c.o.size) d.size) (by omega) (enters_of func279 (by kernel_rfl) rfl)
  (fun W' x _ y=>Ti a w.heap.size x W' ((y.cell n.lt).trans p)))
 go_wp2_with fail;refine mb' s.o fun H z=>?_;have r:=kp z;go_wp2_with fail;go_ret;exact⟨rfl,c.o.trans ((q.o.on r.o).mono c.o.size)⟩
structure Qd(w:World)(base gB gD:Nat)(vq vs:Value)(lq ls:List Bk):Prop where
 que:Que w base gB vq lq
 small:Ow w base 88 2 vs Bk.cells ls
 sep:∀i,vs.ownBlock=some i→vq.ownBlock≠some i
 ptr:Blk w gD 299 [.pointer (some ⟨gB,0,none⟩)]
section
variable {w w':World}{base gB gD:Nat}{vq vs vq' vs':Value}{lq ls lq' ls':List Bk}
theorem Qd.below(h:Qd w base gB gD vq vs lq ls)(a:Bw' w w'):Qd w' base gB gD vq vs lq ls:=⟨h.que.below a,h.small.below a,h.sep,h.ptr.below a h.ptr.lt⟩
theorem Qd.gne(h:Qd w base gB gD vq vs lq ls):gD≠gB:=by
 rintro rfl;have:=(show w.heap[gD]? =_ from h.ptr).symm.trans h.que.blk;simp at this
theorem Qd.big(h:Qd w base gB gD vq vs lq ls)(d:Que w' base gB vq' lq')(b:QTo w w' gB vq vq'):Qd w' base gB gD vq' vs lq' ls:=
 ⟨d,h.small.qto b (h.small.ne_blk h.que.blk (by decide)) h.sep,fun i c a=>(b.own i a).elim (h.sep i c) fun f=>by have:=(h.small.lt c).2; omega,
  h.ptr.chg b.chg fun e=>e.elim h.gne fun a=>h.que.row.ne_blk h.ptr (by decide) a⟩
theorem Qd.little(h:Qd w base gB gD vq vs lq ls)(f:Ow w' base 88 2 vs' Bk.cells ls')(b:Chg (fun i=>vs.ownBlock=some i) w w')(e:∀i,vs'.ownBlock=some i→vs.ownBlock=some i∨w.heap.size≤i):Qd w' base gB gD vq vs' lq ls':=
 ⟨⟨h.que.blk.chg b (h.small.ne_blk h.que.blk (by decide)),h.que.row.chg b (fun i c a=>h.sep i a c),h.que.lo⟩,f,fun i c a=>(e i c).elim (fun d=>h.sep i d a) fun g=>by have:=(h.que.row.lt a).2; omega,
  h.ptr.chg b (h.small.ne_blk h.ptr (by decide))⟩
theorem Qd.other{z:Nat}{e:List Value}(h:Qd w base gB gD vq vs lq ls)(d:Blk w z 299 e)(f:gD≠z)(b:Chg (fun i=>i=z) w w'):Qd w' base gB gD vq vs lq ls:=
 ⟨⟨h.que.blk.chg b (fun a=>by subst a; have:=(show w.heap[gB]? =_ from h.que.blk).symm.trans d; simp at this),h.que.row.chg b (fun i c a=>h.que.row.ne_blk d (by decide) (a▸c)),h.que.lo⟩,
  h.small.chg b (fun i c a=>h.small.ne_blk d (by decide) (a▸c)),h.sep,h.ptr.chg b f⟩
end
def gK(want:Int)(b:Bk):Bool:=decide (want≤b.o)
theorem Tk(f:Int)(v:Value)(B:Nat)(l:List Bk)(w:World)(hv:Sl w B v Bk.cells l)(hB:B≤w.heap.size)(hn:l.length≤900000):
  Calls prog 268 #[v,.i f] w fun e w'=>∃gB gD vq vs lq,e=.returned (.tuple #[.agg #[.pointer (some ⟨gB,0,none⟩)],vs])∧Qd w' w.heap.size gB gD vq vs lq (l.filter fun b=> !gK f b)∧lq.Perm (l.filter (gK f))∧nM (atB lq) 0 lq.length∧Bw' w w':=by
 obtain⟨A,c,rfl,J,hc,hm⟩:=hv;obtain⟨n,hl⟩:=nm' l.length;rw[hl]at hc hn ⊢;have X:=kp hl;have o1:=kp J;have h0:Qd ((((w.alloc (.cells #[.pointer none] 299)).alloc (.cells #[.slice none 0 0] 305)).alloc (.cells #[] 88)).alloc (.cells #[.pointer (some ⟨w.heap.size+1,0,none⟩)] 299)) w.heap.size (w.heap.size+1) (w.heap.size+1+1+1) (.slice none 0 0) (.slice (some ⟨w.heap.size+1+1,0,none⟩) 0 0) [] []:=by
  have F:=Blk.new (w.alloc (.cells #[.pointer none] 299)) 305 [.slice none 0 0];have z:=World.ownsRow_made (base:=w.heap.size) (e:=88) (size:=2) ((w.alloc (.cells #[.pointer none] 299)).alloc (.cells #[.slice none 0 0] 305)) #[] 0 (by simp; omega) (by unfold maxLen; omega) rfl;have hp:=Blk.new ((((w.alloc (.cells #[.pointer none] 299)).alloc (.cells #[.slice none 0 0] 305)).alloc (.cells #[] 88))) 299 [.pointer (some ⟨w.heap.size+1,0,none⟩)];simp only[World.size_alloc]at F z hp;exact⟨⟨(F.alloc _).alloc _,Ow.nil _ _ _ _ _,by omega⟩,World.ownsRow.alloc z _,(fun _ _ h=>by cases h),hp⟩
 have a2:=(((ba' w (.cells #[.pointer none] 299)).alloc (by simp) (.cells #[.slice none 0 0] 305)).alloc (by simp; omega) (.cells #[] 88)).alloc (by simp; omega) (.cells #[.pointer (some ⟨w.heap.size+1,0,none⟩)] 299);have o2:=(((Blk.new w 299 [.pointer none]).alloc (.cells #[.slice none 0 0] 305)).alloc (.cells #[] 88)).alloc (.cells #[.pointer (some ⟨w.heap.size+1,0,none⟩)] 299);have U:=k'3 h0 a2 o2;have l3:n≤9223372036854775807:=by omega
 go_enter func268,ntmps268;go_wp2_with fail
 go_loopw [7,16] (fun vs i wr=>∃k:Nat,k≤n∧i=.i k∧∃vq,Qd wr w.heap.size (w.heap.size+1) (w.heap.size+1+1+1) vq vs ((l.take k).filter (gK f)) ((l.take k).filter fun b=> !gK f b)∧Bw' w wr∧Blk wr w.heap.size 299 [.pointer none]) (fun _ i _=>n-(intOf i).toNat)
 case atStart=>exact⟨0,by omega,rfl,_,U.a,U.b,U.C⟩
 case round=>
  obtain⟨k,hk,rfl,vq,hq,a0,p2⟩:=hrel;have m:=kp hq;have M:=kp a0;have O:=kp p2
  by_cases j3:k<n
  .have g3:(k:Int)<(n:Int):=by omega
   have d0:k<l.length:=by have:=X.o; omega
   obtain⟨b,j1,hA,e3,d1,_⟩:=bV (P:=prog) 2 bM (by omega) (o1.o.below M.o hB) k d0;subst hA;have x0:wr.cell? ⟨b,j1+k*2+0,none⟩=some (.i l[k].a):=d1 0 _ rfl;have x1:wr.cell? ⟨b,j1+k*2+1,none⟩=some (.i l[k].o):=d1 1 _ rfl;simp only[cF]at x0;have Q:=kp (cV d0);generalize l[k]'d0=x at *;obtain⟨lq,e0⟩:=nm' ((l.take k).filter (gK f));obtain⟨ls,g0⟩:=nm' ((l.take k).filter fun b=> !gK f b);have m3:lq.length≤k:=by rw[←e0]; exact aB (nB _ _) (by rw[cZ]; omega)
   have o3:ls.length≤k:=by rw[←g0]; exact aB (nB _ _) (by rw[cZ]; omega)
   rw[e0,g0]at m;have N:=k'2 e0 g0;have S:=ba' wr (.cells #[.i x.a,.i x.o] 88);have b3:=Blk.new wr 88 [.i x.a,.i x.o];obtain⟨j,a1⟩:=nm' (wr.alloc (.cells #[.i x.a,.i x.o] 88));rw[a1]at S;have Y:=kp (show Blk j wr.heap.size 88 [.i x.a,.i x.o] from a1▸b3);have g:=kp (m.o.below S);have G:=kp (M.o.on S);have r:=kp (O.o.below S O.o.lt);have y1:=Y.o.cell 1;simp only[aG,aK]at y1
   by_cases hw:f≤x.o
   .have L:=kp hw;go_wp2_with fail;have D:=kp (fun W(d:Chg (fun i=>vq.ownBlock=some i) j W∧Ow W w.heap.size 88 2 vq Bk.cells lq)=>
     jQ (g.o.ptr.chg d.1 (g.o.que.row.ne_blk g.o.ptr (by decide))) (jQ (g.o.que.blk_chg d.1) (Y.o.chg d.1 fun s=>by have:=(m.o.que.row.lt s).2; omega)))
    refine kU 12 (fun W=>Chg (fun i=>vq.ownBlock=some i) j W∧Ow W w.heap.size 88 2 vq Bk.cells lq) (kD 9 fun i=>vq.ownBlock=some i) (by kernel_rfl) (by kernel_rfl) ⟨(Chg.refl _ _).drew,g.o.que.row.below (bR (aL _ _))⟩ ?_
    iterate 8 (refine bO ?_; apply Exists.intro)
    refine bS (fun u W=>∃b,u=.slice (some ⟨b,0,none⟩) 1 1∧(b<W.heap.size∧vq.ownBlock≠some b)∧Sl W (b+1) u Bk.cells [x]) ?_;refine bS (fun u W=>Ow W w.heap.size 88 2 u Bk.cells (lq++[x])∧∀k,u.ownBlock=some k→vq.ownBlock=some k∨j.heap.size≤k) ?_
    iterate 2 (refine bO ?_; apply Exists.intro)
    refine dR ⟨?pers,?walk⟩
    case walk=>
     iterate 8
      apply Sz (by kernel_rfl) (by intro t w h; cases h; exact trivial) rfl
      .intro W d H; have q:=(D.o W d).1.cell 0; have q2:=(D.o W d).2.1.cell 0; have q3:=(D.o W d).2.2.cell 0; have q4:=(D.o W d).2.2.cell 1; simp only[aG,aK]at q q2 q3 q4; go_wp2_with fail;exact⟨rfl,_,rfl,d,fQ (by decide) (aL _ _),rfl⟩
      simp only[Act.put,aN,aH,aI]
     refine⟨fun W d H=>?_,fun u8=>?_⟩
     .go_wp2_with fail;exact⟨rfl,_,rfl,⟨d.1.alloc _,d.2.alloc _⟩,fQ (by decide) (ba' _ _),_,rfl,⟨by simp,fun s=>by have:=(d.2.lt s).2; omega⟩,eQ (enc:=Bk.cells) W 88 x⟩
     simp only[Act.put,aN,aH,aI];refine⟨fun W d H=>?_,fun u9=>?_⟩
     .have f7:=H 32 (bT (by kernel_rfl));obtain⟨b,rfl,d3,z2⟩:=f7;have a0:w.heap.size≤W.heap.size:=aB G.o.size d.1.size;go_wp2_with (at_builtin; refine mO (enc:=Bk.cells) W rfl (.tmp 30) (.tmp 32) 27 rfl w.heap.size 88 jA fC rfl (by omega) bM d.2 rfl z2 rfl (fun a _=>gU a) ?_ ?_ a0 ?_)
      .unfold maxLen; show lq.length+1≤_; omega
      .show (lq.length+1)*16≤_; omega
      intro v' Z ho g1 I b0;exact⟨rfl,_,rfl,⟨d.1.trans (fZ I) (fun _ _ h=>h),g1⟩,rK (fZ I),ho,fun k hk=>(b0 k hk).imp id (aB d.1.size)⟩
     simp only[Act.put,aN,aH,aI]
     iterate 2
      apply Sz (by kernel_rfl) (by intro t w h; cases h; exact trivial) rfl
      .intro W d H; go_wp2_with fail;exact⟨rfl,_,rfl,d,fQ (by decide) (aL _ _),rfl⟩
      simp only[Act.put,aN,aH,aI]
     intro W d H;have R:=H 33;obtain⟨R,f9⟩:=R;have q:=(D.o W d).2.1.cell 0;have qf:=(D.o W d).2.1.frozen 0;have HW:=kp d;have E:=kp (D.o W d);have h8:=kp R;have h9:=kp f9;simp only[dO,dP,aG]at q ⊢;obtain⟨K,c8,rfl,_,_⟩:=eD R;rw[bB,uC]at h8 h9;go_wp2_with fail;go_roundw
     case rel=>
      have j0:Que (W.setCell ⟨w.heap.size+1,0,none⟩ (.slice K (lq.length+1) c8)) w.heap.size (w.heap.size+1) (.slice K (lq.length+1) c8) (lq++[x]):=
       ⟨E.b.setCell 0 _,h8.o.chg ((Chg.refl (fun i=>i=w.heap.size+1) W).setCell (.inr rfl) 0 _) (fun i y s=>h8.o.ne_blk E.b (by decide) (s▸y)),g.o.que.lo⟩
      have l0:QTo j (W.setCell ⟨w.heap.size+1,0,none⟩ (.slice K (lq.length+1) c8)) (w.heap.size+1) vq (.slice K (lq.length+1) c8):=⟨(HW.a.mono fun i _ y=>.inr y).setCell (.inr (.inl rfl)) 0 _,h9.o⟩
      have m2:=g.o.big j0 l0;refine⟨k+1,by omega,by go_num,.slice K (lq.length+1) c8,?_,?_,?_⟩
      .have e1:(l.take (k+1)).filter (gK f)=lq++[x]:=by rw[Q.o,oZ,N.a]; simp[gK,L.o]
       have e2:((l.take (k+1)).filter fun b=> !gK f b)=ls:=by rw[Q.o,oZ,N.B]; simp[gK,L.o]
       rw[e1,e2];exact m2
      .exact G.o.trans (l0.chg.below (fun i y=>y.elim (fun e=>by omega) fun e=>(g.o.que.row.lt e).1) G.o.size)
      .refine r.o.chg l0.chg (fun z=>z.elim (fun e=>by omega) fun s=>g.o.que.row.ne_blk r.o (by decide) s)
     case measure=>simp[intOf]; omega
    case pers=>
     refine⟨pv',pv',pv',pv',pv',pv',pv',pv',?_,?_,pv',pv',trivial⟩
     .rintro i u W W' _ ⟨b,rfl,F,z⟩ J;exact⟨b,rfl,⟨eA F.1 (nO J).size,F.2⟩,vK z (nO J) F.2 F.1⟩
     .rintro i u W W' d2 ⟨h1,h2⟩ J;exact⟨h1.below (rL J d2),h2⟩
   .have g2:x.o<f:=by omega
    have L:=kp hw;have y0:=Y.o.cell 0;simp only[aG]at y0;have y2:=eQ (enc:=Bk.cells) j 88 x;have T:=ba' j (.cells #[.i x.a,.i x.o] 88);obtain⟨Z,b1⟩:=nm' (j.alloc (.cells #[.i x.a,.i x.o] 88));rw[b1]at T;have p1:=kp (show Sl Z (j.heap.size+1) (.slice (some ⟨j.heap.size,0,none⟩) 1 1) Bk.cells [x] from b1▸y2);have E:=kp (g.o.below T);have V:=kp (G.o.on T);have q0:=kp (r.o.below T r.o.lt);go_wp2_with (at_builtin; refine mO (enc:=Bk.cells) Z rfl (.tmp 36) (.tmp 38) 27 rfl w.heap.size 88 jA fC rfl (by omega) bM E.o.small rfl p1.o rfl (fun a _=>gU a) ?_ ?_ V.o.size ?_)
    .unfold maxLen; show ls.length+1≤_; omega
    .show (ls.length+1)*16≤_; omega
    intro v' W4 ho g1 I b0;have m1:=kp (E.o.little ho (fZ I) b0);have l1:=kp (V.o.trans ((fZ I).below (fun i y=>(E.o.small.lt y).1) V.o.size));have q1:=kp (q0.o.chg (fZ I) (E.o.small.ne_blk q0.o (by decide)));go_wp2_with fail;go_roundw
    case rel=>
     refine⟨k+1,by omega,by go_num,vq,?_,l1.o,q1.o⟩;have e1:(l.take (k+1)).filter (gK f)=lq:=by rw[Q.o,oZ,N.a]; simp[gK,L.o]
     have e2:((l.take (k+1)).filter fun b=> !gK f b)=ls++[x]:=by rw[Q.o,oZ,N.B]; simp[gK,L.o]
     rw[e1,e2];exact m1.o
    case measure=>simp[intOf]; omega
  .obtain rfl:n=k:=by omega
   have a3:l.take n=l:=cN (by have:=X.o; omega);rw[a3]at m;have j0:(l.filter (gK f)).length≤1000000:=by have:=nB (gK f) l; have:=X.o; omega
   have HI:=kp (Tf wr m.o.que j0);have q:=m.o.ptr.cell 0;simp only[aG]at q;unfold qV at HI;go_wp2_with fail;refine HI.o.mono ?_;rintro e w2 ⟨rfl,lq,l2,m0,j2,b2⟩;have g:=kp (m.o.big l2 m0);have G:=kp (M.o.trans (m0.chg.below (fun i y=>y.elim (fun e=>by omega) fun e=>(m.o.que.row.lt e).1) M.o.size));have r:=kp (O.o.chg m0.chg (fun z=>z.elim (fun e=>by omega) fun s=>m.o.que.row.ne_blk O.o (by decide) s));have o0:=k'2 j2 b2;have q2:=g.o.ptr.cell 0;have z0:=r.o.cell 0;have z1:=r.o.frozen 0;simp only[aG]at q2 z0;go_wp2_with fail;have hc:=(Chg.refl (fun i=>i=w.heap.size) w2).setCell (.inr rfl) 0 (.pointer (some ⟨w.heap.size+1,0,none⟩));have p0:=(r.o.setCell 0 (.pointer (some ⟨w.heap.size+1,0,none⟩))).cell 0;have HF:=k'2 (g.o.other r.o (by omega) hc) (G.o.setCell (p:=⟨w.heap.size,0,none⟩) (aD _) (.pointer (some ⟨w.heap.size+1,0,none⟩)));simp only[aH,aG]at p0;generalize w2.setCell ⟨w.heap.size,0,none⟩ (.pointer (some ⟨w.heap.size+1,0,none⟩))=W5 at *;refine aU (v:=.tuple #[.agg #[.pointer (some ⟨w.heap.size+1,0,none⟩)],_]) (by simp[results,results268,go_sem,p0]) rfl ⟨_,_,_,_,lq,rfl,HF.a,o0.a,o0.B,HF.B⟩
end
section
attribute [local go_sem] Iq
theorem Tl(x y:Bk)(W:World):Calls prog 283 #[.agg x.cells.toArray,.agg y.cells.toArray] W fun e g=>e=.returned (.i (oR x y))∧∃q f,g=Go.Sort.grow (W.drewN q) f:=by
 have b:=kp (show ∃q d,(W.alloc (.cells #[.i x.a,.i x.o] 88)).alloc (.cells #[.i y.a,.i y.o] 88)=Go.Sort.grow (W.drewN q) d from⟨0,_,by rw[Go.Sort.alloc_eq_grow,Go.Sort.alloc_eq_grow,Go.Sort.grow_grow]; rfl⟩);unfold oR;change Calls _ _ #[.agg #[.i x.a,.i x.o],.agg #[.i y.a,.i y.o]] W _;obtain⟨h,c,i,j,k,l,_⟩:=xB W x y 88;subst c;go_enter func283,ntmps283;go_wp2_with fail;refine ms' (tJ x.a y.a _) ?_;go_wp2_with fail;go_ret;exact⟨rfl,b.o⟩
theorem Tm{base g:Nat}{v:Value}{l:List Bk}(w:World)(h:Que w base g v l)(z:l.length≤1000000)(s:base≤w.heap.size):
  Calls prog 271 #[.agg #[.pointer (some ⟨g,0,none⟩)]] w fun e n=>e=.returned v∧∃l',l.Perm l'∧l'.Pairwise (fun x y=>x.a≤y.a)∧Ow n base 88 2 v Bk.cells l'∧Chg (fun i=>v.ownBlock=some i) w n:=by
 have b:=ba' w (.cells #[.pointer (some ⟨g,0,none⟩)] 299);have c:=h.below b;have m:=c.blk.cell 0;simp only[aG]at m;have A:=kp c;have p:=kp b;have r:=kp (Im 283 (enters_of func283 (by kernel_rfl) rfl) Tl v l base _ c.row (aB s b.size) z);clear h b c;go_enter func271,ntmps271;go_wp2_with fail;refine r.o.mono ?_;rintro e B ⟨rfl,l',j,k,f,d⟩;have q:=k'4 j k f ((Chg.of_below p.o).trans (T:=fun i=>v.ownBlock=some i) (fZ d) fun _ _ h=>h);clear j k f d m;go_wp2_with fail;go_ret;exact⟨rfl,l',q.o⟩
theorem Que.keep{w c:World}{base g z:Nat}{v v':Value}{l:List Bk}{b:List Value}(h:Que w base g v l)(a:Blk w z 299 b)(f:QTo w c g v v'):Blk c z 299 b:=
 a.chg f.chg fun d=>d.elim (fun e=>by subst e; have:=(show w.heap[z]? =_ from a).symm.trans h.blk; simp at this) fun e=>h.row.ne_blk a (by decide) e
theorem Que.keep2{w b:World}{base g z:Nat}{t:TypeId}{v v':Value}{l:List Bk}{a:List Value}(h:Que w base g v l)(f:Blk w z t a)(d:QTo w b g v v')(i:z<base):Blk b z t a:=
 f.chg d.chg fun c=>c.elim (fun e=>by have:=h.lo; omega) fun e=>by have:=(h.row.lt e).1; omega
theorem Qd.off{w k:World}{base b c z:Nat}{e f:Value}{j ls:List Bk}{l:List Value}(h:Qd w base b c e f j ls)(g:Blk w z 88 l)(a:Chg (fun i=>i=z) w k)(m:∀i,e.ownBlock=some i→i≠z)(n:∀i,f.ownBlock=some i→i≠z):Qd k base b c e f j ls:=
 ⟨⟨h.que.blk.chg a (fun d=>by subst d; have:=(show w.heap[b]? =_ from h.que.blk).symm.trans g; simp at this),h.que.row.chg a m,h.que.lo⟩,h.small.chg a n,h.sep,
  h.ptr.chg a (fun d=>by subst d; have:=(show w.heap[c]? =_ from h.ptr).symm.trans g; simp at this)⟩
def gZ(o want:Int)(free:List Bk):Int×Bk×List Bk:=
 if (gL o free&&(decide (0≤want)&&decide (want≤o)))=true then
  match iY want free with
  |none=>(40,⟨0,0⟩,[])
  |some (b,out)=>(0,b,out)
 else (1,⟨0,0⟩,[])
theorem Tn{o c:Int}{a e h ls:List Bk}{x:Bk}(i:gL o a=true)(g:e.Perm (a.filter (gK c)))(q:ls=a.filter fun b=> !gK c b)(k:e.Perm (x::h))(p:∀y∈e,LeB x y):
  iY c a=some (fW c 9 x (eJ a x))∧(h++ls).Perm (eJ a x)∧c≤x.o∧x∈a:=by
 have j:=(lE ((iJ _ _).1 i).1).1 i;have s:x∈e:=k.mem_iff.2 (by simp);have d:=List.mem_filter.1 (g.mem_iff.1 s);have f:xL c a x:=⟨d.1,by simpa [gK] using d.2,fun y z r=>p y (g.mem_iff.2 (List.mem_filter.2 ⟨z,by simpa [gK] using r⟩))⟩
 have n:eX c a=some x:=by
  cases hb:eX c a with
  |none=>have:=(Cd c a).1 hb x d.1; have:=f.2.1; omega
  |some y=>rw[Qw (He c a y j.sort hb) f]
 refine⟨by unfold iY; rw[n]; rfl,?_,f.2.1,d.1⟩;have l:(x::(h++ls)).Perm a:=by
  have m:(e++ls).Perm a:=by
   rw[q];exact (g.append_right _).trans (List.filter_append_perm _ _)
  exact (k.append_right ls).symm.trans m
 exact (List.perm_cons x).1 (l.trans (uY a x j.sort d.1))
theorem To(o d:Int)(v:Value)(B:Nat)(l:List Bk)(w:World)(hv:Sl w B v Bk.cells l)(hB:B≤w.heap.size)(hn:l.length≤400000):
  Calls prog 253 #[.i o,v,.i d] w fun e w'=>∃v',e=.returned (.tuple #[.agg (gZ o d l).2.1.cells.toArray,v',.i (gZ o d l).1])∧Ow w' w.heap.size 88 2 v' Bk.cells (gZ o d l).2.2∧Bw' w w':=by
 have hb:=ba' w (.cells #[.i 0,.i 0] 88);have hz:=Blk.new w 88 [.i 0,.i 0];have HS:=kp (hv.below hb hB);have HB:=kp hb;have Q:=kp hz;have o1:=kp (aB hB hb.size);have H:=kp (qU o v B l _ HS.o o1.o (by omega));clear hv hb hz hB
 cases hf:gL o l
 .have A:gZ o d l=(1,⟨0,0⟩,[]):=by unfold gZ; rw[hf]; rfl
  rw[A];rw[hf]at H;clear hf A;go_enter func253,Ap;go_wp2_with fail;refine mb' H.o fun w2 r=>?_;have X:=kp (HB.o.on r);have j:=Q.o.below r Q.o.lt;have O:=j.cell 0;have P:=j.cell 1;have y0:=j.frozen 0;have y1:=j.frozen 1;have S:=kp (((j.setCell 0 (.i 0)).setCell 1 (.i 0)).cell 0);have T:=kp (((j.setCell 0 (.i 0)).setCell 1 (.i 0)).cell 1);simp only[aG,aK]at O P;clear j;clear r;go_wp2_with fail;clear O P y0 y1;have L:=S.o;have M:=T.o;simp only[aH,aI,aG,aK]at L M;have V:=kp (((X.o).setCell (p:=⟨w.heap.size,0,none⟩) (aD _) (.i 0)).setCell (p:=⟨w.heap.size,1,none⟩) (aD _) (.i 0));clear S T;generalize (w2.setCell ⟨w.heap.size,0,none⟩ (.i 0)).setCell ⟨w.heap.size,1,none⟩ (.i 0)=W5 at *;exact aU (v:=.tuple #[.agg #[.i 0,.i 0],.slice none 0 0,.i 1]) (by simp[results,Aq,go_sem,L,M]) rfl ⟨_,rfl,Ow.nil _ _ _ _ _,V.o⟩
 .rw[hf]at H
  by_cases y7:d<0
  .have A:gZ o d l=(1,⟨0,0⟩,[]):=by unfold gZ; rw[hf,aX (show ¬0≤d by omega)]; rfl
   rw[A];clear hf A;go_enter func253,Ap;go_wp2_with fail;refine mb' H.o fun w2 r=>?_;have X:=kp (HB.o.on r);have j:=Q.o.below r Q.o.lt;have O:=j.cell 0;have P:=j.cell 1;have y0:=j.frozen 0;have y1:=j.frozen 1;have S:=kp (((j.setCell 0 (.i 0)).setCell 1 (.i 0)).cell 0);have T:=kp (((j.setCell 0 (.i 0)).setCell 1 (.i 0)).cell 1);simp only[aG,aK]at O P;clear j;clear r;go_wp2_with fail;clear O P y0 y1;have L:=S.o;have M:=T.o;simp only[aH,aI,aG,aK]at L M;have V:=kp (((X.o).setCell (p:=⟨w.heap.size,0,none⟩) (aD _) (.i 0)).setCell (p:=⟨w.heap.size,1,none⟩) (aD _) (.i 0));clear S T;generalize (w2.setCell ⟨w.heap.size,0,none⟩ (.i 0)).setCell ⟨w.heap.size,1,none⟩ (.i 0)=W5 at *;exact aU (v:=.tuple #[.agg #[.i 0,.i 0],.slice none 0 0,.i 1]) (by simp[results,Aq,go_sem,L,M]) rfl ⟨_,rfl,Ow.nil _ _ _ _ _,V.o⟩
  have h0:0≤d:=by omega
  by_cases C3:o<d
  .have A:gZ o d l=(1,⟨0,0⟩,[]):=by unfold gZ; rw[hf,aX (show ¬d≤o by omega)]; simp
   rw[A];clear hf A y7;go_enter func253,Ap;go_wp2_with fail;refine mb' H.o fun w2 r=>?_;have X:=kp (HB.o.on r);have j:=Q.o.below r Q.o.lt;have O:=j.cell 0;have P:=j.cell 1;have y0:=j.frozen 0;have y1:=j.frozen 1;have S:=kp (((j.setCell 0 (.i 0)).setCell 1 (.i 0)).cell 0);have T:=kp (((j.setCell 0 (.i 0)).setCell 1 (.i 0)).cell 1);simp only[aG,aK]at O P;clear j;clear r;go_wp2_with fail;clear O P y0 y1;have L:=S.o;have M:=T.o;simp only[aH,aI,aG,aK]at L M;have V:=kp (((X.o).setCell (p:=⟨w.heap.size,0,none⟩) (aD _) (.i 0)).setCell (p:=⟨w.heap.size,1,none⟩) (aD _) (.i 0));clear S T;generalize (w2.setCell ⟨w.heap.size,0,none⟩ (.i 0)).setCell ⟨w.heap.size,1,none⟩ (.i 0)=W5 at *;exact aU (v:=.tuple #[.agg #[.i 0,.i 0],.slice none 0 0,.i 1]) (by simp[results,Aq,go_sem,L,M]) rfl ⟨_,rfl,Ow.nil _ _ _ _ _,V.o⟩
  have h1:d≤o:=by omega
  have A:gZ o d l=match iY d l with |none=>(40,⟨0,0⟩,[])|some (b,b0)=>(0,b,b0):=by unfold gZ; rw[hf,bY h0,bY h1]; rfl
  have HR:=kp A;have b2:=kp (fun(w':World)(b6:Below (w.alloc (.cells #[.i 0,.i 0] 88)).heap.size (w.alloc (.cells #[.i 0,.i 0] 88)) w')=>Tj o d v B l w' (HS.o.below b6 o1.o) (aB o1.o b6.size) (by omega) hf h0 h1);have o0:=kp hf;clear A y7 C3 hf;have a6:(l.any fun b=>decide (d≤b.o))=(eX d l).isSome:=by
   cases hb:eX d l with
   |none=>
    rw[pF.2]
    .rfl
    .intro y hy;have:=(Cd d l).1 hb y hy;simp; omega
   |some y=>
    have:=rA d l y hb;exact kZ.2 ⟨y,this.1,by simpa using this.2.1⟩
  rw[a6]at b2;clear a6
  cases a0:eX d l with
  |none=>
   rw[a0]at b2;have A:gZ o d l=(40,⟨0,0⟩,[]):=by rw[HR.o]; unfold iY; rw[a0]; rfl
   rw[A];clear A a0;go_enter func253,Ap;go_wp2_with fail;refine mb' H.o fun w2 r=>?_;have X:=kp (HB.o.on r);have z3:=kp (b2.o w2 r);have a4:=r;clear r;go_wp2_with fail;refine mb' z3.o fun E Z=>?_;have g0:=kp (X.o.on Z);have j:=(Q.o.below a4 Q.o.lt).below Z (Q.o.below a4 Q.o.lt).lt;have O:=j.cell 0;have P:=j.cell 1;have y0:=j.frozen 0;have y1:=j.frozen 1;have S:=kp (((j.setCell 0 (.i 0)).setCell 1 (.i 0)).cell 0);have T:=kp (((j.setCell 0 (.i 0)).setCell 1 (.i 0)).cell 1);simp only[aG,aK]at O P;clear j Z a4;go_wp2_with fail;clear O P y0 y1;have L:=S.o;have M:=T.o;simp only[aH,aI,aG,aK]at L M;have V:=kp (((g0.o).setCell (p:=⟨w.heap.size,0,none⟩) (aD _) (.i 0)).setCell (p:=⟨w.heap.size,1,none⟩) (aD _) (.i 0));clear S T;generalize (E.setCell ⟨w.heap.size,0,none⟩ (.i 0)).setCell ⟨w.heap.size,1,none⟩ (.i 0)=W5 at *;exact aU (v:=.tuple #[.agg #[.i 0,.i 0],.slice none 0 0,.i 40]) (by simp[results,Aq,go_sem,L,M]) rfl ⟨_,rfl,Ow.nil _ _ _ _ _,V.o⟩
  |some bx=>
   rw[a0]at b2;have q4:=kp (rA d l bx a0);clear a0;go_enter func253,Ap;go_wp2_with fail;refine mb' H.o fun w2 r=>?_;have X:=kp (HB.o.on r);have z3:=kp (b2.o w2 r);have l5:=kp (Q.o.below r Q.o.lt);have q9:=kp (HS.o.below r o1.o);have p4:=kp (aB o1.o r.size);clear r;go_wp2_with fail;refine mb' z3.o fun E Z=>?_;have g0:=kp (X.o.on Z);have a3:=kp (l5.o.below Z l5.o.lt);have o9:=kp (Tk d v B l E (q9.o.below Z p4.o) (aB p4.o Z.size) (by omega));clear Z;go_wp2_with fail;refine o9.o.mono ?_;rintro e w4 ⟨J,gD,vq,vs,lq,rfl,m7,d7,m6,d4⟩;have d5:=kp m7;have o2:=k'2 d7 m6;have e8:=kp (g0.o.on d4);have m5:=kp (a3.o.below d4 a3.o.lt);clear m7 d7 m6 d4;have q':lq.length≤400000:=by rw[o2.a.length_eq]; exact aB (nB _ _) hn
   have e7:0<lq.length:=List.length_pos_of_mem (o2.a.mem_iff.2 (List.mem_filter.2 ⟨q4.a,by simpa [gK] using q4.b⟩));have d3:=ba' w4 (.cells #[.pointer (some ⟨J,0,none⟩)] 299);have o8:=kp (Blk.new w4 299 [.pointer (some ⟨J,0,none⟩)]);have a1:=kp (d5.o.below d3);have c':=kp (m5.o.below d3 m5.o.lt);have m4:=kp (e8.o.on d3);have a5:=kp (Tg _ a1.o.que (by omega) e7 o2.B);unfold qV Bk.cells at a5;clear e7 d3;go_wp2_with fail;refine a5.o.mono ?_;rintro e G ⟨x,l6,v6,rfl,j7,l2,j4,p6⟩;have y3:=kp (a1.o.big j7 l2);have l3:=kp (a1.o.que.keep o8.o l2);have b3:=kp (a1.o.que.keep2 c'.o l2 (by have:=g0.o.size; have:=a3.o.lt; omega));have g3:=kp (m4.o.trans (l2.chg.below (fun i n=>n.elim (fun e=>by have:=a1.o.que.lo; have:=g0.o.size; omega) fun e=>by have:=(a1.o.que.row.lt e).1; have:=g0.o.size; omega) m4.o.size));have d2:=kp (Tn o0.o o2.a rfl j4 p6);have C9:l6.length≤400000:=by have:=j4.length_eq; simp at this; omega
   have z8:=kp (fI ((iJ _ _).1 o0.o).1 (((iJ _ _).1 o0.o).2.1 x d2.D));have e9:=kp (eF ((iJ _ _).1 o0.o).1);have z9:=kp (show gZ o d l=(0,(fW d 9 x (eJ l x)).1,(fW d 9 x (eJ l x)).2) by rw[HR.o,d2.a]);have j2:=ba' G (.cells #[.i x.a,.i x.o] 88);have a':=kp (Blk.new G 88 [.i x.a,.i x.o]);have l9:=kp (y3.o.below j2);have p8:=kp (l3.o.below j2 l3.o.lt);have d':=kp (b3.o.below j2 b3.o.lt);have g8:=kp (g3.o.on j2);have b9:=kp (show ∀i,v6.ownBlock=some i→i≠G.heap.size from fun i n e=>by have:=(y3.o.que.row.lt n).2; omega);have s:=k'4 g0.o.size a3.o.lt d5.o.que.lo g3.o.size;clear j7 l2 j4 p6 j2 q';go_wp2_with fail
   go_loopw [46] (fun _ wr=>∃(b:Bk)(v l':_),(Qd wr E.heap.size J gD v vs l' (l.filter fun b=> !gK d b)∧(∀i,v.ownBlock=some i→i≠G.heap.size)∧G.heap.size<wr.heap.size)∧Blk wr w4.heap.size 299 [.pointer (some ⟨J,0,none⟩)]∧Blk wr G.heap.size 88 [.i b.a,.i b.o]∧Blk wr w.heap.size 88 [.i 0,.i 0]∧Bw' w wr∧
    ∃(m:Nat)(b0:List Bk),fW d m b b0=fW d 9 x (eJ l x)∧(l'++l.filter fun b=> !gK d b).Perm b0∧b.o-d≤m∧d≤b.o∧b.o≤8∧l'.length+m≤400100∧0≤b.a∧b.a≤256) (fun _ wr=>match wr.cell? ⟨G.heap.size,1,none⟩ with |some (.int _ z)=>(z-d).toNat|_=>0)
   case atStart=>
    refine⟨x,v6,l6,⟨l9.o,b9.o,by simp⟩,p8.o,a'.o,d'.o,g8.o,9,_,rfl,d2.b,?_,d2.c,?_,by omega,?_,?_⟩
    all_goals
     have:=z8.o;have:=e9.o;omega
   case round=>
    obtain⟨b,v7,l7,⟨hq,j1,D2⟩,hk,hx,hz,e3,m,b0,hs,hp,hm,D3,D4,D0,g',j'⟩:=hrel;have I:=kp hq;have a2:=kp j1;have HK:=kp hk;have HX:=kp hx;have q5:=kp hz;have m2:=kp e3;have g5:=kp hs;have p3:=kp hp;have q0:=hk.cell 0;have c0:=hx.cell 0;have c1:=hx.cell 1;have d1:=hx.frozen 1;simp only[aG,aK]at q0 c0 c1;clear hq j1 hk hx hz e3 hs hp
    by_cases y':d<b.o
    .have m0:=(Chg.refl (fun i=>i=G.heap.size) wr).setCell (.inr rfl) 1 (.i (b.o-1));have l4:=HX.o.setCell 1 (.i (b.o-1));obtain⟨W8,y5⟩:=nm' (wr.setCell ⟨G.heap.size,1,none⟩ (.i (b.o-1)));rw[y5]at m0 l4;have y2:=kp (show Blk W8 G.heap.size 88 [.i b.a,.i (b.o-1)] from l4);have m9:=kp (I.o.off HX.o m0 a2.o (fun i n e=>by have:=(y3.o.small.lt n).2; omega));have m3:=kp (HK.o.chg m0 (by have:=l3.o.lt; omega));have o5:=kp (q5.o.chg m0 (by have:=b3.o.lt; omega));have j8:=kp (m2.o.trans (m0.below (fun i n=>by have:=b3.o.lt; omega) m2.o.size));have y9:=kp m0.size;have q8:=aP (m3.o.cell 0);have e0:=aP (y2.o.cell 0);have e1:=aP (y2.o.cell 1);have E:=gF (b.o-1);clear m0 l4;go_wp2_with fail;clear y5 q0 c0 c1 d1;refine uT 12 (by kernel_rfl) (by kernel_rfl) ?_;simp only[qK,mZ,dO,dP]
     repeat (go_big_quiet_step ((go_at_call 174; with_reducible refine dG (iT _ _))))
     refine bH ?_;rintro W9 ⟨⟨_,l0⟩,rfl⟩;have Y:=kp (m9.o.below l0);have y8:=kp (m3.o.below l0 m3.o.lt);have e':=kp (o5.o.below l0 o5.o.lt);have z2:=kp (y2.o.below l0 y2.o.lt);have o4:=kp (j8.o.on l0);have C8:=kp (aB y9.o l0.size);have g9:=kp (show Calls prog 270 #[.iface 299 (.agg #[.pointer (some ⟨J,0,none⟩)]),.iface 88 (.agg #[.i (b.a+aQ (b.o-1)),.i (b.o-1)])] W9 _ from Th ⟨b.a+aQ (b.o-1),b.o-1⟩ W9 Y.o.que (by omega) (by have:=s.D; have:=z2.o.lt; have:=g3.o.size; have:=Y.o.que.lo; have:=Y.o.que.blk.lt; omega));clear l0 q8 e0 e1;go_wp2_with fail;refine g9.o.mono ?_;rintro e C6 ⟨rfl,a8,C5,g7,d0,b7⟩;have j9:=kp (Y.o.big g7 d0);have m8:=kp (Y.o.que.keep y8.o d0);have q6:∀i,i=J∨v7.ownBlock=some i→i≠G.heap.size:=fun i n e=>n.elim (fun e2=>by subst e2; subst e; have:=(show W9.heap[_]? =_ from z2.o).symm.trans Y.o.que.blk; simp at this) fun e2=>a2.o i e2 e;have p2:=kp (z2.o.chg d0.chg fun hs=>q6 _ hs rfl);have b':=kp (Y.o.que.keep2 e'.o d0 (by have:=s.a; have:=s.b; omega));have d8:=kp (o4.o.trans (d0.chg.below (fun i n=>n.elim (fun e=>by have:=Y.o.que.lo; have:=s.a; have:=s.b; omega) fun e=>by have:=(Y.o.que.row.lt e).1; have:=s.a; have:=s.b; omega) o4.o.size));have a9:=kp (show ∀i,a8.ownBlock=some i→i≠G.heap.size from fun i n e=>(d0.own i n).elim (fun h2=>a2.o i h2 e) fun hk=>by have:=z2.o.lt; omega);have C7:=kp d0.chg.size;have y4:=kp b7;have g1:=p2.o.cell 1;have g2:=HX.o.cell 1;simp only[aG,aK]at g1 g2;clear g7 d0 b7 q6;go_wp2_with fail;go_roundw
     case rel=>
      obtain⟨m',rfl⟩:∃m',m=m'+1:=⟨m-1,by omega⟩
      have C4:aQ (b.o-1)=aJ (b.o-1):=fD (by omega) (by omega);refine⟨⟨b.a,b.o-1⟩,a8,C5,⟨j9.o,a9.o,by have:=p2.o.lt; exact this⟩,m8.o,p2.o,b'.o,d8.o,m',dL b0 ⟨b.a+aQ (b.o-1),b.o-1⟩,?_,?_,by show b.o-1-d≤m'; omega,by show d≤b.o-1; omega,by show b.o-1≤8; omega,?_,g',j'⟩
      .rw[←g5.o,C4]
       conv=>rhs; unfold fW
       rw[aE y']
      .exact ((y4.o.append_right _).trans ((List.perm_cons _).2 p3.o)).trans (pN _ _).symm
      .have:=y4.o.length_eq;simp at this;omega
     case measure=>
      rw[show C6.cell? ⟨G.heap.size,1,none⟩=_ from p2.o.cell 1,show wr.cell? ⟨G.heap.size,1,none⟩=_ from HX.o.cell 1];show (b.o-1-d).toNat<(b.o-d).toNat;omega
    .have a0:b.o=d:=by omega
     have e5:=kp (show fW d 9 x (eJ l x)=(b,b0) from by rw[←g5.o]; cases m<;>simp[fW,a0]);obtain⟨ls,g4⟩:=nm' (l.filter fun b=> !gK d b);rw[g4]at I p3;have D1:ls.length≤400000:=by rw[←g4]; exact aB (nB _ _) hn
     clear g4 a0 q0 c0 c1 d1;have c1:=HX.o.cell 1;simp only[aG,aK]at c1;go_wp2_with fail;clear c1;have H:=kp (fun W(f:Chg (fun i=>v7.ownBlock=some i) wr W∧Ow W E.heap.size 88 2 v7 Bk.cells l7)=>
      jQ (I.o.que.keep HK.o (g:=J) (v':=v7) ⟨f.1.mono fun i _ n=>.inr n,fun _ h=>.inl h⟩) (jQ (I.o.que.blk_chg f.1) (I.o.small.chg f.1 fun i n he=>I.o.sep i n he)))
     have d6:E.heap.size≤wr.heap.size:=by have:=s.c; have:=I.o.que.blk.lt; omega
     refine kU 11 (fun W=>Chg (fun i=>v7.ownBlock=some i) wr W∧Ow W E.heap.size 88 2 v7 Bk.cells l7) (kD 8 fun i=>v7.ownBlock=some i) (by kernel_rfl) (by kernel_rfl) ⟨(Chg.refl _ _).drew,I.o.que.row.below (bR (aL _ _))⟩ ?_
     iterate 8 (refine bO ?_; apply Exists.intro)
     refine bS (fun u W=>Ow W E.heap.size 88 2 u Bk.cells (l7++ls)∧∀k,u.ownBlock=some k→v7.ownBlock=some k∨wr.heap.size≤k) ?_
     iterate 2 (refine bO ?_; apply Exists.intro)
     refine dR ⟨?pers,?walk⟩
     case walk=>
      iterate 8
       apply Sz (by kernel_rfl) (by intro t w h; cases h; exact trivial) rfl
       .intro W f U; have q:=(H.o W f).1.cell 0; have q2:=(H.o W f).2.1.cell 0; simp only[aG]at q q2; go_wp2_with fail;exact⟨rfl,_,rfl,f,fQ (by decide) (aL _ _),rfl⟩
       simp only[Act.put,aN,aH,aI]
      refine⟨fun W f U=>?_,fun u8=>?_⟩
      .have e3:E.heap.size≤W.heap.size:=aB d6 f.1.size;go_wp2_with (at_builtin; refine mO (enc:=Bk.cells) W rfl (.tmp 72) (.tmp 73) 27 rfl E.heap.size 88 jA fC rfl (by omega) bM f.2 rfl ((H.o W f).2.2.sl bM) rfl (fun a _=>gU a) ?_ ?_ e3 ?_)
       .unfold maxLen; omega
       .omega
       intro v' W3 ho z' hg o';exact⟨rfl,_,rfl,⟨f.1.trans (fZ hg) (fun _ _ h=>h),z'⟩,rK (fZ hg),ho,fun k hk=>(o' k hk).imp id (aB f.1.size)⟩
      simp only[Act.put,aN,aH,aI]
      iterate 2
       apply Sz (by kernel_rfl) (by intro t w h; cases h; exact trivial) rfl
       .intro W f U; go_wp2_with fail;exact⟨rfl,_,rfl,f,fQ (by decide) (aL _ _),rfl⟩
       simp only[Act.put,aN,aH,aI]
      intro W f U;have f8:=U 74;obtain⟨f8,f9⟩:=f8;have q:=(H.o W f).2.1.cell 0;have qf:=(H.o W f).2.1.frozen 0;have HW:=kp f;have b5:=kp (H.o W f);have h8:=kp f8;have h9:=kp f9;simp only[dO,dP,aG]at q ⊢;obtain⟨F,c8,q7,_,_⟩:=eD f8;obtain⟨N,hN⟩:=nm' ((l7++ls).length);rw[hN]at q7;subst q7;clear U f f8 f9;have o7:Que (W.setCell ⟨J,0,none⟩ (.slice F N c8)) E.heap.size J (.slice F N c8) (l7++ls):=
       ⟨b5.b.setCell 0 _,h8.o.chg ((Chg.refl (fun i=>i=J) W).setCell (.inr rfl) 0 _) (fun i n he=>h8.o.ne_blk b5.b (by decide) (he▸n)),I.o.que.lo⟩
      have m1:QTo wr (W.setCell ⟨J,0,none⟩ (.slice F N c8)) J v7 (.slice F N c8):=⟨(HW.a.mono fun i _ n=>.inr n).setCell (.inr (.inl rfl)) 0 _,h9.o⟩
      have j0:=kp o7;have o3:=kp (I.o.que.keep HK.o m1);have j5:=kp (HX.o.chg m1.chg fun hs=>hs.elim (fun e=>by have:=(show wr.heap[_]? =_ from HX.o).symm.trans (e▸I.o.que.blk); simp at this) fun e=>a2.o _ e rfl);have p5:=kp (I.o.que.keep2 q5.o m1 (by have:=s.a; have:=s.b; omega));have j3:=kp (m2.o.trans (m1.chg.below (fun i n=>n.elim (fun e=>by have:=I.o.que.lo; have:=s.a; have:=s.b; omega) fun e=>by have:=(I.o.que.row.lt e).1; have:=s.a; have:=s.b; omega) m2.o.size));have e6:E.heap.size≤(W.setCell ⟨J,0,none⟩ (.slice F N c8)).heap.size:=aB d6 m1.chg.size;obtain⟨Wn,z5⟩:=nm' (W.setCell ⟨J,0,none⟩ (.slice F N c8));rw[z5]at j0 o3 j5 p5 j3 e6;clear o7 m1;go_wp2_with fail;clear q qf z5;have d9:=kp (show ∀i,(Value.slice F N c8).ownBlock=some i→i≠G.heap.size from fun i n e=>(h9.o i n).elim (fun h2=>a2.o i h2 e) fun hk=>by omega);have q1:=kp (fun W(f:Chg (fun i=>(Value.slice F N c8).ownBlock=some i) Wn W∧∃K,Ow W E.heap.size 88 2 (.slice F N c8) Bk.cells K∧K.Perm (l7++ls))=>
       jQ (o3.o.chg f.1 (j0.o.row.ne_blk o3.o (by decide))) (jQ (j0.o.blk_chg f.1) (jQ (j5.o.chg f.1 fun he=>d9.o _ he rfl) (p5.o.chg f.1 fun he=>by have:=(j0.o.row.lt he).1; have:=s.a; have:=s.b; omega))))
      refine kU 4 (fun W=>Chg (fun i=>(Value.slice F N c8).ownBlock=some i) Wn W∧∃K,Ow W E.heap.size 88 2 (.slice F N c8) Bk.cells K∧K.Perm (l7++ls)) (kD 3 fun i=>(Value.slice F N c8).ownBlock=some i) (by kernel_rfl) (by kernel_rfl) ⟨(Chg.refl _ _).drew,_,j0.o.row.below (bR (aL _ _)),.refl _⟩ ?_
      iterate 3 (refine bO ?_; apply Exists.intro)
      refine bS (fun u W=>u=.slice F N c8∧∃K,K.Perm (l7++ls)∧K.Pairwise (fun x y=>x.a≤y.a)∧Ow W E.heap.size 88 2 (.slice F N c8) Bk.cells K) ?_;refine dR ⟨?pers2,?walk2⟩
      case walk2=>
       iterate 3
        apply Sz (by kernel_rfl) (by intro t w h; cases h; exact trivial) rfl
        .intro W f U; have q:=(q1.o W f).1.cell 0; have q2:=(q1.o W f).2.2.1.cell 0; have q3:=(q1.o W f).2.2.1.cell 1; simp only[aG,aK]at q q2 q3; go_wp2_with fail;exact⟨rfl,_,rfl,f,fQ (by decide) (aL _ _),rfl⟩
        simp only[Act.put,aN,aH,aI]
       refine⟨fun W f U=>?_,fun u8=>?_⟩
       .obtain⟨K,o6,l1⟩:=f.2;have p9:=kp (Tm W ⟨(q1.o W f).2.1,o6,j0.o.lo⟩ (by rw[l1.length_eq,bB]; omega) (aB e6 f.1.size));have HW:=kp f.1;have z4:=kp l1;clear U f o6 l1;go_wp2_with fail;refine p9.o.mono ?_;rintro e w' ⟨rfl,z7,a7,C0,y6,g6⟩;go_wp2_with fail;exact⟨rfl,_,rfl,⟨HW.o.trans g6 (fun _ _ h=>h),z7,y6,a7.symm.trans z4.o⟩,rK g6,rfl,z7,a7.symm.trans z4.o,C0,y6⟩
       simp only[Act.put,aN,aH,aI];intro W f U;have f8:=U 80;obtain⟨rfl,K,l1,p7,z6⟩:=f8;have b1:=kp (q1.o W f).2.2.2;have l8:=kp (j3.o.trans (f.1.below (fun i n=>by have:=(j0.o.row.lt n).1; have:=s.a; have:=s.b; omega) j3.o.size));have O:=b1.o.cell 0;have P:=b1.o.cell 1;have y0:=b1.o.frozen 0;have y1:=b1.o.frozen 1;have HL:=k'3 l1 p7 z6;simp only[dO,dP,aG,aK]at O P ⊢;clear U f l1 p7 z6;go_wp2_with fail;clear O P y0 y1;have L:=((b1.o.setCell 0 (.i b.a)).setCell 1 (.i b.o)).cell 0;have M:=((b1.o.setCell 0 (.i b.a)).setCell 1 (.i b.o)).cell 1;simp only[aH,aI,aG,aK]at L M;have j6:=((Chg.refl (fun i=>i=w.heap.size) W).setCell (.inr rfl) 0 (.i b.a)).setCell (.inr rfl) 1 (.i b.o);have V:=k'2 ((l8.o.setCell (p:=⟨w.heap.size,0,none⟩) (aD _) (.i b.a)).setCell (p:=⟨w.heap.size,1,none⟩) (aD _) (.i b.o)) (HL.C.chg j6 fun i n e=>by have:=(HL.C.lt n).1; have:=s.a; have:=s.b; omega);clear j6;generalize (W.setCell ⟨w.heap.size,0,none⟩ (.i b.a)).setCell ⟨w.heap.size,1,none⟩ (.i b.o)=Wf at *;refine aU (v:=.tuple #[.agg #[.i b.a,.i b.o],.slice F N c8,.i 0]) (by simp[results,Aq,go_sem,L,M]) rfl ?_;have e4:=(iJ _ _).1 o0.o;have C1:iY d l=some (b,b0):=by rw[d2.a,e5.o]
       have C2:=Hh (R:=[]) e4.1 h0 ((lE e4.1).1 o0.o) (by rw[fS]; exact e4.2.2.imp fun h=>h.2.1.symm) C1;have p':b0=K:=Qx C2.2.2.1.sort HL.b (p3.o.symm.trans HL.a.symm);rw[z9.o,e5.o];exact⟨_,rfl,by rw[p']; exact V.B.mono (by have:=s.a; have:=s.b; omega),V.a⟩
      case pers2=>
       refine⟨pv',pv',pv',?_,trivial⟩;rintro i u W W' j1 ⟨h1,K,h2,h3,h4⟩ A;exact⟨h1,K,h2,h3,h4.below (rL A j1)⟩
     case pers=>
      refine⟨pv',pv',pv',pv',pv',pv',pv',pv',?_,pv',pv',trivial⟩;rintro i u W W' j1 ⟨h1,h2⟩ A;exact⟨h1.below (rL A j1),h2⟩
end
section
open Go.RowKit Go.Lib
theorem pW{P:Program}(w:World)(f E F d:TypeId)(k g o e n:Nat)(a:Addr)(l D:Nat)(c:Array Value)(t:TypeId)(b:List Value)(m:Nat)
  (C:P.underlying f=some (.slice d)) (h:(P.info? d).map (·.size)=some k)
  (r:w.heap[g]? =some (.cells c t (0,0))) (y:m=Nat.min l e) (z:b.length=m*k)
  (A:∀j v,b[j]? =some v→w.cell? (a.add j)=some v) (q:o+b.length≤c.size) (p:∀v∈b,v.oneCell'=true):
  (Builtin.copy_ #[f,E] F #[.slice (some ⟨g,o,none⟩) e n,.slice (some a) l D]).run P w=
   .ok (goInt m) (w.setRow g (c.toList.take o++b++c.toList.drop (o+b.length)).toArray):=by
 have x:=run_loadCells_list (P:=P) w a b A;have B:=run_storeCells_at P g o t b 0 c w r (by simpa using q) p
 cases hq:P.info? d with
 |none=>simp[hq]at h
 |some i=>
  have s:i.size=k:=by simpa [hq] using h
  simp[Builtin.copy_,run_underlying C,Builtin.lenOf,Builtin.firstCells,sizeOf,typeInfo,hq,s,←y,←z,x,B]
theorem pX{P:Program}(w:World){b:Array Oper}{c:List Oper}{o:Oper}{a:Act}{Q:Exit→Act→World→Prop}(i:o.guard=none)(d s:Operand)(t e:TypeId)
  (j:o.op=.call {callee:=.builtin .copy,args:=#[d,s],argTypes:=#[t,e]}) (v u:Value) (g:a.eval d=v) (l:a.eval s=u) {v':Value} {w':World}
  (k:(Builtin.copy_ #[t,e] o.type #[v,u]).run P w=.ok v' w') (h:wpList P b Q c (a.put o.dst v') w'):wpList P b Q (o::c) a w:=by
 refine wpList_plain i fun _ f=>?_;unfold Oper.wp execOp;simp only[j,resolve,invoke,builtin,Sem.run_bind,Sem.run_pure,Result.andThen_ok,List.map_toArray,kM,wM,g,l,k];exact f _ _ h
def OR{α:Type}(w:World)(S:Nat→Prop)(t:TypeId)(k:Nat)(v:Value)(enc:α→List Value)(l:List α):Prop:=aO w S t k v l.length (aM enc l)
section
variable {α:Type}{enc:α→List Value}{w w':World}{S T:Nat→Prop}{base k:Nat}{t:TypeId}{v:Value}{l:List α}
theorem OR.of_ow(h:Ow w base t k v enc l)(a:∀i,base≤i→i<w.heap.size→S i):OR w S t k v enc l:=aO.of_own h a
theorem OR.below(h:OR w S t k v enc l)(a:Bw' w w'):OR w' S t k v enc l:=aO.below h a
theorem OR.sl(h:OR w S t k v enc l):Sl w w.heap.size v enc l:=by
 obtain⟨A,c,rfl,a,b⟩:=aO.slice h;exact⟨A,c,rfl,aO.rd h,a,b⟩
theorem OR.lt(h:OR w S t k v enc l):∀i,some i=v.ownBlock→S i∧i<w.heap.size:=aO.lt h
end
end
section
attribute [-go_sem] loadCellsFrom storeCells
attribute [local go_sem] bC
theorem tQ{P:Program}(w:World){p:Array Oper}{q:List Oper}{o:Oper}{a:Act}{Q:Exit→Act→World→Prop}(B:o.guard=none)(s x:Operand)(t:TypeId)
  (F:o.op=.call {callee:=.builtin .append,args:=#[s,x],argTypes:=#[t,t]})
  (e:TypeId) (i:TypeInfo) (size:Nat) (L:P.underlying t=some (.slice e)) (C:P.info? e=some i) (J:i.size=size)
  (g f d l:Nat) (k:Array Value) (A:w.heap[g]? =some (.cells k e (0,0))) (I:a.eval s=.slice (some ⟨g,f,none⟩) d l)
  (n:Addr) (m c:Nat) (b:List Value) (M:a.eval x=.slice (some n) m c) (D:b.length=m*size) (E:∀j u,b[j]? =some u→w.cell? (n.add j)=some u) (r:∀u∈b,u.oneCell'=true)
  (H:d+m≤l) (z:f+d*size+b.length≤k.size)
  (h:wpList P p Q q (a.put o.dst (.slice (some ⟨g,f,none⟩) (d+m) l)) (w.setRow g (k.toList.take (f+d*size)++b++k.toList.drop (f+d*size+b.length)).toArray)):
  wpList P p Q (o::q) a w:=by
 subst J;refine wpList_plain B fun K y=>?_;have G:=xX (P:=P) w t o.type e i L C g f d l k A n m c b D E r H z;unfold Oper.wp execOp;simp only[F,resolve,invoke,builtin,Sem.run_bind,Sem.run_pure,Result.andThen_ok,List.map_toArray,kM,wM,I,M,G];exact y _ _ h
section
variable {α:Type}{enc:α→List Value}
theorem yA(k:Nat)(b:∀a,(enc a).length=k):∀(l:List α)(j:Nat),(aM enc l).take (j*k)=aM enc (l.take j)
 |[],j=>by simp[aM]
 |a::l,0=>by simp[aM]
 |a::l,j+1=>by
  have e:aM enc (a::l)=enc a++aM enc l:=rfl;rw[e,qP,cN (by rw[b,gE]; omega),b,show (j+1)*k-k=j*k by rw[gE]; omega,yA k b l];rfl
theorem yB(k:Nat)(b:∀a,(enc a).length=k):∀(l:List α)(j:Nat),(aM enc l).drop (j*k)=aM enc (l.drop j)
 |[],j=>by simp[aM]
 |a::l,0=>by simp
 |a::l,j+1=>by
  have e:aM enc (a::l)=enc a++aM enc l:=rfl;rw[e,List.drop_append,gS (by rw[b,gE]; omega),aT,b,show (j+1)*k-k=j*k by rw[gE]; omega,yB k b l];rfl
theorem Cx(k:Nat)(b:∀a,(enc a).length=k)(l:List α)(i:Nat):(aM enc l).take (i*k)++(aM enc l).drop ((i+1)*k)=aM enc (l.eraseIdx i):=by
 rw[yA k b,yB k b,←lV,List.eraseIdx_eq_take_drop_succ]
end
def mP:List Value:=[.i 0,.i 0]
theorem Ix(w:World)(g b c:Nat)(a:Array Value)(k:TypeId)(h:w.heap[g]? =some (.cells a 88 (0,0)))(f:b+2≤a.size):
  Sem.run prog (Builtin.clear_ #[27] k #[.slice (some ⟨g,b,none⟩) 1 c]) w=.ok (.tuple #[]) (w.setRow g (a.toList.take b++mP++a.toList.drop (b+mP.length)).toArray):=by
 have i:(underlying 27).run prog w=.ok (.slice 88) w:=by simp[run_underlying fC]
 have j:(zeroValue 88).run prog w=.ok (.agg mP.toArray) w:=by simp[mP]
 have d:=run_storeCells_at prog g b 88 mP 0 a w h (by simpa [mP] using f) (by simp[mP,Value.oneCell']);simp only[cF]at d;have e:(Builtin.zeroCells (Value.agg mP.toArray).cells 1).toList=mP:=by kernel_rfl
 unfold Builtin.clear_;simp only[Sem.run_bind,i,Result.andThen_ok,Ew,aG,j,e,d,Sem.run_pure]
theorem Tp{S:Nat→Prop}{v:Value}{l:List Bk}(i j:Nat)(w:World)(h:OR w S 88 2 v Bk.cells l)(o0:∀u∈aM Bk.cells l,u.oneCell'=true)(W:i<l.length)(L:j=i+1):
  Calls prog 287 #[v,.i i,.i j] w fun e w'=>∃v',e=.returned v'∧OR w' S 88 2 v' Bk.cells (l.eraseIdx i)∧Chg (fun k=>some k=v.ownBlock) w w'∧v'.ownBlock=v.ownBlock:=by
 unfold OR at *;obtain⟨g,m,cap,p,rfl,hs,hg,X,hm,y0,O⟩:=h.form (by omega);obtain⟨n,N⟩:=nm' l.length;rw[N]at W X O h ⊢;have H:=k'7 h hs hg y0 O o0 N;have HJ:=kp L;have Q:=kp (show (l.eraseIdx i).length=n-1 by rw[Oy,N,aE W]);clear h hs hg y0 O o0 N;have a1:((i:Int)==(j:Int))=false:=by simp; omega
 have a2:(j:Int)≤(n:Int):=by omega
 have a3:(n:Int)≤(cap:Int):=by omega
 have a4:(i:Int)≤(cap:Int):=by omega
 have a5:(i:Int)≤(j:Int):=by omega
 obtain⟨i0,l0,d2,z0,e2⟩:=info_parts jA;obtain⟨r,P⟩:=nm' w.drew;have j0:r.heap[g]? =some (.cells p 88 (0,0)):=by rw[←P]; exact H.c
 have a0:Chg (fun k=>some k=(Value.slice (some ⟨g,m,none⟩) n cap).ownBlock) w r:=by rw[←P]; exact (Chg.refl _ _).drew
 have p0:Rd r r.heap.size (some ⟨g,m,none⟩) (aM Bk.cells l):=by rw[←P]; exact H.a.rd
 have B:=k'3 j0 a0 p0; clear j0 a0 p0;have Y:=kp P; clear P;have g0:∀(I F:List Value)(s:World)(q:Array Value),(aM Bk.cells l).drop (j*2)=I→q=(p.toList.take (m+i*2)++I++p.toList.drop (m+i*2+I.length)).toArray→F.length=2→s=(r.setRow g q)→
   m+(n-1)*2+F.length≤q.size∧aO (s.setRow g (q.toList.take (m+(n-1)*2)++F++q.toList.drop (m+(n-1)*2+F.length)).toArray) S 88 2 (.slice (some ⟨g,m,none⟩) (n-1) cap) (n-1) (aM Bk.cells (l.eraseIdx i))∧
    Chg (fun k=>some k=(Value.slice (some ⟨g,m,none⟩) n cap).ownBlock) w (s.setRow g (q.toList.take (m+(n-1)*2)++F++q.toList.drop (m+(n-1)*2+F.length)).toArray):=by
  intro I F s q m0 x g2 y;subst y;have N:I.length=(n-j)*2:=by rw[←m0,dX,eB 2 bM,H.G,iF]
  have d0:cap*2≤p.size-m:=by have:=H.d; omega
  have q1:n*2≤cap*2:=dV _ X;have o1:i*2+2≤n*2:=by have:=dV 2 W; omega
  have p1:j*2=i*2+2:=by rw[L]; omega
  have y1:(n-j)*2=n*2-j*2:=iF ..;have M:(n-1)*2=n*2-2:=by rw[iF]
  have z1:q.size=p.size:=by
   rw[x];simp only[gT,bB,cZ,dX,hP];omega
  have D:=setRow_heap r g p q 88 (0,0) B.a;refine⟨by omega,⟨?_,.inr ⟨g,m,cap,_,rfl,H.b,setRow_heap _ g q _ _ (0,0) D,by omega,hm,?_,?_⟩⟩,?_⟩
  .rw[eB 2 bM,Q.o]
  .simp only[gT,bB,cZ,dX,hP];omega
  .rw[←Cx 2 bM];simp only[cR];rw[nZ (by simp; omega),sQ (by simp; omega),oD,show m+(n-1)*2-m=(n-1)*2 by omega,kN,Nat.min_self];rw[x];simp only[cR];rw[nZ (by simp; omega),qP,oD,show m+i*2-m=i*2 by omega,cZ,dX,hP,
    show min (i*2) (p.size-m)=i*2 by omega,kN,show min ((n-1)*2) (i*2)=i*2 by omega]
   rw[qP,show (n-1)*2-i*2=I.length by omega,Ab,qS,mZ,fS,←m0,L]
   congr 1
   have O:=H.e;rw[←O,kN]
   congr 1
   omega
  .exact (B.b.setRow (.inr (by simp[Value.ownBlock])) _).setRow (.inr (by simp[Value.ownBlock])) _
 have U:=kp g0; clear g0;have b0:∀t u,(aM Bk.cells l)[t]? =some u→r.cell? ⟨g,m+t,none⟩=some u:=by
  intro t u A;rcases B.C with h|⟨b',j2,e,_,hc⟩
  .rw[h]at A; cases A
  .cases e;exact hc t u A
 have d1:=kp b0; clear b0;obtain⟨E,M⟩:=nm' (n-1);rw[M]at U Q;have b1:(E:Int)≤(n:Int):=by omega
 have b2:n-E=1:=by omega
 have b3:¬cap=E:=by omega
 have l1:=kp b2;have V:=kp (show (aM Bk.cells l).length=n*2 by rw[eB 2 bM,H.G]);have m1:=k'2 M b3
 by_cases j1:cap=j
 .subst j1;obtain rfl:n=cap:=by omega
  have Z:i=E:=by omega
  have E0:=kp Z;have T:=kp (show (aM Bk.cells l).drop (n*2)=[] from gS (by rw[V.o]; exact aD _));have R:m+i*2+0≤p.size:=by have:=H.d; omega
  clear L M Z;go_enter func287,ntmps287;go_wp2_with fail
  go_still_tail 6,(by kernel_rfl)
  change wpList _ _ _ _ _ w.drew;rw[Y.o];refine tQ r rfl (.tmp 22) (.tmp 25) _ rfl 88 i0 2 fC l0 z0 g m i n p B.a rfl ⟨g,m,none⟩ 0 0 [] rfl rfl (by intro j u h; cases h) (by intro u h; cases h) (by omega) R ?_;obtain⟨s,y⟩:=nm' (r.setRow g (p.toList.take (m+i*2)++[]++p.toList.drop (m+i*2+([]:List Value).length)).toArray);rw[y,cF,E0.o];have K:=kp y; clear y;obtain⟨q,x⟩:=nm' ((p.toList.take (m+i*2)++[]++p.toList.drop (m+i*2+([]:List Value).length)).toArray);have z:=U.o [] mP s q T.o x.symm rfl (by rw[←K.o,x]);have D:s.heap[g]? =some (.cells q 88 (0,0)):=by rw[←K.o,x]; exact setRow_heap r g p _ _ _ B.a
  have d0:=fun c=>Ix s g (m+E*2) c q 0 D z.1;simp only[cR]at z;have J:=kp z;clear z D x;go_wp2_with fail;go_ret;refine⟨_,rfl,?_,J.C,rfl⟩;rw[Q.o];exact J.b
 .have g1:=kp (show i+(n-j)=E by omega);have R:m+i*2+((aM Bk.cells l).drop (j*2)).length≤p.size:=by
   rw[dX,V.o];have:=H.d;have h1:n*2≤cap*2:=dV _ X;have h2:i*2≤j*2:=dV _ (by omega);have h3:j*2≤n*2:=dV _ (by omega);omega
  have q0:i+(n-j)≤cap:=by omega
  have T:=kp (show ((aM Bk.cells l).drop (j*2)).length=(n-j)*2 by rw[dX,V.o,iF]);have e1:=kp (show ∀u∈(aM Bk.cells l).drop (j*2),u.oneCell'=true from fun u A=>H.f u (zS A));clear L M;go_enter func287,ntmps287;go_wp2_with fail
  go_still_tail 6,(by kernel_rfl)
  change wpList _ _ _ _ _ w.drew;rw[Y.o];refine tQ r rfl (.tmp 22) (.tmp 25) _ rfl 88 i0 2 fC l0 z0 g m i cap p B.a rfl ⟨g,m+j*2,none⟩ (n-j) (cap-j) ((aM Bk.cells l).drop (j*2)) rfl T.o ?_ e1.o q0 R ?_
  .intro t u A;rw[Addr.add_lit,oE];exact d1.o _ u (by rw[mG]at A; exact A)
  obtain⟨s,y⟩:=nm' (r.setRow g (p.toList.take (m+i*2)++(aM Bk.cells l).drop (j*2)++p.toList.drop (m+i*2+((aM Bk.cells l).drop (j*2)).length)).toArray);rw[y,g1.o];have K:=kp y; clear y;obtain⟨q,x⟩:=nm' ((p.toList.take (m+i*2)++(aM Bk.cells l).drop (j*2)++p.toList.drop (m+i*2+((aM Bk.cells l).drop (j*2)).length)).toArray);have z:=U.o _ mP s q rfl x.symm rfl (by rw[←K.o,x]);have D:s.heap[g]? =some (.cells q 88 (0,0)):=by rw[←K.o,x]; exact setRow_heap r g p _ _ _ B.a
  have d0:=fun c=>Ix s g (m+E*2) c q 0 D z.1;simp only[cR]at z;have J:=kp z;clear z D x R q0;go_wp2_with fail;go_ret;refine⟨_,rfl,?_,J.C,rfl⟩;rw[Q.o];exact J.b
def mQ:List Value:=z'5
theorem Iy(w:World)(g b c:Nat)(a:Array Value)(k:TypeId)(h:w.heap[g]? =some (.cells a 90 (0,0)))(f:b+5≤a.size):
  Sem.run prog (Builtin.clear_ #[25] k #[.slice (some ⟨g,b,none⟩) 1 c]) w=.ok (.tuple #[]) (w.setRow g (a.toList.take b++mQ++a.toList.drop (b+mQ.length)).toArray):=by
 have i:(underlying 25).run prog w=.ok (.slice 90) w:=by simp[run_underlying nE]
 have j:(zeroValue 90).run prog w=.ok (.agg mQ.toArray) w:=by simp[mQ]
 have d:=run_storeCells_at prog g b 90 mQ 0 a w h (by simpa [mQ] using f) (by simp[mQ,Value.oneCell']);simp only[cF]at d;have e:(Builtin.zeroCells (Value.agg mQ.toArray).cells 1).toList=mQ:=by kernel_rfl
 unfold Builtin.clear_;simp only[Sem.run_bind,i,Result.andThen_ok,Ew,aG,j,e,d,Sem.run_pure]
theorem Tq{S:Nat→Prop}{v:Value}{l:List ObV}(i j:Nat)(w:World)(h:OR w S 90 5 v ObV.cells l)(o0:∀u∈aM ObV.cells l,u.oneCell'=true)(W:i<l.length)(L:j=i+1):
  Calls prog 272 #[v,.i i,.i j] w fun e w'=>∃v',e=.returned v'∧OR w' S 90 5 v' ObV.cells (l.eraseIdx i)∧Chg (fun k=>some k=v.ownBlock) w w'∧v'.ownBlock=v.ownBlock:=by
 unfold OR at *;obtain⟨g,m,cap,p,rfl,hs,hg,X,hm,y0,O⟩:=h.form (by omega);obtain⟨n,N⟩:=nm' l.length;rw[N]at W X O h ⊢;have H:=k'7 h hs hg y0 O o0 N;have HJ:=kp L;have Q:=kp (show (l.eraseIdx i).length=n-1 by rw[Oy,N,aE W]);clear h hs hg y0 O o0 N;have a1:((i:Int)==(j:Int))=false:=by simp; omega
 have a2:(j:Int)≤(n:Int):=by omega
 have a3:(n:Int)≤(cap:Int):=by omega
 have a4:(i:Int)≤(cap:Int):=by omega
 have a5:(i:Int)≤(j:Int):=by omega
 obtain⟨i0,l0,d2,z0,e2⟩:=info_parts pS;obtain⟨r,P⟩:=nm' w.drew;have j0:r.heap[g]? =some (.cells p 90 (0,0)):=by rw[←P]; exact H.c
 have a0:Chg (fun k=>some k=(Value.slice (some ⟨g,m,none⟩) n cap).ownBlock) w r:=by rw[←P]; exact (Chg.refl _ _).drew
 have p0:Rd r r.heap.size (some ⟨g,m,none⟩) (aM ObV.cells l):=by rw[←P]; exact H.a.rd
 have B:=k'3 j0 a0 p0; clear j0 a0 p0;have Y:=kp P; clear P;have g0:∀(I F:List Value)(s:World)(q:Array Value),(aM ObV.cells l).drop (j*5)=I→q=(p.toList.take (m+i*5)++I++p.toList.drop (m+i*5+I.length)).toArray→F.length=5→s=(r.setRow g q)→
   m+(n-1)*5+F.length≤q.size∧aO (s.setRow g (q.toList.take (m+(n-1)*5)++F++q.toList.drop (m+(n-1)*5+F.length)).toArray) S 90 5 (.slice (some ⟨g,m,none⟩) (n-1) cap) (n-1) (aM ObV.cells (l.eraseIdx i))∧
    Chg (fun k=>some k=(Value.slice (some ⟨g,m,none⟩) n cap).ownBlock) w (s.setRow g (q.toList.take (m+(n-1)*5)++F++q.toList.drop (m+(n-1)*5+F.length)).toArray):=by
  intro I F s q m0 x g2 y;subst y;have N:I.length=(n-j)*5:=by rw[←m0,dX,eB 5 cM,H.G,iF]
  have d0:cap*5≤p.size-m:=by have:=H.d; omega
  have q1:n*5≤cap*5:=dV _ X;have o1:i*5+5≤n*5:=by have:=dV 5 W; omega
  have p1:j*5=i*5+5:=by rw[L]; omega
  have y1:(n-j)*5=n*5-j*5:=iF ..;have M:(n-1)*5=n*5-5:=by rw[iF]
  have z1:q.size=p.size:=by
   rw[x];simp only[gT,bB,cZ,dX,hP];omega
  have D:=setRow_heap r g p q 90 (0,0) B.a;refine⟨by omega,⟨?_,.inr ⟨g,m,cap,_,rfl,H.b,setRow_heap _ g q _ _ (0,0) D,by omega,hm,?_,?_⟩⟩,?_⟩
  .rw[eB 5 cM,Q.o]
  .simp only[gT,bB,cZ,dX,hP];omega
  .rw[←Cx 5 cM];simp only[cR];rw[nZ (by simp; omega),sQ (by simp; omega),oD,show m+(n-1)*5-m=(n-1)*5 by omega,kN,Nat.min_self];rw[x];simp only[cR];rw[nZ (by simp; omega),qP,oD,show m+i*5-m=i*5 by omega,cZ,dX,hP,
    show min (i*5) (p.size-m)=i*5 by omega,kN,show min ((n-1)*5) (i*5)=i*5 by omega]
   rw[qP,show (n-1)*5-i*5=I.length by omega,Ab,qS,mZ,fS,←m0,L]
   congr 1
   have O:=H.e;rw[←O,kN]
   congr 1
   omega
  .exact (B.b.setRow (.inr (by simp[Value.ownBlock])) _).setRow (.inr (by simp[Value.ownBlock])) _
 have U:=kp g0; clear g0;have b0:∀t u,(aM ObV.cells l)[t]? =some u→r.cell? ⟨g,m+t,none⟩=some u:=by
  intro t u A;rcases B.C with h|⟨b',j2,e,_,hc⟩
  .rw[h]at A; cases A
  .cases e;exact hc t u A
 have d1:=kp b0; clear b0;obtain⟨E,M⟩:=nm' (n-1);rw[M]at U Q;have b1:(E:Int)≤(n:Int):=by omega
 have b2:n-E=1:=by omega
 have b3:¬cap=E:=by omega
 have l1:=kp b2;have V:=kp (show (aM ObV.cells l).length=n*5 by rw[eB 5 cM,H.G]);have m1:=k'2 M b3
 by_cases j1:cap=j
 .subst j1;obtain rfl:n=cap:=by omega
  have Z:i=E:=by omega
  have E0:=kp Z;have T:=kp (show (aM ObV.cells l).drop (n*5)=[] from gS (by rw[V.o]; exact aD _));have R:m+i*5+0≤p.size:=by have:=H.d; omega
  clear L M Z;go_enter func272,ntmps272;go_wp2_with fail
  go_still_tail 6,(by kernel_rfl)
  change wpList _ _ _ _ _ w.drew;rw[Y.o];refine tQ r rfl (.tmp 22) (.tmp 25) _ rfl 90 i0 5 nE l0 z0 g m i n p B.a rfl ⟨g,m,none⟩ 0 0 [] rfl rfl (by intro j u h; cases h) (by intro u h; cases h) (by omega) R ?_;obtain⟨s,y⟩:=nm' (r.setRow g (p.toList.take (m+i*5)++[]++p.toList.drop (m+i*5+([]:List Value).length)).toArray);rw[y,cF,E0.o];have K:=kp y; clear y;obtain⟨q,x⟩:=nm' ((p.toList.take (m+i*5)++[]++p.toList.drop (m+i*5+([]:List Value).length)).toArray);have z:=U.o [] mQ s q T.o x.symm rfl (by rw[←K.o,x]);have D:s.heap[g]? =some (.cells q 90 (0,0)):=by rw[←K.o,x]; exact setRow_heap r g p _ _ _ B.a
  have d0:=fun c=>Iy s g (m+E*5) c q 0 D z.1;simp only[cR]at z;have J:=kp z;clear z D x;go_wp2_with fail;go_ret;refine⟨_,rfl,?_,J.C,rfl⟩;rw[Q.o];exact J.b
 .have g1:=kp (show i+(n-j)=E by omega);have R:m+i*5+((aM ObV.cells l).drop (j*5)).length≤p.size:=by
   rw[dX,V.o];have:=H.d;have h1:n*5≤cap*5:=dV _ X;have h2:i*5≤j*5:=dV _ (by omega);have h3:j*5≤n*5:=dV _ (by omega);omega
  have q0:i+(n-j)≤cap:=by omega
  have T:=kp (show ((aM ObV.cells l).drop (j*5)).length=(n-j)*5 by rw[dX,V.o,iF]);have e1:=kp (show ∀u∈(aM ObV.cells l).drop (j*5),u.oneCell'=true from fun u A=>H.f u (zS A));clear L M;go_enter func272,ntmps272;go_wp2_with fail
  go_still_tail 6,(by kernel_rfl)
  change wpList _ _ _ _ _ w.drew;rw[Y.o];refine tQ r rfl (.tmp 22) (.tmp 25) _ rfl 90 i0 5 nE l0 z0 g m i cap p B.a rfl ⟨g,m+j*5,none⟩ (n-j) (cap-j) ((aM ObV.cells l).drop (j*5)) rfl T.o ?_ e1.o q0 R ?_
  .intro t u A;rw[Addr.add_lit,oE];exact d1.o _ u (by rw[mG]at A; exact A)
  obtain⟨s,y⟩:=nm' (r.setRow g (p.toList.take (m+i*5)++(aM ObV.cells l).drop (j*5)++p.toList.drop (m+i*5+((aM ObV.cells l).drop (j*5)).length)).toArray);rw[y,g1.o];have K:=kp y; clear y;obtain⟨q,x⟩:=nm' ((p.toList.take (m+i*5)++(aM ObV.cells l).drop (j*5)++p.toList.drop (m+i*5+((aM ObV.cells l).drop (j*5)).length)).toArray);have z:=U.o _ mQ s q rfl x.symm rfl (by rw[←K.o,x]);have D:s.heap[g]? =some (.cells q 90 (0,0)):=by rw[←K.o,x]; exact setRow_heap r g p _ _ _ B.a
  have d0:=fun c=>Iy s g (m+E*5) c q 0 D z.1;simp only[cR]at z;have J:=kp z;clear z D x R q0;go_wp2_with fail;go_ret;refine⟨_,rfl,?_,J.C,rfl⟩;rw[Q.o];exact J.b
end
section
attribute [-go_sem] run_eql_struct run_neq_struct
theorem Tr(v:Value)(l:List Bk)(y:Bk)(B:Nat)(w:World)(h:Sl w B v Bk.cells l)(E:B≤w.heap.size)(R:l.length≤1000000):
  Calls prog 286 #[v,.agg y.cells.toArray] w fun e T=>e=.returned (.i (eI (fun x=>decide (y=x)) l))∧Bw' w T:=by
 obtain⟨A,c,rfl,S,N,hm⟩:=h;obtain⟨n,I⟩:=nm' l.length;rw[I]at N R ⊢;have m:=ba' w (.cells #[.i y.a,.i y.o] 88);have r:=kp (Blk.new w 88 [.i y.a,.i y.o]);have K:=kp (S.below m E);have p:=kp m;have J:=kp (aB E m.size);have s:=kp I;show Calls _ _ #[_,.agg #[.i y.a,.i y.o]] _ _;go_enter func286,ntmps286;go_wp2_with fail;generalize w.alloc (.cells #[.i y.a,.i y.o] 88)=W at *
 go_loopw [8] (fun i wr=>∃k:Nat,k≤n∧i=.i k∧(∀x∈l.take k,decide (y=x)=false)∧Bw' W wr) (fun i _=>n-(intOf i).toNat)
 case atStart=>exact⟨0,by omega,rfl,by simp,aL _ _⟩
 case round=>
  obtain⟨k,Y,rfl,Q,F⟩:=hrel;have j:=kp Q;have g:=kp F;have H:=r.o.below F r.o.lt;have y0:=aP (H.cell 0);have y1:=aP (H.cell 1)
  by_cases Z:k<n
  .have X:(k:Int)<(n:Int):=by omega
   have f:k<l.length:=by have:=s.o; omega
   obtain⟨b,a0,L,_,G,_⟩:=bV (P:=prog) 2 bM (by omega) (K.o.below g.o J.o) k f;subst L;have U:=aP (G 0 _ rfl);have x1:=aP (G 1 _ rfl);simp only[cF]at U;have C:=k'2 (cV f) (rF (fun x=>decide (y=x)) l k f);generalize l[k]'f=x at *;have O:∀w,Sem.run prog (binOp .eql 88 (.agg #[.i y.a,.i y.o]) (.agg #[.i x.a,.i x.o])) w=.ok (.bool (decide (y=x))) w:=fun w=>pM.2 y x w
   cases hyx:decide (y=x)
   all_goals
    rw[hyx]at O;have D:=kp hyx;go_wp2_with fail;refine bJ (by kernel_rfl) (by kernel_rfl) ?_
    repeat (go_big_quiet_step (fail))
    refine bH ?_;rintro V ⟨⟨_,M⟩,rfl⟩;have q:=kp (g.o.on M);go_wp2_with fail
   .go_roundw
    case rel=>
     refine⟨k+1,by omega,by go_num,fun z d=>?_,q.o⟩;rw[C.a]at d;rcases dF.1 d with d|d
     .exact j.o z d
     .rw[bQ.1 d]; exact D.o
    case measure=>simp[intOf]; omega
   .go_ret;exact⟨by rw[C.B D.o j.o]; rfl,p.o.on q.o⟩
  .obtain rfl:k=n:=by omega
   go_wp2_with fail;go_ret;exact⟨by rw[vB _ l (fun z d=>j.o z (by rw[cN (by have:=s.o; omega)]; exact d))]; rfl,p.o.on g.o⟩
end
section
open Go.RowKit Go.Lib
attribute [-go_sem] loadCellsFrom storeCells
attribute [local go_sem] bC
theorem Iz(A Z X Y:List Value)(a:Nat)(e:A.length=a)(c1 c2:List Value)(b:c1=(A++Z).take a++X++(A++Z).drop (a+X.length))(c:c2=c1.take (a+X.length)++Y++c1.drop (a+X.length+Y.length))(g:X.length+Y.length≤Z.length):
  c2.take (a+X.length+Y.length)=A++X++Y∧c1.length=A.length+Z.length∧c2.length=A.length+Z.length:=by
 have d:c1.take (a+X.length)=A++X:=by
  rw[b,sQ (by simp; omega),←e,List.take_left];rw[cN (by simp)]
 have f:c1.length=A.length+Z.length:=by rw[b]; simp; omega
 refine⟨?_,f,?_⟩
 .rw[c,d,sQ (by simp; omega),cN (by simp; omega)]
 .rw[c]; simp; omega
theorem Ja(c xs X:List Value)(b a N:Nat)(j:(c.drop b).take N=xs)(l:xs.length=N)(i:a≤N)(m:b+N+X.length≤c.length)(c1 c2:List Value)
  (d:c1=c.take (b+(a+X.length))++xs.drop a++c.drop (b+(a+X.length)+(xs.drop a).length)) (e:c2=c1.take (b+a)++X++c1.drop (b+a+X.length)):
  (c2.drop b).take (N+X.length)=xs.take a++X++xs.drop a∧c1.length=c.length∧c2.length=c.length:=by
 have k:c1.length=c.length:=by rw[d]; simp; omega
 refine⟨?_,k,by rw[e]; simp; omega⟩;have f:c1.take (b+a)=c.take (b+a):=by
  rw[d,cR,sQ (by simp; omega),kN,oC (by omega)]
 have g:c1.drop (b+a+X.length)=xs.drop a++c.drop (b+(a+X.length)+(xs.drop a).length):=by
  rw[d,cR,nZ (by simp; omega),Ou (by simp; omega),aT]
 have h:(c.take (b+a)).drop b=xs.take a:=by
  rw[oD,show b+a-b=a by omega,←j,kN,oC i]
 rw[e,f,g,cR,nZ (by simp; omega),h,←cR,←cR,sQ (by simp; omega)];exact cN (by simp; omega)
theorem yC{w:World}{g c n:Nat}{t:TypeId}{b:Array Value}{xs:List Value}(d:w.heap[g]? =some (.cells b t (0,0)))(e:(b.toList.drop c).take n=xs):∀j u,xs[j]? =some u→w.cell? ⟨g,c+j,none⟩=some u:=fun j u a=>by
 rw[←e,oB]at a
 split at a
 .rw[mG]at a;simp only[World.cell?,d];simpa using a
 .cases a
end
end Go.Proofs.YtdoopoapbffpbaaGreat
