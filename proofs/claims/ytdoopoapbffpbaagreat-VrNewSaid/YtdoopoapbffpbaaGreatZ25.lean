import Derived.Test.YtdoopoapbffpbaaGreatZ12
import Derived.Test.YtdoopoapbffpbaaGreatZ13
import Derived.Test.YtdoopoapbffpbaaGreatZ16
import Derived.Test.YtdoopoapbffpbaaGreatZ21
import Derived.Test.YtdoopoapbffpbaaGreatZ24
namespace Go.Proofs.YtdoopoapbffpbaaGreat
open Go.RowKit Go.Proofs.Tryz
set_option maxRecDepth 100000
set_option maxHeartbeats 12800000
set_option linter.unusedVariables false
set_option linter.unusedSimpArgs false
section
attribute [-go_sem] loadCellsFrom storeCells
attribute [local go_sem] bC
def rU(sz:Int)(b:Bk)(p:ObV):Bool:=decide (p.x.b.a≤sz)&&(decide (b.a<p.x.b.a+aQ p.x.b.o)&&decide (p.x.b.a<b.a+aQ b.o))
theorem Wr(p:ObV)(l:Int)(b:Bk)(y r s:Nat)(W:World)(A:Blk W y 3 [.i l])(z:Blk W r 88 b.cells)(i:Blk W s 3 [.i (b.a+aQ b.o)])(D:0≤p.x.b.a)(E:p.x.b.a≤2147483647):
  Calls prog 217 #[.agg p.cells.toArray,.pointer (some ⟨y,0,none⟩),.pointer (some ⟨r,0,none⟩),.pointer (some ⟨s,0,none⟩)] W fun e N=>e=.returned (.bool (rU l b p))∧Bw' W N:=by
 obtain⟨⟨n,⟨c,f⟩,ws,ls⟩,m,j⟩:=p;obtain⟨q,h⟩:=b;unfold rU;simp only at D E i ⊢;have T:=gF f;have U:=gF h;obtain⟨O,F⟩:=nm' (W.alloc (.cells (ObV.cells ⟨⟨n,⟨c,f⟩,ws,ls⟩,m,j⟩).toArray 90));have k:=Blk.new W 90 (ObV.cells ⟨⟨n,⟨c,f⟩,ws,ls⟩,m,j⟩);have d:=ba' W (.cells (ObV.cells ⟨⟨n,⟨c,f⟩,ws,ls⟩,m,j⟩).toArray 90);rw[F]at k d;have V:=aP ((A.below d A.lt).cell 0);have Q:=aP ((z.below d z.lt).cell 0);have S:=aP ((i.below d i.lt).cell 0);have X:=aP (k.cell 1);have Y:=aP (k.cell 2);have C:=kp d;obtain⟨K,H⟩:∃t,decide (c≤l)=t:=⟨_,rfl⟩
 obtain⟨L,I⟩:∃t,decide (q<c+aQ f)=t:=⟨_,rfl⟩
 obtain⟨M,J⟩:∃t,decide (c<q+aQ h)=t:=⟨_,rfl⟩
 rw[H,I,J];generalize aQ h=R at *;go_enter func217,ntmps217;rcases Pe K L M with⟨rfl,g⟩|⟨rfl,rfl,g⟩|⟨rfl,rfl,rfl,g⟩|⟨rfl,rfl,rfl,g⟩
 all_goals
  rw[g];go_wp2_with fail;refine bJ (by kernel_rfl) (by kernel_rfl) ?_
  repeat (go_big_quiet_step ((go_at_call 174; refine dG (iT _ _))))
  refine bH ?_;rintro P ⟨⟨_,G⟩,rfl⟩;have B:=kp (C.o.on G);go_wp2_with fail;go_ret;exact⟨rfl,B.o⟩
end
section
attribute [-go_sem] loadCellsFrom storeCells
attribute [local go_sem] bC
def Dq(w:World)(g j:Nat):Int:=match w.cell? ⟨g,j,none⟩ with
 |some (.int _ z)=>z
 |_=>0
def Dr(w:World):Value→List Bk
 |.slice (some a) n _=>(List.range n).map fun i=>⟨Dq w a.block (a.off+i*2),Dq w a.block (a.off+i*2+1)⟩
 |_=>[]
theorem yN{w:World}{B:Nat}{v:Value}{l:List Bk}(h:Sl w B v Bk.cells l):Dr w v=l:=by
 obtain⟨A,c,rfl,d,-,-⟩:=h
 cases l with
 |nil=>cases A<;>rfl
 |cons b l'=>
  obtain⟨g,n,rfl,-,-,-⟩:=bV (P:=prog) 2 bM (by omega) d 0 (by simp);unfold Dr;refine List.ext_getElem (by simp) fun i m k=>?_;obtain⟨g',o,e,-,a,-⟩:=bV (P:=prog) 2 bM (by omega) d i k;injection e with e;injection e with f j _;subst f j;have c0:=a 0 _ rfl;have c1:=a 1 _ rfl;simp only[cF]at c0;simp only[kY,List.getElem_range,Dq,c0,c1]
theorem Li(c:Int){b:Bk}{p:ObV}(d:(0≤b.o∧b.o≤8)∧0≤b.a∧b.a+aQ b.o≤aQ c)(e:0≤p.x.b.a∧p.x.b.a≤2147483647∧0≤p.x.b.o∧p.x.b.o≤8):rU (aQ c) b p=eW b p.x.b:=by
 unfold rU eW;rw[←fD d.1.1 d.1.2,←fD e.2.2.1 e.2.2.2];have f:=gF b.o
 by_cases h:p.x.b.a≤aQ c
 .rw[bY h,jF]
 .rw[aX h,Bool.false_and,aX (p:=p.x.b.a<b.a+aQ b.o) (by omega),wI]
theorem Wt(e:Int){b:Bk}{ps:List ObV}(f:(0≤b.o∧b.o≤8)∧0≤b.a∧b.a+aQ b.o≤aQ e)(g:∀p∈ps,0≤p.x.b.a∧p.x.b.a≤2147483647∧0≤p.x.b.o∧p.x.b.o≤8):kS (ps.map (·.x.b)) b= !(ps.any (rU (aQ e) b)):=by
 unfold kS;rw[Ai]
 congr 1
 rw[qQ,kZ,kZ];constructor
 .rintro⟨p,c,d⟩; exact⟨p,c,by rw[Li e f (g p c)]; exact d⟩
 .rintro⟨p,c,d⟩; exact⟨p,c,by rw[Li e f (g p c)]at d; exact d⟩
theorem Wu{b:Bk}(a:0<b.o)(c:b.o≤8):aQ b.o=2*aQ (b.o-1):=by
 have:b.o=1∨b.o=2∨b.o=3∨b.o=4∨b.o=5∨b.o=6∨b.o=7∨b.o=8:=by omega
 rcases this with h|h|h|h|h|h|h|h<;>rw[h]<;>rfl
theorem OR.self{α:Type}{enc:α→List Value}{w:World}{S T:Nat→Prop}{k:Nat}{t:TypeId}{v:Value}{l:List α}(h:OR w S t k v enc l):OR w (fun i=>some i=v.ownBlock∨T i) t k v enc l:=
 ⟨h.1,h.2.imp id fun⟨g,c,cap,b,a,_,r⟩=>⟨g,c,cap,b,a,.inl (by rw[a]; rfl),r⟩⟩
structure Lft(w:World)(fv:Value)(order:Int)(R:List Bk)(bs:List Bk)(vf vo:Value)(fl out:List Bk)(W:World):Prop where
 free:OR W (fun i=>some i=fv.ownBlock∨w.heap.size≤i) 88 2 vf Bk.cells fl
 row:Ow W w.heap.size 88 2 vo Bk.cells out
 sep:∀i,some i=vf.ownBlock→vo.ownBlock≠some i
 eq:out++xJ bs fl=R
 small:∀b∈fl,(0≤b.o∧b.o≤8)∧0≤b.a∧b.a+aQ b.o≤aQ order
 few:lD fl+out.length≤100000
 chg:Chg (fun k=>some k=fv.ownBlock) w W
 size:Blk W w.heap.size 3 [.i (aQ order)]
theorem Lft.below{w:World}{d:Value}{e:Int}{R b:List Bk}{g i:Value}{c f:List Bk}{W W':World}(h:Lft w d e R b g i c f W)(a:Bw' W W'):Lft w d e R b g i c f W':=
 ⟨h.free.below a,h.row.below a,h.sep,h.eq,h.small,h.few,h.chg.then a,h.size.below a h.size.lt⟩
theorem yO(c:List Bk)(b:Bk)(l:List Bk):xJ c (b::l)=cC c b.o.toNat b.a++xJ c l:=rfl
theorem Lj:∀l:List Bk,l.length≤lD l
 |[]=>aD _
 |b::l=>by have:=Lj l; have:=tG b l; rw[eV]; omega
theorem Ww(z:Int)(K lv:Value)(I:List Bk)(ps:List ObV)(base:Nat)(w:World)(hf:OR w (fun i=>base≤i) 88 2 K Bk.cells I)(hl:Ow w base 90 5 lv ObV.cells ps)(hb:base≤w.heap.size)
  (l4:∀p∈ps,0≤p.x.b.a∧p.x.b.a≤2147483647∧0≤p.x.b.o∧p.x.b.o≤8) (z3:∀b∈I,(0≤b.o∧b.o≤8)∧0≤b.a∧b.a+aQ b.o≤aQ z) (hn:ps.length≤1000000) (hm:lD I≤100000):
  Calls prog 169 #[.i z,K,lv] w fun e w'=>∃v,e=.returned v∧Ow w' w.heap.size 88 2 v Bk.cells (xJ (ps.map (·.x.b)) I)∧Chg (fun k=>some k=K.ownBlock) w w':=by
 have g5:∀(fn:Fn)(first cap:Array Value)(w:World),(Instr.makeFunc fn first cap).run prog w=.ok (.func fn first cap) w:=fun _ _ _ _=>rfl;obtain⟨R,hR⟩:=nm' (xJ (ps.map (·.x.b)) I);rw[hR];have q5:=gF z;have b1:=ba' w (.cells #[.i (aQ z)] 3);have y2:=kp (show Lft w K z R (ps.map (·.x.b)) K (.slice none 0 0) I [] (w.alloc (.cells #[.i (aQ z)] 3)) from
  ⟨OR.self (hf.below b1),Ow.nil _ _ _ _ _,fun _ _ h=>(nomatch h),by rw[←hR]; rfl,z3,by simpa using hm,(Chg.refl _ w).alloc _,Blk.new w 3 [.i (aQ z)]⟩)
 have j0:=k'4 l4 hl hb hn;have y0:=kp iT;have b3:=kp (fun(W':World)(hc:Chg (fun k=>some k=K.ownBlock) w W')=>hl.chg hc fun i n e=>(Ow.apt_or hl hf (by decide)) i n e.symm);go_enter func169,ntmps169;go_wp2_with fail;refine mb' (y0.o z _) fun w' p4=>?_;obtain rfl:=p4.symm;go_wp2_with fail
 go_loopw [1,8] (fun a8 cD wr=>∃vf vo I Q,vf=a8∧vo=cD∧Lft w K z R (ps.map (·.x.b)) vf vo I Q wr) (fun v _ wr=>lD (Dr wr v))
 case atStart=>exact⟨_,_,I,[],rfl,rfl,y2.o⟩
 case round=>
  obtain⟨vf,vo,g3,Q,rfl,rfl,a2⟩:=hrel;have G:=kp a2;have HM:=kp (yN a2.free.sl)
  cases g3 with
  |nil=>
   obtain⟨A,c,rfl,-,-⟩:=aO.slice G.o.free;go_wp2_with fail;go_ret;exact⟨_,rfl,by have q:=G.o.eq; rw[show xJ (ps.map (·.x.b)) []=[] from rfl,fS]at q; rw[←q]; exact G.o.row,G.o.chg⟩
  |cons b f=>
   obtain⟨g,o2,cap,a5,rfl,d5,-,j5,-,-,-⟩:=aO.form G.o.free (by simp);have o4:=aO.rd G.o.free;obtain⟨g',y5,e,-,hc,-⟩:=bV (P:=prog) 2 bM (by omega) o4 0 (by simp);injection e with e;injection e with e1 e2 _;subst e1 e2;have q0:=hc 0 _ rfl;have q1:=hc 1 _ rfl;simp only[qR,cF,Ot]at q0 q1;have e5:=If (P:=prog) q0 q1;have nz:=Blk.new wr 88 [.i 0,.i 0];have y4:=nz.store (P:=prog) (cs':=[.i b.a,.i b.o]) rfl (gU b);have nb:=nz.set [.i b.a,.i b.o];have m2:=cL (ba' wr (.cells #[.i 0,.i 0] 88)) (aD _) #[.i b.a,.i b.o];obtain⟨E,j3⟩:=nm' ((wr.alloc (.cells #[.i 0,.i 0] 88)).setRow wr.heap.size #[.i b.a,.i b.o]);rw[j3]at y4 nb m2;have b0:=G.o.small b (by simp);have L:=aO.drop (j:=1) G.o.free (by simp);have q3:(aM Bk.cells (b::f)).drop (1*2)=aM Bk.cells f:=rfl;rw[q3]at L;have d3:=kp b0;have m3:=b0.1.1;have o1:=b0.1.2;have o3:=b0.2.1;have b5:=b0.2.2;have a0:=gF b.o;have q4:∀i,some i=some g→vo.ownBlock≠some i:=G.o.sep;have g4:(b::f).length-1=f.length:=by simp
   rw[g4]at L
   by_cases p1:cap=1
   all_goals
    first
     |(subst p1; rw[aE rfl]at L; obtain⟨M,J⟩:=nm' (Value.slice (some ⟨g,o2,none⟩) f.length 0); have l1:=kp J; have d2:M.ownBlock=some g:=J▸rfl; have HD:=kp (show OR wr _ 88 2 M Bk.cells f from J▸L); clear J L)
     |(rw[aC p1]at L; obtain⟨M,J⟩:=nm' (Value.slice (some ⟨g,o2+2,none⟩) f.length (cap-1)); have l1:=kp J; have d2:M.ownBlock=some g:=J▸rfl; have HD:=kp (show OR wr _ 88 2 M Bk.cells f from J▸L); clear J L)
    have O:=kp d2;have H:=k'3 nb m2 q4;have l0:=(show Blk E.drew wr.heap.size 88 [.i b.a,.i b.o] from nb)
    go_wp2_with fail
    try rw[l1.o]
    have c0:=l0.cell 0;have c1:=l0.cell 1;have c2:=(l0.alloc (.cells #[.i 0] 3)).cell 0;have c3:=(l0.alloc (.cells #[.i 0] 3)).cell 1;simp only[aG,aK]at c0 c1 c2 c3;refine fR 7 (Two 6 E.drew (E.drew.alloc (.cells #[.i 0] 3))) (fun _=>fK) (by kernel_rfl) (by kernel_rfl) (Two.start _ _ _) ?_
    iterate 7 (refine bO ?_; apply Exists.intro)
    refine dR ⟨?pers,?walk⟩
    case walk=>
     iterate 6
      apply Ug (by kernel_rfl) (by intro t w h; cases h; exact trivial) rfl
      .intro X W' s Z hw hV Y;have f0:=s.all (P:=fun W=>W.cell? ⟨wr.heap.size,0,none⟩=some (.i b.a)) c0 c2;have f1:=s.all (P:=fun W=>W.cell? ⟨wr.heap.size,1,none⟩=some (.i b.o)) c1 c3
       first
        |(go_wp2_with fail; exact⟨rfl,_,rfl,s.other (by decide),aV,rfl⟩)
        |(go_wp2_with fail; refine (y0.o _ _).mono ?_; rintro e m ⟨rfl,rfl⟩; go_wp2_with fail; exact⟨rfl,_,rfl,s.other (by decide),aV,rfl⟩)
      simp only[Act.put,aN,aH,aI,aT,aW]
     apply Ug (by kernel_rfl) (by intro t w h; cases h; exact trivial) rfl
     .intro X W' s Z hw hV Y;obtain rfl:=s.1 Z;go_wp2_with fail;exact⟨rfl,_,rfl,Two.at_,aV,rfl⟩
     simp only[Act.put,aN,aH,aI,aT,aW];intro W9 s Y;obtain rfl:=s.2 rfl;simp only[dO,dP];go_wp2_with fail;have e4:Bw' E ((E.alloc (.cells #[.i (b.a+aQ b.o)] 3)).drew):=bR (ba' E _);have n4:Blk ((E.alloc (.cells #[.i (b.a+aQ b.o)] 3)).drew) E.heap.size 3 [.i (b.a+aQ b.o)]:=Blk.new E 3 [.i (b.a+aQ b.o)];generalize (E.alloc (.cells #[.i (b.a+aQ b.o)] 3)).drew=W4 at *;have h4:=(G.o.below H.b).below e4;have d4:=(HD.o.below H.b).below e4;have aS:=H.a.below e4 H.a.lt;obtain⟨r,hr⟩:=nm' (ps.any (rU (aQ z) b));have b2:=Wt z d3.o j0.a;rw[hr]at b2;have p2:=kp (by
      have:=vC.2.1 lv ps (rU (aQ z) b) 217 #[.pointer (some ⟨w.heap.size,0,none⟩),.pointer (some ⟨wr.heap.size,0,none⟩),.pointer (some ⟨E.heap.size,0,none⟩)] W4.heap.size W4 ((b3.o W4 h4.chg).sl cM) (aD _) j0.D (enters_of func217 (by kernel_rfl) rfl) (fun W x F z0=>Wr x (aQ z) b w.heap.size wr.heap.size E.heap.size W (h4.size.below z0 h4.size.lt) (aS.below z0 aS.lt) (n4.below z0 n4.lt) (j0.a x F).1 (j0.a x F).2.1);rw[hr]at this;exact this)
     have U:=k'3 h4 d4 aS;have p0:=kp b2;go_wp2_with fail;refine mb' (p2.o) fun m a0=>?_;have d:=kp (U.a.below a0);have e0:=kp (U.b.below a0);have m0:=kp (U.C.below a0 U.C.lt);have j1:=kp (show g<m.heap.size from eA (U.b.lt g O.o.symm).2 a0.size);have HT:=kp (Qr (ps.map (·.x.b)) b m3 o1)
     cases r
     .have l5:=m0.o.load (P:=prog) (k:=2) rfl;have a3:=kp d.o.row;have g2:Sl (m.alloc (.cells #[.i b.a,.i b.o] 88)) (m.heap.size+1) (.slice (some ⟨m.heap.size,0,none⟩) 1 1) Bk.cells [b]:=eQ (enc:=Bk.cells) m 88 b;have m1:=a3.o.alloc (.cells #[.i b.a,.i b.o] 88);have a1:=ba' m (.cells #[.i b.a,.i b.o] 88);obtain⟨W2,l3⟩:=nm' (m.alloc (.cells #[.i b.a,.i b.o] 88));rw[l3]at g2 m1 a1;have y:=k'4 g2 m1 a1 (show w.heap.size≤W2.heap.size from aB (d.o.chg.size) a1.size);go_wp2_with (at_builtin; refine mO (enc:=Bk.cells) W2 rfl (.tmp 33) (.tmp 35) 27 rfl (w.heap.size) 88 jA fC rfl (by omega) bM y.b rfl y.a rfl (fun a _=>gU a) ?_ ?_ y.D ?_)
      .have q:=d.o.few; unfold maxLen; (try simp); omega
      .have q:=d.o.few; (try simp); omega
      intro v3 w3 m4 m5 y1 a4;have z4:=kp ((y.c.mono (d.o.chg.size)).trans (y.b.grew y1 y.D));have z2:=kp m4;have o0:=kp y1;have q2:=kp a4;go_wp2_with fail;have d1:=kp (show OR w3 _ 88 2 M Bk.cells f from aO.chg (e0.o.below y.c) (fZ o0.o) fun i n e=>by rw[O.o]at n; exact H.C i n e);go_roundw
      case rel=>
       refine⟨_,_,f,Q++[b],rfl,rfl,d1.o,z2.o,fun i n e=>?_,?_,fun x F=>d.o.small x (by simp[F]),?_,?_,?_⟩
       .rw[O.o]at n;rcases q2.o i e with h|h
        .exact H.C i n h
        .have q:=y.c.size;have h2:=j1.o
         cases n;omega
       .have q:=d.o.eq;rw[yO,HT.o,p0.o,aE (show (!false)=true from rfl)]at q;rw[←q];simp
       .have q:=d.o.few;have h2:=tG b f;simp only[bB,eV,mH];omega
       .exact (d.o.chg.then y.c).trans (fZ o0.o) fun i n e=>by have:=(y.b.lt e).1; omega
       .exact (d.o.size.below y.c d.o.size.lt).chg (fZ o0.o) (y.b.ne_blk (d.o.size.below y.c d.o.size.lt) (by decide))
      case measure=>
       rw[HM.o,yN d1.o.sl];exact tG b f
     .have z1:=m0.o.cell 1;simp only[aG,aK]at z1
      by_cases V:0<b.o
      .have g0:decide (0<b.o)=true:=by simpa using V
       have T:=kp V;have e3:=kp (Wu V o1);have o5:=gF (b.o-1);have j2:=(show Blk m.drew wr.heap.size 88 [.i b.a,.i b.o] from m0.o)
       have c0:=j2.cell 0;have c2:=(j2.alloc (.cells #[.i b.a,.i (b.o-1),.i (b.a+aQ (b.o-1)),.i (b.o-1)] 88)).cell 0;simp only[aG]at c0 c2;go_wp2_with fail;refine fR 13 (Two 12 m.drew (m.drew.alloc (.cells #[.i b.a,.i (b.o-1),.i (b.a+aQ (b.o-1)),.i (b.o-1)] 88))) (fun _=>fK) (by kernel_rfl) (by kernel_rfl) (Two.start _ _ _) ?_
       iterate 13 (refine bO ?_; apply Exists.intro)
       refine dR ⟨?_,?_⟩
       rotate_left
       iterate 12
        apply Ug (by kernel_rfl) (by intro t w h; cases h; exact trivial) rfl
        .intro X W' s Z hw hV Y;have f0:=s.all (P:=fun W=>W.cell? ⟨wr.heap.size,0,none⟩=some (.i b.a)) c0 c2
         first
          |(go_wp2_with fail; exact⟨rfl,_,rfl,s.other (by decide),aV,rfl⟩)
          |(go_wp2_with fail; refine (y0.o _ _).mono ?_; rintro e w6 ⟨rfl,rfl⟩; go_wp2_with fail; exact⟨rfl,_,rfl,s.other (by decide),aV,rfl⟩)
        simp only[Act.put,aN,aH,aI,aT,aW]
       apply Ug (by kernel_rfl) (by intro t w h; cases h; exact trivial) rfl
       .intro X W' s Z hw hV Y;obtain rfl:=s.1 Z;go_wp2_with fail;exact⟨rfl,_,rfl,Two.at_,aV,rfl⟩
       simp only[Act.put,aN,aH,aI,aT,aW];intro W9 s Y;obtain rfl:=s.2 rfl;simp only[dO,dP];have a7:Bw' m (m.alloc (.cells #[.i b.a,.i (b.o-1),.i (b.a+aQ (b.o-1)),.i (b.o-1)] 88)).drew:=bR (ba' m _);have n7:Blk (m.alloc (.cells #[.i b.a,.i (b.o-1),.i (b.a+aQ (b.o-1)),.i (b.o-1)] 88)).drew m.heap.size 88 (aM Bk.cells [⟨b.a,b.o-1⟩,⟨b.a+aQ (b.o-1),b.o-1⟩]):=Blk.new m 88 (aM Bk.cells [⟨b.a,b.o-1⟩,⟨b.a+aQ (b.o-1),b.o-1⟩]);have h7:=d.o.below a7;have d7:=e0.o.below a7;have HI:=kp (show Calls prog 218 #[M,.i 0,.slice (some ⟨m.heap.size,0,none⟩) 2 2] (m.alloc (.cells #[.i b.a,.i (b.o-1),.i (b.a+aQ (b.o-1)),.i (b.o-1)] 88)).drew _ from
        Jb (S:=fun i=>some i=K.ownBlock∨w.heap.size≤i) (v:=M) (l:=f) (l2:=[⟨b.a,b.o-1⟩,⟨b.a+aQ (b.o-1),b.o-1⟩]) 0 m.heap.size _ d7 n7 (fun e=>by rw[O.o]at e; injection e with e; have:=j1.o; omega) (cY _) (by simp) (fun i n=>.inr (aB (aB h7.chg.size (aD _)) n)) (by have q:=d.o.few; have h2:=tG b f; have h3:=Lj f; simp only[eV,mH]; omega))
       have N:=k'2 h7 d7;go_wp2_with fail;refine (HI.o).mono ?_;rintro e w8 ⟨v8,rfl,j4,p3,y3⟩;have g1:=kp (show OR w8 _ 88 2 v8 Bk.cells ([⟨b.a,b.o-1⟩,⟨b.a+aQ (b.o-1),b.o-1⟩]++f) from by simpa only[mZ,aT,dP] using j4);have d0:=k'2 p3 y3;go_wp2_with fail;go_roundw
       case rel=>
        refine⟨_,_,[⟨b.a,b.o-1⟩,⟨b.a+aQ (b.o-1),b.o-1⟩]++f,Q,rfl,rfl,g1.o,N.a.row.chg d0.a (fun i n e=>by rw[O.o]at e; exact H.C i e n),fun i n e=>?_,?_,fun x F=>?_,?_,?_,?_⟩
        .rcases d0.B i n with h|h
         .rw[O.o]at h;exact H.C i h e
         .have:=(N.a.row.lt e).2;omega
        .have q:=d.o.eq;rw[yO,HT.o,p0.o,aC (by simp),aE T.o]at q;rw[←q];show Q++(cC _ _ _++(cC _ _ _++_))=_;simp only[cR];rfl
        .have p5:=e3.o;simp only[aW,aT,bA]at F;rcases F with rfl|rfl|F
         .exact⟨⟨by simp only; omega,by simp only; omega⟩,o3,by simp only; omega⟩
         .exact⟨⟨by simp only; omega,by simp only; omega⟩,by simp only; omega,by simp only; omega⟩
         .exact d.o.small x (by simp[F])
        .have q:=d.o.few;have h2:=Ha (b:=b) f T.o;show lD (⟨b.a,b.o-1⟩::⟨b.a+aQ (b.o-1),b.o-1⟩::f)+_≤_;omega
        .refine N.a.chg.trans d0.a fun i n e=>?_;rcases (N.B.lt i e).1 with h|h
         .exact h
         .omega
        .exact N.a.size.chg d0.a (fun e=>aO.not_blk N.B N.a.size (by decide) e)
       case measure=>
        rw[HM.o,yN g1.o.sl];exact Ha (b:=b) f T.o
       exact⟨pv',pv',pv',pv',pv',pv',pv',pv',pv',pv',pv',pv',pv',trivial⟩
      .have g0:decide (0<b.o)=false:=by simpa using V
       have T:=kp V;go_wp2_with fail;go_roundw
       case rel=>
        refine⟨_,_,f,Q,rfl,rfl,e0.o,d.o.row,fun i n=>by rw[O.o]at n; exact H.C i n,?_,fun x F=>d.o.small x (by simp[F]),?_,d.o.chg,d.o.size⟩
        .have q:=d.o.eq;rw[yO,HT.o,p0.o,aC (by simp),aC T.o,aT]at q;exact q
        .have q:=d.o.few;have h2:=tG b f;omega
       case measure=>
        rw[HM.o,yN e0.o.sl];exact tG b f
    case pers=>exact⟨pv',pv',pv',pv',pv',pv',pv',trivial⟩
end
section
attribute [-go_sem] loadCellsFrom storeCells
attribute [local go_sem] bC
theorem qC{α:Type}{one:List UInt8→Option (α×List UInt8)}{P:α→Prop}(h:∀l x r,one l=some (x,r)→P x):∀(n:Nat)(l:List UInt8)(xs:List α)(r:List UInt8),aZ one n l=some (xs,r)→(∀x∈xs,P x)∧xs.length=n
 |0,l,xs,r,a=>by
  simp only[aZ,Option.some.injEq,Prod.mk.injEq]at a;rw[←a.1];exact⟨fun x d=>by simp at d,rfl⟩
 |n+1,l,xs,r,a=>by
  unfold aZ at a
  cases h1:one l with
  |none=>simp[h1]at a
  |some p=>
   obtain⟨x,c⟩:=p
   cases h2:aZ one n c with
   |none=>simp[h1,h2]at a
   |some q=>
    obtain⟨g,f⟩:=q;simp only[h1,h2,Option.some.injEq,Prod.mk.injEq]at a;obtain⟨i1,e⟩:=qC h n c g f h2;rw[←a.1];refine⟨fun y b=>?_,by simp[e]⟩;rcases bA.1 b with rfl|b
    .exact h _ _ _ h1
    .exact i1 y b
theorem Lk{l r:List UInt8}{x:Ob}(h:obP l=some (x,r)):0≤x.b.a∧x.b.a≤2147483647∧0≤x.b.o∧x.b.o≤8:=by
 unfold obP at h
 cases c:aZ bF 4 l with
 |none=>simp[c]at h
 |some p=>
  obtain⟨ns,g⟩:=p;obtain⟨i,j⟩:=qC (P:=fun n=>0≤n∧n≤2147483647) (fun l x r h=>by obtain⟨k,rfl,B⟩:=rQ h; omega) 4 l ns g c
  match ns,j,c with
  |[D,y,f,e],_,c=>
   have d:=i y (by simp);simp only[c]at h
   split at h
   .cases h
   rename_i A
   cases h2:aZ eY f.toNat g with
   |none=>simp[h2]at h
   |some m=>
    obtain⟨ws,s⟩:=m
    cases h3:aZ bF e.toNat s with
    |none=>simp[h2,h3]at h
    |some q=>
     obtain⟨ls,C⟩:=q;simp only[h2,h3,Option.some.injEq,Prod.mk.injEq]at h;have z:=Qs f e;rw[←h.1];exact⟨d.1,d.2,by simp only; omega,by simp only; omega⟩
theorem yP(b:List Bk):∀(k:Nat)(a:Int),(cC b k a).length≤2 ^ k
 |0,a=>by
  unfold cC
  split<;>simp
 |k+1,a=>by
  unfold cC
  split
  .simp; exact uD
  .have c:=yP b k a;have d:=yP b k (a+aJ k);rw[bB,wL];omega
def mU(l:List UInt8):Option (Hp×List UInt8):=
 match hpP l with
 |some (h,r)=>if cO h=true then some (h,r) else none
 |none=>none
theorem Ds(l:List UInt8):eZ l=match mU l with
  |some (h,[])=>some h
  |_=>none:=by
 unfold eZ mU
 cases hpP l with
 |none=>rfl
 |some p=>
  obtain⟨h,r⟩:=p
  cases r with
  |nil=>by_cases b:cO h=true<;>simp[b]
  |cons a r=>by_cases b:cO h=true<;>simp[b]
theorem yQ{l:List UInt8}(h:aZ bF 7 l=none):mU l=none:=by unfold mU hpP; simp[h]
theorem Xa{l r:List UInt8}{a b c d e f n:Int}(h:aZ bF 7 l=some ([a,b,c,d,e,f,n],r)):hpP l=if 256<n then none else match aZ obP n.toNat r with
  |none=>none
  |some (g,r)=>some (eS a b c d e f g,r):=by
 unfold hpP;rw[h];rfl
def kV(w:World)(gi gr:Nat)(o:Option (Hp×List UInt8))(e:Ending)(w':World):Prop:=
 Chg (fun i=>i=gr) w w'∧match o with
  |some (h,r)=>∃p ps,e=.returned (.agg p.cells.toArray)∧p.x=h∧Hv w' w.heap.size p ps∧cK w' gi gr r
  |none=>e=.panicked iD
theorem kV.none{w b:World}{c a:Nat}{o:Option (Hp×List UInt8)}(e:o=none)(d:Chg (fun i=>i=a) w b):kV w c a o (.panicked iD) b:=by
 subst e;exact⟨d,rfl⟩
theorem kV.some{w a:World}{c b:Nat}{o:Option (Hp×List UInt8)}{r:List UInt8}{p:HpV}{ps:List ObV}(g:o=some (p.x,r))(d:Chg (fun i=>i=b) w a)(e:Hv a w.heap.size p ps)(f:cK a c b r):kV w c b o (.returned (.agg p.cells.toArray)) a:=by
 subst g;exact⟨d,p,ps,rfl,rfl,e,f⟩
end
section
def Dx(l:List UInt8):Option Hp:=
 match dC cQ 7 l false with
 |([o,nx,t0,t1,t2,t3,n],r,b)=>
  let q:=gP jO (min n.toNat 257) r b
  if q.2.2=true∨q.2.1≠[]∨cP o=false∨n≠q.1.length then none
  else if cO (eS o nx t0 t1 t2 t3 q.1)=true then some (eS o nx t0 t1 t2 t3 q.1) else none
 |_=>none
theorem Yb{h:Hp}(H:cO h=true):h.obs.length≤256:=by
 unfold cO at H;simp only[bI,bP]at H;omega
theorem Yc{h:Hp}(H:cO h=true):cP h.order=true:=(eC.1 H).reg
theorem Yd(l:List UInt8):Dx l=eZ l:=by
 have D:=mV.many 7;unfold Dx eZ hpP
 cases h:aZ bF 7 l with
 |none=>
  have j:=D.no l h;generalize dC cQ 7 l false=z at *;obtain⟨q,r,b⟩:=z;change b=true at j;subst j
  split
  .rename_i e;injection e with I B
   injection B with B E
   subst E;rw[vR,aE (.inl rfl)]
  .rfl
 |some p=>
  obtain⟨ns,r⟩:=p;obtain⟨F,G⟩:=qC (P:=fun n=>0≤n∧n≤2147483647) (fun l x r h=>by
   unfold bF at h
   by_cases k:(num l).2.2=0
   .rw[aE k]at h;obtain⟨u,L,e,-⟩:=(Gi l k).2.2
    cases h;exact⟨by rw[e]; omega,by rw[e]; omega⟩
   .rw[aC k]at h; cases h) 7 l ns r h
  rw[D.ok l ns r h]
  match ns,G with
  |[o,nx,m,s,y,A,n],_=>
   have K:=F n (by simp);simp only[]
   cases hm:aZ obP (min n.toNat 257) r with
   |none=>
    have j:=(yW.till (min n.toNat 257)).no r hm;rw[aE (.inl j)]
    by_cases f:256<n
    .rw[aE f]
    .rw[aC f];rw[show min n.toNat 257=n.toNat by omega]at hm;rw[hm]
   |some H=>
    obtain⟨d,i⟩:=H;rw[(yW.till (min n.toNat 257)).ok r d i hm];have J:=(qC (P:=fun _=>True) (fun _ _ _ _=>trivial) _ r d i hm).2;simp only[]
    by_cases f:256<n
    .rw[aE f]
     by_cases C:(false=true∨i≠[]∨cP o=false∨n≠d.length)
     .rw[aE C]
     .rw[aC C,aC];intro g;have c:=Yb g;rw[show (eS o nx m s y A d).obs=d from rfl]at c;omega
    .rw[aC f];rw[show min n.toNat 257=n.toNat by omega]at hm;rw[hm];simp only[]
     cases i with
     |cons a i=>rw[aE (.inr (.inl (by simp)))]
     |nil=>
      simp only[]
      by_cases g:cO (eS o nx m s y A d)=true
      .rw[aE g,aC];rintro (c|c|c|c)
       .cases c
       .exact c rfl
       .have:=Yc g;rw[show (eS o nx m s y A d).order=o from rfl,c]at this
        cases this
       .omega
      .rw[aC g]
       split<;>rfl
end
end Go.Proofs.YtdoopoapbffpbaaGreat
