import Derived.Test.YthalbagblhkeaaaGreatZ08
import Derived.Test.YthalbagblhkeaaaGreatZ09
import Derived.Test.YthalbagblhkeaaaGreatZ16
import Derived.Test.YthalbagblhkeaaaGreatZ17
import Derived.Test.YthalbagblhkeaaaGreatZ18
namespace Go.Proofs.YthalbagblhkeaaaGreat
open Go.RowKit Go.Proofs.Tryz
set_option maxRecDepth 100000
set_option maxHeartbeats 12800000
set_option linter.unusedVariables false
set_option linter.unusedSimpArgs false
section
attribute [-go_sem] loadCellsFrom storeCells
attribute [local go_sem] bC
def Dq(w:World)(g j:Nat):Int:=match w.cell? ⟨g,j,none⟩ with
 |some (.int _ z)=>z
 |_=>0
def Dr(w:World):Value→List Bk
 |.slice (some a) n _=>(List.range n).map fun i=>⟨Dq w a.block (a.off+i*2),Dq w a.block (a.off+i*2+1)⟩
 |_=>[]
theorem yN{w:World}{B:Nat}{v:Value}{l:List Bk}(h:Sl w B v Bk.cells l):Dr w v=l:=by
 obtain⟨A,c,rfl,d,-,-⟩:=h
 cases l with
 |nil=>cases A<;>rfl
 |cons b l'=>
  obtain⟨g,m,rfl,-,-,-⟩:=bV (P:=prog) 2 bM (by omega) d 0 (by simp);unfold Dr;refine List.ext_getElem (by simp) fun i k j=>?_;obtain⟨g',n,e,-,a,-⟩:=bV (P:=prog) 2 bM (by omega) d i j;injection e with e;injection e with e1 f _;subst e1 f;have c0:=a 0 _ rfl;have c1:=a 1 _ rfl;simp only[cF]at c0;simp only[kY,List.getElem_range,Dq,c0,c1]
theorem Li(c:Int){b:Bk}{p:ObV}(d:(0≤b.o∧b.o≤8)∧0≤b.a∧b.a+aQ b.o≤aQ c)(e:0≤p.x.b.a∧p.x.b.a≤2147483647∧0≤p.x.b.o∧p.x.b.o≤8):rU (aQ c) b p=eW b p.x.b:=by
 unfold rU eW;rw[←fD d.1.1 d.1.2,←fD e.2.2.1 e.2.2.2];have f:=gF b.o
 by_cases h:p.x.b.a≤aQ c
 .rw[bY h,jF]
 .rw[aX h,Bool.false_and,aX (p:=p.x.b.a<b.a+aQ b.o) (by omega),wI]
theorem Wt(e:Int){b:Bk}{ps:List ObV}(f:(0≤b.o∧b.o≤8)∧0≤b.a∧b.a+aQ b.o≤aQ e)(g:∀p∈ps,0≤p.x.b.a∧p.x.b.a≤2147483647∧0≤p.x.b.o∧p.x.b.o≤8):kS (ps.map (·.x.b)) b= !(ps.any (rU (aQ e) b)):=by
 unfold kS;rw[Ai]
 congr 1
 rw[qQ,kZ,kZ];constructor
 .rintro⟨p,c,d⟩; exact⟨p,c,by rw[Li e f (g p c)]; exact d⟩
 .rintro⟨p,c,d⟩; exact⟨p,c,by rw[Li e f (g p c)]at d; exact d⟩
theorem Wu{b:Bk}(a:0<b.o)(c:b.o≤8):aQ b.o=2*aQ (b.o-1):=by
 have:b.o=1∨b.o=2∨b.o=3∨b.o=4∨b.o=5∨b.o=6∨b.o=7∨b.o=8:=by omega
 rcases this with h|h|h|h|h|h|h|h<;>rw[h]<;>rfl
theorem OR.self{α:Type}{enc:α→List Value}{w:World}{S T:Nat→Prop}{k:Nat}{t:TypeId}{v:Value}{l:List α}(h:OR w S t k v enc l):OR w (fun i=>some i=v.ownBlock∨T i) t k v enc l:=
 ⟨h.1,h.2.imp id fun⟨g,c,cap,b,a,_,r⟩=>⟨g,c,cap,b,a,.inl (by rw[a]; rfl),r⟩⟩
structure Lft(w:World)(fv:Value)(order:Int)(R:List Bk)(bs:List Bk)(vf vo:Value)(fl out:List Bk)(W:World):Prop where
 free:OR W (fun i=>some i=fv.ownBlock∨w.heap.size≤i) 150 2 vf Bk.cells fl
 row:Ow W w.heap.size 150 2 vo Bk.cells out
 sep:∀i,some i=vf.ownBlock→vo.ownBlock≠some i
 eq:out++xJ bs fl=R
 small:∀b∈fl,(0≤b.o∧b.o≤8)∧0≤b.a∧b.a+aQ b.o≤aQ order
 few:lD fl+out.length≤100000
 chg:Chg (fun k=>some k=fv.ownBlock) w W
 size:Blk W w.heap.size 3 [.i (aQ order)]
theorem Lft.below{w:World}{d:Value}{e:Int}{R b:List Bk}{g i:Value}{c f:List Bk}{W W':World}(h:Lft w d e R b g i c f W)(a:Bw' W W'):Lft w d e R b g i c f W':=
 ⟨h.free.below a,h.row.below a,h.sep,h.eq,h.small,h.few,h.chg.then a,h.size.below a h.size.lt⟩
theorem yO(c:List Bk)(b:Bk)(l:List Bk):xJ c (b::l)=cC c b.o.toNat b.a++xJ c l:=rfl
theorem Lj:∀l:List Bk,l.length≤lD l
 |[]=>aD _
 |b::l=>by have:=Lj l; have:=tG b l; rw[eV]; omega
theorem Ww(z:Int)(K lv:Value)(I:List Bk)(ps:List ObV)(base:Nat)(w:World)(hf:OR w (fun i=>base≤i) 150 2 K Bk.cells I)(hl:Ow w base 152 5 lv ObV.cells ps)(hb:base≤w.heap.size)
  (l4:∀p∈ps,0≤p.x.b.a∧p.x.b.a≤2147483647∧0≤p.x.b.o∧p.x.b.o≤8) (z3:∀b∈I,(0≤b.o∧b.o≤8)∧0≤b.a∧b.a+aQ b.o≤aQ z) (hn:ps.length≤1000000) (hm:lD I≤100000):
  Calls prog 195 #[.i z,K,lv] w fun e w'=>∃v,e=.returned v∧Ow w' w.heap.size 150 2 v Bk.cells (xJ (ps.map (·.x.b)) I)∧Chg (fun k=>some k=K.ownBlock) w w':=by
 have g5:∀(fn:Fn)(first cap:Array Value)(w:World),(Instr.makeFunc fn first cap).run prog w=.ok (.func fn first cap) w:=fun _ _ _ _=>rfl;obtain⟨R,hR⟩:=nm' (xJ (ps.map (·.x.b)) I);rw[hR];have q5:=gF z;have b1:=ba' w (.cells #[.i (aQ z)] 3);have y2:=kp (show Lft w K z R (ps.map (·.x.b)) K (.slice none 0 0) I [] (w.alloc (.cells #[.i (aQ z)] 3)) from
  ⟨OR.self (hf.below b1),Ow.nil _ _ _ _ _,fun _ _ h=>(nomatch h),by rw[←hR]; rfl,z3,by simpa using hm,(Chg.refl _ w).alloc _,Blk.new w 3 [.i (aQ z)]⟩)
 have j0:=k'4 l4 hl hb hn;have y0:=kp iT;have b3:=kp (fun(W':World)(hc:Chg (fun k=>some k=K.ownBlock) w W')=>hl.chg hc fun i n e=>(Ow.apt_or hl hf (by decide)) i n e.symm);go_enter func195,ntmps195;go_wp2_with fail;refine mb' (y0.o z _) fun w' p4=>?_;obtain rfl:=p4.symm;go_wp2_with fail
 go_loopw [1,8] (fun a8 cD wr=>∃vf vo I Q,vf=a8∧vo=cD∧Lft w K z R (ps.map (·.x.b)) vf vo I Q wr) (fun v _ wr=>lD (Dr wr v))
 case atStart=>exact⟨_,_,I,[],rfl,rfl,y2.o⟩
 case round=>
  obtain⟨vf,vo,g3,Q,rfl,rfl,a2⟩:=hrel;have G:=kp a2;have HM:=kp (yN a2.free.sl)
  cases g3 with
  |nil=>
   obtain⟨A,c,rfl,-,-⟩:=aO.slice G.o.free;go_wp2_with fail;go_ret;exact⟨_,rfl,by have q:=G.o.eq; rw[show xJ (ps.map (·.x.b)) []=[] from rfl,fS]at q; rw[←q]; exact G.o.row,G.o.chg⟩
  |cons b f=>
   obtain⟨g,o2,cap,a5,rfl,d5,-,j5,-,-,-⟩:=aO.form G.o.free (by simp);have o4:=aO.rd G.o.free;obtain⟨g',y5,e,-,hc,-⟩:=bV (P:=prog) 2 bM (by omega) o4 0 (by simp);injection e with e;injection e with e1 e2 _;subst e1 e2;have q0:=hc 0 _ rfl;have q1:=hc 1 _ rfl;simp only[qR,cF,Ot]at q0 q1;have e5:=If (P:=prog) q0 q1;have nz:=Blk.new wr 150 [.i 0,.i 0];have y4:=nz.store (P:=prog) (cs':=[.i b.a,.i b.o]) rfl (gU b);have nb:=nz.set [.i b.a,.i b.o];have m2:=cL (ba' wr (.cells #[.i 0,.i 0] 150)) (aD _) #[.i b.a,.i b.o];obtain⟨E,j3⟩:=nm' ((wr.alloc (.cells #[.i 0,.i 0] 150)).setRow wr.heap.size #[.i b.a,.i b.o]);rw[j3]at y4 nb m2;have b0:=G.o.small b (by simp);have L:=aO.drop (j:=1) G.o.free (by simp);have q3:(aM Bk.cells (b::f)).drop (1*2)=aM Bk.cells f:=rfl;rw[q3]at L;have d3:=kp b0;have m3:=b0.1.1;have o1:=b0.1.2;have o3:=b0.2.1;have b5:=b0.2.2;have a0:=gF b.o;have q4:∀i,some i=some g→vo.ownBlock≠some i:=G.o.sep;have g4:(b::f).length-1=f.length:=by simp
   rw[g4]at L
   by_cases p1:cap=1
   all_goals
    first
     |(subst p1; rw[aE rfl]at L; obtain⟨M,J⟩:=nm' (Value.slice (some ⟨g,o2,none⟩) f.length 0); have l1:=kp J; have d2:M.ownBlock=some g:=J▸rfl; have HD:=kp (show OR wr _ 150 2 M Bk.cells f from J▸L); clear J L)
     |(rw[aC p1]at L; obtain⟨M,J⟩:=nm' (Value.slice (some ⟨g,o2+2,none⟩) f.length (cap-1)); have l1:=kp J; have d2:M.ownBlock=some g:=J▸rfl; have HD:=kp (show OR wr _ 150 2 M Bk.cells f from J▸L); clear J L)
    have O:=kp d2;have H:=k'3 nb m2 q4;have l0:=(show Blk E.drew wr.heap.size 150 [.i b.a,.i b.o] from nb)
    go_wp2_with fail
    try rw[l1.o]
    have c0:=l0.cell 0;have c1:=l0.cell 1;have c2:=(l0.alloc (.cells #[.i 0] 3)).cell 0;have c3:=(l0.alloc (.cells #[.i 0] 3)).cell 1;simp only[aG,aK]at c0 c1 c2 c3;refine fR 7 (Two 6 E.drew (E.drew.alloc (.cells #[.i 0] 3))) (fun _=>fK) (by kernel_rfl) (by kernel_rfl) (Two.start _ _ _) ?_
    iterate 7 (refine bO ?_; apply Exists.intro)
    refine dR ⟨?pers,?walk⟩
    case walk=>
     iterate 6
      apply Ug (by kernel_rfl) (by intro t w h; cases h; exact trivial) rfl
      .intro X W' s Z hw hV Y;have f0:=s.all (P:=fun W=>W.cell? ⟨wr.heap.size,0,none⟩=some (.i b.a)) c0 c2;have f1:=s.all (P:=fun W=>W.cell? ⟨wr.heap.size,1,none⟩=some (.i b.o)) c1 c3
       first
        |(go_wp2_with fail; exact⟨rfl,_,rfl,s.other (by decide),aV,rfl⟩)
        |(go_wp2_with fail; refine (y0.o _ _).mono ?_; rintro e m ⟨rfl,rfl⟩; go_wp2_with fail; exact⟨rfl,_,rfl,s.other (by decide),aV,rfl⟩)
      simp only[Act.put,aN,aH,aI,aT,aW]
     apply Ug (by kernel_rfl) (by intro t w h; cases h; exact trivial) rfl
     .intro X W' s Z hw hV Y;obtain rfl:=s.1 Z;go_wp2_with fail;exact⟨rfl,_,rfl,Two.at_,aV,rfl⟩
     simp only[Act.put,aN,aH,aI,aT,aW];intro W9 s Y;obtain rfl:=s.2 rfl;simp only[dO,dP];go_wp2_with fail;have e4:Bw' E ((E.alloc (.cells #[.i (b.a+aQ b.o)] 3)).drew):=bR (ba' E _);have n4:Blk ((E.alloc (.cells #[.i (b.a+aQ b.o)] 3)).drew) E.heap.size 3 [.i (b.a+aQ b.o)]:=Blk.new E 3 [.i (b.a+aQ b.o)];generalize (E.alloc (.cells #[.i (b.a+aQ b.o)] 3)).drew=W4 at *;have h4:=(G.o.below H.b).below e4;have d4:=(HD.o.below H.b).below e4;have aS:=H.a.below e4 H.a.lt;obtain⟨r,hr⟩:=nm' (ps.any (rU (aQ z) b));have b2:=Wt z d3.o j0.a;rw[hr]at b2;have p2:=kp (by
      have:=tU.2.1 lv ps (rU (aQ z) b) 243 #[.pointer (some ⟨w.heap.size,0,none⟩),.pointer (some ⟨wr.heap.size,0,none⟩),.pointer (some ⟨E.heap.size,0,none⟩)] W4.heap.size W4 ((b3.o W4 h4.chg).sl cM) (aD _) j0.D (enters_of func243 (by kernel_rfl) rfl) (fun W x F z0=>Wr x (aQ z) b w.heap.size wr.heap.size E.heap.size W (h4.size.below z0 h4.size.lt) (aS.below z0 aS.lt) (n4.below z0 n4.lt) (j0.a x F).1 (j0.a x F).2.1);rw[hr]at this;exact this)
     have U:=k'3 h4 d4 aS;have p0:=kp b2;go_wp2_with fail;refine mb' (p2.o) fun m a0=>?_;have d:=kp (U.a.below a0);have e0:=kp (U.b.below a0);have m0:=kp (U.C.below a0 U.C.lt);have j1:=kp (show g<m.heap.size from eA (U.b.lt g O.o.symm).2 a0.size);have HT:=kp (Qr (ps.map (·.x.b)) b m3 o1)
     cases r
     .have l5:=m0.o.load (P:=prog) (k:=2) rfl;have a3:=kp d.o.row;have g2:Sl (m.alloc (.cells #[.i b.a,.i b.o] 150)) (m.heap.size+1) (.slice (some ⟨m.heap.size,0,none⟩) 1 1) Bk.cells [b]:=eQ (enc:=Bk.cells) m 150 b;have m1:=a3.o.alloc (.cells #[.i b.a,.i b.o] 150);have a1:=ba' m (.cells #[.i b.a,.i b.o] 150);obtain⟨W2,l3⟩:=nm' (m.alloc (.cells #[.i b.a,.i b.o] 150));rw[l3]at g2 m1 a1;have y:=k'4 g2 m1 a1 (show w.heap.size≤W2.heap.size from aB (d.o.chg.size) a1.size);go_wp2_with (at_builtin; refine mO (enc:=Bk.cells) W2 rfl (.tmp 33) (.tmp 35) 27 rfl (w.heap.size) 150 jA fC rfl (by omega) bM y.b rfl y.a rfl (fun a _=>gU a) ?_ ?_ y.D ?_)
      .have q:=d.o.few; unfold maxLen; (try simp); omega
      .have q:=d.o.few; (try simp); omega
      intro v3 w3 m4 m5 y1 a4;have z4:=kp ((y.c.mono (d.o.chg.size)).trans (y.b.grew y1 y.D));have z2:=kp m4;have o0:=kp y1;have q2:=kp a4;go_wp2_with fail;have d1:=kp (show OR w3 _ 150 2 M Bk.cells f from aO.chg (e0.o.below y.c) (fZ o0.o) fun i n e=>by rw[O.o]at n; exact H.C i n e);go_roundw
      case rel=>
       refine⟨_,_,f,Q++[b],rfl,rfl,d1.o,z2.o,fun i n e=>?_,?_,fun x F=>d.o.small x (by simp[F]),?_,?_,?_⟩
       .rw[O.o]at n;rcases q2.o i e with h|h
        .exact H.C i n h
        .have q:=y.c.size;have h2:=j1.o
         cases n;omega
       .have q:=d.o.eq;rw[yO,HT.o,p0.o,aE (show (!false)=true from rfl)]at q;rw[←q];simp
       .have q:=d.o.few;have h2:=tG b f;simp only[bB,eV,mH];omega
       .exact (d.o.chg.then y.c).trans (fZ o0.o) fun i n e=>by have:=(y.b.lt e).1; omega
       .exact (d.o.size.below y.c d.o.size.lt).chg (fZ o0.o) (y.b.ne_blk (d.o.size.below y.c d.o.size.lt) (by decide))
      case measure=>
       rw[HM.o,yN d1.o.sl];exact tG b f
     .have z1:=m0.o.cell 1;simp only[aG,aK]at z1
      by_cases V:0<b.o
      .have g0:decide (0<b.o)=true:=by simpa using V
       have T:=kp V;have e3:=kp (Wu V o1);have o5:=gF (b.o-1);have j2:=(show Blk m.drew wr.heap.size 150 [.i b.a,.i b.o] from m0.o)
       have c0:=j2.cell 0;have c2:=(j2.alloc (.cells #[.i b.a,.i (b.o-1),.i (b.a+aQ (b.o-1)),.i (b.o-1)] 150)).cell 0;simp only[aG]at c0 c2;go_wp2_with fail;refine fR 13 (Two 12 m.drew (m.drew.alloc (.cells #[.i b.a,.i (b.o-1),.i (b.a+aQ (b.o-1)),.i (b.o-1)] 150))) (fun _=>fK) (by kernel_rfl) (by kernel_rfl) (Two.start _ _ _) ?_
       iterate 13 (refine bO ?_; apply Exists.intro)
       refine dR ⟨?_,?_⟩
       rotate_left
       iterate 12
        apply Ug (by kernel_rfl) (by intro t w h; cases h; exact trivial) rfl
        .intro X W' s Z hw hV Y;have f0:=s.all (P:=fun W=>W.cell? ⟨wr.heap.size,0,none⟩=some (.i b.a)) c0 c2
         first
          |(go_wp2_with fail; exact⟨rfl,_,rfl,s.other (by decide),aV,rfl⟩)
          |(go_wp2_with fail; refine (y0.o _ _).mono ?_; rintro e w6 ⟨rfl,rfl⟩; go_wp2_with fail; exact⟨rfl,_,rfl,s.other (by decide),aV,rfl⟩)
        simp only[Act.put,aN,aH,aI,aT,aW]
       apply Ug (by kernel_rfl) (by intro t w h; cases h; exact trivial) rfl
       .intro X W' s Z hw hV Y;obtain rfl:=s.1 Z;go_wp2_with fail;exact⟨rfl,_,rfl,Two.at_,aV,rfl⟩
       simp only[Act.put,aN,aH,aI,aT,aW];intro W9 s Y;obtain rfl:=s.2 rfl;simp only[dO,dP];have a7:Bw' m (m.alloc (.cells #[.i b.a,.i (b.o-1),.i (b.a+aQ (b.o-1)),.i (b.o-1)] 150)).drew:=bR (ba' m _);have n7:Blk (m.alloc (.cells #[.i b.a,.i (b.o-1),.i (b.a+aQ (b.o-1)),.i (b.o-1)] 150)).drew m.heap.size 150 (aM Bk.cells [⟨b.a,b.o-1⟩,⟨b.a+aQ (b.o-1),b.o-1⟩]):=Blk.new m 150 (aM Bk.cells [⟨b.a,b.o-1⟩,⟨b.a+aQ (b.o-1),b.o-1⟩]);have h7:=d.o.below a7;have d7:=e0.o.below a7;have HI:=kp (show Calls prog 244 #[M,.i 0,.slice (some ⟨m.heap.size,0,none⟩) 2 2] (m.alloc (.cells #[.i b.a,.i (b.o-1),.i (b.a+aQ (b.o-1)),.i (b.o-1)] 150)).drew _ from
        Jb (S:=fun i=>some i=K.ownBlock∨w.heap.size≤i) (v:=M) (l:=f) (l2:=[⟨b.a,b.o-1⟩,⟨b.a+aQ (b.o-1),b.o-1⟩]) 0 m.heap.size _ d7 n7 (fun e=>by rw[O.o]at e; injection e with e; have:=j1.o; omega) (cY _) (by simp) (fun i n=>.inr (aB (aB h7.chg.size (aD _)) n)) (by have q:=d.o.few; have h2:=tG b f; have h3:=Lj f; simp only[eV,mH]; omega))
       have N:=k'2 h7 d7;go_wp2_with fail;refine (HI.o).mono ?_;rintro e w8 ⟨v8,rfl,j4,p3,y3⟩;have g1:=kp (show OR w8 _ 150 2 v8 Bk.cells ([⟨b.a,b.o-1⟩,⟨b.a+aQ (b.o-1),b.o-1⟩]++f) from by simpa only[mZ,aT,dP] using j4);have d0:=k'2 p3 y3;go_wp2_with fail;go_roundw
       case rel=>
        refine⟨_,_,[⟨b.a,b.o-1⟩,⟨b.a+aQ (b.o-1),b.o-1⟩]++f,Q,rfl,rfl,g1.o,N.a.row.chg d0.a (fun i n e=>by rw[O.o]at e; exact H.C i e n),fun i n e=>?_,?_,fun x F=>?_,?_,?_,?_⟩
        .rcases d0.B i n with h|h
         .rw[O.o]at h;exact H.C i h e
         .have:=(N.a.row.lt e).2;omega
        .have q:=d.o.eq;rw[yO,HT.o,p0.o,aC (by simp),aE T.o]at q;rw[←q];show Q++(cC _ _ _++(cC _ _ _++_))=_;simp only[cR];rfl
        .have p5:=e3.o;simp only[aW,aT,bA]at F;rcases F with rfl|rfl|F
         .exact⟨⟨by simp only; omega,by simp only; omega⟩,o3,by simp only; omega⟩
         .exact⟨⟨by simp only; omega,by simp only; omega⟩,by simp only; omega,by simp only; omega⟩
         .exact d.o.small x (by simp[F])
        .have q:=d.o.few;have h2:=Ha (b:=b) f T.o;show lD (⟨b.a,b.o-1⟩::⟨b.a+aQ (b.o-1),b.o-1⟩::f)+_≤_;omega
        .refine N.a.chg.trans d0.a fun i n e=>?_;rcases (N.B.lt i e).1 with h|h
         .exact h
         .omega
        .exact N.a.size.chg d0.a (fun e=>aO.not_blk N.B N.a.size (by decide) e)
       case measure=>
        rw[HM.o,yN g1.o.sl];exact Ha (b:=b) f T.o
       exact⟨pv',pv',pv',pv',pv',pv',pv',pv',pv',pv',pv',pv',pv',trivial⟩
      .have g0:decide (0<b.o)=false:=by simpa using V
       have T:=kp V;go_wp2_with fail;go_roundw
       case rel=>
        refine⟨_,_,f,Q,rfl,rfl,e0.o,d.o.row,fun i n=>by rw[O.o]at n; exact H.C i n,?_,fun x F=>d.o.small x (by simp[F]),?_,d.o.chg,d.o.size⟩
        .have q:=d.o.eq;rw[yO,HT.o,p0.o,aC (by simp),aC T.o,aT]at q;exact q
        .have q:=d.o.few;have h2:=tG b f;omega
       case measure=>
        rw[HM.o,yN e0.o.sl];exact tG b f
    case pers=>exact⟨pv',pv',pv',pv',pv',pv',pv',trivial⟩
end
section
attribute [-go_sem] loadCellsFrom storeCells
attribute [local go_sem] bC
def rV(w:World)(gi gr:Nat)(o:Option (List Ob×List UInt8))(e:Ending)(w':World):Prop:=
 Chg (fun i=>i=gr) w w'∧match o with
  |some (xs,r)=>∃v ps,e=.returned v∧Ow w' w.heap.size 152 5 v ObV.cells ps∧Rws w' w.heap.size ps∧ps.map (·.x)=xs∧cK w' gi gr r
  |none=>e=.panicked iD
section
variable {w w':World}{gi gr:Nat}{ps:List ObV}{r:List UInt8}{v:Value}{o:Option (List Ob×List UInt8)}
theorem rV.some(c:o=some (ps.map (·.x),r))(a:Chg (fun i=>i=gr) w w')(d:Ow w' w.heap.size 152 5 v ObV.cells ps)(e:Rws w' w.heap.size ps)(b:cK w' gi gr r):rV w gi gr o (.returned v) w':=by
 subst c;exact⟨a,v,ps,rfl,d,e,rfl,b⟩
theorem rV.none(b:o=none)(a:Chg (fun i=>i=gr) w w'):rV w gi gr o (.panicked iD) w':=by
 subst b;exact⟨a,rfl⟩
end
theorem Wy(n a:Int)(c:a<n)(f:Value)(w:World):Calls prog 192 #[.i n,.i a,f] w fun e w'=>e=.panicked iD∧w'=w:=by
 have g:decide (n≤a)=false:=by simp; omega
 have b:=kp rP;go_enter func192,ntmps192;go_wp2_with fail;refine (b.o _).mono ?_;rintro e d ⟨rfl,rfl⟩;exact⟨rfl,rfl,rfl⟩
theorem Wz(n:Nat)(U:Int)(hn:(n:Int)≤U)(hm:U≤65536){w:World}{gi gr:Nat}{l:List UInt8}(h:cK w gi gr l):
  Calls prog 192 #[.i n,.i U,.func (.func 193) #[.pointer (some ⟨gi,0,none⟩)] #[]] w (rV w gi gr (aZ obP n l)):=by
 have g:decide ((n:Int)≤U)=true:=by simpa using hn
 have HG:=kp rO;have HO:=kp (fun(W:World)(l:List UInt8)(h:cK W gi gr l)=>Wq h);have HI:=kp h;have J:=k'2 hn hm;have L:=k'2 h.blk.lt h.rd.lt;obtain⟨R,hR⟩:=nm' (aZ obP n l);rw[hR];have Z:=kp hR;go_enter func192,ntmps192;go_wp2_with fail;refine mb' (HG.o _) fun w' o1=>?_;obtain rfl:=o1.symm;go_wp2_with fail
 go_loopw [7,13] (fun v i wr=>∃k:Nat,k≤n∧i=.i k∧∃ps r,aZ obP k l=some (ps.map (·.x),r)∧ps.length=k∧Ow wr w.heap.size 152 5 v ObV.cells ps∧Rws wr w.heap.size ps∧cK wr gi gr r∧Chg (fun i=>i=gr) w wr) (fun _ i _=>n-(intOf i).toNat)
 case atStart=>exact⟨0,by omega,rfl,[],l,rfl,rfl,Ow.nil _ _ _ _ _,⟨fun _ h=>(nomatch h),List.Pairwise.nil⟩,HI.o,Chg.refl _ _⟩
 case round=>
  obtain⟨k,hk,rfl,ps,r,y0,p1,g1,l1,q0,o0⟩:=hrel;have f:=k'6 y0 p1 g1 l1 q0 o0
  by_cases q1:k<n
  .have g3:(k:Int)<(n:Int):=by omega
   have y1:(n:Int)≤65536:=by have M:=J.a; have N:=J.B; omega
   have O:=kp (HO.o wr r f.e)
   cases hx:obP r with
   |none=>
    rw[hx]at O;have V:=kp hx;go_wp2_with fail;refine O.o.mono ?_;rintro e H ⟨K,rfl⟩;go_wp2_with fail;have z0:aZ obP n l=none:=Do (i:=k+1) (by rw[qA,f.a]; simp only[]; rw[V.o]) (by omega);exact⟨rfl,rV.none (by rw[←Z.o,z0]) (f.F.trans K fun _ _ h=>h)⟩
   |some p=>
    obtain⟨x,r'⟩:=p;rw[hx]at O;have V:=kp hx;go_wp2_with fail;refine O.o.mono ?_;rintro e H ⟨K,⟨⟨s,⟨q,y⟩,ws,ls⟩,C,A⟩,rfl,rfl,S,T,m0,p0⟩;simp only[ObV.cells];have b0:=aB f.F.size K.size;have b1:∀z∈ps,∀i,i=gr→z.wv.ownBlock≠some i∧z.lv.ownBlock≠some i:=fun z G i j=>⟨fun e=>by have M:=((f.d.row z G).1).lt e; have N:=L.B; omega,fun e=>by have M:=((f.d.row z G).2).lt e; have N:=L.B; omega⟩
    have m1:Rws H w.heap.size (ps++[⟨⟨s,⟨q,y⟩,ws,ls⟩,C,A⟩]):=(f.d.chg K b1).snoc (S.mono f.F.size) (T.mono f.F.size) m0 fun z G=>by
     have a1:=fun i j=>((f.d.row z G).1).lt (i:=i) j;have a2:=fun i j=>((f.d.row z G).2).lt (i:=i) j;refine⟨fun i j I=>?_,fun i j I=>?_,fun i j I=>?_,fun i j I=>?_⟩
     .have:=a1 i j; have:=S.lt I; omega
     .have:=a1 i j; have:=T.lt I; omega
     .have:=a2 i j; have:=S.lt I; omega
     .have:=a2 i j; have:=T.lt I; omega
    have g0:=kp ((f.c).chg K fun i j e=>by have M:=(f.c).lt j; have N:=L.B; omega);have d1:=tX s q y S.one T.one;have P:=k'4 K p0 b0 d1;have d0:Sl (H.alloc (.cells #[.i s,.i q,.i y,C,A] 152)) (H.heap.size+1) (.slice (some ⟨H.heap.size,0,none⟩) 1 1) ObV.cells [⟨⟨s,⟨q,y⟩,ws,ls⟩,C,A⟩]:=eQ (enc:=ObV.cells) H 152 ⟨⟨s,⟨q,y⟩,ws,ls⟩,C,A⟩;have a0:=g0.o.alloc (.cells #[.i s,.i q,.i y,C,A] 152);have Q:=ba' H (.cells #[.i s,.i q,.i y,C,A] 152);obtain⟨W2,l0⟩:=nm' (H.alloc (.cells #[.i s,.i q,.i y,C,A] 152));rw[l0]at d0 a0 Q;have m:=k'5 d0 a0 Q (m1.below Q) (show w.heap.size≤W2.heap.size from aB b0 Q.size);go_wp2_with (at_builtin; refine eU (enc:=ObV.cells) W2 rfl (.tmp 15) (.tmp 18) 25 rfl w.heap.size 152 pS nE rfl (by omega) cM m.b rfl m.a rfl (fun a ha=>by rw[bQ.1 ha]; exact P.D) ?_ ?_ m.E ?_)
    .have M:=f.b; have N:=J.a; have h3:=J.B; unfold maxLen; (try simp); omega
    .have M:=f.b; have N:=J.a; have h3:=J.B; (try simp); omega
    intro v3 w3 j1 X;have Y:=kp ((m.c.mono P.c).trans (m.b.grew X m.E));have j0:=kp (show Rws w3 w.heap.size (ps++[⟨⟨s,⟨q,y⟩,ws,ls⟩,C,A⟩]) from⟨fun z G=>⟨m.b.other ((m.d.row z G).1) (by decide) X,m.b.other ((m.d.row z G).2) (by decide) X⟩,m.d.sep⟩);have e0:=kp j1;go_wp2_with fail;go_roundw
    case rel=>
     refine⟨k+1,by omega,by go_num,ps++[⟨⟨s,⟨q,y⟩,ws,ls⟩,C,A⟩],r',?_,by simp[f.b],e0.o,j0.o,?_,?_⟩
     .rw[qA,f.a];simp only[];rw[V.o];simp
     .exact P.b.at_ Y.o L.a L.B
     .exact (f.F.trans P.a fun _ _ h=>h).thenB Y.o
    case measure=>simp[intOf]; omega
  .obtain rfl:k=n:=by omega
   go_wp2_with fail;go_ret;exact rV.some (by rw[←Z.o,f.a]) f.F f.c f.d f.e
end
section
attribute [-go_sem] loadCellsFrom storeCells
attribute [local go_sem] bC
theorem qC{α:Type}{one:List UInt8→Option (α×List UInt8)}{P:α→Prop}(h:∀l x r,one l=some (x,r)→P x):∀(n:Nat)(l:List UInt8)(xs:List α)(r:List UInt8),aZ one n l=some (xs,r)→(∀x∈xs,P x)∧xs.length=n
 |0,l,xs,r,a=>by
  simp only[aZ,Option.some.injEq,Prod.mk.injEq]at a;rw[←a.1];exact⟨fun x d=>by simp at d,rfl⟩
 |n+1,l,xs,r,a=>by
  unfold aZ at a
  cases h1:one l with
  |none=>simp[h1]at a
  |some p=>
   obtain⟨x,c⟩:=p
   cases h2:aZ one n c with
   |none=>simp[h1,h2]at a
   |some q=>
    obtain⟨g,f⟩:=q;simp only[h1,h2,Option.some.injEq,Prod.mk.injEq]at a;obtain⟨i1,e⟩:=qC h n c g f h2;rw[←a.1];refine⟨fun y b=>?_,by simp[e]⟩;rcases bA.1 b with rfl|b
    .exact h _ _ _ h1
    .exact i1 y b
theorem Lk{l r:List UInt8}{x:Ob}(h:obP l=some (x,r)):0≤x.b.a∧x.b.a≤2147483647∧0≤x.b.o∧x.b.o≤8:=by
 unfold obP at h
 cases c:aZ bF 4 l with
 |none=>simp[c]at h
 |some p=>
  obtain⟨ns,g⟩:=p;obtain⟨i,j⟩:=qC (P:=fun n=>0≤n∧n≤2147483647) (fun l x r h=>by obtain⟨k,rfl,B⟩:=rQ h; omega) 4 l ns g c
  match ns,j,c with
  |[D,y,f,e],_,c=>
   have d:=i y (by simp);simp only[c]at h
   split at h
   .cases h
   rename_i A
   cases h2:aZ eY f.toNat g with
   |none=>simp[h2]at h
   |some m=>
    obtain⟨ws,s⟩:=m
    cases h3:aZ bF e.toNat s with
    |none=>simp[h2,h3]at h
    |some q=>
     obtain⟨ls,C⟩:=q;simp only[h2,h3,Option.some.injEq,Prod.mk.injEq]at h;have z:=Qs f e;rw[←h.1];exact⟨d.1,d.2,by simp only; omega,by simp only; omega⟩
theorem yP(b:List Bk):∀(k:Nat)(a:Int),(cC b k a).length≤2 ^ k
 |0,a=>by
  unfold cC
  split<;>simp
 |k+1,a=>by
  unfold cC
  split
  .simp; exact uD
  .have c:=yP b k a;have d:=yP b k (a+aJ k);rw[bB,wL];omega
def mU(l:List UInt8):Option (Hp×List UInt8):=
 match hpP l with
 |some (h,r)=>if cO h=true then some (h,r) else none
 |none=>none
theorem Ds(l:List UInt8):eZ l=match mU l with
  |some (h,[])=>some h
  |_=>none:=by
 unfold eZ mU
 cases hpP l with
 |none=>rfl
 |some p=>
  obtain⟨h,r⟩:=p
  cases r with
  |nil=>by_cases b:cO h=true<;>simp[b]
  |cons a r=>by_cases b:cO h=true<;>simp[b]
theorem yQ{l:List UInt8}(h:aZ bF 7 l=none):mU l=none:=by unfold mU hpP; simp[h]
theorem Xa{l r:List UInt8}{a b c d e f n:Int}(h:aZ bF 7 l=some ([a,b,c,d,e,f,n],r)):hpP l=if 256<n then none else match aZ obP n.toNat r with
  |none=>none
  |some (g,r)=>some (eS a b c d e f g,r):=by
 unfold hpP;rw[h];rfl
def kV(w:World)(gi gr:Nat)(o:Option (Hp×List UInt8))(e:Ending)(w':World):Prop:=
 Chg (fun i=>i=gr) w w'∧match o with
  |some (h,r)=>∃p ps,e=.returned (.agg p.cells.toArray)∧p.x=h∧Hv w' w.heap.size p ps∧cK w' gi gr r
  |none=>e=.panicked iD
theorem kV.none{w b:World}{c a:Nat}{o:Option (Hp×List UInt8)}(e:o=none)(d:Chg (fun i=>i=a) w b):kV w c a o (.panicked iD) b:=by
 subst e;exact⟨d,rfl⟩
theorem kV.some{w a:World}{c b:Nat}{o:Option (Hp×List UInt8)}{r:List UInt8}{p:HpV}{ps:List ObV}(g:o=some (p.x,r))(d:Chg (fun i=>i=b) w a)(e:Hv a w.heap.size p ps)(f:cK a c b r):kV w c b o (.returned (.agg p.cells.toArray)) a:=by
 subst g;exact⟨d,p,ps,rfl,rfl,e,f⟩
end
section
attribute [-go_sem] loadCellsFrom storeCells
attribute [local go_sem] bC
theorem yR{α:Type}{one:List UInt8→Option (α×List UInt8)}{k:Nat}{l r a:List UInt8}{xs:List α}{x:α}(h:aZ one k l=some (xs,r))(b:one r=some (x,a)):aZ one (k+1) l=some (xs++[x],a):=by
 rw[qA,h];simp only[];rw[b]
theorem yS{α:Type}{one:List UInt8→Option (α×List UInt8)}{k n:Nat}{l r:List UInt8}{xs:List α}(h:aZ one k l=some (xs,r))(a:one r=none)(b:k+1≤n):aZ one n l=none:=by
 refine Do (i:=k+1) ?_ b;rw[qA,h];simp only[];rw[a]
theorem Ll{k:Nat}(e:k<4)(a b c d:Value)(t:Nat→Int):[a,b,c,Value.i (t 0),.i (t 1),.i (t 2),.i (t 3),d][3+k]? =some (.i (t k)):=by
 have:k=0∨k=1∨k=2∨k=3:=by omega
 rcases this with rfl|rfl|rfl|rfl<;>rfl
theorem Lm{k:Nat}(e:k<4)(a b c d:Value)(t:Nat→Int)(x:Int):[a,b,c,Value.i (t 0),.i (t 1),.i (t 2),.i (t 3),d].set (3+k) (.i x)=
  [a,b,c,Value.i ((fun j=>if j=k then x else t j) 0),.i ((fun j=>if j=k then x else t j) 1),.i ((fun j=>if j=k then x else t j) 2),.i ((fun j=>if j=k then x else t j) 3),d]:=by
 have:k=0∨k=1∨k=2∨k=3:=by omega
 rcases this with rfl|rfl|rfl|rfl<;>rfl
theorem Xb{k:Nat}(t:Nat→Int)(x:Int)(a b:Int):[a,b]++(List.range k).map t++[x]=[a,b]++(List.range (k+1)).map (fun j=>if j=k then x else t j):=by
 rw[cR,Ac,gC]
 congr 2
 .refine List.map_congr_left fun j c=>?_;rw[aC (by have:=List.mem_range.1 c; omega)]
 .simp
theorem Rws.blk_set{w:World}{base b:Nat}{t:TypeId}{ps:List ObV}{e:List Value}(h:Rws w base ps)(a:Blk w b t e)(d:3≠t)(j:Nat)(u:Value):Rws (w.setCell ⟨b,j,none⟩ u) base ps:=
 ⟨fun p c=>⟨(h.row p c).1.blk_set a d j u,(h.row p c).2.blk_set a d j u⟩,h.sep⟩
theorem Rws.row_set{w:World}{base b:Nat}{t:TypeId}{ps:List ObV}{e:List Value}(h:Rws w base ps)(a:Blk w b t e)(d:3≠t)(xs:List Value):Rws (w.setRow b xs.toArray) base ps:=
 ⟨fun p c=>⟨(h.row p c).1.row_set a d xs,(h.row p c).2.row_set a d xs⟩,h.sep⟩
theorem OR.blk_set{α:Type}{enc:α→List Value}{w:World}{S:Nat→Prop}{k b:Nat}{t a:TypeId}{v:Value}{l:List α}{c:List Value}(h:OR w S t k v enc l)(d:Blk w b a c)(g:a≠t)(j:Nat)(u:Value):OR (w.setCell ⟨b,j,none⟩ u) S t k v enc l:=
 aO.chg h ((Chg.refl (fun i=>i=b) w).setCell (.inr rfl) j u) fun _ f e=>aO.not_blk h d g (e▸f)
theorem Xc{h:Hp}(H:cO h=true):cP h.order=true:=(eC.1 H).reg
theorem Xd{w:World}{gi gr:Nat}{l:List UInt8}(h:cK w gi gr l):Calls prog 144 #[.pointer (some ⟨gi,0,none⟩)] w (kV w gi gr (mU l)):=by
 have m4:∀(fn:Fn)(first cap:Array Value)(w:World),(Instr.makeFunc fn first cap).run prog w=.ok (.func fn first cap) w:=fun _ _ _ _=>rfl;have K0:=kp (Rs.new h 29 z'1);have HT:=kp rO;have HF:=kp rP;go_enter func144,ntmps144
 cases D:bF l with
 |none=>
  go_wp2_with fail;refine mb' (lL K0.o.inn D) fun G E=>?_;exact⟨rfl,kV.none (yQ (yS (k:=0) (xs:=[]) rfl D (by omega))) (K0.o.end_ E)⟩
 |some p1=>
 obtain⟨c,r1⟩:=p1;have y0:=kp (yR (k:=0) (xs:=[]) (l:=l) rfl D);have e2:=kp D;go_wp2_with fail;refine (iN K0.o.inn e2.o).mono ?_;rintro e w1 ⟨rfl,e3,m2⟩;have J1:=kp (K0.o.call e3 m2);have z1:=J1.o.blk.cell 0;have y1:=J1.o.blk.frozen 0;simp only[aG]at z1;have S:=kp (J1.o.put 0 (.i c));simp only[aH]at S
 cases F:bF r1 with
 |none=>
  go_wp2_with fail;refine mb' (lL S.o.inn F) fun G E=>?_;exact⟨rfl,kV.none (yQ (yS y0.o F (by omega))) (S.o.end_ E)⟩
 |some p2=>
 obtain⟨f,r2⟩:=p2;have d2:=kp (yR y0.o F);have g2:=kp F;go_wp2_with fail;refine (iN S.o.inn g2.o).mono ?_;rintro e w2 ⟨rfl,j3,q2⟩;have J2:=kp (S.o.call j3 q2);have z2:=J2.o.blk.cell 2;have y2:=J2.o.blk.frozen 2;simp only[aG,aK]at z2;have K2:=kp (J2.o.put 2 (.i f));simp only[aH,aI]at K2;go_wp2_with fail
 go_loopw [13] (fun i wr=>∃k:Nat,k≤4∧i=.i k∧∃(t:Nat→Int)(r:List UInt8),aZ bF (2+k) l=some ([c,f]++(List.range k).map t,r)∧(∀j,k≤j→t j=0)∧Rs w gi gr 29 r z'1 [.i c,.slice none 0 0,.i f,.i (t 0),.i (t 1),.i (t 2),.i (t 3),.slice none 0 0] wr) (fun i _=>4-(intOf i).toNat)
 case atStart=>exact⟨0,by omega,rfl,fun _=>0,r2,d2.o,fun _ _=>rfl,K2.o⟩
 case round=>
  obtain⟨k,hk,rfl,t,r,q3,g4,d4⟩:=hrel;have A:=k'3 q3 g4 d4
  by_cases g1:k<4
  .have g3:(k:Int)<4:=by omega
   cases h3:bF r with
   |none=>
    go_wp2_with fail;refine mb' (lL A.C.inn h3) fun G E=>?_;go_wp2_with fail;exact⟨rfl,kV.none (yQ (yS A.a h3 (by omega))) (A.C.end_ E)⟩
   |some p3=>
    obtain⟨x,r'⟩:=p3;have a1:=kp h3;go_wp2_with fail;refine (iN A.C.inn a1.o).mono ?_;rintro e w3 ⟨rfl,l3,a3⟩;have J3:=kp (A.C.call l3 a3);have z3:=(J3.o.blk.cell (3+k)).trans (Ll g1 _ _ _ _ t);have y3:=J3.o.blk.frozen (3+k);have d1:=J3.o.put (3+k) (.i x);rw[Lm g1]at d1;have K3:=kp d1;go_wp2_with fail;go_roundw
    case rel=>
     refine⟨k+1,by omega,by go_num,fun j=>if j=k then x else t j,r',?_,fun j hj=>?_,K3.o⟩
     .rw[show 2+(k+1)=2+k+1 by omega,yR A.a a1.o,Xb]
     .simp only[];rw[aC (by omega)];exact A.b j (by omega)
    case measure=>simp[intOf]; omega
  .obtain rfl:k=4:=by omega
   have z0:=kp (show aZ bF 6 l=some ([c,f,t 0,t 1,t 2,t 3],r) from A.a);have K6:=kp A.C;generalize t 0=m at *;generalize t 1=n at *;generalize t 2=q at *;generalize t 3=s at *
   cases h7:bF r with
   |none=>
    go_wp2_with fail;refine mb' (lL K6.o.inn h7) fun G E=>?_;exact⟨rfl,kV.none (yQ (yS z0.o h7 (by omega))) (K6.o.end_ E)⟩
   |some p7=>
   obtain⟨n7,r7⟩:=p7;obtain⟨I,rfl,l4⟩:=rQ h7;have N:=kp (Xa (show aZ bF 7 l=some ([c,f,m,n,q,s,(I:Int)],r7) from yR z0.o h7));have j2:=kp h7;go_wp2_with fail;refine (iN K6.o.inn j2.o).mono ?_;rintro e w7 ⟨rfl,m3,b3⟩;have T:=kp (K6.o.call m3 b3)
   by_cases b1:256<(I:Int)
   .have z:=kp b1;go_wp2_with fail;refine (Wy I 256 z.o _ _).mono ?_;rintro e G ⟨rfl,rfl⟩;exact⟨rfl,kV.none (by unfold mU; rw[N.o,aE z.o]) T.o.chg⟩
   have z:=kp b1;have Y:=kp (Wz I 256 (by omega) (by omega) T.o.inn)
   cases h8:aZ obP I r7 with
   |none=>
    rw[h8]at Y;have H:=kp h8;go_wp2_with fail;refine (Y.o).mono ?_;rintro e G ⟨E,rfl⟩;exact⟨rfl,kV.none (by unfold mU; rw[N.o,aC z.o,eR,H.o]) (T.o.end_ E)⟩
   |some p8=>
   obtain⟨d,r8⟩:=p8;rw[h8]at Y;have H:=k'2 h8 (qC (fun l x r h=>Lk h) I r7 d r8 h8);go_wp2_with fail;refine (Y.o).mono ?_;rintro e w8 ⟨d3,v8,ps,rfl,j1,a4,l0,o3⟩;obtain⟨g,c8,rfl,-⟩:=eD j1;have R:=kp (T.o.call o3 d3);have m1:=T.o.chg.size;have O8:=k'2 ((j1.mono m1).blk_set R.o.blk (by decide) 1 (.slice g ps.length c8)) ((a4.mono m1).blk_set R.o.blk (by decide) 1 (.slice g ps.length c8));have O:=k'3 l0 (fun p(hp:p∈ps)=>H.b p.x (by rw[←l0]; exact cX.2 ⟨p,hp,rfl⟩)) (show ps.length=I from by rw[←H.C,←l0,cW]);have z8:=R.o.blk.cell 1;have y8:=R.o.blk.frozen 1;simp only[aG,aK]at z8;have K:=kp (R.o.put 1 (.slice g ps.length c8));simp only[aH,aI]at K;have x8:=K.o.blk.cell 0;simp only[aG]at x8
   cases hrg:cP c with
   |false=>
    have e0:=kp (fun W=>by have:=Cw c W; rw[hrg]at this; exact this);have Q:=kp hrg;go_wp2_with fail;refine (e0.o _).mono ?_;rintro e G ⟨v9,rfl,-,L⟩;rw[show eN 1 false=1 from rfl];have a2:=kp L;go_wp2_with fail;refine (HF.o _).mono ?_;rintro e p0 ⟨rfl,rfl⟩;exact⟨rfl,kV.none (by
     unfold mU;rw[N.o,aC z.o,eR,H.a];simp only[];rw[aC];intro M;have:=Xc M;rw[show (eS c f m n q s d).order=c from rfl,Q.o]at this
     cases this) (K.o.chg.then a2.o)⟩
   |true=>
   have e0:=kp (fun W=>by have:=Cw c W; rw[hrg]at this; exact this);have Q:=kp (eF hrg);go_wp2_with fail;refine (e0.o _).mono ?_;rintro e G ⟨v9,rfl,l1,L⟩;rw[show eN 1 true=0 from rfl];rw[aE rfl]at l1;have K9:=kp (K.o.grow L);have O9:=k'2 (O8.a.below L) (O8.B.below L);have Z:=k'2 l1 L;go_wp2_with fail;refine mb' (HT.o _) fun w' o0=>?_;obtain rfl:=o0.symm;have x8:=K9.o.blk.cell 0;have x9:=K9.o.blk.cell 1;simp only[aG,aK]at x8 x9;have b2:=kp (Ww c v9 (.slice g ps.length c8) [⟨0,c⟩] ps w.heap.size G (OR.of_ow Z.a (fun i U _=>aB K.o.chg.size U)) O9.a K9.o.chg.size O.b (fun b hb=>by
    rw[bQ.1 hb];have D:=Q.o;exact⟨⟨by simp only; omega,by simp only; omega⟩,by simp only; omega,by simp only; omega⟩) (by have D:=O.C; have F:=z.o; omega) (by
     have D:=Q.o;have F:2 ^ c.toNat≤2 ^ 8:=oX (by omega) (by omega);simp only[lD];omega))
   go_wp2_with fail;refine (b2.o).mono ?_;rintro e p0 ⟨o4,rfl,m0,o2⟩;obtain⟨y,c10,rfl,-⟩:=eD m0;have j0:=Z.B.trans (o2.below (fun i U=>(Z.a.lt U.symm).1) Z.B.size);have e4:xJ (ps.map (·.x.b)) [⟨0,c⟩]=cC (d.map fun x:Ob=>x.b) c.toNat 0:=by
    rw[yO,show xJ (ps.map (·.x.b)) []=[] from rfl,fS,←O.a,pC];rfl
   rw[e4]at m0 ⊢;have J:=kp (K.o.grow j0);have g0:=k'3 (O8.a.below j0) (O8.B.below j0) (show OR p0 (fun i=>w.heap.size≤i) 150 2 _ Bk.cells _ from OR.of_ow m0 fun i U _=>aB K9.o.chg.size U);have j4:=J.o.blk.cell 7;have q4:=J.o.blk.frozen 7;simp only[aG,aK]at j4;have a0:=kp (J.o.put 7 (.slice y (cC (d.map fun x:Ob=>x.b) c.toNat 0).length c10));simp only[aH,aI]at a0;have q0:=kp (show Hv (p0.setCell ⟨w.heap.size+1,7,none⟩ (.slice y (cC (d.map fun x:Ob=>x.b) c.toNat 0).length c10)) w.heap.size ⟨eS c f m n q s d,.slice g ps.length c8,.slice y (cC (d.map fun x:Ob=>x.b) c.toNat 0).length c10⟩ ps from
    ⟨g0.a.blk_set J.o.blk (by decide) _ _,g0.b.blk_set J.o.blk (by decide) _ _,O.a.symm,OR.blk_set g0.C J.o.blk (by decide) _ _⟩)
   have hL:=a0.o.blk.load (P:=prog) (k:=8) rfl;have V:=kp (yD ⟨eS c f m n q s d,.slice g ps.length c8,.slice y (cC (d.map fun x:Ob=>x.b) c.toNat 0).length c10⟩ ps _ _ q0.o.wv.hpAt (aD _) (by have D:=O.C; have F:=z.o; omega) (by
    have D:=Q.o;have F:2 ^ c.toNat≤2 ^ 8:=oX (by omega) (by omega);have h3:=yP (d.map fun x:Ob=>x.b) c.toNat 0;show (cC (d.map fun x:Ob=>x.b) c.toNat 0).length≤900000;omega))
   cases M:cO (eS c f m n q s d) with
   |false=>
    have HH:=kp M;rw[show cO (HpV.x ⟨eS c f m n q s d,.slice g ps.length c8,.slice y (cC (d.map fun x:Ob=>x.b) c.toNat 0).length c10⟩)=false from M]at V;go_wp2_with fail;refine mb' (V.o) fun o1 d0=>?_;rw[show eN 1 false=1 from rfl];have q1:=kp d0;go_wp2_with fail;refine (HF.o _).mono ?_;rintro e p4 ⟨rfl,rfl⟩;exact⟨rfl,kV.none (by
     unfold mU;rw[N.o,aC z.o,eR,H.a];simp only[];rw[aC (by rw[HH.o]; decide)]) (a0.o.chg.then q1.o)⟩
   |true=>
    have HH:=kp M;rw[show cO (HpV.x ⟨eS c f m n q s d,.slice g ps.length c8,.slice y (cC (d.map fun x:Ob=>x.b) c.toNat 0).length c10⟩)=true from M]at V;go_wp2_with fail;refine mb' (V.o) fun o1 d0=>?_;rw[show eN 1 true=0 from rfl];have b0:=kp (a0.o.grow d0);have l2:=kp (q0.o.below d0);go_wp2_with fail;refine mb' (HT.o _) fun w' o0=>?_;obtain rfl:=o0.symm;have hL:=b0.o.blk.load (P:=prog) (k:=8) rfl;have hS:=b0.o.res.store (P:=prog) (cs':=[.i c,.slice g ps.length c8,.i f,.i m,.i n,.i q,.i s,.slice y (cC (d.map fun x:Ob=>x.b) c.toNat 0).length c10]) rfl (HpV.one (p:=⟨eS c f m n q s d,.slice g ps.length c8,.slice y (cC (d.map fun x:Ob=>x.b) c.toNat 0).length c10⟩) rfl rfl);have X:=k'2 (b0.o.fin [.i c,.slice g ps.length c8,.i f,.i m,.i n,.i q,.i s,.slice y (cC (d.map fun x:Ob=>x.b) c.toNat 0).length c10]) (l2.o.chg b0.o.res ((Chg.refl (fun i=>i=w.heap.size) o1).setRow (.inr rfl) (List.toArray [.i c,.slice g ps.length c8,.i f,.i m,.i n,.i q,.i s,.slice y (cC (d.map fun x:Ob=>x.b) c.toNat 0).length c10])) (by decide) (by decide) (by decide));go_wp2_with fail;have hR:=X.a.1.load (P:=prog) (k:=8) rfl;exact aU (v:=.agg (HpV.cells ⟨eS c f m n q s d,.slice g ps.length c8,.slice y (cC (d.map fun x:Ob=>x.b) c.toNat 0).length c10⟩).toArray) (by simp[results,results144,go_sem,hR,HpV.cells,eS]) rfl (kV.some (p:=⟨eS c f m n q s d,.slice g ps.length c8,.slice y (cC (d.map fun x:Ob=>x.b) c.toNat 0).length c10⟩) (r:=r8) (by
     unfold mU;rw[N.o,aC z.o,eR,H.a];simp only[];rw[aE HH.o]) X.a.2.2 X.B X.a.2.1)
end
end Go.Proofs.YthalbagblhkeaaaGreat
