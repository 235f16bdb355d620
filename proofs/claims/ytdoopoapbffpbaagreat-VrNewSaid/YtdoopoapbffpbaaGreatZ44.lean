import Derived.Test.YtdoopoapbffpbaaGreatZ42
import Derived.Test.YtdoopoapbffpbaaGreatZ43
namespace Go.Proofs.YtdoopoapbffpbaaGreat
open Go.RowKit Go.Proofs.Tryz
set_option maxRecDepth 100000
set_option maxHeartbeats 12800000
set_option linter.unusedVariables false
set_option linter.unusedSimpArgs false
section
attribute [-go_sem] loadCellsFrom storeCells run_eql_struct run_neq_struct
attribute [local go_sem] bC
def OvT(t:TypeId):Prop:=t=46∨t=84∨t=86∨t=90∨t=3∨t=92
def OvS(w:World)(b i:Nat):Prop:=b≤i∧∃c t,w.heap[i]? =some (.cells c t (0,0))∧OvT t
structure OvI(w W:World)(b:Nat):Prop where
 c:Chg (OvS w b) w W
 m:∀(i:Nat)(c:Array Value)(t:TypeId),w.heap[i]? =some (.cells c t (0,0))→∃c':Array Value,W.heap[i]? =some (.cells c' t (0,0))∧c'.size=c.size∧(t=84→∀j,j % 6=5→c'[j]? =c[j]?)
def sE(w:World)(b:Nat)(t:TypeId)(k:Nat)(A:Option Addr)(n:Nat):Prop:=0<n→∃g off cur,A=some ⟨g,off,none⟩∧b≤g∧w.heap[g]? =some (.cells cur t (0,0))∧off+n*k≤cur.size
theorem sE.below{w W:World}{b:Nat}{t:TypeId}{k:Nat}{A:Option Addr}{n:Nat}(h:sE w b t k A n)(j:Bw' w W):sE W b t k A n:=fun d=>by
 obtain⟨g,l,c,e,f,a,i⟩:=h d;exact⟨g,l,c,e,f,(j.block g (fH.1 a).1).trans a,i⟩
section
variable {w W:World}{b g:Nat}{t:TypeId}{cs:List Value}
theorem OvI.refl(w:World)(b:Nat):OvI w w b:=⟨Chg.refl _ _,fun _ c _ h=>⟨c,h,rfl,fun _ _ _=>rfl⟩⟩
theorem OvI.put(h:OvI w W b){d:Array Value}(l:w.heap[g]? =some (.cells d t (0,0)))(F:OvT t)(C:b≤g){j:Nat}(D:j<d.size)(G:t=84→j % 6≠5)(z:Int):
  ∃u,W.cell? ⟨g,j,none⟩=some u∧W.frozen? ⟨g,j,none⟩=false∧OvI w (W.setCell ⟨g,j,none⟩ (.i z)) b:=by
 obtain⟨n,q,x,-⟩:=h.m g d t l;have o:Blk W g t n.toList:=q;have E:j<n.toList.length:=by simpa [x] using D
 refine⟨n.toList[j],(o.cell j).trans (eK E),o.frozen j,h.c.setCell (.inr ⟨C,d,t,l,F⟩) j _,fun i c H f=>?_⟩
 by_cases r:i=g
 .subst r;rw[l]at f;injection f with f
  injection f with B a
  subst B a;obtain⟨c2,a,y,p⟩:=h.m i d t l;rw[q]at a;injection a with a
  injection a with a
  subst a;refine⟨_,o.setCell j (.i z),by simpa using x,fun A k s=>?_⟩;rw[←p A k s,Ew,List.getElem?_set_ne (fun e:j=k=>G A (by rw[e]; exact s)),zR]
 .obtain⟨c2,a,y,p⟩:=h.m i c H f;exact⟨c2,(((Chg.refl (fun i=>i=g) W).setCell (.inr rfl) j (.i z)).block i (fH.1 a).1 r).trans a,y,p⟩
theorem OvI.keep(h:OvI w W b){a:Array Value}(d:w.heap[g]? =some (.cells a 84 (0,0))){j:Nat}(l:j % 6=5){u:Value}(c:w.cell? ⟨g,j,none⟩=some u):W.cell? ⟨g,j,none⟩=some u:=by
 obtain⟨e,k,-,n⟩:=h.m g a _ d;have f:Blk w g 84 a.toList:=d;have i:Blk W g 84 e.toList:=k;rw[f.cell,zR]at c;rw[i.cell,zR,n rfl j l];exact c
theorem OvI.box(h:OvI w W b)(d:Blk w g t cs)(e:¬OvT t):Blk W g t cs:=d.chg h.c fun⟨_,c,i,a,f⟩=>by
 rw[show w.heap[g]? =_ from d]at a;injection a with a
 injection a with _ a
 subst a;exact e f
section
variable {α:Type}{enc:α→List Value}{k:Nat}{v:Value}{l:List α}
theorem Ee(h:OR w (fun i=>b≤i) t k v enc l):∃A n c,v=.slice A n c∧l.length=n∧sE w b t k A n:=by
 obtain⟨A,c,rfl,-⟩:=aO.slice h;refine⟨A,l.length,c,rfl,rfl,fun d=>?_⟩;obtain⟨g,p,cap,a,e,m,f,j,q,o,-⟩:=aO.form h d
 cases e;exact⟨g,p,a,rfl,m,f,aB (Nat.add_le_add_left (dV _ j) _) o⟩
theorem sF(h:Ow w b t k v enc l):∃A n c,v=.slice A n c∧l.length=n∧sE w b t k A n:=Ee (aO.of_own h fun _ a _=>a)
theorem Mz(r:∀a,(enc a).length=k)(m:0<k){A:Option Addr}{n c:Nat}(h:Ow w b t k (.slice A n c) enc l)(f:0<n)(s:l.length=n):∃g d,A=some ⟨g,0,none⟩∧b≤g∧w.heap[g]? =some (.cells d t (0,0))∧n*k≤d.size∧∀i(D:i<l.length) j u,(enc l[i])[j]? =some u→w.cell? ⟨g,i*k+j,none⟩=some u:=by
 subst s;obtain⟨g,z,e,o,-,-,-,p,-⟩:=h.at_ r m f
 cases e;obtain⟨y,F,B,e,C,x⟩:=sF h
 cases e;obtain⟨g',G,d,e,-,q,E⟩:=x f
 cases e;exact⟨g,d,rfl,o,q,by omega,p⟩
end
end
theorem nX:¬OvT 39∧¬OvT 64∧¬OvT 55:=by unfold OvT; decide
theorem OvI.msg{w W:World}{b g:Nat}(h:OvI w W b){a:Array Value}(e:w.heap[g]? =some (.cells a 55 (0,0))){j:Nat}{u:Value}(d:w.cell? ⟨g,j,none⟩=some u):W.cell? ⟨g,j,none⟩=some u:=by
 have c:Blk w g 55 a.toList:=e;rw[(h.box c nX.2.2).cell,←c.cell];exact d
structure OvN(p:RpV)(ps:List ObV)(ms:List MgV):Prop where
 k:p.k.es.length≤1000000
 v:p.votes.length≤1000000∧∀v∈p.votes,v.es.length≤1000000
 s:p.s.rows.length≤1000000∧ps.length≤1000000
 l:p.starts.length≤1000000∧p.acks.length≤1000000
 m:ms.length≤1000000
theorem Ef(p:RpV)(ps:List ObV)(rv mv:Value)(ms:List MgV)(b:Nat)(w:World)(h:RpO w b p ps)(hm:Ow w b 55 23 mv MgV.cells ms)(m0:∀x∈ms,∃A n c,x.ev=.slice A n c∧n≤1000000∧sE w b 46 11 A n)(Y:OvN p ps ms):
  Calls prog 11 #[.agg p.cells.toArray,.agg #[rv,mv]] w fun e w'=>e=.returned (.tuple #[])∧Chg (OvS w b) w w':=by
 obtain⟨W1,o0,x1,b1,z1⟩:=par w 39 p.cells;obtain⟨D,p0,x2,b2,z2⟩:=par W1 64 [rv,mv];have hb:=b1.on b2;have M:=h.below hb;have j0:=hm.below hb;have HV:=kp (fun x(P:x∈p.votes)=>jQ (M.ves x P) (Y.v.2 x P));have HM:=kp (fun x(P:x∈ms)=>(m0 x P).imp fun A h=>h.imp fun n h=>h.imp fun c h=>(⟨h.1,h.2.1,h.2.2.below hb⟩:x.ev=.slice A n c∧n≤1000000∧sE D b 46 11 A n));obtain⟨A1,Q,c1,e1,l1,r1⟩:=sF M.es;obtain⟨A2,O,c2,e2,l2,-⟩:=sF M.votes;obtain⟨A4,R,c4,e4,l4,r4⟩:=Ee M.st.rows;obtain⟨A5,S,c5,e5,l5,r5⟩:=Ee M.st.h.obs;obtain⟨A6,T,c6,e6,l6,r6⟩:=sF M.starts;obtain⟨A7,U,c7,e7,l7,r7⟩:=sF M.acks;obtain⟨A8,V,c8,e8,l8,-⟩:=sF j0;have l0:=M.votes;rw[e2]at l0;subst e8;have X:=kp (fun(W:World)(f:OvI D W b)=>jQ (f.box (x1.grow b2) nX.1) (f.box x2 nX.2.1));have q1:p.cells[6]? =some (.slice A1 Q c1):=bG some e1;have q2:p.cells[19]? =some (.slice A2 O c2):=bG some e2;have q4:p.cells[16]? =some (.slice A4 R c4):=bG some e4;have q5:p.cells[9]? =some (.slice A5 S c5):=bG some e5;have q6:p.cells[18]? =some (.slice A6 T c6):=bG some e6;have q7:p.cells[20]? =some (.slice A7 U c7):=bG some e7;have HQ:=k'6 q1 q2 q4 q5 q6 q7;have R1:=kp r1;have R4:=kp r4;have R5:=kp r5;have R6:=kp r6;have R7:=kp r7;have RV:=k'2 l0 l2;have RM:=k'2 j0 l8;have m1:Q≤1000000:=l1▸Y.k;have m2:O≤1000000:=l2▸Y.v.1;have m4:R≤1000000:=l4▸Y.s.1;have m5:S≤1000000:=l5▸Y.s.2;have m6:T≤1000000:=l6▸Y.l.1;have m7:U≤1000000:=l7▸Y.l.2;have m8:V≤1000000:=l8▸Y.m;have H:=kp (OvI.refl D b);have HE:=kp (fun(W:World)(f:OvI D W b)=>(show Chg (OvS w b) w W from (Chg.of_below hb).trans f.c fun i hi ⟨h1,c,t,M,h3⟩=>⟨h1,c,t,by rw[←hb.block i hi]; exact M,h3⟩));clear x1 x2 b1 b2 z1 z2 h M hm j0 m0 Y hb l0 q1 q2 q4 q5 q6 q7 r1 r4 r5 r6 r7 e1 e2 e4 e5 e6 e7 l1 l2 l4 l5 l6 l7 l8;go_enter func11,ntmps11;go_wp2_with fail
 go_loopw [4] (fun i wr=>∃k:Nat,k≤Q∧i=.i k∧OvI D wr b) (fun i _=>Q-(intOf i).toNat)
 case atStart=>exact⟨0,by omega,rfl,H.o⟩
 case round=>
  obtain⟨k,hk,rfl,f⟩:=hrel;have q:wr.cell? ⟨w.heap.size,6,none⟩=some (.slice A1 Q c1):=((X.o wr f).1.cell 6).trans (HQ.a)
  by_cases L:k<Q
  .have I:(k:Int)<(Q:Int):=by omega
   obtain⟨g,K,a0,rfl,y,r,E⟩:=R1.o (by omega);have J:=dV 11 (sU L);obtain⟨u,hu,hf,z⟩:=f.put r (.inl rfl) y (j:=K+k*11) (by omega) (fun e=>absurd e (by decide)) (-77);have C:=kp z;clear f z y r E J;go_wp2_with fail;go_roundw
   case rel=>exact⟨k+1,by omega,by go_num,C.o⟩
   case measure=>simp[intOf]; omega
  .obtain rfl:Q=k:=by omega
   have I:¬(Q:Int)<(Q:Int):=by omega
   have H:=kp f;clear f;go_wp2_with fail
   go_loopw [5] (fun i wr=>∃k:Nat,k≤O∧i=.i k∧OvI D wr b) (fun i _=>O-(intOf i).toNat)
   case atStart=>exact⟨0,by omega,rfl,H.o⟩
   case round=>
    obtain⟨k,hk,rfl,f⟩:=hrel;have q:wr.cell? ⟨w.heap.size,19,none⟩=some (.slice A2 O c2):=((X.o wr f).1.cell 19).trans (HQ.b)
    by_cases L:k<O
    .have I:(k:Int)<(O:Int):=by omega
     obtain⟨g,a0,rfl,y,r,E,b0⟩:=Mz iS (by decide) RV.a (by omega) RV.B;have J:=dV 6 (sU L);obtain⟨u,hu,hf,z⟩:=f.put r (.inr (.inl rfl)) y (j:=k*6) (by omega) (fun _=>by omega) (-7);have Z:k<p.votes.length:=by have:=RV.B; omega
     have N:=b0 k Z 5 _ rfl;have P:=HV.o _ (bK Z);generalize p.votes[k]'Z=x at *;obtain⟨A3,G,c3,e3,l3,r3⟩:=sF P.1;have m3:G≤1000000:=l3▸P.2;have N:D.cell? ⟨g,k*6+5,none⟩=some x.ev:=N;rw[e3]at N;have e0:=kp (fun(W:World)(f:OvI D W b)=>f.keep r (j:=k*6+5) (by omega) N);have C:=kp z;have R3:=kp r3;clear f z y r E J b0 Z P N e3 l3 r3;go_wp2_with fail;clear u hu hf q
     go_loopw [6] (fun i wr=>∃j:Nat,j≤G∧i=.i j∧OvI D wr b) (fun i _=>G-(intOf i).toNat)
     case atStart=>exact⟨0,by omega,rfl,C.o⟩
     case round=>
      obtain⟨j,hj,rfl,f⟩:=hrel;have q:wr.cell? ⟨w.heap.size,19,none⟩=some (.slice (some ⟨g,0,none⟩) O c2):=((X.o wr f).1.cell 19).trans (HQ.b);have qe:=e0.o wr f
      by_cases g0:j<G
      .have g4:(j:Int)<(G:Int):=by omega
       obtain⟨I,K,a0,rfl,y,r,E⟩:=R3.o (by omega);have J:=dV 11 (sU g0);obtain⟨u,hu,hf,z⟩:=f.put r (.inl rfl) y (j:=K+j*11) (by omega) (fun e=>absurd e (by decide)) (-77);have C:=kp z;clear f z y r E J;go_wp2_with fail;go_roundw
       case rel=>exact⟨j+1,by omega,by go_num,C.o⟩
       case measure=>simp[intOf]; omega
      .obtain rfl:G=j:=by omega
       have g4:¬(G:Int)<(G:Int):=by omega
       have d0:=kp f;clear f;go_wp2_with fail;go_roundw
       case rel=>exact⟨k+1,by omega,by go_num,d0.o⟩
       case measure=>simp[intOf]; omega
    .obtain rfl:O=k:=by omega
     have I:¬(O:Int)<(O:Int):=by omega
     have H:=kp f;clear f;go_wp2_with fail
     go_loopw [7] (fun i wr=>∃k:Nat,k≤R∧i=.i k∧OvI D wr b) (fun i _=>R-(intOf i).toNat)
     case atStart=>exact⟨0,by omega,rfl,H.o⟩
     case round=>
      obtain⟨k,hk,rfl,f⟩:=hrel;have q:wr.cell? ⟨w.heap.size,16,none⟩=some (.slice A4 R c4):=((X.o wr f).1.cell 16).trans (HQ.c)
      by_cases L:k<R
      .have I:(k:Int)<(R:Int):=by omega
       obtain⟨g,K,a0,rfl,y,r,E⟩:=R4.o (by omega);have J:=dV 4 (sU L);obtain⟨u,hu,hf,z⟩:=f.put r (.inr (.inr (.inl rfl))) y (j:=K+k*4+1) (by omega) (fun e=>absurd e (by decide)) (-7);have C:=kp z;clear f z y r E J;go_wp2_with fail;go_roundw
       case rel=>exact⟨k+1,by omega,by go_num,C.o⟩
       case measure=>simp[intOf]; omega
      .obtain rfl:R=k:=by omega
       have I:¬(R:Int)<(R:Int):=by omega
       have H:=kp f;clear f;go_wp2_with fail
       go_loopw [8] (fun i wr=>∃k:Nat,k≤S∧i=.i k∧OvI D wr b) (fun i _=>S-(intOf i).toNat)
       case atStart=>exact⟨0,by omega,rfl,H.o⟩
       case round=>
        obtain⟨k,hk,rfl,f⟩:=hrel;have q:wr.cell? ⟨w.heap.size,9,none⟩=some (.slice A5 S c5):=((X.o wr f).1.cell 9).trans (HQ.d)
        by_cases L:k<S
        .have I:(k:Int)<(S:Int):=by omega
         obtain⟨g,K,a0,rfl,y,r,E⟩:=R5.o (by omega);have J:=dV 5 (sU L);obtain⟨u,hu,hf,z⟩:=f.put r (.inr (.inr (.inr (.inl rfl)))) y (j:=K+k*5) (by omega) (fun e=>absurd e (by decide)) (-7);have C:=kp z;clear f z y r E J;go_wp2_with fail;go_roundw
         case rel=>exact⟨k+1,by omega,by go_num,C.o⟩
         case measure=>simp[intOf]; omega
        .obtain rfl:S=k:=by omega
         have I:¬(S:Int)<(S:Int):=by omega
         have H:=kp f;clear f;go_wp2_with fail
         go_loopw [9] (fun i wr=>∃k:Nat,k≤T∧i=.i k∧OvI D wr b) (fun i _=>T-(intOf i).toNat)
         case atStart=>exact⟨0,by omega,rfl,H.o⟩
         case round=>
          obtain⟨k,hk,rfl,f⟩:=hrel;have q:wr.cell? ⟨w.heap.size,18,none⟩=some (.slice A6 T c6):=((X.o wr f).1.cell 18).trans (HQ.e)
          by_cases L:k<T
          .have I:(k:Int)<(T:Int):=by omega
           obtain⟨g,K,a0,rfl,y,r,E⟩:=R6.o (by omega);have J:=dV 1 (sU L);obtain⟨u,hu,hf,z⟩:=f.put r (.inr (.inr (.inr (.inr (.inl rfl))))) y (j:=K+k) (by omega) (fun e=>absurd e (by decide)) (-7);have C:=kp z;clear f z y r E J;go_wp2_with fail;go_roundw
           case rel=>exact⟨k+1,by omega,by go_num,C.o⟩
           case measure=>simp[intOf]; omega
          .obtain rfl:T=k:=by omega
           have I:¬(T:Int)<(T:Int):=by omega
           have H:=kp f;clear f;go_wp2_with fail
           go_loopw [10] (fun i wr=>∃k:Nat,k≤U∧i=.i k∧OvI D wr b) (fun i _=>U-(intOf i).toNat)
           case atStart=>exact⟨0,by omega,rfl,H.o⟩
           case round=>
            obtain⟨k,hk,rfl,f⟩:=hrel;have q:wr.cell? ⟨w.heap.size,20,none⟩=some (.slice A7 U c7):=((X.o wr f).1.cell 20).trans (HQ.F)
            by_cases L:k<U
            .have I:(k:Int)<(U:Int):=by omega
             obtain⟨g,K,a0,rfl,y,r,E⟩:=R7.o (by omega);have J:=dV 2 (sU L);obtain⟨u,hu,hf,z⟩:=f.put r (.inr (.inr (.inr (.inr (.inr rfl))))) y (j:=K+k*2) (by omega) (fun e=>absurd e (by decide)) (-7);have C:=kp z;clear f z y r E J;go_wp2_with fail;go_roundw
             case rel=>exact⟨k+1,by omega,by go_num,C.o⟩
             case measure=>simp[intOf]; omega
            .obtain rfl:U=k:=by omega
             have I:¬(U:Int)<(U:Int):=by omega
             have H:=kp f;clear f;go_wp2_with fail
             go_loopw [11] (fun i wr=>∃k:Nat,k≤V∧i=.i k∧OvI D wr b) (fun i _=>V-(intOf i).toNat)
             case atStart=>exact⟨0,by omega,rfl,H.o⟩
             case round=>
              obtain⟨k,hk,rfl,f⟩:=hrel;have q:wr.cell? ⟨W1.heap.size,1,none⟩=some (.slice A8 V c8):=((X.o wr f).2.cell 1).trans (rfl)
              by_cases L:k<V
              .have I:(k:Int)<(V:Int):=by omega
               obtain⟨g,a0,rfl,y,r,E,b0⟩:=Mz fF (by decide) RM.a (by omega) RM.B;have Z:k<ms.length:=by have:=RM.B; omega
               have N:=b0 k Z 8 _ rfl;have P:=HM.o _ (bK Z);generalize ms[k]'Z=x at *;obtain⟨A3,G,c3,e3,m3,r3⟩:=P;have N:D.cell? ⟨g,k*23+8,none⟩=some x.ev:=N;rw[e3]at N;have e0:=kp (fun(W:World)(f:OvI D W b)=>f.msg r N);have C:=kp f;have R3:=kp r3;clear f y r E b0 Z N e3 r3;go_wp2_with fail;clear q
               go_loopw [12] (fun i wr=>∃j:Nat,j≤G∧i=.i j∧OvI D wr b) (fun i _=>G-(intOf i).toNat)
               case atStart=>exact⟨0,by omega,rfl,C.o⟩
               case round=>
                obtain⟨j,hj,rfl,f⟩:=hrel;have q:wr.cell? ⟨W1.heap.size,1,none⟩=some (.slice (some ⟨g,0,none⟩) V c8):=((X.o wr f).2.cell 1).trans (rfl);have qe:=e0.o wr f
                by_cases g0:j<G
                .have g4:(j:Int)<(G:Int):=by omega
                 obtain⟨I,K,a0,rfl,y,r,E⟩:=R3.o (by omega);have J:=dV 11 (sU g0);obtain⟨u,hu,hf,z⟩:=f.put r (.inl rfl) y (j:=K+j*11) (by omega) (fun e=>absurd e (by decide)) (-77);have C:=kp z;clear f z y r E J;go_wp2_with fail;go_roundw
                 case rel=>exact⟨j+1,by omega,by go_num,C.o⟩
                 case measure=>simp[intOf]; omega
                .obtain rfl:G=j:=by omega
                 have g4:¬(G:Int)<(G:Int):=by omega
                 have d0:=kp f;clear f;go_wp2_with fail;go_roundw
                 case rel=>exact⟨k+1,by omega,by go_num,d0.o⟩
                 case measure=>simp[intOf]; omega
              .obtain rfl:V=k:=by omega
               have I:¬(V:Int)<(V:Int):=by omega
               have H:=kp f;clear f;go_wp2_with fail;go_end0;exact⟨rfl,HE.o _ H.o⟩
end
end Go.Proofs.YtdoopoapbffpbaaGreat
