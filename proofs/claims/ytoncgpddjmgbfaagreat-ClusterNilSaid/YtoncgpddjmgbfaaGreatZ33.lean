import Derived.Test.YtoncgpddjmgbfaaGreatZ12
import Derived.Test.YtoncgpddjmgbfaaGreatZ24
import Derived.Test.YtoncgpddjmgbfaaGreatZ25
import Derived.Test.YtoncgpddjmgbfaaGreatZ26
import Derived.Test.YtoncgpddjmgbfaaGreatZ27
import Derived.Test.YtoncgpddjmgbfaaGreatZ32
import Derived.IntWalk
namespace Go.Proofs.YtoncgpddjmgbfaaGreat
open Go.RowKit Go.Proofs.Tryz
set_option maxRecDepth 100000
set_option maxHeartbeats 12800000
set_option linter.unusedVariables false
set_option linter.unusedSimpArgs false
section
def HvQ(Wa:World)(R:Rp×List Rc×List Mg)(z:Value)(W:World):Prop:=∃(p:WkV)(ps:List ObV),z=.tuple #[.agg p.r.cells.toArray,.agg #[p.rv,p.mv]]∧p.r.x=R.1∧p.rs.map (·.x)=R.2.1∧p.ms.map (·.x)=R.2.2∧RpO W Wa.heap.size p.r ps∧
 Ow W Wa.heap.size 124 17 p.rv RcV.cells p.rs∧Ow W Wa.heap.size 75 23 p.mv MgV.cells p.ms∧∀x∈p.ms,Ow W Wa.heap.size 122 11 x.ev En.cells x.es
theorem HvQ.grow{Wa W W':World}{R:Rp×List Rc×List Mg}{z:Value}(h:HvQ Wa R z W)(a:Bw' W W'):HvQ Wa R z W':=by
 obtain⟨p,l,e,b,c,d,f,g,i,j⟩:=h;exact⟨p,l,e,b,c,d,f.below a,g.below a,i.below a,fun x k=>(j x k).below a⟩
theorem HvQ.chg{Wa W W':World}{R:Rp×List Rc×List Mg}{z:Value}{a:Nat}{d:List Value}(h:HvQ Wa R z W)(b:Blk W a 50 d)(c:Chg (fun i=>i=a) W W'):HvQ Wa R z W':=by
 obtain⟨p,q,e,f,g,j,k,l,m,n⟩:=h;exact⟨p,q,e,f,g,j,k.chg b c (by decide),l.chg_blk b c (by decide),m.chg_blk b c (by decide),fun x o=>(n x o).chg_blk b c (by decide)⟩
theorem HvQ.stab(Wa:World)(R:Rp×List Rc×List Mg):jU 50 (HvQ Wa R):=
 ⟨fun _ _ _ h b=>h.grow b,fun _ W a _ cs' h c=>h.chg c ((Chg.refl (fun i=>i=a) W).setRow (.inr rfl) cs')⟩
theorem rB.hv{Wa w b:World}{R:Rp×List Rc×List Mg}{e:Ending}(h:rB w b R e)(a:Wa.heap.size≤w.heap.size):∃z,e=.returned z∧HvQ Wa R z b∧Bw' w b:=by
 obtain⟨⟨p,o,m,c,d,f,g,i,-,j,k⟩,l⟩:=h;exact⟨_,m,⟨p,o,rfl,c,d,f,g.mono a,i.mono a,j.mono a,fun x n=>(k x n).mono a⟩,l⟩
structure HvI(Wa:World)(a:Nat)(cs0:List Value)(R:Rp×List Rc×List Mg)(d:Nat)(X:Nat→Option Value)(W:World):Prop where
 c:Chg (fun i=>i=a) Wa W
 ar:∃ds,Blk W a 50 ds∧ds.length=26∧(X (7+d)=none→ds=cs0)∧∀s,X (7+d)=some s→X (4+d)=some (.agg ds.toArray)
 ld:∀z,X (2+d)=some z→(X 0).isSome=true
 call:∀z,X (2+d)=some z→HvQ Wa R z W
 mv:∀z,X (3+d)=some z→X (2+d)=some z
 e1:∀z,X (4+d)=some z→∃u y,X (2+d)=some u∧u=.tuple #[z,y]
 e2:∀z,X (5+d)=some z→∃u y,X (2+d)=some u∧u=.tuple #[y,z]
 al:∀z,X (6+d)=some z→∃b,z=.pointer (some ⟨b,0,none⟩)∧Wa.heap.size≤b∧Blk W b 68 [.slice none 0 0,.slice none 0 0]
section
variable {Wa W W':World}{a d:Nat}{cs0:List Value}{R:Rp×List Rc×List Mg}{X:Nat→Option Value}{u z:Value}
theorem HvI.start(h:Blk Wa a 50 cs0)(b:cs0.length=26):HvI Wa a cs0 R d (fun _=>none) Wa:=
 ⟨Chg.refl _ _,⟨cs0,h,b,fun _=>rfl,fun _ h=>(nomatch h)⟩,fun _ h=>(nomatch h),fun _ h=>(nomatch h),fun _ h=>(nomatch h),fun _ h=>(nomatch h),fun _ h=>(nomatch h),fun _ h=>(nomatch h)⟩
theorem HvI.grow(h:HvI Wa a cs0 R d X W)(b:Bw' W W'):HvI Wa a cs0 R d X W':=by
 obtain⟨g,i,j,m,n⟩:=h.ar;exact⟨h.c.then b,⟨g,i.grow b,j,m,n⟩,h.ld,fun z f=>(h.call z f).grow b,h.mv,h.e1,h.e2,fun z f=>(h.al z f).imp fun _ ⟨e,l,k⟩=>⟨e,l,k.grow b⟩⟩
theorem HvI.other{j:Nat}(h:HvI Wa a cs0 R d X W)(n:j<2+d):HvI Wa a cs0 R d (aY X j u) W:=by
 have b:=aI (X:=X) (v:=u) (show 2+d≠j by omega);have i:=aI (X:=X) (v:=u) (show 3+d≠j by omega);have f:=aI (X:=X) (v:=u) (show 4+d≠j by omega);have k:=aI (X:=X) (v:=u) (show 5+d≠j by omega);have l:=aI (X:=X) (v:=u) (show 6+d≠j by omega);have m:=aI (X:=X) (v:=u) (show 7+d≠j by omega);refine⟨h.c,by rw[m,f]; exact h.ar,?_,by rw[b]; exact h.call,by rw[i,b]; exact h.mv,by rw[f,b]; exact h.e1,by rw[k,b]; exact h.e2,by rw[l]; exact h.al⟩;rw[b];intro z g
 by_cases e:0=j
 .subst e; rw[fC]; rfl
 .rw[aI e]; exact h.ld z g
theorem HvI.doCall(h:HvI Wa a cs0 R d X W)(f:X (2+d)=none)(j:(X 0).isSome=true)(k:Bw' W W')(l:HvQ Wa R z W'):HvI Wa a cs0 R d (aY X (2+d) z) W':=by
 have g:=h.grow k;have m:=aI (X:=X) (v:=z) (show 0≠2+d by omega);have n:=aI (X:=X) (v:=z) (show 3+d≠2+d by omega);have i:=aI (X:=X) (v:=z) (show 4+d≠2+d by omega);have o:=aI (X:=X) (v:=z) (show 5+d≠2+d by omega);have p:=aI (X:=X) (v:=z) (show 6+d≠2+d by omega);have q:=aI (X:=X) (v:=z) (show 7+d≠2+d by omega);refine⟨g.c,by rw[q,i]; exact g.ar,fun _ _=>by rw[m]; exact j,fun y b=>?_,fun y b=>?_,fun y b=>?_,fun y b=>?_,by rw[p]; exact g.al⟩
 .rw[fC]at b; cases b; exact l
 .rw[n]at b; have:=h.mv y b; rw[f]at this; cases this
 .rw[i]at b; obtain⟨v,r,e,-⟩:=h.e1 y b; rw[f]at e; cases e
 .rw[o]at b; obtain⟨v,r,e,-⟩:=h.e2 y b; rw[f]at e; cases e
theorem HvI.doMv(h:HvI Wa a cs0 R d X W)(g:X (2+d)=some u):HvI Wa a cs0 R d (aY X (3+d) u) W:=by
 have i:=aI (X:=X) (v:=u) (show 0≠3+d by omega);have b:=aI (X:=X) (v:=u) (show 2+d≠3+d by omega);have f:=aI (X:=X) (v:=u) (show 4+d≠3+d by omega);have j:=aI (X:=X) (v:=u) (show 5+d≠3+d by omega);have k:=aI (X:=X) (v:=u) (show 6+d≠3+d by omega);have l:=aI (X:=X) (v:=u) (show 7+d≠3+d by omega);exact⟨h.c,by rw[l,f]; exact h.ar,by rw[b,i]; exact h.ld,by rw[b]; exact h.call,fun y e=>by rw[fC]at e; cases e; rw[b]; exact g,by rw[f,b]; exact h.e1,by rw[j,b]; exact h.e2,by rw[k]; exact h.al⟩
theorem HvI.doAlloc(h:HvI Wa a cs0 R d X W):HvI Wa a cs0 R d (aY X (6+d) (.pointer (some ⟨W.heap.size,0,none⟩))) (W.alloc (.cells #[.slice none 0 0,.slice none 0 0] 68)):=by
 have g:=h.grow (ba' W (.cells #[.slice none 0 0,.slice none 0 0] 68));have i:=aI (X:=X) (v:=.pointer (some ⟨W.heap.size,0,none⟩)) (show 0≠6+d by omega);have b:=aI (X:=X) (v:=.pointer (some ⟨W.heap.size,0,none⟩)) (show 2+d≠6+d by omega);have j:=aI (X:=X) (v:=.pointer (some ⟨W.heap.size,0,none⟩)) (show 3+d≠6+d by omega);have f:=aI (X:=X) (v:=.pointer (some ⟨W.heap.size,0,none⟩)) (show 4+d≠6+d by omega);have k:=aI (X:=X) (v:=.pointer (some ⟨W.heap.size,0,none⟩)) (show 5+d≠6+d by omega);have l:=aI (X:=X) (v:=.pointer (some ⟨W.heap.size,0,none⟩)) (show 7+d≠6+d by omega);exact⟨g.c,by rw[l,f]; exact g.ar,by rw[b,i]; exact g.ld,by rw[b]; exact g.call,by rw[j,b]; exact g.mv,by rw[f,b]; exact g.e1,by rw[k,b]; exact g.e2,fun v e=>by rw[fC]at e; cases e; exact⟨_,rfl,h.c.size,Blk.new W _ _⟩⟩
theorem HvI.doStore{f:List Value}(h:HvI Wa a cs0 R d X W)(q:X (4+d)=some (.agg f.toArray))(x:f.length=26)(G:a<Wa.heap.size):
  (∃j,Blk W a 50 j∧j.length=26)∧HvI Wa a cs0 R d (aY X (7+d) u) (W.setRow a f.toArray):=by
 obtain⟨j,k,p,E,F⟩:=h.ar;have A:=aI (X:=X) (v:=u) (show 0≠7+d by omega);have g:=aI (X:=X) (v:=u) (show 2+d≠7+d by omega);have B:=aI (X:=X) (v:=u) (show 3+d≠7+d by omega);have o:=aI (X:=X) (v:=u) (show 4+d≠7+d by omega);have C:=aI (X:=X) (v:=u) (show 5+d≠7+d by omega);have D:=aI (X:=X) (v:=u) (show 6+d≠7+d by omega);have m:=(Chg.refl (fun i=>i=a) W).setRow (.inr rfl) f.toArray;refine⟨⟨j,k,p⟩,(h.c.trans m fun _ _ h=>h),⟨f,k.set f,x,fun n=>(by rw[fC]at n; cases n),fun s _=>by rw[o]; exact q⟩,by rw[g,A]; exact h.ld,by rw[g]; exact fun z l=>(h.call z l).chg k m,by rw[B,g]; exact h.mv,by rw[o,g]; exact h.e1,by rw[C,g]; exact h.e2,?_⟩;rw[D];intro z l;obtain⟨b,e,y,r⟩:=h.al z l;exact⟨b,e,y,r.other (by omega) _⟩
theorem HvI.fin{g j o N:Value}(h:HvI Wa a cs0 R d X W)(k:X (4+d)=some g)(F:X (5+d)=some j)(G:X (6+d)=some o)(H:X (7+d)=some N):
  ∃(p:WkV)(f:List ObV)(b:Nat),g=.agg p.r.cells.toArray∧j=.agg #[p.rv,p.mv]∧o=.pointer (some ⟨b,0,none⟩)∧Wa.heap.size≤b∧Blk W b 68 [.slice none 0 0,.slice none 0 0]∧Blk W a 50 p.r.cells∧p.r.x=R.1∧p.rs.map (·.x)=R.2.1∧p.ms.map (·.x)=R.2.2∧RpO W Wa.heap.size p.r f∧
   Ow W Wa.heap.size 124 17 p.rv RcV.cells p.rs∧Ow W Wa.heap.size 75 23 p.mv MgV.cells p.ms∧(∀x∈p.ms,Ow W Wa.heap.size 122 11 x.ev En.cells x.es)∧Chg (fun i=>i=a) Wa W:=by
 obtain⟨u,y,m,aJ⟩:=h.e1 _ k;obtain⟨M,O,n,e2⟩:=h.e2 _ F;obtain rfl:u=M:=by rw[m]at n; exact Option.some.inj n
 obtain⟨p,f,e,s,z,A,B,C,D,E⟩:=h.call _ m;rw[e]at aJ e2;obtain⟨rfl,-⟩:g=.agg p.r.cells.toArray∧y=.agg #[p.rv,p.mv]:=by simpa [eq_comm] using aJ
 obtain⟨-,rfl⟩:O=.agg p.r.cells.toArray∧j=.agg #[p.rv,p.mv]:=by simpa [eq_comm] using e2
 obtain⟨b,rfl,K,J⟩:=h.al _ G;obtain⟨q,I,-,-,L⟩:=h.ar;have l:=L _ H;rw[k]at l;obtain rfl:p.r.cells=q:=by simpa using l
 exact⟨p,f,b,rfl,rfl,rfl,K,J,I,s,z,A,B,C,D,E,h.c⟩
end
end
section
structure RxS(x:Rp):Prop where
 k:KdR x.k∧x.k.es.length≤1000000∧x.k.image.size≤1000000
 s:x.st.h.obs.length≤1000∧x.st.h.free.length≤1000∧(∀o∈x.st.h.obs,o.ws.length≤5001∧o.ls.length≤5001)∧x.st.rows.length≤1000∧stR x.st∧inR x.st.h.next
 l:x.starts.length≤1000∧x.votes.length≤1000∧x.acks.length≤1000
 v:∀v∈x.votes,v.es.length≤1000000∧VoR v
 r:inR x.id∧inR x.nodes∧inR x.commit∧inR x.timer
theorem RpS.x{p:RpV}{c:List ObV}(h:RpS p c)(b:p.s.p.x.obs=c.map (·.x)):RxS p.x:=by
 refine⟨h.k,⟨?_,h.s.1.free,fun o a=>?_,h.s.2.1,h.s.2.2.1,h.s.2.2.2⟩,⟨h.l.1,?_,h.l.2.2⟩,fun v f=>?_,h.r⟩
 .show p.s.p.x.obs.length≤1000;rw[b,dD]; exact h.s.1.obs
 .have a:o∈p.s.p.x.obs:=a;rw[b]at a;obtain⟨q,d,rfl⟩:=cP.1 a;exact h.s.1.rows q d
 .show (p.votes.map (·.x)).length≤1000;rw[dD]; exact h.l.2.1
 .obtain⟨u,e,rfl⟩:=cP.1 f;exact h.v u e
theorem RxS.p{p:RpV}{a:List ObV}(h:RxS p.x)(e:p.s.p.x.obs=a.map (·.x)):RpS p a:=by
 have b:p.s.p.x.obs.length≤1000:=h.s.1;have c:∀q∈a,q.x.ws.length≤5001∧q.x.ls.length≤5001:=fun q f=>h.s.2.2.1 q.x (by show q.x∈p.s.p.x.obs; rw[e]; exact Mn f);have d:(p.votes.map (·.x)).length≤1000:=h.l.2.1;rw[e,dD]at b;rw[dD]at d;exact⟨h.k,⟨⟨b,h.s.2.1,c⟩,h.s.2.2.2.1,h.s.2.2.2.2.1,h.s.2.2.2.2.2⟩,⟨h.l.1,d,h.l.2.2⟩,fun v i=>h.v v.x (Mn i),h.r,fun u g=>by have:=c u g; omega⟩
theorem Db:RxS qK:=
 ⟨⟨fun _ h=>(nomatch h),dJ _,dJ _⟩,⟨dJ _,dJ _,fun _ h=>(nomatch h),dJ _,⟨fun _ h=>(nomatch h),fun _ h=>(nomatch h)⟩,by decide,by decide⟩,⟨dJ _,dJ _,dJ _⟩,fun _ h=>(nomatch h),⟨by decide,by decide⟩,⟨by decide,by decide⟩,⟨by decide,by decide⟩,by decide,by decide⟩
theorem RxS.timed{x:Rp}(h:RxS x){t:Int}(a:inR t):RxS {x with timer:=t}:=⟨h.k,h.s,h.l,h.v,h.r.1,h.r.2.1,h.r.2.2.1,a⟩
theorem RxS.tick{x:Rp}(h:RxS x):RxS (mS x).1:=by
 have d:inR (min (x.timer+1) 1000):=by have:=h.r.2.2.2; unfold inR at *; omega
 unfold mS
 by_cases b:cS x=true
 .rw[aK b]
  by_cases c:gO x=true
  .rw[aK c]
   by_cases a:3≤min (x.timer+1) 1000
   .rw[aK a]; exact h.timed ⟨by decide,by decide⟩
   .rw[aF a]; exact h.timed d
  .rw[aF c]
   by_cases a:10+2*x.id≤min (x.timer+1) 1000
   .rw[aK a];exact⟨h.k,h.s,⟨by show 1≤1000; decide,dJ _,dJ _⟩,fun _ h=>(nomatch h),h.r.1,h.r.2.1,h.r.2.2.1,by show (-9223372036854775808:Int)≤0; decide,by show (0:Int)≤9223372036854775807; decide⟩
   .rw[aF a]; exact h.timed d
 .rw[aF b]; exact Db
theorem aAY{id nodes:Int}{k:Kd}(d:KdR k∧k.es.length≤1000000∧k.image.size≤1000000)(a:inR id∧inR nodes∧inR k.base):RxS ((lZ id nodes k).getD qK):=by
 unfold lZ
 cases hg:dX (kZ k.image) with
 |none=>exact Db
 |some s=>
  simp only
  split
  .obtain⟨b,c⟩:=uY hg;have H:=gE.1 (jR.1 b).1;have g:=qR (jR.1 b).2 (by omega);have f:=H.next;exact⟨d,⟨by have:=H.len; show s.h.obs.length≤1000; omega,by have:=H.len; show s.h.free.length≤1000; omega,fun o e=>by have:=H.lens e; omega,by show s.rows.length≤1000; omega,c,by show -9223372036854775808≤s.h.next; omega,by show s.h.next≤9223372036854775807; omega⟩,
    ⟨dJ _,dJ _,dJ _⟩,fun _ h=>(nomatch h),a.1,a.2.1,a.2.2,by show (-9223372036854775808:Int)≤0; decide,by show (0:Int)≤9223372036854775807; decide⟩
  .exact Db
end
section
attribute [-go_sem] loadCellsFrom storeCells run_eql_struct run_neq_struct Instr.build
attribute [local go_sem] aX rA
theorem Dc:KdR kd3∧kd3.es.length≤1000000∧kd3.image.size≤1000000:=⟨fun _ h=>(nomatch h),dJ _,by decide+kernel⟩
theorem La(id:Int)(h:inR id):RxS ((lZ id 3 kd3).getD qK):=aAY Dc ⟨h,⟨by decide,by decide⟩,by decide,by decide⟩
theorem Lb:∀n,RxS (qW n).1
 |0=>by have:=La 2 ⟨by decide,by decide⟩; rw[Yb]at this; exact this
 |n+1=>(Lb n).tick
structure pN(k:Nat)(R:Rp×List Rc×List Mg):Prop where
 h:qW k=R
theorem pN.rx{k:Nat}{R:Rp×List Rc×List Mg}(h:pN k R):RxS R.1:=h.h▸Lb k
theorem pN.next{k:Nat}{R:Rp×List Rc×List Mg}(h:pN k R):pN (k+1) (mS R.1):=⟨by rw[←h.h]; rfl⟩
theorem pN.last{R:Rp×List Rc×List Mg}(h:pN 14 R):R=(sN (rT 13),[xI 1],[qJ 2 1 1,qJ 2 1 3]):=h.h.symm.trans Ye
structure Lc(w W:World)(g1 g3 k:Nat)(q:WkV)(ps:List ObV):Prop where
 a:Blk W g1 50 q.r.cells
 t:Blk W g3 68 [q.rv,q.mv]
 o:RpO W w.heap.size q.r ps
 rs:Ow W w.heap.size 124 17 q.rv RcV.cells q.rs
 ms:Ow W w.heap.size 75 23 q.mv MgV.cells q.ms
 x:∃R,pN k R∧q.r.x=R.1∧q.rs.map (·.x)=R.2.1∧q.ms.map (·.x)=R.2.2
 b:Bw' w W
 g:w.heap.size≤g1∧g1<g3
theorem aAZ:(sN (rT 13)).k.view=1:=rfl
theorem aA0:gN (sN (rT 13))=false:=rfl
theorem aA1{α:Type}:∀{l:List α},l.length=2→∃a b,l=[a,b]
 |[a,b],_=>⟨a,b,rfl⟩
theorem Lc.fin{w W:World}{y m:Nat}{q:WkV}{K:List ObV}(h:Lc w W y m 14 q K):∃j c1 b c,W.cell? ⟨y,2,none⟩=some (.i 1)∧W.cell? ⟨m,0,none⟩=some (.slice j 1 c1)∧W.cell? ⟨m,1,none⟩=some (.slice (some ⟨b,0,none⟩) 2 c)∧
  W.cell? ⟨b,0,none⟩=some (.i 5)∧W.cell? ⟨b,3,none⟩=some (.i 1)∧W.cell? ⟨b,25,none⟩=some (.i 3)∧gN q.r.x=false:=by
 obtain⟨R,z,e,n,d⟩:=h.x;rw[z.last]at e n d;clear z;have I:q.r.x.k.view=1:=by rw[e]; exact aAZ
 have G:gN q.r.x=false:=by rw[e]; exact aA0
 have J:q.rs.length=1:=by have:=bA List.length n; rw[dD]at this; exact this
 have i:q.ms.length=2:=by have:=bA List.length d; rw[dD]at this; exact this
 clear e n;obtain⟨j,c1,H,-⟩:=dO h.rs;obtain⟨b,c,F,-,-,-,-,f,-⟩:=h.ms.at_ dA (by decide) (by rw[i]; decide);have A:=h.a.cell 2;rw[show q.r.cells[2]? =some (.i q.r.x.k.view) from rfl,I]at A;have B:=h.t.cell 0;have C:=h.t.cell 1;rw[show ([q.rv,q.mv]:List Value)[0]? =some q.rv from rfl,H,J]at B;rw[show ([q.rv,q.mv]:List Value)[1]? =some q.mv from rfl,F,i]at C;obtain⟨l,E⟩:=nm' q.ms;rw[E]at f d i;obtain⟨g,D,rfl⟩:=aA1 i;simp only[mJ,tQ,List.cons.injEq,and_true]at d;have o:=f 0 (by simp) 0 (.i g.kind) rfl;have s:=f 0 (by simp) 3 (.i g.view) rfl;have p:=f 1 (by simp) 2 (.i D.dst) rfl;rw[show g.kind=5 from bA Mg.kind d.1]at o;rw[show g.view=1 from bA Mg.view d.1]at s;rw[show D.dst=3 from bA Mg.dst d.2]at p;simp only[nQ,gL,Nat.one_mul,Nat.reduceAdd]at o s p;refine⟨j,c1,b,c,?_,?_,?_,?_,?_,?_,G⟩
 .exact A
 .exact B
 .exact C
 .exact o
 .exact s
 .exact p
end
section
attribute [-go_sem] loadCellsFrom storeCells run_eql_struct run_neq_struct Instr.build
attribute [local go_sem] aX
structure mG(W:World)(base a:Nat)(q:RpV)(qs:List ObV):Prop where
 b:Blk W a 50 q.cells
 o:RpO W base q qs
structure ToV(W:World)(base b:Nat)(rv mv:Value)(rs:List RcV)(ms:List MgV):Prop where
 b:Blk W b 68 [rv,mv]
 r:Ow W base 124 17 rv RcV.cells rs
 m:Ow W base 75 23 mv MgV.cells ms
 e:∀x∈ms,Ow W base 122 11 x.ev En.cells x.es
section
variable {W W':World}{base base2 a a' b b' b2 n c2:Nat}{q:RpV}{qs:List ObV}{rv mv:Value}{rs:List RcV}{ms l:List MgV}{cs:List Value}{m:MgV}
theorem mG.grow(h:mG W base a q qs)(c:Bw' W W'):mG W' base a q qs:=⟨h.b.grow c,h.o.below c⟩
theorem mG.rep(h:mG W base a q qs)(d:Blk W a' 50 cs)(c:Chg (fun i=>i=a') W W')(e:a≠a'):mG W' base a q qs:=⟨h.b.chg c e,h.o.chg d c (by decide)⟩
theorem mG.told(h:mG W base a q qs)(d:Blk W b 68 cs)(c:Chg (fun i=>i=b) W W'):mG W' base a q qs:=⟨h.b.chg c (h.b.ne d (by decide)),h.o.chg d c (by decide)⟩
theorem ToV.grow(h:ToV W base b rv mv rs ms)(a:Bw' W W'):ToV W' base b rv mv rs ms:=⟨h.b.grow a,h.r.below a,h.m.below a,fun x c=>(h.e x c).below a⟩
theorem ToV.rep(h:ToV W base b rv mv rs ms)(c:Blk W a' 50 cs)(a:Chg (fun i=>i=a') W W'):ToV W' base b rv mv rs ms:=
 ⟨h.b.chg a (h.b.ne c (by decide)),h.r.chg_blk c a (by decide),h.m.chg_blk c a (by decide),fun x d=>(h.e x d).chg_blk c a (by decide)⟩
theorem ToV.told(h:ToV W base b rv mv rs ms)(c:Blk W b' 68 cs)(a:Chg (fun i=>i=b') W W')(d:b≠b'):ToV W' base b rv mv rs ms:=
 ⟨h.b.chg a d,h.r.chg_blk c a (by decide),h.m.chg_blk c a (by decide),fun x f=>(h.e x f).chg_blk c a (by decide)⟩
theorem ToV.at_(h:ToV W base b rv (.slice (some ⟨b2,0,none⟩) n c2) rs (m::l))(t:Nat)(u:Value)(c:m.cells[t]? =some u):W.cell? ⟨b2,t,none⟩=some u:=by
 obtain⟨f,c3,d,-,-,-,-,a,-⟩:=h.m.at_ dA (by decide) (by simp);injection d with e;injection e with e;injection e with e;subst e;have:=a 0 (by simp) t u c;simpa using this
theorem ToV.load(h:ToV W base b rv (.slice (some ⟨b2,0,none⟩) n c2) rs (m::l)):Sem.run prog (loadCellsFrom ⟨b2,0,none⟩ 0 23 #[]) W=.ok m.cells.toArray W:=by
 have:=xJ (P:=prog) (w:=W) (b:=b2) (o:=0) m.cells (fun t u a=>by rw[gL]; exact h.at_ t u a)
 rwa [dA]at this
end
theorem HvI.end_{Wa W:World}{a d:Nat}{z:List Value}{R:Rp×List Rc×List Mg}{X:Nat→Option Value}{n o q S:Value}(h:HvI Wa a z R d X W)(I:X (4+d)=some n)(J:X (5+d)=some o)(K:X (6+d)=some q)(L:X (7+d)=some S):
  ∃(p:WkV)(g:List ObV)(b:Nat)(W':World),n=.agg p.r.cells.toArray∧o=.agg #[p.rv,p.mv]∧q=.pointer (some ⟨b,0,none⟩)∧Sem.run prog (storeCells ⟨b,0,none⟩ [p.rv,p.mv] 0) W=.ok () W'∧
   mG W' Wa.heap.size a p.r g∧ToV W' Wa.heap.size b p.rv p.mv p.rs p.ms∧Chg (fun i=>i=a) Wa W'∧Wa.heap.size≤b∧p.r.x=R.1∧p.rs.map (·.x)=R.2.1∧p.ms.map (·.x)=R.2.2:=by
 obtain⟨p,g,b,A,B,C,N,f,M,D,E,F,G,k,l,H,e⟩:=h.fin I J K L;obtain⟨W',T,s,x,c⟩:=f.put [p.rv,p.mv] rfl (fun u j=>by
  rcases bD.1 j with rfl|j
  .exact k.one
  .rw[bZ.1 j]; exact l.one)
 have P:mG W Wa.heap.size a p.r g:=⟨M,G⟩
 exact⟨p,g,b,W',A,B,C,s,P.told f c,⟨x,k.chg_blk f c (by decide),l.chg_blk f c (by decide),fun y Q=>(H y Q).chg_blk f c (by decide)⟩,
  ⟨c.os.trans e.os,c.tape.trans e.tape,c.output.trans e.output,aB e.size c.size,fun i m O=>(c.block i (cY m e.size) (by omega)).trans (e.block i m O)⟩,N,D,E,F⟩
theorem RxS.put1{x:Rp}(h:RxS x)(a:KdR (kd3.add aJ)∧(kd3.add aJ).es.length≤1000000∧(kd3.add aJ).image.size≤1000000):RxS {x with k:=kd3.add aJ}:=⟨a,h.s,h.l,h.v,h.r⟩
theorem aA2{r:Rp}(R:Rp×List Rc×List Mg)(h:cS r=true):mF r R=R:=by unfold mF; rw[aK h]
theorem aA3{W Wa:World}{base:Nat}{q:RpV}{qs:List ObV}{m:MgV}{r:Rp}{x:Mg}{R:Rp×List Rc×List Mg}(h:RpO W base q qs)(n:Wa.heap.size≤W.heap.size)(k:q.x=r)(l:cS r=true)(o:RxS r)(i:Sl W W.heap.size m.ev En.cells m.es)(j:m.x=x)(d:MgR x)(c:∀e∈x.es,enR e)(g:x.es.length≤1000000)(f:nC r x=some R):
  Calls prog 13 #[.agg q.cells.toArray,.agg m.cells.toArray] W fun e a=>∃z,e=.returned z∧HvQ Wa R z a∧Bw' W a:=by
 subst k j;refine (aAX q qs m W.heap.size W R h.rpAt i (aN _) (RxS.p o h.rpAt.2.1.1.2.1) c d g (fun _=>f)).mono ?_;intro e a b;rw[aA2 R l]at b;exact b.hv n
end
section
attribute [-go_sem] loadCellsFrom storeCells run_eql_struct run_neq_struct Instr.build
attribute [local go_sem] aX
structure cD where
 (id nodes seq view target:Int) (busy:Bool) (op:Opn)
def cD.cells(p:cD):List Value:=[.i p.id,.i p.nodes,.i p.seq,.i p.view,.i p.target,.bool p.busy]++p.op.cells
theorem Dd(p:cD):p.cells.length=13:=rfl
theorem kQ(p:cD):∀u∈p.cells,u.oneCell'=true:=by
 intro u a;simp only[cD.cells,Opn.cells,aT,aS,bD,dF,or_false]at a;rcases a with rfl|rfl|rfl|rfl|rfl|rfl|rfl|rfl|rfl|rfl|rfl|rfl|rfl<;>rfl
def opB:Opn:=⟨1,0,0,1,0,0,0⟩
def dZ:cD:=⟨1,3,0,0,1,false,dU⟩
def dC:cD:=⟨1,3,1,0,1,true,opB⟩
def kR:cD:=⟨1,3,1,0,1,false,dU⟩
def fP:MgV:=⟨1,-1,1,0,0,0,0,0,[],.slice none 0 0,0,0,⟨#[]⟩,1,opB,0,0,false⟩
theorem Ld(w:World):(Instr.build 25 #[]).run prog w=.ok (.agg dU.cells.toArray) w:=run_build w _ _ _ (by kernel_rfl)
theorem Le(w:World):(Instr.build 54 #[(0,.i 1),(1,.i 3),(4,.i 1)]).run prog w=.ok (.agg dZ.cells.toArray) w:=run_build w _ _ _ (by kernel_rfl)
theorem Lf(c:cD)(w:World):(Instr.build 131 #[(0,.agg c.cells.toArray)]).run prog w=.ok (.agg c.cells.toArray) w:=run_build w _ _ _ (by kernel_rfl)
theorem aA4(w:World):(Instr.build 75 #[(0,.i 1),(1,.i (-1)),(2,.i 1),(12,.i 1),(13,.agg opB.cells.toArray)]).run prog w=.ok (.agg fP.cells.toArray) w:=run_build w _ _ _ (by kernel_rfl)
theorem aA5(w:World):(Instr.build 75 #[]).run prog w=.ok (.agg jV.cells.toArray) w:=run_build w _ _ _ (by kernel_rfl)
theorem aA6(n c b:Int)(w:World):Calls prog 83 #[.i n,.i c,.i b] w fun e g=>e=.returned (.bool (aG n c b))∧g=w:=by
 unfold aG;rcases uD (decide (c≤n)) (decide (n≤b)) with⟨d,a⟩|⟨d,f,a⟩|⟨d,f,a⟩
 all_goals
  rw[a];clear a;go_enter func83,ntmps83;go_wp2_with fail;go_ret;exact⟨rfl,rfl⟩
theorem tG(n b a:Int)(w:World)(h:aG n b a=true):Calls prog 83 #[.i n,.i b,.i a] w fun e c=>e=.returned (.bool true)∧c=w:=by
 have:=aA6 n b a w
 rwa [h]at this
structure De(c:cD):Prop where
 n:c.nodes=3
 i:c.id=1
 s:aG c.seq 0 1000000=true
 v:c.view=0
 t:c.target=1
 b:(c.busy=true∧0<c.seq)∨(c.busy=false∧c.op=dU)
theorem Lg:De dZ:=⟨rfl,rfl,rfl,rfl,rfl,.inr ⟨rfl,rfl⟩⟩
theorem aA7:De dC:=⟨rfl,rfl,rfl,rfl,rfl,.inl ⟨rfl,by decide⟩⟩
theorem Df(c:cD)(w:World)(h:De c):Calls prog 45 #[.agg c.cells.toArray] w fun e g=>e=.returned (.i 0)∧Bw' w g:=by
 obtain⟨a,z,d,k,y⟩:=par w 54 c.cells;have B:a.cell? ⟨w.heap.size,0,none⟩=some (.i 1):=by rw[←h.i]; exact d.cell 0
 have C:a.cell? ⟨w.heap.size,1,none⟩=some (.i 3):=by rw[←h.n]; exact d.cell 1
 have D:a.cell? ⟨w.heap.size,2,none⟩=some (.i c.seq):=d.cell 2;have E:a.cell? ⟨w.heap.size,3,none⟩=some (.i 0):=by rw[←h.v]; exact d.cell 3
 have F:a.cell? ⟨w.heap.size,4,none⟩=some (.i 1):=by rw[←h.t]; exact d.cell 4
 have p:a.cell? ⟨w.heap.size,5,none⟩=some (.bool c.busy):=d.cell 5;have G:=d.loadOff (P:=prog) 6 7 c.op.cells rfl rfl;have q:=kp (show Calls prog 34 #[.i 3] a fun e g=>e=.returned (.bool true)∧g=a from sU 3 a ⟨by decide,by decide⟩);have j:=kp k;have r:=kp h.s;have f:=h.b;have x:=Ld a;have m:=Hw c.op dU a;clear k d y h;go_enter func45,ntmps45;go_wp2_with fail;refine ms' (q.o) ?_;go_wp2_with fail;refine ms' (tG 1 1 4 a rfl) ?_;go_wp2_with fail;refine ms' (tG c.seq 0 1000000 a r.o) ?_;go_wp2_with fail;refine ms' (tG 0 0 900000000 a rfl) ?_;go_wp2_with fail;refine ms' (tG 1 1 3 a rfl) ?_;rcases f with⟨f,A⟩|⟨f,l⟩
 .rw[f]at p;clear f m x;go_wp2_with fail;go_ret;exact⟨rfl,j.o⟩
 .rw[f]at p;rw[fA l]at m;clear f l;go_wp2_with fail;go_ret;exact⟨rfl,j.o⟩
def eK:List Value:=[.i 0,.i 0,.i 0,.i 0,.i 0,.bool false,.i 0,.i 0,.i 0,.i 0,.i 0,.i 0,.i 0]
theorem aA8(w:World):Calls prog 37 #[.i 1,.i 3] w fun e F=>e=.returned (.tuple #[.agg dZ.cells.toArray,.i 0])∧Bw' w F:=by
 obtain⟨f,x,m,l,G⟩:=par w 54 eK;obtain⟨s,y,E,j,g,-⟩:=eJ f 54 eK dZ.cells rfl (kQ dZ);unfold eK at x y E;have l2:=j.load (P:=prog) (k:=13) rfl;have q:=kp (Df dZ s Lg);have d:=k'3 (m.grow g) j (l.on g);have z:=Le f;have A:=Le (f.alloc (.cells #[.i 0,.i 0,.i 0,.i 0,.i 0,.bool false,.i 0,.i 0,.i 0,.i 0,.i 0,.i 0,.i 0] 54));clear m j l g G;go_enter func37,ntmps37;go_wp2_with fail;refine mb' (q.o) fun M c=>?_;have K:=(d.b.grow c).load (P:=prog) (k:=13) rfl;have p:=d.a.grow c;obtain⟨H,I,L,n,c4⟩:=p.put dZ.cells rfl (kQ dZ);have D:=n.load (P:=prog) (k:=13) rfl;have h:=d.C.on c;have r:=kp (h.trans (c4.below (B:=w.heap.size) (fun i J=>by omega) h.size));clear p n c4 h c l2 z A;go_wp2_with fail;exact bI (v:=.tuple #[.agg dZ.cells.toArray,.i 0]) (by simp[results,results37,go_sem,D]) rfl ⟨rfl,r.o⟩
theorem aA9{g:Nat}(w:World)(h:Blk w g 131 dC.cells):Calls prog 47 #[.pointer (some ⟨g,0,none⟩)] w fun e y=>e=.returned (.agg fP.cells.toArray)∧Bw' w y:=by
 obtain⟨c,s,m,d,z⟩:=par w 75 jE;unfold jE at s;have b:=h.grow d;have G:=bG (show c.cell? ⟨g,0,none⟩=some (.i 1) from b.cell 0);have H:=bG (show c.cell? ⟨g,2,none⟩=some (.i 1) from b.cell 2);have I:=bG (show c.cell? ⟨g,4,none⟩=some (.i 1) from b.cell 4);have J:∀r:Blw c,Sem.run prog (loadCellsFrom ⟨g,6,none⟩ 0 7 #[]) r.w=.ok opB.cells.toArray r.w:=fun r=>(b.grow r.h).loadOff 6 7 opB.cells rfl rfl;have E:=aA4;have l:=k'2 m d;clear h b m d z;go_enter func47,ntmps47;go_wp2_with fail;refine mO 22 (by kernel_rfl) (by kernel_rfl) ?_;simp only[lV,kB,bS,bU]
 repeat (go_big_quiet_step (fail))
 refine cI ?_;rintro A ⟨⟨_,f⟩,rfl⟩;obtain⟨C,D,K,n,c3⟩:=(l.a.grow f).put fP.cells rfl (fD (p:=fP) rfl);have x:=n.load (P:=prog) (k:=23) rfl;have j:=l.B.on f;have q:=kp (j.trans (c3.below (B:=w.heap.size) (fun i F=>by omega) j.size));clear n c3 j f;go_wp2_with fail;exact bI (v:=.agg fP.cells.toArray) (by simp[results,results47,go_sem,x]) rfl ⟨rfl,q.o⟩
structure SwO(Wa:World)(g:Nat)(t:TypeId)(c0 c1:List Value)(k:Nat)(X:Nat→Option Value)(W:World):Prop where
 c:Chg (fun i=>i=g) Wa W
 n:X k=none→Blk W g t c0
 y:∀z,X k=some z→Blk W g t c1
section
variable {Wa W W':World}{g:Nat}{t:TypeId}{c0 c1:List Value}{k j:Nat}{X:Nat→Option Value}{u:Value}
theorem SwO.start(h:Blk Wa g t c0):SwO Wa g t c0 c1 k (fun _=>none) Wa:=⟨Chg.refl _ _,fun _=>h,fun _ h=>(nomatch h)⟩
theorem SwO.other(h:SwO Wa g t c0 c1 k X W)(a:k≠j):SwO Wa g t c0 c1 k (aY X j u) W:=⟨h.c,by rw[aI a]; exact h.n,by rw[aI a]; exact h.y⟩
theorem SwO.put(h:SwO Wa g t c0 c1 k X W)(b:Blk W' g t c1)(d:Chg (fun i=>i=g) W W'):SwO Wa g t c0 c1 k (aY X k u) W':=⟨h.c.trans d fun _ _ h=>h,fun a=>(by rw[fC]at a; cases a),fun _ _=>b⟩
theorem SwO.grow(h:SwO Wa g t c0 c1 k X W)(a:Bw' W W'):SwO Wa g t c0 c1 k X W':=⟨h.c.then a,fun b=>(h.n b).grow a,fun z d=>(h.y z d).grow a⟩
end
end
section
def oK:Mg:={sZ with kind:=1,src:= -1,dst:=1,seq:=1,op:=opB}
def aL:En:=⟨1,0,1,1,1,0,0,1,0,0,0⟩
def qE(id:Int):Rp:={rN id with k:=kd3.add aL}
def qD:Rp:={qE 1 with acks:=[⟨2,1⟩],commit:=1,st:=(eE st3 aL).1}
def qF:Rp:={qD with acks:=[⟨2,1⟩,⟨3,1⟩]}
def kS(d:Int):Mg:={Cs 0 0 aL with src:=1,dst:=d}
def jF(s:Int):Mg:={okM 1 1 with src:=s}
def vL:Mg:={qX (-1) 1 0 1 true with src:=1}
theorem Lh:∀id∈[(1:Int),2,3],lZ id 3 kd3=some (rN id):=by
 intro id a;unfold lZ;rw[Jw];rcases bD.1 a with rfl|a
 .exact aK (show cS (rN 1)=true by decide+kernel)
 rcases bD.1 a with rfl|a
 .exact aK (show cS (rN 2)=true by decide+kernel)
 .rw[bZ.1 a]; exact aK (show cS (rN 3)=true by decide+kernel)
def stL:Nat→List Rp
 |0=>[rN 1,rN 2,rN 3]
 |1=>[qE 1,rN 2,rN 3]
 |2=>[qE 1,qE 2,rN 3]
 |3=>[qE 1,qE 2,qE 3]
 |4=>[qD,qE 2,qE 3]
 |_=>[qF,qE 2,qE 3]
def stN:Nat→List Mg
 |0=>[oK]
 |1=>[kS 2,kS 3]
 |2=>[kS 3,jF 2]
 |3=>[jF 2,jF 3]
 |4=>[jF 3,vL]
 |_=>[vL]
theorem vM:RxS (rN 1)∧RxS (rN 2)∧RxS (rN 3)∧RxS (qE 1)∧RxS (qE 2)∧RxS (qE 3)∧RxS qD:=by
 have h:∀id∈[(1:Int),2,3],RxS (rN id):=fun id a=>by
  have i:inR id:=by
   rcases bD.1 a with rfl|a
   .exact⟨by decide,by decide⟩
   rcases bD.1 a with rfl|a
   .exact⟨by decide,by decide⟩
   .rw[bZ.1 a]; exact⟨by decide,by decide⟩
  have:=La id i;rw[Lh id a]at this;exact this
 have f:KdR (kd3.add aL)∧(kd3.add aL).es.length≤1000000∧(kd3.add aL).image.size≤1000000:=⟨fun e g=>by
  rw[bZ.1 (show e∈[aL] from g)];unfold enR inR;decide+kernel,by decide,Dc.2.2⟩
 have q:∀{x:Rp},RxS x→RxS {x with k:=kd3.add aL}:=fun h=>⟨f,h.s,h.l,h.v,h.r⟩
 have b:=h 1 (by simp);have c:=h 2 (by simp);have d:=h 3 (by simp);refine⟨b,c,d,q b,q c,q d,⟨f,?_,⟨by decide,by decide,by decide⟩,fun _ h=>(nomatch h),⟨⟨by decide,by decide⟩,⟨by decide,by decide⟩,⟨by decide,by decide⟩,⟨by decide,by decide⟩⟩⟩⟩;refine⟨by decide+kernel,by decide+kernel,?_,by decide+kernel,⟨?_,?_⟩,by unfold inR; decide+kernel⟩
 .decide+kernel
 .unfold hpR inR; decide+kernel
 .unfold inR; decide+kernel
theorem aBa:enR aL:=by unfold enR inR; decide+kernel
theorem vN:∀m∈[oK,kS 2,kS 3,jF 2,jF 3],MgR m∧(∀e∈m.es,enR e)∧m.es.length≤1000∧m.kind≠0:=by
 intro m a;have g:∀m∈[oK,kS 2,kS 3,jF 2,jF 3],inR m.src∧inR m.seq∧inR m.op.k∧inR m.op.h∧inR m.op.i∧inR m.op.n∧inR m.op.m∧inR m.op.v∧inR m.op.t:=by
  unfold inR;decide+kernel
 have h:=g m a;refine⟨⟨h.1,h.2.1,h.2.2⟩,?_⟩;simp only[bD,dF,or_false]at a;have e:(m.es=[]∨m.es=[aL])∧m.kind≠0:=by
  rcases a with rfl|rfl|rfl|rfl|rfl
  .exact⟨.inl rfl,by decide⟩
  .exact⟨.inr rfl,by decide⟩
  .exact⟨.inr rfl,by decide⟩
  .exact⟨.inl rfl,by decide⟩
  .exact⟨.inl rfl,by decide⟩
 rcases e with⟨e|e,b⟩
 .rw[e]; exact⟨fun _ h=>(nomatch h),by decide,b⟩
 .rw[e]; exact⟨fun x c=>bZ.1 c▸aBa,by decide,b⟩
theorem vO:cS (rN 1)=true∧cS (rN 2)=true∧cS (rN 3)=true∧cS (qE 1)=true∧cS (qE 2)=true∧cS (qE 3)=true∧cS qD=true:=by decide+kernel
theorem aBb:nC (rN 1) oK=some (qE 1,[tA aL],[kS 2,kS 3]):=by decide+kernel
theorem aBc:nC (rN 2) (kS 2)=some (qE 2,[tA aL],[jF 2]):=by decide+kernel
theorem aBd:nC (rN 3) (kS 3)=some (qE 3,[tA aL],[jF 3]):=by decide+kernel
theorem aBe:nC (qE 1) (jF 2)=some (qD,[],[vL]):=by decide+kernel
theorem aBf:nC qD (jF 3)=some (qF,[],[]):=by decide+kernel
structure aBg(k i:Nat)(m:Mg)(rest:List Mg)(r:Rp)(R:Rp×List Rc×List Mg):Prop where
 net:stN k=m::rest
 lt:i<3
 at_:(stL k)[i]? =some r
 dst:m.dst=(i:Int)+1
 right:cS r=true
 rx:RxS r
 mg:MgR m∧(∀e∈m.es,enR e)∧m.es.length≤1000∧m.kind≠0
 hear:nC r m=some R
 nxt:stL (k+1)=(stL k).set i R.1
 net2:stN (k+1)=rest++R.2.2
 real:∀m∈R.2.2,m.kind≠0∧m.es.length≤1000
 few:R.2.2.length≤2
theorem aBh:∀k,k<5→∃i m a r R,aBg k i m a r R
 |0,_=>⟨0,oK,[],rN 1,_,⟨rfl,by decide,rfl,rfl,vO.1,vM.1,vN _ (by simp),aBb,rfl,rfl,by decide+kernel,by decide⟩⟩
 |1,_=>⟨1,kS 2,[kS 3],rN 2,_,⟨rfl,by decide,rfl,rfl,vO.2.1,vM.2.1,vN _ (by simp),aBc,rfl,rfl,by decide+kernel,by decide⟩⟩
 |2,_=>⟨2,kS 3,[jF 2],rN 3,_,⟨rfl,by decide,rfl,rfl,vO.2.2.1,vM.2.2.1,vN _ (by simp),aBd,rfl,rfl,by decide+kernel,by decide⟩⟩
 |3,_=>⟨0,jF 2,[jF 3],qE 1,_,⟨rfl,by decide,rfl,rfl,vO.2.2.2.1,vM.2.2.2.1,vN _ (by simp),aBe,rfl,rfl,by decide+kernel,by decide⟩⟩
 |4,_=>⟨0,jF 3,[vL],qD,_,⟨rfl,by decide,rfl,rfl,vO.2.2.2.2.2.2,vM.2.2.2.2.2.2,vN _ (by simp),aBf,rfl,rfl,by decide+kernel,by decide⟩⟩
 |k+5,h=>absurd h (by omega)
end
section
attribute [-go_sem] loadCellsFrom storeCells run_eql_struct run_neq_struct
attribute [local go_sem] aX
def Tg(T:TypeId→Prop)(w:World)(i:Nat):Prop:=∃c f t,w.heap[i]? =some (.cells c t f)∧T t
def ChT(T:TypeId→Prop)(w w':World):Prop:=Chg (Tg T w) w w'
section
variable {T:TypeId→Prop}{w w' w'':World}{α:Type}{enc:α→List Value}{base k g:Nat}{t:TypeId}{v:Value}{l:List α}{cs:List Value}{S:Nat→Prop}
theorem ChT.refl(T:TypeId→Prop)(w:World):ChT T w w:=Chg.refl _ _
theorem ChT.trans(h:ChT T w w')(a:ChT T w' w''):ChT T w w'':=⟨a.os.trans h.os,a.tape.trans h.tape,a.output.trans h.output,aB h.size a.size,fun i b d=>by
 have e:=h.block i b d;refine (a.block i (cY b h.size) fun k=>d ?_).trans e;obtain⟨c,f,t,g,j⟩:=k;exact⟨c,f,t,by rw[←e]; exact g,j⟩⟩
theorem ChT.of_below(h:Bw' w w'):ChT T w w':=Chg.of_below h
theorem ChT.of(h:Chg S w w')(c:∀i,S i→i<w.heap.size→Tg T w i):ChT T w w':=h.mono fun i b a=>c i a b
theorem ChT.more{a:TypeId→Prop}(h:ChT T w w')(e:∀t,T t→a t):ChT a w w':=h.mono fun _ _ ⟨c,f,t,b,d⟩=>⟨c,f,t,b,e t d⟩
theorem ChT.blk(h:Blk w g t cs)(c:T t)(a:Chg (fun i=>i=g) w w'):ChT T w w':=ChT.of a fun _ b _=>⟨_,_,t,b▸(show w.heap[g]? =_ from h),c⟩
theorem Blk.tg(h:Blk w g t cs)(c:ChT T w w')(d:¬T t):Blk w' g t cs:=h.chg c fun⟨_,_,f,a,b⟩=>by
 have:=(show w.heap[g]? =_ from h).symm.trans a;injection this with e
 injection e with _ e2
 exact d (e2▸b)
theorem Ow.tg(h:Ow w base t k v enc l)(c:ChT T w w')(f:¬T t):Ow w' base t k v enc l:=h.chg c fun _ d ⟨_,_,i,a,b⟩=>by
 obtain⟨c',g,e⟩:=h.tag d;have:=e.symm.trans a;injection this with e;injection e with _ e2;exact f (e2▸b)
theorem OR.tg(h:OR w S t k v enc l)(c:ChT T w w')(f:¬T t):OR w' S t k v enc l:=aM.chg h c fun _ d ⟨_,_,g,a,b⟩=>by
 obtain⟨c',e⟩:=aM.tag h d;have:=e.symm.trans a;injection this with e;injection e with _ e2;exact f (e2▸b)
end
def kT(t:TypeId):Prop:=t=75∨t=116
def iX(g:Nat)(v:Value):Nat→Prop:=fun k=>k=g∨some k=v.ownBlock
structure dI(W:World)(base g:Nat)(most:Nat)(v:Value)(l:List MgV):Prop where
 b:base≤g
 blk:Blk W g 116 [v,.i most]
 row:OR W (fun i=>base≤i) 75 23 v MgV.cells l
 es:∀m∈l,Ow W base 122 11 m.ev En.cells m.es
section
variable {T:TypeId→Prop}{W W' W'':World}{base g most:Nat}{v v':Value}{l:List MgV}
theorem dI.below(h:dI W base g most v l)(a:Bw' W W'):dI W' base g most v l:=⟨h.b,h.blk.grow a,h.row.below a,fun m c=>(h.es m c).below a⟩
theorem dI.tg(h:dI W base g most v l)(a:ChT T W W')(c:¬T 116∧¬T 75∧¬T 122):dI W' base g most v l:=⟨h.b,h.blk.tg a c.1,h.row.tg a c.2.1,fun m d=>(h.es m d).tg a c.2.2⟩
theorem dI.cht(h:dI W base g most v l)(b:Chg (iX g v) W W'):ChT kT W W':=ChT.of b fun i a _=>by
 rcases a with rfl|a
 .exact⟨_,_,_,h.blk,.inr rfl⟩
 .obtain⟨c,e⟩:=aM.tag h.row a;exact⟨_,_,_,e,.inl rfl⟩
theorem dI.slice(h:dI W base g most v l):∃A c,v=.slice A l.length c∧l.length≤c∧c≤maxLen:=aM.slice h.row
theorem aBi(h:Chg (iX g v) W W')(c:∀k,some k=v'.ownBlock→some k=v.ownBlock∨W.heap.size≤k)(b:Chg (iX g v') W' W''):Chg (iX g v) W W'':=
 h.trans b fun i d a=>by
  rcases a with rfl|a
  .exact .inl rfl
  .rcases c i a with h|h
   .exact .inr h
   .omega
end
theorem aBj(most:Nat)(w:World)(c:1≤most)(d:most≤200):
  Calls prog 35 #[.i most] w fun e w'=>∃g,e=.returned (.tuple #[.pointer (some ⟨g,0,none⟩),.i 0])∧dI w' w.heap.size g most (.slice none 0 0) []∧Bw' w w':=by
 have a:decide ((most:Int)<1)=false:=by simp; omega
 have b:¬(200:Int)<(most:Int):=by omega
 go_enter func35,ntmps35;go_wp2_with fail;go_ret2;exact⟨_,rfl,⟨aN _,Blk.new _ _ [.slice none 0 0,.i most],aM.nil _ _ _ _,fun _ h=>(nomatch h)⟩,ba' _ _⟩
theorem aBk{base g most:Nat}{v:Value}{l:List MgV}(i:Int)(w:World)(h:dI w base g most v l):Calls prog 80 #[.pointer (some ⟨g,0,none⟩),.i i] w fun e w'=>e=.returned (.bool (decide (0≤i)&&decide (i<(l.length:Int))))∧w'=w:=by
 obtain⟨A,c,rfl,-⟩:=h.slice;have d:w.cell? ⟨g,0,none⟩=some (.slice A l.length c):=h.blk.cell 0;clear h
 by_cases a:0≤i
 .rw[fA a,kU];go_enter func80,ntmps80;go_wp2_with fail;go_ret;exact⟨rfl,rfl⟩
 .have b:=dR a;rw[b,Bool.false_and];go_enter func80,ntmps80;go_wp2_with fail;go_ret;exact⟨rfl,rfl⟩
theorem Li{base g most:Nat}{v:Value}{l:List MgV}(i:Int)(w:World)(h:dI w base g most v l):Calls prog 40 #[.pointer (some ⟨g,0,none⟩),.i i] w fun e w'=>e=.returned (.i (if (decide (0≤i)&&decide (i<(l.length:Int)))=true then 0 else 120))∧w'=w:=by
 have a:=kp (aBk i w h);clear h;obtain⟨b,c⟩:=nm' (decide (0≤i)&&decide (i<(l.length:Int)));rw[c]at a ⊢;clear c
 cases b
 all_goals
  go_enter func40,ntmps40;go_wp2_with fail;refine (a.o).mono ?_;rintro e d ⟨rfl,rfl⟩;go_wp2_with fail;go_ret;exact⟨rfl,rfl⟩
end
section
attribute [-go_sem] loadCellsFrom storeCells run_eql_struct run_neq_struct
attribute [local go_sem] aX MgV.fold dA
theorem aBl{base g p a B:Nat}{v:Value}{l:List MgV}(m:MgV)(w:World)(h:dI w base g p v l)(ha:Sl w B (.slice (some ⟨a,0,none⟩) 1 1) MgV.cells [m])(Z:Ow w base 122 11 m.ev En.cells m.es)(X:base≤w.heap.size)(hl:l.length+1≤p)(h2:p≤200):
  Calls prog 41 #[.pointer (some ⟨g,0,none⟩),.slice (some ⟨a,0,none⟩) 1 1] w fun e w'=>e=.returned (.tuple #[])∧∃v',dI w' base g p v' (l++[m])∧Chg (iX g v) w w'∧∀k,some k=v'.ownBlock→some k=v.ownBlock∨w.heap.size≤k:=by
 obtain⟨A,c,rfl,p1,e0⟩:=h.slice;have q0:w.cell? ⟨g,0,none⟩=some (.slice A l.length c):=h.blk.cell 0;have a0:=aM.not_blk h.row h.blk (by decide);obtain⟨_,_,S,d0,-⟩:=ha
 cases S;obtain⟨_,_,S,-,Y,-⟩:=iS (P:=prog) 23 MgV.cells dA (by decide) d0 0 (by show 0<1; decide)
 cases S;have H:=k'5 h Y Z a0 X;clear h Y Z a0 e0 d0 X;obtain⟨i0,j0,y0,z0,a1⟩:=info_parts sW;go_enter func41,ntmps41;go_wp2_with (at_builtin; refine uS w rfl (.tmp 8) (.tmp 9) _ rfl 75 i0 _ 23 208 rZ j0 y0 z0 a1 rfl (by omega) (fun i=>base≤i) _ l.length (aO MgV.cells l) rfl H.a.row (fun i q=>aB H.E q) ⟨a,0,none⟩ 1 1 m.cells rfl rfl ?_ (fD H.c.one) ?_ ?_ ?_)
 .intro j u hj;rw[Addr.add_lit];exact H.b j u hj
 .unfold maxLen; omega
 .omega
 intro v1 K F O b0;have y:=H.a.blk.chg O H.d;obtain⟨N,L⟩:=nm' (l.length+1);rw[L]at F;obtain⟨f,n,cap,b1,rfl,l0,g0,o1,l1,m0,o0⟩:=F.form (by omega);have f0:=y.frozen 0;have p0:K.cell? ⟨g,0,none⟩=some (.slice A l.length c):=y.cell 0;have z:Blk (K.setCell ⟨g,0,none⟩ (.slice (some ⟨f,n,none⟩) N cap)) g 116 [.slice (some ⟨f,n,none⟩) N cap,.i p]:=y.setCell 0 _;have J:=(Chg.refl (fun k=>k=g) K).setCell (.inr rfl) 0 (.slice (some ⟨f,n,none⟩) N cap);have R:=F.chg J (fun i q e=>F.not_blk y (by decide) (e▸q));obtain⟨w2,U⟩:=nm' (K.setCell ⟨g,0,none⟩ (.slice (some ⟨f,n,none⟩) N cap));rw[U]at z J R;have W:=k'2 L U;have r:=k'4 R ((O.mono (T:=iX g (.slice A l.length c)) fun i _ q=>.inr q).trans J fun i _ q=>.inl q) b0 z;have k3:=bG (show w2.cell? ⟨g,0,none⟩=some (.slice (some ⟨f,n,none⟩) N cap) from z.cell 0);have k4:=bG (show w2.cell? ⟨g,1,none⟩=some (.i p) from z.cell 1);have q1:IntKind.i64.wrap ((N:Int)-(p:Int))=(N:Int)-(p:Int):=IntWalk.i64_in _ (by omega);have m1:max 0 ((N:Int)-(p:Int))=0:=by omega
 have d1:(N:Int)≤(cap:Int):=by omega
 have j1:¬cap=0:=by omega
 clear F O b0 y l0 g0 m0 o0 q0 z J R L U;go_wp2_with fail;rw[W.B];clear f0 p0;refine mO 19 (by kernel_rfl) (by kernel_rfl) ?_;simp only[lV,kB,bS,bU]
 repeat (go_big_quiet_step (fail))
 refine cI ?_;rintro s ⟨⟨_,C⟩,rfl⟩;have I:=r.D.grow C;have k5:s.cell? ⟨g,0,none⟩=some (.slice (some ⟨f,n,none⟩) N cap):=I.cell 0;have f5:=I.frozen 0;have x5:Blk (s.setCell ⟨g,0,none⟩ (.slice (some ⟨f,n,none⟩) N cap)) g 116 [.slice (some ⟨f,n,none⟩) N cap,.i p]:=I.setCell 0 _;have c5:=(Chg.refl (fun i=>i=g) s).setCell (.inr rfl) 0 (.slice (some ⟨f,n,none⟩) N cap);have r5:=(r.a.below C).chg c5 (fun i q e=>(r.a.below C).not_blk I (by decide) (e▸q));have Q:Chg (iX g (.slice A l.length c)) w (s.setCell ⟨g,0,none⟩ (.slice (some ⟨f,n,none⟩) N cap)):=(r.b.then C).trans c5 fun i _ h=>.inl h;have M:=H.a.cht Q;have HF:=kp (show dI (s.setCell ⟨g,0,none⟩ (.slice (some ⟨f,n,none⟩) N cap)) base g p (.slice (some ⟨f,n,none⟩) N cap) (l++[m]) from⟨H.a.b,x5,by unfold OR; rw[bF,lH,W.a,kE]; simpa [aO] using r5,fun x G=>by
  rcases cV.1 G with G|G
  .exact (H.a.es x G).tg M (by unfold kT; decide)
  .rw[bZ.1 G]; exact H.c.tg M (by unfold kT; decide)⟩)
 have V:=k'2 Q r.c;clear I x5 c5 r5 Q M C k3 k4;go_wp2_with fail;go_end0;exact⟨rfl,_,HF.o,V.a,V.B⟩
end
end Go.Proofs.YtoncgpddjmgbfaaGreat
