import Derived.Test.YtdoopoapbffpbaaGreatZ19
import Derived.Test.YtdoopoapbffpbaaGreatZ21
import Derived.Test.YtdoopoapbffpbaaGreatZ23
import Derived.Test.YtdoopoapbffpbaaGreatZ29
namespace Go.Proofs.YtdoopoapbffpbaaGreat
open Go.RowKit Go.Proofs.Tryz
set_option maxRecDepth 100000
set_option maxHeartbeats 12800000
set_option linter.unusedVariables false
set_option linter.unusedSimpArgs false
section
theorem par(w:World)(t:TypeId)(a:List Value):∃W,w.alloc (.cells a.toArray t)=W∧Blk W w.heap.size t a∧Bw' w W∧w.heap.size<W.heap.size:=
 ⟨_,rfl,Blk.new w t a,ba' w _,by simp⟩
theorem fB(w:World)(t:TypeId)(b a:List Value)(d:a.length=b.length)(c:∀u∈a,u.oneCell'=true):
  ∃W,(w.alloc (.cells b.toArray t)).setRow w.heap.size a.toArray=W∧Sem.run prog (storeCells ⟨w.heap.size,0,none⟩ a 0) (w.alloc (.cells b.toArray t))=.ok () W∧Blk W w.heap.size t a∧Bw' w W∧w.heap.size<W.heap.size:=by
 refine⟨_,rfl,(Blk.new w t b).store d c,(Blk.new w t b).set a,cL (ba' w _) (aD _) _,by simp⟩
theorem Blk.put{W:World}{g:Nat}{t:TypeId}{a:List Value}(h:Blk W g t a)(cs':List Value)(c:cs'.length=a.length)(b:∀u∈cs',u.oneCell'=true):
  ∃W',W.setRow g cs'.toArray=W'∧Sem.run prog (storeCells ⟨g,0,none⟩ cs' 0) W=.ok () W'∧Blk W' g t cs'∧Chg (fun i=>i=g) W W':=
 ⟨_,rfl,h.store c b,h.set cs',(Chg.refl (fun i=>i=g) W).setRow (.inr rfl) _⟩
theorem Blk.grow{W W':World}{g:Nat}{t:TypeId}{a:List Value}(h:Blk W g t a)(b:Bw' W W'):Blk W' g t a:=h.below b h.lt
end
section
attribute [-go_sem] run_eql_struct run_neq_struct
theorem La(a b:Pt)(w:World):Sem.run prog (binOp .eql 37 (.agg a.cells.toArray) (.agg b.cells.toArray)) w=.ok (.bool (decide (a=b))) w:=by
 obtain⟨n,o,p,q,f⟩:=a;obtain⟨r,s,x,y,g⟩:=b;simp only[Pt.cells,Pt.mk.injEq];have l:prog.underlying 37=some (.struct (prog.fieldsOf 37)):=by kernel_rfl
 have m:prog.stoodInHeld 37=false:=by kernel_rfl
 rw[run_eql_struct,show (10000:Nat)=9999+1 from rfl,run_equalIn_agg w 9999 _ _ _ l m];simp only[Program.fieldsOf,underlying37]
 go_simp
 by_cases c:n=r
 case neg=>simp[c]
 by_cases d:o=s
 case neg=>simp[c,d]
 by_cases e:p=x
 case neg=>simp[c,d,e]
 by_cases i:q=y
 case neg=>simp[c,d,e,i]
 have j:f=g↔f.toList=g.toList:=⟨fun h=>h▸rfl,fun h=>by rw[ByteArray.toList_eq,ByteArray.toList_eq]at h; exact ByteArray.ext (Array.ext' h)⟩
 by_cases k:f.toList=g.toList<;>simp[c,d,e,i,j,k]
theorem Vz{t:TypeId}{a b:Array Value}{w:World}{r:Bool}(h:Sem.run prog (binOp .eql t (.agg a) (.agg b)) w=.ok (.bool r) w):Sem.run prog (binOp .neq t (.agg a) (.agg b)) w=.ok (.bool (!r)) w:=by
 simp only[binOp,Sem.run_bind]at h ⊢
 revert h
 cases (Op.equal t (.agg a) (.agg b)).run prog w with
 |ok x c=>intro h; simp[Result.andThen]at h ⊢; simp[h]
 |halt x c=>intro h; simp[Result.andThen]at h
theorem Wc(a b:Pt)(w:World):Sem.run prog (binOp .neq 37 (.agg a.cells.toArray) (.agg b.cells.toArray)) w=.ok (.bool (!decide (a=b))) w:=Vz (La a b w)
attribute [-go_sem] loadCellsFrom storeCells
attribute [local go_sem] bC
theorem Wd(w:World):(Instr.build 37 #[]).run prog w=.ok (.agg jL.cells.toArray) w:=run_build w _ _ _ (by kernel_rfl)
attribute [-go_sem] Instr.build Instr.fill
attribute [go_sem] Wd
theorem Lb:(∀(p:RpV)(w:World)(O:inR p.nodes),Calls prog 38 #[.agg p.cells.toArray] w fun e l=>e=.returned (.bool (tL p.x))∧Bw' w l)∧(∀(p:RpV)(w:World),Calls prog 46 #[.agg p.cells.toArray] w fun e l=>e=.returned (.bool (tL p.x))∧Bw' w l):=by
 refine⟨?q0,?q1⟩
 case' q0=>have n:=True.intro; intro p w O
 case' q1=>intro p w
 all_goals
  obtain⟨S,a0,F,T,-⟩:=par w 39 p.cells;obtain⟨W2,b0,s2,R,s,-⟩:=fB S 37 [.i 0,.i 0,.i 0,.i 0,.string ⟨#[]⟩] p.part.cells rfl (Dh p.part);have l1:=F.loadOff (P:=prog) 21 5 p.part.cells rfl rfl;have l2:=R.load (P:=prog) (k:=5) rfl;have l3:=(F.grow s).load (P:=prog) (k:=26) rfl;have m:=k'3 (F.grow s) R (T.on s);have X:=La p.part jL
  first
  |(have:=n; have r:=kp (fun W=>Dj p W O))
  |have r:=kp (fun W=>tV p W)
  obtain⟨z,Q⟩:=nm' (decide (p.part=jL));obtain⟨a,M⟩:=nm' (gM p.x);obtain⟨b,V⟩:=nm' (decide (p.k.view<p.part.view));obtain⟨c,A⟩:=nm' (aF p.part.src 1 p.nodes);obtain⟨d,N⟩:=nm' (decide (p.part.src=p.id));obtain⟨f,B⟩:=nm' (aF p.part.view p.k.view 800000000);obtain⟨g,D⟩:=nm' (aF p.part.number 1 800000000);obtain⟨h,E⟩:=nm' (aF p.part.total 1 65536);obtain⟨i,Y⟩:=nm' (decide ((p.part.data.size:Int)≤p.part.total));have U:tL p.x=(z||((!a||b)&&(c&&(!d&&(f&&(g&&(h&&i))))))):=by rw[←Q,←M,←V,←A,←N,←B,←D,←E,←Y]; rfl
  rw[U];rw[Q]at X;have d0:(p.part.src != p.id)= !d:=by rw[←N]; by_cases e:p.part.src=p.id<;>simp[e]
  first
  |(have:=n; have I:=kp (fun W=>A▸cJ.1 p.part.src 1 p.nodes W))
  |have I:=kp (fun W=>A▸cJ.2.1 p.part.src 1 p.nodes W)
  first
  |(have:=n; have J:=kp (fun W=>B▸cJ.1 p.part.view p.k.view 800000000 W))
  |have J:=kp (fun W=>B▸cJ.2.1 p.part.view p.k.view 800000000 W)
  first
  |(have:=n; have K:=kp (fun W=>D▸cJ.1 p.part.number 1 800000000 W))
  |have K:=kp (fun W=>D▸cJ.2.1 p.part.number 1 800000000 W)
  first
  |(have:=n; have L:=kp (fun W=>E▸cJ.1 p.part.total 1 65536 W))
  |have L:=kp (fun W=>E▸cJ.2.1 p.part.total 1 65536 W)
  rw[M]at r
  first |go_enter func38,ntmps38|go_enter func46,ntmps46
  cases z
  case true=>
   go_wp2_with fail;go_ret;exact⟨rfl,m.C⟩
  go_wp2_with fail;refine mb' (r.o _) fun w3 y=>?_;have H:=kp (m.C.on y);have G:=m.a.below y m.a.lt;have q:=m.b.below y m.b.lt;have k0:=G.cell 0;have k1:=G.cell 1;have k2:=G.cell 2;rw[RpV.c0]at k0;rw[RpV.c1]at k1;rw[RpV.c2]at k2;have Z:=q.cell 0;have j1:=q.cell 1;have j2:=q.cell 2;have j3:=q.cell 3;have j4:=q.cell 4;change _=some (Value.i p.part.src)at Z;change _=some (Value.i p.part.view)at j1;change _=some (Value.i p.part.number)at j2;change _=some (Value.i p.part.total)at j3;change _=some (Value.string p.part.data)at j4
  cases a<;>cases b
  case true.false=>
   go_wp2_with fail;go_ret;exact⟨rfl,H.o⟩
  all_goals
   go_wp2_with fail;refine mb' (I.o _) fun l j=>?_;obtain rfl:=j.symm
   cases c
   case' true=>
    cases d
    case' false=>
     go_wp2_with fail;refine mb' (J.o _) fun l j=>?_;obtain rfl:=j.symm
     cases f
     case' true=>
      go_wp2_with fail;refine mb' (K.o _) fun l j=>?_;obtain rfl:=j.symm
      cases g
      case' true=>
       go_wp2_with fail;refine mb' (L.o _) fun l j=>?_;obtain rfl:=j.symm
       cases h
  all_goals
   go_wp2_with fail;go_ret;exact⟨rfl,H.o⟩
end
section
structure qE(t:TypeId)(Φ:Value→World→Prop):Prop where
 grow:∀z W W',Φ z W→Bw' W W'→Φ z W'
 put:∀z W a cs cs',Φ z W→Blk W a t cs→Φ z (W.setRow a cs')
theorem qF{X:Nat→Option Value}{k:Nat}{v:Value}:bD X k v k=some v:=aE rfl
structure CAl(Wa:World)(t:TypeId)(zs:List Value)(t2:TypeId)(zs2:List Value)(Φ:Value→World→Prop)(E:Value→Value→Prop)(kc km ke ka kb ks:Nat)(X:Nat→Option Value)(W:World):Prop where
 bel:Bw' Wa W
 call:∀z,X kc=some z→Φ z W
 mv:∀z,X km=some z→X kc=some z
 ext:∀z,X ke=some z→∃u,X kc=some u∧E u z
 al:∀z,X ka=some z→∃a cs,z=.pointer (some ⟨a,0,none⟩)∧Wa.heap.size≤a∧Blk W a t cs∧(X ks=none→cs=zs)∧∀s,X ks=some s→X ke=some (.agg cs.toArray)
 al2:∀z,X kb=some z→∃b,z=.pointer (some ⟨b,0,none⟩)∧Wa.heap.size≤b∧Blk W b t2 zs2
 st:∀s,X ks=some s→(X ka).isSome=true
section
variable {Wa W W':World}{t t2:TypeId}{zs zs2:List Value}{Φ:Value→World→Prop}{E:Value→Value→Prop}{kc km ke ka kb ks:Nat}{X:Nat→Option Value}{u z:Value}
theorem CAl.start:CAl Wa t zs t2 zs2 Φ E kc km ke ka kb ks (fun _=>none) Wa:=
 ⟨.refl _ _,fun _ h=>(nomatch h),fun _ h=>(nomatch h),fun _ h=>(nomatch h),fun _ h=>(nomatch h),fun _ h=>(nomatch h),fun _ h=>(nomatch h)⟩
theorem CAl.other{j:Nat}(h:CAl Wa t zs t2 zs2 Φ E kc km ke ka kb ks X W)(o:kc≠j∧km≠j∧ke≠j∧ka≠j∧kb≠j∧ks≠j):CAl Wa t zs t2 zs2 Φ E kc km ke ka kb ks (bD X j u) W:=by
 obtain⟨i,g,k,l,m,n⟩:=o;have a:=aR (X:=X) (v:=u) i;have e:=aR (X:=X) (v:=u) g;have b:=aR (X:=X) (v:=u) k;have c:=aR (X:=X) (v:=u) l;have f:=aR (X:=X) (v:=u) m;have d:=aR (X:=X) (v:=u) n;exact⟨h.bel,by rw[a]; exact h.call,by rw[e,a]; exact h.mv,by rw[a,b]; exact h.ext,by rw[c,d,b]; exact h.al,by rw[f]; exact h.al2,by rw[d,c]; exact h.st⟩
theorem CAl.grow(h:CAl Wa t zs t2 zs2 Φ E kc km ke ka kb ks X W)(i:qE t Φ)(b:Bw' W W'):CAl Wa t zs t2 zs2 Φ E kc km ke ka kb ks X W':=
 ⟨h.bel.on b,fun z a=>i.grow _ _ _ (h.call z a) b,h.mv,h.ext,fun z a=>(h.al z a).imp fun _ ⟨f,e,d,c,g⟩=>⟨f,e,d,c.grow b,g⟩,
  fun z a=>(h.al2 z a).imp fun _ ⟨e,d,c⟩=>⟨e,d,c.grow b⟩,h.st⟩
theorem CAl.doCall(h:CAl Wa t zs t2 zs2 Φ E kc km ke ka kb ks X W)(s:qE t Φ)(e:X kc=none)(p:Bw' W W')(r:Φ z W')(q:km≠kc∧ke≠kc∧ka≠kc∧kb≠kc∧ks≠kc):CAl Wa t zs t2 zs2 Φ E kc km ke ka kb ks (bD X kc z) W':=by
 have g:=h.grow s p;obtain⟨k,l,m,n,o⟩:=q;have i:=aR (X:=X) (v:=z) k;have b:=aR (X:=X) (v:=z) l;have c:=aR (X:=X) (v:=z) m;have j:=aR (X:=X) (v:=z) n;have d:=aR (X:=X) (v:=z) o;refine⟨g.bel,fun u a=>?_,fun u a=>?_,fun u a=>?_,by rw[c,d,b]; exact g.al,by rw[j]; exact g.al2,by rw[d,c]; exact g.st⟩
 .rw[qF]at a; cases a; exact r
 .rw[i]at a; have:=h.mv u a; rw[e]at this; cases this
 .rw[b]at a;obtain⟨v,f,-⟩:=h.ext u a;rw[e]at f; cases f
theorem CAl.doMv(h:CAl Wa t zs t2 zs2 Φ E kc km ke ka kb ks X W)(n:X kc=some u)(m:kc≠km∧ke≠km∧ka≠km∧kb≠km∧ks≠km):CAl Wa t zs t2 zs2 Φ E kc km ke ka kb ks (bD X km u) W:=by
 obtain⟨g,i,j,k,l⟩:=m;have a:=aR (X:=X) (v:=u) g;have b:=aR (X:=X) (v:=u) i;have c:=aR (X:=X) (v:=u) j;have f:=aR (X:=X) (v:=u) k;have d:=aR (X:=X) (v:=u) l;exact⟨h.bel,by rw[a]; exact h.call,fun v e=>by rw[qF]at e; cases e; rw[a]; exact n,by rw[a,b]; exact h.ext,by rw[c,d,b]; exact h.al,by rw[f]; exact h.al2,by rw[d,c]; exact h.st⟩
theorem CAl.doExt(h:CAl Wa t zs t2 zs2 Φ E kc km ke ka kb ks X W)(q:X ke=none)(C:X kc=some u)(r:E u z)(x:kc≠ke∧km≠ke∧ka≠ke∧kb≠ke∧ks≠ke):CAl Wa t zs t2 zs2 Φ E kc km ke ka kb ks (bD X ke z) W:=by
 obtain⟨d,l,n,o,p⟩:=x;have c:=aR (X:=X) (v:=z) d;have j:=aR (X:=X) (v:=z) l;have f:=aR (X:=X) (v:=z) n;have k:=aR (X:=X) (v:=z) o;have g:=aR (X:=X) (v:=z) p;refine⟨h.bel,by rw[c]; exact h.call,by rw[j,c]; exact h.mv,fun v b=>?_,?_,by rw[k]; exact h.al2,by rw[g,f]; exact h.st⟩
 .rw[qF]at b; cases b;exact⟨u,by rw[c]; exact C,r⟩
 .rw[f,g];intro v b;obtain⟨a,i,e,A,y,d,m⟩:=h.al v b;exact⟨a,i,e,A,y,d,fun s B=>by have:=m s B; rw[q]at this; cases this⟩
theorem CAl.noSt(h:CAl Wa t zs t2 zs2 Φ E kc km ke ka kb ks X W)(a:X ka=none):X ks=none:=by
 cases hs:X ks with
 |none=>rfl
 |some s=>have:=h.st s hs; rw[a]at this; cases this
theorem CAl.doAlloc(h:CAl Wa t zs t2 zs2 Φ E kc km ke ka kb ks X W)(r:qE t Φ)(o:X ka=none)(p:kc≠ka∧km≠ka∧ke≠ka∧kb≠ka∧ks≠ka):CAl Wa t zs t2 zs2 Φ E kc km ke ka kb ks (bD X ka (.pointer (some ⟨W.heap.size,0,none⟩))) (W.alloc (.cells zs.toArray t)):=by
 have g:=h.grow r (ba' W (.cells zs.toArray t));have q:=h.noSt o;obtain⟨k,j,l,m,n⟩:=p;have a:=aR (X:=X) (v:=.pointer (some ⟨W.heap.size,0,none⟩)) k;have d:=aR (X:=X) (v:=.pointer (some ⟨W.heap.size,0,none⟩)) j;have e:=aR (X:=X) (v:=.pointer (some ⟨W.heap.size,0,none⟩)) l;have f:=aR (X:=X) (v:=.pointer (some ⟨W.heap.size,0,none⟩)) m;have i:=aR (X:=X) (v:=.pointer (some ⟨W.heap.size,0,none⟩)) n;refine⟨g.bel,by rw[a]; exact g.call,by rw[d,a]; exact g.mv,by rw[a,e]; exact g.ext,fun v c=>?_,by rw[f]; exact g.al2,fun s _=>by rw[qF]; rfl⟩;rw[qF]at c; cases c;exact⟨_,zs,rfl,h.bel.size,Blk.new W t zs,fun _=>rfl,fun s b=>by rw[i,q]at b; cases b⟩
theorem CAl.doAlloc2(h:CAl Wa t zs t2 zs2 Φ E kc km ke ka kb ks X W)(o:qE t Φ)(n:kc≠kb∧km≠kb∧ke≠kb∧ka≠kb∧ks≠kb):CAl Wa t zs t2 zs2 Φ E kc km ke ka kb ks (bD X kb (.pointer (some ⟨W.heap.size,0,none⟩))) (W.alloc (.cells zs2.toArray t2)):=by
 have g:=h.grow o (ba' W (.cells zs2.toArray t2));obtain⟨j,i,k,l,m⟩:=n;have a:=aR (X:=X) (v:=.pointer (some ⟨W.heap.size,0,none⟩)) j;have f:=aR (X:=X) (v:=.pointer (some ⟨W.heap.size,0,none⟩)) i;have b:=aR (X:=X) (v:=.pointer (some ⟨W.heap.size,0,none⟩)) k;have c:=aR (X:=X) (v:=.pointer (some ⟨W.heap.size,0,none⟩)) l;have d:=aR (X:=X) (v:=.pointer (some ⟨W.heap.size,0,none⟩)) m;refine⟨g.bel,by rw[a]; exact g.call,by rw[f,a]; exact g.mv,by rw[a,b]; exact g.ext,by rw[c,d,b]; exact g.al,fun v e=>?_,by rw[d,c]; exact g.st⟩;rw[qF]at e; cases e;exact⟨_,rfl,h.bel.size,Blk.new W t2 zs2⟩
theorem CAl.doStore{a:Nat}{d:List Value}(h:CAl Wa t zs t2 zs2 Φ E kc km ke ka kb ks X W)(G:qE t Φ)(F:t≠t2)(A:X ks=none)(j:X ka=some (.pointer (some ⟨a,0,none⟩)))(B:X ke=some (.agg d.toArray))(C:kc≠ks∧km≠ks∧ke≠ks∧ka≠ks∧kb≠ks):
  Blk W a t zs∧CAl Wa t zs t2 zs2 Φ E kc km ke ka kb ks (bD X ks u) (W.setRow a d.toArray):=by
 obtain⟨H,cs',e,n,f,i,-⟩:=h.al _ j
 cases e;obtain rfl:=i A;obtain⟨i,q,r,x,y⟩:=C;have g:=aR (X:=X) (v:=u) i;have o:=aR (X:=X) (v:=u) q;have k:=aR (X:=X) (v:=u) r;have l:=aR (X:=X) (v:=u) x;have p:=aR (X:=X) (v:=u) y;refine⟨f,cL h.bel n _,?_,by rw[o,g]; exact h.mv,by rw[g,k]; exact h.ext,?_,?_,?_⟩
 .rw[g]; exact fun z c=>G.put _ _ _ _ _ (h.call z c) f
 .intro z c;rw[l,j]at c
  cases c;exact⟨a,d,rfl,n,f.set d,fun h=>(by rw[qF]at h; cases h),fun s _=>by rw[k]; exact B⟩
 .intro z c;rw[p]at c;obtain⟨b,e,D,m⟩:=h.al2 z c;exact⟨b,e,D,m.other (m.ne f F.symm) _⟩
 .intro s _; rw[l,j]; rfl
end
end
end Go.Proofs.YtdoopoapbffpbaaGreat
