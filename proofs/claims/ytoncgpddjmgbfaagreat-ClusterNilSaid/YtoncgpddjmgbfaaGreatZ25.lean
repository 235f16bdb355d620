import Derived.Test.YtoncgpddjmgbfaaGreatZ08
import Derived.Test.YtoncgpddjmgbfaaGreatZ24
import Derived.StillTailTactics
namespace Go.Proofs.YtoncgpddjmgbfaaGreat
open Go.RowKit Go.Proofs.Tryz
set_option maxRecDepth 100000
set_option maxHeartbeats 12800000
set_option linter.unusedVariables false
set_option linter.unusedSimpArgs false
section
attribute [-go_sem] loadCellsFrom storeCells run_eql_struct run_neq_struct Instr.build
attribute [local go_sem] aX VoV.fold
structure WkV where
 (r:RpV) (rs:List RcV) (rv:Value) (ms:List MgV) (mv:Value)
def WkV.cells(p:WkV)(tl:List Value):List Value:=p.r.cells++([p.rv,p.mv]++tl)
structure WkO(w:World)(base g:Nat)(t:TypeId)(tl:List Value)(p:WkV)(ps:List ObV):Prop where
 blk:Blk w g t (p.cells tl)
 lo:base≤g
 rep:RpO w base p.r ps
 rs:Ow w base 124 17 p.rv RcV.cells p.rs
 rse:∀x∈p.rs,Ow w base 122 11 x.ev En.cells x.es
 ms:Ow w base 75 23 p.mv MgV.cells p.ms
 mse:∀x∈p.ms,Ow w base 122 11 x.ev En.cells x.es
def pJ(t:TypeId):Prop:=t=101∨t=77777
section
variable {w w':World}{base g b:Nat}{t t2:TypeId}{tl cs:List Value}{p:WkV}{ps:List ObV}
theorem WkO.below(h:WkO w base g t tl p ps)(a:Bw' w w'):WkO w' base g t tl p ps:=⟨h.blk.grow a,h.lo,h.rep.below a,h.rs.below a,fun x b=>(h.rse x b).below a,h.ms.below a,fun x b=>(h.mse x b).below a⟩
theorem WkO.put{r:RpV}{d:List ObV}(h:WkO w base g t tl p ps)(b:pJ t)(e:Blk w' g t (WkV.cells ⟨r,p.rs,p.rv,p.ms,p.mv⟩ tl))(a:Chg (fun i=>i=g) w w')(f:RpO w base r d):WkO w' base g t tl ⟨r,p.rs,p.rv,p.ms,p.mv⟩ d:=by
 refine⟨e,h.lo,f.chg h.blk a (by rcases b with rfl|rfl<;>decide),h.rs.chg_blk h.blk a (by rcases b with rfl|rfl<;>decide),fun x c=>(h.rse x c).chg_blk h.blk a (by rcases b with rfl|rfl<;>decide),h.ms.chg_blk h.blk a (by rcases b with rfl|rfl<;>decide),fun x c=>(h.mse x c).chg_blk h.blk a (by rcases b with rfl|rfl<;>decide)⟩
end
def RpV.settled(r:RpV):RpV:=⟨r.id,r.nodes,r.k,r.commit,r.s,0,[],.slice none 0 0,[],.slice none 0 0,[],.slice none 0 0,iR⟩
theorem RpO.settled{w:World}{base:Nat}{r:RpV}{ps:List ObV}(h:RpO w base r ps):RpO w base r.settled ps:=⟨h.es,h.st,Ow.nil _ _ _ _ _,Ow.nil _ _ _ _ _,fun _ h=>(nomatch h),Ow.nil _ _ _ _ _⟩
theorem WkO.settle{w:World}{base g:Nat}{t:TypeId}{tl:List Value}{p:WkV}{ps:List ObV}(h:WkO w base g t tl p ps)(l:pJ t):
  ∃b c k a d,w.setCell ⟨g,18,none⟩ (.slice none 0 0)=b∧b.setCell ⟨g,19,none⟩ (.slice none 0 0)=c∧c.setCell ⟨g,20,none⟩ (.slice none 0 0)=k∧Sem.run prog (storeCells ⟨g,21,none⟩ iR.cells 0) k=.ok () a∧a.setCell ⟨g,17,none⟩ (.i 0)=d∧
   (w.cell? ⟨g,18,none⟩=some p.r.sv∧w.frozen? ⟨g,18,none⟩=false)∧(b.cell? ⟨g,19,none⟩=some p.r.vv∧b.frozen? ⟨g,19,none⟩=false)∧(c.cell? ⟨g,20,none⟩=some p.r.av∧c.frozen? ⟨g,20,none⟩=false)∧(a.cell? ⟨g,17,none⟩=some (.i p.r.timer)∧a.frozen? ⟨g,17,none⟩=false)∧
   WkO d base g t tl ⟨p.r.settled,p.rs,p.rv,p.ms,p.mv⟩ ps∧Chg (fun i=>i=g) w d:=by
 have e:=h.blk.setCell 18 (.slice none 0 0);have f:=e.setCell 19 (.slice none 0 0);have n:=f.setCell 20 (.slice none 0 0);obtain⟨a,q,m,j,c4⟩:=n.off 21 iR.cells _ rfl (by show 21+5≤((((p.cells tl).set 18 _).set 19 _).set 20 _).length; simp[WkV.cells,RpV.cells,KpV.cells,StV.cells,HpV.cells,Pt.cells]) (Bv iR);have o:=j.setCell 17 (.i 0);have c5:=((((Chg.refl (fun i=>i=g) w).setCell (.inr rfl) 18 (.slice none 0 0)).setCell (.inr rfl) 19 (.slice none 0 0)).setCell (.inr rfl) 20 (.slice none 0 0)).trans (c4.setCell (.inr rfl) 17 (.i 0)) fun _ _ h=>h;exact⟨_,_,_,a,_,rfl,rfl,rfl,m,rfl,⟨h.blk.cell 18,h.blk.frozen 18⟩,⟨e.cell 19,e.frozen 19⟩,⟨f.cell 20,f.frozen 20⟩,⟨j.cell 17,j.frozen 17⟩,h.put l o c5 h.rep.settled,c5⟩
theorem qU{tl:List Value}{g base:Nat}(p:WkV)(ps:List ObV)(w:World)(h:WkO w base g 101 tl p ps)(c:0≤p.r.k.base∧p.r.k.base≤900000000)(f:p.r.k.es.length≤1000000):
  Calls prog 51 #[.pointer (some ⟨g,0,none⟩)] w fun e w'=>e=.returned (.i p.r.k.x.last)∧Bw' w w':=by
 have i:=h.blk.loadOff (P:=prog) 0 26 p.r.cells rfl rfl;have a:=kp (fun W(b:Bw' w W)=>Bx p.r W w.heap.size (h.rep.rpAt.1.below b (aN _)) c f);clear h;go_enter func51,ntmps51;go_wp2_with fail;refine mb' (a.o _ (aH _ _)) fun j d=>?_;go_wp2_with fail;go_ret;exact⟨rfl,d⟩
end
section
attribute [-go_sem] loadCellsFrom storeCells run_eql_struct run_neq_struct
attribute [local go_sem] aX
theorem MgV.fold(p:MgV):List.foldl (fun(a:Array Value)(x:Value×Nat)=>a.setIfInBounds x.snd x.fst) z'7a p.cells.zipIdx=p.cells.toArray:=by
 simp[MgV.cells,Opn.cells]
attribute [local go_sem] MgV.fold dA
theorem sW:(prog.info? 75).map (fun i=>(i.zero,i.size,i.bytes))=some (some (.agg jV.cells.toArray),23,208):=by kernel_rfl
section
variable {w w':World}{base g:Nat}{t:TypeId}{tl:List Value}{p:WkV}{ps:List ObV}
theorem RpO.row{r:RpV}{d:List ObV}{α:Type}{enc:α→List Value}{k:Nat}{v:Value}{l:List α}(h:RpO w base r d)(c:Ow w base t k v enc l)(b:Chg (fun i=>v.ownBlock=some i) w w')(a:t≠264∧t≠262∧t≠3∧t≠141∧t≠122∧t≠175∧t≠172):RpO w' base r d:=
 ⟨h.es.chg_row c b a.2.2.2.2.1,h.st.chg_row c b a.1 a.2.1 a.2.2.1 a.2.2.2.1,h.starts.chg_row c b a.2.2.1,h.votes.chg_row c b a.2.2.2.2.2.1,fun v e=>(h.ves v e).chg_row c b a.2.2.2.2.1,h.acks.chg_row c b a.2.2.2.2.2.2⟩
theorem WkO.told{v':Value}{l':List MgV}(h:WkO w base g t tl p ps)(a:pJ t)(c:Chg (fun i=>p.mv.ownBlock=some i) w w')(l:Ow w' base 75 23 v' MgV.cells l')(k:∀x∈l',Ow w' base 122 11 x.ev En.cells x.es):
  WkO (w'.setCell ⟨g,27,none⟩ v') base g t tl ⟨p.r,p.rs,p.rv,l',v'⟩ ps∧Chg (fun i=>i=g∨p.mv.ownBlock=some i) w (w'.setCell ⟨g,27,none⟩ v'):=by
 have b:=h.blk.chg c (h.ms.ne_blk h.blk (by rcases a with rfl|rfl<;>decide));have f:Blk (w'.setCell ⟨g,27,none⟩ v') g t (WkV.cells ⟨p.r,p.rs,p.rv,l',v'⟩ tl):=b.setCell 27 v';have m:=h.rep.row h.ms c (by decide);have o:=h.rs.chg_row h.ms c (by decide);have n:=fun x e=>(h.rse x e).chg_row h.ms c (by decide);have d:=(Chg.refl (fun i=>i=g) w').setCell (.inr rfl) 27 v';refine⟨⟨f,h.lo,m.chg b d (by rcases a with rfl|rfl<;>decide),o.chg_blk b d (by rcases a with rfl|rfl<;>decide),fun x e=>(n x e).chg_blk b d (by rcases a with rfl|rfl<;>decide),l.chg_blk b d (by rcases a with rfl|rfl<;>decide),fun x e=>(k x e).chg_blk b d (by rcases a with rfl|rfl<;>decide)⟩,(c.mono fun i _ j=>.inr j).setCell (.inr (.inl rfl)) 27 v'⟩
end
def MgV.frm(p:MgV)(i:Int):MgV:=⟨p.kind,i,p.dst,p.view,p.normal,p.number,p.base,p.commit,p.es,p.ev,p.offset,p.total,p.data,p.seq,p.op,p.code,p.value,p.ok⟩
def MgV.seen(p:MgV)(i:Int):MgV:=⟨p.kind,p.src,p.dst,i,p.normal,p.number,p.base,p.commit,p.es,p.ev,p.offset,p.total,p.data,p.seq,p.op,p.code,p.value,p.ok⟩
theorem yJ(p:WkV)(tl:List Value):(p.cells tl)[27]? =some p.mv:=rfl
end
section
attribute [-go_sem] loadCellsFrom storeCells run_eql_struct run_neq_struct
attribute [local go_sem] aX MgV.fold dA
def MgV.to(p:MgV)(d:Int):MgV:=⟨p.kind,p.src,d,p.view,p.normal,p.number,p.base,p.commit,p.es,p.ev,p.offset,p.total,p.data,p.seq,p.op,p.code,p.value,p.ok⟩
def vF(id:Int)(k:Nat):List Int:=((List.range k).map fun n=>((n:Nat):Int)+1).filter fun n=> !decide (n=id)
theorem Jk(id:Int)(k:Nat):vF id (k+1)=if (k:Int)+1=id then vF id k else vF id k++[(k:Int)+1]:=by
 unfold vF;rw[Ds,fW,rJ]
 by_cases h:(k:Int)+1=id<;>simp[h]
def sX(p:WkV)(m:MgV)(k:Nat):List Mg:=(vF p.r.id k).map fun d=>(((m.to d).seen p.r.k.view).frm p.r.id).x
structure kM(w1 W:World)(base g g1:Nat)(t:TypeId)(tl:List Value)(p:WkV)(ps:List ObV)(m:MgV)(k:Nat)(l:List MgV)(v:Value)(d:Int):Prop where
 x:l.map (·.x)=sX p m k
 n:l.length≤k
 o:WkO W base g t tl ⟨p.r,p.rs,p.rv,p.ms++l,v⟩ ps
 b:Blk W g1 75 (m.to d).cells
 e:Ow W base 122 11 m.ev En.cells m.es
 c:Chg (fun i=>i=g∨p.mv.ownBlock=some i∨i=g1) w1 W
 f:∀j,v.ownBlock=some j→p.mv.ownBlock=some j∨g1<j
section
variable {w1 W W':World}{base g g1 k:Nat}{t:TypeId}{tl:List Value}{p:WkV}{ps:List ObV}{m:MgV}{l:List MgV}{v:Value}{d:Int}
theorem WkO.box{d:List Value}(h:WkO W base g t tl p ps)(b:Blk W g1 75 d)(a:Chg (fun i=>i=g1) W W')(k:p.mv.ownBlock≠some g1)(f:g≠g1):WkO W' base g t tl p ps:=
 ⟨h.blk.chg a f,h.lo,h.rep.chg b a (by decide),h.rs.chg_blk b a (by decide),fun x c=>(h.rse x c).chg_blk b a (by decide),h.ms.chg a fun i e j=>by rw[show i=g1 from j]at e; exact k e,fun x c=>(h.mse x c).chg_blk b a (by decide)⟩
theorem kM.store(h:kM w1 W base g g1 t tl p ps m k l v d)(q:g<g1)(s:∀j,p.mv.ownBlock=some j→j<g1)(e:Int):
  kM w1 (W.setCell ⟨g1,2,none⟩ (.i e)) base g g1 t tl p ps m k l v e:=by
 have c:=(Chg.refl (fun i=>i=g1) W).setCell (.inr rfl) 2 (.i e);exact⟨h.x,h.n,h.o.box h.b c (fun a=>(h.f _ a).elim (fun a=>absurd (s _ a) (tP _)) fun a=>absurd a (tP _)) (aCk q),h.b.setCell 2 _,h.e.chg_blk h.b c (by decide),h.c.trans c fun i _ r=>.inr (.inr r),h.f⟩
theorem kM.skip(h:kM w1 W base g g1 t tl p ps m k l v d)(a:(k:Int)+1=p.r.id):kM w1 W base g g1 t tl p ps m (k+1) l v d:=
 ⟨by rw[h.x,sX,sX,Jk,aK a],Nat.le_succ_of_le h.n,h.o,h.b,h.e,h.c,h.f⟩
theorem kM.sent{z:World}{ev v2:Value}(h:kM w1 W base g g1 t tl p ps m k l v ((k:Int)+1))(G:pJ t)(H:g<g1)(J:w1.heap.size=g1+1)(F:∀j,p.mv.ownBlock=some j→j<g1)(s:Bw' W W')(B:(k:Int)+1≠p.r.id)
  (E:WkO z base g t tl ⟨p.r,p.rs,p.rv,(p.ms++l)++[(((m.to ((k:Int)+1)).own ev).seen p.r.k.view).frm p.r.id],v2⟩ ps) (A:Chg (fun i=>i=g∨v.ownBlock=some i) W' z) (C:∀j,v2.ownBlock=some j→v.ownBlock=some j∨W'.heap.size≤j):
  kM w1 z base g g1 t tl p ps m (k+1) (l++[(((m.to ((k:Int)+1)).own ev).seen p.r.k.view).frm p.r.id]) v2 ((k:Int)+1):=by
 have I:=h.c.size;have D:¬(g1=g∨v.ownBlock=some g1):=fun d=>by
  rcases d with d|d
  .omega
  .rcases h.f _ d with d|d
   .exact absurd (F _ d) (tP _)
   .omega
 refine⟨?_,?_,?_,(h.b.grow s).chg A D,(h.e.below s).chg A fun i e q=>?_,(h.c.trans (Chg.of_below (S:=fun i=>i=g∨p.mv.ownBlock=some i∨i=g1) s) fun _ _ h=>h).trans A fun i q a=>?_,fun j y=>?_⟩
 .rw[fW,h.x,sX,sX,Jk,aF B,fW]; rfl
 .rw[bF]; have:=h.n; simp; omega
 .rw[←cH]; exact E
 .rcases q with q|q
  .exact h.e.ne_blk h.o.blk (by rcases G with rfl|rfl<;>decide) (q▸e)
  .exact h.e.apt h.o.ms (by decide) i e q
 .rcases a with a|a
  .exact .inl a
  .rcases h.f _ a with a|a
   .exact .inr (.inl a)
   .omega
 .rcases C j y with y|y
  .exact h.f j y
  .have:=s.size; omega
end
end
section
attribute [-go_sem] loadCellsFrom storeCells run_eql_struct run_neq_struct
attribute [local go_sem] aX
def KpV.at(p:KpV)(v:Int):KpV:=⟨v,p.normal,p.base,p.image,p.es,p.ev⟩
def sY:List Value:=z'8
end
section
attribute [-go_sem] loadCellsFrom storeCells run_eql_struct run_neq_struct
attribute [local go_sem] aX
def yK(B:Nat)(p:KpV)(z:Value)(W:World):Prop:=∃v,z=.agg (p.own v).cells.toArray∧Ow W B 122 11 v En.cells p.es
def vG(B:Nat)(p:KpV)(c:Int)(z:Value)(W:World):Prop:=∃v,z=.tuple #[.agg ((p.own v).at c).cells.toArray,.i 0]∧Ow W B 122 11 v En.cells p.es
theorem yK.stab(B:Nat)(p:KpV):jU 35 (yK B p):=
 ⟨fun _ _ _ ⟨v,e,h⟩ b=>⟨v,e,h.below b⟩,fun _ W a _ cs' ⟨v,e,h⟩ c=>⟨v,e,h.chg_blk c ((Chg.refl (fun i=>i=a) W).setRow (.inr rfl) cs') (by decide)⟩⟩
theorem vG.stab(B:Nat)(p:KpV)(c:Int):jU 35 (vG B p c):=
 ⟨fun _ _ _ ⟨v,e,h⟩ b=>⟨v,e,h.below b⟩,fun _ W a _ cs' ⟨v,e,h⟩ d=>⟨v,e,h.chg_blk d ((Chg.refl (fun i=>i=a) W).setRow (.inr rfl) cs') (by decide)⟩⟩
def Jl(z:Value)(_:World):Prop:=z=.i 0
def FoV(Wa:World)(p:KpV)(c:Int)(X:Nat→Option Value)(W:World):Prop:=
 CAl Wa 35 sY 73 [] (vG Wa.heap.size p c) mE 3 4 5 7 1000 8 X W∧∀z,X 1=some z→yK Wa.heap.size p z W
section
variable {Wa W W':World}{p:KpV}{c:Int}{X:Nat→Option Value}
theorem FoV.on{j:Nat}{u:Value}(h:FoV Wa p c X W)(e:1≠j)(b:Bw' W W')(d:CAl Wa 35 sY 73 [] (vG Wa.heap.size p c) mE 3 4 5 7 1000 8 (aY X j u) W'):FoV Wa p c (aY X j u) W':=
 ⟨d,fun z a=>(yK.stab _ _).grow _ _ _ (h.2 z (by rw[aI e]at a; exact a)) b⟩
theorem FoV.same{j:Nat}{u:Value}(h:FoV Wa p c X W)(b:1≠j)(a:CAl Wa 35 sY 73 [] (vG Wa.heap.size p c) mE 3 4 5 7 1000 8 (aY X j u) W):FoV Wa p c (aY X j u) W:=h.on b (aH _ _) a
end
end
section
attribute [-go_sem] loadCellsFrom storeCells run_eql_struct run_neq_struct
attribute [local go_sem] aX
theorem RcV.fold(p:RcV):List.foldl (fun(a:Array Value)(x:Value×Nat)=>a.setIfInBounds x.snd x.fst) #[.i 0,.i 0,.i 0,.i 0,.string ⟨#[]⟩,.i 0,.i 0,.i 0,.i 0,.i 0,.i 0,.i 0,.i 0,.i 0,.i 0,.i 0,.slice none 0 0] p.cells.zipIdx=p.cells.toArray:=by
 simp[RcV.cells,En.cells]
attribute [local go_sem] RcV.fold oF
theorem Jm:(prog.info? 124).map (fun i=>(i.zero,i.size,i.bytes))=some (some (.agg Jf.cells.toArray),17,160):=by kernel_rfl
theorem Cp{p:RcV}(h:p.ev.oneCell'=true):∀u∈p.cells,u.oneCell'=true:=by
 intro u a;simp only[RcV.cells,En.cells,aT,aS,bD,dF,or_false]at a;rcases a with rfl|rfl|rfl|rfl|rfl|rfl|rfl|rfl|rfl|rfl|rfl|rfl|rfl|rfl|rfl|rfl|rfl<;>first |rfl|exact h
section
variable {w w':World}{base g:Nat}{t:TypeId}{tl:List Value}{p:WkV}{ps:List ObV}
theorem WkO.saved{v':Value}{l':List RcV}(h:WkO w base g t tl p ps)(a:pJ t)(c:Chg (fun i=>p.rv.ownBlock=some i) w w')(l:Ow w' base 124 17 v' RcV.cells l')(k:∀x∈l',Ow w' base 122 11 x.ev En.cells x.es):
  WkO (w'.setCell ⟨g,26,none⟩ v') base g t tl ⟨p.r,l',v',p.ms,p.mv⟩ ps∧Chg (fun i=>i=g∨p.rv.ownBlock=some i) w (w'.setCell ⟨g,26,none⟩ v'):=by
 have b:=h.blk.chg c (h.rs.ne_blk h.blk (by rcases a with rfl|rfl<;>decide));have f:Blk (w'.setCell ⟨g,26,none⟩ v') g t (WkV.cells ⟨p.r,l',v',p.ms,p.mv⟩ tl):=b.setCell 26 v';have m:=h.rep.row h.rs c (by decide);have o:=h.ms.chg_row h.rs c (by decide);have n:=fun x e=>(h.mse x e).chg_row h.rs c (by decide);have d:=(Chg.refl (fun i=>i=g) w').setCell (.inr rfl) 26 v';refine⟨⟨f,h.lo,m.chg b d (by rcases a with rfl|rfl<;>decide),l.chg_blk b d (by rcases a with rfl|rfl<;>decide),fun x e=>(k x e).chg_blk b d (by rcases a with rfl|rfl<;>decide),o.chg_blk b d (by rcases a with rfl|rfl<;>decide),fun x e=>(n x e).chg_blk b d (by rcases a with rfl|rfl<;>decide)⟩,(c.mono fun i _ j=>.inr j).setCell (.inr (.inl rfl)) 26 v'⟩
def RpV.kept(r:RpV)(k:KpV):RpV:=⟨r.id,r.nodes,k,r.commit,r.s,r.timer,r.starts,r.sv,r.votes,r.vv,r.acks,r.av,r.part⟩
theorem WkO.keep{k:KpV}(h:WkO w base g t tl p ps)(d:pJ t)(a:Ow w base 122 11 k.ev En.cells k.es):
  ∃W,Sem.run prog (storeCells ⟨g,2,none⟩ k.cells 0) w=.ok () W∧WkO W base g t tl ⟨p.r.kept k,p.rs,p.rv,p.ms,p.mv⟩ ps∧Chg (fun i=>i=g) w W:=by
 obtain⟨W,e,s,x,c⟩:=h.blk.off 2 k.cells (WkV.cells ⟨p.r.kept k,p.rs,p.rv,p.ms,p.mv⟩ tl) rfl (by simp[WkV.cells,RpV.cells,KpV.cells,StV.cells,HpV.cells,Pt.cells]) (sV a.one);have b:RpO w base (p.r.kept k) ps:=⟨a,h.rep.st,h.rep.starts,h.rep.votes,h.rep.ves,h.rep.acks⟩
 exact⟨W,s,h.put d x c b,c⟩
end
theorem Jn(p:WkV)(tl:List Value):(p.cells tl)[26]? =some p.rv:=rfl
end
section
attribute [-go_sem] loadCellsFrom storeCells run_eql_struct run_neq_struct
attribute [local go_sem] aX
end
section
attribute [-go_sem] loadCellsFrom storeCells run_eql_struct run_neq_struct Instr.build
attribute [local go_sem] aX
theorem Jo(p:KpV)(w:World):(Instr.build 163 #[(0,.agg p.cells.toArray)]).run prog w=.ok (.agg p.cells.toArray) w:=run_build w _ _ _ (by kernel_rfl)
attribute [local go_sem] Jo
end
section
attribute [-go_sem] loadCellsFrom storeCells run_eql_struct run_neq_struct
attribute [local go_sem] aX RcV.fold oF
end
section
attribute [-go_sem] loadCellsFrom storeCells run_eql_struct run_neq_struct
attribute [local go_sem] aX
theorem Xp(w:World):
  Calls prog 35 #[.i 1] w fun e a=>e=.returned (.tuple #[.pointer (some ⟨w.heap.size,0,none⟩),.i 0])∧Blk a w.heap.size 116 [.slice none 0 0,.i 1]∧Bw' w a:=by
 go_enter func35,ntmps35;go_wp2_with fail;go_ret2;exact⟨rfl,Blk.new _ _ [.slice none 0 0,.i 1],ba' _ _⟩
theorem Jp(p:MgV)(B:Nat)(w:World)(h:Sl w B p.ev En.cells p.es)(x:B≤w.heap.size)(E:p.es.length≤1000000):
  Calls prog 39 #[.agg p.cells.toArray] w fun e H=>∃v,e=.returned (.agg (p.own v).cells.toArray)∧Ow H w.heap.size 122 11 v En.cells p.es∧Bw' w H:=by
 obtain⟨O,Y,K,n,L⟩:=par w 75 p.cells;obtain⟨D,Z,I,j,M⟩:=par O 75 z'7;have y:=K.grow j;have F:=y.cell 8;change _=some p.ev at F;have N:=kp (fam'3.2.2.2.2.1 p.ev p.es B D (Sl.below h (n.on j) x) (aB x (n.on j).size) E);have g:=k'5 y I (n.on j) L M;clear K y I n j L M h x E;go_enter func39,ntmps39;go_wp2_with fail;refine (N.o).mono ?_;rintro e s ⟨v,rfl,l,q⟩;have l:Ow s D.heap.size 122 11 v En.cells p.es:=l;obtain⟨d,f,rfl,-⟩:=dO l;have m:=g.a.grow q;have S:=m.cell 8;change _=some p.ev at S;have X:=m.frozen 8;have z:Blk (s.setCell ⟨w.heap.size,8,none⟩ (.slice d p.es.length f)) w.heap.size 75 (p.own (.slice d p.es.length f)).cells:=m.setCell 8 _;have c4:=(Chg.refl (fun i=>i=w.heap.size) s).setCell (.inr rfl) 8 (.slice d p.es.length f);obtain⟨U,Q⟩:∃W,s.setCell ⟨w.heap.size,8,none⟩ (.slice d p.es.length f)=W:=⟨_,rfl⟩
 rw[Q]at z c4;have l4:=z.load (P:=prog) (k:=23) rfl;have A:=(g.b.grow q).chg c4 (by have:=g.o; omega);have G:=l.chg_blk m c4 (by decide);obtain⟨V,a0,s5,J,c5⟩:=A.put (p.own (.slice d p.es.length f)).cells rfl (fD (p:=p.own (.slice d p.es.length f)) rfl);have T:=J.load (P:=prog) (k:=23) rfl;have r:=g.c.on q;have C:=k'2 ((G.chg_blk A c5 (by decide)).mono g.c.size) (r.trans ((c4.below (B:=w.heap.size) (fun i R=>by omega) r.size).trans (c5.below (B:=w.heap.size) (fun i R=>by have:=g.o; omega) (aB r.size c4.size))));clear m z c4 A G J c5 r q l F;go_wp2_with fail;exact bI (v:=.agg (p.own (.slice d p.es.length f)).cells.toArray) (by simp[results,results39,go_sem,T]) rfl ⟨_,rfl,C.a,C.B⟩
end
section
attribute [-go_sem] loadCellsFrom storeCells run_eql_struct run_neq_struct
attribute [local go_sem] aX
theorem Xq{g c:Nat}{A:Option Addr}{m:Int}(w:World)(h:Blk w g 116 [.slice A 1 c,.i m]):
  Calls prog 80 #[.pointer (some ⟨g,0,none⟩),.i 0] w fun e a=>e=.returned (.bool true)∧a=w:=by
 have b:w.cell? ⟨g,0,none⟩=some (.slice A 1 c):=h.cell 0;clear h;go_enter func80,ntmps80;go_wp2_with fail;go_ret;exact⟨rfl,rfl⟩
theorem Xr{g c:Nat}{A:Option Addr}{m:Int}(w:World)(h:Blk w g 116 [.slice A 1 c,.i m]):
  Calls prog 40 #[.pointer (some ⟨g,0,none⟩),.i 0] w fun e b=>e=.returned (.i 0)∧b=w:=by
 have a:=kp (Xq w h);clear h;go_enter func40,ntmps40;go_wp2_with fail;refine (a.o).mono ?_;rintro e d ⟨rfl,rfl⟩;go_wp2_with fail;go_ret;exact⟨rfl,rfl⟩
end
section
attribute [-go_sem] loadCellsFrom storeCells run_eql_struct run_neq_struct
attribute [local go_sem] aX MgV.fold dA
theorem Xs{g a:Nat}(m:MgV)(B:Nat)(w:World)(h:Blk w g 116 [.slice none 0 0,.i 1])(E:Sl w B (.slice (some ⟨a,0,none⟩) 1 1) MgV.cells [m])(G:m.ev.oneCell'=true):
  Calls prog 41 #[.pointer (some ⟨g,0,none⟩),.slice (some ⟨a,0,none⟩) 1 1] w fun e y=>e=.returned (.tuple #[])∧∃v,Blk y g 116 [v,.i 1]∧Ow y w.heap.size 75 23 v MgV.cells [m]∧Chg (fun i=>i=g) w y:=by
 have P:w.cell? ⟨g,0,none⟩=some (.slice none 0 0):=h.cell 0;have n:=k'3 h E G;clear h E G;go_enter func41,ntmps41;go_wp2_with (at_builtin; refine jD (enc:=MgV.cells) w rfl (.tmp 8) (.tmp 9) 58 rfl w.heap.size 75 sW rZ rfl (by omega) dA (Ow.nil _ _ _ _ _) rfl n.b rfl (fun x L=>by rw[bZ.1 L]; exact fD n.C) ?_ ?_ (aN _) ?_)
 .unfold maxLen; show 0+1≤_; decide
 .show (0+1)*208≤_; decide
 intro v z r _ F K;obtain⟨b,c,rfl,-,-,J,-⟩:=r.at_ dA (by decide) (by show 0<1; decide);have q:=(Ow.nil w w.heap.size 75 23 MgV.cells).grew F (aN _);have d:=n.a.grow q;have M:z.cell? ⟨g,0,none⟩=some (.slice none 0 0):=d.cell 0;have I:=d.frozen 0;have f:=d.setCell 0 (.slice (some ⟨b,0,none⟩) 1 c);have c3:=(Chg.refl (fun i=>i=g) z).setCell (.inr rfl) 0 (.slice (some ⟨b,0,none⟩) 1 c);have s:=r.chg_blk d c3 (by decide);obtain⟨A,D⟩:∃W,z.setCell ⟨g,0,none⟩ (.slice (some ⟨b,0,none⟩) 1 c)=W:=⟨_,rfl⟩
 rw[D]at f c3 s;have o:=k'3 f s ((Chg.of_below (S:=fun i=>i=g) q).trans c3 fun _ _ h=>h);have N:=bG (show A.cell? ⟨g,0,none⟩=some (.slice (some ⟨b,0,none⟩) 1 c) from f.cell 0);have O:=bG (show A.cell? ⟨g,1,none⟩=some (.i 1) from f.cell 1);have R:1≤c:=J;clear d f c3 r s q F K;go_wp2_with fail;clear M I P D;refine mO 19 (by kernel_rfl) (by kernel_rfl) ?_;simp only[lV,kB,bS,bU]
 repeat (go_big_quiet_step (fail))
 refine cI ?_;rintro p ⟨⟨_,k⟩,rfl⟩;have j:=o.a.grow k;have T:p.cell? ⟨g,0,none⟩=some (.slice (some ⟨b,0,none⟩) 1 c):=j.cell 0;have Q:=j.frozen 0;have H:Blk (p.setCell ⟨g,0,none⟩ (.slice (some ⟨b,0,none⟩) 1 c)) g 116 [.slice (some ⟨b,0,none⟩) 1 c,.i 1]:=j.setCell 0 _;have c5:=(Chg.refl (fun i=>i=g) p).setCell (.inr rfl) 0 (.slice (some ⟨b,0,none⟩) 1 c);have l:=k'3 H ((o.b.below k).chg_blk j c5 (by decide)) ((o.C.trans (Chg.of_below (S:=fun i=>i=g) k) fun _ _ h=>h).trans c5 fun _ _ h=>h);clear j H c5 k N O;go_wp2_with fail;go_end0;exact⟨rfl,_,l.a,l.b,l.C⟩
end
section
attribute [-go_sem] loadCellsFrom storeCells run_eql_struct run_neq_struct
attribute [local go_sem] aX MgV.fold dA
def Cq(w:World)(g:Nat)(m:MgV)(W:World):Prop:=∃ev v,Blk W g 116 [v,.i 1]∧Ow W w.heap.size 75 23 v MgV.cells [m.own ev]∧Ow W w.heap.size 122 11 ev En.cells m.es∧Chg (fun i=>i=g) w W
def MgO(B:Nat)(m:MgV)(u:Value)(W:World):Prop:=∃ev,u=.agg (m.own ev).cells.toArray∧Ow W B 122 11 ev En.cells m.es
def MgL(B:Nat)(m:MgV)(u:Value)(W:World):Prop:=∃a ev,u=.slice (some ⟨a,0,none⟩) 1 1∧a<W.heap.size∧Sl W (a+1) u MgV.cells [m.own ev]∧Ow W B 122 11 ev En.cells m.es
theorem Xt{g a:Nat}(m:MgV)(B:Nat)(w:World)(h:Blk w g 116 [.slice none 0 0,.i 1])(O:Sl w B (.slice (some ⟨a,0,none⟩) 1 1) MgV.cells [m])(N:B≤w.heap.size)(R:Sl w B m.ev En.cells m.es)(V:m.es.length≤1000000)(T:m.kind≠0):
  Calls prog 24 #[.pointer (some ⟨g,0,none⟩),.slice (some ⟨a,0,none⟩) 1 1] w fun e w'=>e=.returned (.i 0)∧Cq w g m w':=by
 have l:=k'5 h O N R V;have j0:=T;clear h O N R V;go_enter func24,ntmps24;go_wp2_with fail
 go_loopw [11] (fun i wr=>(i=.i 0∧Bw' w wr)∨(i=.i 1∧Cq w g m wr)) (fun i _=>1-(intOf i).toNat)
 case atStart=>exact .inl ⟨rfl,aH _ _⟩
 case round=>
  rcases hrel with⟨rfl,G⟩|⟨rfl,Z⟩
  .obtain⟨A,cc,K,e0,-,-⟩:=l.b.below G l.c
   cases K;obtain⟨b,o0,K,-,-,U⟩:=iS (P:=prog) 23 MgV.cells dA (by decide) e0 0 (by show 0<1; decide)
   cases K;have l0:Sem.run prog (loadCellsFrom ⟨a,0,none⟩ 0 23 #[]) wr=.ok m.cells.toArray wr:=U 0;obtain⟨j,b0,s2,L,M,-⟩:=eJ wr 75 z'7 m.cells rfl (fD l.d.one);have D:=k'2 L (G.on M);have k0:=L.cell 0;change _=some (Value.i m.kind)at k0;clear U L M G;go_wp2_with fail;rw[show (m.kind != 0)=true by simp[T]];clear l0 s2 b0;have p:=k'2 (D.B.on (bL (aH j.heap.size j))) (D.a.below (bL (aH j.heap.size j)) D.a.lt);have HO:=kp (fun(W:World)(b:Below j.drew.heap.size j.drew W)=>Jp m B W (Sl.below l.d (p.a.on b) l.c) (aB l.c (p.a.on b).size) l.E);refine fM 6 (fun W'=>Below j.drew.heap.size j.drew W') (fun _=>jK) (by kernel_rfl) (by kernel_rfl) (aH _ _) ?_
   iterate 4 (refine bE ?_; apply Exists.intro)
   refine bJ (MgO j.drew.heap.size m) ?_;refine bJ (MgL j.drew.heap.size m) ?_;refine cC ⟨?pers,?walk⟩
   case walk=>
    iterate 4
     apply bB (by kernel_rfl) (by intro t w h; cases h; exact trivial) rfl
     .intro W' f n; have q1:=(p.B.grow f).load (P:=prog) (k:=23) rfl; go_wp2_with fail;exact⟨rfl,_,rfl,f,aH _ _,rfl⟩
     simp only[Act.put,aE,aC,aD]
    refine⟨fun W' f n=>?_,fun u4=>?_⟩
    .go_wp2_with fail;refine (HO.o W' f).mono ?_;rintro e w2 ⟨v2,rfl,d0,Q⟩;go_wp2_with fail;exact⟨rfl,.agg (m.own v2).cells.toArray,rfl,f.on Q,Q,⟨v2,rfl,Ow.mono d0 f.size⟩⟩
    simp only[Act.put,aE,aC,aD];refine⟨fun W' f n=>?_,fun u5=>?_⟩
    .have f4:=n 22 (bO (by kernel_rfl));obtain⟨ev,rfl,I⟩:=f4;go_wp2_with fail;have z:=gG (enc:=MgV.cells) W' 75 (m.own ev);have x:=ba' W' (.cells (m.own ev).cells.toArray 75);have r:W'.heap.size<(W'.alloc (.cells (m.own ev).cells.toArray 75)).heap.size:=by simp
     have X:=I.below x;generalize W'.alloc (.cells (m.own ev).cells.toArray 75)=W5 at z x r X ⊢;exact⟨rfl,.slice (some ⟨W'.heap.size,0,none⟩) 1 1,rfl,f.on x,x,⟨W'.heap.size,ev,rfl,r,z,X⟩⟩
    simp only[Act.put,aE,aC,aD];intro W9 f n;have f5:=n 23;obtain⟨F,ev,rfl,m0,a0,J⟩:=f5;clear n;simp only[bS,bU];have y:=p.a.on f;have HA:=kp (Xs (m.own ev) (F+1) W9 (l.a.grow y) a0 J.one);have s:=k'3 J y (l.a.grow y);clear a0 J y f;go_wp2_with fail;refine (HA.o).mono ?_;rintro e g0 ⟨rfl,v,hx,Y,H⟩;have HZ:=kp (show Cq w g m g0 from⟨ev,v,hx,Y.mono s.b.size,(s.a.chg_blk s.C H (by decide)).mono p.a.size,(Chg.of_below (S:=fun i=>i=g) s.b).trans H fun _ _ h=>h⟩);clear hx Y H;go_wp2_with fail;go_roundw
    case rel=>exact .inr ⟨by go_num,HZ.o⟩
    case measure=>simp[intOf]
   case pers=>
    exact⟨pv',pv',pv',pv',fun _ _ _ _ _ ⟨ev,e,h⟩ q=>⟨ev,e,h.below q⟩,fun _ _ _ _ _ ⟨F,ev,e,r,z,I⟩ q=>⟨F,ev,e,cY r q.size,Sl.below z q r,I.below q⟩,trivial⟩
  .have HQ:=kp Z;clear Z;go_wp2_with fail;go_ret;exact⟨rfl,HQ.o⟩
end
section
attribute [-go_sem] loadCellsFrom storeCells
attribute [local go_sem] aX dA
def iW:List Value:=z'7
theorem Jq(w:World)(g b c:Nat)(a:Array Value)(k:TypeId)(h:w.heap[g]? =some (.cells a 75 (0,0)))(f:b+23≤a.size):
  Sem.run prog (Builtin.clear_ #[58] k #[.slice (some ⟨g,b,none⟩) 1 c]) w=.ok (.tuple #[]) (w.setRow g (a.toList.take b++iW++a.toList.drop (b+iW.length)).toArray):=by
 have i:(underlying 58).run prog w=.ok (.slice 75) w:=by simp[run_underlying rZ]
 have j:(zeroValue 75).run prog w=.ok (.agg iW.toArray) w:=by simp[iW]
 have d:=run_storeCells_at prog g b 75 iW 0 a w h (by simpa [iW] using f) (by simp[iW,Value.oneCell']);simp only[dW]at d;have e:(Builtin.zeroCells (Value.agg iW.toArray).cells 1).toList=iW:=by kernel_rfl
 unfold Builtin.clear_;simp only[Sem.run_bind,i,Result.andThen_ok,Mj,aP,j,e,d,Sem.run_pure]
theorem Jr{S:Nat→Prop}{v:Value}{l:List MgV}(i j:Nat)(w:World)(h:OR w S 75 23 v MgV.cells l)(m0:∀u∈aO MgV.cells l,u.oneCell'=true)(V:i<l.length)(K:j=i+1):
  Calls prog 42 #[v,.i i,.i j] w fun e w'=>∃v',e=.returned v'∧OR w' S 75 23 v' MgV.cells (l.eraseIdx i)∧Chg (fun k=>some k=v.ownBlock) w w'∧v'.ownBlock=v.ownBlock:=by
 unfold OR at *;obtain⟨g,m,cap,p,rfl,hs,hg,W,hm,q0,N⟩:=h.form (by omega);obtain⟨n,M⟩:=nm' l.length;rw[M]at V W N h ⊢;have H:=k'7 h hs hg q0 N m0 M;have HJ:=kp K;have P:=kp (show (l.eraseIdx i).length=n-1 by rw[Mr,M,aK V]);clear h hs hg q0 N m0 M;have a1:((i:Int)==(j:Int))=false:=by simp; omega
 have a2:(j:Int)≤(n:Int):=by omega
 have a3:(n:Int)≤(cap:Int):=by omega
 have a4:(i:Int)≤(cap:Int):=by omega
 have a5:(i:Int)≤(j:Int):=by omega
 obtain⟨i0,j0,d2,y0,g2⟩:=info_parts sW;obtain⟨r,O⟩:=nm' w.drew;have g0:r.heap[g]? =some (.cells p 75 (0,0)):=by rw[←O]; exact H.c
 have Z:Chg (fun k=>some k=(Value.slice (some ⟨g,m,none⟩) n cap).ownBlock) w r:=by rw[←O]; exact (Chg.refl _ _).drew
 have o0:Rd r r.heap.size (some ⟨g,m,none⟩) (aO MgV.cells l):=by rw[←O]; exact H.a.rd
 have B:=k'3 g0 Z o0; clear g0 Z o0;have X:=kp O; clear O;have d0:∀(F zs:List Value)(s:World)(q:Array Value),(aO MgV.cells l).drop (j*23)=F→q=(p.toList.take (m+i*23)++F++p.toList.drop (m+i*23+F.length)).toArray→zs.length=23→s=(r.setRow g q)→
   m+(n-1)*23+zs.length≤q.size∧aM (s.setRow g (q.toList.take (m+(n-1)*23)++zs++q.toList.drop (m+(n-1)*23+zs.length)).toArray) S 75 23 (.slice (some ⟨g,m,none⟩) (n-1) cap) (n-1) (aO MgV.cells (l.eraseIdx i))∧
    Chg (fun k=>some k=(Value.slice (some ⟨g,m,none⟩) n cap).ownBlock) w (s.setRow g (q.toList.take (m+(n-1)*23)++zs++q.toList.drop (m+(n-1)*23+zs.length)).toArray):=by
  intro F zs s q l0 x j2 y;subst y;have M:F.length=(n-j)*23:=by rw[←l0,dM,cW 23 dA,H.G,gT]
  have b0:cap*23≤p.size-m:=by have:=H.d; omega
  have q1:n*23≤cap*23:=eL _ W;have o1:i*23+23≤n*23:=by have:=eL 23 V; omega
  have p1:j*23=i*23+23:=by rw[K]; omega
  have y1:(n-j)*23=n*23-j*23:=gT ..;have L:(n-1)*23=n*23-23:=by rw[gT]
  have z1:q.size=p.size:=by
   rw[x];simp only[fF,bF,cL,dM,gK];omega
  have D:=setRow_heap r g p q 75 (0,0) B.a;refine⟨by omega,⟨?_,.inr ⟨g,m,cap,_,rfl,H.b,setRow_heap _ g q _ _ (0,0) D,by omega,hm,?_,?_⟩⟩,?_⟩
  .rw[cW 23 dA,P.o]
  .simp only[fF,bF,cL,dM,gK];omega
  .rw[←Bi 23 dA];simp only[cH];rw[nG (by simp; omega),rG (by simp; omega),nP,show m+(n-1)*23-m=(n-1)*23 by omega,kC,Nat.min_self];rw[x];simp only[cH];rw[nG (by simp; omega),pR,nP,show m+i*23-m=i*23 by omega,cL,dM,gK,
    show min (i*23) (p.size-m)=i*23 by omega,kC,show min ((n-1)*23) (i*23)=i*23 by omega]
   rw[pR,show (n-1)*23-i*23=F.length by omega,Mm,tO,kB,fG,←l0,K]
   congr 1
   have N:=H.e;rw[←N,kC]
   congr 1
   omega
  .exact (B.b.setRow (.inr (by simp[Value.ownBlock])) _).setRow (.inr (by simp[Value.ownBlock])) _
 have T:=kp d0; clear d0;have a0:∀t u,(aO MgV.cells l)[t]? =some u→r.cell? ⟨g,m+t,none⟩=some u:=by
  intro t u A;rcases B.C with h|⟨b',l2,e,_,hc⟩
  .rw[h]at A; cases A
  .cases e;exact hc t u A
 have z0:=kp a0; clear a0;obtain⟨E,L⟩:=nm' (n-1);rw[L]at T P;have b1:(E:Int)≤(n:Int):=by omega
 have b2:n-E=1:=by omega
 have b3:¬cap=E:=by omega
 have l1:=kp b2;have U:=kp (show (aO MgV.cells l).length=n*23 by rw[cW 23 dA,H.G]);have m1:=k'2 L b3
 by_cases j1:cap=j
 .subst j1;obtain rfl:n=cap:=by omega
  have Y:i=E:=by omega
  have E0:=kp Y;have R:=kp (show (aO MgV.cells l).drop (n*23)=[] from kA (by rw[U.o]; exact aN _));have Q:m+i*23+0≤p.size:=by have:=H.d; omega
  clear K L Y;go_enter func42,ntmps42;go_wp2_with fail
  go_still_tail 6,(by kernel_rfl)
  change wpList _ _ _ _ _ w.drew;rw[X.o];refine sQ r rfl (.tmp 22) (.tmp 25) _ rfl 75 i0 23 rZ j0 y0 g m i n p B.a rfl ⟨g,m,none⟩ 0 0 [] rfl rfl (by intro j u h; cases h) (by intro u h; cases h) (by omega) Q ?_;obtain⟨s,y⟩:=nm' (r.setRow g (p.toList.take (m+i*23)++[]++p.toList.drop (m+i*23+([]:List Value).length)).toArray);rw[y,dW,E0.o];have J:=kp y; clear y;obtain⟨q,x⟩:=nm' ((p.toList.take (m+i*23)++[]++p.toList.drop (m+i*23+([]:List Value).length)).toArray);have z:=T.o [] iW s q R.o x.symm rfl (by rw[←J.o,x]);have D:s.heap[g]? =some (.cells q 75 (0,0)):=by rw[←J.o,x]; exact setRow_heap r g p _ _ _ B.a
  have b0:=fun c=>Jq s g (m+E*23) c q 0 D z.1;simp only[cH]at z;have I:=kp z;clear z D x;go_wp2_with fail;go_ret;refine⟨_,rfl,?_,I.C,rfl⟩;rw[P.o];exact I.b
 .have g1:=kp (show i+(n-j)=E by omega);have Q:m+i*23+((aO MgV.cells l).drop (j*23)).length≤p.size:=by
   rw[dM,U.o];have:=H.d;have h1:n*23≤cap*23:=eL _ W;have h2:i*23≤j*23:=eL _ (by omega);have h3:j*23≤n*23:=eL _ (by omega);omega
  have p0:i+(n-j)≤cap:=by omega
  have R:=kp (show ((aO MgV.cells l).drop (j*23)).length=(n-j)*23 by rw[dM,U.o,gT]);have d1:=kp (show ∀u∈(aO MgV.cells l).drop (j*23),u.oneCell'=true from fun u A=>H.f u (vW A));clear K L;go_enter func42,ntmps42;go_wp2_with fail
  go_still_tail 6,(by kernel_rfl)
  change wpList _ _ _ _ _ w.drew;rw[X.o];refine sQ r rfl (.tmp 22) (.tmp 25) _ rfl 75 i0 23 rZ j0 y0 g m i cap p B.a rfl ⟨g,m+j*23,none⟩ (n-j) (cap-j) ((aO MgV.cells l).drop (j*23)) rfl R.o ?_ d1.o p0 Q ?_
  .intro t u A;rw[Addr.add_lit,lW];exact z0.o _ u (by rw[lG]at A; exact A)
  obtain⟨s,y⟩:=nm' (r.setRow g (p.toList.take (m+i*23)++(aO MgV.cells l).drop (j*23)++p.toList.drop (m+i*23+((aO MgV.cells l).drop (j*23)).length)).toArray);rw[y,g1.o];have J:=kp y; clear y;obtain⟨q,x⟩:=nm' ((p.toList.take (m+i*23)++(aO MgV.cells l).drop (j*23)++p.toList.drop (m+i*23+((aO MgV.cells l).drop (j*23)).length)).toArray);have z:=T.o _ iW s q rfl x.symm rfl (by rw[←J.o,x]);have D:s.heap[g]? =some (.cells q 75 (0,0)):=by rw[←J.o,x]; exact setRow_heap r g p _ _ _ B.a
  have b0:=fun c=>Jq s g (m+E*23) c q 0 D z.1;simp only[cH]at z;have I:=kp z;clear z D x Q p0;go_wp2_with fail;go_ret;refine⟨_,rfl,?_,I.C,rfl⟩;rw[P.o];exact I.b
end
section
attribute [-go_sem] loadCellsFrom storeCells run_eql_struct run_neq_struct
attribute [local go_sem] aX MgV.fold dA
theorem Xu{g B:Nat}{v:Value}(m:MgV)(w:World)(h:Blk w g 116 [v,.i 1])(s:Ow w B 75 23 v MgV.cells [m])(D:m.ev.oneCell'=true):
  Calls prog 18 #[.pointer (some ⟨g,0,none⟩),.i 0] w fun e w'=>e=.returned (.tuple #[.agg m.cells.toArray,.i 0])∧Chg (fun k=>k=g∨v.ownBlock=some k) w w':=by
 obtain⟨b,c,rfl,-,-,Q,-⟩:=s.at_ dA (by decide) (by show 0<1; decide);obtain⟨n,j0,z0,r,Y⟩:=par w 75 z'7;have C:=h.grow r;have G:=s.below r;have a0:=kp (Xr n C);have q0:n.cell? ⟨g,0,none⟩=some (.slice (some ⟨b,0,none⟩) 1 c):=C.cell 0;obtain⟨A,cc,F,V,-,-⟩:=G.sl dA
 cases F;obtain⟨_,_,F,-,-,T⟩:=iS (P:=prog) 23 MgV.cells dA (by decide) V 0 (by show 0<1; decide)
 cases F;have l0:Sem.run prog (loadCellsFrom ⟨b,0,none⟩ 0 23 #[]) n=.ok m.cells.toArray n:=T 0;obtain⟨O,m0,s1,Z,p,-⟩:=eJ n 75 z'7 m.cells rfl (fD D);have K:=C.grow p;have z1:=z0.grow p;have H:=G.below p;have q1:O.cell? ⟨g,0,none⟩=some (.slice (some ⟨b,0,none⟩) 1 c):=K.cell 0;have R:=Jr (S:=fun _=>True) (l:=[m]) 0 1 O (aM.of_own H fun _ _ _=>trivial) (fun u y=>by rw[show aO MgV.cells [m]=m.cells++[] from rfl,fG]at y; exact fD D u y) (by show 0<1; decide) rfl;have HD:=kp R;have HM:=kp (fD D);have j:=k'9 Z K z1 H r p Y h.lt s;have hc:1≤c:=Q;clear C G z0 r V T Z K z1 H p R h s Y Q;go_enter func18,ntmps18;go_wp2_with fail;refine ms' (a0.o) ?_;go_wp2_with fail;refine (HD.o).mono ?_;rintro e z ⟨v2,rfl,x,q,-⟩;have x:OR z (fun _=>True) 75 23 v2 MgV.cells []:=x;obtain⟨N,c2,rfl,-⟩:∃A k,v2=.slice A 0 k∧_:=aM.slice x;have U:(Value.slice (some ⟨b,0,none⟩) 1 c).ownBlock≠some g:=j.d.ne_blk j.b (by decide);have e0:b<w.heap.size:=(j.I.lt rfl).2;have g0:=j.h;have X:=j.g;have E:∀k,w.heap.size≤k→¬some k=(Value.slice (some ⟨b,0,none⟩) 1 c).ownBlock:=fun k hk e=>by
  have e:some k=some b:=e
  cases e;omega
 have L:=j.b.chg q fun e=>U e.symm;have x2:=j.a.chg q (E _ (dK X));have z2:=j.c.chg q (E _ (aN _));have k2:z.cell? ⟨g,0,none⟩=some (.slice (some ⟨b,0,none⟩) 1 c):=L.cell 0;have f2:=L.frozen 0;have c3:=(Chg.refl (fun i=>i=g) z).setCell (.inr rfl) 0 (.slice N 0 c2);have J:=x2.chg c3 (by omega);have M:=z2.chg c3 (by omega);obtain⟨W3,d0⟩:∃W,z.setCell ⟨g,0,none⟩ (.slice N 0 c2)=W:=⟨_,rfl⟩
 rw[d0]at c3 J M;have l3:=J.load (P:=prog) (k:=23) rfl;obtain⟨W4,p0,s4,x4,c4⟩:=M.put m.cells rfl (fun u y=>HM.o u y);have l4:=x4.load (P:=prog) (k:=23) rfl;have HF:=kp (show Chg (fun k=>k=g∨(Value.slice (some ⟨b,0,none⟩) 1 c).ownBlock=some k) w W4 from
  ((((Chg.of_below j.e).trans (Chg.of_below (S:=fun _=>False) j.f) fun _ _ h=>h.elim).trans q fun i _ h=>.inr h.symm).trans c3 fun i _ h=>.inl h).trans c4 fun i hi h=>by omega)
 clear L x2 z2 J M x4 c3 c4 q x E U e0 g0 X q1;go_wp2_with fail;exact bI (v:=.tuple #[.agg m.cells.toArray,.i 0]) (by simp[results,results18,go_sem,l4]) rfl ⟨rfl,HF.o⟩
end
end Go.Proofs.YtoncgpddjmgbfaaGreat
