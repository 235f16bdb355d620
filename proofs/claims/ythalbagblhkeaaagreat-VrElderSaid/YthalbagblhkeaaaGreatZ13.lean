import Derived.Test.YthalbagblhkeaaaGreatZ12
namespace Go.Proofs.YthalbagblhkeaaaGreat
open Go.RowKit Go.Proofs.Tryz
set_option maxRecDepth 100000
set_option maxHeartbeats 12800000
set_option linter.unusedVariables false
set_option linter.unusedSimpArgs false
section
attribute [-go_sem] loadCellsFrom storeCells
attribute [local go_sem] bC
def bZ(w:World)(r:Nat)(a b:Int):Prop:=Blk w r 46 [.i a,.i b]
section
variable {w w':World}{r:Nat}{a b:Int}
theorem bZ.new(w:World):bZ (w.alloc (.cells #[.i 0,.i 0] 46)) w.heap.size 0 0:=Blk.new w _ [.i 0,.i 0]
theorem bZ.store(h:bZ w r a b)(c d:Int):Sem.run prog (storeCells ⟨r,0,none⟩ [.i c,.i d] 0) w=.ok () (w.setRow r #[.i c,.i d]):=Blk.store (P:=prog) (cs':=[.i c,.i d]) h rfl (by
 intro u e;simp only[bA,dW,or_false]at e;rcases e with rfl|rfl<;>rfl)
theorem bZ.set(h:bZ w r a b)(c d:Int):bZ (w.setRow r #[.i c,.i d]) r c d:=Blk.set h [.i c,.i d]
theorem bZ.load(h:bZ w r a b):Sem.run prog (loadCellsFrom ⟨r,0,none⟩ 0 2 #[]) w=.ok #[.i a,.i b] w:=Blk.load (P:=prog) h rfl
theorem bZ.below(h:bZ w r a b)(c:Bw' w w'):bZ w' r a b:=Blk.below h c (Blk.lt h)
end
theorem mR(c:Int)(w:World):Calls prog 152 #[.i c] w fun e w'=>e=.returned (.agg #[.i c,.i 0])∧Bw' w w':=Uh c w
theorem Jl{p:HpV}{ps:List ObV}{g b j:Nat}{D:TypeId}{m:List Value}(t:Int)(w:World)(I:cI w g 208 p)(K:Sl w w.heap.size p.ov ObV.cells ps)(R:ps.length≤1000)(M:iL (fun p:ObV=>p.x.h) ps)(z:Blk w b D m)(L:j<m.length):
  Calls prog 211 #[.pointer (some ⟨g,0,none⟩),.pointer (some ⟨b,j,none⟩),.i t] w fun e w'=>e=.returned (.agg #[.i (if dS (ps.map (·.x)) t=true then 0 else 51),.i 0])∧Chg (fun i=>i=b) w w'∧Blk w' b D (if dS (ps.map (·.x)) t=true then m.set j (.i t) else m):=by
 have N:=bZ.new w;have f:=ba' w (.cells #[.i 0,.i 0] 46);have J:=I.below f;have T:=J.c1;have l:=kp (Id p.ov ps t w.heap.size _ (K.below f (aD _)) f.size (by omega) M);have k:=kp (z.below f z.lt);have q:=kp z.lt;have F:=kp L;have B:=kp f;have C:=kp N
 cases hr:dS (ps.map (·.x)) t
 .rw[hr]at l;go_enter func211,ntmps211;go_wp2_with fail;refine mb' (l.o) fun P a=>?_;have s:=kp (C.o.below a);have c:=kp (k.o.below a k.o.lt);have n:=kp (B.o.on a);go_wp2_with fail;refine mb' (mR 51 _) fun U A=>?_;have d:=kp (s.o.below A);have G:=kp (c.o.below A c.o.lt);have E:=kp (n.o.on A);have H:=d.o.store 51 0;go_wp2_with fail;have r:=d.o.set 51 0;have y:=r.load;exact aU (v:=.agg #[.i 51,.i 0]) (by simp[results,results211,go_sem,y]) rfl ⟨by simp,(Chg.of_below E.o).setRow (.inl (aD _)) _,G.o.other (by have:=q.o; omega) _⟩
 .rw[hr]at l;go_enter func211,ntmps211;go_wp2_with fail;refine mb' (l.o) fun P a=>?_;have s:=kp (C.o.below a);have c:=kp (k.o.below a k.o.lt);have n:=kp (B.o.on a);have O:=c.o.cell j;have Q:=c.o.frozen j;rw[eK F.o]at O;have d:=kp (Blk.otherCell s.o (g':=b) (by have:=q.o; omega) j (.i t));have H:=bZ.store d.o 0 0;go_wp2_with fail;have r:=bZ.set d.o 0 0;have y:=r.load;exact aU (v:=.agg #[.i 0,.i 0]) (by simp[results,results211,go_sem,y]) rfl ⟨by simp,((Chg.of_below (S:=fun i=>i=b) n.o).setCell (.inr rfl) _ _).setRow (.inl (aD _)) _,(c.o.setCell j _).other (by have:=q.o; omega) _⟩
theorem Dc(t:Int)(l:List Int)(k:Nat)(a:k<l.length):eH t (l.take (k+1))=eH t (l.take k)++[if l[k]=t then 0 else l[k]]:=by
 unfold eH;rw[cV a,gC]; rfl
theorem Jm{y:ObV}{s b a c:Nat}{r:TypeId}{pre post:List Value}{xs:List Int}(w:World)(P:gJ w s 152 y)(I:Blk w b r (pre++iv xs++post))(O:pre.length=a)(N:s≠b)(K:xs.length≤c)(M:xs.length≤1000000):
  Calls prog 286 (#[.slice (some ⟨b,a,none⟩) xs.length c]++#[.pointer (some ⟨s,0,none⟩)]) w fun e w'=>e=.returned (.tuple #[])∧Chg (fun i=>i=b) w w'∧Blk w' b r (pre++iv (eH y.x.h xs)++post):=by
 show Calls _ _ #[.slice (some ⟨b,a,none⟩) xs.length c,.pointer (some ⟨s,0,none⟩)] _ _;obtain⟨n,E⟩:=nm' xs.length;rw[E]at K M ⊢;have m:=kp E;have F:=kp I;have G:=kp P;have f:=kp O;go_enter func286,ntmps286;go_wp2_with fail
 go_loopw [7] (fun i wr=>∃k:Nat,i=.i k∧k≤n∧Blk wr b r (pre++iv (eH y.x.h (xs.take k)++xs.drop k)++post)∧Chg (fun i=>i=b) w wr) (fun i _=>n-(intOf i).toNat)
 case atStart=>exact⟨0,rfl,by omega,F.o,Chg.refl _ _⟩
 case round=>
  obtain⟨k,rfl,U,J,D⟩:=hrel;have d:=kp J;have l:=kp D;have Q:=gJ.of (G.o.blk.chg D N);have W:=Q.c0
  by_cases V:k<n
  .have q:k<xs.length:=by have:=m.o; omega
   have T:(k:Int)<n:=by omega
   have g:(eH y.x.h (xs.take k)).length=k:=by unfold eH; rw[cW,cZ]; omega
   have L:(pre++iv (eH y.x.h (xs.take k)++xs.drop k)++post)[a+k]? =some (.i xs[k]):=by
    rw[cR,Er (by have:=f.o; omega),f.o,lS (by rw[fM,bB,dX,g]; omega),Es,lU _ _ (by rw[bB,dX,g]; omega)];simp[g]
   have R:=d.o.cell (a+k);have S:=d.o.frozen (a+k);rw[L]at R;have C:=kp (Dc y.x.h xs k q);have A:=kp (show xs.drop k=xs[k]::xs.drop (k+1) from fG q);have B:=kp g;generalize xs[k]'q=z at *
   by_cases j:z=y.x.h
   .have H:(z==y.x.h)=true:=by simp[j]
    have p:=kp j;go_wp2_with fail;go_roundw
    case rel=>
     refine⟨k+1,by go_num,by omega,?_,l.o.setCell (.inr rfl) _ _⟩;have:=d.o.setCell (a+k) (.i 0);rw[cR,qM _ _ (by have:=f.o; omega),f.o,Es,A.o,oI,cR,qM _ _ (by rw[fM,B.o]; exact aD _),fM,B.o,qS]at this;rw[C.o,aE p.o,oI,oI];simpa [iv] using this
    case measure=>simp[intOf]; omega
   .have H:(z==y.x.h)=false:=by simp[j]
    have p:=kp j;go_wp2_with fail;go_roundw
    case rel=>
     refine⟨k+1,by go_num,by omega,?_,l.o⟩;have:=d.o;rw[A.o]at this;rw[C.o,aC p.o];simpa [iv] using this
    case measure=>simp[intOf]; omega
  .obtain rfl:k=n:=by omega
   go_wp2_with fail;go_end0;refine⟨rfl,l.o,?_⟩;have:=d.o;rw[cN (by have:=m.o; omega),gS (by have:=m.o; omega),fS]at this;exact this
end
section
theorem Blk.ne{w:World}{b c:Nat}{t d:TypeId}{f cs':List Value}(h:Blk w b t f)(a:Blk w c d cs')(g:t≠d):b≠c:=fun e=>by
 subst e;unfold Blk at h a;rw[h]at a;injection a with a
 injection a with _ a
 exact g a
theorem Uk{α β:Type}(f:α→List β){l m:List α}(h:l.Sublist m):(l.flatMap f).Sublist (m.flatMap f):=by
 induction h with
 |slnil=>exact List.Sublist.refl _
 |cons a _ b=>rw[nC]; exact List.sublist_append_of_sublist_right b
 |cons_cons a _ b=>rw[nC,nC]; exact List.Sublist.append (List.Sublist.refl _) b
section
variable {w w':World}{base g:Nat}{t:TypeId}{p:HpV}{ps:List ObV}{v:Value}{l:List Int}
theorem Ow.blk(h:Ow w base t 1 v i1 l)(p:0<l.length):∃b c post,v=.slice (some ⟨b,0,none⟩) l.length c∧l.length≤c∧base≤b∧Blk w b t (iv l++post)∧∀w' l',l'.length=l.length→Blk w' b t (iv l'++post)→Ow w' base t 1 v i1 l':=by
 rcases h.2 with⟨_,e⟩|⟨b,c,a,i,d,k,o,n,q,g⟩
 .omega
 .rw[pK,oF]at g;have f:a.toList=iv l++a.toList.drop l.length:=by rw[←g]; exact (wB _ _).symm
  refine⟨b,c,a.toList.drop l.length,i,o,d,?_,fun w' l' m j=>?_⟩
  .unfold Blk;rw[←f];simpa using k
  .refine⟨by rw[pK,fM]; omega,.inr ⟨b,c,(iv l'++a.toList.drop l.length).toArray,by rw[m]; exact i,d,j,by omega,n,?_,?_⟩⟩
   .have:=bG List.length f;simp only[bB,fM,gT,hP]at this ⊢;omega
   .rw[pK,oF,←fM l'];exact List.take_left
theorem Rws.at_(h:Rws w base ps){i k:Nat}(a:i<ps.length)(b:k<ps.length)(f:i≠k):Apt ps[i].wv ps[k].wv∧Apt ps[i].wv ps[k].lv∧Apt ps[i].lv ps[k].wv∧Apt ps[i].lv ps[k].lv:=by
 have c:=(List.pairwise_flatMap.1 h.sep).2;rcases mJ i k with d|e
 .have:=List.pairwise_iff_getElem.1 c i k a b d;simp only[bA,dW,or_false,forall_eq_or_imp,forall_eq]at this;exact⟨this.1.1,this.1.2,this.2.1,this.2.2⟩
 .have:=List.pairwise_iff_getElem.1 c k i b a (by omega);simp only[bA,dW,or_false,forall_eq_or_imp,forall_eq]at this;exact⟨this.1.1.symm,this.2.1.symm,this.1.2.symm,this.2.2.symm⟩
theorem Rws.self(h:Rws w base ps){k:Nat}(a:k<ps.length):Apt ps[k].wv ps[k].lv:=by
 have b:=(List.pairwise_flatMap.1 h.sep).1 _ (bK a);simpa using b
theorem Rws.upd(h:Rws w base ps){k:Nat}(g:k<ps.length){v:Value}(m:v=ps[k].wv∨v=ps[k].lv)(f:Chg (fun i=>some i=v.ownBlock) w w'){ws ls:List Int}(n:Ow w' base 3 1 ps[k].wv i1 ws)(o:Ow w' base 3 1 ps[k].lv i1 ls):
  Rws w' base (ps.set k ⟨{ps[k].x with ws:=ws,ls:=ls},ps[k].wv,ps[k].lv⟩):=by
 refine⟨fun p q=>?_,?_⟩
 .obtain⟨i,d,rfl⟩:=List.mem_iff_getElem.1 q;rw[mI]at d
  by_cases a:k=i
  .subst a;rw[Ox];exact⟨n,o⟩
  .rw[List.getElem_set_ne a];have l:=h.row _ (bK d);have c:=h.at_ d g (fun e=>a e.symm);refine⟨l.1.chg f fun j b e=>?_,l.2.chg f fun j b e=>?_⟩
   .rcases m with rfl|rfl
    .exact c.1 j b e.symm
    .exact c.2.1 j b e.symm
   .rcases m with rfl|rfl
    .exact c.2.2.1 j b e.symm
    .exact c.2.2.2 j b e.symm
 .have e:(ps.set k ⟨{ps[k].x with ws:=ws,ls:=ls},ps[k].wv,ps[k].lv⟩).flatMap (fun p=>[p.wv,p.lv])=ps.flatMap fun p=>[p.wv,p.lv]:=by
   rw[List.flatMap_def,List.flatMap_def,pD]
   congr 1
   apply sR;intro i;rw[sS]
   split
   .rename_i a;subst a;simp[g]
   .rfl
  rw[e];exact h.sep
theorem Rws.sub{b:List ObV}(h:Rws w base ps)(a:b.Sublist ps):Rws w base b:=⟨fun p c=>h.row p (a.mem c),h.sep.sublist (Uk _ a)⟩
end
theorem Jn(t:Int):∀(ps:List ObV),iL (fun p:ObV=>p.x.h) ps→pP (ps.map (·.x)) t=if (ps.any fun p=>decide (p.x.h=t))=true then some (eT (fun p:ObV=>p.x.h) t ps) else none
 |[],_=>rfl
 |x::l,a=>by
  have g:=Jn t l a.2;have e:eT (fun p:ObV=>p.x.h) t (x::l)=if x.x.h<t then eT (fun p:ObV=>p.x.h) t l+1 else 0:=rfl
  unfold pP at *;rw[kM,List.findIdx?_cons,g,wK,e]
  by_cases b:x.x.h=t
  .rw[bY b,aC (show ¬x.x.h<t by omega)]; simp
  .rw[aX b]
   by_cases c:x.x.h<t
   .rw[aE c]
    cases l.any fun p=>decide (p.x.h=t)<;>simp
   .have d:(l.any fun p=>decide (p.x.h=t))=false:=pF.2 fun y f=>by
     have:x.x.h<y.x.h:=a.1 y f;simp; omega
    rw[d]; simp
theorem Jo(t:Int):∀(ps:List ObV),iL (fun p:ObV=>p.x.h) ps→(ps.any fun p=>decide (p.x.h=t))=true→∃b:eT (fun p:ObV=>p.x.h) t ps<ps.length,ps[eT (fun p:ObV=>p.x.h) t ps].x.h=t
 |[],_,h=>by simp at h
 |x::l,d,h=>by
  by_cases c:x.x.h<t
  .have e:eT (fun p:ObV=>p.x.h) t (x::l)=eT (fun p:ObV=>p.x.h) t l+1:=aE c;rw[wK,aX (by omega),Bool.false_or]at h;obtain⟨b,a⟩:=Jo t l d.2 h;refine⟨by rw[e]; simpa using b,?_⟩;simp only[e,Et];exact a
  .have e:eT (fun p:ObV=>p.x.h) t (x::l)=0:=aC c;refine⟨by rw[e]; simp,?_⟩;simp only[e,Ot]
   by_cases f:x.x.h=t
   .exact f
   .rw[wK,aX f,Bool.false_or]at h;obtain⟨y,g,a⟩:=kZ.1 h;have:x.x.h<y.x.h:=d.1 y g;simp at a;omega
theorem Jp{ps:List ObV}(h:(ps.map (·.x)).Pairwise (fun x y=>x.h<y.h)):iL (fun p:ObV=>p.x.h) ps:=by
 induction ps with
 |nil=>trivial
 |cons x l b=>
  rw[kM,eE]at h;exact⟨fun y a=>h.1 _ (cX.2 ⟨y,a,rfl⟩),b h.2⟩
theorem HOk.len{h:Hp}(H:HOk h):h.obs.length≤256∧h.free.length≤256:=by
 have f:=eF H.reg;have a:=rD (h.obs.map (·.b));have c:=rD h.free;have d:=nJ (o:=h.order) (by omega);have e:=H.sum;rw[cW]at a;omega
theorem HOk.give{h:Hp}(H:HOk h){q:Nat}{y:Ob}(d:h.obs[q]? =some y):nP h.order h.free y.b=(0,dH h.order 9 y.b h.free):=by
 have a:=oY d;unfold nP;have c:(h.free.any fun x=>eW x y.b)=false:=pF.2 fun x e=>by
  have:=(pB.1 H.apart).2.2 x e y.b (cX.2 ⟨y,a,rfl⟩);rw[zY,qW];exact this
 rw[(lE H.reg).2 H.free,(H.each y a).2,c]; rfl
theorem HOk.lens{h:Hp}(H:HOk h){x:Ob}(b:x∈h.obs):x.ws.length≤32∧x.ls.length≤16:=by
 have a:=H.each x b;have c:=gV H.reg a.2;have d:=oP (n:=x.ws.length) (k:=x.ls.length) (by omega);omega
theorem Ul(A:Option Addr)(c s:Nat)(w:World):Calls prog 286 (#[.slice A 0 c]++#[.pointer (some ⟨s,0,none⟩)]) w fun e w'=>e=.returned (.tuple #[])∧w'=w:=by
 show Calls _ _ #[.slice A 0 c,.pointer (some ⟨s,0,none⟩)] _ _;go_enter func286,ntmps286;go_wp2_with fail
 go_loopw [7] (fun i wr=>i=.i 0∧wr=w) (fun _ _=>0)
 case atStart=>exact⟨rfl,rfl⟩
 case round=>
  obtain⟨rfl,rfl⟩:=hrel;go_wp2_with fail;go_end0;exact⟨rfl,rfl⟩
theorem Um{base s:Nat}{v:Value}{xs:List Int}{y:ObV}(w:World)(h:Ow w base 3 1 v i1 xs)(d:gJ w s 152 y)(o:xs.length≤1000):
  Calls prog 286 (#[v]++#[.pointer (some ⟨s,0,none⟩)]) w fun e w'=>e=.returned (.tuple #[])∧Chg (fun i=>some i=v.ownBlock) w w'∧Ow w' base 3 1 v i1 (eH y.x.h xs):=by
 by_cases f:0<xs.length
 .obtain⟨b,c,post,rfl,l,n,a,k⟩:=h.blk f;have m:s≠b:=d.blk.ne a (by decide);refine (Jm (pre:=[]) w d a rfl m l (by omega)).mono ?_;rintro e w' ⟨rfl,g,j⟩;refine⟨rfl,g.mono fun i _ e=>by rw[e]; rfl,k w' _ (by simp[eH]) j⟩
 .obtain rfl:xs=[]:=hJ (by omega);obtain⟨A,c,rfl,-⟩:=eD h;refine (Ul A c s w).mono ?_;rintro e w' ⟨rfl,rfl⟩;exact⟨rfl,Chg.refl _ _,h⟩
end
section
structure Hx(w:World)(base g r:Nat)(p:HpV)(F:List Bk)(ps:List ObV):Prop where
 blk:Blk w g 208 p.cells
 lo:base≤g
 res:bZ w r 0 0
 lr:base≤r
 obs:OR w (fun i=>base≤i) 152 5 p.ov ObV.cells ps
 rws:Rws w base ps
 free:OR w (fun i=>base≤i) 150 2 p.fv Bk.cells F
structure Bw(base:Nat)(w w':World):Prop where
 bel:Below base w w'
 keep:∀i cs,Blk w i 46 cs→Blk w' i 46 cs
section
variable {α:Type}{enc:α→List Value}{w0 w w':World}{base b k:Nat}{t:TypeId}{cs:List Value}{S:Nat→Prop}{v:Value}{l:List α}
theorem Bw.of(b:base≤w.heap.size)(h:Bw' w w'):Bw base w w':=⟨h.mono b,fun _ _ a=>a.below h a.lt⟩
theorem Bw.below(h:Bw base w0 w)(c:base≤w0.heap.size)(a:Bw' w w'):Bw base w0 w':=⟨h.bel.trans (a.mono (aB c h.bel.size)),fun i cs b=>(h.keep i cs b).below a (h.keep i cs b).lt⟩
theorem Bw.chg(h:Bw base w0 w)(d:base≤w0.heap.size)(f:Blk w b t cs)(g:base≤b)(j:46≠t)(a:Chg (fun i=>i=b) w w'):Bw base w0 w':=
 ⟨h.bel.trans (a.below (fun _ e=>e▸g) (aB d h.bel.size)),fun i cs c=>(h.keep i cs c).chg a ((h.keep i cs c).ne f j)⟩
theorem Bw.row(h:Bw base w0 w)(d:base≤w0.heap.size)(c:OR w S t k v enc l)(f:∀i,S i→base≤i)(g:46≠t)(a:Chg (fun i=>some i=v.ownBlock) w w'):Bw base w0 w':=
 ⟨h.bel.trans (a.below (fun i e=>f i (aO.lt c i e).1) (aB d h.bel.size)),fun i cs b=>(h.keep i cs b).chg a (aO.not_blk c (h.keep i cs b) g)⟩
end
structure Wx(w:World)(base g:Nat)(p:HpV)(ps:List ObV):Prop where
 blk:Blk w g 208 p.cells
 lo:base≤g
 obs:OR w (fun i=>base≤i) 152 5 p.ov ObV.cells ps
 rws:Rws w base ps
 free:OR w (fun i=>base≤i) 150 2 p.fv Bk.cells p.x.free
 eq:p.x.obs=ps.map (·.x)
def Wo(base g:Nat)(x:Hp)(w w':World):Prop:=∃p ps,p.x=x∧Wx w' base g p ps∧Bw base w w'
section
variable {w w':World}{base g r:Nat}{p:HpV}{F:List Bk}{ps qs:List ObV}
theorem Hx.of(h:Wk w base g 208 p ps)(b:base≤w.heap.size):Hx (w.alloc (.cells #[.i 0,.i 0] 46)) base g w.heap.size p p.x.free ps:=by
 have a:=h.below (ba' w (.cells #[.i 0,.i 0] 46));exact⟨a.blk,a.lo,bZ.new w,b,OR.of_ow a.obs fun i h _=>h,a.rws,a.free⟩
theorem Hx.below(h:Hx w base g r p F ps)(a:Bw' w w'):Hx w' base g r p F ps:=
 ⟨h.blk.below a h.blk.lt,h.lo,h.res.below a,h.lr,h.obs.below a,h.rws.below a,h.free.below a⟩
theorem Hx.hp(h:Hx w base g r p F ps):cI w g 208 p:=.of h.blk
theorem Ow.tagF{α:Type}{enc:α→List Value}{k:Nat}{t d:TypeId}{v:Value}{l:List α}{cs:List Value}{b:Nat}(h:Ow w base t k v enc l)(g:Blk w b d cs)(i:t≠d):some b≠v.ownBlock:=fun e=>by
 obtain⟨c,f,a⟩:=h.tag e.symm;rw[show w.heap[b]? =_ from g]at a
 cases a;exact i rfl
theorem Hx.chg(h:Hx w base g r p F ps){b:Nat}{t:TypeId}{cs:List Value}(c:Blk w b t cs)(d:Chg (fun i=>i=b) w w')(k:t≠152)(l:t≠150)(f:t≠3):
  OR w' (fun i=>base≤i) 152 5 p.ov ObV.cells ps∧Rws w' base ps∧OR w' (fun i=>base≤i) 150 2 p.fv Bk.cells F:=
 ⟨aO.chg h.obs d fun _ a e=>aO.not_blk h.obs c k (e▸a),h.rws.chg d fun q j _ e=>⟨fun a=>(h.rws.row q j).1.tagF c (fun e=>f e.symm) (e▸a.symm),fun a=>(h.rws.row q j).2.tagF c (fun e=>f e.symm) (e▸a.symm)⟩,aO.chg h.free d fun _ a e=>aO.not_blk h.free c l (e▸a)⟩
theorem Hx.put(h:Hx w base g r p F ps)(j:Nat)(u:Value){p':HpV}(e:p'.cells=p.cells.set j u)(k:p'.ov=p.ov)(f:p'.fv=p.fv):Hx (w.setCell ⟨g,j,none⟩ u) base g r p' F ps:=by
 have a:=(Chg.refl (fun i=>i=g) w).setCell (.inr rfl) j u;obtain⟨b,c,d⟩:=h.chg h.blk a (by decide) (by decide) (by decide);refine⟨by rw[e]; exact h.blk.setCell j u,h.lo,Blk.chg h.res a (Blk.ne h.res h.blk (by decide)),h.lr,by rw[k]; exact b,c,by rw[f]; exact d⟩
theorem Hx.row(h:Hx w base g r p F ps){v:Value}{t:List Int}(b:Ow w base 3 1 v i1 t)(a:Chg (fun i=>some i=v.ownBlock) w w')(k:Rws w' base qs)(f:aM ObV.cells qs=aM ObV.cells ps)(j:qs.length=ps.length):Hx w' base g r p F qs:=by
 refine⟨h.blk.chg a (b.tagF h.blk (by decide)),h.lo,Blk.chg h.res a (b.tagF h.res (by decide)),h.lr,?_,k,aO.chg h.free a fun i d e=>?_⟩
 .unfold OR;rw[f,j];refine aO.chg h.obs a fun i d e=>?_;obtain⟨c,a⟩:=aO.tag h.obs d;exact b.tagF a (by decide) e
 .obtain⟨c,a⟩:=aO.tag h.free d;exact b.tagF a (by decide) e
theorem Hx.del{f:Value}(h:Hx w base g r p F ps)(j:Chg (fun k=>some k=p.ov.ownBlock) w w')(y:OR w' (fun i=>base≤i) 152 5 f ObV.cells qs)(d:qs.Sublist ps):
  Blk w' g 208 p.cells∧Hx (w'.setCell ⟨g,1,none⟩ f) base g r ⟨p.x,f,p.fv⟩ F qs:=by
 have b:=h.blk.chg j (aO.not_blk h.obs h.blk (by decide));have o:bZ w' r 0 0:=Blk.chg h.res j (aO.not_blk h.obs h.res (by decide));have m:=(h.rws.sub d).chg j fun q z i e=>⟨fun a=>by
  obtain⟨c,n⟩:=aO.tag h.obs e;exact (h.rws.row q (d.mem z)).1.tagF n (by decide) a.symm,fun a=>by
  obtain⟨c,n⟩:=aO.tag h.obs e;exact (h.rws.row q (d.mem z)).2.tagF n (by decide) a.symm⟩
 have s:=aO.chg h.free j fun i a e=>aO.not_row h.obs h.free (by decide) i e a;have l:=(Chg.refl (fun i=>i=g) w').setCell (.inr rfl) 1 f;refine⟨b,b.setCell 1 f,h.lo,Blk.chg o l (Blk.ne o b (by decide)),h.lr,?_,?_,?_⟩
 .exact aO.chg y l fun _ a e=>aO.not_blk y b (by decide) (e▸a)
 .exact m.chg l fun q d _ e=>⟨fun a=>(m.row q d).1.tagF b (by decide) (e▸a.symm),fun a=>(m.row q d).2.tagF b (by decide) (e▸a.symm)⟩
 .exact aO.chg s l fun _ a e=>aO.not_blk s b (by decide) (e▸a)
theorem Rws.ones(h:Rws w base ps):∀u∈aM ObV.cells ps,u.oneCell'=true:=fun u a=>by
 obtain⟨r,b,a⟩:=List.mem_flatten.1 a;obtain⟨x,c,rfl⟩:=cX.1 b;have:=h.row x c;unfold ObV.cells at a;simp only[bA,dW,or_false]at a;rcases a with rfl|rfl|rfl|rfl|rfl
 .rfl
 .rfl
 .rfl
 .exact this.1.one
 .exact this.2.one
theorem Hx.o(h:Hx w base g r p F ps){w0:World}(b:Bw base w0 w)(j:base≤w0.heap.size)(s:w0.heap.size≤r)(q:p.x.obs=ps.map (·.x))(n:p.x.free=F)(c d:Int):Wo base g p.x w0 ((w.setCell ⟨r,0,none⟩ (.i c)).setCell ⟨r,1,none⟩ (.i d)):=by
 have a:=((Chg.refl (fun i=>i=r) w).setCell (.inr rfl) 0 (.i c)).setCell (.inr rfl) 1 (.i d);obtain⟨k,l,m⟩:=h.chg h.res a (by decide) (by decide) (by decide);refine⟨p,ps,rfl,⟨h.blk.chg a (h.blk.ne h.res (by decide)),h.lo,k,l,by rw[n]; exact m,q⟩,b.bel.trans (a.below (fun i e=>e▸h.lr) (aB j b.bel.size)),fun i cs f=>(b.keep i cs f).chg a fun e=>by have:=f.lt; omega⟩
theorem Wx.hpAt(h:Wx w base g p ps):gH w w.heap.size p ps:=⟨⟨h.obs.sl,fun q a=>⟨(h.rws.row q a).1.sl cS,(h.rws.row q a).2.sl cS⟩⟩,h.eq,h.free.sl⟩
theorem Wx.hx(h:Wx w base g p ps)(b:bZ w r 0 0)(a:base≤r):Hx w base g r p p.x.free ps:=⟨h.blk,h.lo,b,a,h.obs,h.rws,h.free⟩
theorem Wk.wx(h:Wk w base g 208 p ps):Wx w base g p ps:=⟨h.blk,h.lo,OR.of_ow h.obs fun _ h _=>h,h.rws,h.free,h.eq⟩
theorem Wo.fin{w0:World}{x:Hp}(h:Wo base g x w w')(e:Bw base w0 w)(b:base≤w0.heap.size)(m:bZ w r 0 0)(f:w0.heap.size≤r)(c d:Int):
  bZ w' r 0 0∧Wo base g x w0 ((w'.setCell ⟨r,0,none⟩ (.i c)).setCell ⟨r,1,none⟩ (.i d)):=by
 obtain⟨p,ps,rfl,k,a⟩:=h;have j:=a.keep _ _ m;exact⟨j,(k.hx j (aB b f)).o ⟨e.bel.trans a.bel,fun i cs l=>a.keep i cs (e.keep i cs l)⟩ b f k.eq rfl c d⟩
end
theorem yE{α β:Type}(f:α→β):∀(l:List α)(q:Nat),(l.map f).eraseIdx q=(l.eraseIdx q).map f
 |[],_=>rfl
 |_::_,0=>rfl
 |x::l,q+1=>bG (f x::·) (yE f l q)
def iM(t:Int)(y:ObV):ObV:=⟨{y.x with ls:=eH t y.x.ls},y.wv,y.lv⟩
def gO(t:Int)(ps:List ObV)(k:Nat):List ObV:=(ps.take k).map (iM t)++ps.drop k
theorem Jq(t:Int)(ps:List ObV)(k:Nat):(gO t ps k).length=ps.length:=by unfold gO; simp; omega
theorem Jr(t:Int)(ps:List ObV)(k:Nat)(a:k<ps.length):(gO t ps k)[k]? =some ps[k]:=by
 unfold gO;rw[Er (by simp; omega)];simp[show min k ps.length=k by omega,a]
theorem Js(t:Int)(ps:List ObV)(k:Nat)(a:k<ps.length):(gO t ps k).set k (iM t ps[k])=gO t ps (k+1):=by
 unfold gO;have b:((ps.take k).map (iM t)).length=k:=by simp; omega
 rw[qM _ _ (by omega),b,qS,fG a,aH,cV a,gC,cR]; rfl
theorem Jt(t:Int)(ps:List ObV)(k:Nat):aM ObV.cells (gO t ps k)=aM ObV.cells ps:=by
 unfold gO
 conv=>rhs; rw[←wB k ps]
 rw[lV,lV]
 congr 1
 unfold aM;rw[pC]; rfl
structure CG(W:World)(g:Nat)(p:HpV)(F:List Bk)(X:Nat→Option Value)(W':World):Prop where
 chg:Chg (fun i=>i=g) W W'
 res:∀u,X 13=some u→∃v',u=.tuple #[v',.i 0]∧OR W' (fun i=>W.heap.size≤i) 150 2 v' Bk.cells F
 mv:∀z,X 14=some z→X 13=some z
 ex:∀z,X 15=some z→X 13=some (.tuple #[z,.i 0])
 no:X 20=none→Blk W' g 208 p.cells
 st:(X 20).isSome=true→∃z,X 15=some z∧Blk W' g 208 (HpV.cells ⟨p.x,p.ov,z⟩)
 dep:(X 13).isSome=true→(X 10).isSome=true
section
variable {W W' W2:World}{g:Nat}{p:HpV}{F:List Bk}{X:Nat→Option Value}{v z:Value}
theorem aR{j i:Nat}(h:i≠j):bD X j v i=X i:=aC h
theorem CG.other(h:CG W g p F X W')(j:Nat)(v:Value)(a:j≠13)(e:j≠14)(b:j≠15)(c:j≠20):CG W g p F (bD X j v) W':=by
 refine⟨h.chg,?_,?_,?_,?_,?_,?_⟩
 .rw[aR (bL a)]; exact h.res
 .rw[aR (bL e),aR (bL a)]; exact h.mv
 .rw[aR (bL b),aR (bL a)]; exact h.ex
 .rw[aR (bL c)]; exact h.no
 .rw[aR (bL c),aR (bL b)]; exact h.st
 .rw[aR (bL a)];intro f
  by_cases d:10=j
  .subst d; unfold bD; rw[aE rfl]; rfl
  .rw[aR d]; exact h.dep f
theorem CG.early(h:CG W g p F X W')(b:X 10=none):X 20=none∧X 13=none:=by
 have a:X 13=none:=by
  cases hx:X 13 with
  |none=>rfl
  |some u=>have:=h.dep (by rw[hx]; rfl); rw[b]at this; cases this
 refine⟨?_,a⟩
 cases hx:X 20 with
 |none=>rfl
 |some u=>
  obtain⟨z,c,_⟩:=h.st (by rw[hx]; rfl);have:=h.ex z c;rw[a]at this
  cases this
theorem CG.at0(h:CG W g p F X W'):W'.cell? ⟨g,0,none⟩=some (.i p.x.order):=by
 cases hx:X 20 with
 |none=>exact (h.no hx).cell 0
 |some u=>obtain⟨z,_,a⟩:=h.st (by rw[hx]; rfl); exact a.cell 0
theorem CG.call(h:CG W g p F X W')(d:X 13=none)(f:(X 10).isSome=true)(j:OR W2 (fun i=>W.heap.size≤i) 150 2 v Bk.cells F)(c:Bw' W' W2):CG W g p F (bD X 13 (.tuple #[v,.i 0])) W2:=by
 refine⟨h.chg.then c,fun u k=>?_,fun z a=>?_,fun z a=>?_,fun b=>?_,fun b=>?_,fun _=>by rw[aR (by decide)]; exact f⟩
 .cases k; exact⟨v,rfl,j⟩
 .rw[aR (by decide)]at a; have:=h.mv z a; rw[d]at this; cases this
 .rw[aR (by decide)]at a; have:=h.ex z a; rw[d]at this; cases this
 .rw[aR (by decide)]at b; exact (h.no b).below c (h.no b).lt
 .rw[aR (by decide)]at b;obtain⟨z,a,e⟩:=h.st b;exact⟨z,by rw[aR (by decide)]; exact a,e.below c e.lt⟩
theorem CG.move(h:CG W g p F X W')(a:X 13=some z):CG W g p F (bD X 14 z) W':=by
 refine⟨h.chg,h.res,fun y b=>?_,h.ex,h.no,h.st,h.dep⟩
 cases b; rw[aR (by decide)]; exact a
theorem CG.extr(h:CG W g p F X W')(d:X 15=none)(c:X 13=some (.tuple #[z,.i 0])):CG W g p F (bD X 15 z) W':=by
 refine⟨h.chg,h.res,h.mv,fun y a=>?_,h.no,fun b=>?_,h.dep⟩
 .cases a; rw[aR (by decide)]; exact c
 .rw[aR (by decide)]at b;obtain⟨y,a,_⟩:=h.st b;rw[d]at a
  cases a
theorem CG.store(h:CG W g p F X W')(f:X 20=none)(d:X 15=some z):CG W g p F (bD X 20 v) (W'.setCell ⟨g,7,none⟩ z):=by
 have a:=h.no f;have j:=(Chg.refl (fun i=>i=g) W').setCell (.inr rfl) 7 z;refine⟨h.chg.setCell (.inr rfl) _ _,fun u c=>?_,h.mv,h.ex,(fun l=>by cases l),fun _=>⟨z,by rw[aR (by decide)]; exact d,a.setCell 7 z⟩,h.dep⟩;rw[aR (by decide)]at c;obtain⟨v',e,b⟩:=h.res u c;exact⟨v',e,aO.chg b j fun _ k e=>aO.not_blk b a (by decide) (e▸k)⟩
end
theorem Un{base g:Nat}{p:HpV}{ps:List ObV}(q:Nat)(w:World)(h:Wk w base g 208 p ps)(W:base≤w.heap.size)(H:HOk p.x)(N:q<ps.length):
  Calls prog 251 #[.pointer (some ⟨g,0,none⟩),.i q] w fun e w'=>e=.returned (.agg #[.i 0,.i 0])∧Wo base g (nK p.x q ps[q].x) w w':=by
 have hL:=H.len;have p5:=H.give (show p.x.obs[q]? =some ps[q].x by rw[h.eq]; simp[N]);have HX:=kp (Hx.of h W);have HE:=kp h.eq;have HY:=kp (show ps[q]∈ps from bK N);have HQ:=kp N;have d3:=kp (show ps.length≤256 by have:=bG List.length h.eq; rw[cW]at this; omega);have g4:=kp hL.2;have D:=kp W;have p3:=kp (ba' w (.cells #[.i 0,.i 0] 46));have HG:=kp p5;have l4:=kp (fun(x:ObV)(hx:x∈ps)=>H.lens (show x.x∈p.x.obs by rw[h.eq]; exact cX.2 ⟨x,hx,rfl⟩));obtain⟨y,E⟩:=nm' (ps[q]);rw[E]at HG ⊢;have a7:=kp E;obtain⟨A,c,j2,l2,z5,-⟩:=(Hx.of h W).obs.sl;obtain⟨b,g7,rfl,-,s,-⟩:=bV (P:=prog) 5 cM (by omega) l2 q N;obtain⟨n,hn⟩:=nm' ps.length;have HN:=kp hn;rw[E]at s;obtain⟨⟨Aw,cw,m2,-,-,-⟩,⟨Al,cl,e2,-,-,-⟩⟩:=(jQ ((h.rws.row _ (bK N)).1.sl cS) ((h.rws.row _ (bK N)).2.sl cS))
 rw[E]at m2 e2;have x0:=s 0 _ rfl;have x1:=s 1 _ rfl;have x2:=s 2 _ rfl;have x3:=s 3 _ rfl;have x4:=s 4 _ rfl;simp only[cF]at x0;rw[m2]at x3;rw[e2]at x4;have HV:=k'2 m2 e2;have q1:=HX.o.hp.c1;rw[j2]at q1;rw[hn]at j2 z5 N q1;have b1:=kp j2;have g1:(q:Int)<n:=by omega
 have a2:=(aL _ (w.alloc (.cells #[.i 0,.i 0] 46))).alloc (aD _) (.cells #[.i y.x.h,.i y.x.b.a,.i y.x.b.o,.slice Aw y.x.ws.length cw,.slice Al y.x.ls.length cl] 152);have l3:gJ ((w.alloc (.cells #[.i 0,.i 0] 46)).alloc (.cells #[.i y.x.h,.i y.x.b.a,.i y.x.b.o,.slice Aw y.x.ws.length cw,.slice Al y.x.ls.length cl] 152)) (w.heap.size+1) 152 y:=.of (by
  have:=Blk.new (w.alloc (.cells #[.i 0,.i 0] 46)) 152 y.cells;unfold ObV.cells at this ⊢;rw[HV.a,HV.B]at this ⊢;simpa using this)
 obtain⟨W2,l5⟩:=nm' ((w.alloc (.cells #[.i 0,.i 0] 46)).alloc (.cells #[.i y.x.h,.i y.x.b.a,.i y.x.b.o,.slice Aw y.x.ws.length cw,.slice Al y.x.ls.length cl] 152));rw[l5]at a2 l3;have q3:=kp ((Bw.of D.o p3.o).below D.o a2);have V:=kp (HX.o.below a2);have o4:=kp l3;have q2:=V.o.hp.c1;rw[b1.o]at q2;have HD:=Tq q (q+1) W2 V.o.obs V.o.rws.ones (by have:=HN.o; omega) rfl;rw[show ((q+1:Nat):Int)=(q:Int)+1 from rfl,b1.o]at HD;have e4:=kp HD;have g5:(q:Int)+1≤9223372036854775807:=by have:=d3.o; omega
 go_enter func251,ntmps251;go_wp2_with fail;refine (e4.o).mono ?_;rintro e w3 ⟨v3,rfl,j3,e0,d7⟩;dsimp only;rw[←b1.o]at e0;obtain⟨M,c3,rfl,-,-,-⟩:=j3.sl;have m3:gJ w3 (w.heap.size+1) 152 y:=.of (o4.o.blk.chg e0 fun e=>by have:=(HX.o.obs.lt _ e).2; simp at this);obtain⟨j0,o2⟩:=V.o.del e0 j3 (zQ ps q);have g0:=(Chg.refl (fun i=>i=g) w3).setCell (.inr rfl) 1 (.slice M (ps.eraseIdx q).length c3);have p2:gJ _ (w.heap.size+1) 152 y:=.of (m3.blk.chg g0 (m3.blk.ne j0 (by decide)));have b2:=(q3.o.row D.o V.o.obs (fun _ h=>h) (by decide) e0).chg D.o j0 HX.o.lo (by decide) g0;have k1:=j0.cell 1;have f1:=j0.frozen 1;simp only[HpV.cells,aK,aG]at k1;obtain⟨m,hm⟩:=nm' ((ps.eraseIdx q).length);rw[hm]at o2 g0 p2 b2 ⊢;obtain⟨W4,m5⟩:=nm' (w3.setCell ⟨g,1,none⟩ (.slice M m c3));rw[m5]at o2 g0 p2 b2;have HM:=kp hm;have f:=kp o2;have a0:=kp p2;have y2:=kp b2;have j4:=kp (fun(W':World)(hc:Chg (fun i=>i=g) W4 W')=>by
  have:=Tz p.x.order p.fv W'.heap.size p.x.free y.x.b W' (OR.sl (aO.chg f.o.free hc fun _ hi e=>aO.not_blk f.o.free f.o.blk (by decide) (e▸hi))) (aD _) (by have:=g4.o; omega);rw[HG.o]at this;exact this)
 go_wp2_with fail;refine fR 21 (CG W4 g ⟨p.x,.slice M m c3,p.fv⟩ (dH p.x.order 9 y.x.b p.x.free)) (fun _=>fK) (by kernel_rfl) (by kernel_rfl) ⟨(Chg.refl _ _).drew,(fun _ h=>by cases h),(fun _ h=>by cases h),(fun _ h=>by cases h),(fun _=>f.o.blk),(fun h=>by cases h),fun h=>by cases h⟩ ?_
 iterate 13 (refine bO ?_; apply Exists.intro)
 iterate 3 (refine bS eM ?_)
 iterate 4 (refine bO ?_; apply Exists.intro)
 refine bS eM ?_;refine dR ⟨?pers,?walk⟩
 case walk=>
  iterate 10
   apply Ug (by kernel_rfl) (by intro t w h; cases h; exact trivial) rfl
   .intro X W' d r I C F; have q0:=d.at0; go_wp2_with fail;exact⟨rfl,_,rfl,d.other _ _ (by decide) (by decide) (by decide) (by decide),aV,rfl⟩
   simp only[Act.put,aN,aH,aI,aT,aW]
  apply Ug (by kernel_rfl) (by intro t w h; cases h; exact trivial) rfl
  .intro X W' d r I C F; have q7:W'.cell? ⟨g,7,none⟩=some p.fv:=(d.no (d.early r).1).cell 7; go_wp2_with fail;exact⟨rfl,_,rfl,d.other _ _ (by decide) (by decide) (by decide) (by decide),aV,rfl⟩
  simp only[Act.put,aN,aH,aI,aT,aW]
  iterate 2
   apply Ug (by kernel_rfl) (by intro t w h; cases h; exact trivial) rfl
   .intro X W' d r I C F; have E:=gJ.of (a0.o.blk.chg d.chg (a0.o.blk.ne f.o.blk (by decide))); have s1:=E.c1; have s2:=E.c2; clear E; go_wp2_with fail;exact⟨rfl,_,rfl,d.other _ _ (by decide) (by decide) (by decide) (by decide),aV,rfl⟩
   simp only[Act.put,aN,aH,aI,aT,aW]
  refine⟨fun X W' d r I C F=>?_,fun o3=>?_⟩
  .go_wp2_with fail;refine (j4.o W' d.chg).mono ?_;rintro e w5 ⟨v5,rfl,l6,o5⟩;go_wp2_with fail;exact⟨rfl,_,rfl,d.call r (I 10 (by kernel_rfl)) (l6.mono fun i _ h=>aB d.chg.size h) o5,aV,trivial⟩
  simp only[Act.put,aN,aH,aI,aT,aW];refine⟨fun X W' d r I C F=>?_,fun L=>?_⟩
  .have d0:X 13=some o3:=C 13 44 o3 (by kernel_rfl) (by kernel_rfl) (bT (by kernel_rfl)) rfl;go_wp2_with fail;exact⟨rfl,_,rfl,d.move d0,aV,trivial⟩
  simp only[Act.put,aN,aH,aI,aT,aW];refine⟨fun X W' d r I C F=>?_,fun O=>?_⟩
  .have o1:X 14=some L:=C 14 30 L (by kernel_rfl) (by kernel_rfl) (bT (by kernel_rfl)) rfl;have d0:=d.mv L o1;obtain⟨v',rfl,-⟩:=d.res L d0;go_wp2_with fail;exact⟨rfl,_,rfl,d.extr r d0,aV,trivial⟩
  simp only[Act.put,aN,aH,aI,aT,aW];apply Ug (by kernel_rfl) (by intro t w h; cases h; exact trivial) rfl
  .intro X W' d r I C F;have o1:X 14=some L:=C 14 30 L (by kernel_rfl) (by kernel_rfl) (bT (by kernel_rfl)) rfl;obtain⟨v',rfl,-⟩:=d.res L (d.mv L o1);go_wp2_with fail;exact⟨rfl,_,rfl,d.other _ _ (by decide) (by decide) (by decide) (by decide),aV,rfl⟩
  simp only[Act.put,aN,aH,aI,aT,aW]
  iterate 3
   apply Ug (by kernel_rfl) (by intro t w h; cases h; exact trivial) rfl
   .intro X W' d r I C F; go_wp2_with fail;exact⟨rfl,_,rfl,d.other _ _ (by decide) (by decide) (by decide) (by decide),aV,rfl⟩
   simp only[Act.put,aN,aH,aI,aT,aW]
  refine⟨fun X W' d r I C F=>?_,fun l7=>?_⟩
  .have g3:X 15=some O:=C 15 45 O (by kernel_rfl) (by kernel_rfl) (bT (by kernel_rfl)) rfl;obtain⟨v',e,ho⟩:=d.res _ (d.ex O g3);obtain rfl:O=v':=by cases e; rfl
   obtain⟨R,c5,rfl,-,-,-⟩:=OR.sl ho;have hg:=d.no r;have k7:W'.cell? ⟨g,7,none⟩=some p.fv:=hg.cell 7;have f7:=hg.frozen 7;have HS:=kp (d.store (v:=undef) r g3);go_wp2_with fail;exact⟨rfl,undef,rfl,HS.o,aV,trivial⟩
  simp only[Act.put,aT,aW];intro W5 d F;simp only[dO,List.drop_nil];obtain⟨z,y4,a6⟩:=d.st rfl;obtain rfl:O=z:=by cases y4; rfl
  obtain⟨v',e,ho⟩:=d.res _ (d.ex O rfl);obtain rfl:O=v':=by cases e; rfl
  obtain⟨R,c5,rfl,-,-,-⟩:=OR.sl ho;obtain⟨z4,a5,-⟩:=f.o.chg f.o.blk d.chg (by decide) (by decide) (by decide);have q5:base≤W4.heap.size:=aB D.o y2.o.bel.size;have e3:=kp (show Hx W5 base g w.heap.size ⟨p.x,.slice M m c3,.slice R (dH p.x.order 9 y.x.b p.x.free).length c5⟩ (dH p.x.order 9 y.x.b p.x.free) (ps.eraseIdx q) from
   ⟨a6,f.o.lo,Blk.chg f.o.res d.chg (Blk.ne f.o.res f.o.blk (by decide)),f.o.lr,z4,a5,aO.mono ho fun i _ h=>aB q5 h⟩)
  have p4:=kp (gJ.of (a0.o.blk.chg d.chg (a0.o.blk.ne f.o.blk (by decide))));have y3:=kp (y2.o.chg D.o f.o.blk f.o.lo (by decide) d.chg);have k1:=e3.o.hp.c1;go_wp2_with fail
  go_loopw [57] (fun i wr=>∃k:Nat,i=.i k∧k≤m∧Hx wr base g w.heap.size ⟨p.x,.slice M m c3,.slice R (dH p.x.order 9 y.x.b p.x.free).length c5⟩ (dH p.x.order 9 y.x.b p.x.free) (gO y.x.h (ps.eraseIdx q) k)∧gJ wr (w.heap.size+1) 152 y∧Bw base w wr) (fun i _=>m-(intOf i).toNat)
  case atStart=>exact⟨0,rfl,by omega,e3.o,p4.o,y3.o⟩
  case round=>
   obtain⟨k,rfl,hk,hx,E,W⟩:=hrel;have l:=kp hx;have l1:=kp E;have z2:=kp W;have b7:m≤256:=by have:=HM.o; have:=d3.o; have:=(zQ ps q).length_le; omega
   by_cases g6:k<m
   .have l0:k<(ps.eraseIdx q).length:=by rw[HM.o]; exact g6
    have e6:=Jr y.x.h (ps.eraseIdx q) k l0;have m4:=kp (Js y.x.h (ps.eraseIdx q) k l0);have b3:=kp (fun j=>Jq y.x.h (ps.eraseIdx q) j);have a3:=kp (fun j=>Jt y.x.h (ps.eraseIdx q) j);have z6:(ps.eraseIdx q)[k]∈ps:=(zQ ps q).mem (bK l0);generalize (ps.eraseIdx q)[k]'l0=z at *;obtain⟨Q,J⟩:=iH.1 e6;obtain⟨A6,c6,p6,l2,-,-⟩:=l.o.obs.sl;obtain⟨rfl,-,rfl⟩:=Value.slice.inj p6;obtain⟨b6,j7,j5,-,s,-⟩:=bV (P:=prog) 5 cM (by omega) l2 k Q;subst j5;rw[J]at s;have m0:=l.o.rws.row z (J▸bK Q);obtain⟨o0,m1,q6,-,-,-⟩:=m0.1.sl cS;obtain⟨Z,b0,d2,-,-,-⟩:=m0.2.sl cS;have x0:=s 0 _ rfl;have x1:=s 1 _ rfl;have x2:=s 2 _ rfl;have x3:=s 3 _ rfl;have x4:=s 4 _ rfl;simp only[cF]at x0;rw[q6]at x3;rw[d2]at x4;have g2:(k:Int)<m:=by omega
    have Y:=ba' wr (.cells #[.i z.x.h,.i z.x.b.a,.i z.x.b.o,.slice o0 z.x.ws.length m1,.slice Z z.x.ls.length b0] 152);have e7:(wr.alloc (.cells #[.i z.x.h,.i z.x.b.a,.i z.x.b.o,.slice o0 z.x.ws.length m1,.slice Z z.x.ls.length b0] 152)).cell? ⟨wr.heap.size,3+1,none⟩=some (.slice Z z.x.ls.length b0):=(Blk.new wr 152 [.i z.x.h,.i z.x.b.a,.i z.x.b.o,.slice o0 z.x.ws.length m1,.slice Z z.x.ls.length b0]).cell 4;have d1:=kp (l.o.below Y);have j1:=kp (l1.o.below Y);have z3:=kp (z2.o.below D.o Y);have U:=k'2 (m0.1.below Y) (m0.2.below Y);have d4:=kp (by have:=Um _ U.B j1.o (by have:=l4.o z z6; omega); rw[d2]at this; exact this);have HZ:=k'2 (show ∃h:k<(gO y.x.h (ps.eraseIdx q) k).length,(gO y.x.h (ps.eraseIdx q) k)[k]=z from⟨Q,J⟩) d2;go_wp2_with fail;refine (d4.o).mono ?_;rintro e w8 ⟨rfl,y5,j6⟩;have G:=y5.mono (T:=fun i=>some i=z.lv.ownBlock) fun i _ e=>by rw[HZ.B]; exact e
    have m6:Ow w8 base 3 1 z.lv i1 (eH y.x.h z.x.ls):=by rw[HZ.B]; exact j6
    have o6:Rws w8 base (gO y.x.h (ps.eraseIdx q) (k+1)):=by
     obtain⟨Q,J⟩:=HZ.a;have y6:=U.a.chg G fun i hi e=>by
      have:=d1.o.rws.self Q;rw[J]at this;exact this i hi e.symm
     have h9:=d1.o.rws.upd Q (v:=z.lv) (.inr (by rw[J])) G (ws:=z.x.ws) (ls:=eH y.x.h z.x.ls) (by rw[J]; exact y6) (by rw[J]; exact m6);rw[J]at h9;rw[←m4.o];exact h9
    have K:=kp (d1.o.row U.B G o6 (by rw[a3.o,a3.o]) (by rw[b3.o,b3.o]));have q4:=kp (gJ.of (j1.o.blk.chg G (U.B.tagF j1.o.blk (by decide))));have a1:=kp (z3.o.row D.o (OR.of_ow (S:=fun i=>base≤i) U.B fun i h _=>h) (fun _ h=>h) (by decide) G);go_wp2_with fail;go_roundw
    case rel=>exact⟨k+1,by go_num,by omega,K.o,q4.o,a1.o⟩
    case measure=>simp[intOf]; omega
   .obtain rfl:k=m:=by omega
    have a4:=kp (Jm (pre:=[.i p.x.order,.slice M k c3,.i p.x.next]) (post:=[.slice R (dH p.x.order 9 y.x.b p.x.free).length c5]) (xs:=[p.x.t0,p.x.t1,p.x.t2,p.x.t3]) (c:=4) wr l1.o l.o.blk rfl (l1.o.blk.ne l.o.blk (by decide)) (by simp) (by simp));go_wp2_with fail;refine (a4.o).mono ?_;rintro e w8 ⟨rfl,G,d6⟩;obtain⟨b5,d5,e5⟩:=l.o.chg l.o.blk G (by decide) (by decide) (by decide);have K:=kp (show Hx w8 base g w.heap.size ⟨nK p.x q y.x,.slice M k c3,.slice R (dH p.x.order 9 y.x.b p.x.free).length c5⟩ (dH p.x.order 9 y.x.b p.x.free) (gO y.x.h (ps.eraseIdx q) k) from
     ⟨d6,l.o.lo,Blk.chg l.o.res G (Blk.ne l.o.res l.o.blk (by decide)),l.o.lr,b5,d5,e5⟩)
    have a1:=kp (z2.o.chg D.o l.o.blk l.o.lo (by decide) G);have HO:=kp (show (nK p.x q y.x).obs=(gO y.x.h (ps.eraseIdx q) k).map (·.x) by
     unfold gO nK;rw[cN (by rw[HM.o]; exact aD _),gS (by rw[HM.o]; exact aD _),fS,pC];simp only[HE.o,yE,pC];rfl)
    have z0:=Blk.cell K.o.res 0;have z1:=Blk.cell K.o.res 1;have y0:=Blk.frozen K.o.res 0;have y1:=Blk.frozen K.o.res 1;simp only[aG,aK]at z0 z1;have HP:=kp ((Blk.setCell K.o.res 0 (.i 0)).setCell 1 (.i 0));go_wp2_with fail;have p0:=HP.o.cell 0;have p1:=HP.o.cell 1;simp only[aH,aI,aG,aK]at p0 p1;exact aU (v:=.agg #[.i 0,.i 0]) (by simp[results,results251,go_sem,p0,p1]) rfl ⟨rfl,K.o.o a1.o D.o (aD _) HO.o rfl 0 0⟩
 case pers=>exact⟨pv',pv',pv',pv',pv',pv',pv',pv',pv',pv',pv',pv',pv',fun _ _ _ _ _ h _=>h,fun _ _ _ _ _ h _=>h,fun _ _ _ _ _ h _=>h,pv',pv',pv',pv',fun _ _ _ _ _ h _=>h,trivial⟩
end
end Go.Proofs.YthalbagblhkeaaaGreat
