import Derived.Test.YtoncgpddjmgbfaaGreatZ12
namespace Go.Proofs.YtoncgpddjmgbfaaGreat
open Go.RowKit Go.Proofs.Tryz
set_option maxRecDepth 100000
set_option maxHeartbeats 12800000
set_option linter.unusedVariables false
set_option linter.unusedSimpArgs false
section
attribute [-go_sem] loadCellsFrom storeCells
attribute [local go_sem] aX
def cG(w:World)(r:Nat)(a b:Int):Prop:=Blk w r 73 [.i a,.i b]
section
variable {w w':World}{r:Nat}{a b:Int}
theorem cG.new(w:World):cG (w.alloc (.cells #[.i 0,.i 0] 73)) w.heap.size 0 0:=Blk.new w _ [.i 0,.i 0]
theorem cG.store(h:cG w r a b)(c d:Int):Sem.run prog (storeCells ⟨r,0,none⟩ [.i c,.i d] 0) w=.ok () (w.setRow r #[.i c,.i d]):=Blk.store (P:=prog) (cs':=[.i c,.i d]) h rfl (by
 intro u e;simp only[bD,dF,or_false]at e;rcases e with rfl|rfl<;>rfl)
theorem cG.set(h:cG w r a b)(c d:Int):cG (w.setRow r #[.i c,.i d]) r c d:=Blk.set h [.i c,.i d]
theorem cG.load(h:cG w r a b):Sem.run prog (loadCellsFrom ⟨r,0,none⟩ 0 2 #[]) w=.ok #[.i a,.i b] w:=Blk.load (P:=prog) h rfl
theorem cG.below(h:cG w r a b)(c:Bw' w w'):cG w' r a b:=Blk.below h c (Blk.lt h)
end
theorem mC(c:Int)(w:World):Calls prog 232 #[.i c] w fun e w'=>e=.returned (.agg #[.i c,.i 0])∧Bw' w w':=Rz c w
theorem Hm{p:HpV}{c:List ObV}{g b j:Nat}{E:TypeId}{n:List Value}(t:Int)(w:World)(J:eP w g 320 p)(L:Sl w w.heap.size p.ov ObV.cells c)(T:c.length≤1000)(N:iA (fun p:ObV=>p.x.h) c)(A:Blk w b E n)(M:j<n.length):
  Calls prog 261 #[.pointer (some ⟨g,0,none⟩),.pointer (some ⟨b,j,none⟩),.i t] w fun e w'=>e=.returned (.agg #[.i (if eI (c.map (·.x)) t=true then 0 else 51),.i 0])∧Chg (fun i=>i=b) w w'∧Blk w' b E (if eI (c.map (·.x)) t=true then n.set j (.i t) else n):=by
 have O:=cG.new w;have k:=ba' w (.cells #[.i 0,.i 0] 73);have K:=J.below k;have U:=K.c1;have m:=kp (Gf p.ov c t w.heap.size _ (L.below k (aN _)) k.size (by omega) N);have l:=kp (A.below k A.lt);have r:=kp A.lt;have G:=kp M;have C:=kp k;have D:=kp O
 cases hr:eI (c.map (·.x)) t
 .rw[hr]at m;go_enter func261,ntmps261;go_wp2_with fail;refine mb' (m.o) fun Q a=>?_;have y:=kp (D.o.below a);have d:=kp (l.o.below a l.o.lt);have q:=kp (C.o.on a);go_wp2_with fail;refine mb' (mC 51 _) fun V B=>?_;have f:=kp (y.o.below B);have H:=kp (d.o.below B d.o.lt);have F:=kp (q.o.on B);have I:=f.o.store 51 0;go_wp2_with fail;have s:=f.o.set 51 0;have z:=s.load;exact bI (v:=.agg #[.i 51,.i 0]) (by simp[results,results261,go_sem,z]) rfl ⟨by simp,(Chg.of_below F.o).setRow (.inl (aN _)) _,H.o.other (by have:=r.o; omega) _⟩
 .rw[hr]at m;go_enter func261,ntmps261;go_wp2_with fail;refine mb' (m.o) fun Q a=>?_;have y:=kp (D.o.below a);have d:=kp (l.o.below a l.o.lt);have q:=kp (C.o.on a);have P:=d.o.cell j;have R:=d.o.frozen j;rw[jN G.o]at P;have f:=kp (Blk.otherCell y.o (g':=b) (by have:=r.o; omega) j (.i t));have I:=cG.store f.o 0 0;go_wp2_with fail;have s:=cG.set f.o 0 0;have z:=s.load;exact bI (v:=.agg #[.i 0,.i 0]) (by simp[results,results261,go_sem,z]) rfl ⟨by simp,((Chg.of_below (S:=fun i=>i=b) q.o).setCell (.inr rfl) _ _).setRow (.inl (aN _)) _,(d.o.setCell j _).other (by have:=r.o; omega) _⟩
theorem Sc(t:Int)(l:List Int)(k:Nat)(a:k<l.length):gF t (l.take (k+1))=gF t (l.take k)++[if l[k]=t then 0 else l[k]]:=by
 unfold gF;rw[fE a,fW]; rfl
theorem Hn{y:ObV}{s b a c:Nat}{r:TypeId}{pre post:List Value}{xs:List Int}(w:World)(P:gH w s 264 y)(I:Blk w b r (pre++iv xs++post))(O:pre.length=a)(N:s≠b)(K:xs.length≤c)(M:xs.length≤1000000):
  Calls prog 292 (#[.slice (some ⟨b,a,none⟩) xs.length c]++#[.pointer (some ⟨s,0,none⟩)]) w fun e w'=>e=.returned (.tuple #[])∧Chg (fun i=>i=b) w w'∧Blk w' b r (pre++iv (gF y.x.h xs)++post):=by
 show Calls _ _ #[.slice (some ⟨b,a,none⟩) xs.length c,.pointer (some ⟨s,0,none⟩)] _ _;obtain⟨n,E⟩:=nm' xs.length;rw[E]at K M ⊢;have m:=kp E;have F:=kp I;have G:=kp P;have f:=kp O;go_enter func292,ntmps292;go_wp2_with fail
 go_loopw [7] (fun i wr=>∃k:Nat,i=.i k∧k≤n∧Blk wr b r (pre++iv (gF y.x.h (xs.take k)++xs.drop k)++post)∧Chg (fun i=>i=b) w wr) (fun i _=>n-(intOf i).toNat)
 case atStart=>exact⟨0,rfl,by omega,F.o,Chg.refl _ _⟩
 case round=>
  obtain⟨k,rfl,U,J,D⟩:=hrel;have d:=kp J;have l:=kp D;have Q:=gH.of (G.o.blk.chg D N);have W:=Q.c0
  by_cases V:k<n
  .have q:k<xs.length:=by have:=m.o; omega
   have T:(k:Int)<n:=by omega
   have g:(gF y.x.h (xs.take k)).length=k:=by unfold gF; rw[dD,cL]; omega
   have L:(pre++iv (gF y.x.h (xs.take k)++xs.drop k)++post)[a+k]? =some (.i xs[k]):=by
    rw[cH,Me (by have:=f.o; omega),f.o,pP (by rw[kD,bF,dM,g]; omega),aCf,tZ _ _ (by rw[bF,dM,g]; omega)];simp[g]
   have R:=d.o.cell (a+k);have S:=d.o.frozen (a+k);rw[L]at R;have C:=kp (Sc y.x.h xs k q);have A:=kp (show xs.drop k=xs[k]::xs.drop (k+1) from iF q);have B:=kp g;generalize xs[k]'q=z at *
   by_cases j:z=y.x.h
   .have H:(z==y.x.h)=true:=by simp[j]
    have p:=kp j;go_wp2_with fail;go_roundw
    case rel=>
     refine⟨k+1,by go_num,by omega,?_,l.o.setCell (.inr rfl) _ _⟩;have:=d.o.setCell (a+k) (.i 0);rw[cH,vU _ _ (by have:=f.o; omega),f.o,aCf,A.o,zJ,cH,vU _ _ (by rw[kD,B.o]; exact aN _),kD,B.o,tO]at this;rw[C.o,aK p.o,zJ,zJ];simpa [iv] using this
    case measure=>simp[intOf]; omega
   .have H:(z==y.x.h)=false:=by simp[j]
    have p:=kp j;go_wp2_with fail;go_roundw
    case rel=>
     refine⟨k+1,by go_num,by omega,?_,l.o⟩;have:=d.o;rw[A.o]at this;rw[C.o,aF p.o];simpa [iv] using this
    case measure=>simp[intOf]; omega
  .obtain rfl:k=n:=by omega
   go_wp2_with fail;go_end0;refine⟨rfl,l.o,?_⟩;have:=d.o;rw[eF (by have:=m.o; omega),kA (by have:=m.o; omega),fG]at this;exact this
end
section
theorem Blk.ne{w:World}{b c:Nat}{t d:TypeId}{f cs':List Value}(h:Blk w b t f)(a:Blk w c d cs')(g:t≠d):b≠c:=fun e=>by
 subst e;unfold Blk at h a;rw[h]at a;injection a with a
 injection a with _ a
 exact g a
theorem Sd{α β:Type}(f:α→List β){l m:List α}(h:l.Sublist m):(l.flatMap f).Sublist (m.flatMap f):=by
 induction h with
 |slnil=>exact List.Sublist.refl _
 |cons a _ b=>rw[mK]; exact List.sublist_append_of_sublist_right b
 |cons_cons a _ b=>rw[mK,mK]; exact List.Sublist.append (List.Sublist.refl _) b
section
variable {w w':World}{base g:Nat}{t:TypeId}{p:HpV}{ps:List ObV}{v:Value}{l:List Int}
theorem Ow.blk(h:Ow w base t 1 v i1 l)(p:0<l.length):∃b c post,v=.slice (some ⟨b,0,none⟩) l.length c∧l.length≤c∧base≤b∧Blk w b t (iv l++post)∧∀w' l',l'.length=l.length→Blk w' b t (iv l'++post)→Ow w' base t 1 v i1 l':=by
 rcases h.2 with⟨_,e⟩|⟨b,c,a,i,d,k,o,n,q,g⟩
 .omega
 .rw[oO,tN]at g;have f:a.toList=iv l++a.toList.drop l.length:=by rw[←g]; exact (tM _ _).symm
  refine⟨b,c,a.toList.drop l.length,i,o,d,?_,fun w' l' m j=>?_⟩
  .unfold Blk;rw[←f];simpa using k
  .refine⟨by rw[oO,kD]; omega,.inr ⟨b,c,(iv l'++a.toList.drop l.length).toArray,by rw[m]; exact i,d,j,by omega,n,?_,?_⟩⟩
   .have:=bA List.length f;simp only[bF,kD,fF,gK]at this ⊢;omega
   .rw[oO,tN,←kD l'];exact List.take_left
theorem Rws.at_(h:Rws w base ps){i k:Nat}(a:i<ps.length)(b:k<ps.length)(f:i≠k):Apt ps[i].wv ps[k].wv∧Apt ps[i].wv ps[k].lv∧Apt ps[i].lv ps[k].wv∧Apt ps[i].lv ps[k].lv:=by
 have c:=(List.pairwise_flatMap.1 h.sep).2;rcases nN i k with d|e
 .have:=List.pairwise_iff_getElem.1 c i k a b d;simp only[bD,dF,or_false,forall_eq_or_imp,forall_eq]at this;exact⟨this.1.1,this.1.2,this.2.1,this.2.2⟩
 .have:=List.pairwise_iff_getElem.1 c k i b a (by omega);simp only[bD,dF,or_false,forall_eq_or_imp,forall_eq]at this;exact⟨this.1.1.symm,this.2.1.symm,this.1.2.symm,this.2.2.symm⟩
theorem Rws.self(h:Rws w base ps){k:Nat}(a:k<ps.length):Apt ps[k].wv ps[k].lv:=by
 have b:=(List.pairwise_flatMap.1 h.sep).1 _ (cU a);simpa using b
theorem Rws.upd(h:Rws w base ps){k:Nat}(g:k<ps.length){v:Value}(m:v=ps[k].wv∨v=ps[k].lv)(f:Chg (fun i=>some i=v.ownBlock) w w'){ws ls:List Int}(n:Ow w' base 3 1 ps[k].wv i1 ws)(o:Ow w' base 3 1 ps[k].lv i1 ls):
  Rws w' base (ps.set k ⟨{ps[k].x with ws:=ws,ls:=ls},ps[k].wv,ps[k].lv⟩):=by
 refine⟨fun p q=>?_,?_⟩
 .obtain⟨i,d,rfl⟩:=List.mem_iff_getElem.1 q;rw[nM]at d
  by_cases a:k=i
  .subst a;rw[Mq];exact⟨n,o⟩
  .rw[List.getElem_set_ne a];have l:=h.row _ (cU d);have c:=h.at_ d g (fun e=>a e.symm);refine⟨l.1.chg f fun j b e=>?_,l.2.chg f fun j b e=>?_⟩
   .rcases m with rfl|rfl
    .exact c.1 j b e.symm
    .exact c.2.1 j b e.symm
   .rcases m with rfl|rfl
    .exact c.2.2.1 j b e.symm
    .exact c.2.2.2 j b e.symm
 .have e:(ps.set k ⟨{ps[k].x with ws:=ws,ls:=ls},ps[k].wv,ps[k].lv⟩).flatMap (fun p=>[p.wv,p.lv])=ps.flatMap fun p=>[p.wv,p.lv]:=by
   rw[List.flatMap_def,List.flatMap_def,rU]
   congr 1
   apply rL;intro i;rw[rM]
   split
   .rename_i a;subst a;simp[g]
   .rfl
  rw[e];exact h.sep
theorem Rws.sub{b:List ObV}(h:Rws w base ps)(a:b.Sublist ps):Rws w base b:=⟨fun p c=>h.row p (a.mem c),h.sep.sublist (Sd _ a)⟩
end
theorem Ho(t:Int):∀(ps:List ObV),iA (fun p:ObV=>p.x.h) ps→wX (ps.map (·.x)) t=if (ps.any fun p=>decide (p.x.h=t))=true then some (eD (fun p:ObV=>p.x.h) t ps) else none
 |[],_=>rfl
 |x::l,a=>by
  have g:=Ho t l a.2;have e:eD (fun p:ObV=>p.x.h) t (x::l)=if x.x.h<t then eD (fun p:ObV=>p.x.h) t l+1 else 0:=rfl
  unfold wX at *;rw[mJ,List.findIdx?_cons,g,wA,e]
  by_cases b:x.x.h=t
  .rw[fA b,aF (show ¬x.x.h<t by omega)]; simp
  .rw[dR b]
   by_cases c:x.x.h<t
   .rw[aK c]
    cases l.any fun p=>decide (p.x.h=t)<;>simp
   .have d:(l.any fun p=>decide (p.x.h=t))=false:=pT.2 fun y f=>by
     have:x.x.h<y.x.h:=a.1 y f;simp; omega
    rw[d]; simp
theorem Hq(t:Int):∀(ps:List ObV),iA (fun p:ObV=>p.x.h) ps→(ps.any fun p=>decide (p.x.h=t))=true→∃b:eD (fun p:ObV=>p.x.h) t ps<ps.length,ps[eD (fun p:ObV=>p.x.h) t ps].x.h=t
 |[],_,h=>by simp at h
 |x::l,d,h=>by
  by_cases c:x.x.h<t
  .have e:eD (fun p:ObV=>p.x.h) t (x::l)=eD (fun p:ObV=>p.x.h) t l+1:=aK c;rw[wA,dR (by omega),Bool.false_or]at h;obtain⟨b,a⟩:=Hq t l d.2 h;refine⟨by rw[e]; simpa using b,?_⟩;simp only[e,Mh];exact a
  .have e:eD (fun p:ObV=>p.x.h) t (x::l)=0:=aF c;refine⟨by rw[e]; simp,?_⟩;simp only[e,Mo]
   by_cases f:x.x.h=t
   .exact f
   .rw[wA,dR f,Bool.false_or]at h;obtain⟨y,g,a⟩:=mM.1 h;have:x.x.h<y.x.h:=d.1 y g;simp at a;omega
theorem Hr{ps:List ObV}(h:(ps.map (·.x)).Pairwise (fun x y=>x.h<y.h)):iA (fun p:ObV=>p.x.h) ps:=by
 induction ps with
 |nil=>trivial
 |cons x l b=>
  rw[mJ,dN]at h;exact⟨fun y a=>h.1 _ (cP.2 ⟨y,a,rfl⟩),b h.2⟩
theorem HOk.len{h:Hp}(H:HOk h):h.obs.length≤256∧h.free.length≤256:=by
 have f:=fB H.reg;have a:=pY (h.obs.map (·.b));have c:=pY h.free;have d:=uL (o:=h.order) (by omega);have e:=H.sum;rw[dD]at a;omega
theorem HOk.give{h:Hp}(H:HOk h){q:Nat}{y:Ob}(d:h.obs[q]? =some y):mV h.order h.free y.b=(0,eW h.order 9 y.b h.free):=by
 have a:=nJ d;unfold mV;have c:(h.free.any fun x=>jA x y.b)=false:=pT.2 fun x e=>by
  have:=(rP.1 H.apart).2.2 x e y.b (cP.2 ⟨y,a,rfl⟩);rw[Ml,wP];exact this
 rw[(oU H.reg).2 H.free,(H.each y a).2,c]; rfl
theorem HOk.lens{h:Hp}(H:HOk h){x:Ob}(b:x∈h.obs):x.ws.length≤32∧x.ls.length≤16:=by
 have a:=H.each x b;have c:=fY H.reg a.2;have d:=qB (n:=x.ws.length) (k:=x.ls.length) (by omega);omega
theorem Se(A:Option Addr)(c s:Nat)(w:World):Calls prog 292 (#[.slice A 0 c]++#[.pointer (some ⟨s,0,none⟩)]) w fun e w'=>e=.returned (.tuple #[])∧w'=w:=by
 show Calls _ _ #[.slice A 0 c,.pointer (some ⟨s,0,none⟩)] _ _;go_enter func292,ntmps292;go_wp2_with fail
 go_loopw [7] (fun i wr=>i=.i 0∧wr=w) (fun _ _=>0)
 case atStart=>exact⟨rfl,rfl⟩
 case round=>
  obtain⟨rfl,rfl⟩:=hrel;go_wp2_with fail;go_end0;exact⟨rfl,rfl⟩
theorem Sf{base s:Nat}{v:Value}{xs:List Int}{y:ObV}(w:World)(h:Ow w base 3 1 v i1 xs)(d:gH w s 264 y)(o:xs.length≤1000):
  Calls prog 292 (#[v]++#[.pointer (some ⟨s,0,none⟩)]) w fun e w'=>e=.returned (.tuple #[])∧Chg (fun i=>some i=v.ownBlock) w w'∧Ow w' base 3 1 v i1 (gF y.x.h xs):=by
 by_cases f:0<xs.length
 .obtain⟨b,c,post,rfl,l,n,a,k⟩:=h.blk f;have m:s≠b:=d.blk.ne a (by decide);refine (Hn (pre:=[]) w d a rfl m l (by omega)).mono ?_;rintro e w' ⟨rfl,g,j⟩;refine⟨rfl,g.mono fun i _ e=>by rw[e]; rfl,k w' _ (by simp[gF]) j⟩
 .obtain rfl:xs=[]:=iY (by omega);obtain⟨A,c,rfl,-⟩:=dO h;refine (Se A c s w).mono ?_;rintro e w' ⟨rfl,rfl⟩;exact⟨rfl,Chg.refl _ _,h⟩
end
section
structure Hx(w:World)(base g r:Nat)(p:HpV)(F:List Bk)(ps:List ObV):Prop where
 blk:Blk w g 320 p.cells
 lo:base≤g
 res:cG w r 0 0
 lr:base≤r
 obs:OR w (fun i=>base≤i) 264 5 p.ov ObV.cells ps
 rws:Rws w base ps
 free:OR w (fun i=>base≤i) 262 2 p.fv Bk.cells F
structure Bw(base:Nat)(w w':World):Prop where
 bel:Below base w w'
 keep:∀i cs,Blk w i 73 cs→Blk w' i 73 cs
section
variable {α:Type}{enc:α→List Value}{w0 w w':World}{base b k:Nat}{t:TypeId}{cs:List Value}{S:Nat→Prop}{v:Value}{l:List α}
theorem Bw.of(b:base≤w.heap.size)(h:Bw' w w'):Bw base w w':=⟨h.mono b,fun _ _ a=>a.below h a.lt⟩
theorem Bw.below(h:Bw base w0 w)(c:base≤w0.heap.size)(a:Bw' w w'):Bw base w0 w':=⟨h.bel.trans (a.mono (aB c h.bel.size)),fun i cs b=>(h.keep i cs b).below a (h.keep i cs b).lt⟩
theorem Bw.chg(h:Bw base w0 w)(d:base≤w0.heap.size)(f:Blk w b t cs)(g:base≤b)(j:73≠t)(a:Chg (fun i=>i=b) w w'):Bw base w0 w':=
 ⟨h.bel.trans (a.below (fun _ e=>e▸g) (aB d h.bel.size)),fun i cs c=>(h.keep i cs c).chg a ((h.keep i cs c).ne f j)⟩
theorem Bw.row(h:Bw base w0 w)(d:base≤w0.heap.size)(c:OR w S t k v enc l)(f:∀i,S i→base≤i)(g:73≠t)(a:Chg (fun i=>some i=v.ownBlock) w w'):Bw base w0 w':=
 ⟨h.bel.trans (a.below (fun i e=>f i (aM.lt c i e).1) (aB d h.bel.size)),fun i cs b=>(h.keep i cs b).chg a (aM.not_blk c (h.keep i cs b) g)⟩
end
structure Wx(w:World)(base g:Nat)(p:HpV)(ps:List ObV):Prop where
 blk:Blk w g 320 p.cells
 lo:base≤g
 obs:OR w (fun i=>base≤i) 264 5 p.ov ObV.cells ps
 rws:Rws w base ps
 free:OR w (fun i=>base≤i) 262 2 p.fv Bk.cells p.x.free
 eq:p.x.obs=ps.map (·.x)
def Wo(base g:Nat)(x:Hp)(w w':World):Prop:=∃p ps,p.x=x∧Wx w' base g p ps∧Bw base w w'
section
variable {w w':World}{base g r:Nat}{p:HpV}{F:List Bk}{ps qs:List ObV}
theorem Hx.of(h:Wk w base g 320 p ps)(b:base≤w.heap.size):Hx (w.alloc (.cells #[.i 0,.i 0] 73)) base g w.heap.size p p.x.free ps:=by
 have a:=h.below (ba' w (.cells #[.i 0,.i 0] 73));exact⟨a.blk,a.lo,cG.new w,b,OR.of_ow a.obs fun i h _=>h,a.rws,a.free⟩
theorem Hx.below(h:Hx w base g r p F ps)(a:Bw' w w'):Hx w' base g r p F ps:=
 ⟨h.blk.below a h.blk.lt,h.lo,h.res.below a,h.lr,h.obs.below a,h.rws.below a,h.free.below a⟩
theorem Hx.hp(h:Hx w base g r p F ps):eP w g 320 p:=.of h.blk
theorem Ow.tagF{α:Type}{enc:α→List Value}{k:Nat}{t d:TypeId}{v:Value}{l:List α}{cs:List Value}{b:Nat}(h:Ow w base t k v enc l)(g:Blk w b d cs)(i:t≠d):some b≠v.ownBlock:=fun e=>by
 obtain⟨c,f,a⟩:=h.tag e.symm;rw[show w.heap[b]? =_ from g]at a
 cases a;exact i rfl
theorem Hx.chg(h:Hx w base g r p F ps){b:Nat}{t:TypeId}{cs:List Value}(c:Blk w b t cs)(d:Chg (fun i=>i=b) w w')(k:t≠264)(l:t≠262)(f:t≠3):
  OR w' (fun i=>base≤i) 264 5 p.ov ObV.cells ps∧Rws w' base ps∧OR w' (fun i=>base≤i) 262 2 p.fv Bk.cells F:=
 ⟨aM.chg h.obs d fun _ a e=>aM.not_blk h.obs c k (e▸a),h.rws.chg d fun q j _ e=>⟨fun a=>(h.rws.row q j).1.tagF c (fun e=>f e.symm) (e▸a.symm),fun a=>(h.rws.row q j).2.tagF c (fun e=>f e.symm) (e▸a.symm)⟩,aM.chg h.free d fun _ a e=>aM.not_blk h.free c l (e▸a)⟩
theorem Hx.put(h:Hx w base g r p F ps)(j:Nat)(u:Value){p':HpV}(e:p'.cells=p.cells.set j u)(k:p'.ov=p.ov)(f:p'.fv=p.fv):Hx (w.setCell ⟨g,j,none⟩ u) base g r p' F ps:=by
 have a:=(Chg.refl (fun i=>i=g) w).setCell (.inr rfl) j u;obtain⟨b,c,d⟩:=h.chg h.blk a (by decide) (by decide) (by decide);refine⟨by rw[e]; exact h.blk.setCell j u,h.lo,Blk.chg h.res a (Blk.ne h.res h.blk (by decide)),h.lr,by rw[k]; exact b,c,by rw[f]; exact d⟩
theorem Hx.row(h:Hx w base g r p F ps){v:Value}{t:List Int}(b:Ow w base 3 1 v i1 t)(a:Chg (fun i=>some i=v.ownBlock) w w')(k:Rws w' base qs)(f:aO ObV.cells qs=aO ObV.cells ps)(j:qs.length=ps.length):Hx w' base g r p F qs:=by
 refine⟨h.blk.chg a (b.tagF h.blk (by decide)),h.lo,Blk.chg h.res a (b.tagF h.res (by decide)),h.lr,?_,k,aM.chg h.free a fun i d e=>?_⟩
 .unfold OR;rw[f,j];refine aM.chg h.obs a fun i d e=>?_;obtain⟨c,a⟩:=aM.tag h.obs d;exact b.tagF a (by decide) e
 .obtain⟨c,a⟩:=aM.tag h.free d;exact b.tagF a (by decide) e
theorem Hx.del{f:Value}(h:Hx w base g r p F ps)(j:Chg (fun k=>some k=p.ov.ownBlock) w w')(y:OR w' (fun i=>base≤i) 264 5 f ObV.cells qs)(d:qs.Sublist ps):
  Blk w' g 320 p.cells∧Hx (w'.setCell ⟨g,1,none⟩ f) base g r ⟨p.x,f,p.fv⟩ F qs:=by
 have b:=h.blk.chg j (aM.not_blk h.obs h.blk (by decide));have o:cG w' r 0 0:=Blk.chg h.res j (aM.not_blk h.obs h.res (by decide));have m:=(h.rws.sub d).chg j fun q z i e=>⟨fun a=>by
  obtain⟨c,n⟩:=aM.tag h.obs e;exact (h.rws.row q (d.mem z)).1.tagF n (by decide) a.symm,fun a=>by
  obtain⟨c,n⟩:=aM.tag h.obs e;exact (h.rws.row q (d.mem z)).2.tagF n (by decide) a.symm⟩
 have s:=aM.chg h.free j fun i a e=>aM.not_row h.obs h.free (by decide) i e a;have l:=(Chg.refl (fun i=>i=g) w').setCell (.inr rfl) 1 f;refine⟨b,b.setCell 1 f,h.lo,Blk.chg o l (Blk.ne o b (by decide)),h.lr,?_,?_,?_⟩
 .exact aM.chg y l fun _ a e=>aM.not_blk y b (by decide) (e▸a)
 .exact m.chg l fun q d _ e=>⟨fun a=>(m.row q d).1.tagF b (by decide) (e▸a.symm),fun a=>(m.row q d).2.tagF b (by decide) (e▸a.symm)⟩
 .exact aM.chg s l fun _ a e=>aM.not_blk s b (by decide) (e▸a)
theorem Rws.ones(h:Rws w base ps):∀u∈aO ObV.cells ps,u.oneCell'=true:=fun u a=>by
 obtain⟨r,b,a⟩:=List.mem_flatten.1 a;obtain⟨x,c,rfl⟩:=cP.1 b;have:=h.row x c;unfold ObV.cells at a;simp only[bD,dF,or_false]at a;rcases a with rfl|rfl|rfl|rfl|rfl
 .rfl
 .rfl
 .rfl
 .exact this.1.one
 .exact this.2.one
theorem Hx.o(h:Hx w base g r p F ps){w0:World}(b:Bw base w0 w)(j:base≤w0.heap.size)(s:w0.heap.size≤r)(q:p.x.obs=ps.map (·.x))(n:p.x.free=F)(c d:Int):Wo base g p.x w0 ((w.setCell ⟨r,0,none⟩ (.i c)).setCell ⟨r,1,none⟩ (.i d)):=by
 have a:=((Chg.refl (fun i=>i=r) w).setCell (.inr rfl) 0 (.i c)).setCell (.inr rfl) 1 (.i d);obtain⟨k,l,m⟩:=h.chg h.res a (by decide) (by decide) (by decide);refine⟨p,ps,rfl,⟨h.blk.chg a (h.blk.ne h.res (by decide)),h.lo,k,l,by rw[n]; exact m,q⟩,b.bel.trans (a.below (fun i e=>e▸h.lr) (aB j b.bel.size)),fun i cs f=>(b.keep i cs f).chg a fun e=>by have:=f.lt; omega⟩
theorem Wx.hpAt(h:Wx w base g p ps):jB w w.heap.size p ps:=⟨⟨h.obs.sl,fun q a=>⟨(h.rws.row q a).1.sl eG,(h.rws.row q a).2.sl eG⟩⟩,h.eq,h.free.sl⟩
theorem Wx.hx(h:Wx w base g p ps)(b:cG w r 0 0)(a:base≤r):Hx w base g r p p.x.free ps:=⟨h.blk,h.lo,b,a,h.obs,h.rws,h.free⟩
theorem Wk.wx(h:Wk w base g 320 p ps):Wx w base g p ps:=⟨h.blk,h.lo,OR.of_ow h.obs fun _ h _=>h,h.rws,h.free,h.eq⟩
theorem Wo.fin{w0:World}{x:Hp}(h:Wo base g x w w')(e:Bw base w0 w)(b:base≤w0.heap.size)(m:cG w r 0 0)(f:w0.heap.size≤r)(c d:Int):
  cG w' r 0 0∧Wo base g x w0 ((w'.setCell ⟨r,0,none⟩ (.i c)).setCell ⟨r,1,none⟩ (.i d)):=by
 obtain⟨p,ps,rfl,k,a⟩:=h;have j:=a.keep _ _ m;exact⟨j,(k.hx j (aB b f)).o ⟨e.bel.trans a.bel,fun i cs l=>a.keep i cs (e.keep i cs l)⟩ b f k.eq rfl c d⟩
end
theorem Hs{α β:Type}(f:α→β):∀(l:List α)(q:Nat),(l.map f).eraseIdx q=(l.eraseIdx q).map f
 |[],_=>rfl
 |_::_,0=>rfl
 |x::l,q+1=>bA (f x::·) (Hs f l q)
def Bq(t:Int)(y:ObV):ObV:=⟨{y.x with ls:=gF t y.x.ls},y.wv,y.lv⟩
def jL(t:Int)(ps:List ObV)(k:Nat):List ObV:=(ps.take k).map (Bq t)++ps.drop k
theorem Sg(t:Int)(ps:List ObV)(k:Nat):(jL t ps k).length=ps.length:=by unfold jL; simp; omega
theorem Sh(t:Int)(ps:List ObV)(k:Nat)(a:k<ps.length):(jL t ps k)[k]? =some ps[k]:=by
 unfold jL;rw[Me (by simp; omega)];simp[show min k ps.length=k by omega,a]
theorem Si(t:Int)(ps:List ObV)(k:Nat)(a:k<ps.length):(jL t ps k).set k (Bq t ps[k])=jL t ps (k+1):=by
 unfold jL;have b:((ps.take k).map (Bq t)).length=k:=by simp; omega
 rw[vU _ _ (by omega),b,tO,iF a,aC,fE a,fW,cH]; rfl
theorem Sj(t:Int)(ps:List ObV)(k:Nat):aO ObV.cells (jL t ps k)=aO ObV.cells ps:=by
 unfold jL
 conv=>rhs; rw[←tM k ps]
 rw[kE,kE]
 congr 1
 unfold aO;rw[vV]; rfl
structure CG(W:World)(g:Nat)(p:HpV)(F:List Bk)(X:Nat→Option Value)(W':World):Prop where
 chg:Chg (fun i=>i=g) W W'
 res:∀u,X 13=some u→∃v',u=.tuple #[v',.i 0]∧OR W' (fun i=>W.heap.size≤i) 262 2 v' Bk.cells F
 mv:∀z,X 14=some z→X 13=some z
 ex:∀z,X 15=some z→X 13=some (.tuple #[z,.i 0])
 no:X 20=none→Blk W' g 320 p.cells
 st:(X 20).isSome=true→∃z,X 15=some z∧Blk W' g 320 (HpV.cells ⟨p.x,p.ov,z⟩)
 dep:(X 13).isSome=true→(X 10).isSome=true
section
variable {W W' W2:World}{g:Nat}{p:HpV}{F:List Bk}{X:Nat→Option Value}{v z:Value}
theorem aI{j i:Nat}(h:i≠j):aY X j v i=X i:=aF h
theorem CG.other(h:CG W g p F X W')(j:Nat)(v:Value)(a:j≠13)(e:j≠14)(b:j≠15)(c:j≠20):CG W g p F (aY X j v) W':=by
 refine⟨h.chg,?_,?_,?_,?_,?_,?_⟩
 .rw[aI (bM a)]; exact h.res
 .rw[aI (bM e),aI (bM a)]; exact h.mv
 .rw[aI (bM b),aI (bM a)]; exact h.ex
 .rw[aI (bM c)]; exact h.no
 .rw[aI (bM c),aI (bM b)]; exact h.st
 .rw[aI (bM a)];intro f
  by_cases d:10=j
  .subst d; unfold aY; rw[aK rfl]; rfl
  .rw[aI d]; exact h.dep f
theorem CG.early(h:CG W g p F X W')(b:X 10=none):X 20=none∧X 13=none:=by
 have a:X 13=none:=by
  cases hx:X 13 with
  |none=>rfl
  |some u=>have:=h.dep (by rw[hx]; rfl); rw[b]at this; cases this
 refine⟨?_,a⟩
 cases hx:X 20 with
 |none=>rfl
 |some u=>
  obtain⟨z,c,_⟩:=h.st (by rw[hx]; rfl);have:=h.ex z c;rw[a]at this
  cases this
theorem CG.at0(h:CG W g p F X W'):W'.cell? ⟨g,0,none⟩=some (.i p.x.order):=by
 cases hx:X 20 with
 |none=>exact (h.no hx).cell 0
 |some u=>obtain⟨z,_,a⟩:=h.st (by rw[hx]; rfl); exact a.cell 0
theorem CG.call(h:CG W g p F X W')(d:X 13=none)(f:(X 10).isSome=true)(j:OR W2 (fun i=>W.heap.size≤i) 262 2 v Bk.cells F)(c:Bw' W' W2):CG W g p F (aY X 13 (.tuple #[v,.i 0])) W2:=by
 refine⟨h.chg.then c,fun u k=>?_,fun z a=>?_,fun z a=>?_,fun b=>?_,fun b=>?_,fun _=>by rw[aI (by decide)]; exact f⟩
 .cases k; exact⟨v,rfl,j⟩
 .rw[aI (by decide)]at a; have:=h.mv z a; rw[d]at this; cases this
 .rw[aI (by decide)]at a; have:=h.ex z a; rw[d]at this; cases this
 .rw[aI (by decide)]at b; exact (h.no b).below c (h.no b).lt
 .rw[aI (by decide)]at b;obtain⟨z,a,e⟩:=h.st b;exact⟨z,by rw[aI (by decide)]; exact a,e.below c e.lt⟩
theorem CG.move(h:CG W g p F X W')(a:X 13=some z):CG W g p F (aY X 14 z) W':=by
 refine⟨h.chg,h.res,fun y b=>?_,h.ex,h.no,h.st,h.dep⟩
 cases b; rw[aI (by decide)]; exact a
theorem CG.extr(h:CG W g p F X W')(d:X 15=none)(c:X 13=some (.tuple #[z,.i 0])):CG W g p F (aY X 15 z) W':=by
 refine⟨h.chg,h.res,h.mv,fun y a=>?_,h.no,fun b=>?_,h.dep⟩
 .cases a; rw[aI (by decide)]; exact c
 .rw[aI (by decide)]at b;obtain⟨y,a,_⟩:=h.st b;rw[d]at a
  cases a
theorem CG.store(h:CG W g p F X W')(f:X 20=none)(d:X 15=some z):CG W g p F (aY X 20 v) (W'.setCell ⟨g,7,none⟩ z):=by
 have a:=h.no f;have j:=(Chg.refl (fun i=>i=g) W').setCell (.inr rfl) 7 z;refine⟨h.chg.setCell (.inr rfl) _ _,fun u c=>?_,h.mv,h.ex,(fun l=>by cases l),fun _=>⟨z,by rw[aI (by decide)]; exact d,a.setCell 7 z⟩,h.dep⟩;rw[aI (by decide)]at c;obtain⟨v',e,b⟩:=h.res u c;exact⟨v',e,aM.chg b j fun _ k e=>aM.not_blk b a (by decide) (e▸k)⟩
end
theorem Sk{base g:Nat}{p:HpV}{ps:List ObV}(q:Nat)(w:World)(h:Wk w base g 320 p ps)(W:base≤w.heap.size)(H:HOk p.x)(N:q<ps.length):
  Calls prog 279 #[.pointer (some ⟨g,0,none⟩),.i q] w fun e w'=>e=.returned (.agg #[.i 0,.i 0])∧Wo base g (oV p.x q ps[q].x) w w':=by
 have hL:=H.len;have q5:=H.give (show p.x.obs[q]? =some ps[q].x by rw[h.eq]; simp[N]);have HX:=kp (Hx.of h W);have HE:=kp h.eq;have HY:=kp (show ps[q]∈ps from cU N);have HQ:=kp N;have e3:=kp (show ps.length≤256 by have:=bA List.length h.eq; rw[dD]at this; omega);have j4:=kp hL.2;have D:=kp W;have q3:=kp (ba' w (.cells #[.i 0,.i 0] 73));have HG:=kp q5;have m4:=kp (fun(x:ObV)(hx:x∈ps)=>H.lens (show x.x∈p.x.obs by rw[h.eq]; exact cP.2 ⟨x,hx,rfl⟩));obtain⟨y,E⟩:=nm' (ps[q]);rw[E]at HG ⊢;have b7:=kp E;obtain⟨A,c,l2,m2,a6,-⟩:=(Hx.of h W).obs.sl;obtain⟨b,j7,rfl,-,s,-⟩:=dS (P:=prog) 5 eV (by omega) m2 q N;obtain⟨n,hn⟩:=nm' ps.length;have HN:=kp hn;rw[E]at s;obtain⟨⟨Aw,cw,o2,-,-,-⟩,⟨Al,cl,j2,-,-,-⟩⟩:=(fR ((h.rws.row _ (cU N)).1.sl eG) ((h.rws.row _ (cU N)).2.sl eG))
 rw[E]at o2 j2;have x0:=s 0 _ rfl;have x1:=s 1 _ rfl;have x2:=s 2 _ rfl;have x3:=s 3 _ rfl;have x4:=s 4 _ rfl;simp only[dW]at x0;rw[o2]at x3;rw[j2]at x4;have HV:=k'2 o2 j2;have q1:=HX.o.hp.c1;rw[l2]at q1;rw[hn]at l2 a6 N q1;have b1:=kp l2;have g1:(q:Int)<n:=by omega
 have a2:=(aH _ (w.alloc (.cells #[.i 0,.i 0] 73))).alloc (aN _) (.cells #[.i y.x.h,.i y.x.b.a,.i y.x.b.o,.slice Aw y.x.ws.length cw,.slice Al y.x.ls.length cl] 264);have m3:gH ((w.alloc (.cells #[.i 0,.i 0] 73)).alloc (.cells #[.i y.x.h,.i y.x.b.a,.i y.x.b.o,.slice Aw y.x.ws.length cw,.slice Al y.x.ls.length cl] 264)) (w.heap.size+1) 264 y:=.of (by
  have:=Blk.new (w.alloc (.cells #[.i 0,.i 0] 73)) 264 y.cells;unfold ObV.cells at this ⊢;rw[HV.a,HV.B]at this ⊢;simpa using this)
 obtain⟨W2,m5⟩:=nm' ((w.alloc (.cells #[.i 0,.i 0] 73)).alloc (.cells #[.i y.x.h,.i y.x.b.a,.i y.x.b.o,.slice Aw y.x.ws.length cw,.slice Al y.x.ls.length cl] 264));rw[m5]at a2 m3;have y3:=kp ((Bw.of D.o q3.o).below D.o a2);have V:=kp (HX.o.below a2);have p4:=kp m3;have q2:=V.o.hp.c1;rw[b1.o]at q2;have HD:=Rg q (q+1) W2 V.o.obs V.o.rws.ones (by have:=HN.o; omega) rfl;rw[show ((q+1:Nat):Int)=(q:Int)+1 from rfl,b1.o]at HD;have g4:=kp HD;have g5:(q:Int)+1≤9223372036854775807:=by have:=e3.o; omega
 go_enter func279,ntmps279;go_wp2_with fail;refine (g4.o).mono ?_;rintro e w3 ⟨v3,rfl,l3,e0,e7⟩;dsimp only;rw[←b1.o]at e0;obtain⟨M,c3,rfl,-,-,-⟩:=l3.sl;have o3:gH w3 (w.heap.size+1) 264 y:=.of (p4.o.blk.chg e0 fun e=>by have:=(HX.o.obs.lt _ e).2; simp at this);obtain⟨j0,p2⟩:=V.o.del e0 l3 (Dk ps q);have g0:=(Chg.refl (fun i=>i=g) w3).setCell (.inr rfl) 1 (.slice M (ps.eraseIdx q).length c3);have y2:gH _ (w.heap.size+1) 264 y:=.of (o3.blk.chg g0 (o3.blk.ne j0 (by decide)));have b2:=(y3.o.row D.o V.o.obs (fun _ h=>h) (by decide) e0).chg D.o j0 HX.o.lo (by decide) g0;have k1:=j0.cell 1;have f1:=j0.frozen 1;simp only[HpV.cells,aZ,aP]at k1;obtain⟨m,hm⟩:=nm' ((ps.eraseIdx q).length);rw[hm]at p2 g0 y2 b2 ⊢;obtain⟨W4,o5⟩:=nm' (w3.setCell ⟨g,1,none⟩ (.slice M m c3));rw[o5]at p2 g0 y2 b2;have HM:=kp hm;have f:=kp p2;have a0:=kp y2;have z2:=kp b2;have l4:=kp (fun(W':World)(hc:Chg (fun i=>i=g) W4 W')=>by
  have:=Rq p.x.order p.fv W'.heap.size p.x.free y.x.b W' (OR.sl (aM.chg f.o.free hc fun _ hi e=>aM.not_blk f.o.free f.o.blk (by decide) (e▸hi))) (aN _) (by have:=j4.o; omega);rw[HG.o]at this;exact this)
 go_wp2_with fail;refine eY 21 (CG W4 g ⟨p.x,.slice M m c3,p.fv⟩ (eW p.x.order 9 y.x.b p.x.free)) (fun _=>eQ) (by kernel_rfl) (by kernel_rfl) ⟨(Chg.refl _ _).drew,(fun _ h=>by cases h),(fun _ h=>by cases h),(fun _ h=>by cases h),(fun _=>f.o.blk),(fun h=>by cases h),fun h=>by cases h⟩ ?_
 iterate 13 (refine bE ?_; apply Exists.intro)
 iterate 3 (refine bJ dV ?_)
 iterate 4 (refine bE ?_; apply Exists.intro)
 refine bJ dV ?_;refine cC ⟨?pers,?walk⟩
 case walk=>
  iterate 10
   apply bQ (by kernel_rfl) (by intro t w h; cases h; exact trivial) rfl
   .intro X W' d r I C F; have q0:=d.at0; go_wp2_with fail;exact⟨rfl,_,rfl,d.other _ _ (by decide) (by decide) (by decide) (by decide),aV,rfl⟩
   simp only[Act.put,aE,aC,aD,aS,aT]
  apply bQ (by kernel_rfl) (by intro t w h; cases h; exact trivial) rfl
  .intro X W' d r I C F; have q7:W'.cell? ⟨g,7,none⟩=some p.fv:=(d.no (d.early r).1).cell 7; go_wp2_with fail;exact⟨rfl,_,rfl,d.other _ _ (by decide) (by decide) (by decide) (by decide),aV,rfl⟩
  simp only[Act.put,aE,aC,aD,aS,aT]
  iterate 2
   apply bQ (by kernel_rfl) (by intro t w h; cases h; exact trivial) rfl
   .intro X W' d r I C F; have E:=gH.of (a0.o.blk.chg d.chg (a0.o.blk.ne f.o.blk (by decide))); have s1:=E.c1; have s2:=E.c2; clear E; go_wp2_with fail;exact⟨rfl,_,rfl,d.other _ _ (by decide) (by decide) (by decide) (by decide),aV,rfl⟩
   simp only[Act.put,aE,aC,aD,aS,aT]
  refine⟨fun X W' d r I C F=>?_,fun p3=>?_⟩
  .go_wp2_with fail;refine (l4.o W' d.chg).mono ?_;rintro e w5 ⟨v5,rfl,m6,p5⟩;go_wp2_with fail;exact⟨rfl,_,rfl,d.call r (I 10 (by kernel_rfl)) (m6.mono fun i _ h=>aB d.chg.size h) p5,aV,trivial⟩
  simp only[Act.put,aE,aC,aD,aS,aT];refine⟨fun X W' d r I C F=>?_,fun L=>?_⟩
  .have d0:X 13=some p3:=C 13 44 p3 (by kernel_rfl) (by kernel_rfl) (bO (by kernel_rfl)) rfl;go_wp2_with fail;exact⟨rfl,_,rfl,d.move d0,aV,trivial⟩
  simp only[Act.put,aE,aC,aD,aS,aT];refine⟨fun X W' d r I C F=>?_,fun O=>?_⟩
  .have o1:X 14=some L:=C 14 30 L (by kernel_rfl) (by kernel_rfl) (bO (by kernel_rfl)) rfl;have d0:=d.mv L o1;obtain⟨v',rfl,-⟩:=d.res L d0;go_wp2_with fail;exact⟨rfl,_,rfl,d.extr r d0,aV,trivial⟩
  simp only[Act.put,aE,aC,aD,aS,aT];apply bQ (by kernel_rfl) (by intro t w h; cases h; exact trivial) rfl
  .intro X W' d r I C F;have o1:X 14=some L:=C 14 30 L (by kernel_rfl) (by kernel_rfl) (bO (by kernel_rfl)) rfl;obtain⟨v',rfl,-⟩:=d.res L (d.mv L o1);go_wp2_with fail;exact⟨rfl,_,rfl,d.other _ _ (by decide) (by decide) (by decide) (by decide),aV,rfl⟩
  simp only[Act.put,aE,aC,aD,aS,aT]
  iterate 3
   apply bQ (by kernel_rfl) (by intro t w h; cases h; exact trivial) rfl
   .intro X W' d r I C F; go_wp2_with fail;exact⟨rfl,_,rfl,d.other _ _ (by decide) (by decide) (by decide) (by decide),aV,rfl⟩
   simp only[Act.put,aE,aC,aD,aS,aT]
  refine⟨fun X W' d r I C F=>?_,fun m7=>?_⟩
  .have j3:X 15=some O:=C 15 45 O (by kernel_rfl) (by kernel_rfl) (bO (by kernel_rfl)) rfl;obtain⟨v',e,ho⟩:=d.res _ (d.ex O j3);obtain rfl:O=v':=by cases e; rfl
   obtain⟨R,c5,rfl,-,-,-⟩:=OR.sl ho;have hg:=d.no r;have k7:W'.cell? ⟨g,7,none⟩=some p.fv:=hg.cell 7;have f7:=hg.frozen 7;have HS:=kp (d.store (v:=undef) r j3);go_wp2_with fail;exact⟨rfl,undef,rfl,HS.o,aV,trivial⟩
  simp only[Act.put,aS,aT];intro W5 d F;simp only[bS,List.drop_nil];obtain⟨z,z4,d6⟩:=d.st rfl;obtain rfl:O=z:=by cases z4; rfl
  obtain⟨v',e,ho⟩:=d.res _ (d.ex O rfl);obtain rfl:O=v':=by cases e; rfl
  obtain⟨R,c5,rfl,-,-,-⟩:=OR.sl ho;obtain⟨a5,b5,-⟩:=f.o.chg f.o.blk d.chg (by decide) (by decide) (by decide);have y5:base≤W4.heap.size:=aB D.o z2.o.bel.size;have g3:=kp (show Hx W5 base g w.heap.size ⟨p.x,.slice M m c3,.slice R (eW p.x.order 9 y.x.b p.x.free).length c5⟩ (eW p.x.order 9 y.x.b p.x.free) (ps.eraseIdx q) from
   ⟨d6,f.o.lo,Blk.chg f.o.res d.chg (Blk.ne f.o.res f.o.blk (by decide)),f.o.lr,a5,b5,aM.mono ho fun i _ h=>aB y5 h⟩)
  have q4:=kp (gH.of (a0.o.blk.chg d.chg (a0.o.blk.ne f.o.blk (by decide))));have z3:=kp (z2.o.chg D.o f.o.blk f.o.lo (by decide) d.chg);have k1:=g3.o.hp.c1;go_wp2_with fail
  go_loopw [57] (fun i wr=>∃k:Nat,i=.i k∧k≤m∧Hx wr base g w.heap.size ⟨p.x,.slice M m c3,.slice R (eW p.x.order 9 y.x.b p.x.free).length c5⟩ (eW p.x.order 9 y.x.b p.x.free) (jL y.x.h (ps.eraseIdx q) k)∧gH wr (w.heap.size+1) 264 y∧Bw base w wr) (fun i _=>m-(intOf i).toNat)
  case atStart=>exact⟨0,rfl,by omega,g3.o,q4.o,z3.o⟩
  case round=>
   obtain⟨k,rfl,hk,hx,E,W⟩:=hrel;have l:=kp hx;have l1:=kp E;have a3:=kp W;have d7:m≤256:=by have:=HM.o; have:=e3.o; have:=(Dk ps q).length_le; omega
   by_cases j6:k<m
   .have l0:k<(ps.eraseIdx q).length:=by rw[HM.o]; exact j6
    have g6:=Sh y.x.h (ps.eraseIdx q) k l0;have o4:=kp (Si y.x.h (ps.eraseIdx q) k l0);have d3:=kp (fun j=>Sg y.x.h (ps.eraseIdx q) j);have b3:=kp (fun j=>Sj y.x.h (ps.eraseIdx q) j);have a7:(ps.eraseIdx q)[k]∈ps:=(Dk ps q).mem (cU l0);generalize (ps.eraseIdx q)[k]'l0=z at *;obtain⟨Q,J⟩:=iZ.1 g6;obtain⟨A6,c6,q6,m2,-,-⟩:=l.o.obs.sl;obtain⟨rfl,-,rfl⟩:=Value.slice.inj q6;obtain⟨b6,l7,l5,-,s,-⟩:=dS (P:=prog) 5 eV (by omega) m2 k Q;subst l5;rw[J]at s;have m0:=l.o.rws.row z (J▸cU Q);obtain⟨o0,m1,y6,-,-,-⟩:=m0.1.sl eG;obtain⟨Z,b0,d2,-,-,-⟩:=m0.2.sl eG;have x0:=s 0 _ rfl;have x1:=s 1 _ rfl;have x2:=s 2 _ rfl;have x3:=s 3 _ rfl;have x4:=s 4 _ rfl;simp only[dW]at x0;rw[y6]at x3;rw[d2]at x4;have g2:(k:Int)<m:=by omega
    have Y:=ba' wr (.cells #[.i z.x.h,.i z.x.b.a,.i z.x.b.o,.slice o0 z.x.ws.length m1,.slice Z z.x.ls.length b0] 264);have g7:(wr.alloc (.cells #[.i z.x.h,.i z.x.b.a,.i z.x.b.o,.slice o0 z.x.ws.length m1,.slice Z z.x.ls.length b0] 264)).cell? ⟨wr.heap.size,3+1,none⟩=some (.slice Z z.x.ls.length b0):=(Blk.new wr 264 [.i z.x.h,.i z.x.b.a,.i z.x.b.o,.slice o0 z.x.ws.length m1,.slice Z z.x.ls.length b0]).cell 4;have d1:=kp (l.o.below Y);have j1:=kp (l1.o.below Y);have a4:=kp (a3.o.below D.o Y);have U:=k'2 (m0.1.below Y) (m0.2.below Y);have e4:=kp (by have:=Sf _ U.B j1.o (by have:=m4.o z a7; omega); rw[d2]at this; exact this);have HZ:=k'2 (show ∃h:k<(jL y.x.h (ps.eraseIdx q) k).length,(jL y.x.h (ps.eraseIdx q) k)[k]=z from⟨Q,J⟩) d2;go_wp2_with fail;refine (e4.o).mono ?_;rintro e w8 ⟨rfl,z5,l6⟩;have G:=z5.mono (T:=fun i=>some i=z.lv.ownBlock) fun i _ e=>by rw[HZ.B]; exact e
    have o6:Ow w8 base 3 1 z.lv i1 (gF y.x.h z.x.ls):=by rw[HZ.B]; exact l6
    have p6:Rws w8 base (jL y.x.h (ps.eraseIdx q) (k+1)):=by
     obtain⟨Q,J⟩:=HZ.a;have z6:=U.a.chg G fun i hi e=>by
      have:=d1.o.rws.self Q;rw[J]at this;exact this i hi e.symm
     have h9:=d1.o.rws.upd Q (v:=z.lv) (.inr (by rw[J])) G (ws:=z.x.ws) (ls:=gF y.x.h z.x.ls) (by rw[J]; exact z6) (by rw[J]; exact o6);rw[J]at h9;rw[←o4.o];exact h9
    have K:=kp (d1.o.row U.B G p6 (by rw[b3.o,b3.o]) (by rw[d3.o,d3.o]));have y4:=kp (gH.of (j1.o.blk.chg G (U.B.tagF j1.o.blk (by decide))));have a1:=kp (a4.o.row D.o (OR.of_ow (S:=fun i=>base≤i) U.B fun i h _=>h) (fun _ h=>h) (by decide) G);go_wp2_with fail;go_roundw
    case rel=>exact⟨k+1,by go_num,by omega,K.o,y4.o,a1.o⟩
    case measure=>simp[intOf]; omega
   .obtain rfl:k=m:=by omega
    have d4:=kp (Hn (pre:=[.i p.x.order,.slice M k c3,.i p.x.next]) (post:=[.slice R (eW p.x.order 9 y.x.b p.x.free).length c5]) (xs:=[p.x.t0,p.x.t1,p.x.t2,p.x.t3]) (c:=4) wr l1.o l.o.blk rfl (l1.o.blk.ne l.o.blk (by decide)) (by simp) (by simp));go_wp2_with fail;refine (d4.o).mono ?_;rintro e w8 ⟨rfl,G,e6⟩;obtain⟨d5,e5,j5⟩:=l.o.chg l.o.blk G (by decide) (by decide) (by decide);have K:=kp (show Hx w8 base g w.heap.size ⟨oV p.x q y.x,.slice M k c3,.slice R (eW p.x.order 9 y.x.b p.x.free).length c5⟩ (eW p.x.order 9 y.x.b p.x.free) (jL y.x.h (ps.eraseIdx q) k) from
     ⟨e6,l.o.lo,Blk.chg l.o.res G (Blk.ne l.o.res l.o.blk (by decide)),l.o.lr,d5,e5,j5⟩)
    have a1:=kp (a3.o.chg D.o l.o.blk l.o.lo (by decide) G);have HO:=kp (show (oV p.x q y.x).obs=(jL y.x.h (ps.eraseIdx q) k).map (·.x) by
     unfold jL oV;rw[eF (by rw[HM.o]; exact aN _),kA (by rw[HM.o]; exact aN _),fG,vV];simp only[HE.o,Hs,vV];rfl)
    have z0:=Blk.cell K.o.res 0;have z1:=Blk.cell K.o.res 1;have y0:=Blk.frozen K.o.res 0;have y1:=Blk.frozen K.o.res 1;simp only[aP,aZ]at z0 z1;have HP:=kp ((Blk.setCell K.o.res 0 (.i 0)).setCell 1 (.i 0));go_wp2_with fail;have p0:=HP.o.cell 0;have p1:=HP.o.cell 1;simp only[aC,aD,aP,aZ]at p0 p1;exact bI (v:=.agg #[.i 0,.i 0]) (by simp[results,results279,go_sem,p0,p1]) rfl ⟨rfl,K.o.o a1.o D.o (aN _) HO.o rfl 0 0⟩
 case pers=>exact⟨pv',pv',pv',pv',pv',pv',pv',pv',pv',pv',pv',pv',pv',fun _ _ _ _ _ h _=>h,fun _ _ _ _ _ h _=>h,fun _ _ _ _ _ h _=>h,pv',pv',pv',pv',fun _ _ _ _ _ h _=>h,trivial⟩
end
end Go.Proofs.YtoncgpddjmgbfaaGreat
