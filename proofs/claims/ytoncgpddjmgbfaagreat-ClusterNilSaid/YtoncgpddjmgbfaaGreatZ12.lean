import Derived.Test.YtoncgpddjmgbfaaGreatZ05
import Derived.Test.YtoncgpddjmgbfaaGreatZ10
import Derived.Test.YtoncgpddjmgbfaaGreatZ11
namespace Go.Proofs.YtoncgpddjmgbfaaGreat
open Go.RowKit Go.Proofs.Tryz
set_option maxRecDepth 100000
set_option maxHeartbeats 12800000
set_option linter.unusedVariables false
set_option linter.unusedSimpArgs false
section
section
variable {P:Program}{ops:Array Oper}{C:(Nat→Option Value)→World→Prop}{R:Nat→World→World→Prop}
def aY(X:Nat→Option Value)(k:Nat)(v:Value)(j:Nat):Option Value:=if j=k then some v else X j
def mwS(P:Program)(ops:Array Oper)(C:(Nat→Option Value)→World→Prop)(R:Nat→World→World→Prop)(Qn:Act→World→Prop):Nat→List Oper→List (Value→World→Prop)→List Value→Act→(Tmp→World→Prop)→Prop
 |_,[],_,vs,a,F=>∀w,C (fun j=>vs[j]?) w→(∀t,F t w)→Qn a w
 |k,o::l,φs,vs,a,F=>
  (∀X w,C X w→X k=none→(∀j,iJ ops k j=true→(X j).isSome=true)→(∀j t z,iJ ops k j=true→fI ops j=some t→t∈o.looksAt ops→a.tmps[t]? =some z→X j=some z)→(∀t,t∈o.looksAt ops→F t w)→wpList P ops (oN a o.dst fun v w'=>C (aY X k v) w'∧R k w w'∧(φs.headD fun _ _=>True) v w') [o] a w)∧
  ∀v,mwS P ops C R Qn (k+1) l φs.tail (vs++[v]) (a.put o.dst v) (fun t w=>if o.dst=some t then (φs.headD fun _ _=>True) v w else F t w)
theorem Bm{d:Act→World→Prop}{c:List (Value→World→Prop)}{a:Act}{L:List Oper}(e:∀j,j<L.length→L[j]? =ops[j]?)(h:mwS P ops C R d 0 L c [] a (fun _ _=>True))(x:Nat→Value):
  ∀i,i≤L.length→mwS P ops C R d i (L.drop i) (c.drop i) ((List.range i).map x) (cM ops a x (fun _=>true) i) (pU ops c x i)
 |0,_=>h
 |i+1,k=>by
  have f:=Bm e h x i (by omega);have b:i<L.length:=by omega
  rw[iF b]at f;obtain⟨_,g⟩:=f;have e1:fI ops i=(L[i]).dst:=by simp[fI,←e i b,b]
  have:=g (x i);rw[xQ,List.tail_drop,←e1]at this;rw[cM];simpa [pU,Ds] using this
theorem Hj{a:Act}{x:Nat→Value}{j t:Nat}{z:Value}:∀i,j<i→fI ops j=some t→(∀c,c<i→c≠j→fI ops c≠some t)→(cM ops a x (fun _=>true) i).tmps[t]? =some z→z=x j
 |0,h,_,_,_=>absurd h (by omega)
 |i+1,h,f,l,b=>by
  unfold cM at b;rw[aK rfl]at b
  by_cases g:j=i
  .subst g;rw[f]at b;simp only[Act.put,Mi]at b
   split at b
   .split at b
    .injection b with e; exact e.symm
    .cases b
   .rename_i m; exact absurd trivial m
  .refine Hj (a:=a) (x:=x) i (by omega) f (fun c n=>l c (by omega)) ?_;have k:=l i (by omega) (fun e=>g e.symm)
   cases hdi:fI ops i with
   |none=>rw[hdi]at b; exact b
   |some d=>
    rw[hdi]at b k;simp only[Act.put,Mi]at b;rw[aF (fun e=>k (by rw[e]))]at b;exact b
theorem Ry{Qa:Exit→Act→World→Prop}{n:Nat}(hB:sD ops=true)(l1:n=ops.size∨(Region.sinkB .any ops n=true∧Region.chainB .any ops n=true∧n<ops.size))(hn:n≤ops.size)
  (hq:Region.seqB .any ops (ops.size-n) n ((List.range ops.size).map fun j=>decide (j<n)).toArray=true) {O:List (Value→World→Prop)} (y1:sO R 0 O) {a:Act}
  (h:mwS P ops C R (fun a' Z=>wpList P ops Qa (ops.toList.drop n) a' Z) 0 (ops.toList.take n) O [] a (fun _ _=>True)):
  ∀(A:Nat)(c:Array Bool)(x:Nat→Value)(w:World),HeadInv .any ops n c→((List.range n).filter fun j=> !c.getD j true).length=A→
   C (fun j=>if j<n∧c.getD j true=true then some (x j) else none) w→(∀j,j<n→c.getD j true=true→phi O j (x j) w)→wpAny P .any ops Qa (A+(ops.size-n)) c (cM ops a x (fun j=>c.getD j true) n) w:=by
 obtain⟨m1,T,H⟩:=Ef hB;have m0:(ops.toList.take n).length=n:=by simp; omega
 have b0:∀j,j<(ops.toList.take n).length→(ops.toList.take n)[j]? =ops[j]?:=fun j b=>by
  rw[m0]at b;simp[b]
 intro A
 induction A with
 |zero=>
  intro c x w p X G N;have B:∀j,j<n→c.getD j true=true:=fun j b=>by
   cases q:c.getD j true with
   |true=>rfl
   |false=>
    have:j∈(List.range n).filter fun j=> !c.getD j true:=List.mem_filter.2 ⟨List.mem_range.2 b,by simp only[q]; rfl⟩;rw[iY X]at this; cases this
  have l:c=((List.range ops.size).map fun j=>decide (j<n)).toArray:=by
   apply Array.ext
   .simp[p.size]
   .intro j m S;simp only[List.getElem_toArray,pQ,List.getElem_range]
    by_cases b:j<n
    .have:=B j b; simp[m]at this; simp[this,b]
    .have:=p.tail j (by omega) (by rw[←p.size]; exact m); simp[m]at this; simp[this,b]
  have D:=Bm b0 h x n (by omega);rw[show (ops.toList.take n).drop n=[] from kA (by omega)]at D;have e:cM ops a x (fun j=>c.getD j true) n=cM ops a x (fun _=>true) n:=uB _ (fun j b=>B j b) (fun _ _ _=>rfl);rw[e,gL];have o0:(fun j=>if j<n∧c.getD j true=true then some (x j) else none)=fun j=>((List.range n).map x)[j]?:=funext fun j=>by
   by_cases b:j<n
   .rw[aK ⟨b,B j b⟩]; simp[b]
   .rw[aF fun h=>b h.1]; simp[b]
  rw[o0]at G;have k:=D w G fun t=>uC _ _ _ _ _ fun j b _=>N j b (B j b);have:=wpAny_of_seq (md:=.any) (Q':=Qa) (ops.toList.drop n) n c _ w (fun j=>by simp[lG]) (by rw[l]; simpa using hq) k;simpa using this
 |succ A ih=>
  intro c x w p X G N;obtain⟨i0,e0,Y⟩:∃j,j<n∧c.getD j true=false:=by
   have:0<((List.range n).filter fun j=> !c.getD j true).length:=by omega
   obtain⟨j,b⟩:=List.exists_mem_of_length_pos this;have:=List.mem_filter.1 b;exact⟨j,List.mem_range.1 this.1,by simpa using this.2⟩
  rw[Nat.add_right_comm];refine⟨fun hr=>?_,fun i V=>?_⟩
  .exfalso
   have q1:∀j,j<n→c.getD j true=true:=fun j=>by
    induction j using Nat.strongRecOn with
    |ind j p1=>
     intro b
     cases q:c.getD j true with
     |true=>rfl
     |false=>
      exfalso
      obtain⟨o,g⟩:∃o,ops[j]? =some o:=⟨_,yZ (by omega)⟩
      have:j∈Region.ready .any ops c:=mem_ready.2 ⟨q,o,g,fun e l y=>by
       have a1:=T j o g e l y;have:=p1 e.on a1 (by omega);simpa [show e.on<c.size by rw[p.size]; omega] using this⟩
      rw[hr]at this
      cases this
   rw[q1 i0 e0]at Y
   cases Y
  .obtain⟨F,o,g,B⟩:=mem_ready.1 V;have J:i<n:=by
    rcases nN i n with s|s
    .exact s
    .rcases l1 with l|⟨hs,hc,d1⟩
     .have:=(eT.1 g).1; omega
     .exact absurd V (tail_waits hs hc d1 p _ i0 rfl e0 Y i s)
   have y0:fI ops i=o.dst:=by simp[fI,g]
   have g0:sC ops i=o.looksAt ops:=by simp[sC,g]
   have M:∀j,iJ ops i j=true→c.getD j true=true:=fun j b=>by
    simp only[iJ,g,oL,rQ]at b;obtain⟨e,l,q⟩:=Array.any_eq_true'.1 b;simp only[bH,beq_iff_eq]at q;have m:=B e l q.1;rw[q.2]at m;rcases nN j c.size with s|s
    .simp[s]at m ⊢; exact m
    .simp[Array.getElem?_eq_none s]at m
   have o1:∀j,j<n→iJ ops j i=true→c.getD j true=false:=fun j b k=>by
    cases q:c.getD j true with
    |false=>rfl
    |true=>
     exfalso
     obtain⟨oj,j0⟩:∃o,ops[j]? =some o:=⟨_,yZ (by omega)⟩
     simp only[iJ,j0,oL,rQ]at k;obtain⟨e,l,U⟩:=Array.any_eq_true'.1 k;simp only[bH,beq_iff_eq]at U;have:=p.closed j oj j0 (by simpa [show j<c.size by rw[p.size]; omega] using q) e l U.1;rw[U.2,getD_both F]at this
     cases this
   have D:=Bm b0 h x i (by omega);rw[iF (show i<(ops.toList.take n).length by omega)]at D;have g1:(ops.toList.take n)[i]'(by omega)=o:=by
    have:=(eT.1 g).2;simpa using this
   rw[g1]at D;have l0:=D.1 _ w G (aF fun h=>by rw[F]at h; simp at h) (fun j b=>by
    obtain⟨e,l,y⟩:∃e∈o.after,(Region.binds .any e&&e.on==j)=true:=by
     simp only[iJ,g,oL,rQ]at b;exact Array.any_eq_true'.1 b
    simp only[bH,beq_iff_eq]at y;have:=T i o g e l y.1;rw[aK ⟨by omega,M j b⟩];rfl) (fun j t z b r _ hz=>by
    have z0:=M j b;have f:j<i:=by
     simp only[iJ,g,oL,rQ]at b;obtain⟨e,l,y⟩:=Array.any_eq_true'.1 b;simp only[bH,beq_iff_eq]at y;have:=T i o g e l y.1;omega
    rw[aK ⟨by omega,z0⟩,Hj i f r (fun j' z1 E S=>(H j' j t (by omega) (by omega) E r).1 S) hz]) (fun t ht=>uC _ _ _ _ _ fun j b r=>by
    rcases (H i j t (by omega) (by omega) (by omega) r).2 (g0▸ht) with⟨_,k⟩|⟨S,_⟩
    .exact N j (by omega) (M j k)
    .omega)
   rw[xQ]at l0;have d0:iK (o.looksAt ops) (cM ops a x (fun j=>c.getD j true) n) (cM ops a x (fun _=>true) i):=by
    rw[←Ee a x i n (by omega)];refine zM _ fun j b E d r b1=>?_
    by_cases f:j=i
    .subst f;apply E;simp only[F];simp
    .rcases (H i j d (by omega) (by omega) (fun e=>f e.symm) r).2 (g0▸b1) with⟨m,k⟩|⟨m,k⟩
     .apply E;rw[M j k];simp[m]
     .apply E;rw[o1 j b k];simp; omega
   unfold wpOp;simp only[g];have L:=zP (Q:=Qa) (K:=wpAny P .any ops Qa (A+(ops.size-n)) (c.setIfInBounds i true)) (zN (Region.noSelect_spec m1 i o · · g) d0) (by rw[oM,oM]) l0 (zO d0) (fun v Z hR=>by
    obtain⟨a0,q0,j1⟩:=hR;rw[←y0,zL (a:=a) (x:=x) (v:=v) F n J (fun j b f d r=>(H i j d (by omega) (by omega) (fun e=>f e.symm) r).1)];have I:∀j,(c.setIfInBounds i true).getD j true=(j==i||c.getD j true):=fun j=>by
     by_cases f:j=i
     .subst f; simp[show j<c.size by rw[p.size]; omega]
     .rw[getD_set_ne true (fun e=>f e.symm)]; simp[f]
    have ef:(fun j=>j==i||c.getD j true)=fun j=>(c.setIfInBounds i true).getD j true:=funext fun j=>(I j).symm;rw[ef];have p0:(fun j=>if j<n∧(c.setIfInBounds i true).getD j true=true then some (upd x i v j) else none)=aY (fun j=>if j<n∧c.getD j true=true then some (x j) else none) i v:=funext fun j=>by
     unfold aY;rw[I j]
     by_cases f:j=i
     .subst f; simp[upd,J]
     .simp[upd,f]
    rw[←p0]at a0;refine ih (c.setIfInBounds i true) (upd x i v) Z (p.set V J) ?_ a0 (fun j b W=>?_)
    .have e3:((List.range n).filter fun j=> !(c.setIfInBounds i true).getD j true)=((List.range n).filter fun j=> !c.getD j true).erase i:=by
      rw[List.Nodup.erase_eq_filter (List.nodup_range.filter _),List.filter_filter];apply List.filter_congr;intro j _;rw[I j]
      cases b:(j==i)<;>simp[bne,b]
     rw[e3,List.length_erase_of_mem (List.mem_filter.2 ⟨List.mem_range.2 J,by simp only[F]; rfl⟩),X];rfl
    .by_cases f:j=i
     .subst f; simpa [upd] using j1
     .rw[I j]at W;simp only[beq_iff_eq,f,pS,false_or]at W;simp only[upd,f,if_false];exact Bf O 0 y1 j i _ _ _ (by omega) (N j b W) q0)
   split
   .rename_i k;rw[aK k]at L;exact .inl L
   .rename_i k;rw[aF k]at L;exact L
def myB(ops:Array Oper)(n:Nat):Bool:=sD ops&&((n==ops.size||(Region.sinkB .any ops n&&(Region.chainB .any ops n&&decide (n<ops.size))))&&(decide (n≤ops.size)&&Region.seqB .any ops (ops.size-n) n ((List.range ops.size).map fun j=>decide (j<n)).toArray))
theorem eY{id:Nat}{Q:Exit→Act→World→Prop}{l:List Oper}{a:Act}{w:World}(n:Nat)(C:(Nat→Option Value)→World→Prop)(R:Nat→World→World→Prop)(y:P.follows .mixedOrders=true)(f:myB l.toArray n=true)(s:C (fun _=>none) w.drew)
  (h:∃c:List (Value→World→Prop),sO R 0 c∧mwS P l.toArray C R (fun m D=>wpList P l.toArray Q (l.drop n) m D) 0 (l.take n) c [] a (fun _ _=>True)):(Code.region id l.toArray true).wp P Q a w:=by
 obtain⟨c,z,h⟩:=h;simp only[myB,bH,pS,beq_iff_eq,bR]at f;obtain⟨o,p,d,q⟩:=f;refine wp_region_any y ?_;have G:n≤l.length:=by simpa using d
 have i:=Ry (Qa:=Q) o p d q z (a:=a) (by simpa using h) n (Array.replicate l.toArray.size false) (fun _=>undef) w.drew
  ⟨by simp,fun j H _ b=>(by rw[getD_replicate_false]at b; cases b),fun t _ A=>getD_in (by simpa using A) (getD_replicate_false _ _)⟩
  (by rw[List.filter_eq_self.2 (fun j g=>by simp only[List.mem_range]at g; simp[show j<l.length by omega])]; simp) (by
   have x:(fun j=>if j<n∧(Array.replicate l.toArray.size false).getD j true=true then some undef else none)=fun _=>none:=funext fun j=>aF fun⟨E,r⟩=>by simp[show j<l.length by omega]at r
   rw[x]; exact s)
  (fun j g b=>by simp[show j<l.length by omega]at b)
 have e:∀k,k≤n→cM l.toArray a (fun _=>undef) (fun j=>(Array.replicate l.toArray.size false).getD j true) k=a:=by
  intro k
  induction k with
  |zero=>intro _; rfl
  |succ k B=>
   intro F;rw[cM];have:(Array.replicate l.toArray.size false).getD k true=false:=by simp[show k<l.length by omega]
   rw[this];exact B (by omega)
 rw[e n (aN _),show n+(l.toArray.size-n)=l.toArray.size by omega]at i;exact i
theorem Hk{M:Act→World→Prop}{d:Option Tmp}{c v:Value}:∀(k:Nat)(l:List Oper)(n:List (Value→World→Prop))(x s:List Value)(a:Act)(F G:Tmp→World→Prop),sE d l=true→(v=c→x=s)→
  (∀t w,G t w→F t w)→(∀t w,d=some t→G t w→v=c)→(∀t w,d≠some t→F t w→G t w)→(d=none→v=c)→
  mwS P ops C R M k l n x (a.put d c) F→mwS P ops C R M k l n s (a.put d v) G
 |_,[],n,x,s,a,F,G,_,L,y,p,_,K,h=>fun w B T=>by
  have:v=c:=by
   cases d with
   |none=>exact K rfl
   |some t=>exact p t w rfl (T t)
  rw[←L this]at B;rw[this];exact h w B fun t=>y t w (T t)
 |k,o::l,n,x,s,a,F,G,S,L,y,p,Y,K,h=>by
  simp only[sE,List.all_cons,bH,pS]at S;obtain⟨⟨g,W⟩,a0⟩:=S;have hs:∀N b,o.op≠.select N b:=fun N b e=>by rw[e]at W; simp at W
  have V:∀t,d=some t→o.dst≠some t:=fun t f e=>by
   rcases g with g|g
   .rw[f]at g; simp at g
   .rw[f,e]at g; simp at g
  refine⟨fun X w B hX Z Q E=>?_,fun u=>?_⟩
  .have O:=h.1 X w B hX Z (fun j t z U g I D=>by
    by_cases r:v=c
    .rw[←r]at D; exact Q j t z U g I D
    .have q:∀t,d=some t→t∉o.looksAt ops:=fun t f J=>r (p t w f (E t J));have H:iK (o.looksAt ops) a a:=fun _ _=>rfl;have:=((H.put_left q v).symm.put_left q c) t I;exact Q j t z U g I (by first |exact this.symm.trans D|exact this.trans D)) fun t f=>y t w (E t f)
   by_cases r:v=c
   .rw[r]; exact O
   .refine Eg hs ?_ (by rw[uA,uA]) O;have H:iK (o.looksAt ops) a a:=fun _ _=>rfl;have q:∀t,d=some t→t∉o.looksAt ops:=fun t f J=>r (p t w f (E t J));exact ((H.put_left q v).symm.put_left q c).symm
  .have e:∀z,(a.put d z).put o.dst u=(a.put o.dst u).put d z:=fun z=>Act.put_comm a z u fun t f=>V t f;rw[e];refine Hk (k+1) l n.tail (x++[u]) (s++[u]) (a.put o.dst u) (fun t w=>if o.dst=some t then (n.headD fun _ _=>True) u w else F t w) _ a0 (fun e=>by rw[L e]) (fun t w m=>?_) (fun t w f m=>?_) (fun t w f A=>?_) K ?_
   .split
    .rename_i i; rw[aK i]at m; exact m
    .rename_i i; rw[aF i]at m; exact y t w m
   .rw[aF (V t f)]at m;exact p t w f m
   .split
    .rename_i i; rw[aK i]at A; exact A
    .rename_i i; rw[aF i]at A; exact Y t w f A
   .rw[←e]; exact h.2 u
theorem bQ{k:Nat}{i:Act→World→Prop}{o:Oper}{l:List Oper}{g:List (Value→World→Prop)}{d:List Value}{a:Act}{F:Tmp→World→Prop}{c:Value}(s:sE o.dst l=true)(r:∀t w,o.dst=some t→F t w)
  (m:o.dst.isSome=true)
  (p:∀X w,C X w→X k=none→(∀j,iJ ops k j=true→(X j).isSome=true)→(∀j t z,iJ ops k j=true→fI ops j=some t→t∈o.looksAt ops→a.tmps[t]? =some z→X j=some z)→(∀t,t∈o.looksAt ops→F t w)→wpList P ops (oN a o.dst fun v n=>C (aY X k v) n∧R k w n∧v=c) [o] a w)
  (q:mwS P ops C R i (k+1) l g (d++[c]) (a.put o.dst c) F):mwS P ops C R i k (o::l) (isV c::g) d a F:=by
 refine⟨p,fun v=>?_⟩;refine Hk (k+1) l g (d++[c]) (d++[v]) a F _ s (fun e=>by rw[e]) (fun t w b=>?_) (fun t w f b=>?_) (fun t w f x=>?_) (fun h=>by rw[h]at m; simp at m) q
 .split at b
  .rename_i h; exact r t w h
  .exact b
 .simpa [f,isV] using b
 .rw[aF f];exact x
end
end
section
section
variable {α:Type}{enc:α→List Value}{w w':World}{base k:Nat}{t:TypeId}{v:Value}{l:List α}
theorem Hl(b:∀a,(enc a).length=k){j:Nat}(d:j<k){u:Value}{x':α}:∀(l:List α)(i:Nat)(c:i<l.length),enc x'=(enc l[i]).set j u→(aO enc l).set (i*k+j) u=aO enc (l.set i x')
 |x::l,0,_,h=>by
  have e1:aO enc (x::l)=enc x++aO enc l:=rfl;have e2:aO enc (x'::l)=enc x'++aO enc l:=rfl;rw[aC,e1,e2,show 0*k+j=j by omega,Mf _ _ (by rw[b]; exact d),h]; rfl
 |x::l,i+1,c,h=>by
  have e1:aO enc (x::l)=enc x++aO enc l:=rfl;have e2:aO enc (x::l.set i x')=enc x++aO enc (l.set i x'):=rfl;have e:(i+1)*k=i*k+k:=Nat.succ_mul i k;rw[aD,e1,e2,vU _ _ (by rw[b]; omega),b,show (i+1)*k+j-k=i*k+j by omega,Hl b d l i (by simpa using c) h]
theorem Ow.put{b n c:Nat}(h:Ow w base t k (.slice (some ⟨b,0,none⟩) n c) enc l)(m:∀a,(enc a).length=k)(i:Nat)(f:i<l.length){j:Nat}(g:j<k)(u:Value){x':α}(d:enc x'=(enc l[i]).set j u):
  Ow (w.setCell ⟨b,i*k+j,none⟩ u) base t k (.slice (some ⟨b,0,none⟩) n c) enc (l.set i x'):=by
 have o:n=l.length:=by
  rcases h.2 with⟨e,_⟩|⟨_,_,_,e,_⟩
  .cases e
  .injection e
 subst o;have:=Bd h (i*k+j) u;rw[Hl m g l i f d]at this;unfold Ow;rw[nM];exact this
theorem Ow.at_(h:Ow w base t k v enc l)(g:∀a,(enc a).length=k)(o:0<k)(D:0<l.length):∃b c,v=.slice (some ⟨b,0,none⟩) l.length c∧base≤b∧b<w.heap.size∧l.length≤c∧c≤maxLen∧
  (∀i(f:i<l.length) t u,(enc l[i])[t]? =some u→w.cell? ⟨b,i*k+t,none⟩=some u)∧∀j,w.frozen? ⟨b,j,none⟩=false:=by
 rcases h.2 with⟨_,e⟩|⟨b,c,C,m,q,d,x,s,_⟩
 .omega
 .refine⟨b,c,m,q,(eT.1 d).1,x,s,fun i f t u z=>?_,fun j=>?_⟩
  .obtain⟨A,c',n,y,_⟩:=h.sl g;obtain⟨B,E,p,_,r,_⟩:=dS (P:=prog) k g o y i f;rw[m]at n;injection n with e;rw[p]at e;injection e with e;injection e with e1 e2;subst e1 e2;have:=r t u z
   rwa [gL]at this
  .simp[World.frozen?,d]
end
def Apt(u v:Value):Prop:=∀i,u.ownBlock=some i→v.ownBlock≠some i
theorem Apt.symm{u v:Value}(h:Apt u v):Apt v u:=fun i b a=>h i a b
structure Rws(w:World)(base:Nat)(ps:List ObV):Prop where
 row:∀p∈ps,Ow w base 3 1 p.wv i1 p.x.ws∧Ow w base 3 1 p.lv i1 p.x.ls
 sep:(ps.flatMap fun p=>[p.wv,p.lv]).Pairwise Apt
section
variable {w w':World}{base g:Nat}{p:HpV}{ps:List ObV}
theorem Rws.below(h:Rws w base ps)(a:Bw' w w'):Rws w' base ps:=⟨fun p b=>⟨(h.row p b).1.below a,(h.row p b).2.below a⟩,h.sep⟩
theorem Rws.chg{S:Nat→Prop}(h:Rws w base ps)(e:Chg S w w')(d:∀p∈ps,∀i,S i→p.wv.ownBlock≠some i∧p.lv.ownBlock≠some i):Rws w' base ps:=
 ⟨fun p a=>⟨(h.row p a).1.chg e fun i b c=>(d p a i c).1 b,(h.row p a).2.chg e fun i b c=>(d p a i c).2 b⟩,h.sep⟩
theorem Rws.snoc{q:ObV}(h:Rws w base ps)(d:Ow w base 3 1 q.wv i1 q.x.ws)(e:Ow w base 3 1 q.lv i1 q.x.ls)(f:Apt q.wv q.lv)(g:∀p∈ps,Apt p.wv q.wv∧Apt p.wv q.lv∧Apt p.lv q.wv∧Apt p.lv q.lv):Rws w base (ps++[q]):=by
 refine⟨fun p a=>?_,?_⟩
 .rcases cV.1 a with a|a
  .exact h.row p a
  .rw[bZ.1 a]; exact⟨d,e⟩
 .rw[zC,rP];refine⟨h.sep,by simp[f],fun u b z c=>?_⟩;obtain⟨p,a,b⟩:=List.mem_flatMap.1 b;have:=g p a;simp only[mK,zD,fG,bD,dF,or_false]at c b;rcases b with rfl|rfl<;>rcases c with rfl|rfl
  .exact this.1
  .exact this.2.1
  .exact this.2.2.1
  .exact this.2.2.2
structure Wk(w:World)(base g:Nat)(t:TypeId)(p:HpV)(ps:List ObV):Prop where
 blk:Blk w g t p.cells
 lo:base≤g
 obs:Ow w base 264 5 p.ov ObV.cells ps
 rws:Rws w base ps
 eq:p.x.obs=ps.map (·.x)
 free:OR w (fun i=>base≤i) 262 2 p.fv Bk.cells p.x.free
theorem Wk.below{t:TypeId}(h:Wk w base g t p ps)(a:Bw' w w'):Wk w' base g t p ps:=⟨h.blk.below a h.blk.lt,h.lo,h.obs.below a,h.rws.below a,h.eq,h.free.below a⟩
theorem Wk.hpAt{t:TypeId}(h:Wk w base g t p ps):jB w w.heap.size p ps:=
 ⟨⟨h.obs.sl eV,fun p a=>⟨(h.rws.row p a).1.sl eG,(h.rws.row p a).2.sl eG⟩⟩,h.eq,h.free.sl⟩
end
def Bp(c v:Int):Value:=.agg #[.i c,.i v]
theorem Rz(c:Int)(w:World):Calls prog 232 #[.i c] w fun e w'=>e=.returned (Bp c 0)∧Bw' w w':=by
 have d:=kp (ba' w (.cells #[.i c,.i 0] 73));have f:=kp ((Blk.new w 73 [.i c,.i 0]).cell 0);have g:=kp ((Blk.new w 73 [.i c,.i 0]).cell 1);go_enter func232,ntmps232;go_wp2_with fail;have a:=f.o;have b:=g.o;simp only[aP,aZ]at a b;exact bI (v:=Bp c 0) (by simp[results,results232,go_sem,a,b,Bp]) rfl ⟨rfl,d.o⟩
theorem Ow.tag{α:Type}{enc:α→List Value}{w:World}{base k:Nat}{t:TypeId}{v:Value}{l:List α}(h:Ow w base t k v enc l){i:Nat}(a:v.ownBlock=some i):∃c f,w.heap[i]? =some (.cells c t f):=Lib.ownsRow_kind h i a
theorem Ow.apt{α β:Type}{enc:α→List Value}{b:β→List Value}{w:World}{base k base2 n:Nat}{t a:TypeId}{v v2:Value}{l:List α}{l2:List β}(h:Ow w base t k v enc l)(d:Ow w base2 a n v2 b l2)(m:t≠a):Apt v v2:=fun i g j=>by
 obtain⟨c,f,e⟩:=h.tag g;obtain⟨c2,o,e2⟩:=d.tag j;rw[e]at e2
 cases e2;exact m rfl
theorem Ow.apt_or{α β:Type}{enc:α→List Value}{b:β→List Value}{w:World}{base k n:Nat}{S:Nat→Prop}{t a:TypeId}{v v2:Value}{l:List α}{l2:List β}(h:Ow w base t k v enc l)(d:OR w S a n v2 b l2)(m:t≠a):Apt v v2:=fun i g j=>by
 obtain⟨c,f,e⟩:=h.tag g;obtain⟨c2,e2⟩:=aM.tag d j.symm;rw[e]at e2
 cases e2;exact m rfl
structure CB(W:World)(base b n c:Nat)(L:List ObV)(k:Nat)(y:ObV)(X:Nat→Option Value)(W':World):Prop where
 chg:Chg (fun i=>i=b) W W'
 two:∀u',X 11=some u'→∃u,X 8=some u∧Apt u u'∧Ow W' W.heap.size 3 1 u' i1 y.x.ls
 one:∀u,X 8=some u→Ow W' W.heap.size 3 1 u i1 y.x.ws
 row:∃L',Ow W' base 264 5 (.slice (some ⟨b,0,none⟩) n c) ObV.cells L'∧(X 14=none→L'=L)∧∀z,X 14=some z→∃u,X 8=some u∧L'=L.set k ⟨y.x,u,y.lv⟩
section
variable {W W' W2:World}{base b n c k:Nat}{L:List ObV}{y:ObV}{X:Nat→Option Value}{v:Value}
theorem CB.other(h:CB W base b n c L k y X W')(j:Nat)(v:Value)(a:j≠8)(d:j≠11)(f:j≠14):CB W base b n c L k y (aY X j v) W':=by
 have e:∀i,i≠j→aY X j v i=X i:=fun i g=>aF g;refine⟨h.chg,?_,?_,?_⟩
 .rw[e 11 (bM d),e 8 (bM a)]; exact h.two
 .rw[e 8 (bM a)]; exact h.one
 .rw[e 8 (bM a),e 14 (bM f)]; exact h.row
theorem CB.first(h:CB W base b n c L k y X W')(d:X 8=none)(q:Ow W2 W'.heap.size 3 1 v i1 y.x.ws)(f:Bw' W' W2):CB W base b n c L k y (aY X 8 v) W2:=by
 have e:∀i,i≠8→aY X 8 v i=X i:=fun i p=>aF p;refine⟨h.chg.then f,fun r a=>?_,fun u a=>?_,?_⟩
 .rw[e 11 (by decide)]at a;obtain⟨u,a,_⟩:=h.two r a;rw[d]at a
  cases a
 .cases a;exact Ow.mono q h.chg.size
 .obtain⟨j,l,m,o⟩:=h.row;refine⟨j,l.below f,by rw[e 14 (by decide)]; exact m,fun z g=>?_⟩;rw[e 14 (by decide)]at g;obtain⟨u,a,_⟩:=o z g;rw[d]at a
  cases a
theorem CB.second(h:CB W base b n c L k y X W')(p:(X 8).isSome=true)(g:Ow W2 W'.heap.size 3 1 v i1 y.x.ls)(d:Bw' W' W2):CB W base b n c L k y (aY X 11 v) W2:=by
 have e:∀i,i≠11→aY X 11 v i=X i:=fun i f=>aF f;refine⟨h.chg.then d,fun r a=>?_,?_,?_⟩
 .cases a;obtain⟨u,a⟩:=Option.isSome_iff_exists.1 p;refine⟨u,by rw[e 8 (by decide)]; exact a,fun i f q=>?_,Ow.mono g h.chg.size⟩;have:=((h.one u a).lt f).2;have:=(g.lt q).1;omega
 .rw[e 8 (by decide)]; exact fun u a=>(h.one u a).below d
 .obtain⟨j,l,m,o⟩:=h.row;exact⟨j,l.below d,by rw[e 14 (by decide)]; exact m,by rw[e 14 (by decide),e 8 (by decide)]; exact o⟩
theorem CB.third(h:CB W base b n c L k y X W'){u z:Value}(r:X 14=none)(q:X 8=some u)(A:k<L.length)(C:L[k]=y):CB W base b n c L k y (aY X 14 z) (W'.setCell ⟨b,k*5+3,none⟩ u):=by
 have e:∀i,i≠14→aY X 14 z i=X i:=fun i d=>aF d;obtain⟨o,g,p,_⟩:=h.row;obtain rfl:=p r;have l:Chg (fun i=>i=b) W' (W'.setCell ⟨b,k*5+3,none⟩ u):=(Chg.refl (fun i=>i=b) W').setCell (.inr rfl) _ _;refine⟨h.chg.setCell (.inr rfl) _ _,fun f a=>?_,fun f a=>?_,o.set k ⟨y.x,u,y.lv⟩,g.put eV k A (by decide:3<5) u (x':=⟨y.x,u,y.lv⟩) (by rw[C]; rfl),fun D=>?_,fun _ _=>⟨u,?_,rfl⟩⟩
 .rw[e 11 (by decide)]at a;obtain⟨E,B,s,m⟩:=h.two f a;exact⟨E,by rw[e 8 (by decide)]; exact B,s,m.chg l fun i d j=>g.apt m (by decide) i (by rw[j]; rfl) d⟩
 .rw[e 8 (by decide)]at a;exact (h.one f a).chg l fun i d j=>g.apt (h.one f a) (by decide) i (by rw[j]; rfl) d
 .cases D
 .rw[e 8 (by decide)]; exact q
end
def eQ(_ _:World):Prop:=True
theorem aV{w w':World}:eQ w w':=trivial
def dV(_:Value)(_:World):Prop:=True
def jK(w w':World):Prop:=Bw' w w'
theorem Sa(p:HpV)(ps:List ObV)(B:Nat)(w:World)(h:jB w B p ps)(hB:B≤w.heap.size)(hn:ps.length≤1000)(p6:p.x.free.length≤1000)(hr:∀q∈ps,q.x.ws.length≤1000∧q.x.ls.length≤1000):
  Calls prog 233 #[.agg p.cells.toArray] w fun e w'=>∃g p' ps',e=.returned (.pointer (some ⟨g,0,none⟩))∧p'.x=p.x∧Wk w' w.heap.size g 320 p' ps'∧Bw' w w':=by
 have hH:=eP.of (Blk.new w 40 p.cells);have q1:=hH.c1;have q7:=hH.c7;have b1:=ba' w (.cells p.cells.toArray 40);have HS:=kp (h.below b1 hB);have HB:=kp b1;have N:=kp hH;have a1:=kp (aB hB b1.size);have m2:=kp hr;have H0:=kp h;clear h hH b1 hr;obtain⟨n,hl⟩:=nm' ps.length;rw[hl]at hn;have V:=kp hl; clear hl;go_enter func233,ntmps233;go_wp2_with fail;generalize w.alloc (.cells p.cells.toArray 40)=W at *;have m4:=kp (fun(W':World)(F:Bw' W W')=>fam'3.2.2.2.2.2.1 p.ov ps B W' (HS.a.1.below F a1.o) (aB a1.o F.size) (by have:=V.o; omega) (fun x hx u hu=>by
  have:=(HS.a.2 x hx)
  unfold ObV.cells at hu;simp only[bD,dF,or_false]at hu;rcases hu with rfl|rfl|rfl|rfl|rfl
  .rfl
  .rfl
  .rfl
  .exact this.1.one
  .exact this.2.one))
 have j4:=kp (fun(W':World)(F:Bw' W W')=>fam'3.2.1 p.fv p.x.free B W' (HS.C.below F a1.o) (aB a1.o F.size) (by omega));clear q1 q7;refine fM 7 (fun W'=>Bw' W W') (fun _=>jK) (by kernel_rfl) (by kernel_rfl) (bL (aH _ _)) ?_
 iterate 2 (refine bE ?_; apply Exists.intro)
 refine bJ (fun u W'=>Ow W' W.heap.size 264 5 u ObV.cells ps) ?_
 iterate 2 (refine bE ?_; apply Exists.intro)
 refine bJ (fun u W'=>Ow W' W.heap.size 262 2 u Bk.cells p.x.free) ?_;refine bE ?_; apply Exists.intro;refine cC ⟨?pers,?walk⟩
 case walk=>
  iterate 2
   apply bB (by kernel_rfl) (by intro t w h; cases h; exact trivial) rfl
   .intro W' d j; have q1:=(N.o.below d).c1; go_wp2_with fail;exact⟨rfl,_,rfl,d,aH _ _,rfl⟩
   simp only[Act.put,aE,aC,aD]
  refine⟨fun W' d j=>?_,fun u=>?_⟩
  .go_wp2_with fail;refine (m4.o W' d).mono ?_;rintro e w2 ⟨v2,rfl,T,l⟩;go_wp2_with fail;exact⟨rfl,_,rfl,d.on l,l,Ow.mono T d.size⟩
  simp only[Act.put,aE,aC,aD]
  iterate 2
   apply bB (by kernel_rfl) (by intro t w h; cases h; exact trivial) rfl
   .intro W' d j; have q7:=(N.o.below d).c7; go_wp2_with fail;exact⟨rfl,_,rfl,d,aH _ _,rfl⟩
   simp only[Act.put,aE,aC,aD]
  refine⟨fun W' d j=>?_,fun u5=>?_⟩
  .go_wp2_with fail;refine (j4.o W' d).mono ?_;rintro e w2 ⟨v2,rfl,T,l⟩;go_wp2_with fail;exact⟨rfl,_,rfl,d.on l,l,Ow.mono T d.size⟩
  simp only[Act.put,aE,aC,aD];apply bB (by kernel_rfl) (by intro t w h; cases h; exact trivial) rfl
  .intro W' d j; go_wp2_with fail;exact⟨rfl,_,rfl,d,aH _ _,rfl⟩
  simp only[Act.put,aE,aC,aD];intro W3 d j;have f2:Ow W3 W.heap.size 264 5 u ObV.cells ps:=j 7;have f5:Ow W3 W.heap.size 262 2 u5 Bk.cells p.x.free:=j 10;clear j;simp only[bS,bU];obtain⟨A,c,rfl,-,o5,g6⟩:=f2.sl eV;rw[V.o]at f2 o5 ⊢;obtain⟨E,c5,rfl,-,-,-⟩:=f5.sl cO;have O:=N.o.below d;have j1:=((Chg.refl (fun i=>i=w.heap.size) W3).setCell (.inr rfl) 1 (.slice A n c)).setCell (.inr rfl) 7 (.slice E p.x.free.length c5);have l3:eP ((W3.setCell ⟨w.heap.size,1,none⟩ (.slice A n c)).setCell ⟨w.heap.size,7,none⟩ (.slice E p.x.free.length c5)) w.heap.size 40 ⟨p.x,.slice A n c,.slice E p.x.free.length c5⟩:=.of ((O.blk.setCell 1 (.slice A n c)).setCell 7 (.slice E p.x.free.length c5));have y1:=O.blk.frozen 1;have y7:=O.blk.frozen 7;have q1:=O.c1;have q7:=O.c7;have a4:w.heap.size<W.heap.size:=N.o.blk.lt;have g5:=kp a4;have g4:=kp ((HB.o.on d).trans (j1.below (fun i f=>nH f.symm) (by have:=O.blk.lt; omega)));have F2:=kp (f2.chg j1 fun i f e=>by have:=(f2.lt f).1; omega);have F5:=kp (show OR _ (fun i=>w.heap.size≤i) 262 2 _ Bk.cells p.x.free from OR.of_ow (f5.chg j1 fun i f e=>by have:=(f5.lt f).1; omega) fun i h _=>by omega);have z4:=kp l3;clear f2 f5 j1 l3 d O a4;go_wp2_with fail
  go_loopw [16] (fun i wr=>∃(k:Nat)(m:List ObV),i=.i k∧(k≤n∧m.length=k∧m.map (·.x)=(ps.take k).map (·.x))∧eP wr w.heap.size 40 ⟨p.x,.slice A n c,.slice E p.x.free.length c5⟩∧Ow wr W.heap.size 264 5 (.slice A n c) ObV.cells (m++ps.drop k)∧Rws wr W.heap.size m∧
   OR wr (fun i=>w.heap.size≤i) 262 2 (.slice E p.x.free.length c5) Bk.cells p.x.free∧Bw' w wr) (fun i _=>n-(intOf i).toNat)
  case atStart=>exact⟨0,[],rfl,⟨by omega,rfl,rfl⟩,z4.o,F2.o,⟨by simp,by simp⟩,F5.o,g4.o⟩
  case round=>
   obtain⟨k,m,rfl,hk,hI,ho,q3,hf,b3⟩:=hrel;have H:=kp hk;have r:=kp hI;have Y:=kp ho;have I:=kp q3;have HF:=kp hf;have M:=kp b3;have l6:=hk.1;clear hk hI ho q3 hf b3
   by_cases q5:k<n
   .have a2:(m++ps.drop k).length=n:=by have:=H.o; have:=V.o; simp; omega
    have m0:k<ps.length:=by have:=V.o; omega
    obtain⟨b,cb,hA,b6,e6,-,-,j3,j6⟩:=Y.o.at_ eV (by omega) (by omega);have s:k<(m++ps.drop k).length:=by rw[a2]; exact q5
    rw[a2]at hA;obtain⟨rfl,-,rfl⟩:=Value.slice.inj hA;have p1:(m++ps.drop k)[k]'s=ps[k]:=by
     rw[List.getElem_append_right (by rw[H.b]; exact aN _)];simp[H.b]
    have Q:=j3 k s;rw[p1]at Q;obtain⟨Aw,cw,Al,cl,z0,o0,-,m3,o3⟩:=Ay HS.a k m0;have x0:wr.cell? ⟨b,k*5+0,none⟩=some (.i ps[k].x.h):=Q 0 _ rfl;have x1:wr.cell? ⟨b,k*5+1,none⟩=some (.i ps[k].x.b.a):=Q 1 _ rfl;have x2:wr.cell? ⟨b,k*5+2,none⟩=some (.i ps[k].x.b.o):=Q 2 _ rfl;have x3:wr.cell? ⟨b,k*5+3,none⟩=some ps[k].wv:=Q 3 _ rfl;have x4:wr.cell? ⟨b,k*5+4,none⟩=some ps[k].lv:=Q 4 _ rfl;simp only[dW]at x0;have p4:=kp (show ps.drop k=ps[k]::ps.drop (k+1) from iF m0);have e5:=kp (show ps.take (k+1)=ps.take k++[ps[k]] from fE m0);have HM:=kp (show ps[k]∈ps from cU m0);have l2:=kp (show ∃h:k<(m++ps.drop k).length,(m++ps.drop k)[k]=ps[k] from⟨s,p1⟩);clear Q j3 hA p1 a2 s;generalize ps[k]'m0=y at *;have g3:(k:Int)<(n:Int):=by omega
    rw[z0]at x3;rw[o0]at x4;have z5:=k'2 z0 o0;have o6:y.x.ws.length≤9223372036854775807:=by unfold maxLen at m3; omega
    have m6:y.x.ls.length≤9223372036854775807:=by unfold maxLen at o3; omega
    have g2:gH (wr.alloc (.cells #[.i y.x.h,.i y.x.b.a,.i y.x.b.o,.slice Aw y.x.ws.length cw,.slice Al y.x.ls.length cl] 264)) wr.heap.size 264 y:=.of (by
     have:=Blk.new wr 264 y.cells;unfold ObV.cells at this;rw[z0,o0]at this;unfold ObV.cells;rw[z0,o0];exact this)
    have l:=ba' wr (.cells #[.i y.x.h,.i y.x.b.a,.i y.x.b.o,.slice Aw y.x.ws.length cw,.slice Al y.x.ls.length cl] 264);obtain⟨W2,z2⟩:=nm' (wr.alloc (.cells #[.i y.x.h,.i y.x.b.a,.i y.x.b.o,.slice Aw y.x.ws.length cw,.slice Al y.x.ls.length cl] 264));rw[z2]at g2 l;have j5:=kp g2;have G:=kp l;have o1:B≤wr.heap.size:=aB hB M.o.size;have g1:B≤W2.heap.size:=aB o1 G.o.size;have p2:=k'2 (((H0.a.2 y HM.o).1.below M.o hB).below G.o o1) (((H0.a.2 y HM.o).2.below M.o hB).below G.o o1);have o4:=kp (fun(W':World)(F:Below B W2 W')(U:W2.heap.size≤W'.heap.size)=>fam'3.1 y.wv y.x.ws B W' (p2.a.below F (aN _)) (aB g1 U) (by have:=m2.o y HM.o; omega));have l4:=kp (fun(W':World)(F:Below B W2 W')(U:W2.heap.size≤W'.heap.size)=>fam'3.1 y.lv y.x.ls B W' (p2.B.below F (aN _)) (aB g1 U) (by have:=m2.o y HM.o; omega));clear g2 l z0 o0 m3 o3;go_wp2_with fail;clear z2 x0 x1 x2 x3 x4;have q4:=kp (r.o.below G.o);have a5:=kp (Y.o.below G.o);have a3:w.heap.size≠b:=by have:=N.o.blk.lt; omega
    have m5:wr.heap.size≠b:=by omega
    have q2:B≤b:=by have:=N.o.blk.lt; omega
    have y4:=kp (fun(W':World)(h:Chg (fun i=>i=b) W2 W')=>(show eP W' w.heap.size 40 ⟨p.x,.slice (some ⟨b,0,none⟩) n c,.slice E p.x.free.length c5⟩ from .of (q4.o.blk.chg h a3)).c1);have o2:=kp (fun(W':World)(h:Chg (fun i=>i=b) W2 W')=>(show gH W' wr.heap.size 264 y from .of (j5.o.blk.chg h m5)));refine eY 15 (CB W2 W.heap.size b n c (m++ps.drop k) k y) (fun _=>eQ) (by kernel_rfl) (by kernel_rfl) ⟨(Chg.refl _ _).drew,(fun _ h=>by cases h),(fun _ h=>by cases h),_,a5.o.below (bL (aH _ _)),fun _=>rfl,fun _ h=>by cases h⟩ ?_
    iterate 8 (refine bE ?_; apply Exists.intro)
    refine bJ dV ?_
    iterate 2 (refine bE ?_; apply Exists.intro)
    refine bJ dV ?_
    iterate 2 (refine bE ?_; apply Exists.intro)
    refine bJ dV ?_;refine cC ⟨?pers2,?walk2⟩
    case walk2=>
     iterate 8
      apply bQ (by kernel_rfl) (by intro t w h; cases h; exact trivial) rfl
      .intro X W' d J D P j; have q1:W'.cell? ⟨w.heap.size,1,none⟩=some (.slice (some ⟨b,0,none⟩) n c):=y4.o W' d.chg; have x3:=(o2.o W' d.chg).c3; go_wp2_with fail;exact⟨rfl,_,rfl,d.other _ _ (by decide) (by decide) (by decide),aV,rfl⟩
      simp only[Act.put,aE,aC,aD,aS,aT]
     refine⟨fun X W' d J D P j=>?_,fun L=>?_⟩
     .go_wp2_with fail;refine (o4.o W' (d.chg.below (fun i f=>by rw[f]; exact q2) g1) d.chg.size).mono ?_;rintro e w2 ⟨v2,rfl,T,l⟩;go_wp2_with fail;exact⟨rfl,_,rfl,d.first J T l,aV,trivial⟩
     simp only[Act.put,aE,aC,aD,aS,aT]
     iterate 2
      apply bQ (by kernel_rfl) (by intro t w h; cases h; exact trivial) rfl
      .intro X W' d J D P j; have x4:=(o2.o W' d.chg).c4; go_wp2_with fail;exact⟨rfl,_,rfl,d.other _ _ (by decide) (by decide) (by decide),aV,rfl⟩
      simp only[Act.put,aE,aC,aD,aS,aT]
     refine⟨fun X W' d J D P j=>?_,fun a0=>?_⟩
     .go_wp2_with fail;refine (l4.o W' (d.chg.below (fun i f=>by rw[f]; exact q2) g1) d.chg.size).mono ?_;rintro e w2 ⟨v2,rfl,T,l⟩;go_wp2_with fail;exact⟨rfl,_,rfl,d.second (D 8 (by kernel_rfl)) T l,aV,trivial⟩
     simp only[Act.put,aE,aC,aD,aS,aT]
     iterate 2
      apply bQ (by kernel_rfl) (by intro t w h; cases h; exact trivial) rfl
      .intro X W' d J D P j; go_wp2_with fail;exact⟨rfl,_,rfl,d.other _ _ (by decide) (by decide) (by decide),aV,rfl⟩
      simp only[Act.put,aE,aC,aD,aS,aT]
     refine⟨fun X W' d J D P j=>?_,fun y5=>?_⟩
     .have h8:X 8=some L:=P 8 29 L (by kernel_rfl) (by kernel_rfl) (bO (by kernel_rfl)) rfl;obtain⟨A8,c8,rfl,-,-,-⟩:=Ow.sl (d.one L h8) eG;obtain⟨L',p3,y2,-⟩:=d.row;obtain rfl:=y2 J;obtain⟨s,z1⟩:=l2.o;obtain⟨b',l5,b0,-,-,-,-,j0,l0⟩:=p3.at_ eV (by omega) (by omega);have m1:=(Value.slice.inj b0).1;clear b0
      cases m1;have f3:=l0 (k*5+3);have e3:=j0 k s 3 y.wv (by rw[z1]; rfl);have b5:=kp (d.third (z:=undef) J h8 s z1);clear d p3 y2 l0 j0 P j D;go_wp2_with fail;exact⟨rfl,undef,rfl,b5.o,aV,trivial⟩
     simp only[Act.put,aS,aT];intro W5 d j;clear j;simp only[bS,bU];obtain⟨u,e8,e0,p0⟩:=d.two a0 rfl;obtain rfl:L=u:=by cases e8; rfl
     have b2:=d.one L rfl;obtain⟨L',q0,-,hL⟩:=d.row;obtain⟨u,e8,rfl⟩:=hL y5 rfl;obtain rfl:L=u:=by cases e8; rfl
     obtain⟨s,z1⟩:=l2.o;obtain⟨b',l5,b0,-,-,-,-,j0,l0⟩:=q0.at_ eV (by omega) (by rw[nM]; omega);have m1:=(Value.slice.inj b0).1;clear b0
     cases m1;have f4:=l0 (k*5+4);have e4:=j0 k (by rw[nM]; exact s) 4 y.lv (by rw[Mq]; rfl);obtain⟨j2,c11,rfl,-,-,-⟩:=Ow.sl p0 eG;obtain⟨a0,z3⟩:=nm' (Value.slice j2 y.x.ls.length c11);have y0:=q0.put eV k (by rw[nM]; exact s) (by decide:4<5) a0 (x':=⟨y.x,L,a0⟩) (by rw[Mq]; rfl);rw[List.set_set]at y0;have l1:Chg (fun i=>i=b) W5 (W5.setCell ⟨b,k*5+4,none⟩ a0):=(Chg.refl (fun i=>i=b) W5).setCell (.inr rfl) _ _;rw[z3]at e0 p0;have Z:=b2.chg l1 fun i f U=>q0.apt b2 (by decide) i (by rw[U]; rfl) f;have h2:=p0.chg l1 fun i f U=>q0.apt p0 (by decide) i (by rw[U]; rfl) f;have R:Chg (fun i=>i=b) wr (W5.setCell ⟨b,k*5+4,none⟩ a0):=((Chg.of_below G.o).trans d.chg fun _ _ h=>h).trans l1 fun _ _ h=>h;have HN:=k'5 y0 Z h2 e0 R;subst z3;clear y0 Z h2 e0 R l1 p0 b2 q0 hL d l0 j0 e8;go_wp2_with fail;go_roundw
     case rel=>
      obtain⟨y0,Z,h2,e0,R⟩:=HN.o;have y3:W.heap.size≤W2.heap.size:=by have:=G.o.size; omega
      refine⟨k+1,m++[⟨y.x,L,.slice j2 y.x.ls.length c11⟩],by go_num,⟨by omega,by rw[bF,H.b]; rfl,?_⟩,.of (r.o.blk.chg R a3),?_,?_,aM.chg HF.o R (fun i f e=>Y.o.apt_or HF.o (by decide) i (by rw[e]; rfl) f.symm),M.o.trans (R.below (fun i f=>by have:=N.o.blk.lt; omega) M.o.size)⟩
      .rw[e5.o,fW,fW,H.C]; rfl
      .refine y0.eqv ?_;rw[p4.o,vU _ _ (by rw[H.b]; exact aN _),H.b,tO,aC,cH]; rfl
      .refine (I.o.chg R fun q K i f=>⟨Y.o.apt (I.o.row q K).1 (by decide) i (by rw[f]; rfl),Y.o.apt (I.o.row q K).2 (by decide) i (by rw[f]; rfl)⟩).snoc (Z.mono y3) (h2.mono y3) e0 fun q K=>?_;have D:=(I.o.row q K).1;have hl:=(I.o.row q K).2;have:=G.o.size;refine⟨fun i f S=>?_,fun i f S=>?_,fun i f S=>?_,fun i f S=>?_⟩
       .have:=(D.lt f).2; have:=(Z.lt S).1; omega
       .have:=(D.lt f).2; have:=(h2.lt S).1; omega
       .have:=(hl.lt f).2; have:=(Z.lt S).1; omega
       .have:=(hl.lt f).2; have:=(h2.lt S).1; omega
     case measure=>simp[intOf]; omega
    case pers2=>exact⟨pv',pv',pv',pv',pv',pv',pv',pv',fun _ _ _ _ _ h _=>h,pv',pv',fun _ _ _ _ _ h _=>h,pv',pv',fun _ _ _ _ _ h _=>h,trivial⟩
   .obtain rfl:k=n:=by omega
    have d0:=r.o.c0;have d1:=r.o.c1;have d2:=r.o.c2;have d3:=r.o.c3;have d4:=r.o.c4;have d5:=r.o.c5;have d6:=r.o.c6;have d7:=r.o.c7;go_wp2_with fail;go_ret;have g0:=ba' wr (.cells (HpV.cells ⟨p.x,.slice A k c,.slice E p.x.free.length c5⟩).toArray 320);have p5:ps.drop k=[]:=kA (by have:=V.o; omega);have a6:=g5.o;refine⟨wr.heap.size,rfl,⟨p.x,.slice A k c,.slice E p.x.free.length c5⟩,rfl,⟨m,Blk.new _ _ _,M.o.size,?_,?_,?_,HF.o.below g0⟩,M.o.on g0⟩
    .exact ((Y.o.below g0).mono (by omega)).eqv (by rw[p5,fG])
    .exact⟨fun q K=>⟨((I.o.row q K).1.below g0).mono (by omega),((I.o.row q K).2.below g0).mono (by omega)⟩,I.o.sep⟩
    .rw[H.C,eF (by have:=V.o; omega)]; exact HS.b
 case pers=>
  refine⟨pv',pv',fun _ _ _ _ _ h hR=>h.below hR,pv',pv',fun _ _ _ _ _ h hR=>h.below hR,pv',trivial⟩
end
section
attribute [-go_sem] loadCellsFrom storeCells
attribute [local go_sem] aX
theorem HpV.one{p:HpV}(b:p.ov.oneCell'=true)(c:p.fv.oneCell'=true):∀u∈p.cells,u.oneCell'=true:=fun u a=>by
 unfold HpV.cells at a;simp only[bD,dF,or_false]at a;rcases a with rfl|rfl|rfl|rfl|rfl|rfl|rfl|rfl
 all_goals first |rfl|exact b|exact c
def Sb(o:Int):Hp:=if cZ o=true then ⟨o,1,0,0,0,0,[],[⟨0,o⟩]⟩ else ⟨0,0,0,0,0,0,[],[]⟩
end
end Go.Proofs.YtoncgpddjmgbfaaGreat
