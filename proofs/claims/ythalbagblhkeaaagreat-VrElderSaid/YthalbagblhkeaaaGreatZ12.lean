import Derived.Test.YthalbagblhkeaaaGreatZ05
import Derived.Test.YthalbagblhkeaaaGreatZ10
import Derived.Test.YthalbagblhkeaaaGreatZ11
namespace Go.Proofs.YthalbagblhkeaaaGreat
open Go.RowKit Go.Proofs.Tryz
set_option maxRecDepth 100000
set_option maxHeartbeats 12800000
set_option linter.unusedVariables false
set_option linter.unusedSimpArgs false
section
section
variable {P:Program}{ops:Array Oper}{C:(Nat→Option Value)→World→Prop}{R:Nat→World→World→Prop}
def bD(X:Nat→Option Value)(k:Nat)(v:Value)(j:Nat):Option Value:=if j=k then some v else X j
def mwS(P:Program)(ops:Array Oper)(C:(Nat→Option Value)→World→Prop)(R:Nat→World→World→Prop)(Qn:Act→World→Prop):Nat→List Oper→List (Value→World→Prop)→List Value→Act→(Tmp→World→Prop)→Prop
 |_,[],_,vs,a,F=>∀w,C (fun j=>vs[j]?) w→(∀t,F t w)→Qn a w
 |k,o::l,φs,vs,a,F=>
  (∀X w,C X w→X k=none→(∀j,iA ops k j=true→(X j).isSome=true)→(∀j t z,iA ops k j=true→fV ops j=some t→t∈o.looksAt ops→a.tmps[t]? =some z→X j=some z)→(∀t,t∈o.looksAt ops→F t w)→wpList P ops (nF a o.dst fun v w'=>C (bD X k v) w'∧R k w w'∧(φs.headD fun _ _=>True) v w') [o] a w)∧
  ∀v,mwS P ops C R Qn (k+1) l φs.tail (vs++[v]) (a.put o.dst v) (fun t w=>if o.dst=some t then (φs.headD fun _ _=>True) v w else F t w)
theorem Da{d:Act→World→Prop}{c:List (Value→World→Prop)}{a:Act}{L:List Oper}(e:∀j,j<L.length→L[j]? =ops[j]?)(h:mwS P ops C R d 0 L c [] a (fun _ _=>True))(x:Nat→Value):
  ∀i,i≤L.length→mwS P ops C R d i (L.drop i) (c.drop i) ((List.range i).map x) (dK ops a x (fun _=>true) i) (qT ops c x i)
 |0,_=>h
 |i+1,k=>by
  have f:=Da e h x i (by omega);have b:i<L.length:=by omega
  rw[fG b]at f;obtain⟨_,g⟩:=f;have e1:fV ops i=(L[i]).dst:=by simp[fV,←e i b,b]
  have:=g (x i);rw[xZ,List.tail_drop,←e1]at this;rw[dK];simpa [qT,Ac] using this
theorem Ji{a:Act}{x:Nat→Value}{j t:Nat}{z:Value}:∀i,j<i→fV ops j=some t→(∀c,c<i→c≠j→fV ops c≠some t)→(dK ops a x (fun _=>true) i).tmps[t]? =some z→z=x j
 |0,h,_,_,_=>absurd h (by omega)
 |i+1,h,f,l,b=>by
  unfold dK at b;rw[aE rfl]at b
  by_cases g:j=i
  .subst g;rw[f]at b;simp only[Act.put,Or]at b
   split at b
   .split at b
    .injection b with e; exact e.symm
    .cases b
   .rename_i m; exact absurd trivial m
  .refine Ji (a:=a) (x:=x) i (by omega) f (fun c n=>l c (by omega)) ?_;have k:=l i (by omega) (fun e=>g e.symm)
   cases hdi:fV ops i with
   |none=>rw[hdi]at b; exact b
   |some d=>
    rw[hdi]at b k;simp only[Act.put,Or]at b;rw[aC (fun e=>k (by rw[e]))]at b;exact b
theorem Uf{Qa:Exit→Act→World→Prop}{n:Nat}(hB:tA ops=true)(l1:n=ops.size∨(Region.sinkB .any ops n=true∧Region.chainB .any ops n=true∧n<ops.size))(hn:n≤ops.size)
  (hq:Region.seqB .any ops (ops.size-n) n ((List.range ops.size).map fun j=>decide (j<n)).toArray=true) {O:List (Value→World→Prop)} (y1:tP R 0 O) {a:Act}
  (h:mwS P ops C R (fun a' Z=>wpList P ops Qa (ops.toList.drop n) a' Z) 0 (ops.toList.take n) O [] a (fun _ _=>True)):
  ∀(A:Nat)(c:Array Bool)(x:Nat→Value)(w:World),HeadInv .any ops n c→((List.range n).filter fun j=> !c.getD j true).length=A→
   C (fun j=>if j<n∧c.getD j true=true then some (x j) else none) w→(∀j,j<n→c.getD j true=true→phi O j (x j) w)→wpAny P .any ops Qa (A+(ops.size-n)) c (dK ops a x (fun j=>c.getD j true) n) w:=by
 obtain⟨m1,T,H⟩:=Fs hB;have m0:(ops.toList.take n).length=n:=by simp; omega
 have b0:∀j,j<(ops.toList.take n).length→(ops.toList.take n)[j]? =ops[j]?:=fun j b=>by
  rw[m0]at b;simp[b]
 intro A
 induction A with
 |zero=>
  intro c x w p X G N;have B:∀j,j<n→c.getD j true=true:=fun j b=>by
   cases q:c.getD j true with
   |true=>rfl
   |false=>
    have:j∈(List.range n).filter fun j=> !c.getD j true:=List.mem_filter.2 ⟨List.mem_range.2 b,by simp only[q]; rfl⟩;rw[hJ X]at this; cases this
  have l:c=((List.range ops.size).map fun j=>decide (j<n)).toArray:=by
   apply Array.ext
   .simp[p.size]
   .intro j m S;simp only[List.getElem_toArray,kY,List.getElem_range]
    by_cases b:j<n
    .have:=B j b; simp[m]at this; simp[this,b]
    .have:=p.tail j (by omega) (by rw[←p.size]; exact m); simp[m]at this; simp[this,b]
  have D:=Da b0 h x n (by omega);rw[show (ops.toList.take n).drop n=[] from gS (by omega)]at D;have e:dK ops a x (fun j=>c.getD j true) n=dK ops a x (fun _=>true) n:=uQ _ (fun j b=>B j b) (fun _ _ _=>rfl);rw[e,hY];have o0:(fun j=>if j<n∧c.getD j true=true then some (x j) else none)=fun j=>((List.range n).map x)[j]?:=funext fun j=>by
   by_cases b:j<n
   .rw[aE ⟨b,B j b⟩]; simp[b]
   .rw[aC fun h=>b h.1]; simp[b]
  rw[o0]at G;have k:=D w G fun t=>uR _ _ _ _ _ fun j b _=>N j b (B j b);have:=wpAny_of_seq (md:=.any) (Q':=Qa) (ops.toList.drop n) n c _ w (fun j=>by simp[mG]) (by rw[l]; simpa using hq) k;simpa using this
 |succ A ih=>
  intro c x w p X G N;obtain⟨i0,e0,Y⟩:∃j,j<n∧c.getD j true=false:=by
   have:0<((List.range n).filter fun j=> !c.getD j true).length:=by omega
   obtain⟨j,b⟩:=List.exists_mem_of_length_pos this;have:=List.mem_filter.1 b;exact⟨j,List.mem_range.1 this.1,by simpa using this.2⟩
  rw[Nat.add_right_comm];refine⟨fun hr=>?_,fun i V=>?_⟩
  .exfalso
   have q1:∀j,j<n→c.getD j true=true:=fun j=>by
    induction j using Nat.strongRecOn with
    |ind j p1=>
     intro b
     cases q:c.getD j true with
     |true=>rfl
     |false=>
      exfalso
      obtain⟨o,g⟩:∃o,ops[j]? =some o:=⟨_,zO (by omega)⟩
      have:j∈Region.ready .any ops c:=mem_ready.2 ⟨q,o,g,fun e l y=>by
       have a1:=T j o g e l y;have:=p1 e.on a1 (by omega);simpa [show e.on<c.size by rw[p.size]; omega] using this⟩
      rw[hr]at this
      cases this
   rw[q1 i0 e0]at Y
   cases Y
  .obtain⟨F,o,g,B⟩:=mem_ready.1 V;have J:i<n:=by
    rcases mJ i n with s|s
    .exact s
    .rcases l1 with l|⟨hs,hc,d1⟩
     .have:=(fH.1 g).1; omega
     .exact absurd V (tail_waits hs hc d1 p _ i0 rfl e0 Y i s)
   have y0:fV ops i=o.dst:=by simp[fV,g]
   have g0:sZ ops i=o.looksAt ops:=by simp[sZ,g]
   have M:∀j,iA ops i j=true→c.getD j true=true:=fun j b=>by
    simp only[iA,g,kL,uG]at b;obtain⟨e,l,q⟩:=Array.any_eq_true'.1 b;simp only[bI,beq_iff_eq]at q;have m:=B e l q.1;rw[q.2]at m;rcases mJ j c.size with s|s
    .simp[s]at m ⊢; exact m
    .simp[Array.getElem?_eq_none s]at m
   have o1:∀j,j<n→iA ops j i=true→c.getD j true=false:=fun j b k=>by
    cases q:c.getD j true with
    |false=>rfl
    |true=>
     exfalso
     obtain⟨oj,j0⟩:∃o,ops[j]? =some o:=⟨_,zO (by omega)⟩
     simp only[iA,j0,kL,uG]at k;obtain⟨e,l,U⟩:=Array.any_eq_true'.1 k;simp only[bI,beq_iff_eq]at U;have:=p.closed j oj j0 (by simpa [show j<c.size by rw[p.size]; omega] using q) e l U.1;rw[U.2,getD_both F]at this
     cases this
   have D:=Da b0 h x i (by omega);rw[fG (show i<(ops.toList.take n).length by omega)]at D;have g1:(ops.toList.take n)[i]'(by omega)=o:=by
    have:=(fH.1 g).2;simpa using this
   rw[g1]at D;have l0:=D.1 _ w G (aC fun h=>by rw[F]at h; simp at h) (fun j b=>by
    obtain⟨e,l,y⟩:∃e∈o.after,(Region.binds .any e&&e.on==j)=true:=by
     simp only[iA,g,kL,uG]at b;exact Array.any_eq_true'.1 b
    simp only[bI,beq_iff_eq]at y;have:=T i o g e l y.1;rw[aE ⟨by omega,M j b⟩];rfl) (fun j t z b r _ hz=>by
    have z0:=M j b;have f:j<i:=by
     simp only[iA,g,kL,uG]at b;obtain⟨e,l,y⟩:=Array.any_eq_true'.1 b;simp only[bI,beq_iff_eq]at y;have:=T i o g e l y.1;omega
    rw[aE ⟨by omega,z0⟩,Ji i f r (fun j' z1 E S=>(H j' j t (by omega) (by omega) E r).1 S) hz]) (fun t ht=>uR _ _ _ _ _ fun j b r=>by
    rcases (H i j t (by omega) (by omega) (by omega) r).2 (g0▸ht) with⟨_,k⟩|⟨S,_⟩
    .exact N j (by omega) (M j k)
    .omega)
   rw[xZ]at l0;have d0:iR (o.looksAt ops) (dK ops a x (fun j=>c.getD j true) n) (dK ops a x (fun _=>true) i):=by
    rw[←Fr a x i n (by omega)];refine Az _ fun j b E d r b1=>?_
    by_cases f:j=i
    .subst f;apply E;simp only[F];simp
    .rcases (H i j d (by omega) (by omega) (fun e=>f e.symm) r).2 (g0▸b1) with⟨m,k⟩|⟨m,k⟩
     .apply E;rw[M j k];simp[m]
     .apply E;rw[o1 j b k];simp; omega
   unfold wpOp;simp only[g];have L:=Bc (Q:=Qa) (K:=wpAny P .any ops Qa (A+(ops.size-n)) (c.setIfInBounds i true)) (Ba (Region.noSelect_spec m1 i o · · g) d0) (by rw[pH,pH]) l0 (Bb d0) (fun v Z hR=>by
    obtain⟨a0,q0,j1⟩:=hR;rw[←y0,Ay (a:=a) (x:=x) (v:=v) F n J (fun j b f d r=>(H i j d (by omega) (by omega) (fun e=>f e.symm) r).1)];have I:∀j,(c.setIfInBounds i true).getD j true=(j==i||c.getD j true):=fun j=>by
     by_cases f:j=i
     .subst f; simp[show j<c.size by rw[p.size]; omega]
     .rw[getD_set_ne true (fun e=>f e.symm)]; simp[f]
    have ef:(fun j=>j==i||c.getD j true)=fun j=>(c.setIfInBounds i true).getD j true:=funext fun j=>(I j).symm;rw[ef];have p0:(fun j=>if j<n∧(c.setIfInBounds i true).getD j true=true then some (upd x i v j) else none)=bD (fun j=>if j<n∧c.getD j true=true then some (x j) else none) i v:=funext fun j=>by
     unfold bD;rw[I j]
     by_cases f:j=i
     .subst f; simp[upd,J]
     .simp[upd,f]
    rw[←p0]at a0;refine ih (c.setIfInBounds i true) (upd x i v) Z (p.set V J) ?_ a0 (fun j b W=>?_)
    .have e3:((List.range n).filter fun j=> !(c.setIfInBounds i true).getD j true)=((List.range n).filter fun j=> !c.getD j true).erase i:=by
      rw[List.Nodup.erase_eq_filter (List.nodup_range.filter _),List.filter_filter];apply List.filter_congr;intro j _;rw[I j]
      cases b:(j==i)<;>simp[bne,b]
     rw[e3,List.length_erase_of_mem (List.mem_filter.2 ⟨List.mem_range.2 J,by simp only[F]; rfl⟩),X];rfl
    .by_cases f:j=i
     .subst f; simpa [upd] using j1
     .rw[I j]at W;simp only[beq_iff_eq,f,sV,false_or]at W;simp only[upd,f,if_false];exact Cu O 0 y1 j i _ _ _ (by omega) (N j b W) q0)
   split
   .rename_i k;rw[aE k]at L;exact .inl L
   .rename_i k;rw[aC k]at L;exact L
def myB(ops:Array Oper)(n:Nat):Bool:=tA ops&&((n==ops.size||(Region.sinkB .any ops n&&(Region.chainB .any ops n&&decide (n<ops.size))))&&(decide (n≤ops.size)&&Region.seqB .any ops (ops.size-n) n ((List.range ops.size).map fun j=>decide (j<n)).toArray))
theorem fR{id:Nat}{Q:Exit→Act→World→Prop}{l:List Oper}{a:Act}{w:World}(n:Nat)(C:(Nat→Option Value)→World→Prop)(R:Nat→World→World→Prop)(y:P.follows .mixedOrders=true)(f:myB l.toArray n=true)(s:C (fun _=>none) w.drew)
  (h:∃c:List (Value→World→Prop),tP R 0 c∧mwS P l.toArray C R (fun m D=>wpList P l.toArray Q (l.drop n) m D) 0 (l.take n) c [] a (fun _ _=>True)):(Code.region id l.toArray true).wp P Q a w:=by
 obtain⟨c,z,h⟩:=h;simp only[myB,bI,sV,beq_iff_eq,bP]at f;obtain⟨o,p,d,q⟩:=f;refine wp_region_any y ?_;have G:n≤l.length:=by simpa using d
 have i:=Uf (Qa:=Q) o p d q z (a:=a) (by simpa using h) n (Array.replicate l.toArray.size false) (fun _=>undef) w.drew
  ⟨by simp,fun j H _ b=>(by rw[getD_replicate_false]at b; cases b),fun t _ A=>getD_in (by simpa using A) (getD_replicate_false _ _)⟩
  (by rw[List.filter_eq_self.2 (fun j g=>by simp only[List.mem_range]at g; simp[show j<l.length by omega])]; simp) (by
   have x:(fun j=>if j<n∧(Array.replicate l.toArray.size false).getD j true=true then some undef else none)=fun _=>none:=funext fun j=>aC fun⟨E,r⟩=>by simp[show j<l.length by omega]at r
   rw[x]; exact s)
  (fun j g b=>by simp[show j<l.length by omega]at b)
 have e:∀k,k≤n→dK l.toArray a (fun _=>undef) (fun j=>(Array.replicate l.toArray.size false).getD j true) k=a:=by
  intro k
  induction k with
  |zero=>intro _; rfl
  |succ k B=>
   intro F;rw[dK];have:(Array.replicate l.toArray.size false).getD k true=false:=by simp[show k<l.length by omega]
   rw[this];exact B (by omega)
 rw[e n (aD _),show n+(l.toArray.size-n)=l.toArray.size by omega]at i;exact i
theorem Jj{M:Act→World→Prop}{d:Option Tmp}{c v:Value}:∀(k:Nat)(l:List Oper)(n:List (Value→World→Prop))(x s:List Value)(a:Act)(F G:Tmp→World→Prop),pI d l=true→(v=c→x=s)→
  (∀t w,G t w→F t w)→(∀t w,d=some t→G t w→v=c)→(∀t w,d≠some t→F t w→G t w)→(d=none→v=c)→
  mwS P ops C R M k l n x (a.put d c) F→mwS P ops C R M k l n s (a.put d v) G
 |_,[],n,x,s,a,F,G,_,L,y,p,_,K,h=>fun w B T=>by
  have:v=c:=by
   cases d with
   |none=>exact K rfl
   |some t=>exact p t w rfl (T t)
  rw[←L this]at B;rw[this];exact h w B fun t=>y t w (T t)
 |k,o::l,n,x,s,a,F,G,S,L,y,p,Y,K,h=>by
  simp only[pI,List.all_cons,bI,sV]at S;obtain⟨⟨g,W⟩,a0⟩:=S;have hs:∀N b,o.op≠.select N b:=fun N b e=>by rw[e]at W; simp at W
  have V:∀t,d=some t→o.dst≠some t:=fun t f e=>by
   rcases g with g|g
   .rw[f]at g; simp at g
   .rw[f,e]at g; simp at g
  refine⟨fun X w B hX Z Q E=>?_,fun u=>?_⟩
  .have O:=h.1 X w B hX Z (fun j t z U g I D=>by
    by_cases r:v=c
    .rw[←r]at D; exact Q j t z U g I D
    .have q:∀t,d=some t→t∉o.looksAt ops:=fun t f J=>r (p t w f (E t J));have H:iR (o.looksAt ops) a a:=fun _ _=>rfl;have:=((H.put_left q v).symm.put_left q c) t I;exact Q j t z U g I (by first |exact this.symm.trans D|exact this.trans D)) fun t f=>y t w (E t f)
   by_cases r:v=c
   .rw[r]; exact O
   .refine Ft hs ?_ (by rw[uP,uP]) O;have H:iR (o.looksAt ops) a a:=fun _ _=>rfl;have q:∀t,d=some t→t∉o.looksAt ops:=fun t f J=>r (p t w f (E t J));exact ((H.put_left q v).symm.put_left q c).symm
  .have e:∀z,(a.put d z).put o.dst u=(a.put o.dst u).put d z:=fun z=>Act.put_comm a z u fun t f=>V t f;rw[e];refine Jj (k+1) l n.tail (x++[u]) (s++[u]) (a.put o.dst u) (fun t w=>if o.dst=some t then (n.headD fun _ _=>True) u w else F t w) _ a0 (fun e=>by rw[L e]) (fun t w m=>?_) (fun t w f m=>?_) (fun t w f A=>?_) K ?_
   .split
    .rename_i i; rw[aE i]at m; exact m
    .rename_i i; rw[aC i]at m; exact y t w m
   .rw[aC (V t f)]at m;exact p t w f m
   .split
    .rename_i i; rw[aE i]at A; exact A
    .rename_i i; rw[aC i]at A; exact Y t w f A
   .rw[←e]; exact h.2 u
theorem Ug{k:Nat}{i:Act→World→Prop}{o:Oper}{l:List Oper}{g:List (Value→World→Prop)}{d:List Value}{a:Act}{F:Tmp→World→Prop}{c:Value}(s:pI o.dst l=true)(r:∀t w,o.dst=some t→F t w)
  (m:o.dst.isSome=true)
  (p:∀X w,C X w→X k=none→(∀j,iA ops k j=true→(X j).isSome=true)→(∀j t z,iA ops k j=true→fV ops j=some t→t∈o.looksAt ops→a.tmps[t]? =some z→X j=some z)→(∀t,t∈o.looksAt ops→F t w)→wpList P ops (nF a o.dst fun v n=>C (bD X k v) n∧R k w n∧v=c) [o] a w)
  (q:mwS P ops C R i (k+1) l g (d++[c]) (a.put o.dst c) F):mwS P ops C R i k (o::l) (isV c::g) d a F:=by
 refine⟨p,fun v=>?_⟩;refine Jj (k+1) l g (d++[c]) (d++[v]) a F _ s (fun e=>by rw[e]) (fun t w b=>?_) (fun t w f b=>?_) (fun t w f x=>?_) (fun h=>by rw[h]at m; simp at m) q
 .split at b
  .rename_i h; exact r t w h
  .exact b
 .simpa [f,isV] using b
 .rw[aC f];exact x
end
end
section
section
variable {α:Type}{enc:α→List Value}{w w':World}{base k:Nat}{t:TypeId}{v:Value}{l:List α}
theorem Jk(b:∀a,(enc a).length=k){j:Nat}(e:j<k){u:Value}{x':α}:∀(l:List α)(i:Nat)(d:i<l.length),enc x'=(enc l[i]).set j u→(aM enc l).set (i*k+j) u=aM enc (l.set i x')
 |x::l,0,_,h=>by
  have e1:aM enc (x::l)=enc x++aM enc l:=rfl;have c:aM enc (x'::l)=enc x'++aM enc l:=rfl;rw[aH,e1,c,show 0*k+j=j by omega,zT _ _ (by rw[b]; exact e),h]; rfl
 |x::l,i+1,d,h=>by
  have e1:aM enc (x::l)=enc x++aM enc l:=rfl;have c:aM enc (x::l.set i x')=enc x++aM enc (l.set i x'):=rfl;have f:(i+1)*k=i*k+k:=Nat.succ_mul i k;rw[aI,e1,c,qM _ _ (by rw[b]; omega),b,show (i+1)*k+j-k=i*k+j by omega,Jk b e l i (by simpa using d) h]
theorem Ow.put{b n c:Nat}(h:Ow w base t k (.slice (some ⟨b,0,none⟩) n c) enc l)(m:∀a,(enc a).length=k)(i:Nat)(f:i<l.length){j:Nat}(g:j<k)(u:Value){x':α}(d:enc x'=(enc l[i]).set j u):
  Ow (w.setCell ⟨b,i*k+j,none⟩ u) base t k (.slice (some ⟨b,0,none⟩) n c) enc (l.set i x'):=by
 have o:n=l.length:=by
  rcases h.2 with⟨e,_⟩|⟨_,_,_,e,_⟩
  .cases e
  .injection e
 subst o;have:=Cs h (i*k+j) u;rw[Jk m g l i f d]at this;unfold Ow;rw[mI];exact this
theorem Ow.at_(h:Ow w base t k v enc l)(g:∀a,(enc a).length=k)(p:0<k)(F:0<l.length):∃b c,v=.slice (some ⟨b,0,none⟩) l.length c∧base≤b∧b<w.heap.size∧l.length≤c∧c≤maxLen∧
  (∀i(f:i<l.length) t u,(enc l[i])[t]? =some u→w.cell? ⟨b,i*k+t,none⟩=some u)∧∀j,w.frozen? ⟨b,j,none⟩=false:=by
 rcases h.2 with⟨_,e⟩|⟨b,c,E,m,r,d,y,x,_⟩
 .omega
 .refine⟨b,c,m,r,(fH.1 d).1,y,x,fun i f t u B=>?_,fun j=>?_⟩
  .obtain⟨A,D,n,z,_⟩:=h.sl g;obtain⟨C,G,q,_,s,_⟩:=bV (P:=prog) k g p z i f;rw[m]at n;injection n with e;rw[q]at e;injection e with e;injection e with e1 o;subst e1 o;have:=s t u B
   rwa [hY]at this
  .simp[World.frozen?,d]
end
def Apt(u v:Value):Prop:=∀i,u.ownBlock=some i→v.ownBlock≠some i
theorem Apt.symm{u v:Value}(h:Apt u v):Apt v u:=fun i b a=>h i a b
structure Rws(w:World)(base:Nat)(ps:List ObV):Prop where
 row:∀p∈ps,Ow w base 3 1 p.wv i1 p.x.ws∧Ow w base 3 1 p.lv i1 p.x.ls
 sep:(ps.flatMap fun p=>[p.wv,p.lv]).Pairwise Apt
section
variable {w w':World}{base g:Nat}{p:HpV}{ps:List ObV}
theorem Rws.below(h:Rws w base ps)(a:Bw' w w'):Rws w' base ps:=⟨fun p b=>⟨(h.row p b).1.below a,(h.row p b).2.below a⟩,h.sep⟩
theorem Rws.chg{S:Nat→Prop}(h:Rws w base ps)(e:Chg S w w')(d:∀p∈ps,∀i,S i→p.wv.ownBlock≠some i∧p.lv.ownBlock≠some i):Rws w' base ps:=
 ⟨fun p a=>⟨(h.row p a).1.chg e fun i b c=>(d p a i c).1 b,(h.row p a).2.chg e fun i b c=>(d p a i c).2 b⟩,h.sep⟩
theorem Rws.snoc{q:ObV}(h:Rws w base ps)(d:Ow w base 3 1 q.wv i1 q.x.ws)(e:Ow w base 3 1 q.lv i1 q.x.ls)(f:Apt q.wv q.lv)(g:∀p∈ps,Apt p.wv q.wv∧Apt p.wv q.lv∧Apt p.lv q.wv∧Apt p.lv q.lv):Rws w base (ps++[q]):=by
 refine⟨fun p a=>?_,?_⟩
 .rcases dF.1 a with a|a
  .exact h.row p a
  .rw[bQ.1 a]; exact⟨d,e⟩
 .rw[zV,pB];refine⟨h.sep,by simp[f],fun u b z c=>?_⟩;obtain⟨p,a,b⟩:=List.mem_flatMap.1 b;have:=g p a;simp only[nC,zZ,fS,bA,dW,or_false]at c b;rcases b with rfl|rfl<;>rcases c with rfl|rfl
  .exact this.1
  .exact this.2.1
  .exact this.2.2.1
  .exact this.2.2.2
structure Wk(w:World)(base g:Nat)(t:TypeId)(p:HpV)(ps:List ObV):Prop where
 blk:Blk w g t p.cells
 lo:base≤g
 obs:Ow w base 152 5 p.ov ObV.cells ps
 rws:Rws w base ps
 eq:p.x.obs=ps.map (·.x)
 free:OR w (fun i=>base≤i) 150 2 p.fv Bk.cells p.x.free
theorem Wk.below{t:TypeId}(h:Wk w base g t p ps)(a:Bw' w w'):Wk w' base g t p ps:=⟨h.blk.below a h.blk.lt,h.lo,h.obs.below a,h.rws.below a,h.eq,h.free.below a⟩
theorem Wk.hpAt{t:TypeId}(h:Wk w base g t p ps):gH w w.heap.size p ps:=
 ⟨⟨h.obs.sl cM,fun p a=>⟨(h.rws.row p a).1.sl cS,(h.rws.row p a).2.sl cS⟩⟩,h.eq,h.free.sl⟩
end
def Db(c v:Int):Value:=.agg #[.i c,.i v]
theorem Uh(c:Int)(w:World):Calls prog 152 #[.i c] w fun e w'=>e=.returned (Db c 0)∧Bw' w w':=by
 have d:=kp (ba' w (.cells #[.i c,.i 0] 46));have f:=kp ((Blk.new w 46 [.i c,.i 0]).cell 0);have g:=kp ((Blk.new w 46 [.i c,.i 0]).cell 1);go_enter func152,ntmps152;go_wp2_with fail;have a:=f.o;have b:=g.o;simp only[aG,aK]at a b;exact aU (v:=Db c 0) (by simp[results,results152,go_sem,a,b,Db]) rfl ⟨rfl,d.o⟩
theorem Ow.tag{α:Type}{enc:α→List Value}{w:World}{base k:Nat}{t:TypeId}{v:Value}{l:List α}(h:Ow w base t k v enc l){i:Nat}(a:v.ownBlock=some i):∃c f,w.heap[i]? =some (.cells c t f):=Lib.ownsRow_kind h i a
theorem Ow.apt{α β:Type}{enc:α→List Value}{d:β→List Value}{w:World}{base k base2 o:Nat}{t b:TypeId}{v v2:Value}{l:List α}{l2:List β}(h:Ow w base t k v enc l)(g:Ow w base2 b o v2 d l2)(n:t≠b):Apt v v2:=fun i j m=>by
 obtain⟨c,f,e⟩:=h.tag j;obtain⟨c2,p,a⟩:=g.tag m;rw[e]at a
 cases a;exact n rfl
theorem Ow.apt_or{α β:Type}{enc:α→List Value}{d:β→List Value}{w:World}{base k o:Nat}{S:Nat→Prop}{t b:TypeId}{v v2:Value}{l:List α}{l2:List β}(h:Ow w base t k v enc l)(g:OR w S b o v2 d l2)(n:t≠b):Apt v v2:=fun i j m=>by
 obtain⟨c,f,e⟩:=h.tag j;obtain⟨c2,a⟩:=aO.tag g m.symm;rw[e]at a
 cases a;exact n rfl
structure CB(W:World)(base b n c:Nat)(L:List ObV)(k:Nat)(y:ObV)(X:Nat→Option Value)(W':World):Prop where
 chg:Chg (fun i=>i=b) W W'
 two:∀u',X 11=some u'→∃u,X 8=some u∧Apt u u'∧Ow W' W.heap.size 3 1 u' i1 y.x.ls
 one:∀u,X 8=some u→Ow W' W.heap.size 3 1 u i1 y.x.ws
 row:∃L',Ow W' base 152 5 (.slice (some ⟨b,0,none⟩) n c) ObV.cells L'∧(X 14=none→L'=L)∧∀z,X 14=some z→∃u,X 8=some u∧L'=L.set k ⟨y.x,u,y.lv⟩
section
variable {W W' W2:World}{base b n c k:Nat}{L:List ObV}{y:ObV}{X:Nat→Option Value}{v:Value}
theorem CB.other(h:CB W base b n c L k y X W')(j:Nat)(v:Value)(a:j≠8)(d:j≠11)(f:j≠14):CB W base b n c L k y (bD X j v) W':=by
 have e:∀i,i≠j→bD X j v i=X i:=fun i g=>aC g;refine⟨h.chg,?_,?_,?_⟩
 .rw[e 11 (bL d),e 8 (bL a)]; exact h.two
 .rw[e 8 (bL a)]; exact h.one
 .rw[e 8 (bL a),e 14 (bL f)]; exact h.row
theorem CB.first(h:CB W base b n c L k y X W')(d:X 8=none)(q:Ow W2 W'.heap.size 3 1 v i1 y.x.ws)(f:Bw' W' W2):CB W base b n c L k y (bD X 8 v) W2:=by
 have e:∀i,i≠8→bD X 8 v i=X i:=fun i p=>aC p;refine⟨h.chg.then f,fun r a=>?_,fun u a=>?_,?_⟩
 .rw[e 11 (by decide)]at a;obtain⟨u,a,_⟩:=h.two r a;rw[d]at a
  cases a
 .cases a;exact Ow.mono q h.chg.size
 .obtain⟨j,l,m,o⟩:=h.row;refine⟨j,l.below f,by rw[e 14 (by decide)]; exact m,fun z g=>?_⟩;rw[e 14 (by decide)]at g;obtain⟨u,a,_⟩:=o z g;rw[d]at a
  cases a
theorem CB.second(h:CB W base b n c L k y X W')(p:(X 8).isSome=true)(g:Ow W2 W'.heap.size 3 1 v i1 y.x.ls)(d:Bw' W' W2):CB W base b n c L k y (bD X 11 v) W2:=by
 have e:∀i,i≠11→bD X 11 v i=X i:=fun i f=>aC f;refine⟨h.chg.then d,fun r a=>?_,?_,?_⟩
 .cases a;obtain⟨u,a⟩:=Option.isSome_iff_exists.1 p;refine⟨u,by rw[e 8 (by decide)]; exact a,fun i f q=>?_,Ow.mono g h.chg.size⟩;have:=((h.one u a).lt f).2;have:=(g.lt q).1;omega
 .rw[e 8 (by decide)]; exact fun u a=>(h.one u a).below d
 .obtain⟨j,l,m,o⟩:=h.row;exact⟨j,l.below d,by rw[e 14 (by decide)]; exact m,by rw[e 14 (by decide),e 8 (by decide)]; exact o⟩
theorem CB.third(h:CB W base b n c L k y X W'){u z:Value}(r:X 14=none)(q:X 8=some u)(A:k<L.length)(C:L[k]=y):CB W base b n c L k y (bD X 14 z) (W'.setCell ⟨b,k*5+3,none⟩ u):=by
 have e:∀i,i≠14→bD X 14 z i=X i:=fun i d=>aC d;obtain⟨o,g,p,_⟩:=h.row;obtain rfl:=p r;have l:Chg (fun i=>i=b) W' (W'.setCell ⟨b,k*5+3,none⟩ u):=(Chg.refl (fun i=>i=b) W').setCell (.inr rfl) _ _;refine⟨h.chg.setCell (.inr rfl) _ _,fun f a=>?_,fun f a=>?_,o.set k ⟨y.x,u,y.lv⟩,g.put cM k A (by decide:3<5) u (x':=⟨y.x,u,y.lv⟩) (by rw[C]; rfl),fun D=>?_,fun _ _=>⟨u,?_,rfl⟩⟩
 .rw[e 11 (by decide)]at a;obtain⟨E,B,s,m⟩:=h.two f a;exact⟨E,by rw[e 8 (by decide)]; exact B,s,m.chg l fun i d j=>g.apt m (by decide) i (by rw[j]; rfl) d⟩
 .rw[e 8 (by decide)]at a;exact (h.one f a).chg l fun i d j=>g.apt (h.one f a) (by decide) i (by rw[j]; rfl) d
 .cases D
 .rw[e 8 (by decide)]; exact q
end
def fK(_ _:World):Prop:=True
theorem aV{w w':World}:fK w w':=trivial
def eM(_:Value)(_:World):Prop:=True
def rM(w w':World):Prop:=Bw' w w'
theorem Ui(p:HpV)(ps:List ObV)(B:Nat)(w:World)(h:gH w B p ps)(hB:B≤w.heap.size)(hn:ps.length≤1000)(p6:p.x.free.length≤1000)(hr:∀q∈ps,q.x.ws.length≤1000∧q.x.ls.length≤1000):
  Calls prog 153 #[.agg p.cells.toArray] w fun e w'=>∃g p' q5,e=.returned (.pointer (some ⟨g,0,none⟩))∧p'.x=p.x∧Wk w' w.heap.size g 208 p' q5∧Bw' w w':=by
 have hH:=cI.of (Blk.new w 29 p.cells);have q1:=hH.c1;have q7:=hH.c7;have b1:=ba' w (.cells p.cells.toArray 29);have HS:=kp (h.below b1 hB);have HB:=kp b1;have N:=kp hH;have a1:=kp (aB hB b1.size);have l2:=kp hr;have H0:=kp h;clear h hH b1 hr;obtain⟨n,hl⟩:=nm' ps.length;rw[hl]at hn;have V:=kp hl; clear hl;go_enter func153,ntmps153;go_wp2_with fail;generalize w.alloc (.cells p.cells.toArray 29)=W at *;have l4:=kp (fun(W':World)(F:Bw' W W')=>fam'4.2.2.2.2.2.1 p.ov ps B W' (HS.a.1.below F a1.o) (aB a1.o F.size) (by have:=V.o; omega) (fun x hx u hu=>by
  have:=(HS.a.2 x hx)
  unfold ObV.cells at hu;simp only[bA,dW,or_false]at hu;rcases hu with rfl|rfl|rfl|rfl|rfl
  .rfl
  .rfl
  .rfl
  .exact this.1.one
  .exact this.2.one))
 have g4:=kp (fun(W':World)(F:Bw' W W')=>fam'4.2.1 p.fv p.x.free B W' (HS.C.below F a1.o) (aB a1.o F.size) (by omega));clear q1 q7;refine kU 7 (fun W'=>Bw' W W') (fun _=>rM) (by kernel_rfl) (by kernel_rfl) (bR (aL _ _)) ?_
 iterate 2 (refine bO ?_; apply Exists.intro)
 refine bS (fun u W'=>Ow W' W.heap.size 152 5 u ObV.cells ps) ?_
 iterate 2 (refine bO ?_; apply Exists.intro)
 refine bS (fun u W'=>Ow W' W.heap.size 150 2 u Bk.cells p.x.free) ?_;refine bO ?_; apply Exists.intro;refine dR ⟨?pers,?walk⟩
 case walk=>
  iterate 2
   apply Sz (by kernel_rfl) (by intro t w h; cases h; exact trivial) rfl
   .intro W' d j; have q1:=(N.o.below d).c1; go_wp2_with fail;exact⟨rfl,_,rfl,d,aL _ _,rfl⟩
   simp only[Act.put,aN,aH,aI]
  refine⟨fun W' d j=>?_,fun u=>?_⟩
  .go_wp2_with fail;refine (l4.o W' d).mono ?_;rintro e w2 ⟨v2,rfl,T,l⟩;go_wp2_with fail;exact⟨rfl,_,rfl,d.on l,l,Ow.mono T d.size⟩
  simp only[Act.put,aN,aH,aI]
  iterate 2
   apply Sz (by kernel_rfl) (by intro t w h; cases h; exact trivial) rfl
   .intro W' d j; have q7:=(N.o.below d).c7; go_wp2_with fail;exact⟨rfl,_,rfl,d,aL _ _,rfl⟩
   simp only[Act.put,aN,aH,aI]
  refine⟨fun W' d j=>?_,fun u5=>?_⟩
  .go_wp2_with fail;refine (g4.o W' d).mono ?_;rintro e w2 ⟨v2,rfl,T,l⟩;go_wp2_with fail;exact⟨rfl,_,rfl,d.on l,l,Ow.mono T d.size⟩
  simp only[Act.put,aN,aH,aI];apply Sz (by kernel_rfl) (by intro t w h; cases h; exact trivial) rfl
  .intro W' d j; go_wp2_with fail;exact⟨rfl,_,rfl,d,aL _ _,rfl⟩
  simp only[Act.put,aN,aH,aI];intro W3 d j;have f2:Ow W3 W.heap.size 152 5 u ObV.cells ps:=j 7;have f5:Ow W3 W.heap.size 150 2 u5 Bk.cells p.x.free:=j 10;clear j;simp only[dO,dP];obtain⟨A,c,rfl,-,m5,g6⟩:=f2.sl cM;rw[V.o]at f2 m5 ⊢;obtain⟨E,c5,rfl,-,-,-⟩:=f5.sl bM;have O:=N.o.below d;have j1:=((Chg.refl (fun i=>i=w.heap.size) W3).setCell (.inr rfl) 1 (.slice A n c)).setCell (.inr rfl) 7 (.slice E p.x.free.length c5);have j3:cI ((W3.setCell ⟨w.heap.size,1,none⟩ (.slice A n c)).setCell ⟨w.heap.size,7,none⟩ (.slice E p.x.free.length c5)) w.heap.size 29 ⟨p.x,.slice A n c,.slice E p.x.free.length c5⟩:=.of ((O.blk.setCell 1 (.slice A n c)).setCell 7 (.slice E p.x.free.length c5));have y1:=O.blk.frozen 1;have y7:=O.blk.frozen 7;have q1:=O.c1;have q7:=O.c7;have z3:w.heap.size<W.heap.size:=N.o.blk.lt;have e5:=kp z3;have a4:=kp ((HB.o.on d).trans (j1.below (fun i f=>fU f.symm) (by have:=O.blk.lt; omega)));have F2:=kp (f2.chg j1 fun i f e=>by have:=(f2.lt f).1; omega);have F5:=kp (show OR _ (fun i=>w.heap.size≤i) 150 2 _ Bk.cells p.x.free from OR.of_ow (f5.chg j1 fun i f e=>by have:=(f5.lt f).1; omega) fun i h _=>by omega);have y4:=kp j3;clear f2 f5 j1 j3 d O z3;go_wp2_with fail
  go_loopw [16] (fun i wr=>∃(k:Nat)(m:List ObV),i=.i k∧(k≤n∧m.length=k∧m.map (·.x)=(ps.take k).map (·.x))∧cI wr w.heap.size 29 ⟨p.x,.slice A n c,.slice E p.x.free.length c5⟩∧Ow wr W.heap.size 152 5 (.slice A n c) ObV.cells (m++ps.drop k)∧Rws wr W.heap.size m∧
   OR wr (fun i=>w.heap.size≤i) 150 2 (.slice E p.x.free.length c5) Bk.cells p.x.free∧Bw' w wr) (fun i _=>n-(intOf i).toNat)
  case atStart=>exact⟨0,[],rfl,⟨by omega,rfl,rfl⟩,y4.o,F2.o,⟨by simp,by simp⟩,F5.o,a4.o⟩
  case round=>
   obtain⟨k,m,rfl,hk,hI,ho,p3,hf,a3⟩:=hrel;have H:=kp hk;have r:=kp hI;have Y:=kp ho;have I:=kp p3;have HF:=kp hf;have M:=kp a3;have l6:=hk.1;clear hk hI ho p3 hf a3
   by_cases p5:k<n
   .have a2:(m++ps.drop k).length=n:=by have:=H.o; have:=V.o; simp; omega
    have m0:k<ps.length:=by have:=V.o; omega
    obtain⟨b,cb,hA,b6,e6,-,-,b3,j6⟩:=Y.o.at_ cM (by omega) (by omega);have s:k<(m++ps.drop k).length:=by rw[a2]; exact p5
    rw[a2]at hA;obtain⟨rfl,-,rfl⟩:=Value.slice.inj hA;have p1:(m++ps.drop k)[k]'s=ps[k]:=by
     rw[List.getElem_append_right (by rw[H.b]; exact aD _)];simp[H.b]
    have Q:=b3 k s;rw[p1]at Q;obtain⟨Aw,cw,Al,cl,z0,o0,-,l3,m3⟩:=vH HS.a k m0;have x0:wr.cell? ⟨b,k*5+0,none⟩=some (.i ps[k].x.h):=Q 0 _ rfl;have x1:wr.cell? ⟨b,k*5+1,none⟩=some (.i ps[k].x.b.a):=Q 1 _ rfl;have x2:wr.cell? ⟨b,k*5+2,none⟩=some (.i ps[k].x.b.o):=Q 2 _ rfl;have x3:wr.cell? ⟨b,k*5+3,none⟩=some ps[k].wv:=Q 3 _ rfl;have x4:wr.cell? ⟨b,k*5+4,none⟩=some ps[k].lv:=Q 4 _ rfl;simp only[cF]at x0;have o4:=kp (show ps.drop k=ps[k]::ps.drop (k+1) from fG m0);have b5:=kp (show ps.take (k+1)=ps.take k++[ps[k]] from cV m0);have HM:=kp (show ps[k]∈ps from bK m0);have j2:=kp (show ∃h:k<(m++ps.drop k).length,(m++ps.drop k)[k]=ps[k] from⟨s,p1⟩);clear Q b3 hA p1 a2 s;generalize ps[k]'m0=y at *;have g3:(k:Int)<(n:Int):=by omega
    rw[z0]at x3;rw[o0]at x4;have z5:=k'2 z0 o0;have o6:y.x.ws.length≤9223372036854775807:=by unfold maxLen at l3; omega
    have m6:y.x.ls.length≤9223372036854775807:=by unfold maxLen at m3; omega
    have e2:gJ (wr.alloc (.cells #[.i y.x.h,.i y.x.b.a,.i y.x.b.o,.slice Aw y.x.ws.length cw,.slice Al y.x.ls.length cl] 152)) wr.heap.size 152 y:=.of (by
     have:=Blk.new wr 152 y.cells;unfold ObV.cells at this;rw[z0,o0]at this;unfold ObV.cells;rw[z0,o0];exact this)
    have l:=ba' wr (.cells #[.i y.x.h,.i y.x.b.a,.i y.x.b.o,.slice Aw y.x.ws.length cw,.slice Al y.x.ls.length cl] 152);obtain⟨W2,y2⟩:=nm' (wr.alloc (.cells #[.i y.x.h,.i y.x.b.a,.i y.x.b.o,.slice Aw y.x.ws.length cw,.slice Al y.x.ls.length cl] 152));rw[y2]at e2 l;have g5:=kp e2;have G:=kp l;have o1:B≤wr.heap.size:=aB hB M.o.size;have g1:B≤W2.heap.size:=aB o1 G.o.size;have o2:=k'2 (((H0.a.2 y HM.o).1.below M.o hB).below G.o o1) (((H0.a.2 y HM.o).2.below M.o hB).below G.o o1);have m4:=kp (fun(W':World)(F:Below B W2 W')(U:W2.heap.size≤W'.heap.size)=>fam'4.1 y.wv y.x.ws B W' (o2.a.below F (aD _)) (aB g1 U) (by have:=l2.o y HM.o; omega));have j4:=kp (fun(W':World)(F:Below B W2 W')(U:W2.heap.size≤W'.heap.size)=>fam'4.1 y.lv y.x.ls B W' (o2.B.below F (aD _)) (aB g1 U) (by have:=l2.o y HM.o; omega));clear e2 l z0 o0 l3 m3;go_wp2_with fail;clear y2 x0 x1 x2 x3 x4;have p4:=kp (r.o.below G.o);have z4:=kp (Y.o.below G.o);have z2:w.heap.size≠b:=by have:=N.o.blk.lt; omega
    have l5:wr.heap.size≠b:=by omega
    have p2:B≤b:=by have:=N.o.blk.lt; omega
    have q4:=kp (fun(W':World)(h:Chg (fun i=>i=b) W2 W')=>(show cI W' w.heap.size 29 ⟨p.x,.slice (some ⟨b,0,none⟩) n c,.slice E p.x.free.length c5⟩ from .of (p4.o.blk.chg h z2)).c1);have m2:=kp (fun(W':World)(h:Chg (fun i=>i=b) W2 W')=>(show gJ W' wr.heap.size 152 y from .of (g5.o.blk.chg h l5)));refine fR 15 (CB W2 W.heap.size b n c (m++ps.drop k) k y) (fun _=>fK) (by kernel_rfl) (by kernel_rfl) ⟨(Chg.refl _ _).drew,(fun _ h=>by cases h),(fun _ h=>by cases h),_,z4.o.below (bR (aL _ _)),fun _=>rfl,fun _ h=>by cases h⟩ ?_
    iterate 8 (refine bO ?_; apply Exists.intro)
    refine bS eM ?_
    iterate 2 (refine bO ?_; apply Exists.intro)
    refine bS eM ?_
    iterate 2 (refine bO ?_; apply Exists.intro)
    refine bS eM ?_;refine dR ⟨?pers2,?walk2⟩
    case walk2=>
     iterate 8
      apply Ug (by kernel_rfl) (by intro t w h; cases h; exact trivial) rfl
      .intro X W' d J D P j; have q1:W'.cell? ⟨w.heap.size,1,none⟩=some (.slice (some ⟨b,0,none⟩) n c):=q4.o W' d.chg; have x3:=(m2.o W' d.chg).c3; go_wp2_with fail;exact⟨rfl,_,rfl,d.other _ _ (by decide) (by decide) (by decide),aV,rfl⟩
      simp only[Act.put,aN,aH,aI,aT,aW]
     refine⟨fun X W' d J D P j=>?_,fun L=>?_⟩
     .go_wp2_with fail;refine (m4.o W' (d.chg.below (fun i f=>by rw[f]; exact p2) g1) d.chg.size).mono ?_;rintro e w2 ⟨v2,rfl,T,l⟩;go_wp2_with fail;exact⟨rfl,_,rfl,d.first J T l,aV,trivial⟩
     simp only[Act.put,aN,aH,aI,aT,aW]
     iterate 2
      apply Ug (by kernel_rfl) (by intro t w h; cases h; exact trivial) rfl
      .intro X W' d J D P j; have x4:=(m2.o W' d.chg).c4; go_wp2_with fail;exact⟨rfl,_,rfl,d.other _ _ (by decide) (by decide) (by decide),aV,rfl⟩
      simp only[Act.put,aN,aH,aI,aT,aW]
     refine⟨fun X W' d J D P j=>?_,fun a0=>?_⟩
     .go_wp2_with fail;refine (j4.o W' (d.chg.below (fun i f=>by rw[f]; exact p2) g1) d.chg.size).mono ?_;rintro e w2 ⟨v2,rfl,T,l⟩;go_wp2_with fail;exact⟨rfl,_,rfl,d.second (D 8 (by kernel_rfl)) T l,aV,trivial⟩
     simp only[Act.put,aN,aH,aI,aT,aW]
     iterate 2
      apply Ug (by kernel_rfl) (by intro t w h; cases h; exact trivial) rfl
      .intro X W' d J D P j; go_wp2_with fail;exact⟨rfl,_,rfl,d.other _ _ (by decide) (by decide) (by decide),aV,rfl⟩
      simp only[Act.put,aN,aH,aI,aT,aW]
     refine⟨fun X W' d J D P j=>?_,fun y5=>?_⟩
     .have h8:X 8=some L:=P 8 29 L (by kernel_rfl) (by kernel_rfl) (bT (by kernel_rfl)) rfl;obtain⟨A8,c8,rfl,-,-,-⟩:=Ow.sl (d.one L h8) cS;obtain⟨L',o3,q2,-⟩:=d.row;obtain rfl:=q2 J;obtain⟨s,z1⟩:=j2.o;obtain⟨b',j5,b0,-,-,-,-,j0,l0⟩:=o3.at_ cM (by omega) (by omega);have m1:=(Value.slice.inj b0).1;clear b0
      cases m1;have f3:=l0 (k*5+3);have e3:=j0 k s 3 y.wv (by rw[z1]; rfl);have a5:=kp (d.third (z:=undef) J h8 s z1);clear d o3 q2 l0 j0 P j D;go_wp2_with fail;exact⟨rfl,undef,rfl,a5.o,aV,trivial⟩
     simp only[Act.put,aT,aW];intro W5 d j;clear j;simp only[dO,dP];obtain⟨u,e8,e0,p0⟩:=d.two a0 rfl;obtain rfl:L=u:=by cases e8; rfl
     have b2:=d.one L rfl;obtain⟨L',q0,-,hL⟩:=d.row;obtain⟨u,e8,rfl⟩:=hL y5 rfl;obtain rfl:L=u:=by cases e8; rfl
     obtain⟨s,z1⟩:=j2.o;obtain⟨b',j5,b0,-,-,-,-,j0,l0⟩:=q0.at_ cM (by omega) (by rw[mI]; omega);have m1:=(Value.slice.inj b0).1;clear b0
     cases m1;have f4:=l0 (k*5+4);have e4:=j0 k (by rw[mI]; exact s) 4 y.lv (by rw[Ox]; rfl);obtain⟨g2,c11,rfl,-,-,-⟩:=Ow.sl p0 cS;obtain⟨a0,y3⟩:=nm' (Value.slice g2 y.x.ls.length c11);have y0:=q0.put cM k (by rw[mI]; exact s) (by decide:4<5) a0 (x':=⟨y.x,L,a0⟩) (by rw[Ox]; rfl);rw[List.set_set]at y0;have l1:Chg (fun i=>i=b) W5 (W5.setCell ⟨b,k*5+4,none⟩ a0):=(Chg.refl (fun i=>i=b) W5).setCell (.inr rfl) _ _;rw[y3]at e0 p0;have Z:=b2.chg l1 fun i f U=>q0.apt b2 (by decide) i (by rw[U]; rfl) f;have h2:=p0.chg l1 fun i f U=>q0.apt p0 (by decide) i (by rw[U]; rfl) f;have R:Chg (fun i=>i=b) wr (W5.setCell ⟨b,k*5+4,none⟩ a0):=((Chg.of_below G.o).trans d.chg fun _ _ h=>h).trans l1 fun _ _ h=>h;have HN:=k'5 y0 Z h2 e0 R;subst y3;clear y0 Z h2 e0 R l1 p0 b2 q0 hL d l0 j0 e8;go_wp2_with fail;go_roundw
     case rel=>
      obtain⟨y0,Z,h2,e0,R⟩:=HN.o;have q3:W.heap.size≤W2.heap.size:=by have:=G.o.size; omega
      refine⟨k+1,m++[⟨y.x,L,.slice g2 y.x.ls.length c11⟩],by go_num,⟨by omega,by rw[bB,H.b]; rfl,?_⟩,.of (r.o.blk.chg R z2),?_,?_,aO.chg HF.o R (fun i f e=>Y.o.apt_or HF.o (by decide) i (by rw[e]; rfl) f.symm),M.o.trans (R.below (fun i f=>by have:=N.o.blk.lt; omega) M.o.size)⟩
      .rw[b5.o,gC,gC,H.C]; rfl
      .refine y0.eqv ?_;rw[o4.o,qM _ _ (by rw[H.b]; exact aD _),H.b,qS,aH,cR]; rfl
      .refine (I.o.chg R fun q K i f=>⟨Y.o.apt (I.o.row q K).1 (by decide) i (by rw[f]; rfl),Y.o.apt (I.o.row q K).2 (by decide) i (by rw[f]; rfl)⟩).snoc (Z.mono q3) (h2.mono q3) e0 fun q K=>?_;have D:=(I.o.row q K).1;have hl:=(I.o.row q K).2;have:=G.o.size;refine⟨fun i f S=>?_,fun i f S=>?_,fun i f S=>?_,fun i f S=>?_⟩
       .have:=(D.lt f).2; have:=(Z.lt S).1; omega
       .have:=(D.lt f).2; have:=(h2.lt S).1; omega
       .have:=(hl.lt f).2; have:=(Z.lt S).1; omega
       .have:=(hl.lt f).2; have:=(h2.lt S).1; omega
     case measure=>simp[intOf]; omega
    case pers2=>exact⟨pv',pv',pv',pv',pv',pv',pv',pv',fun _ _ _ _ _ h _=>h,pv',pv',fun _ _ _ _ _ h _=>h,pv',pv',fun _ _ _ _ _ h _=>h,trivial⟩
   .obtain rfl:k=n:=by omega
    have d0:=r.o.c0;have d1:=r.o.c1;have d2:=r.o.c2;have d3:=r.o.c3;have d4:=r.o.c4;have d5:=r.o.c5;have d6:=r.o.c6;have d7:=r.o.c7;go_wp2_with fail;go_ret;have g0:=ba' wr (.cells (HpV.cells ⟨p.x,.slice A k c,.slice E p.x.free.length c5⟩).toArray 208);have o5:ps.drop k=[]:=gS (by have:=V.o; omega);have a6:=e5.o;refine⟨wr.heap.size,rfl,⟨p.x,.slice A k c,.slice E p.x.free.length c5⟩,rfl,⟨m,Blk.new _ _ _,M.o.size,?_,?_,?_,HF.o.below g0⟩,M.o.on g0⟩
    .exact ((Y.o.below g0).mono (by omega)).eqv (by rw[o5,fS])
    .exact⟨fun q K=>⟨((I.o.row q K).1.below g0).mono (by omega),((I.o.row q K).2.below g0).mono (by omega)⟩,I.o.sep⟩
    .rw[H.C,cN (by have:=V.o; omega)]; exact HS.b
 case pers=>
  refine⟨pv',pv',fun _ _ _ _ _ h hR=>h.below hR,pv',pv',fun _ _ _ _ _ h hR=>h.below hR,pv',trivial⟩
end
section
attribute [-go_sem] loadCellsFrom storeCells
attribute [local go_sem] bC
theorem HpV.one{p:HpV}(b:p.ov.oneCell'=true)(c:p.fv.oneCell'=true):∀u∈p.cells,u.oneCell'=true:=fun u a=>by
 unfold HpV.cells at a;simp only[bA,dW,or_false]at a;rcases a with rfl|rfl|rfl|rfl|rfl|rfl|rfl|rfl
 all_goals first |rfl|exact b|exact c
def Uj(o:Int):Hp:=if cP o=true then ⟨o,1,0,0,0,0,[],[⟨0,o⟩]⟩ else ⟨0,0,0,0,0,0,[],[]⟩
end
end Go.Proofs.YthalbagblhkeaaaGreat
