import Derived.Test.YtdoopoapbffpbaaGreatZ01
import Derived.Test.YtdoopoapbffpbaaGreatZ09
import Derived.Test.YtdoopoapbffpbaaGreatZ10
import Derived.Shelf.SlSortCmp.WholeK
import Derived.Shelf.SlSortCmp.NoneTotal
import Derived.Lib.OwnBridge
import Derived.Lib.SmallJoins
namespace Go.Proofs.YtdoopoapbffpbaaGreat
open Go.RowKit Go.Proofs.Tryz
set_option maxRecDepth 100000
set_option maxHeartbeats 12800000
set_option linter.unusedVariables false
set_option linter.unusedSimpArgs false
section
open Go.Shelf Go.Sort Go.RowKit Go.Lib
def Sg:Go.Shelf.Ren:=⟨fun|6=>177|15=>222|14=>221|28=>249|29=>250|20=>241|21=>242|22=>243|23=>244|24=>245|25=>246|26=>247|27=>248|46=>262|47=>263|48=>264|49=>265|50=>266|57=>277|n=>n,fun|22=>27|24=>88|25=>212|3=>3|39=>229|0=>0|53=>281|55=>206|4=>4|46=>275|45=>274|50=>185|5=>5|9=>9|66=>291|70=>259|76=>312|77=>313|n=>n,fun|n=>n⟩
theorem Ik:Go.Proofs.SlLaysF0.n6 prog Sg:={
 mixed:=by kernel_rfl
 f6:=⟨f177.name,by decide,func177.trans (bG some (by kernel_rfl))⟩
 f14:=⟨f221.name,by decide,func221.trans (bG some (by kernel_rfl))⟩
 f15:=func222.trans (bG some (by kernel_rfl))
 f20:=⟨f241.name,by decide,func241.trans (bG some (by kernel_rfl))⟩
 f21:=⟨f242.name,by decide,func242.trans (bG some (by kernel_rfl))⟩
 f22:=⟨f243.name,by decide,func243.trans (bG some (by kernel_rfl))⟩
 f23:=⟨f244.name,by decide,func244.trans (bG some (by kernel_rfl))⟩
 f24:=⟨f245.name,by decide,func245.trans (bG some (by kernel_rfl))⟩
 f25:=⟨f246.name,by decide,func246.trans (bG some (by kernel_rfl))⟩
 f26:=⟨f247.name,by decide,func247.trans (bG some (by kernel_rfl))⟩
 f27:=⟨f248.name,by decide,func248.trans (bG some (by kernel_rfl))⟩
 f28:=func249.trans (bG some (by kernel_rfl))
 f29:=func250.trans (bG some (by kernel_rfl))
 f46:=⟨f262.name,by decide,func262.trans (bG some (by kernel_rfl))⟩
 f47:=func263.trans (bG some (by kernel_rfl))
 f48:=func264.trans (bG some (by kernel_rfl))
 f49:=⟨f265.name,by decide,func265.trans (bG some (by kernel_rfl))⟩
 f50:=⟨f266.name,by decide,func266.trans (bG some (by kernel_rfl))⟩
 f57:=⟨f277.name,by decide,func277.trans (bG some (by kernel_rfl))⟩
 t0:=underlying0
 a0:=isAgg0
 z0:=sizeOf0
 v0:=zeroValue0
 t3:=dD
 a3:=isAgg3
 z3:=sizeOf3
 v3:=zeroValue3
 t4:=underlying4
 a4:=isAgg4
 z4:=sizeOf4
 v4:=zeroValue4
 t5:=sX
 a5:=isAgg5
 z5:=sizeOf5
 v5:=zeroValue5
 t9:=oG
 a9:=isAgg9
 z9:=sizeOf9
 v9:=zeroValue9
 t22:=fC
 a22:=isAgg27
 z22:=sizeOf27
 v22:=zeroValue27
 t25:=underlying212
 a25:=isAgg212
 z25:=sizeOf212
 v25:=zeroValue212
 t39:=underlying229
 a39:=isAgg229
 z39:=sizeOf229
 v39:=zeroValue229
 t45:=underlying274
 a45:=isAgg274
 z45:=sizeOf274
 v45:=zeroValue274
 t46:=underlying275
 a46:=isAgg275
 z46:=sizeOf275
 v46:=zeroValue275
 t50:=underlying185
 a50:=isAgg185
 z50:=sizeOf185
 v50:=zeroValue185
 t53:=underlying281
 a53:=isAgg281
 z53:=sizeOf281
 v53:=zeroValue281
 t55:=underlying206
 a55:=isAgg206
 z55:=sizeOf206
 v55:=zeroValue206
 t66:=underlying291
 a66:=isAgg291
 z66:=sizeOf291
 v66:=zeroValue291
 t70:=underlying259
 a70:=isAgg259
 z70:=sizeOf259
 v70:=zeroValue259
 t76:=underlying312
 a76:=isAgg312
 z76:=sizeOf312
 v76:=zeroValue312
 t77:=underlying313
 a77:=isAgg313
 z77:=sizeOf313
 v77:=zeroValue313}
instance bkAny:Inhabited Bk:=⟨⟨0,0⟩⟩
def oR(x y:Bk):Int:=fX x.a y.a
theorem xS(x y:Bk):ltOf oR x y=decide (x.a<y.a):=by unfold ltOf oR; exact Hr _ _
theorem Sh:SWO (ltOf oR) where
 irrefl x:=by rw[xS]; simp
 trans x y z h1 h2:=by rw[xS]at *; simp at *; omega
 ntrans x y z h1 h2:=by rw[xS]at *; simp at *; omega
theorem Il(l:List Bk):flatK Bk.cells 2 l.toArray=(aM Bk.cells l).toArray:=by
 apply Array.ext';apply sR;intro t;have c:=eB (enc:=Bk.cells) 2 bM l;unfold flatK;simp only[gT,Array.toList_map,Array.toList_range,wC]
 by_cases e:t<l.length*2
 .have b:t / 2<l.length:=by omega
  have h:=wV 2 (l.map Bk.cells) (fun r d=>by obtain⟨a,_,rfl⟩:=cX.1 d; rfl) (t / 2) (t % 2) (by simpa using b) (by omega);rw[show t / 2*2+t % 2=t by omega]at h;rw[List.getElem?_range e];show _=(l.map Bk.cells).flatten[t]?;rw[h];simp only[kL,kY];rw[List.getElem!_toArray,getElem!_pos l _ b,getElem!_pos _ _ (by rw[bM]; omega),eK (by rw[bM]; omega)]
 .rw[Ev (by simp; omega),Ev (by simp[c]; omega)];rfl
theorem Si{w:World}{base k n cap g:Nat}{e:TypeId}{xs:List Value}(h:w.ownsRow base e k (.slice (some ⟨g,0,none⟩) n cap) n xs):base≤g∧g<w.heap.size∧Holds id w g 0 xs.toArray:=by
 have m:=h.1;rcases h.2 with⟨b,_⟩|⟨g',p,d,b,f,c,r,q,s,o⟩
 .cases b
 .injection b with a _ _
  injection a with a
  injection a with a
  subst a;refine⟨f,(fH.1 c).1,fun j i=>?_⟩;have l:j<n*k:=by simpa [m] using i
  refine⟨?_,by simp[World.frozen?,c]⟩;have a:(d.toList.take (n*k))[j]? =xs[j]?:=by rw[o]
  rw[oB,aE l,zR,eK (by omega)]at a;simp only[World.cell?,c,hY];simp only[Option.isSome_none,qO,if_false];rw[a];simp[getElem!_pos,show j<xs.length by omega]
theorem Sj{w:World}{base k n cap g q:Nat}{e:TypeId}{xs b:List Value}(h:w.ownsRow base e k (.slice (some ⟨g,0,none⟩) n cap) n xs)(x:b.length=n*k):
  (putRow id (Sort.ahead w q) g 0 b.toArray).ownsRow base e k (.slice (some ⟨g,0,none⟩) n cap) n b:=by
 rcases h.2 with⟨c,_⟩|⟨g',y,d,c,m,o,i,r,s,A⟩
 .cases c
 .injection c with a _ l
  injection a with a
  injection a with a
  subst a; subst l;refine⟨x,.inr ⟨g,cap,putCells id 0 b.toArray d,rfl,m,?_,i,r,by simpa [putCells] using s,?_⟩⟩
  .simp[putRow,mapBlock,Sort.ahead,Array.getElem?_modify,o,onCells]
  .have z:n*k≤cap*k:=dV k i;apply sR;intro j;rw[oB,zR]
   by_cases f:j<n*k
   .have p:j<d.size:=by omega
    simp only[aE f,putCells,Array.getElem?_mapIdx,zO p,kL];rw[aE (by simp; omega),eK (by omega)];simp[getElem!_pos,show j<b.length by omega]
   .rw[aC f,Ev (by omega)]
theorem Sk{w:World}{base k n:Nat}{e:TypeId}{v:Value}{xs:List Value}(h:w.ownsRow base e k v n xs)(b:Array Obj):(grow w b).ownsRow base e k v n xs:=
 Fo h ⟨rfl,rfl,rfl,by simp[grow],fun j a=>by simp[grow,Array.getElem?_append_left a]⟩ (aD _)
theorem Im(g:Nat)(z:∀args w,(callFunc g args).run prog w=.ok (.enter g args) w)
  (E:∀(x y:Bk)(W:World),Calls prog g #[.agg x.cells.toArray,.agg y.cells.toArray] W fun e d=>e=.returned (.i (oR x y))∧∃q Q,d=grow (W.drewN q) Q)
  (v:Value) (l:List Bk) (base:Nat) (w:World) (h:Ow w base 88 2 v Bk.cells l) (S:base≤w.heap.size) (T:l.length≤1000000):
  Calls prog 177 #[v,.func (.func g) #[] #[]] w fun e d=>e=.returned (.tuple #[])∧∃l',l.Perm l'∧l'.Pairwise (fun x y=>x.a≤y.a)∧Ow d base 88 2 v Bk.cells l'∧w.grownBy d v.ownBlock:=by
 rcases Fl h with⟨p,A,_⟩|⟨b,cap,p,_⟩
 .subst p;have L:l=[]:=hJ A;subst L;refine (AnyF.slices_SortFunc_none Ik none 0 (.func (.func g) #[] #[]) w).mono ?_;rintro e d ⟨rfl,rfl⟩;exact⟨rfl,[],.refl _,.nil,h,World.grownBy.refl _ _⟩
 .subst p;obtain⟨R,B,C⟩:=Si h;have F:=Il l;have D:HoldsK Bk.cells 2 w b 0 l.toArray:=by unfold HoldsK; rw[F]; exact C
  have r:=AnyQ.slices_SortFunc Ik 2 isAgg88 sizeOf88 Bk.cells bM gU oR Sh g #[] b 0 cap l.toArray w z (fun _ _ _ _ x y=>E x y _) D B (by simp; omega);rw[gT]at r;refine r.mono ?_;rintro e d ⟨rfl,c,n,P,s,O,rfl⟩;have o:c.size=l.length:=by have:=s.1; simpa using this
  have N:l.Perm c.toList:=by
   have:=s.2.2;have f:l.toArray.extract 0 l.length=l.toArray:=by simp
   have k:c.extract 0 l.length=c:=by rw[←o]; simp
   rw[f,k]at this;exact this.symm
  refine⟨rfl,c.toList,N,?_,?_,?_⟩
  .rw[List.pairwise_iff_getElem];intro i j m J I;have G:i<c.size:=by simpa using m
   have K:j<c.size:=by simpa using J
   have:=O i j (cY _) I (by omega);rw[getElem!_pos c j K,getElem!_pos c i G,xS]at this;simp only[decide_eq_false_iff_not]at this;simp only[Array.getElem_toList];omega
  .unfold sortWorldK Ow;refine Sk ?_ P;have f:flatK Bk.cells 2 c=(aM Bk.cells c.toList).toArray:=by
    have:=Il c.toList;simpa using this
   unfold putRowK;have k:c.toList.length=l.length:=by simp[o]
   rw[f,k];exact Sj h (by rw[eB 2 bM]; simp[o])
  .unfold sortWorldK putRowK;refine⟨rfl,rfl,rfl,by simp[grow,putRow,mapBlock,Sort.ahead],fun i m M=>?_⟩;have H:b≠i:=fun e=>M (by simp[Value.ownBlock,e]);simp only[grow,putRow,mapBlock,Sort.ahead];rw[Array.getElem?_append_left (by simpa using m),Array.getElem?_modify,aC H]
end
section
structure Que(w:World)(base g:Nat)(v:Value)(l:List Bk):Prop where
 blk:Blk w g 305 [v]
 row:Ow w base 88 2 v Bk.cells l
 lo:base≤g
structure QTo(w w':World)(g:Nat)(v v':Value):Prop where
 chg:Chg (fun i=>i=g∨v.ownBlock=some i) w w'
 own:∀i,v'.ownBlock=some i→v.ownBlock=some i∨w.heap.size≤i
section
variable {w w' w2:World}{base g:Nat}{v v' v2:Value}{l l':List Bk}
theorem QTo.of(h:Bw' w w'):QTo w w' g v v:=⟨Chg.of_below h,fun _ h=>.inl h⟩
theorem QTo.trans(h:QTo w w' g v v')(k:QTo w' w2 g v' v2):QTo w w2 g v v2:=
 ⟨h.chg.trans k.chg fun i a d=>d.elim .inl fun b=>(h.own i b).elim .inr fun e=>absurd a (by omega),fun i a=>(k.own i a).elim (h.own i) fun c=>.inr (aB h.chg.size c)⟩
theorem Que.below(h:Que w base g v l)(a:Bw' w w'):Que w' base g v l:=⟨h.blk.below a h.blk.lt,h.row.below a,h.lo⟩
theorem Ow.qto{α:Type}{enc:α→List Value}{t:TypeId}{k base2:Nat}{u:Value}{m:List α}(h:Ow w base2 t k u enc m)(o:QTo w w' g v v')(n:u.ownBlock≠some g)(q:∀i,u.ownBlock=some i→v.ownBlock≠some i):Ow w' base2 t k u enc m:=by
 refine⟨h.1,?_⟩;rcases h.2 with j|⟨b,cap,f,d,l,a,r⟩
 .exact .inl j
 .refine .inr ⟨b,cap,f,d,l,?_,r⟩;have c:u.ownBlock=some b:=by rw[d]; rfl
  rw[o.chg.block b (fH.1 a).1 (fun p=>p.elim (fun e=>n (e▸c)) (q b c))];exact a
end
def qV(g:Nat):Value:=.iface 299 (.agg #[.pointer (some ⟨g,0,none⟩)])
def orI(x y:Int):Int:=if x=0 then y else x
theorem Ss(x y:Int)(b l:Nat)(w:World)(m:w.cell? ⟨b,l,none⟩=some (.i x))(n:w.cell? ⟨b,l+1,none⟩=some (.i y)):
  Calls prog 315 #[.slice (some ⟨b,l,none⟩) 2 2] w fun e w'=>e=.returned (.i (orI x y))∧w'=w:=by
 go_enter func315,ntmps315;go_wp2_with fail
 go_loop [8] (fun i=>∃k:Nat,k≤2∧i=.i k∧(1≤k→x=0)∧(2≤k→y=0)) (fun i=>2-(intOf i).toNat)
 case atStart=>exact⟨0,by omega,rfl,by omega,by omega⟩
 case round=>
  obtain⟨k,p,rfl,g,h⟩:=hrel;rcases (show k=0∨k=1∨k=2 by omega) with rfl|rfl|rfl
  .clear g h
   by_cases c:x=0
   .have j:(x != 0)=false:=by simp[c]
    have d:=kp c;clear c;go_wp2_with fail
    go_round
    case rel=>exact⟨1,by omega,rfl,fun _=>d.o,by omega⟩
    case measure=>simp[intOf]
   .have j:(x != 0)=true:=by simp[c]
    have d:=kp c;clear c;go_wp2_with fail;go_ret;exact⟨mK (uM (by unfold orI; rw[aC d.o])),rfl⟩
  .have f:=kp (g (by omega));clear g h
   by_cases c:y=0
   .have j:(y != 0)=false:=by simp[c]
    have d:=kp c;clear c;go_wp2_with fail
    go_round
    case rel=>exact⟨2,by omega,rfl,fun _=>f.o,fun _=>d.o⟩
    case measure=>simp[intOf]
   .have j:(y != 0)=true:=by simp[c]
    have d:=kp c;clear c;go_wp2_with fail;go_ret;exact⟨mK (uM (by unfold orI; rw[aE f.o])),rfl⟩
  .have f:=k'2 (g (by omega)) (h (by omega));clear g h;go_wp2_with fail;go_ret;exact⟨mK (uM (by unfold orI; rw[aE f.a,f.B])),rfl⟩
theorem Su(x y:Bk):decide (orI (fX x.o y.o) (fX x.a y.a)<0)=lJ x y:=by
 unfold orI fX lJ;rcases Int.lt_trichotomy x.o y.o with h|h|h<;>rcases Int.lt_trichotomy x.a y.a with k|k|k<;>(repeat' split)<;>simp<;>omega
theorem Que.at_{w:World}{base g:Nat}{v:Value}{l:List Bk}(h:Que w base g v l)(i:Nat)(f:i<l.length):∃b c,v=.slice (some ⟨b,0,none⟩) l.length c∧base≤b∧b<w.heap.size∧l.length≤c∧c≤maxLen∧
  ∀i,i<l.length→w.cell? ⟨b,i*2,none⟩=some (.i (atB l i).a)∧w.cell? ⟨b,i*2+1,none⟩=some (.i (atB l i).o)∧w.frozen? ⟨b,i*2,none⟩=false∧w.frozen? ⟨b,i*2+1,none⟩=false:=by
 rcases h.row.2 with⟨_,D⟩|⟨b,c,C,m,s,d,y,x,E,F⟩
 .omega
 .refine⟨b,c,m,s,(fH.1 d).1,y,x,fun i f=>?_⟩;have j:Rd w w.heap.size (some ⟨b,0,none⟩) (aM Bk.cells l):=by
   have:=h.row.sl bM;obtain⟨A,B,n,j,_⟩:=this;rw[m]at n;injection n with e
   subst e;exact j
  obtain⟨z,G,r,_,k,_⟩:=bV (P:=prog) 2 bM (by omega) j i f
  cases r;have p:=k 0 _ rfl;have q:=k 1 _ rfl;rw[xW f];simp only[hY,cF]at p q;exact⟨p,q,by simp[World.frozen?,d],by simp[World.frozen?,d]⟩
theorem Sw{base g:Nat}{v:Value}{l:List Bk}(i j:Nat)(w:World)(h:Que w base g v l)(f:i<l.length)(p:j<l.length):
  Calls prog 311 #[.pointer (some ⟨g,0,none⟩),.i i,.i j] w fun e w'=>e=.returned (.bool (lJ (atB l i) (atB l j)))∧Bw' w w':=by
 obtain⟨b,c,rfl,I,J,B,K,d⟩:=h.at_ i f;have C:=aP (d i f).1;have D:=aP (d i f).2.1;have E:=aP (d j p).1;have F:=aP (d j p).2.1;have r:=aP (h.blk.cell 0);generalize atB l i=x at *;generalize atB l j=y at *;obtain⟨n,q⟩:=nm' l.length;rw[q]at f p B r;have G:(i:Int)<(n:Int):=by omega
 have H:(j:Int)<(n:Int):=by omega
 clear d h q;go_enter func311,ntmps311;go_wp2_with fail;refine uT 34 (by kernel_rfl) (by kernel_rfl) ?_;simp only[qK,mZ,dO,dP]
 repeat (go_big_quiet_step ((go_at_call 144; with_reducible refine dG (tJ _ _ _))))
 refine bH ?_;rintro k ⟨⟨_,m⟩,rfl⟩;clear C D E F r;have s:=kp (m.trans ((ba' k (.cells #[.i (fX x.o y.o),.i (fX x.a y.a)] 3)).mono m.size));have z:=(Blk.new k 3 [.i (fX x.o y.o),.i (fX x.a y.a)]).cell 0;have A:=(Blk.new k 3 [.i (fX x.o y.o),.i (fX x.a y.a)]).cell 1;clear m;go_wp2_with fail;refine (Ss _ _ _ 0 _ z A).mono ?_;rintro e w' ⟨rfl,rfl⟩;go_wp2_with fail;go_ret;exact⟨mK (bG Value.bool (Su x y)),s.o⟩
theorem Cs{w:World}{base k n c b:Nat}{e:TypeId}{xs:List Value}(h:w.ownsRow base e k (.slice (some ⟨b,0,none⟩) n c) n xs)(j:Nat)(u:Value):(w.setCell ⟨b,j,none⟩ u).ownsRow base e k (.slice (some ⟨b,0,none⟩) n c) n (xs.set j u):=by
 rcases h.2 with⟨a,_⟩|⟨g',cap,d,a,g,f,l,i,m,o⟩
 .cases a
 .cases a;refine⟨by simpa using h.1,.inr ⟨b,c,d.setIfInBounds j u,rfl,g,?_,l,i,by simpa using m,?_⟩⟩
  .rw[setCell_eq_setRow w b j d e (0,0) u f];exact setRow_heap w b _ _ e _ f
  .rw[Array.toList_setIfInBounds,List.take_set,o]
theorem Io:∀(l:List Bk)(i:Nat)(y:Bk),((aM Bk.cells l).set (i*2) (.i y.a)).set (i*2+1) (.i y.o)=aM Bk.cells (l.set i y)
 |[],_,_=>rfl
 |_::_,0,_=>rfl
 |x::l,i+1,y=>by
  have c:=Io l i y;have b:aM Bk.cells (x::l)=.i x.a:: .i x.o::aM Bk.cells l:=rfl;rw[b,show (i+1)*2=i*2+1+1 by omega];show Value.i x.a::Value.i x.o::(((aM Bk.cells l).set (i*2) _).set (i*2+1) _)=_;rw[c];rfl
theorem Que.ne{w:World}{base g b n c:Nat}{l:List Bk}(h:Que w base g (.slice (some ⟨b,0,none⟩) n c) l):b≠g:=by
 rintro rfl;obtain⟨c1,d,a⟩:=Lib.ownsRow_kind h.row b rfl;have:=(show w.heap[b]? =_ from h.blk).symm.trans a;simp at this
theorem Que.put{w:World}{base g b n c:Nat}{l:List Bk}(h:Que w base g (.slice (some ⟨b,0,none⟩) n c) l)(i:Nat)(y:Bk):
  Que ((w.setCell ⟨b,i*2,none⟩ (.i y.a)).setCell ⟨b,i*2+1,none⟩ (.i y.o)) base g (.slice (some ⟨b,0,none⟩) n c) (l.set i y):=by
 have d:n=l.length:=by
  rcases h.row.2 with⟨e,_⟩|⟨_,_,_,e,_⟩
  .cases e
  .injection e
 subst d;refine⟨(h.blk.otherCell (bL h.ne) _ _).otherCell (bL h.ne) _ _,?_,h.lo⟩;have:=Cs (Cs h.row (i*2) (.i y.a)) (i*2+1) (.i y.o);rw[Io]at this;unfold Ow;rw[mI];exact this
theorem Chg.own2{g b n c:Nat}{a w:World}(h:Chg (fun i=>i=g∨(Value.slice (some ⟨b,0,none⟩) n c).ownBlock=some i) a w)(j:Nat)(u:Value):Chg (fun i=>i=g∨(Value.slice (some ⟨b,0,none⟩) n c).ownBlock=some i) a (w.setCell ⟨b,j,none⟩ u):=h.setCell (.inr (.inr rfl)) j u
theorem Sx{base g:Nat}{v:Value}{l:List Bk}(i j:Nat)(w:World)(h:Que w base g v l)(k:i<l.length)(p:j<l.length):
  Calls prog 314 #[.pointer (some ⟨g,0,none⟩),.i i,.i j] w fun e w'=>e=.returned (.tuple #[])∧Que w' base g v (lK l i j)∧QTo w w' g v v:=by
 obtain⟨b,c,rfl,m,D,z,E,f⟩:=h.at_ i k;obtain⟨n,q⟩:=nm' l.length;have H:=kp (show ∀d,Bw' w d→Que ((((d.setCell ⟨b,i*2,none⟩ (.i (atB l j).a)).setCell ⟨b,i*2+1,none⟩ (.i (atB l j).o)).setCell ⟨b,j*2,none⟩ (.i (atB l i).a)).setCell ⟨b,j*2+1,none⟩ (.i (atB l i).o)) base g (.slice (some ⟨b,0,none⟩) n c) (lK l i j) from fun d m=>by
  rw[q]at h;exact (((h.below m).put i (atB l j)).put j (atB l i)))
 obtain⟨K,L,M,N⟩:=f i k;obtain⟨O,P,Q,R⟩:=f j p;have r:=h.blk.cell 0;simp only[aG]at r;have s:=kp (show i=j→atB l j=atB l i from fun e=>by rw[e]);generalize atB l i=x at *;generalize atB l j=y at *;rw[q]at k p z r ⊢;have B:(i:Int)<(n:Int):=by omega
 have C:(j:Int)<(n:Int):=by omega
 clear f h
 by_cases A:i=j
 .subst A;obtain rfl:=s.o rfl;go_enter func314,ntmps314;go_wp2_with fail
  go_region
  go_end0;exact⟨rfl,H.o w.drew (bR (aL _ _)),(((((Chg.refl _ _).own2 _ _).own2 _ _).own2 _ _).own2 _ _).drew,fun _ h=>.inl h⟩
 .have F:¬i*2=j*2:=by omega
  have G:¬i*2+1=j*2:=by omega
  have I:¬i*2=j*2+1:=by omega
  have J:¬i*2+1=j*2+1:=by omega
  go_enter func314,ntmps314;go_wp2_with fail
  go_region
  go_end0;exact⟨rfl,H.o w.drew (bR (aL _ _)),(((((Chg.refl _ _).own2 _ _).own2 _ _).own2 _ _).own2 _ _).drew,fun _ h=>.inl h⟩
end
section
theorem Ta{P:Program}(w:World)(base:Nat)(t p e:TypeId)(i:TypeInfo)(z:Value)(size q:Nat)(D:P.underlying t=some (.slice e))(s:P.info? e=some i)(M:i.zero=some z)
  (C:i.size=size) (J:i.bytes=q) (N:z.cells.size=size) (L:0<size) (v:Value) (n:Nat) (xs:List Value) (A:w.ownsRow base e size v n xs)
  (a:Addr) (m c:Nat) (d:List Value) (x:d.length=m*size) (y:∀j u,d[j]? =some u→w.cell? (a.add j)=some u) (H:∀u∈d,u.oneCell'=true)
  (I:n+m≤maxLen) (K:(n+m)*q≤140737488355328) (Z:base≤w.heap.size):
  ∃v' E,(Builtin.append_ #[t,t] p #[v,.slice (some a) m c]).run P w=.ok v' E∧E.ownsRow base e size v' (n+m) (xs++d)∧E.ownsRow base e size v n xs∧w.grownBy E v.ownBlock∧
   ∀k,v'.ownBlock=some k→v.ownBlock=some k∨w.heap.size≤k:=by
 obtain⟨v',E,B,r1,r2,_⟩:=run_append_own (P:=P) w base t p e i z size q D s M C J N L v n xs A a m c d x y H I K Z;refine⟨v',E,B,r1,?_,r2,?_⟩
 .refine⟨A.1,?_⟩;rcases A.2 with Y|⟨g,cap,l,rfl,Q,h,T,S,V,G⟩
  .exact .inl Y
  .by_cases F:n+m≤cap
   .subst C;have a0:(n+m)*i.size≤cap*i.size:=dV _ F;have b0:(n+m)*i.size=n*i.size+m*i.size:=gE ..;have b:=xX (P:=P) w t p e i D s g 0 n cap l h a m c d x y H F (by omega);rw[B]at b;injection b with o r
    subst r;refine .inr ⟨g,cap,_,rfl,Q,setRow_heap w g l _ e _ h,T,S,?_,?_⟩
    .simp only[gT,bB,cZ,dX,hP];omega
    .simp only[hY,cR];rw[sQ (by simp; omega),kN,Nat.min_self];exact G
   .obtain⟨W,X,b,O,U⟩:=run_append_arg_grows (P:=P) w t p e i z size q D s M C J N L ⟨g,0,none⟩ n cap xs A.1 (fun j u f=>by
     rw[Addr.add_lit,cell_of_row w g _ l e _ h];rw[←G,oB]at f
     split at f
     .simpa using f
     .cases f) a m c d x y (by omega) I K
    rw[B]at b;injection b with o r
    subst r;exact .inr ⟨g,cap,l,rfl,Q,(U.block g (fH.1 h).1 (by simp)).trans h,T,S,V,G⟩
 .intro k R;rcases A.2 with⟨rfl,rfl⟩|⟨g,cap,l,rfl,Q,h,T,S,V,G⟩
  .obtain⟨W,X,b,O,U,_⟩:=run_append_own (P:=P) w w.heap.size t p e i z size q D s M C J N L _ 0 [] (World.ownsRow_nil w _ e size) a m c d x y H I K (aD _);rw[B]at b;injection b with o r;subst o;exact .inr (O.lt k R).1
  .by_cases F:n+m≤cap
   .subst C;have a0:(n+m)*i.size≤cap*i.size:=dV _ F;have b0:(n+m)*i.size=n*i.size+m*i.size:=gE ..;have b:=xX (P:=P) w t p e i D s g 0 n cap l h a m c d x y H F (by omega);rw[B]at b;injection b with o r
    subst o;exact .inl R
   .obtain⟨W,X,b,O,U⟩:=run_append_arg_grows (P:=P) w t p e i z size q D s M C J N L ⟨g,0,none⟩ n cap xs A.1 (fun j u f=>by
     rw[Addr.add_lit,cell_of_row w g _ l e _ h];rw[←G,oB]at f
     split at f
     .simpa using f
     .cases f) a m c d x y (by omega) I K
    rw[B]at b;injection b with o r
    subst o;exact .inr (O.lt k R).1
theorem mO{α:Type}{enc:α→List Value}{P:Program}(w:World){M:Array Oper}{N:List Oper}{o:Oper}{a:Act}{Q:Exit→Act→World→Prop}(Z:o.guard=none)(s x:Operand)(t:TypeId)
  (ho:o.op=.call {callee:=.builtin .append,args:=#[s,x],argTypes:=#[t,t]})
  (base:Nat) (e:TypeId) {z:Value} {size p:Nat} (hi:(P.info? e).map (fun i=>(i.zero,i.size,i.bytes))=some (some z,size,p)) (E:P.underlying t=some (.slice e)) (j0:z.cells.size=size) (L:0<size)
  (hk:∀a,(enc a).length=size) {v:Value} {l:List α} (n:Ow w base e size v enc l) (hs:a.eval s=v) {B:Nat} {O:Value} {l2:List α} (D:Sl w B O enc l2) (hx:a.eval x=O) (S:∀a∈l2,∀u∈enc a,u.oneCell'=true)
  (T:l.length+l2.length≤maxLen) (X:(l.length+l2.length)*p≤140737488355328) (W:base≤w.heap.size)
  (h:∀v' d,Ow d base e size v' enc (l++l2)→Ow d base e size v enc l→w.grownBy d v.ownBlock→(∀k,v'.ownBlock=some k→v.ownBlock=some k∨w.heap.size≤k)→wpList P M Q N (a.put o.dst v') d):wpList P M Q (o::N) a w:=by
 obtain⟨A,c,rfl,J,_,_⟩:=D;obtain⟨i0,C,d0,e0,g0⟩:=info_parts hi;have y:=eB size hk l2;have b0:∀u∈aM enc l2,u.oneCell'=true:=fun u f=>by
  obtain⟨r,D,f⟩:=List.mem_flatten.1 f;obtain⟨b,V,rfl⟩:=cX.1 D;exact S b V u f
 refine wpList_plain Z fun K U=>?_;have m:∃v' d,(Builtin.append_ #[t,t] o.type #[v,.slice A l2.length c]).run P w=.ok v' d∧Ow d base e size v' enc (l++l2)∧Ow d base e size v enc l∧w.grownBy d v.ownBlock∧(∀k,v'.ownBlock=some k→v.ownBlock=some k∨w.heap.size≤k):=by
  cases A with
  |some R=>
   obtain⟨v',d,m,F,G,H,I⟩:=Ta (P:=P) w base t o.type e i0 z size p E C d0 e0 g0 j0 L v l.length (aM enc l) n R l2.length c (aM enc l2) y (fun j u f=>by
    rcases J with h|⟨b,l0,e,_,Y⟩
    .rw[h]at f; cases f
    .injection e with e
     subst e;rw[Addr.add_lit];exact Y j u f) b0 T X W
   exact⟨v',d,m,by unfold Ow; rw[bB,lV]; exact F,G,H,I⟩
  |none=>
   have hn:aM enc l2=[]:=by
    rcases J with h|⟨b,l0,e,_⟩
    .exact h
    .cases e
   have hm:l2=[]:=by
    rcases zW l2.length with q|q
    .exact hJ q
    .have h2:=Nat.mul_pos q L;rw[hn]at y;simp at y;omega
   subst hm;refine⟨v,w,?_,by simpa using n,n,World.grownBy.refl _ _,fun _ h=>.inl h⟩;rcases n.2 with⟨rfl,_⟩|⟨g,cap,m0,rfl,_,_,a0,_⟩
   .simp[Builtin.append_,run_underlying E,sizeOf,typeInfo,C,Builtin.lenOf,Builtin.firstCells]
   .simp[Builtin.append_,run_underlying E,sizeOf,typeInfo,C,Builtin.lenOf,Builtin.firstCells,a0,storeCells]
 obtain⟨v',d,m,F,G,H,I⟩:=m;unfold Oper.wp;simp[execOp,ho,resolve,invoke,builtin,hs,hx,m,Result.andThen];exact U _ _ (h v' d F G H I)
def kD(e:Nat)(S:Nat→Prop)(k:Nat)(w w':World):Prop:=if k=e then Chg S w w' else Bw' w w'
theorem fQ{e k:Nat}{S:Nat→Prop}{w a:World}(h:k≠e)(b:Bw' w a):kD e S k w a:=by unfold kD; rw[aC h]; exact b
theorem rK{e:Nat}{S:Nat→Prop}{w a:World}(h:Chg S w a):kD e S e w a:=by unfold kD; rw[aE rfl]; exact h
theorem nO{e k:Nat}{S:Nat→Prop}{w a:World}(h:kD e S k w a):Chg S w a:=by
 unfold kD at h
 split at h
 .exact h
 .exact Chg.of_below h
theorem rL{e k:Nat}{S:Nat→Prop}{w a:World}(h:kD e S k w a)(b:k≠e):Bw' w a:=by unfold kD at h; rwa [aC b]at h
theorem aBF(c:Value)(R:Nat→World→World→Prop)(k:Nat):∀i v w a,i≠k→isV c v w→R i w a→isV c v a:=fun _ _ _ _ _ h _=>h
theorem pv'{c:Value}{R:Nat→World→World→Prop}{k:Nat}:∀i v w a,i≠k→isV c v w→R i w a→isV c v a:=fun _ _ _ _ _ h _=>h
theorem fZ{w a:World}{v:Value}(h:w.grownBy a v.ownBlock):Chg (fun i=>v.ownBlock=some i) w a:=⟨h.os,h.tape,h.output,h.size,fun k b c=>h.block k b fun e=>c e.symm⟩
end
section
theorem Iq(v:Value)(w:World):Sem.run prog (Instr.typeAssert (.iface 88 v) 20 88 false) w=.ok v w:=by kernel_rfl
attribute [local go_sem] Iq
theorem Cv{base g:Nat}{v:Value}{l:List Bk}(w:World)(h:Que w base g v l):
  Calls prog 310 #[.pointer (some ⟨g,0,none⟩)] w fun e w'=>e=.returned (.i l.length)∧w'=w:=by
 obtain⟨A,c,rfl,_⟩:=eD h.row;have a:=h.blk.cell 0;simp only[aG]at a;clear h;go_enter func310,ntmps310;go_wp2_with fail;go_ret;exact⟨rfl,rfl⟩
section
variable {α:Type}{enc:α→List Value}{w w':World}{base k g:Nat}{t t2:TypeId}{v:Value}{l:List α}{cs:List Value}{S:Nat→Prop}
theorem Ow.chg(h:Ow w base t k v enc l)(g:Chg S w w')(j:∀i,v.ownBlock=some i→¬S i):Ow w' base t k v enc l:=by
 refine⟨h.1,?_⟩;rcases h.2 with e|⟨b,cap,d,c,f,a,r⟩
 .exact .inl e
 .exact .inr ⟨b,cap,d,c,f,(g.block b (fH.1 a).1 (j b (by rw[c]; rfl))).trans a,r⟩
theorem Ow.ne_blk(h:Ow w base t k v enc l)(b:Blk w g t2 cs)(d:t≠t2):v.ownBlock≠some g:=fun f=>by
 obtain⟨c1,i,c⟩:=Lib.ownsRow_kind h g f;have:=(show w.heap[g]? =_ from b).symm.trans c;injection this with e;injection e with _ a;exact d a.symm
theorem Ow.front{n c b:Nat}{x:α}(h:Ow w base t k (.slice (some ⟨b,0,none⟩) (n+1) c) enc (l++[x]))(f:∀a,(enc a).length=k):Ow w base t k (.slice (some ⟨b,0,none⟩) n c) enc l:=by
 have A:=h.1;unfold Ow at h ⊢;rw[bB,uC,lV]at h;rcases h.2 with⟨e,_⟩|⟨y,cap,i,e,m,o,B,p,r,s⟩
 .cases e
 .injection e with d z j
  subst j;injection d with d
  injection d with d
  subst d;have q:n=l.length:=by omega
  subst q;refine⟨eB k f l,.inr ⟨b,c,i,rfl,m,o,by omega,p,r,?_⟩⟩;have g:=bG (List.take (l.length*k)) s;rw[kN,oC (dV _ (by omega)),←eB k f l,List.take_left]at g;rw[←eB k f l];exact g
end
theorem Tb{base g:Nat}{v:Value}{l:List Bk}(x:Bk)(w:World)(h:Que w base g v (l++[x]))(z:l.length<1000000):
  Calls prog 312 #[.pointer (some ⟨g,0,none⟩)] w fun e w'=>e=.returned (.iface 88 (.agg x.cells.toArray))∧∃v',Que w' base g v' l∧QTo w w' g v v':=by
 obtain⟨b,c,rfl,A,B,d,D,j⟩:=h.at_ l.length (by simp);obtain⟨r,s,_,_⟩:=j l.length (by simp);have q:=h.blk.cell 0;simp only[aG]at q;have p:atB (l++[x]) l.length=x:=by rw[xW (by simp)]; simp
 rw[p]at r s;rw[bB,uC]at *;have H:=kp h;have E:=h.ne;have F:=h.blk.frozen 0;have C:=h.blk.lt;obtain⟨n,k⟩:=nm' l.length;rw[k]at z d r s q;clear h j p;go_enter func312,ntmps312;go_wp2_with fail;refine aU (v:=.iface 88 (.agg x.cells.toArray)) (by simp[results,results312,go_sem]; rfl) rfl ⟨rfl,?_⟩;have m:=(k▸H.o.row:Ow w base 88 2 (.slice (some ⟨b,0,none⟩) (n+1) c) Bk.cells (l++[x])).front bM;have d:=((Chg.refl (fun i=>i=g) w).setCell (.inr rfl) 0 (.slice (some ⟨b,0,none⟩) n c)).alloc (.cells #[.i x.a,.i x.o] 88);exact⟨_,⟨(H.o.blk.setCell 0 _).alloc _,m.chg d (fun i f y=>m.ne_blk H.o.blk (by decide) (y▸f)),H.o.lo⟩,d.mono fun i _ f=>.inl f,fun _ h=>.inl h⟩
theorem vK{α:Type}{enc:α→List Value}{w w':World}{B b a n c:Nat}{S:Nat→Prop}{l:List α}(h:Sl w B (.slice (some ⟨b,a,none⟩) n c) enc l)(m:Chg S w w')(g:¬S b)(i:b<w.heap.size):Sl w' B (.slice (some ⟨b,a,none⟩) n c) enc l:=by
 obtain⟨A,c2,e,p,d,f⟩:=h
 cases e;refine⟨_,_,rfl,?_,d,f⟩;rcases p with h|⟨r,s,e,k,o⟩
 .exact .inl h
 .cases e;exact .inr ⟨_,_,rfl,k,fun j u q=>(World.cell?_of_block (m.block b i g)).trans (o j u q)⟩
theorem Ow.lt{α:Type}{enc:α→List Value}{w:World}{base k:Nat}{t:TypeId}{v:Value}{l:List α}(h:Ow w base t k v enc l){i:Nat}(a:v.ownBlock=some i):base≤i∧i<w.heap.size:=World.ownsRow.lt h i a
theorem Que.blk_chg{w w':World}{base g:Nat}{v:Value}{l:List Bk}(h:Que w base g v l)(a:Chg (fun i=>v.ownBlock=some i) w w'):Blk w' g 305 [v]:=by
 refine h.blk.chg a fun c=>?_;obtain⟨c1,d,b⟩:=Lib.ownsRow_kind h.row g c;have:=(show w.heap[g]? =_ from h.blk).symm.trans b;simp at this
theorem Tc{base g:Nat}{v:Value}{l:List Bk}(x:Bk)(w:World)(h:Que w base g v l)(D:l.length<1000000)(f:base≤w.heap.size):
  Calls prog 313 #[.pointer (some ⟨g,0,none⟩),.iface 88 (.agg x.cells.toArray)] w fun e w'=>e=.returned (.tuple #[])∧∃v',Que w' base g v' (l++[x])∧QTo w w' g v v':=by
 have H:=kp h;have m:=kp (fun W(c:Chg (fun i=>v.ownBlock=some i) w W∧Ow W base 88 2 v Bk.cells l)=>h.blk_chg c.1);have y:=kp D;show Calls prog _ #[_,.iface _ (.agg #[.i x.a,.i x.o])] _ _;clear h D;go_enter func313,ntmps313;go_wp2_with fail;refine kU 11 (fun W=>Chg (fun i=>v.ownBlock=some i) w W∧Ow W base 88 2 v Bk.cells l) (kD 8 fun i=>v.ownBlock=some i) (by kernel_rfl) (by kernel_rfl) ⟨(Chg.refl _ _).drew,H.o.row.below (bR (aL _ _))⟩ ?_
 iterate 7 (refine bO ?_; apply Exists.intro)
 refine bS (fun u W=>∃b,u=.slice (some ⟨b,0,none⟩) 1 1∧(b<W.heap.size∧v.ownBlock≠some b)∧Sl W (b+1) u Bk.cells [x]) ?_;refine bS (fun u W=>Ow W base 88 2 u Bk.cells (l++[x])∧∀k,u.ownBlock=some k→v.ownBlock=some k∨w.heap.size≤k) ?_
 iterate 2 (refine bO ?_; apply Exists.intro)
 refine dR ⟨?pers,?walk⟩
 case walk=>
  iterate 4
   apply Sz (by kernel_rfl) (by intro t w h; cases h; exact trivial) rfl
   .intro W c d; go_wp2_with fail;exact⟨rfl,_,rfl,c,fQ (by decide) (aL _ _),rfl⟩
   simp only[Act.put,aN,aH,aI]
  apply Sz (by kernel_rfl) (by intro t w h; cases h; exact trivial) rfl
  .intro W c d; have q:=(m.o W c).cell 0; simp only[aG]at q; go_wp2_with fail;exact⟨rfl,_,rfl,c,fQ (by decide) (aL _ _),rfl⟩
  simp only[Act.put,aN,aH,aI]
  iterate 2
   apply Sz (by kernel_rfl) (by intro t w h; cases h; exact trivial) rfl
   .intro W c d; go_wp2_with fail;exact⟨rfl,_,rfl,c,fQ (by decide) (aL _ _),rfl⟩
   simp only[Act.put,aN,aH,aI]
  refine⟨fun W c d=>?_,fun u7=>?_⟩
  .go_wp2_with fail;exact⟨rfl,_,rfl,⟨c.1.alloc _,c.2.alloc _⟩,fQ (by decide) (ba' _ _),_,rfl,⟨by simp,fun r=>by have:=(c.2.lt r).2; omega⟩,eQ (enc:=Bk.cells) W 88 x⟩
  simp only[Act.put,aN,aH,aI];refine⟨fun W c d=>?_,fun V=>?_⟩
  .have F:=d 11 (bT (by kernel_rfl));obtain⟨b,rfl,T,Q⟩:=F;have J:base≤W.heap.size:=aB f c.1.size;go_wp2_with (at_builtin; refine mO (enc:=Bk.cells) W rfl (.tmp 8) (.tmp 11) 27 rfl base 88 jA fC rfl (by omega) bM c.2 rfl Q rfl (fun a _=>gU a) ?_ ?_ J ?_)
   .have:=y.o; unfold maxLen; show l.length+1≤_; omega
   .have:=y.o; show (l.length+1)*16≤_; omega
   intro v' S N O C K;exact⟨rfl,_,rfl,⟨c.1.trans (fZ C) (fun _ _ h=>h),O⟩,rK (fZ C),N,fun k L=>(K k L).imp id (aB c.1.size)⟩
  simp only[Act.put,aN,aH,aI]
  iterate 2
   apply Sz (by kernel_rfl) (by intro t w h; cases h; exact trivial) rfl
   .intro W c d; go_wp2_with fail;exact⟨rfl,_,rfl,c,fQ (by decide) (aL _ _),rfl⟩
   simp only[Act.put,aN,aH,aI]
  intro W c d;have j:=d 12;obtain⟨j,A⟩:=j;have q:=(m.o W c).cell 0;have U:=(m.o W c).frozen 0;have E:=kp c;have z:=kp (m.o W c);have p:=kp j;have B:=kp A;simp only[dO,dP,aG]at q ⊢;obtain⟨R,c8,rfl,_,_⟩:=eD j;rw[bB,uC]at p B;clear d c j A;go_wp2_with fail;go_end0;refine⟨rfl,_,⟨z.o.setCell 0 _,p.o.chg ((Chg.refl (fun i=>i=g) W).setCell (.inr rfl) 0 _) (fun i s r=>p.o.ne_blk z.o (by decide) (r▸s)),H.o.lo⟩,(E.a.mono fun i _ s=>.inr s).setCell (.inr (.inl rfl)) 0 _,B.o⟩
 case pers=>
  refine⟨pv',pv',pv',pv',pv',pv',pv',?_,?_,pv',pv',trivial⟩
  .rintro i u W W' _ ⟨b,rfl,f,P⟩ n;exact⟨b,rfl,⟨eA f.1 (nO n).size,f.2⟩,vK P (nO n) f.2 f.1⟩
  .rintro i u W W' M ⟨G,I⟩ n;exact⟨G.below (rL n M),I⟩
end
section
theorem Ir(a:Addr)(w:World):Sem.run prog (method 447 299 (.agg #[.pointer (some a)]) "Len") w=.ok (310,.pointer (some a)) w:=by kernel_rfl
theorem Is(a:Addr)(w:World):Sem.run prog (method 447 299 (.agg #[.pointer (some a)]) "Less") w=.ok (311,.pointer (some a)) w:=by kernel_rfl
theorem It(a:Addr)(w:World):Sem.run prog (method 447 299 (.agg #[.pointer (some a)]) "Swap") w=.ok (314,.pointer (some a)) w:=by kernel_rfl
theorem Iu(a:Addr)(w:World):Sem.run prog (method 447 299 (.agg #[.pointer (some a)]) "Push") w=.ok (313,.pointer (some a)) w:=by kernel_rfl
theorem Iv(a:Addr)(w:World):Sem.run prog (method 447 299 (.agg #[.pointer (some a)]) "Pop") w=.ok (312,.pointer (some a)) w:=by kernel_rfl
attribute [local go_sem] Ir Is It Iu Iv
theorem vL{base g:Nat}{v:Value}{l:List Bk}{a b:Int}(i j:Nat)(w:World)(h:Que w base g v l)(f:i<l.length)(k:j<l.length)(c:a=i)(d:b=j):
  Calls prog 311 #[.pointer (some ⟨g,0,none⟩),.i a,.i b] w fun e m=>e=.returned (.bool (lJ (atB l i) (atB l j)))∧Bw' w m:=by
 subst c d;exact Sw i j w h f k
theorem vM{base g:Nat}{v:Value}{l:List Bk}{a b:Int}(i j:Nat)(w:World)(h:Que w base g v l)(k:i<l.length)(m:j<l.length)(d:a=i)(f:b=j):
  Calls prog 314 #[.pointer (some ⟨g,0,none⟩),.i a,.i b] w fun e c=>e=.returned (.tuple #[])∧Que c base g v (lK l i j)∧QTo w c g v v:=by
 subst d f;exact Sx i j w h k m
def IsB(e:Ending):Prop:=∃b,e=.returned (.bool b)
theorem isB(b:Bool):IsB (.returned (.bool b)):=⟨b,rfl⟩
structure Td(l l':List Bk)(i0 n:Nat):Prop where
 perm:l'.Perm l
 same:∀k,n≤k→atB l' k=atB l k
 heap:nM (atB l) (i0+1) n→nM (atB l') i0 n
theorem Iw{base g:Nat}{v:Value}{l:List Bk}(B n:Nat)(w:World)(h:Que w base g v l)(hn:n≤l.length)(hi:B≤1000000)(g0:n≤1000000):
  Calls prog 281 #[qV g,.i B,.i n] w fun e V=>IsB e∧∃l',Que V base g v l'∧QTo w V g v v∧Td l l' B n:=by
 unfold qV;have H:=kp h;have S:=kp hn;go_enter func281,ntmps281;go_wp2_with fail
 go_loopw [7] (fun i wr=>∃k:Nat,i=.i k∧B≤k∧k≤1000000∧∃l',Que wr base g v l'∧QTo w wr g v v∧l'.Perm l∧(∀k,n≤k→atB l' k=atB l k)∧(nM (atB l) (B+1) n→vI (atB l') B n k)) (fun i _=>2000000-(intOf i).toNat)
 case atStart=>exact⟨B,rfl,aD _,hi,l,H.o,QTo.of (aL _ _),.refl _,fun _ _=>rfl,Sm⟩
 case round=>
  obtain⟨k,rfl,P,e0,l',Z,hT,U,d0,hh⟩:=hrel;have C:=kp Z;have d:=k'4 hT U d0 hh;have R:=kp U.length_eq
  by_cases h1:2*k+1<n
  .have X:(2:Int)*k+1<n:=by omega
   have a0:2*k+1<l'.length:=by have:=R.o; have:=S.o; omega
   have T:∀(c:Nat),gN k c→c=2*k+1∨c=2*k+2:=fun c f=>f
   by_cases h2:2*k+2<n
   .have Y:(2:Int)*k+1+1<n:=by omega
    have b0:2*k+2<l'.length:=by have:=R.o; have:=S.o; omega
    have M:=kp (vL (a:=2*k+1+1) (b:=2*k+1) (2*k+2) (2*k+1) wr C.o b0 a0 (by omega) (by omega));have N:=kp T
    cases hlj:lJ (atB l' (2*k+2)) (atB l' (2*k+1))
    .have O:=kp hlj;rw[hlj]at M;go_wp2_with fail;refine mb' M.o fun Q I=>?_;have y:=kp (QTo.of (v:=v) (g:=g) I);have s:=kp (C.o.below I);have x:=kp (show ∀c,gN k c→c<n→LeB (atB l' (2*k+1)) (atB l' c) from fun c f _=>by
           rcases N.o c f with rfl|rfl
           .exact LeB.refl _
           .exact xT.1 O.o)
     have m:=kp (vL (a:=2*k+1) (b:=k) (2*k+1) k Q s.o (by omega) (by omega) (by omega) rfl)
     cases hlt:lJ (atB l' (2*k+1)) (atB l' k)
     .have r:=kp hlt;rw[hlt]at m;go_wp2_with fail;refine mb' m.o fun z p=>?_;have j:=kp p;go_wp2_with fail;go_ret;refine⟨isB _,l',s.o.below j.o,(d.a.trans y.o).trans (QTo.of j.o),d.b,d.c,fun h=>xV (d.D h) fun c f A=>(xT.1 r.o).trans (x.o c f A)⟩
     .have r:=kp hlt;rw[hlt]at m;go_wp2_with fail;refine mb' m.o fun z p=>?_;have j:=kp p;have F:=kp (vM (a:=k) (b:=2*k+1) k (2*k+1) z (s.o.below p) (by omega) (by omega) rfl (by omega));go_wp2_with fail;refine F.o.mono ?_;rintro e W ⟨rfl,K,L⟩;have E:=kp K;have G:=kp L;go_wp2_with fail;go_roundw
      case rel=>
       refine⟨2*k+1,by go_num,by omega,by omega,lK l' k (2*k+1),E.o,((d.a.trans y.o).trans (QTo.of j.o)).trans G.o,(vJ (by omega) (by omega)).trans d.b,fun q J=>?_,fun h=>?_⟩
       .rw[rJ (by omega) (by omega)];unfold nN;rw[aC (by omega),aC (by omega)];exact d.c q J
       .rw[rJ (by omega) (by omega)];exact Cq (d.D h) P (by unfold gN; omega) (by omega) (xU r.o) x.o
      case measure=>simp[intOf]; omega
    .have O:=kp hlj;rw[hlj]at M;go_wp2_with fail;refine mb' M.o fun Q I=>?_;have y:=kp (QTo.of (v:=v) (g:=g) I);have s:=kp (C.o.below I);have x:=kp (show ∀c,gN k c→c<n→LeB (atB l' (2*k+2)) (atB l' c) from fun c f _=>by
           rcases N.o c f with rfl|rfl
           .exact xU O.o
           .exact LeB.refl _)
     have m:=kp (vL (a:=2*k+1+1) (b:=k) (2*k+2) k Q s.o (by omega) (by omega) (by omega) rfl)
     cases hlt:lJ (atB l' (2*k+2)) (atB l' k)
     .have r:=kp hlt;rw[hlt]at m;go_wp2_with fail;refine mb' m.o fun z p=>?_;have j:=kp p;go_wp2_with fail;go_ret;refine⟨isB _,l',s.o.below j.o,(d.a.trans y.o).trans (QTo.of j.o),d.b,d.c,fun h=>xV (d.D h) fun c f A=>(xT.1 r.o).trans (x.o c f A)⟩
     .have r:=kp hlt;rw[hlt]at m;go_wp2_with fail;refine mb' m.o fun z p=>?_;have j:=kp p;have F:=kp (vM (a:=k) (b:=2*k+1+1) k (2*k+2) z (s.o.below p) (by omega) (by omega) rfl (by omega));go_wp2_with fail;refine F.o.mono ?_;rintro e W ⟨rfl,K,L⟩;have E:=kp K;have G:=kp L;go_wp2_with fail;go_roundw
      case rel=>
       refine⟨2*k+2,by go_num,by omega,by omega,lK l' k (2*k+2),E.o,((d.a.trans y.o).trans (QTo.of j.o)).trans G.o,(vJ (by omega) (by omega)).trans d.b,fun q J=>?_,fun h=>?_⟩
       .rw[rJ (by omega) (by omega)];unfold nN;rw[aC (by omega),aC (by omega)];exact d.c q J
       .rw[rJ (by omega) (by omega)];exact Cq (d.D h) P (by unfold gN; omega) (by omega) (xU r.o) x.o
      case measure=>simp[intOf]; omega
   .have Y:¬(2:Int)*k+1+1<n:=by omega
    have N:=kp T;have y:=kp (QTo.of (v:=v) (g:=g) (aL wr.heap.size wr));have s:=kp (C.o.below (aL wr.heap.size wr));have x:=kp (show ∀c,gN k c→c<n→LeB (atB l' (2*k+1)) (atB l' c) from fun c f A=>by
         rcases N.o c f with rfl|rfl
         .exact LeB.refl _
         .omega)
    have m:=kp (vL (a:=2*k+1) (b:=k) (2*k+1) k wr s.o (by omega) (by omega) (by omega) rfl)
    cases hlt:lJ (atB l' (2*k+1)) (atB l' k)
    .have r:=kp hlt;rw[hlt]at m;go_wp2_with fail;refine mb' m.o fun z p=>?_;have j:=kp p;go_wp2_with fail;go_ret;refine⟨isB _,l',s.o.below j.o,(d.a.trans y.o).trans (QTo.of j.o),d.b,d.c,fun h=>xV (d.D h) fun c f A=>(xT.1 r.o).trans (x.o c f A)⟩
    .have r:=kp hlt;rw[hlt]at m;go_wp2_with fail;refine mb' m.o fun z p=>?_;have j:=kp p;have F:=kp (vM (a:=k) (b:=2*k+1) k (2*k+1) z (s.o.below p) (by omega) (by omega) rfl (by omega));go_wp2_with fail;refine F.o.mono ?_;rintro e W ⟨rfl,K,L⟩;have E:=kp K;have G:=kp L;go_wp2_with fail;go_roundw
     case rel=>
      refine⟨2*k+1,by go_num,by omega,by omega,lK l' k (2*k+1),E.o,((d.a.trans y.o).trans (QTo.of j.o)).trans G.o,(vJ (by omega) (by omega)).trans d.b,fun q J=>?_,fun h=>?_⟩
      .rw[rJ (by omega) (by omega)];unfold nN;rw[aC (by omega),aC (by omega)];exact d.c q J
      .rw[rJ (by omega) (by omega)];exact Cq (d.D h) P (by unfold gN; omega) (by omega) (xU r.o) x.o
     case measure=>simp[intOf]; omega
  .have X:¬(2:Int)*k+1<n:=by omega
   go_wp2_with fail;go_ret;exact⟨isB _,l',C.o,d.a,d.b,d.c,fun h=>xV (d.D h) fun c f A=>by unfold gN at f; omega⟩
end
section
attribute [local go_sem] Ir Is It Iu Iv
theorem Te{base g:Nat}{v:Value}{l:List Bk}{a:Int}(r:Nat)(w:World)(h:Que w base g v l)(s:r<l.length)(R:l.length≤1000000)(G:a=r):
  Calls prog 282 #[qV g,.i a] w fun e x=>e=.returned (.tuple #[])∧∃l',Que x base g v l'∧QTo w x g v v∧l'.Perm l:=by
 subst G;unfold qV;have H:=kp h;have M:=kp s;go_enter func282,ntmps282;go_wp2_with fail
 go_loopw [1] (fun i wr=>∃k:Nat,i=.i k∧k≤1000000∧∃l',k<l'.length∧Que wr base g v l'∧QTo w wr g v v∧l'.Perm l) (fun i _=>(intOf i).toNat)
 case atStart=>exact⟨r,rfl,by omega,l,s,H.o,QTo.of (aL _ _),.refl _⟩
 case round=>
  obtain⟨k,rfl,Q,l',q,E,F,J⟩:=hrel;have j:=kp E;have c:=k'2 F J;rcases zW k with rfl|P
  .go_wp2_with fail;go_end0;exact⟨rfl,l',j.o,c.a,c.B⟩
  .obtain⟨i,I⟩:∃i:Nat,(k-1) / 2=i:=⟨_,rfl⟩
   have D:((k:Int)-1) / 2=(i:Int):=by omega
   have N:((k:Int)-1).tdiv 2=(i:Int):=by rw[Int.tdiv_eq_ediv_of_nonneg (by omega)]; exact D
   have O:((i:Int)==(k:Int))=false:=by simp; omega
   have f:=kp (vL (a:=k) (b:=i) k i wr j.o q (by omega) rfl rfl);have n:=kp I
   cases hlt:lJ (atB l' k) (atB l' i)
   .rw[hlt]at f;go_wp2_with fail;refine mb' f.o fun y m=>?_;have d:=kp m;go_wp2_with fail;go_end0;exact⟨rfl,l',j.o.below d.o,c.a.trans (QTo.of d.o),c.B⟩
   .rw[hlt]at f;go_wp2_with fail;refine mb' f.o fun y m=>?_;have d:=kp m;have p:i<l'.length:=by have:=n.o; omega
    have A:=kp (vM (a:=i) (b:=k) i k y (j.o.below m) p q rfl rfl);go_wp2_with fail;refine A.o.mono ?_;rintro e S ⟨rfl,K,L⟩;have z:=kp K;have C:=kp L;go_wp2_with fail;go_roundw
    case rel=>exact⟨i,rfl,by have:=n.o; omega,lK l' i k,by rw[Cr]; exact p,z.o,(c.a.trans (QTo.of d.o)).trans C.o,(vJ p q).trans c.B⟩
    case measure=>have:=n.o; simp[intOf]; omega
theorem Tf{base g:Nat}{v:Value}{l:List Bk}(w:World)(h:Que w base g v l)(O:l.length≤1000000):
  Calls prog 280 #[qV g] w fun e f=>e=.returned (.tuple #[])∧∃l',Que f base g v l'∧QTo w f g v v∧l'.Perm l∧nM (atB l') 0 l'.length:=by
 have H:=kp h;have x:=kp (Cv w h);obtain⟨n,B⟩:=nm' l.length;rw[B]at O x;have E:=kp B;have M:((n:Int)).tdiv 2=((n / 2:Nat):Int):=by rw[Int.tdiv_eq_ediv_of_nonneg (by omega)]; omega
 have j:(n:Int) / 2=((n / 2:Nat):Int):=by omega
 obtain⟨m,A⟩:=nm' (n / 2);rw[A]at M j;have y:=kp A;have V:m≤1000000:=by have:=y.o; omega
 unfold qV;go_enter func280,ntmps280;go_wp2_with fail;refine x.o.mono ?_;rintro e f ⟨rfl,rfl⟩;go_wp2_with fail
 go_loopw [3] (fun i wr=>∃k:Nat,k≤m∧i=.i ((k:Int)-1)∧∃l',Que wr base g v l'∧QTo f wr g v v∧l'.Perm l∧nM (atB l') k n) (fun i _=>(intOf i+1).toNat)
 case atStart=>exact⟨m,aD _,rfl,l,H.o,QTo.of (aL _ _),.refl _,fun p q c L S=>by have:=y.o; unfold gN at L; omega⟩
 case round=>
  obtain⟨k,T,rfl,l',J,K,q,N⟩:=hrel;have z:=kp J;have d:=k'3 K q N;have s:=kp (show l'.length=n by rw[q.length_eq]; exact E.o);rcases zW k with rfl|U
  .go_wp2_with fail;go_end0;exact⟨rfl,l',z.o,d.a,d.b,s.o▸d.C⟩
  .have R:(0:Int)≤(k:Int)-1:=by omega
   obtain⟨i,rfl⟩:∃i,k=i+1:=⟨k-1,by omega⟩
   have I:((i+1:Nat):Int)-1=(i:Int):=by omega
   rw[I];have D:=kp (Iw i n wr z.o (by rw[s.o]; exact aD _) (by omega) (by omega));go_wp2_with fail;refine D.o.mono ?_;rintro e W ⟨⟨b,rfl⟩,l2,P,Q,j⟩;have F:=kp P;have G:=kp Q;have r:=kp j;go_wp2_with fail;go_roundw
   case rel=>exact⟨i,by omega,rfl,l2,F.o,d.a.trans G.o,r.o.perm.trans d.b,r.o.heap d.C⟩
   case measure=>simp[intOf]
theorem Tg{base g:Nat}{v:Value}{l:List Bk}(w:World)(h:Que w base g v l)(P:l.length≤1000000)(h0:0<l.length)(O:nM (atB l) 0 l.length):
  Calls prog 269 #[qV g] w fun e m=>∃(x:Bk)(l':List Bk)(v':Value),e=.returned (.iface 88 (.agg x.cells.toArray))∧Que m base g v' l'∧QTo w m g v v'∧l.Perm (x::l')∧∀y∈l,LeB x y:=by
 have H:=kp h;have p:=kp (Cv w h);obtain⟨n,r⟩:∃n,l.length=n+1:=⟨l.length-1,by omega⟩
 rw[r]at P p;have c:=kp r;have D:=kp O;have J:=kp (vM (a:=0) (b:=n) 0 n w h (by omega) (by omega) rfl rfl);unfold qV;have Z:((n+1:Nat):Int)-1=(n:Int):=by omega
 go_enter func269,ntmps269;go_wp2_with fail;refine p.o.mono ?_;rintro e m ⟨rfl,rfl⟩;go_wp2_with fail;refine J.o.mono ?_;rintro e W ⟨rfl,z,S⟩;have Y:=kp z;have K:=kp S;have C:=kp (Iw 0 n W z (by rw[Cr,c.o]; omega) (by omega) (by omega));go_wp2_with fail;refine C.o.mono ?_;rintro e X ⟨⟨b,rfl⟩,d,A,T,f⟩;have a0:d.length=n+1:=by rw[f.perm.length_eq,Cr]; exact c.o
 have B:d=d.take n++[atB l 0]:=by
  have N:atB d n=atB l 0:=by
   rw[f.same n (aD _),rJ (by rw[c.o]; omega) (by rw[c.o]; omega)];unfold nN
   by_cases s:n=0
   .subst s; rw[aE rfl]
   .rw[aC s,aE rfl]
  rw[←N,xW (by omega),←cV (by omega)];exact (cN (by omega)).symm
 have Q:l.Perm (atB l 0::d.take n):=by
  have:=(f.perm.trans (vJ (l:=l) (i:=0) (j:=n) (by rw[c.o]; omega) (by rw[c.o]; omega))).symm;rw[B]at this;refine this.trans ?_;exact Ov
 have F:=kp Q;have E:=kp (show ∀y∈l,LeB (atB l 0) y from fun y V=>by
  obtain⟨k,q,rfl⟩:=zU V;have:=Sn D.o k q
  rwa [xW q]at this)
 rw[B]at A;have G:=kp (Tb (atB l 0) X A (by rw[cZ]; omega));have L:=kp T;go_wp2_with fail;refine G.o.mono ?_;rintro e w4 ⟨rfl,v4,R,U⟩;have I:=kp R;have M:=kp U;go_wp2_with fail;go_ret;exact⟨_,_,_,rfl,I.o,(K.o.trans L.o).trans M.o,F.o,E.o⟩
theorem Th{base g:Nat}{v:Value}{l:List Bk}(x:Bk)(w:World)(h:Que w base g v l)(d:l.length<1000000)(y:base≤w.heap.size):
  Calls prog 270 #[qV g,.iface 88 (.agg x.cells.toArray)] w fun e b=>e=.returned (.tuple #[])∧∃v' l',Que b base g v' l'∧QTo w b g v v'∧l'.Perm (x::l):=by
 have k:=kp (Tc x w h d y);have j:=kp d;have D:l.length≤1000000:=by omega
 unfold qV;go_enter func270,ntmps270;go_wp2_with fail;refine k.o.mono ?_;rintro e i ⟨rfl,E,f,A⟩;have c:=kp (Cv i f);have p:=kp A;have r:=kp (Te (a:=(l.length:Int)) l.length i f (by simp) (by have:=j.o; simp; omega) rfl);have s:(l++[x]).length=l.length+1:=by simp
 rw[s]at c;go_wp2_with fail;refine c.o.mono ?_;rintro e b ⟨rfl,rfl⟩;go_wp2_with fail;refine r.o.mono ?_;rintro e F ⟨rfl,C,z,B,hp3⟩;have n:=kp z;have q:=kp B;have m:=kp hp3;go_wp2_with fail;go_end0;exact⟨rfl,_,C,n.o,p.o.trans q.o,m.o.trans Ov⟩
end
end Go.Proofs.YtdoopoapbffpbaaGreat
