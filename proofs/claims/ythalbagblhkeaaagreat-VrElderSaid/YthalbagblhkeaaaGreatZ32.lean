import Derived.Test.YthalbagblhkeaaaGreatZ31
import Derived.Shelf.Sort.Plain
import Derived.Sort.OwnSortedInts
import Derived.RangeFuncNested
import Derived.RangeFuncBound
import Derived.RangeFuncCalls
import Derived.RangeFuncLeaves
import Derived.Shelf.Abstract
import Derived.Shelf.RegionOpen
import Derived.OwnWalkIn
import Derived.TacticsInMore
import Derived.LoopNIn
import Derived.LoopIn
namespace Go.Proofs.YthalbagblhkeaaaGreat
open Go.RowKit Go.Proofs.Tryz
set_option maxRecDepth 100000
set_option maxHeartbeats 12800000
set_option linter.unusedVariables false
set_option linter.unusedSimpArgs false
section
open Go.Shelf Go.Sort Go.RowKit
def aD6:Go.Shelf.Ren:=⟨fun|189=>128|125=>173|257=>172|128=>228|129=>229|294=>220|295=>221|296=>222|297=>223|298=>224|299=>225|216=>175|300=>226|301=>227|328=>255|329=>256|330=>257|331=>258|332=>259|215=>155|343=>287|n=>n,fun|28=>33|3=>3|46=>209|0=>0|51=>286|53=>213|4=>4|183=>280|182=>279|131=>157|5=>5|9=>9|218=>311|222=>269|228=>342|229=>343|n=>n,fun|n=>n⟩
theorem aD7:Go.Proofs.Lays.n189 prog aD6:={
 mixed:=by kernel_rfl
 f125:=func173.trans (bG some (by kernel_rfl))
 f128:=func228.trans (bG some (by kernel_rfl))
 f129:=func229.trans (bG some (by kernel_rfl))
 f189:=func128.trans (bG some (by kernel_rfl))
 f215:=func155.trans (bG some (by kernel_rfl))
 f216:=func175.trans (bG some (by kernel_rfl))
 f257:=func172.trans (bG some (by kernel_rfl))
 f294:=func220.trans (bG some (by kernel_rfl))
 f295:=func221.trans (bG some (by kernel_rfl))
 f296:=func222.trans (bG some (by kernel_rfl))
 f297:=func223.trans (bG some (by kernel_rfl))
 f298:=func224.trans (bG some (by kernel_rfl))
 f299:=func225.trans (bG some (by kernel_rfl))
 f300:=func226.trans (bG some (by kernel_rfl))
 f301:=func227.trans (bG some (by kernel_rfl))
 f328:=func255.trans (bG some (by kernel_rfl))
 f329:=func256.trans (bG some (by kernel_rfl))
 f330:=func257.trans (bG some (by kernel_rfl))
 f331:=func258.trans (bG some (by kernel_rfl))
 f332:=func259.trans (bG some (by kernel_rfl))
 f343:=func287.trans (bG some (by kernel_rfl))
 t0:=underlying0
 a0:=isAgg0
 z0:=sizeOf0
 v0:=zeroValue0
 t3:=dD
 a3:=isAgg3
 z3:=sizeOf3
 v3:=zeroValue3
 t4:=aCw
 a4:=isAgg4
 z4:=sizeOf4
 v4:=zeroValue4
 t5:=sX
 a5:=isAgg5
 z5:=sizeOf5
 v5:=zeroValue5
 t9:=oG
 a9:=isAgg9
 z9:=sizeOf9
 v9:=zeroValue9
 t28:=lT
 a28:=isAgg33
 z28:=sizeOf33
 v28:=zeroValue33
 t46:=underlying209
 a46:=isAgg209
 z46:=sizeOf209
 v46:=zeroValue209
 t51:=underlying286
 a51:=isAgg286
 z51:=sizeOf286
 v51:=zeroValue286
 t53:=underlying213
 a53:=isAgg213
 z53:=sizeOf213
 v53:=zeroValue213
 t131:=underlying157
 a131:=isAgg157
 z131:=sizeOf157
 v131:=zeroValue157
 t182:=underlying279
 a182:=isAgg279
 z182:=sizeOf279
 v182:=zeroValue279
 t183:=underlying280
 a183:=isAgg280
 z183:=sizeOf280
 v183:=zeroValue280
 t218:=underlying311
 a218:=isAgg311
 z218:=sizeOf311
 v218:=zeroValue311
 t222:=underlying269
 a222:=isAgg269
 z222:=sizeOf269
 v222:=zeroValue269
 t228:=underlying342
 a228:=isAgg342
 z228:=sizeOf342
 v228:=zeroValue342
 t229:=underlying343
 a229:=isAgg343
 z229:=sizeOf343
 v229:=zeroValue343}
theorem aD8(a c cap:Nat)(b:List Int)(w:World)(d:Go.Sort.Holds (Value.int .i64) w a c b.toArray)(f:a<w.heap.size)(g:b.length<4611686018427387904):
  Calls prog 128 #[.slice (some ⟨a,c,none⟩) b.length cap] w fun e i=>
   e=.returned (.tuple #[])∧∃n h,i=grow (putRow (Value.int .i64) (Sort.ahead w n) a c (b.mergeSort fun x y=>decide (x≤y)).toArray) h:=Any.slices_Sort_int aD7 a c cap b w d f g
theorem aD9(base g cap n:Nat)(b:List Int)(w:World)(h:w.ownsRow base 3 1 (.slice (some ⟨g,0,none⟩) n cap) n (iv b))(A:n≤1000000):
  Calls prog 128 #[.slice (some ⟨g,0,none⟩) n cap] w fun e d=>e=.returned (.tuple #[])∧d.ownsRow base 3 1 (.slice (some ⟨g,0,none⟩) n cap) n (iv (cH b))∧Below base w d:=by
 have r:b.length=n:=by have:=h.1; rw[fM]at this; omega
 subst r;rcases h.2 with⟨l,_⟩|⟨g',y,z,x,i,c,m,o,p,f⟩
 .cases l
 .injection x with a _ q
  injection a with a
  injection a with a
  subst a q;have s:g<w.heap.size:=(fH.1 c).1;refine (aD8 g 0 cap b w (holds_of_blockI c (by rw[oF]at f; exact f)) s (by omega)).mono ?_;rintro e d ⟨rfl,k,B,rfl⟩;refine⟨rfl,?_,?_⟩
  .exact ownsRow_sortedI (aCO b) i c m o p
  .exact (aL base w).grown (grownBy_sortedI _) (by omega) (fun j e=>by cases e; exact i)
end
section
theorem aEa{P:Program}(w:World){a:TypeId}{A:Addr}{v:Value}{d:TypeDesc}(e:P.underlying a=some d)(c:(match d with |.struct _|.array _ _=>true|_=>false)=false)(b:w.cell? A=some v):
  (loadVar a A).run P w=.ok v w:=by
 unfold loadVar
 cases d<;>simp at c<;>simp[isAgg,underlying,Sem.run_bind,Result.andThen,e,go_sem,b]
theorem aCP{a:Nat}{w W:World}{l:Nat}{b:Obj}(h:Below a w W)(c:a≤l)(d:a≤W.heap.size):Below a w (W.putObj l b):=
 h.trans ((aL a W).grown (grownBy_putObj' W l b) d (fun k e=>by cases e; exact c))
theorem aCQ{W:World}{B l:Nat}{t:TypeId}{v:Value}{o:Obj}(h:Boxed W B t v)(a:B≠l):Boxed (W.putObj l o) B t v:=h.kept (grownBy_putObj' W l o) (fun e=>a (by cases e; rfl))
theorem wF{W W':World}{B C:Nat}{t:TypeId}{v:Value}(h:Boxed W B t v)(b:Below C W W')(a:B<C):Boxed W' B t v:=(b.block B a).trans h
def aBG(l:List (Int×Int)):List Value:=(l.map fun a=>[Value.i a.1,Value.i a.2]).flatten
theorem aEb(l:List (Int×Int)):(aBG l).length=l.length*2:=by
 have:=Bd 2 (l.map fun a=>[Value.i a.1,Value.i a.2]) (fun r b=>by obtain⟨a,_,rfl⟩:=cX.1 b; rfl);simpa [aBG] using this
theorem aEc(l:List (Int×Int))(i:Nat)(b:i<l.length):(aBG l)[i*2]? =some (.i (l[i]).1)∧(aBG l)[i*2+1]? =some (.i (l[i]).2):=by
 have h:=fun t d=>wV 2 (l.map fun a=>[Value.i a.1,Value.i a.2]) (fun r c=>by obtain⟨a,_,rfl⟩:=cX.1 c; rfl) i t (by simpa using b) d;constructor
 .have:=h 0 (by omega);simpa [aBG] using this
 .have:=h 1 (by omega);simpa [aBG] using this
theorem aCR{w:World}{B:Nat}{A:Option Addr}{l:List (Int×Int)}(i:Rd w B A (aBG l))(k:Nat)(h:k<l.length):
  ∃b a,A=some ⟨b,a,none⟩∧b<B∧w.cell? ⟨b,a+k*2,none⟩=some (.i (l[k]).1)∧w.cell? ⟨b,a+k*2+1,none⟩=some (.i (l[k]).2):=by
 obtain⟨b,a,f,g,c⟩:=i.at_ (k:=k*2) (by rw[aEb]; omega);obtain⟨d,e⟩:=aEc l k h;refine⟨b,a,f,g,c _ _ d,?_⟩;rw[oE];exact c _ _ e
theorem aEd(N own n:Int)(A:Option Addr)(m c C Ba Bn Bo:Nat)(l:List (Int×Int))(w:World)(W:N≤7)(hr:Rd w C A (aBG l))(hC:C≤w.heap.size)(Y:l.length=m)(hm:m≤1000000)
  (F:Boxed w Ba 35 (.slice A m c)) (S:Boxed w Bn 3 (.i N)) (U:Boxed w Bo 3 (.i own)):
  Calls prog 125 #[.i n,.pointer (some ⟨Ba,0,none⟩),.pointer (some ⟨Bn,0,none⟩),.pointer (some ⟨Bo,0,none⟩)] w fun e D=>e=.returned (.bool (wE N own l n))∧Bw' w D:=by
 obtain⟨r,G⟩:=nm' (wE N own l n);rw[G];have HE:=kp G; clear G;have q0:=F.cell;have H:=k'5 hr Y F S U;clear hr Y F S U;go_enter func125,ntmps125;go_wp2_with fail
 go_loopw [6,12] (fun s i wr=>∃k:Nat,k≤m∧i=.i k∧s=.int .u16 (Ao N (aEH (l.take k) n))∧Bw' w wr) (fun _ i _=>m-(intOf i).toNat)
 case atStart=>exact⟨0,by omega,rfl,rfl,aL _ _⟩
 case round=>
  obtain⟨k,hk,rfl,rfl,X⟩:=hrel;have hs:=aCL N W (aEH (l.take k) n) 0 (by omega);have p:Ao N (aEH (l.take k) n)<256:=hs;clear hs;have f:=kp X; clear X
  by_cases l0:k<m
  .have g3:(k:Int)<(m:Int):=by omega
   have j:k<l.length:=by have:=H.b; omega
   obtain⟨b,m0,hA,g0,c0,c1⟩:=aCR (H.a.below f.o hC) k j;subst hA;have K:=aD2 (l.take k) n (l[k]'j);rw[←cV j]at K;have Q:=kp K; clear K;generalize l[k]'j=a at *;obtain⟨x,y⟩:=a;have d0:=f.o.alloc f.o.size (.cells #[.i x,.i y] 109);have L:=kp d0; clear d0;have p1:=((wF H.d f.o H.d.lt).alloc (.cells #[.i x,.i y] 109)).cell
   by_cases hy:n≤y
   .have g:=aDU (Ao N (aEH (l.take k) n)) x N (wr.alloc (.cells #[.i x,.i y] 109)) p W;rw[←aDY]at g;have h:aEH (l.take (k+1)) n=aEH (l.take k) n++[x]:=by rw[Q.o,aE hy]
    rw[←h]at g;obtain⟨s2,J⟩:∃z,Ao N (aEH (l.take (k+1)) n)=z:=⟨_,rfl⟩
    rw[J]at g;have HW:=kp g; have e0:=kp J; clear g h J;generalize Ao N (aEH (l.take k) n)=s1 at *;go_wp2_with fail;refine HW.o.mono ?_;rintro e D ⟨rfl,rfl⟩;go_wp2_with fail;go_roundw
    case rel=>exact⟨k+1,by omega,by go_num,by rw[e0.o],L.o⟩
    case measure=>simp[intOf]; omega
   .have h:aEH (l.take (k+1)) n=aEH (l.take k) n:=by rw[Q.o,aC hy,fS]
    obtain⟨s1,I⟩:∃z,Ao N (aEH (l.take k) n)=z:=⟨_,rfl⟩
    rw[I];have R:=k'2 h I; clear h I p;go_wp2_with fail;go_roundw
    case rel=>exact⟨k+1,by omega,by go_num,by rw[R.a,R.B],L.o⟩
    case measure=>simp[intOf]; omega
  .obtain rfl:k=m:=by omega
   have b0:l.take k=l:=cN (by have:=H.b; omega);rw[b0]at p ⊢;clear b0;have Z:=aD0 N (aEH l n);have j0:=aDS N (aEH l n) 8;have V:=wF H.E f.o H.E.lt;have T:=wF H.d f.o H.d.lt;have p1:=V.cell; have p2:=T.cell;clear V T;have O:=kp Z; clear Z;have a0:r=decide (N<2*((aBO N (aEH l n) 8+if n≤own then 1 else 0:Nat):Int)):=by rw[←HE.o]; rfl
   have P:=kp a0; clear a0;have M:=kp (aDX (Ao N (aEH l n)) wr p);generalize Ao N (aEH l n)=s1 at *;generalize aBO N (aEH l n) 8=q at *
   by_cases ho:n≤own
   .go_wp2_with fail;refine M.o.mono ?_;rintro e D ⟨rfl,rfl⟩;rw[O.o];go_wp2_with fail;go_ret;refine⟨?_,f.o⟩;rw[P.o,aE ho];exact mK (bG Value.bool (decide_eq_decide.2 (by omega)))
   .go_wp2_with fail;refine M.o.mono ?_;rintro e D ⟨rfl,rfl⟩;rw[O.o];go_wp2_with fail;go_ret;refine⟨?_,f.o⟩;rw[P.o,aC (show ¬n≤own by omega)];exact mK (bG Value.bool (decide_eq_decide.2 (by omega)))
end
section
attribute [local go_sem] Oper.semAt_some
theorem aEe(A:Option Addr)(n c:Nat)(w:World):
  Calls prog 129 #[.slice A n c] w fun e a=>e=.returned (.func (.func 174) #[] #[.pointer (some ⟨w.heap.size,0,none⟩)])∧a=w.alloc (.cells #[.slice A n c] 33):=by
 go_enter func129,ntmps129;go_wp2_with fail;go_ret;exact⟨rfl,rfl⟩
theorem aEf(a:List Int)(k:Nat):(dwn a).take k<+:dwn a:=List.take_prefix _ _
theorem aEg(a:List Int)(k:Nat)(b:k<a.length):(dwn a).take (k+1)=(dwn a).take k++[(a.length-1-k,a.getD (a.length-1-k) 0)]:=by
 have h:k<(dwn a).length:=by rw[aCf]; exact b
 rw[cV h]
 congr 2
 have:=aCg a k b;rw[eK h]at this;exact Option.some.inj this
theorem aEh(Bs d g c n:Nat)(b:List Int)(w:World)(H:Bs<w.heap.size)(d0:d≤w.heap.size)(hg:g<d)(Q:b.length=n)(Z:n≤1000000)
  (r:w.cell? ⟨Bs,0,none⟩=some (.slice (some ⟨g,0,none⟩) n c)) (G:Bs<d) (s:∀j,j<n→w.cell? ⟨g,j,none⟩=some (.i (b.getD j 0))):
  SeqStopsK Fence.wide 5 prog 174 #[.pointer (some ⟨Bs,0,none⟩)] (fun x:Nat×Int=>#[Value.i (x.1:Int),Value.i x.2]) (Below d) (fun R=>R=dwn b) (fun pre=>pre<+:dwn b) n w:=by
 intro l J Jx W A hJ Y hY F;have L:=(A.cell (p:=⟨Bs,0,none⟩) H).trans r;have B:∀j,j<n→W.cell? ⟨g,j,none⟩=some (.i (b.getD j 0)):=fun j f=>(A.cell (p:=⟨g,j,none⟩) (by simp; omega)).trans (s j f);have E:=k'3 B s r; clear B s r;subst Q;refine callsIn_of_wp func174 rfl trivial ?_ rfl;simp only[ntmps174,gT,eV,mH,Nat.reduceAdd,Nat.reduceSub,Array.replicate_succ,Array.replicate_zero,List.push_toArray,List.append_toArray,aT,aW]
 gi_wp2
 gi_loopw [3] (fun i wr=>∃k:Nat,k≤b.length∧i=.i ((b.length:Int)-1-k)∧J ((dwn b).take k) wr∧Below d W wr) (fun i _=>(intOf i+1).toNat)
 case atStart=>exact⟨0,cY _,by simp,by simpa using F,aL _ _⟩
 case round=>
  obtain⟨k,hk,rfl,m,y⟩:=hrel;have a0:wr.cell? ⟨Bs,0,none⟩=some (.slice (some ⟨g,0,none⟩) b.length c):=(y.cell (p:=⟨Bs,0,none⟩) G).trans L
  by_cases O:k<b.length
  .obtain⟨j,f⟩:∃j:Nat,b.length-1-k=j:=⟨_,rfl⟩
   have D:(b.length:Int)-1-k=(j:Int):=by omega
   have M:j<b.length:=by omega
   have h:=aEg b k O;rw[f]at h;have b0:wr.cell? ⟨g,j,none⟩=some (.i (b.getD j 0)):=(y.cell (p:=⟨g,j,none⟩) (by simp; omega)).trans (E.a j M);obtain⟨X,e0,U,V,P,q⟩:=hY _ (j,b.getD j 0) wr m (by rw[cZ,aCf]; omega);dsimp only at P q;rw[←h]at q;have S:=kp h; clear h;have z:=kp (show j+k+1=b.length by omega); clear f;rw[D];clear D;generalize b.getD j 0=x at *
   gi_wp2
   refine q.mono ?_;rintro e T (⟨rfl,I,N⟩|⟨rfl,K⟩)
   .gi_wp2
    go_roundw
    case rel=>exact⟨k+1,by omega,by have:=z.o; simp; omega,I,y.trans N⟩
    case measure=>have:=z.o; simp[intOf]; try omega
   .gi_wp2
    refine aU (results_none rfl _ _ _) rfl ?_;exact⟨⟨_,rfl⟩,.inr ⟨_,aEf b (k+1),K⟩⟩
  .obtain rfl:k=b.length:=by omega
   have C:(b.length:Int)-1-(b.length:Int)= -1:=by omega
   rw[C];clear C;rw[cN (by rw[aCf]; exact aD _)]at m
   gi_wp2
   go_end0;exact⟨⟨_,rfl⟩,.inl ⟨_,rfl,m⟩⟩
theorem aEi{α:Type}{P:Program}{g:Operand}{b d q:Tmp}{j k:Code}{Q:Exit→Act→World→Prop}{a:Act}{w:World}
  {f:Nat} {m:Array Value} (J:a.eval g=.func (.func f) #[] m) (o:∀args w,(callFunc f args).run P w=.ok (.enter f args) w)
  {v1 v2:α→Value} {h:Nat} {S i:List α→Prop} {N:Nat} (M:SeqStopsK Fence.wide 5 P f m (fun x=>#[v1 x,v2 x]) (Below h) S i N w) (L:h≤w.heap.size)
  (I:List α→World→Prop) (Ix:Code→List α→World→Prop) (B:OwnFrom w.heap.size I) (C:∀c,OwnFrom w.heap.size (Ix c)) (r:I [] w)
  (F:∀(l:Nat)(x:α)(W:World)(K:Act→World→Prop),K {tmps:=((a.tmps.setIfInBounds b (v1 x)).setIfInBounds d (v2 x)).setIfInBounds q (v2 x),defers:=[]} W→
   j.wpIn (Fence.wide.inRound l) 4 P (Exit.then K (fun _ _ _=>False)) {tmps:=(a.tmps.setIfInBounds b (v1 x)).setIfInBounds d (v2 x),defers:=[]} W)
  (G:∀(l:Nat)(pre:List α)(x:α)(W:World),I pre W→pre.length<N→k.wpIn (Fence.wide.inRound l) 4 P (ownPostK (Below h) I Ix (pre++[x]) W) {tmps:=((a.tmps.setIfInBounds b (v1 x)).setIfInBounds d (v2 x)).setIfInBounds q (v2 x),defers:=[]} W)
  (H:∀(D:Nat)(xs:List α)(W:World),w.heap.size≤D→S xs→I xs W→W.heap[D]? =some (.deferred (some []))→Q .normal {a with defers:={target:=.collected D,args:=#[]}::a.defers} W)
  (O:∀(D:Nat)(c:Code)(pre:List α)(W:World),w.heap.size≤D→i pre→Ix c pre W→W.heap[D]? =some (.deferred (some []))→c.wp P Q {a with defers:={target:=.collected D,args:=#[]}::a.defers} W):
  (Code.rangeFunc g #[b,d] j k).wp P Q a w:=by
 refine (wpIn_wide (n:=6)).1 (wpIn_rangeFunc_ownF rfl (by omega) J trivial o M belowK_t (belowK_b L) (aL _ _) (fun _=>rfl) I Ix B C r
  (fun x=>{tmps:=((a.tmps.setIfInBounds b (v1 x)).setIfInBounds d (v2 x)).setIfInBounds q (v2 x),defers:=[]}) ?_ G H (fun D c pre W s y z A=>wpIn_wide.2 (O D c pre W s y z A)))
 intro l x W K E;have e:((#[b,d]:Array Tmp).zip #[v1 x,v2 x]).foldl (fun t(p,v)=>t.setIfInBounds p v) a.tmps=(a.tmps.setIfInBounds b (v1 x)).setIfInBounds d (v2 x):=by simp
 rw[e];exact F l x W K E
end
section
attribute [local go_sem] Oper.semAt_some
theorem aEj:(prog.info? 3).map (fun i=>(i.zero,i.size,i.bytes))=some (some (.i 0),1,8):=by kernel_rfl
theorem aEk(w:World){A:Addr}{v:Value}(a:w.cell? A=some v):(loadVar 3 A).run prog w=.ok v w:=aEa w dD rfl a
theorem aCu{a:Array Value}{w:World}{b:Nat}{u:Value}(c:a.getD 6 undef=.pointer (some ⟨b,0,none⟩))(c1:w.cell? ⟨b,0,none⟩=some u):(results f72 a).run prog w=.ok u w:=by
 have d:a[6]?.getD undef=.pointer (some ⟨b,0,none⟩):=by simpa using c
 simp[results,d,asAddr,aEk w c1]
theorem aCS{W W':World}(h:Bw' W W'):KeepsOthers W W':=⟨h.size,fun k _ a _=>(h.block k (fH.1 a).1).trans a⟩
theorem aEl(w:World)(b c d f h:TypeId)(v1 v2 e g i:Value):∃a,((((w.alloc (.cells #[v1] b)).alloc (.cells #[v2] c)).alloc (.cells #[e] d)).alloc (.cells #[g] f)).alloc (.cells #[i] h)=a∧
  Boxed a w.heap.size b v1∧Boxed a (w.heap.size+1) c v2∧Boxed a (w.heap.size+2) d e∧Boxed a (w.heap.size+3) f g∧Boxed a (w.heap.size+4) h i∧a.heap.size=w.heap.size+5∧Bw' w a:=by
 have j:=Boxed.new (w.alloc (.cells #[v1] b)) c v2;have k:=Boxed.new ((w.alloc (.cells #[v1] b)).alloc (.cells #[v2] c)) d e;have l:=Boxed.new (((w.alloc (.cells #[v1] b)).alloc (.cells #[v2] c)).alloc (.cells #[e] d)) f g;have m:=Boxed.new ((((w.alloc (.cells #[v1] b)).alloc (.cells #[v2] c)).alloc (.cells #[e] d)).alloc (.cells #[g] f)) h i;simp only[World.size_alloc]at j k l m;exact⟨_,rfl,((((Boxed.new w b v1).alloc _).alloc _).alloc _).alloc _,((j.alloc _).alloc _).alloc _,(k.alloc _).alloc _,l.alloc _,m,by simp,(((((ba' w _).alloc (by simp) _).alloc (by simp; omega) _).alloc (by simp; omega) _).alloc (by simp; omega) _)⟩
theorem aEm(N own:Int)(A:Option Addr)(m c C:Nat)(l:List (Int×Int))(w:World)(q2:inR N)(hr:Rd w C A (aBG l))(hC:C≤w.heap.size)(hl:l.length=m)(hm:m≤100000):
  Calls prog 72 #[.i N,.i own,.slice A m c] w fun e w'=>e=.returned (.i (aBJ N own l))∧Bw' w w':=by
 obtain⟨r,z0⟩:=nm' (aBJ N own l);rw[z0];have HE:=kp z0; clear z0;have H:=k'2 hr hl; clear hr hl;refine (callsIn_wide (n:=6)).1 (callsIn_of_wp_marks func72 rfl trivial (wpIn_wide.2 ?_) rfl);simp only[ntmps72,gT,eV,mH,Nat.reduceAdd,Nat.reduceSub,Array.replicate_succ,Array.replicate_zero,List.push_toArray,List.append_toArray,aT,aW];go_wp2_with fail;refine (Jx N _ q2).mono ?_;rintro e w' ⟨rfl,rfl⟩;obtain⟨i0,a3,j3,o3,q3⟩:=info_parts aEj
 cases hnb:kB N
 .obtain rfl:r=0:=by rw[←HE.o]; unfold aBJ; rw[hnb]; rfl
  clear hnb;go_wp2_with fail;refine⟨_,aCu (b:=w.heap.size+1+1+1) rfl (Boxed.cell (t:=3) ?_),rfl,?_⟩
  .have M:=World.alloc_heap_new (((w.alloc (.cells #[.i N] 3)).alloc (.cells #[.i own] 3)).alloc (.cells #[.slice A m c] 35)) (.cells #[.i 0] 3);simp only[World.size_alloc]at M;exact M
  .exact (((ba' w _).alloc (by simp) _).alloc (by simp; omega) _).alloc (by simp; omega) _
 .have p2:N≤7:=by have:=aDR hnb; omega
  have a1:=kp hnb; clear hnb;have g4:∀(W:World)(a:Addr)(fn:Fn)(f cp:Array Value)(mo:Mode),(store a (.func fn f cp) mo).run prog W=stored prog W a (.func fn f cp) mo:=fun W a fn f cp mo=>run_store prog W a (.func fn f cp) mo rfl;go_wp2_with fail;obtain⟨O,d2,b0,b1,b2,b3,aS,a2,d1⟩:=aEl w 3 3 35 3 66 (.i N) (.i own) (.slice A m c) (.i 0)
   (.func (.func 125) #[] #[.pointer (some ⟨w.heap.size+1+1,0,none⟩),.pointer (some ⟨w.heap.size,0,none⟩),.pointer (some ⟨w.heap.size+1,0,none⟩)])
  rw[d2];have J:=k'7 b0 b1 b2 b3 aS a2 d1;clear d2 b0 b1 b2 b3 aS a2 d1
  go_loopw [8,21] (fun v i wr=>∃k:Nat,k≤m∧i=.i k∧wr.ownsRow O.heap.size 3 1 v (k+1) (iv (own::(l.take k).map (·.2)))∧Bw' O wr) (fun _ i _=>m-(intOf i).toNat)
  case atStart=>
   refine⟨0,by omega,rfl,?_,ba' O _⟩;have M:=World.ownsRow_lit (e:=3) (size:=1) O #[.i own] 1 (aD O.heap.size) (by unfold maxLen; omega) rfl;rw[J.f]at M;rw[J.f];exact M
  case round=>
   obtain⟨k,hk,rfl,T,hb⟩:=hrel;have HB:=kp hb;have HO:=kp T;have e2:=kp (J.G.on hb);clear hb T
   by_cases e4:k<m
   .have g3:(k:Int)<(m:Int):=by omega
    have j0:k<l.length:=by have:=H.B; omega
    obtain⟨b,j4,hA,z3,c0,c1⟩:=aCR (H.a.below e2.o hC) k j0;subst hA;have z1:own::(l.take (k+1)).map (·.2)=(own::(l.take k).map (·.2))++[(l[k]'j0).2]:=by
     rw[cV j0]; simp only[gC,kM,wM,aW]
    have HS:=kp z1; clear z1;generalize l[k]'j0=a at *;obtain⟨x,y⟩:=a;have o2:=kp (HO.o.alloc (.cells #[.i x,.i y] 109));have L:=kp (HB.o.alloc HB.o.size (.cells #[.i x,.i y] 109));go_wp2_with (at_builtin; refine Pa (wr.alloc (.cells #[.i x,.i y] 109)) rfl (.tmp 25) (.tmp 28) _ rfl O.heap.size 3 i0 _ 8 lT a3 j3 o3 q3 rfl _ (k+1) _ o2.o rfl (.i y) (by simp[Value.oneCell']) (by simp[Act.eval]) ?_ ?_ L.o.size ?_)
    .unfold maxLen; omega
    .omega
    intro v5 F Z g0;have V:=k'2 Z (L.o.trans (uO o2.o g0 L.o.size)); clear Z g0;go_wp2_with fail;go_roundw
    case rel=>exact⟨k+1,by omega,by go_num,by rw[HS.o]; simpa [iv] using V.a,V.B⟩
    case measure=>simp[intOf]; omega
   .obtain rfl:k=m:=by omega
    have m1:own::(l.take k).map (·.2)=lG own l:=by rw[cN (by have:=H.B; omega)]; rfl
    have T:=HO.o;rw[m1]at T;rcases Fl T with⟨_,h0,_⟩|⟨g,cap,rfl,a4,z2,_,_⟩
    .omega
    have g2:=kp (aD9 O.heap.size g cap (k+1) (lG own l) wr T (by omega));clear T m1;go_wp2_with fail;refine g2.o.mono ?_;rintro e F ⟨rfl,Z,p0⟩;have j2:=kp (p0.size);have V:=k'2 Z (HB.o.trans p0); clear Z p0;go_wp2_with fail;refine (aEe _ _ _ _).mono ?_;rintro e w6 ⟨rfl,rfl⟩;go_wp2_with fail;obtain⟨R,a0⟩:=nm' (F.alloc (.cells #[.slice (some ⟨g,0,none⟩) (k+1) cap] 33));have e3:R.heap.size=F.heap.size+1:=by rw[←a0]; simp
    have y0:(cH (lG own l)).length=k+1:=by rw[aCO]; simp[lG]; exact H.B
    have p1:Boxed R F.heap.size 33 (.slice (some ⟨g,0,none⟩) (k+1) cap):=by rw[←a0]; exact Boxed.new _ _ _
    have m0:Bw' F R:=by rw[←a0]; exact ba' F _
    have g0:g<F.heap.size:=eA z2 j2.o;have q1:∀j,j<k+1→R.cell? ⟨g,j,none⟩=some (.i ((cH (lG own l)).getD j 0)):=fun j hj=>by
     have h1:=V.a.cellAt j (by omega);have h2:(iv (cH (lG own l)))[j]? =some (.i ((cH (lG own l)).getD j 0)):=by simp[iv,List.getD,show j<(cH (lG own l)).length by omega]
     exact (m0.cell (p:=⟨g,j,none⟩) g0).trans (h1.trans h2)
    rw[a0];have o0:Bw' O F:=V.B;have d3:=J.f;have S:Bw' O R:=o0.on m0;have j1:Bw' w R:=J.G.on S;have l0:=wF J.a S (by omega);have l1:=wF J.b S (by omega);have l2:=wF J.c S (by omega);have l3:=wF J.d S (by omega);have l4:=wF J.e S (by omega);have P:=k'7 l0 l1 l2 l3 l4 j1 e3;have d4:w.heap.size+5≤F.heap.size:=by have:=o0.size; omega
    clear a0 o0 d3 S j1 l0 l1 l2 l3 l4;have e0:=aEh F.heap.size (F.heap.size+1) g cap (k+1) (cH (lG own l)) R (by omega) (by omega) (by omega) y0 (by omega) p1.cell (by omega) q1;have HG:=k'2 y0 m0; clear y0 m0 p1 q1;refine aEi (q:=12) rfl (enters_of func174 (by kernel_rfl) rfl) (v1:=fun x:Nat×Int=>Value.i (x.1:Int)) (v2:=fun x:Nat×Int=>Value.i x.2) e0 (by omega)
     (fun pre W=>(∀p∈pre,¬(0<p.2∧wE N own l p.2=true))∧Below (F.heap.size+1) R W)
     (fun cd pre W=>(cd=.ret∧∃q p,pre=q++[p]∧(0<p.2∧wE N own l p.2=true)∧(∀x∈q,¬(0<x.2∧wE N own l x.2=true))∧Boxed W (w.heap.size+3) 3 (.i p.2))∧Bw' w W)
     ?hI ?hIx ?h0 ?hassign ?hbody ?hdone ?hstop
    case hI=>exact OwnFrom.and (ownFrom_pure _ (fun pre:List (Nat×Int)=>∀p∈pre,¬(0<p.2∧wE N own l p.2=true))) (ownFrom_below (by omega) (by omega))
    case hIx=>
     intro cd;refine OwnFrom.and (Own.from ?_ _) (ownFrom_below (aD _) (by omega));rintro pre X Y y3 ⟨h1,q,p,h2,h3,h4,h5⟩ hg hr;exact⟨h1,q,p,h2,h3,h4,boxed_own _ _ (fun _=>_) pre X Y y3 h5 hg hr⟩
    case h0=>exact⟨by simp,aL _ _⟩
    case hassign=>
     intro l9 x W K Q;simp only[aN,aH,aI]at Q ⊢
     gi_wp2
     exact Q
    case hbody=>
     rintro l9 pre ⟨x1,U⟩ W ⟨hq,z⟩ _;simp only[aN,aH,aI];have y2:=z.size;have m4:=wF P.e z (by omega);have E:=wF P.d z (by omega);have p4:=m4.cell; have p3:=E.cell; have f3:=E.frozen;have d0:Bw' w W:=P.f.trans (z.mono (by omega));have HH:=kp (aEd N own U A k c C (w.heap.size+1+1) w.heap.size (w.heap.size+1) l W p2 (H.a.below d0 hC) (by have:=d0.size; omega) H.B (by omega) (wF P.c z (by omega)) (wF P.a z (by omega)) (wF P.b z (by omega)));have s:=k'4 hq z d0 E;clear hq z d0 m4 E e0;obtain⟨hv,q0⟩:=nm' (wE N own l U);rw[q0]at HH;have HV:=kp q0; clear q0
     by_cases hx:0<U
     .cases hv
      .gi_wp2
       refine⟨trivial,(CallsIn.inRound l9 (callsIn_wide.2 HH.o)).mono ?_⟩;rintro e W2 ⟨rfl,L⟩;have I:=kp L; clear L
       gi_wp2
       refine⟨aCS I.o,⟨I.o.os,I.o.tape,I.o.output,I.o.size,fun j hj=>I.o.block j (by omega)⟩,⟨?_,s.b.trans (I.o.mono (by omega))⟩⟩;intro p hp;rcases dF.1 hp with h|h
       .exact s.a p h
       .obtain rfl:p=(x1,U):=by simpa using h
        intro M;have:=HV.o;rw[M.2]at this
        cases this
      .gi_wp2
       refine⟨trivial,(CallsIn.inRound l9 (callsIn_wide.2 HH.o)).mono ?_⟩;rintro e W2 ⟨rfl,L⟩;have E:=wF s.D L (by omega);have I:=k'2 L E;have p5:=E.cell; have f5:=E.frozen;clear L E
       gi_wp2
       refine⟨(aCS I.a).trans (KeepsOthers.setCell _ _ _),⟨⟨rfl,pre,(x1,U),rfl,⟨hx,HV.o⟩,s.a,I.B.set _⟩,(s.c.trans (I.a.mono (by omega))).setCell (p:=⟨_,0,none⟩) (by simp; omega) _⟩⟩
     .gi_wp2
      refine⟨fun _ h=>(by cases h),?_⟩
      gi_wp2
      refine⟨KeepsOthers.refl _,aL _ _,⟨?_,s.b⟩⟩;intro p hp;rcases dF.1 hp with h|h
      .exact s.a p h
      .obtain rfl:p=(x1,U):=by simpa using h
       exact fun M=>by have:=M.1; simp only at this; omega
    case hdone=>
     rintro D ys W hD rfl ⟨hq,z⟩ Q;obtain rfl:r=0:=by rw[←HE.o]; exact (aD5 a1.o hq).symm
     have y2:=z.size;have E:=wF P.d z (by omega);have p3:=E.cell; have f3:=E.frozen;have s:=k'3 Q (P.f.trans (z.mono (by omega)):Bw' w W) E;clear hq z Q E e0;go_wp2_with fail;have m2:=(KeepsOthers.setCell W ⟨w.heap.size+1+1+1,0,none⟩ (.i 0)).same D _ s.a rfl;have o1:=s.b.setCell (p:=⟨w.heap.size+1+1+1,0,none⟩) (by simp; omega) (.i 0);refine⟨by simp,.inl ⟨_,_,rfl,run_takeDeferred m2,?_⟩⟩;exact⟨_,aCu (b:=w.heap.size+1+1+1) rfl (aCQ (s.C.set _) (by omega)).cell,rfl,aCP o1 (by omega) o1.size⟩
    case hstop=>
     rintro D cd pre W hD y1 ⟨⟨rfl,q,p,rfl,h3,h4,h5⟩,g1⟩ Q;obtain rfl:p.2=r:=by rw[←HE.o]; exact aD4 a1.o y1 h3 h4
     have s:=k'3 Q g1 h5;clear y1 h3 h4 h5 g1 Q e0;go_wp2_with fail;refine⟨by simp,.inl ⟨_,_,rfl,run_takeDeferred s.a,?_⟩⟩;exact⟨_,aCu (b:=w.heap.size+1+1+1) rfl (aCQ s.C (by omega)).cell,rfl,aCP s.b (by omega) s.b.size⟩
theorem aEn(v:Value)(B:Nat)(w:World)(h:Sl w B v Ak.cells [⟨2,1⟩])(a:B≤w.heap.size):Calls prog 72 #[.i 3,.i 1,v] w fun e d=>e=.returned (.i 1)∧Bw' w d:=by
 obtain⟨A,c,rfl,b,-⟩:=h;have:=aEm 3 1 A 1 c B [(2,1)] w ⟨by decide,by decide⟩ b a rfl (by decide);rw[show aBJ 3 1 [(2,1)]=1 by decide+kernel]at this;exact this
end
section
attribute [-go_sem] loadCellsFrom storeCells run_eql_struct run_neq_struct Instr.build
attribute [local go_sem] bC
theorem aEF.okay_no{q r:aEF}{m:Mg}(h:q.okay m=some r)(a:¬(m.view=q.r.k.view∧gY q.r=true∧mN q.r=true∧m.number≤q.r.k.last)):q=r:=by
 unfold aEF.okay at h; rw[aC a]at h; exact Option.some.inj h
theorem aEF.okay_go{q r:aEF}{m:Mg}(h:q.okay m=some r)(b:m.view=q.r.k.view∧gY q.r=true∧mN q.r=true∧m.number≤q.r.k.last):(q.r.acks=[]∧q.r.nodes=3∧q.r.k.last=1∧m.number=1∧m.src=2)∧aEF.reach ⟨{q.r with acks:=[⟨2,1⟩]},q.rs,q.ms⟩ 1=some r:=by
 unfold aEF.okay at h; rw[aE b]at h
 by_cases a:q.r.acks=[]∧q.r.nodes=3∧q.r.k.last=1∧m.number=1∧m.src=2
 .rw[aE a]at h; exact⟨a,h⟩
 .rw[aC a]at h; cases h
def RpV.acked(r:RpV)(v:Value)(x:Ak):RpV:=⟨r.id,r.nodes,r.k,r.commit,r.s,r.timer,r.starts,r.sv,r.votes,r.vv,[x],v,r.part⟩
def aEo(base:Nat)(x:Ak)(u:Value)(W:World):Prop:=Ow W base 109 2 u Ak.cells [x]
theorem aCT(p:WkV)(a:List Value):(p.cells a)[20]? =some p.r.av:=rfl
theorem aEp{g base B:Nat}(p:WkV)(ps:List ObV)(m:MgV)(w:World)(q:aEF)(h:WkO w base g 79 [] p ps)(hm:Sl w B m.ev En.cells m.es)(g0:B≤base)(hb:base≤w.heap.size)(S:HrS p m)(U:(m.kind=3∧p.x.prep m.x=some q)∨(m.kind=4∧p.x.okay m.x=some q)):
  Calls prog 35 #[.pointer (some ⟨g,0,none⟩),.agg m.cells.toArray] w fun e w'=>e=.returned (.tuple #[])∧aBI w w' base g p q:=by
 obtain⟨W1,j2,x1,b1,z1⟩:=par w 48 m.cells;have A:=h.below b1;have j3:=aP (show W1.cell? ⟨w.heap.size,3,none⟩=some (.i m.view) from x1.cell 3);have i2:=aP (show W1.cell? ⟨g,2,none⟩=some (.i p.r.k.view) from A.blk.cell 2);have jl:∀r:Blw W1,Sem.run prog (loadCellsFrom ⟨g,0,none⟩ 0 26 #[]) r.w=.ok p.r.cells.toArray r.w:=fun r=>(A.blk.grow r.h).loadOff 0 26 p.r.cells rfl rfl;obtain⟨n,hn⟩:=nm' (gY p.r.x);have q1:=kp (fun r:Blw W1=>by have:=aCn p.r r.w; rw[hn]at this; exact this);obtain⟨a,ha⟩:=nm' (m.view==p.r.k.view);have HX:=k'4 A x1 b1 (aB hb b1.size);have L:=k'6 h hm g0 hb S (aB g0 hb);have HA:=k'2 (show a=true↔m.view=p.r.k.view by rw[←ha]; simp) hn;have HQ:=kp U;clear x1 b1 z1 A hn h hm g0 hb S U;have q0:(a=false∧(a&&n)=false)∨(a=true∧n=false∧(a&&n)=false)∨(a=true∧n=true∧(a&&n)=true):=by
  cases a<;>cases n<;>decide
 obtain⟨i,hi⟩:=nm' (a&&n);have HI:=kp (show i=true↔m.x.view=p.x.r.k.view∧gY p.x.r=true by
  have J:gY p.x.r=n:=HA.B;have A:=HA.a;rw[←hi,J,bI];exact and_congr_left fun _=>A)
 rw[hi]at q0;clear hi;go_enter func35,ntmps35;go_wp2_with fail;rcases q0 with⟨rfl,rfl⟩|⟨rfl,rfl,rfl⟩|⟨rfl,rfl,rfl⟩
 all_goals
  refine bJ (by kernel_rfl) (by kernel_rfl) ?_
  repeat (go_big_quiet_step ((go_at_call 50; with_reducible refine bU (q1.o _))))
  refine bH ?_;rintro Y ⟨⟨_,I⟩,rfl⟩;have J:=HX.a.below I;have x2:=HX.b.grow I;have m2:=Sl.below L.b (HX.c.on I) L.F;have l:=k'5 J x2 m2 (HX.c.on I) (aB HX.D I.size);have l2:=x2.load (P:=prog) (k:=23) rfl;have k0:Y.cell? ⟨w.heap.size,0,none⟩=some (.i m.kind):=x2.cell 0;clear J x2 m2 I j3 i2 jl ha;rcases HQ.o with⟨hk,U⟩|⟨hk,U⟩
  .rw[hk]at k0;have HP:=kp (aDL p ps m _ Y q l.a l.c L.c l.E L.e HI.o U);clear hk U;go_wp2_with fail;refine (HP.o).mono ?_;rintro e w3 ⟨rfl,p1,o2,m0,g1⟩;have M:=k'2 (m0.pre l.d) g1;clear m0 g1;go_wp2_with fail;go_end0;exact⟨rfl,.of M.a M.B⟩
  rw[hk]at k0;have HO:=kp U;clear hk U
 iterate 2
  .have HE:=kp (aEF.okay_no HO.o (fun hy=>by have:=HI.o.2 ⟨hy.1,hy.2.1⟩; cases this));go_wp2_with fail;refine bJ (by kernel_rfl) (by kernel_rfl) ?_
   repeat (go_big_quiet_step (fail))
   refine bH ?_;rintro R ⟨⟨_,G⟩,rfl⟩;have M:=kp ((aEG.refl (l.a.below G)).pre (l.d.on G));clear G;go_wp2_with fail;go_end0;exact⟨rfl,.of M.o HE.o⟩
 have d1:=HI.o.1 rfl;have jl:∀r:Blw Y,Sem.run prog (loadCellsFrom ⟨g,0,none⟩ 0 26 #[]) r.w=.ok p.r.cells.toArray r.w:=fun r=>(l.a.blk.grow r.h).loadOff 0 26 p.r.cells rfl rfl;have j5:=aP (show Y.cell? ⟨w.heap.size,5,none⟩=some (.i m.number) from l.b.cell 5);obtain⟨z,hz⟩:=nm' (mN p.r.x);have d0:=kp (fun r:Blw Y=>by have:=Ks p.r r.w L.e.s.inN; rw[hz]at this; exact this);obtain⟨la,j0⟩:=nm' p.r.k.x.last;have a0:=kp (fun r:Blw Y=>by have:=aAD p ps r.w (l.a.below r.h) L.e.s.log.1 (aB L.e.s.log.2.1 (by decide)); rw[j0]at this; exact this);obtain⟨y,hy⟩:=nm' (decide (m.number≤la));have Q:=k'4 d1 hz j0 hy;clear d1 hz j0;have d2:(z=false)∨(z=true∧y=false)∨(z=true∧y=true):=by cases z<;>cases y<;>simp
 rcases d2 with rfl|⟨rfl,rfl⟩|⟨rfl,rfl⟩
 iterate 2
  .have HE:=kp (aEF.okay_no HO.o (fun hc=>by
    first
     |(have A:=Q.b; have J:=hc.2.2.1; rw[show mN p.x.r=mN p.r.x from rfl,A]at J; contradiction)
     |(have A:=Q.D; have J:=hc.2.2.2; rw[show p.x.r.k.last=la from Q.c]at J; rw[bY (show m.number≤la from J)]at A; contradiction)))
   go_wp2_with fail;refine bJ (by kernel_rfl) (by kernel_rfl) ?_
   repeat (go_big_quiet_step ((first |(go_at_call 57; with_reducible refine bU (d0.o _))|(go_at_call 44; with_reducible refine bU (a0.o _)))))
   refine bH ?_;rintro R ⟨⟨_,G⟩,rfl⟩;have M:=kp ((aEG.refl (l.a.below G)).pre (l.d.on G));clear G;go_wp2_with fail;go_end0;exact⟨rfl,.of M.o HE.o⟩
 have O:=kp (aEF.okay_go HO.o ⟨Q.a.1,Q.a.2,Q.b,by show m.number≤p.r.k.x.last; rw[Q.c]; exact bT Q.D⟩);go_wp2_with fail;refine bJ (by kernel_rfl) (by kernel_rfl) ?_
 repeat (go_big_quiet_step ((first |(go_at_call 57; with_reducible refine bU (d0.o _))|(go_at_call 44; with_reducible refine bU (a0.o _)))))
 refine bH ?_;rintro R ⟨⟨_,G⟩,rfl⟩;have HD:=kp (show Bw' R R.drew from bR (aL _ _));have N:=k'4 ((l.a.below G).below HD.o) ((l.b.grow G).grow HD.o) ((l.d.on G).on HD.o) (aB l.E (aB G.size HD.o.size));have m1:=kp (fun(W:World)(u:Below R.drew.heap.size R.drew W)=>by
  have A:=(N.a.below u).rep.acks;have J:p.r.acks=[]:=O.a.1;rw[J]at A;have:=aDQ p.r.av m.src m.number W.heap.size W (A.sl nH) (aD _);rw[show m.src=2 from O.a.2.2.2.2,show m.number=1 from O.a.2.2.2.1]at this;exact this)
 have a1:m.src=2:=O.a.2.2.2.2;have z0:m.number=1:=O.a.2.2.2.1;have l0:=k'2 a1 z0;clear G jl j5 hy l2 k0 a1 z0 d0 a0;go_wp2_with fail;refine kU 14 (fun W'=>Below R.drew.heap.size R.drew W') (fun _=>rM) (by kernel_rfl) (by kernel_rfl) (aL _ _) ?_
 iterate 10 (refine bO ?_; apply Exists.intro)
 refine bS (aEo base ⟨2,1⟩) ?_
 iterate 3 (refine bO ?_; apply Exists.intro)
 refine dR ⟨?_,?_⟩
 rotate_left
 iterate 5
  apply Sz (by kernel_rfl) (by intro t w h; cases h; exact trivial) rfl
  .intro W' f j; go_wp2_with fail;exact⟨rfl,_,rfl,f,aL _ _,rfl⟩
  simp only[Act.put,aN,aH,aI]
 apply Sz (by kernel_rfl) (by intro t w h; cases h; exact trivial) rfl
 .intro W' f j; have q7:=(N.a.below f).blk.cell 20; rw[aCT]at q7; go_wp2_with fail;exact⟨rfl,_,rfl,f,aL _ _,rfl⟩
 simp only[Act.put,aN,aH,aI];apply Sz (by kernel_rfl) (by intro t w h; cases h; exact trivial) rfl
 .intro W' f j; go_wp2_with fail;exact⟨rfl,_,rfl,f,aL _ _,rfl⟩
 simp only[Act.put,aN,aH,aI];apply Sz (by kernel_rfl) (by intro t w h; cases h; exact trivial) rfl
 .intro W' f j; have q7:W'.cell? ⟨w.heap.size,1,none⟩=some (.i 2):=(by rw[←l0.a]; exact (N.b.grow f).cell 1); go_wp2_with fail;exact⟨rfl,_,rfl,f,aL _ _,rfl⟩
 simp only[Act.put,aN,aH,aI];apply Sz (by kernel_rfl) (by intro t w h; cases h; exact trivial) rfl
 .intro W' f j; go_wp2_with fail;exact⟨rfl,_,rfl,f,aL _ _,rfl⟩
 simp only[Act.put,aN,aH,aI];apply Sz (by kernel_rfl) (by intro t w h; cases h; exact trivial) rfl
 .intro W' f j; have q7:W'.cell? ⟨w.heap.size,5,none⟩=some (.i 1):=(by rw[←l0.B]; exact (N.b.grow f).cell 5); go_wp2_with fail;exact⟨rfl,_,rfl,f,aL _ _,rfl⟩
 simp only[Act.put,aN,aH,aI];refine⟨fun W' f j=>?_,fun g2=>?_⟩
 .go_wp2_with fail;refine (m1.o W' f).mono ?_;rintro e w4 ⟨v4,rfl,e2,y0⟩;go_wp2_with fail;exact⟨rfl,_,rfl,f.on y0,y0,e2.mono (aB N.D f.size)⟩
 simp only[Act.put,aN,aH,aI]
 iterate 3
  apply Sz (by kernel_rfl) (by intro t w h; cases h; exact trivial) rfl
  .intro W' f j; go_wp2_with fail;exact⟨rfl,_,rfl,f,aL _ _,rfl⟩
  simp only[Act.put,aN,aH,aI]
 intro X f j;have ho:Ow X base 109 2 g2 Ak.cells [⟨2,1⟩]:=j 56;clear j;simp only[dO,dP];obtain⟨H,c5,rfl,-⟩:=eD ho;have K:=N.a.below f;have l1:=K.blk.cell 20;have b2:=K.blk.frozen 20;rw[aCT]at l1;have x5:Blk (X.setCell ⟨g,20,none⟩ (.slice H 1 c5)) g 79 (WkV.cells ⟨p.r.acked (.slice H 1 c5) ⟨2,1⟩,p.rs,p.rv,p.ms,p.mv⟩ []):=K.blk.setCell 20 _;have e0:=(Chg.refl (fun i=>i=g) X).setCell (.inr rfl) 20 (.slice H 1 c5);have o5:WkO (X.setCell ⟨g,20,none⟩ (.slice H 1 c5)) base g 79 [] ⟨p.r.acked (.slice H 1 c5) ⟨2,1⟩,p.rs,p.rv,p.ms,p.mv⟩ ps:=K.put (.inl rfl) x5 e0 ⟨K.rep.es,K.rep.st,K.rep.starts,K.rep.votes,K.rep.ves,ho⟩;have Z:aEG X (X.setCell ⟨g,20,none⟩ (.slice H 1 c5)) base g p ⟨p.r.acked (.slice H 1 c5) ⟨2,1⟩,p.rs,p.rv,p.ms,p.mv⟩ ps:=⟨o5,e0.mono fun _ _ h=>.inl h,fun _ h=>.inl h,fun _ h=>.inl h⟩
 obtain⟨T,p0⟩:∃W,X.setCell ⟨g,20,none⟩ (.slice H 1 c5)=W:=⟨_,rfl⟩
 rw[p0]at Z;have b0:=kp (show Bw' T T.drew from bR (aL _ _));have V:=k'3 (Z.o.below b0.o) ((Z.pre (N.c.on f)).post b0.o) (aB N.D (aB f.size (aB Z.size b0.o.size)));have S:=L.e;have a0:=kp (fun(W:World)(u:Below T.drew.heap.size T.drew W)=>aAD _ ps W (V.a.below u) S.s.log.1 (aB S.s.log.2.1 (by decide)));have a2:=kp (fun(W:World)(u:Below T.drew.heap.size T.drew W)=>by
  have:=aEn (.slice H 1 c5) W.heap.size W ((V.a.below u).rep.acks.sl nH) (aD _);rw[←show p.r.nodes=3 from O.a.2.1]at this;exact this)
 have o1:=kp (show p.r.k.x.last=1 from O.a.2.2.1);clear ho K x5 e0 o5 Z f S;go_wp2_with fail;clear l1 b2 p0;refine kU 14 (fun W'=>Below T.drew.heap.size T.drew W') (fun _=>rM) (by kernel_rfl) (by kernel_rfl) (aL _ _) ?_
 iterate 14 (refine bO ?_; apply Exists.intro)
 refine dR ⟨?_,?_⟩
 rotate_left
 iterate 5
  apply Sz (by kernel_rfl) (by intro t w h; cases h; exact trivial) rfl
  .intro W' f j; go_wp2_with fail;exact⟨rfl,_,rfl,f,aL _ _,rfl⟩
  simp only[Act.put,aN,aH,aI]
 apply Sz (by kernel_rfl) (by intro t w h; cases h; exact trivial) rfl
 .intro W' f j; have q7:W'.cell? ⟨g,1,none⟩=some (.i p.r.nodes):=(V.a.below f).blk.cell 1; go_wp2_with fail;exact⟨rfl,_,rfl,f,aL _ _,rfl⟩
 simp only[Act.put,aN,aH,aI];apply Sz (by kernel_rfl) (by intro t w h; cases h; exact trivial) rfl
 .intro W' f j; go_wp2_with fail;exact⟨rfl,_,rfl,f,aL _ _,rfl⟩
 simp only[Act.put,aN,aH,aI];apply Sz (by kernel_rfl) (by intro t w h; cases h; exact trivial) rfl
 .intro W' f j;go_wp2_with fail;refine mb' (a0.o W' f) fun w2 I=>?_;go_wp2_with fail;exact⟨rfl,_,rfl,f.on I,I,rfl⟩
 simp only[Act.put,aN,aH,aI]
 iterate 4
  apply Sz (by kernel_rfl) (by intro t w h; cases h; exact trivial) rfl
  .intro W' f j; go_wp2_with fail;exact⟨rfl,_,rfl,f,aL _ _,rfl⟩
  simp only[Act.put,aN,aH,aI]
 apply Sz (by kernel_rfl) (by intro t w h; cases h; exact trivial) rfl
 .intro W' f j; have q7:W'.cell? ⟨g,20,none⟩=some (.slice H 1 c5):=(V.a.below f).blk.cell 20; go_wp2_with fail;exact⟨rfl,_,rfl,f,aL _ _,rfl⟩
 simp only[Act.put,aN,aH,aI];apply Sz (by kernel_rfl) (by intro t w h; cases h; exact trivial) rfl
 .intro W' f j;rw[show (p.r.acked (.slice H 1 c5) ⟨2,1⟩).k.x.last=1 from o1.o];go_wp2_with fail;refine mb' (a2.o W' f) fun w2 I=>?_;go_wp2_with fail;exact⟨rfl,_,rfl,f.on I,I,rfl⟩
 simp only[Act.put,aN,aH,aI];intro W6 f j;clear j;simp only[dO,dP];have S:=L.e;have y1:=kp (aCE (q:=q) ⟨p.r.acked (.slice H 1 c5) ⟨2,1⟩,p.rs,p.rv,p.ms,p.mv⟩ ps 1 W6 (V.a.below f) (aB V.C f.size) ⟨S.s.nodes,S.s.kept,S.s.kr,S.s.img,S.s.top,S.s.st,S.s.rs,S.s.ms⟩ S.c S.r ⟨by decide,by decide⟩ O.B S.ms);have HB:=kp f;clear f S;go_wp2_with fail;refine (y1.o).mono ?_;rintro e w7 ⟨rfl,p2,q2,o0,j1⟩;have M:=k'2 ((V.b.post HB.o).trans o0) j1;clear o0 j1;go_wp2_with fail;go_end0;exact⟨rfl,.of M.a M.B⟩;exact⟨pv',pv',pv',pv',pv',pv',pv',pv',pv',pv',fun _ _ _ _ _ h hR=>Ow.below h hR,pv',pv',pv',trivial⟩;exact⟨pv',pv',pv',pv',pv',pv',pv',pv',pv',pv',pv',pv',pv',pv',trivial⟩
end
end Go.Proofs.YthalbagblhkeaaaGreat
