import Derived.Test.YtoncgpddjmgbfaaGreatZ26
import Derived.Shelf.Sort.Plain
import Derived.Sort.OwnSortedInts
import Derived.RangeFuncNested
import Derived.RangeFuncBound
import Derived.RangeFuncCalls
import Derived.RangeFuncLeaves
import Derived.Shelf.Abstract
import Derived.Shelf.RegionOpen
import Derived.OwnWalkIn
import Derived.TacticsInMore
import Derived.LoopNIn
import Derived.LoopIn
namespace Go.Proofs.YtoncgpddjmgbfaaGreat
open Go.RowKit Go.Proofs.Tryz
set_option maxRecDepth 100000
set_option maxHeartbeats 12800000
set_option linter.unusedVariables false
set_option linter.unusedSimpArgs false
section
theorem aAc{n:Int}(h:iB n=true):n=3∨n=5∨n=7:=by
 simp only[iB,pS,bR]at h;omega
def inN(x:Int)(l:List Int):Bool:=decide (x∈l)
def Km(n:Int)(l:List Int)(k:Nat):Bool:=decide (1≤k)&&decide ((k:Int)≤n)&&inN k l
def rD(n:Int)(l:List Int)(k:Nat):Nat:=((List.range k).filter (Km n l)).length
theorem aAd(n:Int)(l:List Int)(k:Nat):rD n l k≤k:=by
 unfold rD;exact aB (nI _ _) (by simp)
def jW(n:Int)(s:Nat)(x:Int):Nat:=if 1≤x∧x≤n then s|||2 ^ x.toNat else s
theorem aAe{n x:Int}{s:Nat}(b:n≤7)(a:s<256):jW n s x<256:=by
 unfold jW
 split
 .rename_i h;exact Nat.or_lt_two_pow (n:=8) a (Nat.pow_lt_pow_right (by omega) (by omega))
 .exact a
theorem aAf(s:Nat)(x n:Int)(w:World)(l:s<256)(k:n≤7):
  Calls prog 110 #[.int .u16 s,.i x,.i n] w fun e i=>e=.returned (.int .u16 (jW n s x))∧w=i:=by
 by_cases b:1≤x
 .by_cases c:x≤n
  .have a:=kp (show jW n s x=s|||2 ^ x.toNat by unfold jW; rw[aK ⟨b,c⟩]);have g:decide (x<1)=false:=by simp; omega
   have j:decide (n<x)=false:=by simp; omega
   have d:=u16_or_nat s (2 ^ x.toNat) (by omega) (Nat.lt_of_le_of_lt (rH (by omega) (show x.toNat≤7 by omega)) (by omega));obtain rfl|rfl|rfl|rfl|rfl|rfl|rfl:x=1∨x=2∨x=3∨x=4∨x=5∨x=6∨x=7:=by omega
   all_goals
    have f:=kp d; clear d;go_enter func110,ntmps110;go_wp2_with fail;go_ret;exact⟨by rw[a.o,←f.o]; rfl,rfl⟩
  .have a:=kp (show jW n s x=s by unfold jW; rw[aF fun h=>c h.2]);have g:decide (x<1)=false:=by simp; omega
   clear b;go_enter func110,ntmps110;go_wp2_with fail;go_ret;exact⟨by rw[a.o]; rfl,rfl⟩
 .have a:=kp (show jW n s x=s by unfold jW; rw[aF fun h=>b h.1]);go_enter func110,ntmps110;go_wp2_with fail;go_ret;exact⟨by rw[a.o]; rfl,rfl⟩
def pcN(s:Nat):Nat:=((List.range 8).filter fun k=>s.testBit k).length
theorem aAg:∀s:Fin 256,s.val≠0→pcN (s.val&&& (s.val-1))+1=pcN s.val∧(s.val&&& (s.val-1))<s.val:=by decide+kernel
theorem aAh(s:Nat):pcN s≤8:=by
 unfold pcN;exact aB (nI _ _) (by simp)
theorem aAi(s:Nat)(w:World)(m:s<256):
  Calls prog 111 #[.int .u16 s] w fun e p=>e=.returned (.i (pcN s))∧w=p:=by
 have z:=aAh s;go_enter func111,ntmps111;go_wp2_with fail
 go_loop [0,3] (fun v i=>∃t k:Nat,t<256∧v=.int .u16 t∧i=.i k∧pcN t+k=pcN s) (fun v _=>(intOf v).toNat)
 case atStart=>exact⟨s,0,m,rfl,rfl,by omega⟩
 case round=>
  obtain⟨t,k,n,rfl,rfl,g⟩:=hrel
  by_cases c:t=0
  .subst c;have l:pcN 0=0:=by decide
   have a:=kp (show k=pcN s by omega);clear l;clear g;go_wp2_with fail;go_ret;exact⟨by rw[←a.o]; rfl,rfl⟩
  .obtain⟨h,d⟩:=aAg ⟨t,n⟩ c;dsimp only at h d;have f:=u16_and_nat t (t-1) (by omega) (by omega);have j:((t-1:Nat):Int)=(t:Int)-1:=by omega
   rw[j]at f;have y:k≤8:=by omega
   have a:=kp (show pcN (t&&& (t-1))+(k+1)=pcN s by omega);have b:=kp d;have r:((t:Int)==0)=false:=by simp; omega
   have x:((t:Int) != 0)=true:=by simp; omega
   have A:1≤t:=by omega
   generalize t&&& (t-1)=q at f a b ⊢;clear h d g j c;go_wp2_with fail
   go_round
   case rel=>exact⟨q,k+1,by have:=b.o; omega,rfl,by go_num,a.o⟩
   case measure=>have:=b.o; simp[intOf]; omega
def lF(n:Int)(l:List Int):Nat:=l.foldl (jW n) 0
theorem aAj(n:Int)(l:List Int)(x:Int):lF n (l++[x])=jW n (lF n l) x:=by simp[lF]
theorem aAk(n:Int)(s:Nat)(x:Int)(k:Nat):(jW n s x).testBit k=(s.testBit k||decide ((1≤x∧x≤n)∧x=(k:Int))):=by
 unfold jW
 split
 .rename_i h;rw[Nat.testBit_or,Nat.testBit_two_pow]
  congr 1
  rw[decide_eq_decide];constructor
  .intro e; exact⟨h,by omega⟩
  .intro e; omega
 .rename_i h;simp[h]
theorem Kn(n:Int)(k:Nat):∀(l:List Int)(s:Nat),(l.foldl (jW n) s).testBit k=(s.testBit k||decide (1≤(k:Int)∧(k:Int)≤n∧(k:Int)∈l))
 |[],s=>by simp
 |x::l,s=>by
  rw[List.foldl_cons,Kn n k l,aAk,Bool.or_assoc]
  congr 1
  rw[←Bool.decide_or,decide_eq_decide];simp only[bD];constructor
  .rintro (⟨h,rfl⟩|h)
   .exact⟨h.1,h.2,.inl rfl⟩
   .exact⟨h.1,h.2.1,.inr h.2.2⟩
  .rintro⟨a,b,rfl|c⟩
   .exact .inl ⟨⟨a,b⟩,rfl⟩
   .exact .inr ⟨a,b,c⟩
theorem aAl(n:Int)(l:List Int):pcN (lF n l)=rD n l 8:=by
 unfold pcN rD lF
 congr 1
 apply List.filter_congr;intro k _;rw[Kn];simp only[Nat.zero_testBit,Bool.false_or,Km,inN,←aCl];rw[decide_eq_decide];constructor
 .rintro⟨c,a,b⟩; exact⟨⟨by omega,a⟩,b⟩
 .rintro⟨⟨c,a⟩,b⟩; exact⟨by omega,a,b⟩
theorem Ko(n:Int)(a:n≤7):∀(l:List Int)(s:Nat),s<256→l.foldl (jW n) s<256
 |[],_,h=>h
 |_::l,_,h=>Ko n a l _ (aAe a h)
def lN(acks:List (Int×Int))(n:Int):List Int:=(acks.filter fun a=>decide (n≤a.2)).map (·.1)
def aAm(N own:Int)(acks:List (Int×Int))(n:Int):Nat:=rD N (lN acks n) 8+if n≤own then 1 else 0
def jX(N own:Int)(acks:List (Int×Int))(n:Int):Bool:=decide (N<2*(aAm N own acks n:Int))
def dB(own:Int)(acks:List (Int×Int)):List Int:=own::acks.map (·.2)
def kP(N own:Int)(acks:List (Int×Int))(b n:Int):Int:=if b<n∧jX N own acks n=true then n else b
def oI(N own:Int)(acks:List (Int×Int)):Int:=if iB N=true then (dB own acks).foldl (kP N own acks) 0 else 0
theorem aAn(b:List (Int×Int))(n:Int)(a:Int×Int):lN (b++[a]) n=lN b n++if n≤a.2 then [a.1] else []:=by
 simp only[lN,rJ,fW]
 congr 1
 by_cases h:n≤a.2
 .simp[h]
 .simp[h]
theorem fsp(N own:Int)(a:List (Int×Int)):∀(l:List Int)(b:Int),
  (l.foldl (kP N own a) b=b∨(l.foldl (kP N own a) b∈l∧jX N own a (l.foldl (kP N own a) b)=true∧b<l.foldl (kP N own a) b))∧b≤l.foldl (kP N own a) b∧
  ∀n∈l,jX N own a n=true→n≤l.foldl (kP N own a) b
 |[],b=>⟨.inl rfl,iG _,by simp⟩
 |x::l,b=>by
  have j:=fsp N own a l (kP N own a b x);simp only[List.foldl_cons];obtain⟨c,k,f⟩:=j;have o:b≤kP N own a b x:=by unfold kP; split<;>omega
  refine⟨?_,by omega,?_⟩
  .rcases c with c|⟨c,g,m⟩
   .rw[c];unfold kP
    split
    .rename_i h; exact .inr ⟨List.mem_cons_self ..,h.2,h.1⟩
    .exact .inl rfl
   .exact .inr ⟨List.mem_cons_of_mem _ c,g,by omega⟩
  .intro n d e;rcases bD.1 d with rfl|d
   .have:n≤kP N own a b n:=by
     unfold kP
     split
     .omega
     .rename_i h;have:¬b<n:=fun i=>h ⟨i,e⟩;omega
    omega
   .exact f n d e
theorem Kq{N own:Int}{a:List (Int×Int)}(j:iB N=true){r:Int}(h:r=0∨(r∈dB own a∧jX N own a r=true∧0<r))(g:0≤r)
  (i:∀n∈dB own a,0<n→jX N own a n=true→n≤r):r=oI N own a:=by
 obtain⟨d,e,f⟩:=fsp N own a (dB own a) 0;unfold oI;rw[aK j];generalize (dB own a).foldl (kP N own a) 0=q at *;have l:r≤q:=by
  rcases h with rfl|⟨c,b,_⟩
  .exact e
  .exact f r c b
 have m:q≤r:=by
  rcases d with rfl|⟨c,b,k⟩
  .exact g
  .exact i q c k b
 omega
def cT(l:List Int):List Int:=l.mergeSort fun x y=>decide (x≤y)
theorem Kr(l:List Int):(cT l).length=l.length:=List.length_mergeSort l
theorem Cz(l:List Int)(x:Int):x∈cT l↔x∈l:=(List.mergeSort_perm l _).mem_iff
theorem aAo(l:List Int)(i j:Nat)(k:i≤j)(f:j<(cT l).length):(cT l).getD i 0≤(cT l).getD j 0:=by
 have g:(cT l).Pairwise (fun x y=>(decide (x≤y))=true):=
  List.pairwise_mergeSort (le:=fun x y:Int=>decide (x≤y)) (by intro a b c d e; simp at d e ⊢; omega) (by intro a b; simp; omega) l
 rcases nN i j with h|h
 .have:=List.pairwise_iff_getElem.1 g i j (by omega) f h;have d:(cT l).getD i 0=(cT l)[i]'(by omega):=by simp[List.getD,show i<(cT l).length by omega]
  have e:(cT l).getD j 0=(cT l)[j]:=by simp[List.getD,f]
  rw[d,e];simpa using this
 .obtain rfl:i=j:=by omega
  exact iG _
def dwn(zs:List Int):List (Nat×Int):=(List.range zs.length).map fun k=>(zs.length-1-k,zs.getD (zs.length-1-k) 0)
theorem yP(zs:List Int):(dwn zs).length=zs.length:=by simp[dwn]
theorem yQ(zs:List Int)(k:Nat)(a:k<zs.length):(dwn zs)[k]? =some (zs.length-1-k,zs.getD (zs.length-1-k) 0):=by simp[dwn,a]
theorem aAp{N own:Int}{a:List (Int×Int)}(l:iB N=true){q:List (Nat×Int)}{p:Nat×Int}(A:q++[p]<+:dwn (cT (dB own a)))
  (g:0<p.2∧jX N own a p.2=true) (B:∀x∈q,¬(0<x.2∧jX N own a x.2=true)):p.2=oI N own a:=by
 obtain⟨t,c⟩:=A;have y:q.length<(cT (dB own a)).length:=by
  have h:=bA List.length c;rw[yP]at h;simp at h;omega
 have i:p=((cT (dB own a)).length-1-q.length,(cT (dB own a)).getD ((cT (dB own a)).length-1-q.length) 0):=by
  have b:=yQ (cT (dB own a)) q.length y;rw[←c]at b;simpa using b
 have z:p.2∈dB own a:=by
  rw[←Cz,i];have:(cT (dB own a)).length-1-q.length<(cT (dB own a)).length:=by omega
  simp only[List.getD,jN this,rQ];exact cU _
 refine Kq l (.inr ⟨z,g.2,g.1⟩) (by omega) fun n f k m=>?_;rw[←Cz]at f;obtain⟨j,o,r⟩:=Dl f;have e:(cT (dB own a)).getD j 0=n:=by simp[List.getD,o,r]
 by_cases C:(cT (dB own a)).length-1-q.length<j
 .exfalso
  have s:(cT (dB own a)).length-1-j<q.length:=by omega
  have b:=yQ (cT (dB own a)) ((cT (dB own a)).length-1-j) (by omega);rw[←c,cH,pP s]at b;have d:=nJ b;rw[show (cT (dB own a)).length-1-((cT (dB own a)).length-1-j)=j by omega,e]at d;exact B _ d ⟨k,m⟩
 .rw[i,←e];exact aAo _ _ _ (by omega) (by omega)
theorem aAq{N own:Int}{a:List (Int×Int)}(f:iB N=true)(l:∀x∈dwn (cT (dB own a)),¬(0<x.2∧jX N own a x.2=true)):0=oI N own a:=by
 refine Kq f (.inl rfl) (iG _) fun n c d g=>?_
 exfalso
 rw[←Cz]at c;obtain⟨j,h,k⟩:=Dl c;have i:(cT (dB own a)).getD j 0=n:=by simp[List.getD,h,k]
 have e:=yQ (cT (dB own a)) ((cT (dB own a)).length-1-j) (by omega);have b:=nJ e;rw[show (cT (dB own a)).length-1-((cT (dB own a)).length-1-j)=j by omega,i]at b;exact l _ b ⟨d,g⟩
end
section
open Go.Shelf Go.Sort Go.RowKit
def aAr:Go.Shelf.Ren:=⟨fun|189=>112|125=>152|257=>151|128=>203|129=>204|294=>195|295=>196|296=>197|297=>198|298=>199|299=>200|216=>154|300=>201|301=>202|328=>238|329=>239|330=>240|331=>241|332=>242|215=>146|343=>263|n=>n,fun|28=>44|3=>3|46=>231|0=>0|51=>292|53=>266|4=>4|183=>286|182=>285|131=>182|5=>5|9=>9|218=>324|222=>328|228=>344|229=>345|n=>n,fun|n=>n⟩
theorem aAs:Go.Proofs.Lays.n189 prog aAr:={
 mixed:=by kernel_rfl
 f125:=func152.trans (bA some (by kernel_rfl))
 f128:=func203.trans (bA some (by kernel_rfl))
 f129:=func204.trans (bA some (by kernel_rfl))
 f189:=func112.trans (bA some (by kernel_rfl))
 f215:=func146.trans (bA some (by kernel_rfl))
 f216:=func154.trans (bA some (by kernel_rfl))
 f257:=func151.trans (bA some (by kernel_rfl))
 f294:=func195.trans (bA some (by kernel_rfl))
 f295:=func196.trans (bA some (by kernel_rfl))
 f296:=func197.trans (bA some (by kernel_rfl))
 f297:=func198.trans (bA some (by kernel_rfl))
 f298:=func199.trans (bA some (by kernel_rfl))
 f299:=func200.trans (bA some (by kernel_rfl))
 f300:=func201.trans (bA some (by kernel_rfl))
 f301:=func202.trans (bA some (by kernel_rfl))
 f328:=func238.trans (bA some (by kernel_rfl))
 f329:=func239.trans (bA some (by kernel_rfl))
 f330:=func240.trans (bA some (by kernel_rfl))
 f331:=func241.trans (bA some (by kernel_rfl))
 f332:=func242.trans (bA some (by kernel_rfl))
 f343:=func263.trans (bA some (by kernel_rfl))
 t0:=underlying0
 a0:=isAgg0
 z0:=sizeOf0
 v0:=zeroValue0
 t3:=lI
 a3:=isAgg3
 z3:=sizeOf3
 v3:=zeroValue3
 t4:=underlying4
 a4:=isAgg4
 z4:=sizeOf4
 v4:=zeroValue4
 t5:=tT
 a5:=isAgg5
 z5:=sizeOf5
 v5:=zeroValue5
 t9:=rX
 a9:=isAgg9
 z9:=sizeOf9
 v9:=zeroValue9
 t28:=rY
 a28:=isAgg44
 z28:=sizeOf44
 v28:=zeroValue44
 t46:=underlying231
 a46:=isAgg231
 z46:=sizeOf231
 v46:=zeroValue231
 t51:=underlying292
 a51:=isAgg292
 z51:=sizeOf292
 v51:=zeroValue292
 t53:=underlying266
 a53:=isAgg266
 z53:=sizeOf266
 v53:=zeroValue266
 t131:=underlying182
 a131:=isAgg182
 z131:=sizeOf182
 v131:=zeroValue182
 t182:=underlying285
 a182:=isAgg285
 z182:=sizeOf285
 v182:=zeroValue285
 t183:=underlying286
 a183:=isAgg286
 z183:=sizeOf286
 v183:=zeroValue286
 t218:=underlying324
 a218:=isAgg324
 z218:=sizeOf324
 v218:=zeroValue324
 t222:=underlying328
 a222:=isAgg328
 z222:=sizeOf328
 v222:=zeroValue328
 t228:=underlying344
 a228:=isAgg344
 z228:=sizeOf344
 v228:=zeroValue344
 t229:=underlying345
 a229:=isAgg345
 z229:=sizeOf345
 v229:=zeroValue345}
theorem aAt(a b cap:Nat)(zs:List Int)(w:World)(c:Go.Sort.Holds (Value.int .i64) w a b zs.toArray)(d:a<w.heap.size)(f:zs.length<4611686018427387904):
  Calls prog 112 #[.slice (some ⟨a,b,none⟩) zs.length cap] w fun e h=>
   e=.returned (.tuple #[])∧∃n g,h=grow (putRow (Value.int .i64) (Sort.ahead w n) a b (zs.mergeSort fun x y=>decide (x≤y)).toArray) g:=Any.slices_Sort_int aAs a b cap zs w c d f
theorem aAu(base g cap n:Nat)(zs:List Int)(w:World)(h:w.ownsRow base 3 1 (.slice (some ⟨g,0,none⟩) n cap) n (iv zs))(z:n≤1000000):
  Calls prog 112 #[.slice (some ⟨g,0,none⟩) n cap] w fun e c=>e=.returned (.tuple #[])∧c.ownsRow base 3 1 (.slice (some ⟨g,0,none⟩) n cap) n (iv (cT zs))∧Below base w c:=by
 have q:zs.length=n:=by have:=h.1; rw[kD]at this; omega
 subst q;rcases h.2 with⟨i,_⟩|⟨g',x,y,s,f,b,l,m,o,d⟩
 .cases i
 .injection s with a _ p
  injection a with a
  injection a with a
  subst a p;have r:g<w.heap.size:=(eT.1 b).1;refine (aAt g 0 cap zs w (holds_of_blockI b (by rw[tN]at d; exact d)) r (by omega)).mono ?_;rintro e c ⟨rfl,k,A,rfl⟩;refine⟨rfl,?_,?_⟩
  .exact ownsRow_sortedI (Kr zs) f b l m o
  .exact (aH base w).grown (grownBy_sortedI _) (by omega) (fun j e=>by cases e; exact f)
end
section
theorem aAv{P:Program}(w:World){a:TypeId}{A:Addr}{v:Value}{d:TypeDesc}(e:P.underlying a=some d)(c:(match d with |.struct _|.array _ _=>true|_=>false)=false)(b:w.cell? A=some v):
  (loadVar a A).run P w=.ok v w:=by
 unfold loadVar
 cases d<;>simp at c<;>simp[isAgg,underlying,Sem.run_bind,Result.andThen,e,go_sem,b]
theorem Ks{a:Nat}{w W:World}{l:Nat}{b:Obj}(h:Below a w W)(c:a≤l)(d:a≤W.heap.size):Below a w (W.putObj l b):=
 h.trans ((aH a W).grown (grownBy_putObj' W l b) d (fun k e=>by cases e; exact c))
theorem Kt{W:World}{B l:Nat}{t:TypeId}{v:Value}{o:Obj}(h:Boxed W B t v)(a:B≠l):Boxed (W.putObj l o) B t v:=h.kept (grownBy_putObj' W l o) (fun e=>a (by cases e; rfl))
theorem jY{W W':World}{B C:Nat}{t:TypeId}{v:Value}(h:Boxed W B t v)(b:Below C W W')(a:B<C):Boxed W' B t v:=(b.block B a).trans h
def oJ(l:List (Int×Int)):List Value:=(l.map fun a=>[Value.i a.1,Value.i a.2]).flatten
theorem aAw(l:List (Int×Int)):(oJ l).length=l.length*2:=by
 have:=zQ 2 (l.map fun a=>[Value.i a.1,Value.i a.2]) (fun r b=>by obtain⟨a,_,rfl⟩:=cP.1 b; rfl);simpa [oJ] using this
theorem aAx(l:List (Int×Int))(i:Nat)(b:i<l.length):(oJ l)[i*2]? =some (.i (l[i]).1)∧(oJ l)[i*2+1]? =some (.i (l[i]).2):=by
 have h:=fun t d=>wI 2 (l.map fun a=>[Value.i a.1,Value.i a.2]) (fun r c=>by obtain⟨a,_,rfl⟩:=cP.1 c; rfl) i t (by simpa using b) d;constructor
 .have:=h 0 (by omega);simpa [oJ] using this
 .have:=h 1 (by omega);simpa [oJ] using this
theorem Ku{w:World}{B:Nat}{A:Option Addr}{l:List (Int×Int)}(i:Rd w B A (oJ l))(k:Nat)(h:k<l.length):
  ∃b a,A=some ⟨b,a,none⟩∧b<B∧w.cell? ⟨b,a+k*2,none⟩=some (.i (l[k]).1)∧w.cell? ⟨b,a+k*2+1,none⟩=some (.i (l[k]).2):=by
 obtain⟨b,a,f,g,c⟩:=i.at_ (k:=k*2) (by rw[aAw]; omega);obtain⟨d,e⟩:=aAx l k h;refine⟨b,a,f,g,c _ _ d,?_⟩;rw[lW];exact c _ _ e
theorem aAy(N own n:Int)(A:Option Addr)(m c C L M O:Nat)(l:List (Int×Int))(w:World)(Z:N≤7)(hr:Rd w C A (oJ l))(hC:C≤w.heap.size)(hl:l.length=m)(hm:m≤1000000)
  (F:Boxed w L 46 (.slice A m c)) (V:Boxed w M 3 (.i N)) (X:Boxed w O 3 (.i own)):
  Calls prog 109 #[.i n,.pointer (some ⟨L,0,none⟩),.pointer (some ⟨M,0,none⟩),.pointer (some ⟨O,0,none⟩)] w fun e D=>e=.returned (.bool (jX N own l n))∧Bw' w D:=by
 obtain⟨r,G⟩:=nm' (jX N own l n);rw[G];have HE:=kp G; clear G;have q0:=F.cell;have H:=k'5 hr hl F V X;clear hr hl F V X;go_enter func109,ntmps109;go_wp2_with fail
 go_loopw [6,12] (fun s i wr=>∃k:Nat,k≤m∧i=.i k∧s=.int .u16 (lF N (lN (l.take k) n))∧Bw' w wr) (fun _ i _=>m-(intOf i).toNat)
 case atStart=>exact⟨0,by omega,rfl,rfl,aH _ _⟩
 case round=>
  obtain⟨k,hk,rfl,rfl,hb⟩:=hrel;have hs:=Ko N Z (lN (l.take k) n) 0 (by omega);have p:lF N (lN (l.take k) n)<256:=hs;clear hs;have f:=kp hb; clear hb
  by_cases m0:k<m
  .have g3:(k:Int)<(m:Int):=by omega
   have j:k<l.length:=by have:=H.b; omega
   obtain⟨b,o0,hA,j0,c0,c1⟩:=Ku (H.a.below f.o hC) k j;subst hA;have K:=aAn (l.take k) n (l[k]'j);rw[←fE j]at K;have T:=kp K; clear K;generalize l[k]'j=a at *;obtain⟨x,y⟩:=a;have e0:=f.o.alloc f.o.size (.cells #[.i x,.i y] 172);have P:=kp e0; clear e0;have p1:=((jY H.d f.o H.d.lt).alloc (.cells #[.i x,.i y] 172)).cell
   by_cases hy:n≤y
   .have g:=aAf (lF N (lN (l.take k) n)) x N (wr.alloc (.cells #[.i x,.i y] 172)) p Z;rw[←aAj]at g;have h:lN (l.take (k+1)) n=lN (l.take k) n++[x]:=by rw[T.o,aK hy]
    rw[←h]at g;obtain⟨s2,J⟩:∃z,lF N (lN (l.take (k+1)) n)=z:=⟨_,rfl⟩
    rw[J]at g;have HW:=kp g; have g0:=kp J; clear g h J;generalize lF N (lN (l.take k) n)=s1 at *;go_wp2_with fail;refine HW.o.mono ?_;rintro e D ⟨rfl,rfl⟩;go_wp2_with fail;go_roundw
    case rel=>exact⟨k+1,by omega,by go_num,by rw[g0.o],P.o⟩
    case measure=>simp[intOf]; omega
   .have h:lN (l.take (k+1)) n=lN (l.take k) n:=by rw[T.o,aF hy,fG]
    obtain⟨s1,I⟩:∃z,lF N (lN (l.take k) n)=z:=⟨_,rfl⟩
    rw[I];have U:=k'2 h I; clear h I p;go_wp2_with fail;go_roundw
    case rel=>exact⟨k+1,by omega,by go_num,by rw[U.a,U.B],P.o⟩
    case measure=>simp[intOf]; omega
  .obtain rfl:k=m:=by omega
   have d0:l.take k=l:=eF (by have:=H.b; omega);rw[d0]at p ⊢;clear d0;have a0:=aAl N (lN l n);have l0:=aAd N (lN l n) 8;have Y:=jY H.E f.o H.E.lt;have W:=jY H.d f.o H.d.lt;have p1:=Y.cell; have p2:=W.cell;clear Y W;have R:=kp a0; clear a0;have b0:r=decide (N<2*((rD N (lN l n) 8+if n≤own then 1 else 0:Nat):Int)):=by rw[←HE.o]; rfl
   have S:=kp b0; clear b0;have Q:=kp (aAi (lF N (lN l n)) wr p);generalize lF N (lN l n)=s1 at *;generalize rD N (lN l n) 8=q at *
   by_cases ho:n≤own
   .go_wp2_with fail;refine Q.o.mono ?_;rintro e D ⟨rfl,rfl⟩;rw[R.o];go_wp2_with fail;go_ret;refine⟨?_,f.o⟩;rw[S.o,aK ho];exact jO (bA Value.bool (decide_eq_decide.2 (by omega)))
   .go_wp2_with fail;refine Q.o.mono ?_;rintro e D ⟨rfl,rfl⟩;rw[R.o];go_wp2_with fail;go_ret;refine⟨?_,f.o⟩;rw[S.o,aF (show ¬n≤own by omega)];exact jO (bA Value.bool (decide_eq_decide.2 (by omega)))
end
section
attribute [local go_sem] Oper.semAt_some
theorem aAz(A:Option Addr)(n c:Nat)(w:World):
  Calls prog 113 #[.slice A n c] w fun e a=>e=.returned (.func (.func 153) #[] #[.pointer (some ⟨w.heap.size,0,none⟩)])∧a=w.alloc (.cells #[.slice A n c] 44):=by
 go_enter func113,ntmps113;go_wp2_with fail;go_ret;exact⟨rfl,rfl⟩
theorem aAA(zs:List Int)(k:Nat):(dwn zs).take k<+:dwn zs:=List.take_prefix _ _
theorem aAB(zs:List Int)(k:Nat)(a:k<zs.length):(dwn zs).take (k+1)=(dwn zs).take k++[(zs.length-1-k,zs.getD (zs.length-1-k) 0)]:=by
 have h:k<(dwn zs).length:=by rw[yP]; exact a
 rw[fE h]
 congr 2
 have:=yQ zs k a;rw[jN h]at this;exact Option.some.inj this
theorem aAC(b d g c n:Nat)(zs:List Int)(w:World)(H:b<w.heap.size)(e0:d≤w.heap.size)(hg:g<d)(R:zs.length=n)(hN:n≤1000000)
  (r:w.cell? ⟨b,0,none⟩=some (.slice (some ⟨g,0,none⟩) n c)) (G:b<d) (s:∀j,j<n→w.cell? ⟨g,j,none⟩=some (.i (zs.getD j 0))):
  SeqStopsK Fence.wide 5 prog 153 #[.pointer (some ⟨b,0,none⟩)] (fun x:Nat×Int=>#[Value.i (x.1:Int),Value.i x.2]) (Below d) (fun S=>S=dwn zs) (fun pre=>pre<+:dwn zs) n w:=by
 intro l J U W A hJ a0 L F;have M:=(A.cell (p:=⟨b,0,none⟩) H).trans r;have B:∀j,j<n→W.cell? ⟨g,j,none⟩=some (.i (zs.getD j 0)):=fun j f=>(A.cell (p:=⟨g,j,none⟩) (by simp; omega)).trans (s j f);have E:=k'3 B s r; clear B s r;subst R;refine callsIn_of_wp func153 rfl trivial ?_ rfl;simp only[ntmps153,fF,eS,nL,Nat.reduceAdd,Nat.reduceSub,Array.replicate_succ,Array.replicate_zero,List.push_toArray,List.append_toArray,aS,aT]
 gi_wp2
 gi_loopw [3] (fun i wr=>∃k:Nat,k≤zs.length∧i=.i ((zs.length:Int)-1-k)∧J ((dwn zs).take k) wr∧Below d W wr) (fun i _=>(intOf i+1).toNat)
 case atStart=>exact⟨0,dJ _,by simp,by simpa using F,aH _ _⟩
 case round=>
  obtain⟨k,hk,rfl,m,y⟩:=hrel;have b0:wr.cell? ⟨b,0,none⟩=some (.slice (some ⟨g,0,none⟩) zs.length c):=(y.cell (p:=⟨b,0,none⟩) G).trans M
  by_cases P:k<zs.length
  .obtain⟨j,f⟩:∃j:Nat,zs.length-1-k=j:=⟨_,rfl⟩
   have D:(zs.length:Int)-1-k=(j:Int):=by omega
   have N:j<zs.length:=by omega
   have h:=aAB zs k P;rw[f]at h;have d0:wr.cell? ⟨g,j,none⟩=some (.i (zs.getD j 0)):=(y.cell (p:=⟨g,j,none⟩) (by simp; omega)).trans (E.a j N);obtain⟨Z,g0,X,Y,Q,q⟩:=L _ (j,zs.getD j 0) wr m (by rw[cL,yP]; omega);dsimp only at Q q;rw[←h]at q;have T:=kp h; clear h;have z:=kp (show j+k+1=zs.length by omega); clear f;rw[D];clear D;generalize zs.getD j 0=x at *
   gi_wp2
   refine q.mono ?_;rintro e V (⟨rfl,I,O⟩|⟨rfl,K⟩)
   .gi_wp2
    go_roundw
    case rel=>exact⟨k+1,by omega,by have:=z.o; simp; omega,I,y.trans O⟩
    case measure=>have:=z.o; simp[intOf]; try omega
   .gi_wp2
    refine bI (results_none rfl _ _ _) rfl ?_;exact⟨⟨_,rfl⟩,.inr ⟨_,aAA zs (k+1),K⟩⟩
  .obtain rfl:k=zs.length:=by omega
   have C:(zs.length:Int)-1-(zs.length:Int)= -1:=by omega
   rw[C];clear C;rw[eF (by rw[yP]; exact aN _)]at m
   gi_wp2
   go_end0;exact⟨⟨_,rfl⟩,.inl ⟨_,rfl,m⟩⟩
theorem aAD{α:Type}{P:Program}{g:Operand}{b d q:Tmp}{k m:Code}{Q:Exit→Act→World→Prop}{a:Act}{w:World}
  {h:Nat} {o:Array Value} (L:a.eval g=.func (.func h) #[] o) (r:∀args w,(callFunc h args).run P w=.ok (.enter h args) w)
  {v1 v2:α→Value} {i:Nat} {S j:List α→Prop} {N:Nat} (O:SeqStopsK Fence.wide 5 P h o (fun x=>#[v1 x,v2 x]) (Below i) S j N w) (M:i≤w.heap.size)
  (I:List α→World→Prop) (f:Code→List α→World→Prop) (C:OwnFrom w.heap.size I) (E:∀c,OwnFrom w.heap.size (f c)) (s:I [] w)
  (G:∀(l:Nat)(x:α)(W:World)(K:Act→World→Prop),K {tmps:=((a.tmps.setIfInBounds b (v1 x)).setIfInBounds d (v2 x)).setIfInBounds q (v2 x),defers:=[]} W→
   k.wpIn (Fence.wide.inRound l) 4 P (Exit.then K (fun _ _ _=>False)) {tmps:=(a.tmps.setIfInBounds b (v1 x)).setIfInBounds d (v2 x),defers:=[]} W)
  (H:∀(l:Nat)(pre:List α)(x:α)(W:World),I pre W→pre.length<N→m.wpIn (Fence.wide.inRound l) 4 P (ownPostK (Below i) I f (pre++[x]) W) {tmps:=((a.tmps.setIfInBounds b (v1 x)).setIfInBounds d (v2 x)).setIfInBounds q (v2 x),defers:=[]} W)
  (J:∀(D:Nat)(xs:List α)(W:World),w.heap.size≤D→S xs→I xs W→W.heap[D]? =some (.deferred (some []))→Q .normal {a with defers:={target:=.collected D,args:=#[]}::a.defers} W)
  (R:∀(D:Nat)(c:Code)(pre:List α)(W:World),w.heap.size≤D→j pre→f c pre W→W.heap[D]? =some (.deferred (some []))→c.wp P Q {a with defers:={target:=.collected D,args:=#[]}::a.defers} W):
  (Code.rangeFunc g #[b,d] k m).wp P Q a w:=by
 refine (wpIn_wide (n:=6)).1 (wpIn_rangeFunc_ownF rfl (by omega) L trivial r O belowK_t (belowK_b M) (aH _ _) (fun _=>rfl) I f C E s
  (fun x=>{tmps:=((a.tmps.setIfInBounds b (v1 x)).setIfInBounds d (v2 x)).setIfInBounds q (v2 x),defers:=[]}) ?_ H J (fun D c pre W y z A B=>wpIn_wide.2 (R D c pre W y z A B)))
 intro l x W K F;have e:((#[b,d]:Array Tmp).zip #[v1 x,v2 x]).foldl (fun t(p,v)=>t.setIfInBounds p v) a.tmps=(a.tmps.setIfInBounds b (v1 x)).setIfInBounds d (v2 x):=by simp
 rw[e];exact G l x W K F
end
section
attribute [local go_sem] Oper.semAt_some
theorem aAE:(prog.info? 3).map (fun i=>(i.zero,i.size,i.bytes))=some (some (.i 0),1,8):=by kernel_rfl
theorem aAF(w:World){A:Addr}{v:Value}(a:w.cell? A=some v):(loadVar 3 A).run prog w=.ok v w:=aAv w lI rfl a
theorem Da{a:Array Value}{w:World}{b:Nat}{u:Value}(c:a.getD 6 undef=.pointer (some ⟨b,0,none⟩))(c1:w.cell? ⟨b,0,none⟩=some u):(results f69 a).run prog w=.ok u w:=by
 have d:a[6]?.getD undef=.pointer (some ⟨b,0,none⟩):=by simpa using c
 simp[results,d,asAddr,aAF w c1]
theorem Kv{W W':World}(h:Bw' W W'):KeepsOthers W W':=⟨h.size,fun k _ a _=>(h.block k (eT.1 a).1).trans a⟩
theorem aAG(w:World)(b c d f h:TypeId)(v1 v2 e g i:Value):∃a,((((w.alloc (.cells #[v1] b)).alloc (.cells #[v2] c)).alloc (.cells #[e] d)).alloc (.cells #[g] f)).alloc (.cells #[i] h)=a∧
  Boxed a w.heap.size b v1∧Boxed a (w.heap.size+1) c v2∧Boxed a (w.heap.size+2) d e∧Boxed a (w.heap.size+3) f g∧Boxed a (w.heap.size+4) h i∧a.heap.size=w.heap.size+5∧Bw' w a:=by
 have j:=Boxed.new (w.alloc (.cells #[v1] b)) c v2;have k:=Boxed.new ((w.alloc (.cells #[v1] b)).alloc (.cells #[v2] c)) d e;have l:=Boxed.new (((w.alloc (.cells #[v1] b)).alloc (.cells #[v2] c)).alloc (.cells #[e] d)) f g;have m:=Boxed.new ((((w.alloc (.cells #[v1] b)).alloc (.cells #[v2] c)).alloc (.cells #[e] d)).alloc (.cells #[g] f)) h i;simp only[World.size_alloc]at j k l m;exact⟨_,rfl,((((Boxed.new w b v1).alloc _).alloc _).alloc _).alloc _,((j.alloc _).alloc _).alloc _,(k.alloc _).alloc _,l.alloc _,m,by simp,(((((ba' w _).alloc (by simp) _).alloc (by simp; omega) _).alloc (by simp; omega) _).alloc (by simp; omega) _)⟩
theorem Kw(N own:Int)(A:Option Addr)(m c C:Nat)(l:List (Int×Int))(w:World)(y2:inR N)(hr:Rd w C A (oJ l))(hC:C≤w.heap.size)(hl:l.length=m)(hm:m≤100000):
  Calls prog 69 #[.i N,.i own,.slice A m c] w fun e w'=>e=.returned (.i (oI N own l))∧Bw' w w':=by
 obtain⟨r,z0⟩:=nm' (oI N own l);rw[z0];have HE:=kp z0; clear z0;have H:=k'2 hr hl; clear hr hl;refine (callsIn_wide (n:=6)).1 (callsIn_of_wp_marks func69 rfl trivial (wpIn_wide.2 ?_) rfl);simp only[ntmps69,fF,eS,nL,Nat.reduceAdd,Nat.reduceSub,Array.replicate_succ,Array.replicate_zero,List.push_toArray,List.append_toArray,aS,aT];go_wp2_with fail;refine (sU N _ y2).mono ?_;rintro e w' ⟨rfl,rfl⟩;obtain⟨i0,d3,o3,q3,y3⟩:=info_parts aAE
 cases hnb:iB N
 .obtain rfl:r=0:=by rw[←HE.o]; unfold oI; rw[hnb]; rfl
  clear hnb;go_wp2_with fail;refine⟨_,Da (b:=w.heap.size+1+1+1) rfl (Boxed.cell (t:=3) ?_),rfl,?_⟩
  .have M:=World.alloc_heap_new (((w.alloc (.cells #[.i N] 3)).alloc (.cells #[.i own] 3)).alloc (.cells #[.slice A m c] 46)) (.cells #[.i 0] 3);simp only[World.size_alloc]at M;exact M
  .exact (((ba' w _).alloc (by simp) _).alloc (by simp; omega) _).alloc (by simp; omega) _
 .have q2:N≤7:=by have:=aAc hnb; omega
  have a1:=kp hnb; clear hnb;have j4:∀(W:World)(a:Addr)(fn:Fn)(f cp:Array Value)(mo:Mode),(store a (.func fn f cp) mo).run prog W=stored prog W a (.func fn f cp) mo:=fun W a fn f cp mo=>run_store prog W a (.func fn f cp) mo rfl;go_wp2_with fail;obtain⟨O,d2,b0,b1,b2,b3,aQ,a2,d1⟩:=aAG w 3 3 46 3 107 (.i N) (.i own) (.slice A m c) (.i 0)
   (.func (.func 109) #[] #[.pointer (some ⟨w.heap.size+1+1,0,none⟩),.pointer (some ⟨w.heap.size,0,none⟩),.pointer (some ⟨w.heap.size+1,0,none⟩)])
  rw[d2];have J:=k'7 b0 b1 b2 b3 aQ a2 d1;clear d2 b0 b1 b2 b3 aQ a2 d1
  go_loopw [8,21] (fun v i wr=>∃k:Nat,k≤m∧i=.i k∧wr.ownsRow O.heap.size 3 1 v (k+1) (iv (own::(l.take k).map (·.2)))∧Bw' O wr) (fun _ i _=>m-(intOf i).toNat)
  case atStart=>
   refine⟨0,by omega,rfl,?_,ba' O _⟩;have M:=World.ownsRow_lit (e:=3) (size:=1) O #[.i own] 1 (aN O.heap.size) (by unfold maxLen; omega) rfl;rw[J.f]at M;rw[J.f];exact M
  case round=>
   obtain⟨k,hk,rfl,T,hb⟩:=hrel;have HB:=kp hb;have HO:=kp T;have g2:=kp (J.G.on hb);clear hb T
   by_cases g4:k<m
   .have g3:(k:Int)<(m:Int):=by omega
    have j0:k<l.length:=by have:=H.B; omega
    obtain⟨b,o4,hA,a4,c0,c1⟩:=Ku (H.a.below g2.o hC) k j0;subst hA;have z1:own::(l.take (k+1)).map (·.2)=(own::(l.take k).map (·.2))++[(l[k]'j0).2]:=by
     rw[fE j0]; simp only[fW,mJ,tQ,aT]
    have HS:=kp z1; clear z1;generalize l[k]'j0=a at *;obtain⟨x,y⟩:=a;have o2:=kp (HO.o.alloc (.cells #[.i x,.i y] 172));have L:=kp (HB.o.alloc HB.o.size (.cells #[.i x,.i y] 172));go_wp2_with (at_builtin; refine Ec (wr.alloc (.cells #[.i x,.i y] 172)) rfl (.tmp 25) (.tmp 28) _ rfl O.heap.size 3 i0 _ 8 rY d3 o3 q3 y3 rfl _ (k+1) _ o2.o rfl (.i y) (by simp[Value.oneCell']) (by simp[Act.eval]) ?_ ?_ L.o.size ?_)
    .unfold maxLen; omega
    .omega
    intro v5 F Z g0;have V:=k'2 Z (L.o.trans (sB o2.o g0 L.o.size)); clear Z g0;go_wp2_with fail;go_roundw
    case rel=>exact⟨k+1,by omega,by go_num,by rw[HS.o]; simpa [iv] using V.a,V.B⟩
    case measure=>simp[intOf]; omega
   .obtain rfl:k=m:=by omega
    have m1:own::(l.take k).map (·.2)=dB own l:=by rw[eF (by have:=H.B; omega)]; rfl
    have T:=HO.o;rw[m1]at T;rcases zK T with⟨_,h0,_⟩|⟨g,cap,rfl,d4,a3,_,_⟩
    .omega
    have j2:=kp (aAu O.heap.size g cap (k+1) (dB own l) wr T (by omega));clear T m1;go_wp2_with fail;refine j2.o.mono ?_;rintro e F ⟨rfl,Z,p0⟩;have m2:=kp (p0.size);have V:=k'2 Z (HB.o.trans p0); clear Z p0;go_wp2_with fail;refine (aAz _ _ _ _).mono ?_;rintro e w6 ⟨rfl,rfl⟩;go_wp2_with fail;obtain⟨R,a0⟩:=nm' (F.alloc (.cells #[.slice (some ⟨g,0,none⟩) (k+1) cap] 44));have j3:R.heap.size=F.heap.size+1:=by rw[←a0]; simp
    have y0:(cT (dB own l)).length=k+1:=by rw[Kr]; simp[dB]; exact H.B
    have p1:Boxed R F.heap.size 44 (.slice (some ⟨g,0,none⟩) (k+1) cap):=by rw[←a0]; exact Boxed.new _ _ _
    have m0:Bw' F R:=by rw[←a0]; exact ba' F _
    have g0:g<F.heap.size:=cY a3 m2.o;have q1:∀j,j<k+1→R.cell? ⟨g,j,none⟩=some (.i ((cT (dB own l)).getD j 0)):=fun j hj=>by
     have h1:=V.a.cellAt j (by omega);have h2:(iv (cT (dB own l)))[j]? =some (.i ((cT (dB own l)).getD j 0)):=by simp[iv,List.getD,show j<(cT (dB own l)).length by omega]
     exact (m0.cell (p:=⟨g,j,none⟩) g0).trans (h1.trans h2)
    rw[a0];have o0:Bw' O F:=V.B;have e3:=J.f;have S:Bw' O R:=o0.on m0;have j1:Bw' w R:=J.G.on S;have l0:=jY J.a S (by omega);have l1:=jY J.b S (by omega);have l2:=jY J.c S (by omega);have l3:=jY J.d S (by omega);have l4:=jY J.e S (by omega);have P:=k'7 l0 l1 l2 l3 l4 j1 j3;have e4:w.heap.size+5≤F.heap.size:=by have:=o0.size; omega
    clear a0 o0 e3 S j1 l0 l1 l2 l3 l4;have e0:=aAC F.heap.size (F.heap.size+1) g cap (k+1) (cT (dB own l)) R (by omega) (by omega) (by omega) y0 (by omega) p1.cell (by omega) q1;have HG:=k'2 y0 m0; clear y0 m0 p1 q1;refine aAD (q:=12) rfl (enters_of func153 (by kernel_rfl) rfl) (v1:=fun x:Nat×Int=>Value.i (x.1:Int)) (v2:=fun x:Nat×Int=>Value.i x.2) e0 (by omega)
     (fun pre W=>(∀p∈pre,¬(0<p.2∧jX N own l p.2=true))∧Below (F.heap.size+1) R W)
     (fun cd pre W=>(cd=.ret∧∃q p,pre=q++[p]∧(0<p.2∧jX N own l p.2=true)∧(∀x∈q,¬(0<x.2∧jX N own l x.2=true))∧Boxed W (w.heap.size+3) 3 (.i p.2))∧Bw' w W)
     ?hI ?hIx ?h0 ?hassign ?hbody ?hdone ?hstop
    case hI=>exact OwnFrom.and (ownFrom_pure _ (fun pre:List (Nat×Int)=>∀p∈pre,¬(0<p.2∧jX N own l p.2=true))) (ownFrom_below (by omega) (by omega))
    case hIx=>
     intro cd;refine OwnFrom.and (Own.from ?_ _) (ownFrom_below (aN _) (by omega));rintro pre X Y z3 ⟨h1,q,p,h2,h3,h4,h5⟩ hg hr;exact⟨h1,q,p,h2,h3,h4,boxed_own _ _ (fun _=>_) pre X Y z3 h5 hg hr⟩
    case h0=>exact⟨by simp,aH _ _⟩
    case hassign=>
     intro l9 x W K Q;simp only[aE,aC,aD]at Q ⊢
     gi_wp2
     exact Q
    case hbody=>
     rintro l9 pre ⟨x1,U⟩ W ⟨hq,z⟩ _;simp only[aE,aC,aD];have z2:=z.size;have m4:=jY P.e z (by omega);have E:=jY P.d z (by omega);have p4:=m4.cell; have p3:=E.cell; have f3:=E.frozen;have d0:Bw' w W:=P.f.trans (z.mono (by omega));have HH:=kp (aAy N own U A k c C (w.heap.size+1+1) w.heap.size (w.heap.size+1) l W q2 (H.a.below d0 hC) (by have:=d0.size; omega) H.B (by omega) (jY P.c z (by omega)) (jY P.a z (by omega)) (jY P.b z (by omega)));have s:=k'4 hq z d0 E;clear hq z d0 m4 E e0;obtain⟨hv,q0⟩:=nm' (jX N own l U);rw[q0]at HH;have HV:=kp q0; clear q0
     by_cases hx:0<U
     .cases hv
      .gi_wp2
       refine⟨trivial,(CallsIn.inRound l9 (callsIn_wide.2 HH.o)).mono ?_⟩;rintro e W2 ⟨rfl,L⟩;have I:=kp L; clear L
       gi_wp2
       refine⟨Kv I.o,⟨I.o.os,I.o.tape,I.o.output,I.o.size,fun j hj=>I.o.block j (by omega)⟩,⟨?_,s.b.trans (I.o.mono (by omega))⟩⟩;intro p hp;rcases cV.1 hp with h|h
       .exact s.a p h
       .obtain rfl:p=(x1,U):=by simpa using h
        intro M;have:=HV.o;rw[M.2]at this
        cases this
      .gi_wp2
       refine⟨trivial,(CallsIn.inRound l9 (callsIn_wide.2 HH.o)).mono ?_⟩;rintro e W2 ⟨rfl,L⟩;have E:=jY s.D L (by omega);have I:=k'2 L E;have p5:=E.cell; have f5:=E.frozen;clear L E
       gi_wp2
       refine⟨(Kv I.a).trans (KeepsOthers.setCell _ _ _),⟨⟨rfl,pre,(x1,U),rfl,⟨hx,HV.o⟩,s.a,I.B.set _⟩,(s.c.trans (I.a.mono (by omega))).setCell (p:=⟨_,0,none⟩) (by simp; omega) _⟩⟩
     .gi_wp2
      refine⟨fun _ h=>(by cases h),?_⟩
      gi_wp2
      refine⟨KeepsOthers.refl _,aH _ _,⟨?_,s.b⟩⟩;intro p hp;rcases cV.1 hp with h|h
      .exact s.a p h
      .obtain rfl:p=(x1,U):=by simpa using h
       exact fun M=>by have:=M.1; simp only at this; omega
    case hdone=>
     rintro D ys W hD rfl ⟨hq,z⟩ Q;obtain rfl:r=0:=by rw[←HE.o]; exact (aAq a1.o hq).symm
     have z2:=z.size;have E:=jY P.d z (by omega);have p3:=E.cell; have f3:=E.frozen;have s:=k'3 Q (P.f.trans (z.mono (by omega)):Bw' w W) E;clear hq z Q E e0;go_wp2_with fail;have p2:=(KeepsOthers.setCell W ⟨w.heap.size+1+1+1,0,none⟩ (.i 0)).same D _ s.a rfl;have o1:=s.b.setCell (p:=⟨w.heap.size+1+1+1,0,none⟩) (by simp; omega) (.i 0);refine⟨by simp,.inl ⟨_,_,rfl,run_takeDeferred p2,?_⟩⟩;exact⟨_,Da (b:=w.heap.size+1+1+1) rfl (Kt (s.C.set _) (by omega)).cell,rfl,Ks o1 (by omega) o1.size⟩
    case hstop=>
     rintro D cd pre W hD y1 ⟨⟨rfl,q,p,rfl,h3,h4,h5⟩,g1⟩ Q;obtain rfl:p.2=r:=by rw[←HE.o]; exact aAp a1.o y1 h3 h4
     have s:=k'3 Q g1 h5;clear y1 h3 h4 h5 g1 Q e0;go_wp2_with fail;refine⟨by simp,.inl ⟨_,_,rfl,run_takeDeferred s.a,?_⟩⟩;exact⟨_,Da (b:=w.heap.size+1+1+1) rfl (Kt s.C (by omega)).cell,rfl,Ks s.b (by omega) s.b.size⟩
theorem aAH(v:Value)(B:Nat)(w:World)(h:Sl w B v Ak.cells [⟨2,1⟩])(a:B≤w.heap.size):Calls prog 69 #[.i 3,.i 1,v] w fun e d=>e=.returned (.i 1)∧Bw' w d:=by
 obtain⟨A,c,rfl,b,-⟩:=h;have:=Kw 3 1 A 1 c B [(2,1)] w ⟨by decide,by decide⟩ b a rfl (by decide);rw[show oI 3 1 [(2,1)]=1 by decide+kernel]at this;exact this
theorem aAI(v:Value)(B:Nat)(w:World)(h:Sl w B v Ak.cells [⟨2,1⟩,⟨3,1⟩])(a:B≤w.heap.size):Calls prog 69 #[.i 3,.i 1,v] w fun e d=>e=.returned (.i 1)∧Bw' w d:=by
 obtain⟨A,c,rfl,b,-⟩:=h;have:=Kw 3 1 A 2 c B [(2,1),(3,1)] w ⟨by decide,by decide⟩ b a rfl (by decide);rw[show oI 3 1 [(2,1),(3,1)]=1 by decide+kernel]at this;exact this
end
end Go.Proofs.YtoncgpddjmgbfaaGreat
