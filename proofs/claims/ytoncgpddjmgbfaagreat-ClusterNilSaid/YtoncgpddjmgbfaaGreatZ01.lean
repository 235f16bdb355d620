import Derived.Test.YtoncgpddjmgbfaaGreatZ00
import Derived.BigQuiet
namespace Go.Proofs.YtoncgpddjmgbfaaGreat
open Go.RowKit Go.Proofs.Tryz
set_option maxRecDepth 100000
set_option maxHeartbeats 12800000
set_option linter.unusedVariables false
set_option linter.unusedSimpArgs false
section
def aG(n lo hi:Int):Bool:=decide (lo≤n)&&decide (n≤hi)
def i1(n:Int):List Value:=[.i n]
theorem eG(n:Int):(i1 n).length=1:=rfl
theorem zT(n:Int):∀u∈i1 n,u.oneCell'=true:=by
 intro u a;simp only[i1,bD,dF,or_false]at a;subst a;rfl
theorem oO(l:List Int):aO i1 l=iv l:=by
 induction l with
 |nil=>rfl
 |cons a l b=>simp only[aO,mJ,Dw,i1,iv]at b ⊢; rw[←b]; rfl
structure Ob where
 (h:Int) (b:Bk) (ws ls:List Int)
deriving DecidableEq
structure ObV where
 (x:Ob) (wv lv:Value)
def ObV.cells(p:ObV):List Value:=[.i p.x.h,.i p.x.b.a,.i p.x.b.o,p.wv,p.lv]
theorem eV(p:ObV):p.cells.length=5:=rfl
structure Hp where
 (order next t0 t1 t2 t3:Int) (obs:List Ob) (free:List Bk)
deriving DecidableEq
structure HpV where
 (x:Hp) (ov fv:Value)
def HpV.cells(p:HpV):List Value:=[.i p.x.order,p.ov,.i p.x.next,.i p.x.t0,.i p.x.t1,.i p.x.t2,.i p.x.t3,p.fv]
def Hp.tops(h:Hp):List Int:=[h.t0,h.t1,h.t2,h.t3]
structure Rw where
 (c s k v:Int)
deriving DecidableEq
def Rw.cells(r:Rw):List Value:=[.i r.c,.i r.s,.i r.k,.i r.v]
theorem jP(r:Rw):r.cells.length=4:=rfl
structure St where
 (h:Hp) (rows:List Rw)
deriving DecidableEq
structure StV where
 (p:HpV) (rows:List Rw) (rv:Value)
def StV.x(p:StV):St:=⟨p.p.x,p.rows⟩
def StV.cells(p:StV):List Value:=p.p.cells++[p.rv]
structure En where
 (n v c s k h i m j u t:Int)
deriving DecidableEq
def En.cells(x:En):List Value:=[.i x.n,.i x.v,.i x.c,.i x.s,.i x.k,.i x.h,.i x.i,.i x.m,.i x.j,.i x.u,.i x.t]
theorem eM(x:En):x.cells.length=11:=rfl
structure KpV where
 (view normal base:Int) (image:ByteArray) (es:List En) (ev:Value)
def KpV.cells(p:KpV):List Value:=[.i p.view,.i p.normal,.i p.base,.string p.image,p.ev]
structure VoV where
 (node normal base number commit:Int) (es:List En) (ev:Value)
def VoV.cells(p:VoV):List Value:=[.i p.node,.i p.normal,.i p.base,.i p.number,.i p.commit,p.ev]
theorem oP(p:VoV):p.cells.length=6:=rfl
structure Ak where
 (n k:Int)
deriving DecidableEq
def Ak.cells(x:Ak):List Value:=[.i x.n,.i x.k]
theorem lK(x:Ak):x.cells.length=2:=rfl
theorem kV(x:En):∀u∈x.cells,u.oneCell'=true:=by
 intro u a;simp only[En.cells,bD,dF,or_false]at a;rcases a with rfl|rfl|rfl|rfl|rfl|rfl|rfl|rfl|rfl|rfl|rfl<;>rfl
theorem mP(x:Rw):∀u∈x.cells,u.oneCell'=true:=by
 intro u a;simp only[Rw.cells,bD,dF,or_false]at a;rcases a with rfl|rfl|rfl|rfl<;>rfl
theorem wK(x:Ak):∀u∈x.cells,u.oneCell'=true:=by
 intro u a;simp only[Ak.cells,bD,dF,or_false]at a;rcases a with rfl|rfl<;>rfl
section
variable {α:Type}{enc:α→List Value}{w w':World}{B C:Nat}{v:Value}{l:List α}
theorem Sl.one(h:Sl w B v enc l):v.oneCell'=true:=by
 obtain⟨A,c,rfl,_⟩:=h;rfl
theorem Sl.nil(w:World)(B:Nat)(enc:α→List Value):Sl w B (.slice none 0 0) enc []:=⟨none,0,rfl,.inl rfl,aN _,by unfold maxLen; omega⟩
theorem Sl.blw{W:World}(p:Blw W)(h:Sl W B v enc l)(a:B≤W.heap.size):Sl p.w B v enc l:=h.below p.h a
theorem Sl.of_own{base:Nat}{t:TypeId}{k n:Nat}(i:∀a,(enc a).length=k)(h:w.ownsRow base t k v n (aO enc l))(o:l.length=n):Sl w w.heap.size v enc l:=by
 subst o;obtain⟨A,c,rfl,e,m⟩:=dO h;refine⟨A,c,rfl,?_,e,m⟩;rcases h.2 with⟨_,b⟩|⟨g,cap,r,q,_,f,_,_,_,_⟩
 .exact .inl (iY (by rw[cW k i,b]; simp))
 .have d:A=some ⟨g,0,none⟩:=by injection q
  subst d;exact .inr ⟨g,0,rfl,(eT.1 f).1,fun j u p=>by simpa [Addr.add_lit] using h.cells (g:=g) rfl j u p⟩
end
def oQ(w:World)(B:Nat)(v:Value)(ps:List ObV):Prop:=Sl w B v ObV.cells ps∧∀p∈ps,Sl w B p.wv i1 p.x.ws∧Sl w B p.lv i1 p.x.ls
def jB(w:World)(B:Nat)(p:HpV)(ps:List ObV):Prop:=oQ w B p.ov ps∧p.x.obs=ps.map (·.x)∧Sl w B p.fv Bk.cells p.x.free
def gW(w:World)(B:Nat)(p:StV)(ps:List ObV):Prop:=jB w B p.p ps∧Sl w B p.rv Rw.cells p.rows
section
variable {w w':World}{B C:Nat}{v:Value}{ps:List ObV}
theorem oQ.below(h:oQ w B v ps)(b:Below C w w')(a:B≤C):oQ w' B v ps:=⟨h.1.below b a,fun p c=>⟨(h.2 p c).1.below b a,(h.2 p c).2.below b a⟩⟩
theorem jB.below{p:HpV}(h:jB w B p ps)(b:Below C w w')(a:B≤C):jB w' B p ps:=⟨h.1.below b a,h.2.1,h.2.2.below b a⟩
theorem gW.below{p:StV}(h:gW w B p ps)(b:Below C w w')(a:B≤C):gW w' B p ps:=⟨h.1.below b a,h.2.below b a⟩
theorem oQ.more(h:oQ w B v ps)(a:B≤C):oQ w C v ps:=⟨h.1.more a,fun p b=>⟨(h.2 p b).1.more a,(h.2 p b).2.more a⟩⟩
theorem jB.more{p:HpV}(h:jB w B p ps)(a:B≤C):jB w C p ps:=⟨h.1.more a,h.2.1,h.2.2.more a⟩
theorem gW.more{p:StV}(h:gW w B p ps)(a:B≤C):gW w C p ps:=⟨h.1.more a,h.2.more a⟩
end
end
section
theorem Eh:(prog.info? 5).map (fun i=>(i.zero,i.size,i.bytes))=some (some (.int .u8 0),1,1):=by kernel_rfl
def beP(k u j:Nat):List UInt8:=(List.range j).map fun t=>UInt8.ofNat (u / 2 ^ (8*(k-1-t)))
def beN(k u:Nat):List UInt8:=beP k u k
theorem Ni(k u j:Nat):bv (beP k u (j+1))=bv (beP k u j)++[.int .u8 ((u / 2 ^ (8*(k-1-j)) % 256:Nat):Int)]:=by
 simp[beP,bv,Ds]
theorem zU(A:Option Addr)(n c:Nat)(l:List UInt8)(u s:Nat)(w:World)(K:Rd w w.heap.size A (bv l))(P:l.length=n)(S:n≤1099511627776)(y:u<18446744073709551616)(T:s≤8):
  Calls prog 174 #[.slice A n c,.int .u64 u,.i s] w fun e z=>∃v,e=.returned v∧
   z.ownsRow w.heap.size 5 1 v (n+s) (bv l++bv (beN s u))∧Bw' w z:=by
 obtain⟨q,d,h,k,p⟩:=info_parts Eh;have N:=kp y; clear y;go_enter func174,ntmps174;go_wp2_with (at_make; refine wpList_make_own _ rfl _ _ 154 rfl w.heap.size 5 q (.int .u8 0) 1 rW d h k .i64 .i64 _ (n+s) rfl rfl ?_ ?_ ?_ ?_ ?_)
 .omega
 .rw[p]; omega
 .unfold maxLen; omega
 .exact aN _
 intro M x F;have b:Bw' w M:=(aH _ _).grown F (aN _) (by simp);have L:=K.below b (aN _);go_wp2_with (at_builtin; refine nT _ rfl (.tmp 13) (.tmp 14) _ rfl w.heap.size 5 q (.int .u8 0) 1 1 rW d h k p rfl (by omega) _ 0 [] x rfl w.heap.size A n c (bv l) L rfl ?_ (Mu l) ?_ ?_ b.size ?_)
 .rw[tY]; omega
 .unfold maxLen; omega
 .omega
 intro v2 V I G;have D:=b.trans (sB x G b.size);go_wp2_with fail
 go_loopw [7,8] (fun v i wr=>∃j:Nat,j≤s∧i=.i ((s:Int)-1-j)∧wr.ownsRow w.heap.size 5 1 v (n+j) (bv l++bv (beP s u j))∧Bw' w wr) (fun _ i _=>(intOf i+1).toNat)
 case atStart=>exact⟨0,by omega,by simp,by simpa [beP,bv] using I,D⟩
 case round=>
  obtain⟨j,O,rfl,g,a⟩:=hrel
  by_cases Q:j<s
  .obtain⟨m,f⟩:∃m:Nat,(s:Int)-1-j=m:=⟨s-1-j,by omega⟩
   have r:s-1-j=m:=by omega
   rw[f];have R:m<8:=by omega
   have B:=kp f; clear f;have C:=kp r; clear r;go_wp2_with (at_builtin; refine Ec wr rfl (.tmp 22) (.tmp 28) _ rfl w.heap.size 5 q (.int .u8 0) 1 rW d h k p rfl u7 (n+j) _ g rfl _ rfl rfl ?_ ?_ a.size ?_)
   .unfold maxLen; omega
   .omega
   intro U W J H;have E:=a.trans (sB g H a.size);go_wp2_with fail;go_roundw
   case rel=>
    refine⟨j+1,by omega,wG (by have:=B.o; omega),?_,E⟩;rw[Ni,C.o];have e2:((u / 2 ^ (8*m) % 256:Nat):Int)=(u:Int) / 2 ^ (8*m) % 256:=by simp
    rw[e2];exact J
   case measure=>simp[intOf]
  .obtain rfl:j=s:=by omega
   have e:(j:Int)-1-j= -1:=by omega
   rw[e];go_wp2_with fail;go_ret;exact⟨_,rfl,g,a⟩
theorem Nj(A:Option Addr)(n c:Nat)(l:List UInt8)(u:Nat)(w:World)(h:Rd w w.heap.size A (bv l))(d:l.length=n)(f:n≤1099511627776)(i:u≤2147483647):
  Calls prog 175 #[.slice A n c,.i u] w fun e a=>∃v,e=.returned (.tuple #[v,.i 0])∧
   a.ownsRow w.heap.size 5 1 v (n+4) (bv l++bv (beN 4 u))∧Bw' w a:=by
 go_enter func175,ntmps175;go_wp2_with fail;refine (zU A n c l u 4 w h d f (by omega) (by omega)).mono ?_;rintro e j ⟨v,rfl,g,b⟩;go_wp2_with fail;go_ret2;exact⟨v,rfl,g,b⟩
theorem Nk(A:Option Addr)(n c:Nat)(l:List UInt8)(s:ByteArray)(w:World)(k:Rd w w.heap.size A (bv l))(h:l.length=n)(i:n≤1099511627776)(r:s.size≤65536):
  Calls prog 126 #[.slice A n c,.string s] w fun e d=>∃v,e=.returned (.tuple #[v,.i 0])∧
   d.ownsRow w.heap.size 5 1 v (n+4+s.size) (bv l++bv (beN 4 s.size)++bv s.data.toList)∧Bw' w d:=by
 obtain⟨q,g,m,o,p⟩:=info_parts Eh;go_enter func126,ntmps126;go_wp2_with fail;refine (zU A n c l s.size 4 w k h i (by omega) (by omega)).mono ?_;rintro e x ⟨v,rfl,b,a⟩;go_wp2_with (at_builtin; refine Lib.wpList_append_own_string _ rfl (.tmp 13) (.tmp 14) _ _ rfl w.heap.size 5 q rW rX g m o p v (n+4) _ rfl b s rfl ?_ ?_ a.size ?_)
 .unfold maxLen; omega
 .omega
 intro v2 y j f _;go_wp2_with fail;go_ret2;exact⟨v2,rfl,by rw[cH]; exact j,a.trans (sB b f a.size)⟩
def kF(n:Int):Nat:=(IntKind.u64.wrap n).toNat
theorem zV(n:Int):IntKind.u64.wrap n=(kF n:Int):=by
 unfold kF;have:IntKind.u64.wrap n=n % 18446744073709551616:=by simp[IntKind.wrap,IntKind.bits,IntKind.signed]
 rw[this]; omega
theorem Ei(n:Int):kF n<18446744073709551616:=by
 have:IntKind.u64.wrap n=n % 18446744073709551616:=by simp[IntKind.wrap,IntKind.bits,IntKind.signed]
 unfold kF;rw[this]; omega
theorem Nl(A:Option Addr)(n c:Nat)(l:List UInt8)(u:Int)(w:World)(h:Rd w w.heap.size A (bv l))(d:l.length=n)(f:n≤1099511627776):
  Calls prog 176 #[.slice A n c,.i u] w fun e a=>∃v,e=.returned v∧
   a.ownsRow w.heap.size 5 1 v (n+8) (bv l++bv (beN 8 (kF u)))∧Bw' w a:=by
 have i:=zV u;go_enter func176,ntmps176;go_wp2_with fail;refine (zU A n c l (kF u) 8 w h d f (Ei u) (by omega)).mono ?_;rintro e j ⟨v,rfl,g,b⟩;go_wp2_with fail;go_ret;exact⟨v,rfl,g,b⟩
def beV(l:List UInt8):Nat:=l.foldl (fun u c=>u*256+c.toNat) 0
theorem Ej(l:List UInt8)(c:UInt8):beV (l++[c])=beV l*256+c.toNat:=by simp[beV]
theorem wL(l:List UInt8):beV l<256 ^ l.length:=by
 suffices h:∀(m:List UInt8),beV m.reverse<256 ^ m.length by
  have:=h l.reverse;simpa using this
 intro m
 induction m with
 |nil=>simp[beV]
 |cons c m a=>
  rw[List.reverse_cons,Ej,eS,wD];have:=c.toNat_lt;omega
theorem Ek(l:List UInt8)(h:l.length≤8):beV l<18446744073709551616:=
 cY (wL l) (by
  have:=rH (n:=256) (by omega) h;omega)
theorem Nm(l:List UInt8)(h:l.length≤7):beV l<72057594037927936:=
 cY (wL l) (by
  have:=rH (n:=256) (by omega) h;omega)
theorem El(l:List UInt8)(h:l.length≤4):beV l<4294967296:=
 cY (wL l) (by
  have:=rH (n:=256) (by omega) h;omega)
theorem Nn(y q:Nat)(c:y<72057594037927936)(b:q<2 ^ 8):bits .or .u64 ((y:Int)*256) (q:Int)=((y*256+q:Nat):Int):=by
 have h:=u64_or_nat (y*256) q (by omega) (by omega);have a:=Nat.shiftLeft_add_eq_or_of_lt b y;rw[Nat.shiftLeft_eq]at a;rw[show y*256+q=y*256|||q from a];have e:((y*256:Nat):Int)=(y:Int)*256:=by omega
 rw[e]at h;exact h
def eZ(w:World)(g:Nat)(l:List UInt8):Prop:=
 ∃A n c,w.heap[g]? =some (.cells #[.slice A n c] 276 (0,0))∧Rd w g A (bv l)∧l.length=n∧n≤c∧c≤maxLen
theorem eZ.lt{w:World}{g:Nat}{l:List UInt8}(h:eZ w g l):g<w.heap.size:=by
 obtain⟨A,n,c,h,_⟩:=h;exact (eT.1 h).1
theorem uG{w:World}{g:Nat}{v:Value}{t:TypeId}(h:w.heap[g]? =some (.cells #[v] t (0,0))):w.cell? ⟨g,0,none⟩=some v:=by
 rw[cell_of_row w g 0 _ _ _ h]; rfl
theorem No{w:World}{g:Nat}{v:Value}{t:TypeId}(h:w.heap[g]? =some (.cells #[v] t (0,0))):w.frozen? ⟨g,0,none⟩=false:=frozen_of_row w g 0 _ _ h
theorem eZ.keep{w i:World}{g:Nat}{l:List UInt8}(h:eZ w g l){a:Option Nat}(d:w.grownBy i a)(o:a≠some g)(p:∀b,a=some b→g≤b):eZ i g l:=by
 have f:=h.lt;obtain⟨A,n,c,j,k,m⟩:=h;refine⟨A,n,c,by rw[d.block g f (fun e=>o e.symm)]; exact j,k.grown d (dK f) p,m⟩
theorem eZ.below{w d:World}{g:Nat}{l:List UInt8}(h:eZ w g l)(a:Bw' w d):eZ d g l:=by
 have b:=h.lt;obtain⟨A,n,c,e,f,i⟩:=h;exact⟨A,n,c,by rw[a.block g b]; exact e,f.below a (dK b),i⟩
theorem Em(A:Option Addr)(n c:Nat)(l:List UInt8)(w:World)(d:Rd w w.heap.size A (bv l))(b:l.length=n)(h:n≤c)(i:c≤maxLen):
  Calls prog 178 #[.slice A n c] w fun e f=>∃g,e=.returned (.pointer (some ⟨g,0,none⟩))∧w.heap.size≤g∧eZ f g l∧Bw' w f:=by
 have H:=k'2 d b; clear d b;go_enter func178,ntmps178;go_wp2_with fail;go_ret;refine⟨w.heap.size,rfl,aN _,⟨A,n,c,heap_alloc_new w _,H.a.alloc (aN _) _,H.B,h,i⟩,ba' _ _⟩
theorem Np(g:Nat)(l:List UInt8)(w:World)(h:eZ w g l):
  Calls prog 179 #[.pointer (some ⟨g,0,none⟩)] w fun e i=>e=.returned (.i l.length)∧w=i:=by
 obtain⟨A,n,c,a,f,b,j,m⟩:=h;have k:=uG a;have d:=kp b; clear b f a;go_enter func179,ntmps179;go_wp2_with fail;go_ret;exact⟨by rw[d.o]; rfl,rfl⟩
theorem wM(g:Nat)(l:List UInt8)(k:Nat)(w:World)(h:eZ w g l)(E:k≤l.length):
  Calls prog 183 #[.pointer (some ⟨g,0,none⟩),.i k] w fun e r=>e=.returned (.tuple #[])∧eZ r g (l.drop k)∧w.grownBy r (some g):=by
 obtain⟨A,n,c,b,q,p,z,G⟩:=h;have C:=uG b;have D:=No b;have F:k≤n:=by omega
 have m:=q.cut (k:=k) (cap:=c) (by rw[tY]; omega);obtain⟨d,x⟩:∃d,(if c=k then A else A.map (·.add k))=d:=⟨_,rfl⟩
 have s:=kp m;have f:=k'2 b p; clear p q b m;go_enter func183,ntmps183;go_wp2_with fail;go_end0;refine⟨rfl,⟨d,n-k,c-k,heap_setCell_same w g 0 _ _ _ f.a,?_,by rw[dM,f.B],by omega,by omega⟩,⟨rfl,rfl,rfl,by simp,fun j _ y=>heap_setCell_other w ⟨g,0,none⟩ j _ (fun e=>y (by simp[e]))⟩⟩;have i:=s.o;rw[x,Mw]at i;exact i.setCell (aN _) _
theorem Eo(g:Nat)(l:List UInt8)(k:Nat)(w:World)(h:eZ w g l)(i:l.length<k):
  Calls prog 230 #[.pointer (some ⟨g,0,none⟩),.i k] w fun e b=>e=.returned (.tuple #[.int .u64 0,.i 10])∧w=b:=by
 obtain⟨A,n,c,a,p,m,d,o⟩:=h;have f:=uG a;have j:n<k:=by omega
 go_enter func230,ntmps230;go_wp2_with fail;go_ret2;exact⟨rfl,rfl⟩
theorem Ep(g:Nat)(l:List UInt8)(k:Nat)(w:World)(h:eZ w g l)(J:k≤l.length)(F:k≤8):
  Calls prog 230 #[.pointer (some ⟨g,0,none⟩),.i k] w fun e E=>e=.returned (.tuple #[.int .u64 (beV (l.take k)),.i 0])∧w=E:=by
 obtain⟨A,n,c,r,C,x,G,M⟩:=h;have H:=uG r;have K:k≤n:=by omega
 have j:=k'2 C x;go_enter func230,ntmps230;go_wp2_with fail
 go_loop [6,8,25] (fun v o i=>∃t:Nat,t≤k∧i=.i t∧v=.int .u64 (beV (l.take t))) (fun _ _ i=>k-(intOf i).toNat)
 case atStart=>exact⟨0,by omega,rfl,rfl⟩
 case round=>
  obtain⟨t,N,rfl,rfl⟩:=hrel
  by_cases L:t<k
  .have f:t<l.length:=by have:=j.B; omega
   obtain⟨b,O,rfl,_,s⟩:=j.a.at_ (k:=t) (by rw[tY]; exact f);have I:=s t _ (zI l t f);have d:=Ej (l.take t) l[t];rw[←fE f]at d;have p:=kp d; clear d;have D:=Nm (l.take t) (by simp; omega);have z:=(l[t]).toNat_lt;generalize beV (l.take t)=y at *;generalize (l[t]).toNat=q at *;have m:=kp (Nn y q D z);go_wp2_with fail
   go_round
   case rel=>exact⟨t+1,by omega,by go_num,by rw[p.o,m.o]⟩
   case measure=>simp[intOf]; omega
  .obtain rfl:t=k:=by omega
   go_wp2_with fail;go_ret2;exact⟨rfl,rfl⟩
def num(l:List UInt8):Int×Nat×Int:=
 if l.length<4 then (0,0,10) else if 2147483647<beV (l.take 4) then (0,0,11) else (beV (l.take 4),4,0)
def aA(l:List UInt8):Int×Nat×Int:=
 if l.length<8 then (0,0,10) else (wrap64 (beV (l.take 8)),8,0)
def eH(l:List UInt8):ByteArray×Nat×Int:=
 if l.length<4 then (⟨#[]⟩,0,10) else if 65536<beV (l.take 4) then (⟨#[]⟩,0,11) else if l.length-4<beV (l.take 4) then (⟨#[]⟩,0,10) else
  (⟨((l.drop 4).take (beV (l.take 4))).toArray⟩,4+beV (l.take 4),0)
theorem Eq(g:Nat)(l:List UInt8)(w:World)(h:eZ w g l):
  Calls prog 182 #[.pointer (some ⟨g,0,none⟩)] w fun e b=>e=.returned (.tuple #[.i (num l).1,.i (num l).2.2])∧w=b:=by
 unfold num
 by_cases a:l.length<4
 .rw[aK a];go_enter func182,ntmps182;go_wp2_with fail;refine (Eo g l 4 w h a).mono ?_;rintro e b ⟨rfl,rfl⟩;go_wp2_with fail;go_ret2;exact⟨rfl,rfl⟩
 .rw[aF a];have f:beV (l.take 4)<4294967296:=El _ (by simp; omega);have d:=kp (show 4≤l.length by omega); clear a;have H:=kp (Ep g l 4 w h d.o (by omega));generalize beV (l.take 4)=y at *
  by_cases c:2147483647<y
  .rw[aK c];go_enter func182,ntmps182;go_wp2_with fail;refine Calls.mono H.o ?_;rintro e b ⟨rfl,rfl⟩;go_wp2_with fail;go_ret2;exact⟨rfl,rfl⟩
  .rw[aF c];have i:decide (2147483647<(y:Int))=false:=by simp; omega
   go_enter func182,ntmps182;go_wp2_with fail;refine Calls.mono H.o ?_;rintro e b ⟨rfl,rfl⟩;go_wp2_with fail;go_ret2;exact⟨rfl,rfl⟩
def Nq(g:Nat):Value:=.pointer (some ⟨g,0,none⟩)
theorem zW(l:List UInt8)(h:(num l).2.2=0):(num l).2.1=4∧4≤l.length:=by
 unfold num at h ⊢
 split at h
 .simp at h
 .rename_i a
  split at h
  .simp at h
  .rename_i b;rw[aF a,aF b];exact⟨rfl,by omega⟩
theorem Nr(l:List UInt8)(h:¬(num l).2.2=0):(num l).2.1=0:=by
 unfold num at h ⊢
 split
 .rfl
 .rename_i a;rw[aF a]at h
  split
  .rfl
  .rename_i b;rw[aF b]at h;simp at h
theorem Er(g:Nat)(l:List UInt8)(w:World)(h:eZ w g l):
  Calls prog 185 #[.pointer (some ⟨g,0,none⟩)] w fun e a=>e=.returned (.tuple #[.i (num l).1,.i (num l).2.2])∧eZ a g (l.drop (num l).2.1)∧w.grownBy a (some g):=by
 have i:=kp (Eq g l w h)
 by_cases c:(num l).2.2=0
 .obtain⟨f,b⟩:=zW l c;rw[f];rw[c]at i ⊢;have d:=kp (wM g l 4 w h b);generalize (num l).1=v at *;go_enter func185,ntmps185;go_wp2_with fail;refine Calls.mono i.o ?_;rintro e a ⟨rfl,rfl⟩;go_wp2_with fail;refine Calls.mono d.o ?_;rintro e a ⟨rfl,b,j⟩;have k:=k'2 b j; clear b j;go_wp2_with fail;go_ret2;exact⟨rfl,k.o⟩
 .have f:=Nr l c;rw[f];have m:((num l).2.2==0)=false:=by simpa using c
  generalize (num l).1=v at *;generalize (num l).2.2=e1 at *;have d:=kp h; clear h;go_enter func185,ntmps185;go_wp2_with fail;refine Calls.mono i.o ?_;rintro e a ⟨rfl,rfl⟩;go_wp2_with fail;go_ret2;exact⟨rfl,d.o,World.grownBy.refl _ _⟩
theorem Es(g:Nat)(l:List UInt8)(w:World)(h:eZ w g l):
  Calls prog 231 #[.pointer (some ⟨g,0,none⟩)] w fun e a=>e=.returned (.tuple #[.i (aA l).1,.i (aA l).2.2])∧eZ a g (l.drop (aA l).2.1)∧w.grownBy a (some g):=by
 unfold aA
 by_cases b:l.length<8
 .rw[aK b];have j:=kp h;go_enter func231,ntmps231;go_wp2_with fail;refine (Eo g l 8 w h b).mono ?_;rintro e a ⟨rfl,rfl⟩;go_wp2_with fail;go_ret2;exact⟨rfl,j.o,World.grownBy.refl _ _⟩
 .rw[aF b];have m:beV (l.take 8)<18446744073709551616:=Ek _ (by simp; omega);have c:=kp (show 8≤l.length by omega); clear b;have H:=kp (Ep g l 8 w h c.o (by omega));have k:=kp (wM g l 8 w h c.o);generalize beV (l.take 8)=y at *;go_enter func231,ntmps231;go_wp2_with fail;refine Calls.mono H.o ?_;rintro e a ⟨rfl,rfl⟩;go_wp2_with fail;refine Calls.mono k.o ?_;rintro e a ⟨rfl,d,f⟩;have i:=k'2 d f; clear d f;go_wp2_with fail;go_ret2;exact⟨rfl,i.o⟩
theorem Ns(g:Nat)(l:List UInt8)(w:World)(h:eZ w g l):
  Calls prog 134 #[.pointer (some ⟨g,0,none⟩)] w fun e d=>e=.returned (.tuple #[.string (eH l).1,.i (eH l).2.2])∧eZ d g (l.drop (eH l).2.1)∧w.grownBy d (some g):=by
 have b:=kp (Eq g l w h);have f:=kp h;unfold eH;unfold num at b
 by_cases i:l.length<4
 .rw[aK i];rw[aK i]at b;go_enter func134,zE;go_wp2_with fail;refine Calls.mono b.o ?_;rintro e d ⟨rfl,rfl⟩;go_wp2_with fail;go_ret2;exact⟨rfl,f.o,World.grownBy.refl _ _⟩
 .rw[aF i];rw[aF i]at b;have p:=kp (show 4≤l.length by omega);have I:beV (l.take 4)<4294967296:=El _ (by simp; omega);obtain⟨y,O⟩:=nm' (beV (l.take 4));rw[O]at b I ⊢
  by_cases r:2147483647<y
  .rw[aK r]at b;rw[aK (by omega)];go_enter func134,zE;go_wp2_with fail;refine Calls.mono b.o ?_;rintro e d ⟨rfl,rfl⟩;go_wp2_with fail;go_ret2;exact⟨rfl,f.o,World.grownBy.refl _ _⟩
  rw[aF r]at b
  by_cases s:65536<y
  .rw[aK s];go_enter func134,zE;go_wp2_with fail;refine Calls.mono b.o ?_;rintro e d ⟨rfl,rfl⟩;go_wp2_with fail;go_ret2;exact⟨rfl,f.o,World.grownBy.refl _ _⟩
  rw[aF s];have z:=kp (Np g l w h);have W:l.length≤9223372036854775807:=by
   obtain⟨A,n,c,T,k,q,m,J⟩:=h;unfold maxLen at J;omega
  by_cases x:l.length-4<y
  .rw[aK x];have m:=p.o;have L:((l.length:Int)-4<(y:Int)):=by omega
   go_enter func134,zE;go_wp2_with fail;refine Calls.mono b.o ?_;rintro e d ⟨rfl,rfl⟩;go_wp2_with fail;refine Calls.mono z.o ?_;rintro e d ⟨rfl,rfl⟩;go_wp2_with fail;go_ret2;exact⟨rfl,f.o,World.grownBy.refl _ _⟩
  .rw[aF x];have m:=p.o;have L:¬((l.length:Int)-4<(y:Int)):=by omega
   have M:=kp (wM g l 4 w h m);have X:y≤65536:=by omega
   have j:=kp (show y≤(l.drop 4).length by rw[dM]; omega);go_enter func134,zE;go_wp2_with fail;refine Calls.mono b.o ?_;rintro e d ⟨rfl,rfl⟩;go_wp2_with fail;refine Calls.mono z.o ?_;rintro e d ⟨rfl,rfl⟩;go_wp2_with fail;refine Calls.mono M.o ?_;rintro e E ⟨rfl,k,q⟩;have N:=kp (wM g (l.drop 4) y E k j.o);obtain⟨A,n,c,G,H,Q,R,S⟩:=k;have U:=uG G;have Y:y≤n:=by have:=j.o; omega
   have V:=wH (P:=prog) E 276 9 5 underlying276 tT rX g A y c ((l.drop 4).take y) (by rw[←Mv]; exact H.take y) (by rw[cL]; have:=j.o; omega);have F:=kp q;go_wp2_with fail;refine Calls.mono N.o ?_;rintro e Z ⟨rfl,C,D⟩;have K:=k'2 C D; clear C D;go_wp2_with fail;go_ret2;refine⟨rfl,?_,Eb F.o K.B⟩;have:=K.a;rw[List.drop_drop]at this;exact this
theorem wN(k u:Nat):beN (k+1) u=UInt8.ofNat (u / 256 ^ k)::beN k u:=by
 simp only[beN,beP,List.range_succ_eq_map,mJ,vV]
 congr 1
 .simp[Nat.pow_mul]
 .apply List.map_congr_left;intro t _;simp only[Function.comp]
  congr 4
  omega
theorem Nt(l:List UInt8):∀a:Nat,l.foldl (fun u c=>u*256+c.toNat) a=a*256 ^ l.length+beV l:=by
 induction l with
 |nil=>intro a; simp[beV]
 |cons c l b=>
  intro a;simp only[List.foldl_cons,eS,beV];rw[b,b (0*256+c.toNat),wD];simp only[fH,nQ,gL,Nat.mul_assoc,Mt 256,lW]
theorem Et(c:UInt8)(l:List UInt8):beV (c::l)=c.toNat*256 ^ l.length+beV l:=by
 have:=Nt l c.toNat;simp only[beV,List.foldl_cons,nQ,gL];exact this
theorem jQ(k u:Nat):(beN k u).length=k:=by simp[beN,beP]
theorem zX(k u:Nat):beV (beN k u)=u % 256 ^ k:=by
 induction k with
 |zero=>simp[beN,beP,beV,Nat.mod_one]
 |succ k a=>
  rw[wN,Et,a,jQ,wD,Nat.mod_mul];simp only[UInt8.toNat_ofNat'];rw[Mt,Nat.add_comm]
theorem Nu(k:Nat):∀(j c v:Nat),k≤j→beN k (c*256 ^ j+v)=beN k v:=by
 induction k with
 |zero=>intros; rfl
 |succ k b=>
  intro j c v h;rw[wN,wN,b j c v (by omega)]
  congr 1
  obtain⟨d,rfl⟩:∃d,j=d+k+1:=⟨j-k-1,by omega⟩
  have e:c*256 ^ (d+k+1)=(c*256 ^ d*256)*256 ^ k:=by
   rw[wD,Nat.pow_add];simp only[Nat.mul_assoc,Mt (256 ^ k) 256]
  have a:0<256 ^ k:=Nat.pos_of_ne_zero (by simp);rw[e,Nat.add_comm,Nat.add_mul_div_right _ _ a];apply UInt8.toNat_inj.1;simp
theorem zY(l:List UInt8):beN l.length (beV l)=l:=by
 induction l with
 |nil=>rfl
 |cons c l b=>
  rw[eS,wN,Et,Nu l.length l.length _ _ (aN _),b]
  congr 1
  have a:0<256 ^ l.length:=Nat.pos_of_ne_zero (by simp);rw[Nat.add_comm,Nat.add_mul_div_right _ _ a,Nat.div_eq_of_lt (wL l)];simp
theorem Nv(u:Nat)(m:List UInt8)(a:u≤2147483647):num (beN 4 u++m)=((u:Int),4,0):=by
 unfold num;have e:(beN 4 u++m).take 4=beN 4 u:=vX (jQ 4 u);rw[aF (by rw[bF,jQ]; omega),e,zX,Nat.mod_eq_of_lt (by omega),aF (by omega)]
theorem Nw(i:Int)(a: -9223372036854775808≤i)(b:i≤9223372036854775807):wrap64 ((kF i:Nat):Int)=i:=by
 rw[←zV];have:IntKind.u64.wrap i=i % 18446744073709551616:=by simp[IntKind.wrap,IntKind.bits,IntKind.signed]
 rw[this];unfold wrap64;omega
theorem Nx(i:Int)(m:List UInt8)(a: -9223372036854775808≤i)(b:i≤9223372036854775807):aA (beN 8 (kF i)++m)=(i,8,0):=by
 unfold aA;have e:(beN 8 (kF i)++m).take 8=beN 8 (kF i):=vX (jQ 8 _);have:=Ei i;rw[aF (by rw[bF,jQ]; omega),e,zX,Nat.mod_eq_of_lt (by omega),Nw i a b]
theorem Ny(s:ByteArray)(m:List UInt8)(c:s.size≤65536):eH (beN 4 s.size++(s.data.toList++m))=(s,4+s.size,0):=by
 unfold eH;have e:(beN 4 s.size++(s.data.toList++m)).take 4=beN 4 s.size:=vX (jQ 4 _);have e2:(beN 4 s.size++(s.data.toList++m)).drop 4=s.data.toList++m:=vY (jQ 4 _);have a:s.data.toList.length=s.size:=by simp
 have b:(beN 4 s.size++(s.data.toList++m)).length=4+(s.size+m.length):=by rw[bF,bF,jQ,a]
 rw[e,zX,Nat.mod_eq_of_lt (by omega),aF (by omega),aF (by omega),aF (by omega),e2,vX a]
theorem Nz(l:List UInt8)(h:(num l).2.2=0):(num l).2.1=4∧4≤l.length∧∃u:Nat,u≤2147483647∧(num l).1=u∧beN 4 u=l.take 4:=by
 obtain⟨c,a⟩:=zW l h;refine⟨c,a,beV (l.take 4),?_⟩;have b:=zY (l.take 4);rw[cL,nO a]at b;unfold num at h ⊢;rw[aF (by omega)]at h ⊢
 split at h
 .simp at h
 .rename_i d;rw[aF d];exact⟨by omega,rfl,b⟩
theorem Oa(l:List UInt8)(h:(aA l).2.2=0):(aA l).2.1=8∧8≤l.length∧beN 8 (kF (aA l).1)=l.take 8:=by
 unfold aA at h ⊢
 split at h
 .simp at h
 .rename_i c;rw[aF c];have a:8≤l.length:=by omega
  have b:=zY (l.take 8);rw[cL,nO a]at b;refine⟨rfl,a,?_⟩;have d:beV (l.take 8)<18446744073709551616:=Ek _ (by simp; omega);have:kF (wrap64 (beV (l.take 8)))=beV (l.take 8):=by
   have e:((kF (wrap64 (beV (l.take 8))):Nat):Int)=((beV (l.take 8):Nat):Int):=by
    rw[←zV];have:∀i:Int,IntKind.u64.wrap i=i % 18446744073709551616:=by intro i; simp[IntKind.wrap,IntKind.bits,IntKind.signed]
    rw[this];unfold wrap64;omega
   omega
  rw[this];exact b
theorem Oc(l:List UInt8)(h:(eH l).2.2=0):(eH l).1.size≤65536∧(eH l).2.1=4+(eH l).1.size∧4+(eH l).1.size≤l.length∧beN 4 (eH l).1.size++(eH l).1.data.toList=l.take (4+(eH l).1.size):=by
 unfold eH at h ⊢
 split at h
 .simp at h
 .rename_i b
  split at h
  .simp at h
  .rename_i c
   split at h
   .simp at h
   .rename_i d;rw[aF b,aF c,aF d];have a:=zY (l.take 4);rw[cL,nO (by omega)]at a;generalize beV (l.take 4)=y at *;have e:(⟨((l.drop 4).take y).toArray⟩:ByteArray).size=y:=by
     simp[ByteArray.size]; omega
    simp only[e];refine⟨by omega,by simp,by omega,?_⟩;rw[a,List.take_add]
end
section
theorem iL(o:Int)(w:World):Calls prog 218 #[.i o] w fun e f=>e=.returned (.i (aU o))∧f=w:=by
 by_cases b:0≤o
 .by_cases c:o≤8
  .rcases zR b c with rfl|rfl|rfl|rfl|rfl|rfl|rfl|rfl|rfl
   all_goals
    go_enter func218,ntmps218;go_wp2_with fail;go_ret;exact⟨rfl,rfl⟩
  .have a:aU o=0:=by unfold aU; rw[aF (by omega)]
   rw[a];have d:decide (o<0)=false:=by simp; omega
   have b8:decide (8<o)=true:=by simp; omega
   clear a c;go_enter func218,ntmps218;go_wp2_with fail;go_ret;exact⟨rfl,rfl⟩
 .have a:aU o=0:=by unfold aU; rw[aF (by omega)]
  rw[a];have d:decide (o<0)=true:=by simp; omega
  clear a b;go_enter func218,ntmps218;go_wp2_with fail;go_ret;exact⟨rfl,rfl⟩
theorem wO(o:Int)(w:World):Calls prog 215 #[.i o] w fun e d=>e=.returned (.bool (cZ o))∧d=w:=by
 unfold cZ;rcases uD (decide (3≤o)) (decide (o≤8)) with⟨b,a⟩|⟨b,c,a⟩|⟨b,c,a⟩
 all_goals
  rw[a];clear a;go_enter func215,ntmps215;go_wp2_with fail;go_ret;exact⟨rfl,rfl⟩
theorem Eu(o:Int)(b:Bk)(w:World)(j:cZ o=true):Calls prog 249 #[.i o,.agg #[.i b.a,.i b.o]] w fun e l=>e=.returned (.bool (bY o b))∧Bw' w l:=by
 obtain⟨n,p⟩:=uE w b 262;have h:=kp (ba' w (.cells #[.i b.a,.i b.o] 262));have q:=fX o;have r:=fX b.o;have k:=kp j; clear j;unfold bY;rcases Mz (decide (0≤b.o)) (decide (b.o≤o)) (decide (0≤b.a)) (decide (b.a≤aU o-aU b.o)) (decide (b.a % aU b.o=0)) with⟨d,c⟩|⟨d,f,c⟩|⟨d,f,g,c⟩|⟨d,f,g,i,c⟩|⟨d,f,g,i,c⟩
 all_goals
  rw[c];clear c;go_enter func249,ntmps249;go_wp2_with fail
  go_quiet (first |(go_at_call 218; refine Calls.quiet_of_same (iL _ _)))
  go_wp2_with fail;go_ret
 iterate 4 exact⟨rfl,wJ h.o _⟩
 refine⟨jO (bA Value.bool (Nb ?_ ?_ ?_ ?_)),wJ h.o _⟩
 all_goals
  have m:=fB k.o;simp only[bR]at d f g i;omega
theorem Ev(o:Int)(b:Bk)(w:World)(d:cZ o=true)(c:bY o b=true):Calls prog 250 #[.agg #[.i b.a,.i b.o]] w fun e f=>e=.returned (.agg (bP b).cells.toArray)∧Bw' w f:=by
 obtain⟨j,k⟩:=uE w b 262;have g:=kp (ba' w (.cells #[.i b.a,.i b.o] 262));have l:=fX b.o;have i:=kp (gU d c); clear d c;go_enter func250,ntmps250;go_wp2_with fail
 go_region_with (first |(go_at_call 218; refine (iL _ _).mono ?_; rintro e f ⟨rfl,rfl⟩))
 all_goals
  go_wp2_with fail;refine bI (results_cell_row rfl _ _ (w.heap.size+1) 262 #[.i (bits BinOp.xor IntKind.i64 b.a (aU b.o)),.i b.o] (0,0) _ rfl ?_ underlying262 rfl (by kernel_rfl)) rfl ⟨jO (bA Value.agg ?_),bL (g.o.alloc (by simp) _)⟩
  .have h:=Blk.new (w.alloc (.cells #[.i b.a,.i b.o] 262)) 262 [.i (bits BinOp.xor IntKind.i64 b.a (aU b.o)),.i b.o];rw[World.size_alloc]at h;exact h
  .have h:=i.o;rw[Nd h.2.2.2.1 h.2.2.2.2.1 h.1 (by omega) h.2.2.2.2.2.2.1];rfl
end
section
theorem zZ(w:World)(x y:Bk)(t:TypeId):∃W:World,W=(w.alloc (.cells #[.i x.a,.i x.o] t)).alloc (.cells #[.i y.a,.i y.o] t)∧
  W.cell? ⟨w.heap.size,0,none⟩=some (.i x.a)∧W.cell? ⟨w.heap.size,1,none⟩=some (.i x.o)∧
  W.cell? ⟨w.heap.size+1,0,none⟩=some (.i y.a)∧W.cell? ⟨w.heap.size+1,1,none⟩=some (.i y.o)∧Bw' w W:=by
 have c:=(Blk.new w t x.cells).alloc (.cells y.cells.toArray t);have b:=Blk.new (w.alloc (.cells x.cells.toArray t)) t y.cells;rw[World.size_alloc]at b;exact⟨_,rfl,c.cell 0,c.cell 1,b.cell 0,b.cell 1,(ba' w _).alloc (by simp) _⟩
theorem Od{o:Int}(h:o≤8):1≤aW o∧aW o≤256:=by
 unfold aW;have a:(1:Nat)≤2 ^ o.toNat:=zA;have b:(2:Nat) ^ o.toNat≤2 ^ 8:=rH (by omega) (by omega);have e:((2 ^ o.toNat:Nat):Int)=2 ^ o.toNat:=by simp
 omega
theorem Oe(l:List Bk)(b:Bk):bV (l++[b])=bV l+aW b.o:=by simp[bV]
theorem Ew:∀(l:List Bk),(∀b∈l,b.o≤8)→0≤bV l∧bV l≤256*l.length
 |[],_=>⟨iG _,iG _⟩
 |b::l,h=>by
  have c:=Ew l fun x a=>h x (by simp[a]);have d:=Od (h b (by simp));have e:bV (b::l)=aW b.o+bV l:=by simp[bV]
  rw[e,eS];omega
theorem Ex(x y:Bk)(w:World):Sem.run prog (binOp .eql 262 (.agg x.cells.toArray) (.agg y.cells.toArray)) w=.ok (.bool (decide (x=y))) w:=by
 obtain⟨e,f⟩:=x;obtain⟨g,h⟩:=y;simp only[Bk.cells,Bk.mk.injEq];have c:prog.underlying 262=some (.struct (prog.fieldsOf 262)):=by kernel_rfl
 have d:prog.stoodInHeld 262=false:=by kernel_rfl
 rw[run_eql_struct,show (10000:Nat)=9999+1 from rfl,run_equalIn_agg w 9999 _ _ _ c d];simp only[Program.fieldsOf,underlying262]
 go_simp
 by_cases a:e=g<;>by_cases b:f=h<;>simp[a,b]
end
section
attribute [-go_sem] run_eql_struct run_neq_struct
def okB(o E:Int)(L b:Bk):Bool:=bY o b&&(decide (E≤b.a)&&(!(decide (b.o<o)&&(decide (L=bP b)&&decide (0≤L.a)))))
def lL(o:Int):Int→Bk→List Bk→Bool
 |_,_,[]=>true
 |E,L,b::l=>okB o E L b&&lL o (b.a+aU b.o) b l
def gX(o:Int)(l:List Bk):Bool:=cZ o&&lL o 0 ⟨-1,0⟩ l
def dG(e:Int)(b:Bool):Int:=if b=true then 0 else e
theorem Of(o E:Int)(L b:Bk):(bY o b=false∧okB o E L b=false)∨(bY o b=true∧decide (b.a<E)=true∧okB o E L b=false)∨
  (bY o b=true∧decide (b.a<E)=false∧decide (b.o<o)=false∧okB o E L b=true)∨
  (bY o b=true∧decide (b.a<E)=false∧decide (b.o<o)=true∧decide (L=bP b)=false∧okB o E L b=true)∨
  (bY o b=true∧decide (b.a<E)=false∧decide (b.o<o)=true∧decide (L=bP b)=true∧decide (0≤L.a)=false∧okB o E L b=true)∨
  (bY o b=true∧decide (b.a<E)=false∧decide (b.o<o)=true∧decide (L=bP b)=true∧decide (0≤L.a)=true∧okB o E L b=false):=by
 have h:decide (E≤b.a)= !decide (b.a<E):=by
  by_cases h:b.a<E
  .simp[h]
  .simp[h]; omega
 unfold okB;rw[h]
 cases bY o b<;>cases decide (b.a<E)<;>cases decide (b.o<o)<;>cases decide (L=bP b)<;>cases decide (0≤L.a)<;>simp
theorem pV(o:Int)(v:Value)(B:Nat)(l:List Bk)(w:World)(hv:Sl w B v Bk.cells l)(hB:B≤w.heap.size)(hn:l.length≤1000000):
  Calls prog 216 #[.i o,v] w fun e Q=>e=.returned (.i (dG 1 (gX o l)))∧Bw' w Q:=by
 obtain⟨A,c,rfl,hr,hc,d⟩:=hv;obtain⟨n,Z⟩:=nm' l.length;rw[Z]at hc hn ⊢;obtain⟨r,h⟩:=nm' (gX o l);rw[h];unfold gX at h
 cases hro:cZ o
 .rw[hro]at h;obtain rfl:r=false:=h.symm;have f:=kp hro;go_enter func216,ntmps216;go_wp2_with fail;refine mb' (wO o w) fun Q O=>?_;obtain rfl:=O.symm;rw[f.o];go_wp2_with fail;go_ret;exact⟨rfl,aH _ _⟩
 .rw[hro,kU]at h;have f:=kp hro;have H8:=kp (fB hro);have b0:=kp hr;have T:=kp Z;have HR:=kp h;have HB:=kp (ba' w (.cells #[.i (-1),.i 0] 262));have HK:=kp (Blk.new w 262 [.i (-1),.i 0]);go_enter func216,ntmps216;go_wp2_with fail;refine mb' (wO o w) fun Q O=>?_;obtain rfl:=O.symm;rw[f.o];go_wp2_with fail
  go_loopw [5,15] (fun e i wr=>∃k:Nat,k≤n∧i=.i k∧∃(E:Int)(L:Bk),e=.i E∧lL o E L (l.drop k)=r∧Blk wr w.heap.size 262 [.i L.a,.i L.o]∧Bw' w wr) (fun _ i _=>n-(intOf i).toNat)
  case atStart=>exact⟨0,by omega,rfl,0,⟨-1,0⟩,rfl,HR.o,HK.o,HB.o⟩
  case round=>
   obtain⟨k,hk,rfl,E,L,rfl,hp,hK,e0⟩:=hrel;have j:=kp hp;have S:=kp hK;have q:=kp e0
   by_cases o0:k<n
   .have g3:(k:Int)<(n:Int):=by omega
    have N:k<l.length:=by have:=T.o; omega
    obtain⟨b,y0,hA,m0,Y,_⟩:=dS (P:=prog) 2 cO (by omega) (b0.o.below q.o hB) k N;subst hA;have q0:=Y 0 _ rfl;have q1:=Y 1 _ rfl;have s:=kp (iF N);generalize l[k]'N=x at *;simp only[dW]at q0;have p0:=kp (q.o.size);obtain⟨W2,J⟩:=nm' (wr.alloc (.cells #[.i x.a,.i x.o] 262));have G:=Blk.new wr 262 [.i x.a,.i x.o];have H:=S.o.alloc (.cells #[.i x.a,.i x.o] 262);rw[J]at G H;have K:=ba' wr (.cells #[.i x.a,.i x.o] 262);rw[J]at K;have z:=k'4 G H K J;have d0:=q.o.on K;have f0:=bG (G.cell 0);have f1:=bG (G.cell 1);have l0:=bG (H.cell 0);have l1:=bG (H.cell 1);rcases Of o E L x with⟨d,g⟩|⟨d,D,g⟩|⟨d,D,I,g⟩|⟨d,D,I,F,g⟩|⟨d,D,I,F,h4,g⟩|⟨d,D,I,F,h4,g⟩
    all_goals
     have U:=kp d;have y:=kp g
     try have g0:∀w,Sem.run prog (binOp .eql 262 (.agg #[.i L.a,.i L.o]) (.agg (bP x).cells.toArray)) w=.ok (.bool (decide (L=bP x))) w:=fun w=>Ex L (bP x) w
     try rw[F]at g0
     try clear F
     go_wp2_with fail;refine cX (by kernel_rfl) (by kernel_rfl) ?_
     repeat (go_big_quiet_step (first |(go_at_call 249; refine gV (Eu o x _ f.o))|(go_at_call 250; refine gV (Ev o x _ f.o U.o))))
     refine cI ?_;rintro _ ⟨⟨W3,M⟩,rfl⟩;have C:=kp (d0.on M);have V:=kp (z.b.below M (by have:=z.c.size; have:=S.o.lt; omega));have W:=kp (z.a.below M z.a.lt)
    .obtain rfl:r=false:=by rw[←j.o,s.o]; simp[lL,y.o]
     go_wp2_with fail;go_ret;exact⟨rfl,C.o⟩
    .obtain rfl:r=false:=by rw[←j.o,s.o]; simp[lL,y.o]
     go_wp2_with fail;go_ret;exact⟨rfl,C.o⟩
    iterate 3
     have a0:=kp (show lL o (x.a+aU x.o) x (l.drop (k+1))=r by rw[←j.o,s.o]; simp[lL,y.o]);obtain⟨m1,m2,m3,m4,m5,m6,m7,m8,m9⟩:=gU f.o U.o;have f0:=bG (W.o.cell 0);have f1:=bG (W.o.cell 1);go_wp2_with fail;refine mO 8 (by kernel_rfl) (by kernel_rfl) ?_;simp only[lV,kB,bS,bU]
     repeat (go_big_quiet_step (first |(go_at_call 218; refine dP (iL _ _))))
     refine cI ?_;rintro _ ⟨⟨W4,X⟩,rfl⟩;have m:=V.o.below X V.o.lt;have c0:=m.cell 0;have c1:=m.cell 1;have z0:=m.frozen 0;have z1:=m.frozen 1;simp only[aP,aZ]at c0 c1;have R:=k'2 ((m.setCell 0 (.i x.a)).setCell 1 (.i x.o)) (C.o.on X);go_wp2_with fail;go_roundw
     case rel=>exact⟨k+1,by omega,by go_num,x.a+aU x.o,x,by go_num,a0.o,R.a,(R.B.setCell (p:=⟨w.heap.size,0,none⟩) (aN _) _).setCell (p:=⟨w.heap.size,1,none⟩) (aN _) _⟩
     case measure=>simp[intOf]; omega
    .obtain rfl:r=false:=by rw[←j.o,s.o]; simp[lL,y.o]
     go_wp2_with fail;go_ret;exact⟨rfl,C.o⟩
   .obtain rfl:k=n:=by omega
    have j0:r=true:=by
     rw[←j.o,kA (by have:=T.o; omega)];rfl
    subst j0;go_wp2_with fail;go_ret;exact⟨rfl,q.o⟩
end
section
attribute [-go_sem] run_eql_struct run_neq_struct
def sF(o:Int)(b x:Bk):Bool:= !decide (b.a≤x.a)&&(!jA b x&& !(decide (b.o<o)&&decide (bP b=x)))
def oR(o:Int):List Bk→List Bk→Bool
 |_,[]=>true
 |pre,b::l=>bY o b&&(pre.all (sF o b)&&oR o (pre++[b]) l)
def Aa(o:Int)(l:List Bk):Bool:=cZ o&&(decide ((l.length:Int)≤aW o)&&oR o [] l)
end
section
theorem Ey{o:Int}(a:cZ o=true):∀(l:List Bk)(E:Int)(L:Bk),lL o E L l=true→E≤aU o→E+l.length≤aU o
 |[],E,_,_,h=>by simpa using h
 |b::l,E,L,h,_=>by
  simp only[lL,okB,bH,bR]at h;have c:=gU a h.1.1;have:=Ey a l _ b h.2 (by omega);rw[eS];have:=h.1.2.1;omega
def Ez(o E:Int)(L:Bk)(pre:List Bk):Prop:=(pre=[]∧E=0∧L.a= -1)∨∃p,pre=p++[L]∧bY o L=true∧E=L.a+aU L.o∧∀y∈p,bY o y=true∧y.a+aU y.o≤L.a
theorem Fa{o:Int}(c:cZ o=true){b y:Bk}(f:bY o b=true)(g:bY o y=true)(h:y.a<b.a):jA b y=decide (b.a<y.a+aU y.o):=by
 have d:=gU c f;have e:=gU c g;unfold jA;rw[←fJ d.1 (by omega),←fJ e.1 (by omega),fA (show y.a<b.a+aU b.o by omega),Bool.and_true]
theorem Fb{o E:Int}{L b:Bk}{pre:List Bk}(c:cZ o=true)(x:Ez o E L pre)(g:bY o b=true):
  (decide (E≤b.a)&&(!(decide (b.o<o)&&(decide (L=bP b)&&decide (0≤L.a)))))=pre.all (sF o b):=by
 have r:=gU c g;rcases x with⟨rfl,rfl,q⟩|⟨p,rfl,f,rfl,B⟩
 .simp[q,r.2.2.2.1]
 have z:=gU c f;rw[rO];simp only[mL,sF,bH,rK,bR,decide_eq_false_iff_not,Bool.and_eq_false_imp];constructor
 .rintro⟨F,C⟩ y d;have m:∀y,bY o y=true→y.a+aU y.o≤b.a→(y=L∨y.a+aU y.o≤L.a)→¬b.a≤y.a∧jA b y=false∧(b.o<o→¬bP b=y):=fun y l A j=>by
   have e:=gU c l;refine⟨by omega,?_,fun i k=>?_⟩
   .rw[Fa c g l (by omega)];simp; omega
   .have e1:y.o=b.o:=by rw[←k]; rfl
    have e2:y.a=b.a+aU b.o∨y.a=b.a-aU b.o:=by
     rw[←k];unfold bP
     split
     .exact .inl rfl
     .exact .inr rfl
    rw[e1]at A e j;rcases j with rfl|j
    .exact C i k.symm z.2.2.2.1
    .omega
  rcases cV.1 d with d|d
  .have:=B y d;exact m y this.1 (by omega) (.inr this.2)
  .rw[bZ.1 d];exact m L f (by omega) (.inl rfl)
 .intro h;obtain⟨D,e,n⟩:=h L (by simp);rw[Fa c g f (by omega)]at e;simp only[decide_eq_false_iff_not]at e;exact⟨by omega,fun i s _=>n i s.symm⟩
theorem Ab{o:Int}(d:cZ o=true):∀(l:List Bk)(E:Int)(L:Bk)(pre:List Bk),Ez o E L pre→lL o E L l=oR o pre l
 |[],_,_,_,_=>rfl
 |b::l,E,L,pre,e=>by
  unfold lL oR okB
  cases hb:bY o b
  .rfl
  .rw[kU,kU,Fb d e hb]
   cases ha:pre.all (sF o b)
   .rfl
   .rw[kU,kU];refine Ab d l _ b _ (.inr ⟨pre,rfl,hb,rfl,fun y c=>?_⟩);have h:E≤b.a:=by
     have:=Fb d e hb;rw[ha]at this;simp only[bH,bR]at this;exact this.1
    rcases e with⟨rfl,_,_⟩|⟨p,rfl,f,rfl,g⟩
    .cases c
    .rcases cV.1 c with c|c
     .have:=g y c;have:=gU d f;exact⟨(g y c).1,by omega⟩
     .rw[bZ.1 c];exact⟨f,h⟩
theorem Og(o:Int)(l:List Bk):Aa o l=gX o l:=by
 unfold Aa gX
 cases ho:cZ o
 .rfl
 .rw[kU,kU,Ab ho l 0 ⟨-1,0⟩ [] (.inl ⟨rfl,rfl,rfl⟩)]
  cases hf:oR o [] l
  .simp
  .rw[Bool.and_true];have a:=fB ho;have:=Ey ho l 0 ⟨-1,0⟩ (by rw[Ab ho l 0 ⟨-1,0⟩ [] (.inl ⟨rfl,rfl,rfl⟩)]; exact hf) (fX o).1;rw[fJ (by omega) (by omega)]at this;simp; omega
end
end Go.Proofs.YtoncgpddjmgbfaaGreat
