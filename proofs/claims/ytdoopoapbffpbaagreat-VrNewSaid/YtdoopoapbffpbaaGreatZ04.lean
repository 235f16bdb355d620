import Derived.Test.YtdoopoapbffpbaaGreatZ01
import Derived.Test.YtdoopoapbffpbaaGreatZ03
import Derived.Lib.SliceRun
namespace Go.Proofs.YtdoopoapbffpbaaGreat
open Go.RowKit Go.Proofs.Tryz
set_option maxRecDepth 100000
set_option maxHeartbeats 12800000
set_option linter.unusedVariables false
set_option linter.unusedSimpArgs false
section
def aF(n lo hi:Int):Bool:=decide (lo≤n)&&decide (n≤hi)
def i1(n:Int):List Value:=[.i n]
theorem cS(n:Int):(i1 n).length=1:=rfl
theorem pJ(n:Int):∀u∈i1 n,u.oneCell'=true:=by
 intro u a;simp only[i1,bA,dW,or_false]at a;subst a;rfl
theorem pK(l:List Int):aM i1 l=iv l:=by
 induction l with
 |nil=>rfl
 |cons a l b=>simp only[aM,kM,Fa,i1,iv]at b ⊢; rw[←b]; rfl
structure Ob where
 (h:Int) (b:Bk) (ws ls:List Int)
deriving DecidableEq
structure ObV where
 (x:Ob) (wv lv:Value)
def ObV.cells(p:ObV):List Value:=[.i p.x.h,.i p.x.b.a,.i p.x.b.o,p.wv,p.lv]
theorem cM(p:ObV):p.cells.length=5:=rfl
structure Hp where
 (order next t0 t1 t2 t3:Int) (obs:List Ob) (free:List Bk)
deriving DecidableEq
structure HpV where
 (x:Hp) (ov fv:Value)
def HpV.cells(p:HpV):List Value:=[.i p.x.order,p.ov,.i p.x.next,.i p.x.t0,.i p.x.t1,.i p.x.t2,.i p.x.t3,p.fv]
def Hp.tops(h:Hp):List Int:=[h.t0,h.t1,h.t2,h.t3]
structure Rw where
 (c s k v:Int)
deriving DecidableEq
def Rw.cells(r:Rw):List Value:=[.i r.c,.i r.s,.i r.k,.i r.v]
theorem fJ(r:Rw):r.cells.length=4:=rfl
structure St where
 (h:Hp) (rows:List Rw)
deriving DecidableEq
structure StV where
 (p:HpV) (rows:List Rw) (rv:Value)
def StV.x(p:StV):St:=⟨p.p.x,p.rows⟩
def StV.cells(p:StV):List Value:=p.p.cells++[p.rv]
structure En where
 (n v c s k h i m j u t:Int)
deriving DecidableEq
def En.cells(x:En):List Value:=[.i x.n,.i x.v,.i x.c,.i x.s,.i x.k,.i x.h,.i x.i,.i x.m,.i x.j,.i x.u,.i x.t]
theorem eL(x:En):x.cells.length=11:=rfl
structure KpV where
 (view normal base:Int) (image:ByteArray) (es:List En) (ev:Value)
def KpV.cells(p:KpV):List Value:=[.i p.view,.i p.normal,.i p.base,.string p.image,p.ev]
structure VoV where
 (node normal base number commit:Int) (es:List En) (ev:Value)
def VoV.cells(p:VoV):List Value:=[.i p.node,.i p.normal,.i p.base,.i p.number,.i p.commit,p.ev]
theorem iS(p:VoV):p.cells.length=6:=rfl
structure Ak where
 (n k:Int)
deriving DecidableEq
def Ak.cells(x:Ak):List Value:=[.i x.n,.i x.k]
theorem nH(x:Ak):x.cells.length=2:=rfl
theorem nI(x:En):∀u∈x.cells,u.oneCell'=true:=by
 intro u a;simp only[En.cells,bA,dW,or_false]at a;rcases a with rfl|rfl|rfl|rfl|rfl|rfl|rfl|rfl|rfl|rfl|rfl<;>rfl
theorem jR(x:Rw):∀u∈x.cells,u.oneCell'=true:=by
 intro u a;simp only[Rw.cells,bA,dW,or_false]at a;rcases a with rfl|rfl|rfl|rfl<;>rfl
theorem wX(x:Ak):∀u∈x.cells,u.oneCell'=true:=by
 intro u a;simp only[Ak.cells,bA,dW,or_false]at a;rcases a with rfl|rfl<;>rfl
section
variable {α:Type}{enc:α→List Value}{w w':World}{B C:Nat}{v:Value}{l:List α}
theorem Sl.one(h:Sl w B v enc l):v.oneCell'=true:=by
 obtain⟨A,c,rfl,_⟩:=h;rfl
theorem Sl.nil(w:World)(B:Nat)(enc:α→List Value):Sl w B (.slice none 0 0) enc []:=⟨none,0,rfl,.inl rfl,aD _,by unfold maxLen; omega⟩
theorem Sl.blw{W:World}(p:Blw W)(h:Sl W B v enc l)(a:B≤W.heap.size):Sl p.w B v enc l:=h.below p.h a
theorem Sl.of_own{base:Nat}{t:TypeId}{k n:Nat}(i:∀a,(enc a).length=k)(h:w.ownsRow base t k v n (aM enc l))(o:l.length=n):Sl w w.heap.size v enc l:=by
 subst o;obtain⟨A,c,rfl,e,m⟩:=eD h;refine⟨A,c,rfl,?_,e,m⟩;rcases h.2 with⟨_,b⟩|⟨g,cap,r,q,_,f,_,_,_,_⟩
 .exact .inl (hJ (by rw[eB k i,b]; simp))
 .have d:A=some ⟨g,0,none⟩:=by injection q
  subst d;exact .inr ⟨g,0,rfl,(fH.1 f).1,fun j u p=>by simpa [Addr.add_lit] using h.cells (g:=g) rfl j u p⟩
end
def pL(w:World)(B:Nat)(v:Value)(ps:List ObV):Prop:=Sl w B v ObV.cells ps∧∀p∈ps,Sl w B p.wv i1 p.x.ws∧Sl w B p.lv i1 p.x.ls
def gH(w:World)(B:Nat)(p:HpV)(ps:List ObV):Prop:=pL w B p.ov ps∧p.x.obs=ps.map (·.x)∧Sl w B p.fv Bk.cells p.x.free
def fN(w:World)(B:Nat)(p:StV)(ps:List ObV):Prop:=gH w B p.p ps∧Sl w B p.rv Rw.cells p.rows
section
variable {w w':World}{B C:Nat}{v:Value}{ps:List ObV}
theorem pL.below(h:pL w B v ps)(b:Below C w w')(a:B≤C):pL w' B v ps:=⟨h.1.below b a,fun p c=>⟨(h.2 p c).1.below b a,(h.2 p c).2.below b a⟩⟩
theorem gH.below{p:HpV}(h:gH w B p ps)(b:Below C w w')(a:B≤C):gH w' B p ps:=⟨h.1.below b a,h.2.1,h.2.2.below b a⟩
theorem fN.below{p:StV}(h:fN w B p ps)(b:Below C w w')(a:B≤C):fN w' B p ps:=⟨h.1.below b a,h.2.below b a⟩
theorem pL.more(h:pL w B v ps)(a:B≤C):pL w C v ps:=⟨h.1.more a,fun p b=>⟨(h.2 p b).1.more a,(h.2 p b).2.more a⟩⟩
theorem gH.more{p:HpV}(h:gH w B p ps)(a:B≤C):gH w C p ps:=⟨h.1.more a,h.2.1,h.2.2.more a⟩
theorem fN.more{p:StV}(h:fN w B p ps)(a:B≤C):fN w C p ps:=⟨h.1.more a,h.2.more a⟩
end
end
section
theorem Fw:(prog.info? 5).map (fun i=>(i.zero,i.size,i.bytes))=some (some (.int .u8 0),1,1):=by kernel_rfl
def beP(k u j:Nat):List UInt8:=(List.range j).map fun t=>UInt8.ofNat (u / 2 ^ (8*(k-1-t)))
def beN(k u:Nat):List UInt8:=beP k u k
theorem Pn(k u j:Nat):bv (beP k u (j+1))=bv (beP k u j)++[.int .u8 ((u / 2 ^ (8*(k-1-j)) % 256:Nat):Int)]:=by
 simp[beP,bv,Ac]
theorem Bg(A:Option Addr)(n c:Nat)(l:List UInt8)(u s:Nat)(w:World)(L:Rd w w.heap.size A (bv l))(Q:l.length=n)(T:n≤1099511627776)(y:u<18446744073709551616)(U:s≤8):
  Calls prog 201 #[.slice A n c,.int .u64 u,.i s] w fun e z=>∃v,e=.returned v∧
   z.ownsRow w.heap.size 5 1 v (n+s) (bv l++bv (beN s u))∧Bw' w z:=by
 obtain⟨q,d,h,k,p⟩:=info_parts Fw;have O:=kp y; clear y;go_enter func201,ntmps201;go_wp2_with (at_make; refine wpList_make_own _ rfl _ _ 78 rfl w.heap.size 5 q (.int .u8 0) 1 pG d h k .i64 .i64 _ (n+s) rfl rfl ?_ ?_ ?_ ?_ ?_)
 .omega
 .rw[p]; omega
 .unfold maxLen; omega
 .exact aD _
 intro N x G;have b:Bw' w N:=(aL _ _).grown G (aD _) (by simp);have M:=L.below b (aD _);go_wp2_with (at_builtin; refine oJ _ rfl (.tmp 13) (.tmp 14) _ rfl w.heap.size 5 q (.int .u8 0) 1 1 pG d h k p rfl (by omega) _ 0 [] x rfl w.heap.size A n c (bv l) M rfl ?_ (Oz l) ?_ ?_ b.size ?_)
 .rw[lB]; omega
 .unfold maxLen; omega
 .omega
 intro V X J H;have E:=b.trans (uO x H b.size);go_wp2_with fail
 go_loopw [7,8] (fun v i wr=>∃j:Nat,j≤s∧i=.i ((s:Int)-1-j)∧wr.ownsRow w.heap.size 5 1 v (n+j) (bv l++bv (beP s u j))∧Bw' w wr) (fun _ i _=>(intOf i+1).toNat)
 case atStart=>exact⟨0,by omega,by simp,by simpa [beP,bv] using J,E⟩
 case round=>
  obtain⟨j,P,rfl,g,a⟩:=hrel
  by_cases R:j<s
  .obtain⟨m,f⟩:∃m:Nat,(s:Int)-1-j=m:=⟨s-1-j,by omega⟩
   have r:s-1-j=m:=by omega
   rw[f];have S:m<8:=by omega
   have B:=kp f; clear f;have C:=kp r; clear r;go_wp2_with (at_builtin; refine Pa wr rfl (.tmp 22) (.tmp 28) _ rfl w.heap.size 5 q (.int .u8 0) 1 pG d h k p rfl u7 (n+j) _ g rfl _ rfl rfl ?_ ?_ a.size ?_)
   .unfold maxLen; omega
   .omega
   intro W Y K I;have F:=a.trans (uO g I a.size);go_wp2_with fail;go_roundw
   case rel=>
    refine⟨j+1,by omega,uM (by have:=B.o; omega),?_,F⟩;rw[Pn,C.o];have D:((u / 2 ^ (8*m) % 256:Nat):Int)=(u:Int) / 2 ^ (8*m) % 256:=by simp
    rw[D];exact K
   case measure=>simp[intOf]
  .obtain rfl:j=s:=by omega
   have e:(j:Int)-1-j= -1:=by omega
   rw[e];go_wp2_with fail;go_ret;exact⟨_,rfl,g,a⟩
theorem Po(A:Option Addr)(n c:Nat)(l:List UInt8)(u:Nat)(w:World)(h:Rd w w.heap.size A (bv l))(d:l.length=n)(f:n≤1099511627776)(i:u≤2147483647):
  Calls prog 202 #[.slice A n c,.i u] w fun e a=>∃v,e=.returned (.tuple #[v,.i 0])∧
   a.ownsRow w.heap.size 5 1 v (n+4) (bv l++bv (beN 4 u))∧Bw' w a:=by
 go_enter func202,ntmps202;go_wp2_with fail;refine (Bg A n c l u 4 w h d f (by omega) (by omega)).mono ?_;rintro e j ⟨v,rfl,g,b⟩;go_wp2_with fail;go_ret2;exact⟨v,rfl,g,b⟩
theorem Pp(A:Option Addr)(n c:Nat)(l:List UInt8)(s:ByteArray)(w:World)(k:Rd w w.heap.size A (bv l))(h:l.length=n)(i:n≤1099511627776)(x:s.size≤65536):
  Calls prog 147 #[.slice A n c,.string s] w fun e d=>∃v,e=.returned (.tuple #[v,.i 0])∧
   d.ownsRow w.heap.size 5 1 v (n+4+s.size) (bv l++bv (beN 4 s.size)++bv s.data.toList)∧Bw' w d:=by
 obtain⟨q,g,m,o,p⟩:=info_parts Fw;go_enter func147,ntmps147;go_wp2_with fail;refine (Bg A n c l s.size 4 w k h i (by omega) (by omega)).mono ?_;rintro e y ⟨v,rfl,b,a⟩;go_wp2_with (at_builtin; refine Lib.wpList_append_own_string _ rfl (.tmp 13) (.tmp 14) _ _ rfl w.heap.size 5 q pG oG g m o p v (n+4) _ rfl b s rfl ?_ ?_ a.size ?_)
 .unfold maxLen; omega
 .omega
 intro r z j f _;go_wp2_with fail;go_ret2;exact⟨r,rfl,by rw[cR]; exact j,a.trans (uO b f a.size)⟩
def kP(n:Int):Nat:=(IntKind.u64.wrap n).toNat
theorem Bh(n:Int):IntKind.u64.wrap n=(kP n:Int):=by
 unfold kP;have:IntKind.u64.wrap n=n % 18446744073709551616:=by simp[IntKind.wrap,IntKind.bits,IntKind.signed]
 rw[this]; omega
theorem Fx(n:Int):kP n<18446744073709551616:=by
 have:IntKind.u64.wrap n=n % 18446744073709551616:=by simp[IntKind.wrap,IntKind.bits,IntKind.signed]
 unfold kP;rw[this]; omega
theorem Pq(A:Option Addr)(n c:Nat)(l:List UInt8)(u:Int)(w:World)(h:Rd w w.heap.size A (bv l))(d:l.length=n)(f:n≤1099511627776):
  Calls prog 203 #[.slice A n c,.i u] w fun e a=>∃v,e=.returned v∧
   a.ownsRow w.heap.size 5 1 v (n+8) (bv l++bv (beN 8 (kP u)))∧Bw' w a:=by
 have i:=Bh u;go_enter func203,ntmps203;go_wp2_with fail;refine (Bg A n c l (kP u) 8 w h d f (Fx u) (by omega)).mono ?_;rintro e j ⟨v,rfl,g,b⟩;go_wp2_with fail;go_ret;exact⟨v,rfl,g,b⟩
def beV(l:List UInt8):Nat:=l.foldl (fun u c=>u*256+c.toNat) 0
theorem Bi(l:List UInt8)(c:UInt8):beV (l++[c])=beV l*256+c.toNat:=by simp[beV]
theorem wY(l:List UInt8):beV l<256 ^ l.length:=by
 suffices h:∀(m:List UInt8),beV m.reverse<256 ^ m.length by
  have:=h l.reverse;simpa using this
 intro m
 induction m with
 |nil=>simp[beV]
 |cons c m a=>
  rw[List.reverse_cons,Bi,eV,wL];have:=c.toNat_lt;omega
theorem Fy(l:List UInt8)(h:l.length≤8):beV l<18446744073709551616:=
 eA (wY l) (by
  have:=oX (n:=256) (by omega) h;omega)
theorem Fz(l:List UInt8)(h:l.length≤7):beV l<72057594037927936:=
 eA (wY l) (by
  have:=oX (n:=256) (by omega) h;omega)
theorem Bj(l:List UInt8)(h:l.length≤4):beV l<4294967296:=
 eA (wY l) (by
  have:=oX (n:=256) (by omega) h;omega)
theorem Pr(y q:Nat)(c:y<72057594037927936)(b:q<2 ^ 8):bits .or .u64 ((y:Int)*256) (q:Int)=((y*256+q:Nat):Int):=by
 have h:=u64_or_nat (y*256) q (by omega) (by omega);have a:=Nat.shiftLeft_add_eq_or_of_lt b y;rw[Nat.shiftLeft_eq]at a;rw[show y*256+q=y*256|||q from a];have e:((y*256:Nat):Int)=(y:Int)*256:=by omega
 rw[e]at h;exact h
def fO(w:World)(g:Nat)(l:List UInt8):Prop:=
 ∃A n c,w.heap[g]? =some (.cells #[.slice A n c] 171 (0,0))∧Rd w g A (bv l)∧l.length=n∧n≤c∧c≤maxLen
theorem fO.lt{w:World}{g:Nat}{l:List UInt8}(h:fO w g l):g<w.heap.size:=by
 obtain⟨A,n,c,h,_⟩:=h;exact (fH.1 h).1
theorem uU{w:World}{g:Nat}{v:Value}{t:TypeId}(h:w.heap[g]? =some (.cells #[v] t (0,0))):w.cell? ⟨g,0,none⟩=some v:=by
 rw[cell_of_row w g 0 _ _ _ h]; rfl
theorem Ps{w:World}{g:Nat}{v:Value}{t:TypeId}(h:w.heap[g]? =some (.cells #[v] t (0,0))):w.frozen? ⟨g,0,none⟩=false:=frozen_of_row w g 0 _ _ h
theorem fO.keep{w i:World}{g:Nat}{l:List UInt8}(h:fO w g l){a:Option Nat}(d:w.grownBy i a)(o:a≠some g)(p:∀b,a=some b→g≤b):fO i g l:=by
 have f:=h.lt;obtain⟨A,n,c,j,k,m⟩:=h;refine⟨A,n,c,by rw[d.block g f (fun e=>o e.symm)]; exact j,k.grown d (dY f) p,m⟩
theorem fO.below{w d:World}{g:Nat}{l:List UInt8}(h:fO w g l)(a:Bw' w d):fO d g l:=by
 have b:=h.lt;obtain⟨A,n,c,e,f,i⟩:=h;exact⟨A,n,c,by rw[a.block g b]; exact e,f.below a (dY b),i⟩
theorem Ga(A:Option Addr)(n c:Nat)(l:List UInt8)(w:World)(d:Rd w w.heap.size A (bv l))(b:l.length=n)(h:n≤c)(i:c≤maxLen):
  Calls prog 116 #[.slice A n c] w fun e f=>∃g,e=.returned (.pointer (some ⟨g,0,none⟩))∧w.heap.size≤g∧fO f g l∧Bw' w f:=by
 have H:=k'2 d b; clear d b;go_enter func116,ntmps116;go_wp2_with fail;go_ret;refine⟨w.heap.size,rfl,aD _,⟨A,n,c,heap_alloc_new w _,H.a.alloc (aD _) _,H.B,h,i⟩,ba' _ _⟩
theorem Pu(g:Nat)(l:List UInt8)(w:World)(h:fO w g l):
  Calls prog 117 #[.pointer (some ⟨g,0,none⟩)] w fun e i=>e=.returned (.i l.length)∧w=i:=by
 obtain⟨A,n,c,a,f,b,j,m⟩:=h;have k:=uU a;have d:=kp b; clear b f a;go_enter func117,ntmps117;go_wp2_with fail;go_ret;exact⟨by rw[d.o]; rfl,rfl⟩
theorem wZ(g:Nat)(l:List UInt8)(k:Nat)(w:World)(h:fO w g l)(E:k≤l.length):
  Calls prog 121 #[.pointer (some ⟨g,0,none⟩),.i k] w fun e r=>e=.returned (.tuple #[])∧fO r g (l.drop k)∧w.grownBy r (some g):=by
 obtain⟨A,n,c,b,q,p,z,G⟩:=h;have C:=uU b;have D:=Ps b;have F:k≤n:=by omega
 have m:=q.cut (k:=k) (cap:=c) (by rw[lB]; omega);obtain⟨d,x⟩:∃d,(if c=k then A else A.map (·.add k))=d:=⟨_,rfl⟩
 have s:=kp m;have f:=k'2 b p; clear p q b m;go_enter func121,ntmps121;go_wp2_with fail;go_end0;refine⟨rfl,⟨d,n-k,c-k,heap_setCell_same w g 0 _ _ _ f.a,?_,by rw[dX,f.B],by omega,by omega⟩,⟨rfl,rfl,rfl,by simp,fun j _ y=>heap_setCell_other w ⟨g,0,none⟩ j _ (fun e=>y (by simp[e]))⟩⟩;have i:=s.o;rw[x,uN]at i;exact i.setCell (aD _) _
theorem Gb(g:Nat)(l:List UInt8)(k:Nat)(w:World)(h:fO w g l)(i:l.length<k):
  Calls prog 170 #[.pointer (some ⟨g,0,none⟩),.i k] w fun e b=>e=.returned (.tuple #[.int .u64 0,.i 10])∧w=b:=by
 obtain⟨A,n,c,a,p,m,d,o⟩:=h;have f:=uU a;have j:n<k:=by omega
 go_enter func170,ntmps170;go_wp2_with fail;go_ret2;exact⟨rfl,rfl⟩
theorem Gc(g:Nat)(l:List UInt8)(k:Nat)(w:World)(h:fO w g l)(J:k≤l.length)(F:k≤8):
  Calls prog 170 #[.pointer (some ⟨g,0,none⟩),.i k] w fun e E=>e=.returned (.tuple #[.int .u64 (beV (l.take k)),.i 0])∧w=E:=by
 obtain⟨A,n,c,r,C,x,G,M⟩:=h;have H:=uU r;have K:k≤n:=by omega
 have j:=k'2 C x;go_enter func170,ntmps170;go_wp2_with fail
 go_loop [6,8,25] (fun v o i=>∃t:Nat,t≤k∧i=.i t∧v=.int .u64 (beV (l.take t))) (fun _ _ i=>k-(intOf i).toNat)
 case atStart=>exact⟨0,by omega,rfl,rfl⟩
 case round=>
  obtain⟨t,N,rfl,rfl⟩:=hrel
  by_cases L:t<k
  .have f:t<l.length:=by have:=j.B; omega
   obtain⟨b,O,rfl,_,s⟩:=j.a.at_ (k:=t) (by rw[lB]; exact f);have I:=s t _ (wU l t f);have d:=Bi (l.take t) l[t];rw[←cV f]at d;have p:=kp d; clear d;have D:=Fz (l.take t) (by simp; omega);have z:=(l[t]).toNat_lt;generalize beV (l.take t)=y at *;generalize (l[t]).toNat=q at *;have m:=kp (Pr y q D z);go_wp2_with fail
   go_round
   case rel=>exact⟨t+1,by omega,by go_num,by rw[p.o,m.o]⟩
   case measure=>simp[intOf]; omega
  .obtain rfl:t=k:=by omega
   go_wp2_with fail;go_ret2;exact⟨rfl,rfl⟩
def num(l:List UInt8):Int×Nat×Int:=
 if l.length<4 then (0,0,10) else if 2147483647<beV (l.take 4) then (0,0,11) else (beV (l.take 4),4,0)
def aA(l:List UInt8):Int×Nat×Int:=
 if l.length<8 then (0,0,10) else (wrap64 (beV (l.take 8)),8,0)
def dJ(l:List UInt8):ByteArray×Nat×Int:=
 if l.length<4 then (⟨#[]⟩,0,10) else if 65536<beV (l.take 4) then (⟨#[]⟩,0,11) else if l.length-4<beV (l.take 4) then (⟨#[]⟩,0,10) else
  (⟨((l.drop 4).take (beV (l.take 4))).toArray⟩,4+beV (l.take 4),0)
theorem Gd(g:Nat)(l:List UInt8)(w:World)(h:fO w g l):
  Calls prog 120 #[.pointer (some ⟨g,0,none⟩)] w fun e b=>e=.returned (.tuple #[.i (num l).1,.i (num l).2.2])∧w=b:=by
 unfold num
 by_cases a:l.length<4
 .rw[aE a];go_enter func120,ntmps120;go_wp2_with fail;refine (Gb g l 4 w h a).mono ?_;rintro e b ⟨rfl,rfl⟩;go_wp2_with fail;go_ret2;exact⟨rfl,rfl⟩
 .rw[aC a];have f:beV (l.take 4)<4294967296:=Bj _ (by simp; omega);have d:=kp (show 4≤l.length by omega); clear a;have H:=kp (Gc g l 4 w h d.o (by omega));generalize beV (l.take 4)=y at *
  by_cases c:2147483647<y
  .rw[aE c];go_enter func120,ntmps120;go_wp2_with fail;refine Calls.mono H.o ?_;rintro e b ⟨rfl,rfl⟩;go_wp2_with fail;go_ret2;exact⟨rfl,rfl⟩
  .rw[aC c];have i:decide (2147483647<(y:Int))=false:=by simp; omega
   go_enter func120,ntmps120;go_wp2_with fail;refine Calls.mono H.o ?_;rintro e b ⟨rfl,rfl⟩;go_wp2_with fail;go_ret2;exact⟨rfl,rfl⟩
def Pv(g:Nat):Value:=.pointer (some ⟨g,0,none⟩)
theorem uV(l:List UInt8)(h:(num l).2.2=0):(num l).2.1=4∧4≤l.length:=by
 unfold num at h ⊢
 split at h
 .simp at h
 .rename_i a
  split at h
  .simp at h
  .rename_i b;rw[aC a,aC b];exact⟨rfl,by omega⟩
theorem Pw(l:List UInt8)(h:¬(num l).2.2=0):(num l).2.1=0:=by
 unfold num at h ⊢
 split
 .rfl
 .rename_i a;rw[aC a]at h
  split
  .rfl
  .rename_i b;rw[aC b]at h;simp at h
theorem Ge(g:Nat)(l:List UInt8)(w:World)(h:fO w g l):
  Calls prog 123 #[.pointer (some ⟨g,0,none⟩)] w fun e a=>e=.returned (.tuple #[.i (num l).1,.i (num l).2.2])∧fO a g (l.drop (num l).2.1)∧w.grownBy a (some g):=by
 have i:=kp (Gd g l w h)
 by_cases c:(num l).2.2=0
 .obtain⟨f,b⟩:=uV l c;rw[f];rw[c]at i ⊢;have d:=kp (wZ g l 4 w h b);generalize (num l).1=v at *;go_enter func123,ntmps123;go_wp2_with fail;refine Calls.mono i.o ?_;rintro e a ⟨rfl,rfl⟩;go_wp2_with fail;refine Calls.mono d.o ?_;rintro e a ⟨rfl,b,j⟩;have k:=k'2 b j; clear b j;go_wp2_with fail;go_ret2;exact⟨rfl,k.o⟩
 .have f:=Pw l c;rw[f];have n:((num l).2.2==0)=false:=by simpa using c
  generalize (num l).1=v at *;generalize (num l).2.2=m at *;have d:=kp h; clear h;go_enter func123,ntmps123;go_wp2_with fail;refine Calls.mono i.o ?_;rintro e a ⟨rfl,rfl⟩;go_wp2_with fail;go_ret2;exact⟨rfl,d.o,World.grownBy.refl _ _⟩
theorem Gf(g:Nat)(l:List UInt8)(w:World)(h:fO w g l):
  Calls prog 171 #[.pointer (some ⟨g,0,none⟩)] w fun e a=>e=.returned (.tuple #[.i (aA l).1,.i (aA l).2.2])∧fO a g (l.drop (aA l).2.1)∧w.grownBy a (some g):=by
 unfold aA
 by_cases b:l.length<8
 .rw[aE b];have j:=kp h;go_enter func171,ntmps171;go_wp2_with fail;refine (Gb g l 8 w h b).mono ?_;rintro e a ⟨rfl,rfl⟩;go_wp2_with fail;go_ret2;exact⟨rfl,j.o,World.grownBy.refl _ _⟩
 .rw[aC b];have m:beV (l.take 8)<18446744073709551616:=Fy _ (by simp; omega);have c:=kp (show 8≤l.length by omega); clear b;have H:=kp (Gc g l 8 w h c.o (by omega));have k:=kp (wZ g l 8 w h c.o);generalize beV (l.take 8)=y at *;go_enter func171,ntmps171;go_wp2_with fail;refine Calls.mono H.o ?_;rintro e a ⟨rfl,rfl⟩;go_wp2_with fail;refine Calls.mono k.o ?_;rintro e a ⟨rfl,d,f⟩;have i:=k'2 d f; clear d f;go_wp2_with fail;go_ret2;exact⟨rfl,i.o⟩
theorem Px(g:Nat)(l:List UInt8)(w:World)(h:fO w g l):
  Calls prog 72 #[.pointer (some ⟨g,0,none⟩)] w fun e d=>e=.returned (.tuple #[.string (dJ l).1,.i (dJ l).2.2])∧fO d g (l.drop (dJ l).2.1)∧w.grownBy d (some g):=by
 have b:=kp (Gd g l w h);have f:=kp h;unfold dJ;unfold num at b
 by_cases i:l.length<4
 .rw[aE i];rw[aE i]at b;go_enter func72,ntmps72;go_wp2_with fail;refine Calls.mono b.o ?_;rintro e d ⟨rfl,rfl⟩;go_wp2_with fail;go_ret2;exact⟨rfl,f.o,World.grownBy.refl _ _⟩
 .rw[aC i];rw[aC i]at b;have p:=kp (show 4≤l.length by omega);have I:beV (l.take 4)<4294967296:=Bj _ (by simp; omega);obtain⟨y,O⟩:=nm' (beV (l.take 4));rw[O]at b I ⊢
  by_cases r:2147483647<y
  .rw[aE r]at b;rw[aE (by omega)];go_enter func72,ntmps72;go_wp2_with fail;refine Calls.mono b.o ?_;rintro e d ⟨rfl,rfl⟩;go_wp2_with fail;go_ret2;exact⟨rfl,f.o,World.grownBy.refl _ _⟩
  rw[aC r]at b
  by_cases s:65536<y
  .rw[aE s];go_enter func72,ntmps72;go_wp2_with fail;refine Calls.mono b.o ?_;rintro e d ⟨rfl,rfl⟩;go_wp2_with fail;go_ret2;exact⟨rfl,f.o,World.grownBy.refl _ _⟩
  rw[aC s];have z:=kp (Pu g l w h);have W:l.length≤9223372036854775807:=by
   obtain⟨A,n,c,T,k,q,m,J⟩:=h;unfold maxLen at J;omega
  by_cases x:l.length-4<y
  .rw[aE x];have m:=p.o;have L:((l.length:Int)-4<(y:Int)):=by omega
   go_enter func72,ntmps72;go_wp2_with fail;refine Calls.mono b.o ?_;rintro e d ⟨rfl,rfl⟩;go_wp2_with fail;refine Calls.mono z.o ?_;rintro e d ⟨rfl,rfl⟩;go_wp2_with fail;go_ret2;exact⟨rfl,f.o,World.grownBy.refl _ _⟩
  .rw[aC x];have m:=p.o;have L:¬((l.length:Int)-4<(y:Int)):=by omega
   have M:=kp (wZ g l 4 w h m);have X:y≤65536:=by omega
   have j:=kp (show y≤(l.drop 4).length by rw[dX]; omega);go_enter func72,ntmps72;go_wp2_with fail;refine Calls.mono b.o ?_;rintro e d ⟨rfl,rfl⟩;go_wp2_with fail;refine Calls.mono z.o ?_;rintro e d ⟨rfl,rfl⟩;go_wp2_with fail;refine Calls.mono M.o ?_;rintro e E ⟨rfl,k,q⟩;have N:=kp (wZ g (l.drop 4) y E k j.o);obtain⟨A,n,c,G,H,Q,R,S⟩:=k;have U:=uU G;have Y:y≤n:=by have:=j.o; omega
   have V:=sY (P:=prog) E 171 9 5 underlying171 sX oG g A y c ((l.drop 4).take y) (by rw[←Fk]; exact H.take y) (by rw[cZ]; have:=j.o; omega);have F:=kp q;go_wp2_with fail;refine Calls.mono N.o ?_;rintro e Z ⟨rfl,C,D⟩;have K:=k'2 C D; clear C D;go_wp2_with fail;go_ret2;refine⟨rfl,?_,Fp F.o K.B⟩;have:=K.a;rw[List.drop_drop]at this;exact this
theorem Py(a b c d:UInt8):beV [a,b,c,d]=((a.toNat*256+b.toNat)*256+c.toNat)*256+d.toNat:=by simp[beV]
theorem Pz:∀l:List UInt8,¬l.length<4→∃a b c d r,l=a::b::c::d::r
 |[],h=>absurd (by simp) h
 |[_],h=>absurd (by simp) h
 |[_,_],h=>absurd (by simp) h
 |[_,_,_],h=>absurd (by simp) h
 |a::b::c::d::r,_=>⟨a,b,c,d,r,rfl⟩
theorem Bm(A:Option Addr)(n c B:Nat)(l:List UInt8)(w:World)(C:Rd w B A (bv l))(y:l.length=n)(J:n≤9223372036854775807):
  Calls prog 126 #[.slice A n c] w fun e E=>e=.returned (.tuple #[.i (num l).1,.i (num l).2.1,.i (num l).2.2])∧∃m,E=w.drewN m:=by
 unfold num
 by_cases i:l.length<4
 .rw[aE i];have z:n<4:=by omega
  go_enter func126,ntmps126;go_wp2_with fail
  go_ret3
  exact⟨rfl,0,rfl⟩
 .rw[aC i];obtain⟨a,b,c4,d,D,rfl⟩:=Pz l i;have z:¬n<4:=by simp at y; omega
  obtain⟨f,h,rfl,_,g⟩:=C.at_ (k:=0) (by simp[bv]);have L:w.cell? ⟨f,h,none⟩=some (.int .u8 (a.toNat:Int)):=g 0 _ rfl;have M:w.cell? ⟨f,h+1,none⟩=some (.int .u8 (b.toNat:Int)):=g 1 _ rfl;have N:w.cell? ⟨f,h+2,none⟩=some (.int .u8 (c4.toNat:Int)):=g 2 _ rfl;have O:w.cell? ⟨f,h+3,none⟩=some (.int .u8 (d.toNat:Int)):=g 3 _ rfl;rw[show (a::b::c4::d::D).take 4=[a,b,c4,d] from rfl,Py];have F:=a.toNat_lt;have G:=b.toNat_lt;have H:=c4.toNat_lt;have I:=d.toNat_lt;generalize a.toNat=j at *;generalize b.toNat=q at *;generalize c4.toNat=r at *;generalize d.toNat=s at *
  by_cases K:127<j
  .rw[aE (by omega)];go_enter func126,ntmps126;go_wp2_with fail
   go_ret3
   exact⟨rfl,0,rfl⟩
  .rw[aC (by omega)];go_enter func126,ntmps126;go_wp2_with fail
   go_quiet (fail)
   have p:(16777216*(j:Int)+65536*q+256*r+s)=((((j*256+q)*256+r)*256+s:Nat):Int):=by omega
   have x:=kp p; clear p;go_wp2_with fail
   go_ret3
   exact⟨by rw[←x.o]; rfl,_,rfl⟩
theorem Gg(A:Option Addr)(n c B:Nat)(l:List UInt8)(w:World)(m:Rd w B A (bv l))(j:l.length=n)(D:n≤9223372036854775807):
  Calls prog 131 #[.slice A n c] w fun e x=>e=.returned (.tuple #[.i (aA l).1,.i (aA l).2.1,.i (aA l).2.2])∧w=x:=by
 unfold aA
 by_cases d:l.length<8
 .rw[aE d];have s:n<8:=by omega
  go_enter func131,ntmps131;go_wp2_with fail
  go_ret3
  exact⟨rfl,rfl⟩
 .rw[aC d];have s:¬n<8:=by omega
  have h:=k'2 m j; clear m j d;go_enter func131,ntmps131;go_wp2_with fail
  go_loop [5,6] (fun v i=>∃t:Nat,t≤8∧i=.i t∧v=.int .u64 (beV (l.take t))) (fun _ i=>8-(intOf i).toNat)
  case atStart=>exact⟨0,by omega,rfl,rfl⟩
  case round=>
   obtain⟨t,F,rfl,rfl⟩:=hrel
   by_cases C:t<8
   .have g:t<l.length:=by have:=h.B; omega
    obtain⟨b,H,rfl,_,r⟩:=h.a.at_ (k:=t) (by rw[lB]; exact g);have z:=r t _ (wU l t g);have f:=Bi (l.take t) l[t];rw[←cV g]at f;have p:=kp f; clear f;have G:=Fz (l.take t) (by simp; omega);have E:=(l[t]).toNat_lt;generalize beV (l.take t)=y at *;generalize (l[t]).toNat=q at *;go_wp2_with fail
    go_round
    case rel=>exact⟨t+1,by omega,by go_num,by rw[p.o]; exact uM (by omega)⟩
    case measure=>simp[intOf]; omega
   .obtain rfl:t=8:=by omega
    go_wp2_with fail
    go_ret3
    exact⟨rfl,rfl⟩
theorem Qb(A:Option Addr)(n c B:Nat)(l:List UInt8)(w:World)(g:Rd w B A (bv l))(C:l.length=n)(I:n≤c)(G:c≤9223372036854775807):
  Calls prog 82 #[.slice A n c] w fun e b=>e=.returned (.tuple #[.string (dJ l).1,.i (dJ l).2.1,.i (dJ l).2.2])∧∃m,b=w.drewN m:=by
 have a:=kp (Bm A n c B l w g C (by omega));unfold dJ;unfold num at a
 by_cases f:l.length<4
 .rw[aE f];rw[aE f]at a;go_enter func82,wN;go_wp2_with fail;refine Calls.mono a.o ?_;rintro e b ⟨rfl,m,rfl⟩;go_wp2_with fail
  go_ret3
  exact⟨rfl,m,rfl⟩
 .rw[aC f];rw[aC f]at a;have x:beV (l.take 4)<4294967296:=Bj _ (by simp; omega);obtain⟨y,D⟩:=nm' (beV (l.take 4));rw[D]at a x ⊢
  by_cases i:2147483647<y
  .rw[aE i]at a;rw[aE (by omega)];go_enter func82,wN;go_wp2_with fail;refine Calls.mono a.o ?_;rintro e b ⟨rfl,m,rfl⟩;go_wp2_with fail
   go_ret3
   exact⟨rfl,m,rfl⟩
  rw[aC i]at a
  by_cases j:65536<y
  .rw[aE j];go_enter func82,wN;go_wp2_with fail;refine Calls.mono a.o ?_;rintro e b ⟨rfl,m,rfl⟩;go_wp2_with fail
   go_ret3
   exact⟨rfl,m,rfl⟩
  rw[aC j];have H:4≤n:=by omega
  by_cases p:l.length-4<y
  .rw[aE p];have z:((n:Int)-4<(y:Int)):=by omega
   go_enter func82,wN;go_wp2_with fail;refine Calls.mono a.o ?_;rintro e b ⟨rfl,m,rfl⟩;go_wp2_with fail
   go_ret3
   exact⟨rfl,m,rfl⟩
  .rw[aC p];have z:¬((n:Int)-4<(y:Int)):=by omega
   have J:y≤65536:=by omega
   obtain⟨h,s,rfl,E,F⟩:=g.at_ (k:=0) (by rw[lB]; omega)
   by_cases q:c=4
   .subst q;obtain rfl:n=4:=by omega
    obtain rfl:y=0:=by omega
    have d:=fun m=>sY (P:=prog) (w.drewN m) 78 9 5 pG sX oG B (some ⟨h,s,none⟩) 0 0 ((l.drop 4).take 0) Rd.nil rfl;go_enter func82,wN;go_wp2_with fail;refine Calls.mono a.o ?_;rintro e b ⟨rfl,m,rfl⟩;have d:=d m;go_wp2_with fail
    go_ret3
    exact⟨rfl,m,rfl⟩
   .have r:=g.cut (k:=4) (cap:=c) (by rw[lB]; omega);rw[aC q,uN,kL,Addr.add_lit]at r;have d:=fun m=>sY (P:=prog) (w.drewN m) 78 9 5 pG sX oG B (some ⟨h,s+4,none⟩) y (c-4) ((l.drop 4).take y) (by rw[←Fk]; exact (r.take y).drewN m) (by rw[cZ,dX]; omega);have K:4+y≤c:=by omega
    go_enter func82,wN;go_wp2_with fail;refine Calls.mono a.o ?_;rintro e b ⟨rfl,m,rfl⟩;have d:=d m;go_wp2_with fail
    go_ret3
    exact⟨rfl,m,rfl⟩
theorem xA(k u:Nat):beN (k+1) u=UInt8.ofNat (u / 256 ^ k)::beN k u:=by
 simp only[beN,beP,List.range_succ_eq_map,kM,pC]
 congr 1
 .simp[Nat.pow_mul]
 .apply List.map_congr_left;intro t _;simp only[Function.comp]
  congr 4
  omega
theorem Qc(l:List UInt8):∀a:Nat,l.foldl (fun u c=>u*256+c.toNat) a=a*256 ^ l.length+beV l:=by
 induction l with
 |nil=>intro a; simp[beV]
 |cons c l b=>
  intro a;simp only[List.foldl_cons,eV,beV];rw[b,b (0*256+c.toNat),wL];simp only[gE,qR,hY,Nat.mul_assoc,Ah 256,oE]
theorem Gh(c:UInt8)(l:List UInt8):beV (c::l)=c.toNat*256 ^ l.length+beV l:=by
 have:=Qc l c.toNat;simp only[beV,List.foldl_cons,qR,hY];exact this
theorem jZ(k u:Nat):(beN k u).length=k:=by simp[beN,beP]
theorem Bn(k u:Nat):beV (beN k u)=u % 256 ^ k:=by
 induction k with
 |zero=>simp[beN,beP,beV,Nat.mod_one]
 |succ k a=>
  rw[xA,Gh,a,jZ,wL,Nat.mod_mul];simp only[UInt8.toNat_ofNat'];rw[Ah,Nat.add_comm]
theorem Qe(k:Nat):∀(j c v:Nat),k≤j→beN k (c*256 ^ j+v)=beN k v:=by
 induction k with
 |zero=>intros; rfl
 |succ k b=>
  intro j c v h;rw[xA,xA,b j c v (by omega)]
  congr 1
  obtain⟨d,rfl⟩:∃d,j=d+k+1:=⟨j-k-1,by omega⟩
  have e:c*256 ^ (d+k+1)=(c*256 ^ d*256)*256 ^ k:=by
   rw[wL,Nat.pow_add];simp only[Nat.mul_assoc,Ah (256 ^ k) 256]
  have a:0<256 ^ k:=Nat.pos_of_ne_zero (by simp);rw[e,Nat.add_comm,Nat.add_mul_div_right _ _ a];apply UInt8.toNat_inj.1;simp
theorem Bo(l:List UInt8):beN l.length (beV l)=l:=by
 induction l with
 |nil=>rfl
 |cons c l b=>
  rw[eV,xA,Gh,Qe l.length l.length _ _ (aD _),b]
  congr 1
  have a:0<256 ^ l.length:=Nat.pos_of_ne_zero (by simp);rw[Nat.add_comm,Nat.add_mul_div_right _ _ a,Nat.div_eq_of_lt (wY l)];simp
theorem Qf(u:Nat)(m:List UInt8)(a:u≤2147483647):num (beN 4 u++m)=((u:Int),4,0):=by
 unfold num;have e:(beN 4 u++m).take 4=beN 4 u:=wD (jZ 4 u);rw[aC (by rw[bB,jZ]; omega),e,Bn,Nat.mod_eq_of_lt (by omega),aC (by omega)]
theorem Qg(i:Int)(a: -9223372036854775808≤i)(b:i≤9223372036854775807):wrap64 ((kP i:Nat):Int)=i:=by
 rw[←Bh];have:IntKind.u64.wrap i=i % 18446744073709551616:=by simp[IntKind.wrap,IntKind.bits,IntKind.signed]
 rw[this];unfold wrap64;omega
theorem Qh(i:Int)(m:List UInt8)(a: -9223372036854775808≤i)(b:i≤9223372036854775807):aA (beN 8 (kP i)++m)=(i,8,0):=by
 unfold aA;have e:(beN 8 (kP i)++m).take 8=beN 8 (kP i):=wD (jZ 8 _);have:=Fx i;rw[aC (by rw[bB,jZ]; omega),e,Bn,Nat.mod_eq_of_lt (by omega),Qg i a b]
theorem Qi(s:ByteArray)(m:List UInt8)(d:s.size≤65536):dJ (beN 4 s.size++(s.data.toList++m))=(s,4+s.size,0):=by
 unfold dJ;have e:(beN 4 s.size++(s.data.toList++m)).take 4=beN 4 s.size:=wD (jZ 4 _);have b:(beN 4 s.size++(s.data.toList++m)).drop 4=s.data.toList++m:=wG (jZ 4 _);have a:s.data.toList.length=s.size:=by simp
 have c:(beN 4 s.size++(s.data.toList++m)).length=4+(s.size+m.length):=by rw[bB,bB,jZ,a]
 rw[e,Bn,Nat.mod_eq_of_lt (by omega),aC (by omega),aC (by omega),aC (by omega),b,wD a]
theorem Gi(l:List UInt8)(h:(num l).2.2=0):(num l).2.1=4∧4≤l.length∧∃u:Nat,u≤2147483647∧(num l).1=u∧beN 4 u=l.take 4:=by
 obtain⟨c,a⟩:=uV l h;refine⟨c,a,beV (l.take 4),?_⟩;have b:=Bo (l.take 4);rw[cZ,oC a]at b;unfold num at h ⊢;rw[aC (by omega)]at h ⊢
 split at h
 .simp at h
 .rename_i d;rw[aC d];exact⟨by omega,rfl,b⟩
theorem Bp(l:List UInt8)(h:(aA l).2.2=0):(aA l).2.1=8∧8≤l.length∧beN 8 (kP (aA l).1)=l.take 8:=by
 unfold aA at h ⊢
 split at h
 .simp at h
 .rename_i c;rw[aC c];have a:8≤l.length:=by omega
  have b:=Bo (l.take 8);rw[cZ,oC a]at b;refine⟨rfl,a,?_⟩;have d:beV (l.take 8)<18446744073709551616:=Fy _ (by simp; omega);have:kP (wrap64 (beV (l.take 8)))=beV (l.take 8):=by
   have e:((kP (wrap64 (beV (l.take 8))):Nat):Int)=((beV (l.take 8):Nat):Int):=by
    rw[←Bh];have:∀i:Int,IntKind.u64.wrap i=i % 18446744073709551616:=by intro i; simp[IntKind.wrap,IntKind.bits,IntKind.signed]
    rw[this];unfold wrap64;omega
   omega
  rw[this];exact b
theorem Bq(l:List UInt8)(h:(dJ l).2.2=0):(dJ l).1.size≤65536∧(dJ l).2.1=4+(dJ l).1.size∧4+(dJ l).1.size≤l.length∧beN 4 (dJ l).1.size++(dJ l).1.data.toList=l.take (4+(dJ l).1.size):=by
 unfold dJ at h ⊢
 split at h
 .simp at h
 .rename_i b
  split at h
  .simp at h
  .rename_i c
   split at h
   .simp at h
   .rename_i d;rw[aC b,aC c,aC d];have a:=Bo (l.take 4);rw[cZ,oC (by omega)]at a;generalize beV (l.take 4)=y at *;have e:(⟨((l.drop 4).take y).toArray⟩:ByteArray).size=y:=by
     simp[ByteArray.size]; omega
    simp only[e];refine⟨by omega,by simp,by omega,?_⟩;rw[a,List.take_add]
end
section
theorem cJ:(∀(n b a:Int)(w:World),Calls prog 34 #[.i n,.i b,.i a] w fun e c=>e=.returned (.bool (aF n b a))∧c=w)∧(∀(n b a:Int)(w:World),Calls prog 42 #[.i n,.i b,.i a] w fun e c=>e=.returned (.bool (aF n b a))∧c=w)∧(∀(n b a:Int)(w:World),Calls prog 89 #[.i n,.i b,.i a] w fun e c=>e=.returned (.bool (aF n b a))∧c=w)∧(∀(n b a:Int)(w:World),Calls prog 135 #[.i n,.i b,.i a] w fun e c=>e=.returned (.bool (aF n b a))∧c=w)∧(∀(n b a:Int)(w:World),Calls prog 136 #[.i n,.i b,.i a] w fun e c=>e=.returned (.bool (aF n b a))∧c=w)∧(∀(n b a:Int)(w:World),Calls prog 150 #[.i n,.i b,.i a] w fun e c=>e=.returned (.bool (aF n b a))∧c=w)∧(∀(n b a:Int)(w:World),Calls prog 151 #[.i n,.i b,.i a] w fun e c=>e=.returned (.bool (aF n b a))∧c=w)∧(∀(n b a:Int)(w:World),Calls prog 191 #[.i n,.i b,.i a] w fun e c=>e=.returned (.bool (aF n b a))∧c=w)∧(∀(n b a:Int)(w:World),Calls prog 173 #[.i n,.i b,.i a] w fun e c=>e=.returned (.bool (aF n b a))∧c=w):=by
 refine⟨?q0,?q1,?q2,?q3,?q4,?q5,?q6,?q7,?q8⟩
 all_goals
  intro n b a w;unfold aF;rcases tB (decide (b≤n)) (decide (n≤a)) with⟨f,d⟩|⟨f,g,d⟩|⟨f,g,d⟩
  all_goals
   rw[d];clear d
   first |go_enter func34,ntmps34|go_enter func42,ntmps42|go_enter func89,ntmps89|go_enter func135,ntmps135|go_enter func136,ntmps136|go_enter func150,ntmps150|go_enter func151,ntmps151|go_enter func191,ntmps191|go_enter func173,ntmps173
   go_wp2_with fail;go_ret;exact⟨rfl,rfl⟩
theorem mL:(prog.info? 3).map (fun i=>(i.zero,i.size,i.bytes))=some (some (.i 0),1,8):=by kernel_rfl
theorem jA:(prog.info? 88).map (fun i=>(i.zero,i.size,i.bytes))=some (some (.agg #[.i 0,.i 0]),2,16):=by kernel_rfl
theorem rE:(prog.info? 86).map (fun i=>(i.zero,i.size,i.bytes))=some (some (.agg z'4a),4,32):=by kernel_rfl
theorem Hn:(prog.info? 92).map (fun i=>(i.zero,i.size,i.bytes))=some (some (.agg #[.i 0,.i 0]),2,16):=by kernel_rfl
theorem Ch:(prog.info? 46).map (fun i=>(i.zero,i.size,i.bytes))=some (some (.agg z'3a),11,88):=by kernel_rfl
theorem pS:(prog.info? 90).map (fun i=>(i.zero,i.size,i.bytes))=some (some (.agg z'5a),5,72):=by kernel_rfl
theorem Ho:(prog.info? 84).map (fun i=>(i.zero,i.size,i.bytes))=some (some (.agg z'6a),6,64):=by kernel_rfl
def eI{α:Type}(p:α→Bool):List α→Int
 |[]=> -1
 |x::l=>if p x=true then 0 else (if eI p l= -1 then -1 else eI p l+1)
theorem vB{α:Type}(p:α→Bool):∀(l:List α),(∀y∈l,p y=false)→eI p l= -1
 |[],_=>rfl
 |x::l,h=>by
  unfold eI;rw[aC (by rw[h x (by simp)]; simp),aE (vB p l fun y a=>h y (by simp[a]))]
theorem rF{α:Type}(p:α→Bool):∀(l:List α)(k:Nat)(b:k<l.length),p (l[k])=true→(∀y∈l.take k,p y=false)→eI p l=k
 |x::l,0,_,h,_=>by unfold eI; rw[aE (show p x=true from h)]; rfl
 |x::l,k+1,b,h,a=>by
  have d:=rF p l k (by simpa using b) h fun y c=>a y (by simp[c]);unfold eI;rw[aC (by rw[a x (by simp)]; simp),d,aC (by omega)];omega
theorem tI{α:Type}(p:α→Bool):∀(l:List α),decide (0≤eI p l)=l.any p
 |[]=>rfl
 |x::l=>by
  have a:=tI p l;unfold eI;rw[wK,←a]
  cases p x
  .by_cases h:eI p l= -1
   .simp[h]
   .have:eI p l= -1∨0≤eI p l:=by
     clear a h
     induction l with
     |nil=>exact .inl rfl
     |cons y l a=>
      unfold eI
      split
      .exact .inr (by omega)
      .split
       .exact .inl rfl
       .rcases a with h|h
        .contradiction
        .exact .inr (by omega)
    simp[h]; omega
  .simp
theorem Rl(a:Option Addr)(n c:Nat)(w:World):(binOp .eql 33 (.slice a n c) (.slice none 0 0)).run prog w=.ok (.bool a.isNone) w:=
 Lib.run_eql_slice_nil w _ _ a n c 0 0 lT
theorem Rm(a:Option Addr)(n c:Nat)(w:World):(binOp .eql 27 (.slice a n c) (.slice none 0 0)).run prog w=.ok (.bool a.isNone) w:=
 Lib.run_eql_slice_nil w _ _ a n c 0 0 fC
theorem Rn(a:Option Addr)(n c:Nat)(w:World):(binOp .eql 30 (.slice a n c) (.slice none 0 0)).run prog w=.ok (.bool a.isNone) w:=
 Lib.run_eql_slice_nil w _ _ a n c 0 0 kO
theorem Ro(a:Option Addr)(n c:Nat)(w:World):(binOp .eql 35 (.slice a n c) (.slice none 0 0)).run prog w=.ok (.bool a.isNone) w:=
 Lib.run_eql_slice_nil w _ _ a n c 0 0 Ff
theorem Rq(a:Option Addr)(n c:Nat)(w:World):(binOp .eql 22 (.slice a n c) (.slice none 0 0)).run prog w=.ok (.bool a.isNone) w:=
 Lib.run_eql_slice_nil w _ _ a n c 0 0 wO
theorem Rr(a:Option Addr)(n c:Nat)(w:World):(binOp .eql 25 (.slice a n c) (.slice none 0 0)).run prog w=.ok (.bool a.isNone) w:=
 Lib.run_eql_slice_nil w _ _ a n c 0 0 nE
theorem Ru(a:Option Addr)(n c:Nat)(w:World):(binOp .eql 34 (.slice a n c) (.slice none 0 0)).run prog w=.ok (.bool a.isNone) w:=
 Lib.run_eql_slice_nil w _ _ a n c 0 0 Fg
section
attribute [local go_sem] Rl Rm Rn Ro Rq Rr Ru
theorem fam'6:(∀(v:Value)(l:List Int)(B:Nat)(w:World)(h:Sl w B v i1 l)(hB:B≤w.heap.size)(hn:l.length≤1000000),Calls prog 79 #[v] w fun e w'=>∃v',e=.returned v'∧w'.ownsRow w.heap.size 3 1 v' l.length (aM i1 l)∧Bw' w w')∧(∀(v:Value)(l:List Bk)(B:Nat)(w:World)(h:Sl w B v Bk.cells l)(hB:B≤w.heap.size)(hn:l.length≤1000000),Calls prog 175 #[v] w fun e w'=>∃v',e=.returned v'∧w'.ownsRow w.heap.size 88 2 v' l.length (aM Bk.cells l)∧Bw' w w')∧(∀(v:Value)(l:List Rw)(B:Nat)(w:World)(h:Sl w B v Rw.cells l)(hB:B≤w.heap.size)(hn:l.length≤1000000),Calls prog 140 #[v] w fun e w'=>∃v',e=.returned v'∧w'.ownsRow w.heap.size 86 4 v' l.length (aM Rw.cells l)∧Bw' w w')∧(∀(v:Value)(l:List Ak)(B:Nat)(w:World)(h:Sl w B v Ak.cells l)(hB:B≤w.heap.size)(hn:l.length≤1000000),Calls prog 80 #[v] w fun e w'=>∃v',e=.returned v'∧w'.ownsRow w.heap.size 92 2 v' l.length (aM Ak.cells l)∧Bw' w w')∧(∀(v:Value)(l:List En)(B:Nat)(w:World)(h:Sl w B v En.cells l)(hB:B≤w.heap.size)(hn:l.length≤1000000),Calls prog 78 #[v] w fun e w'=>∃v',e=.returned v'∧w'.ownsRow w.heap.size 46 11 v' l.length (aM En.cells l)∧Bw' w w')∧(∀(v:Value)(l:List ObV)(B:Nat)(w:World)(h:Sl w B v ObV.cells l)(hB:B≤w.heap.size)(hn:l.length≤1000000)(h1:∀x∈l,∀u∈ObV.cells x,u.oneCell'=true),Calls prog 226 #[v] w fun e w'=>∃v',e=.returned v'∧w'.ownsRow w.heap.size 90 5 v' l.length (aM ObV.cells l)∧Bw' w w')∧(∀(v:Value)(l:List VoV)(B:Nat)(w:World)(h:Sl w B v VoV.cells l)(hB:B≤w.heap.size)(hn:l.length≤1000000)(h1:∀x∈l,∀u∈VoV.cells x,u.oneCell'=true),Calls prog 81 #[v] w fun e w'=>∃v',e=.returned v'∧w'.ownsRow w.heap.size 84 6 v' l.length (aM VoV.cells l)∧Bw' w w'):=by
 refine⟨?q0,?q1,?q2,?q3,?q4,?q5,?q6⟩
 case' q0=>have m'0:=True.intro; intro v l B w h hB hn
 case' q1=>have m'1:=True.intro; intro v l B w h hB hn
 case' q2=>have m'2:=True.intro; intro v l B w h hB hn
 case' q3=>have m'3:=True.intro; intro v l B w h hB hn
 case' q4=>have m'4:=True.intro; intro v l B w h hB hn
 case' q5=>have m'5:=True.intro; intro v l B w h hB hn h1
 case' q6=>intro v l B w h hB hn h1
 all_goals
  obtain⟨A,c,rfl,hr,hc,hm⟩:=h
  cases A with
  |none=>
   have hes:l=[]:=by
    rcases hr with h|⟨b,off,e,_⟩
    .first
     |(have:=m'0; exact hJ (by have:=eB 1 cS l; rw[h]at this; simp at this; omega))
     |(have:=m'1; exact hJ (by have:=eB 2 bM l; rw[h]at this; simp at this; omega))
     |(have:=m'2; exact hJ (by have:=eB 4 fJ l; rw[h]at this; simp at this; omega))
     |(have:=m'3; exact hJ (by have:=eB 2 nH l; rw[h]at this; simp at this; omega))
     |(have:=m'4; exact hJ (by have:=eB 11 eL l; rw[h]at this; simp at this; omega))
     |(have:=m'5; exact hJ (by have:=eB 5 cM l; rw[h]at this; simp at this; omega))
     |exact hJ (by have:=eB 6 iS l; rw[h]at this; simp at this; omega)
    .cases e
   subst hes;clear hr hn
   first |go_enter func79,ntmps79|go_enter func175,ntmps175|go_enter func140,ntmps140|go_enter func80,ntmps80|go_enter func78,ntmps78|go_enter func226,ntmps226|go_enter func81,ntmps81
   go_wp2_with fail;go_ret;exact⟨_,rfl,World.ownsRow_nil _ _ _ _,aL _ _⟩
  |some ad=>
   have H:=kp hr; clear hr
   first
   |(have:=m'0; obtain⟨i0,hi0,hz0,hz1,hz2⟩:=info_parts mL)
   |(have:=m'1; obtain⟨i0,hi0,hz0,hz1,hz2⟩:=info_parts jA)
   |(have:=m'2; obtain⟨i0,hi0,hz0,hz1,hz2⟩:=info_parts rE)
   |(have:=m'3; obtain⟨i0,hi0,hz0,hz1,hz2⟩:=info_parts Hn)
   |(have:=m'4; obtain⟨i0,hi0,hz0,hz1,hz2⟩:=info_parts Ch)
   |(have:=m'5; obtain⟨i0,hi0,hz0,hz1,hz2⟩:=info_parts pS)
   |obtain⟨i0,hi0,hz0,hz1,hz2⟩:=info_parts Ho
   first |go_enter func79,ntmps79|go_enter func175,ntmps175|go_enter func140,ntmps140|go_enter func80,ntmps80|go_enter func78,ntmps78|go_enter func226,ntmps226|go_enter func81,ntmps81
   first
   |(have:=m'0; have hbe:=ba' w (.cells #[] 3))
   |(have:=m'1; have hbe:=ba' w (.cells #[] 88))
   |(have:=m'2; have hbe:=ba' w (.cells #[] 86))
   |(have:=m'3; have hbe:=ba' w (.cells #[] 92))
   |(have:=m'4; have hbe:=ba' w (.cells #[] 46))
   |(have:=m'5; have hbe:=ba' w (.cells #[] 90))
   |have hbe:=ba' w (.cells #[] 84)
   first
   |(have:=m'0; have hown:=World.ownsRow_made (base:=w.heap.size) (e:=3) (size:=1) w #[] 0 (aD _) (by unfold maxLen; omega) rfl)
   |(have:=m'1; have hown:=World.ownsRow_made (base:=w.heap.size) (e:=88) (size:=2) w #[] 0 (aD _) (by unfold maxLen; omega) rfl)
   |(have:=m'2; have hown:=World.ownsRow_made (base:=w.heap.size) (e:=86) (size:=4) w #[] 0 (aD _) (by unfold maxLen; omega) rfl)
   |(have:=m'3; have hown:=World.ownsRow_made (base:=w.heap.size) (e:=92) (size:=2) w #[] 0 (aD _) (by unfold maxLen; omega) rfl)
   |(have:=m'4; have hown:=World.ownsRow_made (base:=w.heap.size) (e:=46) (size:=11) w #[] 0 (aD _) (by unfold maxLen; omega) rfl)
   |(have:=m'5; have hown:=World.ownsRow_made (base:=w.heap.size) (e:=90) (size:=5) w #[] 0 (aD _) (by unfold maxLen; omega) rfl)
   |have hown:=World.ownsRow_made (base:=w.heap.size) (e:=84) (size:=6) w #[] 0 (aD _) (by unfold maxLen; omega) rfl
   have HB:=k'2 hbe hown; clear hbe hown
   first
   |(have:=m'0; go_wp2_with (at_builtin; refine oJ _ rfl (.tmp 5) (.tmp 6) _ rfl w.heap.size 3 i0 _ 1 8 lT hi0 hz0 hz1 hz2 rfl (by omega) _ 0 [] HB.B rfl B (some ad) l.length c (aM i1 l) (H.o.below HB.a hB) rfl ?_ (nG pJ l) ?_ ?_ ?_ ?_))
   |(have:=m'1; go_wp2_with (at_builtin; refine oJ _ rfl (.tmp 5) (.tmp 6) _ rfl w.heap.size 88 i0 _ 2 16 fC hi0 hz0 hz1 hz2 rfl (by omega) _ 0 [] HB.B rfl B (some ad) l.length c (aM Bk.cells l) (H.o.below HB.a hB) rfl ?_ (nG gU l) ?_ ?_ ?_ ?_))
   |(have:=m'2; go_wp2_with (at_builtin; refine oJ _ rfl (.tmp 5) (.tmp 6) _ rfl w.heap.size 86 i0 _ 4 32 kO hi0 hz0 hz1 hz2 rfl (by omega) _ 0 [] HB.B rfl B (some ad) l.length c (aM Rw.cells l) (H.o.below HB.a hB) rfl ?_ (nG jR l) ?_ ?_ ?_ ?_))
   |(have:=m'3; go_wp2_with (at_builtin; refine oJ _ rfl (.tmp 5) (.tmp 6) _ rfl w.heap.size 92 i0 _ 2 16 Ff hi0 hz0 hz1 hz2 rfl (by omega) _ 0 [] HB.B rfl B (some ad) l.length c (aM Ak.cells l) (H.o.below HB.a hB) rfl ?_ (nG wX l) ?_ ?_ ?_ ?_))
   |(have:=m'4; go_wp2_with (at_builtin; refine oJ _ rfl (.tmp 5) (.tmp 6) _ rfl w.heap.size 46 i0 _ 11 88 wO hi0 hz0 hz1 hz2 rfl (by omega) _ 0 [] HB.B rfl B (some ad) l.length c (aM En.cells l) (H.o.below HB.a hB) rfl ?_ (nG nI l) ?_ ?_ ?_ ?_))
   |(have:=m'5; go_wp2_with (at_builtin; refine oJ _ rfl (.tmp 5) (.tmp 6) _ rfl w.heap.size 90 i0 _ 5 72 nE hi0 hz0 hz1 hz2 rfl (by omega) _ 0 [] HB.B rfl B (some ad) l.length c (aM ObV.cells l) (H.o.below HB.a hB) rfl ?_ (fun u hu=>by obtain⟨x,hx,hu⟩:=List.mem_flatten.1 hu; obtain⟨a,ha,rfl⟩:=cX.1 hx; exact h1 a ha u hu) ?_ ?_ ?_ ?_))
   |go_wp2_with (at_builtin; refine oJ _ rfl (.tmp 5) (.tmp 6) _ rfl w.heap.size 84 i0 _ 6 64 Fg hi0 hz0 hz1 hz2 rfl (by omega) _ 0 [] HB.B rfl B (some ad) l.length c (aM VoV.cells l) (H.o.below HB.a hB) rfl ?_ (fun u hu=>by obtain⟨x,hx,hu⟩:=List.mem_flatten.1 hu; obtain⟨a,ha,rfl⟩:=cX.1 hx; exact h1 a ha u hu) ?_ ?_ ?_ ?_)
   .first
    |(have:=m'0; rw[eB 1 cS])
    |(have:=m'1; rw[eB 2 bM])
    |(have:=m'2; rw[eB 4 fJ])
    |(have:=m'3; rw[eB 2 nH])
    |(have:=m'4; rw[eB 11 eL])
    |(have:=m'5; rw[eB 5 cM])
    |rw[eB 6 iS]
   .unfold maxLen; omega
   .omega
   .simp
   intro v1 w1 hown1 hg1;have hb1:=HB.a.trans (uO HB.B hg1 (by simp));have H1:=k'2 hown1 hb1; clear hown1 hb1 hg1;go_wp2_with fail;go_ret;refine⟨_,rfl,?_,H1.B⟩;have:=H1.a;simpa using this
end
end
end Go.Proofs.YtdoopoapbffpbaaGreat
