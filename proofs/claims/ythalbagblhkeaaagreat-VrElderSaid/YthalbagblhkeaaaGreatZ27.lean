import Derived.Test.YthalbagblhkeaaaGreatZ25
import Derived.Test.YthalbagblhkeaaaGreatZ26
namespace Go.Proofs.YthalbagblhkeaaaGreat
open Go.RowKit Go.Proofs.Tryz
set_option maxRecDepth 100000
set_option maxHeartbeats 12800000
set_option linter.unusedVariables false
set_option linter.unusedSimpArgs false
section
attribute [-go_sem] loadCellsFrom storeCells run_eql_struct run_neq_struct Instr.build
attribute [local go_sem] bC MgV.fold fF Nt Nu
theorem Ei(a:Fn)(first cap:Array Value)(w:World):(Instr.makeFunc a first cap).run prog w=.ok (.func a first cap) w:=rfl
attribute [local go_sem] Ei
theorem jY.below{q W W':World}{base g i k:Nat}{t:TypeId}{j:List Value}{p:WkV}{ps:List ObV}{m:MgV}{l:List MgV}{v:Value}{d:Int}(h:jY q W base g i t j p ps m k l v d)(a:Bw' W W'):jY q W' base g i t j p ps m k l v d:=
 ⟨h.x,h.n,h.o.below a,h.b.grow a,h.e.below a,h.c.trans (Chg.of_below (S:=fun _=>False) a) fun _ _ h=>h.elim,h.f⟩
theorem Nr(g:Nat)(w:World):Calls prog 43 #[.pointer (some ⟨g,0,none⟩)] w fun e d=>e=.returned (.func (.func 81) #[] #[.pointer (some ⟨w.heap.size,0,none⟩)])∧Blk d w.heap.size 77 [.pointer (some ⟨g,0,none⟩)]∧Bw' w d:=by
 have c:=Blk.new w 77 [.pointer (some ⟨g,0,none⟩)];have b:=k'2 c (ba' w (.cells #[.pointer (some ⟨g,0,none⟩)] 77));clear c;go_enter func43,ntmps43;go_wp2_with fail;go_ret;exact⟨rfl,b.a,b.B⟩
theorem Ns{K:List Value}{g B base n:Nat}(p:WkV)(ps:List ObV)(m:MgV)(w:World)(h:WkO w base g 79 K p ps)(I:Blk w B 77 [.pointer (some ⟨g,0,none⟩)])(hm:Ow w base 93 11 m.ev En.cells m.es)(hn:p.ms.length≤1000)(hb:base≤w.heap.size)(o0:p.r.nodes=n)(q0:n≤1000)(g0:m.es.length≤1000000)(X:m.kind≠0):
  Calls prog 81 #[.agg m.cells.toArray,.pointer (some ⟨B,0,none⟩)] w fun e w'=>e=.returned (.tuple #[])∧∃l,l.map (·.x)=sJ p m n∧l.length≤n∧∃v',WkO w' base g 79 K ⟨p.r,p.rs,p.rv,p.ms++l,v'⟩ ps∧Chg (fun i=>i=g∨p.mv.ownBlock=some i) w w'∧(∀k,v'.ownBlock=some k→p.mv.ownBlock=some k∨w.heap.size≤k):=by
 obtain⟨z,l0,x1,A,z1⟩:=par w 48 m.cells;have U:=(show jY z z base g w.heap.size 79 K p ps m 0 [] p.mv m.dst from⟨rfl,aD _,by rw[fS]; exact h.below A,x1,hm.below A,Chg.refl _ _,fun _ h=>.inl h⟩)
 have HI:=kp U;have d0:B≠g:=fun e=>by
  have h1:=h.blk;rw[←e]at h1;have h2:=h1.symm.trans I;simp at h2
 have e0:p.mv.ownBlock≠some B:=h.ms.ne_blk I (by decide);have m0:=I.lt;have HB:=kp (fun(W:World)(hc:Chg (fun i=>i=g∨p.mv.ownBlock=some i∨i=w.heap.size) z W)=>(I.grow A).chg hc fun e=>by
  rcases e with e|e|e
  .exact d0 e
  .exact e0 e
  .omega)
 have s:=k'5 h.blk.lt (fun j V=>(h.ms.lt (i:=j) V).2) (show z.heap.size=w.heap.size+1 by rw[←l0]; simp) A hb;have S:=k'3 hn g0 X;have N:z.cell? ⟨B,0,none⟩=some (.pointer (some ⟨g,0,none⟩)):=(I.grow A).cell 0;have O:z.cell? ⟨g,1,none⟩=some (.i n):=by
  have q:=(h.below A).blk.cell 1;rw[show (WkV.cells p K)[1]? =some (.i p.r.nodes) from rfl,o0]at q;exact q
 clear h U A z1 x1 hm hn g0 hb X d0 e0 m0 I;go_enter func81,ntmps81;go_wp2_with fail;clear N O
 go_loopw [9] (fun i wr=>∃k:Nat,k≤n∧i=.i k∧∃l v d,jY z wr base g w.heap.size 79 K p ps m k l v d) (fun i _=>n-(intOf i).toNat)
 case atStart=>exact⟨0,by omega,rfl,_,_,_,HI.o⟩
 case round=>
  obtain⟨k,X,rfl,l,v,d,D⟩:=hrel;have H:=kp D
  by_cases p0:k<n
  .have g3:(k:Int)<(n:Int):=by omega
   have Y:=D.b.cell 2;change _=some (Value.i d)at Y;have f2:=D.b.frozen 2;have G:=D.store s.a s.b ((k:Int)+1);obtain⟨L,T⟩:∃W,wr.setCell ⟨w.heap.size,2,none⟩ (.i ((k:Int)+1))=W:=⟨_,rfl⟩
   rw[T]at G;have N:=aP (show L.cell? ⟨B,0,none⟩=some (.pointer (some ⟨g,0,none⟩)) from (HB.o L G.c).cell 0);have O:=aP (show L.cell? ⟨g,0,none⟩=some (.i p.r.id) from G.o.blk.cell 0);have k2:=aP (show L.cell? ⟨w.heap.size,2,none⟩=some (.i ((k:Int)+1)) from G.b.cell 2);have Z:=kp G;clear D G
   by_cases F:(k:Int)+1=p.r.id
   .have g5:(((k:Int)+1) != p.r.id)=false:=by simpa using F
    have R:=kp F;clear F;go_wp2_with fail;refine bJ (by kernel_rfl) (by kernel_rfl) ?_
    repeat (go_big_quiet_step (fail))
    refine bH ?_;rintro M ⟨⟨_,J⟩,rfl⟩;have Q:=kp ((Z.o.below J).skip R.o);clear J N O k2 Y f2 T;go_wp2_with fail;go_roundw
    case rel=>exact⟨k+1,by omega,by go_num,_,_,_,Q.o⟩
    case measure=>simp[intOf]; omega
   .have g5:(((k:Int)+1) != p.r.id)=true:=by simpa using F
    have R:=kp F;clear F;go_wp2_with fail;refine bJ (by kernel_rfl) (by kernel_rfl) ?_
    repeat (go_big_quiet_step (fail))
    refine bH ?_;rintro M ⟨⟨_,J⟩,rfl⟩;have y:=Z.o.below J;have l3:=y.b.load (P:=prog) (k:=23) rfl;have p3:M.cell? ⟨B,0,none⟩=some (.pointer (some ⟨g,0,none⟩)):=(HB.o M y.c).cell 0;have HS:=kp (aAU _ ps (m.to ((k:Int)+1)) M y.o y.e (by have:=S.a; have:=y.n; simp only[bB]; omega) (aB s.E (aB s.d.size y.c.size)) S.C S.b);have Q:=kp y;clear y J N O k2 Y f2 T;go_wp2_with fail;refine (HS.o).mono ?_;rintro e w4 ⟨rfl,ev,v4,j0,a0,b0⟩;have HN:=kp (Q.o.sent (ev:=ev) (.inl rfl) s.a s.c s.b (aL _ _) R.o j0 a0 b0);clear j0 a0 b0 l3 p3;go_wp2_with fail;go_roundw
    case rel=>exact⟨k+1,by omega,by go_num,_,_,_,HN.o⟩
    case measure=>simp[intOf]; omega
  .obtain rfl:n=k:=by omega
   have g3:¬(n:Int)<(n:Int):=by omega
   clear D;go_wp2_with fail;go_end0;refine⟨rfl,l,H.o.x,H.o.n,v,H.o.o,((Chg.of_below s.d).trans H.o.c fun i _ h=>h).mono fun i U h=>?_,fun j V=>(H.o.f j V).imp id fun h=>dY h⟩;rcases h with h|h|h
   .exact .inl h
   .exact .inr h
   .omega
end
section
structure aEF where
 (r:Rp) (rs:List Rc) (ms:List Mg)
def WkV.x(p:WkV):aEF:=⟨p.r.x,p.rs.map (·.x),p.ms.map (·.x)⟩
structure aEG(w w':World)(base g:Nat)(p p':WkV)(ps:List ObV):Prop where
 o:WkO w' base g 79 [] p' ps
 c:Chg (fun i=>i=g∨p.rv.ownBlock=some i∨p.mv.ownBlock=some i) w w'
 r:∀k,p'.rv.ownBlock=some k→p.rv.ownBlock=some k∨w.heap.size≤k
 m:∀k,p'.mv.ownBlock=some k→p.mv.ownBlock=some k∨w.heap.size≤k
section
variable {w w1 w2:World}{base g b:Nat}{p p1 p2:WkV}{ps ps1 ps2:List ObV}{t:TypeId}{cs:List Value}
theorem aEG.refl(h:WkO w base g 79 [] p ps):aEG w w base g p p ps:=⟨h,Chg.refl _ _,fun _ h=>.inl h,fun _ h=>.inl h⟩
theorem aEG.trans(h:aEG w w1 base g p p1 ps1)(k:aEG w1 w2 base g p1 p2 ps2):aEG w w2 base g p p2 ps2:=
 ⟨k.o,h.c.trans k.c fun i b a=>a.elim .inl fun a=>a.elim (fun a=>(h.r i a).elim (fun h=>.inr (.inl h)) fun h=>absurd b (Nat.not_lt.2 h)) fun a=>(h.m i a).elim (fun h=>.inr (.inr h)) fun h=>absurd b (Nat.not_lt.2 h),
  fun i b=>(k.r i b).elim (h.r i) fun a=>.inr (aB h.c.size a),fun i b=>(k.m i b).elim (h.m i) fun a=>.inr (aB h.c.size a)⟩
theorem aEG.pre(a:Bw' w w1)(k:aEG w1 w2 base g p p2 ps2):aEG w w2 base g p p2 ps2:=
 ⟨k.o,(Chg.of_below a).trans k.c fun _ _ h=>h,fun i b=>(k.r i b).imp id (aB a.size),fun i b=>(k.m i b).imp id (aB a.size)⟩
theorem aEG.post(h:aEG w w1 base g p p1 ps1)(a:Bw' w1 w2):aEG w w2 base g p p1 ps1:=⟨h.o.below a,h.c.then a,h.r,h.m⟩
theorem aEG.blk{f:World}(h:aEG w w1 base g p p1 ps1)(a:WkO f base g 79 [] p ps)(j:f.heap.size≤b)(i:Blk w b t cs):Blk w1 b t cs:=
 i.chg h.c fun d=>d.elim (fun e=>by have:=a.blk.lt; omega) fun d=>d.elim (fun e=>by have:=(a.rs.lt e).2; omega) fun e=>by have:=(a.ms.lt e).2; omega
theorem aEG.sl{α:Type}{enc:α→List Value}{l:List α}{B:Nat}{v:Value}(h:aEG w w1 base g p p1 ps1)(a:WkO w base g 79 [] p ps)(d:B≤base)(f:base≤w.heap.size)(j:Sl w B v enc l):Sl w1 B v enc l:=
 Sl.below j (h.c.below (B:=B) (fun i b=>b.elim (fun e=>by have:=a.lo; omega) fun b=>b.elim (fun e=>by have:=(a.rs.lt e).1; omega) fun e=>by have:=(a.ms.lt e).1; omega) (aB d f)) (aD _)
theorem aEG.size(h:aEG w w1 base g p p1 ps1):w.heap.size≤w1.heap.size:=h.c.size
theorem aEG.row{α:Type}{enc:α→List Value}{l:List α}{B k:Nat}{v:Value}(h:aEG w w1 base g p p1 ps1)(d:WkO w base g 79 [] p ps)(b:Ow w B t k v enc l)(j:t≠79∧101≠t∧48≠t):Ow w1 B t k v enc l:=
 b.chg h.c fun i e f=>f.elim (fun a=>b.ne_blk d.blk j.1 (a▸e)) fun f=>f.elim (fun a=>d.rs.apt b j.2.1 i a e) fun a=>d.ms.apt b j.2.2 i a e
end
def aEF.of(q:aEF)(m:Mg):aEF:=⟨q.r,q.rs,q.ms++[{m with src:=q.r.id}]⟩
def aEF.send(q:aEF)(m:Mg):aEF:=q.of {m with view:=q.r.k.view}
def aEF.tell(q:aEF)(m:Mg):aEF:=⟨q.r,q.rs,q.ms++(tM q.r.nodes q.r.id).map fun d=>{m with dst:=d,view:=q.r.k.view,src:=q.r.id}⟩
section
variable {tl:List Value}{g base B:Nat}
theorem aC5(p:WkV)(ps:List ObV)(m:MgV)(w:World)(h:WkO w base g 79 [] p ps)(n:Ow w base 93 11 m.ev En.cells m.es)(o:p.ms.length<1000000)(c:base≤w.heap.size)(a:m.kind≠0)(l:m.es.length≤1000000):
  Calls prog 113 #[.pointer (some ⟨g,0,none⟩),.agg m.cells.toArray] w fun e b=>e=.returned (.tuple #[])∧∃p',aEG w b base g p p' ps∧p'.x=p.x.of m.x:=by
 refine (aAT p ps m w h n o c a l).mono ?_;rintro e b ⟨rfl,ev,v,q,d,f⟩;exact⟨rfl,_,⟨q,d.mono fun i _ j=>j.imp id .inr,fun k a=>.inl a,f⟩,by simp[WkV.x,aEF.of]; rfl⟩
theorem aB9(p:WkV)(ps:List ObV)(m:MgV)(w:World)(h:WkO w base g 79 [] p ps)(n:Ow w base 93 11 m.ev En.cells m.es)(o:p.ms.length<1000000)(c:base≤w.heap.size)(a:m.kind≠0)(l:m.es.length≤1000000):
  Calls prog 63 #[.pointer (some ⟨g,0,none⟩),.agg m.cells.toArray] w fun e b=>e=.returned (.tuple #[])∧∃p',aEG w b base g p p' ps∧p'.x=p.x.send m.x:=by
 refine (aAU p ps m w h n o c a l).mono ?_;rintro e b ⟨rfl,ev,v,q,d,f⟩;exact⟨rfl,_,⟨q,d.mono fun i _ j=>j.imp id .inr,fun k a=>.inl a,f⟩,by simp[WkV.x,aEF.send,aEF.of]; rfl⟩
theorem aC6{b:Nat}(p:WkV)(ps:List ObV)(m:MgV)(w:World)(h:WkO w base g 79 [] p ps)(B:Blk w b 77 [.pointer (some ⟨g,0,none⟩)])(s:Ow w base 93 11 m.ev En.cells m.es)(z:p.ms.length≤1000)(d:base≤w.heap.size)(C:3≤p.r.nodes∧p.r.nodes≤7)(y:m.es.length≤1000000)(a:m.kind≠0):
  Calls prog 81 #[.agg m.cells.toArray,.pointer (some ⟨b,0,none⟩)] w fun e c=>e=.returned (.tuple #[])∧∃p',aEG w c base g p p' ps∧p'.x=p.x.tell m.x:=by
 refine (Ns (n:=p.r.nodes.toNat) p ps m w h B s z d (by omega) (by omega) y a).mono ?_;rintro e c ⟨rfl,l,q,-,v,A,f,j⟩;refine⟨rfl,_,⟨A,f.mono fun i _ o=>o.imp id .inr,fun k a=>.inl a,j⟩,?_⟩;unfold WkV.x aEF.tell;simp only[gC,q];rfl
end
end
section
def rT(t:Int):Rp:=⟨2,3,kd3,0,st3,t,[],[],[],jL⟩
theorem aA9:dM (jK kd3.image)=some st3:=by decide+kernel
theorem zJ:∀n∈List.range 14,dI (rT ((n:Nat):Int))=true:=by decide+kernel
theorem Eo(t:Int):gM (rT t)=false:=rfl
theorem aBa(n:Nat)(h:n<13):cU (rT n)=(rT (n+1:Nat),[],[]):=by
 unfold cU;rw[aE (zJ n (List.mem_range.2 (by omega))),aC (by rw[Eo]; decide),aC (by show ¬(10+2*(2:Int)≤min ((n:Int)+1) 1000); omega)];show ((⟨2,3,kd3,0,st3,min ((n:Int)+1) 1000,[],[],[],jL⟩:Rp),([]:List Rc),([]:List Mg))=_;rw[show min ((n:Int)+1) 1000=((n+1:Nat):Int) by omega];rfl
theorem aBb:cU (rT 13)=(rI (rT 13),[vE 1],[nL 2 1 1,nL 2 1 3]):=by
 unfold cU;rw[aE (show dI (rT 13)=true from zJ 13 (by decide)),aC (by rw[Eo]; decide),aE (by decide)];rfl
def sN:Nat→Rp×List Rc×List Mg
 |0=>(rT 0,[],[])
 |k+1=>cU (sN k).1
theorem Of:∀n,n<14→(sN n).1=rT n
 |0,_=>rfl
 |n+1,h=>by
  show (cU (sN n).1).1=_;rw[Of n (by omega),aBa n (by omega)]
theorem aBc:sN 14=(rI (rT 13),[vE 1],[nL 2 1 1,nL 2 1 3]):=by
 show cU (sN 13).1=_;rw[Of 13 (by omega)];exact aBb
end
section
def aBQ:Mg:=⟨0,0,0,0,0,0,0,0,[],0,0,ByteArray.empty,0,pV,0,0,false⟩
def Av(d0 seq code value:Int)(ok:Bool):Mg:={aBQ with kind:=2,dst:=d0,seq:=seq,code:=code,value:=value,ok:=ok}
def aCa(k:Kd)(commit c s:Int):Bool:=k.es.any fun e=>decide (commit<e.n)&&(decide (e.c=c)&&decide (s≤e.s))
def aBK(e:En):Rc:=⟨2,0,0,0,ByteArray.empty,e,[]⟩
def Kd.add(k:Kd)(e:En):Kd:={k with es:=k.es++[e]}
def aEF.keep(q:aEF)(e:En):aEF:=⟨{q.r with k:=q.r.k.add e},q.rs++[aBK e],q.ms⟩
def Tw(r:Rp)(m:Mg):En:=⟨r.k.last+1,r.k.view,-m.src,m.seq,m.op.k,m.op.h,m.op.i,m.op.n,m.op.m,m.op.v,m.op.t⟩
def aCo(last commit:Int)(e:En):Mg:={aBQ with kind:=3,number:=last,commit:=commit,es:=[e]}
def So(k:Kd)(e:En):Bool:=decide (e.n=k.last+1)&&(decide (k.es.length<4000)&&dA (k.add e))
def aEF.req(q:aEF)(m:Mg):Option aEF:=
 if aF (-m.src) 1 4=true∧aF m.seq 1 1000000=true then
  if gM q.r=true then
   if m.seq<(jB (-m.src) q.r.st.rows).s then some (q.send (Av m.src m.seq 130 0 true))
   else if (jB (-m.src) q.r.st.rows).s=m.seq then some (q.send (Av m.src m.seq (jB (-m.src) q.r.st.rows).k (jB (-m.src) q.r.st.rows).v true))
   else if q.r.k.es.length<3000∧aCa q.r.k q.r.commit (-m.src) m.seq=false then
    if So q.r.k (Tw q.r m)=true then some ((q.keep (Tw q.r m)).tell (aCo q.r.k.last q.r.commit (Tw q.r m))) else none
   else some q
  else some (q.send (Av m.src m.seq 0 0 false))
 else some q
def Af(r:Rp)(m:Mg):Bool:=
 ((aF m.src 1 r.nodes&&(!decide (m.src=r.id)&&(aF m.total 0 65536&&decide (m.es.length≤2000))))&&(aF m.view 0 800000000&&(aF m.number 0 800000000&&(aF m.base 0 800000000&&(aF m.commit 0 800000000&&(aF m.normal 0 800000000&&aF m.offset 0 800000000))))))&&
  (decide (r.k.view≤m.view)&& !(m.es.any fun e=> !fY e))
def aBX(m:Mg)(number offset:Int):Mg:={aBQ with kind:=8,dst:=m.src,view:=m.view,number:=number,offset:=offset}
def okM(d0 number:Int):Mg:={aBQ with kind:=4,dst:=d0,number:=number}
def lH(id view:Int):St→List En→St×List Mg
 |s,[]=>(s,[])
 |s,e::l=>((lH id view (jC s e).1 l).1,(if e.c=0 then [] else [{aBQ with kind:=2,src:=id,dst:= -e.c,view:=view,seq:=e.s,code:=(jC s e).2.1,value:=(jC s e).2.2,ok:=true}])++(lH id view (jC s e).1 l).2)
def xG(k:Kd)(number most:Int):List En:=if most<1∨k.last≤number then [] else (k.es.drop (number-k.base).toNat).take most.toNat
def aEF.reach(q:aEF)(n:Int):Option aEF:=
 if n≤q.r.commit∨q.r.k.last<n then some q else if 8≤n-q.r.k.base then none else
  some ⟨{q.r with st:=(lH q.r.id q.r.k.view q.r.st (xG q.r.k q.r.commit (n-q.r.commit))).1,commit:=n},q.rs,q.ms++if gM q.r=true then (lH q.r.id q.r.k.view q.r.st (xG q.r.k q.r.commit (n-q.r.commit))).2 else []⟩
def aEF.agree(q:aEF)(m:Mg):Option aEF:=(q.reach (min m.commit q.r.k.last)).map fun q=>q.send (okM m.src q.r.k.last)
def aEF.keeps(q:aEF):List En→Option aEF
 |[]=>some q
 |e::l=>if So q.r.k e=true then (q.keep e).keeps l else none
def xH(k:Kd)(number:Int)(l:List En):Bool:=aF number 0 k.last&&fA number l
def aEF.timed(q:aEF)(t:Int):aEF:=⟨{q.r with timer:=t},q.rs,q.ms⟩
def aEF.prep(q:aEF)(m:Mg):Option aEF:=
 if m.view=q.r.k.view∧gY q.r=true then
  if mN q.r=true then some q else
   if xH q.r.k m.number m.es=true then ((q.timed 0).keeps (m.es.filter fun e=>decide (q.r.k.last<e.n))).bind fun q=>q.agree m
   else some ((q.timed 0).of (aBX m q.r.k.last 0))
 else some ((q.timed 0).of (aBX m q.r.commit 0))
def aEF.okay(q:aEF)(m:Mg):Option aEF:=
 if m.view=q.r.k.view∧gY q.r=true∧mN q.r=true∧m.number≤q.r.k.last then
  if q.r.acks=[]∧q.r.nodes=3∧q.r.k.last=1∧m.number=1∧m.src=2 then aEF.reach ⟨{q.r with acks:=[⟨2,1⟩]},q.rs,q.ms⟩ 1 else none
 else some q
def aEF.heard(q:aEF)(m:Mg):Option aEF:=
 if m.dst≠q.r.id then some q else if m.kind=1 then q.req m else if 3≤m.kind∧m.kind≤10∧Af q.r m=true then if m.kind=3 then q.prep m else if m.kind=4 then q.okay m else none else some q
def Xw(r:Rp)(m:Mg):Option (Rp×List Rc×List Mg):=(aEF.heard ⟨r,[],[]⟩ m).map fun q=>(q.r,q.rs,q.ms)
theorem aC7{r:Rp}{m:Mg}(b:3≤m.kind)(c:m.view<r.k.view):Xw r m=some (r,[],[]):=by
 unfold Xw aEF.heard;have a:Af r m=false:=by
  unfold Af;rw[show decide (r.k.view≤m.view)=false from aX (by omega)];simp
 rw[aC (show ¬m.kind=1 by omega),aC (show ¬(3≤m.kind∧m.kind≤10∧Af r m=true) by rw[a]; simp)]
 split<;>rfl
structure WpS(q:aEF):Prop where
 nodes:3≤q.r.nodes∧q.r.nodes≤7
 kept:dA q.r.k=true
 kr:KdR q.r.k
 img:q.r.k.image.size≤1000000
 top:q.r.k.last≤900000000
 st:stB q.r.st=true
 rs:q.rs.length≤4000
 ms:q.ms.length≤1000
theorem WpS.log{q:aEF}(S:WpS q):(0≤q.r.k.base∧q.r.k.base≤900000000)∧q.r.k.es.length≤4000∧0≤q.r.k.last∧(0≤q.r.k.view∧q.r.k.view≤900000000):=by
 obtain⟨s,h⟩:=pZ.1 S.kept;have a:=h.base;have b:=h.len;refine⟨a,by omega,?_,h.view⟩;unfold Kd.last;omega
theorem aC8{x:En}(h:fY x=true):1≤x.n∧x.n≤900000000:=by
 unfold fY aF at h;simp only[bI,bP]at h;exact h.1
theorem Kd.add_last(k:Kd)(e:En):(k.add e).last=k.last+1:=by
 unfold Kd.add Kd.last;simp only[bB,uC];omega
theorem WpS.keep{q:aEF}{e:En}(S:WpS q)(d:enR e)(b:So q.r.k e=true)(j:q.rs.length<4000):WpS (q.keep e):=by
 unfold So at b;simp only[bI,bP]at b;obtain⟨g,h,c⟩:=b;obtain⟨s,f⟩:=pZ.1 c;have i:=aC8 (f.may e (by unfold Kd.add; simp));refine⟨S.nodes,c,fun x a=>?_,S.img,?_,S.st,?_,S.ms⟩
 .rcases dF.1 a with a|a
  .exact S.kr x a
  .rw[bQ.1 a]; exact d
 .show (q.r.k.add e).last≤_;rw[Kd.add_last]; omega
 .show (q.rs++[aBK e]).length≤_;simp; omega
structure MgR(m:Mg):Prop where
 src:inR m.src
 seq:inR m.seq
 op:inR m.op.k∧inR m.op.h∧inR m.op.i∧inR m.op.n∧inR m.op.m∧inR m.op.v∧inR m.op.t
section
variable {q r:aEF}{m:Mg}
theorem aEF.req_out(h:q.req m=some r)(a:¬(aF (-m.src) 1 4=true∧aF m.seq 1 1000000=true)):q=r:=by
 unfold aEF.req at h; rw[aC a]at h; exact Option.some.inj h
theorem aEF.req_far(h:q.req m=some r)(b:aF (-m.src) 1 4=true∧aF m.seq 1 1000000=true)(a:gM q.r=false):q.send (Av m.src m.seq 0 0 false)=r:=by
 unfold aEF.req at h; rw[aE b,a]at h; exact Option.some.inj h
theorem aEF.req_old(h:q.req m=some r)(c:aF (-m.src) 1 4=true∧aF m.seq 1 1000000=true)(b:gM q.r=true)(a:m.seq<(jB (-m.src) q.r.st.rows).s):q.send (Av m.src m.seq 130 0 true)=r:=by
 unfold aEF.req at h; rw[aE c,aE b,aE a]at h; exact Option.some.inj h
theorem aEF.req_same(h:q.req m=some r)(d:aF (-m.src) 1 4=true∧aF m.seq 1 1000000=true)(c:gM q.r=true)(a:¬m.seq<(jB (-m.src) q.r.st.rows).s)(b:(jB (-m.src) q.r.st.rows).s=m.seq):
  q.send (Av m.src m.seq (jB (-m.src) q.r.st.rows).k (jB (-m.src) q.r.st.rows).v true)=r:=by
 unfold aEF.req at h; rw[aE d,aE c,aC a,aE b]at h; exact Option.some.inj h
theorem aEF.req_new(h:q.req m=some r)(f:aF (-m.src) 1 4=true∧aF m.seq 1 1000000=true)(e:gM q.r=true)(b:¬m.seq<(jB (-m.src) q.r.st.rows).s)(c:¬(jB (-m.src) q.r.st.rows).s=m.seq)
  (d:q.r.k.es.length<3000∧aCa q.r.k q.r.commit (-m.src) m.seq=false):So q.r.k (Tw q.r m)=true∧(q.keep (Tw q.r m)).tell (aCo q.r.k.last q.r.commit (Tw q.r m))=r:=by
 unfold aEF.req at h; rw[aE f,aE e,aC b,aC c,aE d]at h
 by_cases a:So q.r.k (Tw q.r m)=true
 .rw[aE a]at h; exact⟨a,Option.some.inj h⟩
 .rw[aC a]at h; cases h
theorem aEF.req_no(h:q.req m=some r)(e:aF (-m.src) 1 4=true∧aF m.seq 1 1000000=true)(d:gM q.r=true)(a:¬m.seq<(jB (-m.src) q.r.st.rows).s)(b:¬(jB (-m.src) q.r.st.rows).s=m.seq)
  (c:¬(q.r.k.es.length<3000∧aCa q.r.k q.r.commit (-m.src) m.seq=false)):q=r:=by
 unfold aEF.req at h; rw[aE e,aE d,aC a,aC b,aC c]at h; exact Option.some.inj h
end
theorem aC9{q:aEF}{m:Mg}(S:WpS q)(R:MgR m)(a:aF (-m.src) 1 4=true):enR (Tw q.r m):=by
 have h:=S.log;have b:=S.top;unfold aF at a;simp only[bI,bP]at a;exact⟨⟨by show _≤q.r.k.last+1; omega,by show q.r.k.last+1≤_; omega⟩,⟨by show _≤q.r.k.view; omega,by show q.r.k.view≤_; omega⟩,⟨by show _≤ -m.src; omega,by show -m.src≤_; omega⟩,R.seq,R.op⟩
def aBL(d0:Int):Mg:={aBQ with kind:=1,src:= -1,dst:=d0,seq:=1,op:=⟨1,0,0,0,0,0,0⟩}
def aEJ(id:Int):Rp:=⟨id,3,kd3,0,st3,0,[],[],[],jL⟩
def cG:En:=⟨1,0,1,1,1,0,0,0,0,0,0⟩
def aEI(id:Int):Rp:={aEJ id with k:=kd3.add cG}
def aEK:Rp:={aEI 1 with acks:=[⟨2,1⟩],commit:=1,st:=(jC st3 cG).1}
def aBM(d:Int):Mg:={aCo 0 0 cG with src:=1,dst:=d}
def aBY:Mg:={okM 1 1 with src:=2}
theorem aCb:∀id∈[(1:Int),2],kC id 3 kd3=some (aEJ id):=by
 intro id a;unfold kC;rw[aA9];rcases bA.1 a with rfl|a
 .exact aE (show dI (aEJ 1)=true by decide+kernel)
 .rw[bQ.1 a]; exact aE (show dI (aEJ 2)=true by decide+kernel)
theorem aBZ:dI (aEJ 1)=true∧dI (aEJ 2)=true∧dI (aEI 1)=true∧dI (aEI 2)=true:=by decide+kernel
theorem aDa:Xw (aEJ 1) (aBL 1)=some (aEI 1,[aBK cG],[aBM 2,aBM 3]):=by decide+kernel
theorem aDb:Xw (aEJ 2) (aBM 2)=some (aEI 2,[aBK cG],[aBY]):=by decide+kernel
theorem aDc:Xw (aEI 1) aBY=some (aEK,[],[{Av (-1) 1 0 1 true with src:=1}]):=by decide+kernel
theorem aDd:Xw (aEI 2) (aBL 2)=some (aEI 2,[],[{Av (-1) 1 0 0 false with src:=2}]):=by decide+kernel
end
section
attribute [-go_sem] loadCellsFrom storeCells run_eql_struct run_neq_struct Instr.build
attribute [local go_sem] bC eL aAR
theorem En.fold(p:En):List.foldl (fun(a:Array Value)(x:Value×Nat)=>a.setIfInBounds x.snd x.fst) z'3a p.cells.zipIdx=p.cells.toArray:=by
 simp[En.cells]
attribute [local go_sem] En.fold
def KpV.more(p:KpV)(v:Value)(e:En):KpV:=⟨p.view,p.normal,p.base,p.image,p.es++[e],v⟩
structure SvE(k:KpV)(c:RcV):Prop where
 kind:c.kind=2
 n:c.entry.n=k.x.last+1
 base:0≤k.base∧k.base≤900000000
 top:0≤k.x.last∧k.x.last≤900000000
 len:k.es.length<4000
 img:k.image.size≤maxLen
 kr:KdR k.x
 er:enR c.entry
 ok:dA k.x=true
 ok2:dA (k.x.add c.entry)=true
theorem aCy(p:KpV):p.cells[4]? =some p.ev:=rfl
theorem aDe{g base:Nat}(p:KpV)(c:RcV)(w:World)(Z:Blk w g 225 p.cells)(J:Ow w base 93 11 p.ev En.cells p.es)(r:base≤w.heap.size)(s:SvE p c):
  Calls prog 165 #[.pointer (some ⟨g,0,none⟩),.agg c.cells.toArray] w fun e w'=>e=.returned (.i 0)∧∃v,Blk w' g 225 (p.more v c.entry).cells∧Ow w' base 93 11 v En.cells (p.es++[c.entry])∧Chg (fun i=>i=g∨p.ev.ownBlock=some i) w w':=by
 have q0:p.es.length≤1000000:=by have:=s.len; omega
 obtain⟨W1,l0,x1,L,z1⟩:=par w 101 c.cells;have y1:=Z.grow L;have o1:=J.below L;have j0:=x1.cell 0;rw[show c.cells[0]? =some (.i c.kind) from rfl,s.kind]at j0;have l1:=y1.load (P:=prog) (k:=5) rfl;have l:=k'8 y1 x1 L o1 Z.lt (fun i Y=>(J.lt (i:=i) Y).2) r s;have HL:=kp (aB8 p W1 W1.heap.size (o1.sl eL) s.base q0);clear x1 y1 L z1 o1 Z J r s;go_enter func165,ntmps165;go_wp2_with fail;refine mb' (HL.o) fun G X=>?_;have x2:=l.b.grow X;have j2:G.cell? ⟨w.heap.size,0,none⟩=some (.i 2):=(x2.cell 0).trans (by rw[show c.cells[0]? =some (.i c.kind) from rfl,l.H.kind]);have l2:=x2.loadOff (P:=prog) 5 11 c.entry.cells rfl rfl;obtain⟨T,a0⟩:=nm' (G.alloc (.cells c.entry.cells.toArray 93));have s3:=eQ (enc:=En.cells) G 93 c.entry;have V:=ba' G (.cells c.entry.cells.toArray 93);have z3:(G.alloc (.cells c.entry.cells.toArray 93)).heap.size=G.heap.size+1:=by simp
 rw[a0]at s3 V z3;have g0:=kp (by
  have:=vN.1 _ [c.entry] p.x.last T.heap.size T (z3▸s3) (aD _) (by simp) (fun e y=>by rw[bQ.1 y]; exact l.H.er.1) l.H.top.1 l.H.top.2;rw[show fA p.x.last [c.entry]=true by unfold fA; rw[bY l.H.n]; rfl]at this;exact this)
 have d0:=kp (X.on V);clear x2 s3 V z3 X;go_wp2_with fail;refine mb' (g0.o) fun w4 b0=>?_;have I:=d0.o.on b0;have A:=k'4 (l.a.grow I) (l.b.grow I) (l.d.below I) (l.c.on I);clear I b0 j0 j2 l1 l2 a0 l0;go_wp2_with fail;have E:=kp (fun W(j:Chg (fun i=>p.ev.ownBlock=some i) w4 W∧Ow W base 93 11 p.ev En.cells p.es)=>jQ (A.a.chg j.1 (A.c.ne_blk A.a (by decide))) (A.b.chg j.1 fun Y=>wH _ (l.f _ Y)));have p0:base≤w4.heap.size:=aB l.g A.D.size;refine kU 13 (fun W=>Chg (fun i=>p.ev.ownBlock=some i) w4 W∧Ow W base 93 11 p.ev En.cells p.es) (kD 9 fun i=>p.ev.ownBlock=some i) (by kernel_rfl) (by kernel_rfl) ⟨(Chg.refl _ _).drew,A.c.below (bR (aL _ _))⟩ ?_
 iterate 8 (refine bO ?_; apply Exists.intro)
 refine bS (fun u W=>∃b,u=.slice (some ⟨b,0,none⟩) 1 1∧(b<W.heap.size∧p.ev.ownBlock≠some b)∧Sl W (b+1) u En.cells [c.entry]) ?_;refine bS (fun u W=>Ow W base 93 11 u En.cells (p.es++[c.entry])) ?_
 iterate 3 (refine bO ?_; apply Exists.intro)
 refine dR ⟨?pers,?walk⟩
 case walk=>
  iterate 5
   apply Sz (by kernel_rfl) (by intro t w h; cases h; exact trivial) rfl
   .intro W j m; go_wp2_with fail;exact⟨rfl,_,rfl,j,fQ (by decide) (aL _ _),rfl⟩
   simp only[Act.put,aN,aH,aI]
  apply Sz (by kernel_rfl) (by intro t w h; cases h; exact trivial) rfl
  .intro W j m; have q:=(E.o W j).1.cell 4; rw[aCy]at q; go_wp2_with fail;exact⟨rfl,_,rfl,j,fQ (by decide) (aL _ _),rfl⟩
  simp only[Act.put,aN,aH,aI];apply Sz (by kernel_rfl) (by intro t w h; cases h; exact trivial) rfl
  .intro W j m; go_wp2_with fail;exact⟨rfl,_,rfl,j,fQ (by decide) (aL _ _),rfl⟩
  simp only[Act.put,aN,aH,aI];apply Sz (by kernel_rfl) (by intro t w h; cases h; exact trivial) rfl
  .intro W j m; have q:=(E.o W j).2.loadOff (P:=prog) 5 11 c.entry.cells rfl rfl; go_wp2_with fail;exact⟨rfl,_,rfl,j,fQ (by decide) (aL _ _),rfl⟩
  simp only[Act.put,aN,aH,aI];refine⟨fun W j m=>?_,fun u7=>?_⟩
  .go_wp2_with fail;have s:=eQ (enc:=En.cells) W 93 c.entry;have F:=jQ (j.1.alloc (.cells c.entry.cells.toArray 93)) (j.2.alloc (.cells c.entry.cells.toArray 93));have B:=fQ (e:=9) (k:=8) (S:=fun i=>p.ev.ownBlock=some i) (by decide) (ba' W (.cells c.entry.cells.toArray 93));have r:W.heap.size<(W.alloc (.cells c.entry.cells.toArray 93)).heap.size:=by simp
   have hn:¬p.ev.ownBlock=some W.heap.size:=fun y=>by have:=(j.2.lt y).2; omega
   generalize W.alloc (.cells c.entry.cells.toArray 93)=W' at s F B r ⊢;exact⟨rfl,_,rfl,F,B,_,rfl,⟨r,hn⟩,s⟩
  simp only[Act.put,aN,aH,aI];refine⟨fun W j m=>?_,fun u8=>?_⟩
  .have f7:=m 51 (bT (by kernel_rfl));obtain⟨b,rfl,d1,a1⟩:=f7;have o0:base≤W.heap.size:=aB p0 j.1.size;go_wp2_with (at_builtin; refine mO (enc:=En.cells) W rfl (.tmp 48) (.tmp 51) 22 rfl base 93 Ch wO rfl (by omega) eL j.2 rfl a1 rfl (fun a _=>nI a) ?_ ?_ o0 ?_)
   .have:=l.H.len; unfold maxLen; show p.es.length+1≤_; omega
   .have:=l.H.len; show (p.es.length+1)*88≤_; omega
   intro v' T J z0 hg g1;exact⟨rfl,_,rfl,⟨j.1.trans (fZ hg) (fun _ _ h=>h),z0⟩,rK (fZ hg),J⟩
  simp only[Act.put,aN,aH,aI]
  iterate 3
   apply Sz (by kernel_rfl) (by intro t w h; cases h; exact trivial) rfl
   .intro W j m; go_wp2_with fail;exact⟨rfl,_,rfl,j,fQ (by decide) (aL _ _),rfl⟩
   simp only[Act.put,aN,aH,aI]
  intro W j m;have M:=m 52;have q:=(E.o W j).1.cell 4;have qf:=(E.o W j).1.frozen 4;rw[aCy]at q;obtain⟨z,c8,rfl,_,_⟩:=eD M;rw[bB,uC]at M;have K:Blk (W.setCell ⟨g,4,none⟩ (.slice z (p.es.length+1) c8)) g 225 (p.more (.slice z (p.es.length+1) c8) c.entry).cells:=(E.o W j).1.setCell 4 _;have c9:=(Chg.refl (fun i=>i=g) W).setCell (.inr rfl) 4 (.slice z (p.es.length+1) c8);have O:=M.chg_blk (E.o W j).1 c9 (by decide);have F:=((Chg.of_below (S:=fun i=>i=g∨p.ev.ownBlock=some i) A.D).trans j.1 fun _ _ h=>.inr h).trans c9 fun _ _ h=>.inl h;obtain⟨U,m0⟩:=nm' (W.setCell ⟨g,4,none⟩ (.slice z (p.es.length+1) c8));rw[m0]at K O F c9;have k4:U.cell? ⟨g,4,none⟩=some (.slice z (p.es.length+1) c8):=K.cell 4;have l9:=K.load (P:=prog) (k:=5) rfl;have g3:¬(4000:Int)<((p.es.length+1:Nat):Int):=by have:=l.H.len; omega
  have R:=k'3 K O F;have e0:=kp (by
   have:=yU (p.more (.slice z (p.es.length+1) c8) c.entry) U.heap.size U (show Sl _ _ _ _ _ from O.sl eL) (aD _) (by show (p.es++[c.entry]).length≤_; have:=l.H.len; simp; omega)
    (fun e y=>by
     rcases dF.1 y with y|y
     .exact l.H.kr e y
     .rw[bQ.1 y]; exact l.H.er) l.H.img
   rw[show dA (p.more (.slice z (p.es.length+1) c8) c.entry).x=true from l.H.ok2]at this;exact this)
  clear m j M K O F c9;go_wp2_with fail;refine mb' (e0.o) fun j1 N=>?_;have Q:=k'3 (R.a.grow N) (R.b.below N) (R.C.then N);clear N k4 l9 q qf;unfold eN;go_wp2_with fail;go_ret;exact⟨rfl,_,Q.a,Q.b,Q.C⟩
 case pers=>
  refine⟨pv',pv',pv',pv',pv',pv',pv',pv',?_,?_,pv',pv',pv',trivial⟩
  .rintro i u W W' _ ⟨b,rfl,r,s⟩ B;exact⟨b,rfl,⟨eA r.1 (nO B).size,r.2⟩,vK s (nO B) r.2 r.1⟩
  .rintro i u W W' y0 h1 B;exact h1.below (rL B y0)
theorem aDf(p:KpV)(c:RcV)(w:World)(B:Nat)(h:fL w B p)(T:B≤w.heap.size)(y:SvE p c):
  Calls prog 117 #[.agg p.cells.toArray,.agg c.cells.toArray] w fun e w'=>∃v,e=.returned (.tuple #[.agg (p.more v c.entry).cells.toArray,.i 0])∧Ow w' w.heap.size 93 11 v En.cells (p.es++[c.entry])∧Bw' w w':=by
 have V:p.es.length≤1000000:=by have:=y.len; omega
 obtain⟨W1,o0,Y,I,z1⟩:=par w 24 p.cells;obtain⟨W2,p0,x2,Q,z2⟩:=par W1 101 c.cells;obtain⟨N,g0,x3,R,z3⟩:=par W2 24 mY;unfold mY at g0;have r:=Q.on R;have S:=Sl.below h (I.on r) T;have J:B≤N.heap.size:=aB T (I.on r).size;have HR:=kp (by have:=yU p B N S J V y.kr y.img; rw[y.ok]at this; exact this);have l0:=(Y.grow r).load (P:=prog) (k:=5) rfl;have g:=k'8 (Y.grow r) (x2.grow R) x3 (I.on r) z1 z2 Q.size z3;have HS:=kp (fun(W:World)(b:Bw' N W)=>fam'4.2.2.2.2.1 p.ev p.es B W (Sl.below S b J) (aB J b.size) V);have j:=kp y;clear Y x2 x3 I Q R r z1 z2 z3 S h T J y V;go_enter func117,ntmps117;go_wp2_with fail;refine mb' (HR.o) fun E U=>?_;have k4:E.cell? ⟨w.heap.size,4,none⟩=some p.ev:=(g.a.grow U).cell 4;have l:=kp U;clear U l0;unfold eN;go_wp2_with fail;refine (HS.o E l.o).mono ?_;rintro e F ⟨v,rfl,A,m⟩;have A:Ow F E.heap.size 93 11 v En.cells p.es:=A;obtain⟨q,x,rfl,-⟩:=eD A;have G:=(g.a.grow l.o).grow m;have k5:F.cell? ⟨w.heap.size,4,none⟩=some p.ev:=G.cell 4;have f5:=G.frozen 4;have Z:Blk (F.setCell ⟨w.heap.size,4,none⟩ (.slice q p.es.length x)) w.heap.size 24 (p.own (.slice q p.es.length x)).cells:=G.setCell 4 _;have c6:=(Chg.refl (fun i=>i=w.heap.size) F).setCell (.inr rfl) 4 (.slice q p.es.length x);obtain⟨O,j0⟩:∃W,F.setCell ⟨w.heap.size,4,none⟩ (.slice q p.es.length x)=W:=⟨_,rfl⟩
 rw[j0]at Z c6;have l6:=Z.load (P:=prog) (k:=5) rfl;have o6:=A.chg_blk G c6 (by decide);obtain⟨W7,q0,x7,s,z7⟩:=par O 225 (p.own (.slice q p.es.length x)).cells;have X:=o6.below s;have xr:=(((g.b.grow l.o).grow m).chg c6 (by have:=g.o; omega)).grow s;have l7:=xr.load (P:=prog) (k:=17) rfl;have y7:=(((g.c.grow l.o).grow m).chg c6 (by have:=g.o; omega)).grow s;have K:=g.d.on (l.o.on m);have a0:=K.trans ((c6.below (B:=w.heap.size) (fun i z=>by omega) K.size).trans (s.mono (aB K.size c6.size)));have d0:W2.heap.size<O.heap.size:=eA g.H (aB (l.o.on m).size c6.size);have b0:w.heap.size≤E.heap.size:=aB g.d.size l.o.size;have f:=k'6 X y7 a0 d0 b0 (aB g.d.size (aB (l.o.on m).size c6.size));have e0:=kp (aDe (p.own (.slice q p.es.length x)) c W7 x7 X (aB m.size (aB c6.size s.size)) ⟨j.o.kind,j.o.n,j.o.base,j.o.top,j.o.len,j.o.img,j.o.kr,j.o.er,j.o.ok,j.o.ok2⟩);have m0:=kp x7;clear A G Z c6 o6 x7 s z7 X xr y7 K a0 d0 b0 m k4;go_wp2_with fail;refine (e0.o).mono ?_;rintro e w8 ⟨rfl,D,M,C,L⟩;have M:Blk w8 O.heap.size 225 (p.more D c.entry).cells:=M;have C:Ow w8 E.heap.size 93 11 D En.cells (p.es++[c.entry]):=C;have l8:=M.load (P:=prog) (k:=5) rfl;have y8:=f.b.chg L (fun z=>z.elim (fun e=>by have:=f.o; omega) fun e=>f.a.ne_blk f.b (by decide) e);obtain⟨W9,y0,s9,x9,c9⟩:=y8.put (p.more D c.entry).cells rfl (mW (p:=p.more D c.entry) C.one);have l9:=x9.load (P:=prog) (k:=5) rfl;have HF:=k'2 ((C.chg_blk y8 c9 (by decide)).mono f.e) (f.c.trans ((L.below (B:=w.heap.size) (fun i z=>z.elim (fun e=>by have:=f.o; omega) fun e=>by have:=(f.a.lt e).1; have:=f.o; omega) f.c.size).trans (c9.below (B:=w.heap.size) (fun i z=>by have:=g.o; omega) (aB f.c.size L.size))));clear M y8 C x9 c9 L;go_wp2_with fail;exact aU (v:=.tuple #[.agg (p.more D c.entry).cells.toArray,.i 0]) (by simp[results,results117,go_sem,l9]) rfl ⟨_,rfl,HF.a,HF.B⟩
end
end Go.Proofs.YthalbagblhkeaaaGreat
