import Derived.Test.YtdoopoapbffpbaaGreatZ42
import Derived.Test.YtdoopoapbffpbaaGreatZ50
namespace Go.Proofs.YtdoopoapbffpbaaGreat
open Go.RowKit Go.Proofs.Tryz
set_option maxRecDepth 100000
set_option maxHeartbeats 12800000
set_option linter.unusedVariables false
set_option linter.unusedSimpArgs false
section
structure RxS(x:Rp):Prop where
 k:KdR x.k∧x.k.es.length≤1000000∧x.k.image.size≤1000000
 s:x.st.h.obs.length≤1000∧x.st.h.free.length≤1000∧(∀o∈x.st.h.obs,o.ws.length≤5001∧o.ls.length≤5001)∧x.st.rows.length≤1000∧stR x.st∧inR x.st.h.next
 l:x.starts.length≤1000∧x.votes.length≤1000∧x.acks.length≤1000
 v:∀v∈x.votes,v.es.length≤1000000∧VoR v
 r:inR x.id∧inR x.nodes∧inR x.commit∧inR x.timer
theorem RpS.x{p:RpV}{ps:List ObV}(h:RpS p ps)(b:p.s.p.x.obs=ps.map (·.x)):RxS p.x:=by
 refine⟨h.k,⟨?_,h.s.1.free,fun o a=>?_,h.s.2.1,h.s.2.2.1,h.s.2.2.2⟩,⟨h.l.1,?_,h.l.2.2⟩,fun v e=>?_,h.r⟩
 .show p.s.p.x.obs.length≤1000;rw[b,cW]; exact h.s.1.obs
 .have a:o∈p.s.p.x.obs:=a;rw[b]at a;obtain⟨q,c,rfl⟩:=cX.1 a;exact h.s.1.rows q c
 .show (p.votes.map (·.x)).length≤1000;rw[cW]; exact h.l.2.1
 .obtain⟨u,d,rfl⟩:=cX.1 e;exact h.v u d
theorem RxS.p{p:RpV}{ps:List ObV}(h:RxS p.x)(d:p.s.p.x.obs=ps.map (·.x)):RpS p ps:=by
 have a:p.s.p.x.obs.length≤1000:=h.s.1;have b:∀q∈ps,q.x.ws.length≤5001∧q.x.ls.length≤5001:=fun q e=>h.s.2.2.1 q.x (by show q.x∈p.s.p.x.obs; rw[d]; exact Ez e);have c:(p.votes.map (·.x)).length≤1000:=h.l.2.1;rw[d,cW]at a;rw[cW]at c;exact⟨h.k,⟨⟨a,h.s.2.1,b⟩,h.s.2.2.2.1,h.s.2.2.2.2.1,h.s.2.2.2.2.2⟩,⟨h.l.1,c,h.l.2.2⟩,fun v g=>h.v v.x (Ez g),h.r,fun u f=>by have:=b u f; omega⟩
theorem Em:RxS oQ:=
 ⟨⟨fun _ h=>(nomatch h),cY _,cY _⟩,⟨cY _,cY _,fun _ h=>(nomatch h),cY _,⟨fun _ h=>(nomatch h),fun _ h=>(nomatch h)⟩,by decide,by decide⟩,⟨cY _,cY _,cY _⟩,fun _ h=>(nomatch h),⟨by decide,by decide⟩,⟨by decide,by decide⟩,⟨by decide,by decide⟩,by decide,by decide⟩
theorem RxS.timed{x:Rp}(h:RxS x){t:Int}(a:inR t):RxS {x with timer:=t}:=⟨h.k,h.s,h.l,h.v,h.r.1,h.r.2.1,h.r.2.2.1,a⟩
theorem RxS.tick{x:Rp}(h:RxS x):RxS (cU x).1:=by
 have d:inR (min (x.timer+1) 1000):=by have:=h.r.2.2.2; unfold inR at *; omega
 unfold cU
 by_cases b:dI x=true
 .rw[aE b]
  by_cases c:gM x=true
  .rw[aE c]
   by_cases a:3≤min (x.timer+1) 1000
   .rw[aE a]; exact h.timed ⟨by decide,by decide⟩
   .rw[aC a]; exact h.timed d
  .rw[aC c]
   by_cases a:10+2*x.id≤min (x.timer+1) 1000
   .rw[aE a];exact⟨h.k,h.s,⟨by show 1≤1000; decide,cY _,cY _⟩,fun _ h=>(nomatch h),h.r.1,h.r.2.1,h.r.2.2.1,by show (-9223372036854775808:Int)≤0; decide,by show (0:Int)≤9223372036854775807; decide⟩
   .rw[aC a]; exact h.timed d
 .rw[aC b]; exact Em
theorem aA7(n id:Int):(tM n id).length≤n.toNat:=by
 unfold tM;refine aB (nB _ _) ?_;rw[cW,List.length_range]; exact aD _
theorem aA8(x:Rp):(∀r∈(cU x).2.1,r.es=[])∧(∀m∈(cU x).2.2,m.es=[])∧(cU x).2.1.length≤1∧(cU x).2.2.length≤7:=by
 unfold cU
 by_cases b:dI x=true
 .have i:=(vZ b).nodes;have g:=aA7 x.nodes x.id;rw[aE b]
  by_cases e:gM x=true
  .rw[aE e]
   by_cases a:3≤min (x.timer+1) 1000
   .rw[aE a];refine⟨fun _ h=>(nomatch h),fun m c=>?_,cY _,by rw[cW]; omega⟩;obtain⟨d,-,rfl⟩:=cX.1 c;rfl
   .rw[aC a]; exact⟨fun _ h=>(nomatch h),fun _ h=>(nomatch h),cY _,cY _⟩
  .rw[aC e]
   by_cases a:10+2*x.id≤min (x.timer+1) 1000
   .rw[aE a];refine⟨fun r f=>by rw[bQ.1 f]; rfl,fun m c=>?_,aD _,by rw[cW]; omega⟩;obtain⟨d,-,rfl⟩:=cX.1 c;rfl
   .rw[aC a]; exact⟨fun _ h=>(nomatch h),fun _ h=>(nomatch h),cY _,cY _⟩
 .rw[aC b]; exact⟨fun _ h=>(nomatch h),fun _ h=>(nomatch h),cY _,cY _⟩
theorem Od{id nodes:Int}{k:Kd}(d:KdR k∧k.es.length≤1000000∧k.image.size≤1000000)(a:inR id∧inR nodes∧inR k.base):RxS ((kC id nodes k).getD oQ):=by
 unfold kC
 cases hg:dM (jK k.image) with
 |none=>exact Em
 |some s=>
  simp only
  split
  .obtain⟨b,c⟩:=tW hg;have H:=eC.1 (kA.1 b).1;have g:=rZ (kA.1 b).2 (by omega);have f:=H.next;exact⟨d,⟨by have:=H.len; show s.h.obs.length≤1000; omega,by have:=H.len; show s.h.free.length≤1000; omega,fun o e=>by have:=H.lens e; omega,by show s.rows.length≤1000; omega,c,by show -9223372036854775808≤s.h.next; omega,by show s.h.next≤9223372036854775807; omega⟩,
    ⟨cY _,cY _,cY _⟩,fun _ h=>(nomatch h),a.1,a.2.1,a.2.2,by show (-9223372036854775808:Int)≤0; decide,by show (0:Int)≤9223372036854775807; decide⟩
  .exact Em
end
end Go.Proofs.YtdoopoapbffpbaaGreat
